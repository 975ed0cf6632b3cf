/- HeapLowers: the law's walk. -/
import Derived.Test.YtchnphachgcjmaaLa
import Derived.Test.YtchnphachgcjmaaHpl3
set_option maxRecDepth 100000
set_option linter.unusedVariables false
set_option linter.unusedSimpArgs false
namespace Go.Proofs.Ytchnphachgcjmaa
open Go Go.Proofs Sp
set_option maxHeartbeats 20000000 in
theorem lowers_law {R : List HP} {bkb : Option Addr} {ckb : Nat} (keys : List Int) (hkb : Rd R bkb (ints .i64 keys)) (okkb : SlOk bkb keys.length) (lkb : keys.length ≤ 9223372036854775807) (wfkb : ∀ x ∈ keys, (Lit.int .i64 x).wf = true) {bib : Option Addr} {cib : Nat} (ids : List Int) (hib : Rd R bib (ints .u8 ids)) (okib : SlOk bib ids.length) (lib : ids.length ≤ 9223372036854775807) (wfib : ∀ x ∈ ids, (Lit.int .u8 x).wf = true) {bbb : Option Addr} {cbb : Nat} (bys : List Int) (hbb : Rd R bbb (ints .u8 bys)) (okbb : SlOk bbb bys.length) (lbb : bys.length ≤ 9223372036854775807) (wfbb : ∀ x ∈ bys, (Lit.int .u8 x).wf = true) :
    Ok Try.prog 4 [(.slice bkb keys.length ckb), (.slice bib ids.length cib), (.slice bbb bys.length cbb)] R
      (fun v M => v = .bool true ∧ M = R) := by
  obtain ⟨n, hn⟩ : ∃ n, n = min keys.length 60 := ⟨_, rfl⟩
  have hcm : hclamp ((n : Nat) : Int) = n := by unfold hclamp; omega
  have hkn : ∀ x : Nat, x < n → -9223372036854775808 ≤ keys.getD x 0 ∧ keys.getD x 0 ≤ 9223372036854775807 := fun x hx => by have h9 := wfkb (keys.getD x 0) (by simp [List.getD, show x < keys.length by omega]); simpa [Lit.wf, IntKind.min, IntKind.max, IntKind.signed, IntKind.bits] using h9
  refine ok_of (N := 166) Try.func4 rfl rfl rfl (fun W => ?_)
  refine c_seq (fun K1 hK1 => ?_)
  refine c_region ?_
  refine tp rfl (lv_assign rfl) ?_
  refine t_done ?_
  refine q_then_n (hK1 _ _ ?_)
  refine c_seq (fun K2 hK2 => ?_)
  refine c_region ?_
  refine tc rfl (en_fn Try.call11 rfl) (shown_ok) ?_
  rintro _ _ ⟨rfl, hMR⟩
  rw [hMR]; clear hMR
  refine tp rfl (lv_assign rfl) ?_
  refine t_done ?_
  refine q_then_n (hK2 _ _ ?_)
  refine c_seq (fun K3 hK3 => ?_)
  refine c_region ?_
  refine tp rfl (lv_move rfl) ?_
  refine tp rfl (lv_len Try.underlying22 rfl rfl) ?_
  refine tp rfl (lv_min (c := ((n : Nat) : Int)) rfl rfl (by omega)) ?_
  refine tp rfl (lv_assign rfl) ?_
  refine t_done ?_
  refine q_then_n (hK3 _ _ ?_)
  refine c_seq (fun K4 hK4 => ?_)
  refine c_region ?_
  refine tp rfl (lv_move rfl) ?_
  refine tc rfl (en_fn Try.call12 rfl) (hnew_ok ((n : Nat) : Int)) ?_
  rintro _ _ ⟨p1, rfl, rfl⟩
  rw [show hclamp ((n : Nat) : Int) = n from hcm]
  refine tp rfl (lv_assign rfl) ?_
  refine t_done ?_
  refine q_then_n (hK4 _ _ ?_)
  refine c_seq (fun K5 hK5 => ?_)
  refine c_region ?_
  refine tp rfl (lv_move rfl) ?_
  refine tc rfl (en_fn Try.call12 rfl) (hnew_ok ((n : Nat) : Int)) ?_
  rintro _ _ ⟨p2, rfl, rfl⟩
  rw [show hclamp ((n : Nat) : Int) = n from hcm]
  refine tp rfl (lv_assign rfl) ?_
  refine t_done ?_
  refine q_then_n (hK5 _ _ ?_)
  refine c_seq (fun K6 hK6 => ?_)
  refine c_seq (fun K7 hK7 => ?_)
  refine c_region ?_
  refine tp rfl (lv_move rfl) ?_
  refine tp rfl (lv_eqnil Try.underlying25 rfl rfl) ?_
  refine tp rfl (lv_move rfl) ?_
  refine t_guard rfl rfl ?_
  refine tp rfl (lv_move rfl) ?_
  refine t_guard rfl rfl ?_
  refine tp rfl (lv_eqnil Try.underlying25 rfl rfl) ?_
  refine tp rfl (lv_pick_f rfl rfl) ?_
  refine t_done ?_
  refine q_then_n (hK7 _ _ ?_)
  refine c_false rfl ?_
  refine c_skip ?_
  refine q_then_n (hK6 _ _ ?_)
  refine c_seq (fun K8 hK8 => ?_)
  refine c_region ?_
  refine tp rfl (lv_move rfl) ?_
  refine tm rfl (mv_makeSlice (i := Try.t3) Try.underlying22 Try.type3 rfl rfl rfl rfl rfl (by omega) (by rw [show Try.t3.bytes = 8 from rfl]; omega) (by omega)) ?_
  rintro _ _ ⟨bs3, cp4, hok5, hle6, rfl, rfl⟩
  rw [ints_rep]
  refine tp rfl (lv_assign rfl) ?_
  refine t_done ?_
  refine q_then_n (hK8 _ _ ?_)
  refine c_seq (fun K9 hK9 => ?_)
  refine c_seq (fun K10 hK10 => ?_)
  refine c_region ?_
  rw [show List.replicate (n) none = prtK (List.replicate n 0) n 0 from (prtK_zero ..).symm]
  refine tp rfl (lv_assign rfl) ?_
  refine t_done ?_
  refine q_then_n (hK10 _ _ ?_)
  refine c_block ?_
  refine c_loop (γ := (Nat) × (List Int)) (fun (i, own) => i ≤ n ∧ BdL n own 4611686018427387904) (fun (i, own) => [(0, (.slice bkb keys.length ckb)), (1, (.slice bib ids.length cib)), (2, (.slice bbb bys.length cbb)), (7, (.bool true)), (8, (.int .i64 ((n : Nat) : Int))), (9, (.pointer (some ⟨p1, 0, none⟩))), (10, (.pointer (some ⟨p2, 0, none⟩))), (11, (.slice bs3 n cp4)), (12, (.int .i64 ((i : Nat) : Int))), (36, (.bool false))]) (fun (i, own) => (SlV 3 1 (.slice bs3 n cp4) n (ints .i64 own)) :: (HeapO p2 n (prtK (List.replicate n 0) n 0)) :: (HeapO p1 n (prtK own n i)) :: R) (fun (i, own) => n - i) (0, List.replicate n 0) ⟨by omega, BdL.zero n⟩ ⟨rfl, rfl, rfl, rfl, rfl, rfl, rfl, rfl, rfl, rfl, trivial⟩ (fun _ h => h) ?_
  rintro ⟨i, own⟩ K11 hF hK11
  try dsimp only at hF hK11 ⊢
  obtain ⟨hi, hbd⟩ := hF
  have hol := hbd.1
  refine c_seq (fun K12 hK12 => ?_)
  refine c_seq (fun K13 hK13 => ?_)
  refine c_region ?_
  refine tp rfl (lv_move rfl) ?_
  refine tp rfl (lv_move rfl) ?_
  by_cases h7 : ((i : Nat) : Int) < ((n : Nat) : Int)
  · -- yes
    refine tp rfl (lv_lss rfl rfl (decide_eq_true h7)) ?_
    refine t_done ?_
    refine q_then_n (hK13 _ _ ?_)
    refine c_true rfl ?_
    refine c_skip ?_
    refine q_then_n (hK12 _ _ ?_)
    refine c_seq (fun K14 hK14 => ?_)
    refine c_block ?_
    refine c_seq (fun K15 hK15 => ?_)
    refine c_region ?_
    have hk9 := hkn i (by omega)
    have hbd2 := hbd.set (i := i) (v := keys.getD i 0 / 2) (by omega) (Int.le_refl _) (by omega) (by omega)
    refine tp rfl (lv_move rfl) ?_
    refine tp rfl (lv_move rfl) ?_
    refine tp rfl (lv_move rfl) ?_
    refine tp rfl (lv_move rfl) ?_
    refine tp rfl (lv_indexAddr (k' := i) Try.underlying22 Try.sizeOf3 rfl rfl okkb (by omega) (by omega) (by omega)) ?_
    refine tp rfl (lv_load Try.isAgg3 rfl (Rd.gives (Rd.cons (Rd.cons (Rd.cons hkb))) (ints_get (by omega)))) ?_
    refine tp rfl (lv_shr (c := (keys.getD i 0 / 2)) rfl rfl (by omega) (shr_one _)) ?_
    refine tp rfl (lv_indexAddr (k' := i) Try.underlying22 Try.sizeOf3 rfl rfl hok5 (by omega) (by omega) (by omega)) ?_
    refine ts (sv_sl Try.sizeOf3 rfl rfl rfl (by rw [ints_length]; omega) ints_set) ?_
    refine t_done ?_
    refine q_then_n (hK15 _ _ ?_)
    refine c_seq (fun K16 hK16 => ?_)
    refine c_region ?_
    rw [← prtK_set (own := own) (n := n) (i := i) (v := keys.getD i 0 / 2)]
    have hpp := prtK_push (keys := own.set i (keys.getD i 0 / 2)) (n := n) (i := i) (by rw [List.length_set]; omega) (by omega)
    refine tp rfl (lv_move rfl) ?_
    refine tp rfl (lv_move rfl) ?_
    refine tp rfl (lv_move rfl) ?_
    refine tp rfl (lv_move rfl) ?_
    refine tp rfl (lv_indexAddr (k' := i) Try.underlying22 Try.sizeOf3 rfl rfl hok5 (by omega) (by omega) (by omega)) ?_
    refine tp rfl (lv_load Try.isAgg3 rfl (gives_sl (.head _) (ints_get (by rw [List.length_set]; omega)))) ?_
    refine t_f2 ?_
    refine tc rfl (en_fn Try.call13 rfl) (hpush_ok (n := n) (ks := prtK (own.set i (keys.getD i 0 / 2)) n i) ((i : Nat) : Int) ((own.set i (keys.getD i 0 / 2)).getD i 0)) ?_
    rintro _ _ ⟨rfl, rfl⟩
    rw [show pushE (prtK (own.set i (keys.getD i 0 / 2)) n i) ((i : Nat) : Int) = 0 from hpp.1]
    rw [show pushK (prtK (own.set i (keys.getD i 0 / 2)) n i) ((i : Nat) : Int) ((own.set i (keys.getD i 0 / 2)).getD i 0) = prtK (own.set i (keys.getD i 0 / 2)) n (i + 1) from hpp.2]
    refine tp rfl (lv_neq (r := false) rfl rfl (by decide)) ?_
    refine t_done ?_
    refine q_then_n (hK16 _ _ ?_)
    refine c_false rfl ?_
    refine c_skip ?_
    refine q_in_n ?_
    refine q_then_n (hK14 _ _ ?_)
    refine c_region ?_
    refine tp rfl (lv_move rfl) ?_
    refine tp rfl (lv_add (c := ((i + 1 : Nat) : Int)) rfl rfl (wr_i64_succ (by omega))) ?_
    refine tp rfl (lv_assign rfl) ?_
    refine t_done ?_
    refine q_then_n ?_
    refine t_f2 ?_
    refine t_f2 ?_
    exact t_weak (by exact ⟨rfl, rfl, rfl, rfl, rfl, rfl, rfl, rfl, rfl, rfl, trivial⟩) ((hK11 (i + 1, own.set i (keys.getD i 0 / 2)) ⟨by omega, hbd2⟩ (by dsimp only; omega)))
  · -- no
    refine tp rfl (lv_lss rfl rfl (decide_eq_false h7)) ?_
    refine t_done ?_
    refine q_then_n (hK13 _ _ ?_)
    refine c_false rfl ?_
    refine c_exit ?_
    refine q_then_x ?_
    refine q_then_x ?_
    refine q_in_x ?_
    refine q_then_n (hK9 _ _ ?_)
    refine c_seq (fun K14 hK14 => ?_)
    refine c_seq (fun K15 hK15 => ?_)
    refine c_region ?_
    rw [show prtK own n i = prtK own n n from by rw [show i = n by omega]]
    refine tp rfl (lv_assign rfl) ?_
    refine t_done ?_
    refine q_then_n (hK15 _ _ ?_)
    refine c_block ?_
    refine c_loop (γ := (Nat) × (List Int)) (fun (t, own) => t ≤ 100 ∧ BdL n own (4611686018427387904 + 255 * (t : Int))) (fun (t, own) => [(0, (.slice bkb keys.length ckb)), (1, (.slice bib ids.length cib)), (2, (.slice bbb bys.length cbb)), (7, (.bool true)), (8, (.int .i64 ((n : Nat) : Int))), (9, (.pointer (some ⟨p1, 0, none⟩))), (10, (.pointer (some ⟨p2, 0, none⟩))), (11, (.slice bs3 n cp4)), (12, (.int .i64 ((i : Nat) : Int))), (13, (.int .i64 ((t : Nat) : Int))), (36, (.bool false)), (41, (.bool false))]) (fun (t, own) => (SlV 3 1 (.slice bs3 n cp4) n (ints .i64 own)) :: (HeapO p2 n (prtK (List.replicate n 0) n 0)) :: (HeapO p1 n (prtK own n n)) :: R) (fun (t, own) => 100 - t) (0, own) ⟨by omega, by rw [show (4611686018427387904 : Int) + 255 * ((0 : Nat) : Int) = 4611686018427387904 by omega]; exact hbd⟩ ⟨rfl, rfl, rfl, rfl, rfl, rfl, rfl, rfl, rfl, rfl, rfl, rfl, trivial⟩ (fun _ h => h) ?_
    rintro ⟨t, own⟩ K16 hF hK16
    try dsimp only at hF hK16 ⊢
    obtain ⟨ht, hbd⟩ := hF
    have hol := hbd.1
    refine c_seq (fun K17 hK17 => ?_)
    refine c_seq (fun K18 hK18 => ?_)
    refine c_region ?_
    refine tp rfl (lv_move rfl) ?_
    by_cases h8 : ((n : Nat) : Int) > 0
    · -- yes
      refine tp rfl (lv_gtr rfl rfl (decide_eq_true h8)) ?_
      refine tp rfl (lv_move rfl) ?_
      refine t_guard rfl rfl ?_
      refine tp rfl (lv_move rfl) ?_
      refine t_guard rfl rfl ?_
      refine tp rfl (lv_move rfl) ?_
      refine t_guard rfl rfl ?_
      refine tp rfl (lv_len Try.underlying35 rfl rfl) ?_
      refine t_guard rfl rfl ?_
      by_cases h9 : ((t : Nat) : Int) < ((ids.length : Nat) : Int)
      · -- yes
        refine tp rfl (lv_lss rfl rfl (decide_eq_true h9)) ?_
        refine tp rfl (lv_pick_t rfl rfl) ?_
        refine tp rfl (lv_move rfl) ?_
        refine t_guard rfl rfl ?_
        refine tp rfl (lv_move rfl) ?_
        refine t_guard rfl rfl ?_
        refine tp rfl (lv_move rfl) ?_
        refine t_guard rfl rfl ?_
        refine tp rfl (lv_len Try.underlying35 rfl rfl) ?_
        refine t_guard rfl rfl ?_
        by_cases h10 : ((t : Nat) : Int) < ((bys.length : Nat) : Int)
        · -- yes
         refine tp rfl (lv_lss rfl rfl (decide_eq_true h10)) ?_
         refine tp rfl (lv_pick_t rfl rfl) ?_
         refine tp rfl (lv_move rfl) ?_
         refine t_guard rfl rfl ?_
         refine tp rfl (lv_move rfl) ?_
         refine t_guard rfl rfl ?_
         by_cases h11 : ((t : Nat) : Int) < 100
         · -- yes
          refine tp rfl (lv_lss rfl rfl (decide_eq_true h11)) ?_
          refine tp rfl (lv_pick_t rfl rfl) ?_
          refine t_done ?_
          refine q_then_n (hK18 _ _ ?_)
          refine c_true rfl ?_
          refine c_skip ?_
          refine q_then_n (hK17 _ _ ?_)
          refine c_seq (fun K19 hK19 => ?_)
          refine c_block ?_
          refine c_seq (fun K20 hK20 => ?_)
          refine c_region ?_
          have hwib : 0 ≤ ids.getD t 0 ∧ ids.getD t 0 ≤ 255 := by have h9 := wfib (ids.getD t 0) (by simp [List.getD, show t < ids.length by omega]); simpa [Lit.wf, IntKind.min, IntKind.max, IntKind.signed, IntKind.bits] using h9
          have hwbb : 0 ≤ bys.getD t 0 ∧ bys.getD t 0 ≤ 255 := by have h9 := wfbb (bys.getD t 0) (by simp [List.getD, show t < bys.length by omega]); simpa [Lit.wf, IntKind.min, IntKind.max, IntKind.signed, IntKind.bits] using h9
          have hq0 := Int.emod_nonneg (ids.getD t 0) (show ((n : Nat) : Int) ≠ 0 by omega)
          have hq1 := Int.emod_lt_of_pos (ids.getD t 0) (show 0 < ((n : Nat) : Int) by omega)
          obtain ⟨r0, hr0⟩ : ∃ k : Nat, ids.getD t 0 % ((n : Nat) : Int) = (k : Int) := ⟨(ids.getD t 0 % ((n : Nat) : Int)).toNat, by omega⟩
          have hrn : r0 < n := by omega
          have hb9 := hbd.2 r0 hrn
          have hbd2 := hbd.set (i := r0) (lo' := 4611686018427387904 + 255 * ((t + 1 : Nat) : Int)) (v := own.getD r0 0 - bys.getD t 0) hrn (by omega) (by omega) (by omega)
          have hgo : (own.set r0 (own.getD r0 0 - bys.getD t 0)).getD r0 0 = own.getD r0 0 - bys.getD t 0 := by rw [getD_set (by omega), if_pos rfl]
          refine tp rfl (lv_move rfl) ?_
          refine tp rfl (lv_move rfl) ?_
          refine tp rfl (lv_indexAddr (k' := t) Try.underlying35 Try.sizeOf5 rfl rfl okib (by omega) (by omega) (by omega)) ?_
          refine tp rfl (lv_load Try.isAgg5 rfl (Rd.gives (Rd.cons (Rd.cons (Rd.cons hib))) (ints_get (by omega)))) ?_
          refine tp rfl (lv_convert (c := (ids).getD t 0) Try.underlying5 Try.underlying3 rfl (wr_i64 (by omega) (by omega))) ?_
          refine tp rfl (lv_move rfl) ?_
          refine tp rfl (lv_rem (c := ((r0 : Nat) : Int)) rfl rfl (by omega) ((Int.tmod_eq_emod_of_nonneg (by omega)).trans hr0)) ?_
          refine tp rfl (lv_assign rfl) ?_
          refine t_done ?_
          refine q_then_n (hK20 _ _ ?_)
          refine c_seq (fun K21 hK21 => ?_)
          refine c_draw (γ := Unit) (n := 14) Try.mixed rfl rfl (fun _ S => True) (fun _ => [(0, 87, (.slice bs3 n cp4)), (1, 88, (.int .i64 ((r0 : Nat) : Int))), (2, 89, (.slice bs3 n cp4)), (3, 90, (.int .i64 ((r0 : Nat) : Int))), (4, 91, (.pointer (some (ad bs3 r0)))), (5, 92, (.int .i64 ((own).getD r0 0))), (6, 93, (.slice bbb bys.length cbb)), (7, 94, (.int .i64 ((t : Nat) : Int))), (8, 95, (.pointer (some (ad bbb t)))), (9, 96, (.int .u8 ((bys).getD t 0))), (10, 97, (.int .i64 ((bys).getD t 0))), (11, 98, (.int .i64 (((own).getD r0 0) - ((bys).getD t 0)))), (12, 99, (.pointer (some (ad bs3 r0))))]) (fun _ S => (bif S 13 then (SlV 3 1 (.slice bs3 n cp4) n (ints .i64 ((own).set r0 (((own).getD r0 0) - ((bys).getD t 0))))) else (SlV 3 1 (.slice bs3 n cp4) n (ints .i64 own))) :: (HeapO p2 n (prtK (List.replicate n 0) n 0)) :: (HeapO p1 n (prtK own n n)) :: R) (()) trivial (fun _ h => h) (fun _ _ h => h) ?_ ?_
          · -- steps
           refine ⟨?_, ?_, ?_, ?_, ?_, ?_, ?_, ?_, ?_, ?_, ?_, ?_, ?_, ?_, trivial⟩
           · -- 0
            rintro _ S hF hS D hp K hK
            try dsimp only at hF ⊢
            refine d_need (small := [(11, (.slice bs3 n cp4))]) ⟨look_b rfl rfl, trivial⟩ ?_
            refine tp rfl (lv_move rfl) ?_
            exact d_closes ⟨look_b rfl rfl, trivial⟩ 0 rfl rfl rfl hS (AgreeR.refl _) (t_sat (fun _ h => h) (hK () trivial))
           · -- 1
            rintro _ S hF hS D hp K hK
            try dsimp only at hF ⊢
            refine d_need (small := [(14, (.int .i64 ((r0 : Nat) : Int)))]) ⟨look_b rfl rfl, trivial⟩ ?_
            refine tp rfl (lv_move rfl) ?_
            exact d_closes ⟨look_b rfl rfl, trivial⟩ 1 rfl rfl rfl hS (AgreeR.refl _) (t_sat (fun _ h => h) (hK () trivial))
           · -- 2
            rintro _ S hF hS D hp K hK
            try dsimp only at hF ⊢
            refine d_need (small := [(11, (.slice bs3 n cp4))]) ⟨look_b rfl rfl, trivial⟩ ?_
            refine tp rfl (lv_move rfl) ?_
            exact d_closes ⟨look_b rfl rfl, trivial⟩ 2 rfl rfl rfl hS (AgreeR.refl _) (t_sat (fun _ h => h) (hK () trivial))
           · -- 3
            rintro _ S hF hS D hp K hK
            try dsimp only at hF ⊢
            refine d_need (small := [(14, (.int .i64 ((r0 : Nat) : Int)))]) ⟨look_b rfl rfl, trivial⟩ ?_
            refine tp rfl (lv_move rfl) ?_
            exact d_closes ⟨look_b rfl rfl, trivial⟩ 3 rfl rfl rfl hS (AgreeR.refl _) (t_sat (fun _ h => h) (hK () trivial))
           · -- 4
            rintro _ S hF hS D hp K hK
            try dsimp only at hF ⊢
            have s2 := hp 2 rfl
            have s3 := hp 3 rfl
            refine d_need (small := [(89, (.slice bs3 n cp4)), (90, (.int .i64 ((r0 : Nat) : Int)))]) ⟨look_row rfl 2 rfl s2, look_row rfl 3 rfl s3, trivial⟩ ?_
            refine tp rfl (lv_indexAddr (k' := r0) Try.underlying22 Try.sizeOf3 rfl rfl hok5 (by omega) (by omega) (by omega)) ?_
            exact d_closes ⟨look_row rfl 2 rfl s2, look_row rfl 3 rfl s3, trivial⟩ 4 rfl rfl rfl hS (AgreeR.refl _) (t_sat (fun _ h => h) (hK () trivial))
           · -- 5
            rintro _ S hF hS D hp K hK
            try dsimp only at hF ⊢
            have s4 := hp 4 rfl
            refine d_need (small := [(91, (.pointer (some (ad bs3 r0))))]) ⟨look_row rfl 4 rfl s4, trivial⟩ ?_
            refine tp rfl (lv_load Try.isAgg3 rfl (gives_sl (mem_cF (nf hS D (k := 13) (i := 5) rfl) (.head _)) (ints_get (by omega)))) ?_
            exact d_closes ⟨look_row rfl 4 rfl s4, trivial⟩ 5 rfl rfl rfl hS (AgreeR.refl _) (t_sat (fun _ h => h) (hK () trivial))
           · -- 6
            rintro _ S hF hS D hp K hK
            try dsimp only at hF ⊢
            refine d_need (small := [(2, (.slice bbb bys.length cbb))]) ⟨look_b rfl rfl, trivial⟩ ?_
            refine tp rfl (lv_move rfl) ?_
            exact d_closes ⟨look_b rfl rfl, trivial⟩ 6 rfl rfl rfl hS (AgreeR.refl _) (t_sat (fun _ h => h) (hK () trivial))
           · -- 7
            rintro _ S hF hS D hp K hK
            try dsimp only at hF ⊢
            refine d_need (small := [(13, (.int .i64 ((t : Nat) : Int)))]) ⟨look_b rfl rfl, trivial⟩ ?_
            refine tp rfl (lv_move rfl) ?_
            exact d_closes ⟨look_b rfl rfl, trivial⟩ 7 rfl rfl rfl hS (AgreeR.refl _) (t_sat (fun _ h => h) (hK () trivial))
           · -- 8
            rintro _ S hF hS D hp K hK
            try dsimp only at hF ⊢
            have s6 := hp 6 rfl
            have s7 := hp 7 rfl
            refine d_need (small := [(93, (.slice bbb bys.length cbb)), (94, (.int .i64 ((t : Nat) : Int)))]) ⟨look_row rfl 6 rfl s6, look_row rfl 7 rfl s7, trivial⟩ ?_
            refine tp rfl (lv_indexAddr (k' := t) Try.underlying35 Try.sizeOf5 rfl rfl okbb (by omega) (by omega) (by omega)) ?_
            exact d_closes ⟨look_row rfl 6 rfl s6, look_row rfl 7 rfl s7, trivial⟩ 8 rfl rfl rfl hS (AgreeR.refl _) (t_sat (fun _ h => h) (hK () trivial))
           · -- 9
            rintro _ S hF hS D hp K hK
            try dsimp only at hF ⊢
            have s8 := hp 8 rfl
            refine d_need (small := [(95, (.pointer (some (ad bbb t))))]) ⟨look_row rfl 8 rfl s8, trivial⟩ ?_
            refine tp rfl (lv_load Try.isAgg5 rfl (Rd.gives (Rd.cons (Rd.cons (Rd.cons hbb))) (ints_get (by omega)))) ?_
            exact d_closes ⟨look_row rfl 8 rfl s8, trivial⟩ 9 rfl rfl rfl hS (AgreeR.refl _) (t_sat (fun _ h => h) (hK () trivial))
           · -- 10
            rintro _ S hF hS D hp K hK
            try dsimp only at hF ⊢
            have s9 := hp 9 rfl
            refine d_need (small := [(96, (.int .u8 ((bys).getD t 0)))]) ⟨look_row rfl 9 rfl s9, trivial⟩ ?_
            refine tp rfl (lv_convert (c := (bys).getD t 0) Try.underlying5 Try.underlying3 rfl (wr_i64 (by omega) (by omega))) ?_
            exact d_closes ⟨look_row rfl 9 rfl s9, trivial⟩ 10 rfl rfl rfl hS (AgreeR.refl _) (t_sat (fun _ h => h) (hK () trivial))
           · -- 11
            rintro _ S hF hS D hp K hK
            try dsimp only at hF ⊢
            have s5 := hp 5 rfl
            have s10 := hp 10 rfl
            refine d_need (small := [(92, (.int .i64 ((own).getD r0 0))), (97, (.int .i64 ((bys).getD t 0)))]) ⟨look_row rfl 5 rfl s5, look_row rfl 10 rfl s10, trivial⟩ ?_
            refine tp rfl (lv_sub (c := ((own).getD r0 0) - ((bys).getD t 0)) rfl rfl (wr_i64 (by omega) (by omega))) ?_
            exact d_closes ⟨look_row rfl 5 rfl s5, look_row rfl 10 rfl s10, trivial⟩ 11 rfl rfl rfl hS (AgreeR.refl _) (t_sat (fun _ h => h) (hK () trivial))
           · -- 12
            rintro _ S hF hS D hp K hK
            try dsimp only at hF ⊢
            have s0 := hp 0 rfl
            have s1 := hp 1 rfl
            refine d_need (small := [(87, (.slice bs3 n cp4)), (88, (.int .i64 ((r0 : Nat) : Int)))]) ⟨look_row rfl 0 rfl s0, look_row rfl 1 rfl s1, trivial⟩ ?_
            refine tp rfl (lv_indexAddr (k' := r0) Try.underlying22 Try.sizeOf3 rfl rfl hok5 (by omega) (by omega) (by omega)) ?_
            exact d_closes ⟨look_row rfl 0 rfl s0, look_row rfl 1 rfl s1, trivial⟩ 12 rfl rfl rfl hS (AgreeR.refl _) (t_sat (fun _ h => h) (hK () trivial))
           · -- 13
            rintro _ S hF hS D hp K hK
            try dsimp only at hF ⊢
            have s11 := hp 11 rfl
            have s12 := hp 12 rfl
            refine d_need (small := [(98, (.int .i64 (((own).getD r0 0) - ((bys).getD t 0)))), (99, (.pointer (some (ad bs3 r0))))]) ⟨look_row rfl 11 rfl s11, look_row rfl 12 rfl s12, trivial⟩ ?_
            refine t_cF hS ?_
            refine ts (sv_sl Try.sizeOf3 rfl rfl rfl (by rw [ints_length]; omega) ints_set) ?_
            exact d_closes0 ⟨look_row rfl 11 rfl s11, look_row rfl 12 rfl s12, trivial⟩ rfl (t_sat (fun _ h => h) (hK () trivial))
          · -- behind
           rintro _ hF
           try dsimp only at hF ⊢
           refine t_weak (E' := [(0, (.slice bkb keys.length ckb)), (1, (.slice bib ids.length cib)), (2, (.slice bbb bys.length cbb)), (7, (.bool true)), (8, (.int .i64 ((n : Nat) : Int))), (9, (.pointer (some ⟨p1, 0, none⟩))), (10, (.pointer (some ⟨p2, 0, none⟩))), (11, (.slice bs3 n cp4)), (12, (.int .i64 ((i : Nat) : Int))), (13, (.int .i64 ((t : Nat) : Int))), (14, (.int .i64 ((r0 : Nat) : Int))), (36, (.bool false)), (41, (.bool false)), (77, (.bool true))]) ⟨rfl, rfl, rfl, rfl, rfl, rfl, rfl, rfl, rfl, rfl, rfl, rfl, rfl, rfl, trivial⟩ ?_
           refine q_then_n (hK21 _ _ ?_)
           refine c_seq (fun K22 hK22 => ?_)
           refine c_region ?_
           have hlk := low_ok (keys := own) (n := n) (i := r0) hol hrn (k := (own.set r0 (own.getD r0 0 - bys.getD t 0)).getD r0 0) (by rw [hgo]; omega)
           have hln := low_no (keys := own.set r0 (own.getD r0 0 - bys.getD t 0)) (n := n) (i := r0) (by rw [List.length_set]; exact hol) hrn (k := (own.set r0 (own.getD r0 0 - bys.getD t 0)).getD r0 0 + 1) (by omega)
           have hlk2 : prtK (own.set r0 ((own.set r0 (own.getD r0 0 - bys.getD t 0)).getD r0 0)) n n = prtK (own.set r0 (own.getD r0 0 - bys.getD t 0)) n n := by rw [hgo]
           refine tp rfl (lv_move rfl) ?_
           refine tp rfl (lv_move rfl) ?_
           refine tp rfl (lv_move rfl) ?_
           refine tp rfl (lv_move rfl) ?_
           refine tp rfl (lv_indexAddr (k' := r0) Try.underlying22 Try.sizeOf3 rfl rfl hok5 (by omega) (by omega) (by omega)) ?_
           refine tp rfl (lv_load Try.isAgg3 rfl (gives_sl (.head _) (ints_get (by rw [List.length_set]; omega)))) ?_
           refine t_f2 ?_
           refine tc rfl (en_fn Try.call16 rfl) (hlow_ok (n := n) (ks := prtK own n n) ((r0 : Nat) : Int) ((own.set r0 (own.getD r0 0 - bys.getD t 0)).getD r0 0)) ?_
           rintro _ _ ⟨rfl, rfl⟩
           rw [show lowE (prtK own n n) ((r0 : Nat) : Int) ((own.set r0 (own.getD r0 0 - bys.getD t 0)).getD r0 0) = 0 from hlk.1]
           rw [show lowK (prtK own n n) ((r0 : Nat) : Int) ((own.set r0 (own.getD r0 0 - bys.getD t 0)).getD r0 0) = prtK (own.set r0 (own.getD r0 0 - bys.getD t 0)) n n from (hlk.2.trans hlk2)]
           refine tp rfl (lv_neq (r := false) rfl rfl (by decide)) ?_
           refine tp rfl (lv_move rfl) ?_
           refine t_guard rfl rfl ?_
           refine tp rfl (lv_move rfl) ?_
           refine t_guard rfl rfl ?_
           refine tp rfl (lv_move rfl) ?_
           refine t_guard rfl rfl ?_
           refine tp rfl (lv_move rfl) ?_
           refine t_guard rfl rfl ?_
           refine tp rfl (lv_move rfl) ?_
           refine t_guard rfl rfl ?_
           refine tp rfl (lv_indexAddr (k' := r0) Try.underlying22 Try.sizeOf3 rfl rfl hok5 (by omega) (by omega) (by omega)) ?_
           refine t_guard rfl rfl ?_
           refine tp rfl (lv_load Try.isAgg3 rfl (gives_sl (.tail _ (.head _)) (ints_get (by rw [List.length_set]; omega)))) ?_
           refine t_guard rfl rfl ?_
           refine tp rfl (lv_add (c := ((own.set r0 (own.getD r0 0 - bys.getD t 0)).getD r0 0) + 1) rfl rfl (wr_i64 (by omega) (by omega))) ?_
           refine t_guard rfl rfl ?_
           refine tc rfl (en_fn Try.call16 rfl) (hlow_ok (n := n) (ks := prtK (own.set r0 (own.getD r0 0 - bys.getD t 0)) n n) ((r0 : Nat) : Int) (((own.set r0 (own.getD r0 0 - bys.getD t 0)).getD r0 0) + 1)) ?_
           rintro _ _ ⟨rfl, rfl⟩
           rw [show lowE (prtK (own.set r0 (own.getD r0 0 - bys.getD t 0)) n n) ((r0 : Nat) : Int) (((own.set r0 (own.getD r0 0 - bys.getD t 0)).getD r0 0) + 1) = 3 from hln.1]
           rw [show lowK (prtK (own.set r0 (own.getD r0 0 - bys.getD t 0)) n n) ((r0 : Nat) : Int) (((own.set r0 (own.getD r0 0 - bys.getD t 0)).getD r0 0) + 1) = prtK (own.set r0 (own.getD r0 0 - bys.getD t 0)) n n from hln.2]
           refine t_guard rfl rfl ?_
           refine tp rfl (lv_neq (r := false) rfl rfl (by decide)) ?_
           refine tp rfl (lv_pick_f rfl rfl) ?_
           refine t_done ?_
           refine q_then_n (hK22 _ _ ?_)
           refine c_false rfl ?_
           refine c_skip ?_
           refine q_in_n ?_
           refine q_then_n (hK19 _ _ ?_)
           refine c_region ?_
           refine tp rfl (lv_move rfl) ?_
           refine tp rfl (lv_add (c := ((t + 1 : Nat) : Int)) rfl rfl (wr_i64_succ (by omega))) ?_
           refine tp rfl (lv_assign rfl) ?_
           refine t_done ?_
           refine q_then_n ?_
           refine t_f2 ?_
           refine t_f2 ?_
           exact t_weak (by exact ⟨rfl, rfl, rfl, rfl, rfl, rfl, rfl, rfl, rfl, rfl, rfl, rfl, trivial⟩) ((hK16 (t + 1, own.set r0 (own.getD r0 0 - bys.getD t 0)) ⟨by omega, hbd2⟩ (by dsimp only; omega)))
         · -- no
          refine tp rfl (lv_lss rfl rfl (decide_eq_false h11)) ?_
          refine tp rfl (lv_pick_t rfl rfl) ?_
          refine t_done ?_
          refine q_then_n (hK18 _ _ ?_)
          refine c_false rfl ?_
          refine c_exit ?_
          refine q_then_x ?_
          refine q_then_x ?_
          refine q_in_x ?_
          refine q_then_n (hK14 _ _ ?_)
          refine c_seq (fun K19 hK19 => ?_)
          refine c_seq (fun K20 hK20 => ?_)
          refine c_region ?_
          rw [show prtK (List.replicate n 0) n 0 = prtK own n 0 from (prtK_zero ..).trans (prtK_zero ..).symm]
          have hol := hbd.1
          refine tp rfl (lv_assign rfl) ?_
          refine t_done ?_
          refine q_then_n (hK20 _ _ ?_)
          refine c_block ?_
          refine c_loop (γ := (Nat)) (fun (i2 : Nat) => i2 ≤ n) (fun (i2 : Nat) => [(0, (.slice bkb keys.length ckb)), (1, (.slice bib ids.length cib)), (2, (.slice bbb bys.length cbb)), (7, (.bool true)), (8, (.int .i64 ((n : Nat) : Int))), (9, (.pointer (some ⟨p1, 0, none⟩))), (10, (.pointer (some ⟨p2, 0, none⟩))), (11, (.slice bs3 n cp4)), (12, (.int .i64 ((i : Nat) : Int))), (13, (.int .i64 ((t : Nat) : Int))), (15, (.int .i64 ((i2 : Nat) : Int))), (36, (.bool false)), (41, (.bool false)), (77, (.bool false))]) (fun (i2 : Nat) => (SlV 3 1 (.slice bs3 n cp4) n (ints .i64 own)) :: (HeapO p2 n (prtK own n i2)) :: (HeapO p1 n (prtK own n n)) :: R) (fun (i2 : Nat) => n - i2) (0) (by omega) ⟨rfl, rfl, rfl, rfl, rfl, rfl, rfl, rfl, rfl, rfl, rfl, rfl, rfl, rfl, trivial⟩ (fun _ h => h) ?_
          rintro i2 K21 hF hK21
          try dsimp only at hF hK21 ⊢
          obtain hi2 := hF
          refine c_seq (fun K22 hK22 => ?_)
          refine c_seq (fun K23 hK23 => ?_)
          refine c_region ?_
          refine tp rfl (lv_move rfl) ?_
          refine tp rfl (lv_move rfl) ?_
          by_cases h12 : ((i2 : Nat) : Int) < ((n : Nat) : Int)
          · -- yes
           refine tp rfl (lv_lss rfl rfl (decide_eq_true h12)) ?_
           refine t_done ?_
           refine q_then_n (hK23 _ _ ?_)
           refine c_true rfl ?_
           refine c_skip ?_
           refine q_then_n (hK22 _ _ ?_)
           refine c_seq (fun K24 hK24 => ?_)
           refine c_block ?_
           refine c_seq (fun K25 hK25 => ?_)
           refine c_region ?_
           have hpq := prtK_push (keys := own) (n := n) (i := i2) (by omega) (by omega)
           refine tp rfl (lv_move rfl) ?_
           refine tp rfl (lv_move rfl) ?_
           refine tp rfl (lv_move rfl) ?_
           refine tp rfl (lv_move rfl) ?_
           refine tp rfl (lv_indexAddr (k' := i2) Try.underlying22 Try.sizeOf3 rfl rfl hok5 (by omega) (by omega) (by omega)) ?_
           refine tp rfl (lv_load Try.isAgg3 rfl (gives_sl (.head _) (ints_get (by omega)))) ?_
           refine t_f1 ?_
           refine tc rfl (en_fn Try.call13 rfl) (hpush_ok (n := n) (ks := prtK own n i2) ((i2 : Nat) : Int) ((own).getD i2 0)) ?_
           rintro _ _ ⟨rfl, rfl⟩
           rw [show pushE (prtK own n i2) ((i2 : Nat) : Int) = 0 from hpq.1]
           rw [show pushK (prtK own n i2) ((i2 : Nat) : Int) (own.getD i2 0) = prtK own n (i2 + 1) from hpq.2]
           refine tp rfl (lv_neq (r := false) rfl rfl (by decide)) ?_
           refine t_done ?_
           refine q_then_n (hK25 _ _ ?_)
           refine c_false rfl ?_
           refine c_skip ?_
           refine q_in_n ?_
           refine q_then_n (hK24 _ _ ?_)
           refine c_region ?_
           refine tp rfl (lv_move rfl) ?_
           refine tp rfl (lv_add (c := ((i2 + 1 : Nat) : Int)) rfl rfl (wr_i64_succ (by omega))) ?_
           refine tp rfl (lv_assign rfl) ?_
           refine t_done ?_
           refine q_then_n ?_
           refine t_f1 ?_
           exact t_weak (by exact ⟨rfl, rfl, rfl, rfl, rfl, rfl, rfl, rfl, rfl, rfl, rfl, rfl, rfl, rfl, trivial⟩) ((hK21 (i2 + 1) (by omega) (by omega)))
          · -- no
           refine tp rfl (lv_lss rfl rfl (decide_eq_false h12)) ?_
           refine t_done ?_
           refine q_then_n (hK23 _ _ ?_)
           refine c_false rfl ?_
           refine c_exit ?_
           refine q_then_x ?_
           refine q_then_x ?_
           refine q_in_x ?_
           refine q_then_n (hK19 _ _ ?_)
           refine c_seq (fun K24 hK24 => ?_)
           refine c_seq (fun K25 hK25 => ?_)
           refine c_region ?_
           rw [show prtK own n i2 = prtK own n n from by rw [show i2 = n by omega]]
           have hc0 := prt_cnt (keys := own) (n := n) (by omega)
           refine tp rfl (lv_assign rfl) ?_
           refine t_done ?_
           refine q_then_n (hK25 _ _ ?_)
           refine c_block ?_
           refine c_loop (γ := (Nat) × (Ks)) (fun (j, ks) => j ≤ n ∧ cntK ks + j = n) (fun (j, ks) => [(0, (.slice bkb keys.length ckb)), (1, (.slice bib ids.length cib)), (2, (.slice bbb bys.length cbb)), (7, (.bool true)), (8, (.int .i64 ((n : Nat) : Int))), (9, (.pointer (some ⟨p1, 0, none⟩))), (10, (.pointer (some ⟨p2, 0, none⟩))), (11, (.slice bs3 n cp4)), (12, (.int .i64 ((i : Nat) : Int))), (13, (.int .i64 ((t : Nat) : Int))), (15, (.int .i64 ((i2 : Nat) : Int))), (16, (.int .i64 ((j : Nat) : Int))), (36, (.bool false)), (41, (.bool false)), (77, (.bool false)), (121, (.bool false))]) (fun (j, ks) => (SlV 3 1 (.slice bs3 n cp4) n (ints .i64 own)) :: (HeapO p2 n ks) :: (HeapO p1 n ks) :: R) (fun (j, ks) => n - j) (0, prtK own n n) ⟨by omega, by omega⟩ ⟨rfl, rfl, rfl, rfl, rfl, rfl, rfl, rfl, rfl, rfl, rfl, rfl, rfl, rfl, rfl, rfl, trivial⟩ (fun _ h => h) ?_
           rintro ⟨j, ks⟩ K26 hF hK26
           try dsimp only at hF hK26 ⊢
           obtain ⟨hj, hck⟩ := hF
           refine c_seq (fun K27 hK27 => ?_)
           refine c_seq (fun K28 hK28 => ?_)
           refine c_region ?_
           refine tp rfl (lv_move rfl) ?_
           refine tp rfl (lv_move rfl) ?_
           by_cases h13 : ((j : Nat) : Int) < ((n : Nat) : Int)
           · -- yes
            refine tp rfl (lv_lss rfl rfl (decide_eq_true h13)) ?_
            refine t_done ?_
            refine q_then_n (hK28 _ _ ?_)
            refine c_true rfl ?_
            refine c_skip ?_
            refine q_then_n (hK27 _ _ ?_)
            refine c_seq (fun K29 hK29 => ?_)
            refine c_block ?_
            refine c_seq (fun K30 hK30 => ?_)
            refine c_region ?_
            have hcp := cnt_pop (ks := ks) (by omega)
            refine tp rfl (lv_move rfl) ?_
            refine t_f2 ?_
            refine tc rfl (en_fn Try.call14 rfl) (hpop_ok (n := n) (ks := ks) ) ?_
            rintro _ _ ⟨rfl, rfl⟩
            rw [show fstB ks = true from hcp.1]
            refine tp rfl (lv_move rfl) ?_
            refine tp rfl (lv_extract rfl rfl) ?_
            refine tp rfl (lv_extract rfl rfl) ?_
            refine tp rfl (lv_extract rfl rfl) ?_
            refine tp rfl (lv_assign rfl) ?_
            refine tp rfl (lv_assign rfl) ?_
            refine tp rfl (lv_assign rfl) ?_
            refine t_done ?_
            refine q_then_n (hK30 _ _ ?_)
            refine c_seq (fun K31 hK31 => ?_)
            refine c_region ?_
            refine tp rfl (lv_move rfl) ?_
            refine t_f2 ?_
            refine tc rfl (en_fn Try.call14 rfl) (hpop_ok (n := n) (ks := ks) ) ?_
            rintro _ _ ⟨rfl, rfl⟩
            rw [show fstB ks = true from hcp.1]
            refine tp rfl (lv_move rfl) ?_
            refine tp rfl (lv_extract rfl rfl) ?_
            refine tp rfl (lv_extract rfl rfl) ?_
            refine tp rfl (lv_extract rfl rfl) ?_
            refine tp rfl (lv_assign rfl) ?_
            refine tp rfl (lv_assign rfl) ?_
            refine tp rfl (lv_assign rfl) ?_
            refine t_done ?_
            refine q_then_n (hK31 _ _ ?_)
            refine c_seq (fun K32 hK32 => ?_)
            refine c_region ?_
            refine tp rfl (lv_move rfl) ?_
            refine tp rfl (lv_move rfl) ?_
            refine tp rfl (lv_neq rfl rfl (bne_eq_false_iff_eq.2 (by omega))) ?_
            refine tp rfl (lv_move rfl) ?_
            refine t_guard rfl rfl ?_
            refine tp rfl (lv_move rfl) ?_
            refine t_guard rfl rfl ?_
            refine tp rfl (lv_move rfl) ?_
            refine t_guard rfl rfl ?_
            refine tp rfl (lv_neq rfl rfl (bne_eq_false_iff_eq.2 (by omega))) ?_
            refine tp rfl (lv_pick_f rfl rfl) ?_
            refine tp rfl (lv_move rfl) ?_
            refine t_guard rfl rfl ?_
            refine tp rfl (lv_move rfl) ?_
            refine t_guard rfl rfl ?_
            refine tp rfl (lv_not (c := false) rfl rfl) ?_
            refine tp rfl (lv_pick_f rfl rfl) ?_
            refine tp rfl (lv_move rfl) ?_
            refine t_guard rfl rfl ?_
            refine tp rfl (lv_move rfl) ?_
            refine t_guard rfl rfl ?_
            refine tp rfl (lv_not (c := false) rfl rfl) ?_
            refine tp rfl (lv_pick_f rfl rfl) ?_
            refine t_done ?_
            refine q_then_n (hK32 _ _ ?_)
            refine c_false rfl ?_
            refine c_skip ?_
            refine q_in_n ?_
            refine q_then_n (hK29 _ _ ?_)
            refine c_region ?_
            refine tp rfl (lv_move rfl) ?_
            refine tp rfl (lv_add (c := ((j + 1 : Nat) : Int)) rfl rfl (wr_i64_succ (by omega))) ?_
            refine tp rfl (lv_assign rfl) ?_
            refine t_done ?_
            refine q_then_n ?_
            refine t_f1 ?_
            refine t_f1 ?_
            refine t_f2 ?_
            exact t_weak (by exact ⟨rfl, rfl, rfl, rfl, rfl, rfl, rfl, rfl, rfl, rfl, rfl, rfl, rfl, rfl, rfl, rfl, trivial⟩) ((hK26 (j + 1, popK ks) ⟨by omega, by dsimp only; omega⟩ (by dsimp only; omega)))
           · -- no
            refine tp rfl (lv_lss rfl rfl (decide_eq_false h13)) ?_
            refine t_done ?_
            refine q_then_n (hK28 _ _ ?_)
            refine c_false rfl ?_
            refine c_exit ?_
            refine q_then_x ?_
            refine q_then_x ?_
            refine q_in_x ?_
            refine q_then_n (hK24 _ _ ?_)
            refine c_seq (fun K29 hK29 => ?_)
            refine c_region ?_
            refine tp rfl (lv_move rfl) ?_
            refine tp rfl (lv_assign rfl) ?_
            refine t_done ?_
            refine q_then_n (hK29 _ _ ?_)
            refine c_ret ?_
            refine t_drop ?_
            refine t_drop ?_
            refine t_drop ?_
            refine q_ret rfl rfl ?_
            exact ⟨rfl, rfl⟩
        · -- no
         refine tp rfl (lv_lss rfl rfl (decide_eq_false h10)) ?_
         refine tp rfl (lv_pick_t rfl rfl) ?_
         refine tp rfl (lv_move rfl) ?_
         refine t_skip rfl rfl rfl ?_
         refine t_skip rfl rfl rfl ?_
         refine tp rfl (lv_pick_f rfl rfl) ?_
         refine t_done ?_
         refine q_then_n (hK18 _ _ ?_)
         refine c_false rfl ?_
         refine c_exit ?_
         refine q_then_x ?_
         refine q_then_x ?_
         refine q_in_x ?_
         refine q_then_n (hK14 _ _ ?_)
         refine c_seq (fun K19 hK19 => ?_)
         refine c_seq (fun K20 hK20 => ?_)
         refine c_region ?_
         rw [show prtK (List.replicate n 0) n 0 = prtK own n 0 from (prtK_zero ..).trans (prtK_zero ..).symm]
         have hol := hbd.1
         refine tp rfl (lv_assign rfl) ?_
         refine t_done ?_
         refine q_then_n (hK20 _ _ ?_)
         refine c_block ?_
         refine c_loop (γ := (Nat)) (fun (i2 : Nat) => i2 ≤ n) (fun (i2 : Nat) => [(0, (.slice bkb keys.length ckb)), (1, (.slice bib ids.length cib)), (2, (.slice bbb bys.length cbb)), (7, (.bool true)), (8, (.int .i64 ((n : Nat) : Int))), (9, (.pointer (some ⟨p1, 0, none⟩))), (10, (.pointer (some ⟨p2, 0, none⟩))), (11, (.slice bs3 n cp4)), (12, (.int .i64 ((i : Nat) : Int))), (13, (.int .i64 ((t : Nat) : Int))), (15, (.int .i64 ((i2 : Nat) : Int))), (36, (.bool false)), (41, (.bool false)), (77, (.bool false))]) (fun (i2 : Nat) => (SlV 3 1 (.slice bs3 n cp4) n (ints .i64 own)) :: (HeapO p2 n (prtK own n i2)) :: (HeapO p1 n (prtK own n n)) :: R) (fun (i2 : Nat) => n - i2) (0) (by omega) ⟨rfl, rfl, rfl, rfl, rfl, rfl, rfl, rfl, rfl, rfl, rfl, rfl, rfl, rfl, trivial⟩ (fun _ h => h) ?_
         rintro i2 K21 hF hK21
         try dsimp only at hF hK21 ⊢
         obtain hi2 := hF
         refine c_seq (fun K22 hK22 => ?_)
         refine c_seq (fun K23 hK23 => ?_)
         refine c_region ?_
         refine tp rfl (lv_move rfl) ?_
         refine tp rfl (lv_move rfl) ?_
         by_cases h14 : ((i2 : Nat) : Int) < ((n : Nat) : Int)
         · -- yes
          refine tp rfl (lv_lss rfl rfl (decide_eq_true h14)) ?_
          refine t_done ?_
          refine q_then_n (hK23 _ _ ?_)
          refine c_true rfl ?_
          refine c_skip ?_
          refine q_then_n (hK22 _ _ ?_)
          refine c_seq (fun K24 hK24 => ?_)
          refine c_block ?_
          refine c_seq (fun K25 hK25 => ?_)
          refine c_region ?_
          have hpq := prtK_push (keys := own) (n := n) (i := i2) (by omega) (by omega)
          refine tp rfl (lv_move rfl) ?_
          refine tp rfl (lv_move rfl) ?_
          refine tp rfl (lv_move rfl) ?_
          refine tp rfl (lv_move rfl) ?_
          refine tp rfl (lv_indexAddr (k' := i2) Try.underlying22 Try.sizeOf3 rfl rfl hok5 (by omega) (by omega) (by omega)) ?_
          refine tp rfl (lv_load Try.isAgg3 rfl (gives_sl (.head _) (ints_get (by omega)))) ?_
          refine t_f1 ?_
          refine tc rfl (en_fn Try.call13 rfl) (hpush_ok (n := n) (ks := prtK own n i2) ((i2 : Nat) : Int) ((own).getD i2 0)) ?_
          rintro _ _ ⟨rfl, rfl⟩
          rw [show pushE (prtK own n i2) ((i2 : Nat) : Int) = 0 from hpq.1]
          rw [show pushK (prtK own n i2) ((i2 : Nat) : Int) (own.getD i2 0) = prtK own n (i2 + 1) from hpq.2]
          refine tp rfl (lv_neq (r := false) rfl rfl (by decide)) ?_
          refine t_done ?_
          refine q_then_n (hK25 _ _ ?_)
          refine c_false rfl ?_
          refine c_skip ?_
          refine q_in_n ?_
          refine q_then_n (hK24 _ _ ?_)
          refine c_region ?_
          refine tp rfl (lv_move rfl) ?_
          refine tp rfl (lv_add (c := ((i2 + 1 : Nat) : Int)) rfl rfl (wr_i64_succ (by omega))) ?_
          refine tp rfl (lv_assign rfl) ?_
          refine t_done ?_
          refine q_then_n ?_
          refine t_f1 ?_
          exact t_weak (by exact ⟨rfl, rfl, rfl, rfl, rfl, rfl, rfl, rfl, rfl, rfl, rfl, rfl, rfl, rfl, trivial⟩) ((hK21 (i2 + 1) (by omega) (by omega)))
         · -- no
          refine tp rfl (lv_lss rfl rfl (decide_eq_false h14)) ?_
          refine t_done ?_
          refine q_then_n (hK23 _ _ ?_)
          refine c_false rfl ?_
          refine c_exit ?_
          refine q_then_x ?_
          refine q_then_x ?_
          refine q_in_x ?_
          refine q_then_n (hK19 _ _ ?_)
          refine c_seq (fun K24 hK24 => ?_)
          refine c_seq (fun K25 hK25 => ?_)
          refine c_region ?_
          rw [show prtK own n i2 = prtK own n n from by rw [show i2 = n by omega]]
          have hc0 := prt_cnt (keys := own) (n := n) (by omega)
          refine tp rfl (lv_assign rfl) ?_
          refine t_done ?_
          refine q_then_n (hK25 _ _ ?_)
          refine c_block ?_
          refine c_loop (γ := (Nat) × (Ks)) (fun (j, ks) => j ≤ n ∧ cntK ks + j = n) (fun (j, ks) => [(0, (.slice bkb keys.length ckb)), (1, (.slice bib ids.length cib)), (2, (.slice bbb bys.length cbb)), (7, (.bool true)), (8, (.int .i64 ((n : Nat) : Int))), (9, (.pointer (some ⟨p1, 0, none⟩))), (10, (.pointer (some ⟨p2, 0, none⟩))), (11, (.slice bs3 n cp4)), (12, (.int .i64 ((i : Nat) : Int))), (13, (.int .i64 ((t : Nat) : Int))), (15, (.int .i64 ((i2 : Nat) : Int))), (16, (.int .i64 ((j : Nat) : Int))), (36, (.bool false)), (41, (.bool false)), (77, (.bool false)), (121, (.bool false))]) (fun (j, ks) => (SlV 3 1 (.slice bs3 n cp4) n (ints .i64 own)) :: (HeapO p2 n ks) :: (HeapO p1 n ks) :: R) (fun (j, ks) => n - j) (0, prtK own n n) ⟨by omega, by omega⟩ ⟨rfl, rfl, rfl, rfl, rfl, rfl, rfl, rfl, rfl, rfl, rfl, rfl, rfl, rfl, rfl, rfl, trivial⟩ (fun _ h => h) ?_
          rintro ⟨j, ks⟩ K26 hF hK26
          try dsimp only at hF hK26 ⊢
          obtain ⟨hj, hck⟩ := hF
          refine c_seq (fun K27 hK27 => ?_)
          refine c_seq (fun K28 hK28 => ?_)
          refine c_region ?_
          refine tp rfl (lv_move rfl) ?_
          refine tp rfl (lv_move rfl) ?_
          by_cases h15 : ((j : Nat) : Int) < ((n : Nat) : Int)
          · -- yes
           refine tp rfl (lv_lss rfl rfl (decide_eq_true h15)) ?_
           refine t_done ?_
           refine q_then_n (hK28 _ _ ?_)
           refine c_true rfl ?_
           refine c_skip ?_
           refine q_then_n (hK27 _ _ ?_)
           refine c_seq (fun K29 hK29 => ?_)
           refine c_block ?_
           refine c_seq (fun K30 hK30 => ?_)
           refine c_region ?_
           have hcp := cnt_pop (ks := ks) (by omega)
           refine tp rfl (lv_move rfl) ?_
           refine t_f2 ?_
           refine tc rfl (en_fn Try.call14 rfl) (hpop_ok (n := n) (ks := ks) ) ?_
           rintro _ _ ⟨rfl, rfl⟩
           rw [show fstB ks = true from hcp.1]
           refine tp rfl (lv_move rfl) ?_
           refine tp rfl (lv_extract rfl rfl) ?_
           refine tp rfl (lv_extract rfl rfl) ?_
           refine tp rfl (lv_extract rfl rfl) ?_
           refine tp rfl (lv_assign rfl) ?_
           refine tp rfl (lv_assign rfl) ?_
           refine tp rfl (lv_assign rfl) ?_
           refine t_done ?_
           refine q_then_n (hK30 _ _ ?_)
           refine c_seq (fun K31 hK31 => ?_)
           refine c_region ?_
           refine tp rfl (lv_move rfl) ?_
           refine t_f2 ?_
           refine tc rfl (en_fn Try.call14 rfl) (hpop_ok (n := n) (ks := ks) ) ?_
           rintro _ _ ⟨rfl, rfl⟩
           rw [show fstB ks = true from hcp.1]
           refine tp rfl (lv_move rfl) ?_
           refine tp rfl (lv_extract rfl rfl) ?_
           refine tp rfl (lv_extract rfl rfl) ?_
           refine tp rfl (lv_extract rfl rfl) ?_
           refine tp rfl (lv_assign rfl) ?_
           refine tp rfl (lv_assign rfl) ?_
           refine tp rfl (lv_assign rfl) ?_
           refine t_done ?_
           refine q_then_n (hK31 _ _ ?_)
           refine c_seq (fun K32 hK32 => ?_)
           refine c_region ?_
           refine tp rfl (lv_move rfl) ?_
           refine tp rfl (lv_move rfl) ?_
           refine tp rfl (lv_neq rfl rfl (bne_eq_false_iff_eq.2 (by omega))) ?_
           refine tp rfl (lv_move rfl) ?_
           refine t_guard rfl rfl ?_
           refine tp rfl (lv_move rfl) ?_
           refine t_guard rfl rfl ?_
           refine tp rfl (lv_move rfl) ?_
           refine t_guard rfl rfl ?_
           refine tp rfl (lv_neq rfl rfl (bne_eq_false_iff_eq.2 (by omega))) ?_
           refine tp rfl (lv_pick_f rfl rfl) ?_
           refine tp rfl (lv_move rfl) ?_
           refine t_guard rfl rfl ?_
           refine tp rfl (lv_move rfl) ?_
           refine t_guard rfl rfl ?_
           refine tp rfl (lv_not (c := false) rfl rfl) ?_
           refine tp rfl (lv_pick_f rfl rfl) ?_
           refine tp rfl (lv_move rfl) ?_
           refine t_guard rfl rfl ?_
           refine tp rfl (lv_move rfl) ?_
           refine t_guard rfl rfl ?_
           refine tp rfl (lv_not (c := false) rfl rfl) ?_
           refine tp rfl (lv_pick_f rfl rfl) ?_
           refine t_done ?_
           refine q_then_n (hK32 _ _ ?_)
           refine c_false rfl ?_
           refine c_skip ?_
           refine q_in_n ?_
           refine q_then_n (hK29 _ _ ?_)
           refine c_region ?_
           refine tp rfl (lv_move rfl) ?_
           refine tp rfl (lv_add (c := ((j + 1 : Nat) : Int)) rfl rfl (wr_i64_succ (by omega))) ?_
           refine tp rfl (lv_assign rfl) ?_
           refine t_done ?_
           refine q_then_n ?_
           refine t_f1 ?_
           refine t_f1 ?_
           refine t_f2 ?_
           exact t_weak (by exact ⟨rfl, rfl, rfl, rfl, rfl, rfl, rfl, rfl, rfl, rfl, rfl, rfl, rfl, rfl, rfl, rfl, trivial⟩) ((hK26 (j + 1, popK ks) ⟨by omega, by dsimp only; omega⟩ (by dsimp only; omega)))
          · -- no
           refine tp rfl (lv_lss rfl rfl (decide_eq_false h15)) ?_
           refine t_done ?_
           refine q_then_n (hK28 _ _ ?_)
           refine c_false rfl ?_
           refine c_exit ?_
           refine q_then_x ?_
           refine q_then_x ?_
           refine q_in_x ?_
           refine q_then_n (hK24 _ _ ?_)
           refine c_seq (fun K29 hK29 => ?_)
           refine c_region ?_
           refine tp rfl (lv_move rfl) ?_
           refine tp rfl (lv_assign rfl) ?_
           refine t_done ?_
           refine q_then_n (hK29 _ _ ?_)
           refine c_ret ?_
           refine t_drop ?_
           refine t_drop ?_
           refine t_drop ?_
           refine q_ret rfl rfl ?_
           exact ⟨rfl, rfl⟩
      · -- no
        refine tp rfl (lv_lss rfl rfl (decide_eq_false h9)) ?_
        refine tp rfl (lv_pick_t rfl rfl) ?_
        refine tp rfl (lv_move rfl) ?_
        refine t_skip rfl rfl rfl ?_
        refine t_skip rfl rfl rfl ?_
        refine t_skip rfl rfl rfl ?_
        refine t_skip rfl rfl rfl ?_
        refine tp rfl (lv_pick_f rfl rfl) ?_
        refine tp rfl (lv_move rfl) ?_
        refine t_skip rfl rfl rfl ?_
        refine t_skip rfl rfl rfl ?_
        refine tp rfl (lv_pick_f rfl rfl) ?_
        refine t_done ?_
        refine q_then_n (hK18 _ _ ?_)
        refine c_false rfl ?_
        refine c_exit ?_
        refine q_then_x ?_
        refine q_then_x ?_
        refine q_in_x ?_
        refine q_then_n (hK14 _ _ ?_)
        refine c_seq (fun K19 hK19 => ?_)
        refine c_seq (fun K20 hK20 => ?_)
        refine c_region ?_
        rw [show prtK (List.replicate n 0) n 0 = prtK own n 0 from (prtK_zero ..).trans (prtK_zero ..).symm]
        have hol := hbd.1
        refine tp rfl (lv_assign rfl) ?_
        refine t_done ?_
        refine q_then_n (hK20 _ _ ?_)
        refine c_block ?_
        refine c_loop (γ := (Nat)) (fun (i2 : Nat) => i2 ≤ n) (fun (i2 : Nat) => [(0, (.slice bkb keys.length ckb)), (1, (.slice bib ids.length cib)), (2, (.slice bbb bys.length cbb)), (7, (.bool true)), (8, (.int .i64 ((n : Nat) : Int))), (9, (.pointer (some ⟨p1, 0, none⟩))), (10, (.pointer (some ⟨p2, 0, none⟩))), (11, (.slice bs3 n cp4)), (12, (.int .i64 ((i : Nat) : Int))), (13, (.int .i64 ((t : Nat) : Int))), (15, (.int .i64 ((i2 : Nat) : Int))), (36, (.bool false)), (41, (.bool false)), (77, (.bool false))]) (fun (i2 : Nat) => (SlV 3 1 (.slice bs3 n cp4) n (ints .i64 own)) :: (HeapO p2 n (prtK own n i2)) :: (HeapO p1 n (prtK own n n)) :: R) (fun (i2 : Nat) => n - i2) (0) (by omega) ⟨rfl, rfl, rfl, rfl, rfl, rfl, rfl, rfl, rfl, rfl, rfl, rfl, rfl, rfl, trivial⟩ (fun _ h => h) ?_
        rintro i2 K21 hF hK21
        try dsimp only at hF hK21 ⊢
        obtain hi2 := hF
        refine c_seq (fun K22 hK22 => ?_)
        refine c_seq (fun K23 hK23 => ?_)
        refine c_region ?_
        refine tp rfl (lv_move rfl) ?_
        refine tp rfl (lv_move rfl) ?_
        by_cases h16 : ((i2 : Nat) : Int) < ((n : Nat) : Int)
        · -- yes
         refine tp rfl (lv_lss rfl rfl (decide_eq_true h16)) ?_
         refine t_done ?_
         refine q_then_n (hK23 _ _ ?_)
         refine c_true rfl ?_
         refine c_skip ?_
         refine q_then_n (hK22 _ _ ?_)
         refine c_seq (fun K24 hK24 => ?_)
         refine c_block ?_
         refine c_seq (fun K25 hK25 => ?_)
         refine c_region ?_
         have hpq := prtK_push (keys := own) (n := n) (i := i2) (by omega) (by omega)
         refine tp rfl (lv_move rfl) ?_
         refine tp rfl (lv_move rfl) ?_
         refine tp rfl (lv_move rfl) ?_
         refine tp rfl (lv_move rfl) ?_
         refine tp rfl (lv_indexAddr (k' := i2) Try.underlying22 Try.sizeOf3 rfl rfl hok5 (by omega) (by omega) (by omega)) ?_
         refine tp rfl (lv_load Try.isAgg3 rfl (gives_sl (.head _) (ints_get (by omega)))) ?_
         refine t_f1 ?_
         refine tc rfl (en_fn Try.call13 rfl) (hpush_ok (n := n) (ks := prtK own n i2) ((i2 : Nat) : Int) ((own).getD i2 0)) ?_
         rintro _ _ ⟨rfl, rfl⟩
         rw [show pushE (prtK own n i2) ((i2 : Nat) : Int) = 0 from hpq.1]
         rw [show pushK (prtK own n i2) ((i2 : Nat) : Int) (own.getD i2 0) = prtK own n (i2 + 1) from hpq.2]
         refine tp rfl (lv_neq (r := false) rfl rfl (by decide)) ?_
         refine t_done ?_
         refine q_then_n (hK25 _ _ ?_)
         refine c_false rfl ?_
         refine c_skip ?_
         refine q_in_n ?_
         refine q_then_n (hK24 _ _ ?_)
         refine c_region ?_
         refine tp rfl (lv_move rfl) ?_
         refine tp rfl (lv_add (c := ((i2 + 1 : Nat) : Int)) rfl rfl (wr_i64_succ (by omega))) ?_
         refine tp rfl (lv_assign rfl) ?_
         refine t_done ?_
         refine q_then_n ?_
         refine t_f1 ?_
         exact t_weak (by exact ⟨rfl, rfl, rfl, rfl, rfl, rfl, rfl, rfl, rfl, rfl, rfl, rfl, rfl, rfl, trivial⟩) ((hK21 (i2 + 1) (by omega) (by omega)))
        · -- no
         refine tp rfl (lv_lss rfl rfl (decide_eq_false h16)) ?_
         refine t_done ?_
         refine q_then_n (hK23 _ _ ?_)
         refine c_false rfl ?_
         refine c_exit ?_
         refine q_then_x ?_
         refine q_then_x ?_
         refine q_in_x ?_
         refine q_then_n (hK19 _ _ ?_)
         refine c_seq (fun K24 hK24 => ?_)
         refine c_seq (fun K25 hK25 => ?_)
         refine c_region ?_
         rw [show prtK own n i2 = prtK own n n from by rw [show i2 = n by omega]]
         have hc0 := prt_cnt (keys := own) (n := n) (by omega)
         refine tp rfl (lv_assign rfl) ?_
         refine t_done ?_
         refine q_then_n (hK25 _ _ ?_)
         refine c_block ?_
         refine c_loop (γ := (Nat) × (Ks)) (fun (j, ks) => j ≤ n ∧ cntK ks + j = n) (fun (j, ks) => [(0, (.slice bkb keys.length ckb)), (1, (.slice bib ids.length cib)), (2, (.slice bbb bys.length cbb)), (7, (.bool true)), (8, (.int .i64 ((n : Nat) : Int))), (9, (.pointer (some ⟨p1, 0, none⟩))), (10, (.pointer (some ⟨p2, 0, none⟩))), (11, (.slice bs3 n cp4)), (12, (.int .i64 ((i : Nat) : Int))), (13, (.int .i64 ((t : Nat) : Int))), (15, (.int .i64 ((i2 : Nat) : Int))), (16, (.int .i64 ((j : Nat) : Int))), (36, (.bool false)), (41, (.bool false)), (77, (.bool false)), (121, (.bool false))]) (fun (j, ks) => (SlV 3 1 (.slice bs3 n cp4) n (ints .i64 own)) :: (HeapO p2 n ks) :: (HeapO p1 n ks) :: R) (fun (j, ks) => n - j) (0, prtK own n n) ⟨by omega, by omega⟩ ⟨rfl, rfl, rfl, rfl, rfl, rfl, rfl, rfl, rfl, rfl, rfl, rfl, rfl, rfl, rfl, rfl, trivial⟩ (fun _ h => h) ?_
         rintro ⟨j, ks⟩ K26 hF hK26
         try dsimp only at hF hK26 ⊢
         obtain ⟨hj, hck⟩ := hF
         refine c_seq (fun K27 hK27 => ?_)
         refine c_seq (fun K28 hK28 => ?_)
         refine c_region ?_
         refine tp rfl (lv_move rfl) ?_
         refine tp rfl (lv_move rfl) ?_
         by_cases h17 : ((j : Nat) : Int) < ((n : Nat) : Int)
         · -- yes
          refine tp rfl (lv_lss rfl rfl (decide_eq_true h17)) ?_
          refine t_done ?_
          refine q_then_n (hK28 _ _ ?_)
          refine c_true rfl ?_
          refine c_skip ?_
          refine q_then_n (hK27 _ _ ?_)
          refine c_seq (fun K29 hK29 => ?_)
          refine c_block ?_
          refine c_seq (fun K30 hK30 => ?_)
          refine c_region ?_
          have hcp := cnt_pop (ks := ks) (by omega)
          refine tp rfl (lv_move rfl) ?_
          refine t_f2 ?_
          refine tc rfl (en_fn Try.call14 rfl) (hpop_ok (n := n) (ks := ks) ) ?_
          rintro _ _ ⟨rfl, rfl⟩
          rw [show fstB ks = true from hcp.1]
          refine tp rfl (lv_move rfl) ?_
          refine tp rfl (lv_extract rfl rfl) ?_
          refine tp rfl (lv_extract rfl rfl) ?_
          refine tp rfl (lv_extract rfl rfl) ?_
          refine tp rfl (lv_assign rfl) ?_
          refine tp rfl (lv_assign rfl) ?_
          refine tp rfl (lv_assign rfl) ?_
          refine t_done ?_
          refine q_then_n (hK30 _ _ ?_)
          refine c_seq (fun K31 hK31 => ?_)
          refine c_region ?_
          refine tp rfl (lv_move rfl) ?_
          refine t_f2 ?_
          refine tc rfl (en_fn Try.call14 rfl) (hpop_ok (n := n) (ks := ks) ) ?_
          rintro _ _ ⟨rfl, rfl⟩
          rw [show fstB ks = true from hcp.1]
          refine tp rfl (lv_move rfl) ?_
          refine tp rfl (lv_extract rfl rfl) ?_
          refine tp rfl (lv_extract rfl rfl) ?_
          refine tp rfl (lv_extract rfl rfl) ?_
          refine tp rfl (lv_assign rfl) ?_
          refine tp rfl (lv_assign rfl) ?_
          refine tp rfl (lv_assign rfl) ?_
          refine t_done ?_
          refine q_then_n (hK31 _ _ ?_)
          refine c_seq (fun K32 hK32 => ?_)
          refine c_region ?_
          refine tp rfl (lv_move rfl) ?_
          refine tp rfl (lv_move rfl) ?_
          refine tp rfl (lv_neq rfl rfl (bne_eq_false_iff_eq.2 (by omega))) ?_
          refine tp rfl (lv_move rfl) ?_
          refine t_guard rfl rfl ?_
          refine tp rfl (lv_move rfl) ?_
          refine t_guard rfl rfl ?_
          refine tp rfl (lv_move rfl) ?_
          refine t_guard rfl rfl ?_
          refine tp rfl (lv_neq rfl rfl (bne_eq_false_iff_eq.2 (by omega))) ?_
          refine tp rfl (lv_pick_f rfl rfl) ?_
          refine tp rfl (lv_move rfl) ?_
          refine t_guard rfl rfl ?_
          refine tp rfl (lv_move rfl) ?_
          refine t_guard rfl rfl ?_
          refine tp rfl (lv_not (c := false) rfl rfl) ?_
          refine tp rfl (lv_pick_f rfl rfl) ?_
          refine tp rfl (lv_move rfl) ?_
          refine t_guard rfl rfl ?_
          refine tp rfl (lv_move rfl) ?_
          refine t_guard rfl rfl ?_
          refine tp rfl (lv_not (c := false) rfl rfl) ?_
          refine tp rfl (lv_pick_f rfl rfl) ?_
          refine t_done ?_
          refine q_then_n (hK32 _ _ ?_)
          refine c_false rfl ?_
          refine c_skip ?_
          refine q_in_n ?_
          refine q_then_n (hK29 _ _ ?_)
          refine c_region ?_
          refine tp rfl (lv_move rfl) ?_
          refine tp rfl (lv_add (c := ((j + 1 : Nat) : Int)) rfl rfl (wr_i64_succ (by omega))) ?_
          refine tp rfl (lv_assign rfl) ?_
          refine t_done ?_
          refine q_then_n ?_
          refine t_f1 ?_
          refine t_f1 ?_
          refine t_f2 ?_
          exact t_weak (by exact ⟨rfl, rfl, rfl, rfl, rfl, rfl, rfl, rfl, rfl, rfl, rfl, rfl, rfl, rfl, rfl, rfl, trivial⟩) ((hK26 (j + 1, popK ks) ⟨by omega, by dsimp only; omega⟩ (by dsimp only; omega)))
         · -- no
          refine tp rfl (lv_lss rfl rfl (decide_eq_false h17)) ?_
          refine t_done ?_
          refine q_then_n (hK28 _ _ ?_)
          refine c_false rfl ?_
          refine c_exit ?_
          refine q_then_x ?_
          refine q_then_x ?_
          refine q_in_x ?_
          refine q_then_n (hK24 _ _ ?_)
          refine c_seq (fun K29 hK29 => ?_)
          refine c_region ?_
          refine tp rfl (lv_move rfl) ?_
          refine tp rfl (lv_assign rfl) ?_
          refine t_done ?_
          refine q_then_n (hK29 _ _ ?_)
          refine c_ret ?_
          refine t_drop ?_
          refine t_drop ?_
          refine t_drop ?_
          refine q_ret rfl rfl ?_
          exact ⟨rfl, rfl⟩
    · -- no
      refine tp rfl (lv_gtr rfl rfl (decide_eq_false h8)) ?_
      refine tp rfl (lv_move rfl) ?_
      refine t_skip rfl rfl rfl ?_
      refine t_skip rfl rfl rfl ?_
      refine t_skip rfl rfl rfl ?_
      refine t_skip rfl rfl rfl ?_
      refine tp rfl (lv_pick_f rfl rfl) ?_
      refine tp rfl (lv_move rfl) ?_
      refine t_skip rfl rfl rfl ?_
      refine t_skip rfl rfl rfl ?_
      refine t_skip rfl rfl rfl ?_
      refine t_skip rfl rfl rfl ?_
      refine tp rfl (lv_pick_f rfl rfl) ?_
      refine tp rfl (lv_move rfl) ?_
      refine t_skip rfl rfl rfl ?_
      refine t_skip rfl rfl rfl ?_
      refine tp rfl (lv_pick_f rfl rfl) ?_
      refine t_done ?_
      refine q_then_n (hK18 _ _ ?_)
      refine c_false rfl ?_
      refine c_exit ?_
      refine q_then_x ?_
      refine q_then_x ?_
      refine q_in_x ?_
      refine q_then_n (hK14 _ _ ?_)
      refine c_seq (fun K19 hK19 => ?_)
      refine c_seq (fun K20 hK20 => ?_)
      refine c_region ?_
      rw [show prtK (List.replicate n 0) n 0 = prtK own n 0 from (prtK_zero ..).trans (prtK_zero ..).symm]
      have hol := hbd.1
      refine tp rfl (lv_assign rfl) ?_
      refine t_done ?_
      refine q_then_n (hK20 _ _ ?_)
      refine c_block ?_
      refine c_loop (γ := (Nat)) (fun (i2 : Nat) => i2 ≤ n) (fun (i2 : Nat) => [(0, (.slice bkb keys.length ckb)), (1, (.slice bib ids.length cib)), (2, (.slice bbb bys.length cbb)), (7, (.bool true)), (8, (.int .i64 ((n : Nat) : Int))), (9, (.pointer (some ⟨p1, 0, none⟩))), (10, (.pointer (some ⟨p2, 0, none⟩))), (11, (.slice bs3 n cp4)), (12, (.int .i64 ((i : Nat) : Int))), (13, (.int .i64 ((t : Nat) : Int))), (15, (.int .i64 ((i2 : Nat) : Int))), (36, (.bool false)), (41, (.bool false)), (77, (.bool false))]) (fun (i2 : Nat) => (SlV 3 1 (.slice bs3 n cp4) n (ints .i64 own)) :: (HeapO p2 n (prtK own n i2)) :: (HeapO p1 n (prtK own n n)) :: R) (fun (i2 : Nat) => n - i2) (0) (by omega) ⟨rfl, rfl, rfl, rfl, rfl, rfl, rfl, rfl, rfl, rfl, rfl, rfl, rfl, rfl, trivial⟩ (fun _ h => h) ?_
      rintro i2 K21 hF hK21
      try dsimp only at hF hK21 ⊢
      obtain hi2 := hF
      refine c_seq (fun K22 hK22 => ?_)
      refine c_seq (fun K23 hK23 => ?_)
      refine c_region ?_
      refine tp rfl (lv_move rfl) ?_
      refine tp rfl (lv_move rfl) ?_
      by_cases h18 : ((i2 : Nat) : Int) < ((n : Nat) : Int)
      · -- yes
        refine tp rfl (lv_lss rfl rfl (decide_eq_true h18)) ?_
        refine t_done ?_
        refine q_then_n (hK23 _ _ ?_)
        refine c_true rfl ?_
        refine c_skip ?_
        refine q_then_n (hK22 _ _ ?_)
        refine c_seq (fun K24 hK24 => ?_)
        refine c_block ?_
        refine c_seq (fun K25 hK25 => ?_)
        refine c_region ?_
        have hpq := prtK_push (keys := own) (n := n) (i := i2) (by omega) (by omega)
        refine tp rfl (lv_move rfl) ?_
        refine tp rfl (lv_move rfl) ?_
        refine tp rfl (lv_move rfl) ?_
        refine tp rfl (lv_move rfl) ?_
        refine tp rfl (lv_indexAddr (k' := i2) Try.underlying22 Try.sizeOf3 rfl rfl hok5 (by omega) (by omega) (by omega)) ?_
        refine tp rfl (lv_load Try.isAgg3 rfl (gives_sl (.head _) (ints_get (by omega)))) ?_
        refine t_f1 ?_
        refine tc rfl (en_fn Try.call13 rfl) (hpush_ok (n := n) (ks := prtK own n i2) ((i2 : Nat) : Int) ((own).getD i2 0)) ?_
        rintro _ _ ⟨rfl, rfl⟩
        rw [show pushE (prtK own n i2) ((i2 : Nat) : Int) = 0 from hpq.1]
        rw [show pushK (prtK own n i2) ((i2 : Nat) : Int) (own.getD i2 0) = prtK own n (i2 + 1) from hpq.2]
        refine tp rfl (lv_neq (r := false) rfl rfl (by decide)) ?_
        refine t_done ?_
        refine q_then_n (hK25 _ _ ?_)
        refine c_false rfl ?_
        refine c_skip ?_
        refine q_in_n ?_
        refine q_then_n (hK24 _ _ ?_)
        refine c_region ?_
        refine tp rfl (lv_move rfl) ?_
        refine tp rfl (lv_add (c := ((i2 + 1 : Nat) : Int)) rfl rfl (wr_i64_succ (by omega))) ?_
        refine tp rfl (lv_assign rfl) ?_
        refine t_done ?_
        refine q_then_n ?_
        refine t_f1 ?_
        exact t_weak (by exact ⟨rfl, rfl, rfl, rfl, rfl, rfl, rfl, rfl, rfl, rfl, rfl, rfl, rfl, rfl, trivial⟩) ((hK21 (i2 + 1) (by omega) (by omega)))
      · -- no
        refine tp rfl (lv_lss rfl rfl (decide_eq_false h18)) ?_
        refine t_done ?_
        refine q_then_n (hK23 _ _ ?_)
        refine c_false rfl ?_
        refine c_exit ?_
        refine q_then_x ?_
        refine q_then_x ?_
        refine q_in_x ?_
        refine q_then_n (hK19 _ _ ?_)
        refine c_seq (fun K24 hK24 => ?_)
        refine c_seq (fun K25 hK25 => ?_)
        refine c_region ?_
        rw [show prtK own n i2 = prtK own n n from by rw [show i2 = n by omega]]
        have hc0 := prt_cnt (keys := own) (n := n) (by omega)
        refine tp rfl (lv_assign rfl) ?_
        refine t_done ?_
        refine q_then_n (hK25 _ _ ?_)
        refine c_block ?_
        refine c_loop (γ := (Nat) × (Ks)) (fun (j, ks) => j ≤ n ∧ cntK ks + j = n) (fun (j, ks) => [(0, (.slice bkb keys.length ckb)), (1, (.slice bib ids.length cib)), (2, (.slice bbb bys.length cbb)), (7, (.bool true)), (8, (.int .i64 ((n : Nat) : Int))), (9, (.pointer (some ⟨p1, 0, none⟩))), (10, (.pointer (some ⟨p2, 0, none⟩))), (11, (.slice bs3 n cp4)), (12, (.int .i64 ((i : Nat) : Int))), (13, (.int .i64 ((t : Nat) : Int))), (15, (.int .i64 ((i2 : Nat) : Int))), (16, (.int .i64 ((j : Nat) : Int))), (36, (.bool false)), (41, (.bool false)), (77, (.bool false)), (121, (.bool false))]) (fun (j, ks) => (SlV 3 1 (.slice bs3 n cp4) n (ints .i64 own)) :: (HeapO p2 n ks) :: (HeapO p1 n ks) :: R) (fun (j, ks) => n - j) (0, prtK own n n) ⟨by omega, by omega⟩ ⟨rfl, rfl, rfl, rfl, rfl, rfl, rfl, rfl, rfl, rfl, rfl, rfl, rfl, rfl, rfl, rfl, trivial⟩ (fun _ h => h) ?_
        rintro ⟨j, ks⟩ K26 hF hK26
        try dsimp only at hF hK26 ⊢
        obtain ⟨hj, hck⟩ := hF
        refine c_seq (fun K27 hK27 => ?_)
        refine c_seq (fun K28 hK28 => ?_)
        refine c_region ?_
        refine tp rfl (lv_move rfl) ?_
        refine tp rfl (lv_move rfl) ?_
        by_cases h19 : ((j : Nat) : Int) < ((n : Nat) : Int)
        · -- yes
         refine tp rfl (lv_lss rfl rfl (decide_eq_true h19)) ?_
         refine t_done ?_
         refine q_then_n (hK28 _ _ ?_)
         refine c_true rfl ?_
         refine c_skip ?_
         refine q_then_n (hK27 _ _ ?_)
         refine c_seq (fun K29 hK29 => ?_)
         refine c_block ?_
         refine c_seq (fun K30 hK30 => ?_)
         refine c_region ?_
         have hcp := cnt_pop (ks := ks) (by omega)
         refine tp rfl (lv_move rfl) ?_
         refine t_f2 ?_
         refine tc rfl (en_fn Try.call14 rfl) (hpop_ok (n := n) (ks := ks) ) ?_
         rintro _ _ ⟨rfl, rfl⟩
         rw [show fstB ks = true from hcp.1]
         refine tp rfl (lv_move rfl) ?_
         refine tp rfl (lv_extract rfl rfl) ?_
         refine tp rfl (lv_extract rfl rfl) ?_
         refine tp rfl (lv_extract rfl rfl) ?_
         refine tp rfl (lv_assign rfl) ?_
         refine tp rfl (lv_assign rfl) ?_
         refine tp rfl (lv_assign rfl) ?_
         refine t_done ?_
         refine q_then_n (hK30 _ _ ?_)
         refine c_seq (fun K31 hK31 => ?_)
         refine c_region ?_
         refine tp rfl (lv_move rfl) ?_
         refine t_f2 ?_
         refine tc rfl (en_fn Try.call14 rfl) (hpop_ok (n := n) (ks := ks) ) ?_
         rintro _ _ ⟨rfl, rfl⟩
         rw [show fstB ks = true from hcp.1]
         refine tp rfl (lv_move rfl) ?_
         refine tp rfl (lv_extract rfl rfl) ?_
         refine tp rfl (lv_extract rfl rfl) ?_
         refine tp rfl (lv_extract rfl rfl) ?_
         refine tp rfl (lv_assign rfl) ?_
         refine tp rfl (lv_assign rfl) ?_
         refine tp rfl (lv_assign rfl) ?_
         refine t_done ?_
         refine q_then_n (hK31 _ _ ?_)
         refine c_seq (fun K32 hK32 => ?_)
         refine c_region ?_
         refine tp rfl (lv_move rfl) ?_
         refine tp rfl (lv_move rfl) ?_
         refine tp rfl (lv_neq rfl rfl (bne_eq_false_iff_eq.2 (by omega))) ?_
         refine tp rfl (lv_move rfl) ?_
         refine t_guard rfl rfl ?_
         refine tp rfl (lv_move rfl) ?_
         refine t_guard rfl rfl ?_
         refine tp rfl (lv_move rfl) ?_
         refine t_guard rfl rfl ?_
         refine tp rfl (lv_neq rfl rfl (bne_eq_false_iff_eq.2 (by omega))) ?_
         refine tp rfl (lv_pick_f rfl rfl) ?_
         refine tp rfl (lv_move rfl) ?_
         refine t_guard rfl rfl ?_
         refine tp rfl (lv_move rfl) ?_
         refine t_guard rfl rfl ?_
         refine tp rfl (lv_not (c := false) rfl rfl) ?_
         refine tp rfl (lv_pick_f rfl rfl) ?_
         refine tp rfl (lv_move rfl) ?_
         refine t_guard rfl rfl ?_
         refine tp rfl (lv_move rfl) ?_
         refine t_guard rfl rfl ?_
         refine tp rfl (lv_not (c := false) rfl rfl) ?_
         refine tp rfl (lv_pick_f rfl rfl) ?_
         refine t_done ?_
         refine q_then_n (hK32 _ _ ?_)
         refine c_false rfl ?_
         refine c_skip ?_
         refine q_in_n ?_
         refine q_then_n (hK29 _ _ ?_)
         refine c_region ?_
         refine tp rfl (lv_move rfl) ?_
         refine tp rfl (lv_add (c := ((j + 1 : Nat) : Int)) rfl rfl (wr_i64_succ (by omega))) ?_
         refine tp rfl (lv_assign rfl) ?_
         refine t_done ?_
         refine q_then_n ?_
         refine t_f1 ?_
         refine t_f1 ?_
         refine t_f2 ?_
         exact t_weak (by exact ⟨rfl, rfl, rfl, rfl, rfl, rfl, rfl, rfl, rfl, rfl, rfl, rfl, rfl, rfl, rfl, rfl, trivial⟩) ((hK26 (j + 1, popK ks) ⟨by omega, by dsimp only; omega⟩ (by dsimp only; omega)))
        · -- no
         refine tp rfl (lv_lss rfl rfl (decide_eq_false h19)) ?_
         refine t_done ?_
         refine q_then_n (hK28 _ _ ?_)
         refine c_false rfl ?_
         refine c_exit ?_
         refine q_then_x ?_
         refine q_then_x ?_
         refine q_in_x ?_
         refine q_then_n (hK24 _ _ ?_)
         refine c_seq (fun K29 hK29 => ?_)
         refine c_region ?_
         refine tp rfl (lv_move rfl) ?_
         refine tp rfl (lv_assign rfl) ?_
         refine t_done ?_
         refine q_then_n (hK29 _ _ ?_)
         refine c_ret ?_
         refine t_drop ?_
         refine t_drop ?_
         refine t_drop ?_
         refine q_ret rfl rfl ?_
         exact ⟨rfl, rfl⟩
end Go.Proofs.Ytchnphachgcjmaa
