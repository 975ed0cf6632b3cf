/- HeapTakes: the law's walk. -/
import Derived.Test.YtchnphachgcjmaaLa
import Derived.Test.YtchnphachgcjmaaHpl3
set_option maxRecDepth 100000
set_option linter.unusedVariables false
set_option linter.unusedSimpArgs false
namespace Go.Proofs.Ytchnphachgcjmaa
open Go Go.Proofs Sp
set_option maxHeartbeats 20000000 in
theorem takes_law {R : List HP} {bkb : Option Addr} {ckb : Nat} (keys : List Int) (hkb : Rd R bkb (ints .i64 keys)) (okkb : SlOk bkb keys.length) (lkb : keys.length ≤ 9223372036854775807) (wfkb : ∀ x ∈ keys, (Lit.int .i64 x).wf = true) {bib : Option Addr} {cib : Nat} (ids : List Int) (hib : Rd R bib (ints .u8 ids)) (okib : SlOk bib ids.length) (lib : ids.length ≤ 9223372036854775807) (wfib : ∀ x ∈ ids, (Lit.int .u8 x).wf = true) :
    Ok Try.prog 5 [(.slice bkb keys.length ckb), (.slice bib ids.length cib)] R
      (fun v M => v = .bool true ∧ M = R) := by
  obtain ⟨n, hn⟩ : ∃ n, n = min keys.length 60 := ⟨_, rfl⟩
  have hcm : hclamp ((n : Nat) : Int) = n := by unfold hclamp; omega
  have hkn : ∀ x : Nat, x < n → -9223372036854775808 ≤ keys.getD x 0 ∧ keys.getD x 0 ≤ 9223372036854775807 := fun x hx => by have h9 := wfkb (keys.getD x 0) (by simp [List.getD, show x < keys.length by omega]); simpa [Lit.wf, IntKind.min, IntKind.max, IntKind.signed, IntKind.bits] using h9
  refine ok_of (N := 182) Try.func5 rfl rfl rfl (fun W => ?_)
  refine c_seq (fun K1 hK1 => ?_)
  refine c_region ?_
  refine tp rfl (lv_assign rfl) ?_
  refine t_done ?_
  refine q_then_n (hK1 _ _ ?_)
  refine c_seq (fun K2 hK2 => ?_)
  refine c_region ?_
  refine tc rfl (en_fn Try.call11 rfl) (shown_ok) ?_
  rintro _ _ ⟨rfl, hMR⟩
  rw [hMR]; clear hMR
  refine tp rfl (lv_assign rfl) ?_
  refine t_done ?_
  refine q_then_n (hK2 _ _ ?_)
  refine c_seq (fun K3 hK3 => ?_)
  refine c_region ?_
  refine tp rfl (lv_move rfl) ?_
  refine tp rfl (lv_len Try.underlying22 rfl rfl) ?_
  refine tp rfl (lv_min (c := ((n : Nat) : Int)) rfl rfl (by omega)) ?_
  refine tp rfl (lv_assign rfl) ?_
  refine t_done ?_
  refine q_then_n (hK3 _ _ ?_)
  refine c_seq (fun K4 hK4 => ?_)
  refine c_region ?_
  refine tp rfl (lv_move rfl) ?_
  refine tc rfl (en_fn Try.call12 rfl) (hnew_ok ((n : Nat) : Int)) ?_
  rintro _ _ ⟨p1, rfl, rfl⟩
  rw [show hclamp ((n : Nat) : Int) = n from hcm]
  refine tp rfl (lv_assign rfl) ?_
  refine t_done ?_
  refine q_then_n (hK4 _ _ ?_)
  refine c_seq (fun K5 hK5 => ?_)
  refine c_region ?_
  refine tp rfl (lv_move rfl) ?_
  refine tc rfl (en_fn Try.call12 rfl) (hnew_ok ((n : Nat) : Int)) ?_
  rintro _ _ ⟨p2, rfl, rfl⟩
  rw [show hclamp ((n : Nat) : Int) = n from hcm]
  refine tp rfl (lv_assign rfl) ?_
  refine t_done ?_
  refine q_then_n (hK5 _ _ ?_)
  refine c_seq (fun K6 hK6 => ?_)
  refine c_seq (fun K7 hK7 => ?_)
  refine c_region ?_
  refine tp rfl (lv_move rfl) ?_
  refine tp rfl (lv_eqnil Try.underlying25 rfl rfl) ?_
  refine tp rfl (lv_move rfl) ?_
  refine t_guard rfl rfl ?_
  refine tp rfl (lv_move rfl) ?_
  refine t_guard rfl rfl ?_
  refine tp rfl (lv_eqnil Try.underlying25 rfl rfl) ?_
  refine tp rfl (lv_pick_f rfl rfl) ?_
  refine t_done ?_
  refine q_then_n (hK7 _ _ ?_)
  refine c_false rfl ?_
  refine c_skip ?_
  refine q_then_n (hK6 _ _ ?_)
  refine c_seq (fun K8 hK8 => ?_)
  refine c_region ?_
  refine tp rfl (lv_move rfl) ?_
  refine tm rfl (mv_makeSlice (i := Try.t4) Try.underlying30 Try.type4 rfl rfl rfl rfl rfl (by omega) (by rw [show Try.t4.bytes = 1 from rfl]; omega) (by omega)) ?_
  rintro _ _ ⟨bs3, cp4, hok5, hle6, rfl, rfl⟩
  rw [bools_rep]
  refine tp rfl (lv_assign rfl) ?_
  refine t_done ?_
  refine q_then_n (hK8 _ _ ?_)
  refine c_seq (fun K9 hK9 => ?_)
  refine c_seq (fun K10 hK10 => ?_)
  refine c_region ?_
  refine tp rfl (lv_assign rfl) ?_
  refine t_done ?_
  refine q_then_n (hK10 _ _ ?_)
  refine c_block ?_
  rw [show List.replicate (n) none = prtK keys n 0 from (prtK_zero ..).symm]
  refine c_loop (γ := (Nat)) (fun (i : Nat) => i ≤ n) (fun (i : Nat) => [(0, (.slice bkb keys.length ckb)), (1, (.slice bib ids.length cib)), (5, (.bool true)), (6, (.int .i64 ((n : Nat) : Int))), (7, (.pointer (some ⟨p1, 0, none⟩))), (8, (.pointer (some ⟨p2, 0, none⟩))), (9, (.slice bs3 n cp4)), (10, (.int .i64 ((i : Nat) : Int))), (37, (.bool false))]) (fun (i : Nat) => (SlV 4 1 (.slice bs3 n cp4) n (bools (List.replicate n false))) :: (HeapO p2 n (prtK keys n 0)) :: (HeapO p1 n (prtK keys n i)) :: R) (fun (i : Nat) => n - i) (0) (by omega) ⟨rfl, rfl, rfl, rfl, rfl, rfl, rfl, rfl, rfl, trivial⟩ (fun _ h => h) ?_
  rintro i K11 hF hK11
  try dsimp only at hF hK11 ⊢
  obtain hi := hF
  refine c_seq (fun K12 hK12 => ?_)
  refine c_seq (fun K13 hK13 => ?_)
  refine c_region ?_
  refine tp rfl (lv_move rfl) ?_
  refine tp rfl (lv_move rfl) ?_
  by_cases h7 : ((i : Nat) : Int) < ((n : Nat) : Int)
  · -- yes
    refine tp rfl (lv_lss rfl rfl (decide_eq_true h7)) ?_
    refine t_done ?_
    refine q_then_n (hK13 _ _ ?_)
    refine c_true rfl ?_
    refine c_skip ?_
    refine q_then_n (hK12 _ _ ?_)
    refine c_seq (fun K14 hK14 => ?_)
    refine c_block ?_
    refine c_seq (fun K15 hK15 => ?_)
    refine c_region ?_
    have hpp := prtK_push (keys := keys) (n := n) (i := i) (by omega) (by omega)
    refine tp rfl (lv_move rfl) ?_
    refine tp rfl (lv_move rfl) ?_
    refine tp rfl (lv_move rfl) ?_
    refine tp rfl (lv_move rfl) ?_
    refine tp rfl (lv_indexAddr (k' := i) Try.underlying22 Try.sizeOf3 rfl rfl okkb (by omega) (by omega) (by omega)) ?_
    refine tp rfl (lv_load Try.isAgg3 rfl (Rd.gives (Rd.cons (Rd.cons (Rd.cons hkb))) (ints_get (by omega)))) ?_
    refine t_f2 ?_
    refine tc rfl (en_fn Try.call13 rfl) (hpush_ok (n := n) (ks := prtK keys n i) ((i : Nat) : Int) ((keys).getD i 0)) ?_
    rintro _ _ ⟨rfl, rfl⟩
    rw [show pushE (prtK keys n i) ((i : Nat) : Int) = 0 from hpp.1]
    rw [show pushK (prtK keys n i) ((i : Nat) : Int) (keys.getD i 0) = prtK keys n (i + 1) from hpp.2]
    refine tp rfl (lv_neq (r := false) rfl rfl (by decide)) ?_
    refine t_done ?_
    refine q_then_n (hK15 _ _ ?_)
    refine c_false rfl ?_
    refine c_skip ?_
    refine q_in_n ?_
    refine q_then_n (hK14 _ _ ?_)
    refine c_region ?_
    refine tp rfl (lv_move rfl) ?_
    refine tp rfl (lv_add (c := ((i + 1 : Nat) : Int)) rfl rfl (wr_i64_succ (by omega))) ?_
    refine tp rfl (lv_assign rfl) ?_
    refine t_done ?_
    refine q_then_n ?_
    refine t_f2 ?_
    refine t_f2 ?_
    exact t_weak (by exact ⟨rfl, rfl, rfl, rfl, rfl, rfl, rfl, rfl, rfl, trivial⟩) ((hK11 (i + 1) (by omega) (by omega)))
  · -- no
    refine tp rfl (lv_lss rfl rfl (decide_eq_false h7)) ?_
    refine t_done ?_
    refine q_then_n (hK13 _ _ ?_)
    refine c_false rfl ?_
    refine c_exit ?_
    refine q_then_x ?_
    refine q_then_x ?_
    refine q_in_x ?_
    refine q_then_n (hK9 _ _ ?_)
    refine c_seq (fun K14 hK14 => ?_)
    refine c_seq (fun K15 hK15 => ?_)
    refine c_region ?_
    rw [show prtK keys n i = selK keys (List.replicate n false) n from by rw [show i = n by omega]; exact selK_all (by omega)]
    refine tp rfl (lv_assign rfl) ?_
    refine t_done ?_
    refine q_then_n (hK15 _ _ ?_)
    refine c_block ?_
    refine c_loop (γ := (Nat) × (List Bool)) (fun (t, gone) => t ≤ 60 ∧ gone.length = n) (fun (t, gone) => [(0, (.slice bkb keys.length ckb)), (1, (.slice bib ids.length cib)), (5, (.bool true)), (6, (.int .i64 ((n : Nat) : Int))), (7, (.pointer (some ⟨p1, 0, none⟩))), (8, (.pointer (some ⟨p2, 0, none⟩))), (9, (.slice bs3 n cp4)), (10, (.int .i64 ((i : Nat) : Int))), (11, (.int .i64 ((t : Nat) : Int))), (37, (.bool false)), (42, (.bool false))]) (fun (t, gone) => (SlV 4 1 (.slice bs3 n cp4) n (bools gone)) :: (HeapO p2 n (prtK keys n 0)) :: (HeapO p1 n (selK keys gone n)) :: R) (fun (t, gone) => 60 - t) (0, List.replicate n false) ⟨by omega, List.length_replicate⟩ ⟨rfl, rfl, rfl, rfl, rfl, rfl, rfl, rfl, rfl, rfl, rfl, trivial⟩ (fun _ h => h) ?_
    rintro ⟨t, gone⟩ K16 hF hK16
    try dsimp only at hF hK16 ⊢
    obtain ⟨ht, hgl⟩ := hF
    refine c_seq (fun K17 hK17 => ?_)
    refine c_seq (fun K18 hK18 => ?_)
    refine c_region ?_
    refine tp rfl (lv_move rfl) ?_
    by_cases h8 : ((n : Nat) : Int) > 0
    · -- yes
      refine tp rfl (lv_gtr rfl rfl (decide_eq_true h8)) ?_
      refine tp rfl (lv_move rfl) ?_
      refine t_guard rfl rfl ?_
      refine tp rfl (lv_move rfl) ?_
      refine t_guard rfl rfl ?_
      refine tp rfl (lv_move rfl) ?_
      refine t_guard rfl rfl ?_
      refine tp rfl (lv_len Try.underlying35 rfl rfl) ?_
      refine t_guard rfl rfl ?_
      by_cases h9 : ((t : Nat) : Int) < ((ids.length : Nat) : Int)
      · -- yes
        refine tp rfl (lv_lss rfl rfl (decide_eq_true h9)) ?_
        refine tp rfl (lv_pick_t rfl rfl) ?_
        refine tp rfl (lv_move rfl) ?_
        refine t_guard rfl rfl ?_
        refine tp rfl (lv_move rfl) ?_
        refine t_guard rfl rfl ?_
        by_cases h10 : ((t : Nat) : Int) < 60
        · -- yes
         refine tp rfl (lv_lss rfl rfl (decide_eq_true h10)) ?_
         refine tp rfl (lv_pick_t rfl rfl) ?_
         refine t_done ?_
         refine q_then_n (hK18 _ _ ?_)
         refine c_true rfl ?_
         refine c_skip ?_
         refine q_then_n (hK17 _ _ ?_)
         refine c_seq (fun K19 hK19 => ?_)
         refine c_block ?_
         refine c_seq (fun K20 hK20 => ?_)
         refine c_region ?_
         have hwib : 0 ≤ ids.getD t 0 ∧ ids.getD t 0 ≤ 255 := by have h9 := wfib (ids.getD t 0) (by simp [List.getD, show t < ids.length by omega]); simpa [Lit.wf, IntKind.min, IntKind.max, IntKind.signed, IntKind.bits] using h9
         have hq0 := Int.emod_nonneg (ids.getD t 0) (show ((n : Nat) : Int) ≠ 0 by omega)
         have hq1 := Int.emod_lt_of_pos (ids.getD t 0) (show 0 < ((n : Nat) : Int) by omega)
         obtain ⟨r0, hr0⟩ : ∃ k : Nat, ids.getD t 0 % ((n : Nat) : Int) = (k : Int) := ⟨(ids.getD t 0 % ((n : Nat) : Int)).toNat, by omega⟩
         have hrn : r0 < n := by omega
         refine tp rfl (lv_move rfl) ?_
         refine tp rfl (lv_move rfl) ?_
         refine tp rfl (lv_indexAddr (k' := t) Try.underlying35 Try.sizeOf5 rfl rfl okib (by omega) (by omega) (by omega)) ?_
         refine tp rfl (lv_load Try.isAgg5 rfl (Rd.gives (Rd.cons (Rd.cons (Rd.cons hib))) (ints_get (by omega)))) ?_
         refine tp rfl (lv_convert (c := (ids).getD t 0) Try.underlying5 Try.underlying3 rfl (wr_i64 (by omega) (by omega))) ?_
         refine tp rfl (lv_move rfl) ?_
         refine tp rfl (lv_rem (c := ((r0 : Nat) : Int)) rfl rfl (by omega) ((Int.tmod_eq_emod_of_nonneg (by omega)).trans hr0)) ?_
         refine tp rfl (lv_assign rfl) ?_
         refine t_done ?_
         refine q_then_n (hK20 _ _ ?_)
         refine c_seq (fun K21 hK21 => ?_)
         refine c_region ?_
         have hsh := selK_has (keys := keys) (gone := gone) (n := n) (x := ((r0 : Nat) : Int)) (by omega)
         have hsr := selK_rem (keys := keys) (gone := gone) (n := n) hgl (x := ((r0 : Nat) : Int)) (by omega)
         rw [Int.toNat_natCast] at hsh hsr
         have hsh2 := (selK_has (keys := keys) (gone := gone.set r0 true) (n := n) (x := ((r0 : Nat) : Int)) (by omega)).1
         rw [Int.toNat_natCast, show (gone.set r0 true).getD r0 false = true from by simp [List.getD, show r0 < gone.length by omega]] at hsh2
         refine tp rfl (lv_move rfl) ?_
         refine tp rfl (lv_move rfl) ?_
         refine t_f2 ?_
         refine tc rfl (en_fn Try.call17 rfl) (hrem_ok (n := n) (ks := selK keys gone n) ((r0 : Nat) : Int)) ?_
         rintro _ _ ⟨rfl, rfl⟩
         rw [show remE (selK keys gone n) ((r0 : Nat) : Int) = (bif gone.getD r0 false then 6 else 0) from hsr.2]
         rw [show remK (selK keys gone n) ((r0 : Nat) : Int) = selK keys (gone.set r0 true) n from hsr.1]
         refine tp rfl (lv_move rfl) ?_
         refine tp rfl (lv_extract rfl rfl) ?_
         refine tp rfl (lv_extract rfl rfl) ?_
         refine tp rfl (lv_assign rfl) ?_
         refine tp rfl (lv_assign rfl) ?_
         refine t_done ?_
         refine q_then_n (hK21 _ _ ?_)
         refine c_seq (fun K22 hK22 => ?_)
         refine c_seq (fun K23 hK23 => ?_)
         rcases hg : gone.getD r0 false with _ | _
         · -- false
          rw [show keyK (selK keys gone n) ((r0 : Nat) : Int) = keys.getD r0 0 from hsh.2 hg]
          simp only [cond_true, cond_false]
          refine c_region ?_
          refine tp rfl (lv_move rfl) ?_
          refine tp rfl (lv_eql (r := true) rfl rfl (by decide)) ?_
          refine tp rfl (lv_move rfl) ?_
          refine tp rfl (lv_move rfl) ?_
          refine tp rfl (lv_indexAddr (k' := r0) Try.underlying30 Try.sizeOf4 rfl rfl hok5 (by omega) (by omega) (by omega)) ?_
          refine tp rfl (lv_load Try.isAgg4 rfl (gives_as (v := .bool false) (by first | rw [hg] | rw [Int.toNat_natCast, hg]) (gives_sl (.tail _ (.head _)) (bools_get (by omega))))) ?_
          refine tp rfl (lv_eqb Try.underlying4 rfl rfl rfl) ?_
          refine tp rfl (lv_move rfl) ?_
          refine t_guard rfl rfl ?_
          refine tp rfl (lv_move rfl) ?_
          refine t_guard rfl rfl ?_
          refine tp rfl (lv_eql (r := true) rfl rfl (by decide)) ?_
          refine t_guard rfl rfl ?_
          refine tp rfl (lv_move rfl) ?_
          refine t_guard rfl rfl ?_
          refine tp rfl (lv_move rfl) ?_
          refine t_guard rfl rfl ?_
          refine tp rfl (lv_move rfl) ?_
          refine t_guard rfl rfl ?_
          refine tp rfl (lv_move rfl) ?_
          refine t_guard rfl rfl ?_
          refine tp rfl (lv_indexAddr (k' := r0) Try.underlying22 Try.sizeOf3 rfl rfl okkb (by omega) (by omega) (by omega)) ?_
          refine t_guard rfl rfl ?_
          refine tp rfl (lv_load Try.isAgg3 rfl (Rd.gives (Rd.cons (Rd.cons (Rd.cons hkb))) (ints_get (by omega)))) ?_
          refine t_guard rfl rfl ?_
          refine tp rfl (lv_neq rfl rfl (bne_eq_false_iff_eq.2 (by omega))) ?_
          refine t_guard rfl rfl ?_
          refine tp rfl (lv_pick_t rfl rfl) ?_
          refine tp rfl (lv_pick_f rfl rfl) ?_
          refine tp rfl (lv_move rfl) ?_
          refine t_guard rfl rfl ?_
          refine tp rfl (lv_move rfl) ?_
          refine t_guard rfl rfl ?_
          refine tp rfl (lv_neq (r := false) rfl rfl (by decide)) ?_
          refine t_guard rfl rfl ?_
          refine tp rfl (lv_move rfl) ?_
          refine t_skip rfl rfl rfl ?_
          refine t_skip rfl rfl rfl ?_
          refine t_guard rfl rfl ?_
          refine tp rfl (lv_pick_f rfl rfl) ?_
          refine tp rfl (lv_pick_f rfl rfl) ?_
          refine tp rfl (lv_move rfl) ?_
          refine t_guard rfl rfl ?_
          refine tp rfl (lv_move rfl) ?_
          refine t_guard rfl rfl ?_
          refine tp rfl (lv_move rfl) ?_
          refine t_guard rfl rfl ?_
          refine tc rfl (en_fn Try.call18 rfl) (hasK_ok (n := n) (ks := selK keys (gone.set r0 true) n) ((r0 : Nat) : Int)) ?_
          rintro _ _ ⟨rfl, rfl⟩
          rw [show hasK (selK keys (gone.set r0 true) n) ((r0 : Nat) : Int) = false from hsh2]
          refine tp rfl (lv_pick_f rfl rfl) ?_
          refine t_done ?_
          refine q_then_n (hK23 _ _ ?_)
          refine c_false rfl ?_
          refine c_skip ?_
          refine q_then_n (hK22 _ _ ?_)
          refine c_region ?_
          refine tp rfl (lv_move rfl) ?_
          refine tp rfl (lv_move rfl) ?_
          refine tp rfl (lv_indexAddr (k' := r0) Try.underlying30 Try.sizeOf4 rfl rfl hok5 (by omega) (by omega) (by omega)) ?_
          refine t_f1 ?_
          refine ts (sv_sl Try.sizeOf4 rfl rfl rfl (by rw [bools_length]; omega) bools_set) ?_
          refine t_done ?_
          refine q_in_n ?_
          refine q_then_n (hK19 _ _ ?_)
          refine c_region ?_
          refine tp rfl (lv_move rfl) ?_
          refine tp rfl (lv_add (c := ((t + 1 : Nat) : Int)) rfl rfl (wr_i64_succ (by omega))) ?_
          refine tp rfl (lv_assign rfl) ?_
          refine t_done ?_
          refine q_then_n ?_
          refine t_f1 ?_
          refine t_f2 ?_
          refine t_f2 ?_
          exact t_weak (by exact ⟨rfl, rfl, rfl, rfl, rfl, rfl, rfl, rfl, rfl, rfl, rfl, trivial⟩) ((hK16 (t + 1, gone.set r0 true) ⟨by omega, by dsimp only; rw [List.length_set]; exact hgl⟩ (by dsimp only; omega)))
         · -- true
          simp only [cond_true, cond_false]
          refine c_region ?_
          refine tp rfl (lv_move rfl) ?_
          refine tp rfl (lv_eql (r := false) rfl rfl (by decide)) ?_
          refine tp rfl (lv_move rfl) ?_
          refine tp rfl (lv_move rfl) ?_
          refine tp rfl (lv_indexAddr (k' := r0) Try.underlying30 Try.sizeOf4 rfl rfl hok5 (by omega) (by omega) (by omega)) ?_
          refine tp rfl (lv_load Try.isAgg4 rfl (gives_as (v := .bool true) (by first | rw [hg] | rw [Int.toNat_natCast, hg]) (gives_sl (.tail _ (.head _)) (bools_get (by omega))))) ?_
          refine tp rfl (lv_eqb Try.underlying4 rfl rfl rfl) ?_
          refine tp rfl (lv_move rfl) ?_
          refine t_guard rfl rfl ?_
          refine tp rfl (lv_move rfl) ?_
          refine t_guard rfl rfl ?_
          refine tp rfl (lv_eql (r := false) rfl rfl (by decide)) ?_
          refine t_guard rfl rfl ?_
          refine tp rfl (lv_move rfl) ?_
          refine t_skip rfl rfl rfl ?_
          refine t_skip rfl rfl rfl ?_
          refine t_skip rfl rfl rfl ?_
          refine t_skip rfl rfl rfl ?_
          refine t_skip rfl rfl rfl ?_
          refine t_skip rfl rfl rfl ?_
          refine t_guard rfl rfl ?_
          refine tp rfl (lv_pick_f rfl rfl) ?_
          refine tp rfl (lv_pick_f rfl rfl) ?_
          refine tp rfl (lv_move rfl) ?_
          refine t_guard rfl rfl ?_
          refine tp rfl (lv_move rfl) ?_
          refine t_guard rfl rfl ?_
          refine tp rfl (lv_neq (r := true) rfl rfl (by decide)) ?_
          refine t_guard rfl rfl ?_
          refine tp rfl (lv_move rfl) ?_
          refine t_guard rfl rfl ?_
          refine tp rfl (lv_move rfl) ?_
          refine t_guard rfl rfl ?_
          refine tp rfl (lv_neq (r := false) rfl rfl (by decide)) ?_
          refine t_guard rfl rfl ?_
          refine tp rfl (lv_pick_t rfl rfl) ?_
          refine tp rfl (lv_pick_f rfl rfl) ?_
          refine tp rfl (lv_move rfl) ?_
          refine t_guard rfl rfl ?_
          refine tp rfl (lv_move rfl) ?_
          refine t_guard rfl rfl ?_
          refine tp rfl (lv_move rfl) ?_
          refine t_guard rfl rfl ?_
          refine tc rfl (en_fn Try.call18 rfl) (hasK_ok (n := n) (ks := selK keys (gone.set r0 true) n) ((r0 : Nat) : Int)) ?_
          rintro _ _ ⟨rfl, rfl⟩
          rw [show hasK (selK keys (gone.set r0 true) n) ((r0 : Nat) : Int) = false from hsh2]
          refine tp rfl (lv_pick_f rfl rfl) ?_
          refine t_done ?_
          refine q_then_n (hK23 _ _ ?_)
          refine c_false rfl ?_
          refine c_skip ?_
          refine q_then_n (hK22 _ _ ?_)
          refine c_region ?_
          refine tp rfl (lv_move rfl) ?_
          refine tp rfl (lv_move rfl) ?_
          refine tp rfl (lv_indexAddr (k' := r0) Try.underlying30 Try.sizeOf4 rfl rfl hok5 (by omega) (by omega) (by omega)) ?_
          refine t_f1 ?_
          refine ts (sv_sl Try.sizeOf4 rfl rfl rfl (by rw [bools_length]; omega) bools_set) ?_
          refine t_done ?_
          refine q_in_n ?_
          refine q_then_n (hK19 _ _ ?_)
          refine c_region ?_
          refine tp rfl (lv_move rfl) ?_
          refine tp rfl (lv_add (c := ((t + 1 : Nat) : Int)) rfl rfl (wr_i64_succ (by omega))) ?_
          refine tp rfl (lv_assign rfl) ?_
          refine t_done ?_
          refine q_then_n ?_
          refine t_f1 ?_
          refine t_f2 ?_
          refine t_f2 ?_
          exact t_weak (by exact ⟨rfl, rfl, rfl, rfl, rfl, rfl, rfl, rfl, rfl, rfl, rfl, trivial⟩) ((hK16 (t + 1, gone.set r0 true) ⟨by omega, by dsimp only; rw [List.length_set]; exact hgl⟩ (by dsimp only; omega)))
        · -- no
         refine tp rfl (lv_lss rfl rfl (decide_eq_false h10)) ?_
         refine tp rfl (lv_pick_t rfl rfl) ?_
         refine t_done ?_
         refine q_then_n (hK18 _ _ ?_)
         refine c_false rfl ?_
         refine c_exit ?_
         refine q_then_x ?_
         refine q_then_x ?_
         refine q_in_x ?_
         refine q_then_n (hK14 _ _ ?_)
         refine c_seq (fun K19 hK19 => ?_)
         refine c_region ?_
         refine tp rfl (lv_assign rfl) ?_
         refine t_done ?_
         refine q_then_n (hK19 _ _ ?_)
         refine c_seq (fun K20 hK20 => ?_)
         refine c_seq (fun K21 hK21 => ?_)
         refine c_region ?_
         rw [show prtK keys n 0 = selI keys gone n 0 from (prtK_zero ..).trans (selI_zero ..)]
         refine tp rfl (lv_assign rfl) ?_
         refine t_done ?_
         refine q_then_n (hK21 _ _ ?_)
         refine c_block ?_
         refine c_loop (γ := (Nat) × (Int)) (fun (i2, left) => i2 ≤ n ∧ left = ((cntK (selI keys gone n i2) : Nat) : Int)) (fun (i2, left) => [(0, (.slice bkb keys.length ckb)), (1, (.slice bib ids.length cib)), (5, (.bool true)), (6, (.int .i64 ((n : Nat) : Int))), (7, (.pointer (some ⟨p1, 0, none⟩))), (8, (.pointer (some ⟨p2, 0, none⟩))), (9, (.slice bs3 n cp4)), (10, (.int .i64 ((i : Nat) : Int))), (11, (.int .i64 ((t : Nat) : Int))), (15, (.int .i64 left)), (16, (.int .i64 ((i2 : Nat) : Int))), (37, (.bool false)), (42, (.bool false)), (64, (.bool false))]) (fun (i2, left) => (SlV 4 1 (.slice bs3 n cp4) n (bools gone)) :: (HeapO p2 n (selI keys gone n i2)) :: (HeapO p1 n (selK keys gone n)) :: R) (fun (i2, left) => n - i2) (0, 0) ⟨by omega, by rw [← selI_zero, cnt_rep]; rfl⟩ ⟨rfl, rfl, rfl, rfl, rfl, rfl, rfl, rfl, rfl, rfl, rfl, rfl, rfl, rfl, trivial⟩ (fun _ h => h) ?_
         rintro ⟨i2, left⟩ K22 hF hK22
         try dsimp only at hF hK22 ⊢
         obtain ⟨hi2, hlf⟩ := hF
         have hcl := cnt_le (selI keys gone n i2)
         rw [selI_len] at hcl
         refine c_seq (fun K23 hK23 => ?_)
         refine c_seq (fun K24 hK24 => ?_)
         refine c_region ?_
         refine tp rfl (lv_move rfl) ?_
         refine tp rfl (lv_move rfl) ?_
         by_cases h11 : ((i2 : Nat) : Int) < ((n : Nat) : Int)
         · -- yes
          refine tp rfl (lv_lss rfl rfl (decide_eq_true h11)) ?_
          refine t_done ?_
          refine q_then_n (hK24 _ _ ?_)
          refine c_true rfl ?_
          refine c_skip ?_
          refine q_then_n (hK23 _ _ ?_)
          refine c_seq (fun K25 hK25 => ?_)
          refine c_block ?_
          refine c_seq (fun K26 hK26 => ?_)
          rcases hg : gone.getD i2 false with _ | _
          · -- false
           have hpi := selI_push (keys := keys) (gone := gone) (n := n) (i := i2) (by omega) hg
           refine c_region ?_
           refine tp rfl (lv_move rfl) ?_
           refine tp rfl (lv_move rfl) ?_
           refine tp rfl (lv_indexAddr (k' := i2) Try.underlying30 Try.sizeOf4 rfl rfl hok5 (by omega) (by omega) (by omega)) ?_
           refine tp rfl (lv_load Try.isAgg4 rfl (gives_as (v := .bool false) (by first | rw [hg] | rw [Int.toNat_natCast, hg]) (gives_sl (.head _) (bools_get (by omega))))) ?_
           refine tp rfl (lv_not (c := true) rfl rfl) ?_
           refine t_done ?_
           refine q_then_n (hK26 _ _ ?_)
           refine c_true rfl ?_
           refine c_seq (fun K27 hK27 => ?_)
           refine c_region ?_
           refine tp rfl (lv_move rfl) ?_
           refine tp rfl (lv_add (c := left + 1) rfl rfl (wr_i64 (by omega) (by omega))) ?_
           refine tp rfl (lv_assign rfl) ?_
           refine t_done ?_
           refine q_then_n (hK27 _ _ ?_)
           refine c_seq (fun K28 hK28 => ?_)
           refine c_region ?_
           refine tp rfl (lv_move rfl) ?_
           refine tp rfl (lv_move rfl) ?_
           refine tp rfl (lv_move rfl) ?_
           refine tp rfl (lv_move rfl) ?_
           refine tp rfl (lv_indexAddr (k' := i2) Try.underlying22 Try.sizeOf3 rfl rfl okkb (by omega) (by omega) (by omega)) ?_
           refine tp rfl (lv_load Try.isAgg3 rfl (Rd.gives (Rd.cons (Rd.cons (Rd.cons hkb))) (ints_get (by omega)))) ?_
           refine t_f1 ?_
           refine tc rfl (en_fn Try.call13 rfl) (hpush_ok (n := n) (ks := selI keys gone n i2) ((i2 : Nat) : Int) ((keys).getD i2 0)) ?_
           rintro _ _ ⟨rfl, rfl⟩
           rw [show pushE (selI keys gone n i2) ((i2 : Nat) : Int) = 0 from hpi.1]
           rw [show pushK (selI keys gone n i2) ((i2 : Nat) : Int) (keys.getD i2 0) = selI keys gone n (i2 + 1) from hpi.2.1]
           refine tp rfl (lv_neq (r := false) rfl rfl (by decide)) ?_
           refine t_done ?_
           refine q_then_n (hK28 _ _ ?_)
           refine c_false rfl ?_
           refine c_skip ?_
           refine q_in_n ?_
           refine q_then_n (hK25 _ _ ?_)
           refine c_region ?_
           refine tp rfl (lv_move rfl) ?_
           refine tp rfl (lv_add (c := ((i2 + 1 : Nat) : Int)) rfl rfl (wr_i64_succ (by omega))) ?_
           refine tp rfl (lv_assign rfl) ?_
           refine t_done ?_
           refine q_then_n ?_
           refine t_f1 ?_
           exact t_weak (by exact ⟨rfl, rfl, rfl, rfl, rfl, rfl, rfl, rfl, rfl, rfl, rfl, rfl, rfl, rfl, trivial⟩) ((hK22 (i2 + 1, left + 1) ⟨by omega, by dsimp only; first | (rw [hsk]; exact hlf) | (have h9 := hpi.2.2; omega)⟩ (by dsimp only; omega)))
          · -- true
           have hsk := selI_skip (keys := keys) (gone := gone) (n := n) (i := i2) hg
           rw [← hsk]
           refine c_region ?_
           refine tp rfl (lv_move rfl) ?_
           refine tp rfl (lv_move rfl) ?_
           refine tp rfl (lv_indexAddr (k' := i2) Try.underlying30 Try.sizeOf4 rfl rfl hok5 (by omega) (by omega) (by omega)) ?_
           refine tp rfl (lv_load Try.isAgg4 rfl (gives_as (v := .bool true) (by first | rw [hg] | rw [Int.toNat_natCast, hg]) (gives_sl (.head _) (bools_get (by omega))))) ?_
           refine tp rfl (lv_not (c := false) rfl rfl) ?_
           refine t_done ?_
           refine q_then_n (hK26 _ _ ?_)
           refine c_false rfl ?_
           refine c_skip ?_
           refine q_in_n ?_
           refine q_then_n (hK25 _ _ ?_)
           refine c_region ?_
           refine tp rfl (lv_move rfl) ?_
           refine tp rfl (lv_add (c := ((i2 + 1 : Nat) : Int)) rfl rfl (wr_i64_succ (by omega))) ?_
           refine tp rfl (lv_assign rfl) ?_
           refine t_done ?_
           refine q_then_n ?_
           exact t_weak (by exact ⟨rfl, rfl, rfl, rfl, rfl, rfl, rfl, rfl, rfl, rfl, rfl, rfl, rfl, rfl, trivial⟩) ((hK22 (i2 + 1, left) ⟨by omega, by dsimp only; first | (rw [hsk]; exact hlf) | (have h9 := hpi.2.2; omega)⟩ (by dsimp only; omega)))
         · -- no
          refine tp rfl (lv_lss rfl rfl (decide_eq_false h11)) ?_
          refine t_done ?_
          refine q_then_n (hK24 _ _ ?_)
          refine c_false rfl ?_
          refine c_exit ?_
          refine q_then_x ?_
          refine q_then_x ?_
          refine q_in_x ?_
          refine q_then_n (hK20 _ _ ?_)
          refine c_seq (fun K25 hK25 => ?_)
          refine c_seq (fun K26 hK26 => ?_)
          refine c_region ?_
          rw [show selI keys gone n i2 = selK keys gone n from by rw [show i2 = n by omega]; exact selI_end ..]
          have hlf2 : left = ((cntK (selK keys gone n) : Nat) : Int) := by rw [hlf, show i2 = n by omega, selI_end]
          refine tp rfl (lv_move rfl) ?_
          refine t_f2 ?_
          refine tc rfl (en_fn Try.call15 rfl) (hlen_ok (n := n) (ks := selK keys gone n) ) ?_
          rintro _ _ ⟨rfl, rfl⟩
          refine tp rfl (lv_move rfl) ?_
          refine tp rfl (lv_neq rfl rfl (bne_eq_false_iff_eq.2 (by omega))) ?_
          refine t_done ?_
          refine q_then_n (hK26 _ _ ?_)
          refine c_false rfl ?_
          refine c_skip ?_
          refine q_then_n (hK25 _ _ ?_)
          refine c_seq (fun K27 hK27 => ?_)
          refine c_seq (fun K28 hK28 => ?_)
          refine c_region ?_
          refine tp rfl (lv_assign rfl) ?_
          refine t_done ?_
          refine q_then_n (hK28 _ _ ?_)
          refine c_block ?_
          refine c_loop (γ := (Nat) × (Ks)) (fun (j, ks) => ((cntK ks + j : Nat) : Int) = left ∧ ks.length = n) (fun (j, ks) => [(0, (.slice bkb keys.length ckb)), (1, (.slice bib ids.length cib)), (5, (.bool true)), (6, (.int .i64 ((n : Nat) : Int))), (7, (.pointer (some ⟨p1, 0, none⟩))), (8, (.pointer (some ⟨p2, 0, none⟩))), (9, (.slice bs3 n cp4)), (10, (.int .i64 ((i : Nat) : Int))), (11, (.int .i64 ((t : Nat) : Int))), (15, (.int .i64 left)), (16, (.int .i64 ((i2 : Nat) : Int))), (17, (.int .i64 ((j : Nat) : Int))), (37, (.bool false)), (42, (.bool false)), (64, (.bool false)), (117, (.bool false)), (138, (.bool false))]) (fun (j, ks) => (HeapO p1 n ks) :: (SlV 4 1 (.slice bs3 n cp4) n (bools gone)) :: (HeapO p2 n ks) :: R) (fun (j, ks) => left.toNat - j) (0, selK keys gone n) ⟨by omega, selK_len ..⟩ ⟨rfl, rfl, rfl, rfl, rfl, rfl, rfl, rfl, rfl, rfl, rfl, rfl, rfl, rfl, rfl, rfl, rfl, trivial⟩ (fun _ h => h) ?_
          rintro ⟨j, ks⟩ K29 hF hK29
          try dsimp only at hF hK29 ⊢
          obtain ⟨hck, hkl⟩ := hF
          refine c_seq (fun K30 hK30 => ?_)
          refine c_seq (fun K31 hK31 => ?_)
          refine c_region ?_
          refine tp rfl (lv_move rfl) ?_
          refine tp rfl (lv_move rfl) ?_
          by_cases h12 : ((j : Nat) : Int) < left
          · -- yes
           refine tp rfl (lv_lss rfl rfl (decide_eq_true h12)) ?_
           refine t_done ?_
           refine q_then_n (hK31 _ _ ?_)
           refine c_true rfl ?_
           refine c_skip ?_
           refine q_then_n (hK30 _ _ ?_)
           refine c_seq (fun K32 hK32 => ?_)
           refine c_block ?_
           refine c_seq (fun K33 hK33 => ?_)
           refine c_region ?_
           have hcp := cnt_pop (ks := ks) (by omega)
           refine tp rfl (lv_move rfl) ?_
           refine tc rfl (en_fn Try.call14 rfl) (hpop_ok (n := n) (ks := ks) ) ?_
           rintro _ _ ⟨rfl, rfl⟩
           rw [show fstB ks = true from hcp.1]
           refine tp rfl (lv_move rfl) ?_
           refine tp rfl (lv_extract rfl rfl) ?_
           refine tp rfl (lv_extract rfl rfl) ?_
           refine tp rfl (lv_extract rfl rfl) ?_
           refine tp rfl (lv_assign rfl) ?_
           refine tp rfl (lv_assign rfl) ?_
           refine tp rfl (lv_assign rfl) ?_
           refine t_done ?_
           refine q_then_n (hK33 _ _ ?_)
           refine c_seq (fun K34 hK34 => ?_)
           refine c_region ?_
           refine tp rfl (lv_move rfl) ?_
           refine t_f2 ?_
           refine tc rfl (en_fn Try.call14 rfl) (hpop_ok (n := n) (ks := ks) ) ?_
           rintro _ _ ⟨rfl, rfl⟩
           rw [show fstB ks = true from hcp.1]
           refine tp rfl (lv_move rfl) ?_
           refine tp rfl (lv_extract rfl rfl) ?_
           refine tp rfl (lv_extract rfl rfl) ?_
           refine tp rfl (lv_extract rfl rfl) ?_
           refine tp rfl (lv_assign rfl) ?_
           refine tp rfl (lv_assign rfl) ?_
           refine tp rfl (lv_assign rfl) ?_
           refine t_done ?_
           refine q_then_n (hK34 _ _ ?_)
           refine c_seq (fun K35 hK35 => ?_)
           refine c_region ?_
           refine tp rfl (lv_move rfl) ?_
           refine tp rfl (lv_move rfl) ?_
           refine tp rfl (lv_neq rfl rfl (bne_eq_false_iff_eq.2 (by omega))) ?_
           refine tp rfl (lv_move rfl) ?_
           refine t_guard rfl rfl ?_
           refine tp rfl (lv_move rfl) ?_
           refine t_guard rfl rfl ?_
           refine tp rfl (lv_move rfl) ?_
           refine t_guard rfl rfl ?_
           refine tp rfl (lv_neq rfl rfl (bne_eq_false_iff_eq.2 (by omega))) ?_
           refine tp rfl (lv_pick_f rfl rfl) ?_
           refine tp rfl (lv_move rfl) ?_
           refine t_guard rfl rfl ?_
           refine tp rfl (lv_move rfl) ?_
           refine t_guard rfl rfl ?_
           refine tp rfl (lv_not (c := false) rfl rfl) ?_
           refine tp rfl (lv_pick_f rfl rfl) ?_
           refine tp rfl (lv_move rfl) ?_
           refine t_guard rfl rfl ?_
           refine tp rfl (lv_move rfl) ?_
           refine t_guard rfl rfl ?_
           refine tp rfl (lv_not (c := false) rfl rfl) ?_
           refine tp rfl (lv_pick_f rfl rfl) ?_
           refine t_done ?_
           refine q_then_n (hK35 _ _ ?_)
           refine c_false rfl ?_
           refine c_skip ?_
           refine q_in_n ?_
           refine q_then_n (hK32 _ _ ?_)
           refine c_region ?_
           refine tp rfl (lv_move rfl) ?_
           refine tp rfl (lv_add (c := ((j + 1 : Nat) : Int)) rfl rfl (wr_i64_succ (by omega))) ?_
           refine tp rfl (lv_assign rfl) ?_
           refine t_done ?_
           refine q_then_n ?_
           refine t_f2 ?_
           refine t_f2 ?_
           exact t_weak (by exact ⟨rfl, rfl, rfl, rfl, rfl, rfl, rfl, rfl, rfl, rfl, rfl, rfl, rfl, rfl, rfl, rfl, rfl, trivial⟩) ((hK29 (j + 1, popK ks) ⟨by dsimp only; omega, by dsimp only; rw [pop_len]; exact hkl⟩ (by dsimp only; omega)))
          · -- no
           refine tp rfl (lv_lss rfl rfl (decide_eq_false h12)) ?_
           refine t_done ?_
           refine q_then_n (hK31 _ _ ?_)
           refine c_false rfl ?_
           refine c_exit ?_
           refine q_then_x ?_
           refine q_then_x ?_
           refine q_in_x ?_
           refine q_then_n (hK27 _ _ ?_)
           refine c_seq (fun K32 hK32 => ?_)
           refine c_region ?_
           refine tp rfl (lv_move rfl) ?_
           refine tp rfl (lv_move rfl) ?_
           refine t_guard rfl rfl ?_
           refine tp rfl (lv_move rfl) ?_
           refine t_guard rfl rfl ?_
           by_cases h13 : ((n : Nat) : Int) = 0
           · -- yes
            refine tp rfl (lv_eql rfl rfl (beq_iff_eq.2 h13)) ?_
            refine t_guard rfl rfl ?_
            refine tp rfl (lv_move rfl) ?_
            refine t_skip rfl rfl rfl ?_
            refine t_skip rfl rfl rfl ?_
            refine t_skip rfl rfl rfl ?_
            refine t_guard rfl rfl ?_
            refine tp rfl (lv_pick_t rfl rfl) ?_
            refine tp rfl (lv_pick_t rfl rfl) ?_
            refine tp rfl (lv_assign rfl) ?_
            refine t_done ?_
            refine q_then_n (hK32 _ _ ?_)
            refine c_ret ?_
            refine t_drop ?_
            refine t_drop ?_
            refine t_drop ?_
            refine q_ret rfl rfl ?_
            exact ⟨rfl, rfl⟩
           · -- no
            refine tp rfl (lv_eql rfl rfl (beq_eq_false_iff_ne.2 h13)) ?_
            refine t_guard rfl rfl ?_
            refine tp rfl (lv_move rfl) ?_
            refine t_guard rfl rfl ?_
            refine tp rfl (lv_move rfl) ?_
            refine t_guard rfl rfl ?_
            refine tc rfl (en_fn Try.call13 rfl) (hpush_ok (n := n) (ks := ks) 0 1) ?_
            rintro _ _ ⟨rfl, rfl⟩
            rw [show pushE ks 0 = 0 from push_zero hkl (by omega) (by omega)]
            refine t_guard rfl rfl ?_
            refine tp rfl (lv_eql (r := true) rfl rfl (by decide)) ?_
            refine t_guard rfl rfl ?_
            refine tp rfl (lv_pick_f rfl rfl) ?_
            refine tp rfl (lv_pick_t rfl rfl) ?_
            refine tp rfl (lv_assign rfl) ?_
            refine t_done ?_
            refine q_then_n (hK32 _ _ ?_)
            refine c_ret ?_
            refine t_drop ?_
            refine t_drop ?_
            refine t_drop ?_
            refine q_ret rfl rfl ?_
            exact ⟨rfl, rfl⟩
      · -- no
        refine tp rfl (lv_lss rfl rfl (decide_eq_false h9)) ?_
        refine tp rfl (lv_pick_t rfl rfl) ?_
        refine tp rfl (lv_move rfl) ?_
        refine t_skip rfl rfl rfl ?_
        refine t_skip rfl rfl rfl ?_
        refine tp rfl (lv_pick_f rfl rfl) ?_
        refine t_done ?_
        refine q_then_n (hK18 _ _ ?_)
        refine c_false rfl ?_
        refine c_exit ?_
        refine q_then_x ?_
        refine q_then_x ?_
        refine q_in_x ?_
        refine q_then_n (hK14 _ _ ?_)
        refine c_seq (fun K19 hK19 => ?_)
        refine c_region ?_
        refine tp rfl (lv_assign rfl) ?_
        refine t_done ?_
        refine q_then_n (hK19 _ _ ?_)
        refine c_seq (fun K20 hK20 => ?_)
        refine c_seq (fun K21 hK21 => ?_)
        refine c_region ?_
        rw [show prtK keys n 0 = selI keys gone n 0 from (prtK_zero ..).trans (selI_zero ..)]
        refine tp rfl (lv_assign rfl) ?_
        refine t_done ?_
        refine q_then_n (hK21 _ _ ?_)
        refine c_block ?_
        refine c_loop (γ := (Nat) × (Int)) (fun (i2, left) => i2 ≤ n ∧ left = ((cntK (selI keys gone n i2) : Nat) : Int)) (fun (i2, left) => [(0, (.slice bkb keys.length ckb)), (1, (.slice bib ids.length cib)), (5, (.bool true)), (6, (.int .i64 ((n : Nat) : Int))), (7, (.pointer (some ⟨p1, 0, none⟩))), (8, (.pointer (some ⟨p2, 0, none⟩))), (9, (.slice bs3 n cp4)), (10, (.int .i64 ((i : Nat) : Int))), (11, (.int .i64 ((t : Nat) : Int))), (15, (.int .i64 left)), (16, (.int .i64 ((i2 : Nat) : Int))), (37, (.bool false)), (42, (.bool false)), (64, (.bool false))]) (fun (i2, left) => (SlV 4 1 (.slice bs3 n cp4) n (bools gone)) :: (HeapO p2 n (selI keys gone n i2)) :: (HeapO p1 n (selK keys gone n)) :: R) (fun (i2, left) => n - i2) (0, 0) ⟨by omega, by rw [← selI_zero, cnt_rep]; rfl⟩ ⟨rfl, rfl, rfl, rfl, rfl, rfl, rfl, rfl, rfl, rfl, rfl, rfl, rfl, rfl, trivial⟩ (fun _ h => h) ?_
        rintro ⟨i2, left⟩ K22 hF hK22
        try dsimp only at hF hK22 ⊢
        obtain ⟨hi2, hlf⟩ := hF
        have hcl := cnt_le (selI keys gone n i2)
        rw [selI_len] at hcl
        refine c_seq (fun K23 hK23 => ?_)
        refine c_seq (fun K24 hK24 => ?_)
        refine c_region ?_
        refine tp rfl (lv_move rfl) ?_
        refine tp rfl (lv_move rfl) ?_
        by_cases h14 : ((i2 : Nat) : Int) < ((n : Nat) : Int)
        · -- yes
         refine tp rfl (lv_lss rfl rfl (decide_eq_true h14)) ?_
         refine t_done ?_
         refine q_then_n (hK24 _ _ ?_)
         refine c_true rfl ?_
         refine c_skip ?_
         refine q_then_n (hK23 _ _ ?_)
         refine c_seq (fun K25 hK25 => ?_)
         refine c_block ?_
         refine c_seq (fun K26 hK26 => ?_)
         rcases hg : gone.getD i2 false with _ | _
         · -- false
          have hpi := selI_push (keys := keys) (gone := gone) (n := n) (i := i2) (by omega) hg
          refine c_region ?_
          refine tp rfl (lv_move rfl) ?_
          refine tp rfl (lv_move rfl) ?_
          refine tp rfl (lv_indexAddr (k' := i2) Try.underlying30 Try.sizeOf4 rfl rfl hok5 (by omega) (by omega) (by omega)) ?_
          refine tp rfl (lv_load Try.isAgg4 rfl (gives_as (v := .bool false) (by first | rw [hg] | rw [Int.toNat_natCast, hg]) (gives_sl (.head _) (bools_get (by omega))))) ?_
          refine tp rfl (lv_not (c := true) rfl rfl) ?_
          refine t_done ?_
          refine q_then_n (hK26 _ _ ?_)
          refine c_true rfl ?_
          refine c_seq (fun K27 hK27 => ?_)
          refine c_region ?_
          refine tp rfl (lv_move rfl) ?_
          refine tp rfl (lv_add (c := left + 1) rfl rfl (wr_i64 (by omega) (by omega))) ?_
          refine tp rfl (lv_assign rfl) ?_
          refine t_done ?_
          refine q_then_n (hK27 _ _ ?_)
          refine c_seq (fun K28 hK28 => ?_)
          refine c_region ?_
          refine tp rfl (lv_move rfl) ?_
          refine tp rfl (lv_move rfl) ?_
          refine tp rfl (lv_move rfl) ?_
          refine tp rfl (lv_move rfl) ?_
          refine tp rfl (lv_indexAddr (k' := i2) Try.underlying22 Try.sizeOf3 rfl rfl okkb (by omega) (by omega) (by omega)) ?_
          refine tp rfl (lv_load Try.isAgg3 rfl (Rd.gives (Rd.cons (Rd.cons (Rd.cons hkb))) (ints_get (by omega)))) ?_
          refine t_f1 ?_
          refine tc rfl (en_fn Try.call13 rfl) (hpush_ok (n := n) (ks := selI keys gone n i2) ((i2 : Nat) : Int) ((keys).getD i2 0)) ?_
          rintro _ _ ⟨rfl, rfl⟩
          rw [show pushE (selI keys gone n i2) ((i2 : Nat) : Int) = 0 from hpi.1]
          rw [show pushK (selI keys gone n i2) ((i2 : Nat) : Int) (keys.getD i2 0) = selI keys gone n (i2 + 1) from hpi.2.1]
          refine tp rfl (lv_neq (r := false) rfl rfl (by decide)) ?_
          refine t_done ?_
          refine q_then_n (hK28 _ _ ?_)
          refine c_false rfl ?_
          refine c_skip ?_
          refine q_in_n ?_
          refine q_then_n (hK25 _ _ ?_)
          refine c_region ?_
          refine tp rfl (lv_move rfl) ?_
          refine tp rfl (lv_add (c := ((i2 + 1 : Nat) : Int)) rfl rfl (wr_i64_succ (by omega))) ?_
          refine tp rfl (lv_assign rfl) ?_
          refine t_done ?_
          refine q_then_n ?_
          refine t_f1 ?_
          exact t_weak (by exact ⟨rfl, rfl, rfl, rfl, rfl, rfl, rfl, rfl, rfl, rfl, rfl, rfl, rfl, rfl, trivial⟩) ((hK22 (i2 + 1, left + 1) ⟨by omega, by dsimp only; first | (rw [hsk]; exact hlf) | (have h9 := hpi.2.2; omega)⟩ (by dsimp only; omega)))
         · -- true
          have hsk := selI_skip (keys := keys) (gone := gone) (n := n) (i := i2) hg
          rw [← hsk]
          refine c_region ?_
          refine tp rfl (lv_move rfl) ?_
          refine tp rfl (lv_move rfl) ?_
          refine tp rfl (lv_indexAddr (k' := i2) Try.underlying30 Try.sizeOf4 rfl rfl hok5 (by omega) (by omega) (by omega)) ?_
          refine tp rfl (lv_load Try.isAgg4 rfl (gives_as (v := .bool true) (by first | rw [hg] | rw [Int.toNat_natCast, hg]) (gives_sl (.head _) (bools_get (by omega))))) ?_
          refine tp rfl (lv_not (c := false) rfl rfl) ?_
          refine t_done ?_
          refine q_then_n (hK26 _ _ ?_)
          refine c_false rfl ?_
          refine c_skip ?_
          refine q_in_n ?_
          refine q_then_n (hK25 _ _ ?_)
          refine c_region ?_
          refine tp rfl (lv_move rfl) ?_
          refine tp rfl (lv_add (c := ((i2 + 1 : Nat) : Int)) rfl rfl (wr_i64_succ (by omega))) ?_
          refine tp rfl (lv_assign rfl) ?_
          refine t_done ?_
          refine q_then_n ?_
          exact t_weak (by exact ⟨rfl, rfl, rfl, rfl, rfl, rfl, rfl, rfl, rfl, rfl, rfl, rfl, rfl, rfl, trivial⟩) ((hK22 (i2 + 1, left) ⟨by omega, by dsimp only; first | (rw [hsk]; exact hlf) | (have h9 := hpi.2.2; omega)⟩ (by dsimp only; omega)))
        · -- no
         refine tp rfl (lv_lss rfl rfl (decide_eq_false h14)) ?_
         refine t_done ?_
         refine q_then_n (hK24 _ _ ?_)
         refine c_false rfl ?_
         refine c_exit ?_
         refine q_then_x ?_
         refine q_then_x ?_
         refine q_in_x ?_
         refine q_then_n (hK20 _ _ ?_)
         refine c_seq (fun K25 hK25 => ?_)
         refine c_seq (fun K26 hK26 => ?_)
         refine c_region ?_
         rw [show selI keys gone n i2 = selK keys gone n from by rw [show i2 = n by omega]; exact selI_end ..]
         have hlf2 : left = ((cntK (selK keys gone n) : Nat) : Int) := by rw [hlf, show i2 = n by omega, selI_end]
         refine tp rfl (lv_move rfl) ?_
         refine t_f2 ?_
         refine tc rfl (en_fn Try.call15 rfl) (hlen_ok (n := n) (ks := selK keys gone n) ) ?_
         rintro _ _ ⟨rfl, rfl⟩
         refine tp rfl (lv_move rfl) ?_
         refine tp rfl (lv_neq rfl rfl (bne_eq_false_iff_eq.2 (by omega))) ?_
         refine t_done ?_
         refine q_then_n (hK26 _ _ ?_)
         refine c_false rfl ?_
         refine c_skip ?_
         refine q_then_n (hK25 _ _ ?_)
         refine c_seq (fun K27 hK27 => ?_)
         refine c_seq (fun K28 hK28 => ?_)
         refine c_region ?_
         refine tp rfl (lv_assign rfl) ?_
         refine t_done ?_
         refine q_then_n (hK28 _ _ ?_)
         refine c_block ?_
         refine c_loop (γ := (Nat) × (Ks)) (fun (j, ks) => ((cntK ks + j : Nat) : Int) = left ∧ ks.length = n) (fun (j, ks) => [(0, (.slice bkb keys.length ckb)), (1, (.slice bib ids.length cib)), (5, (.bool true)), (6, (.int .i64 ((n : Nat) : Int))), (7, (.pointer (some ⟨p1, 0, none⟩))), (8, (.pointer (some ⟨p2, 0, none⟩))), (9, (.slice bs3 n cp4)), (10, (.int .i64 ((i : Nat) : Int))), (11, (.int .i64 ((t : Nat) : Int))), (15, (.int .i64 left)), (16, (.int .i64 ((i2 : Nat) : Int))), (17, (.int .i64 ((j : Nat) : Int))), (37, (.bool false)), (42, (.bool false)), (64, (.bool false)), (117, (.bool false)), (138, (.bool false))]) (fun (j, ks) => (HeapO p1 n ks) :: (SlV 4 1 (.slice bs3 n cp4) n (bools gone)) :: (HeapO p2 n ks) :: R) (fun (j, ks) => left.toNat - j) (0, selK keys gone n) ⟨by omega, selK_len ..⟩ ⟨rfl, rfl, rfl, rfl, rfl, rfl, rfl, rfl, rfl, rfl, rfl, rfl, rfl, rfl, rfl, rfl, rfl, trivial⟩ (fun _ h => h) ?_
         rintro ⟨j, ks⟩ K29 hF hK29
         try dsimp only at hF hK29 ⊢
         obtain ⟨hck, hkl⟩ := hF
         refine c_seq (fun K30 hK30 => ?_)
         refine c_seq (fun K31 hK31 => ?_)
         refine c_region ?_
         refine tp rfl (lv_move rfl) ?_
         refine tp rfl (lv_move rfl) ?_
         by_cases h15 : ((j : Nat) : Int) < left
         · -- yes
          refine tp rfl (lv_lss rfl rfl (decide_eq_true h15)) ?_
          refine t_done ?_
          refine q_then_n (hK31 _ _ ?_)
          refine c_true rfl ?_
          refine c_skip ?_
          refine q_then_n (hK30 _ _ ?_)
          refine c_seq (fun K32 hK32 => ?_)
          refine c_block ?_
          refine c_seq (fun K33 hK33 => ?_)
          refine c_region ?_
          have hcp := cnt_pop (ks := ks) (by omega)
          refine tp rfl (lv_move rfl) ?_
          refine tc rfl (en_fn Try.call14 rfl) (hpop_ok (n := n) (ks := ks) ) ?_
          rintro _ _ ⟨rfl, rfl⟩
          rw [show fstB ks = true from hcp.1]
          refine tp rfl (lv_move rfl) ?_
          refine tp rfl (lv_extract rfl rfl) ?_
          refine tp rfl (lv_extract rfl rfl) ?_
          refine tp rfl (lv_extract rfl rfl) ?_
          refine tp rfl (lv_assign rfl) ?_
          refine tp rfl (lv_assign rfl) ?_
          refine tp rfl (lv_assign rfl) ?_
          refine t_done ?_
          refine q_then_n (hK33 _ _ ?_)
          refine c_seq (fun K34 hK34 => ?_)
          refine c_region ?_
          refine tp rfl (lv_move rfl) ?_
          refine t_f2 ?_
          refine tc rfl (en_fn Try.call14 rfl) (hpop_ok (n := n) (ks := ks) ) ?_
          rintro _ _ ⟨rfl, rfl⟩
          rw [show fstB ks = true from hcp.1]
          refine tp rfl (lv_move rfl) ?_
          refine tp rfl (lv_extract rfl rfl) ?_
          refine tp rfl (lv_extract rfl rfl) ?_
          refine tp rfl (lv_extract rfl rfl) ?_
          refine tp rfl (lv_assign rfl) ?_
          refine tp rfl (lv_assign rfl) ?_
          refine tp rfl (lv_assign rfl) ?_
          refine t_done ?_
          refine q_then_n (hK34 _ _ ?_)
          refine c_seq (fun K35 hK35 => ?_)
          refine c_region ?_
          refine tp rfl (lv_move rfl) ?_
          refine tp rfl (lv_move rfl) ?_
          refine tp rfl (lv_neq rfl rfl (bne_eq_false_iff_eq.2 (by omega))) ?_
          refine tp rfl (lv_move rfl) ?_
          refine t_guard rfl rfl ?_
          refine tp rfl (lv_move rfl) ?_
          refine t_guard rfl rfl ?_
          refine tp rfl (lv_move rfl) ?_
          refine t_guard rfl rfl ?_
          refine tp rfl (lv_neq rfl rfl (bne_eq_false_iff_eq.2 (by omega))) ?_
          refine tp rfl (lv_pick_f rfl rfl) ?_
          refine tp rfl (lv_move rfl) ?_
          refine t_guard rfl rfl ?_
          refine tp rfl (lv_move rfl) ?_
          refine t_guard rfl rfl ?_
          refine tp rfl (lv_not (c := false) rfl rfl) ?_
          refine tp rfl (lv_pick_f rfl rfl) ?_
          refine tp rfl (lv_move rfl) ?_
          refine t_guard rfl rfl ?_
          refine tp rfl (lv_move rfl) ?_
          refine t_guard rfl rfl ?_
          refine tp rfl (lv_not (c := false) rfl rfl) ?_
          refine tp rfl (lv_pick_f rfl rfl) ?_
          refine t_done ?_
          refine q_then_n (hK35 _ _ ?_)
          refine c_false rfl ?_
          refine c_skip ?_
          refine q_in_n ?_
          refine q_then_n (hK32 _ _ ?_)
          refine c_region ?_
          refine tp rfl (lv_move rfl) ?_
          refine tp rfl (lv_add (c := ((j + 1 : Nat) : Int)) rfl rfl (wr_i64_succ (by omega))) ?_
          refine tp rfl (lv_assign rfl) ?_
          refine t_done ?_
          refine q_then_n ?_
          refine t_f2 ?_
          refine t_f2 ?_
          exact t_weak (by exact ⟨rfl, rfl, rfl, rfl, rfl, rfl, rfl, rfl, rfl, rfl, rfl, rfl, rfl, rfl, rfl, rfl, rfl, trivial⟩) ((hK29 (j + 1, popK ks) ⟨by dsimp only; omega, by dsimp only; rw [pop_len]; exact hkl⟩ (by dsimp only; omega)))
         · -- no
          refine tp rfl (lv_lss rfl rfl (decide_eq_false h15)) ?_
          refine t_done ?_
          refine q_then_n (hK31 _ _ ?_)
          refine c_false rfl ?_
          refine c_exit ?_
          refine q_then_x ?_
          refine q_then_x ?_
          refine q_in_x ?_
          refine q_then_n (hK27 _ _ ?_)
          refine c_seq (fun K32 hK32 => ?_)
          refine c_region ?_
          refine tp rfl (lv_move rfl) ?_
          refine tp rfl (lv_move rfl) ?_
          refine t_guard rfl rfl ?_
          refine tp rfl (lv_move rfl) ?_
          refine t_guard rfl rfl ?_
          by_cases h16 : ((n : Nat) : Int) = 0
          · -- yes
           refine tp rfl (lv_eql rfl rfl (beq_iff_eq.2 h16)) ?_
           refine t_guard rfl rfl ?_
           refine tp rfl (lv_move rfl) ?_
           refine t_skip rfl rfl rfl ?_
           refine t_skip rfl rfl rfl ?_
           refine t_skip rfl rfl rfl ?_
           refine t_guard rfl rfl ?_
           refine tp rfl (lv_pick_t rfl rfl) ?_
           refine tp rfl (lv_pick_t rfl rfl) ?_
           refine tp rfl (lv_assign rfl) ?_
           refine t_done ?_
           refine q_then_n (hK32 _ _ ?_)
           refine c_ret ?_
           refine t_drop ?_
           refine t_drop ?_
           refine t_drop ?_
           refine q_ret rfl rfl ?_
           exact ⟨rfl, rfl⟩
          · -- no
           refine tp rfl (lv_eql rfl rfl (beq_eq_false_iff_ne.2 h16)) ?_
           refine t_guard rfl rfl ?_
           refine tp rfl (lv_move rfl) ?_
           refine t_guard rfl rfl ?_
           refine tp rfl (lv_move rfl) ?_
           refine t_guard rfl rfl ?_
           refine tc rfl (en_fn Try.call13 rfl) (hpush_ok (n := n) (ks := ks) 0 1) ?_
           rintro _ _ ⟨rfl, rfl⟩
           rw [show pushE ks 0 = 0 from push_zero hkl (by omega) (by omega)]
           refine t_guard rfl rfl ?_
           refine tp rfl (lv_eql (r := true) rfl rfl (by decide)) ?_
           refine t_guard rfl rfl ?_
           refine tp rfl (lv_pick_f rfl rfl) ?_
           refine tp rfl (lv_pick_t rfl rfl) ?_
           refine tp rfl (lv_assign rfl) ?_
           refine t_done ?_
           refine q_then_n (hK32 _ _ ?_)
           refine c_ret ?_
           refine t_drop ?_
           refine t_drop ?_
           refine t_drop ?_
           refine q_ret rfl rfl ?_
           exact ⟨rfl, rfl⟩
    · -- no
      refine tp rfl (lv_gtr rfl rfl (decide_eq_false h8)) ?_
      refine tp rfl (lv_move rfl) ?_
      refine t_skip rfl rfl rfl ?_
      refine t_skip rfl rfl rfl ?_
      refine t_skip rfl rfl rfl ?_
      refine t_skip rfl rfl rfl ?_
      refine tp rfl (lv_pick_f rfl rfl) ?_
      refine tp rfl (lv_move rfl) ?_
      refine t_skip rfl rfl rfl ?_
      refine t_skip rfl rfl rfl ?_
      refine tp rfl (lv_pick_f rfl rfl) ?_
      refine t_done ?_
      refine q_then_n (hK18 _ _ ?_)
      refine c_false rfl ?_
      refine c_exit ?_
      refine q_then_x ?_
      refine q_then_x ?_
      refine q_in_x ?_
      refine q_then_n (hK14 _ _ ?_)
      refine c_seq (fun K19 hK19 => ?_)
      refine c_region ?_
      refine tp rfl (lv_assign rfl) ?_
      refine t_done ?_
      refine q_then_n (hK19 _ _ ?_)
      refine c_seq (fun K20 hK20 => ?_)
      refine c_seq (fun K21 hK21 => ?_)
      refine c_region ?_
      rw [show prtK keys n 0 = selI keys gone n 0 from (prtK_zero ..).trans (selI_zero ..)]
      refine tp rfl (lv_assign rfl) ?_
      refine t_done ?_
      refine q_then_n (hK21 _ _ ?_)
      refine c_block ?_
      refine c_loop (γ := (Nat) × (Int)) (fun (i2, left) => i2 ≤ n ∧ left = ((cntK (selI keys gone n i2) : Nat) : Int)) (fun (i2, left) => [(0, (.slice bkb keys.length ckb)), (1, (.slice bib ids.length cib)), (5, (.bool true)), (6, (.int .i64 ((n : Nat) : Int))), (7, (.pointer (some ⟨p1, 0, none⟩))), (8, (.pointer (some ⟨p2, 0, none⟩))), (9, (.slice bs3 n cp4)), (10, (.int .i64 ((i : Nat) : Int))), (11, (.int .i64 ((t : Nat) : Int))), (15, (.int .i64 left)), (16, (.int .i64 ((i2 : Nat) : Int))), (37, (.bool false)), (42, (.bool false)), (64, (.bool false))]) (fun (i2, left) => (SlV 4 1 (.slice bs3 n cp4) n (bools gone)) :: (HeapO p2 n (selI keys gone n i2)) :: (HeapO p1 n (selK keys gone n)) :: R) (fun (i2, left) => n - i2) (0, 0) ⟨by omega, by rw [← selI_zero, cnt_rep]; rfl⟩ ⟨rfl, rfl, rfl, rfl, rfl, rfl, rfl, rfl, rfl, rfl, rfl, rfl, rfl, rfl, trivial⟩ (fun _ h => h) ?_
      rintro ⟨i2, left⟩ K22 hF hK22
      try dsimp only at hF hK22 ⊢
      obtain ⟨hi2, hlf⟩ := hF
      have hcl := cnt_le (selI keys gone n i2)
      rw [selI_len] at hcl
      refine c_seq (fun K23 hK23 => ?_)
      refine c_seq (fun K24 hK24 => ?_)
      refine c_region ?_
      refine tp rfl (lv_move rfl) ?_
      refine tp rfl (lv_move rfl) ?_
      by_cases h17 : ((i2 : Nat) : Int) < ((n : Nat) : Int)
      · -- yes
        refine tp rfl (lv_lss rfl rfl (decide_eq_true h17)) ?_
        refine t_done ?_
        refine q_then_n (hK24 _ _ ?_)
        refine c_true rfl ?_
        refine c_skip ?_
        refine q_then_n (hK23 _ _ ?_)
        refine c_seq (fun K25 hK25 => ?_)
        refine c_block ?_
        refine c_seq (fun K26 hK26 => ?_)
        rcases hg : gone.getD i2 false with _ | _
        · -- false
         have hpi := selI_push (keys := keys) (gone := gone) (n := n) (i := i2) (by omega) hg
         refine c_region ?_
         refine tp rfl (lv_move rfl) ?_
         refine tp rfl (lv_move rfl) ?_
         refine tp rfl (lv_indexAddr (k' := i2) Try.underlying30 Try.sizeOf4 rfl rfl hok5 (by omega) (by omega) (by omega)) ?_
         refine tp rfl (lv_load Try.isAgg4 rfl (gives_as (v := .bool false) (by first | rw [hg] | rw [Int.toNat_natCast, hg]) (gives_sl (.head _) (bools_get (by omega))))) ?_
         refine tp rfl (lv_not (c := true) rfl rfl) ?_
         refine t_done ?_
         refine q_then_n (hK26 _ _ ?_)
         refine c_true rfl ?_
         refine c_seq (fun K27 hK27 => ?_)
         refine c_region ?_
         refine tp rfl (lv_move rfl) ?_
         refine tp rfl (lv_add (c := left + 1) rfl rfl (wr_i64 (by omega) (by omega))) ?_
         refine tp rfl (lv_assign rfl) ?_
         refine t_done ?_
         refine q_then_n (hK27 _ _ ?_)
         refine c_seq (fun K28 hK28 => ?_)
         refine c_region ?_
         refine tp rfl (lv_move rfl) ?_
         refine tp rfl (lv_move rfl) ?_
         refine tp rfl (lv_move rfl) ?_
         refine tp rfl (lv_move rfl) ?_
         refine tp rfl (lv_indexAddr (k' := i2) Try.underlying22 Try.sizeOf3 rfl rfl okkb (by omega) (by omega) (by omega)) ?_
         refine tp rfl (lv_load Try.isAgg3 rfl (Rd.gives (Rd.cons (Rd.cons (Rd.cons hkb))) (ints_get (by omega)))) ?_
         refine t_f1 ?_
         refine tc rfl (en_fn Try.call13 rfl) (hpush_ok (n := n) (ks := selI keys gone n i2) ((i2 : Nat) : Int) ((keys).getD i2 0)) ?_
         rintro _ _ ⟨rfl, rfl⟩
         rw [show pushE (selI keys gone n i2) ((i2 : Nat) : Int) = 0 from hpi.1]
         rw [show pushK (selI keys gone n i2) ((i2 : Nat) : Int) (keys.getD i2 0) = selI keys gone n (i2 + 1) from hpi.2.1]
         refine tp rfl (lv_neq (r := false) rfl rfl (by decide)) ?_
         refine t_done ?_
         refine q_then_n (hK28 _ _ ?_)
         refine c_false rfl ?_
         refine c_skip ?_
         refine q_in_n ?_
         refine q_then_n (hK25 _ _ ?_)
         refine c_region ?_
         refine tp rfl (lv_move rfl) ?_
         refine tp rfl (lv_add (c := ((i2 + 1 : Nat) : Int)) rfl rfl (wr_i64_succ (by omega))) ?_
         refine tp rfl (lv_assign rfl) ?_
         refine t_done ?_
         refine q_then_n ?_
         refine t_f1 ?_
         exact t_weak (by exact ⟨rfl, rfl, rfl, rfl, rfl, rfl, rfl, rfl, rfl, rfl, rfl, rfl, rfl, rfl, trivial⟩) ((hK22 (i2 + 1, left + 1) ⟨by omega, by dsimp only; first | (rw [hsk]; exact hlf) | (have h9 := hpi.2.2; omega)⟩ (by dsimp only; omega)))
        · -- true
         have hsk := selI_skip (keys := keys) (gone := gone) (n := n) (i := i2) hg
         rw [← hsk]
         refine c_region ?_
         refine tp rfl (lv_move rfl) ?_
         refine tp rfl (lv_move rfl) ?_
         refine tp rfl (lv_indexAddr (k' := i2) Try.underlying30 Try.sizeOf4 rfl rfl hok5 (by omega) (by omega) (by omega)) ?_
         refine tp rfl (lv_load Try.isAgg4 rfl (gives_as (v := .bool true) (by first | rw [hg] | rw [Int.toNat_natCast, hg]) (gives_sl (.head _) (bools_get (by omega))))) ?_
         refine tp rfl (lv_not (c := false) rfl rfl) ?_
         refine t_done ?_
         refine q_then_n (hK26 _ _ ?_)
         refine c_false rfl ?_
         refine c_skip ?_
         refine q_in_n ?_
         refine q_then_n (hK25 _ _ ?_)
         refine c_region ?_
         refine tp rfl (lv_move rfl) ?_
         refine tp rfl (lv_add (c := ((i2 + 1 : Nat) : Int)) rfl rfl (wr_i64_succ (by omega))) ?_
         refine tp rfl (lv_assign rfl) ?_
         refine t_done ?_
         refine q_then_n ?_
         exact t_weak (by exact ⟨rfl, rfl, rfl, rfl, rfl, rfl, rfl, rfl, rfl, rfl, rfl, rfl, rfl, rfl, trivial⟩) ((hK22 (i2 + 1, left) ⟨by omega, by dsimp only; first | (rw [hsk]; exact hlf) | (have h9 := hpi.2.2; omega)⟩ (by dsimp only; omega)))
      · -- no
        refine tp rfl (lv_lss rfl rfl (decide_eq_false h17)) ?_
        refine t_done ?_
        refine q_then_n (hK24 _ _ ?_)
        refine c_false rfl ?_
        refine c_exit ?_
        refine q_then_x ?_
        refine q_then_x ?_
        refine q_in_x ?_
        refine q_then_n (hK20 _ _ ?_)
        refine c_seq (fun K25 hK25 => ?_)
        refine c_seq (fun K26 hK26 => ?_)
        refine c_region ?_
        rw [show selI keys gone n i2 = selK keys gone n from by rw [show i2 = n by omega]; exact selI_end ..]
        have hlf2 : left = ((cntK (selK keys gone n) : Nat) : Int) := by rw [hlf, show i2 = n by omega, selI_end]
        refine tp rfl (lv_move rfl) ?_
        refine t_f2 ?_
        refine tc rfl (en_fn Try.call15 rfl) (hlen_ok (n := n) (ks := selK keys gone n) ) ?_
        rintro _ _ ⟨rfl, rfl⟩
        refine tp rfl (lv_move rfl) ?_
        refine tp rfl (lv_neq rfl rfl (bne_eq_false_iff_eq.2 (by omega))) ?_
        refine t_done ?_
        refine q_then_n (hK26 _ _ ?_)
        refine c_false rfl ?_
        refine c_skip ?_
        refine q_then_n (hK25 _ _ ?_)
        refine c_seq (fun K27 hK27 => ?_)
        refine c_seq (fun K28 hK28 => ?_)
        refine c_region ?_
        refine tp rfl (lv_assign rfl) ?_
        refine t_done ?_
        refine q_then_n (hK28 _ _ ?_)
        refine c_block ?_
        refine c_loop (γ := (Nat) × (Ks)) (fun (j, ks) => ((cntK ks + j : Nat) : Int) = left ∧ ks.length = n) (fun (j, ks) => [(0, (.slice bkb keys.length ckb)), (1, (.slice bib ids.length cib)), (5, (.bool true)), (6, (.int .i64 ((n : Nat) : Int))), (7, (.pointer (some ⟨p1, 0, none⟩))), (8, (.pointer (some ⟨p2, 0, none⟩))), (9, (.slice bs3 n cp4)), (10, (.int .i64 ((i : Nat) : Int))), (11, (.int .i64 ((t : Nat) : Int))), (15, (.int .i64 left)), (16, (.int .i64 ((i2 : Nat) : Int))), (17, (.int .i64 ((j : Nat) : Int))), (37, (.bool false)), (42, (.bool false)), (64, (.bool false)), (117, (.bool false)), (138, (.bool false))]) (fun (j, ks) => (HeapO p1 n ks) :: (SlV 4 1 (.slice bs3 n cp4) n (bools gone)) :: (HeapO p2 n ks) :: R) (fun (j, ks) => left.toNat - j) (0, selK keys gone n) ⟨by omega, selK_len ..⟩ ⟨rfl, rfl, rfl, rfl, rfl, rfl, rfl, rfl, rfl, rfl, rfl, rfl, rfl, rfl, rfl, rfl, rfl, trivial⟩ (fun _ h => h) ?_
        rintro ⟨j, ks⟩ K29 hF hK29
        try dsimp only at hF hK29 ⊢
        obtain ⟨hck, hkl⟩ := hF
        refine c_seq (fun K30 hK30 => ?_)
        refine c_seq (fun K31 hK31 => ?_)
        refine c_region ?_
        refine tp rfl (lv_move rfl) ?_
        refine tp rfl (lv_move rfl) ?_
        by_cases h18 : ((j : Nat) : Int) < left
        · -- yes
         refine tp rfl (lv_lss rfl rfl (decide_eq_true h18)) ?_
         refine t_done ?_
         refine q_then_n (hK31 _ _ ?_)
         refine c_true rfl ?_
         refine c_skip ?_
         refine q_then_n (hK30 _ _ ?_)
         refine c_seq (fun K32 hK32 => ?_)
         refine c_block ?_
         refine c_seq (fun K33 hK33 => ?_)
         refine c_region ?_
         have hcp := cnt_pop (ks := ks) (by omega)
         refine tp rfl (lv_move rfl) ?_
         refine tc rfl (en_fn Try.call14 rfl) (hpop_ok (n := n) (ks := ks) ) ?_
         rintro _ _ ⟨rfl, rfl⟩
         rw [show fstB ks = true from hcp.1]
         refine tp rfl (lv_move rfl) ?_
         refine tp rfl (lv_extract rfl rfl) ?_
         refine tp rfl (lv_extract rfl rfl) ?_
         refine tp rfl (lv_extract rfl rfl) ?_
         refine tp rfl (lv_assign rfl) ?_
         refine tp rfl (lv_assign rfl) ?_
         refine tp rfl (lv_assign rfl) ?_
         refine t_done ?_
         refine q_then_n (hK33 _ _ ?_)
         refine c_seq (fun K34 hK34 => ?_)
         refine c_region ?_
         refine tp rfl (lv_move rfl) ?_
         refine t_f2 ?_
         refine tc rfl (en_fn Try.call14 rfl) (hpop_ok (n := n) (ks := ks) ) ?_
         rintro _ _ ⟨rfl, rfl⟩
         rw [show fstB ks = true from hcp.1]
         refine tp rfl (lv_move rfl) ?_
         refine tp rfl (lv_extract rfl rfl) ?_
         refine tp rfl (lv_extract rfl rfl) ?_
         refine tp rfl (lv_extract rfl rfl) ?_
         refine tp rfl (lv_assign rfl) ?_
         refine tp rfl (lv_assign rfl) ?_
         refine tp rfl (lv_assign rfl) ?_
         refine t_done ?_
         refine q_then_n (hK34 _ _ ?_)
         refine c_seq (fun K35 hK35 => ?_)
         refine c_region ?_
         refine tp rfl (lv_move rfl) ?_
         refine tp rfl (lv_move rfl) ?_
         refine tp rfl (lv_neq rfl rfl (bne_eq_false_iff_eq.2 (by omega))) ?_
         refine tp rfl (lv_move rfl) ?_
         refine t_guard rfl rfl ?_
         refine tp rfl (lv_move rfl) ?_
         refine t_guard rfl rfl ?_
         refine tp rfl (lv_move rfl) ?_
         refine t_guard rfl rfl ?_
         refine tp rfl (lv_neq rfl rfl (bne_eq_false_iff_eq.2 (by omega))) ?_
         refine tp rfl (lv_pick_f rfl rfl) ?_
         refine tp rfl (lv_move rfl) ?_
         refine t_guard rfl rfl ?_
         refine tp rfl (lv_move rfl) ?_
         refine t_guard rfl rfl ?_
         refine tp rfl (lv_not (c := false) rfl rfl) ?_
         refine tp rfl (lv_pick_f rfl rfl) ?_
         refine tp rfl (lv_move rfl) ?_
         refine t_guard rfl rfl ?_
         refine tp rfl (lv_move rfl) ?_
         refine t_guard rfl rfl ?_
         refine tp rfl (lv_not (c := false) rfl rfl) ?_
         refine tp rfl (lv_pick_f rfl rfl) ?_
         refine t_done ?_
         refine q_then_n (hK35 _ _ ?_)
         refine c_false rfl ?_
         refine c_skip ?_
         refine q_in_n ?_
         refine q_then_n (hK32 _ _ ?_)
         refine c_region ?_
         refine tp rfl (lv_move rfl) ?_
         refine tp rfl (lv_add (c := ((j + 1 : Nat) : Int)) rfl rfl (wr_i64_succ (by omega))) ?_
         refine tp rfl (lv_assign rfl) ?_
         refine t_done ?_
         refine q_then_n ?_
         refine t_f2 ?_
         refine t_f2 ?_
         exact t_weak (by exact ⟨rfl, rfl, rfl, rfl, rfl, rfl, rfl, rfl, rfl, rfl, rfl, rfl, rfl, rfl, rfl, rfl, rfl, trivial⟩) ((hK29 (j + 1, popK ks) ⟨by dsimp only; omega, by dsimp only; rw [pop_len]; exact hkl⟩ (by dsimp only; omega)))
        · -- no
         refine tp rfl (lv_lss rfl rfl (decide_eq_false h18)) ?_
         refine t_done ?_
         refine q_then_n (hK31 _ _ ?_)
         refine c_false rfl ?_
         refine c_exit ?_
         refine q_then_x ?_
         refine q_then_x ?_
         refine q_in_x ?_
         refine q_then_n (hK27 _ _ ?_)
         refine c_seq (fun K32 hK32 => ?_)
         refine c_region ?_
         refine tp rfl (lv_move rfl) ?_
         refine tp rfl (lv_move rfl) ?_
         refine t_guard rfl rfl ?_
         refine tp rfl (lv_move rfl) ?_
         refine t_guard rfl rfl ?_
         by_cases h19 : ((n : Nat) : Int) = 0
         · -- yes
          refine tp rfl (lv_eql rfl rfl (beq_iff_eq.2 h19)) ?_
          refine t_guard rfl rfl ?_
          refine tp rfl (lv_move rfl) ?_
          refine t_skip rfl rfl rfl ?_
          refine t_skip rfl rfl rfl ?_
          refine t_skip rfl rfl rfl ?_
          refine t_guard rfl rfl ?_
          refine tp rfl (lv_pick_t rfl rfl) ?_
          refine tp rfl (lv_pick_t rfl rfl) ?_
          refine tp rfl (lv_assign rfl) ?_
          refine t_done ?_
          refine q_then_n (hK32 _ _ ?_)
          refine c_ret ?_
          refine t_drop ?_
          refine t_drop ?_
          refine t_drop ?_
          refine q_ret rfl rfl ?_
          exact ⟨rfl, rfl⟩
         · -- no
          refine tp rfl (lv_eql rfl rfl (beq_eq_false_iff_ne.2 h19)) ?_
          refine t_guard rfl rfl ?_
          refine tp rfl (lv_move rfl) ?_
          refine t_guard rfl rfl ?_
          refine tp rfl (lv_move rfl) ?_
          refine t_guard rfl rfl ?_
          refine tc rfl (en_fn Try.call13 rfl) (hpush_ok (n := n) (ks := ks) 0 1) ?_
          rintro _ _ ⟨rfl, rfl⟩
          rw [show pushE ks 0 = 0 from push_zero hkl (by omega) (by omega)]
          refine t_guard rfl rfl ?_
          refine tp rfl (lv_eql (r := true) rfl rfl (by decide)) ?_
          refine t_guard rfl rfl ?_
          refine tp rfl (lv_pick_f rfl rfl) ?_
          refine tp rfl (lv_pick_t rfl rfl) ?_
          refine tp rfl (lv_assign rfl) ?_
          refine t_done ?_
          refine q_then_n (hK32 _ _ ?_)
          refine c_ret ?_
          refine t_drop ?_
          refine t_drop ?_
          refine t_drop ?_
          refine q_ret rfl rfl ?_
          exact ⟨rfl, rfl⟩
end Go.Proofs.Ytchnphachgcjmaa
