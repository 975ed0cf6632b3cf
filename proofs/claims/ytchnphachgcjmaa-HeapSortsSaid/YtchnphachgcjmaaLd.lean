/- HeapSorts: the law's walk. -/
import Derived.Test.YtchnphachgcjmaaLa
set_option maxRecDepth 100000
set_option linter.unusedVariables false
set_option linter.unusedSimpArgs false
namespace Go.Proofs.Ytchnphachgcjmaa
open Go Go.Proofs Sp
set_option maxHeartbeats 20000000 in
theorem sorts_law {R : List HP} {bkb : Option Addr} {ckb : Nat} (keys : List Int) (hkb : Rd R bkb (ints .i64 keys)) (okkb : SlOk bkb keys.length) (lkb : keys.length ≤ 9223372036854775807) (wfkb : ∀ x ∈ keys, (Lit.int .i64 x).wf = true) {bob : Option Addr} {cob : Nat} (ord : List Int) (hob : Rd R bob (ints .u16 ord)) (okob : SlOk bob ord.length) (lob : ord.length ≤ 9223372036854775807) (wfob : ∀ x ∈ ord, (Lit.int .u16 x).wf = true) :
    Ok Try.prog 3 [(.slice bkb keys.length ckb), (.slice bob ord.length cob)] R
      (fun v M => v = .bool true ∧ M = R) := by
  obtain ⟨n, hn⟩ : ∃ n, n = min keys.length 100 := ⟨_, rfl⟩
  have hcm : hclamp ((n : Nat) : Int) = n := by unfold hclamp; omega
  refine ok_of (N := 174) Try.func3 rfl rfl rfl (fun W => ?_)
  refine c_seq (fun K1 hK1 => ?_)
  refine c_region ?_
  refine tp rfl (lv_assign rfl) ?_
  refine t_done ?_
  refine q_then_n (hK1 _ _ ?_)
  refine c_seq (fun K2 hK2 => ?_)
  refine c_region ?_
  refine tc rfl (en_fn Try.call11 rfl) (shown_ok) ?_
  rintro _ _ ⟨rfl, hMR⟩
  rw [hMR]; clear hMR
  refine tp rfl (lv_assign rfl) ?_
  refine t_done ?_
  refine q_then_n (hK2 _ _ ?_)
  refine c_seq (fun K3 hK3 => ?_)
  refine c_region ?_
  refine tp rfl (lv_move rfl) ?_
  refine tp rfl (lv_len Try.underlying22 rfl rfl) ?_
  refine tp rfl (lv_min (c := ((n : Nat) : Int)) rfl rfl (by omega)) ?_
  refine tp rfl (lv_assign rfl) ?_
  refine t_done ?_
  refine q_then_n (hK3 _ _ ?_)
  refine c_seq (fun K4 hK4 => ?_)
  refine c_region ?_
  refine tp rfl (lv_move rfl) ?_
  refine tc rfl (en_fn Try.call12 rfl) (hnew_ok ((n : Nat) : Int)) ?_
  rintro _ _ ⟨p1, rfl, rfl⟩
  rw [show hclamp ((n : Nat) : Int) = n from hcm]
  refine tp rfl (lv_assign rfl) ?_
  refine t_done ?_
  refine q_then_n (hK4 _ _ ?_)
  refine c_seq (fun K5 hK5 => ?_)
  refine c_seq (fun K6 hK6 => ?_)
  refine c_region ?_
  refine tp rfl (lv_move rfl) ?_
  refine tp rfl (lv_eqnil Try.underlying25 rfl rfl) ?_
  refine t_done ?_
  refine q_then_n (hK6 _ _ ?_)
  refine c_false rfl ?_
  refine c_skip ?_
  refine q_then_n (hK5 _ _ ?_)
  refine c_seq (fun K7 hK7 => ?_)
  refine c_region ?_
  refine tp rfl (lv_move rfl) ?_
  refine tm rfl (mv_makeSlice (i := Try.t3) Try.underlying22 Try.type3 rfl rfl rfl rfl rfl (by omega) (by rw [show Try.t3.bytes = 8 from rfl]; omega) (by omega)) ?_
  rintro _ _ ⟨bs2, cp3, hok4, hle5, rfl, rfl⟩
  rw [ints_rep]
  refine tp rfl (lv_assign rfl) ?_
  refine t_done ?_
  refine q_then_n (hK7 _ _ ?_)
  refine c_seq (fun K8 hK8 => ?_)
  refine c_seq (fun K9 hK9 => ?_)
  refine c_region ?_
  refine tp rfl (lv_assign rfl) ?_
  refine t_done ?_
  refine q_then_n (hK9 _ _ ?_)
  refine c_block ?_
  rw [show List.replicate ((n : Nat) : Int).toNat (0 : Int) = idP n 0 from idP_zero n]
  refine c_loop (γ := (Nat)) (fun (i : Nat) => i ≤ n) (fun (i : Nat) => [(0, (.slice bkb keys.length ckb)), (1, (.slice bob ord.length cob)), (4, (.bool false)), (5, (.bool true)), (6, (.int .i64 ((n : Nat) : Int))), (7, (.pointer (some ⟨p1, 0, none⟩))), (8, (.slice bs2 n cp3)), (9, (.int .i64 ((i : Nat) : Int))), (29, (.bool false))]) (fun (i : Nat) => (SlV 3 1 (.slice bs2 n cp3) n (ints .i64 (idP n i))) :: (HeapO p1 (n) (List.replicate (n) none)) :: R) (fun (i : Nat) => n - i) (0) (by omega) ⟨rfl, rfl, rfl, rfl, rfl, rfl, rfl, rfl, rfl, trivial⟩ (fun _ h => h) ?_
  rintro i K10 hF hK10
  try dsimp only at hF hK10 ⊢
  have hil := idP_len (n := n) (i := i) (by omega)
  refine c_seq (fun K11 hK11 => ?_)
  refine c_seq (fun K12 hK12 => ?_)
  refine c_region ?_
  refine tp rfl (lv_move rfl) ?_
  refine tp rfl (lv_move rfl) ?_
  by_cases h6 : ((i : Nat) : Int) < ((n : Nat) : Int)
  · -- yes
    refine tp rfl (lv_lss rfl rfl (decide_eq_true h6)) ?_
    refine t_done ?_
    refine q_then_n (hK12 _ _ ?_)
    refine c_true rfl ?_
    refine c_skip ?_
    refine q_then_n (hK11 _ _ ?_)
    refine c_seq (fun K13 hK13 => ?_)
    refine c_block ?_
    refine c_region ?_
    refine tp rfl (lv_move rfl) ?_
    refine tp rfl (lv_move rfl) ?_
    refine tp rfl (lv_move rfl) ?_
    refine tp rfl (lv_indexAddr (k' := i) Try.underlying22 Try.sizeOf3 rfl rfl hok4 (by omega) (by omega) (by omega)) ?_
    refine ts (sv_sl Try.sizeOf3 rfl rfl rfl (by rw [ints_length]; omega) ints_set) ?_
    refine t_done ?_
    refine q_in_n ?_
    refine q_then_n (hK13 _ _ ?_)
    refine c_region ?_
    refine tp rfl (lv_move rfl) ?_
    refine tp rfl (lv_add (c := ((i + 1 : Nat) : Int)) rfl rfl (wr_i64_succ (by omega))) ?_
    refine tp rfl (lv_assign rfl) ?_
    refine t_done ?_
    refine q_then_n ?_
    rw [idP_next (show i < n by omega)]
    exact t_weak (by exact ⟨rfl, rfl, rfl, rfl, rfl, rfl, rfl, rfl, rfl, trivial⟩) ((hK10 (i + 1) (by omega) (by omega)))
  · -- no
    refine tp rfl (lv_lss rfl rfl (decide_eq_false h6)) ?_
    refine t_done ?_
    refine q_then_n (hK12 _ _ ?_)
    refine c_false rfl ?_
    refine c_exit ?_
    refine q_then_x ?_
    refine q_then_x ?_
    refine q_in_x ?_
    refine q_then_n (hK8 _ _ ?_)
    refine c_seq (fun K13 hK13 => ?_)
    refine c_seq (fun K14 hK14 => ?_)
    refine c_region ?_
    rw [show idP n i = idP n n from by rw [show i = n by omega], pshK_zero keys (idP n n) n]
    refine tp rfl (lv_assign rfl) ?_
    refine t_done ?_
    refine q_then_n (hK14 _ _ ?_)
    refine c_block ?_
    refine c_loop (γ := (Nat) × (List Int)) (fun (j, ids) => j ≤ n ∧ HI n ids ∧ ids.length = n) (fun (j, ids) => [(0, (.slice bkb keys.length ckb)), (1, (.slice bob ord.length cob)), (5, (.bool true)), (6, (.int .i64 ((n : Nat) : Int))), (7, (.pointer (some ⟨p1, 0, none⟩))), (8, (.slice bs2 n cp3)), (9, (.int .i64 ((i : Nat) : Int))), (10, (.int .i64 ((j : Nat) : Int))), (29, (.bool false)), (34, (.bool false))]) (fun (j, ids) => (SlV 3 1 (.slice bs2 n cp3) n (ints .i64 ids)) :: (HeapO p1 n (pshK keys ids n j)) :: R) (fun (j, ids) => n - j) (0, idP n n) ⟨by omega, idP_HI n, idP_len (Nat.le_refl n)⟩ ⟨rfl, rfl, rfl, rfl, rfl, rfl, rfl, rfl, rfl, rfl, trivial⟩ (fun _ h => h) ?_
    rintro ⟨j, ids⟩ K15 hF hK15
    try dsimp only at hF hK15 ⊢
    obtain ⟨hj, hids, hil⟩ := hF
    refine c_seq (fun K16 hK16 => ?_)
    refine c_seq (fun K17 hK17 => ?_)
    refine c_region ?_
    refine tp rfl (lv_move rfl) ?_
    refine tp rfl (lv_move rfl) ?_
    by_cases h7 : ((j : Nat) : Int) < ((n : Nat) : Int)
    · -- yes
      refine tp rfl (lv_lss rfl rfl (decide_eq_true h7)) ?_
      refine t_done ?_
      refine q_then_n (hK17 _ _ ?_)
      refine c_true rfl ?_
      refine c_skip ?_
      refine q_then_n (hK16 _ _ ?_)
      refine c_seq (fun K18 hK18 => ?_)
      refine c_block ?_
      refine c_seq (fun K19 hK19 => ?_)
      refine c_region ?_
      refine tp rfl (lv_move rfl) ?_
      refine tp rfl (lv_assign rfl) ?_
      refine t_done ?_
      refine q_then_n (hK19 _ _ ?_)
      refine c_seq (fun K20 hK20 => ?_)
      refine c_seq (fun K21 hK21 => ?_)
      refine c_region ?_
      refine tp rfl (lv_move rfl) ?_
      refine tp rfl (lv_move rfl) ?_
      refine tp rfl (lv_len Try.underlying23 rfl rfl) ?_
      by_cases h8 : ((j : Nat) : Int) < ((ord.length : Nat) : Int)
      · -- yes
        refine tp rfl (lv_lss rfl rfl (decide_eq_true h8)) ?_
        refine t_done ?_
        refine q_then_n (hK21 _ _ ?_)
        refine c_true rfl ?_
        refine c_region ?_
        have hwob : 0 ≤ ord.getD j 0 ∧ ord.getD j 0 ≤ 65535 := by have h9 := wfob (ord.getD j 0) (by simp [List.getD, show j < ord.length by omega]); simpa [Lit.wf, IntKind.min, IntKind.max, IntKind.signed, IntKind.bits] using h9
        have hrm := Int.emod_nonneg (ord.getD j 0) (show ((n : Nat) : Int) - ((j : Nat) : Int) ≠ 0 by omega)
        have hrm2 := Int.emod_lt_of_pos (ord.getD j 0) (show 0 < ((n : Nat) : Int) - ((j : Nat) : Int) by omega)
        obtain ⟨k0, hk0⟩ : ∃ k : Nat, ((j : Nat) : Int) + ord.getD j 0 % (((n : Nat) : Int) - ((j : Nat) : Int)) = (k : Int) := ⟨(((j : Nat) : Int) + ord.getD j 0 % (((n : Nat) : Int) - ((j : Nat) : Int))).toNat, by omega⟩
        refine tp rfl (lv_move rfl) ?_
        refine tp rfl (lv_move rfl) ?_
        refine tp rfl (lv_move rfl) ?_
        refine tp rfl (lv_indexAddr (k' := j) Try.underlying23 Try.sizeOf27 rfl rfl okob (by omega) (by omega) (by omega)) ?_
        refine tp rfl (lv_load Try.isAgg27 rfl (Rd.gives (Rd.cons (Rd.cons hob)) (ints_get (by omega)))) ?_
        refine tp rfl (lv_convert (c := (ord).getD j 0) Try.underlying27 Try.underlying3 rfl (wr_i64 (by omega) (by omega))) ?_
        refine tp rfl (lv_move rfl) ?_
        refine tp rfl (lv_move rfl) ?_
        refine tp rfl (lv_sub (c := ((n : Nat) : Int) - ((j : Nat) : Int)) rfl rfl (wr_i64 (by omega) (by omega))) ?_
        refine tp rfl (lv_rem (c := ((ord).getD j 0) % (((n : Nat) : Int) - ((j : Nat) : Int))) rfl rfl (by omega) (Int.tmod_eq_emod_of_nonneg (by omega))) ?_
        refine tp rfl (lv_add (c := ((k0 : Nat) : Int)) rfl rfl ((wr_i64 (by omega) (by omega)).trans hk0)) ?_
        refine tp rfl (lv_assign rfl) ?_
        refine t_done ?_
        refine q_then_n (hK20 _ _ ?_)
        refine c_seq (fun K22 hK22 => ?_)
        refine c_region ?_
        have hkn : k0 < n ∧ j ≤ k0 := ⟨by omega, by omega⟩
        have hq2 := hids.swap (show j < ids.length by omega) (show k0 < ids.length by omega)
        refine tp rfl (lv_move rfl) ?_
        refine tp rfl (lv_move rfl) ?_
        refine tp rfl (lv_indexAddr (k' := j) Try.underlying22 Try.sizeOf3 rfl rfl hok4 (by omega) (by omega) (by omega)) ?_
        refine tp rfl (lv_load Try.isAgg3 rfl (gives_sl (.head _) (ints_get (by omega)))) ?_
        refine tp rfl (lv_assign rfl) ?_
        refine t_done ?_
        refine q_then_n (hK22 _ _ ?_)
        refine c_seq (fun K23 hK23 => ?_)
        refine c_region ?_
        refine tp rfl (lv_move rfl) ?_
        refine tp rfl (lv_move rfl) ?_
        refine tp rfl (lv_move rfl) ?_
        refine tp rfl (lv_move rfl) ?_
        refine tp rfl (lv_indexAddr (k' := k0) Try.underlying22 Try.sizeOf3 rfl rfl hok4 (by omega) (by omega) (by omega)) ?_
        refine tp rfl (lv_load Try.isAgg3 rfl (gives_sl (.head _) (ints_get (by omega)))) ?_
        refine tp rfl (lv_indexAddr (k' := j) Try.underlying22 Try.sizeOf3 rfl rfl hok4 (by omega) (by omega) (by omega)) ?_
        refine ts (sv_sl Try.sizeOf3 rfl rfl rfl (by rw [ints_length]; omega) ints_set) ?_
        refine t_done ?_
        refine q_then_n (hK23 _ _ ?_)
        refine c_seq (fun K24 hK24 => ?_)
        refine c_region ?_
        refine tp rfl (lv_move rfl) ?_
        refine tp rfl (lv_move rfl) ?_
        refine tp rfl (lv_move rfl) ?_
        refine tp rfl (lv_indexAddr (k' := k0) Try.underlying22 Try.sizeOf3 rfl rfl hok4 (by omega) (by omega) (by omega)) ?_
        refine ts (sv_sl Try.sizeOf3 rfl rfl rfl (by rw [ints_length, List.length_set]; omega) ints_set) ?_
        refine t_done ?_
        refine q_then_n (hK24 _ _ ?_)
        refine c_seq (fun K25 hK25 => ?_)
        rw [show (ids.set j (ids.getD k0 0)).set k0 (ids.getD j 0) = swapL ids j k0 from rfl]
        rw [← psh_swap (keys := keys) (n := n) (show j < ids.length by omega) (show k0 < ids.length by omega) hkn.2]
        have hsl : (swapL ids j k0).length = n := by rw [swapL_len]; exact hil
        have hsb := hq2.bd j (by omega)
        have hpp := psh_push (keys := keys) hq2 (show j < (swapL ids j k0).length by omega)
        refine c_draw (γ := Unit) (n := 14) Try.mixed rfl rfl (fun _ S => True) (fun _ => [(0, 77, (.pointer (some ⟨p1, 0, none⟩))), (1, 78, (.slice bs2 n cp3)), (2, 79, (.int .i64 ((j : Nat) : Int))), (3, 80, (.pointer (some (ad bs2 j)))), (4, 81, (.int .i64 ((swapL ids j k0).getD j 0))), (5, 82, (.slice bkb keys.length ckb)), (6, 83, (.slice bs2 n cp3)), (7, 84, (.int .i64 ((j : Nat) : Int))), (8, 85, (.pointer (some (ad bs2 j)))), (9, 86, (.int .i64 ((swapL ids j k0).getD j 0))), (10, 87, (.pointer (some (ad bkb (((swapL ids j k0).getD j 0).toNat))))), (11, 88, (.int .i64 ((keys).getD (((swapL ids j k0).getD j 0).toNat) 0))), (12, 89, (.int .i64 0)), (13, 90, (.bool false))]) (fun _ S => (SlV 3 1 (.slice bs2 n cp3) n (ints .i64 (swapL ids j k0))) :: (bif S 12 then (HeapO p1 n (pushK (pshK keys (swapL ids j k0) n j) ((swapL ids j k0).getD j 0) ((keys).getD (((swapL ids j k0).getD j 0).toNat) 0))) else (HeapO p1 n (pshK keys (swapL ids j k0) n j))) :: R) (()) trivial (fun _ h => h) (fun _ _ h => h) ?_ ?_
        · -- steps
         refine ⟨?_, ?_, ?_, ?_, ?_, ?_, ?_, ?_, ?_, ?_, ?_, ?_, ?_, ?_, trivial⟩
         · -- 0
          rintro _ S hF hS D hp K hK
          try dsimp only at hF ⊢
          refine d_need (small := [(7, (.pointer (some ⟨p1, 0, none⟩)))]) ⟨look_b rfl rfl, trivial⟩ ?_
          refine tp rfl (lv_move rfl) ?_
          exact d_closes ⟨look_b rfl rfl, trivial⟩ 0 rfl rfl rfl hS (AgreeR.refl _) (t_sat (fun _ h => h) (hK () trivial))
         · -- 1
          rintro _ S hF hS D hp K hK
          try dsimp only at hF ⊢
          refine d_need (small := [(8, (.slice bs2 n cp3))]) ⟨look_b rfl rfl, trivial⟩ ?_
          refine tp rfl (lv_move rfl) ?_
          exact d_closes ⟨look_b rfl rfl, trivial⟩ 1 rfl rfl rfl hS (AgreeR.refl _) (t_sat (fun _ h => h) (hK () trivial))
         · -- 2
          rintro _ S hF hS D hp K hK
          try dsimp only at hF ⊢
          refine d_need (small := [(10, (.int .i64 ((j : Nat) : Int)))]) ⟨look_b rfl rfl, trivial⟩ ?_
          refine tp rfl (lv_move rfl) ?_
          exact d_closes ⟨look_b rfl rfl, trivial⟩ 2 rfl rfl rfl hS (AgreeR.refl _) (t_sat (fun _ h => h) (hK () trivial))
         · -- 3
          rintro _ S hF hS D hp K hK
          try dsimp only at hF ⊢
          have s1 := hp 1 rfl
          have s2 := hp 2 rfl
          refine d_need (small := [(78, (.slice bs2 n cp3)), (79, (.int .i64 ((j : Nat) : Int)))]) ⟨look_row rfl 1 rfl s1, look_row rfl 2 rfl s2, trivial⟩ ?_
          refine tp rfl (lv_indexAddr (k' := j) Try.underlying22 Try.sizeOf3 rfl rfl hok4 (by omega) (by omega) (by omega)) ?_
          exact d_closes ⟨look_row rfl 1 rfl s1, look_row rfl 2 rfl s2, trivial⟩ 3 rfl rfl rfl hS (AgreeR.refl _) (t_sat (fun _ h => h) (hK () trivial))
         · -- 4
          rintro _ S hF hS D hp K hK
          try dsimp only at hF ⊢
          have s3 := hp 3 rfl
          refine d_need (small := [(80, (.pointer (some (ad bs2 j))))]) ⟨look_row rfl 3 rfl s3, trivial⟩ ?_
          refine tp rfl (lv_load Try.isAgg3 rfl (gives_sl (.head _) (ints_get (by omega)))) ?_
          exact d_closes ⟨look_row rfl 3 rfl s3, trivial⟩ 4 rfl rfl rfl hS (AgreeR.refl _) (t_sat (fun _ h => h) (hK () trivial))
         · -- 5
          rintro _ S hF hS D hp K hK
          try dsimp only at hF ⊢
          refine d_need (small := [(0, (.slice bkb keys.length ckb))]) ⟨look_b rfl rfl, trivial⟩ ?_
          refine tp rfl (lv_move rfl) ?_
          exact d_closes ⟨look_b rfl rfl, trivial⟩ 5 rfl rfl rfl hS (AgreeR.refl _) (t_sat (fun _ h => h) (hK () trivial))
         · -- 6
          rintro _ S hF hS D hp K hK
          try dsimp only at hF ⊢
          refine d_need (small := [(8, (.slice bs2 n cp3))]) ⟨look_b rfl rfl, trivial⟩ ?_
          refine tp rfl (lv_move rfl) ?_
          exact d_closes ⟨look_b rfl rfl, trivial⟩ 6 rfl rfl rfl hS (AgreeR.refl _) (t_sat (fun _ h => h) (hK () trivial))
         · -- 7
          rintro _ S hF hS D hp K hK
          try dsimp only at hF ⊢
          refine d_need (small := [(10, (.int .i64 ((j : Nat) : Int)))]) ⟨look_b rfl rfl, trivial⟩ ?_
          refine tp rfl (lv_move rfl) ?_
          exact d_closes ⟨look_b rfl rfl, trivial⟩ 7 rfl rfl rfl hS (AgreeR.refl _) (t_sat (fun _ h => h) (hK () trivial))
         · -- 8
          rintro _ S hF hS D hp K hK
          try dsimp only at hF ⊢
          have s6 := hp 6 rfl
          have s7 := hp 7 rfl
          refine d_need (small := [(83, (.slice bs2 n cp3)), (84, (.int .i64 ((j : Nat) : Int)))]) ⟨look_row rfl 6 rfl s6, look_row rfl 7 rfl s7, trivial⟩ ?_
          refine tp rfl (lv_indexAddr (k' := j) Try.underlying22 Try.sizeOf3 rfl rfl hok4 (by omega) (by omega) (by omega)) ?_
          exact d_closes ⟨look_row rfl 6 rfl s6, look_row rfl 7 rfl s7, trivial⟩ 8 rfl rfl rfl hS (AgreeR.refl _) (t_sat (fun _ h => h) (hK () trivial))
         · -- 9
          rintro _ S hF hS D hp K hK
          try dsimp only at hF ⊢
          have s8 := hp 8 rfl
          refine d_need (small := [(85, (.pointer (some (ad bs2 j))))]) ⟨look_row rfl 8 rfl s8, trivial⟩ ?_
          refine tp rfl (lv_load Try.isAgg3 rfl (gives_sl (.head _) (ints_get (by omega)))) ?_
          exact d_closes ⟨look_row rfl 8 rfl s8, trivial⟩ 9 rfl rfl rfl hS (AgreeR.refl _) (t_sat (fun _ h => h) (hK () trivial))
         · -- 10
          rintro _ S hF hS D hp K hK
          try dsimp only at hF ⊢
          have s5 := hp 5 rfl
          have s9 := hp 9 rfl
          refine d_need (small := [(82, (.slice bkb keys.length ckb)), (86, (.int .i64 ((swapL ids j k0).getD j 0)))]) ⟨look_row rfl 5 rfl s5, look_row rfl 9 rfl s9, trivial⟩ ?_
          refine tp rfl (lv_indexAddr (k' := ((swapL ids j k0).getD j 0).toNat) Try.underlying22 Try.sizeOf3 rfl rfl okkb (by omega) (by omega) (by omega)) ?_
          exact d_closes ⟨look_row rfl 5 rfl s5, look_row rfl 9 rfl s9, trivial⟩ 10 rfl rfl rfl hS (AgreeR.refl _) (t_sat (fun _ h => h) (hK () trivial))
         · -- 11
          rintro _ S hF hS D hp K hK
          try dsimp only at hF ⊢
          have s10 := hp 10 rfl
          refine d_need (small := [(87, (.pointer (some (ad bkb (((swapL ids j k0).getD j 0).toNat)))))]) ⟨look_row rfl 10 rfl s10, trivial⟩ ?_
          refine tp rfl (lv_load Try.isAgg3 rfl (Rd.gives (Rd.cons (Rd.cons hkb)) (ints_get (by omega)))) ?_
          exact d_closes ⟨look_row rfl 10 rfl s10, trivial⟩ 11 rfl rfl rfl hS (AgreeR.refl _) (t_sat (fun _ h => h) (hK () trivial))
         · -- 12
          rintro _ S hF hS D hp K hK
          try dsimp only at hF ⊢
          have s0 := hp 0 rfl
          have s4 := hp 4 rfl
          have s11 := hp 11 rfl
          refine d_need (small := [(77, (.pointer (some ⟨p1, 0, none⟩))), (81, (.int .i64 ((swapL ids j k0).getD j 0))), (88, (.int .i64 ((keys).getD (((swapL ids j k0).getD j 0).toNat) 0)))]) ⟨look_row rfl 0 rfl s0, look_row rfl 4 rfl s4, look_row rfl 11 rfl s11, trivial⟩ ?_
          refine t_f1 ?_
          refine t_cF hS ?_
          refine tc rfl (en_fn Try.call13 rfl) (hpush_ok (n := n) (ks := pshK keys (swapL ids j k0) n j) ((swapL ids j k0).getD j 0) ((keys).getD (((swapL ids j k0).getD j 0).toNat) 0)) ?_
          rintro _ _ ⟨rfl, rfl⟩
          rw [show pushE (pshK keys (swapL ids j k0) n j) ((swapL ids j k0).getD j 0) = 0 from hpp.1]
          refine t_f1 ?_
          exact d_closes ⟨look_row rfl 0 rfl s0, look_row rfl 4 rfl s4, look_row rfl 11 rfl s11, trivial⟩ 12 rfl rfl rfl hS (AgreeR.refl _) (t_sat (fun _ h => h) (hK () trivial))
         · -- 13
          rintro _ S hF hS D hp K hK
          try dsimp only at hF ⊢
          have s12 := hp 12 rfl
          refine d_need (small := [(89, (.int .i64 0))]) ⟨look_row rfl 12 rfl s12, trivial⟩ ?_
          refine tp rfl (lv_neq (r := false) rfl rfl (by decide)) ?_
          exact d_closes ⟨look_row rfl 12 rfl s12, trivial⟩ 13 rfl rfl rfl hS (AgreeR.refl _) (t_sat (fun _ h => h) (hK () trivial))
        · -- behind
         rintro _ hF
         try dsimp only at hF ⊢
         refine t_weak (E' := [(0, (.slice bkb keys.length ckb)), (1, (.slice bob ord.length cob)), (5, (.bool true)), (6, (.int .i64 ((n : Nat) : Int))), (7, (.pointer (some ⟨p1, 0, none⟩))), (8, (.slice bs2 n cp3)), (9, (.int .i64 ((i : Nat) : Int))), (10, (.int .i64 ((j : Nat) : Int))), (11, (.int .i64 ((k0 : Nat) : Int))), (12, (.int .i64 ((ids).getD j 0))), (29, (.bool false)), (34, (.bool false)), (43, (.bool true)), (50, (.bool true)), (90, (.bool false))]) ⟨rfl, rfl, rfl, rfl, rfl, rfl, rfl, rfl, rfl, rfl, rfl, rfl, rfl, rfl, rfl, trivial⟩ ?_
         refine q_then_n (hK25 _ _ ?_)
         refine c_false rfl ?_
         refine c_skip ?_
         refine q_in_n ?_
         refine q_then_n (hK18 _ _ ?_)
         refine c_region ?_
         rw [show pushK (pshK keys (swapL ids j k0) n j) ((swapL ids j k0).getD j 0) ((keys).getD (((swapL ids j k0).getD j 0).toNat) 0) = pshK keys (swapL ids j k0) n (j + 1) from hpp.2]
         refine tp rfl (lv_move rfl) ?_
         refine tp rfl (lv_add (c := ((j + 1 : Nat) : Int)) rfl rfl (wr_i64_succ (by omega))) ?_
         refine tp rfl (lv_assign rfl) ?_
         refine t_done ?_
         refine q_then_n ?_
         exact t_weak (by exact ⟨rfl, rfl, rfl, rfl, rfl, rfl, rfl, rfl, rfl, rfl, trivial⟩) ((hK15 (j + 1, swapL ids j k0) ⟨by omega, hq2, by rw [swapL_len]; exact hil⟩ (by dsimp only; omega)))
      · -- no
        refine tp rfl (lv_lss rfl rfl (decide_eq_false h8)) ?_
        refine t_done ?_
        refine q_then_n (hK21 _ _ ?_)
        refine c_false rfl ?_
        refine c_skip ?_
        refine q_then_n (hK20 _ _ ?_)
        refine c_seq (fun K22 hK22 => ?_)
        refine c_region ?_
        have hkn : j < n ∧ j ≤ j := ⟨by omega, by omega⟩
        have hq2 := hids.swap (show j < ids.length by omega) (show j < ids.length by omega)
        refine tp rfl (lv_move rfl) ?_
        refine tp rfl (lv_move rfl) ?_
        refine tp rfl (lv_indexAddr (k' := j) Try.underlying22 Try.sizeOf3 rfl rfl hok4 (by omega) (by omega) (by omega)) ?_
        refine tp rfl (lv_load Try.isAgg3 rfl (gives_sl (.head _) (ints_get (by omega)))) ?_
        refine tp rfl (lv_assign rfl) ?_
        refine t_done ?_
        refine q_then_n (hK22 _ _ ?_)
        refine c_seq (fun K23 hK23 => ?_)
        refine c_region ?_
        refine tp rfl (lv_move rfl) ?_
        refine tp rfl (lv_move rfl) ?_
        refine tp rfl (lv_move rfl) ?_
        refine tp rfl (lv_move rfl) ?_
        refine tp rfl (lv_indexAddr (k' := j) Try.underlying22 Try.sizeOf3 rfl rfl hok4 (by omega) (by omega) (by omega)) ?_
        refine tp rfl (lv_load Try.isAgg3 rfl (gives_sl (.head _) (ints_get (by omega)))) ?_
        refine tp rfl (lv_indexAddr (k' := j) Try.underlying22 Try.sizeOf3 rfl rfl hok4 (by omega) (by omega) (by omega)) ?_
        refine ts (sv_sl Try.sizeOf3 rfl rfl rfl (by rw [ints_length]; omega) ints_set) ?_
        refine t_done ?_
        refine q_then_n (hK23 _ _ ?_)
        refine c_seq (fun K24 hK24 => ?_)
        refine c_region ?_
        refine tp rfl (lv_move rfl) ?_
        refine tp rfl (lv_move rfl) ?_
        refine tp rfl (lv_move rfl) ?_
        refine tp rfl (lv_indexAddr (k' := j) Try.underlying22 Try.sizeOf3 rfl rfl hok4 (by omega) (by omega) (by omega)) ?_
        refine ts (sv_sl Try.sizeOf3 rfl rfl rfl (by rw [ints_length, List.length_set]; omega) ints_set) ?_
        refine t_done ?_
        refine q_then_n (hK24 _ _ ?_)
        refine c_seq (fun K25 hK25 => ?_)
        rw [show (ids.set j (ids.getD j 0)).set j (ids.getD j 0) = swapL ids j j from rfl]
        rw [← psh_swap (keys := keys) (n := n) (show j < ids.length by omega) (show j < ids.length by omega) hkn.2]
        have hsl : (swapL ids j j).length = n := by rw [swapL_len]; exact hil
        have hsb := hq2.bd j (by omega)
        have hpp := psh_push (keys := keys) hq2 (show j < (swapL ids j j).length by omega)
        refine c_draw (γ := Unit) (n := 14) Try.mixed rfl rfl (fun _ S => True) (fun _ => [(0, 77, (.pointer (some ⟨p1, 0, none⟩))), (1, 78, (.slice bs2 n cp3)), (2, 79, (.int .i64 ((j : Nat) : Int))), (3, 80, (.pointer (some (ad bs2 j)))), (4, 81, (.int .i64 ((swapL ids j j).getD j 0))), (5, 82, (.slice bkb keys.length ckb)), (6, 83, (.slice bs2 n cp3)), (7, 84, (.int .i64 ((j : Nat) : Int))), (8, 85, (.pointer (some (ad bs2 j)))), (9, 86, (.int .i64 ((swapL ids j j).getD j 0))), (10, 87, (.pointer (some (ad bkb (((swapL ids j j).getD j 0).toNat))))), (11, 88, (.int .i64 ((keys).getD (((swapL ids j j).getD j 0).toNat) 0))), (12, 89, (.int .i64 0)), (13, 90, (.bool false))]) (fun _ S => (SlV 3 1 (.slice bs2 n cp3) n (ints .i64 (swapL ids j j))) :: (bif S 12 then (HeapO p1 n (pushK (pshK keys (swapL ids j j) n j) ((swapL ids j j).getD j 0) ((keys).getD (((swapL ids j j).getD j 0).toNat) 0))) else (HeapO p1 n (pshK keys (swapL ids j j) n j))) :: R) (()) trivial (fun _ h => h) (fun _ _ h => h) ?_ ?_
        · -- steps
         refine ⟨?_, ?_, ?_, ?_, ?_, ?_, ?_, ?_, ?_, ?_, ?_, ?_, ?_, ?_, trivial⟩
         · -- 0
          rintro _ S hF hS D hp K hK
          try dsimp only at hF ⊢
          refine d_need (small := [(7, (.pointer (some ⟨p1, 0, none⟩)))]) ⟨look_b rfl rfl, trivial⟩ ?_
          refine tp rfl (lv_move rfl) ?_
          exact d_closes ⟨look_b rfl rfl, trivial⟩ 0 rfl rfl rfl hS (AgreeR.refl _) (t_sat (fun _ h => h) (hK () trivial))
         · -- 1
          rintro _ S hF hS D hp K hK
          try dsimp only at hF ⊢
          refine d_need (small := [(8, (.slice bs2 n cp3))]) ⟨look_b rfl rfl, trivial⟩ ?_
          refine tp rfl (lv_move rfl) ?_
          exact d_closes ⟨look_b rfl rfl, trivial⟩ 1 rfl rfl rfl hS (AgreeR.refl _) (t_sat (fun _ h => h) (hK () trivial))
         · -- 2
          rintro _ S hF hS D hp K hK
          try dsimp only at hF ⊢
          refine d_need (small := [(10, (.int .i64 ((j : Nat) : Int)))]) ⟨look_b rfl rfl, trivial⟩ ?_
          refine tp rfl (lv_move rfl) ?_
          exact d_closes ⟨look_b rfl rfl, trivial⟩ 2 rfl rfl rfl hS (AgreeR.refl _) (t_sat (fun _ h => h) (hK () trivial))
         · -- 3
          rintro _ S hF hS D hp K hK
          try dsimp only at hF ⊢
          have s1 := hp 1 rfl
          have s2 := hp 2 rfl
          refine d_need (small := [(78, (.slice bs2 n cp3)), (79, (.int .i64 ((j : Nat) : Int)))]) ⟨look_row rfl 1 rfl s1, look_row rfl 2 rfl s2, trivial⟩ ?_
          refine tp rfl (lv_indexAddr (k' := j) Try.underlying22 Try.sizeOf3 rfl rfl hok4 (by omega) (by omega) (by omega)) ?_
          exact d_closes ⟨look_row rfl 1 rfl s1, look_row rfl 2 rfl s2, trivial⟩ 3 rfl rfl rfl hS (AgreeR.refl _) (t_sat (fun _ h => h) (hK () trivial))
         · -- 4
          rintro _ S hF hS D hp K hK
          try dsimp only at hF ⊢
          have s3 := hp 3 rfl
          refine d_need (small := [(80, (.pointer (some (ad bs2 j))))]) ⟨look_row rfl 3 rfl s3, trivial⟩ ?_
          refine tp rfl (lv_load Try.isAgg3 rfl (gives_sl (.head _) (ints_get (by omega)))) ?_
          exact d_closes ⟨look_row rfl 3 rfl s3, trivial⟩ 4 rfl rfl rfl hS (AgreeR.refl _) (t_sat (fun _ h => h) (hK () trivial))
         · -- 5
          rintro _ S hF hS D hp K hK
          try dsimp only at hF ⊢
          refine d_need (small := [(0, (.slice bkb keys.length ckb))]) ⟨look_b rfl rfl, trivial⟩ ?_
          refine tp rfl (lv_move rfl) ?_
          exact d_closes ⟨look_b rfl rfl, trivial⟩ 5 rfl rfl rfl hS (AgreeR.refl _) (t_sat (fun _ h => h) (hK () trivial))
         · -- 6
          rintro _ S hF hS D hp K hK
          try dsimp only at hF ⊢
          refine d_need (small := [(8, (.slice bs2 n cp3))]) ⟨look_b rfl rfl, trivial⟩ ?_
          refine tp rfl (lv_move rfl) ?_
          exact d_closes ⟨look_b rfl rfl, trivial⟩ 6 rfl rfl rfl hS (AgreeR.refl _) (t_sat (fun _ h => h) (hK () trivial))
         · -- 7
          rintro _ S hF hS D hp K hK
          try dsimp only at hF ⊢
          refine d_need (small := [(10, (.int .i64 ((j : Nat) : Int)))]) ⟨look_b rfl rfl, trivial⟩ ?_
          refine tp rfl (lv_move rfl) ?_
          exact d_closes ⟨look_b rfl rfl, trivial⟩ 7 rfl rfl rfl hS (AgreeR.refl _) (t_sat (fun _ h => h) (hK () trivial))
         · -- 8
          rintro _ S hF hS D hp K hK
          try dsimp only at hF ⊢
          have s6 := hp 6 rfl
          have s7 := hp 7 rfl
          refine d_need (small := [(83, (.slice bs2 n cp3)), (84, (.int .i64 ((j : Nat) : Int)))]) ⟨look_row rfl 6 rfl s6, look_row rfl 7 rfl s7, trivial⟩ ?_
          refine tp rfl (lv_indexAddr (k' := j) Try.underlying22 Try.sizeOf3 rfl rfl hok4 (by omega) (by omega) (by omega)) ?_
          exact d_closes ⟨look_row rfl 6 rfl s6, look_row rfl 7 rfl s7, trivial⟩ 8 rfl rfl rfl hS (AgreeR.refl _) (t_sat (fun _ h => h) (hK () trivial))
         · -- 9
          rintro _ S hF hS D hp K hK
          try dsimp only at hF ⊢
          have s8 := hp 8 rfl
          refine d_need (small := [(85, (.pointer (some (ad bs2 j))))]) ⟨look_row rfl 8 rfl s8, trivial⟩ ?_
          refine tp rfl (lv_load Try.isAgg3 rfl (gives_sl (.head _) (ints_get (by omega)))) ?_
          exact d_closes ⟨look_row rfl 8 rfl s8, trivial⟩ 9 rfl rfl rfl hS (AgreeR.refl _) (t_sat (fun _ h => h) (hK () trivial))
         · -- 10
          rintro _ S hF hS D hp K hK
          try dsimp only at hF ⊢
          have s5 := hp 5 rfl
          have s9 := hp 9 rfl
          refine d_need (small := [(82, (.slice bkb keys.length ckb)), (86, (.int .i64 ((swapL ids j j).getD j 0)))]) ⟨look_row rfl 5 rfl s5, look_row rfl 9 rfl s9, trivial⟩ ?_
          refine tp rfl (lv_indexAddr (k' := ((swapL ids j j).getD j 0).toNat) Try.underlying22 Try.sizeOf3 rfl rfl okkb (by omega) (by omega) (by omega)) ?_
          exact d_closes ⟨look_row rfl 5 rfl s5, look_row rfl 9 rfl s9, trivial⟩ 10 rfl rfl rfl hS (AgreeR.refl _) (t_sat (fun _ h => h) (hK () trivial))
         · -- 11
          rintro _ S hF hS D hp K hK
          try dsimp only at hF ⊢
          have s10 := hp 10 rfl
          refine d_need (small := [(87, (.pointer (some (ad bkb (((swapL ids j j).getD j 0).toNat)))))]) ⟨look_row rfl 10 rfl s10, trivial⟩ ?_
          refine tp rfl (lv_load Try.isAgg3 rfl (Rd.gives (Rd.cons (Rd.cons hkb)) (ints_get (by omega)))) ?_
          exact d_closes ⟨look_row rfl 10 rfl s10, trivial⟩ 11 rfl rfl rfl hS (AgreeR.refl _) (t_sat (fun _ h => h) (hK () trivial))
         · -- 12
          rintro _ S hF hS D hp K hK
          try dsimp only at hF ⊢
          have s0 := hp 0 rfl
          have s4 := hp 4 rfl
          have s11 := hp 11 rfl
          refine d_need (small := [(77, (.pointer (some ⟨p1, 0, none⟩))), (81, (.int .i64 ((swapL ids j j).getD j 0))), (88, (.int .i64 ((keys).getD (((swapL ids j j).getD j 0).toNat) 0)))]) ⟨look_row rfl 0 rfl s0, look_row rfl 4 rfl s4, look_row rfl 11 rfl s11, trivial⟩ ?_
          refine t_f1 ?_
          refine t_cF hS ?_
          refine tc rfl (en_fn Try.call13 rfl) (hpush_ok (n := n) (ks := pshK keys (swapL ids j j) n j) ((swapL ids j j).getD j 0) ((keys).getD (((swapL ids j j).getD j 0).toNat) 0)) ?_
          rintro _ _ ⟨rfl, rfl⟩
          rw [show pushE (pshK keys (swapL ids j j) n j) ((swapL ids j j).getD j 0) = 0 from hpp.1]
          refine t_f1 ?_
          exact d_closes ⟨look_row rfl 0 rfl s0, look_row rfl 4 rfl s4, look_row rfl 11 rfl s11, trivial⟩ 12 rfl rfl rfl hS (AgreeR.refl _) (t_sat (fun _ h => h) (hK () trivial))
         · -- 13
          rintro _ S hF hS D hp K hK
          try dsimp only at hF ⊢
          have s12 := hp 12 rfl
          refine d_need (small := [(89, (.int .i64 0))]) ⟨look_row rfl 12 rfl s12, trivial⟩ ?_
          refine tp rfl (lv_neq (r := false) rfl rfl (by decide)) ?_
          exact d_closes ⟨look_row rfl 12 rfl s12, trivial⟩ 13 rfl rfl rfl hS (AgreeR.refl _) (t_sat (fun _ h => h) (hK () trivial))
        · -- behind
         rintro _ hF
         try dsimp only at hF ⊢
         refine t_weak (E' := [(0, (.slice bkb keys.length ckb)), (1, (.slice bob ord.length cob)), (5, (.bool true)), (6, (.int .i64 ((n : Nat) : Int))), (7, (.pointer (some ⟨p1, 0, none⟩))), (8, (.slice bs2 n cp3)), (9, (.int .i64 ((i : Nat) : Int))), (10, (.int .i64 ((j : Nat) : Int))), (11, (.int .i64 ((j : Nat) : Int))), (12, (.int .i64 ((ids).getD j 0))), (29, (.bool false)), (34, (.bool false)), (43, (.bool true)), (50, (.bool false)), (90, (.bool false))]) ⟨rfl, rfl, rfl, rfl, rfl, rfl, rfl, rfl, rfl, rfl, rfl, rfl, rfl, rfl, rfl, trivial⟩ ?_
         refine q_then_n (hK25 _ _ ?_)
         refine c_false rfl ?_
         refine c_skip ?_
         refine q_in_n ?_
         refine q_then_n (hK18 _ _ ?_)
         refine c_region ?_
         rw [show pushK (pshK keys (swapL ids j j) n j) ((swapL ids j j).getD j 0) ((keys).getD (((swapL ids j j).getD j 0).toNat) 0) = pshK keys (swapL ids j j) n (j + 1) from hpp.2]
         refine tp rfl (lv_move rfl) ?_
         refine tp rfl (lv_add (c := ((j + 1 : Nat) : Int)) rfl rfl (wr_i64_succ (by omega))) ?_
         refine tp rfl (lv_assign rfl) ?_
         refine t_done ?_
         refine q_then_n ?_
         exact t_weak (by exact ⟨rfl, rfl, rfl, rfl, rfl, rfl, rfl, rfl, rfl, rfl, trivial⟩) ((hK15 (j + 1, swapL ids j j) ⟨by omega, hq2, by rw [swapL_len]; exact hil⟩ (by dsimp only; omega)))
    · -- no
      refine tp rfl (lv_lss rfl rfl (decide_eq_false h7)) ?_
      refine t_done ?_
      refine q_then_n (hK17 _ _ ?_)
      refine c_false rfl ?_
      refine c_exit ?_
      refine q_then_x ?_
      refine q_then_x ?_
      refine q_in_x ?_
      refine q_then_n (hK13 _ _ ?_)
      refine c_seq (fun K18 hK18 => ?_)
      refine c_region ?_
      refine tp rfl (lv_assign rfl) ?_
      refine t_done ?_
      refine q_then_n (hK18 _ _ ?_)
      refine c_seq (fun K19 hK19 => ?_)
      refine c_region ?_
      refine tp rfl (lv_move rfl) ?_
      refine tm rfl (mv_makeSlice (i := Try.t4) Try.underlying30 Try.type4 rfl rfl rfl rfl rfl (by omega) (by rw [show Try.t4.bytes = 1 from rfl]; omega) (by omega)) ?_
      rintro _ _ ⟨bs9, cp10, hok11, hle12, rfl, rfl⟩
      rw [bools_rep]
      refine tp rfl (lv_assign rfl) ?_
      refine t_done ?_
      refine q_then_n (hK19 _ _ ?_)
      refine c_seq (fun K20 hK20 => ?_)
      refine c_seq (fun K21 hK21 => ?_)
      refine c_region ?_
      rw [show pshK keys ids n j = selK keys (List.replicate n false) n from by rw [show j = n by omega]; exact psh_end hids hil]
      refine tp rfl (lv_assign rfl) ?_
      refine t_done ?_
      refine q_then_n (hK21 _ _ ?_)
      refine c_block ?_
      refine c_loop (γ := (Nat) × (List Bool) × (Int)) (fun (t, seen, last) => t ≤ n ∧ PopOk keys n seen last t) (fun (t, seen, last) => [(0, (.slice bkb keys.length ckb)), (1, (.slice bob ord.length cob)), (5, (.bool true)), (6, (.int .i64 ((n : Nat) : Int))), (7, (.pointer (some ⟨p1, 0, none⟩))), (8, (.slice bs2 n cp3)), (9, (.int .i64 ((i : Nat) : Int))), (10, (.int .i64 ((j : Nat) : Int))), (13, (.int .i64 last)), (14, (.slice bs9 n cp10)), (15, (.int .i64 ((t : Nat) : Int))), (29, (.bool false)), (34, (.bool false)), (43, (.bool false))]) (fun (t, seen, last) => (SlV 4 1 (.slice bs9 n cp10) n (bools seen)) :: (SlV 3 1 (.slice bs2 n cp3) n (ints .i64 ids)) :: (HeapO p1 n (selK keys seen n)) :: R) (fun (t, seen, last) => n - t) (0, List.replicate n false, (-1)) ⟨by omega, PopOk.start keys n⟩ ⟨rfl, rfl, rfl, rfl, rfl, rfl, rfl, rfl, rfl, rfl, rfl, rfl, rfl, rfl, trivial⟩ (fun _ h => h) ?_
      rintro ⟨t, seen, last⟩ K22 hF hK22
      try dsimp only at hF hK22 ⊢
      obtain ⟨ht, hpo⟩ := hF
      have hsl := hpo.len
      refine c_seq (fun K23 hK23 => ?_)
      refine c_seq (fun K24 hK24 => ?_)
      refine c_region ?_
      refine tp rfl (lv_move rfl) ?_
      refine tp rfl (lv_move rfl) ?_
      by_cases h13 : ((t : Nat) : Int) < ((n : Nat) : Int)
      · -- yes
        refine tp rfl (lv_lss rfl rfl (decide_eq_true h13)) ?_
        refine t_done ?_
        refine q_then_n (hK24 _ _ ?_)
        refine c_true rfl ?_
        refine c_skip ?_
        refine q_then_n (hK23 _ _ ?_)
        refine c_seq (fun K25 hK25 => ?_)
        refine c_block ?_
        refine c_seq (fun K26 hK26 => ?_)
        refine c_region ?_
        obtain ⟨i0, hi0, e1, e2, e3, hs0, e4, hlast, hnxt⟩ := hpo.next (show t < n by omega)
        refine tp rfl (lv_move rfl) ?_
        refine t_f2 ?_
        refine tc rfl (en_fn Try.call14 rfl) (hpop_ok (n := n) (ks := selK keys seen n) ) ?_
        rintro _ _ ⟨rfl, rfl⟩
        rw [show fstI (selK keys seen n) = ((i0 : Nat) : Int) from e1]
        rw [show fstV (selK keys seen n) = (keys.getD i0 0) from e2]
        rw [show fstB (selK keys seen n) = true from e3]
        rw [show popK (selK keys seen n) = selK keys (seen.set i0 true) n from e4]
        refine tp rfl (lv_move rfl) ?_
        refine tp rfl (lv_extract rfl rfl) ?_
        refine tp rfl (lv_extract rfl rfl) ?_
        refine tp rfl (lv_extract rfl rfl) ?_
        refine tp rfl (lv_assign rfl) ?_
        refine tp rfl (lv_assign rfl) ?_
        refine tp rfl (lv_assign rfl) ?_
        refine t_done ?_
        refine q_then_n (hK26 _ _ ?_)
        refine c_seq (fun K27 hK27 => ?_)
        refine c_seq (fun K28 hK28 => ?_)
        refine c_region ?_
        refine tp rfl (lv_move rfl) ?_
        refine tp rfl (lv_not (c := false) rfl rfl) ?_
        refine tp rfl (lv_move rfl) ?_
        refine t_guard rfl rfl ?_
        refine tp rfl (lv_move rfl) ?_
        refine t_guard rfl rfl ?_
        refine tp rfl (lv_lss rfl rfl (decide_eq_false (by omega))) ?_
        refine tp rfl (lv_pick_f rfl rfl) ?_
        refine tp rfl (lv_move rfl) ?_
        refine t_guard rfl rfl ?_
        refine tp rfl (lv_move rfl) ?_
        refine t_guard rfl rfl ?_
        refine tp rfl (lv_move rfl) ?_
        refine t_guard rfl rfl ?_
        refine tp rfl (lv_geq rfl rfl (decide_eq_false (by omega))) ?_
        refine tp rfl (lv_pick_f rfl rfl) ?_
        refine tp rfl (lv_move rfl) ?_
        refine t_guard rfl rfl ?_
        refine tp rfl (lv_move rfl) ?_
        refine t_guard rfl rfl ?_
        refine tp rfl (lv_move rfl) ?_
        refine t_guard rfl rfl ?_
        refine tp rfl (lv_indexAddr (k' := i0) Try.underlying30 Try.sizeOf4 rfl rfl hok11 (by omega) (by omega) (by omega)) ?_
        refine t_guard rfl rfl ?_
        refine tp rfl (lv_load Try.isAgg4 rfl (gives_as (v := .bool false) (by first | rw [hs0] | rw [Int.toNat_natCast, hs0]) (gives_sl (.tail _ (.head _)) (bools_get (by omega))))) ?_
        refine tp rfl (lv_pick_f rfl rfl) ?_
        refine tp rfl (lv_move rfl) ?_
        refine t_guard rfl rfl ?_
        refine tp rfl (lv_move rfl) ?_
        refine t_guard rfl rfl ?_
        refine tp rfl (lv_move rfl) ?_
        refine t_guard rfl rfl ?_
        refine tp rfl (lv_move rfl) ?_
        refine t_guard rfl rfl ?_
        refine tp rfl (lv_indexAddr (k' := i0) Try.underlying22 Try.sizeOf3 rfl rfl okkb (by omega) (by omega) (by omega)) ?_
        refine t_guard rfl rfl ?_
        refine tp rfl (lv_load Try.isAgg3 rfl (Rd.gives (Rd.cons (Rd.cons (Rd.cons hkb))) (ints_get (by omega)))) ?_
        refine t_guard rfl rfl ?_
        refine tp rfl (lv_neq rfl rfl (bne_eq_false_iff_eq.2 (by rfl))) ?_
        refine tp rfl (lv_pick_f rfl rfl) ?_
        refine tp rfl (lv_move rfl) ?_
        refine t_guard rfl rfl ?_
        refine tp rfl (lv_move rfl) ?_
        refine t_guard rfl rfl ?_
        by_cases h14 : last ≥ 0
        · -- yes
         refine tp rfl (lv_geq rfl rfl (decide_eq_true h14)) ?_
         refine t_guard rfl rfl ?_
         refine tp rfl (lv_move rfl) ?_
         refine t_guard rfl rfl ?_
         refine tp rfl (lv_move rfl) ?_
         refine t_guard rfl rfl ?_
         refine tp rfl (lv_move rfl) ?_
         refine t_guard rfl rfl ?_
         refine tp rfl (lv_indexAddr (k' := last.toNat) Try.underlying22 Try.sizeOf3 rfl rfl okkb (by omega) (by omega) (by omega)) ?_
         refine t_guard rfl rfl ?_
         refine tp rfl (lv_load Try.isAgg3 rfl (Rd.gives (Rd.cons (Rd.cons (Rd.cons hkb))) (ints_get (by omega)))) ?_
         refine t_guard rfl rfl ?_
         refine tp rfl (lv_move rfl) ?_
         refine t_guard rfl rfl ?_
         refine tp rfl (lv_gtr rfl rfl (decide_eq_false (by omega))) ?_
         refine t_guard rfl rfl ?_
         refine tp rfl (lv_move rfl) ?_
         refine t_guard rfl rfl ?_
         refine tp rfl (lv_move rfl) ?_
         refine t_guard rfl rfl ?_
         refine tp rfl (lv_move rfl) ?_
         refine t_guard rfl rfl ?_
         refine tp rfl (lv_indexAddr (k' := last.toNat) Try.underlying22 Try.sizeOf3 rfl rfl okkb (by omega) (by omega) (by omega)) ?_
         refine t_guard rfl rfl ?_
         refine tp rfl (lv_load Try.isAgg3 rfl (Rd.gives (Rd.cons (Rd.cons (Rd.cons hkb))) (ints_get (by omega)))) ?_
         refine t_guard rfl rfl ?_
         refine tp rfl (lv_move rfl) ?_
         refine t_guard rfl rfl ?_
         by_cases h15 : ((keys).getD last.toNat 0) = (keys.getD i0 0)
         · -- yes
          refine tp rfl (lv_eql rfl rfl (beq_iff_eq.2 h15)) ?_
          refine t_guard rfl rfl ?_
          refine tp rfl (lv_move rfl) ?_
          refine t_guard rfl rfl ?_
          refine tp rfl (lv_move rfl) ?_
          refine t_guard rfl rfl ?_
          refine tp rfl (lv_move rfl) ?_
          refine t_guard rfl rfl ?_
          refine tp rfl (lv_gtr rfl rfl (decide_eq_false (by omega))) ?_
          refine t_guard rfl rfl ?_
          refine tp rfl (lv_pick_t rfl rfl) ?_
          refine t_guard rfl rfl ?_
          refine tp rfl (lv_pick_f rfl rfl) ?_
          refine t_guard rfl rfl ?_
          refine tp rfl (lv_pick_t rfl rfl) ?_
          refine tp rfl (lv_pick_f rfl rfl) ?_
          refine t_done ?_
          refine q_then_n (hK28 _ _ ?_)
          refine c_false rfl ?_
          refine c_skip ?_
          refine q_then_n (hK27 _ _ ?_)
          refine c_seq (fun K29 hK29 => ?_)
          refine c_region ?_
          refine tp rfl (lv_move rfl) ?_
          refine tp rfl (lv_move rfl) ?_
          refine tp rfl (lv_indexAddr (k' := i0) Try.underlying30 Try.sizeOf4 rfl rfl hok11 (by omega) (by omega) (by omega)) ?_
          refine t_f1 ?_
          refine ts (sv_sl Try.sizeOf4 rfl rfl rfl (by rw [bools_length]; omega) bools_set) ?_
          refine t_done ?_
          refine q_then_n (hK29 _ _ ?_)
          refine c_region ?_
          refine tp rfl (lv_move rfl) ?_
          refine tp rfl (lv_assign rfl) ?_
          refine t_done ?_
          refine q_in_n ?_
          refine q_then_n (hK25 _ _ ?_)
          refine c_region ?_
          refine tp rfl (lv_move rfl) ?_
          refine tp rfl (lv_add (c := ((t + 1 : Nat) : Int)) rfl rfl (wr_i64_succ (by omega))) ?_
          refine tp rfl (lv_assign rfl) ?_
          refine t_done ?_
          refine q_then_n ?_
          refine t_f1 ?_
          refine t_f2 ?_
          refine t_f2 ?_
          exact t_weak (by exact ⟨rfl, rfl, rfl, rfl, rfl, rfl, rfl, rfl, rfl, rfl, rfl, rfl, rfl, rfl, trivial⟩) ((hK22 (t + 1, seen.set i0 true, ((i0 : Nat) : Int)) ⟨by omega, hnxt⟩ (by dsimp only; omega)))
         · -- no
          refine tp rfl (lv_eql rfl rfl (beq_eq_false_iff_ne.2 h15)) ?_
          refine t_guard rfl rfl ?_
          refine tp rfl (lv_move rfl) ?_
          refine t_skip rfl rfl rfl ?_
          refine t_skip rfl rfl rfl ?_
          refine t_skip rfl rfl rfl ?_
          refine t_guard rfl rfl ?_
          refine tp rfl (lv_pick_f rfl rfl) ?_
          refine t_guard rfl rfl ?_
          refine tp rfl (lv_pick_f rfl rfl) ?_
          refine t_guard rfl rfl ?_
          refine tp rfl (lv_pick_t rfl rfl) ?_
          refine tp rfl (lv_pick_f rfl rfl) ?_
          refine t_done ?_
          refine q_then_n (hK28 _ _ ?_)
          refine c_false rfl ?_
          refine c_skip ?_
          refine q_then_n (hK27 _ _ ?_)
          refine c_seq (fun K29 hK29 => ?_)
          refine c_region ?_
          refine tp rfl (lv_move rfl) ?_
          refine tp rfl (lv_move rfl) ?_
          refine tp rfl (lv_indexAddr (k' := i0) Try.underlying30 Try.sizeOf4 rfl rfl hok11 (by omega) (by omega) (by omega)) ?_
          refine t_f1 ?_
          refine ts (sv_sl Try.sizeOf4 rfl rfl rfl (by rw [bools_length]; omega) bools_set) ?_
          refine t_done ?_
          refine q_then_n (hK29 _ _ ?_)
          refine c_region ?_
          refine tp rfl (lv_move rfl) ?_
          refine tp rfl (lv_assign rfl) ?_
          refine t_done ?_
          refine q_in_n ?_
          refine q_then_n (hK25 _ _ ?_)
          refine c_region ?_
          refine tp rfl (lv_move rfl) ?_
          refine tp rfl (lv_add (c := ((t + 1 : Nat) : Int)) rfl rfl (wr_i64_succ (by omega))) ?_
          refine tp rfl (lv_assign rfl) ?_
          refine t_done ?_
          refine q_then_n ?_
          refine t_f1 ?_
          refine t_f2 ?_
          refine t_f2 ?_
          exact t_weak (by exact ⟨rfl, rfl, rfl, rfl, rfl, rfl, rfl, rfl, rfl, rfl, rfl, rfl, rfl, rfl, trivial⟩) ((hK22 (t + 1, seen.set i0 true, ((i0 : Nat) : Int)) ⟨by omega, hnxt⟩ (by dsimp only; omega)))
        · -- no
         refine tp rfl (lv_geq rfl rfl (decide_eq_false h14)) ?_
         refine t_guard rfl rfl ?_
         refine tp rfl (lv_move rfl) ?_
         refine t_skip rfl rfl rfl ?_
         refine t_skip rfl rfl rfl ?_
         refine t_skip rfl rfl rfl ?_
         refine t_skip rfl rfl rfl ?_
         refine t_skip rfl rfl rfl ?_
         refine t_skip rfl rfl rfl ?_
         refine t_skip rfl rfl rfl ?_
         refine t_skipu rfl rfl rfl ?_
         refine t_skipu rfl rfl rfl ?_
         refine t_skipu rfl rfl rfl ?_
         refine t_skipu rfl rfl rfl ?_
         refine t_skipu rfl rfl rfl ?_
         refine t_skipu rfl rfl rfl ?_
         refine t_skipu rfl rfl rfl ?_
         refine t_skipu rfl rfl rfl ?_
         refine t_skipu rfl rfl rfl ?_
         refine t_skipu rfl rfl rfl ?_
         refine t_skipu rfl rfl rfl ?_
         refine t_skip rfl rfl rfl ?_
         refine t_guard rfl rfl ?_
         refine tp rfl (lv_pick_f rfl rfl) ?_
         refine tp rfl (lv_pick_f rfl rfl) ?_
         refine t_done ?_
         refine q_then_n (hK28 _ _ ?_)
         refine c_false rfl ?_
         refine c_skip ?_
         refine q_then_n (hK27 _ _ ?_)
         refine c_seq (fun K29 hK29 => ?_)
         refine c_region ?_
         refine tp rfl (lv_move rfl) ?_
         refine tp rfl (lv_move rfl) ?_
         refine tp rfl (lv_indexAddr (k' := i0) Try.underlying30 Try.sizeOf4 rfl rfl hok11 (by omega) (by omega) (by omega)) ?_
         refine t_f1 ?_
         refine ts (sv_sl Try.sizeOf4 rfl rfl rfl (by rw [bools_length]; omega) bools_set) ?_
         refine t_done ?_
         refine q_then_n (hK29 _ _ ?_)
         refine c_region ?_
         refine tp rfl (lv_move rfl) ?_
         refine tp rfl (lv_assign rfl) ?_
         refine t_done ?_
         refine q_in_n ?_
         refine q_then_n (hK25 _ _ ?_)
         refine c_region ?_
         refine tp rfl (lv_move rfl) ?_
         refine tp rfl (lv_add (c := ((t + 1 : Nat) : Int)) rfl rfl (wr_i64_succ (by omega))) ?_
         refine tp rfl (lv_assign rfl) ?_
         refine t_done ?_
         refine q_then_n ?_
         refine t_f1 ?_
         refine t_f2 ?_
         refine t_f2 ?_
         exact t_weak (by exact ⟨rfl, rfl, rfl, rfl, rfl, rfl, rfl, rfl, rfl, rfl, rfl, rfl, rfl, rfl, trivial⟩) ((hK22 (t + 1, seen.set i0 true, ((i0 : Nat) : Int)) ⟨by omega, hnxt⟩ (by dsimp only; omega)))
      · -- no
        refine tp rfl (lv_lss rfl rfl (decide_eq_false h13)) ?_
        refine t_done ?_
        refine q_then_n (hK24 _ _ ?_)
        refine c_false rfl ?_
        refine c_exit ?_
        refine q_then_x ?_
        refine q_then_x ?_
        refine q_in_x ?_
        refine q_then_n (hK20 _ _ ?_)
        refine c_seq (fun K25 hK25 => ?_)
        refine c_region ?_
        have hend := (show PopOk keys n seen last n from by have h9 := hpo; rw [show t = n by omega] at h9; exact h9).end_
        refine tp rfl (lv_move rfl) ?_
        refine t_f2 ?_
        refine tc rfl (en_fn Try.call14 rfl) (hpop_ok (n := n) (ks := selK keys seen n) ) ?_
        rintro _ _ ⟨rfl, rfl⟩
        rw [show fstB (selK keys seen n) = false from hend.1]
        refine tp rfl (lv_move rfl) ?_
        refine tp rfl (lv_extract rfl rfl) ?_
        refine tp rfl (lv_extract rfl rfl) ?_
        refine tp rfl (lv_extract rfl rfl) ?_
        refine tp rfl (lv_assign rfl) ?_
        refine tp rfl (lv_assign rfl) ?_
        refine tp rfl (lv_assign rfl) ?_
        refine t_done ?_
        refine q_then_n (hK25 _ _ ?_)
        refine c_seq (fun K26 hK26 => ?_)
        refine c_region ?_
        refine tp rfl (lv_move rfl) ?_
        refine tp rfl (lv_move rfl) ?_
        refine t_guard rfl rfl ?_
        refine tp rfl (lv_move rfl) ?_
        refine t_guard rfl rfl ?_
        refine tp rfl (lv_not (c := true) rfl rfl) ?_
        refine tp rfl (lv_pick_t rfl rfl) ?_
        refine tp rfl (lv_move rfl) ?_
        refine t_guard rfl rfl ?_
        refine tp rfl (lv_move rfl) ?_
        refine t_guard rfl rfl ?_
        refine tc rfl (en_fn Try.call15 rfl) (hlen_ok (n := n) (ks := popK (selK keys seen n)) ) ?_
        rintro _ _ ⟨rfl, rfl⟩
        refine t_guard rfl rfl ?_
        refine tp rfl (lv_eql rfl rfl (beq_iff_eq.2 (by rw [hend.2]; rfl))) ?_
        refine tp rfl (lv_pick_t rfl rfl) ?_
        refine tp rfl (lv_assign rfl) ?_
        refine t_done ?_
        refine q_then_n (hK26 _ _ ?_)
        refine c_ret ?_
        refine t_drop ?_
        refine t_drop ?_
        refine t_drop ?_
        refine q_ret rfl rfl ?_
        exact ⟨rfl, rfl⟩
end Go.Proofs.Ytchnphachgcjmaa
