/- TimerStops: the law's walk. -/
import Derived.Test.YtombnfgkgcjihaaLa
import Derived.Test.YtombnfgkgcjihaaTm2
set_option maxRecDepth 100000
set_option linter.unusedVariables false
set_option linter.unusedSimpArgs false
namespace Go.Proofs.Ytombnfgkgcjihaa
open Go Go.Proofs Sp
set_option maxHeartbeats 4000000 in
theorem stops_law {R : List HP} {btb : Option Addr} {ctb : Nat} (times : List Int) (htb : Rd R btb (ints .i64 times)) (oktb : SlOk btb times.length) (ltb : times.length ≤ 9223372036854775807) (wftb : ∀ x ∈ times, (Lit.int .i64 x).wf = true) {bsb : Option Addr} {csb : Nat} (stop : List Int) (hsb : Rd R bsb (ints .u8 stop)) (oksb : SlOk bsb stop.length) (lsb : stop.length ≤ 9223372036854775807) (wfsb : ∀ x ∈ stop, (Lit.int .u8 x).wf = true) :
    Ok Try.prog 6 [(.slice btb times.length ctb), (.slice bsb stop.length csb)] R
      (fun v M => v = .bool true ∧ M = R) := by
  obtain ⟨n, hn⟩ : ∃ n, n = min times.length 50 := ⟨_, rfl⟩
  have hcm : hclamp ((n : Nat) : Int) = n := by unfold hclamp; omega
  have hwt : ∀ x : Nat, x < n → -9223372036854775808 ≤ times.getD x 0 ∧ times.getD x 0 ≤ 9223372036854775807 := fun x hx => by have h9 := wftb (times.getD x 0) (by simp [List.getD, show x < times.length by omega]); simpa [Lit.wf, IntKind.min, IntKind.max, IntKind.signed, IntKind.bits] using h9
  refine ok_of (N := 159) Try.func6 rfl rfl rfl (fun W => ?_)
  refine c_seq (fun K1 hK1 => ?_)
  refine c_region ?_
  refine tp rfl (lv_assign rfl) ?_
  refine t_done ?_
  refine q_then_n (hK1 _ _ ?_)
  refine c_seq (fun K2 hK2 => ?_)
  refine c_region ?_
  refine tc rfl (en_fn Try.call10 rfl) (shown_ok) ?_
  rintro _ _ ⟨rfl, hMR⟩
  rw [hMR]; clear hMR
  refine tp rfl (lv_assign rfl) ?_
  refine t_done ?_
  refine q_then_n (hK2 _ _ ?_)
  refine c_seq (fun K3 hK3 => ?_)
  refine c_region ?_
  refine tp rfl (lv_move rfl) ?_
  refine tp rfl (lv_len Try.underlying30 rfl rfl) ?_
  refine tp rfl (lv_min (c := ((n : Nat) : Int)) rfl rfl (by omega)) ?_
  refine tp rfl (lv_assign rfl) ?_
  refine t_done ?_
  refine q_then_n (hK3 _ _ ?_)
  refine c_seq (fun K4 hK4 => ?_)
  refine c_region ?_
  refine tp rfl (lv_move rfl) ?_
  refine tc rfl (en_fn Try.call11 rfl) (tnew_ok ((n : Nat) : Int)) ?_
  rintro _ _ ⟨p1, q2, rfl, rfl⟩
  rw [show hclamp ((n : Nat) : Int) = n from hcm]
  refine tp rfl (lv_assign rfl) ?_
  refine t_done ?_
  refine q_then_n (hK4 _ _ ?_)
  refine c_seq (fun K5 hK5 => ?_)
  refine c_seq (fun K6 hK6 => ?_)
  refine c_region ?_
  refine tp rfl (lv_move rfl) ?_
  refine tp rfl (lv_eqnil Try.underlying25 rfl rfl) ?_
  refine t_done ?_
  refine q_then_n (hK6 _ _ ?_)
  refine c_false rfl ?_
  refine c_skip ?_
  refine q_then_n (hK5 _ _ ?_)
  refine c_seq (fun K7 hK7 => ?_)
  refine c_region ?_
  refine tp rfl (lv_move rfl) ?_
  refine tm rfl (mv_makeSlice (i := Try.t4) Try.underlying23 Try.type4 rfl rfl rfl rfl rfl (by omega) (by rw [show Try.t4.bytes = 1 from rfl]; omega) (by omega)) ?_
  rintro _ _ ⟨bs3, cp4, hok5, hle6, rfl, rfl⟩
  rw [bools_rep]
  refine tp rfl (lv_assign rfl) ?_
  refine t_done ?_
  refine q_then_n (hK7 _ _ ?_)
  refine c_seq (fun K8 hK8 => ?_)
  refine c_region ?_
  refine tp rfl (lv_move rfl) ?_
  refine tp rfl (lv_assign rfl) ?_
  refine t_done ?_
  refine q_then_n (hK8 _ _ ?_)
  refine c_seq (fun K9 hK9 => ?_)
  refine c_seq (fun K10 hK10 => ?_)
  refine c_region ?_
  refine tp rfl (lv_assign rfl) ?_
  refine t_done ?_
  refine q_then_n (hK10 _ _ ?_)
  refine c_block ?_
  rw [show List.replicate (n) none = prtK times n 0 from (prtK_zero ..).symm]
  refine c_loop (γ := (Nat)) (fun (i : Nat) => i ≤ n) (fun (i : Nat) => [(0, (.slice btb times.length ctb)), (1, (.slice bsb stop.length csb)), (5, (.bool true)), (6, (.int .i64 ((n : Nat) : Int))), (7, (.pointer (some ⟨p1, 0, none⟩))), (8, (.slice bs3 n cp4)), (9, (.int .i64 ((n : Nat) : Int))), (10, (.int .i64 ((i : Nat) : Int))), (22, (.bool false))]) (fun (i : Nat) => (SlV 4 1 (.slice bs3 n cp4) n (bools (List.replicate n false))) :: (Blk p1 [(.pointer (some ⟨q2, 0, none⟩))] 37) :: (HeapO q2 n (prtK times n i)) :: R) (fun (i : Nat) => n - i) (0) (by omega) ⟨rfl, rfl, rfl, rfl, rfl, rfl, rfl, rfl, rfl, trivial⟩ (fun _ h => h) ?_
  rintro i K11 hF hK11
  try dsimp only at hF hK11 ⊢
  obtain hi := hF
  refine c_seq (fun K12 hK12 => ?_)
  refine c_seq (fun K13 hK13 => ?_)
  refine c_region ?_
  refine tp rfl (lv_move rfl) ?_
  refine tp rfl (lv_move rfl) ?_
  by_cases h7 : ((i : Nat) : Int) < ((n : Nat) : Int)
  · -- yes
    refine tp rfl (lv_lss rfl rfl (decide_eq_true h7)) ?_
    refine t_done ?_
    refine q_then_n (hK13 _ _ ?_)
    refine c_true rfl ?_
    refine c_skip ?_
    refine q_then_n (hK12 _ _ ?_)
    refine c_seq (fun K14 hK14 => ?_)
    refine c_block ?_
    refine c_seq (fun K15 hK15 => ?_)
    refine c_region ?_
    have hps := prt_tset (keys := times) (n := n) (i := i) (by omega) (by omega)
    refine tp rfl (lv_move rfl) ?_
    refine tp rfl (lv_move rfl) ?_
    refine tp rfl (lv_move rfl) ?_
    refine tp rfl (lv_move rfl) ?_
    refine tp rfl (lv_indexAddr (k' := i) Try.underlying30 Try.sizeOf3 rfl rfl oktb (by omega) (by omega) (by omega)) ?_
    refine tp rfl (lv_load Try.isAgg3 rfl (Rd.gives (Rd.cons (Rd.cons (Rd.cons htb))) (ints_get (by omega)))) ?_
    refine t_f2 ?_
    refine t_f2 ?_
    refine tc rfl (en_fn Try.call12 rfl) (tset_ok (n := n) (ks := prtK times n i) ((i : Nat) : Int) ((times).getD i 0)) ?_
    rintro _ _ ⟨rfl, rfl⟩
    rw [show pushE (remK (prtK times n i) ((i : Nat) : Int)) ((i : Nat) : Int) = 0 from hps.1]
    rw [show pushK (remK (prtK times n i) ((i : Nat) : Int)) ((i : Nat) : Int) (times.getD i 0) = prtK times n (i + 1) from hps.2]
    refine tp rfl (lv_neq (r := false) rfl rfl (by decide)) ?_
    refine t_done ?_
    refine q_then_n (hK15 _ _ ?_)
    refine c_false rfl ?_
    refine c_skip ?_
    refine q_in_n ?_
    refine q_then_n (hK14 _ _ ?_)
    refine c_region ?_
    refine tp rfl (lv_move rfl) ?_
    refine tp rfl (lv_add (c := ((i + 1 : Nat) : Int)) rfl rfl (wr_i64_succ (by omega))) ?_
    refine tp rfl (lv_assign rfl) ?_
    refine t_done ?_
    refine q_then_n ?_
    refine t_f1 ?_
    refine t_f1 ?_
    refine t_f2 ?_
    exact t_weak (by exact ⟨rfl, rfl, rfl, rfl, rfl, rfl, rfl, rfl, rfl, trivial⟩) ((hK11 (i + 1) (by omega) (by omega)))
  · -- no
    refine tp rfl (lv_lss rfl rfl (decide_eq_false h7)) ?_
    refine t_done ?_
    refine q_then_n (hK13 _ _ ?_)
    refine c_false rfl ?_
    refine c_exit ?_
    refine q_then_x ?_
    refine q_then_x ?_
    refine q_in_x ?_
    refine q_then_n (hK9 _ _ ?_)
    refine c_seq (fun K14 hK14 => ?_)
    have hM14 : ∀ (gone : List Bool) (left : Int), gone.length = n ∧ left = ((cntK (selK times gone n) : Nat) : Int) → Tri K14 W 159 [(0, (.slice btb times.length ctb)), (1, (.slice bsb stop.length csb)), (5, (.bool true)), (6, (.int .i64 ((n : Nat) : Int))), (7, (.pointer (some ⟨p1, 0, none⟩))), (8, (.slice bs3 n cp4)), (9, (.int .i64 left)), (10, (.int .i64 ((i : Nat) : Int))), (22, (.bool false)), (28, (.bool false))] ((SlV 4 1 (.slice bs3 n cp4) n (bools gone)) :: (Blk p1 [(.pointer (some ⟨q2, 0, none⟩))] 37) :: (HeapO q2 n (selK times gone n)) :: R) := by
      rintro gone left hF
      obtain ⟨hgl, hlf⟩ := hF
      refine hK14 _ _ ?_
      refine c_seq (fun K15 hK15 => ?_)
      refine c_region ?_
      have hbt : ∀ (x : Nat) (k : Int), (selK times gone n).getD x none = some k → x < n ∧ gone.getD x false = false ∧ times.getD x 0 = k ∧ k ≤ 9223372036854775807 := fun x k e => sel_at e (fun x hx => (hwt x hx).2)
      have hda := due_all (ks := selK times gone n) (t := 9223372036854775807) (fun x k e => (hbt x k e).2.2.2)
      have hdc := due_cnt (selK times gone n) 9223372036854775807
      have hdo := due_ok (selK times gone n) 9223372036854775807
      have hcl := cnt_le (selK times gone n)
      rw [selK_len] at hcl
      refine tp rfl (lv_move rfl) ?_
      refine t_f2 ?_
      refine t_f2 ?_
      refine tc rfl (en_fn Try.call14 rfl) (tdue_ok (n := n) (ks := selK times gone n) 9223372036854775807) ?_
      rintro _ _ ⟨bs8, cp9, hok10, hle11, rfl, rfl⟩
      refine tp rfl (lv_assign rfl) ?_
      refine t_done ?_
      refine q_then_n (hK15 _ _ ?_)
      refine c_seq (fun K16 hK16 => ?_)
      refine c_seq (fun K17 hK17 => ?_)
      refine c_region ?_
      refine tp rfl (lv_move rfl) ?_
      refine tp rfl (lv_len Try.underlying30 rfl rfl) ?_
      refine tp rfl (lv_move rfl) ?_
      refine tp rfl (lv_neq rfl rfl (bne_eq_false_iff_eq.2 (by omega))) ?_
      refine t_done ?_
      refine q_then_n (hK17 _ _ ?_)
      refine c_false rfl ?_
      refine c_skip ?_
      refine q_then_n (hK16 _ _ ?_)
      refine c_seq (fun K18 hK18 => ?_)
      refine c_seq (fun K19 hK19 => ?_)
      refine c_region ?_
      refine tp rfl (lv_assign rfl) ?_
      refine t_done ?_
      refine q_then_n (hK19 _ _ ?_)
      refine c_block ?_
      refine c_loop (γ := (Nat)) (fun (i2 : Nat) => i2 ≤ (dueL (selK times gone n) 9223372036854775807).length) (fun (i2 : Nat) => [(0, (.slice btb times.length ctb)), (1, (.slice bsb stop.length csb)), (5, (.bool true)), (6, (.int .i64 ((n : Nat) : Int))), (7, (.pointer (some ⟨p1, 0, none⟩))), (8, (.slice bs3 n cp4)), (9, (.int .i64 left)), (10, (.int .i64 ((i : Nat) : Int))), (13, (.slice bs8 ((dueL (selK times gone n) 9223372036854775807).length) cp9)), (14, (.int .i64 ((i2 : Nat) : Int))), (22, (.bool false)), (28, (.bool false)), (83, (.bool false))]) (fun (i2 : Nat) => (SlV 3 1 (.slice bs8 ((dueL (selK times gone n) 9223372036854775807).length) cp9) ((dueL (selK times gone n) 9223372036854775807).length) (ints .i64 (dueL (selK times gone n) 9223372036854775807))) :: (Blk p1 [(.pointer (some ⟨q2, 0, none⟩))] 37) :: (HeapO q2 n (duR (selK times gone n) 9223372036854775807)) :: (SlV 4 1 (.slice bs3 n cp4) n (bools gone)) :: R) (fun (i2 : Nat) => (dueL (selK times gone n) 9223372036854775807).length - i2) (0) (by omega) ⟨rfl, rfl, rfl, rfl, rfl, rfl, rfl, rfl, rfl, rfl, rfl, rfl, rfl, trivial⟩ (fun _ h => h) ?_
      rintro i2 K20 hF hK20
      try dsimp only at hF hK20 ⊢
      obtain hi2 := hF
      refine c_seq (fun K21 hK21 => ?_)
      refine c_seq (fun K22 hK22 => ?_)
      refine c_region ?_
      refine tp rfl (lv_move rfl) ?_
      refine tp rfl (lv_move rfl) ?_
      refine tp rfl (lv_len Try.underlying30 rfl rfl) ?_
      by_cases h12 : ((i2 : Nat) : Int) < (((dueL (selK times gone n) 9223372036854775807).length : Nat) : Int)
      · -- yes
        refine tp rfl (lv_lss rfl rfl (decide_eq_true h12)) ?_
        refine t_done ?_
        refine q_then_n (hK22 _ _ ?_)
        refine c_true rfl ?_
        refine c_skip ?_
        refine q_then_n (hK21 _ _ ?_)
        refine c_seq (fun K23 hK23 => ?_)
        refine c_block ?_
        refine c_seq (fun K24 hK24 => ?_)
        obtain ⟨x1, k1, hx1, hk1, _⟩ := hdo.at_ i2 (by omega)
        obtain ⟨hn1, hg1, hv1, _⟩ := hbt _ _ hk1
        obtain ⟨x0, k0, hx0, hk0, _⟩ := hdo.at_ (i2 - 1) (by omega)
        obtain ⟨hn0, hg0, hv0, _⟩ := hbt _ _ hk0
        have hord : 0 < i2 → times.getD x0 0 < times.getD x1 0 ∨ (times.getD x0 0 = times.getD x1 0 ∧ x0 < x1) := fun h9 => by rw [hv0, hv1]; exact hdo.ord (i2 - 1) (by omega) x0 x1 k0 k1 hx0 (by rw [show i2 - 1 + 1 = i2 by omega]; exact hx1) hk0 hk1
        by_cases h13 : ((i2 : Nat) : Int) > 0
        · -- yes
         by_cases h14 : ((times).getD x0 0) = ((times).getD x1 0)
         · -- yes
          refine c_draw (γ := Unit) (n := 59) Try.mixed rfl rfl (fun _ S => True) (fun _ => [(0, 90, (.slice bs3 n cp4)), (1, 91, (.slice bs8 ((dueL (selK times gone n) 9223372036854775807).length) cp9)), (2, 92, (.int .i64 ((i2 : Nat) : Int))), (3, 93, (.pointer (some (ad bs8 i2)))), (4, 94, (.int .i64 ((x1 : Nat) : Int))), (5, 95, (.pointer (some (ad bs3 x1)))), (6, 96, (.bool false)), (7, 97, (.bool false)), (8, 98, (.int .i64 ((i2 : Nat) : Int))), (9, 99, (.bool true)), (10, 100, (.bool true)), (11, 101, (.slice btb times.length ctb)), (12, 102, (.slice bs8 ((dueL (selK times gone n) 9223372036854775807).length) cp9)), (13, 103, (.int .i64 ((i2 : Nat) : Int))), (14, 104, (.int .i64 ((i2 - 1 : Nat) : Int))), (15, 105, (.pointer (some (ad bs8 (i2 - 1))))), (16, 106, (.int .i64 ((x0 : Nat) : Int))), (17, 107, (.pointer (some (ad btb x0)))), (18, 108, (.int .i64 ((times).getD x0 0))), (19, 109, (.slice btb times.length ctb)), (20, 110, (.slice bs8 ((dueL (selK times gone n) 9223372036854775807).length) cp9)), (21, 111, (.int .i64 ((i2 : Nat) : Int))), (22, 112, (.pointer (some (ad bs8 i2)))), (23, 113, (.int .i64 ((x1 : Nat) : Int))), (24, 114, (.pointer (some (ad btb x1)))), (25, 115, (.int .i64 ((times).getD x1 0))), (26, 116, (.bool false)), (27, 117, (.bool false)), (28, 118, (.slice btb times.length ctb)), (29, 119, (.slice bs8 ((dueL (selK times gone n) 9223372036854775807).length) cp9)), (30, 120, (.int .i64 ((i2 : Nat) : Int))), (31, 121, (.int .i64 ((i2 - 1 : Nat) : Int))), (32, 122, (.pointer (some (ad bs8 (i2 - 1))))), (33, 123, (.int .i64 ((x0 : Nat) : Int))), (34, 124, (.pointer (some (ad btb x0)))), (35, 125, (.int .i64 ((times).getD x0 0))), (36, 126, (.slice btb times.length ctb)), (37, 127, (.slice bs8 ((dueL (selK times gone n) 9223372036854775807).length) cp9)), (38, 128, (.int .i64 ((i2 : Nat) : Int))), (39, 129, (.pointer (some (ad bs8 i2)))), (40, 130, (.int .i64 ((x1 : Nat) : Int))), (41, 131, (.pointer (some (ad btb x1)))), (42, 132, (.int .i64 ((times).getD x1 0))), (43, 133, (.bool true)), (44, 134, (.bool true)), (45, 135, (.slice bs8 ((dueL (selK times gone n) 9223372036854775807).length) cp9)), (46, 136, (.int .i64 ((i2 : Nat) : Int))), (47, 137, (.int .i64 ((i2 - 1 : Nat) : Int))), (48, 138, (.pointer (some (ad bs8 (i2 - 1))))), (49, 139, (.int .i64 ((x0 : Nat) : Int))), (50, 140, (.slice bs8 ((dueL (selK times gone n) 9223372036854775807).length) cp9)), (51, 141, (.int .i64 ((i2 : Nat) : Int))), (52, 142, (.pointer (some (ad bs8 i2)))), (53, 143, (.int .i64 ((x1 : Nat) : Int))), (54, 144, (.bool false)), (55, 145, (.bool false)), (56, 146, (.bool false)), (57, 147, (.bool false)), (58, 148, (.bool false))]) (fun _ S => (SlV 3 1 (.slice bs8 ((dueL (selK times gone n) 9223372036854775807).length) cp9) ((dueL (selK times gone n) 9223372036854775807).length) (ints .i64 (dueL (selK times gone n) 9223372036854775807))) :: (Blk p1 [(.pointer (some ⟨q2, 0, none⟩))] 37) :: (HeapO q2 n (duR (selK times gone n) 9223372036854775807)) :: (SlV 4 1 (.slice bs3 n cp4) n (bools gone)) :: R) (()) trivial (fun _ h => h) (fun _ _ h => h) ?_ ?_
          · -- steps
           refine ⟨?_, ?_, ?_, ?_, ?_, ?_, ?_, ?_, ?_, ?_, ?_, ?_, ?_, ?_, ?_, ?_, ?_, ?_, ?_, ?_, ?_, ?_, ?_, ?_, ?_, ?_, ?_, ?_, ?_, ?_, ?_, ?_, ?_, ?_, ?_, ?_, ?_, ?_, ?_, ?_, ?_, ?_, ?_, ?_, ?_, ?_, ?_, ?_, ?_, ?_, ?_, ?_, ?_, ?_, ?_, ?_, ?_, ?_, ?_, trivial⟩
           · -- 0
            rintro _ S hF hS D hp K hK
            try dsimp only at hF ⊢
            refine d_need (small := [(8, (.slice bs3 n cp4))]) ⟨look_b rfl rfl, trivial⟩ ?_
            refine tp rfl (lv_move rfl) ?_
            exact d_closes ⟨look_b rfl rfl, trivial⟩ 0 rfl rfl rfl hS (AgreeR.refl _) (t_sat (fun _ h => h) (hK () trivial))
           · -- 1
            rintro _ S hF hS D hp K hK
            try dsimp only at hF ⊢
            refine d_need (small := [(13, (.slice bs8 ((dueL (selK times gone n) 9223372036854775807).length) cp9))]) ⟨look_b rfl rfl, trivial⟩ ?_
            refine tp rfl (lv_move rfl) ?_
            exact d_closes ⟨look_b rfl rfl, trivial⟩ 1 rfl rfl rfl hS (AgreeR.refl _) (t_sat (fun _ h => h) (hK () trivial))
           · -- 2
            rintro _ S hF hS D hp K hK
            try dsimp only at hF ⊢
            refine d_need (small := [(14, (.int .i64 ((i2 : Nat) : Int)))]) ⟨look_b rfl rfl, trivial⟩ ?_
            refine tp rfl (lv_move rfl) ?_
            exact d_closes ⟨look_b rfl rfl, trivial⟩ 2 rfl rfl rfl hS (AgreeR.refl _) (t_sat (fun _ h => h) (hK () trivial))
           · -- 3
            rintro _ S hF hS D hp K hK
            try dsimp only at hF ⊢
            have s1 := hp 1 rfl
            have s2 := hp 2 rfl
            refine d_need (small := [(91, (.slice bs8 ((dueL (selK times gone n) 9223372036854775807).length) cp9)), (92, (.int .i64 ((i2 : Nat) : Int)))]) ⟨look_row rfl 1 rfl s1, look_row rfl 2 rfl s2, trivial⟩ ?_
            refine tp rfl (lv_indexAddr (k' := i2) Try.underlying30 Try.sizeOf3 rfl rfl hok10 (by omega) (by omega) (by omega)) ?_
            exact d_closes ⟨look_row rfl 1 rfl s1, look_row rfl 2 rfl s2, trivial⟩ 3 rfl rfl rfl hS (AgreeR.refl _) (t_sat (fun _ h => h) (hK () trivial))
           · -- 4
            rintro _ S hF hS D hp K hK
            try dsimp only at hF ⊢
            have s3 := hp 3 rfl
            refine d_need (small := [(93, (.pointer (some (ad bs8 i2))))]) ⟨look_row rfl 3 rfl s3, trivial⟩ ?_
            refine tp rfl (lv_load Try.isAgg3 rfl (gives_as (v := .int .i64 ((x1 : Nat) : Int)) (by rw [hx1]) (gives_sl (.head _) (ints_get (by omega))))) ?_
            exact d_closes ⟨look_row rfl 3 rfl s3, trivial⟩ 4 rfl rfl rfl hS (AgreeR.refl _) (t_sat (fun _ h => h) (hK () trivial))
           · -- 5
            rintro _ S hF hS D hp K hK
            try dsimp only at hF ⊢
            have s0 := hp 0 rfl
            have s4 := hp 4 rfl
            refine d_need (small := [(90, (.slice bs3 n cp4)), (94, (.int .i64 ((x1 : Nat) : Int)))]) ⟨look_row rfl 0 rfl s0, look_row rfl 4 rfl s4, trivial⟩ ?_
            refine tp rfl (lv_indexAddr (k' := x1) Try.underlying23 Try.sizeOf4 rfl rfl hok5 (by omega) (by omega) (by omega)) ?_
            exact d_closes ⟨look_row rfl 0 rfl s0, look_row rfl 4 rfl s4, trivial⟩ 5 rfl rfl rfl hS (AgreeR.refl _) (t_sat (fun _ h => h) (hK () trivial))
           · -- 6
            rintro _ S hF hS D hp K hK
            try dsimp only at hF ⊢
            have s5 := hp 5 rfl
            refine d_need (small := [(95, (.pointer (some (ad bs3 x1))))]) ⟨look_row rfl 5 rfl s5, trivial⟩ ?_
            refine tp rfl (lv_load Try.isAgg4 rfl (gives_as (v := .bool false) (by first | rw [hg1] | rw [Int.toNat_natCast, hg1]) (gives_sl (.tail _ (.tail _ (.tail _ (.head _)))) (bools_get (by omega))))) ?_
            exact d_closes ⟨look_row rfl 5 rfl s5, trivial⟩ 6 rfl rfl rfl hS (AgreeR.refl _) (t_sat (fun _ h => h) (hK () trivial))
           · -- 7
            rintro _ S hF hS D hp K hK
            try dsimp only at hF ⊢
            have s6 := hp 6 rfl
            refine d_need (small := [(96, (.bool false))]) ⟨look_row rfl 6 rfl s6, trivial⟩ ?_
            refine tp rfl (lv_move rfl) ?_
            exact d_closes ⟨look_row rfl 6 rfl s6, trivial⟩ 7 rfl rfl rfl hS (AgreeR.refl _) (t_sat (fun _ h => h) (hK () trivial))
           · -- 8
            rintro _ S hF hS D hp K hK
            try dsimp only at hF ⊢
            have s7 := hp 7 rfl
            refine d_need (small := [(14, (.int .i64 ((i2 : Nat) : Int))), (97, (.bool false))]) ⟨look_b rfl rfl, look_row rfl 7 rfl s7, trivial⟩ ?_
            refine t_guard rfl rfl ?_
            refine tp rfl (lv_move rfl) ?_
            exact d_closes ⟨look_b rfl rfl, look_row rfl 7 rfl s7, trivial⟩ 8 rfl rfl rfl hS (AgreeR.refl _) (t_sat (fun _ h => h) (hK () trivial))
           · -- 9
            rintro _ S hF hS D hp K hK
            try dsimp only at hF ⊢
            have s7 := hp 7 rfl
            have s8 := hp 8 rfl
            refine d_need (small := [(97, (.bool false)), (98, (.int .i64 ((i2 : Nat) : Int)))]) ⟨look_row rfl 7 rfl s7, look_row rfl 8 rfl s8, trivial⟩ ?_
            refine t_guard rfl rfl ?_
            refine tp rfl (lv_gtr rfl rfl (decide_eq_true h13)) ?_
            exact d_closes ⟨look_row rfl 7 rfl s7, look_row rfl 8 rfl s8, trivial⟩ 9 rfl rfl rfl hS (AgreeR.refl _) (t_sat (fun _ h => h) (hK () trivial))
           · -- 10
            rintro _ S hF hS D hp K hK
            try dsimp only at hF ⊢
            have s7 := hp 7 rfl
            have s9 := hp 9 rfl
            refine d_need (small := [(97, (.bool false)), (99, (.bool true))]) ⟨look_row rfl 7 rfl s7, look_row rfl 9 rfl s9, trivial⟩ ?_
            refine t_guard rfl rfl ?_
            refine tp rfl (lv_move rfl) ?_
            exact d_closes ⟨look_row rfl 7 rfl s7, look_row rfl 9 rfl s9, trivial⟩ 10 rfl rfl rfl hS (AgreeR.refl _) (t_sat (fun _ h => h) (hK () trivial))
           · -- 11
            rintro _ S hF hS D hp K hK
            try dsimp only at hF ⊢
            have s10 := hp 10 rfl
            refine d_need (small := [(0, (.slice btb times.length ctb)), (100, (.bool true))]) ⟨look_b rfl rfl, look_row rfl 10 rfl s10, trivial⟩ ?_
            refine t_guard rfl rfl ?_
            refine tp rfl (lv_move rfl) ?_
            exact d_closes ⟨look_b rfl rfl, look_row rfl 10 rfl s10, trivial⟩ 11 rfl rfl rfl hS (AgreeR.refl _) (t_sat (fun _ h => h) (hK () trivial))
           · -- 12
            rintro _ S hF hS D hp K hK
            try dsimp only at hF ⊢
            have s10 := hp 10 rfl
            refine d_need (small := [(13, (.slice bs8 ((dueL (selK times gone n) 9223372036854775807).length) cp9)), (100, (.bool true))]) ⟨look_b rfl rfl, look_row rfl 10 rfl s10, trivial⟩ ?_
            refine t_guard rfl rfl ?_
            refine tp rfl (lv_move rfl) ?_
            exact d_closes ⟨look_b rfl rfl, look_row rfl 10 rfl s10, trivial⟩ 12 rfl rfl rfl hS (AgreeR.refl _) (t_sat (fun _ h => h) (hK () trivial))
           · -- 13
            rintro _ S hF hS D hp K hK
            try dsimp only at hF ⊢
            have s10 := hp 10 rfl
            refine d_need (small := [(14, (.int .i64 ((i2 : Nat) : Int))), (100, (.bool true))]) ⟨look_b rfl rfl, look_row rfl 10 rfl s10, trivial⟩ ?_
            refine t_guard rfl rfl ?_
            refine tp rfl (lv_move rfl) ?_
            exact d_closes ⟨look_b rfl rfl, look_row rfl 10 rfl s10, trivial⟩ 13 rfl rfl rfl hS (AgreeR.refl _) (t_sat (fun _ h => h) (hK () trivial))
           · -- 14
            rintro _ S hF hS D hp K hK
            try dsimp only at hF ⊢
            have s10 := hp 10 rfl
            have s13 := hp 13 rfl
            refine d_need (small := [(100, (.bool true)), (103, (.int .i64 ((i2 : Nat) : Int)))]) ⟨look_row rfl 10 rfl s10, look_row rfl 13 rfl s13, trivial⟩ ?_
            refine t_guard rfl rfl ?_
            refine tp rfl (lv_sub (c := ((i2 - 1 : Nat) : Int)) rfl rfl ((wr_i64 (by omega) (by omega)).trans (by omega))) ?_
            exact d_closes ⟨look_row rfl 10 rfl s10, look_row rfl 13 rfl s13, trivial⟩ 14 rfl rfl rfl hS (AgreeR.refl _) (t_sat (fun _ h => h) (hK () trivial))
           · -- 15
            rintro _ S hF hS D hp K hK
            try dsimp only at hF ⊢
            have s10 := hp 10 rfl
            have s12 := hp 12 rfl
            have s14 := hp 14 rfl
            refine d_need (small := [(100, (.bool true)), (102, (.slice bs8 ((dueL (selK times gone n) 9223372036854775807).length) cp9)), (104, (.int .i64 ((i2 - 1 : Nat) : Int)))]) ⟨look_row rfl 10 rfl s10, look_row rfl 12 rfl s12, look_row rfl 14 rfl s14, trivial⟩ ?_
            refine t_guard rfl rfl ?_
            refine tp rfl (lv_indexAddr (k' := i2 - 1) Try.underlying30 Try.sizeOf3 rfl rfl hok10 (by omega) (by omega) (by omega)) ?_
            exact d_closes ⟨look_row rfl 10 rfl s10, look_row rfl 12 rfl s12, look_row rfl 14 rfl s14, trivial⟩ 15 rfl rfl rfl hS (AgreeR.refl _) (t_sat (fun _ h => h) (hK () trivial))
           · -- 16
            rintro _ S hF hS D hp K hK
            try dsimp only at hF ⊢
            have s10 := hp 10 rfl
            have s15 := hp 15 rfl
            refine d_need (small := [(100, (.bool true)), (105, (.pointer (some (ad bs8 (i2 - 1)))))]) ⟨look_row rfl 10 rfl s10, look_row rfl 15 rfl s15, trivial⟩ ?_
            refine t_guard rfl rfl ?_
            refine tp rfl (lv_load Try.isAgg3 rfl (gives_as (v := .int .i64 ((x0 : Nat) : Int)) (by rw [hx0]) (gives_sl (.head _) (ints_get (by omega))))) ?_
            exact d_closes ⟨look_row rfl 10 rfl s10, look_row rfl 15 rfl s15, trivial⟩ 16 rfl rfl rfl hS (AgreeR.refl _) (t_sat (fun _ h => h) (hK () trivial))
           · -- 17
            rintro _ S hF hS D hp K hK
            try dsimp only at hF ⊢
            have s10 := hp 10 rfl
            have s11 := hp 11 rfl
            have s16 := hp 16 rfl
            refine d_need (small := [(100, (.bool true)), (101, (.slice btb times.length ctb)), (106, (.int .i64 ((x0 : Nat) : Int)))]) ⟨look_row rfl 10 rfl s10, look_row rfl 11 rfl s11, look_row rfl 16 rfl s16, trivial⟩ ?_
            refine t_guard rfl rfl ?_
            refine tp rfl (lv_indexAddr (k' := x0) Try.underlying30 Try.sizeOf3 rfl rfl oktb (by omega) (by omega) (by omega)) ?_
            exact d_closes ⟨look_row rfl 10 rfl s10, look_row rfl 11 rfl s11, look_row rfl 16 rfl s16, trivial⟩ 17 rfl rfl rfl hS (AgreeR.refl _) (t_sat (fun _ h => h) (hK () trivial))
           · -- 18
            rintro _ S hF hS D hp K hK
            try dsimp only at hF ⊢
            have s10 := hp 10 rfl
            have s17 := hp 17 rfl
            refine d_need (small := [(100, (.bool true)), (107, (.pointer (some (ad btb x0))))]) ⟨look_row rfl 10 rfl s10, look_row rfl 17 rfl s17, trivial⟩ ?_
            refine t_guard rfl rfl ?_
            refine tp rfl (lv_load Try.isAgg3 rfl (Rd.gives (Rd.cons (Rd.cons (Rd.cons (Rd.cons htb)))) (ints_get (by omega)))) ?_
            exact d_closes ⟨look_row rfl 10 rfl s10, look_row rfl 17 rfl s17, trivial⟩ 18 rfl rfl rfl hS (AgreeR.refl _) (t_sat (fun _ h => h) (hK () trivial))
           · -- 19
            rintro _ S hF hS D hp K hK
            try dsimp only at hF ⊢
            have s10 := hp 10 rfl
            refine d_need (small := [(0, (.slice btb times.length ctb)), (100, (.bool true))]) ⟨look_b rfl rfl, look_row rfl 10 rfl s10, trivial⟩ ?_
            refine t_guard rfl rfl ?_
            refine tp rfl (lv_move rfl) ?_
            exact d_closes ⟨look_b rfl rfl, look_row rfl 10 rfl s10, trivial⟩ 19 rfl rfl rfl hS (AgreeR.refl _) (t_sat (fun _ h => h) (hK () trivial))
           · -- 20
            rintro _ S hF hS D hp K hK
            try dsimp only at hF ⊢
            have s10 := hp 10 rfl
            refine d_need (small := [(13, (.slice bs8 ((dueL (selK times gone n) 9223372036854775807).length) cp9)), (100, (.bool true))]) ⟨look_b rfl rfl, look_row rfl 10 rfl s10, trivial⟩ ?_
            refine t_guard rfl rfl ?_
            refine tp rfl (lv_move rfl) ?_
            exact d_closes ⟨look_b rfl rfl, look_row rfl 10 rfl s10, trivial⟩ 20 rfl rfl rfl hS (AgreeR.refl _) (t_sat (fun _ h => h) (hK () trivial))
           · -- 21
            rintro _ S hF hS D hp K hK
            try dsimp only at hF ⊢
            have s10 := hp 10 rfl
            refine d_need (small := [(14, (.int .i64 ((i2 : Nat) : Int))), (100, (.bool true))]) ⟨look_b rfl rfl, look_row rfl 10 rfl s10, trivial⟩ ?_
            refine t_guard rfl rfl ?_
            refine tp rfl (lv_move rfl) ?_
            exact d_closes ⟨look_b rfl rfl, look_row rfl 10 rfl s10, trivial⟩ 21 rfl rfl rfl hS (AgreeR.refl _) (t_sat (fun _ h => h) (hK () trivial))
           · -- 22
            rintro _ S hF hS D hp K hK
            try dsimp only at hF ⊢
            have s10 := hp 10 rfl
            have s20 := hp 20 rfl
            have s21 := hp 21 rfl
            refine d_need (small := [(100, (.bool true)), (110, (.slice bs8 ((dueL (selK times gone n) 9223372036854775807).length) cp9)), (111, (.int .i64 ((i2 : Nat) : Int)))]) ⟨look_row rfl 10 rfl s10, look_row rfl 20 rfl s20, look_row rfl 21 rfl s21, trivial⟩ ?_
            refine t_guard rfl rfl ?_
            refine tp rfl (lv_indexAddr (k' := i2) Try.underlying30 Try.sizeOf3 rfl rfl hok10 (by omega) (by omega) (by omega)) ?_
            exact d_closes ⟨look_row rfl 10 rfl s10, look_row rfl 20 rfl s20, look_row rfl 21 rfl s21, trivial⟩ 22 rfl rfl rfl hS (AgreeR.refl _) (t_sat (fun _ h => h) (hK () trivial))
           · -- 23
            rintro _ S hF hS D hp K hK
            try dsimp only at hF ⊢
            have s10 := hp 10 rfl
            have s22 := hp 22 rfl
            refine d_need (small := [(100, (.bool true)), (112, (.pointer (some (ad bs8 i2))))]) ⟨look_row rfl 10 rfl s10, look_row rfl 22 rfl s22, trivial⟩ ?_
            refine t_guard rfl rfl ?_
            refine tp rfl (lv_load Try.isAgg3 rfl (gives_as (v := .int .i64 ((x1 : Nat) : Int)) (by rw [hx1]) (gives_sl (.head _) (ints_get (by omega))))) ?_
            exact d_closes ⟨look_row rfl 10 rfl s10, look_row rfl 22 rfl s22, trivial⟩ 23 rfl rfl rfl hS (AgreeR.refl _) (t_sat (fun _ h => h) (hK () trivial))
           · -- 24
            rintro _ S hF hS D hp K hK
            try dsimp only at hF ⊢
            have s10 := hp 10 rfl
            have s19 := hp 19 rfl
            have s23 := hp 23 rfl
            refine d_need (small := [(100, (.bool true)), (109, (.slice btb times.length ctb)), (113, (.int .i64 ((x1 : Nat) : Int)))]) ⟨look_row rfl 10 rfl s10, look_row rfl 19 rfl s19, look_row rfl 23 rfl s23, trivial⟩ ?_
            refine t_guard rfl rfl ?_
            refine tp rfl (lv_indexAddr (k' := x1) Try.underlying30 Try.sizeOf3 rfl rfl oktb (by omega) (by omega) (by omega)) ?_
            exact d_closes ⟨look_row rfl 10 rfl s10, look_row rfl 19 rfl s19, look_row rfl 23 rfl s23, trivial⟩ 24 rfl rfl rfl hS (AgreeR.refl _) (t_sat (fun _ h => h) (hK () trivial))
           · -- 25
            rintro _ S hF hS D hp K hK
            try dsimp only at hF ⊢
            have s10 := hp 10 rfl
            have s24 := hp 24 rfl
            refine d_need (small := [(100, (.bool true)), (114, (.pointer (some (ad btb x1))))]) ⟨look_row rfl 10 rfl s10, look_row rfl 24 rfl s24, trivial⟩ ?_
            refine t_guard rfl rfl ?_
            refine tp rfl (lv_load Try.isAgg3 rfl (Rd.gives (Rd.cons (Rd.cons (Rd.cons (Rd.cons htb)))) (ints_get (by omega)))) ?_
            exact d_closes ⟨look_row rfl 10 rfl s10, look_row rfl 24 rfl s24, trivial⟩ 25 rfl rfl rfl hS (AgreeR.refl _) (t_sat (fun _ h => h) (hK () trivial))
           · -- 26
            rintro _ S hF hS D hp K hK
            try dsimp only at hF ⊢
            have s10 := hp 10 rfl
            have s18 := hp 18 rfl
            have s25 := hp 25 rfl
            refine d_need (small := [(100, (.bool true)), (108, (.int .i64 ((times).getD x0 0))), (115, (.int .i64 ((times).getD x1 0)))]) ⟨look_row rfl 10 rfl s10, look_row rfl 18 rfl s18, look_row rfl 25 rfl s25, trivial⟩ ?_
            refine t_guard rfl rfl ?_
            refine tp rfl (lv_gtr rfl rfl (decide_eq_false (by omega))) ?_
            exact d_closes ⟨look_row rfl 10 rfl s10, look_row rfl 18 rfl s18, look_row rfl 25 rfl s25, trivial⟩ 26 rfl rfl rfl hS (AgreeR.refl _) (t_sat (fun _ h => h) (hK () trivial))
           · -- 27
            rintro _ S hF hS D hp K hK
            try dsimp only at hF ⊢
            have s10 := hp 10 rfl
            have s26 := hp 26 rfl
            refine d_need (small := [(100, (.bool true)), (116, (.bool false))]) ⟨look_row rfl 10 rfl s10, look_row rfl 26 rfl s26, trivial⟩ ?_
            refine t_guard rfl rfl ?_
            refine tp rfl (lv_move rfl) ?_
            exact d_closes ⟨look_row rfl 10 rfl s10, look_row rfl 26 rfl s26, trivial⟩ 27 rfl rfl rfl hS (AgreeR.refl _) (t_sat (fun _ h => h) (hK () trivial))
           · -- 28
            rintro _ S hF hS D hp K hK
            try dsimp only at hF ⊢
            have s27 := hp 27 rfl
            refine d_need (small := [(0, (.slice btb times.length ctb)), (117, (.bool false))]) ⟨look_b rfl rfl, look_row rfl 27 rfl s27, trivial⟩ ?_
            refine t_guard rfl rfl ?_
            refine tp rfl (lv_move rfl) ?_
            exact d_closes ⟨look_b rfl rfl, look_row rfl 27 rfl s27, trivial⟩ 28 rfl rfl rfl hS (AgreeR.refl _) (t_sat (fun _ h => h) (hK () trivial))
           · -- 29
            rintro _ S hF hS D hp K hK
            try dsimp only at hF ⊢
            have s27 := hp 27 rfl
            refine d_need (small := [(13, (.slice bs8 ((dueL (selK times gone n) 9223372036854775807).length) cp9)), (117, (.bool false))]) ⟨look_b rfl rfl, look_row rfl 27 rfl s27, trivial⟩ ?_
            refine t_guard rfl rfl ?_
            refine tp rfl (lv_move rfl) ?_
            exact d_closes ⟨look_b rfl rfl, look_row rfl 27 rfl s27, trivial⟩ 29 rfl rfl rfl hS (AgreeR.refl _) (t_sat (fun _ h => h) (hK () trivial))
           · -- 30
            rintro _ S hF hS D hp K hK
            try dsimp only at hF ⊢
            have s27 := hp 27 rfl
            refine d_need (small := [(14, (.int .i64 ((i2 : Nat) : Int))), (117, (.bool false))]) ⟨look_b rfl rfl, look_row rfl 27 rfl s27, trivial⟩ ?_
            refine t_guard rfl rfl ?_
            refine tp rfl (lv_move rfl) ?_
            exact d_closes ⟨look_b rfl rfl, look_row rfl 27 rfl s27, trivial⟩ 30 rfl rfl rfl hS (AgreeR.refl _) (t_sat (fun _ h => h) (hK () trivial))
           · -- 31
            rintro _ S hF hS D hp K hK
            try dsimp only at hF ⊢
            have s27 := hp 27 rfl
            have s30 := hp 30 rfl
            refine d_need (small := [(117, (.bool false)), (120, (.int .i64 ((i2 : Nat) : Int)))]) ⟨look_row rfl 27 rfl s27, look_row rfl 30 rfl s30, trivial⟩ ?_
            refine t_guard rfl rfl ?_
            refine tp rfl (lv_sub (c := ((i2 - 1 : Nat) : Int)) rfl rfl ((wr_i64 (by omega) (by omega)).trans (by omega))) ?_
            exact d_closes ⟨look_row rfl 27 rfl s27, look_row rfl 30 rfl s30, trivial⟩ 31 rfl rfl rfl hS (AgreeR.refl _) (t_sat (fun _ h => h) (hK () trivial))
           · -- 32
            rintro _ S hF hS D hp K hK
            try dsimp only at hF ⊢
            have s27 := hp 27 rfl
            have s29 := hp 29 rfl
            have s31 := hp 31 rfl
            refine d_need (small := [(117, (.bool false)), (119, (.slice bs8 ((dueL (selK times gone n) 9223372036854775807).length) cp9)), (121, (.int .i64 ((i2 - 1 : Nat) : Int)))]) ⟨look_row rfl 27 rfl s27, look_row rfl 29 rfl s29, look_row rfl 31 rfl s31, trivial⟩ ?_
            refine t_guard rfl rfl ?_
            refine tp rfl (lv_indexAddr (k' := i2 - 1) Try.underlying30 Try.sizeOf3 rfl rfl hok10 (by omega) (by omega) (by omega)) ?_
            exact d_closes ⟨look_row rfl 27 rfl s27, look_row rfl 29 rfl s29, look_row rfl 31 rfl s31, trivial⟩ 32 rfl rfl rfl hS (AgreeR.refl _) (t_sat (fun _ h => h) (hK () trivial))
           · -- 33
            rintro _ S hF hS D hp K hK
            try dsimp only at hF ⊢
            have s27 := hp 27 rfl
            have s32 := hp 32 rfl
            refine d_need (small := [(117, (.bool false)), (122, (.pointer (some (ad bs8 (i2 - 1)))))]) ⟨look_row rfl 27 rfl s27, look_row rfl 32 rfl s32, trivial⟩ ?_
            refine t_guard rfl rfl ?_
            refine tp rfl (lv_load Try.isAgg3 rfl (gives_as (v := .int .i64 ((x0 : Nat) : Int)) (by rw [hx0]) (gives_sl (.head _) (ints_get (by omega))))) ?_
            exact d_closes ⟨look_row rfl 27 rfl s27, look_row rfl 32 rfl s32, trivial⟩ 33 rfl rfl rfl hS (AgreeR.refl _) (t_sat (fun _ h => h) (hK () trivial))
           · -- 34
            rintro _ S hF hS D hp K hK
            try dsimp only at hF ⊢
            have s27 := hp 27 rfl
            have s28 := hp 28 rfl
            have s33 := hp 33 rfl
            refine d_need (small := [(117, (.bool false)), (118, (.slice btb times.length ctb)), (123, (.int .i64 ((x0 : Nat) : Int)))]) ⟨look_row rfl 27 rfl s27, look_row rfl 28 rfl s28, look_row rfl 33 rfl s33, trivial⟩ ?_
            refine t_guard rfl rfl ?_
            refine tp rfl (lv_indexAddr (k' := x0) Try.underlying30 Try.sizeOf3 rfl rfl oktb (by omega) (by omega) (by omega)) ?_
            exact d_closes ⟨look_row rfl 27 rfl s27, look_row rfl 28 rfl s28, look_row rfl 33 rfl s33, trivial⟩ 34 rfl rfl rfl hS (AgreeR.refl _) (t_sat (fun _ h => h) (hK () trivial))
           · -- 35
            rintro _ S hF hS D hp K hK
            try dsimp only at hF ⊢
            have s27 := hp 27 rfl
            have s34 := hp 34 rfl
            refine d_need (small := [(117, (.bool false)), (124, (.pointer (some (ad btb x0))))]) ⟨look_row rfl 27 rfl s27, look_row rfl 34 rfl s34, trivial⟩ ?_
            refine t_guard rfl rfl ?_
            refine tp rfl (lv_load Try.isAgg3 rfl (Rd.gives (Rd.cons (Rd.cons (Rd.cons (Rd.cons htb)))) (ints_get (by omega)))) ?_
            exact d_closes ⟨look_row rfl 27 rfl s27, look_row rfl 34 rfl s34, trivial⟩ 35 rfl rfl rfl hS (AgreeR.refl _) (t_sat (fun _ h => h) (hK () trivial))
           · -- 36
            rintro _ S hF hS D hp K hK
            try dsimp only at hF ⊢
            have s27 := hp 27 rfl
            refine d_need (small := [(0, (.slice btb times.length ctb)), (117, (.bool false))]) ⟨look_b rfl rfl, look_row rfl 27 rfl s27, trivial⟩ ?_
            refine t_guard rfl rfl ?_
            refine tp rfl (lv_move rfl) ?_
            exact d_closes ⟨look_b rfl rfl, look_row rfl 27 rfl s27, trivial⟩ 36 rfl rfl rfl hS (AgreeR.refl _) (t_sat (fun _ h => h) (hK () trivial))
           · -- 37
            rintro _ S hF hS D hp K hK
            try dsimp only at hF ⊢
            have s27 := hp 27 rfl
            refine d_need (small := [(13, (.slice bs8 ((dueL (selK times gone n) 9223372036854775807).length) cp9)), (117, (.bool false))]) ⟨look_b rfl rfl, look_row rfl 27 rfl s27, trivial⟩ ?_
            refine t_guard rfl rfl ?_
            refine tp rfl (lv_move rfl) ?_
            exact d_closes ⟨look_b rfl rfl, look_row rfl 27 rfl s27, trivial⟩ 37 rfl rfl rfl hS (AgreeR.refl _) (t_sat (fun _ h => h) (hK () trivial))
           · -- 38
            rintro _ S hF hS D hp K hK
            try dsimp only at hF ⊢
            have s27 := hp 27 rfl
            refine d_need (small := [(14, (.int .i64 ((i2 : Nat) : Int))), (117, (.bool false))]) ⟨look_b rfl rfl, look_row rfl 27 rfl s27, trivial⟩ ?_
            refine t_guard rfl rfl ?_
            refine tp rfl (lv_move rfl) ?_
            exact d_closes ⟨look_b rfl rfl, look_row rfl 27 rfl s27, trivial⟩ 38 rfl rfl rfl hS (AgreeR.refl _) (t_sat (fun _ h => h) (hK () trivial))
           · -- 39
            rintro _ S hF hS D hp K hK
            try dsimp only at hF ⊢
            have s27 := hp 27 rfl
            have s37 := hp 37 rfl
            have s38 := hp 38 rfl
            refine d_need (small := [(117, (.bool false)), (127, (.slice bs8 ((dueL (selK times gone n) 9223372036854775807).length) cp9)), (128, (.int .i64 ((i2 : Nat) : Int)))]) ⟨look_row rfl 27 rfl s27, look_row rfl 37 rfl s37, look_row rfl 38 rfl s38, trivial⟩ ?_
            refine t_guard rfl rfl ?_
            refine tp rfl (lv_indexAddr (k' := i2) Try.underlying30 Try.sizeOf3 rfl rfl hok10 (by omega) (by omega) (by omega)) ?_
            exact d_closes ⟨look_row rfl 27 rfl s27, look_row rfl 37 rfl s37, look_row rfl 38 rfl s38, trivial⟩ 39 rfl rfl rfl hS (AgreeR.refl _) (t_sat (fun _ h => h) (hK () trivial))
           · -- 40
            rintro _ S hF hS D hp K hK
            try dsimp only at hF ⊢
            have s27 := hp 27 rfl
            have s39 := hp 39 rfl
            refine d_need (small := [(117, (.bool false)), (129, (.pointer (some (ad bs8 i2))))]) ⟨look_row rfl 27 rfl s27, look_row rfl 39 rfl s39, trivial⟩ ?_
            refine t_guard rfl rfl ?_
            refine tp rfl (lv_load Try.isAgg3 rfl (gives_as (v := .int .i64 ((x1 : Nat) : Int)) (by rw [hx1]) (gives_sl (.head _) (ints_get (by omega))))) ?_
            exact d_closes ⟨look_row rfl 27 rfl s27, look_row rfl 39 rfl s39, trivial⟩ 40 rfl rfl rfl hS (AgreeR.refl _) (t_sat (fun _ h => h) (hK () trivial))
           · -- 41
            rintro _ S hF hS D hp K hK
            try dsimp only at hF ⊢
            have s27 := hp 27 rfl
            have s36 := hp 36 rfl
            have s40 := hp 40 rfl
            refine d_need (small := [(117, (.bool false)), (126, (.slice btb times.length ctb)), (130, (.int .i64 ((x1 : Nat) : Int)))]) ⟨look_row rfl 27 rfl s27, look_row rfl 36 rfl s36, look_row rfl 40 rfl s40, trivial⟩ ?_
            refine t_guard rfl rfl ?_
            refine tp rfl (lv_indexAddr (k' := x1) Try.underlying30 Try.sizeOf3 rfl rfl oktb (by omega) (by omega) (by omega)) ?_
            exact d_closes ⟨look_row rfl 27 rfl s27, look_row rfl 36 rfl s36, look_row rfl 40 rfl s40, trivial⟩ 41 rfl rfl rfl hS (AgreeR.refl _) (t_sat (fun _ h => h) (hK () trivial))
           · -- 42
            rintro _ S hF hS D hp K hK
            try dsimp only at hF ⊢
            have s27 := hp 27 rfl
            have s41 := hp 41 rfl
            refine d_need (small := [(117, (.bool false)), (131, (.pointer (some (ad btb x1))))]) ⟨look_row rfl 27 rfl s27, look_row rfl 41 rfl s41, trivial⟩ ?_
            refine t_guard rfl rfl ?_
            refine tp rfl (lv_load Try.isAgg3 rfl (Rd.gives (Rd.cons (Rd.cons (Rd.cons (Rd.cons htb)))) (ints_get (by omega)))) ?_
            exact d_closes ⟨look_row rfl 27 rfl s27, look_row rfl 41 rfl s41, trivial⟩ 42 rfl rfl rfl hS (AgreeR.refl _) (t_sat (fun _ h => h) (hK () trivial))
           · -- 43
            rintro _ S hF hS D hp K hK
            try dsimp only at hF ⊢
            have s27 := hp 27 rfl
            have s35 := hp 35 rfl
            have s42 := hp 42 rfl
            refine d_need (small := [(117, (.bool false)), (125, (.int .i64 ((times).getD x0 0))), (132, (.int .i64 ((times).getD x1 0)))]) ⟨look_row rfl 27 rfl s27, look_row rfl 35 rfl s35, look_row rfl 42 rfl s42, trivial⟩ ?_
            refine t_guard rfl rfl ?_
            refine tp rfl (lv_eql rfl rfl (beq_iff_eq.2 h14)) ?_
            exact d_closes ⟨look_row rfl 27 rfl s27, look_row rfl 35 rfl s35, look_row rfl 42 rfl s42, trivial⟩ 43 rfl rfl rfl hS (AgreeR.refl _) (t_sat (fun _ h => h) (hK () trivial))
           · -- 44
            rintro _ S hF hS D hp K hK
            try dsimp only at hF ⊢
            have s27 := hp 27 rfl
            have s43 := hp 43 rfl
            refine d_need (small := [(117, (.bool false)), (133, (.bool true))]) ⟨look_row rfl 27 rfl s27, look_row rfl 43 rfl s43, trivial⟩ ?_
            refine t_guard rfl rfl ?_
            refine tp rfl (lv_move rfl) ?_
            exact d_closes ⟨look_row rfl 27 rfl s27, look_row rfl 43 rfl s43, trivial⟩ 44 rfl rfl rfl hS (AgreeR.refl _) (t_sat (fun _ h => h) (hK () trivial))
           · -- 45
            rintro _ S hF hS D hp K hK
            try dsimp only at hF ⊢
            have s44 := hp 44 rfl
            refine d_need (small := [(13, (.slice bs8 ((dueL (selK times gone n) 9223372036854775807).length) cp9)), (134, (.bool true))]) ⟨look_b rfl rfl, look_row rfl 44 rfl s44, trivial⟩ ?_
            refine t_guard rfl rfl ?_
            refine tp rfl (lv_move rfl) ?_
            exact d_closes ⟨look_b rfl rfl, look_row rfl 44 rfl s44, trivial⟩ 45 rfl rfl rfl hS (AgreeR.refl _) (t_sat (fun _ h => h) (hK () trivial))
           · -- 46
            rintro _ S hF hS D hp K hK
            try dsimp only at hF ⊢
            have s44 := hp 44 rfl
            refine d_need (small := [(14, (.int .i64 ((i2 : Nat) : Int))), (134, (.bool true))]) ⟨look_b rfl rfl, look_row rfl 44 rfl s44, trivial⟩ ?_
            refine t_guard rfl rfl ?_
            refine tp rfl (lv_move rfl) ?_
            exact d_closes ⟨look_b rfl rfl, look_row rfl 44 rfl s44, trivial⟩ 46 rfl rfl rfl hS (AgreeR.refl _) (t_sat (fun _ h => h) (hK () trivial))
           · -- 47
            rintro _ S hF hS D hp K hK
            try dsimp only at hF ⊢
            have s44 := hp 44 rfl
            have s46 := hp 46 rfl
            refine d_need (small := [(134, (.bool true)), (136, (.int .i64 ((i2 : Nat) : Int)))]) ⟨look_row rfl 44 rfl s44, look_row rfl 46 rfl s46, trivial⟩ ?_
            refine t_guard rfl rfl ?_
            refine tp rfl (lv_sub (c := ((i2 - 1 : Nat) : Int)) rfl rfl ((wr_i64 (by omega) (by omega)).trans (by omega))) ?_
            exact d_closes ⟨look_row rfl 44 rfl s44, look_row rfl 46 rfl s46, trivial⟩ 47 rfl rfl rfl hS (AgreeR.refl _) (t_sat (fun _ h => h) (hK () trivial))
           · -- 48
            rintro _ S hF hS D hp K hK
            try dsimp only at hF ⊢
            have s44 := hp 44 rfl
            have s45 := hp 45 rfl
            have s47 := hp 47 rfl
            refine d_need (small := [(134, (.bool true)), (135, (.slice bs8 ((dueL (selK times gone n) 9223372036854775807).length) cp9)), (137, (.int .i64 ((i2 - 1 : Nat) : Int)))]) ⟨look_row rfl 44 rfl s44, look_row rfl 45 rfl s45, look_row rfl 47 rfl s47, trivial⟩ ?_
            refine t_guard rfl rfl ?_
            refine tp rfl (lv_indexAddr (k' := i2 - 1) Try.underlying30 Try.sizeOf3 rfl rfl hok10 (by omega) (by omega) (by omega)) ?_
            exact d_closes ⟨look_row rfl 44 rfl s44, look_row rfl 45 rfl s45, look_row rfl 47 rfl s47, trivial⟩ 48 rfl rfl rfl hS (AgreeR.refl _) (t_sat (fun _ h => h) (hK () trivial))
           · -- 49
            rintro _ S hF hS D hp K hK
            try dsimp only at hF ⊢
            have s44 := hp 44 rfl
            have s48 := hp 48 rfl
            refine d_need (small := [(134, (.bool true)), (138, (.pointer (some (ad bs8 (i2 - 1)))))]) ⟨look_row rfl 44 rfl s44, look_row rfl 48 rfl s48, trivial⟩ ?_
            refine t_guard rfl rfl ?_
            refine tp rfl (lv_load Try.isAgg3 rfl (gives_as (v := .int .i64 ((x0 : Nat) : Int)) (by rw [hx0]) (gives_sl (.head _) (ints_get (by omega))))) ?_
            exact d_closes ⟨look_row rfl 44 rfl s44, look_row rfl 48 rfl s48, trivial⟩ 49 rfl rfl rfl hS (AgreeR.refl _) (t_sat (fun _ h => h) (hK () trivial))
           · -- 50
            rintro _ S hF hS D hp K hK
            try dsimp only at hF ⊢
            have s44 := hp 44 rfl
            refine d_need (small := [(13, (.slice bs8 ((dueL (selK times gone n) 9223372036854775807).length) cp9)), (134, (.bool true))]) ⟨look_b rfl rfl, look_row rfl 44 rfl s44, trivial⟩ ?_
            refine t_guard rfl rfl ?_
            refine tp rfl (lv_move rfl) ?_
            exact d_closes ⟨look_b rfl rfl, look_row rfl 44 rfl s44, trivial⟩ 50 rfl rfl rfl hS (AgreeR.refl _) (t_sat (fun _ h => h) (hK () trivial))
           · -- 51
            rintro _ S hF hS D hp K hK
            try dsimp only at hF ⊢
            have s44 := hp 44 rfl
            refine d_need (small := [(14, (.int .i64 ((i2 : Nat) : Int))), (134, (.bool true))]) ⟨look_b rfl rfl, look_row rfl 44 rfl s44, trivial⟩ ?_
            refine t_guard rfl rfl ?_
            refine tp rfl (lv_move rfl) ?_
            exact d_closes ⟨look_b rfl rfl, look_row rfl 44 rfl s44, trivial⟩ 51 rfl rfl rfl hS (AgreeR.refl _) (t_sat (fun _ h => h) (hK () trivial))
           · -- 52
            rintro _ S hF hS D hp K hK
            try dsimp only at hF ⊢
            have s44 := hp 44 rfl
            have s50 := hp 50 rfl
            have s51 := hp 51 rfl
            refine d_need (small := [(134, (.bool true)), (140, (.slice bs8 ((dueL (selK times gone n) 9223372036854775807).length) cp9)), (141, (.int .i64 ((i2 : Nat) : Int)))]) ⟨look_row rfl 44 rfl s44, look_row rfl 50 rfl s50, look_row rfl 51 rfl s51, trivial⟩ ?_
            refine t_guard rfl rfl ?_
            refine tp rfl (lv_indexAddr (k' := i2) Try.underlying30 Try.sizeOf3 rfl rfl hok10 (by omega) (by omega) (by omega)) ?_
            exact d_closes ⟨look_row rfl 44 rfl s44, look_row rfl 50 rfl s50, look_row rfl 51 rfl s51, trivial⟩ 52 rfl rfl rfl hS (AgreeR.refl _) (t_sat (fun _ h => h) (hK () trivial))
           · -- 53
            rintro _ S hF hS D hp K hK
            try dsimp only at hF ⊢
            have s44 := hp 44 rfl
            have s52 := hp 52 rfl
            refine d_need (small := [(134, (.bool true)), (142, (.pointer (some (ad bs8 i2))))]) ⟨look_row rfl 44 rfl s44, look_row rfl 52 rfl s52, trivial⟩ ?_
            refine t_guard rfl rfl ?_
            refine tp rfl (lv_load Try.isAgg3 rfl (gives_as (v := .int .i64 ((x1 : Nat) : Int)) (by rw [hx1]) (gives_sl (.head _) (ints_get (by omega))))) ?_
            exact d_closes ⟨look_row rfl 44 rfl s44, look_row rfl 52 rfl s52, trivial⟩ 53 rfl rfl rfl hS (AgreeR.refl _) (t_sat (fun _ h => h) (hK () trivial))
           · -- 54
            rintro _ S hF hS D hp K hK
            try dsimp only at hF ⊢
            have s44 := hp 44 rfl
            have s49 := hp 49 rfl
            have s53 := hp 53 rfl
            refine d_need (small := [(134, (.bool true)), (139, (.int .i64 ((x0 : Nat) : Int))), (143, (.int .i64 ((x1 : Nat) : Int)))]) ⟨look_row rfl 44 rfl s44, look_row rfl 49 rfl s49, look_row rfl 53 rfl s53, trivial⟩ ?_
            refine t_guard rfl rfl ?_
            refine tp rfl (lv_geq rfl rfl (decide_eq_false (by omega))) ?_
            exact d_closes ⟨look_row rfl 44 rfl s44, look_row rfl 49 rfl s49, look_row rfl 53 rfl s53, trivial⟩ 54 rfl rfl rfl hS (AgreeR.refl _) (t_sat (fun _ h => h) (hK () trivial))
           · -- 55
            rintro _ S hF hS D hp K hK
            try dsimp only at hF ⊢
            have s27 := hp 27 rfl
            have s44 := hp 44 rfl
            have s54 := hp 54 rfl
            refine d_need (small := [(117, (.bool false)), (134, (.bool true)), (144, (.bool false))]) ⟨look_row rfl 27 rfl s27, look_row rfl 44 rfl s44, look_row rfl 54 rfl s54, trivial⟩ ?_
            refine t_guard rfl rfl ?_
            refine tp rfl (lv_pick_t rfl rfl) ?_
            exact d_closes ⟨look_row rfl 27 rfl s27, look_row rfl 44 rfl s44, look_row rfl 54 rfl s54, trivial⟩ 55 rfl rfl rfl hS (AgreeR.refl _) (t_sat (fun _ h => h) (hK () trivial))
           · -- 56
            rintro _ S hF hS D hp K hK
            try dsimp only at hF ⊢
            have s10 := hp 10 rfl
            have s27 := hp 27 rfl
            have s55 := hp 55 rfl
            refine d_need (small := [(100, (.bool true)), (117, (.bool false)), (145, (.bool false))]) ⟨look_row rfl 10 rfl s10, look_row rfl 27 rfl s27, look_row rfl 55 rfl s55, trivial⟩ ?_
            refine t_guard rfl rfl ?_
            refine tp rfl (lv_pick_f rfl rfl) ?_
            exact d_closes ⟨look_row rfl 10 rfl s10, look_row rfl 27 rfl s27, look_row rfl 55 rfl s55, trivial⟩ 56 rfl rfl rfl hS (AgreeR.refl _) (t_sat (fun _ h => h) (hK () trivial))
           · -- 57
            rintro _ S hF hS D hp K hK
            try dsimp only at hF ⊢
            have s7 := hp 7 rfl
            have s10 := hp 10 rfl
            have s56 := hp 56 rfl
            refine d_need (small := [(97, (.bool false)), (100, (.bool true)), (146, (.bool false))]) ⟨look_row rfl 7 rfl s7, look_row rfl 10 rfl s10, look_row rfl 56 rfl s56, trivial⟩ ?_
            refine t_guard rfl rfl ?_
            refine tp rfl (lv_pick_t rfl rfl) ?_
            exact d_closes ⟨look_row rfl 7 rfl s7, look_row rfl 10 rfl s10, look_row rfl 56 rfl s56, trivial⟩ 57 rfl rfl rfl hS (AgreeR.refl _) (t_sat (fun _ h => h) (hK () trivial))
           · -- 58
            rintro _ S hF hS D hp K hK
            try dsimp only at hF ⊢
            have s7 := hp 7 rfl
            have s57 := hp 57 rfl
            refine d_need (small := [(97, (.bool false)), (147, (.bool false))]) ⟨look_row rfl 7 rfl s7, look_row rfl 57 rfl s57, trivial⟩ ?_
            refine tp rfl (lv_pick_f rfl rfl) ?_
            exact d_closes ⟨look_row rfl 7 rfl s7, look_row rfl 57 rfl s57, trivial⟩ 58 rfl rfl rfl hS (AgreeR.refl _) (t_sat (fun _ h => h) (hK () trivial))
          · -- behind
           rintro _ hF
           try dsimp only at hF ⊢
           refine t_weak (E' := [(0, (.slice btb times.length ctb)), (1, (.slice bsb stop.length csb)), (5, (.bool true)), (6, (.int .i64 ((n : Nat) : Int))), (7, (.pointer (some ⟨p1, 0, none⟩))), (8, (.slice bs3 n cp4)), (9, (.int .i64 left)), (10, (.int .i64 ((i : Nat) : Int))), (13, (.slice bs8 ((dueL (selK times gone n) 9223372036854775807).length) cp9)), (14, (.int .i64 ((i2 : Nat) : Int))), (22, (.bool false)), (28, (.bool false)), (83, (.bool false)), (87, (.bool true)), (148, (.bool false))]) ⟨rfl, rfl, rfl, rfl, rfl, rfl, rfl, rfl, rfl, rfl, rfl, rfl, rfl, rfl, rfl, trivial⟩ ?_
           refine q_then_n (hK24 _ _ ?_)
           refine c_false rfl ?_
           refine c_skip ?_
           refine q_in_n ?_
           refine q_then_n (hK23 _ _ ?_)
           refine c_region ?_
           refine tp rfl (lv_move rfl) ?_
           refine tp rfl (lv_add (c := ((i2 + 1 : Nat) : Int)) rfl rfl (wr_i64_succ (by omega))) ?_
           refine tp rfl (lv_assign rfl) ?_
           refine t_done ?_
           refine q_then_n ?_
           exact t_weak (by exact ⟨rfl, rfl, rfl, rfl, rfl, rfl, rfl, rfl, rfl, rfl, rfl, rfl, rfl, trivial⟩) ((hK20 (i2 + 1) (by omega) (by omega)))
         · -- no
          refine c_draw (γ := Unit) (n := 59) Try.mixed rfl rfl (fun _ S => True) (fun _ => [(0, 90, (.slice bs3 n cp4)), (1, 91, (.slice bs8 ((dueL (selK times gone n) 9223372036854775807).length) cp9)), (2, 92, (.int .i64 ((i2 : Nat) : Int))), (3, 93, (.pointer (some (ad bs8 i2)))), (4, 94, (.int .i64 ((x1 : Nat) : Int))), (5, 95, (.pointer (some (ad bs3 x1)))), (6, 96, (.bool false)), (7, 97, (.bool false)), (8, 98, (.int .i64 ((i2 : Nat) : Int))), (9, 99, (.bool true)), (10, 100, (.bool true)), (11, 101, (.slice btb times.length ctb)), (12, 102, (.slice bs8 ((dueL (selK times gone n) 9223372036854775807).length) cp9)), (13, 103, (.int .i64 ((i2 : Nat) : Int))), (14, 104, (.int .i64 ((i2 - 1 : Nat) : Int))), (15, 105, (.pointer (some (ad bs8 (i2 - 1))))), (16, 106, (.int .i64 ((x0 : Nat) : Int))), (17, 107, (.pointer (some (ad btb x0)))), (18, 108, (.int .i64 ((times).getD x0 0))), (19, 109, (.slice btb times.length ctb)), (20, 110, (.slice bs8 ((dueL (selK times gone n) 9223372036854775807).length) cp9)), (21, 111, (.int .i64 ((i2 : Nat) : Int))), (22, 112, (.pointer (some (ad bs8 i2)))), (23, 113, (.int .i64 ((x1 : Nat) : Int))), (24, 114, (.pointer (some (ad btb x1)))), (25, 115, (.int .i64 ((times).getD x1 0))), (26, 116, (.bool false)), (27, 117, (.bool false)), (28, 118, (.slice btb times.length ctb)), (29, 119, (.slice bs8 ((dueL (selK times gone n) 9223372036854775807).length) cp9)), (30, 120, (.int .i64 ((i2 : Nat) : Int))), (31, 121, (.int .i64 ((i2 - 1 : Nat) : Int))), (32, 122, (.pointer (some (ad bs8 (i2 - 1))))), (33, 123, (.int .i64 ((x0 : Nat) : Int))), (34, 124, (.pointer (some (ad btb x0)))), (35, 125, (.int .i64 ((times).getD x0 0))), (36, 126, (.slice btb times.length ctb)), (37, 127, (.slice bs8 ((dueL (selK times gone n) 9223372036854775807).length) cp9)), (38, 128, (.int .i64 ((i2 : Nat) : Int))), (39, 129, (.pointer (some (ad bs8 i2)))), (40, 130, (.int .i64 ((x1 : Nat) : Int))), (41, 131, (.pointer (some (ad btb x1)))), (42, 132, (.int .i64 ((times).getD x1 0))), (43, 133, (.bool false)), (44, 134, (.bool false)), (45, 135, undef), (46, 136, undef), (47, 137, undef), (48, 138, undef), (49, 139, undef), (50, 140, undef), (51, 141, undef), (52, 142, undef), (53, 143, undef), (54, 144, undef), (55, 145, (.bool false)), (56, 146, (.bool false)), (57, 147, (.bool false)), (58, 148, (.bool false))]) (fun _ S => (SlV 3 1 (.slice bs8 ((dueL (selK times gone n) 9223372036854775807).length) cp9) ((dueL (selK times gone n) 9223372036854775807).length) (ints .i64 (dueL (selK times gone n) 9223372036854775807))) :: (Blk p1 [(.pointer (some ⟨q2, 0, none⟩))] 37) :: (HeapO q2 n (duR (selK times gone n) 9223372036854775807)) :: (SlV 4 1 (.slice bs3 n cp4) n (bools gone)) :: R) (()) trivial (fun _ h => h) (fun _ _ h => h) ?_ ?_
          · -- steps
           refine ⟨?_, ?_, ?_, ?_, ?_, ?_, ?_, ?_, ?_, ?_, ?_, ?_, ?_, ?_, ?_, ?_, ?_, ?_, ?_, ?_, ?_, ?_, ?_, ?_, ?_, ?_, ?_, ?_, ?_, ?_, ?_, ?_, ?_, ?_, ?_, ?_, ?_, ?_, ?_, ?_, ?_, ?_, ?_, ?_, ?_, ?_, ?_, ?_, ?_, ?_, ?_, ?_, ?_, ?_, ?_, ?_, ?_, ?_, ?_, trivial⟩
           · -- 0
            rintro _ S hF hS D hp K hK
            try dsimp only at hF ⊢
            refine d_need (small := [(8, (.slice bs3 n cp4))]) ⟨look_b rfl rfl, trivial⟩ ?_
            refine tp rfl (lv_move rfl) ?_
            exact d_closes ⟨look_b rfl rfl, trivial⟩ 0 rfl rfl rfl hS (AgreeR.refl _) (t_sat (fun _ h => h) (hK () trivial))
           · -- 1
            rintro _ S hF hS D hp K hK
            try dsimp only at hF ⊢
            refine d_need (small := [(13, (.slice bs8 ((dueL (selK times gone n) 9223372036854775807).length) cp9))]) ⟨look_b rfl rfl, trivial⟩ ?_
            refine tp rfl (lv_move rfl) ?_
            exact d_closes ⟨look_b rfl rfl, trivial⟩ 1 rfl rfl rfl hS (AgreeR.refl _) (t_sat (fun _ h => h) (hK () trivial))
           · -- 2
            rintro _ S hF hS D hp K hK
            try dsimp only at hF ⊢
            refine d_need (small := [(14, (.int .i64 ((i2 : Nat) : Int)))]) ⟨look_b rfl rfl, trivial⟩ ?_
            refine tp rfl (lv_move rfl) ?_
            exact d_closes ⟨look_b rfl rfl, trivial⟩ 2 rfl rfl rfl hS (AgreeR.refl _) (t_sat (fun _ h => h) (hK () trivial))
           · -- 3
            rintro _ S hF hS D hp K hK
            try dsimp only at hF ⊢
            have s1 := hp 1 rfl
            have s2 := hp 2 rfl
            refine d_need (small := [(91, (.slice bs8 ((dueL (selK times gone n) 9223372036854775807).length) cp9)), (92, (.int .i64 ((i2 : Nat) : Int)))]) ⟨look_row rfl 1 rfl s1, look_row rfl 2 rfl s2, trivial⟩ ?_
            refine tp rfl (lv_indexAddr (k' := i2) Try.underlying30 Try.sizeOf3 rfl rfl hok10 (by omega) (by omega) (by omega)) ?_
            exact d_closes ⟨look_row rfl 1 rfl s1, look_row rfl 2 rfl s2, trivial⟩ 3 rfl rfl rfl hS (AgreeR.refl _) (t_sat (fun _ h => h) (hK () trivial))
           · -- 4
            rintro _ S hF hS D hp K hK
            try dsimp only at hF ⊢
            have s3 := hp 3 rfl
            refine d_need (small := [(93, (.pointer (some (ad bs8 i2))))]) ⟨look_row rfl 3 rfl s3, trivial⟩ ?_
            refine tp rfl (lv_load Try.isAgg3 rfl (gives_as (v := .int .i64 ((x1 : Nat) : Int)) (by rw [hx1]) (gives_sl (.head _) (ints_get (by omega))))) ?_
            exact d_closes ⟨look_row rfl 3 rfl s3, trivial⟩ 4 rfl rfl rfl hS (AgreeR.refl _) (t_sat (fun _ h => h) (hK () trivial))
           · -- 5
            rintro _ S hF hS D hp K hK
            try dsimp only at hF ⊢
            have s0 := hp 0 rfl
            have s4 := hp 4 rfl
            refine d_need (small := [(90, (.slice bs3 n cp4)), (94, (.int .i64 ((x1 : Nat) : Int)))]) ⟨look_row rfl 0 rfl s0, look_row rfl 4 rfl s4, trivial⟩ ?_
            refine tp rfl (lv_indexAddr (k' := x1) Try.underlying23 Try.sizeOf4 rfl rfl hok5 (by omega) (by omega) (by omega)) ?_
            exact d_closes ⟨look_row rfl 0 rfl s0, look_row rfl 4 rfl s4, trivial⟩ 5 rfl rfl rfl hS (AgreeR.refl _) (t_sat (fun _ h => h) (hK () trivial))
           · -- 6
            rintro _ S hF hS D hp K hK
            try dsimp only at hF ⊢
            have s5 := hp 5 rfl
            refine d_need (small := [(95, (.pointer (some (ad bs3 x1))))]) ⟨look_row rfl 5 rfl s5, trivial⟩ ?_
            refine tp rfl (lv_load Try.isAgg4 rfl (gives_as (v := .bool false) (by first | rw [hg1] | rw [Int.toNat_natCast, hg1]) (gives_sl (.tail _ (.tail _ (.tail _ (.head _)))) (bools_get (by omega))))) ?_
            exact d_closes ⟨look_row rfl 5 rfl s5, trivial⟩ 6 rfl rfl rfl hS (AgreeR.refl _) (t_sat (fun _ h => h) (hK () trivial))
           · -- 7
            rintro _ S hF hS D hp K hK
            try dsimp only at hF ⊢
            have s6 := hp 6 rfl
            refine d_need (small := [(96, (.bool false))]) ⟨look_row rfl 6 rfl s6, trivial⟩ ?_
            refine tp rfl (lv_move rfl) ?_
            exact d_closes ⟨look_row rfl 6 rfl s6, trivial⟩ 7 rfl rfl rfl hS (AgreeR.refl _) (t_sat (fun _ h => h) (hK () trivial))
           · -- 8
            rintro _ S hF hS D hp K hK
            try dsimp only at hF ⊢
            have s7 := hp 7 rfl
            refine d_need (small := [(14, (.int .i64 ((i2 : Nat) : Int))), (97, (.bool false))]) ⟨look_b rfl rfl, look_row rfl 7 rfl s7, trivial⟩ ?_
            refine t_guard rfl rfl ?_
            refine tp rfl (lv_move rfl) ?_
            exact d_closes ⟨look_b rfl rfl, look_row rfl 7 rfl s7, trivial⟩ 8 rfl rfl rfl hS (AgreeR.refl _) (t_sat (fun _ h => h) (hK () trivial))
           · -- 9
            rintro _ S hF hS D hp K hK
            try dsimp only at hF ⊢
            have s7 := hp 7 rfl
            have s8 := hp 8 rfl
            refine d_need (small := [(97, (.bool false)), (98, (.int .i64 ((i2 : Nat) : Int)))]) ⟨look_row rfl 7 rfl s7, look_row rfl 8 rfl s8, trivial⟩ ?_
            refine t_guard rfl rfl ?_
            refine tp rfl (lv_gtr rfl rfl (decide_eq_true h13)) ?_
            exact d_closes ⟨look_row rfl 7 rfl s7, look_row rfl 8 rfl s8, trivial⟩ 9 rfl rfl rfl hS (AgreeR.refl _) (t_sat (fun _ h => h) (hK () trivial))
           · -- 10
            rintro _ S hF hS D hp K hK
            try dsimp only at hF ⊢
            have s7 := hp 7 rfl
            have s9 := hp 9 rfl
            refine d_need (small := [(97, (.bool false)), (99, (.bool true))]) ⟨look_row rfl 7 rfl s7, look_row rfl 9 rfl s9, trivial⟩ ?_
            refine t_guard rfl rfl ?_
            refine tp rfl (lv_move rfl) ?_
            exact d_closes ⟨look_row rfl 7 rfl s7, look_row rfl 9 rfl s9, trivial⟩ 10 rfl rfl rfl hS (AgreeR.refl _) (t_sat (fun _ h => h) (hK () trivial))
           · -- 11
            rintro _ S hF hS D hp K hK
            try dsimp only at hF ⊢
            have s10 := hp 10 rfl
            refine d_need (small := [(0, (.slice btb times.length ctb)), (100, (.bool true))]) ⟨look_b rfl rfl, look_row rfl 10 rfl s10, trivial⟩ ?_
            refine t_guard rfl rfl ?_
            refine tp rfl (lv_move rfl) ?_
            exact d_closes ⟨look_b rfl rfl, look_row rfl 10 rfl s10, trivial⟩ 11 rfl rfl rfl hS (AgreeR.refl _) (t_sat (fun _ h => h) (hK () trivial))
           · -- 12
            rintro _ S hF hS D hp K hK
            try dsimp only at hF ⊢
            have s10 := hp 10 rfl
            refine d_need (small := [(13, (.slice bs8 ((dueL (selK times gone n) 9223372036854775807).length) cp9)), (100, (.bool true))]) ⟨look_b rfl rfl, look_row rfl 10 rfl s10, trivial⟩ ?_
            refine t_guard rfl rfl ?_
            refine tp rfl (lv_move rfl) ?_
            exact d_closes ⟨look_b rfl rfl, look_row rfl 10 rfl s10, trivial⟩ 12 rfl rfl rfl hS (AgreeR.refl _) (t_sat (fun _ h => h) (hK () trivial))
           · -- 13
            rintro _ S hF hS D hp K hK
            try dsimp only at hF ⊢
            have s10 := hp 10 rfl
            refine d_need (small := [(14, (.int .i64 ((i2 : Nat) : Int))), (100, (.bool true))]) ⟨look_b rfl rfl, look_row rfl 10 rfl s10, trivial⟩ ?_
            refine t_guard rfl rfl ?_
            refine tp rfl (lv_move rfl) ?_
            exact d_closes ⟨look_b rfl rfl, look_row rfl 10 rfl s10, trivial⟩ 13 rfl rfl rfl hS (AgreeR.refl _) (t_sat (fun _ h => h) (hK () trivial))
           · -- 14
            rintro _ S hF hS D hp K hK
            try dsimp only at hF ⊢
            have s10 := hp 10 rfl
            have s13 := hp 13 rfl
            refine d_need (small := [(100, (.bool true)), (103, (.int .i64 ((i2 : Nat) : Int)))]) ⟨look_row rfl 10 rfl s10, look_row rfl 13 rfl s13, trivial⟩ ?_
            refine t_guard rfl rfl ?_
            refine tp rfl (lv_sub (c := ((i2 - 1 : Nat) : Int)) rfl rfl ((wr_i64 (by omega) (by omega)).trans (by omega))) ?_
            exact d_closes ⟨look_row rfl 10 rfl s10, look_row rfl 13 rfl s13, trivial⟩ 14 rfl rfl rfl hS (AgreeR.refl _) (t_sat (fun _ h => h) (hK () trivial))
           · -- 15
            rintro _ S hF hS D hp K hK
            try dsimp only at hF ⊢
            have s10 := hp 10 rfl
            have s12 := hp 12 rfl
            have s14 := hp 14 rfl
            refine d_need (small := [(100, (.bool true)), (102, (.slice bs8 ((dueL (selK times gone n) 9223372036854775807).length) cp9)), (104, (.int .i64 ((i2 - 1 : Nat) : Int)))]) ⟨look_row rfl 10 rfl s10, look_row rfl 12 rfl s12, look_row rfl 14 rfl s14, trivial⟩ ?_
            refine t_guard rfl rfl ?_
            refine tp rfl (lv_indexAddr (k' := i2 - 1) Try.underlying30 Try.sizeOf3 rfl rfl hok10 (by omega) (by omega) (by omega)) ?_
            exact d_closes ⟨look_row rfl 10 rfl s10, look_row rfl 12 rfl s12, look_row rfl 14 rfl s14, trivial⟩ 15 rfl rfl rfl hS (AgreeR.refl _) (t_sat (fun _ h => h) (hK () trivial))
           · -- 16
            rintro _ S hF hS D hp K hK
            try dsimp only at hF ⊢
            have s10 := hp 10 rfl
            have s15 := hp 15 rfl
            refine d_need (small := [(100, (.bool true)), (105, (.pointer (some (ad bs8 (i2 - 1)))))]) ⟨look_row rfl 10 rfl s10, look_row rfl 15 rfl s15, trivial⟩ ?_
            refine t_guard rfl rfl ?_
            refine tp rfl (lv_load Try.isAgg3 rfl (gives_as (v := .int .i64 ((x0 : Nat) : Int)) (by rw [hx0]) (gives_sl (.head _) (ints_get (by omega))))) ?_
            exact d_closes ⟨look_row rfl 10 rfl s10, look_row rfl 15 rfl s15, trivial⟩ 16 rfl rfl rfl hS (AgreeR.refl _) (t_sat (fun _ h => h) (hK () trivial))
           · -- 17
            rintro _ S hF hS D hp K hK
            try dsimp only at hF ⊢
            have s10 := hp 10 rfl
            have s11 := hp 11 rfl
            have s16 := hp 16 rfl
            refine d_need (small := [(100, (.bool true)), (101, (.slice btb times.length ctb)), (106, (.int .i64 ((x0 : Nat) : Int)))]) ⟨look_row rfl 10 rfl s10, look_row rfl 11 rfl s11, look_row rfl 16 rfl s16, trivial⟩ ?_
            refine t_guard rfl rfl ?_
            refine tp rfl (lv_indexAddr (k' := x0) Try.underlying30 Try.sizeOf3 rfl rfl oktb (by omega) (by omega) (by omega)) ?_
            exact d_closes ⟨look_row rfl 10 rfl s10, look_row rfl 11 rfl s11, look_row rfl 16 rfl s16, trivial⟩ 17 rfl rfl rfl hS (AgreeR.refl _) (t_sat (fun _ h => h) (hK () trivial))
           · -- 18
            rintro _ S hF hS D hp K hK
            try dsimp only at hF ⊢
            have s10 := hp 10 rfl
            have s17 := hp 17 rfl
            refine d_need (small := [(100, (.bool true)), (107, (.pointer (some (ad btb x0))))]) ⟨look_row rfl 10 rfl s10, look_row rfl 17 rfl s17, trivial⟩ ?_
            refine t_guard rfl rfl ?_
            refine tp rfl (lv_load Try.isAgg3 rfl (Rd.gives (Rd.cons (Rd.cons (Rd.cons (Rd.cons htb)))) (ints_get (by omega)))) ?_
            exact d_closes ⟨look_row rfl 10 rfl s10, look_row rfl 17 rfl s17, trivial⟩ 18 rfl rfl rfl hS (AgreeR.refl _) (t_sat (fun _ h => h) (hK () trivial))
           · -- 19
            rintro _ S hF hS D hp K hK
            try dsimp only at hF ⊢
            have s10 := hp 10 rfl
            refine d_need (small := [(0, (.slice btb times.length ctb)), (100, (.bool true))]) ⟨look_b rfl rfl, look_row rfl 10 rfl s10, trivial⟩ ?_
            refine t_guard rfl rfl ?_
            refine tp rfl (lv_move rfl) ?_
            exact d_closes ⟨look_b rfl rfl, look_row rfl 10 rfl s10, trivial⟩ 19 rfl rfl rfl hS (AgreeR.refl _) (t_sat (fun _ h => h) (hK () trivial))
           · -- 20
            rintro _ S hF hS D hp K hK
            try dsimp only at hF ⊢
            have s10 := hp 10 rfl
            refine d_need (small := [(13, (.slice bs8 ((dueL (selK times gone n) 9223372036854775807).length) cp9)), (100, (.bool true))]) ⟨look_b rfl rfl, look_row rfl 10 rfl s10, trivial⟩ ?_
            refine t_guard rfl rfl ?_
            refine tp rfl (lv_move rfl) ?_
            exact d_closes ⟨look_b rfl rfl, look_row rfl 10 rfl s10, trivial⟩ 20 rfl rfl rfl hS (AgreeR.refl _) (t_sat (fun _ h => h) (hK () trivial))
           · -- 21
            rintro _ S hF hS D hp K hK
            try dsimp only at hF ⊢
            have s10 := hp 10 rfl
            refine d_need (small := [(14, (.int .i64 ((i2 : Nat) : Int))), (100, (.bool true))]) ⟨look_b rfl rfl, look_row rfl 10 rfl s10, trivial⟩ ?_
            refine t_guard rfl rfl ?_
            refine tp rfl (lv_move rfl) ?_
            exact d_closes ⟨look_b rfl rfl, look_row rfl 10 rfl s10, trivial⟩ 21 rfl rfl rfl hS (AgreeR.refl _) (t_sat (fun _ h => h) (hK () trivial))
           · -- 22
            rintro _ S hF hS D hp K hK
            try dsimp only at hF ⊢
            have s10 := hp 10 rfl
            have s20 := hp 20 rfl
            have s21 := hp 21 rfl
            refine d_need (small := [(100, (.bool true)), (110, (.slice bs8 ((dueL (selK times gone n) 9223372036854775807).length) cp9)), (111, (.int .i64 ((i2 : Nat) : Int)))]) ⟨look_row rfl 10 rfl s10, look_row rfl 20 rfl s20, look_row rfl 21 rfl s21, trivial⟩ ?_
            refine t_guard rfl rfl ?_
            refine tp rfl (lv_indexAddr (k' := i2) Try.underlying30 Try.sizeOf3 rfl rfl hok10 (by omega) (by omega) (by omega)) ?_
            exact d_closes ⟨look_row rfl 10 rfl s10, look_row rfl 20 rfl s20, look_row rfl 21 rfl s21, trivial⟩ 22 rfl rfl rfl hS (AgreeR.refl _) (t_sat (fun _ h => h) (hK () trivial))
           · -- 23
            rintro _ S hF hS D hp K hK
            try dsimp only at hF ⊢
            have s10 := hp 10 rfl
            have s22 := hp 22 rfl
            refine d_need (small := [(100, (.bool true)), (112, (.pointer (some (ad bs8 i2))))]) ⟨look_row rfl 10 rfl s10, look_row rfl 22 rfl s22, trivial⟩ ?_
            refine t_guard rfl rfl ?_
            refine tp rfl (lv_load Try.isAgg3 rfl (gives_as (v := .int .i64 ((x1 : Nat) : Int)) (by rw [hx1]) (gives_sl (.head _) (ints_get (by omega))))) ?_
            exact d_closes ⟨look_row rfl 10 rfl s10, look_row rfl 22 rfl s22, trivial⟩ 23 rfl rfl rfl hS (AgreeR.refl _) (t_sat (fun _ h => h) (hK () trivial))
           · -- 24
            rintro _ S hF hS D hp K hK
            try dsimp only at hF ⊢
            have s10 := hp 10 rfl
            have s19 := hp 19 rfl
            have s23 := hp 23 rfl
            refine d_need (small := [(100, (.bool true)), (109, (.slice btb times.length ctb)), (113, (.int .i64 ((x1 : Nat) : Int)))]) ⟨look_row rfl 10 rfl s10, look_row rfl 19 rfl s19, look_row rfl 23 rfl s23, trivial⟩ ?_
            refine t_guard rfl rfl ?_
            refine tp rfl (lv_indexAddr (k' := x1) Try.underlying30 Try.sizeOf3 rfl rfl oktb (by omega) (by omega) (by omega)) ?_
            exact d_closes ⟨look_row rfl 10 rfl s10, look_row rfl 19 rfl s19, look_row rfl 23 rfl s23, trivial⟩ 24 rfl rfl rfl hS (AgreeR.refl _) (t_sat (fun _ h => h) (hK () trivial))
           · -- 25
            rintro _ S hF hS D hp K hK
            try dsimp only at hF ⊢
            have s10 := hp 10 rfl
            have s24 := hp 24 rfl
            refine d_need (small := [(100, (.bool true)), (114, (.pointer (some (ad btb x1))))]) ⟨look_row rfl 10 rfl s10, look_row rfl 24 rfl s24, trivial⟩ ?_
            refine t_guard rfl rfl ?_
            refine tp rfl (lv_load Try.isAgg3 rfl (Rd.gives (Rd.cons (Rd.cons (Rd.cons (Rd.cons htb)))) (ints_get (by omega)))) ?_
            exact d_closes ⟨look_row rfl 10 rfl s10, look_row rfl 24 rfl s24, trivial⟩ 25 rfl rfl rfl hS (AgreeR.refl _) (t_sat (fun _ h => h) (hK () trivial))
           · -- 26
            rintro _ S hF hS D hp K hK
            try dsimp only at hF ⊢
            have s10 := hp 10 rfl
            have s18 := hp 18 rfl
            have s25 := hp 25 rfl
            refine d_need (small := [(100, (.bool true)), (108, (.int .i64 ((times).getD x0 0))), (115, (.int .i64 ((times).getD x1 0)))]) ⟨look_row rfl 10 rfl s10, look_row rfl 18 rfl s18, look_row rfl 25 rfl s25, trivial⟩ ?_
            refine t_guard rfl rfl ?_
            refine tp rfl (lv_gtr rfl rfl (decide_eq_false (by omega))) ?_
            exact d_closes ⟨look_row rfl 10 rfl s10, look_row rfl 18 rfl s18, look_row rfl 25 rfl s25, trivial⟩ 26 rfl rfl rfl hS (AgreeR.refl _) (t_sat (fun _ h => h) (hK () trivial))
           · -- 27
            rintro _ S hF hS D hp K hK
            try dsimp only at hF ⊢
            have s10 := hp 10 rfl
            have s26 := hp 26 rfl
            refine d_need (small := [(100, (.bool true)), (116, (.bool false))]) ⟨look_row rfl 10 rfl s10, look_row rfl 26 rfl s26, trivial⟩ ?_
            refine t_guard rfl rfl ?_
            refine tp rfl (lv_move rfl) ?_
            exact d_closes ⟨look_row rfl 10 rfl s10, look_row rfl 26 rfl s26, trivial⟩ 27 rfl rfl rfl hS (AgreeR.refl _) (t_sat (fun _ h => h) (hK () trivial))
           · -- 28
            rintro _ S hF hS D hp K hK
            try dsimp only at hF ⊢
            have s27 := hp 27 rfl
            refine d_need (small := [(0, (.slice btb times.length ctb)), (117, (.bool false))]) ⟨look_b rfl rfl, look_row rfl 27 rfl s27, trivial⟩ ?_
            refine t_guard rfl rfl ?_
            refine tp rfl (lv_move rfl) ?_
            exact d_closes ⟨look_b rfl rfl, look_row rfl 27 rfl s27, trivial⟩ 28 rfl rfl rfl hS (AgreeR.refl _) (t_sat (fun _ h => h) (hK () trivial))
           · -- 29
            rintro _ S hF hS D hp K hK
            try dsimp only at hF ⊢
            have s27 := hp 27 rfl
            refine d_need (small := [(13, (.slice bs8 ((dueL (selK times gone n) 9223372036854775807).length) cp9)), (117, (.bool false))]) ⟨look_b rfl rfl, look_row rfl 27 rfl s27, trivial⟩ ?_
            refine t_guard rfl rfl ?_
            refine tp rfl (lv_move rfl) ?_
            exact d_closes ⟨look_b rfl rfl, look_row rfl 27 rfl s27, trivial⟩ 29 rfl rfl rfl hS (AgreeR.refl _) (t_sat (fun _ h => h) (hK () trivial))
           · -- 30
            rintro _ S hF hS D hp K hK
            try dsimp only at hF ⊢
            have s27 := hp 27 rfl
            refine d_need (small := [(14, (.int .i64 ((i2 : Nat) : Int))), (117, (.bool false))]) ⟨look_b rfl rfl, look_row rfl 27 rfl s27, trivial⟩ ?_
            refine t_guard rfl rfl ?_
            refine tp rfl (lv_move rfl) ?_
            exact d_closes ⟨look_b rfl rfl, look_row rfl 27 rfl s27, trivial⟩ 30 rfl rfl rfl hS (AgreeR.refl _) (t_sat (fun _ h => h) (hK () trivial))
           · -- 31
            rintro _ S hF hS D hp K hK
            try dsimp only at hF ⊢
            have s27 := hp 27 rfl
            have s30 := hp 30 rfl
            refine d_need (small := [(117, (.bool false)), (120, (.int .i64 ((i2 : Nat) : Int)))]) ⟨look_row rfl 27 rfl s27, look_row rfl 30 rfl s30, trivial⟩ ?_
            refine t_guard rfl rfl ?_
            refine tp rfl (lv_sub (c := ((i2 - 1 : Nat) : Int)) rfl rfl ((wr_i64 (by omega) (by omega)).trans (by omega))) ?_
            exact d_closes ⟨look_row rfl 27 rfl s27, look_row rfl 30 rfl s30, trivial⟩ 31 rfl rfl rfl hS (AgreeR.refl _) (t_sat (fun _ h => h) (hK () trivial))
           · -- 32
            rintro _ S hF hS D hp K hK
            try dsimp only at hF ⊢
            have s27 := hp 27 rfl
            have s29 := hp 29 rfl
            have s31 := hp 31 rfl
            refine d_need (small := [(117, (.bool false)), (119, (.slice bs8 ((dueL (selK times gone n) 9223372036854775807).length) cp9)), (121, (.int .i64 ((i2 - 1 : Nat) : Int)))]) ⟨look_row rfl 27 rfl s27, look_row rfl 29 rfl s29, look_row rfl 31 rfl s31, trivial⟩ ?_
            refine t_guard rfl rfl ?_
            refine tp rfl (lv_indexAddr (k' := i2 - 1) Try.underlying30 Try.sizeOf3 rfl rfl hok10 (by omega) (by omega) (by omega)) ?_
            exact d_closes ⟨look_row rfl 27 rfl s27, look_row rfl 29 rfl s29, look_row rfl 31 rfl s31, trivial⟩ 32 rfl rfl rfl hS (AgreeR.refl _) (t_sat (fun _ h => h) (hK () trivial))
           · -- 33
            rintro _ S hF hS D hp K hK
            try dsimp only at hF ⊢
            have s27 := hp 27 rfl
            have s32 := hp 32 rfl
            refine d_need (small := [(117, (.bool false)), (122, (.pointer (some (ad bs8 (i2 - 1)))))]) ⟨look_row rfl 27 rfl s27, look_row rfl 32 rfl s32, trivial⟩ ?_
            refine t_guard rfl rfl ?_
            refine tp rfl (lv_load Try.isAgg3 rfl (gives_as (v := .int .i64 ((x0 : Nat) : Int)) (by rw [hx0]) (gives_sl (.head _) (ints_get (by omega))))) ?_
            exact d_closes ⟨look_row rfl 27 rfl s27, look_row rfl 32 rfl s32, trivial⟩ 33 rfl rfl rfl hS (AgreeR.refl _) (t_sat (fun _ h => h) (hK () trivial))
           · -- 34
            rintro _ S hF hS D hp K hK
            try dsimp only at hF ⊢
            have s27 := hp 27 rfl
            have s28 := hp 28 rfl
            have s33 := hp 33 rfl
            refine d_need (small := [(117, (.bool false)), (118, (.slice btb times.length ctb)), (123, (.int .i64 ((x0 : Nat) : Int)))]) ⟨look_row rfl 27 rfl s27, look_row rfl 28 rfl s28, look_row rfl 33 rfl s33, trivial⟩ ?_
            refine t_guard rfl rfl ?_
            refine tp rfl (lv_indexAddr (k' := x0) Try.underlying30 Try.sizeOf3 rfl rfl oktb (by omega) (by omega) (by omega)) ?_
            exact d_closes ⟨look_row rfl 27 rfl s27, look_row rfl 28 rfl s28, look_row rfl 33 rfl s33, trivial⟩ 34 rfl rfl rfl hS (AgreeR.refl _) (t_sat (fun _ h => h) (hK () trivial))
           · -- 35
            rintro _ S hF hS D hp K hK
            try dsimp only at hF ⊢
            have s27 := hp 27 rfl
            have s34 := hp 34 rfl
            refine d_need (small := [(117, (.bool false)), (124, (.pointer (some (ad btb x0))))]) ⟨look_row rfl 27 rfl s27, look_row rfl 34 rfl s34, trivial⟩ ?_
            refine t_guard rfl rfl ?_
            refine tp rfl (lv_load Try.isAgg3 rfl (Rd.gives (Rd.cons (Rd.cons (Rd.cons (Rd.cons htb)))) (ints_get (by omega)))) ?_
            exact d_closes ⟨look_row rfl 27 rfl s27, look_row rfl 34 rfl s34, trivial⟩ 35 rfl rfl rfl hS (AgreeR.refl _) (t_sat (fun _ h => h) (hK () trivial))
           · -- 36
            rintro _ S hF hS D hp K hK
            try dsimp only at hF ⊢
            have s27 := hp 27 rfl
            refine d_need (small := [(0, (.slice btb times.length ctb)), (117, (.bool false))]) ⟨look_b rfl rfl, look_row rfl 27 rfl s27, trivial⟩ ?_
            refine t_guard rfl rfl ?_
            refine tp rfl (lv_move rfl) ?_
            exact d_closes ⟨look_b rfl rfl, look_row rfl 27 rfl s27, trivial⟩ 36 rfl rfl rfl hS (AgreeR.refl _) (t_sat (fun _ h => h) (hK () trivial))
           · -- 37
            rintro _ S hF hS D hp K hK
            try dsimp only at hF ⊢
            have s27 := hp 27 rfl
            refine d_need (small := [(13, (.slice bs8 ((dueL (selK times gone n) 9223372036854775807).length) cp9)), (117, (.bool false))]) ⟨look_b rfl rfl, look_row rfl 27 rfl s27, trivial⟩ ?_
            refine t_guard rfl rfl ?_
            refine tp rfl (lv_move rfl) ?_
            exact d_closes ⟨look_b rfl rfl, look_row rfl 27 rfl s27, trivial⟩ 37 rfl rfl rfl hS (AgreeR.refl _) (t_sat (fun _ h => h) (hK () trivial))
           · -- 38
            rintro _ S hF hS D hp K hK
            try dsimp only at hF ⊢
            have s27 := hp 27 rfl
            refine d_need (small := [(14, (.int .i64 ((i2 : Nat) : Int))), (117, (.bool false))]) ⟨look_b rfl rfl, look_row rfl 27 rfl s27, trivial⟩ ?_
            refine t_guard rfl rfl ?_
            refine tp rfl (lv_move rfl) ?_
            exact d_closes ⟨look_b rfl rfl, look_row rfl 27 rfl s27, trivial⟩ 38 rfl rfl rfl hS (AgreeR.refl _) (t_sat (fun _ h => h) (hK () trivial))
           · -- 39
            rintro _ S hF hS D hp K hK
            try dsimp only at hF ⊢
            have s27 := hp 27 rfl
            have s37 := hp 37 rfl
            have s38 := hp 38 rfl
            refine d_need (small := [(117, (.bool false)), (127, (.slice bs8 ((dueL (selK times gone n) 9223372036854775807).length) cp9)), (128, (.int .i64 ((i2 : Nat) : Int)))]) ⟨look_row rfl 27 rfl s27, look_row rfl 37 rfl s37, look_row rfl 38 rfl s38, trivial⟩ ?_
            refine t_guard rfl rfl ?_
            refine tp rfl (lv_indexAddr (k' := i2) Try.underlying30 Try.sizeOf3 rfl rfl hok10 (by omega) (by omega) (by omega)) ?_
            exact d_closes ⟨look_row rfl 27 rfl s27, look_row rfl 37 rfl s37, look_row rfl 38 rfl s38, trivial⟩ 39 rfl rfl rfl hS (AgreeR.refl _) (t_sat (fun _ h => h) (hK () trivial))
           · -- 40
            rintro _ S hF hS D hp K hK
            try dsimp only at hF ⊢
            have s27 := hp 27 rfl
            have s39 := hp 39 rfl
            refine d_need (small := [(117, (.bool false)), (129, (.pointer (some (ad bs8 i2))))]) ⟨look_row rfl 27 rfl s27, look_row rfl 39 rfl s39, trivial⟩ ?_
            refine t_guard rfl rfl ?_
            refine tp rfl (lv_load Try.isAgg3 rfl (gives_as (v := .int .i64 ((x1 : Nat) : Int)) (by rw [hx1]) (gives_sl (.head _) (ints_get (by omega))))) ?_
            exact d_closes ⟨look_row rfl 27 rfl s27, look_row rfl 39 rfl s39, trivial⟩ 40 rfl rfl rfl hS (AgreeR.refl _) (t_sat (fun _ h => h) (hK () trivial))
           · -- 41
            rintro _ S hF hS D hp K hK
            try dsimp only at hF ⊢
            have s27 := hp 27 rfl
            have s36 := hp 36 rfl
            have s40 := hp 40 rfl
            refine d_need (small := [(117, (.bool false)), (126, (.slice btb times.length ctb)), (130, (.int .i64 ((x1 : Nat) : Int)))]) ⟨look_row rfl 27 rfl s27, look_row rfl 36 rfl s36, look_row rfl 40 rfl s40, trivial⟩ ?_
            refine t_guard rfl rfl ?_
            refine tp rfl (lv_indexAddr (k' := x1) Try.underlying30 Try.sizeOf3 rfl rfl oktb (by omega) (by omega) (by omega)) ?_
            exact d_closes ⟨look_row rfl 27 rfl s27, look_row rfl 36 rfl s36, look_row rfl 40 rfl s40, trivial⟩ 41 rfl rfl rfl hS (AgreeR.refl _) (t_sat (fun _ h => h) (hK () trivial))
           · -- 42
            rintro _ S hF hS D hp K hK
            try dsimp only at hF ⊢
            have s27 := hp 27 rfl
            have s41 := hp 41 rfl
            refine d_need (small := [(117, (.bool false)), (131, (.pointer (some (ad btb x1))))]) ⟨look_row rfl 27 rfl s27, look_row rfl 41 rfl s41, trivial⟩ ?_
            refine t_guard rfl rfl ?_
            refine tp rfl (lv_load Try.isAgg3 rfl (Rd.gives (Rd.cons (Rd.cons (Rd.cons (Rd.cons htb)))) (ints_get (by omega)))) ?_
            exact d_closes ⟨look_row rfl 27 rfl s27, look_row rfl 41 rfl s41, trivial⟩ 42 rfl rfl rfl hS (AgreeR.refl _) (t_sat (fun _ h => h) (hK () trivial))
           · -- 43
            rintro _ S hF hS D hp K hK
            try dsimp only at hF ⊢
            have s27 := hp 27 rfl
            have s35 := hp 35 rfl
            have s42 := hp 42 rfl
            refine d_need (small := [(117, (.bool false)), (125, (.int .i64 ((times).getD x0 0))), (132, (.int .i64 ((times).getD x1 0)))]) ⟨look_row rfl 27 rfl s27, look_row rfl 35 rfl s35, look_row rfl 42 rfl s42, trivial⟩ ?_
            refine t_guard rfl rfl ?_
            refine tp rfl (lv_eql rfl rfl (beq_eq_false_iff_ne.2 h14)) ?_
            exact d_closes ⟨look_row rfl 27 rfl s27, look_row rfl 35 rfl s35, look_row rfl 42 rfl s42, trivial⟩ 43 rfl rfl rfl hS (AgreeR.refl _) (t_sat (fun _ h => h) (hK () trivial))
           · -- 44
            rintro _ S hF hS D hp K hK
            try dsimp only at hF ⊢
            have s27 := hp 27 rfl
            have s43 := hp 43 rfl
            refine d_need (small := [(117, (.bool false)), (133, (.bool false))]) ⟨look_row rfl 27 rfl s27, look_row rfl 43 rfl s43, trivial⟩ ?_
            refine t_guard rfl rfl ?_
            refine tp rfl (lv_move rfl) ?_
            exact d_closes ⟨look_row rfl 27 rfl s27, look_row rfl 43 rfl s43, trivial⟩ 44 rfl rfl rfl hS (AgreeR.refl _) (t_sat (fun _ h => h) (hK () trivial))
           · -- 45
            rintro _ S hF hS D hp K hK
            try dsimp only at hF ⊢
            have s44 := hp 44 rfl
            refine d_need (small := [(13, (.slice bs8 ((dueL (selK times gone n) 9223372036854775807).length) cp9)), (134, (.bool false))]) ⟨look_b rfl rfl, look_row rfl 44 rfl s44, trivial⟩ ?_
            refine t_skip rfl rfl rfl ?_
            exact d_closes ⟨look_b rfl rfl, look_row rfl 44 rfl s44, trivial⟩ 45 rfl rfl rfl hS (AgreeR.refl _) (t_sat (fun _ h => h) (hK () trivial))
           · -- 46
            rintro _ S hF hS D hp K hK
            try dsimp only at hF ⊢
            have s44 := hp 44 rfl
            refine d_need (small := [(14, (.int .i64 ((i2 : Nat) : Int))), (134, (.bool false))]) ⟨look_b rfl rfl, look_row rfl 44 rfl s44, trivial⟩ ?_
            refine t_skip rfl rfl rfl ?_
            exact d_closes ⟨look_b rfl rfl, look_row rfl 44 rfl s44, trivial⟩ 46 rfl rfl rfl hS (AgreeR.refl _) (t_sat (fun _ h => h) (hK () trivial))
           · -- 47
            rintro _ S hF hS D hp K hK
            try dsimp only at hF ⊢
            have s44 := hp 44 rfl
            have s46 := hp 46 rfl
            refine d_need (small := [(134, (.bool false)), (136, undef)]) ⟨look_row rfl 44 rfl s44, look_row rfl 46 rfl s46, trivial⟩ ?_
            refine t_skip rfl rfl rfl ?_
            exact d_closes ⟨look_row rfl 44 rfl s44, look_row rfl 46 rfl s46, trivial⟩ 47 rfl rfl rfl hS (AgreeR.refl _) (t_sat (fun _ h => h) (hK () trivial))
           · -- 48
            rintro _ S hF hS D hp K hK
            try dsimp only at hF ⊢
            have s44 := hp 44 rfl
            have s45 := hp 45 rfl
            have s47 := hp 47 rfl
            refine d_need (small := [(134, (.bool false)), (135, undef), (137, undef)]) ⟨look_row rfl 44 rfl s44, look_row rfl 45 rfl s45, look_row rfl 47 rfl s47, trivial⟩ ?_
            refine t_skip rfl rfl rfl ?_
            exact d_closes ⟨look_row rfl 44 rfl s44, look_row rfl 45 rfl s45, look_row rfl 47 rfl s47, trivial⟩ 48 rfl rfl rfl hS (AgreeR.refl _) (t_sat (fun _ h => h) (hK () trivial))
           · -- 49
            rintro _ S hF hS D hp K hK
            try dsimp only at hF ⊢
            have s44 := hp 44 rfl
            have s48 := hp 48 rfl
            refine d_need (small := [(134, (.bool false)), (138, undef)]) ⟨look_row rfl 44 rfl s44, look_row rfl 48 rfl s48, trivial⟩ ?_
            refine t_skip rfl rfl rfl ?_
            exact d_closes ⟨look_row rfl 44 rfl s44, look_row rfl 48 rfl s48, trivial⟩ 49 rfl rfl rfl hS (AgreeR.refl _) (t_sat (fun _ h => h) (hK () trivial))
           · -- 50
            rintro _ S hF hS D hp K hK
            try dsimp only at hF ⊢
            have s44 := hp 44 rfl
            refine d_need (small := [(13, (.slice bs8 ((dueL (selK times gone n) 9223372036854775807).length) cp9)), (134, (.bool false))]) ⟨look_b rfl rfl, look_row rfl 44 rfl s44, trivial⟩ ?_
            refine t_skip rfl rfl rfl ?_
            exact d_closes ⟨look_b rfl rfl, look_row rfl 44 rfl s44, trivial⟩ 50 rfl rfl rfl hS (AgreeR.refl _) (t_sat (fun _ h => h) (hK () trivial))
           · -- 51
            rintro _ S hF hS D hp K hK
            try dsimp only at hF ⊢
            have s44 := hp 44 rfl
            refine d_need (small := [(14, (.int .i64 ((i2 : Nat) : Int))), (134, (.bool false))]) ⟨look_b rfl rfl, look_row rfl 44 rfl s44, trivial⟩ ?_
            refine t_skip rfl rfl rfl ?_
            exact d_closes ⟨look_b rfl rfl, look_row rfl 44 rfl s44, trivial⟩ 51 rfl rfl rfl hS (AgreeR.refl _) (t_sat (fun _ h => h) (hK () trivial))
           · -- 52
            rintro _ S hF hS D hp K hK
            try dsimp only at hF ⊢
            have s44 := hp 44 rfl
            have s50 := hp 50 rfl
            have s51 := hp 51 rfl
            refine d_need (small := [(134, (.bool false)), (140, undef), (141, undef)]) ⟨look_row rfl 44 rfl s44, look_row rfl 50 rfl s50, look_row rfl 51 rfl s51, trivial⟩ ?_
            refine t_skip rfl rfl rfl ?_
            exact d_closes ⟨look_row rfl 44 rfl s44, look_row rfl 50 rfl s50, look_row rfl 51 rfl s51, trivial⟩ 52 rfl rfl rfl hS (AgreeR.refl _) (t_sat (fun _ h => h) (hK () trivial))
           · -- 53
            rintro _ S hF hS D hp K hK
            try dsimp only at hF ⊢
            have s44 := hp 44 rfl
            have s52 := hp 52 rfl
            refine d_need (small := [(134, (.bool false)), (142, undef)]) ⟨look_row rfl 44 rfl s44, look_row rfl 52 rfl s52, trivial⟩ ?_
            refine t_skip rfl rfl rfl ?_
            exact d_closes ⟨look_row rfl 44 rfl s44, look_row rfl 52 rfl s52, trivial⟩ 53 rfl rfl rfl hS (AgreeR.refl _) (t_sat (fun _ h => h) (hK () trivial))
           · -- 54
            rintro _ S hF hS D hp K hK
            try dsimp only at hF ⊢
            have s44 := hp 44 rfl
            have s49 := hp 49 rfl
            have s53 := hp 53 rfl
            refine d_need (small := [(134, (.bool false)), (139, undef), (143, undef)]) ⟨look_row rfl 44 rfl s44, look_row rfl 49 rfl s49, look_row rfl 53 rfl s53, trivial⟩ ?_
            refine t_skip rfl rfl rfl ?_
            exact d_closes ⟨look_row rfl 44 rfl s44, look_row rfl 49 rfl s49, look_row rfl 53 rfl s53, trivial⟩ 54 rfl rfl rfl hS (AgreeR.refl _) (t_sat (fun _ h => h) (hK () trivial))
           · -- 55
            rintro _ S hF hS D hp K hK
            try dsimp only at hF ⊢
            have s27 := hp 27 rfl
            have s44 := hp 44 rfl
            have s54 := hp 54 rfl
            refine d_need (small := [(117, (.bool false)), (134, (.bool false)), (144, undef)]) ⟨look_row rfl 27 rfl s27, look_row rfl 44 rfl s44, look_row rfl 54 rfl s54, trivial⟩ ?_
            refine t_guard rfl rfl ?_
            refine tp rfl (lv_pick_f rfl rfl) ?_
            exact d_closes ⟨look_row rfl 27 rfl s27, look_row rfl 44 rfl s44, look_row rfl 54 rfl s54, trivial⟩ 55 rfl rfl rfl hS (AgreeR.refl _) (t_sat (fun _ h => h) (hK () trivial))
           · -- 56
            rintro _ S hF hS D hp K hK
            try dsimp only at hF ⊢
            have s10 := hp 10 rfl
            have s27 := hp 27 rfl
            have s55 := hp 55 rfl
            refine d_need (small := [(100, (.bool true)), (117, (.bool false)), (145, (.bool false))]) ⟨look_row rfl 10 rfl s10, look_row rfl 27 rfl s27, look_row rfl 55 rfl s55, trivial⟩ ?_
            refine t_guard rfl rfl ?_
            refine tp rfl (lv_pick_f rfl rfl) ?_
            exact d_closes ⟨look_row rfl 10 rfl s10, look_row rfl 27 rfl s27, look_row rfl 55 rfl s55, trivial⟩ 56 rfl rfl rfl hS (AgreeR.refl _) (t_sat (fun _ h => h) (hK () trivial))
           · -- 57
            rintro _ S hF hS D hp K hK
            try dsimp only at hF ⊢
            have s7 := hp 7 rfl
            have s10 := hp 10 rfl
            have s56 := hp 56 rfl
            refine d_need (small := [(97, (.bool false)), (100, (.bool true)), (146, (.bool false))]) ⟨look_row rfl 7 rfl s7, look_row rfl 10 rfl s10, look_row rfl 56 rfl s56, trivial⟩ ?_
            refine t_guard rfl rfl ?_
            refine tp rfl (lv_pick_t rfl rfl) ?_
            exact d_closes ⟨look_row rfl 7 rfl s7, look_row rfl 10 rfl s10, look_row rfl 56 rfl s56, trivial⟩ 57 rfl rfl rfl hS (AgreeR.refl _) (t_sat (fun _ h => h) (hK () trivial))
           · -- 58
            rintro _ S hF hS D hp K hK
            try dsimp only at hF ⊢
            have s7 := hp 7 rfl
            have s57 := hp 57 rfl
            refine d_need (small := [(97, (.bool false)), (147, (.bool false))]) ⟨look_row rfl 7 rfl s7, look_row rfl 57 rfl s57, trivial⟩ ?_
            refine tp rfl (lv_pick_f rfl rfl) ?_
            exact d_closes ⟨look_row rfl 7 rfl s7, look_row rfl 57 rfl s57, trivial⟩ 58 rfl rfl rfl hS (AgreeR.refl _) (t_sat (fun _ h => h) (hK () trivial))
          · -- behind
           rintro _ hF
           try dsimp only at hF ⊢
           refine t_weak (E' := [(0, (.slice btb times.length ctb)), (1, (.slice bsb stop.length csb)), (5, (.bool true)), (6, (.int .i64 ((n : Nat) : Int))), (7, (.pointer (some ⟨p1, 0, none⟩))), (8, (.slice bs3 n cp4)), (9, (.int .i64 left)), (10, (.int .i64 ((i : Nat) : Int))), (13, (.slice bs8 ((dueL (selK times gone n) 9223372036854775807).length) cp9)), (14, (.int .i64 ((i2 : Nat) : Int))), (22, (.bool false)), (28, (.bool false)), (83, (.bool false)), (87, (.bool true)), (148, (.bool false))]) ⟨rfl, rfl, rfl, rfl, rfl, rfl, rfl, rfl, rfl, rfl, rfl, rfl, rfl, rfl, rfl, trivial⟩ ?_
           refine q_then_n (hK24 _ _ ?_)
           refine c_false rfl ?_
           refine c_skip ?_
           refine q_in_n ?_
           refine q_then_n (hK23 _ _ ?_)
           refine c_region ?_
           refine tp rfl (lv_move rfl) ?_
           refine tp rfl (lv_add (c := ((i2 + 1 : Nat) : Int)) rfl rfl (wr_i64_succ (by omega))) ?_
           refine tp rfl (lv_assign rfl) ?_
           refine t_done ?_
           refine q_then_n ?_
           exact t_weak (by exact ⟨rfl, rfl, rfl, rfl, rfl, rfl, rfl, rfl, rfl, rfl, rfl, rfl, rfl, trivial⟩) ((hK20 (i2 + 1) (by omega) (by omega)))
        · -- no
         refine c_draw (γ := Unit) (n := 59) Try.mixed rfl rfl (fun _ S => True) (fun _ => [(0, 90, (.slice bs3 n cp4)), (1, 91, (.slice bs8 ((dueL (selK times gone n) 9223372036854775807).length) cp9)), (2, 92, (.int .i64 ((i2 : Nat) : Int))), (3, 93, (.pointer (some (ad bs8 i2)))), (4, 94, (.int .i64 ((x1 : Nat) : Int))), (5, 95, (.pointer (some (ad bs3 x1)))), (6, 96, (.bool false)), (7, 97, (.bool false)), (8, 98, (.int .i64 ((i2 : Nat) : Int))), (9, 99, (.bool false)), (10, 100, (.bool false)), (11, 101, undef), (12, 102, undef), (13, 103, undef), (14, 104, undef), (15, 105, undef), (16, 106, undef), (17, 107, undef), (18, 108, undef), (19, 109, undef), (20, 110, undef), (21, 111, undef), (22, 112, undef), (23, 113, undef), (24, 114, undef), (25, 115, undef), (26, 116, undef), (27, 117, undef), (28, 118, undef), (29, 119, undef), (30, 120, undef), (31, 121, undef), (32, 122, undef), (33, 123, undef), (34, 124, undef), (35, 125, undef), (36, 126, undef), (37, 127, undef), (38, 128, undef), (39, 129, undef), (40, 130, undef), (41, 131, undef), (42, 132, undef), (43, 133, undef), (44, 134, undef), (45, 135, undef), (46, 136, undef), (47, 137, undef), (48, 138, undef), (49, 139, undef), (50, 140, undef), (51, 141, undef), (52, 142, undef), (53, 143, undef), (54, 144, undef), (55, 145, undef), (56, 146, undef), (57, 147, (.bool false)), (58, 148, (.bool false))]) (fun _ S => (SlV 3 1 (.slice bs8 ((dueL (selK times gone n) 9223372036854775807).length) cp9) ((dueL (selK times gone n) 9223372036854775807).length) (ints .i64 (dueL (selK times gone n) 9223372036854775807))) :: (Blk p1 [(.pointer (some ⟨q2, 0, none⟩))] 37) :: (HeapO q2 n (duR (selK times gone n) 9223372036854775807)) :: (SlV 4 1 (.slice bs3 n cp4) n (bools gone)) :: R) (()) trivial (fun _ h => h) (fun _ _ h => h) ?_ ?_
         · -- steps
          refine ⟨?_, ?_, ?_, ?_, ?_, ?_, ?_, ?_, ?_, ?_, ?_, ?_, ?_, ?_, ?_, ?_, ?_, ?_, ?_, ?_, ?_, ?_, ?_, ?_, ?_, ?_, ?_, ?_, ?_, ?_, ?_, ?_, ?_, ?_, ?_, ?_, ?_, ?_, ?_, ?_, ?_, ?_, ?_, ?_, ?_, ?_, ?_, ?_, ?_, ?_, ?_, ?_, ?_, ?_, ?_, ?_, ?_, ?_, ?_, trivial⟩
          · -- 0
           rintro _ S hF hS D hp K hK
           try dsimp only at hF ⊢
           refine d_need (small := [(8, (.slice bs3 n cp4))]) ⟨look_b rfl rfl, trivial⟩ ?_
           refine tp rfl (lv_move rfl) ?_
           exact d_closes ⟨look_b rfl rfl, trivial⟩ 0 rfl rfl rfl hS (AgreeR.refl _) (t_sat (fun _ h => h) (hK () trivial))
          · -- 1
           rintro _ S hF hS D hp K hK
           try dsimp only at hF ⊢
           refine d_need (small := [(13, (.slice bs8 ((dueL (selK times gone n) 9223372036854775807).length) cp9))]) ⟨look_b rfl rfl, trivial⟩ ?_
           refine tp rfl (lv_move rfl) ?_
           exact d_closes ⟨look_b rfl rfl, trivial⟩ 1 rfl rfl rfl hS (AgreeR.refl _) (t_sat (fun _ h => h) (hK () trivial))
          · -- 2
           rintro _ S hF hS D hp K hK
           try dsimp only at hF ⊢
           refine d_need (small := [(14, (.int .i64 ((i2 : Nat) : Int)))]) ⟨look_b rfl rfl, trivial⟩ ?_
           refine tp rfl (lv_move rfl) ?_
           exact d_closes ⟨look_b rfl rfl, trivial⟩ 2 rfl rfl rfl hS (AgreeR.refl _) (t_sat (fun _ h => h) (hK () trivial))
          · -- 3
           rintro _ S hF hS D hp K hK
           try dsimp only at hF ⊢
           have s1 := hp 1 rfl
           have s2 := hp 2 rfl
           refine d_need (small := [(91, (.slice bs8 ((dueL (selK times gone n) 9223372036854775807).length) cp9)), (92, (.int .i64 ((i2 : Nat) : Int)))]) ⟨look_row rfl 1 rfl s1, look_row rfl 2 rfl s2, trivial⟩ ?_
           refine tp rfl (lv_indexAddr (k' := i2) Try.underlying30 Try.sizeOf3 rfl rfl hok10 (by omega) (by omega) (by omega)) ?_
           exact d_closes ⟨look_row rfl 1 rfl s1, look_row rfl 2 rfl s2, trivial⟩ 3 rfl rfl rfl hS (AgreeR.refl _) (t_sat (fun _ h => h) (hK () trivial))
          · -- 4
           rintro _ S hF hS D hp K hK
           try dsimp only at hF ⊢
           have s3 := hp 3 rfl
           refine d_need (small := [(93, (.pointer (some (ad bs8 i2))))]) ⟨look_row rfl 3 rfl s3, trivial⟩ ?_
           refine tp rfl (lv_load Try.isAgg3 rfl (gives_as (v := .int .i64 ((x1 : Nat) : Int)) (by rw [hx1]) (gives_sl (.head _) (ints_get (by omega))))) ?_
           exact d_closes ⟨look_row rfl 3 rfl s3, trivial⟩ 4 rfl rfl rfl hS (AgreeR.refl _) (t_sat (fun _ h => h) (hK () trivial))
          · -- 5
           rintro _ S hF hS D hp K hK
           try dsimp only at hF ⊢
           have s0 := hp 0 rfl
           have s4 := hp 4 rfl
           refine d_need (small := [(90, (.slice bs3 n cp4)), (94, (.int .i64 ((x1 : Nat) : Int)))]) ⟨look_row rfl 0 rfl s0, look_row rfl 4 rfl s4, trivial⟩ ?_
           refine tp rfl (lv_indexAddr (k' := x1) Try.underlying23 Try.sizeOf4 rfl rfl hok5 (by omega) (by omega) (by omega)) ?_
           exact d_closes ⟨look_row rfl 0 rfl s0, look_row rfl 4 rfl s4, trivial⟩ 5 rfl rfl rfl hS (AgreeR.refl _) (t_sat (fun _ h => h) (hK () trivial))
          · -- 6
           rintro _ S hF hS D hp K hK
           try dsimp only at hF ⊢
           have s5 := hp 5 rfl
           refine d_need (small := [(95, (.pointer (some (ad bs3 x1))))]) ⟨look_row rfl 5 rfl s5, trivial⟩ ?_
           refine tp rfl (lv_load Try.isAgg4 rfl (gives_as (v := .bool false) (by first | rw [hg1] | rw [Int.toNat_natCast, hg1]) (gives_sl (.tail _ (.tail _ (.tail _ (.head _)))) (bools_get (by omega))))) ?_
           exact d_closes ⟨look_row rfl 5 rfl s5, trivial⟩ 6 rfl rfl rfl hS (AgreeR.refl _) (t_sat (fun _ h => h) (hK () trivial))
          · -- 7
           rintro _ S hF hS D hp K hK
           try dsimp only at hF ⊢
           have s6 := hp 6 rfl
           refine d_need (small := [(96, (.bool false))]) ⟨look_row rfl 6 rfl s6, trivial⟩ ?_
           refine tp rfl (lv_move rfl) ?_
           exact d_closes ⟨look_row rfl 6 rfl s6, trivial⟩ 7 rfl rfl rfl hS (AgreeR.refl _) (t_sat (fun _ h => h) (hK () trivial))
          · -- 8
           rintro _ S hF hS D hp K hK
           try dsimp only at hF ⊢
           have s7 := hp 7 rfl
           refine d_need (small := [(14, (.int .i64 ((i2 : Nat) : Int))), (97, (.bool false))]) ⟨look_b rfl rfl, look_row rfl 7 rfl s7, trivial⟩ ?_
           refine t_guard rfl rfl ?_
           refine tp rfl (lv_move rfl) ?_
           exact d_closes ⟨look_b rfl rfl, look_row rfl 7 rfl s7, trivial⟩ 8 rfl rfl rfl hS (AgreeR.refl _) (t_sat (fun _ h => h) (hK () trivial))
          · -- 9
           rintro _ S hF hS D hp K hK
           try dsimp only at hF ⊢
           have s7 := hp 7 rfl
           have s8 := hp 8 rfl
           refine d_need (small := [(97, (.bool false)), (98, (.int .i64 ((i2 : Nat) : Int)))]) ⟨look_row rfl 7 rfl s7, look_row rfl 8 rfl s8, trivial⟩ ?_
           refine t_guard rfl rfl ?_
           refine tp rfl (lv_gtr rfl rfl (decide_eq_false h13)) ?_
           exact d_closes ⟨look_row rfl 7 rfl s7, look_row rfl 8 rfl s8, trivial⟩ 9 rfl rfl rfl hS (AgreeR.refl _) (t_sat (fun _ h => h) (hK () trivial))
          · -- 10
           rintro _ S hF hS D hp K hK
           try dsimp only at hF ⊢
           have s7 := hp 7 rfl
           have s9 := hp 9 rfl
           refine d_need (small := [(97, (.bool false)), (99, (.bool false))]) ⟨look_row rfl 7 rfl s7, look_row rfl 9 rfl s9, trivial⟩ ?_
           refine t_guard rfl rfl ?_
           refine tp rfl (lv_move rfl) ?_
           exact d_closes ⟨look_row rfl 7 rfl s7, look_row rfl 9 rfl s9, trivial⟩ 10 rfl rfl rfl hS (AgreeR.refl _) (t_sat (fun _ h => h) (hK () trivial))
          · -- 11
           rintro _ S hF hS D hp K hK
           try dsimp only at hF ⊢
           have s10 := hp 10 rfl
           refine d_need (small := [(0, (.slice btb times.length ctb)), (100, (.bool false))]) ⟨look_b rfl rfl, look_row rfl 10 rfl s10, trivial⟩ ?_
           refine t_skip rfl rfl rfl ?_
           exact d_closes ⟨look_b rfl rfl, look_row rfl 10 rfl s10, trivial⟩ 11 rfl rfl rfl hS (AgreeR.refl _) (t_sat (fun _ h => h) (hK () trivial))
          · -- 12
           rintro _ S hF hS D hp K hK
           try dsimp only at hF ⊢
           have s10 := hp 10 rfl
           refine d_need (small := [(13, (.slice bs8 ((dueL (selK times gone n) 9223372036854775807).length) cp9)), (100, (.bool false))]) ⟨look_b rfl rfl, look_row rfl 10 rfl s10, trivial⟩ ?_
           refine t_skip rfl rfl rfl ?_
           exact d_closes ⟨look_b rfl rfl, look_row rfl 10 rfl s10, trivial⟩ 12 rfl rfl rfl hS (AgreeR.refl _) (t_sat (fun _ h => h) (hK () trivial))
          · -- 13
           rintro _ S hF hS D hp K hK
           try dsimp only at hF ⊢
           have s10 := hp 10 rfl
           refine d_need (small := [(14, (.int .i64 ((i2 : Nat) : Int))), (100, (.bool false))]) ⟨look_b rfl rfl, look_row rfl 10 rfl s10, trivial⟩ ?_
           refine t_skip rfl rfl rfl ?_
           exact d_closes ⟨look_b rfl rfl, look_row rfl 10 rfl s10, trivial⟩ 13 rfl rfl rfl hS (AgreeR.refl _) (t_sat (fun _ h => h) (hK () trivial))
          · -- 14
           rintro _ S hF hS D hp K hK
           try dsimp only at hF ⊢
           have s10 := hp 10 rfl
           have s13 := hp 13 rfl
           refine d_need (small := [(100, (.bool false)), (103, undef)]) ⟨look_row rfl 10 rfl s10, look_row rfl 13 rfl s13, trivial⟩ ?_
           refine t_skip rfl rfl rfl ?_
           exact d_closes ⟨look_row rfl 10 rfl s10, look_row rfl 13 rfl s13, trivial⟩ 14 rfl rfl rfl hS (AgreeR.refl _) (t_sat (fun _ h => h) (hK () trivial))
          · -- 15
           rintro _ S hF hS D hp K hK
           try dsimp only at hF ⊢
           have s10 := hp 10 rfl
           have s12 := hp 12 rfl
           have s14 := hp 14 rfl
           refine d_need (small := [(100, (.bool false)), (102, undef), (104, undef)]) ⟨look_row rfl 10 rfl s10, look_row rfl 12 rfl s12, look_row rfl 14 rfl s14, trivial⟩ ?_
           refine t_skip rfl rfl rfl ?_
           exact d_closes ⟨look_row rfl 10 rfl s10, look_row rfl 12 rfl s12, look_row rfl 14 rfl s14, trivial⟩ 15 rfl rfl rfl hS (AgreeR.refl _) (t_sat (fun _ h => h) (hK () trivial))
          · -- 16
           rintro _ S hF hS D hp K hK
           try dsimp only at hF ⊢
           have s10 := hp 10 rfl
           have s15 := hp 15 rfl
           refine d_need (small := [(100, (.bool false)), (105, undef)]) ⟨look_row rfl 10 rfl s10, look_row rfl 15 rfl s15, trivial⟩ ?_
           refine t_skip rfl rfl rfl ?_
           exact d_closes ⟨look_row rfl 10 rfl s10, look_row rfl 15 rfl s15, trivial⟩ 16 rfl rfl rfl hS (AgreeR.refl _) (t_sat (fun _ h => h) (hK () trivial))
          · -- 17
           rintro _ S hF hS D hp K hK
           try dsimp only at hF ⊢
           have s10 := hp 10 rfl
           have s11 := hp 11 rfl
           have s16 := hp 16 rfl
           refine d_need (small := [(100, (.bool false)), (101, undef), (106, undef)]) ⟨look_row rfl 10 rfl s10, look_row rfl 11 rfl s11, look_row rfl 16 rfl s16, trivial⟩ ?_
           refine t_skip rfl rfl rfl ?_
           exact d_closes ⟨look_row rfl 10 rfl s10, look_row rfl 11 rfl s11, look_row rfl 16 rfl s16, trivial⟩ 17 rfl rfl rfl hS (AgreeR.refl _) (t_sat (fun _ h => h) (hK () trivial))
          · -- 18
           rintro _ S hF hS D hp K hK
           try dsimp only at hF ⊢
           have s10 := hp 10 rfl
           have s17 := hp 17 rfl
           refine d_need (small := [(100, (.bool false)), (107, undef)]) ⟨look_row rfl 10 rfl s10, look_row rfl 17 rfl s17, trivial⟩ ?_
           refine t_skip rfl rfl rfl ?_
           exact d_closes ⟨look_row rfl 10 rfl s10, look_row rfl 17 rfl s17, trivial⟩ 18 rfl rfl rfl hS (AgreeR.refl _) (t_sat (fun _ h => h) (hK () trivial))
          · -- 19
           rintro _ S hF hS D hp K hK
           try dsimp only at hF ⊢
           have s10 := hp 10 rfl
           refine d_need (small := [(0, (.slice btb times.length ctb)), (100, (.bool false))]) ⟨look_b rfl rfl, look_row rfl 10 rfl s10, trivial⟩ ?_
           refine t_skip rfl rfl rfl ?_
           exact d_closes ⟨look_b rfl rfl, look_row rfl 10 rfl s10, trivial⟩ 19 rfl rfl rfl hS (AgreeR.refl _) (t_sat (fun _ h => h) (hK () trivial))
          · -- 20
           rintro _ S hF hS D hp K hK
           try dsimp only at hF ⊢
           have s10 := hp 10 rfl
           refine d_need (small := [(13, (.slice bs8 ((dueL (selK times gone n) 9223372036854775807).length) cp9)), (100, (.bool false))]) ⟨look_b rfl rfl, look_row rfl 10 rfl s10, trivial⟩ ?_
           refine t_skip rfl rfl rfl ?_
           exact d_closes ⟨look_b rfl rfl, look_row rfl 10 rfl s10, trivial⟩ 20 rfl rfl rfl hS (AgreeR.refl _) (t_sat (fun _ h => h) (hK () trivial))
          · -- 21
           rintro _ S hF hS D hp K hK
           try dsimp only at hF ⊢
           have s10 := hp 10 rfl
           refine d_need (small := [(14, (.int .i64 ((i2 : Nat) : Int))), (100, (.bool false))]) ⟨look_b rfl rfl, look_row rfl 10 rfl s10, trivial⟩ ?_
           refine t_skip rfl rfl rfl ?_
           exact d_closes ⟨look_b rfl rfl, look_row rfl 10 rfl s10, trivial⟩ 21 rfl rfl rfl hS (AgreeR.refl _) (t_sat (fun _ h => h) (hK () trivial))
          · -- 22
           rintro _ S hF hS D hp K hK
           try dsimp only at hF ⊢
           have s10 := hp 10 rfl
           have s20 := hp 20 rfl
           have s21 := hp 21 rfl
           refine d_need (small := [(100, (.bool false)), (110, undef), (111, undef)]) ⟨look_row rfl 10 rfl s10, look_row rfl 20 rfl s20, look_row rfl 21 rfl s21, trivial⟩ ?_
           refine t_skip rfl rfl rfl ?_
           exact d_closes ⟨look_row rfl 10 rfl s10, look_row rfl 20 rfl s20, look_row rfl 21 rfl s21, trivial⟩ 22 rfl rfl rfl hS (AgreeR.refl _) (t_sat (fun _ h => h) (hK () trivial))
          · -- 23
           rintro _ S hF hS D hp K hK
           try dsimp only at hF ⊢
           have s10 := hp 10 rfl
           have s22 := hp 22 rfl
           refine d_need (small := [(100, (.bool false)), (112, undef)]) ⟨look_row rfl 10 rfl s10, look_row rfl 22 rfl s22, trivial⟩ ?_
           refine t_skip rfl rfl rfl ?_
           exact d_closes ⟨look_row rfl 10 rfl s10, look_row rfl 22 rfl s22, trivial⟩ 23 rfl rfl rfl hS (AgreeR.refl _) (t_sat (fun _ h => h) (hK () trivial))
          · -- 24
           rintro _ S hF hS D hp K hK
           try dsimp only at hF ⊢
           have s10 := hp 10 rfl
           have s19 := hp 19 rfl
           have s23 := hp 23 rfl
           refine d_need (small := [(100, (.bool false)), (109, undef), (113, undef)]) ⟨look_row rfl 10 rfl s10, look_row rfl 19 rfl s19, look_row rfl 23 rfl s23, trivial⟩ ?_
           refine t_skip rfl rfl rfl ?_
           exact d_closes ⟨look_row rfl 10 rfl s10, look_row rfl 19 rfl s19, look_row rfl 23 rfl s23, trivial⟩ 24 rfl rfl rfl hS (AgreeR.refl _) (t_sat (fun _ h => h) (hK () trivial))
          · -- 25
           rintro _ S hF hS D hp K hK
           try dsimp only at hF ⊢
           have s10 := hp 10 rfl
           have s24 := hp 24 rfl
           refine d_need (small := [(100, (.bool false)), (114, undef)]) ⟨look_row rfl 10 rfl s10, look_row rfl 24 rfl s24, trivial⟩ ?_
           refine t_skip rfl rfl rfl ?_
           exact d_closes ⟨look_row rfl 10 rfl s10, look_row rfl 24 rfl s24, trivial⟩ 25 rfl rfl rfl hS (AgreeR.refl _) (t_sat (fun _ h => h) (hK () trivial))
          · -- 26
           rintro _ S hF hS D hp K hK
           try dsimp only at hF ⊢
           have s10 := hp 10 rfl
           have s18 := hp 18 rfl
           have s25 := hp 25 rfl
           refine d_need (small := [(100, (.bool false)), (108, undef), (115, undef)]) ⟨look_row rfl 10 rfl s10, look_row rfl 18 rfl s18, look_row rfl 25 rfl s25, trivial⟩ ?_
           refine t_skip rfl rfl rfl ?_
           exact d_closes ⟨look_row rfl 10 rfl s10, look_row rfl 18 rfl s18, look_row rfl 25 rfl s25, trivial⟩ 26 rfl rfl rfl hS (AgreeR.refl _) (t_sat (fun _ h => h) (hK () trivial))
          · -- 27
           rintro _ S hF hS D hp K hK
           try dsimp only at hF ⊢
           have s10 := hp 10 rfl
           have s26 := hp 26 rfl
           refine d_need (small := [(100, (.bool false)), (116, undef)]) ⟨look_row rfl 10 rfl s10, look_row rfl 26 rfl s26, trivial⟩ ?_
           refine t_skip rfl rfl rfl ?_
           exact d_closes ⟨look_row rfl 10 rfl s10, look_row rfl 26 rfl s26, trivial⟩ 27 rfl rfl rfl hS (AgreeR.refl _) (t_sat (fun _ h => h) (hK () trivial))
          · -- 28
           rintro _ S hF hS D hp K hK
           try dsimp only at hF ⊢
           have s27 := hp 27 rfl
           refine d_need (small := [(0, (.slice btb times.length ctb)), (117, undef)]) ⟨look_b rfl rfl, look_row rfl 27 rfl s27, trivial⟩ ?_
           refine t_skipu rfl rfl rfl ?_
           exact d_closes ⟨look_b rfl rfl, look_row rfl 27 rfl s27, trivial⟩ 28 rfl rfl rfl hS (AgreeR.refl _) (t_sat (fun _ h => h) (hK () trivial))
          · -- 29
           rintro _ S hF hS D hp K hK
           try dsimp only at hF ⊢
           have s27 := hp 27 rfl
           refine d_need (small := [(13, (.slice bs8 ((dueL (selK times gone n) 9223372036854775807).length) cp9)), (117, undef)]) ⟨look_b rfl rfl, look_row rfl 27 rfl s27, trivial⟩ ?_
           refine t_skipu rfl rfl rfl ?_
           exact d_closes ⟨look_b rfl rfl, look_row rfl 27 rfl s27, trivial⟩ 29 rfl rfl rfl hS (AgreeR.refl _) (t_sat (fun _ h => h) (hK () trivial))
          · -- 30
           rintro _ S hF hS D hp K hK
           try dsimp only at hF ⊢
           have s27 := hp 27 rfl
           refine d_need (small := [(14, (.int .i64 ((i2 : Nat) : Int))), (117, undef)]) ⟨look_b rfl rfl, look_row rfl 27 rfl s27, trivial⟩ ?_
           refine t_skipu rfl rfl rfl ?_
           exact d_closes ⟨look_b rfl rfl, look_row rfl 27 rfl s27, trivial⟩ 30 rfl rfl rfl hS (AgreeR.refl _) (t_sat (fun _ h => h) (hK () trivial))
          · -- 31
           rintro _ S hF hS D hp K hK
           try dsimp only at hF ⊢
           have s27 := hp 27 rfl
           have s30 := hp 30 rfl
           refine d_need (small := [(117, undef), (120, undef)]) ⟨look_row rfl 27 rfl s27, look_row rfl 30 rfl s30, trivial⟩ ?_
           refine t_skipu rfl rfl rfl ?_
           exact d_closes ⟨look_row rfl 27 rfl s27, look_row rfl 30 rfl s30, trivial⟩ 31 rfl rfl rfl hS (AgreeR.refl _) (t_sat (fun _ h => h) (hK () trivial))
          · -- 32
           rintro _ S hF hS D hp K hK
           try dsimp only at hF ⊢
           have s27 := hp 27 rfl
           have s29 := hp 29 rfl
           have s31 := hp 31 rfl
           refine d_need (small := [(117, undef), (119, undef), (121, undef)]) ⟨look_row rfl 27 rfl s27, look_row rfl 29 rfl s29, look_row rfl 31 rfl s31, trivial⟩ ?_
           refine t_skipu rfl rfl rfl ?_
           exact d_closes ⟨look_row rfl 27 rfl s27, look_row rfl 29 rfl s29, look_row rfl 31 rfl s31, trivial⟩ 32 rfl rfl rfl hS (AgreeR.refl _) (t_sat (fun _ h => h) (hK () trivial))
          · -- 33
           rintro _ S hF hS D hp K hK
           try dsimp only at hF ⊢
           have s27 := hp 27 rfl
           have s32 := hp 32 rfl
           refine d_need (small := [(117, undef), (122, undef)]) ⟨look_row rfl 27 rfl s27, look_row rfl 32 rfl s32, trivial⟩ ?_
           refine t_skipu rfl rfl rfl ?_
           exact d_closes ⟨look_row rfl 27 rfl s27, look_row rfl 32 rfl s32, trivial⟩ 33 rfl rfl rfl hS (AgreeR.refl _) (t_sat (fun _ h => h) (hK () trivial))
          · -- 34
           rintro _ S hF hS D hp K hK
           try dsimp only at hF ⊢
           have s27 := hp 27 rfl
           have s28 := hp 28 rfl
           have s33 := hp 33 rfl
           refine d_need (small := [(117, undef), (118, undef), (123, undef)]) ⟨look_row rfl 27 rfl s27, look_row rfl 28 rfl s28, look_row rfl 33 rfl s33, trivial⟩ ?_
           refine t_skipu rfl rfl rfl ?_
           exact d_closes ⟨look_row rfl 27 rfl s27, look_row rfl 28 rfl s28, look_row rfl 33 rfl s33, trivial⟩ 34 rfl rfl rfl hS (AgreeR.refl _) (t_sat (fun _ h => h) (hK () trivial))
          · -- 35
           rintro _ S hF hS D hp K hK
           try dsimp only at hF ⊢
           have s27 := hp 27 rfl
           have s34 := hp 34 rfl
           refine d_need (small := [(117, undef), (124, undef)]) ⟨look_row rfl 27 rfl s27, look_row rfl 34 rfl s34, trivial⟩ ?_
           refine t_skipu rfl rfl rfl ?_
           exact d_closes ⟨look_row rfl 27 rfl s27, look_row rfl 34 rfl s34, trivial⟩ 35 rfl rfl rfl hS (AgreeR.refl _) (t_sat (fun _ h => h) (hK () trivial))
          · -- 36
           rintro _ S hF hS D hp K hK
           try dsimp only at hF ⊢
           have s27 := hp 27 rfl
           refine d_need (small := [(0, (.slice btb times.length ctb)), (117, undef)]) ⟨look_b rfl rfl, look_row rfl 27 rfl s27, trivial⟩ ?_
           refine t_skipu rfl rfl rfl ?_
           exact d_closes ⟨look_b rfl rfl, look_row rfl 27 rfl s27, trivial⟩ 36 rfl rfl rfl hS (AgreeR.refl _) (t_sat (fun _ h => h) (hK () trivial))
          · -- 37
           rintro _ S hF hS D hp K hK
           try dsimp only at hF ⊢
           have s27 := hp 27 rfl
           refine d_need (small := [(13, (.slice bs8 ((dueL (selK times gone n) 9223372036854775807).length) cp9)), (117, undef)]) ⟨look_b rfl rfl, look_row rfl 27 rfl s27, trivial⟩ ?_
           refine t_skipu rfl rfl rfl ?_
           exact d_closes ⟨look_b rfl rfl, look_row rfl 27 rfl s27, trivial⟩ 37 rfl rfl rfl hS (AgreeR.refl _) (t_sat (fun _ h => h) (hK () trivial))
          · -- 38
           rintro _ S hF hS D hp K hK
           try dsimp only at hF ⊢
           have s27 := hp 27 rfl
           refine d_need (small := [(14, (.int .i64 ((i2 : Nat) : Int))), (117, undef)]) ⟨look_b rfl rfl, look_row rfl 27 rfl s27, trivial⟩ ?_
           refine t_skipu rfl rfl rfl ?_
           exact d_closes ⟨look_b rfl rfl, look_row rfl 27 rfl s27, trivial⟩ 38 rfl rfl rfl hS (AgreeR.refl _) (t_sat (fun _ h => h) (hK () trivial))
          · -- 39
           rintro _ S hF hS D hp K hK
           try dsimp only at hF ⊢
           have s27 := hp 27 rfl
           have s37 := hp 37 rfl
           have s38 := hp 38 rfl
           refine d_need (small := [(117, undef), (127, undef), (128, undef)]) ⟨look_row rfl 27 rfl s27, look_row rfl 37 rfl s37, look_row rfl 38 rfl s38, trivial⟩ ?_
           refine t_skipu rfl rfl rfl ?_
           exact d_closes ⟨look_row rfl 27 rfl s27, look_row rfl 37 rfl s37, look_row rfl 38 rfl s38, trivial⟩ 39 rfl rfl rfl hS (AgreeR.refl _) (t_sat (fun _ h => h) (hK () trivial))
          · -- 40
           rintro _ S hF hS D hp K hK
           try dsimp only at hF ⊢
           have s27 := hp 27 rfl
           have s39 := hp 39 rfl
           refine d_need (small := [(117, undef), (129, undef)]) ⟨look_row rfl 27 rfl s27, look_row rfl 39 rfl s39, trivial⟩ ?_
           refine t_skipu rfl rfl rfl ?_
           exact d_closes ⟨look_row rfl 27 rfl s27, look_row rfl 39 rfl s39, trivial⟩ 40 rfl rfl rfl hS (AgreeR.refl _) (t_sat (fun _ h => h) (hK () trivial))
          · -- 41
           rintro _ S hF hS D hp K hK
           try dsimp only at hF ⊢
           have s27 := hp 27 rfl
           have s36 := hp 36 rfl
           have s40 := hp 40 rfl
           refine d_need (small := [(117, undef), (126, undef), (130, undef)]) ⟨look_row rfl 27 rfl s27, look_row rfl 36 rfl s36, look_row rfl 40 rfl s40, trivial⟩ ?_
           refine t_skipu rfl rfl rfl ?_
           exact d_closes ⟨look_row rfl 27 rfl s27, look_row rfl 36 rfl s36, look_row rfl 40 rfl s40, trivial⟩ 41 rfl rfl rfl hS (AgreeR.refl _) (t_sat (fun _ h => h) (hK () trivial))
          · -- 42
           rintro _ S hF hS D hp K hK
           try dsimp only at hF ⊢
           have s27 := hp 27 rfl
           have s41 := hp 41 rfl
           refine d_need (small := [(117, undef), (131, undef)]) ⟨look_row rfl 27 rfl s27, look_row rfl 41 rfl s41, trivial⟩ ?_
           refine t_skipu rfl rfl rfl ?_
           exact d_closes ⟨look_row rfl 27 rfl s27, look_row rfl 41 rfl s41, trivial⟩ 42 rfl rfl rfl hS (AgreeR.refl _) (t_sat (fun _ h => h) (hK () trivial))
          · -- 43
           rintro _ S hF hS D hp K hK
           try dsimp only at hF ⊢
           have s27 := hp 27 rfl
           have s35 := hp 35 rfl
           have s42 := hp 42 rfl
           refine d_need (small := [(117, undef), (125, undef), (132, undef)]) ⟨look_row rfl 27 rfl s27, look_row rfl 35 rfl s35, look_row rfl 42 rfl s42, trivial⟩ ?_
           refine t_skipu rfl rfl rfl ?_
           exact d_closes ⟨look_row rfl 27 rfl s27, look_row rfl 35 rfl s35, look_row rfl 42 rfl s42, trivial⟩ 43 rfl rfl rfl hS (AgreeR.refl _) (t_sat (fun _ h => h) (hK () trivial))
          · -- 44
           rintro _ S hF hS D hp K hK
           try dsimp only at hF ⊢
           have s27 := hp 27 rfl
           have s43 := hp 43 rfl
           refine d_need (small := [(117, undef), (133, undef)]) ⟨look_row rfl 27 rfl s27, look_row rfl 43 rfl s43, trivial⟩ ?_
           refine t_skipu rfl rfl rfl ?_
           exact d_closes ⟨look_row rfl 27 rfl s27, look_row rfl 43 rfl s43, trivial⟩ 44 rfl rfl rfl hS (AgreeR.refl _) (t_sat (fun _ h => h) (hK () trivial))
          · -- 45
           rintro _ S hF hS D hp K hK
           try dsimp only at hF ⊢
           have s44 := hp 44 rfl
           refine d_need (small := [(13, (.slice bs8 ((dueL (selK times gone n) 9223372036854775807).length) cp9)), (134, undef)]) ⟨look_b rfl rfl, look_row rfl 44 rfl s44, trivial⟩ ?_
           refine t_skipu rfl rfl rfl ?_
           exact d_closes ⟨look_b rfl rfl, look_row rfl 44 rfl s44, trivial⟩ 45 rfl rfl rfl hS (AgreeR.refl _) (t_sat (fun _ h => h) (hK () trivial))
          · -- 46
           rintro _ S hF hS D hp K hK
           try dsimp only at hF ⊢
           have s44 := hp 44 rfl
           refine d_need (small := [(14, (.int .i64 ((i2 : Nat) : Int))), (134, undef)]) ⟨look_b rfl rfl, look_row rfl 44 rfl s44, trivial⟩ ?_
           refine t_skipu rfl rfl rfl ?_
           exact d_closes ⟨look_b rfl rfl, look_row rfl 44 rfl s44, trivial⟩ 46 rfl rfl rfl hS (AgreeR.refl _) (t_sat (fun _ h => h) (hK () trivial))
          · -- 47
           rintro _ S hF hS D hp K hK
           try dsimp only at hF ⊢
           have s44 := hp 44 rfl
           have s46 := hp 46 rfl
           refine d_need (small := [(134, undef), (136, undef)]) ⟨look_row rfl 44 rfl s44, look_row rfl 46 rfl s46, trivial⟩ ?_
           refine t_skipu rfl rfl rfl ?_
           exact d_closes ⟨look_row rfl 44 rfl s44, look_row rfl 46 rfl s46, trivial⟩ 47 rfl rfl rfl hS (AgreeR.refl _) (t_sat (fun _ h => h) (hK () trivial))
          · -- 48
           rintro _ S hF hS D hp K hK
           try dsimp only at hF ⊢
           have s44 := hp 44 rfl
           have s45 := hp 45 rfl
           have s47 := hp 47 rfl
           refine d_need (small := [(134, undef), (135, undef), (137, undef)]) ⟨look_row rfl 44 rfl s44, look_row rfl 45 rfl s45, look_row rfl 47 rfl s47, trivial⟩ ?_
           refine t_skipu rfl rfl rfl ?_
           exact d_closes ⟨look_row rfl 44 rfl s44, look_row rfl 45 rfl s45, look_row rfl 47 rfl s47, trivial⟩ 48 rfl rfl rfl hS (AgreeR.refl _) (t_sat (fun _ h => h) (hK () trivial))
          · -- 49
           rintro _ S hF hS D hp K hK
           try dsimp only at hF ⊢
           have s44 := hp 44 rfl
           have s48 := hp 48 rfl
           refine d_need (small := [(134, undef), (138, undef)]) ⟨look_row rfl 44 rfl s44, look_row rfl 48 rfl s48, trivial⟩ ?_
           refine t_skipu rfl rfl rfl ?_
           exact d_closes ⟨look_row rfl 44 rfl s44, look_row rfl 48 rfl s48, trivial⟩ 49 rfl rfl rfl hS (AgreeR.refl _) (t_sat (fun _ h => h) (hK () trivial))
          · -- 50
           rintro _ S hF hS D hp K hK
           try dsimp only at hF ⊢
           have s44 := hp 44 rfl
           refine d_need (small := [(13, (.slice bs8 ((dueL (selK times gone n) 9223372036854775807).length) cp9)), (134, undef)]) ⟨look_b rfl rfl, look_row rfl 44 rfl s44, trivial⟩ ?_
           refine t_skipu rfl rfl rfl ?_
           exact d_closes ⟨look_b rfl rfl, look_row rfl 44 rfl s44, trivial⟩ 50 rfl rfl rfl hS (AgreeR.refl _) (t_sat (fun _ h => h) (hK () trivial))
          · -- 51
           rintro _ S hF hS D hp K hK
           try dsimp only at hF ⊢
           have s44 := hp 44 rfl
           refine d_need (small := [(14, (.int .i64 ((i2 : Nat) : Int))), (134, undef)]) ⟨look_b rfl rfl, look_row rfl 44 rfl s44, trivial⟩ ?_
           refine t_skipu rfl rfl rfl ?_
           exact d_closes ⟨look_b rfl rfl, look_row rfl 44 rfl s44, trivial⟩ 51 rfl rfl rfl hS (AgreeR.refl _) (t_sat (fun _ h => h) (hK () trivial))
          · -- 52
           rintro _ S hF hS D hp K hK
           try dsimp only at hF ⊢
           have s44 := hp 44 rfl
           have s50 := hp 50 rfl
           have s51 := hp 51 rfl
           refine d_need (small := [(134, undef), (140, undef), (141, undef)]) ⟨look_row rfl 44 rfl s44, look_row rfl 50 rfl s50, look_row rfl 51 rfl s51, trivial⟩ ?_
           refine t_skipu rfl rfl rfl ?_
           exact d_closes ⟨look_row rfl 44 rfl s44, look_row rfl 50 rfl s50, look_row rfl 51 rfl s51, trivial⟩ 52 rfl rfl rfl hS (AgreeR.refl _) (t_sat (fun _ h => h) (hK () trivial))
          · -- 53
           rintro _ S hF hS D hp K hK
           try dsimp only at hF ⊢
           have s44 := hp 44 rfl
           have s52 := hp 52 rfl
           refine d_need (small := [(134, undef), (142, undef)]) ⟨look_row rfl 44 rfl s44, look_row rfl 52 rfl s52, trivial⟩ ?_
           refine t_skipu rfl rfl rfl ?_
           exact d_closes ⟨look_row rfl 44 rfl s44, look_row rfl 52 rfl s52, trivial⟩ 53 rfl rfl rfl hS (AgreeR.refl _) (t_sat (fun _ h => h) (hK () trivial))
          · -- 54
           rintro _ S hF hS D hp K hK
           try dsimp only at hF ⊢
           have s44 := hp 44 rfl
           have s49 := hp 49 rfl
           have s53 := hp 53 rfl
           refine d_need (small := [(134, undef), (139, undef), (143, undef)]) ⟨look_row rfl 44 rfl s44, look_row rfl 49 rfl s49, look_row rfl 53 rfl s53, trivial⟩ ?_
           refine t_skipu rfl rfl rfl ?_
           exact d_closes ⟨look_row rfl 44 rfl s44, look_row rfl 49 rfl s49, look_row rfl 53 rfl s53, trivial⟩ 54 rfl rfl rfl hS (AgreeR.refl _) (t_sat (fun _ h => h) (hK () trivial))
          · -- 55
           rintro _ S hF hS D hp K hK
           try dsimp only at hF ⊢
           have s27 := hp 27 rfl
           have s44 := hp 44 rfl
           have s54 := hp 54 rfl
           refine d_need (small := [(117, undef), (134, undef), (144, undef)]) ⟨look_row rfl 27 rfl s27, look_row rfl 44 rfl s44, look_row rfl 54 rfl s54, trivial⟩ ?_
           refine t_skipu rfl rfl rfl ?_
           exact d_closes ⟨look_row rfl 27 rfl s27, look_row rfl 44 rfl s44, look_row rfl 54 rfl s54, trivial⟩ 55 rfl rfl rfl hS (AgreeR.refl _) (t_sat (fun _ h => h) (hK () trivial))
          · -- 56
           rintro _ S hF hS D hp K hK
           try dsimp only at hF ⊢
           have s10 := hp 10 rfl
           have s27 := hp 27 rfl
           have s55 := hp 55 rfl
           refine d_need (small := [(100, (.bool false)), (117, undef), (145, undef)]) ⟨look_row rfl 10 rfl s10, look_row rfl 27 rfl s27, look_row rfl 55 rfl s55, trivial⟩ ?_
           refine t_skip rfl rfl rfl ?_
           exact d_closes ⟨look_row rfl 10 rfl s10, look_row rfl 27 rfl s27, look_row rfl 55 rfl s55, trivial⟩ 56 rfl rfl rfl hS (AgreeR.refl _) (t_sat (fun _ h => h) (hK () trivial))
          · -- 57
           rintro _ S hF hS D hp K hK
           try dsimp only at hF ⊢
           have s7 := hp 7 rfl
           have s10 := hp 10 rfl
           have s56 := hp 56 rfl
           refine d_need (small := [(97, (.bool false)), (100, (.bool false)), (146, undef)]) ⟨look_row rfl 7 rfl s7, look_row rfl 10 rfl s10, look_row rfl 56 rfl s56, trivial⟩ ?_
           refine t_guard rfl rfl ?_
           refine tp rfl (lv_pick_f rfl rfl) ?_
           exact d_closes ⟨look_row rfl 7 rfl s7, look_row rfl 10 rfl s10, look_row rfl 56 rfl s56, trivial⟩ 57 rfl rfl rfl hS (AgreeR.refl _) (t_sat (fun _ h => h) (hK () trivial))
          · -- 58
           rintro _ S hF hS D hp K hK
           try dsimp only at hF ⊢
           have s7 := hp 7 rfl
           have s57 := hp 57 rfl
           refine d_need (small := [(97, (.bool false)), (147, (.bool false))]) ⟨look_row rfl 7 rfl s7, look_row rfl 57 rfl s57, trivial⟩ ?_
           refine tp rfl (lv_pick_f rfl rfl) ?_
           exact d_closes ⟨look_row rfl 7 rfl s7, look_row rfl 57 rfl s57, trivial⟩ 58 rfl rfl rfl hS (AgreeR.refl _) (t_sat (fun _ h => h) (hK () trivial))
         · -- behind
          rintro _ hF
          try dsimp only at hF ⊢
          refine t_weak (E' := [(0, (.slice btb times.length ctb)), (1, (.slice bsb stop.length csb)), (5, (.bool true)), (6, (.int .i64 ((n : Nat) : Int))), (7, (.pointer (some ⟨p1, 0, none⟩))), (8, (.slice bs3 n cp4)), (9, (.int .i64 left)), (10, (.int .i64 ((i : Nat) : Int))), (13, (.slice bs8 ((dueL (selK times gone n) 9223372036854775807).length) cp9)), (14, (.int .i64 ((i2 : Nat) : Int))), (22, (.bool false)), (28, (.bool false)), (83, (.bool false)), (87, (.bool true)), (148, (.bool false))]) ⟨rfl, rfl, rfl, rfl, rfl, rfl, rfl, rfl, rfl, rfl, rfl, rfl, rfl, rfl, rfl, trivial⟩ ?_
          refine q_then_n (hK24 _ _ ?_)
          refine c_false rfl ?_
          refine c_skip ?_
          refine q_in_n ?_
          refine q_then_n (hK23 _ _ ?_)
          refine c_region ?_
          refine tp rfl (lv_move rfl) ?_
          refine tp rfl (lv_add (c := ((i2 + 1 : Nat) : Int)) rfl rfl (wr_i64_succ (by omega))) ?_
          refine tp rfl (lv_assign rfl) ?_
          refine t_done ?_
          refine q_then_n ?_
          exact t_weak (by exact ⟨rfl, rfl, rfl, rfl, rfl, rfl, rfl, rfl, rfl, rfl, rfl, rfl, rfl, trivial⟩) ((hK20 (i2 + 1) (by omega) (by omega)))
      · -- no
        refine tp rfl (lv_lss rfl rfl (decide_eq_false h12)) ?_
        refine t_done ?_
        refine q_then_n (hK22 _ _ ?_)
        refine c_false rfl ?_
        refine c_exit ?_
        refine q_then_x ?_
        refine q_then_x ?_
        refine q_in_x ?_
        refine q_then_n (hK18 _ _ ?_)
        refine c_seq (fun K23 hK23 => ?_)
        refine c_region ?_
        refine tp rfl (lv_move rfl) ?_
        refine tp rfl (lv_move rfl) ?_
        refine t_guard rfl rfl ?_
        refine tp rfl (lv_move rfl) ?_
        refine t_guard rfl rfl ?_
        refine tp rfl (lv_nilCheck rfl) ?_
        refine t_guard rfl rfl ?_
        refine tp rfl (lv_fieldAddr (o' := 0) Try.underlying37 rfl Try.sizeOf35 rfl rfl) ?_
        refine t_guard rfl rfl ?_
        refine tp rfl (lv_fieldAddr (o' := 0) Try.underlying35 rfl Try.sizeOf33 rfl rfl) ?_
        refine t_guard rfl rfl ?_
        refine tp rfl (lv_load Try.isAgg33 rfl (gives_blk (.tail _ (.head _)) rfl)) ?_
        refine t_guard rfl rfl ?_
        refine t_f2 ?_
        refine tc rfl (en_fn Try.call15 rfl) (hlen_ok (n := n) (ks := duR (selK times gone n) 9223372036854775807) ) ?_
        rintro _ _ ⟨rfl, rfl⟩
        refine t_guard rfl rfl ?_
        refine tp rfl (lv_eql rfl rfl (beq_iff_eq.2 (by rw [hda]; rfl))) ?_
        refine tp rfl (lv_pick_t rfl rfl) ?_
        refine tp rfl (lv_assign rfl) ?_
        refine t_done ?_
        refine q_then_n (hK23 _ _ ?_)
        refine c_ret ?_
        refine t_drop ?_
        refine t_drop ?_
        refine t_drop ?_
        refine t_drop ?_
        refine q_ret rfl rfl ?_
        exact ⟨rfl, rfl⟩
    refine c_seq (fun K15 hK15 => ?_)
    refine c_region ?_
    rw [show prtK times n i = selK times (List.replicate n false) n from by rw [show i = n by omega]; exact selK_all (by omega)]
    have hc0 : cntK (selK times (List.replicate n false) n) = n := by rw [← selK_all (by omega)]; exact prt_cnt (by omega)
    refine tp rfl (lv_assign rfl) ?_
    refine t_done ?_
    refine q_then_n (hK15 _ _ ?_)
    refine c_block ?_
    refine c_loop (γ := (Nat) × (List Bool) × (Int)) (fun (t, gone, left) => t ≤ 50 ∧ gone.length = n ∧ left = ((cntK (selK times gone n) : Nat) : Int)) (fun (t, gone, left) => [(0, (.slice btb times.length ctb)), (1, (.slice bsb stop.length csb)), (5, (.bool true)), (6, (.int .i64 ((n : Nat) : Int))), (7, (.pointer (some ⟨p1, 0, none⟩))), (8, (.slice bs3 n cp4)), (9, (.int .i64 left)), (10, (.int .i64 ((i : Nat) : Int))), (11, (.int .i64 ((t : Nat) : Int))), (22, (.bool false)), (28, (.bool false))]) (fun (t, gone, left) => (SlV 4 1 (.slice bs3 n cp4) n (bools gone)) :: (Blk p1 [(.pointer (some ⟨q2, 0, none⟩))] 37) :: (HeapO q2 n (selK times gone n)) :: R) (fun (t, gone, left) => 50 - t) (0, List.replicate n false, ((n : Nat) : Int)) ⟨by omega, List.length_replicate, by rw [hc0]⟩ ⟨rfl, rfl, rfl, rfl, rfl, rfl, rfl, rfl, rfl, rfl, rfl, trivial⟩ (fun _ h => h) ?_
    rintro ⟨t, gone, left⟩ K16 hF hK16
    try dsimp only at hF hK16 ⊢
    obtain ⟨ht, hgl, hlf⟩ := hF
    have hcl0 := cnt_le (selK times gone n)
    rw [selK_len] at hcl0
    refine c_seq (fun K17 hK17 => ?_)
    refine c_seq (fun K18 hK18 => ?_)
    refine c_region ?_
    refine tp rfl (lv_move rfl) ?_
    by_cases h15 : ((n : Nat) : Int) > 0
    · -- yes
      refine tp rfl (lv_gtr rfl rfl (decide_eq_true h15)) ?_
      refine tp rfl (lv_move rfl) ?_
      refine t_guard rfl rfl ?_
      refine tp rfl (lv_move rfl) ?_
      refine t_guard rfl rfl ?_
      refine tp rfl (lv_move rfl) ?_
      refine t_guard rfl rfl ?_
      refine tp rfl (lv_len Try.underlying22 rfl rfl) ?_
      refine t_guard rfl rfl ?_
      by_cases h16 : ((t : Nat) : Int) < ((stop.length : Nat) : Int)
      · -- yes
        refine tp rfl (lv_lss rfl rfl (decide_eq_true h16)) ?_
        refine tp rfl (lv_pick_t rfl rfl) ?_
        refine tp rfl (lv_move rfl) ?_
        refine t_guard rfl rfl ?_
        refine tp rfl (lv_move rfl) ?_
        refine t_guard rfl rfl ?_
        by_cases h17 : ((t : Nat) : Int) < 50
        · -- yes
         refine tp rfl (lv_lss rfl rfl (decide_eq_true h17)) ?_
         refine tp rfl (lv_pick_t rfl rfl) ?_
         refine t_done ?_
         refine q_then_n (hK18 _ _ ?_)
         refine c_true rfl ?_
         refine c_skip ?_
         refine q_then_n (hK17 _ _ ?_)
         refine c_seq (fun K19 hK19 => ?_)
         refine c_block ?_
         refine c_seq (fun K20 hK20 => ?_)
         refine c_region ?_
         have hwsb : 0 ≤ stop.getD t 0 ∧ stop.getD t 0 ≤ 255 := by have h9 := wfsb (stop.getD t 0) (by simp [List.getD, show t < stop.length by omega]); simpa [Lit.wf, IntKind.min, IntKind.max, IntKind.signed, IntKind.bits] using h9
         have hq0 := Int.emod_nonneg (stop.getD t 0) (show ((n : Nat) : Int) ≠ 0 by omega)
         have hq1 := Int.emod_lt_of_pos (stop.getD t 0) (show 0 < ((n : Nat) : Int) by omega)
         obtain ⟨r0, hr0⟩ : ∃ k : Nat, stop.getD t 0 % ((n : Nat) : Int) = (k : Int) := ⟨(stop.getD t 0 % ((n : Nat) : Int)).toNat, by omega⟩
         have hrn : r0 < n := by omega
         refine tp rfl (lv_move rfl) ?_
         refine tp rfl (lv_move rfl) ?_
         refine tp rfl (lv_indexAddr (k' := t) Try.underlying22 Try.sizeOf5 rfl rfl oksb (by omega) (by omega) (by omega)) ?_
         refine tp rfl (lv_load Try.isAgg5 rfl (Rd.gives (Rd.cons (Rd.cons (Rd.cons hsb))) (ints_get (by omega)))) ?_
         refine tp rfl (lv_convert (c := (stop).getD t 0) Try.underlying5 Try.underlying3 rfl (wr_i64 (by omega) (by omega))) ?_
         refine tp rfl (lv_move rfl) ?_
         refine tp rfl (lv_rem (c := ((r0 : Nat) : Int)) rfl rfl (by omega) ((Int.tmod_eq_emod_of_nonneg (by omega)).trans hr0)) ?_
         refine tp rfl (lv_assign rfl) ?_
         refine t_done ?_
         refine q_then_n (hK20 _ _ ?_)
         refine c_seq (fun K21 hK21 => ?_)
         refine c_seq (fun K22 hK22 => ?_)
         have hsr := selK_rem (keys := times) (gone := gone) (n := n) hgl (x := ((r0 : Nat) : Int)) (by omega)
         rw [Int.toNat_natCast] at hsr
         have hsb : stopB (selK times gone n) ((r0 : Nat) : Int) = !gone.getD r0 false := by unfold stopB; rw [hsr.2]; cases gone.getD r0 false <;> rfl
         have hcf : gone.getD r0 false = false → cntK (selK times (gone.set r0 true) n) + 1 = cntK (selK times gone n) := fun h9 => by have h8 := cnt_none (ks := selK times gone n) (i := r0) (k := times.getD r0 0) (by rw [selK_get hrn, h9]; rfl); rw [selK_set hgl hrn] at h8; exact h8
         have hct : gone.getD r0 false = true → selK times (gone.set r0 true) n = selK times gone n := fun h9 => by rw [set_same hgl hrn h9]
         refine c_draw (γ := Unit) (n := 8) Try.mixed rfl rfl (fun _ S => True) (fun _ => [(0, 60, (.pointer (some ⟨p1, 0, none⟩))), (1, 61, (.int .i64 ((r0 : Nat) : Int))), (2, 62, (.bool (!gone.getD r0 false))), (3, 63, (.slice bs3 n cp4)), (4, 64, (.int .i64 ((r0 : Nat) : Int))), (5, 65, (.pointer (some (ad bs3 r0)))), (6, 66, (.bool ((gone).getD r0 false))), (7, 67, (.bool false))]) (fun _ S => (SlV 4 1 (.slice bs3 n cp4) n (bools gone)) :: (Blk p1 [(.pointer (some ⟨q2, 0, none⟩))] 37) :: (bif S 2 then (HeapO q2 n (remK (selK times gone n) ((r0 : Nat) : Int))) else (HeapO q2 n (selK times gone n))) :: R) (()) trivial (fun _ h => h) (fun _ _ h => h) ?_ ?_
         · -- steps
          refine ⟨?_, ?_, ?_, ?_, ?_, ?_, ?_, ?_, trivial⟩
          · -- 0
           rintro _ S hF hS D hp K hK
           try dsimp only at hF ⊢
           refine d_need (small := [(7, (.pointer (some ⟨p1, 0, none⟩)))]) ⟨look_b rfl rfl, trivial⟩ ?_
           refine tp rfl (lv_move rfl) ?_
           exact d_closes ⟨look_b rfl rfl, trivial⟩ 0 rfl rfl rfl hS (AgreeR.refl _) (t_sat (fun _ h => h) (hK () trivial))
          · -- 1
           rintro _ S hF hS D hp K hK
           try dsimp only at hF ⊢
           refine d_need (small := [(12, (.int .i64 ((r0 : Nat) : Int)))]) ⟨look_b rfl rfl, trivial⟩ ?_
           refine tp rfl (lv_move rfl) ?_
           exact d_closes ⟨look_b rfl rfl, trivial⟩ 1 rfl rfl rfl hS (AgreeR.refl _) (t_sat (fun _ h => h) (hK () trivial))
          · -- 2
           rintro _ S hF hS D hp K hK
           try dsimp only at hF ⊢
           have s0 := hp 0 rfl
           have s1 := hp 1 rfl
           refine d_need (small := [(60, (.pointer (some ⟨p1, 0, none⟩))), (61, (.int .i64 ((r0 : Nat) : Int)))]) ⟨look_row rfl 0 rfl s0, look_row rfl 1 rfl s1, trivial⟩ ?_
           refine t_f2 ?_
           refine t_cF hS ?_
           refine t_f2 ?_
           refine tc rfl (en_fn Try.call13 rfl) (tstop_ok (n := n) (ks := selK times gone n) ((r0 : Nat) : Int)) ?_
           rintro _ _ ⟨rfl, rfl⟩
           rw [show stopB (selK times gone n) ((r0 : Nat) : Int) = (!gone.getD r0 false) from hsb]
           refine t_f1 ?_
           refine t_f1 ?_
           refine t_f2 ?_
           exact d_closes ⟨look_row rfl 0 rfl s0, look_row rfl 1 rfl s1, trivial⟩ 2 rfl rfl rfl hS (AgreeR.refl _) (t_sat (fun _ h => h) (hK () trivial))
          · -- 3
           rintro _ S hF hS D hp K hK
           try dsimp only at hF ⊢
           refine d_need (small := [(8, (.slice bs3 n cp4))]) ⟨look_b rfl rfl, trivial⟩ ?_
           refine tp rfl (lv_move rfl) ?_
           exact d_closes ⟨look_b rfl rfl, trivial⟩ 3 rfl rfl rfl hS (AgreeR.refl _) (t_sat (fun _ h => h) (hK () trivial))
          · -- 4
           rintro _ S hF hS D hp K hK
           try dsimp only at hF ⊢
           refine d_need (small := [(12, (.int .i64 ((r0 : Nat) : Int)))]) ⟨look_b rfl rfl, trivial⟩ ?_
           refine tp rfl (lv_move rfl) ?_
           exact d_closes ⟨look_b rfl rfl, trivial⟩ 4 rfl rfl rfl hS (AgreeR.refl _) (t_sat (fun _ h => h) (hK () trivial))
          · -- 5
           rintro _ S hF hS D hp K hK
           try dsimp only at hF ⊢
           have s3 := hp 3 rfl
           have s4 := hp 4 rfl
           refine d_need (small := [(63, (.slice bs3 n cp4)), (64, (.int .i64 ((r0 : Nat) : Int)))]) ⟨look_row rfl 3 rfl s3, look_row rfl 4 rfl s4, trivial⟩ ?_
           refine tp rfl (lv_indexAddr (k' := r0) Try.underlying23 Try.sizeOf4 rfl rfl hok5 (by omega) (by omega) (by omega)) ?_
           exact d_closes ⟨look_row rfl 3 rfl s3, look_row rfl 4 rfl s4, trivial⟩ 5 rfl rfl rfl hS (AgreeR.refl _) (t_sat (fun _ h => h) (hK () trivial))
          · -- 6
           rintro _ S hF hS D hp K hK
           try dsimp only at hF ⊢
           have s5 := hp 5 rfl
           refine d_need (small := [(65, (.pointer (some (ad bs3 r0))))]) ⟨look_row rfl 5 rfl s5, trivial⟩ ?_
           refine tp rfl (lv_load Try.isAgg4 rfl (gives_sl (.head _) (bools_get (by omega)))) ?_
           exact d_closes ⟨look_row rfl 5 rfl s5, trivial⟩ 6 rfl rfl rfl hS (AgreeR.refl _) (t_sat (fun _ h => h) (hK () trivial))
          · -- 7
           rintro _ S hF hS D hp K hK
           try dsimp only at hF ⊢
           have s2 := hp 2 rfl
           have s6 := hp 6 rfl
           refine d_need (small := [(62, (.bool (!gone.getD r0 false))), (66, (.bool ((gone).getD r0 false)))]) ⟨look_row rfl 2 rfl s2, look_row rfl 6 rfl s6, trivial⟩ ?_
           refine tp rfl (lv_eqb Try.underlying4 rfl rfl (by cases gone.getD r0 false <;> rfl)) ?_
           exact d_closes ⟨look_row rfl 2 rfl s2, look_row rfl 6 rfl s6, trivial⟩ 7 rfl rfl rfl hS (AgreeR.refl _) (t_sat (fun _ h => h) (hK () trivial))
         · -- behind
          rintro _ hF
          try dsimp only at hF ⊢
          refine t_weak (E' := [(0, (.slice btb times.length ctb)), (1, (.slice bsb stop.length csb)), (5, (.bool true)), (6, (.int .i64 ((n : Nat) : Int))), (7, (.pointer (some ⟨p1, 0, none⟩))), (8, (.slice bs3 n cp4)), (9, (.int .i64 left)), (10, (.int .i64 ((i : Nat) : Int))), (11, (.int .i64 ((t : Nat) : Int))), (12, (.int .i64 ((r0 : Nat) : Int))), (22, (.bool false)), (28, (.bool false)), (50, (.bool true)), (67, (.bool false))]) ⟨rfl, rfl, rfl, rfl, rfl, rfl, rfl, rfl, rfl, rfl, rfl, rfl, rfl, rfl, trivial⟩ ?_
          refine q_then_n (hK22 _ _ ?_)
          refine c_false rfl ?_
          refine c_skip ?_
          refine q_then_n (hK21 _ _ ?_)
          refine c_seq (fun K23 hK23 => ?_)
          refine c_seq (fun K24 hK24 => ?_)
          rw [show remK (selK times gone n) ((r0 : Nat) : Int) = selK times (gone.set r0 true) n from hsr.1]
          rcases hg : gone.getD r0 false with _ | _
          · -- false
           refine c_region ?_
           refine tp rfl (lv_move rfl) ?_
           refine tp rfl (lv_move rfl) ?_
           refine tp rfl (lv_indexAddr (k' := r0) Try.underlying23 Try.sizeOf4 rfl rfl hok5 (by omega) (by omega) (by omega)) ?_
           refine tp rfl (lv_load Try.isAgg4 rfl (gives_as (v := .bool false) (by first | rw [hg] | rw [Int.toNat_natCast, hg]) (gives_sl (.head _) (bools_get (by omega))))) ?_
           refine tp rfl (lv_not (c := true) rfl rfl) ?_
           refine t_done ?_
           refine q_then_n (hK24 _ _ ?_)
           refine c_true rfl ?_
           refine c_region ?_
           refine tp rfl (lv_move rfl) ?_
           refine tp rfl (lv_sub (c := left - 1) rfl rfl (wr_i64 (by omega) (by omega))) ?_
           refine tp rfl (lv_assign rfl) ?_
           refine t_done ?_
           refine q_then_n (hK23 _ _ ?_)
           refine c_region ?_
           refine tp rfl (lv_move rfl) ?_
           refine tp rfl (lv_move rfl) ?_
           refine tp rfl (lv_indexAddr (k' := r0) Try.underlying23 Try.sizeOf4 rfl rfl hok5 (by omega) (by omega) (by omega)) ?_
           refine ts (sv_sl Try.sizeOf4 rfl rfl rfl (by rw [bools_length]; omega) bools_set) ?_
           refine t_done ?_
           refine q_in_n ?_
           refine q_then_n (hK19 _ _ ?_)
           refine c_region ?_
           refine tp rfl (lv_move rfl) ?_
           refine tp rfl (lv_add (c := ((t + 1 : Nat) : Int)) rfl rfl (wr_i64_succ (by omega))) ?_
           refine tp rfl (lv_assign rfl) ?_
           refine t_done ?_
           refine q_then_n ?_
           exact t_weak (by exact ⟨rfl, rfl, rfl, rfl, rfl, rfl, rfl, rfl, rfl, rfl, rfl, trivial⟩) ((hK16 (t + 1, gone.set r0 true, left - 1) ⟨by omega, by dsimp only; rw [List.length_set]; exact hgl, by dsimp only; first | (have h9 := hcf hg; omega) | (rw [hct hg]; exact hlf)⟩ (by dsimp only; omega)))
          · -- true
           refine c_region ?_
           refine tp rfl (lv_move rfl) ?_
           refine tp rfl (lv_move rfl) ?_
           refine tp rfl (lv_indexAddr (k' := r0) Try.underlying23 Try.sizeOf4 rfl rfl hok5 (by omega) (by omega) (by omega)) ?_
           refine tp rfl (lv_load Try.isAgg4 rfl (gives_as (v := .bool true) (by first | rw [hg] | rw [Int.toNat_natCast, hg]) (gives_sl (.head _) (bools_get (by omega))))) ?_
           refine tp rfl (lv_not (c := false) rfl rfl) ?_
           refine t_done ?_
           refine q_then_n (hK24 _ _ ?_)
           refine c_false rfl ?_
           refine c_skip ?_
           refine q_then_n (hK23 _ _ ?_)
           refine c_region ?_
           refine tp rfl (lv_move rfl) ?_
           refine tp rfl (lv_move rfl) ?_
           refine tp rfl (lv_indexAddr (k' := r0) Try.underlying23 Try.sizeOf4 rfl rfl hok5 (by omega) (by omega) (by omega)) ?_
           refine ts (sv_sl Try.sizeOf4 rfl rfl rfl (by rw [bools_length]; omega) bools_set) ?_
           refine t_done ?_
           refine q_in_n ?_
           refine q_then_n (hK19 _ _ ?_)
           refine c_region ?_
           refine tp rfl (lv_move rfl) ?_
           refine tp rfl (lv_add (c := ((t + 1 : Nat) : Int)) rfl rfl (wr_i64_succ (by omega))) ?_
           refine tp rfl (lv_assign rfl) ?_
           refine t_done ?_
           refine q_then_n ?_
           exact t_weak (by exact ⟨rfl, rfl, rfl, rfl, rfl, rfl, rfl, rfl, rfl, rfl, rfl, trivial⟩) ((hK16 (t + 1, gone.set r0 true, left) ⟨by omega, by dsimp only; rw [List.length_set]; exact hgl, by dsimp only; first | (have h9 := hcf hg; omega) | (rw [hct hg]; exact hlf)⟩ (by dsimp only; omega)))
        · -- no
         refine tp rfl (lv_lss rfl rfl (decide_eq_false h17)) ?_
         refine tp rfl (lv_pick_t rfl rfl) ?_
         refine t_done ?_
         refine q_then_n (hK18 _ _ ?_)
         refine c_false rfl ?_
         refine c_exit ?_
         refine q_then_x ?_
         refine q_then_x ?_
         refine q_in_x ?_
         refine q_then_n ?_
         exact t_weak (by exact ⟨rfl, rfl, rfl, rfl, rfl, rfl, rfl, rfl, rfl, rfl, trivial⟩) (hM14 gone left ⟨hgl, hlf⟩)
      · -- no
        refine tp rfl (lv_lss rfl rfl (decide_eq_false h16)) ?_
        refine tp rfl (lv_pick_t rfl rfl) ?_
        refine tp rfl (lv_move rfl) ?_
        refine t_skip rfl rfl rfl ?_
        refine t_skip rfl rfl rfl ?_
        refine tp rfl (lv_pick_f rfl rfl) ?_
        refine t_done ?_
        refine q_then_n (hK18 _ _ ?_)
        refine c_false rfl ?_
        refine c_exit ?_
        refine q_then_x ?_
        refine q_then_x ?_
        refine q_in_x ?_
        refine q_then_n ?_
        exact t_weak (by exact ⟨rfl, rfl, rfl, rfl, rfl, rfl, rfl, rfl, rfl, rfl, trivial⟩) (hM14 gone left ⟨hgl, hlf⟩)
    · -- no
      refine tp rfl (lv_gtr rfl rfl (decide_eq_false h15)) ?_
      refine tp rfl (lv_move rfl) ?_
      refine t_skip rfl rfl rfl ?_
      refine t_skip rfl rfl rfl ?_
      refine t_skip rfl rfl rfl ?_
      refine t_skip rfl rfl rfl ?_
      refine tp rfl (lv_pick_f rfl rfl) ?_
      refine tp rfl (lv_move rfl) ?_
      refine t_skip rfl rfl rfl ?_
      refine t_skip rfl rfl rfl ?_
      refine tp rfl (lv_pick_f rfl rfl) ?_
      refine t_done ?_
      refine q_then_n (hK18 _ _ ?_)
      refine c_false rfl ?_
      refine c_exit ?_
      refine q_then_x ?_
      refine q_then_x ?_
      refine q_in_x ?_
      refine q_then_n ?_
      exact t_weak (by exact ⟨rfl, rfl, rfl, rfl, rfl, rfl, rfl, rfl, rfl, rfl, trivial⟩) (hM14 gone left ⟨hgl, hlf⟩)
end Go.Proofs.Ytombnfgkgcjihaa
