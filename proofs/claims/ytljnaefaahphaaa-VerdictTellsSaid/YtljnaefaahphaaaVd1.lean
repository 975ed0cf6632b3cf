/- Contracts of verdict: Of. -/
import Derived.Test.YtljnaefaahphaaaVb
import Derived.Test.YtljnaefaahphaaaVc
import Derived.Test.YtljnaefaahphaaaRa0
set_option maxRecDepth 100000
set_option linter.unusedVariables false
set_option linter.unusedSimpArgs false
namespace Go.Proofs.Ytljnaefaahphaaa
open Go Go.Proofs Sp
set_option maxHeartbeats 4000000 in
theorem of_ok {R : List HP} {N : Nat} {es : List (List Int)} {own : List Int} {be bo : Option Addr} {ce co : Nat} (hfo : FOk N es own) (hG : GridR R be es) (hbe : SlOk be N) (ho : Rd R bo (ints .i64 own)) (hbo : SlOk bo N) (hlx : ∀ l ∈ es, l.length ≤ 1000000) :
    Ok Try.prog 11 [(.agg #[(.int .i64 ((N : Nat) : Int)), (.slice be N ce), (.slice bo N co)])] R
      (fun v M => ∃ bs cp, SlOk bs N ∧ N ≤ cp ∧ v = .tuple #[.slice bs N cp, .int .i64 0] ∧ M = SlV 3 1 (.slice bs N cp) N (ints .i64 (verL es own)) :: R) := by
 have hsm := hfo.small
 have hel := hfo.le
 have hol := hfo.lo
 have hin := hfo.in_
 refine ok_of (N := 45) Try.func11 rfl rfl rfl (fun W => ?_)
 refine c_seq (fun K1 hK1 => ?_)
 refine c_region ?_
 refine tm rfl (mv_box rfl rfl) ?_
 rintro _ _ ⟨b1, rfl, rfl⟩
 refine tp rfl (lv_assign rfl) ?_
 refine tp rfl (lv_assign rfl) ?_
 refine t_done ?_
 refine q_then_n (hK1 _ _ ?_)
 refine c_seq (fun K2 hK2 => ?_)
 refine c_seq (fun K3 hK3 => ?_)
 refine c_region ?_
 refine tp rfl (lv_loadAgg (cs := [(.int .i64 ((N : Nat) : Int)), (.slice be N ce), (.slice bo N co)]) Try.isAgg25 Try.sizeOf25 rfl (gives_all3 (gives_blk (.head _) rfl) (gives_blk (.head _) rfl) (gives_blk (.head _) rfl))) ?_
 refine tc rfl (en_fn Try.call15 rfl) (right_ok_ (m1 := N) (m2 := N) hel hol ((N : Nat) : Int) (hG.cons) hbe (Rd.cons ho) hbo hlx ⟨by omega, by omega⟩) ?_
 rintro _ _ ⟨rfl, rfl⟩
 rw [show rightB ((N : Nat) : Int) es own = true from ok_right hfo]
 refine tp rfl (lv_not (c := false) rfl rfl) ?_
 refine t_done ?_
 refine q_then_n (hK3 _ _ ?_)
 refine c_false rfl ?_
 refine c_skip ?_
 refine q_then_n (hK2 _ _ ?_)
 refine c_seq (fun K4 hK4 => ?_)
 refine c_region ?_
 refine tp rfl (lv_loadAgg (cs := [(.int .i64 ((N : Nat) : Int)), (.slice be N ce), (.slice bo N co)]) Try.isAgg25 Try.sizeOf25 rfl (gives_all3 (gives_blk (.head _) rfl) (gives_blk (.head _) rfl) (gives_blk (.head _) rfl))) ?_
 refine tc rfl (en_fn Try.call16 rfl) (behind_ok hfo (hG.cons) hbe (Rd.cons ho) hbo hlx) ?_
 rintro _ _ ⟨bs2, cp3, hok4, hle5, rfl, rfl⟩
 refine tm rfl (mv_alloc Try.zeroValue43 rfl) ?_
 rintro _ _ ⟨b6, rfl, rfl⟩
 refine ts (sv_blk Try.sizeOf43 rfl rfl rfl (Nat.le_of_ble_eq_true rfl) rfl) ?_
 refine t_done ?_
 refine q_then_n (hK4 _ _ ?_)
 refine c_seq (fun K5 hK5 => ?_)
 refine c_region ?_
 refine tm rfl (mv_alloc Try.zeroValue45 rfl) ?_
 rintro _ _ ⟨b7, rfl, rfl⟩
 refine ts (sv_blk Try.sizeOf45 rfl rfl rfl (Nat.le_of_ble_eq_true rfl) rfl) ?_
 refine t_done ?_
 refine q_then_n (hK5 _ _ ?_)
 refine c_seq (fun K6 hK6 => ?_)
 refine c_seq (fun K7 hK7 => ?_)
 refine c_region ?_
 refine tp rfl (lv_load Try.isAgg43 rfl (gives_blk (.tail _ (.head _)) rfl)) ?_
 refine tp rfl (lv_len Try.underlying43 rfl rfl) ?_
 refine tp rfl (lv_move rfl) ?_
 refine t_done ?_
 refine q_then_n (hK7 _ _ ?_)
 refine c_block ?_
 refine c_loop (γ := (Nat)) (fun (k : Nat) => k ≤ N) (fun (k : Nat) => [(0, (.agg #[(.int .i64 ((N : Nat) : Int)), (.slice be N ce), (.slice bo N co)])), (1, (.pointer (some ⟨b1, 0, none⟩))), (2, (.slice none 0 0)), (3, (.int .i64 0)), (4, (.pointer (some ⟨b6, 0, none⟩))), (5, (.pointer (some ⟨b7, 0, none⟩))), (13, (.bool false)), (16, (.slice bs2 N cp3)), (17, (.int .i64 ((N : Nat) : Int))), (18, (.int .i64 ((k : Nat) : Int)))]) (fun (k : Nat) => (Blk b7 [(.int .u64 ((rndN (behN es N) k : Nat) : Int))] 45) :: (Blk b6 [(.slice bs2 N cp3)] 43) :: (SlV 45 1 (.slice bs2 N cp3) N (ints .u64 (nI (behN es N)))) :: (Blk b1 [(.int .i64 ((N : Nat) : Int)), (.slice be N ce), (.slice bo N co)] 25) :: R) (fun (k : Nat) => N - k) (0) (by omega) ⟨rfl, rfl, rfl, rfl, rfl, rfl, rfl, rfl, rfl, rfl, trivial⟩ (fun _ h => h) ?_
 rintro k K8 hF hK8
 try dsimp only at hF hK8 ⊢
 refine c_seq (fun K9 hK9 => ?_)
 refine c_region ?_
 by_cases h8 : ((k : Nat) : Int) < ((N : Nat) : Int)
 · -- yes
  refine tp rfl (lv_lss rfl rfl (decide_eq_true h8)) ?_
  refine t_done ?_
  refine q_then_n (hK9 _ _ ?_)
  refine c_seq (fun K10 hK10 => ?_)
  refine c_true rfl ?_
  refine c_skip ?_
  refine q_then_n (hK10 _ _ ?_)
  refine c_seq (fun K11 hK11 => ?_)
  refine c_block ?_
  refine c_seq (fun K12 hK12 => ?_)
  refine c_region ?_
  refine tp rfl (lv_move rfl) ?_
  refine tp rfl (lv_indexAddr (k' := k) Try.underlying43 Try.sizeOf45 rfl rfl hok4 (by omega) (by omega) (by omega)) ?_
  refine tp rfl (lv_load Try.isAgg45 rfl (gives_as (congrArg (Value.int .u64) (nI_get _ _)) (gives_sl (.tail _ (.tail _ (.head _))) (ints_get (by have := behN_len' hel N; omega))))) ?_
  refine tp rfl (lv_assign rfl) ?_
  refine tp rfl (lv_assign rfl) ?_
  refine t_done ?_
  refine q_then_n (hK12 _ _ ?_)
  refine c_draw (γ := Unit) (n := 7) Try.mixed rfl rfl (fun _ S => True) (fun _ => [(0, 23, (.int .u64 ((rndN (behN es N) k : Nat) : Int))), (1, 24, (.int .u64 (((behN es N).getD k 0 : Nat) : Int))), (2, 25, (.int .i64 ((k : Nat) : Int))), (3, 26, (.int .u64 ((2 ^ k : Nat) : Int))), (4, 27, (.int .u64 (((behN es N).getD k 0 &&& 2 ^ k : Nat) : Int))), (5, 28, (.int .u64 ((rndN (behN es N) k ||| ((behN es N).getD k 0 &&& 2 ^ k) : Nat) : Int)))]) (fun _ S => (bif S 6 then (Blk b7 [(.int .u64 ((rndN (behN es N) k ||| ((behN es N).getD k 0 &&& 2 ^ k) : Nat) : Int))] 45) else (Blk b7 [(.int .u64 ((rndN (behN es N) k : Nat) : Int))] 45)) :: (Blk b6 [(.slice bs2 N cp3)] 43) :: (SlV 45 1 (.slice bs2 N cp3) N (ints .u64 (nI (behN es N)))) :: (Blk b1 [(.int .i64 ((N : Nat) : Int)), (.slice be N ce), (.slice bo N co)] 25) :: R) (()) trivial (fun _ h => h) (fun _ _ h => h) ?_ ?_
  · -- steps
   refine ⟨?_, ?_, ?_, ?_, ?_, ?_, ?_, trivial⟩
   · -- 0
    rintro _ S hF hS D hp K hK
    try dsimp only at hF ⊢
    refine d_need (small := [(5, (.pointer (some ⟨b7, 0, none⟩)))]) ⟨look_b rfl rfl, trivial⟩ ?_
    refine tp rfl (lv_load Try.isAgg45 rfl (gives_blk (mem_cF (nf hS D (k := 6) (i := 0) rfl) (.head _)) rfl)) ?_
    exact d_closes ⟨look_b rfl rfl, trivial⟩ 0 rfl rfl rfl hS (AgreeR.refl _) (t_sat (fun _ h => h) (hK () trivial))
   · -- 1
    rintro _ S hF hS D hp K hK
    try dsimp only at hF ⊢
    refine d_need (small := [(7, (.int .u64 (((behN es N).getD k 0 : Nat) : Int)))]) ⟨look_b rfl rfl, trivial⟩ ?_
    refine tp rfl (lv_move rfl) ?_
    exact d_closes ⟨look_b rfl rfl, trivial⟩ 1 rfl rfl rfl hS (AgreeR.refl _) (t_sat (fun _ h => h) (hK () trivial))
   · -- 2
    rintro _ S hF hS D hp K hK
    try dsimp only at hF ⊢
    refine d_need (small := [(6, (.int .i64 ((k : Nat) : Int)))]) ⟨look_b rfl rfl, trivial⟩ ?_
    refine tp rfl (lv_move rfl) ?_
    exact d_closes ⟨look_b rfl rfl, trivial⟩ 2 rfl rfl rfl hS (AgreeR.refl _) (t_sat (fun _ h => h) (hK () trivial))
   · -- 3
    rintro _ S hF hS D hp K hK
    try dsimp only at hF ⊢
    have s2 := hp 2 rfl
    refine d_need (small := [(25, (.int .i64 ((k : Nat) : Int)))]) ⟨look_row rfl 2 rfl s2, trivial⟩ ?_
    refine tp rfl (lv_shl (c := ((2 ^ k : Nat) : Int)) rfl rfl (by omega) (bShl_one k (by omega))) ?_
    exact d_closes ⟨look_row rfl 2 rfl s2, trivial⟩ 3 rfl rfl rfl hS (AgreeR.refl _) (t_sat (fun _ h => h) (hK () trivial))
   · -- 4
    rintro _ S hF hS D hp K hK
    try dsimp only at hF ⊢
    have s1 := hp 1 rfl
    have s3 := hp 3 rfl
    refine d_need (small := [(24, (.int .u64 (((behN es N).getD k 0 : Nat) : Int))), (26, (.int .u64 ((2 ^ k : Nat) : Int)))]) ⟨look_row rfl 1 rfl s1, look_row rfl 3 rfl s3, trivial⟩ ?_
    refine tp rfl (lv_and (c := (((behN es N).getD k 0 &&& 2 ^ k : Nat) : Int)) rfl rfl (bAnd_nat _ _ (behN_lt hsm hin N k) (Nat.pow_lt_pow_right (by omega) (by omega)))) ?_
    exact d_closes ⟨look_row rfl 1 rfl s1, look_row rfl 3 rfl s3, trivial⟩ 4 rfl rfl rfl hS (AgreeR.refl _) (t_sat (fun _ h => h) (hK () trivial))
   · -- 5
    rintro _ S hF hS D hp K hK
    try dsimp only at hF ⊢
    have s0 := hp 0 rfl
    have s4 := hp 4 rfl
    refine d_need (small := [(23, (.int .u64 ((rndN (behN es N) k : Nat) : Int))), (27, (.int .u64 (((behN es N).getD k 0 &&& 2 ^ k : Nat) : Int)))]) ⟨look_row rfl 0 rfl s0, look_row rfl 4 rfl s4, trivial⟩ ?_
    refine tp rfl (lv_or (c := ((rndN (behN es N) k ||| ((behN es N).getD k 0 &&& 2 ^ k) : Nat) : Int)) rfl rfl (bOr_nat _ _ (rndN_lt (behN_lt hsm hin N) k) (Nat.lt_of_le_of_lt Nat.and_le_left (behN_lt hsm hin N k)))) ?_
    exact d_closes ⟨look_row rfl 0 rfl s0, look_row rfl 4 rfl s4, trivial⟩ 5 rfl rfl rfl hS (AgreeR.refl _) (t_sat (fun _ h => h) (hK () trivial))
   · -- 6
    rintro _ S hF hS D hp K hK
    try dsimp only at hF ⊢
    have s5 := hp 5 rfl
    refine d_need (small := [(5, (.pointer (some ⟨b7, 0, none⟩))), (28, (.int .u64 ((rndN (behN es N) k ||| ((behN es N).getD k 0 &&& 2 ^ k) : Nat) : Int)))]) ⟨look_b rfl rfl, look_row rfl 5 rfl s5, trivial⟩ ?_
    refine t_cF hS ?_
    refine ts (sv_blk Try.sizeOf45 rfl rfl rfl (Nat.le_of_ble_eq_true rfl) rfl) ?_
    exact d_closes0 ⟨look_b rfl rfl, look_row rfl 5 rfl s5, trivial⟩ rfl (t_sat (fun _ h => h) (hK () trivial))
  · -- behind
   rintro _ hF
   try dsimp only at hF ⊢
   refine t_weak (E' := [(0, (.agg #[(.int .i64 ((N : Nat) : Int)), (.slice be N ce), (.slice bo N co)])), (1, (.pointer (some ⟨b1, 0, none⟩))), (2, (.slice none 0 0)), (3, (.int .i64 0)), (4, (.pointer (some ⟨b6, 0, none⟩))), (5, (.pointer (some ⟨b7, 0, none⟩))), (6, (.int .i64 ((k : Nat) : Int))), (7, (.int .u64 (((behN es N).getD k 0 : Nat) : Int))), (13, (.bool false)), (16, (.slice bs2 N cp3)), (17, (.int .i64 ((N : Nat) : Int))), (18, (.int .i64 ((k : Nat) : Int))), (19, (.bool true))]) ⟨rfl, rfl, rfl, rfl, rfl, rfl, rfl, rfl, rfl, rfl, rfl, rfl, rfl, trivial⟩ ?_
   refine q_in_n ?_
   refine q_then_n (hK11 _ _ ?_)
   refine c_region ?_
   refine tp rfl (lv_add (c := ((k + 1 : Nat) : Int)) rfl rfl (wr_i64_succ (by omega))) ?_
   refine tp rfl (lv_move rfl) ?_
   refine t_done ?_
   refine q_then_n ?_
   rw [show rndN (behN es N) k ||| ((behN es N).getD k 0 &&& 2 ^ k) = rndN (behN es N) (k + 1) from rfl]
   exact t_weak (by exact ⟨rfl, rfl, rfl, rfl, rfl, rfl, rfl, rfl, rfl, rfl, trivial⟩) ((hK8 (k + 1) (by omega) (by omega)))
 · -- no
  refine tp rfl (lv_lss rfl rfl (decide_eq_false h8)) ?_
  refine t_done ?_
  refine q_then_n (hK9 _ _ ?_)
  refine c_seq (fun K10 hK10 => ?_)
  refine c_false rfl ?_
  refine c_exit ?_
  refine q_then_x ?_
  refine q_then_x ?_
  refine q_in_x ?_
  refine q_then_n (hK6 _ _ ?_)
  refine c_seq (fun K11 hK11 => ?_)
  refine c_region ?_
  refine tm rfl (mv_buildSlice (cs := [(.int .i64 (-1))]) Try.underlying23 Try.sizeOf3 Try.zeroValue3 (by decide) rfl rfl rfl rfl) ?_
  rintro _ _ ⟨bs9, cp10, hok11, hle12, rfl, rfl⟩
  refine tp rfl (lv_fieldAddr (o' := 0) Try.underlying25 rfl Try.sizeOf3 rfl rfl) ?_
  refine tp rfl (lv_load Try.isAgg3 rfl (gives_blk (.tail _ (.tail _ (.tail _ (.tail _ (.head _))))) rfl)) ?_
  refine tc rfl (en_fn Try.call17 rfl) (repeat_ok (-1) N (by omega) (rd_sl (.head _)) (fun _ => (fun hz => hok11 (by first | exact hz | omega)) (by omega))) ?_
  rintro _ _ ⟨bs13, cp14, hok15, hle16, rfl, rfl⟩
  refine tm rfl (mv_alloc Try.zeroValue23 rfl) ?_
  rintro _ _ ⟨b17, rfl, rfl⟩
  refine ts (sv_blk Try.sizeOf23 rfl rfl rfl (Nat.le_of_ble_eq_true rfl) rfl) ?_
  refine t_done ?_
  refine q_then_n (hK11 _ _ ?_)
  refine c_seq (fun K12 hK12 => ?_)
  refine c_region ?_
  refine tm rfl (mv_alloc Try.zeroValue47 rfl) ?_
  rintro _ _ ⟨b18, rfl, rfl⟩
  refine t_done ?_
  refine q_then_n (hK12 _ _ ?_)
  refine c_seq (fun K13 hK13 => ?_)
  refine c_region ?_
  refine tp rfl (lv_makeFunc rfl) ?_
  refine ts (sv_blk Try.sizeOf47 rfl rfl rfl (Nat.le_of_ble_eq_true rfl) rfl) ?_
  refine t_done ?_
  refine q_then_n (hK13 _ _ ?_)
  refine c_seq (fun K14 hK14 => ?_)
  refine c_seq (fun K15 hK15 => ?_)
  refine c_region ?_
  refine tp rfl (lv_fieldAddr (o' := 0) Try.underlying25 rfl Try.sizeOf3 rfl rfl) ?_
  refine tp rfl (lv_load Try.isAgg3 rfl (gives_blk (.tail _ (.tail _ (.tail _ (.tail _ (.tail _ (.tail _ (.tail _ (.head _)))))))) rfl)) ?_
  refine tp rfl (lv_move rfl) ?_
  refine t_done ?_
  refine q_then_n (hK15 _ _ ?_)
  refine c_block ?_
  have hrk : ((rndN (behN es N) k : Nat) : Int) = ((rndN (behN es N) N : Nat) : Int) := by rw [show k = N by omega]
  rw [hrk]
  refine t_f3 ?_
  refine t_drop ?_
  refine c_loop (γ := (Nat) × (List Int)) (fun (m, o) => m ≤ N ∧ ToldV es own m o) (fun (m, o) => [(0, (.agg #[(.int .i64 ((N : Nat) : Int)), (.slice be N ce), (.slice bo N co)])), (1, (.pointer (some ⟨b1, 0, none⟩))), (2, (.slice none 0 0)), (3, (.int .i64 0)), (4, (.pointer (some ⟨b6, 0, none⟩))), (5, (.pointer (some ⟨b7, 0, none⟩))), (8, (.pointer (some ⟨b17, 0, none⟩))), (9, (.pointer (some ⟨b18, 0, none⟩))), (13, (.bool false)), (16, (.slice bs2 N cp3)), (17, (.int .i64 ((N : Nat) : Int))), (18, (.int .i64 ((k : Nat) : Int))), (19, (.bool false)), (36, (.int .i64 ((N : Nat) : Int))), (37, (.int .i64 ((m : Nat) : Int)))]) (fun (m, o) => (Blk b18 [(.func (.func 18) #[] #[(.pointer (some ⟨b17, 0, none⟩)), (.pointer (some ⟨b1, 0, none⟩)), (.pointer (some ⟨b6, 0, none⟩)), (.pointer (some ⟨b7, 0, none⟩)), (.pointer (some ⟨b18, 0, none⟩))])] 47) :: (Blk b17 [(.slice bs13 N cp14)] 23) :: (SlV 3 1 (.slice bs13 N cp14) N (ints .i64 o)) :: (Blk b7 [(.int .u64 ((rndN (behN es N) N : Nat) : Int))] 45) :: (Blk b6 [(.slice bs2 N cp3)] 43) :: (SlV 45 1 (.slice bs2 N cp3) N (ints .u64 (nI (behN es N)))) :: (Blk b1 [(.int .i64 ((N : Nat) : Int)), (.slice be N ce), (.slice bo N co)] 25) :: R) (fun (m, o) => N - m) (0, List.replicate N (-1)) ⟨by omega, by have := ToldV.start es own; rw [hel] at this; exact this⟩ ⟨rfl, rfl, rfl, rfl, rfl, rfl, rfl, rfl, rfl, rfl, rfl, rfl, rfl, rfl, rfl, trivial⟩ (fun _ h => h) ?_
  rintro ⟨m, o⟩ K16 hF hK16
  try dsimp only at hF hK16 ⊢
  obtain ⟨hm, htold⟩ := hF
  refine c_seq (fun K17 hK17 => ?_)
  refine c_region ?_
  by_cases h19 : ((m : Nat) : Int) < ((N : Nat) : Int)
  · -- yes
   refine tp rfl (lv_lss rfl rfl (decide_eq_true h19)) ?_
   refine t_done ?_
   refine q_then_n (hK17 _ _ ?_)
   refine c_seq (fun K18 hK18 => ?_)
   refine c_true rfl ?_
   refine c_skip ?_
   refine q_then_n (hK18 _ _ ?_)
   refine c_seq (fun K19 hK19 => ?_)
   refine c_block ?_
   refine c_seq (fun K20 hK20 => ?_)
   refine c_region ?_
   refine tp rfl (lv_move rfl) ?_
   refine tp rfl (lv_assign rfl) ?_
   refine t_done ?_
   refine q_then_n (hK20 _ _ ?_)
   refine c_region ?_
   refine tp rfl (lv_load Try.isAgg47 rfl (gives_blk (.head _) rfl)) ?_
   refine tp rfl (lv_move rfl) ?_
   refine t_f2 ?_
   refine tc rfl (en_clo Try.call18 rfl rfl) (of1_ok hfo ((((((hG.cons).cons).cons).cons).cons).cons) hbe (Rd.cons (Rd.cons (Rd.cons (Rd.cons (Rd.cons (Rd.cons ho)))))) hbo hlx hok4 (rd_sl (.tail _ (.tail _ (.tail _ (.tail _ (.head _)))))) hok15 (gives_blk (.tail _ (.head _)) rfl) (gives_blk (.tail _ (.tail _ (.tail _ (.tail _ (.tail _ (.head _)))))) rfl) (gives_blk (.tail _ (.tail _ (.tail _ (.tail _ (.tail _ (.head _)))))) rfl) (gives_blk (.tail _ (.tail _ (.tail _ (.head _)))) rfl) (gives_blk (.tail _ (.tail _ (.head _))) rfl) (gives_blk (.head _) rfl) (rk es m + 1) ((m : Nat) : Int) o ⟨by omega, by omega⟩ (Nat.lt_succ_self _) (htold.len.trans hel) (htold.fit_ hel hin (by omega))) ?_
   rintro _ _ ⟨o3, hl3, hv3, hg3, rfl, rfl⟩
   refine t_done ?_
   refine q_in_n ?_
   refine q_then_n (hK19 _ _ ?_)
   refine c_region ?_
   refine tp rfl (lv_add (c := ((m + 1 : Nat) : Int)) rfl rfl (wr_i64_succ (by omega))) ?_
   refine tp rfl (lv_move rfl) ?_
   refine t_done ?_
   refine q_then_n ?_
   refine t_f2 ?_
   refine t_f2 ?_
   exact t_weak (by exact ⟨rfl, rfl, rfl, rfl, rfl, rfl, rfl, rfl, rfl, rfl, rfl, rfl, rfl, rfl, rfl, trivial⟩) ((hK16 (m + 1, o3) ⟨by omega, htold.next hfo (by omega) hl3 hv3 hg3⟩ (by dsimp only; omega)))
  · -- no
   refine tp rfl (lv_lss rfl rfl (decide_eq_false h19)) ?_
   refine t_done ?_
   refine q_then_n (hK17 _ _ ?_)
   refine c_seq (fun K18 hK18 => ?_)
   refine c_false rfl ?_
   refine c_exit ?_
   refine q_then_x ?_
   refine q_then_x ?_
   refine q_in_x ?_
   refine q_then_n (hK14 _ _ ?_)
   refine c_seq (fun K19 hK19 => ?_)
   refine c_region ?_
   refine tp rfl (lv_load Try.isAgg23 rfl (gives_blk (.tail _ (.head _)) rfl)) ?_
   refine tp rfl (lv_assign rfl) ?_
   refine tp rfl (lv_assign rfl) ?_
   refine t_done ?_
   refine q_then_n (hK19 _ _ ?_)
   refine c_ret ?_
   refine t_drop ?_
   refine t_drop ?_
   refine t_f1 ?_
   refine t_drop ?_
   refine t_f1 ?_
   refine t_drop ?_
   refine t_f1 ?_
   refine t_drop ?_
   refine t_f1 ?_
   refine t_drop ?_
   refine q_ret2 rfl rfl rfl ?_
   rw [htold.end_ (by omega)]
   exact ⟨_, _, hok15, hle16, rfl, rfl⟩

theorem of_bad {R : List HP} {es : List (List Int)} {own : List Int} {be bo : Option Addr} {ce co m1 m2 : Nat} (hm1 : es.length = m1) (hm2 : own.length = m2) (n : Int) (hrt : rightB n es own = false) (hG : GridR R be es) (hbe : SlOk be m1) (ho : Rd R bo (ints .i64 own)) (hbo : SlOk bo m2) (hlx : ∀ l ∈ es, l.length ≤ 1000000) (hbig : m1 ≤ 1000000000 ∧ m2 ≤ 1000000000) :
    Ok Try.prog 11 [(.agg #[(.int .i64 n), (.slice be m1 ce), (.slice bo m2 co)])] R
      (fun v M => v = .tuple #[.slice none 0 0, .int .i64 1] ∧ M = R) := by
 refine ok_of (N := 45) Try.func11 rfl rfl rfl (fun W => ?_)
 refine c_seq (fun K1 hK1 => ?_)
 refine c_region ?_
 refine tm rfl (mv_box rfl rfl) ?_
 rintro _ _ ⟨b1, rfl, rfl⟩
 refine tp rfl (lv_assign rfl) ?_
 refine tp rfl (lv_assign rfl) ?_
 refine t_done ?_
 refine q_then_n (hK1 _ _ ?_)
 refine c_seq (fun K2 hK2 => ?_)
 refine c_seq (fun K3 hK3 => ?_)
 refine c_region ?_
 refine tp rfl (lv_loadAgg (cs := [(.int .i64 n), (.slice be m1 ce), (.slice bo m2 co)]) Try.isAgg25 Try.sizeOf25 rfl (gives_all3 (gives_blk (.head _) rfl) (gives_blk (.head _) rfl) (gives_blk (.head _) rfl))) ?_
 refine tc rfl (en_fn Try.call15 rfl) (right_ok_ (m1 := m1) (m2 := m2) hm1 hm2 n (hG.cons) hbe (Rd.cons ho) hbo hlx ⟨by omega, by omega⟩) ?_
 rintro _ _ ⟨rfl, rfl⟩
 rw [show rightB n es own = false from hrt]
 refine tp rfl (lv_not (c := true) rfl rfl) ?_
 refine t_done ?_
 refine q_then_n (hK3 _ _ ?_)
 refine c_true rfl ?_
 refine c_seq (fun K4 hK4 => ?_)
 refine c_region ?_
 refine tp rfl (lv_assign rfl) ?_
 refine tp rfl (lv_assign rfl) ?_
 refine t_done ?_
 refine q_then_n (hK4 _ _ ?_)
 refine c_ret ?_
 refine q_then_r ?_
 refine t_drop ?_
 refine q_ret2 rfl rfl rfl ?_
 exact ⟨rfl, rfl⟩
end Go.Proofs.Ytljnaefaahphaaa
