/- Contracts of verdict: behind. -/
import Derived.Test.YtljnaefaahphaaaVa
set_option maxRecDepth 100000
set_option linter.unusedVariables false
set_option linter.unusedSimpArgs false
namespace Go.Proofs.Ytljnaefaahphaaa
open Go Go.Proofs Sp
set_option maxHeartbeats 4000000 in
theorem behind_ok {R : List HP} {N : Nat} {es : List (List Int)} {own : List Int} {be bo : Option Addr} {ce co : Nat} (hfo : FOk N es own) (hG : GridR R be es) (hbe : SlOk be N) (ho : Rd R bo (ints .i64 own)) (hbo : SlOk bo N) (hlx : ∀ l ∈ es, l.length ≤ 1000000) :
    Ok Try.prog 16 [(.agg #[(.int .i64 ((N : Nat) : Int)), (.slice be N ce), (.slice bo N co)])] R
      (OutSl 45 1 N (ints .u64 (nI (behN es N))) R) := by
 have hsm := hfo.small
 have hel := hfo.le
 have hol := hfo.lo
 have hin := hfo.in_
 obtain ⟨vs, hvl, hvs, hrow⟩ := hG
 refine ok_of (N := 68) Try.func16 rfl rfl rfl (fun W => ?_)
 refine c_seq (fun K1 hK1 => ?_)
 refine c_region ?_
 refine tm rfl (mv_box rfl rfl) ?_
 rintro _ _ ⟨b1, rfl, rfl⟩
 refine tp rfl (lv_assign rfl) ?_
 refine t_done ?_
 refine q_then_n (hK1 _ _ ?_)
 refine c_seq (fun K2 hK2 => ?_)
 refine c_region ?_
 refine tp rfl (lv_fieldAddr (o' := 0) Try.underlying25 rfl Try.sizeOf3 rfl rfl) ?_
 refine tp rfl (lv_load Try.isAgg3 rfl (gives_blk (.head _) rfl)) ?_
 refine tm rfl (mv_makeSlice (i := Try.t45) Try.underlying43 Try.type45 rfl rfl rfl rfl rfl (by omega) (by rw [show Try.t45.bytes = 8 from rfl]; omega) (by omega)) ?_
 rintro _ _ ⟨bs2, cp3, hok4, hle5, rfl, rfl⟩
 rw [ints_rep]
 refine tp rfl (lv_assign rfl) ?_
 refine t_done ?_
 refine q_then_n (hK2 _ _ ?_)
 refine c_seq (fun K3 hK3 => ?_)
 refine c_seq (fun K4 hK4 => ?_)
 refine c_region ?_
 refine tp rfl (lv_fieldAddr (o' := 1) Try.underlying25 rfl Try.sizeOf22 rfl rfl) ?_
 refine tp rfl (lv_load Try.isAgg22 rfl (gives_blk (.tail _ (.head _)) rfl)) ?_
 refine tp rfl (lv_len Try.underlying22 rfl rfl) ?_
 refine tp rfl (lv_move rfl) ?_
 refine t_done ?_
 refine q_then_n (hK4 _ _ ?_)
 refine c_block ?_
 rw [show ((N : Nat) : Int).toNat = N from rfl]
 rw [show List.replicate N 0 = nI (m0 N es 0 0) from by rw [m0_start, nI_rep]]
 refine c_loop (γ := (Nat)) (fun (k : Nat) => k ≤ N) (fun (k : Nat) => [(0, (.agg #[(.int .i64 ((N : Nat) : Int)), (.slice be N ce), (.slice bo N co)])), (1, (.pointer (some ⟨b1, 0, none⟩))), (2, (.slice none 0 0)), (3, (.slice bs2 N cp3)), (14, (.slice be N ce)), (15, (.int .i64 ((N : Nat) : Int))), (16, (.int .i64 ((k : Nat) : Int)))]) (fun (k : Nat) => (SlV 45 1 (.slice bs2 N cp3) N (ints .u64 (nI (m0 N es k 0)))) :: (Blk b1 [(.int .i64 ((N : Nat) : Int)), (.slice be N ce), (.slice bo N co)] 25) :: R) (fun (k : Nat) => N - k) (0) (by omega) ⟨rfl, rfl, rfl, rfl, rfl, rfl, rfl, trivial⟩ (fun _ h => h) ?_
 rintro k K5 hF hK5
 try dsimp only at hF hK5 ⊢
 have hml := fun (i j : Nat) => (nI_len (m0 N es i j)).trans (m0_len N es i j)
 refine c_seq (fun K6 hK6 => ?_)
 refine c_region ?_
 by_cases h6 : ((k : Nat) : Int) < ((N : Nat) : Int)
 · -- yes
  refine tp rfl (lv_lss rfl rfl (decide_eq_true h6)) ?_
  refine t_done ?_
  refine q_then_n (hK6 _ _ ?_)
  refine c_seq (fun K7 hK7 => ?_)
  refine c_true rfl ?_
  refine c_skip ?_
  refine q_then_n (hK7 _ _ ?_)
  refine c_seq (fun K8 hK8 => ?_)
  refine c_block ?_
  refine c_seq (fun K9 hK9 => ?_)
  refine c_region ?_
  refine tp rfl (lv_move rfl) ?_
  refine tp rfl (lv_indexAddr (k' := k) Try.underlying22 Try.sizeOf23 rfl rfl hbe (by omega) (by omega) (by omega)) ?_
  obtain ⟨bk, ck, hokk, hlek, hvk, hrk⟩ := hrow k (by omega)
  have hlk := hlx _ (row_at_mem (show k < es.length by omega))
  refine tp rfl (lv_load Try.isAgg23 rfl (gives_as hvk (Rd.gives (Rd.cons (Rd.cons hvs)) (vals_get (by omega))))) ?_
  refine tp rfl (lv_assign rfl) ?_
  refine tp rfl (lv_assign rfl) ?_
  refine t_done ?_
  refine q_then_n (hK9 _ _ ?_)
  refine c_seq (fun K10 hK10 => ?_)
  refine c_region ?_
  refine tp rfl (lv_move rfl) ?_
  refine tp rfl (lv_len Try.underlying23 rfl rfl) ?_
  refine tp rfl (lv_move rfl) ?_
  refine t_done ?_
  refine q_then_n (hK10 _ _ ?_)
  refine c_block ?_
  refine c_loop (γ := (Nat)) (fun (j : Nat) => j ≤ (es.getD k []).length) (fun (j : Nat) => [(0, (.agg #[(.int .i64 ((N : Nat) : Int)), (.slice be N ce), (.slice bo N co)])), (1, (.pointer (some ⟨b1, 0, none⟩))), (2, (.slice none 0 0)), (3, (.slice bs2 N cp3)), (4, (.int .i64 ((k : Nat) : Int))), (5, (.slice bk ((es.getD k []).length) ck)), (14, (.slice be N ce)), (15, (.int .i64 ((N : Nat) : Int))), (16, (.int .i64 ((k : Nat) : Int))), (17, (.bool true)), (21, (.slice bk ((es.getD k []).length) ck)), (22, (.int .i64 (((es.getD k []).length : Nat) : Int))), (23, (.int .i64 ((j : Nat) : Int)))]) (fun (j : Nat) => (SlV 45 1 (.slice bs2 N cp3) N (ints .u64 (nI (m0 N es k j)))) :: (Blk b1 [(.int .i64 ((N : Nat) : Int)), (.slice be N ce), (.slice bo N co)] 25) :: R) (fun (j : Nat) => (es.getD k []).length - j) (0) (by omega) ⟨rfl, rfl, rfl, rfl, rfl, rfl, rfl, rfl, rfl, rfl, rfl, rfl, rfl, trivial⟩ (fun _ h => h) ?_
  rintro j K11 hF hK11
  try dsimp only at hF hK11 ⊢
  refine c_seq (fun K12 hK12 => ?_)
  refine c_region ?_
  by_cases h7 : ((j : Nat) : Int) < (((es.getD k []).length : Nat) : Int)
  · -- yes
   refine tp rfl (lv_lss rfl rfl (decide_eq_true h7)) ?_
   refine t_done ?_
   refine q_then_n (hK12 _ _ ?_)
   refine c_seq (fun K13 hK13 => ?_)
   refine c_true rfl ?_
   refine c_skip ?_
   refine q_then_n (hK13 _ _ ?_)
   refine c_seq (fun K14 hK14 => ?_)
   refine c_block ?_
   refine c_seq (fun K15 hK15 => ?_)
   refine c_region ?_
   refine tp rfl (lv_indexAddr (k' := j) Try.underlying23 Try.sizeOf3 rfl rfl hokk (by omega) (by omega) (by omega)) ?_
   refine tp rfl (lv_load Try.isAgg3 rfl (Rd.gives (Rd.cons (Rd.cons hrk)) (ints_get (by omega)))) ?_
   refine tp rfl (lv_assign rfl) ?_
   refine t_done ?_
   refine q_then_n (hK15 _ _ ?_)
   have hat := hfo.at_ (i := k) (k := j) (by omega)
   have hmk : maskL ((es.getD k []).take j) < 2 ^ 64 := maskL_lt _ fun x hx => by have := hin k x (List.mem_of_mem_take hx); omega
   have hmj := hml k j
   have hgk : (nI (m0 N es k j)).getD k 0 = ((maskL ((es.getD k []).take j) : Nat) : Int) := by rw [nI_get, m0_get (by omega), if_neg (by omega), if_pos rfl]
   refine c_draw (γ := Unit) (n := 9) Try.mixed rfl rfl (fun _ S => True) (fun _ => [(0, 27, (.slice bs2 N cp3)), (1, 28, (.int .i64 ((k : Nat) : Int))), (2, 29, (.pointer (some (ad bs2 k)))), (3, 30, (.int .u64 ((maskL ((es.getD k []).take j) : Nat) : Int))), (4, 31, (.int .i64 ((es.getD k []).getD j 0))), (5, 32, (.int .u64 ((2 ^ ((es.getD k []).getD j 0).toNat : Nat) : Int))), (6, 33, (.int .u64 ((maskL ((es.getD k []).take j) ||| 2 ^ ((es.getD k []).getD j 0).toNat : Nat) : Int))), (7, 34, (.pointer (some (ad bs2 k))))]) (fun _ S => (bif S 8 then (SlV 45 1 (.slice bs2 N cp3) N (ints .u64 (((nI (m0 N es k j))).set k ((maskL ((es.getD k []).take j) ||| 2 ^ ((es.getD k []).getD j 0).toNat : Nat) : Int)))) else (SlV 45 1 (.slice bs2 N cp3) N (ints .u64 (nI (m0 N es k j))))) :: (Blk b1 [(.int .i64 ((N : Nat) : Int)), (.slice be N ce), (.slice bo N co)] 25) :: R) (()) trivial (fun _ h => h) (fun _ _ h => h) ?_ ?_
   · -- steps
    refine ⟨?_, ?_, ?_, ?_, ?_, ?_, ?_, ?_, ?_, trivial⟩
    · -- 0
     rintro _ S hF hS D hp K hK
     try dsimp only at hF ⊢
     refine d_need (small := [(3, (.slice bs2 N cp3))]) ⟨look_b rfl rfl, trivial⟩ ?_
     refine tp rfl (lv_move rfl) ?_
     exact d_closes ⟨look_b rfl rfl, trivial⟩ 0 rfl rfl rfl hS (AgreeR.refl _) (t_sat (fun _ h => h) (hK () trivial))
    · -- 1
     rintro _ S hF hS D hp K hK
     try dsimp only at hF ⊢
     refine d_need (small := [(4, (.int .i64 ((k : Nat) : Int)))]) ⟨look_b rfl rfl, trivial⟩ ?_
     refine tp rfl (lv_move rfl) ?_
     exact d_closes ⟨look_b rfl rfl, trivial⟩ 1 rfl rfl rfl hS (AgreeR.refl _) (t_sat (fun _ h => h) (hK () trivial))
    · -- 2
     rintro _ S hF hS D hp K hK
     try dsimp only at hF ⊢
     have s0 := hp 0 rfl
     have s1 := hp 1 rfl
     refine d_need (small := [(27, (.slice bs2 N cp3)), (28, (.int .i64 ((k : Nat) : Int)))]) ⟨look_row rfl 0 rfl s0, look_row rfl 1 rfl s1, trivial⟩ ?_
     refine tp rfl (lv_indexAddr (k' := k) Try.underlying43 Try.sizeOf45 rfl rfl hok4 (by omega) (by omega) (by omega)) ?_
     exact d_closes ⟨look_row rfl 0 rfl s0, look_row rfl 1 rfl s1, trivial⟩ 2 rfl rfl rfl hS (AgreeR.refl _) (t_sat (fun _ h => h) (hK () trivial))
    · -- 3
     rintro _ S hF hS D hp K hK
     try dsimp only at hF ⊢
     have s2 := hp 2 rfl
     refine d_need (small := [(29, (.pointer (some (ad bs2 k))))]) ⟨look_row rfl 2 rfl s2, trivial⟩ ?_
     refine tp rfl (lv_load Try.isAgg45 rfl (gives_as (congrArg (Value.int .u64) hgk) (gives_sl (mem_cF (nf hS D (k := 8) (i := 3) rfl) (.head _)) (ints_get (by omega))))) ?_
     exact d_closes ⟨look_row rfl 2 rfl s2, trivial⟩ 3 rfl rfl rfl hS (AgreeR.refl _) (t_sat (fun _ h => h) (hK () trivial))
    · -- 4
     rintro _ S hF hS D hp K hK
     try dsimp only at hF ⊢
     refine d_need (small := [(7, (.int .i64 ((es.getD k []).getD j 0)))]) ⟨look_b rfl rfl, trivial⟩ ?_
     refine tp rfl (lv_move rfl) ?_
     exact d_closes ⟨look_b rfl rfl, trivial⟩ 4 rfl rfl rfl hS (AgreeR.refl _) (t_sat (fun _ h => h) (hK () trivial))
    · -- 5
     rintro _ S hF hS D hp K hK
     try dsimp only at hF ⊢
     have s4 := hp 4 rfl
     refine d_need (small := [(31, (.int .i64 ((es.getD k []).getD j 0)))]) ⟨look_row rfl 4 rfl s4, trivial⟩ ?_
     refine tp rfl (lv_shl (c := ((2 ^ ((es.getD k []).getD j 0).toNat : Nat) : Int)) rfl rfl (by omega) (shl_one hat.1 (by omega))) ?_
     exact d_closes ⟨look_row rfl 4 rfl s4, trivial⟩ 5 rfl rfl rfl hS (AgreeR.refl _) (t_sat (fun _ h => h) (hK () trivial))
    · -- 6
     rintro _ S hF hS D hp K hK
     try dsimp only at hF ⊢
     have s3 := hp 3 rfl
     have s5 := hp 5 rfl
     refine d_need (small := [(30, (.int .u64 ((maskL ((es.getD k []).take j) : Nat) : Int))), (32, (.int .u64 ((2 ^ ((es.getD k []).getD j 0).toNat : Nat) : Int)))]) ⟨look_row rfl 3 rfl s3, look_row rfl 5 rfl s5, trivial⟩ ?_
     refine tp rfl (lv_or (c := ((maskL ((es.getD k []).take j) ||| 2 ^ ((es.getD k []).getD j 0).toNat : Nat) : Int)) rfl rfl (bOr_nat _ _ hmk (Nat.pow_lt_pow_right (by omega) (by omega)))) ?_
     exact d_closes ⟨look_row rfl 3 rfl s3, look_row rfl 5 rfl s5, trivial⟩ 6 rfl rfl rfl hS (AgreeR.refl _) (t_sat (fun _ h => h) (hK () trivial))
    · -- 7
     rintro _ S hF hS D hp K hK
     try dsimp only at hF ⊢
     have s0 := hp 0 rfl
     have s1 := hp 1 rfl
     refine d_need (small := [(27, (.slice bs2 N cp3)), (28, (.int .i64 ((k : Nat) : Int)))]) ⟨look_row rfl 0 rfl s0, look_row rfl 1 rfl s1, trivial⟩ ?_
     refine tp rfl (lv_indexAddr (k' := k) Try.underlying43 Try.sizeOf45 rfl rfl hok4 (by omega) (by omega) (by omega)) ?_
     exact d_closes ⟨look_row rfl 0 rfl s0, look_row rfl 1 rfl s1, trivial⟩ 7 rfl rfl rfl hS (AgreeR.refl _) (t_sat (fun _ h => h) (hK () trivial))
    · -- 8
     rintro _ S hF hS D hp K hK
     try dsimp only at hF ⊢
     have s6 := hp 6 rfl
     have s7 := hp 7 rfl
     refine d_need (small := [(33, (.int .u64 ((maskL ((es.getD k []).take j) ||| 2 ^ ((es.getD k []).getD j 0).toNat : Nat) : Int))), (34, (.pointer (some (ad bs2 k))))]) ⟨look_row rfl 6 rfl s6, look_row rfl 7 rfl s7, trivial⟩ ?_
     refine t_cF hS ?_
     refine ts (sv_sl Try.sizeOf45 rfl rfl rfl (by rw [ints_length]; omega) ints_set) ?_
     exact d_closes0 ⟨look_row rfl 6 rfl s6, look_row rfl 7 rfl s7, trivial⟩ rfl (t_sat (fun _ h => h) (hK () trivial))
   · -- behind
    rintro _ hF
    try dsimp only at hF ⊢
    refine t_weak (E' := [(0, (.agg #[(.int .i64 ((N : Nat) : Int)), (.slice be N ce), (.slice bo N co)])), (1, (.pointer (some ⟨b1, 0, none⟩))), (2, (.slice none 0 0)), (3, (.slice bs2 N cp3)), (4, (.int .i64 ((k : Nat) : Int))), (5, (.slice bk ((es.getD k []).length) ck)), (7, (.int .i64 ((es.getD k []).getD j 0))), (14, (.slice be N ce)), (15, (.int .i64 ((N : Nat) : Int))), (16, (.int .i64 ((k : Nat) : Int))), (17, (.bool true)), (21, (.slice bk ((es.getD k []).length) ck)), (22, (.int .i64 (((es.getD k []).length : Nat) : Int))), (23, (.int .i64 ((j : Nat) : Int))), (24, (.bool true))]) ⟨rfl, rfl, rfl, rfl, rfl, rfl, rfl, rfl, rfl, rfl, rfl, rfl, rfl, rfl, rfl, trivial⟩ ?_
    refine q_in_n ?_
    refine q_then_n (hK14 _ _ ?_)
    refine c_region ?_
    rw [show (nI (m0 N es k j)).set k ((maskL ((es.getD k []).take j) ||| 2 ^ ((es.getD k []).getD j 0).toNat : Nat) : Int) = nI (m0 N es k (j + 1)) from by rw [nI_set, m0_succ (by omega) (by omega)]]
    refine tp rfl (lv_add (c := ((j + 1 : Nat) : Int)) rfl rfl (wr_i64_succ (by omega))) ?_
    refine tp rfl (lv_move rfl) ?_
    refine t_done ?_
    refine q_then_n ?_
    exact t_weak (by exact ⟨rfl, rfl, rfl, rfl, rfl, rfl, rfl, rfl, rfl, rfl, rfl, rfl, rfl, trivial⟩) ((hK11 (j + 1) (by omega) (by omega)))
  · -- no
   refine tp rfl (lv_lss rfl rfl (decide_eq_false h7)) ?_
   refine t_done ?_
   refine q_then_n (hK12 _ _ ?_)
   refine c_seq (fun K13 hK13 => ?_)
   refine c_false rfl ?_
   refine c_exit ?_
   refine q_then_x ?_
   refine q_then_x ?_
   refine q_in_x ?_
   refine q_in_n ?_
   refine q_then_n (hK8 _ _ ?_)
   refine c_region ?_
   refine tp rfl (lv_add (c := ((k + 1 : Nat) : Int)) rfl rfl (wr_i64_succ (by omega))) ?_
   refine tp rfl (lv_move rfl) ?_
   refine t_done ?_
   refine q_then_n ?_
   rw [show m0 N es k j = m0 N es (k + 1) 0 from m0_row (by omega)]
   exact t_weak (by exact ⟨rfl, rfl, rfl, rfl, rfl, rfl, rfl, trivial⟩) ((hK5 (k + 1) (by omega) (by omega)))
 · -- no
  refine tp rfl (lv_lss rfl rfl (decide_eq_false h6)) ?_
  refine t_done ?_
  refine q_then_n (hK6 _ _ ?_)
  refine c_seq (fun K7 hK7 => ?_)
  refine c_false rfl ?_
  refine c_exit ?_
  refine q_then_x ?_
  refine q_then_x ?_
  refine q_in_x ?_
  refine q_then_n (hK3 _ _ ?_)
  refine c_seq (fun K8 hK8 => ?_)
  refine c_seq (fun K9 hK9 => ?_)
  refine c_region ?_
  refine tp rfl (lv_fieldAddr (o' := 0) Try.underlying25 rfl Try.sizeOf3 rfl rfl) ?_
  refine tp rfl (lv_load Try.isAgg3 rfl (gives_blk (.tail _ (.head _)) rfl)) ?_
  refine tp rfl (lv_move rfl) ?_
  refine t_done ?_
  refine q_then_n (hK9 _ _ ?_)
  refine c_block ?_
  have e : k = N := by omega
  rw [show m0 N es k 0 = behN es 0 from by rw [show k = N by omega, m0_end hel]]
  refine c_loop (γ := (Nat)) (fun (b : Nat) => b ≤ N) (fun (b : Nat) => [(0, (.agg #[(.int .i64 ((N : Nat) : Int)), (.slice be N ce), (.slice bo N co)])), (1, (.pointer (some ⟨b1, 0, none⟩))), (2, (.slice none 0 0)), (3, (.slice bs2 N cp3)), (14, (.slice be N ce)), (15, (.int .i64 ((N : Nat) : Int))), (16, (.int .i64 ((k : Nat) : Int))), (17, (.bool false)), (38, (.int .i64 ((N : Nat) : Int))), (39, (.int .i64 ((b : Nat) : Int)))]) (fun (b : Nat) => (SlV 45 1 (.slice bs2 N cp3) N (ints .u64 (nI (behN es b)))) :: (Blk b1 [(.int .i64 ((N : Nat) : Int)), (.slice be N ce), (.slice bo N co)] 25) :: R) (fun (b : Nat) => N - b) (0) (by omega) ⟨rfl, rfl, rfl, rfl, rfl, rfl, rfl, rfl, rfl, rfl, trivial⟩ (fun _ h => h) ?_
  rintro b K10 hF hK10
  try dsimp only at hF hK10 ⊢
  have hbl := behN_len es b
  refine c_seq (fun K11 hK11 => ?_)
  refine c_region ?_
  by_cases h8 : ((b : Nat) : Int) < ((N : Nat) : Int)
  · -- yes
   refine tp rfl (lv_lss rfl rfl (decide_eq_true h8)) ?_
   refine t_done ?_
   refine q_then_n (hK11 _ _ ?_)
   refine c_seq (fun K12 hK12 => ?_)
   refine c_true rfl ?_
   refine c_skip ?_
   refine q_then_n (hK12 _ _ ?_)
   refine c_seq (fun K13 hK13 => ?_)
   refine c_block ?_
   refine c_seq (fun K14 hK14 => ?_)
   refine c_region ?_
   refine tp rfl (lv_move rfl) ?_
   refine tp rfl (lv_assign rfl) ?_
   refine t_done ?_
   refine q_then_n (hK14 _ _ ?_)
   refine c_seq (fun K15 hK15 => ?_)
   refine c_region ?_
   refine tp rfl (lv_move rfl) ?_
   refine tp rfl (lv_len Try.underlying43 rfl rfl) ?_
   refine tp rfl (lv_move rfl) ?_
   refine t_done ?_
   refine q_then_n (hK15 _ _ ?_)
   refine c_block ?_
   rw [show nI (behN es b) = nI (partB b 0 (behN es b)) from by rw [partB_zero]]
   refine c_loop (γ := (Nat)) (fun (i : Nat) => i ≤ N) (fun (i : Nat) => [(0, (.agg #[(.int .i64 ((N : Nat) : Int)), (.slice be N ce), (.slice bo N co)])), (1, (.pointer (some ⟨b1, 0, none⟩))), (2, (.slice none 0 0)), (3, (.slice bs2 N cp3)), (8, (.int .i64 ((b : Nat) : Int))), (14, (.slice be N ce)), (15, (.int .i64 ((N : Nat) : Int))), (16, (.int .i64 ((k : Nat) : Int))), (17, (.bool false)), (38, (.int .i64 ((N : Nat) : Int))), (39, (.int .i64 ((b : Nat) : Int))), (40, (.bool true)), (43, (.int .i64 ((N : Nat) : Int))), (44, (.int .i64 ((i : Nat) : Int)))]) (fun (i : Nat) => (SlV 45 1 (.slice bs2 N cp3) N (ints .u64 (nI (partB b i (behN es b))))) :: (Blk b1 [(.int .i64 ((N : Nat) : Int)), (.slice be N ce), (.slice bo N co)] 25) :: R) (fun (i : Nat) => N - i) (0) (by omega) ⟨rfl, rfl, rfl, rfl, rfl, rfl, rfl, rfl, rfl, rfl, rfl, rfl, rfl, rfl, trivial⟩ (fun _ h => h) ?_
   rintro i K16 hF hK16
   try dsimp only at hF hK16 ⊢
   have hpl := (nI_len (partB b i (behN es b))).trans (partB_len b i (behN es b))
   refine c_seq (fun K17 hK17 => ?_)
   refine c_region ?_
   by_cases h9 : ((i : Nat) : Int) < ((N : Nat) : Int)
   · -- yes
    refine tp rfl (lv_lss rfl rfl (decide_eq_true h9)) ?_
    refine t_done ?_
    refine q_then_n (hK17 _ _ ?_)
    refine c_seq (fun K18 hK18 => ?_)
    refine c_true rfl ?_
    refine c_skip ?_
    refine q_then_n (hK18 _ _ ?_)
    refine c_seq (fun K19 hK19 => ?_)
    refine c_block ?_
    refine c_seq (fun K20 hK20 => ?_)
    refine c_region ?_
    refine tp rfl (lv_move rfl) ?_
    refine tp rfl (lv_assign rfl) ?_
    refine t_done ?_
    refine q_then_n (hK20 _ _ ?_)
    refine c_seq (fun K21 hK21 => ?_)
    refine c_region ?_
    have hgi : (nI (partB b i (behN es b))).getD i 0 = (((behN es b).getD i 0 : Nat) : Int) := by rw [nI_get, partB_at (by omega)]
    have hgb : (nI (partB b i (behN es b))).getD b 0 = (((behN es b).getD b 0 : Nat) : Int) := by rw [nI_get, partB_by (by omega)]
    have hlt := behN_lt hsm hin b i
    have hltb := behN_lt hsm hin b b
    refine tp rfl (lv_move rfl) ?_
    refine tp rfl (lv_move rfl) ?_
    refine tp rfl (lv_indexAddr (k' := i) Try.underlying43 Try.sizeOf45 rfl rfl hok4 (by omega) (by omega) (by omega)) ?_
    refine tp rfl (lv_load Try.isAgg45 rfl (gives_as (congrArg (Value.int .u64) hgi) (gives_sl (.head _) (ints_get (by omega))))) ?_
    refine tp rfl (lv_move rfl) ?_
    refine tp rfl (lv_shr (c := bShr .u64 (((behN es b).getD i 0 : Nat) : Int) ((b : Nat) : Int)) rfl rfl (by omega) rfl) ?_
    refine tp rfl (lv_and (c := bAnd .u64 (bShr .u64 (((behN es b).getD i 0 : Nat) : Int) ((b : Nat) : Int)) 1) rfl rfl rfl) ?_
    refine tp rfl (lv_eql rfl rfl (has_bit _ _ (by omega) hlt)) ?_
    refine t_done ?_
    refine q_then_n (hK21 _ _ ?_)
    refine c_split rfl (fun c10 => ?_) (fun c10 => ?_)
    · -- true
     refine c_draw (γ := Unit) (n := 11) Try.mixed rfl rfl (fun _ S => True) (fun _ => [(0, 55, (.slice bs2 N cp3)), (1, 56, (.int .i64 ((i : Nat) : Int))), (2, 57, (.pointer (some (ad bs2 i)))), (3, 58, (.int .u64 (((behN es b).getD i 0 : Nat) : Int))), (4, 59, (.slice bs2 N cp3)), (5, 60, (.int .i64 ((b : Nat) : Int))), (6, 61, (.pointer (some (ad bs2 b)))), (7, 62, (.int .u64 (((behN es b).getD b 0 : Nat) : Int))), (8, 63, (.int .u64 (((behN es b).getD i 0 ||| (behN es b).getD b 0 : Nat) : Int))), (9, 64, (.pointer (some (ad bs2 i))))]) (fun _ S => (bif S 10 then (SlV 45 1 (.slice bs2 N cp3) N (ints .u64 (((nI (partB b i (behN es b)))).set i (((behN es b).getD i 0 ||| (behN es b).getD b 0 : Nat) : Int)))) else (SlV 45 1 (.slice bs2 N cp3) N (ints .u64 (nI (partB b i (behN es b)))))) :: (Blk b1 [(.int .i64 ((N : Nat) : Int)), (.slice be N ce), (.slice bo N co)] 25) :: R) (()) trivial (fun _ h => h) (fun _ _ h => h) ?_ ?_
     · -- steps
      refine ⟨?_, ?_, ?_, ?_, ?_, ?_, ?_, ?_, ?_, ?_, ?_, trivial⟩
      · -- 0
       rintro _ S hF hS D hp K hK
       try dsimp only at hF ⊢
       refine d_need (small := [(3, (.slice bs2 N cp3))]) ⟨look_b rfl rfl, trivial⟩ ?_
       refine tp rfl (lv_move rfl) ?_
       exact d_closes ⟨look_b rfl rfl, trivial⟩ 0 rfl rfl rfl hS (AgreeR.refl _) (t_sat (fun _ h => h) (hK () trivial))
      · -- 1
       rintro _ S hF hS D hp K hK
       try dsimp only at hF ⊢
       refine d_need (small := [(9, (.int .i64 ((i : Nat) : Int)))]) ⟨look_b rfl rfl, trivial⟩ ?_
       refine tp rfl (lv_move rfl) ?_
       exact d_closes ⟨look_b rfl rfl, trivial⟩ 1 rfl rfl rfl hS (AgreeR.refl _) (t_sat (fun _ h => h) (hK () trivial))
      · -- 2
       rintro _ S hF hS D hp K hK
       try dsimp only at hF ⊢
       have s0 := hp 0 rfl
       have s1 := hp 1 rfl
       refine d_need (small := [(55, (.slice bs2 N cp3)), (56, (.int .i64 ((i : Nat) : Int)))]) ⟨look_row rfl 0 rfl s0, look_row rfl 1 rfl s1, trivial⟩ ?_
       refine tp rfl (lv_indexAddr (k' := i) Try.underlying43 Try.sizeOf45 rfl rfl hok4 (by omega) (by omega) (by omega)) ?_
       exact d_closes ⟨look_row rfl 0 rfl s0, look_row rfl 1 rfl s1, trivial⟩ 2 rfl rfl rfl hS (AgreeR.refl _) (t_sat (fun _ h => h) (hK () trivial))
      · -- 3
       rintro _ S hF hS D hp K hK
       try dsimp only at hF ⊢
       have s2 := hp 2 rfl
       refine d_need (small := [(57, (.pointer (some (ad bs2 i))))]) ⟨look_row rfl 2 rfl s2, trivial⟩ ?_
       refine tp rfl (lv_load Try.isAgg45 rfl (gives_as (congrArg (Value.int .u64) hgi) (gives_sl (mem_cF (nf hS D (k := 10) (i := 3) rfl) (.head _)) (ints_get (by omega))))) ?_
       exact d_closes ⟨look_row rfl 2 rfl s2, trivial⟩ 3 rfl rfl rfl hS (AgreeR.refl _) (t_sat (fun _ h => h) (hK () trivial))
      · -- 4
       rintro _ S hF hS D hp K hK
       try dsimp only at hF ⊢
       refine d_need (small := [(3, (.slice bs2 N cp3))]) ⟨look_b rfl rfl, trivial⟩ ?_
       refine tp rfl (lv_move rfl) ?_
       exact d_closes ⟨look_b rfl rfl, trivial⟩ 4 rfl rfl rfl hS (AgreeR.refl _) (t_sat (fun _ h => h) (hK () trivial))
      · -- 5
       rintro _ S hF hS D hp K hK
       try dsimp only at hF ⊢
       refine d_need (small := [(8, (.int .i64 ((b : Nat) : Int)))]) ⟨look_b rfl rfl, trivial⟩ ?_
       refine tp rfl (lv_move rfl) ?_
       exact d_closes ⟨look_b rfl rfl, trivial⟩ 5 rfl rfl rfl hS (AgreeR.refl _) (t_sat (fun _ h => h) (hK () trivial))
      · -- 6
       rintro _ S hF hS D hp K hK
       try dsimp only at hF ⊢
       have s4 := hp 4 rfl
       have s5 := hp 5 rfl
       refine d_need (small := [(59, (.slice bs2 N cp3)), (60, (.int .i64 ((b : Nat) : Int)))]) ⟨look_row rfl 4 rfl s4, look_row rfl 5 rfl s5, trivial⟩ ?_
       refine tp rfl (lv_indexAddr (k' := b) Try.underlying43 Try.sizeOf45 rfl rfl hok4 (by omega) (by omega) (by omega)) ?_
       exact d_closes ⟨look_row rfl 4 rfl s4, look_row rfl 5 rfl s5, trivial⟩ 6 rfl rfl rfl hS (AgreeR.refl _) (t_sat (fun _ h => h) (hK () trivial))
      · -- 7
       rintro _ S hF hS D hp K hK
       try dsimp only at hF ⊢
       have s6 := hp 6 rfl
       refine d_need (small := [(61, (.pointer (some (ad bs2 b))))]) ⟨look_row rfl 6 rfl s6, trivial⟩ ?_
       refine tp rfl (lv_load Try.isAgg45 rfl (gives_as (congrArg (Value.int .u64) hgb) (gives_sl (mem_cF (nf hS D (k := 10) (i := 7) rfl) (.head _)) (ints_get (by omega))))) ?_
       exact d_closes ⟨look_row rfl 6 rfl s6, trivial⟩ 7 rfl rfl rfl hS (AgreeR.refl _) (t_sat (fun _ h => h) (hK () trivial))
      · -- 8
       rintro _ S hF hS D hp K hK
       try dsimp only at hF ⊢
       have s3 := hp 3 rfl
       have s7 := hp 7 rfl
       refine d_need (small := [(58, (.int .u64 (((behN es b).getD i 0 : Nat) : Int))), (62, (.int .u64 (((behN es b).getD b 0 : Nat) : Int)))]) ⟨look_row rfl 3 rfl s3, look_row rfl 7 rfl s7, trivial⟩ ?_
       refine tp rfl (lv_or (c := (((behN es b).getD i 0 ||| (behN es b).getD b 0 : Nat) : Int)) rfl rfl (bOr_nat _ _ hlt hltb)) ?_
       exact d_closes ⟨look_row rfl 3 rfl s3, look_row rfl 7 rfl s7, trivial⟩ 8 rfl rfl rfl hS (AgreeR.refl _) (t_sat (fun _ h => h) (hK () trivial))
      · -- 9
       rintro _ S hF hS D hp K hK
       try dsimp only at hF ⊢
       have s0 := hp 0 rfl
       have s1 := hp 1 rfl
       refine d_need (small := [(55, (.slice bs2 N cp3)), (56, (.int .i64 ((i : Nat) : Int)))]) ⟨look_row rfl 0 rfl s0, look_row rfl 1 rfl s1, trivial⟩ ?_
       refine tp rfl (lv_indexAddr (k' := i) Try.underlying43 Try.sizeOf45 rfl rfl hok4 (by omega) (by omega) (by omega)) ?_
       exact d_closes ⟨look_row rfl 0 rfl s0, look_row rfl 1 rfl s1, trivial⟩ 9 rfl rfl rfl hS (AgreeR.refl _) (t_sat (fun _ h => h) (hK () trivial))
      · -- 10
       rintro _ S hF hS D hp K hK
       try dsimp only at hF ⊢
       have s8 := hp 8 rfl
       have s9 := hp 9 rfl
       refine d_need (small := [(63, (.int .u64 (((behN es b).getD i 0 ||| (behN es b).getD b 0 : Nat) : Int))), (64, (.pointer (some (ad bs2 i))))]) ⟨look_row rfl 8 rfl s8, look_row rfl 9 rfl s9, trivial⟩ ?_
       refine t_cF hS ?_
       refine ts (sv_sl Try.sizeOf45 rfl rfl rfl (by rw [ints_length]; omega) ints_set) ?_
       exact d_closes0 ⟨look_row rfl 8 rfl s8, look_row rfl 9 rfl s9, trivial⟩ rfl (t_sat (fun _ h => h) (hK () trivial))
     · -- behind
      rintro _ hF
      try dsimp only at hF ⊢
      refine t_weak (E' := [(0, (.agg #[(.int .i64 ((N : Nat) : Int)), (.slice be N ce), (.slice bo N co)])), (1, (.pointer (some ⟨b1, 0, none⟩))), (2, (.slice none 0 0)), (3, (.slice bs2 N cp3)), (8, (.int .i64 ((b : Nat) : Int))), (9, (.int .i64 ((i : Nat) : Int))), (14, (.slice be N ce)), (15, (.int .i64 ((N : Nat) : Int))), (16, (.int .i64 ((k : Nat) : Int))), (17, (.bool false)), (38, (.int .i64 ((N : Nat) : Int))), (39, (.int .i64 ((b : Nat) : Int))), (40, (.bool true)), (43, (.int .i64 ((N : Nat) : Int))), (44, (.int .i64 ((i : Nat) : Int))), (45, (.bool true)), (54, (.bool (((behN es b).getD i 0).testBit b)))]) ⟨rfl, rfl, rfl, rfl, rfl, rfl, rfl, rfl, rfl, rfl, rfl, rfl, rfl, rfl, rfl, rfl, rfl, trivial⟩ ?_
      refine q_in_n ?_
      refine q_then_n (hK19 _ _ ?_)
      refine c_region ?_
      refine tp rfl (lv_add (c := ((i + 1 : Nat) : Int)) rfl rfl (wr_i64_succ (by omega))) ?_
      refine tp rfl (lv_move rfl) ?_
      refine t_done ?_
      refine q_then_n ?_
      rw [show (nI (partB b i (behN es b))).set i (((behN es b).getD i 0 ||| (behN es b).getD b 0 : Nat) : Int) = nI (partB b (i + 1) (behN es b)) from by rw [nI_set, partB_yes (by omega) (by assumption)]]
      exact t_weak (by exact ⟨rfl, rfl, rfl, rfl, rfl, rfl, rfl, rfl, rfl, rfl, rfl, rfl, rfl, rfl, trivial⟩) ((hK16 (i + 1) (by omega) (by omega)))
    · -- false
     refine c_skip ?_
     refine q_in_n ?_
     refine q_then_n (hK19 _ _ ?_)
     refine c_region ?_
     refine tp rfl (lv_add (c := ((i + 1 : Nat) : Int)) rfl rfl (wr_i64_succ (by omega))) ?_
     refine tp rfl (lv_move rfl) ?_
     refine t_done ?_
     refine q_then_n ?_
     rw [show partB b i (behN es b) = partB b (i + 1) (behN es b) from partB_no (by omega) (by assumption)]
     exact t_weak (by exact ⟨rfl, rfl, rfl, rfl, rfl, rfl, rfl, rfl, rfl, rfl, rfl, rfl, rfl, rfl, trivial⟩) ((hK16 (i + 1) (by omega) (by omega)))
   · -- no
    refine tp rfl (lv_lss rfl rfl (decide_eq_false h9)) ?_
    refine t_done ?_
    refine q_then_n (hK17 _ _ ?_)
    refine c_seq (fun K18 hK18 => ?_)
    refine c_false rfl ?_
    refine c_exit ?_
    refine q_then_x ?_
    refine q_then_x ?_
    refine q_in_x ?_
    refine q_in_n ?_
    refine q_then_n (hK13 _ _ ?_)
    refine c_region ?_
    refine tp rfl (lv_add (c := ((b + 1 : Nat) : Int)) rfl rfl (wr_i64_succ (by omega))) ?_
    refine tp rfl (lv_move rfl) ?_
    refine t_done ?_
    refine q_then_n ?_
    rw [show partB b i (behN es b) = behN es (b + 1) from partB_end (by rw [behN_len]; omega)]
    exact t_weak (by exact ⟨rfl, rfl, rfl, rfl, rfl, rfl, rfl, rfl, rfl, rfl, trivial⟩) ((hK10 (b + 1) (by omega) (by omega)))
  · -- no
   refine tp rfl (lv_lss rfl rfl (decide_eq_false h8)) ?_
   refine t_done ?_
   refine q_then_n (hK11 _ _ ?_)
   refine c_seq (fun K12 hK12 => ?_)
   refine c_false rfl ?_
   refine c_exit ?_
   refine q_then_x ?_
   refine q_then_x ?_
   refine q_in_x ?_
   refine q_then_n (hK8 _ _ ?_)
   refine c_seq (fun K13 hK13 => ?_)
   refine c_region ?_
   refine tp rfl (lv_move rfl) ?_
   refine tp rfl (lv_assign rfl) ?_
   refine t_done ?_
   refine q_then_n (hK13 _ _ ?_)
   refine c_ret ?_
   refine t_f1 ?_
   refine t_drop ?_
   refine q_ret rfl rfl ?_
   rw [show b = N by omega]
   exact ⟨_, _, hok4, hle5, rfl, rfl⟩
end Go.Proofs.Ytljnaefaahphaaa
