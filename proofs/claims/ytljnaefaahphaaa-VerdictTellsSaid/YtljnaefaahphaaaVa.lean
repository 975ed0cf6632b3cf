/- Contracts of verdict: right. -/
import Derived.KernelRfl
import Derived.Test.YtljnaefaahphaaaProg
import Derived.Test.YtljnaefaahphaaaOpm2
import Derived.Test.YtljnaefaahphaaaVal2
import Derived.Test.YtljnaefaahphaaaVdm
set_option maxRecDepth 100000
set_option linter.unusedVariables false
set_option linter.unusedSimpArgs false
namespace Go.Proofs.Ytljnaefaahphaaa
open Go Go.Proofs Sp
theorem Try.mixed : Try.prog.follows .mixedOrders = true := by kernel_rfl

theorem mem_getD {xs : List Int} {k : Nat} (h : k < xs.length) : xs.getD k 0 ∈ xs := by simp [List.getD, h]

set_option maxHeartbeats 4000000 in
theorem indexFunc_ok {R : List HP} {p : Int → Bool} {f : Nat} {caps : List Value} {bx : Option Addr} {cx : Nat} (xs : List Int) (hf : (∀ args w, (callFunc f args).run Try.prog w = .ok (.enter f args) w) ∧ ∀ x ∈ xs, Ok Try.prog f ([.int .i64 x] ++ caps) R (fun v M => v = .bool (p x) ∧ M = R)) (hx : Rd R bx (ints .i64 xs)) (okx : SlOk bx xs.length) (lx : xs.length ≤ 4611686018427387904) :
    Ok Try.prog 25 [(.slice bx xs.length cx), (.func (.func f) #[] caps.toArray)] R
      (fun v M => v = .int .i64 (idxF p xs) ∧ M = R) := by
 obtain ⟨hcall, hf⟩ := hf
 refine ok_of (N := 19) Try.func25 rfl rfl rfl (fun W => ?_)
 refine c_seq (fun K1 hK1 => ?_)
 refine c_region ?_
 refine tp rfl (lv_assign rfl) ?_
 refine t_done ?_
 refine q_then_n (hK1 _ _ ?_)
 refine c_seq (fun K2 hK2 => ?_)
 refine c_seq (fun K3 hK3 => ?_)
 refine c_region ?_
 refine tp rfl (lv_move rfl) ?_
 refine tp rfl (lv_len Try.underlying23 rfl rfl) ?_
 refine tp rfl (lv_move rfl) ?_
 refine t_done ?_
 refine q_then_n (hK3 _ _ ?_)
 refine c_block ?_
 refine c_loop (γ := (Nat)) (fun (k : Nat) => k ≤ xs.length ∧ (∀ j, j < k → p (xs.getD j 0) = false)) (fun (k : Nat) => [(0, (.slice bx xs.length cx)), (1, (.func (.func f) #[] caps.toArray)), (7, (.int .i64 ((xs.length : Nat) : Int))), (8, (.int .i64 ((k : Nat) : Int)))]) (fun (k : Nat) => R) (fun (k : Nat) => xs.length - k) (0) ⟨by omega, fun j hj => by omega⟩ ⟨rfl, rfl, rfl, rfl, trivial⟩ (fun _ h => h) ?_
 rintro k K4 hF hK4
 try dsimp only at hF hK4 ⊢
 obtain ⟨hk, hall⟩ := hF
 refine c_seq (fun K5 hK5 => ?_)
 refine c_region ?_
 by_cases h1 : ((k : Nat) : Int) < ((xs.length : Nat) : Int)
 · -- yes
  refine tp rfl (lv_lss rfl rfl (decide_eq_true h1)) ?_
  refine t_done ?_
  refine q_then_n (hK5 _ _ ?_)
  refine c_seq (fun K6 hK6 => ?_)
  refine c_true rfl ?_
  refine c_skip ?_
  refine q_then_n (hK6 _ _ ?_)
  refine c_seq (fun K7 hK7 => ?_)
  refine c_block ?_
  refine c_seq (fun K8 hK8 => ?_)
  refine c_region ?_
  refine tp rfl (lv_move rfl) ?_
  refine tp rfl (lv_assign rfl) ?_
  refine t_done ?_
  refine q_then_n (hK8 _ _ ?_)
  refine c_seq (fun K9 hK9 => ?_)
  refine c_region ?_
  refine tp rfl (lv_move rfl) ?_
  refine tp rfl (lv_move rfl) ?_
  refine tp rfl (lv_move rfl) ?_
  refine tp rfl (lv_indexAddr (k' := k) Try.underlying23 Try.sizeOf3 rfl rfl okx (by omega) (by omega) (by omega)) ?_
  refine tp rfl (lv_load Try.isAgg3 rfl (Rd.gives hx (ints_get (by first | omega | (simp; omega))))) ?_
  refine tc rfl (en_clo hcall rfl rfl) (hf _ (mem_getD (by omega))) ?_
  rintro _ _ ⟨rfl, hMR⟩
  rw [hMR]; clear hMR
  refine t_done ?_
  refine q_then_n (hK9 _ _ ?_)
  refine c_split rfl (fun c2 => ?_) (fun c2 => ?_)
  · -- true
   skip
   refine c_seq (fun K10 hK10 => ?_)
   refine c_region ?_
   refine tp rfl (lv_move rfl) ?_
   refine tp rfl (lv_assign rfl) ?_
   refine t_done ?_
   refine q_then_n (hK10 _ _ ?_)
   refine c_ret ?_
   refine q_in_r ?_
   refine q_then_r ?_
   refine q_then_r ?_
   refine q_in_r ?_
   refine q_then_r ?_
   refine q_ret rfl rfl ?_
   exact ⟨by rw [idxF_at (k := k) (by omega) ‹_› hall], rfl⟩
  · -- false
   skip
   refine c_skip ?_
   refine q_in_n ?_
   refine q_then_n (hK7 _ _ ?_)
   refine c_region ?_
   refine tp rfl (lv_add (c := ((k + 1 : Nat) : Int)) rfl rfl (wr_i64_succ (by omega))) ?_
   refine tp rfl (lv_move rfl) ?_
   refine t_done ?_
   refine q_then_n ?_
   exact t_weak (by exact ⟨rfl, rfl, rfl, rfl, trivial⟩) ((hK4 (k + 1) ⟨by omega, all_succ hall ‹_›⟩ (by omega)))
 · -- no
  refine tp rfl (lv_lss rfl rfl (decide_eq_false h1)) ?_
  refine t_done ?_
  refine q_then_n (hK5 _ _ ?_)
  refine c_seq (fun K6 hK6 => ?_)
  refine c_false rfl ?_
  refine c_exit ?_
  refine q_then_x ?_
  refine q_then_x ?_
  refine q_in_x ?_
  refine q_then_n (hK2 _ _ ?_)
  refine c_seq (fun K7 hK7 => ?_)
  refine c_region ?_
  refine tp rfl (lv_assign rfl) ?_
  refine t_done ?_
  refine q_then_n (hK7 _ _ ?_)
  refine c_ret ?_
  refine q_ret rfl rfl ?_
  exact ⟨by rw [idxF_none (fun j hj => hall j (by omega))], rfl⟩

theorem containsFunc_ok {R : List HP} {p : Int → Bool} {f : Nat} {caps : List Value} {bx : Option Addr} {cx : Nat} (xs : List Int) (hf : (∀ args w, (callFunc f args).run Try.prog w = .ok (.enter f args) w) ∧ ∀ x ∈ xs, Ok Try.prog f ([.int .i64 x] ++ caps) R (fun v M => v = .bool (p x) ∧ M = R)) (hx : Rd R bx (ints .i64 xs)) (okx : SlOk bx xs.length) (lx : xs.length ≤ 4611686018427387904) :
    Ok Try.prog 23 [(.slice bx xs.length cx), (.func (.func f) #[] caps.toArray)] R
      (fun v M => v = .bool (xs.any p) ∧ M = R) := by
 refine ok_of (N := 9) Try.func23 rfl rfl rfl (fun W => ?_)
 refine c_seq (fun K1 hK1 => ?_)
 refine c_region ?_
 refine tp rfl (lv_assign rfl) ?_
 refine t_done ?_
 refine q_then_n (hK1 _ _ ?_)
 refine c_seq (fun K2 hK2 => ?_)
 refine c_region ?_
 refine tp rfl (lv_move rfl) ?_
 refine tp rfl (lv_move rfl) ?_
 refine tc rfl (en_fn Try.call25 rfl) (indexFunc_ok (p := p) xs hf hx okx (by first | omega | (simp; omega) | (simp; done))) ?_
 rintro _ _ ⟨rfl, hMR⟩
 rw [hMR]; clear hMR
 refine tp rfl (lv_geq rfl rfl (idxF_any p xs)) ?_
 refine tp rfl (lv_assign rfl) ?_
 refine t_done ?_
 refine q_then_n (hK2 _ _ ?_)
 refine c_ret ?_
 refine q_ret rfl rfl ?_
 exact ⟨rfl, rfl⟩

theorem own_ok {R : List HP} (n : Int) :
    Ok Try.prog 22 [(.int .i64 n)] R
      (fun v M => v = .bool (kindB n) ∧ M = R) := by
 refine ok_of (N := 13) Try.func22 rfl rfl rfl (fun W => ?_)
 refine c_seq (fun K1 hK1 => ?_)
 refine c_region ?_
 refine tp rfl (lv_assign rfl) ?_
 refine t_done ?_
 refine q_then_n (hK1 _ _ ?_)
 refine c_seq (fun K2 hK2 => ?_)
 refine c_region ?_
 refine tp rfl (lv_move rfl) ?_
 by_cases h1 : n = 0
 · -- yes
  refine tp rfl (lv_eql rfl rfl (beq_iff_eq.2 h1)) ?_
  refine tp rfl (lv_move rfl) ?_
  refine t_skip rfl rfl rfl ?_
  refine t_skip rfl rfl rfl ?_
  refine tp rfl (lv_pick_t rfl rfl) ?_
  refine tp rfl (lv_move rfl) ?_
  refine t_skip rfl rfl rfl ?_
  refine t_skip rfl rfl rfl ?_
  refine tp rfl (lv_pick_t rfl rfl) ?_
  refine tp rfl (lv_assign rfl) ?_
  refine t_done ?_
  refine q_then_n (hK2 _ _ ?_)
  refine c_ret ?_
  refine q_ret rfl rfl ?_
  refine ⟨?_, rfl⟩
  congr 1
  unfold kindB
  simp [*]
 · -- no
  refine tp rfl (lv_eql rfl rfl (beq_eq_false_iff_ne.2 h1)) ?_
  refine tp rfl (lv_move rfl) ?_
  refine t_guard rfl rfl ?_
  refine tp rfl (lv_move rfl) ?_
  refine t_guard rfl rfl ?_
  by_cases h2 : n = 5
  · -- yes
   refine tp rfl (lv_eql rfl rfl (beq_iff_eq.2 h2)) ?_
   refine tp rfl (lv_pick_f rfl rfl) ?_
   refine tp rfl (lv_move rfl) ?_
   refine t_skip rfl rfl rfl ?_
   refine t_skip rfl rfl rfl ?_
   refine tp rfl (lv_pick_t rfl rfl) ?_
   refine tp rfl (lv_assign rfl) ?_
   refine t_done ?_
   refine q_then_n (hK2 _ _ ?_)
   refine c_ret ?_
   refine q_ret rfl rfl ?_
   refine ⟨?_, rfl⟩
   congr 1
   unfold kindB
   simp [*]
  · -- no
   refine tp rfl (lv_eql rfl rfl (beq_eq_false_iff_ne.2 h2)) ?_
   refine tp rfl (lv_pick_f rfl rfl) ?_
   refine tp rfl (lv_move rfl) ?_
   refine t_guard rfl rfl ?_
   refine tp rfl (lv_move rfl) ?_
   refine t_guard rfl rfl ?_
   refine tp rfl (lv_eql rfl rfl rfl) ?_
   refine tp rfl (lv_pick_f rfl rfl) ?_
   refine tp rfl (lv_assign rfl) ?_
   refine t_done ?_
   refine q_then_n (hK2 _ _ ?_)
   refine c_ret ?_
   refine q_ret rfl rfl ?_
   refine ⟨?_, rfl⟩
   congr 1
   unfold kindB
   simp [*]

theorem right1_ok {R : List HP} {c : Nat} (x n : Int) (hgn : Gives R ⟨c, 0, none⟩ (.int .i64 n)) :
    Ok Try.prog 21 [(.int .i64 x), (.pointer (some ⟨c, 0, none⟩))] R
      (fun v M => v = .bool (strB n x) ∧ M = R) := by
 refine ok_of (N := 12) Try.func21 rfl rfl rfl (fun W => ?_)
 refine c_seq (fun K1 hK1 => ?_)
 refine c_region ?_
 refine tp rfl (lv_assign rfl) ?_
 refine t_done ?_
 refine q_then_n (hK1 _ _ ?_)
 refine c_seq (fun K2 hK2 => ?_)
 refine c_region ?_
 refine tp rfl (lv_move rfl) ?_
 by_cases h1 : x < 0
 · -- yes
  refine tp rfl (lv_lss rfl rfl (decide_eq_true h1)) ?_
  refine tp rfl (lv_move rfl) ?_
  refine t_skip rfl rfl rfl ?_
  refine t_skip rfl rfl rfl ?_
  refine t_skip rfl rfl rfl ?_
  refine t_skip rfl rfl rfl ?_
  refine tp rfl (lv_pick_t rfl rfl) ?_
  refine tp rfl (lv_assign rfl) ?_
  refine t_done ?_
  refine q_then_n (hK2 _ _ ?_)
  refine c_ret ?_
  refine q_ret rfl rfl ?_
  refine ⟨?_, rfl⟩
  congr 1
  unfold strB
  simp [*]
 · -- no
  refine tp rfl (lv_lss rfl rfl (decide_eq_false h1)) ?_
  refine tp rfl (lv_move rfl) ?_
  refine t_guard rfl rfl ?_
  refine tp rfl (lv_move rfl) ?_
  refine t_guard rfl rfl ?_
  refine tp rfl (lv_fieldAddr (o' := 0) Try.underlying25 rfl Try.sizeOf3 rfl rfl) ?_
  refine t_guard rfl rfl ?_
  refine tp rfl (lv_load Try.isAgg3 rfl hgn) ?_
  refine t_guard rfl rfl ?_
  refine tp rfl (lv_geq rfl rfl rfl) ?_
  refine tp rfl (lv_pick_f rfl rfl) ?_
  refine tp rfl (lv_assign rfl) ?_
  refine t_done ?_
  refine q_then_n (hK2 _ _ ?_)
  refine c_ret ?_
  refine q_ret rfl rfl ?_
  refine ⟨?_, rfl⟩
  congr 1
  unfold strB
  simp [*]

set_option maxHeartbeats 4000000 in
theorem right_ok_ {R : List HP} {es : List (List Int)} {own : List Int} {be bo : Option Addr} {ce co m1 m2 : Nat} (hm1 : es.length = m1) (hm2 : own.length = m2) (n : Int) (hG : GridR R be es) (hbe : SlOk be m1) (ho : Rd R bo (ints .i64 own)) (hbo : SlOk bo m2) (hlx : ∀ l ∈ es, l.length ≤ 1000000) (hbig : m1 ≤ 1000000000 ∧ m2 ≤ 1000000000) :
    Ok Try.prog 15 [(.agg #[(.int .i64 n), (.slice be m1 ce), (.slice bo m2 co)])] R
      (fun v M => v = .bool (rightB n es own) ∧ M = R) := by
 obtain ⟨vs, hvl, hvs, hrow⟩ := hG
 refine ok_of (N := 52) Try.func15 rfl rfl rfl (fun W => ?_)
 refine c_seq (fun K1 hK1 => ?_)
 refine c_region ?_
 refine tm rfl (mv_box rfl rfl) ?_
 rintro _ _ ⟨b1, rfl, rfl⟩
 refine tp rfl (lv_assign rfl) ?_
 refine t_done ?_
 refine q_then_n (hK1 _ _ ?_)
 refine c_seq (fun K2 hK2 => ?_)
 refine c_seq (fun K3 hK3 => ?_)
 refine c_region ?_
 refine tp rfl (lv_fieldAddr (o' := 0) Try.underlying25 rfl Try.sizeOf3 rfl rfl) ?_
 refine tp rfl (lv_load Try.isAgg3 rfl (gives_blk (.head _) rfl)) ?_
 by_cases h2 : n < 0
 · -- yes
  refine tp rfl (lv_lss rfl rfl (decide_eq_true h2)) ?_
  refine tp rfl (lv_move rfl) ?_
  refine t_skip rfl rfl rfl ?_
  refine t_skip rfl rfl rfl ?_
  refine t_skip rfl rfl rfl ?_
  refine tp rfl (lv_pick_t rfl rfl) ?_
  refine tp rfl (lv_move rfl) ?_
  refine t_skip rfl rfl rfl ?_
  refine t_skip rfl rfl rfl ?_
  refine t_skip rfl rfl rfl ?_
  refine t_skip rfl rfl rfl ?_
  refine t_skip rfl rfl rfl ?_
  refine t_skip rfl rfl rfl ?_
  refine tp rfl (lv_pick_t rfl rfl) ?_
  refine tp rfl (lv_move rfl) ?_
  refine t_skip rfl rfl rfl ?_
  refine t_skip rfl rfl rfl ?_
  refine t_skip rfl rfl rfl ?_
  refine t_skip rfl rfl rfl ?_
  refine t_skip rfl rfl rfl ?_
  refine t_skip rfl rfl rfl ?_
  refine tp rfl (lv_pick_t rfl rfl) ?_
  refine t_done ?_
  refine q_then_n (hK3 _ _ ?_)
  refine c_true rfl ?_
  refine c_seq (fun K4 hK4 => ?_)
  refine c_region ?_
  refine tp rfl (lv_assign rfl) ?_
  refine t_done ?_
  refine q_then_n (hK4 _ _ ?_)
  refine c_ret ?_
  refine q_then_r ?_
  refine t_drop ?_
  refine q_ret rfl rfl ?_
  first
  | (rw [right_f (by omega)]; exact ⟨rfl, rfl⟩)
  | (rw [right_fi (i := k) (by omega) (by unfold goodI; simp only [*]; rfl)]; exact ⟨rfl, rfl⟩)
 · -- no
  refine tp rfl (lv_lss rfl rfl (decide_eq_false h2)) ?_
  refine tp rfl (lv_move rfl) ?_
  refine t_guard rfl rfl ?_
  refine tp rfl (lv_fieldAddr (o' := 0) Try.underlying25 rfl Try.sizeOf3 rfl rfl) ?_
  refine t_guard rfl rfl ?_
  refine tp rfl (lv_load Try.isAgg3 rfl (gives_blk (.head _) rfl)) ?_
  refine t_guard rfl rfl ?_
  by_cases h3 : n > 64
  · -- yes
   refine tp rfl (lv_gtr rfl rfl (decide_eq_true h3)) ?_
   refine tp rfl (lv_pick_f rfl rfl) ?_
   refine tp rfl (lv_move rfl) ?_
   refine t_skip rfl rfl rfl ?_
   refine t_skip rfl rfl rfl ?_
   refine t_skip rfl rfl rfl ?_
   refine t_skip rfl rfl rfl ?_
   refine t_skip rfl rfl rfl ?_
   refine t_skip rfl rfl rfl ?_
   refine tp rfl (lv_pick_t rfl rfl) ?_
   refine tp rfl (lv_move rfl) ?_
   refine t_skip rfl rfl rfl ?_
   refine t_skip rfl rfl rfl ?_
   refine t_skip rfl rfl rfl ?_
   refine t_skip rfl rfl rfl ?_
   refine t_skip rfl rfl rfl ?_
   refine t_skip rfl rfl rfl ?_
   refine tp rfl (lv_pick_t rfl rfl) ?_
   refine t_done ?_
   refine q_then_n (hK3 _ _ ?_)
   refine c_true rfl ?_
   refine c_seq (fun K4 hK4 => ?_)
   refine c_region ?_
   refine tp rfl (lv_assign rfl) ?_
   refine t_done ?_
   refine q_then_n (hK4 _ _ ?_)
   refine c_ret ?_
   refine q_then_r ?_
   refine t_drop ?_
   refine q_ret rfl rfl ?_
   first
   | (rw [right_f (by omega)]; exact ⟨rfl, rfl⟩)
   | (rw [right_fi (i := k) (by omega) (by unfold goodI; simp only [*]; rfl)]; exact ⟨rfl, rfl⟩)
  · -- no
   refine tp rfl (lv_gtr rfl rfl (decide_eq_false h3)) ?_
   refine tp rfl (lv_pick_f rfl rfl) ?_
   refine tp rfl (lv_move rfl) ?_
   refine t_guard rfl rfl ?_
   refine tp rfl (lv_fieldAddr (o' := 1) Try.underlying25 rfl Try.sizeOf22 rfl rfl) ?_
   refine t_guard rfl rfl ?_
   refine tp rfl (lv_load Try.isAgg22 rfl (gives_blk (.head _) rfl)) ?_
   refine t_guard rfl rfl ?_
   refine tp rfl (lv_len Try.underlying22 rfl rfl) ?_
   refine t_guard rfl rfl ?_
   refine tp rfl (lv_fieldAddr (o' := 0) Try.underlying25 rfl Try.sizeOf3 rfl rfl) ?_
   refine t_guard rfl rfl ?_
   refine tp rfl (lv_load Try.isAgg3 rfl (gives_blk (.head _) rfl)) ?_
   refine t_guard rfl rfl ?_
   by_cases h4 : ((m1 : Nat) : Int) = n
   · -- yes
    refine tp rfl (lv_neq rfl rfl (bne_eq_false_iff_eq.2 h4)) ?_
    refine tp rfl (lv_pick_f rfl rfl) ?_
    refine tp rfl (lv_move rfl) ?_
    refine t_guard rfl rfl ?_
    refine tp rfl (lv_fieldAddr (o' := 2) Try.underlying25 rfl Try.sizeOf23 rfl rfl) ?_
    refine t_guard rfl rfl ?_
    refine tp rfl (lv_load Try.isAgg23 rfl (gives_blk (.head _) rfl)) ?_
    refine t_guard rfl rfl ?_
    refine tp rfl (lv_len Try.underlying23 rfl rfl) ?_
    refine t_guard rfl rfl ?_
    refine tp rfl (lv_fieldAddr (o' := 0) Try.underlying25 rfl Try.sizeOf3 rfl rfl) ?_
    refine t_guard rfl rfl ?_
    refine tp rfl (lv_load Try.isAgg3 rfl (gives_blk (.head _) rfl)) ?_
    refine t_guard rfl rfl ?_
    by_cases h5 : ((m2 : Nat) : Int) = n
    · -- yes
     refine tp rfl (lv_neq rfl rfl (bne_eq_false_iff_eq.2 h5)) ?_
     refine tp rfl (lv_pick_f rfl rfl) ?_
     refine t_done ?_
     refine q_then_n (hK3 _ _ ?_)
     refine c_false rfl ?_
     refine c_skip ?_
     refine q_then_n (hK2 _ _ ?_)
     refine c_seq (fun K4 hK4 => ?_)
     refine c_region ?_
     refine tp rfl (lv_makeFunc rfl) ?_
     refine tp rfl (lv_assign rfl) ?_
     refine t_done ?_
     refine q_then_n (hK4 _ _ ?_)
     refine c_seq (fun K5 hK5 => ?_)
     refine c_seq (fun K6 hK6 => ?_)
     refine c_region ?_
     refine tp rfl (lv_fieldAddr (o' := 0) Try.underlying25 rfl Try.sizeOf3 rfl rfl) ?_
     refine tp rfl (lv_load Try.isAgg3 rfl (gives_blk (.head _) rfl)) ?_
     refine tp rfl (lv_move rfl) ?_
     refine t_done ?_
     refine q_then_n (hK6 _ _ ?_)
     refine c_block ?_
     refine c_loop (γ := (Nat)) (fun (k : Nat) => k ≤ es.length ∧ (∀ j, j < k → goodI n es own j = true)) (fun (k : Nat) => [(0, (.agg #[(.int .i64 n), (.slice be m1 ce), (.slice bo m2 co)])), (1, (.pointer (some ⟨b1, 0, none⟩))), (3, (.func (.func 21) #[] #[(.pointer (some ⟨b1, 0, none⟩))])), (28, (.bool false)), (31, (.int .i64 n)), (32, (.int .i64 ((k : Nat) : Int)))]) (fun (k : Nat) => (Blk b1 [(.int .i64 n), (.slice be m1 ce), (.slice bo m2 co)] 25) :: R) (fun (k : Nat) => es.length - k) (0) ⟨by omega, fun j hj => absurd hj (by omega)⟩ ⟨rfl, rfl, rfl, rfl, rfl, rfl, trivial⟩ (fun _ h => h) ?_
     rintro k K7 hF hK7
     try dsimp only at hF hK7 ⊢
     obtain ⟨hk, hall⟩ := hF
     refine c_seq (fun K8 hK8 => ?_)
     refine c_region ?_
     by_cases h6 : ((k : Nat) : Int) < n
     · -- yes
      refine tp rfl (lv_lss rfl rfl (decide_eq_true h6)) ?_
      refine t_done ?_
      refine q_then_n (hK8 _ _ ?_)
      refine c_seq (fun K9 hK9 => ?_)
      refine c_true rfl ?_
      refine c_skip ?_
      refine q_then_n (hK9 _ _ ?_)
      refine c_seq (fun K10 hK10 => ?_)
      refine c_block ?_
      refine c_seq (fun K11 hK11 => ?_)
      refine c_region ?_
      refine tp rfl (lv_move rfl) ?_
      refine tp rfl (lv_assign rfl) ?_
      refine t_done ?_
      refine q_then_n (hK11 _ _ ?_)
      refine c_seq (fun K12 hK12 => ?_)
      refine c_region ?_
      obtain ⟨bk, ck, hokk, hlek, hvk, hrk⟩ := hrow k (by omega)
      have hlk := hlx _ (row_at_mem (show k < es.length by omega))
      refine tp rfl (lv_fieldAddr (o' := 2) Try.underlying25 rfl Try.sizeOf23 rfl rfl) ?_
      refine tp rfl (lv_load Try.isAgg23 rfl (gives_blk (.head _) rfl)) ?_
      refine tp rfl (lv_move rfl) ?_
      refine tp rfl (lv_indexAddr (k' := k) Try.underlying23 Try.sizeOf3 rfl rfl hbo (by omega) (by omega) (by omega)) ?_
      refine tp rfl (lv_load Try.isAgg3 rfl (Rd.gives (Rd.cons ho) (ints_get (by omega)))) ?_
      refine tc rfl (en_fn Try.call22 rfl) (own_ok ((own).getD k 0)) ?_
      rintro _ _ ⟨rfl, rfl⟩
      refine tp rfl (lv_not (c := !(kindB ((own).getD k 0))) rfl rfl) ?_
      refine tp rfl (lv_move rfl) ?_
      rcases hb7 : kindB ((own).getD k 0) with _ | _
      · -- false
       refine t_skip rfl rfl rfl ?_
       refine t_skip rfl rfl rfl ?_
       refine t_skip rfl rfl rfl ?_
       refine t_skip rfl rfl rfl ?_
       refine t_skip rfl rfl rfl ?_
       refine t_skip rfl rfl rfl ?_
       refine t_skip rfl rfl rfl ?_
       refine tp rfl (lv_pick_t rfl rfl) ?_
       refine t_done ?_
       refine q_then_n (hK12 _ _ ?_)
       refine c_true rfl ?_
       refine c_seq (fun K13 hK13 => ?_)
       refine c_region ?_
       refine tp rfl (lv_assign rfl) ?_
       refine t_done ?_
       refine q_then_n (hK13 _ _ ?_)
       refine c_ret ?_
       refine q_in_r ?_
       refine q_then_r ?_
       refine q_then_r ?_
       refine q_in_r ?_
       refine q_then_r ?_
       refine t_drop ?_
       refine q_ret rfl rfl ?_
       first
       | (rw [right_f (by omega)]; exact ⟨rfl, rfl⟩)
       | (rw [right_fi (i := k) (by omega) (by unfold goodI; simp only [*]; rfl)]; exact ⟨rfl, rfl⟩)
      · -- true
       refine t_guard rfl rfl ?_
       refine tp rfl (lv_fieldAddr (o' := 1) Try.underlying25 rfl Try.sizeOf22 rfl rfl) ?_
       refine t_guard rfl rfl ?_
       refine tp rfl (lv_load Try.isAgg22 rfl (gives_blk (.head _) rfl)) ?_
       refine t_guard rfl rfl ?_
       refine tp rfl (lv_move rfl) ?_
       refine t_guard rfl rfl ?_
       refine tp rfl (lv_indexAddr (k' := k) Try.underlying22 Try.sizeOf23 rfl rfl hbe (by omega) (by omega) (by omega)) ?_
       refine t_guard rfl rfl ?_
       refine tp rfl (lv_load Try.isAgg23 rfl (gives_as hvk (Rd.gives (Rd.cons hvs) (vals_get (by omega))))) ?_
       refine t_guard rfl rfl ?_
       refine tp rfl (lv_move rfl) ?_
       refine t_guard rfl rfl ?_
       refine tc rfl (en_fn Try.call23 rfl) (containsFunc_ok (p := strB n) (es.getD k []) ⟨Try.call21, fun x _ => right1_ok x n (gives_blk (.head _) rfl)⟩ (Rd.cons hrk) hokk (by first | omega | (simp; omega) | (simp; done))) ?_
       rintro _ _ ⟨rfl, rfl⟩
       refine tp rfl (lv_pick_f rfl rfl) ?_
       refine t_done ?_
       refine q_then_n (hK12 _ _ ?_)
       refine c_split rfl (fun c8 => ?_) (fun c8 => ?_)
       · -- true
        refine c_seq (fun K13 hK13 => ?_)
        refine c_region ?_
        refine tp rfl (lv_assign rfl) ?_
        refine t_done ?_
        refine q_then_n (hK13 _ _ ?_)
        refine c_ret ?_
        refine q_in_r ?_
        refine q_then_r ?_
        refine q_then_r ?_
        refine q_in_r ?_
        refine q_then_r ?_
        refine t_drop ?_
        refine q_ret rfl rfl ?_
        first
        | (rw [right_f (by omega)]; exact ⟨rfl, rfl⟩)
        | (rw [right_fi (i := k) (by omega) (by unfold goodI; simp only [*]; rfl)]; exact ⟨rfl, rfl⟩)
       · -- false
        refine c_skip ?_
        refine q_in_n ?_
        refine q_then_n (hK10 _ _ ?_)
        refine c_region ?_
        refine tp rfl (lv_add (c := ((k + 1 : Nat) : Int)) rfl rfl (wr_i64_succ (by omega))) ?_
        refine tp rfl (lv_move rfl) ?_
        refine t_done ?_
        refine q_then_n ?_
        exact t_weak (by exact ⟨rfl, rfl, rfl, rfl, rfl, rfl, trivial⟩) ((hK7 (k + 1) ⟨by omega, good_all hall (by unfold goodI; simp only [*]; rfl)⟩ (by omega)))
     · -- no
      refine tp rfl (lv_lss rfl rfl (decide_eq_false h6)) ?_
      refine t_done ?_
      refine q_then_n (hK8 _ _ ?_)
      refine c_seq (fun K9 hK9 => ?_)
      refine c_false rfl ?_
      refine c_exit ?_
      refine q_then_x ?_
      refine q_then_x ?_
      refine q_in_x ?_
      refine q_then_n (hK5 _ _ ?_)
      refine c_seq (fun K10 hK10 => ?_)
      refine c_region ?_
      refine tp rfl (lv_assign rfl) ?_
      refine t_done ?_
      refine q_then_n (hK10 _ _ ?_)
      refine c_ret ?_
      refine t_drop ?_
      refine q_ret rfl rfl ?_
      rw [right_iff.2 ⟨by omega, by omega, by omega, by omega, fun i hi => hall i (by omega)⟩]
      exact ⟨rfl, rfl⟩
    · -- no
     refine tp rfl (lv_neq rfl rfl (bne_iff_ne.2 h5)) ?_
     refine tp rfl (lv_pick_f rfl rfl) ?_
     refine t_done ?_
     refine q_then_n (hK3 _ _ ?_)
     refine c_true rfl ?_
     refine c_seq (fun K4 hK4 => ?_)
     refine c_region ?_
     refine tp rfl (lv_assign rfl) ?_
     refine t_done ?_
     refine q_then_n (hK4 _ _ ?_)
     refine c_ret ?_
     refine q_then_r ?_
     refine t_drop ?_
     refine q_ret rfl rfl ?_
     first
     | (rw [right_f (by omega)]; exact ⟨rfl, rfl⟩)
     | (rw [right_fi (i := k) (by omega) (by unfold goodI; simp only [*]; rfl)]; exact ⟨rfl, rfl⟩)
   · -- no
    refine tp rfl (lv_neq rfl rfl (bne_iff_ne.2 h4)) ?_
    refine tp rfl (lv_pick_f rfl rfl) ?_
    refine tp rfl (lv_move rfl) ?_
    refine t_skip rfl rfl rfl ?_
    refine t_skip rfl rfl rfl ?_
    refine t_skip rfl rfl rfl ?_
    refine t_skip rfl rfl rfl ?_
    refine t_skip rfl rfl rfl ?_
    refine t_skip rfl rfl rfl ?_
    refine tp rfl (lv_pick_t rfl rfl) ?_
    refine t_done ?_
    refine q_then_n (hK3 _ _ ?_)
    refine c_true rfl ?_
    refine c_seq (fun K4 hK4 => ?_)
    refine c_region ?_
    refine tp rfl (lv_assign rfl) ?_
    refine t_done ?_
    refine q_then_n (hK4 _ _ ?_)
    refine c_ret ?_
    refine q_then_r ?_
    refine t_drop ?_
    refine q_ret rfl rfl ?_
    first
    | (rw [right_f (by omega)]; exact ⟨rfl, rfl⟩)
    | (rw [right_fi (i := k) (by omega) (by unfold goodI; simp only [*]; rfl)]; exact ⟨rfl, rfl⟩)
end Go.Proofs.Ytljnaefaahphaaa
