/- Contracts of the graph's functions, the first half. -/
import Derived.KernelRfl
import Derived.Test.YtppgccafgfpkdaaDoorProg
import Derived.Test.YtppgccafgfpkdaaDoorGra
set_option maxRecDepth 100000
set_option linter.unusedVariables false
set_option linter.unusedSimpArgs false
namespace Go.Proofs.YtppgccafgfpkdaaDoor
open Go Go.Proofs Sp
theorem Tryd.mixed : Tryd.prog.follows .mixedOrders = true := by kernel_rfl

theorem mem_getD {xs : List Int} {k : Nat} (h : k < xs.length) : xs.getD k 0 ∈ xs := by simp [List.getD, h]

set_option maxHeartbeats 4000000 in
theorem indexFunc_ok {R : List HP} {p : Int → Bool} {f : Nat} {caps : List Value} {bx : Option Addr} {cx : Nat} (xs : List Int) (hf : (∀ args w, (callFunc f args).run Tryd.prog w = .ok (.enter f args) w) ∧ ∀ x ∈ xs, Ok Tryd.prog f ([.int .i64 x] ++ caps) R (fun v M => v = .bool (p x) ∧ M = R)) (hx : Rd R bx (ints .i64 xs)) (okx : SlOk bx xs.length) (lx : xs.length ≤ 4611686018427387904) :
    Ok Tryd.prog 32 [(.slice bx xs.length cx), (.func (.func f) #[] caps.toArray)] R
      (fun v M => v = .int .i64 (idxF p xs) ∧ M = R) := by
  obtain ⟨hcall, hf⟩ := hf
  refine ok_of (N := 19) Tryd.func32 rfl rfl rfl (fun W => ?_)
  refine c_seq (fun K1 hK1 => ?_)
  refine c_region ?_
  refine tp rfl (lv_assign rfl) ?_
  refine t_done ?_
  refine q_then_n (hK1 _ _ ?_)
  refine c_seq (fun K2 hK2 => ?_)
  refine c_seq (fun K3 hK3 => ?_)
  refine c_region ?_
  refine tp rfl (lv_move rfl) ?_
  refine tp rfl (lv_len Tryd.underlying33 rfl rfl) ?_
  refine tp rfl (lv_move rfl) ?_
  refine t_done ?_
  refine q_then_n (hK3 _ _ ?_)
  refine c_block ?_
  refine c_loop (γ := (Nat)) (fun (k : Nat) => k ≤ xs.length ∧ (∀ j, j < k → p (xs.getD j 0) = false)) (fun (k : Nat) => [(0, (.slice bx xs.length cx)), (1, (.func (.func f) #[] caps.toArray)), (7, (.int .i64 ((xs.length : Nat) : Int))), (8, (.int .i64 ((k : Nat) : Int)))]) (fun (k : Nat) => R) (fun (k : Nat) => xs.length - k) (0) ⟨by omega, fun j hj => by omega⟩ ⟨rfl, rfl, rfl, rfl, trivial⟩ (fun _ h => h) ?_
  rintro k K4 hF hK4
  try dsimp only at hF hK4 ⊢
  obtain ⟨hk, hall⟩ := hF
  refine c_seq (fun K5 hK5 => ?_)
  refine c_region ?_
  by_cases h1 : ((k : Nat) : Int) < ((xs.length : Nat) : Int)
  · -- yes
    refine tp rfl (lv_lss rfl rfl (decide_eq_true h1)) ?_
    refine t_done ?_
    refine q_then_n (hK5 _ _ ?_)
    refine c_seq (fun K6 hK6 => ?_)
    refine c_true rfl ?_
    refine c_skip ?_
    refine q_then_n (hK6 _ _ ?_)
    refine c_seq (fun K7 hK7 => ?_)
    refine c_block ?_
    refine c_seq (fun K8 hK8 => ?_)
    refine c_region ?_
    refine tp rfl (lv_move rfl) ?_
    refine tp rfl (lv_assign rfl) ?_
    refine t_done ?_
    refine q_then_n (hK8 _ _ ?_)
    refine c_seq (fun K9 hK9 => ?_)
    refine c_region ?_
    refine tp rfl (lv_move rfl) ?_
    refine tp rfl (lv_move rfl) ?_
    refine tp rfl (lv_move rfl) ?_
    refine tp rfl (lv_indexAddr (k' := k) Tryd.underlying33 Tryd.sizeOf3 rfl rfl okx (by omega) (by omega) (by omega)) ?_
    refine tp rfl (lv_load Tryd.isAgg3 rfl (Rd.gives hx (ints_get (by first | omega | (simp; omega))))) ?_
    refine tc rfl (en_clo hcall rfl rfl) (hf _ (mem_getD (by omega))) ?_
    rintro _ _ ⟨rfl, hMR⟩
    rw [hMR]; clear hMR
    refine t_done ?_
    refine q_then_n (hK9 _ _ ?_)
    refine c_split rfl (fun c2 => ?_) (fun c2 => ?_)
    · -- true
      skip
      refine c_seq (fun K10 hK10 => ?_)
      refine c_region ?_
      refine tp rfl (lv_move rfl) ?_
      refine tp rfl (lv_assign rfl) ?_
      refine t_done ?_
      refine q_then_n (hK10 _ _ ?_)
      refine c_ret ?_
      refine q_in_r ?_
      refine q_then_r ?_
      refine q_then_r ?_
      refine q_in_r ?_
      refine q_then_r ?_
      refine q_ret rfl rfl ?_
      exact ⟨by rw [idxF_at (k := k) (by omega) ‹_› hall], rfl⟩
    · -- false
      skip
      refine c_skip ?_
      refine q_in_n ?_
      refine q_then_n (hK7 _ _ ?_)
      refine c_region ?_
      refine tp rfl (lv_add (c := ((k + 1 : Nat) : Int)) rfl rfl (wr_i64_succ (by omega))) ?_
      refine tp rfl (lv_move rfl) ?_
      refine t_done ?_
      refine q_then_n ?_
      exact t_weak (by exact ⟨rfl, rfl, rfl, rfl, trivial⟩) ((hK4 (k + 1) ⟨by omega, all_succ hall ‹_›⟩ (by omega)))
  · -- no
    refine tp rfl (lv_lss rfl rfl (decide_eq_false h1)) ?_
    refine t_done ?_
    refine q_then_n (hK5 _ _ ?_)
    refine c_seq (fun K6 hK6 => ?_)
    refine c_false rfl ?_
    refine c_exit ?_
    refine q_then_x ?_
    refine q_then_x ?_
    refine q_in_x ?_
    refine q_then_n (hK2 _ _ ?_)
    refine c_seq (fun K7 hK7 => ?_)
    refine c_region ?_
    refine tp rfl (lv_assign rfl) ?_
    refine t_done ?_
    refine q_then_n (hK7 _ _ ?_)
    refine c_ret ?_
    refine q_ret rfl rfl ?_
    exact ⟨by rw [idxF_none (fun j hj => hall j (by omega))], rfl⟩

theorem containsFunc_ok {R : List HP} {p : Int → Bool} {f : Nat} {caps : List Value} {bx : Option Addr} {cx : Nat} (xs : List Int) (hf : (∀ args w, (callFunc f args).run Tryd.prog w = .ok (.enter f args) w) ∧ ∀ x ∈ xs, Ok Tryd.prog f ([.int .i64 x] ++ caps) R (fun v M => v = .bool (p x) ∧ M = R)) (hx : Rd R bx (ints .i64 xs)) (okx : SlOk bx xs.length) (lx : xs.length ≤ 4611686018427387904) :
    Ok Tryd.prog 36 [(.slice bx xs.length cx), (.func (.func f) #[] caps.toArray)] R
      (fun v M => v = .bool (xs.any p) ∧ M = R) := by
  refine ok_of (N := 9) Tryd.func36 rfl rfl rfl (fun W => ?_)
  refine c_seq (fun K1 hK1 => ?_)
  refine c_region ?_
  refine tp rfl (lv_assign rfl) ?_
  refine t_done ?_
  refine q_then_n (hK1 _ _ ?_)
  refine c_seq (fun K2 hK2 => ?_)
  refine c_region ?_
  refine tp rfl (lv_move rfl) ?_
  refine tp rfl (lv_move rfl) ?_
  refine tc rfl (en_fn Tryd.call32 rfl) (indexFunc_ok (p := p) xs hf hx okx (by first | omega | (simp; omega) | (simp; done))) ?_
  rintro _ _ ⟨rfl, hMR⟩
  rw [hMR]; clear hMR
  refine tp rfl (lv_geq rfl rfl (idxF_any p xs)) ?_
  refine tp rfl (lv_assign rfl) ?_
  refine t_done ?_
  refine q_then_n (hK2 _ _ ?_)
  refine c_ret ?_
  refine q_ret rfl rfl ?_
  exact ⟨rfl, rfl⟩

theorem clone_ok {R : List HP} {bx : Option Addr} {cx : Nat} (xs : List Int) (hx : Rd R bx (ints .i64 xs)) (okx : SlOk bx xs.length) (lx : xs.length ≤ 1099511627776) :
    Ok Tryd.prog 40 [(.slice bx xs.length cx)] R
      (OutSl 3 1 xs.length (ints .i64 xs) R) := by
  refine ok_of (N := 8) Tryd.func40 rfl rfl rfl (fun W => ?_)
  refine c_seq (fun K1 hK1 => ?_)
  refine c_region ?_
  refine tp rfl (lv_assign rfl) ?_
  refine t_done ?_
  refine q_then_n (hK1 _ _ ?_)
  refine c_seq (fun K2 hK2 => ?_)
  refine c_seq (fun K3 hK3 => ?_)
  refine c_region ?_
  refine tp rfl (lv_move rfl) ?_
  rcases hnhnil1 : (bx).isNone with _ | _
  · -- nil: false
    refine tp rfl (lv_eqnils Tryd.underlying33 rfl rfl hnhnil1) ?_
    refine t_done ?_
    refine q_then_n (hK3 _ _ ?_)
    refine c_false rfl ?_
    refine c_skip ?_
    refine q_then_n (hK2 _ _ ?_)
    refine c_seq (fun K4 hK4 => ?_)
    refine c_region ?_
    refine tm rfl (mv_buildSlice (cs := []) Tryd.underlying33 Tryd.sizeOf3 Tryd.zeroValue3 (by decide) rfl rfl rfl rfl) ?_
    rintro _ _ ⟨bs2, cp3, hok4, hle5, rfl, rfl⟩
    refine tp rfl (lv_move rfl) ?_
    refine tm rfl (mv_append (i := Tryd.t3) Tryd.underlying33 Tryd.type3 rfl rfl rfl (by decide) rfl rfl okx (by first | (simp; done) | (simp; omega)) (Rd.cons hx) ints_one (by rw [show Tryd.t3.bytes = 8 from rfl]; omega)) ?_
    rintro _ _ ⟨bs6, cp7, hok8, hle9, rfl, rfl⟩
    simp only [Nat.zero_add] at hok8 hle9 ⊢
    rw [List.nil_append]
    refine tp rfl (lv_assign rfl) ?_
    refine t_done ?_
    refine q_then_n (hK4 _ _ ?_)
    refine c_ret ?_
    refine q_ret rfl rfl ?_
    exact ⟨_, _, hok8, hle9, rfl, rfl⟩
  · -- nil: true
    refine tp rfl (lv_eqnils Tryd.underlying33 rfl rfl hnhnil1) ?_
    refine t_done ?_
    refine q_then_n (hK3 _ _ ?_)
    refine c_true rfl ?_
    refine c_seq (fun K4 hK4 => ?_)
    refine c_region ?_
    refine tp rfl (lv_assign rfl) ?_
    refine t_done ?_
    refine q_then_n (hK4 _ _ ?_)
    refine c_ret ?_
    refine q_then_r ?_
    refine t_sat (fun _ h => sat_nilsl 3 1 h) ?_
    refine q_ret rfl rfl ?_
    obtain rfl : xs = [] := List.eq_nil_of_length_eq_zero (slok_isNone okx ‹_›)
    exact ⟨none, 0, slok_none, Nat.le_refl _, rfl, rfl⟩

theorem has_ok {R : List HP} (m a : Nat) (ha : a < 64) (hm : m < 2 ^ 64) :
    Ok Tryd.prog 42 [(.int .u64 ((m : Nat) : Int)), (.int .i64 ((a : Nat) : Int))] R
      (fun v M => v = .bool (m.testBit a) ∧ M = R) := by
  refine ok_of (N := 10) Tryd.func42 rfl rfl rfl (fun W => ?_)
  refine c_seq (fun K1 hK1 => ?_)
  refine c_region ?_
  refine tp rfl (lv_assign rfl) ?_
  refine t_done ?_
  refine q_then_n (hK1 _ _ ?_)
  refine c_seq (fun K2 hK2 => ?_)
  refine c_region ?_
  refine tp rfl (lv_move rfl) ?_
  refine tp rfl (lv_move rfl) ?_
  refine tp rfl (lv_shr (c := bShr .u64 ((m : Nat) : Int) ((a : Nat) : Int)) rfl rfl (by omega) rfl) ?_
  refine tp rfl (lv_and (c := bAnd .u64 (bShr .u64 ((m : Nat) : Int) ((a : Nat) : Int)) 1) rfl rfl rfl) ?_
  refine tp rfl (lv_eql rfl rfl (has_bit m a ha hm)) ?_
  refine tp rfl (lv_assign rfl) ?_
  refine t_done ?_
  refine q_then_n (hK2 _ _ ?_)
  refine c_ret ?_
  refine q_ret rfl rfl ?_
  exact ⟨rfl, rfl⟩

theorem with_ok {R : List HP} (m a : Nat) (ha : a < 64) (hm : m < 2 ^ 64) :
    Ok Tryd.prog 43 [(.int .u64 ((m : Nat) : Int)), (.int .i64 ((a : Nat) : Int))] R
      (fun v M => v = .int .u64 ((m ||| 2 ^ a : Nat) : Int) ∧ M = R) := by
  refine ok_of (N := 9) Tryd.func43 rfl rfl rfl (fun W => ?_)
  refine c_seq (fun K1 hK1 => ?_)
  refine c_region ?_
  refine tp rfl (lv_assign rfl) ?_
  refine t_done ?_
  refine q_then_n (hK1 _ _ ?_)
  refine c_seq (fun K2 hK2 => ?_)
  refine c_region ?_
  refine tp rfl (lv_move rfl) ?_
  refine tp rfl (lv_move rfl) ?_
  refine tp rfl (lv_shl (c := bShl .u64 1 ((a : Nat) : Int)) rfl rfl (by omega) rfl) ?_
  refine tp rfl (lv_or (c := ((m ||| 2 ^ a : Nat) : Int)) rfl rfl (with_bit m a ha hm)) ?_
  refine tp rfl (lv_assign rfl) ?_
  refine t_done ?_
  refine q_then_n (hK2 _ _ ?_)
  refine c_ret ?_
  refine q_ret rfl rfl ?_
  exact ⟨rfl, rfl⟩

theorem n_ok {R : List HP} {p N : Nat} {es : Es} :
    Ok Tryd.prog 21 [(.pointer (some ⟨p, 0, none⟩))] ((GraphO p N es) :: R)
      (fun v M => v = .int .i64 ((N : Nat) : Int) ∧ M = GraphO p N es :: R) := by
  refine ok_of (N := 8) Tryd.func21 rfl rfl rfl (fun W => ?_)
  refine t_openG (fun bo co bi ci bt ct vo vi hG => ?_)
  have gsm := hG.ok.small
  have glo := hG.lo
  have gli := hG.li
  have gml := masksOf_length N es
  refine c_seq (fun K1 hK1 => ?_)
  refine c_region ?_
  refine tp rfl (lv_assign rfl) ?_
  refine t_done ?_
  refine q_then_n (hK1 _ _ ?_)
  refine c_seq (fun K2 hK2 => ?_)
  refine c_region ?_
  refine tp rfl (lv_move rfl) ?_
  refine tp rfl (lv_nilCheck rfl) ?_
  refine tp rfl (lv_fieldAddr (o' := 0) Tryd.underlying64 rfl Tryd.sizeOf61 rfl rfl) ?_
  refine tp rfl (lv_load Tryd.isAgg61 rfl (gives_blk (.head _) rfl)) ?_
  refine tp rfl (lv_len Tryd.underlying61 rfl rfl) ?_
  refine tp rfl (lv_assign rfl) ?_
  refine t_done ?_
  refine q_then_n (hK2 _ _ ?_)
  refine c_ret ?_
  refine t_f5 ?_
  refine t_f5 ?_
  refine t_f5 ?_
  refine t_f5 ?_
  refine t_f5 ?_
  refine t_f5 ?_
  refine t_shutG hG ?_
  refine q_ret rfl rfl ?_
  exact ⟨rfl, rfl⟩

theorem there1_ok {R : List HP} {p N : Nat} {es : Es} {c : Nat} (a : Int) :
    Ok Tryd.prog 46 [(.int .i64 a), (.pointer (some ⟨c, 0, none⟩))] ((GraphO p N es) :: (Blk c [(.pointer (some ⟨p, 0, none⟩))] 24) :: R)
      (fun v M => v = .bool (decide (a < 0) || decide (a ≥ (N : Int))) ∧ M = GraphO p N es :: Blk c [.pointer (some ⟨p, 0, none⟩)] 24 :: R) := by
  refine ok_of (N := 15) Tryd.func46 rfl rfl rfl (fun W => ?_)
  refine t_openG (fun bo co bi ci bt ct vo vi hG => ?_)
  have gsm := hG.ok.small
  have glo := hG.lo
  have gli := hG.li
  have gml := masksOf_length N es
  refine c_seq (fun K1 hK1 => ?_)
  refine c_region ?_
  refine tp rfl (lv_assign rfl) ?_
  refine t_done ?_
  refine q_then_n (hK1 _ _ ?_)
  refine c_seq (fun K2 hK2 => ?_)
  refine c_region ?_
  refine tp rfl (lv_move rfl) ?_
  by_cases h1 : a < 0
  · -- yes
    refine tp rfl (lv_lss rfl rfl (decide_eq_true h1)) ?_
    refine tp rfl (lv_move rfl) ?_
    refine t_skip rfl rfl rfl ?_
    refine t_skip rfl rfl rfl ?_
    refine t_skip rfl rfl rfl ?_
    refine t_skip rfl rfl rfl ?_
    refine t_skip rfl rfl rfl ?_
    refine t_skip rfl rfl rfl ?_
    refine t_skip rfl rfl rfl ?_
    refine tp rfl (lv_pick_t rfl rfl) ?_
    refine tp rfl (lv_assign rfl) ?_
    refine t_done ?_
    refine q_then_n (hK2 _ _ ?_)
    refine c_ret ?_
    refine t_f5 ?_
    refine t_f5 ?_
    refine t_f5 ?_
    refine t_f5 ?_
    refine t_f5 ?_
    refine t_f5 ?_
    refine t_shutG hG ?_
    refine q_ret rfl rfl ?_
    exact ⟨by simp [*], rfl⟩
  · -- no
    refine tp rfl (lv_lss rfl rfl (decide_eq_false h1)) ?_
    refine tp rfl (lv_move rfl) ?_
    refine t_guard rfl rfl ?_
    refine tp rfl (lv_move rfl) ?_
    refine t_guard rfl rfl ?_
    refine tp rfl (lv_load Tryd.isAgg24 rfl (gives_blk (.tail _ (.tail _ (.tail _ (.tail _ (.tail _ (.tail _ (.head _))))))) rfl)) ?_
    refine t_guard rfl rfl ?_
    refine tp rfl (lv_nilCheck rfl) ?_
    refine t_guard rfl rfl ?_
    refine tp rfl (lv_fieldAddr (o' := 0) Tryd.underlying64 rfl Tryd.sizeOf61 rfl rfl) ?_
    refine t_guard rfl rfl ?_
    refine tp rfl (lv_load Tryd.isAgg61 rfl (gives_blk (.head _) rfl)) ?_
    refine t_guard rfl rfl ?_
    refine tp rfl (lv_len Tryd.underlying61 rfl rfl) ?_
    refine t_guard rfl rfl ?_
    refine tp rfl (lv_geq rfl rfl rfl) ?_
    refine tp rfl (lv_pick_f rfl rfl) ?_
    refine tp rfl (lv_assign rfl) ?_
    refine t_done ?_
    refine q_then_n (hK2 _ _ ?_)
    refine c_ret ?_
    refine t_f5 ?_
    refine t_f5 ?_
    refine t_f5 ?_
    refine t_f5 ?_
    refine t_f5 ?_
    refine t_f5 ?_
    refine t_shutG hG ?_
    refine q_ret rfl rfl ?_
    exact ⟨by simp [*], rfl⟩

theorem there_ok {R : List HP} {p N : Nat} {es : Es} {bs : Option Addr} {cp : Nat} (ts : List Int) (hx : Rd R bs (ints .i64 ts)) (okx : SlOk bs ts.length) (lx : ts.length ≤ 4611686018427387904) :
    Ok Tryd.prog 39 [(.pointer (some ⟨p, 0, none⟩)), (.slice bs ts.length cp)] ((GraphO p N es) :: R)
      (fun v M => v = .bool (thereB N ts) ∧ M = GraphO p N es :: R) := by
  refine ok_of (N := 9) Tryd.func39 rfl rfl rfl (fun W => ?_)
  refine c_seq (fun K1 hK1 => ?_)
  refine c_region ?_
  refine tm rfl (mv_box rfl rfl) ?_
  rintro _ _ ⟨b1, rfl, rfl⟩
  refine tp rfl (lv_assign rfl) ?_
  refine t_done ?_
  refine q_then_n (hK1 _ _ ?_)
  refine c_seq (fun K2 hK2 => ?_)
  refine c_region ?_
  refine tp rfl (lv_move rfl) ?_
  refine tp rfl (lv_makeFunc rfl) ?_
  refine t_f1 ?_
  refine tc rfl (en_fn Tryd.call36 rfl) (containsFunc_ok (p := fun a => decide (a < 0) || decide (a ≥ (N : Int))) ts ⟨Tryd.call46, fun x _ => there1_ok x⟩ (Rd.cons (Rd.cons hx)) okx (by first | omega | (simp; omega) | (simp; done))) ?_
  rintro _ _ ⟨rfl, rfl⟩
  refine tp rfl (lv_not (c := !((ts).any (fun a => decide (a < 0) || decide (a ≥ (N : Int))))) rfl rfl) ?_
  refine tp rfl (lv_assign rfl) ?_
  refine t_done ?_
  refine q_then_n (hK2 _ _ ?_)
  refine c_ret ?_
  refine t_f1 ?_
  refine t_drop ?_
  refine q_ret rfl rfl ?_
  exact ⟨rfl, rfl⟩

theorem there_is {R : List HP} {p N : Nat} {es : Es} {bs : Option Addr} {cp : Nat} (ts : List Int) {b : Bool} (hb : thereB N ts = b) (hx : Rd R bs (ints .i64 ts)) (okx : SlOk bs ts.length) (lx : ts.length ≤ 4611686018427387904) :
    Ok Tryd.prog 39 [(.pointer (some ⟨p, 0, none⟩)), (.slice bs ts.length cp)] (GraphO p N es :: R) (fun v M => v = .bool b ∧ M = GraphO p N es :: R) := hb ▸ there_ok ts hx okx lx
end Go.Proofs.YtppgccafgfpkdaaDoor
