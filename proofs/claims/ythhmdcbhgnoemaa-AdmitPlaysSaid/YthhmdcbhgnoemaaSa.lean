/- Functions of package slices over ints. -/
import Derived.KernelRfl
import Derived.Test.YthhmdcbhgnoemaaProg
import Derived.Test.YthhmdcbhgnoemaaVal2
import Derived.Test.YthhmdcbhgnoemaaIdx
import Derived.Test.YthhmdcbhgnoemaaDrw
set_option maxRecDepth 100000
set_option linter.unusedVariables false
set_option linter.unusedSimpArgs false
namespace Go.Proofs.Ythhmdcbhgnoemaa
open Go Go.Proofs Sp
theorem Try.mixed : Try.prog.follows .mixedOrders = true := by kernel_rfl

theorem mem_getD {xs : List Int} {k : Nat} (h : k < xs.length) : xs.getD k 0 ∈ xs := by simp [List.getD, h]

theorem sindex_ok {R : List HP} {bx : Option Addr} {cx : Nat} (xs : List Int) (v : Int) (hx : Rd R bx (ints .i64 xs)) (okx : SlOk bx xs.length) (lx : xs.length ≤ 4611686018427387904) :
    Ok Try.prog 27 [(.slice bx xs.length cx), (.int .i64 v)] R
      (fun u M => u = .int .i64 (idxF (fun y => decide (v = y)) xs) ∧ M = R) := by
  refine ok_of (N := 19) Try.func27 rfl rfl rfl (fun W => ?_)
  refine c_seq (fun K1 hK1 => ?_)
  refine c_region ?_
  refine tp rfl (lv_assign rfl) ?_
  refine t_done ?_
  refine q_then_n (hK1 _ _ ?_)
  refine c_seq (fun K2 hK2 => ?_)
  refine c_seq (fun K3 hK3 => ?_)
  refine c_region ?_
  refine tp rfl (lv_move rfl) ?_
  refine tp rfl (lv_len Try.underlying27 rfl rfl) ?_
  refine tp rfl (lv_move rfl) ?_
  refine t_done ?_
  refine q_then_n (hK3 _ _ ?_)
  refine c_block ?_
  refine c_loop (γ := (Nat)) (fun (k : Nat) => k ≤ xs.length ∧ (∀ j, j < k → decide (v = xs.getD j 0) = false)) (fun (k : Nat) => [(0, (.slice bx xs.length cx)), (1, (.int .i64 v)), (7, (.int .i64 ((xs.length : Nat) : Int))), (8, (.int .i64 ((k : Nat) : Int)))]) (fun (k : Nat) => R) (fun (k : Nat) => xs.length - k) (0) ⟨by omega, fun j hj => by omega⟩ ⟨rfl, rfl, rfl, rfl, trivial⟩ (fun _ h => h) ?_
  rintro k K4 hF hK4
  try dsimp only at hF hK4 ⊢
  obtain ⟨hk, hall⟩ := hF
  refine c_seq (fun K5 hK5 => ?_)
  refine c_region ?_
  by_cases h1 : ((k : Nat) : Int) < ((xs.length : Nat) : Int)
  · -- yes
    refine tp rfl (lv_lss rfl rfl (decide_eq_true h1)) ?_
    refine t_done ?_
    refine q_then_n (hK5 _ _ ?_)
    refine c_seq (fun K6 hK6 => ?_)
    refine c_true rfl ?_
    refine c_skip ?_
    refine q_then_n (hK6 _ _ ?_)
    refine c_seq (fun K7 hK7 => ?_)
    refine c_block ?_
    refine c_seq (fun K8 hK8 => ?_)
    refine c_region ?_
    refine tp rfl (lv_move rfl) ?_
    refine tp rfl (lv_assign rfl) ?_
    refine t_done ?_
    refine q_then_n (hK8 _ _ ?_)
    refine c_seq (fun K9 hK9 => ?_)
    refine c_region ?_
    refine tp rfl (lv_move rfl) ?_
    refine tp rfl (lv_move rfl) ?_
    refine tp rfl (lv_move rfl) ?_
    refine tp rfl (lv_indexAddr (k' := k) Try.underlying27 Try.sizeOf3 rfl rfl okx (by omega) (by omega) (by omega)) ?_
    refine tp rfl (lv_load Try.isAgg3 rfl (Rd.gives hx (ints_get (by first | omega | (simp; omega))))) ?_
    by_cases heq : v = ((xs).getD k 0)
    · -- yes
      refine tp rfl (lv_eql rfl rfl (beq_iff_eq.2 heq)) ?_
      refine t_done ?_
      refine q_then_n (hK9 _ _ ?_)
      refine c_true rfl ?_
      refine c_seq (fun K10 hK10 => ?_)
      refine c_region ?_
      refine tp rfl (lv_move rfl) ?_
      refine tp rfl (lv_assign rfl) ?_
      refine t_done ?_
      refine q_then_n (hK10 _ _ ?_)
      refine c_ret ?_
      refine q_in_r ?_
      refine q_then_r ?_
      refine q_then_r ?_
      refine q_in_r ?_
      refine q_then_r ?_
      refine q_ret rfl rfl ?_
      exact ⟨by rw [idxF_at (p := fun y => decide (v = y)) (k := k) (by omega) (decide_eq_true ‹_›) hall], rfl⟩
    · -- no
      refine tp rfl (lv_eql rfl rfl (beq_eq_false_iff_ne.2 heq)) ?_
      refine t_done ?_
      refine q_then_n (hK9 _ _ ?_)
      refine c_false rfl ?_
      refine c_skip ?_
      refine q_in_n ?_
      refine q_then_n (hK7 _ _ ?_)
      refine c_region ?_
      refine tp rfl (lv_add (c := ((k + 1 : Nat) : Int)) rfl rfl (wr_i64_succ (by omega))) ?_
      refine tp rfl (lv_move rfl) ?_
      refine t_done ?_
      refine q_then_n ?_
      exact t_weak (by exact ⟨rfl, rfl, rfl, rfl, trivial⟩) ((hK4 (k + 1) ⟨by omega, all_succ hall (decide_eq_false ‹_›)⟩ (by omega)))
  · -- no
    refine tp rfl (lv_lss rfl rfl (decide_eq_false h1)) ?_
    refine t_done ?_
    refine q_then_n (hK5 _ _ ?_)
    refine c_seq (fun K6 hK6 => ?_)
    refine c_false rfl ?_
    refine c_exit ?_
    refine q_then_x ?_
    refine q_then_x ?_
    refine q_in_x ?_
    refine q_then_n (hK2 _ _ ?_)
    refine c_seq (fun K7 hK7 => ?_)
    refine c_region ?_
    refine tp rfl (lv_assign rfl) ?_
    refine t_done ?_
    refine q_then_n (hK7 _ _ ?_)
    refine c_ret ?_
    refine q_ret rfl rfl ?_
    exact ⟨by rw [idxF_none (p := fun y => decide (v = y)) (fun j hj => hall j (by omega))], rfl⟩

theorem idx_contains (v : Int) (xs : List Int) : decide (idxF (fun y => decide (v = y)) xs ≥ 0) = xs.contains v := by
  have := idxF_any (fun y => decide (v = y)) xs
  rw [this, Bool.eq_iff_iff, List.any_eq_true, List.contains_iff_mem]
  exact ⟨fun ⟨x, hx, e⟩ => by have := of_decide_eq_true e; exact this ▸ hx, fun h => ⟨v, h, by simp⟩⟩

theorem scontains_ok {R : List HP} {bx : Option Addr} {cx : Nat} (xs : List Int) (v : Int) (hx : Rd R bx (ints .i64 xs)) (okx : SlOk bx xs.length) (lx : xs.length ≤ 4611686018427387904) :
    Ok Try.prog 30 [(.slice bx xs.length cx), (.int .i64 v)] R
      (fun u M => u = .bool (xs.contains v) ∧ M = R) := by
  refine ok_of (N := 9) Try.func30 rfl rfl rfl (fun W => ?_)
  refine c_seq (fun K1 hK1 => ?_)
  refine c_region ?_
  refine tp rfl (lv_assign rfl) ?_
  refine t_done ?_
  refine q_then_n (hK1 _ _ ?_)
  refine c_seq (fun K2 hK2 => ?_)
  refine c_region ?_
  refine tp rfl (lv_move rfl) ?_
  refine tp rfl (lv_move rfl) ?_
  refine tc rfl (en_fn Try.call27 rfl) (sindex_ok xs v hx okx (by first | omega | (simp; omega) | (simp; done))) ?_
  rintro _ _ ⟨rfl, hMR⟩
  rw [hMR]; clear hMR
  refine tp rfl (lv_geq rfl rfl (idx_contains v xs)) ?_
  refine tp rfl (lv_assign rfl) ?_
  refine t_done ?_
  refine q_then_n (hK2 _ _ ?_)
  refine c_ret ?_
  refine q_ret rfl rfl ?_
  exact ⟨rfl, rfl⟩

theorem clone_ok {R : List HP} {bx : Option Addr} {cx : Nat} (xs : List Int) (hx : Rd R bx (ints .i64 xs)) (okx : SlOk bx xs.length) (lx : xs.length ≤ 1099511627776) :
    Ok Try.prog 29 [(.slice bx xs.length cx)] R
      (OutSl 3 1 xs.length (ints .i64 xs) R) := by
  refine ok_of (N := 8) Try.func29 rfl rfl rfl (fun W => ?_)
  refine c_seq (fun K1 hK1 => ?_)
  refine c_region ?_
  refine tp rfl (lv_assign rfl) ?_
  refine t_done ?_
  refine q_then_n (hK1 _ _ ?_)
  refine c_seq (fun K2 hK2 => ?_)
  refine c_seq (fun K3 hK3 => ?_)
  refine c_region ?_
  refine tp rfl (lv_move rfl) ?_
  rcases hnhnil1 : (bx).isNone with _ | _
  · -- nil: false
    refine tp rfl (lv_eqnils Try.underlying27 rfl rfl hnhnil1) ?_
    refine t_done ?_
    refine q_then_n (hK3 _ _ ?_)
    refine c_false rfl ?_
    refine c_skip ?_
    refine q_then_n (hK2 _ _ ?_)
    refine c_seq (fun K4 hK4 => ?_)
    refine c_region ?_
    refine tm rfl (mv_buildSlice (cs := []) Try.underlying27 Try.sizeOf3 Try.zeroValue3 (by decide) rfl rfl rfl rfl) ?_
    rintro _ _ ⟨bs2, cp3, hok4, hle5, rfl, rfl⟩
    refine tp rfl (lv_move rfl) ?_
    refine tm rfl (mv_append (i := Try.t3) Try.underlying27 Try.type3 rfl rfl rfl (by decide) rfl rfl okx (by simp) (Rd.cons hx) ints_one (by rw [show Try.t3.bytes = 8 from rfl]; omega)) ?_
    rintro _ _ ⟨bs6, cp7, hok8, hle9, rfl, rfl⟩
    simp only [Nat.zero_add] at hok8 hle9 ⊢
    rw [List.nil_append]
    refine tp rfl (lv_assign rfl) ?_
    refine t_done ?_
    refine q_then_n (hK4 _ _ ?_)
    refine c_ret ?_
    refine q_ret rfl rfl ?_
    exact ⟨_, _, hok8, hle9, rfl, rfl⟩
  · -- nil: true
    refine tp rfl (lv_eqnils Try.underlying27 rfl rfl hnhnil1) ?_
    refine t_done ?_
    refine q_then_n (hK3 _ _ ?_)
    refine c_true rfl ?_
    refine c_seq (fun K4 hK4 => ?_)
    refine c_region ?_
    refine tp rfl (lv_assign rfl) ?_
    refine t_done ?_
    refine q_then_n (hK4 _ _ ?_)
    refine c_ret ?_
    refine q_then_r ?_
    refine t_sat (fun _ h => sat_nilsl 3 1 h) ?_
    refine q_ret rfl rfl ?_
    obtain rfl : xs = [] := List.eq_nil_of_length_eq_zero (slok_isNone okx ‹_›)
    exact ⟨none, 0, slok_none, Nat.le_refl _, rfl, rfl⟩

theorem erase_take {xs : List Int} {i : Nat} (h : i < xs.length) (n : Nat) (hn : n = xs.length - 1) (zs : List Int) : (xs.take i ++ xs.drop (i + 1) ++ zs).take n = xs.eraseIdx i := by
  have hl : (xs.take i ++ xs.drop (i + 1)).length = n := by simp; omega
  rw [List.take_append_of_le_length (by omega), List.take_of_length_le (by omega), List.eraseIdx_eq_take_drop_succ]

theorem sdelete_ok {R : List HP} {bx : Option Addr} {cx : Nat} (xs : List Int) (i : Nat) (hi : i < xs.length) :
    Ok Try.prog 28 [(.slice bx xs.length cx), (.int .i64 ((i : Nat) : Int)), (.int .i64 ((i + 1 : Nat) : Int))] ((SlV 3 1 (.slice bx xs.length cx) xs.length (ints .i64 xs)) :: R)
      (fun v M => v = .slice bx (xs.eraseIdx i).length cx ∧ M = SlV 3 1 (.slice bx (xs.eraseIdx i).length cx) (xs.eraseIdx i).length (ints .i64 (xs.eraseIdx i)) :: R) := by
  refine ok_of (N := 33) Try.func28 rfl rfl rfl (fun W => ?_)
  refine t_learn (fun _ h => slv_facts h) (fun hbx => ?_)
  obtain ⟨okx, hcx, hmx⟩ := hbx
  unfold maxLen at hmx
  refine c_seq (fun K1 hK1 => ?_)
  refine c_region ?_
  refine tp rfl (lv_assign rfl) ?_
  refine t_done ?_
  refine q_then_n (hK1 _ _ ?_)
  refine c_seq (fun K2 hK2 => ?_)
  refine c_region ?_
  refine tp rfl (lv_move rfl) ?_
  refine tp rfl (lv_move rfl) ?_
  refine tp rfl (lv_move rfl) ?_
  refine tp rfl (lv_move rfl) ?_
  refine tp rfl (lv_len Try.underlying27 rfl rfl) ?_
  refine tp rfl (lv_slice (l := i) (h := i + 1) (m := xs.length) (v := (.slice (sbase bx i xs.length 1) ((i + 1) - i) (xs.length - i))) Try.underlying27 Try.sizeOf3 rfl rfl rfl rfl (.inl ⟨_, _, rfl, (by omega), (by omega), (by omega)⟩) (.inl ⟨_, _, rfl, (by omega), (by omega), (by omega)⟩) (.inl ⟨_, _, rfl, (by omega), (by omega), (by omega)⟩) (by simp) rfl) ?_
  refine t_done ?_
  refine q_then_n (hK2 _ _ ?_)
  refine c_seq (fun K3 hK3 => ?_)
  refine c_seq (fun K4 hK4 => ?_)
  refine c_region ?_
  refine tp rfl (lv_move rfl) ?_
  refine tp rfl (lv_move rfl) ?_
  refine tp rfl (lv_eql rfl rfl (beq_eq_false_iff_ne.2 (by omega))) ?_
  refine t_done ?_
  refine q_then_n (hK4 _ _ ?_)
  refine c_false rfl ?_
  refine c_skip ?_
  refine q_then_n (hK3 _ _ ?_)
  refine c_seq (fun K5 hK5 => ?_)
  refine c_region ?_
  refine tp rfl (lv_move rfl) ?_
  refine tp rfl (lv_len Try.underlying27 rfl rfl) ?_
  refine tp rfl (lv_assign rfl) ?_
  refine t_done ?_
  refine q_then_n (hK5 _ _ ?_)
  refine c_seq (fun K6 hK6 => ?_)
  refine c_draw (γ := Unit) (n := 8) Try.mixed rfl rfl (fun _ S => True) (fun _ => [(0, 20, (.slice bx xs.length cx)), (1, 21, (.int .i64 ((i : Nat) : Int))), (2, 22, (.slice bx i cx)), (3, 23, (.slice bx xs.length cx)), (4, 24, (.int .i64 ((i + 1 : Nat) : Int))), (5, 25, (.slice (sbase bx (i + 1) cx 1) (xs.length - (i + 1)) (cx - (i + 1)))), (6, 26, (.slice bx (i + (xs.length - (i + 1))) cx)), (7, 0, (.slice bx (i + (xs.length - (i + 1))) cx))]) (fun _ S => (bif S 6 then (SlV 3 1 (.slice bx xs.length cx) xs.length (ints .i64 (xs.take i ++ ((xs).drop (i + 1)) ++ xs.drop (i + (xs.length - (i + 1)))))) else (SlV 3 1 (.slice bx xs.length cx) xs.length (ints .i64 xs))) :: R) (()) trivial (fun _ h => h) (fun _ _ h => h) ?_ ?_
  · -- steps
    refine ⟨?_, ?_, ?_, ?_, ?_, ?_, ?_, ?_, trivial⟩
    · -- 0
      rintro _ S hF hS D hp K hK
      try dsimp only at hF ⊢
      refine d_need (small := [(0, (.slice bx xs.length cx))]) ⟨look_b1 7 (nf hS D (k := 7) (i := 0) rfl) rfl rfl, trivial⟩ ?_
      refine tp rfl (lv_move rfl) ?_
      exact d_closes ⟨look_b1 7 (nf hS D (k := 7) (i := 0) rfl) rfl rfl, trivial⟩ 0 rfl rfl rfl hS (AgreeR.refl _) (t_sat (fun _ h => h) (hK () trivial))
    · -- 1
      rintro _ S hF hS D hp K hK
      try dsimp only at hF ⊢
      refine d_need (small := [(1, (.int .i64 ((i : Nat) : Int)))]) ⟨look_b rfl rfl, trivial⟩ ?_
      refine tp rfl (lv_move rfl) ?_
      exact d_closes ⟨look_b rfl rfl, trivial⟩ 1 rfl rfl rfl hS (AgreeR.refl _) (t_sat (fun _ h => h) (hK () trivial))
    · -- 2
      rintro _ S hF hS D hp K hK
      try dsimp only at hF ⊢
      have s0 := hp 0 rfl
      have s1 := hp 1 rfl
      refine d_need (small := [(20, (.slice bx xs.length cx)), (21, (.int .i64 ((i : Nat) : Int)))]) ⟨look_row rfl 0 rfl s0, look_row rfl 1 rfl s1, trivial⟩ ?_
      refine tp rfl (lv_slice (l := 0) (h := i) (m := cx) (v := (.slice bx i cx)) Try.underlying27 Try.sizeOf3 rfl rfl rfl rfl (.inr ⟨rfl, rfl⟩) (.inl ⟨_, _, rfl, (by omega), (by omega), (by omega)⟩) (.inr ⟨rfl, rfl⟩) (by simp) (by rw [sbase_zero]; rfl)) ?_
      exact d_closes ⟨look_row rfl 0 rfl s0, look_row rfl 1 rfl s1, trivial⟩ 2 rfl rfl rfl hS (AgreeR.refl _) (t_sat (fun _ h => h) (hK () trivial))
    · -- 3
      rintro _ S hF hS D hp K hK
      try dsimp only at hF ⊢
      refine d_need (small := [(0, (.slice bx xs.length cx))]) ⟨look_b1 7 (nf hS D (k := 7) (i := 3) rfl) rfl rfl, trivial⟩ ?_
      refine tp rfl (lv_move rfl) ?_
      exact d_closes ⟨look_b1 7 (nf hS D (k := 7) (i := 3) rfl) rfl rfl, trivial⟩ 3 rfl rfl rfl hS (AgreeR.refl _) (t_sat (fun _ h => h) (hK () trivial))
    · -- 4
      rintro _ S hF hS D hp K hK
      try dsimp only at hF ⊢
      refine d_need (small := [(2, (.int .i64 ((i + 1 : Nat) : Int)))]) ⟨look_b rfl rfl, trivial⟩ ?_
      refine tp rfl (lv_move rfl) ?_
      exact d_closes ⟨look_b rfl rfl, trivial⟩ 4 rfl rfl rfl hS (AgreeR.refl _) (t_sat (fun _ h => h) (hK () trivial))
    · -- 5
      rintro _ S hF hS D hp K hK
      try dsimp only at hF ⊢
      have s3 := hp 3 rfl
      have s4 := hp 4 rfl
      refine d_need (small := [(23, (.slice bx xs.length cx)), (24, (.int .i64 ((i + 1 : Nat) : Int)))]) ⟨look_row rfl 3 rfl s3, look_row rfl 4 rfl s4, trivial⟩ ?_
      refine tp rfl (lv_slice (l := i + 1) (h := xs.length) (m := cx) (v := (.slice (sbase bx (i + 1) cx 1) (xs.length - (i + 1)) (cx - (i + 1)))) Try.underlying27 Try.sizeOf3 rfl rfl rfl rfl (.inr ⟨rfl, rfl⟩) (.inr ⟨rfl, rfl⟩) (.inl ⟨_, _, rfl, (by omega), (by omega), (by omega)⟩) (by simp) rfl) ?_
      exact d_closes ⟨look_row rfl 3 rfl s3, look_row rfl 4 rfl s4, trivial⟩ 5 rfl rfl rfl hS (AgreeR.refl _) (t_sat (fun _ h => h) (hK () trivial))
    · -- 6
      rintro _ S hF hS D hp K hK
      try dsimp only at hF ⊢
      have s2 := hp 2 rfl
      have s5 := hp 5 rfl
      refine d_need (small := [(22, (.slice bx i cx)), (25, (.slice (sbase bx (i + 1) cx 1) (xs.length - (i + 1)) (cx - (i + 1))))]) ⟨look_row rfl 2 rfl s2, look_row rfl 5 rfl s5, trivial⟩ ?_
      refine t_cF hS ?_
      refine tm rfl (mv_appendOwn (i := Try.t3) (k := i) Try.underlying27 Try.type3 rfl rfl rfl (slok_sbase okx (by omega)) (by omega) (by first | (simp; done) | (simp; omega)) (rd_sb_ints (l := i + 1) (m := cx) (rd_sl (.head _)) okx rfl hcx) ints_one (by omega) ints_splice) ?_
      rintro _ _ ⟨rfl, rfl⟩
      exact d_closes ⟨look_row rfl 2 rfl s2, look_row rfl 5 rfl s5, trivial⟩ 6 rfl rfl rfl hS (AgreeR.refl _) (t_sat (fun _ h => h) (hK () trivial))
    · -- 7
      rintro _ S hF hS D hp K hK
      try dsimp only at hF ⊢
      have s6 := hp 6 rfl
      refine d_need (small := [(26, (.slice bx (i + (xs.length - (i + 1))) cx))]) ⟨look_row rfl 6 rfl s6, trivial⟩ ?_
      refine tp rfl (lv_assign rfl) ?_
      exact d_closes ⟨look_row rfl 6 rfl s6, trivial⟩ 7 rfl rfl rfl hS (AgreeR.refl _) (t_sat (fun _ h => h) (hK () trivial))
  · -- behind
    rintro _ hF
    try dsimp only at hF ⊢
    refine t_weak (E' := [(0, (.slice bx (i + (xs.length - (i + 1))) cx)), (1, (.int .i64 ((i : Nat) : Int))), (2, (.int .i64 ((i + 1 : Nat) : Int))), (6, (.slice none 0 0)), (7, (.int .i64 ((xs.length : Nat) : Int))), (16, (.bool false))]) ⟨rfl, rfl, rfl, rfl, rfl, rfl, trivial⟩ ?_
    refine q_then_n (hK6 _ _ ?_)
    refine c_seq (fun K7 hK7 => ?_)
    refine c_region ?_
    refine tp rfl (lv_move rfl) ?_
    refine tp rfl (lv_move rfl) ?_
    refine tp rfl (lv_len Try.underlying27 rfl rfl) ?_
    refine tp rfl (lv_move rfl) ?_
    refine tp rfl (lv_slice (l := i + (xs.length - (i + 1))) (h := xs.length) (m := cx) (v := (.slice (sbase bx (i + (xs.length - (i + 1))) cx 1) (xs.length - (i + (xs.length - (i + 1)))) (cx - (i + (xs.length - (i + 1)))))) Try.underlying27 Try.sizeOf3 rfl rfl rfl rfl (.inr ⟨rfl, rfl⟩) (.inl ⟨_, _, rfl, (by omega), (by omega), (by omega)⟩) (.inl ⟨_, _, rfl, (by omega), (by omega), (by omega)⟩) (by simp) rfl) ?_
    refine tm0 (mv_clear (l := i + (xs.length - (i + 1))) (c := cx) Try.underlying27 Try.zeroValue3 rfl rfl (by decide) rfl okx (by omega) (by omega) (by omega)) ?_
    rintro _ _ ⟨zs1, rfl⟩
    refine t_done ?_
    refine q_then_n (hK7 _ _ ?_)
    refine c_seq (fun K8 hK8 => ?_)
    refine c_region ?_
    refine tp rfl (lv_move rfl) ?_
    refine tp rfl (lv_assign rfl) ?_
    refine t_done ?_
    refine q_then_n (hK8 _ _ ?_)
    refine c_ret ?_
    refine t_sat (fun _ h => sat_cut_ints (by omega) (by omega) (by simp; omega) h) ?_
    rw [erase_take hi _ (by omega)]
    rw [show i + (xs.length - (i + 1)) = (xs.eraseIdx i).length by rw [List.length_eraseIdx, if_pos hi]; omega]
    refine q_ret rfl rfl ?_
    exact ⟨rfl, rfl⟩
end Go.Proofs.Ythhmdcbhgnoemaa
