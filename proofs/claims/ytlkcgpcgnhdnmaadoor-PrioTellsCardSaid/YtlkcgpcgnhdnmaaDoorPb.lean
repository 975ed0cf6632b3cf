/- Contracts of prio: Raised. -/
import Derived.Test.YtlkcgpcgnhdnmaaDoorPa
set_option maxRecDepth 100000
set_option linter.unusedVariables false
set_option linter.unusedSimpArgs false
namespace Go.Proofs.YtlkcgpcgnhdnmaaDoor
open Go Go.Proofs Sp
theorem deleteFunc_ok {R : List HP} {p : Int → Bool} {f : Nat} {caps : List Value} {bx : Option Addr} {cx : Nat} (xs : List Int) (hf : (∀ args w, (callFunc f args).run Tryd.prog w = .ok (.enter f args) w) ∧ ∀ x ∈ xs, ∀ ys : List Int, ys.length = xs.length → Ok Tryd.prog f ([.int .i64 x] ++ caps) (SlV 3 1 (.slice bx xs.length cx) xs.length (ints .i64 ys) :: R) (fun v M => v = .bool (p x) ∧ M = SlV 3 1 (.slice bx xs.length cx) xs.length (ints .i64 ys) :: R)) (lx : xs.length ≤ 1000000) :
    Ok Tryd.prog 29 [(.slice bx xs.length cx), (.func (.func f) #[] caps.toArray)] ((SlV 3 1 (.slice bx xs.length cx) xs.length (ints .i64 xs)) :: R)
      (fun v M => v = .slice bx (xs.filter (fun x => !p x)).length cx ∧ M = SlV 3 1 (.slice bx (xs.filter (fun x => !p x)).length cx) (xs.filter (fun x => !p x)).length (ints .i64 (xs.filter (fun x => !p x))) :: R) := by
  refine ok_of (N := 42) Tryd.func29 rfl rfl rfl (fun W => ?_)
  refine t_learn (fun _ h => slv_facts h) (fun hbx => ?_)
  obtain ⟨okx, hcx, hmx⟩ := hbx
  unfold maxLen at hmx
  obtain ⟨hcall, hf⟩ := hf
  refine c_seq (fun K1 hK1 => ?_)
  refine c_region ?_
  refine tp rfl (lv_assign rfl) ?_
  refine t_done ?_
  refine q_then_n (hK1 _ _ ?_)
  refine c_seq (fun K2 hK2 => ?_)
  refine c_region ?_
  refine tp rfl (lv_move rfl) ?_
  refine tp rfl (lv_move rfl) ?_
  refine tc rfl (en_fn Tryd.call39 rfl) (indexFunc_ok (p := p) xs ⟨hcall, fun x hx => hf x hx xs rfl⟩ (rd_sl (.head _)) okx (by first | omega | (simp; omega) | (simp; done))) ?_
  rintro _ _ ⟨rfl, rfl⟩
  refine tp rfl (lv_assign rfl) ?_
  refine t_done ?_
  refine q_then_n (hK2 _ _ ?_)
  refine c_seq (fun K3 hK3 => ?_)
  refine c_seq (fun K4 hK4 => ?_)
  refine c_region ?_
  refine tp rfl (lv_move rfl) ?_
  by_cases hnone : (idxF p xs) = (-1)
  · -- yes
    refine tp rfl (lv_eql rfl rfl (beq_iff_eq.2 hnone)) ?_
    refine t_done ?_
    refine q_then_n (hK4 _ _ ?_)
    refine c_true rfl ?_
    refine c_seq (fun K5 hK5 => ?_)
    refine c_region ?_
    refine tp rfl (lv_move rfl) ?_
    refine tp rfl (lv_assign rfl) ?_
    refine t_done ?_
    refine q_then_n (hK5 _ _ ?_)
    refine c_ret ?_
    refine q_then_r ?_
    rw [show ints .i64 xs = ints .i64 (xs.filter (fun x => !p x)) from by rw [filter_none hnone]]
    refine q_ret rfl rfl ?_
    have e : xs.length = (xs.filter (fun x => !p x)).length := by rw [filter_none hnone]
    rw [← e]
    exact ⟨rfl, rfl⟩
  · -- no
    refine tp rfl (lv_eql rfl rfl (beq_eq_false_iff_ne.2 hnone)) ?_
    refine t_done ?_
    refine q_then_n (hK4 _ _ ?_)
    refine c_false rfl ?_
    refine c_skip ?_
    refine q_then_n (hK3 _ _ ?_)
    refine c_seq (fun K5 hK5 => ?_)
    refine c_seq (fun K6 hK6 => ?_)
    refine c_region ?_
    obtain ⟨k0, hk0, hk1, hk2, hk3⟩ := idxF_some hnone
    rw [hk0]
    refine tp rfl (lv_move rfl) ?_
    refine tp rfl (lv_add (c := ((k0 + 1 : Nat) : Int)) rfl rfl (wr_i64_succ (by omega))) ?_
    refine tp rfl (lv_assign rfl) ?_
    refine t_done ?_
    refine q_then_n (hK6 _ _ ?_)
    refine c_block ?_
    refine c_loop (γ := (Nat) × (Nat) × (List Int)) (fun (i, j, ys) => DelI p xs i j ys) (fun (i, j, ys) => [(0, (.slice bx xs.length cx)), (1, (.func (.func f) #[] caps.toArray)), (4, (.slice none 0 0)), (5, (.int .i64 ((i : Nat) : Int))), (6, (.int .i64 ((j : Nat) : Int))), (12, (.bool false))]) (fun (i, j, ys) => (SlV 3 1 (.slice bx xs.length cx) xs.length (ints .i64 ys)) :: R) (fun (i, j, ys) => xs.length - j) (k0, k0 + 1, xs) (DelI.start hk1 hk2 hk3) ⟨rfl, rfl, rfl, rfl, rfl, rfl, trivial⟩ (fun _ h => h) ?_
    rintro ⟨i, j, ys⟩ K7 hF hK7
    try dsimp only at hF hK7 ⊢
    have hyl := hF.len
    have hij := hF.lt
    have hjl := hF.le
    refine c_seq (fun K8 hK8 => ?_)
    refine c_seq (fun K9 hK9 => ?_)
    refine c_region ?_
    refine tp rfl (lv_move rfl) ?_
    refine tp rfl (lv_move rfl) ?_
    refine tp rfl (lv_len Tryd.underlying38 rfl rfl) ?_
    by_cases h1 : ((j : Nat) : Int) < ((xs.length : Nat) : Int)
    · -- yes
      refine tp rfl (lv_lss rfl rfl (decide_eq_true h1)) ?_
      refine t_done ?_
      refine q_then_n (hK9 _ _ ?_)
      refine c_true rfl ?_
      refine c_skip ?_
      refine q_then_n (hK8 _ _ ?_)
      refine c_seq (fun K10 hK10 => ?_)
      refine c_block ?_
      refine c_seq (fun K11 hK11 => ?_)
      refine c_region ?_
      refine tp rfl (lv_move rfl) ?_
      refine tp rfl (lv_move rfl) ?_
      refine tp rfl (lv_indexAddr (k' := j) Tryd.underlying38 Tryd.sizeOf3 rfl rfl okx (by omega) (by omega) (by omega)) ?_
      refine tp rfl (lv_load Tryd.isAgg3 rfl (gives_sl (.head _) (ints_get (by first | omega | (simp; omega))))) ?_
      refine tp rfl (lv_assign rfl) ?_
      refine t_done ?_
      refine q_then_n (hK11 _ _ ?_)
      refine c_seq (fun K12 hK12 => ?_)
      refine c_region ?_
      refine tp rfl (lv_move rfl) ?_
      refine tp rfl (lv_move rfl) ?_
      refine tc rfl (en_clo hcall rfl rfl) (hf (ys.getD j 0) (by rw [hF.get (by omega)]; exact mem_getD (by omega)) ys hF.len) ?_
      rintro _ _ ⟨rfl, rfl⟩
      refine tp rfl (lv_not (c := !(p (ys.getD j 0))) rfl rfl) ?_
      refine t_done ?_
      refine q_then_n (hK12 _ _ ?_)
      refine c_split rfl (fun c2 => ?_) (fun c2 => ?_)
      · -- true
        have hpj := c2
        refine c_seq (fun K13 hK13 => ?_)
        refine c_region ?_
        refine tp rfl (lv_move rfl) ?_
        refine tp rfl (lv_move rfl) ?_
        refine tp rfl (lv_move rfl) ?_
        refine tp rfl (lv_indexAddr (k' := i) Tryd.underlying38 Tryd.sizeOf3 rfl rfl okx (by omega) (by omega) (by omega)) ?_
        refine ts (sv_sl Tryd.sizeOf3 rfl rfl rfl (by first | (rw [ints_length]; omega) | (simp; omega) | omega) ints_set) ?_
        refine t_done ?_
        refine q_then_n (hK13 _ _ ?_)
        refine c_region ?_
        refine tp rfl (lv_move rfl) ?_
        refine tp rfl (lv_add (c := ((i + 1 : Nat) : Int)) rfl rfl (wr_i64_succ (by omega))) ?_
        refine tp rfl (lv_assign rfl) ?_
        refine t_done ?_
        refine q_in_n ?_
        refine q_then_n (hK10 _ _ ?_)
        refine c_region ?_
        refine tp rfl (lv_move rfl) ?_
        refine tp rfl (lv_add (c := ((j + 1 : Nat) : Int)) rfl rfl (wr_i64_succ (by omega))) ?_
        refine tp rfl (lv_assign rfl) ?_
        refine t_done ?_
        refine q_then_n ?_
        exact t_weak (by exact ⟨rfl, rfl, rfl, rfl, rfl, rfl, trivial⟩) ((hK7 (i + 1, j + 1, (ys).set i ((ys).getD j 0)) (hF.keep (by omega) (by simpa using hpj)) (by dsimp only; omega)))
      · -- false
        have hpj := c2
        refine c_skip ?_
        refine q_in_n ?_
        refine q_then_n (hK10 _ _ ?_)
        refine c_region ?_
        refine tp rfl (lv_move rfl) ?_
        refine tp rfl (lv_add (c := ((j + 1 : Nat) : Int)) rfl rfl (wr_i64_succ (by omega))) ?_
        refine tp rfl (lv_assign rfl) ?_
        refine t_done ?_
        refine q_then_n ?_
        exact t_weak (by exact ⟨rfl, rfl, rfl, rfl, rfl, rfl, trivial⟩) ((hK7 (i, j + 1, ys) (hF.skip (by omega) (by simpa using hpj)) (by dsimp only; omega)))
    · -- no
      refine tp rfl (lv_lss rfl rfl (decide_eq_false h1)) ?_
      refine t_done ?_
      refine q_then_n (hK9 _ _ ?_)
      refine c_false rfl ?_
      refine c_exit ?_
      refine q_then_x ?_
      refine q_then_x ?_
      refine q_in_x ?_
      refine q_then_n (hK5 _ _ ?_)
      refine c_seq (fun K10 hK10 => ?_)
      refine c_region ?_
      refine tp rfl (lv_move rfl) ?_
      refine tp rfl (lv_move rfl) ?_
      refine tp rfl (lv_slice (l := i) (h := xs.length) (m := cx) (v := (.slice (sbase bx i cx 1) (xs.length - i) (cx - i))) Tryd.underlying38 Tryd.sizeOf3 rfl rfl rfl rfl (.inr ⟨rfl, rfl⟩) (.inr ⟨rfl, rfl⟩) (.inl ⟨_, _, rfl, (by omega), (by omega), (by omega)⟩) (by simp) rfl) ?_
      refine tm0 (mv_clear (l := i) (c := cx) Tryd.underlying38 Tryd.zeroValue3 rfl rfl (by decide) rfl okx (by omega) (by omega) (by omega)) ?_
      rintro _ _ ⟨zs3, rfl⟩
      refine t_done ?_
      refine q_then_n (hK10 _ _ ?_)
      refine c_seq (fun K11 hK11 => ?_)
      refine c_region ?_
      refine tp rfl (lv_move rfl) ?_
      refine tp rfl (lv_move rfl) ?_
      refine tp rfl (lv_slice (l := 0) (h := i) (m := cx) (v := (.slice bx i cx)) Tryd.underlying38 Tryd.sizeOf3 rfl rfl rfl rfl (.inr ⟨rfl, rfl⟩) (.inl ⟨_, _, rfl, (by omega), (by omega), (by omega)⟩) (.inr ⟨rfl, rfl⟩) (by simp) (by rw [sbase_zero]; rfl)) ?_
      refine tp rfl (lv_assign rfl) ?_
      refine t_done ?_
      refine q_then_n (hK11 _ _ ?_)
      refine c_ret ?_
      refine t_sat (fun _ h => sat_cut_ints (by omega) (by omega) hyl h) ?_
      have hdn := hF.done (by omega)
      rw [hdn]
      have hi : i = (xs.filter (fun x => !p x)).length := by rw [← hdn]; simp; omega
      subst hi
      refine q_ret rfl rfl ?_
      exact ⟨rfl, rfl⟩

theorem deleteFunc_n {R : List HP} {p : Int → Bool} {f n : Nat} {caps : List Value} {bx : Option Addr} {cx : Nat} (xs : List Int) (hn : xs.length = n) (hf : (∀ args w, (callFunc f args).run Tryd.prog w = .ok (.enter f args) w) ∧ ∀ x ∈ xs, ∀ ys : List Int, ys.length = xs.length → Ok Tryd.prog f ([.int .i64 x] ++ caps) (SlV 3 1 (.slice bx n cx) n (ints .i64 ys) :: R) (fun v M => v = .bool (p x) ∧ M = SlV 3 1 (.slice bx n cx) n (ints .i64 ys) :: R)) (lx : n ≤ 1000000) : Ok Tryd.prog 29 [.slice bx n cx, .func (.func f) #[] caps.toArray] (SlV 3 1 (.slice bx n cx) n (ints .i64 xs) :: R) (fun v M => v = .slice bx (xs.filter (fun x => !p x)).length cx ∧ M = SlV 3 1 (.slice bx (xs.filter (fun x => !p x)).length cx) (xs.filter (fun x => !p x)).length (ints .i64 (xs.filter (fun x => !p x))) :: R) := by subst hn; exact deleteFunc_ok xs hf lx

theorem deleteFunc_q {R : List HP} {p q : Int → Bool} {f n : Nat} {caps : List Value} {bx : Option Addr} {cx : Nat} (hq : ∀ x, p x = !q x) (xs : List Int) (hn : xs.length = n) (hf : (∀ args w, (callFunc f args).run Tryd.prog w = .ok (.enter f args) w) ∧ ∀ x ∈ xs, ∀ ys : List Int, ys.length = xs.length → Ok Tryd.prog f ([.int .i64 x] ++ caps) (SlV 3 1 (.slice bx n cx) n (ints .i64 ys) :: R) (fun v M => v = .bool (p x) ∧ M = SlV 3 1 (.slice bx n cx) n (ints .i64 ys) :: R)) (lx : n ≤ 1000000) :
    Ok Tryd.prog 29 [.slice bx n cx, .func (.func f) #[] caps.toArray] (SlV 3 1 (.slice bx n cx) n (ints .i64 xs) :: R) (fun v M => v = .slice bx (xs.filter q).length cx ∧ M = SlV 3 1 (.slice bx (xs.filter q).length cx) (xs.filter q).length (ints .i64 (xs.filter q)) :: R) := by
  have := deleteFunc_n xs hn hf lx
  have e : (fun x => !p x) = q := funext fun x => by rw [hq, Bool.not_not]
  rw [e] at this; exact this

theorem raised1_ok {R : List HP} (x a : Int) {c1 c2 n cp : Nat} {bp : Option Addr} (P : List Int) (hx : 0 ≤ x ∧ x < n) (ha : 0 ≤ a ∧ a < n) (hn : P.length = n) (hrp : Rd R bp (ints .i64 P)) (okp : SlOk bp n) (h1 : Gives R ⟨c1, 0, none⟩ (.slice bp n cp)) (h2 : Gives R ⟨c2, 0, none⟩ (.int .i64 a)) :
    Ok Tryd.prog 30 [(.int .i64 x), (.pointer (some ⟨c1, 0, none⟩)), (.pointer (some ⟨c2, 0, none⟩))] R
      (fun v M => v = .bool (!lowQ P a x) ∧ M = R) := by
  refine ok_of (N := 14) Tryd.func30 rfl rfl rfl (fun W => ?_)
  refine c_seq (fun K1 hK1 => ?_)
  refine c_region ?_
  refine tp rfl (lv_assign rfl) ?_
  refine t_done ?_
  refine q_then_n (hK1 _ _ ?_)
  refine c_seq (fun K2 hK2 => ?_)
  refine c_draw (γ := Unit) (n := 10) Tryd.mixed rfl rfl (fun _ S => True) (fun _ => [(0, 5, (.slice bp n cp)), (1, 6, (.int .i64 x)), (2, 7, (.pointer (some (ad bp x.toNat)))), (3, 8, (.int .i64 ((P).getD x.toNat 0))), (4, 9, (.slice bp n cp)), (5, 10, (.int .i64 a)), (6, 11, (.pointer (some (ad bp a.toNat)))), (7, 12, (.int .i64 ((P).getD a.toNat 0))), (8, 13, (.bool (decide (((P).getD x.toNat 0) ≥ ((P).getD a.toNat 0))))), (9, 4, (.bool (decide (((P).getD x.toNat 0) ≥ ((P).getD a.toNat 0)))))]) (fun _ S => R) (()) trivial (fun _ h => h) (fun _ _ h => h) ?_ ?_
  · -- steps
    refine ⟨?_, ?_, ?_, ?_, ?_, ?_, ?_, ?_, ?_, ?_, trivial⟩
    · -- 0
      rintro _ S hF hS D hp K hK
      try dsimp only at hF ⊢
      refine d_need (small := [(1, (.pointer (some ⟨c1, 0, none⟩)))]) ⟨look_b rfl rfl, trivial⟩ ?_
      refine tp rfl (lv_load Tryd.isAgg38 rfl h1) ?_
      exact d_closes ⟨look_b rfl rfl, trivial⟩ 0 rfl rfl rfl hS (AgreeR.refl _) (t_sat (fun _ h => h) (hK () trivial))
    · -- 1
      rintro _ S hF hS D hp K hK
      try dsimp only at hF ⊢
      refine d_need (small := [(0, (.int .i64 x))]) ⟨look_b rfl rfl, trivial⟩ ?_
      refine tp rfl (lv_move rfl) ?_
      exact d_closes ⟨look_b rfl rfl, trivial⟩ 1 rfl rfl rfl hS (AgreeR.refl _) (t_sat (fun _ h => h) (hK () trivial))
    · -- 2
      rintro _ S hF hS D hp K hK
      try dsimp only at hF ⊢
      have s0 := hp 0 rfl
      have s1 := hp 1 rfl
      refine d_need (small := [(5, (.slice bp n cp)), (6, (.int .i64 x))]) ⟨look_row rfl 0 rfl s0, look_row rfl 1 rfl s1, trivial⟩ ?_
      refine tp rfl (lv_indexAddr (k' := x.toNat) Tryd.underlying38 Tryd.sizeOf3 rfl rfl okp (by omega) (by omega) (by omega)) ?_
      exact d_closes ⟨look_row rfl 0 rfl s0, look_row rfl 1 rfl s1, trivial⟩ 2 rfl rfl rfl hS (AgreeR.refl _) (t_sat (fun _ h => h) (hK () trivial))
    · -- 3
      rintro _ S hF hS D hp K hK
      try dsimp only at hF ⊢
      have s2 := hp 2 rfl
      refine d_need (small := [(7, (.pointer (some (ad bp x.toNat))))]) ⟨look_row rfl 2 rfl s2, trivial⟩ ?_
      refine tp rfl (lv_load Tryd.isAgg3 rfl (Rd.gives hrp (ints_get (by omega)))) ?_
      exact d_closes ⟨look_row rfl 2 rfl s2, trivial⟩ 3 rfl rfl rfl hS (AgreeR.refl _) (t_sat (fun _ h => h) (hK () trivial))
    · -- 4
      rintro _ S hF hS D hp K hK
      try dsimp only at hF ⊢
      refine d_need (small := [(1, (.pointer (some ⟨c1, 0, none⟩)))]) ⟨look_b rfl rfl, trivial⟩ ?_
      refine tp rfl (lv_load Tryd.isAgg38 rfl h1) ?_
      exact d_closes ⟨look_b rfl rfl, trivial⟩ 4 rfl rfl rfl hS (AgreeR.refl _) (t_sat (fun _ h => h) (hK () trivial))
    · -- 5
      rintro _ S hF hS D hp K hK
      try dsimp only at hF ⊢
      refine d_need (small := [(2, (.pointer (some ⟨c2, 0, none⟩)))]) ⟨look_b rfl rfl, trivial⟩ ?_
      refine tp rfl (lv_load Tryd.isAgg3 rfl h2) ?_
      exact d_closes ⟨look_b rfl rfl, trivial⟩ 5 rfl rfl rfl hS (AgreeR.refl _) (t_sat (fun _ h => h) (hK () trivial))
    · -- 6
      rintro _ S hF hS D hp K hK
      try dsimp only at hF ⊢
      have s4 := hp 4 rfl
      have s5 := hp 5 rfl
      refine d_need (small := [(9, (.slice bp n cp)), (10, (.int .i64 a))]) ⟨look_row rfl 4 rfl s4, look_row rfl 5 rfl s5, trivial⟩ ?_
      refine tp rfl (lv_indexAddr (k' := a.toNat) Tryd.underlying38 Tryd.sizeOf3 rfl rfl okp (by omega) (by omega) (by omega)) ?_
      exact d_closes ⟨look_row rfl 4 rfl s4, look_row rfl 5 rfl s5, trivial⟩ 6 rfl rfl rfl hS (AgreeR.refl _) (t_sat (fun _ h => h) (hK () trivial))
    · -- 7
      rintro _ S hF hS D hp K hK
      try dsimp only at hF ⊢
      have s6 := hp 6 rfl
      refine d_need (small := [(11, (.pointer (some (ad bp a.toNat))))]) ⟨look_row rfl 6 rfl s6, trivial⟩ ?_
      refine tp rfl (lv_load Tryd.isAgg3 rfl (Rd.gives hrp (ints_get (by omega)))) ?_
      exact d_closes ⟨look_row rfl 6 rfl s6, trivial⟩ 7 rfl rfl rfl hS (AgreeR.refl _) (t_sat (fun _ h => h) (hK () trivial))
    · -- 8
      rintro _ S hF hS D hp K hK
      try dsimp only at hF ⊢
      have s3 := hp 3 rfl
      have s7 := hp 7 rfl
      refine d_need (small := [(8, (.int .i64 ((P).getD x.toNat 0))), (12, (.int .i64 ((P).getD a.toNat 0)))]) ⟨look_row rfl 3 rfl s3, look_row rfl 7 rfl s7, trivial⟩ ?_
      refine tp rfl (lv_geq rfl rfl rfl) ?_
      exact d_closes ⟨look_row rfl 3 rfl s3, look_row rfl 7 rfl s7, trivial⟩ 8 rfl rfl rfl hS (AgreeR.refl _) (t_sat (fun _ h => h) (hK () trivial))
    · -- 9
      rintro _ S hF hS D hp K hK
      try dsimp only at hF ⊢
      have s8 := hp 8 rfl
      refine d_need (small := [(13, (.bool (decide (((P).getD x.toNat 0) ≥ ((P).getD a.toNat 0)))))]) ⟨look_row rfl 8 rfl s8, trivial⟩ ?_
      refine tp rfl (lv_assign rfl) ?_
      exact d_closes ⟨look_row rfl 8 rfl s8, trivial⟩ 9 rfl rfl rfl hS (AgreeR.refl _) (t_sat (fun _ h => h) (hK () trivial))
  · -- behind
    rintro _ hF
    try dsimp only at hF ⊢
    refine t_weak (E' := [(0, (.int .i64 x)), (1, (.pointer (some ⟨c1, 0, none⟩))), (2, (.pointer (some ⟨c2, 0, none⟩))), (4, (.bool (decide (((P).getD x.toNat 0) ≥ ((P).getD a.toNat 0)))))]) ⟨rfl, rfl, rfl, rfl, trivial⟩ ?_
    refine q_then_n (hK2 _ _ ?_)
    refine c_ret ?_
    refine q_ret rfl rfl ?_
    refine ⟨?_, rfl⟩
    congr 1
    unfold lowQ
    rw [Bool.eq_iff_iff]
    simp

set_option maxHeartbeats 4000000 in
theorem raised_ok {R : List HP} {g N nr cl : Nat} {E : Es} {bl : Option Addr} (rs : List R3) (a b : Int) (hn : rs.length = nr) (hl : Rd R bl (recs triF rs)) (okl : SlOk bl nr) (lr : nr ≤ 1000000) (hT : Tab R) :
    Ok Tryd.prog 17 [(.pointer (some ⟨g, 0, none⟩)), (.slice bl nr cl), (.int .i64 a), (.int .i64 b)] ((GraphO g N E) :: R)
      (OutSl 3 1 ((raisedL N E rs a b).length) (ints .i64 (raisedL N E rs a b)) (GraphO g N E :: R)) := by
  refine ok_of (N := 26) Tryd.func17 rfl rfl rfl (fun W => ?_)
  refine c_seq (fun K1 hK1 => ?_)
  refine c_region ?_
  refine tm rfl (mv_box rfl rfl) ?_
  rintro _ _ ⟨b1, rfl, rfl⟩
  refine tp rfl (lv_assign rfl) ?_
  refine t_done ?_
  refine q_then_n (hK1 _ _ ?_)
  refine c_seq (fun K2 hK2 => ?_)
  refine c_seq (fun K3 hK3 => ?_)
  by_cases ha1 : a < 0
  · -- yes
    refine c_draw (γ := Unit) (n := 8) Tryd.mixed rfl rfl (fun _ S => True) (fun _ => [(0, 10, (.int .i64 a)), (1, 11, (.bool true)), (2, 12, (.bool true)), (3, 13, undef), (4, 14, undef), (5, 15, undef), (6, 16, undef), (7, 17, (.bool true))]) (fun _ S => (Blk b1 [(.int .i64 a)] 3) :: (GraphO g N E) :: R) (()) trivial (fun _ h => h) (fun _ _ h => h) ?_ ?_
    · -- steps
      refine ⟨?_, ?_, ?_, ?_, ?_, ?_, ?_, ?_, trivial⟩
      · -- 0
        rintro _ S hF hS D hp K hK
        try dsimp only at hF ⊢
        refine d_need (small := [(6, (.pointer (some ⟨b1, 0, none⟩)))]) ⟨look_b rfl rfl, trivial⟩ ?_
        refine tp rfl (lv_load Tryd.isAgg3 rfl (gives_blk (.head _) rfl)) ?_
        exact d_closes ⟨look_b rfl rfl, trivial⟩ 0 rfl rfl rfl hS (AgreeR.refl _) (t_sat (fun _ h => h) (hK () trivial))
      · -- 1
        rintro _ S hF hS D hp K hK
        try dsimp only at hF ⊢
        have s0 := hp 0 rfl
        refine d_need (small := [(10, (.int .i64 a))]) ⟨look_row rfl 0 rfl s0, trivial⟩ ?_
        refine tp rfl (lv_lss rfl rfl (decide_eq_true ha1)) ?_
        exact d_closes ⟨look_row rfl 0 rfl s0, trivial⟩ 1 rfl rfl rfl hS (AgreeR.refl _) (t_sat (fun _ h => h) (hK () trivial))
      · -- 2
        rintro _ S hF hS D hp K hK
        try dsimp only at hF ⊢
        have s1 := hp 1 rfl
        refine d_need (small := [(11, (.bool true))]) ⟨look_row rfl 1 rfl s1, trivial⟩ ?_
        refine tp rfl (lv_move rfl) ?_
        exact d_closes ⟨look_row rfl 1 rfl s1, trivial⟩ 2 rfl rfl rfl hS (AgreeR.refl _) (t_sat (fun _ h => h) (hK () trivial))
      · -- 3
        rintro _ S hF hS D hp K hK
        try dsimp only at hF ⊢
        have s2 := hp 2 rfl
        refine d_need (small := [(6, (.pointer (some ⟨b1, 0, none⟩))), (12, (.bool true))]) ⟨look_b rfl rfl, look_row rfl 2 rfl s2, trivial⟩ ?_
        refine t_skip rfl rfl rfl ?_
        exact d_closes ⟨look_b rfl rfl, look_row rfl 2 rfl s2, trivial⟩ 3 rfl rfl rfl hS (AgreeR.refl _) (t_sat (fun _ h => h) (hK () trivial))
      · -- 4
        rintro _ S hF hS D hp K hK
        try dsimp only at hF ⊢
        have s2 := hp 2 rfl
        refine d_need (small := [(0, (.pointer (some ⟨g, 0, none⟩))), (12, (.bool true))]) ⟨look_b rfl rfl, look_row rfl 2 rfl s2, trivial⟩ ?_
        refine t_skip rfl rfl rfl ?_
        exact d_closes ⟨look_b rfl rfl, look_row rfl 2 rfl s2, trivial⟩ 4 rfl rfl rfl hS (AgreeR.refl _) (t_sat (fun _ h => h) (hK () trivial))
      · -- 5
        rintro _ S hF hS D hp K hK
        try dsimp only at hF ⊢
        have s2 := hp 2 rfl
        have s4 := hp 4 rfl
        refine d_need (small := [(12, (.bool true)), (14, undef)]) ⟨look_row rfl 2 rfl s2, look_row rfl 4 rfl s4, trivial⟩ ?_
        refine t_skip rfl rfl rfl ?_
        exact d_closes ⟨look_row rfl 2 rfl s2, look_row rfl 4 rfl s4, trivial⟩ 5 rfl rfl rfl hS (AgreeR.refl _) (t_sat (fun _ h => h) (hK () trivial))
      · -- 6
        rintro _ S hF hS D hp K hK
        try dsimp only at hF ⊢
        have s2 := hp 2 rfl
        have s3 := hp 3 rfl
        have s5 := hp 5 rfl
        refine d_need (small := [(12, (.bool true)), (13, undef), (15, undef)]) ⟨look_row rfl 2 rfl s2, look_row rfl 3 rfl s3, look_row rfl 5 rfl s5, trivial⟩ ?_
        refine t_skip rfl rfl rfl ?_
        exact d_closes ⟨look_row rfl 2 rfl s2, look_row rfl 3 rfl s3, look_row rfl 5 rfl s5, trivial⟩ 6 rfl rfl rfl hS (AgreeR.refl _) (t_sat (fun _ h => h) (hK () trivial))
      · -- 7
        rintro _ S hF hS D hp K hK
        try dsimp only at hF ⊢
        have s2 := hp 2 rfl
        have s6 := hp 6 rfl
        refine d_need (small := [(12, (.bool true)), (16, undef)]) ⟨look_row rfl 2 rfl s2, look_row rfl 6 rfl s6, trivial⟩ ?_
        refine tp rfl (lv_pick_t rfl rfl) ?_
        exact d_closes ⟨look_row rfl 2 rfl s2, look_row rfl 6 rfl s6, trivial⟩ 7 rfl rfl rfl hS (AgreeR.refl _) (t_sat (fun _ h => h) (hK () trivial))
    · -- behind
      rintro _ hF
      try dsimp only at hF ⊢
      refine t_weak (E' := [(0, (.pointer (some ⟨g, 0, none⟩))), (1, (.slice bl nr cl)), (2, (.int .i64 a)), (3, (.int .i64 b)), (6, (.pointer (some ⟨b1, 0, none⟩))), (8, (.slice none 0 0)), (17, (.bool true))]) ⟨rfl, rfl, rfl, rfl, rfl, rfl, rfl, trivial⟩ ?_
      refine q_then_n (hK3 _ _ ?_)
      refine c_true rfl ?_
      refine c_seq (fun K4 hK4 => ?_)
      refine c_region ?_
      refine tp rfl (lv_assign rfl) ?_
      refine t_done ?_
      refine q_then_n (hK4 _ _ ?_)
      refine c_ret ?_
      refine q_then_r ?_
      refine t_sat (fun _ h => sat_nilsl 3 1 h) ?_
      refine t_f1 ?_
      refine t_drop ?_
      refine q_ret rfl rfl ?_
      rw [raised_no (by omega)]
      exact ⟨none, 0, slok_none, Nat.le_refl _, rfl, rfl⟩
  · -- no
    by_cases ha2 : a ≥ ((N : Nat) : Int)
    · -- yes
      refine c_draw (γ := Unit) (n := 8) Tryd.mixed rfl rfl (fun _ S => True) (fun _ => [(0, 10, (.int .i64 a)), (1, 11, (.bool false)), (2, 12, (.bool false)), (3, 13, (.int .i64 a)), (4, 14, (.pointer (some ⟨g, 0, none⟩))), (5, 15, (.int .i64 ((N : Nat) : Int))), (6, 16, (.bool true)), (7, 17, (.bool true))]) (fun _ S => (Blk b1 [(.int .i64 a)] 3) :: (GraphO g N E) :: R) (()) trivial (fun _ h => h) (fun _ _ h => h) ?_ ?_
      · -- steps
        refine ⟨?_, ?_, ?_, ?_, ?_, ?_, ?_, ?_, trivial⟩
        · -- 0
         rintro _ S hF hS D hp K hK
         try dsimp only at hF ⊢
         refine d_need (small := [(6, (.pointer (some ⟨b1, 0, none⟩)))]) ⟨look_b rfl rfl, trivial⟩ ?_
         refine tp rfl (lv_load Tryd.isAgg3 rfl (gives_blk (.head _) rfl)) ?_
         exact d_closes ⟨look_b rfl rfl, trivial⟩ 0 rfl rfl rfl hS (AgreeR.refl _) (t_sat (fun _ h => h) (hK () trivial))
        · -- 1
         rintro _ S hF hS D hp K hK
         try dsimp only at hF ⊢
         have s0 := hp 0 rfl
         refine d_need (small := [(10, (.int .i64 a))]) ⟨look_row rfl 0 rfl s0, trivial⟩ ?_
         refine tp rfl (lv_lss rfl rfl (decide_eq_false ha1)) ?_
         exact d_closes ⟨look_row rfl 0 rfl s0, trivial⟩ 1 rfl rfl rfl hS (AgreeR.refl _) (t_sat (fun _ h => h) (hK () trivial))
        · -- 2
         rintro _ S hF hS D hp K hK
         try dsimp only at hF ⊢
         have s1 := hp 1 rfl
         refine d_need (small := [(11, (.bool false))]) ⟨look_row rfl 1 rfl s1, trivial⟩ ?_
         refine tp rfl (lv_move rfl) ?_
         exact d_closes ⟨look_row rfl 1 rfl s1, trivial⟩ 2 rfl rfl rfl hS (AgreeR.refl _) (t_sat (fun _ h => h) (hK () trivial))
        · -- 3
         rintro _ S hF hS D hp K hK
         try dsimp only at hF ⊢
         have s2 := hp 2 rfl
         refine d_need (small := [(6, (.pointer (some ⟨b1, 0, none⟩))), (12, (.bool false))]) ⟨look_b rfl rfl, look_row rfl 2 rfl s2, trivial⟩ ?_
         refine t_guard rfl rfl ?_
         refine tp rfl (lv_load Tryd.isAgg3 rfl (gives_blk (.head _) rfl)) ?_
         exact d_closes ⟨look_b rfl rfl, look_row rfl 2 rfl s2, trivial⟩ 3 rfl rfl rfl hS (AgreeR.refl _) (t_sat (fun _ h => h) (hK () trivial))
        · -- 4
         rintro _ S hF hS D hp K hK
         try dsimp only at hF ⊢
         have s2 := hp 2 rfl
         refine d_need (small := [(0, (.pointer (some ⟨g, 0, none⟩))), (12, (.bool false))]) ⟨look_b rfl rfl, look_row rfl 2 rfl s2, trivial⟩ ?_
         refine t_guard rfl rfl ?_
         refine tp rfl (lv_move rfl) ?_
         exact d_closes ⟨look_b rfl rfl, look_row rfl 2 rfl s2, trivial⟩ 4 rfl rfl rfl hS (AgreeR.refl _) (t_sat (fun _ h => h) (hK () trivial))
        · -- 5
         rintro _ S hF hS D hp K hK
         try dsimp only at hF ⊢
         have s2 := hp 2 rfl
         have s4 := hp 4 rfl
         refine d_need (small := [(12, (.bool false)), (14, (.pointer (some ⟨g, 0, none⟩)))]) ⟨look_row rfl 2 rfl s2, look_row rfl 4 rfl s4, trivial⟩ ?_
         refine t_guard rfl rfl ?_
         refine t_f1 ?_
         refine tc rfl (en_fn Tryd.call21 rfl) (n_ok) ?_
         rintro _ _ ⟨rfl, rfl⟩
         refine t_f1 ?_
         exact d_closes ⟨look_row rfl 2 rfl s2, look_row rfl 4 rfl s4, trivial⟩ 5 rfl rfl rfl hS (AgreeR.refl _) (t_sat (fun _ h => h) (hK () trivial))
        · -- 6
         rintro _ S hF hS D hp K hK
         try dsimp only at hF ⊢
         have s2 := hp 2 rfl
         have s3 := hp 3 rfl
         have s5 := hp 5 rfl
         refine d_need (small := [(12, (.bool false)), (13, (.int .i64 a)), (15, (.int .i64 ((N : Nat) : Int)))]) ⟨look_row rfl 2 rfl s2, look_row rfl 3 rfl s3, look_row rfl 5 rfl s5, trivial⟩ ?_
         refine t_guard rfl rfl ?_
         refine tp rfl (lv_geq rfl rfl (decide_eq_true ha2)) ?_
         exact d_closes ⟨look_row rfl 2 rfl s2, look_row rfl 3 rfl s3, look_row rfl 5 rfl s5, trivial⟩ 6 rfl rfl rfl hS (AgreeR.refl _) (t_sat (fun _ h => h) (hK () trivial))
        · -- 7
         rintro _ S hF hS D hp K hK
         try dsimp only at hF ⊢
         have s2 := hp 2 rfl
         have s6 := hp 6 rfl
         refine d_need (small := [(12, (.bool false)), (16, (.bool true))]) ⟨look_row rfl 2 rfl s2, look_row rfl 6 rfl s6, trivial⟩ ?_
         refine tp rfl (lv_pick_f rfl rfl) ?_
         exact d_closes ⟨look_row rfl 2 rfl s2, look_row rfl 6 rfl s6, trivial⟩ 7 rfl rfl rfl hS (AgreeR.refl _) (t_sat (fun _ h => h) (hK () trivial))
      · -- behind
        rintro _ hF
        try dsimp only at hF ⊢
        refine t_weak (E' := [(0, (.pointer (some ⟨g, 0, none⟩))), (1, (.slice bl nr cl)), (2, (.int .i64 a)), (3, (.int .i64 b)), (6, (.pointer (some ⟨b1, 0, none⟩))), (8, (.slice none 0 0)), (17, (.bool true))]) ⟨rfl, rfl, rfl, rfl, rfl, rfl, rfl, trivial⟩ ?_
        refine q_then_n (hK3 _ _ ?_)
        refine c_true rfl ?_
        refine c_seq (fun K4 hK4 => ?_)
        refine c_region ?_
        refine tp rfl (lv_assign rfl) ?_
        refine t_done ?_
        refine q_then_n (hK4 _ _ ?_)
        refine c_ret ?_
        refine q_then_r ?_
        refine t_sat (fun _ h => sat_nilsl 3 1 h) ?_
        refine t_f1 ?_
        refine t_drop ?_
        refine q_ret rfl rfl ?_
        rw [raised_no (by omega)]
        exact ⟨none, 0, slok_none, Nat.le_refl _, rfl, rfl⟩
    · -- no
      refine c_draw (γ := Unit) (n := 8) Tryd.mixed rfl rfl (fun _ S => True) (fun _ => [(0, 10, (.int .i64 a)), (1, 11, (.bool false)), (2, 12, (.bool false)), (3, 13, (.int .i64 a)), (4, 14, (.pointer (some ⟨g, 0, none⟩))), (5, 15, (.int .i64 ((N : Nat) : Int))), (6, 16, (.bool false)), (7, 17, (.bool false))]) (fun _ S => (Blk b1 [(.int .i64 a)] 3) :: (GraphO g N E) :: R) (()) trivial (fun _ h => h) (fun _ _ h => h) ?_ ?_
      · -- steps
        refine ⟨?_, ?_, ?_, ?_, ?_, ?_, ?_, ?_, trivial⟩
        · -- 0
         rintro _ S hF hS D hp K hK
         try dsimp only at hF ⊢
         refine d_need (small := [(6, (.pointer (some ⟨b1, 0, none⟩)))]) ⟨look_b rfl rfl, trivial⟩ ?_
         refine tp rfl (lv_load Tryd.isAgg3 rfl (gives_blk (.head _) rfl)) ?_
         exact d_closes ⟨look_b rfl rfl, trivial⟩ 0 rfl rfl rfl hS (AgreeR.refl _) (t_sat (fun _ h => h) (hK () trivial))
        · -- 1
         rintro _ S hF hS D hp K hK
         try dsimp only at hF ⊢
         have s0 := hp 0 rfl
         refine d_need (small := [(10, (.int .i64 a))]) ⟨look_row rfl 0 rfl s0, trivial⟩ ?_
         refine tp rfl (lv_lss rfl rfl (decide_eq_false ha1)) ?_
         exact d_closes ⟨look_row rfl 0 rfl s0, trivial⟩ 1 rfl rfl rfl hS (AgreeR.refl _) (t_sat (fun _ h => h) (hK () trivial))
        · -- 2
         rintro _ S hF hS D hp K hK
         try dsimp only at hF ⊢
         have s1 := hp 1 rfl
         refine d_need (small := [(11, (.bool false))]) ⟨look_row rfl 1 rfl s1, trivial⟩ ?_
         refine tp rfl (lv_move rfl) ?_
         exact d_closes ⟨look_row rfl 1 rfl s1, trivial⟩ 2 rfl rfl rfl hS (AgreeR.refl _) (t_sat (fun _ h => h) (hK () trivial))
        · -- 3
         rintro _ S hF hS D hp K hK
         try dsimp only at hF ⊢
         have s2 := hp 2 rfl
         refine d_need (small := [(6, (.pointer (some ⟨b1, 0, none⟩))), (12, (.bool false))]) ⟨look_b rfl rfl, look_row rfl 2 rfl s2, trivial⟩ ?_
         refine t_guard rfl rfl ?_
         refine tp rfl (lv_load Tryd.isAgg3 rfl (gives_blk (.head _) rfl)) ?_
         exact d_closes ⟨look_b rfl rfl, look_row rfl 2 rfl s2, trivial⟩ 3 rfl rfl rfl hS (AgreeR.refl _) (t_sat (fun _ h => h) (hK () trivial))
        · -- 4
         rintro _ S hF hS D hp K hK
         try dsimp only at hF ⊢
         have s2 := hp 2 rfl
         refine d_need (small := [(0, (.pointer (some ⟨g, 0, none⟩))), (12, (.bool false))]) ⟨look_b rfl rfl, look_row rfl 2 rfl s2, trivial⟩ ?_
         refine t_guard rfl rfl ?_
         refine tp rfl (lv_move rfl) ?_
         exact d_closes ⟨look_b rfl rfl, look_row rfl 2 rfl s2, trivial⟩ 4 rfl rfl rfl hS (AgreeR.refl _) (t_sat (fun _ h => h) (hK () trivial))
        · -- 5
         rintro _ S hF hS D hp K hK
         try dsimp only at hF ⊢
         have s2 := hp 2 rfl
         have s4 := hp 4 rfl
         refine d_need (small := [(12, (.bool false)), (14, (.pointer (some ⟨g, 0, none⟩)))]) ⟨look_row rfl 2 rfl s2, look_row rfl 4 rfl s4, trivial⟩ ?_
         refine t_guard rfl rfl ?_
         refine t_f1 ?_
         refine tc rfl (en_fn Tryd.call21 rfl) (n_ok) ?_
         rintro _ _ ⟨rfl, rfl⟩
         refine t_f1 ?_
         exact d_closes ⟨look_row rfl 2 rfl s2, look_row rfl 4 rfl s4, trivial⟩ 5 rfl rfl rfl hS (AgreeR.refl _) (t_sat (fun _ h => h) (hK () trivial))
        · -- 6
         rintro _ S hF hS D hp K hK
         try dsimp only at hF ⊢
         have s2 := hp 2 rfl
         have s3 := hp 3 rfl
         have s5 := hp 5 rfl
         refine d_need (small := [(12, (.bool false)), (13, (.int .i64 a)), (15, (.int .i64 ((N : Nat) : Int)))]) ⟨look_row rfl 2 rfl s2, look_row rfl 3 rfl s3, look_row rfl 5 rfl s5, trivial⟩ ?_
         refine t_guard rfl rfl ?_
         refine tp rfl (lv_geq rfl rfl (decide_eq_false ha2)) ?_
         exact d_closes ⟨look_row rfl 2 rfl s2, look_row rfl 3 rfl s3, look_row rfl 5 rfl s5, trivial⟩ 6 rfl rfl rfl hS (AgreeR.refl _) (t_sat (fun _ h => h) (hK () trivial))
        · -- 7
         rintro _ S hF hS D hp K hK
         try dsimp only at hF ⊢
         have s2 := hp 2 rfl
         have s6 := hp 6 rfl
         refine d_need (small := [(12, (.bool false)), (16, (.bool false))]) ⟨look_row rfl 2 rfl s2, look_row rfl 6 rfl s6, trivial⟩ ?_
         refine tp rfl (lv_pick_f rfl rfl) ?_
         exact d_closes ⟨look_row rfl 2 rfl s2, look_row rfl 6 rfl s6, trivial⟩ 7 rfl rfl rfl hS (AgreeR.refl _) (t_sat (fun _ h => h) (hK () trivial))
      · -- behind
        rintro _ hF
        try dsimp only at hF ⊢
        refine t_weak (E' := [(0, (.pointer (some ⟨g, 0, none⟩))), (1, (.slice bl nr cl)), (2, (.int .i64 a)), (3, (.int .i64 b)), (6, (.pointer (some ⟨b1, 0, none⟩))), (8, (.slice none 0 0)), (17, (.bool false))]) ⟨rfl, rfl, rfl, rfl, rfl, rfl, rfl, trivial⟩ ?_
        refine q_then_n (hK3 _ _ ?_)
        refine c_false rfl ?_
        refine c_skip ?_
        refine q_then_n (hK2 _ _ ?_)
        refine c_seq (fun K4 hK4 => ?_)
        refine c_region ?_
        have hva : 0 ≤ a ∧ a < (N : Int) := ⟨by omega, by omega⟩
        have hrl := reachL_le N E b
        refine t_f1 ?_
        refine t_learn (fun _ h => gok_of h) (fun hgok => ?_)
        have hsmall := hgok.small
        refine tp rfl (lv_move rfl) ?_
        refine tp rfl (lv_move rfl) ?_
        refine tc rfl (en_fn Tryd.call15 rfl) (of_ok rs (by first | rfl | omega | (simp; done) | (simp; omega)) (Rd.cons hl) (fun hz => okl (by first | exact hz | omega)) (by first | rfl | omega | (simp; done) | (simp; omega)) (Tab.cons hT)) ?_
        rintro _ _ ⟨bs2, cp3, hok4, hle5, rfl, rfl⟩
        refine tm rfl (mv_alloc Tryd.zeroValue38 rfl) ?_
        rintro _ _ ⟨b6, rfl, rfl⟩
        refine ts (sv_blk Tryd.sizeOf38 rfl rfl rfl (Nat.le_of_ble_eq_true rfl) rfl) ?_
        refine t_done ?_
        refine q_then_n (hK4 _ _ ?_)
        refine c_seq (fun K5 hK5 => ?_)
        refine c_region ?_
        refine tp rfl (lv_move rfl) ?_
        refine tp rfl (lv_move rfl) ?_
        refine t_f2 ?_
        refine tc rfl (en_fn Tryd.call28 rfl) (reach_ok (N := N) (es := E) b (Tab.cons (Tab.cons (Tab.cons hT)))) ?_
        rintro _ _ ⟨bs7, cp8, hok9, hle10, rfl, rfl⟩
        refine tp rfl (lv_makeFunc rfl) ?_
        refine tc rfl (en_fn Tryd.call29 rfl) (deleteFunc_q (q := lowQ (ofL N E rs) a) (fun _ => rfl) (reachL N E b) rfl ⟨Tryd.call30, fun x hx ys _ => raised1_ok x a (ofL N E rs) (reachL_bd hx) hva (ofL_len _ _ _) (rd_sl (.tail _ (.tail _ (.tail _ (.head _))))) hok4 (gives_blk (.tail _ (.tail _ (.head _))) rfl) (gives_blk (.tail _ (.tail _ (.tail _ (.tail _ (.head _))))) rfl)⟩ (by omega)) ?_
        rintro _ _ ⟨rfl, rfl⟩
        refine tp rfl (lv_assign rfl) ?_
        refine t_done ?_
        refine q_then_n (hK5 _ _ ?_)
        refine c_ret ?_
        refine t_f2 ?_
        refine t_drop ?_
        refine t_f2 ?_
        refine t_drop ?_
        refine t_f2 ?_
        refine t_drop ?_
        refine q_ret rfl rfl ?_
        rw [raised_yes hva]
        have hfl := List.length_filter_le (lowQ (ofL N E rs) a) (reachL N E b)
        exact ⟨_, _, (fun hz => hok9 (by omega)), (by omega), rfl, rfl⟩
end Go.Proofs.YtlkcgpcgnhdnmaaDoor
