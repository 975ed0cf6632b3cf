/- Contracts of container/heap. -/
import Derived.Test.YtombnfgkgcjihaaHa
set_option maxRecDepth 100000
set_option linter.unusedVariables false
set_option linter.unusedSimpArgs false
namespace Go.Proofs.Ytombnfgkgcjihaa
open Go Go.Proofs Sp
set_option maxHeartbeats 4000000 in
theorem up_ok {R : List HP} {p n : Nat} {l Kk : List Int} {m : Nat} (j0 : Nat) (hu : HeapUp Kk l m j0) (hj : j0 < m) (hm : m ≤ l.length) :
    Ok Try.prog 35 [(.iface 67 (.pointer (some ⟨p, 0, none⟩))), (.int .i64 ((j0 : Nat) : Int))] ((RowsO p n l Kk) :: R)
      (fun v M => ∃ l', Same m l l' ∧ HeapP Kk l' m ∧ v = .tuple #[] ∧ M = RowsO p n l' Kk :: R) := by
  refine ok_of (N := 23) Try.func35 rfl rfl rfl (fun W => ?_)
  refine t_learn (fun _ h => rfacts_of h) (fun hrf => ?_)
  obtain ⟨hhi, hkl, hbg⟩ := hrf
  have hll := hhi.le
  refine c_block ?_
  refine c_loop (γ := (Nat) × (List Int)) (fun (j, l') => Same m l l' ∧ HeapUp Kk l' m j ∧ j < m) (fun (j, l') => [(0, (.iface 67 (.pointer (some ⟨p, 0, none⟩)))), (1, (.int .i64 ((j : Nat) : Int)))]) (fun (j, l') => (RowsO p n l' Kk) :: R) (fun (j, l') => j) (j0, l) ⟨Same.refl _ _, hu, hj⟩ ⟨rfl, rfl, trivial⟩ (fun _ h => h) ?_
  rintro ⟨j, l'⟩ K1 hF hK1
  try dsimp only at hF hK1 ⊢
  obtain ⟨hs, hup, hjm⟩ := hF
  have hsl := hs.len
  refine c_block ?_
  refine c_seq (fun K2 hK2 => ?_)
  refine c_region ?_
  refine tp rfl (lv_move rfl) ?_
  refine tp rfl (lv_sub (c := ((j : Nat) : Int) - 1) rfl rfl (wr_i64 (by omega) (by omega))) ?_
  refine tp rfl (lv_quo (c := (((j - 1) / 2 : Nat) : Int)) rfl rfl (by omega) (par_quo j (by omega))) ?_
  refine tp rfl (lv_assign rfl) ?_
  refine t_done ?_
  refine q_then_n (hK2 _ _ ?_)
  refine c_seq (fun K3 hK3 => ?_)
  refine c_seq (fun K4 hK4 => ?_)
  refine c_region ?_
  refine tp rfl (lv_move rfl) ?_
  refine tp rfl (lv_move rfl) ?_
  by_cases heq : (((j - 1) / 2 : Nat) : Int) = ((j : Nat) : Int)
  · -- yes
    refine tp rfl (lv_eql rfl rfl (beq_iff_eq.2 heq)) ?_
    refine tp rfl (lv_move rfl) ?_
    refine t_skip rfl rfl rfl ?_
    refine t_skip rfl rfl rfl ?_
    refine t_skip rfl rfl rfl ?_
    refine t_skip rfl rfl rfl ?_
    refine t_skip rfl rfl rfl ?_
    refine tp rfl (lv_pick_t rfl rfl) ?_
    refine t_done ?_
    refine q_then_n (hK4 _ _ ?_)
    refine c_true rfl ?_
    refine c_exit ?_
    refine q_then_x ?_
    refine q_in_y rfl ?_
    refine q_then_x ?_
    refine q_in_x ?_
    refine q_ret0 rfl ?_
    first | exact ⟨l', hs, (by have hj0 : j = 0 := (by omega); subst hj0; exact hup.top), rfl, rfl⟩ | exact ⟨l', hs, hup.done (by have hq := ‹(!decide (LtK Kk (l'.getD j 0) (l'.getD ((j - 1) / 2) 0))) = true›; simpa [LeAt] using hq), rfl, rfl⟩
  · -- no
    refine tp rfl (lv_eql rfl rfl (beq_eq_false_iff_ne.2 heq)) ?_
    refine tp rfl (lv_move rfl) ?_
    refine t_guard rfl rfl ?_
    refine tp rfl (lv_move rfl) ?_
    refine t_guard rfl rfl ?_
    refine tp rfl (lv_move rfl) ?_
    refine t_guard rfl rfl ?_
    refine tp rfl (lv_move rfl) ?_
    refine t_guard rfl rfl ?_
    refine tc rfl (en_meth meth_Less rfl rfl) (rless_ok (n := n) (l := l') (Kk := Kk) j ((j - 1) / 2) (by omega) (by omega)) ?_
    rintro _ _ ⟨rfl, rfl⟩
    refine t_guard rfl rfl ?_
    refine tp rfl (lv_not (c := !(decide (LtK Kk (l'.getD j 0) (l'.getD ((j - 1) / 2) 0)))) rfl rfl) ?_
    refine tp rfl (lv_pick_f rfl rfl) ?_
    refine t_done ?_
    refine q_then_n (hK4 _ _ ?_)
    refine c_split rfl (fun c1 => ?_) (fun c1 => ?_)
    · -- true
      refine c_exit ?_
      refine q_then_x ?_
      refine q_in_y rfl ?_
      refine q_then_x ?_
      refine q_in_x ?_
      refine q_ret0 rfl ?_
      first | exact ⟨l', hs, (by have hj0 : j = 0 := (by omega); subst hj0; exact hup.top), rfl, rfl⟩ | exact ⟨l', hs, hup.done (by have hq := ‹(!decide (LtK Kk (l'.getD j 0) (l'.getD ((j - 1) / 2) 0))) = true›; simpa [LeAt] using hq), rfl, rfl⟩
    · -- false
      refine c_skip ?_
      refine q_then_n (hK3 _ _ ?_)
      refine c_seq (fun K5 hK5 => ?_)
      refine c_region ?_
      have hlt : LtK Kk (l'.getD j 0) (l'.getD ((j - 1) / 2) 0) := by have hq := ‹(!decide (LtK Kk (l'.getD j 0) (l'.getD ((j - 1) / 2) 0))) = false›; simpa using hq
      refine tp rfl (lv_move rfl) ?_
      refine tp rfl (lv_move rfl) ?_
      refine tp rfl (lv_move rfl) ?_
      refine tc rfl (en_meth meth_Swap rfl rfl) (rswap_ok (n := n) (l := l') (Kk := Kk) ((j - 1) / 2) j (by omega) (by omega)) ?_
      rintro _ _ ⟨rfl, rfl⟩
      refine t_done ?_
      refine q_then_n (hK5 _ _ ?_)
      refine c_region ?_
      refine tp rfl (lv_move rfl) ?_
      refine tp rfl (lv_assign rfl) ?_
      refine t_done ?_
      refine q_in_n ?_
      refine q_then_n ?_
      exact t_weak (by exact ⟨rfl, rfl, trivial⟩) ((hK1 ((j - 1) / 2, swapL l' ((j - 1) / 2) j) ⟨hs.trans (Same.swap (by omega) (by omega) (by omega) (by omega)), hup.next (by omega) (by omega) (by omega) hlt, by omega⟩ (by dsimp only; omega)))

set_option maxHeartbeats 4000000 in
theorem down_ok {R : List HP} {p n : Nat} {l Kk : List Int} (i0 m : Nat) (hx : HeapX Kk l m i0 i0) (hi : i0 ≤ 65536) (hm : m ≤ l.length) :
    Ok Try.prog 36 [(.iface 67 (.pointer (some ⟨p, 0, none⟩))), (.int .i64 ((i0 : Nat) : Int)), (.int .i64 ((m : Nat) : Int))] ((RowsO p n l Kk) :: R)
      (fun v M => ∃ b l', DownOk Kk l l' m i0 b ∧ v = .bool b ∧ M = RowsO p n l' Kk :: R) := by
  refine ok_of (N := 48) Try.func36 rfl rfl rfl (fun W => ?_)
  refine t_learn (fun _ h => rfacts_of h) (fun hrf => ?_)
  obtain ⟨hhi, hkl, hbg⟩ := hrf
  have hll := hhi.le
  refine c_seq (fun K1 hK1 => ?_)
  refine c_region ?_
  refine tp rfl (lv_assign rfl) ?_
  refine t_done ?_
  refine q_then_n (hK1 _ _ ?_)
  refine c_seq (fun K2 hK2 => ?_)
  refine c_region ?_
  refine tp rfl (lv_move rfl) ?_
  refine tp rfl (lv_assign rfl) ?_
  refine t_done ?_
  refine q_then_n (hK2 _ _ ?_)
  refine c_seq (fun K3 hK3 => ?_)
  refine c_block ?_
  refine c_loop (γ := (Nat) × (List Int)) (fun (i, l') => Same m l l' ∧ HeapX Kk l' m i0 i ∧ i0 ≤ i ∧ (i = i0 → l' = l) ∧ i ≤ 100000) (fun (i, l') => [(0, (.iface 67 (.pointer (some ⟨p, 0, none⟩)))), (1, (.int .i64 ((i0 : Nat) : Int))), (2, (.int .i64 ((m : Nat) : Int))), (6, (.bool false)), (7, (.int .i64 ((i : Nat) : Int)))]) (fun (i, l') => (RowsO p n l' Kk) :: R) (fun (i, l') => m - i) (i0, l) ⟨Same.refl _ _, hx, Nat.le_refl _, fun _ => rfl, by omega⟩ ⟨rfl, rfl, rfl, rfl, rfl, trivial⟩ (fun _ h => h) ?_
  rintro ⟨i, l'⟩ K4 hF hK4
  try dsimp only at hF hK4 ⊢
  obtain ⟨hs, hx', hii, hsame, hbig⟩ := hF
  have hsl := hs.len
  refine c_block ?_
  refine c_seq (fun K5 hK5 => ?_)
  refine c_region ?_
  refine tp rfl (lv_move rfl) ?_
  refine tp rfl (lv_mul (c := ((2 * i : Nat) : Int)) rfl rfl ((wr_i64 (by omega) (by omega)).trans (by omega))) ?_
  refine tp rfl (lv_add (c := ((2 * i + 1 : Nat) : Int)) rfl rfl ((wr_i64 (by omega) (by omega)).trans (by omega))) ?_
  refine tp rfl (lv_assign rfl) ?_
  refine t_done ?_
  refine q_then_n (hK5 _ _ ?_)
  refine c_seq (fun K6 hK6 => ?_)
  refine c_seq (fun K7 hK7 => ?_)
  refine c_region ?_
  refine tp rfl (lv_move rfl) ?_
  refine tp rfl (lv_move rfl) ?_
  by_cases h1 : ((2 * i + 1 : Nat) : Int) ≥ ((m : Nat) : Int)
  · -- yes
    refine tp rfl (lv_geq rfl rfl (decide_eq_true h1)) ?_
    refine tp rfl (lv_move rfl) ?_
    refine t_skip rfl rfl rfl ?_
    refine t_skip rfl rfl rfl ?_
    refine tp rfl (lv_pick_t rfl rfl) ?_
    refine t_done ?_
    refine q_then_n (hK7 _ _ ?_)
    refine c_true rfl ?_
    refine c_exit ?_
    refine q_then_x ?_
    refine q_in_y rfl ?_
    refine q_then_x ?_
    refine q_in_x ?_
    refine q_then_n (hK3 _ _ ?_)
    refine c_seq (fun K8 hK8 => ?_)
    refine c_region ?_
    refine tp rfl (lv_move rfl) ?_
    refine tp rfl (lv_move rfl) ?_
    refine tp rfl (lv_gtr rfl rfl rfl) ?_
    refine tp rfl (lv_assign rfl) ?_
    refine t_done ?_
    refine q_then_n (hK8 _ _ ?_)
    refine c_ret ?_
    refine q_ret rfl rfl ?_
    have hst : (∀ k, 0 < k → k < m → (k - 1) / 2 = i → LeAt Kk l' i k) := fun k k0 k1 k2 => (by omega)
    refine ⟨decide (((i : Nat) : Int) > ((i0 : Nat) : Int)), l', ⟨hs, fun hb => hx'.stop hst (by have := of_decide_eq_true hb; omega), fun hb => ?_⟩, rfl, rfl⟩
    have hi0 : i = i0 := by have := of_decide_eq_false hb; omega
    have hl' := hsame hi0
    subst hi0; subst hl'
    exact ⟨rfl, hx'.stay hst⟩
  · -- no
    refine tp rfl (lv_geq rfl rfl (decide_eq_false h1)) ?_
    refine tp rfl (lv_move rfl) ?_
    refine t_guard rfl rfl ?_
    refine tp rfl (lv_move rfl) ?_
    refine t_guard rfl rfl ?_
    refine tp rfl (lv_lss rfl rfl (decide_eq_false (by omega))) ?_
    refine tp rfl (lv_pick_f rfl rfl) ?_
    refine t_done ?_
    refine q_then_n (hK7 _ _ ?_)
    refine c_false rfl ?_
    refine c_skip ?_
    refine q_then_n (hK6 _ _ ?_)
    refine c_seq (fun K8 hK8 => ?_)
    refine c_region ?_
    refine tp rfl (lv_move rfl) ?_
    refine tp rfl (lv_assign rfl) ?_
    refine t_done ?_
    refine q_then_n (hK8 _ _ ?_)
    refine c_seq (fun K9 hK9 => ?_)
    refine c_seq (fun K10 hK10 => ?_)
    refine c_region ?_
    refine tp rfl (lv_move rfl) ?_
    refine tp rfl (lv_add (c := ((2 * i + 2 : Nat) : Int)) rfl rfl ((wr_i64 (by omega) (by omega)).trans (by omega))) ?_
    refine tp rfl (lv_assign rfl) ?_
    refine t_done ?_
    refine q_then_n (hK10 _ _ ?_)
    refine c_seq (fun K11 hK11 => ?_)
    refine c_region ?_
    refine tp rfl (lv_move rfl) ?_
    refine tp rfl (lv_move rfl) ?_
    by_cases h2 : ((2 * i + 2 : Nat) : Int) < ((m : Nat) : Int)
    · -- yes
      refine tp rfl (lv_lss rfl rfl (decide_eq_true h2)) ?_
      refine tp rfl (lv_move rfl) ?_
      refine t_guard rfl rfl ?_
      refine tp rfl (lv_move rfl) ?_
      refine t_guard rfl rfl ?_
      refine tp rfl (lv_move rfl) ?_
      refine t_guard rfl rfl ?_
      refine tp rfl (lv_move rfl) ?_
      refine t_guard rfl rfl ?_
      refine tc rfl (en_meth meth_Less rfl rfl) (rless_ok (n := n) (l := l') (Kk := Kk) (2 * i + 2) (2 * i + 1) (by omega) (by omega)) ?_
      rintro _ _ ⟨rfl, rfl⟩
      refine tp rfl (lv_pick_t rfl rfl) ?_
      refine t_done ?_
      refine q_then_n (hK11 _ _ ?_)
      refine c_split rfl (fun c3 => ?_) (fun c3 => ?_)
      · -- true
        refine c_region ?_
        refine tp rfl (lv_move rfl) ?_
        refine tp rfl (lv_assign rfl) ?_
        refine t_done ?_
        refine q_then_n (hK9 _ _ ?_)
        refine c_seq (fun K12 hK12 => ?_)
        refine c_seq (fun K13 hK13 => ?_)
        refine c_region ?_
        have hch : ∀ k, 0 < k → k < m → (k - 1) / 2 = i → LeAt Kk l' (2 * i + 2) k := fun k k0 k1 k2 => by
          have hq := c3
          have hq : LtK Kk (l'.getD (2 * i + 2) 0) (l'.getD (2 * i + 1) 0) := by simpa using hq
          rcases (show k = 2 * i + 1 ∨ k = 2 * i + 2 by omega) with e | e
          · subst e; exact hq.asymm
          · subst e; exact LtK.irr
        refine tp rfl (lv_move rfl) ?_
        refine tp rfl (lv_move rfl) ?_
        refine tp rfl (lv_move rfl) ?_
        refine tc rfl (en_meth meth_Less rfl rfl) (rless_ok (n := n) (l := l') (Kk := Kk) (2 * i + 2) i (by omega) (by omega)) ?_
        rintro _ _ ⟨rfl, rfl⟩
        refine tp rfl (lv_not (c := !(decide (LtK Kk (l'.getD (2 * i + 2) 0) (l'.getD i 0)))) rfl rfl) ?_
        refine t_done ?_
        refine q_then_n (hK13 _ _ ?_)
        refine c_split rfl (fun c4 => ?_) (fun c4 => ?_)
        · -- true
         refine c_exit ?_
         refine q_then_x ?_
         refine q_in_y rfl ?_
         refine q_then_x ?_
         refine q_in_x ?_
         refine q_then_n (hK3 _ _ ?_)
         refine c_seq (fun K14 hK14 => ?_)
         refine c_region ?_
         refine tp rfl (lv_move rfl) ?_
         refine tp rfl (lv_move rfl) ?_
         refine tp rfl (lv_gtr rfl rfl rfl) ?_
         refine tp rfl (lv_assign rfl) ?_
         refine t_done ?_
         refine q_then_n (hK14 _ _ ?_)
         refine c_ret ?_
         refine q_ret rfl rfl ?_
         have hst : (∀ k, 0 < k → k < m → (k - 1) / 2 = i → LeAt Kk l' i k) := fun k k0 k1 k2 => not_lt_trans (show ¬ LtK Kk (l'.getD (2 * i + 2) 0) (l'.getD i 0) from (by have hq := c4; simpa using hq)) (hch k k0 k1 k2)
         refine ⟨decide (((i : Nat) : Int) > ((i0 : Nat) : Int)), l', ⟨hs, fun hb => hx'.stop hst (by have := of_decide_eq_true hb; omega), fun hb => ?_⟩, rfl, rfl⟩
         have hi0 : i = i0 := by have := of_decide_eq_false hb; omega
         have hl' := hsame hi0
         subst hi0; subst hl'
         exact ⟨rfl, hx'.stay hst⟩
        · -- false
         refine c_skip ?_
         refine q_then_n (hK12 _ _ ?_)
         refine c_seq (fun K14 hK14 => ?_)
         refine c_region ?_
         have hlt : LtK Kk (l'.getD (2 * i + 2) 0) (l'.getD i 0) := by have hq := c4; simpa using hq
         refine tp rfl (lv_move rfl) ?_
         refine tp rfl (lv_move rfl) ?_
         refine tp rfl (lv_move rfl) ?_
         refine tc rfl (en_meth meth_Swap rfl rfl) (rswap_ok (n := n) (l := l') (Kk := Kk) i (2 * i + 2) (by omega) (by omega)) ?_
         rintro _ _ ⟨rfl, rfl⟩
         refine t_done ?_
         refine q_then_n (hK14 _ _ ?_)
         refine c_region ?_
         refine tp rfl (lv_move rfl) ?_
         refine tp rfl (lv_assign rfl) ?_
         refine t_done ?_
         refine q_in_n ?_
         refine q_then_n ?_
         exact t_weak (by exact ⟨rfl, rfl, rfl, rfl, rfl, trivial⟩) ((hK4 (2 * i + 2, swapL l' i (2 * i + 2)) ⟨hs.trans (Same.swap (by omega) (by omega) (by omega) (by omega)), hx'.next hii (by omega) (by omega) (by omega) (by omega) hlt hch, by omega, fun e => absurd e (by omega), by omega⟩ (by dsimp only; omega)))
      · -- false
        refine c_skip ?_
        refine q_then_n (hK9 _ _ ?_)
        refine c_seq (fun K12 hK12 => ?_)
        refine c_seq (fun K13 hK13 => ?_)
        refine c_region ?_
        have hch : ∀ k, 0 < k → k < m → (k - 1) / 2 = i → LeAt Kk l' (2 * i + 1) k := fun k k0 k1 k2 => by
          have hq := c3
          have hq : ¬ LtK Kk (l'.getD (2 * i + 2) 0) (l'.getD (2 * i + 1) 0) := by simpa using hq
          rcases (show k = 2 * i + 1 ∨ k = 2 * i + 2 by omega) with e | e
          · subst e; exact LtK.irr
          · subst e; exact hq
        refine tp rfl (lv_move rfl) ?_
        refine tp rfl (lv_move rfl) ?_
        refine tp rfl (lv_move rfl) ?_
        refine tc rfl (en_meth meth_Less rfl rfl) (rless_ok (n := n) (l := l') (Kk := Kk) (2 * i + 1) i (by omega) (by omega)) ?_
        rintro _ _ ⟨rfl, rfl⟩
        refine tp rfl (lv_not (c := !(decide (LtK Kk (l'.getD (2 * i + 1) 0) (l'.getD i 0)))) rfl rfl) ?_
        refine t_done ?_
        refine q_then_n (hK13 _ _ ?_)
        refine c_split rfl (fun c5 => ?_) (fun c5 => ?_)
        · -- true
         refine c_exit ?_
         refine q_then_x ?_
         refine q_in_y rfl ?_
         refine q_then_x ?_
         refine q_in_x ?_
         refine q_then_n (hK3 _ _ ?_)
         refine c_seq (fun K14 hK14 => ?_)
         refine c_region ?_
         refine tp rfl (lv_move rfl) ?_
         refine tp rfl (lv_move rfl) ?_
         refine tp rfl (lv_gtr rfl rfl rfl) ?_
         refine tp rfl (lv_assign rfl) ?_
         refine t_done ?_
         refine q_then_n (hK14 _ _ ?_)
         refine c_ret ?_
         refine q_ret rfl rfl ?_
         have hst : (∀ k, 0 < k → k < m → (k - 1) / 2 = i → LeAt Kk l' i k) := fun k k0 k1 k2 => not_lt_trans (show ¬ LtK Kk (l'.getD (2 * i + 1) 0) (l'.getD i 0) from (by have hq := c5; simpa using hq)) (hch k k0 k1 k2)
         refine ⟨decide (((i : Nat) : Int) > ((i0 : Nat) : Int)), l', ⟨hs, fun hb => hx'.stop hst (by have := of_decide_eq_true hb; omega), fun hb => ?_⟩, rfl, rfl⟩
         have hi0 : i = i0 := by have := of_decide_eq_false hb; omega
         have hl' := hsame hi0
         subst hi0; subst hl'
         exact ⟨rfl, hx'.stay hst⟩
        · -- false
         refine c_skip ?_
         refine q_then_n (hK12 _ _ ?_)
         refine c_seq (fun K14 hK14 => ?_)
         refine c_region ?_
         have hlt : LtK Kk (l'.getD (2 * i + 1) 0) (l'.getD i 0) := by have hq := c5; simpa using hq
         refine tp rfl (lv_move rfl) ?_
         refine tp rfl (lv_move rfl) ?_
         refine tp rfl (lv_move rfl) ?_
         refine tc rfl (en_meth meth_Swap rfl rfl) (rswap_ok (n := n) (l := l') (Kk := Kk) i (2 * i + 1) (by omega) (by omega)) ?_
         rintro _ _ ⟨rfl, rfl⟩
         refine t_done ?_
         refine q_then_n (hK14 _ _ ?_)
         refine c_region ?_
         refine tp rfl (lv_move rfl) ?_
         refine tp rfl (lv_assign rfl) ?_
         refine t_done ?_
         refine q_in_n ?_
         refine q_then_n ?_
         exact t_weak (by exact ⟨rfl, rfl, rfl, rfl, rfl, trivial⟩) ((hK4 (2 * i + 1, swapL l' i (2 * i + 1)) ⟨hs.trans (Same.swap (by omega) (by omega) (by omega) (by omega)), hx'.next hii (by omega) (by omega) (by omega) (by omega) hlt hch, by omega, fun e => absurd e (by omega), by omega⟩ (by dsimp only; omega)))
    · -- no
      refine tp rfl (lv_lss rfl rfl (decide_eq_false h2)) ?_
      refine tp rfl (lv_move rfl) ?_
      refine t_skip rfl rfl rfl ?_
      refine t_skip rfl rfl rfl ?_
      refine t_skip rfl rfl rfl ?_
      refine t_skip rfl rfl rfl ?_
      refine tp rfl (lv_pick_f rfl rfl) ?_
      refine t_done ?_
      refine q_then_n (hK11 _ _ ?_)
      refine c_false rfl ?_
      refine c_skip ?_
      refine q_then_n (hK9 _ _ ?_)
      refine c_seq (fun K12 hK12 => ?_)
      refine c_seq (fun K13 hK13 => ?_)
      refine c_region ?_
      have hch : ∀ k, 0 < k → k < m → (k - 1) / 2 = i → LeAt Kk l' (2 * i + 1) k := fun k k0 k1 k2 => by
        have e : k = 2 * i + 1 := by omega
        subst e; exact LtK.irr
      refine tp rfl (lv_move rfl) ?_
      refine tp rfl (lv_move rfl) ?_
      refine tp rfl (lv_move rfl) ?_
      refine tc rfl (en_meth meth_Less rfl rfl) (rless_ok (n := n) (l := l') (Kk := Kk) (2 * i + 1) i (by omega) (by omega)) ?_
      rintro _ _ ⟨rfl, rfl⟩
      refine tp rfl (lv_not (c := !(decide (LtK Kk (l'.getD (2 * i + 1) 0) (l'.getD i 0)))) rfl rfl) ?_
      refine t_done ?_
      refine q_then_n (hK13 _ _ ?_)
      refine c_split rfl (fun c6 => ?_) (fun c6 => ?_)
      · -- true
        refine c_exit ?_
        refine q_then_x ?_
        refine q_in_y rfl ?_
        refine q_then_x ?_
        refine q_in_x ?_
        refine q_then_n (hK3 _ _ ?_)
        refine c_seq (fun K14 hK14 => ?_)
        refine c_region ?_
        refine tp rfl (lv_move rfl) ?_
        refine tp rfl (lv_move rfl) ?_
        refine tp rfl (lv_gtr rfl rfl rfl) ?_
        refine tp rfl (lv_assign rfl) ?_
        refine t_done ?_
        refine q_then_n (hK14 _ _ ?_)
        refine c_ret ?_
        refine q_ret rfl rfl ?_
        have hst : (∀ k, 0 < k → k < m → (k - 1) / 2 = i → LeAt Kk l' i k) := fun k k0 k1 k2 => not_lt_trans (show ¬ LtK Kk (l'.getD (2 * i + 1) 0) (l'.getD i 0) from (by have hq := c6; simpa using hq)) (hch k k0 k1 k2)
        refine ⟨decide (((i : Nat) : Int) > ((i0 : Nat) : Int)), l', ⟨hs, fun hb => hx'.stop hst (by have := of_decide_eq_true hb; omega), fun hb => ?_⟩, rfl, rfl⟩
        have hi0 : i = i0 := by have := of_decide_eq_false hb; omega
        have hl' := hsame hi0
        subst hi0; subst hl'
        exact ⟨rfl, hx'.stay hst⟩
      · -- false
        refine c_skip ?_
        refine q_then_n (hK12 _ _ ?_)
        refine c_seq (fun K14 hK14 => ?_)
        refine c_region ?_
        have hlt : LtK Kk (l'.getD (2 * i + 1) 0) (l'.getD i 0) := by have hq := c6; simpa using hq
        refine tp rfl (lv_move rfl) ?_
        refine tp rfl (lv_move rfl) ?_
        refine tp rfl (lv_move rfl) ?_
        refine tc rfl (en_meth meth_Swap rfl rfl) (rswap_ok (n := n) (l := l') (Kk := Kk) i (2 * i + 1) (by omega) (by omega)) ?_
        rintro _ _ ⟨rfl, rfl⟩
        refine t_done ?_
        refine q_then_n (hK14 _ _ ?_)
        refine c_region ?_
        refine tp rfl (lv_move rfl) ?_
        refine tp rfl (lv_assign rfl) ?_
        refine t_done ?_
        refine q_in_n ?_
        refine q_then_n ?_
        exact t_weak (by exact ⟨rfl, rfl, rfl, rfl, rfl, trivial⟩) ((hK4 (2 * i + 1, swapL l' i (2 * i + 1)) ⟨hs.trans (Same.swap (by omega) (by omega) (by omega) (by omega)), hx'.next hii (by omega) (by omega) (by omega) (by omega) hlt hch, by omega, fun e => absurd e (by omega), by omega⟩ (by dsimp only; omega)))
end Go.Proofs.Ytombnfgkgcjihaa
