/- Parts Hb, Hb2, Hc: own lemmas and contracts of the code that the claim reaches. -/
import Derived.Test.YtanfdikglplkaaaGreatDoorM03
import Derived.Test.YtanfdikglplkaaaGreatDoorM18
set_option linter.unusedSimpArgs false
set_option linter.unusedVariables false
set_option maxRecDepth 100000
namespace Go.Proofs.YtanfdikglplkaaaGreatDoor
open Go Go.Proofs Sp
set_option maxHeartbeats 4000000 in
theorem up_ok {R : List HP} {p n : Nat} {l Kk : List Int} {m : Nat} (j0 : Nat) (hu : HeapUp Kk l m j0) (hj : j0 < m) (hm : m ≤ l.length) :
    Ok Tryz.prog 172 [(.iface 178 (.pointer (some ⟨p, 0, none⟩))), (.int .i64 ((j0 : Nat) : Int))] ((RowsO p n l Kk) :: R)
      (fun v M => ∃ l', Same m l l' ∧ HeapP Kk l' m ∧ v = .tuple #[] ∧ M = RowsO p n l' Kk :: R) := by
 refine ok_of (N := 23) Tryz.func172 rfl rfl rfl (fun W => ?_)
 refine t_learn (fun _ h => rfacts_of h) (fun hrf => ?_)
 obtain ⟨hhi, hkl, hbg⟩ := hrf
 have hll := hhi.le
 refine c_block ?_
 refine c_loop (γ := (Nat) × (List Int)) (fun (j, l') => Same m l l' ∧ HeapUp Kk l' m j ∧ j < m) (fun (j, l') => [(0, (.iface 178 (vP p 0))), (1, (vN j))]) (fun (j, l') => (RowsO p n l' Kk) :: R) (fun (j, l') => j) (j0, l) ⟨Same.refl _ _, hu, hj⟩ ⟨rfl, rfl, trivial⟩ (fun _ h => h) ?_
 rintro ⟨j, l'⟩ K1 hF hK1
 try dsimp only at hF hK1 ⊢
 obtain ⟨hs, hup, hjm⟩ := hF
 have hsl := hs.len
 refine c_block (c_seq (fun K2 hK2 => c_region (tp rfl (lv_move rfl) (tp rfl (lv_sub (c := ((j : Nat) : Int) - 1) rfl rfl (wr_i64 (by omega) (by omega))) ?_))))
 refine tp rfl (lv_quo (c := (((j - 1) / 2 : Nat) : Int)) rfl rfl (by omega) (par_quo j (by omega))) ?_
 refine tp rfl (lv_assign rfl) (t_done (q_then_n (hK2 _ _ (c_seq (fun K3 hK3 => c_seq (fun K4 hK4 => c_region (tp rfl (lv_move rfl) (tp rfl (lv_move rfl) ?_))))))))
 by_cases heq : (((j - 1) / 2 : Nat) : Int) = ((j : Nat) : Int)
 · refine tp rfl (lv_eql rfl rfl (beq_iff_eq.2 heq)) (tp rfl (lv_move rfl) ?_)
   refine t_skip rfl rfl rfl ?_
   refine t_skip rfl rfl rfl ?_
   refine t_skip rfl rfl rfl ?_
   refine t_skip rfl rfl rfl ?_
   refine t_skip rfl rfl rfl ?_
   refine tp rfl (lv_pick_t rfl rfl) (t_done (q_then_n (hK4 _ _ (c_true rfl (c_exit (q_then_x ?_))))))
   refine q_in_y rfl ?_
   refine q_then_x (q_in_x ?_)
   refine q_ret0 rfl ?_
   first | exact ⟨l', hs, (by have hj0 : j = 0 := (by omega); subst hj0; exact hup.top), rfl, rfl⟩ | exact ⟨l', hs, hup.done (by have hq := ‹(!decide (LtK Kk (l'.getD j 0) (l'.getD ((j - 1) / 2) 0))) = true›; simpa [LeAt] using hq), rfl, rfl⟩
 · refine tp rfl (lv_eql rfl rfl (beq_eq_false_iff_ne.2 heq)) (tp rfl (lv_move rfl) ?_)
   refine t_guard rfl rfl ?_
   refine tp rfl (lv_move rfl) ?_
   refine t_guard rfl rfl ?_
   refine tp rfl (lv_move rfl) ?_
   refine t_guard rfl rfl ?_
   refine tp rfl (lv_move rfl) ?_
   refine t_guard rfl rfl ?_
   refine tc rfl (en_meth meth_Less rfl rfl) (rless_ok (n := n) (l := l') (Kk := Kk) j ((j - 1) / 2) (by omega) (by omega)) ?_
   rintro _ _ ⟨rfl, rfl⟩
   refine t_guard rfl rfl ?_
   refine tp rfl (lv_not (c := !(decide (LtK Kk (l'.getD j 0) (l'.getD ((j - 1) / 2) 0)))) rfl rfl) (tp rfl (lv_pick_f rfl rfl) (t_done (q_then_n (hK4 _ _ ?_))))
   refine c_split rfl (fun c1 => ?_) (fun c1 => ?_)
   · refine c_exit (q_then_x ?_)
     refine q_in_y rfl ?_
     refine q_then_x (q_in_x ?_)
     refine q_ret0 rfl ?_
     first | exact ⟨l', hs, (by have hj0 : j = 0 := (by omega); subst hj0; exact hup.top), rfl, rfl⟩ | exact ⟨l', hs, hup.done (by have hq := ‹(!decide (LtK Kk (l'.getD j 0) (l'.getD ((j - 1) / 2) 0))) = true›; simpa [LeAt] using hq), rfl, rfl⟩
   · refine c_skip (q_then_n (hK3 _ _ (c_seq (fun K5 hK5 => c_region ?_))))
     have hlt : LtK Kk (l'.getD j 0) (l'.getD ((j - 1) / 2) 0) := by have hq := ‹(!decide (LtK Kk (l'.getD j 0) (l'.getD ((j - 1) / 2) 0))) = false›; simpa using hq
     refine tp rfl (lv_move rfl) (tp rfl (lv_move rfl) (tp rfl (lv_move rfl) ?_))
     refine tc rfl (en_meth meth_Swap rfl rfl) (rswap_ok (n := n) (l := l') (Kk := Kk) ((j - 1) / 2) j (by omega) (by omega)) ?_
     rintro _ _ ⟨rfl, rfl⟩
     refine t_done (q_then_n (hK5 _ _ (c_region (tp rfl (lv_move rfl) (tp rfl (lv_assign rfl) (t_done (q_in_n (q_then_n ?_))))))))
     exact t_weak (by exact ⟨rfl, rfl, trivial⟩) ((hK1 ((j - 1) / 2, swapL l' ((j - 1) / 2) j) ⟨hs.trans (Same.swap (by omega) (by omega) (by omega) (by omega)), hup.next (by omega) (by omega) (by omega) hlt, by omega⟩ (by dsimp only; omega)))
set_option maxHeartbeats 4000000 in
theorem down_ok {R : List HP} {p n : Nat} {l Kk : List Int} (i0 m : Nat) (hx : HeapX Kk l m i0 i0) (hi : i0 ≤ 65536) (hm : m ≤ l.length) :
    Ok Tryz.prog 156 [(.iface 178 (.pointer (some ⟨p, 0, none⟩))), (.int .i64 ((i0 : Nat) : Int)), (.int .i64 ((m : Nat) : Int))] ((RowsO p n l Kk) :: R)
      (fun v M => ∃ b l', DownOk Kk l l' m i0 b ∧ v = .bool b ∧ M = RowsO p n l' Kk :: R) := by
 refine ok_of (N := 48) Tryz.func156 rfl rfl rfl (fun W => ?_)
 refine t_learn (fun _ h => rfacts_of h) (fun hrf => ?_)
 obtain ⟨hhi, hkl, hbg⟩ := hrf
 have hll := hhi.le
 refine c_seq (fun K1 hK1 => c_region (tp rfl (lv_assign rfl) (t_done (q_then_n (hK1 _ _ (c_seq (fun K2 hK2 => c_region (tp rfl (lv_move rfl) (tp rfl (lv_assign rfl) (t_done ?_))))))))))
 refine q_then_n (hK2 _ _ (c_seq (fun K3 hK3 => c_block ?_)))
 refine c_loop (γ := (Nat) × (List Int)) (fun (i, l') => Same m l l' ∧ HeapX Kk l' m i0 i ∧ i0 ≤ i ∧ (i = i0 → l' = l) ∧ i ≤ 100000) (fun (i, l') => [(0, (.iface 178 (vP p 0))), (1, (vN i0)), (2, (vN m)), (6, (.bool false)), (7, (vN i))]) (fun (i, l') => (RowsO p n l' Kk) :: R) (fun (i, l') => m - i) (i0, l) ⟨Same.refl _ _, hx, Nat.le_refl _, fun _ => rfl, by omega⟩ ⟨rfl, rfl, rfl, rfl, rfl, trivial⟩ (fun _ h => h) ?_
 rintro ⟨i, l'⟩ K4 hF hK4
 try dsimp only at hF hK4 ⊢
 obtain ⟨hs, hx', hii, hsame, hbig⟩ := hF
 have hsl := hs.len
 refine c_block (c_seq (fun K5 hK5 => c_region (tp rfl (lv_move rfl) (tp rfl (lv_mul (c := ((2 * i : Nat) : Int)) rfl rfl ((wr_i64 (by omega) (by omega)).trans (by omega))) ?_))))
 refine tp rfl (lv_add (c := ((2 * i + 1 : Nat) : Int)) rfl rfl ((wr_i64 (by omega) (by omega)).trans (by omega))) ?_
 refine tp rfl (lv_assign rfl) (t_done (q_then_n (hK5 _ _ (c_seq (fun K6 hK6 => c_seq (fun K7 hK7 => c_region (tp rfl (lv_move rfl) (tp rfl (lv_move rfl) ?_))))))))
 by_cases h1 : ((2 * i + 1 : Nat) : Int) ≥ ((m : Nat) : Int)
 · refine tp rfl (lv_geq rfl rfl (decide_eq_true h1)) (tp rfl (lv_move rfl) ?_)
   refine t_skip rfl rfl rfl ?_
   refine t_skip rfl rfl rfl ?_
   refine tp rfl (lv_pick_t rfl rfl) (t_done (q_then_n (hK7 _ _ (c_true rfl (c_exit (q_then_x ?_))))))
   refine q_in_y rfl ?_
   refine q_then_x (q_in_x (q_then_n (hK3 _ _ (c_seq (fun K8 hK8 => c_region (tp rfl (lv_move rfl) (tp rfl (lv_move rfl) (tp rfl (lv_gtr rfl rfl rfl) (tp rfl (lv_assign rfl) (t_done ?_))))))))))
   refine q_then_n (hK8 _ _ (c_ret ?_))
   refine q_ret rfl rfl ?_
   have hst : (∀ k, 0 < k → k < m → (k - 1) / 2 = i → LeAt Kk l' i k) := fun k k0 k1 k2 => (by omega)
   refine ⟨decide (((i : Nat) : Int) > ((i0 : Nat) : Int)), l', ⟨hs, fun hb => hx'.stop hst (by have := of_decide_eq_true hb; omega), fun hb => ?_⟩, rfl, rfl⟩
   have hi0 : i = i0 := by have := of_decide_eq_false hb; omega
   have hl' := hsame hi0
   subst hi0; subst hl'
   exact ⟨rfl, hx'.stay hst⟩
 · refine tp rfl (lv_geq rfl rfl (decide_eq_false h1)) (tp rfl (lv_move rfl) ?_)
   refine t_guard rfl rfl ?_
   refine tp rfl (lv_move rfl) ?_
   refine t_guard rfl rfl ?_
   refine tp rfl (lv_lss rfl rfl (decide_eq_false (by omega))) ?_
   refine tp rfl (lv_pick_f rfl rfl) (t_done (q_then_n (hK7 _ _ (c_false rfl (c_skip (q_then_n (hK6 _ _ (c_seq (fun K8 hK8 => c_region (tp rfl (lv_move rfl) (tp rfl (lv_assign rfl) ?_)))))))))))
   refine t_done (q_then_n (hK8 _ _ (c_seq (fun K9 hK9 => c_seq (fun K10 hK10 => c_region (tp rfl (lv_move rfl) (tp rfl (lv_add (c := ((2 * i + 2 : Nat) : Int)) rfl rfl ((wr_i64 (by omega) (by omega)).trans (by omega))) ?_)))))))
   refine tp rfl (lv_assign rfl) (t_done (q_then_n (hK10 _ _ (c_seq (fun K11 hK11 => c_region (tp rfl (lv_move rfl) (tp rfl (lv_move rfl) ?_)))))))
   by_cases h2 : ((2 * i + 2 : Nat) : Int) < ((m : Nat) : Int)
   · refine tp rfl (lv_lss rfl rfl (decide_eq_true h2)) (tp rfl (lv_move rfl) ?_)
     refine t_guard rfl rfl ?_
     refine tp rfl (lv_move rfl) ?_
     refine t_guard rfl rfl ?_
     refine tp rfl (lv_move rfl) ?_
     refine t_guard rfl rfl ?_
     refine tp rfl (lv_move rfl) ?_
     refine t_guard rfl rfl ?_
     refine tc rfl (en_meth meth_Less rfl rfl) (rless_ok (n := n) (l := l') (Kk := Kk) (2 * i + 2) (2 * i + 1) (by omega) (by omega)) ?_
     rintro _ _ ⟨rfl, rfl⟩
     refine tp rfl (lv_pick_t rfl rfl) (t_done (q_then_n (hK11 _ _ ?_)))
     refine c_split rfl (fun c3 => ?_) (fun c3 => ?_)
     · refine c_region (tp rfl (lv_move rfl) (tp rfl (lv_assign rfl) (t_done (q_then_n (hK9 _ _ (c_seq (fun K12 hK12 => c_seq (fun K13 hK13 => c_region ?_))))))))
       have hch : ∀ k, 0 < k → k < m → (k - 1) / 2 = i → LeAt Kk l' (2 * i + 2) k := fun k k0 k1 k2 => by
         have hq := c3
         have hq : LtK Kk (l'.getD (2 * i + 2) 0) (l'.getD (2 * i + 1) 0) := by simpa using hq
         rcases (show k = 2 * i + 1 ∨ k = 2 * i + 2 by omega) with e | e
         · subst e; exact hq.asymm
         · subst e; exact LtK.irr
       refine tp rfl (lv_move rfl) (tp rfl (lv_move rfl) (tp rfl (lv_move rfl) ?_))
       refine tc rfl (en_meth meth_Less rfl rfl) (rless_ok (n := n) (l := l') (Kk := Kk) (2 * i + 2) i (by omega) (by omega)) ?_
       rintro _ _ ⟨rfl, rfl⟩
       refine tp rfl (lv_not (c := !(decide (LtK Kk (l'.getD (2 * i + 2) 0) (l'.getD i 0)))) rfl rfl) (t_done (q_then_n (hK13 _ _ ?_)))
       refine c_split rfl (fun c4 => ?_) (fun c4 => ?_)
       · refine c_exit (q_then_x ?_)
         refine q_in_y rfl ?_
         refine q_then_x (q_in_x (q_then_n (hK3 _ _ (c_seq (fun K14 hK14 => c_region (tp rfl (lv_move rfl) (tp rfl (lv_move rfl) (tp rfl (lv_gtr rfl rfl rfl) (tp rfl (lv_assign rfl) (t_done ?_))))))))))
         refine q_then_n (hK14 _ _ (c_ret ?_))
         refine q_ret rfl rfl ?_
         have hst : (∀ k, 0 < k → k < m → (k - 1) / 2 = i → LeAt Kk l' i k) := fun k k0 k1 k2 => not_lt_trans (show ¬ LtK Kk (l'.getD (2 * i + 2) 0) (l'.getD i 0) from (by have hq := c4; simpa using hq)) (hch k k0 k1 k2)
         refine ⟨decide (((i : Nat) : Int) > ((i0 : Nat) : Int)), l', ⟨hs, fun hb => hx'.stop hst (by have := of_decide_eq_true hb; omega), fun hb => ?_⟩, rfl, rfl⟩
         have hi0 : i = i0 := by have := of_decide_eq_false hb; omega
         have hl' := hsame hi0
         subst hi0; subst hl'
         exact ⟨rfl, hx'.stay hst⟩
       · refine c_skip (q_then_n (hK12 _ _ (c_seq (fun K14 hK14 => c_region ?_))))
         have hlt : LtK Kk (l'.getD (2 * i + 2) 0) (l'.getD i 0) := by have hq := c4; simpa using hq
         refine tp rfl (lv_move rfl) (tp rfl (lv_move rfl) (tp rfl (lv_move rfl) ?_))
         refine tc rfl (en_meth meth_Swap rfl rfl) (rswap_ok (n := n) (l := l') (Kk := Kk) i (2 * i + 2) (by omega) (by omega)) ?_
         rintro _ _ ⟨rfl, rfl⟩
         refine t_done (q_then_n (hK14 _ _ (c_region (tp rfl (lv_move rfl) (tp rfl (lv_assign rfl) (t_done (q_in_n (q_then_n ?_))))))))
         exact t_weak (by exact ⟨rfl, rfl, rfl, rfl, rfl, trivial⟩) ((hK4 (2 * i + 2, swapL l' i (2 * i + 2)) ⟨hs.trans (Same.swap (by omega) (by omega) (by omega) (by omega)), hx'.next hii (by omega) (by omega) (by omega) (by omega) hlt hch, by omega, fun e => absurd e (by omega), by omega⟩ (by dsimp only; omega)))
     · refine c_skip (q_then_n (hK9 _ _ (c_seq (fun K12 hK12 => c_seq (fun K13 hK13 => c_region ?_)))))
       have hch : ∀ k, 0 < k → k < m → (k - 1) / 2 = i → LeAt Kk l' (2 * i + 1) k := fun k k0 k1 k2 => by
         have hq := c3
         have hq : ¬ LtK Kk (l'.getD (2 * i + 2) 0) (l'.getD (2 * i + 1) 0) := by simpa using hq
         rcases (show k = 2 * i + 1 ∨ k = 2 * i + 2 by omega) with e | e
         · subst e; exact LtK.irr
         · subst e; exact hq
       refine tp rfl (lv_move rfl) (tp rfl (lv_move rfl) (tp rfl (lv_move rfl) ?_))
       refine tc rfl (en_meth meth_Less rfl rfl) (rless_ok (n := n) (l := l') (Kk := Kk) (2 * i + 1) i (by omega) (by omega)) ?_
       rintro _ _ ⟨rfl, rfl⟩
       refine tp rfl (lv_not (c := !(decide (LtK Kk (l'.getD (2 * i + 1) 0) (l'.getD i 0)))) rfl rfl) (t_done (q_then_n (hK13 _ _ ?_)))
       refine c_split rfl (fun c5 => ?_) (fun c5 => ?_)
       · refine c_exit (q_then_x ?_)
         refine q_in_y rfl ?_
         refine q_then_x (q_in_x (q_then_n (hK3 _ _ (c_seq (fun K14 hK14 => c_region (tp rfl (lv_move rfl) (tp rfl (lv_move rfl) (tp rfl (lv_gtr rfl rfl rfl) (tp rfl (lv_assign rfl) (t_done ?_))))))))))
         refine q_then_n (hK14 _ _ (c_ret ?_))
         refine q_ret rfl rfl ?_
         have hst : (∀ k, 0 < k → k < m → (k - 1) / 2 = i → LeAt Kk l' i k) := fun k k0 k1 k2 => not_lt_trans (show ¬ LtK Kk (l'.getD (2 * i + 1) 0) (l'.getD i 0) from (by have hq := c5; simpa using hq)) (hch k k0 k1 k2)
         refine ⟨decide (((i : Nat) : Int) > ((i0 : Nat) : Int)), l', ⟨hs, fun hb => hx'.stop hst (by have := of_decide_eq_true hb; omega), fun hb => ?_⟩, rfl, rfl⟩
         have hi0 : i = i0 := by have := of_decide_eq_false hb; omega
         have hl' := hsame hi0
         subst hi0; subst hl'
         exact ⟨rfl, hx'.stay hst⟩
       · refine c_skip (q_then_n (hK12 _ _ (c_seq (fun K14 hK14 => c_region ?_))))
         have hlt : LtK Kk (l'.getD (2 * i + 1) 0) (l'.getD i 0) := by have hq := c5; simpa using hq
         refine tp rfl (lv_move rfl) (tp rfl (lv_move rfl) (tp rfl (lv_move rfl) ?_))
         refine tc rfl (en_meth meth_Swap rfl rfl) (rswap_ok (n := n) (l := l') (Kk := Kk) i (2 * i + 1) (by omega) (by omega)) ?_
         rintro _ _ ⟨rfl, rfl⟩
         refine t_done (q_then_n (hK14 _ _ (c_region (tp rfl (lv_move rfl) (tp rfl (lv_assign rfl) (t_done (q_in_n (q_then_n ?_))))))))
         exact t_weak (by exact ⟨rfl, rfl, rfl, rfl, rfl, trivial⟩) ((hK4 (2 * i + 1, swapL l' i (2 * i + 1)) ⟨hs.trans (Same.swap (by omega) (by omega) (by omega) (by omega)), hx'.next hii (by omega) (by omega) (by omega) (by omega) hlt hch, by omega, fun e => absurd e (by omega), by omega⟩ (by dsimp only; omega)))
   · refine tp rfl (lv_lss rfl rfl (decide_eq_false h2)) (tp rfl (lv_move rfl) ?_)
     refine t_skip rfl rfl rfl ?_
     refine t_skip rfl rfl rfl ?_
     refine t_skip rfl rfl rfl ?_
     refine t_skip rfl rfl rfl ?_
     refine tp rfl (lv_pick_f rfl rfl) (t_done (q_then_n (hK11 _ _ (c_false rfl (c_skip (q_then_n (hK9 _ _ (c_seq (fun K12 hK12 => c_seq (fun K13 hK13 => c_region ?_))))))))))
     have hch : ∀ k, 0 < k → k < m → (k - 1) / 2 = i → LeAt Kk l' (2 * i + 1) k := fun k k0 k1 k2 => by
       have e : k = 2 * i + 1 := by omega
       subst e; exact LtK.irr
     refine tp rfl (lv_move rfl) (tp rfl (lv_move rfl) (tp rfl (lv_move rfl) ?_))
     refine tc rfl (en_meth meth_Less rfl rfl) (rless_ok (n := n) (l := l') (Kk := Kk) (2 * i + 1) i (by omega) (by omega)) ?_
     rintro _ _ ⟨rfl, rfl⟩
     refine tp rfl (lv_not (c := !(decide (LtK Kk (l'.getD (2 * i + 1) 0) (l'.getD i 0)))) rfl rfl) (t_done (q_then_n (hK13 _ _ ?_)))
     refine c_split rfl (fun c6 => ?_) (fun c6 => ?_)
     · refine c_exit (q_then_x ?_)
       refine q_in_y rfl ?_
       refine q_then_x (q_in_x (q_then_n (hK3 _ _ (c_seq (fun K14 hK14 => c_region (tp rfl (lv_move rfl) (tp rfl (lv_move rfl) (tp rfl (lv_gtr rfl rfl rfl) (tp rfl (lv_assign rfl) (t_done ?_))))))))))
       refine q_then_n (hK14 _ _ (c_ret ?_))
       refine q_ret rfl rfl ?_
       have hst : (∀ k, 0 < k → k < m → (k - 1) / 2 = i → LeAt Kk l' i k) := fun k k0 k1 k2 => not_lt_trans (show ¬ LtK Kk (l'.getD (2 * i + 1) 0) (l'.getD i 0) from (by have hq := c6; simpa using hq)) (hch k k0 k1 k2)
       refine ⟨decide (((i : Nat) : Int) > ((i0 : Nat) : Int)), l', ⟨hs, fun hb => hx'.stop hst (by have := of_decide_eq_true hb; omega), fun hb => ?_⟩, rfl, rfl⟩
       have hi0 : i = i0 := by have := of_decide_eq_false hb; omega
       have hl' := hsame hi0
       subst hi0; subst hl'
       exact ⟨rfl, hx'.stay hst⟩
     · refine c_skip (q_then_n (hK12 _ _ (c_seq (fun K14 hK14 => c_region ?_))))
       have hlt : LtK Kk (l'.getD (2 * i + 1) 0) (l'.getD i 0) := by have hq := c6; simpa using hq
       refine tp rfl (lv_move rfl) (tp rfl (lv_move rfl) (tp rfl (lv_move rfl) ?_))
       refine tc rfl (en_meth meth_Swap rfl rfl) (rswap_ok (n := n) (l := l') (Kk := Kk) i (2 * i + 1) (by omega) (by omega)) ?_
       rintro _ _ ⟨rfl, rfl⟩
       refine t_done (q_then_n (hK14 _ _ (c_region (tp rfl (lv_move rfl) (tp rfl (lv_assign rfl) (t_done (q_in_n (q_then_n ?_))))))))
       exact t_weak (by exact ⟨rfl, rfl, rfl, rfl, rfl, trivial⟩) ((hK4 (2 * i + 1, swapL l' i (2 * i + 1)) ⟨hs.trans (Same.swap (by omega) (by omega) (by omega) (by omega)), hx'.next hii (by omega) (by omega) (by omega) (by omega) hlt hch, by omega, fun e => absurd e (by omega), by omega⟩ (by dsimp only; omega)))
end Go.Proofs.YtanfdikglplkaaaGreatDoor
set_option maxRecDepth 100000
namespace Go.Proofs.YtanfdikglplkaaaGreatDoor
open Go Go.Proofs Sp
theorem cpush_ok {R : List HP} {p n : Nat} {l Kk : List Int} (x : Int) (hx : 0 ≤ x ∧ x < n) (hn : x ∉ l) (hp : HeapP Kk l l.length) :
    Ok Tryz.prog 162 [(.iface 178 (.pointer (some ⟨p, 0, none⟩))), (.iface 3 (.int .i64 x))] ((RowsO p n l Kk) :: R)
      (fun v M => ∃ l', ((∀ y, y ∈ l' ↔ y ∈ l ++ [x]) ∧ HI n l' ∧ HeapP Kk l' l'.length) ∧ v = .tuple #[] ∧ M = RowsO p n l' Kk :: R) := by
 refine ok_of (N := 12) Tryz.func162 rfl rfl rfl (fun W => ?_)
 refine t_learn (fun _ h => rfacts_of h) (fun hrf => ?_)
 obtain ⟨hhi, hkl, hbg⟩ := hrf
 have hll := hhi.le
 refine c_seq (fun K1 hK1 => c_region (tp rfl (lv_move rfl) (tp rfl (lv_move rfl) ?_)))
 refine tc rfl (en_meth meth_Push rfl rfl) (rpush_ok (n := n) (l := l) (Kk := Kk) x hx hn) ?_
 rintro _ _ ⟨rfl, rfl⟩
 refine t_done (q_then_n (hK1 _ _ (c_region ?_)))
 have hapl : (l ++ [x]).length = l.length + 1 := by simp
 have hle2 : l.length + 1 ≤ n := by have := (hhi.push hx hn).le; omega
 refine tp rfl (lv_move rfl) (tp rfl (lv_move rfl) ?_)
 refine tc rfl (en_meth meth_Len rfl rfl) (rlen_ok (n := n) (l := l ++ [x]) (Kk := Kk)) ?_
 rintro _ _ ⟨rfl, rfl⟩
 refine tp rfl (lv_sub (c := ((l.length : Nat) : Int)) rfl rfl ((wr_i64 (by omega) (by omega)).trans (by omega))) ?_
 refine tc rfl (en_fn Tryz.call172 rfl) (up_ok (n := n) (l := l ++ [x]) (Kk := Kk) (m := (l ++ [x]).length) l.length (HeapP.pushUp hp) (by omega) (by omega)) ?_
 rintro _ _ ⟨l1, hs2, hp3, rfl, rfl⟩
 refine t_done ?_
 refine t_learn (fun _ h => rfacts_of h) (fun hrf2 => ?_)
 refine q_ret0 rfl ?_
 refine ⟨l1, ⟨fun y => (hs2.mem y), hrf2.1, ?_⟩, rfl, rfl⟩
 have e : (l ++ [x]).length = l1.length := hs2.len.symm
 rw [e] at hp3; exact hp3
set_option maxHeartbeats 4000000 in
theorem crem_ok {R : List HP} {p n : Nat} {l Kk : List Int} (i : Nat) (hi : i < l.length) (hp : HeapP Kk l l.length) :
    Ok Tryz.prog 159 [(.iface 178 (.pointer (some ⟨p, 0, none⟩))), (.int .i64 ((i : Nat) : Int))] ((RowsO p n l Kk) :: R)
      (fun v M => ∃ l', ((∀ y, y ∈ l' ↔ y ∈ l ∧ y ≠ l.getD i 0) ∧ HI n l' ∧ HeapP Kk l' l'.length) ∧ v = .iface 3 (.int .i64 (l.getD i 0)) ∧ M = RowsO p n l' Kk :: R) := by
 refine ok_of (N := 26) Tryz.func159 rfl rfl rfl (fun W => ?_)
 refine t_learn (fun _ h => rfacts_of h) (fun hrf => ?_)
 obtain ⟨hhi, hkl, hbg⟩ := hrf
 have hll := hhi.le
 have hswl := swapL_len l i (l.length - 1)
 refine c_seq (fun K1 hK1 => c_region (tp rfl (lv_assign rfl) (t_done (q_then_n (hK1 _ _ (c_seq (fun K2 hK2 => c_region (tp rfl (lv_move rfl) ?_))))))))
 refine tc rfl (en_meth meth_Len rfl rfl) (rlen_ok (n := n) (l := l) (Kk := Kk)) ?_
 rintro _ _ ⟨rfl, rfl⟩
 refine tp rfl (lv_sub (c := ((l.length - 1 : Nat) : Int)) rfl rfl ((wr_i64 (by omega) (by omega)).trans (by omega))) ?_
 refine tp rfl (lv_assign rfl) (t_done (q_then_n (hK2 _ _ (c_seq (fun K3 hK3 => c_seq (fun K4 hK4 => c_region (tp rfl (lv_move rfl) (tp rfl (lv_move rfl) ?_))))))))
 by_cases h1 : ((l.length - 1 : Nat) : Int) = ((i : Nat) : Int)
 · refine tp rfl (lv_neq rfl rfl (bne_eq_false_iff_eq.2 h1)) (t_done (q_then_n (hK4 _ _ (c_false rfl (c_skip (q_then_n (hK3 _ _ (c_seq (fun K5 hK5 => c_region ?_)))))))))
   refine t_learn (fun _ h => rfacts_of h) (fun hrf1 => ?_)
   have hq2 := hrf1.1
   refine tp rfl (lv_move rfl) ?_
   refine tc rfl (en_meth meth_Pop rfl rfl) (rpop_ok (n := n) (l := l) (Kk := Kk) (by omega)) ?_
   rintro _ _ ⟨rfl, rfl⟩
   refine tp rfl (lv_assign rfl) (t_done (q_then_n (hK5 _ _ (c_ret ?_))))
   refine t_learn (fun _ h => rfacts_of h) (fun hrf2 => ?_)
   refine q_ret rfl rfl ?_
   have hpp : HeapP Kk l (l.length - 1) := hp.less (by omega)
   have hmm : ∀ y, y ∈ l ↔ y ∈ l := fun y => Iff.rfl
   have hln : l.length = l.length := rfl
   have hlast : l.getD (l.length - 1) 0 = l.getD i 0 := by rw [show l.length - 1 = i by omega]
   refine ⟨l.dropLast, ⟨fun y => ?_, hrf2.1, hpp.dropLast (by omega)⟩, by rw [hlast], rfl⟩
   rw [dropLast_mem hq2 (by omega), hlast, hmm]
 · refine tp rfl (lv_neq rfl rfl (bne_iff_ne.2 h1)) (t_done (q_then_n (hK4 _ _ (c_true rfl (c_seq (fun K5 hK5 => c_region (tp rfl (lv_move rfl) (tp rfl (lv_move rfl) (tp rfl (lv_move rfl) ?_)))))))))
   refine tc rfl (en_meth meth_Swap rfl rfl) (rswap_ok (n := n) (l := l) (Kk := Kk) i (l.length - 1) (by omega) (by omega)) ?_
   rintro _ _ ⟨rfl, rfl⟩
   refine t_done (q_then_n (hK5 _ _ (c_seq (fun K6 hK6 => c_region (tp rfl (lv_move rfl) (tp rfl (lv_move rfl) (tp rfl (lv_move rfl) ?_)))))))
   refine tc rfl (en_fn Tryz.call156 rfl) (down_ok (n := n) (l := swapL l i (l.length - 1)) (Kk := Kk) i (l.length - 1) ((hp.less (Nat.sub_le _ _)).swapX (by omega) (by omega) (by omega) (by omega)) (by omega) (by omega)) ?_
   rintro _ _ ⟨bb2, l3, hd4, rfl, rfl⟩
   refine tp rfl (lv_not (c := !bb2) rfl rfl) (t_done (q_then_n (hK6 _ _ ?_)))
   refine c_split rfl (fun c5 => ?_) (fun c5 => ?_)
   · refine c_region ?_
     have hno := hd4.no (by have hq : (!bb2) = true := (by assumption); simpa using hq)
     have hl2 := hno.1
     refine tp rfl (lv_move rfl) (tp rfl (lv_move rfl) ?_)
     refine tc rfl (en_fn Tryz.call172 rfl) (up_ok (n := n) (l := l3) (Kk := Kk) (m := (l.length - 1)) i (by rw [hl2]; exact hno.2) (by omega) (by rw [hl2]; omega)) ?_
     rintro _ _ ⟨l6, hs7, hp8, rfl, rfl⟩
     refine t_done (q_then_n (hK3 _ _ (c_seq (fun K7 hK7 => c_region ?_))))
     refine t_learn (fun _ h => rfacts_of h) (fun hrf1 => ?_)
     have hq2 := hrf1.1
     have hd0 := hd4.same.len
     rw [swapL_len] at hd0
     have hu0 := hs7.len
     refine tp rfl (lv_move rfl) ?_
     refine tc rfl (en_meth meth_Pop rfl rfl) (rpop_ok (n := n) (l := l6) (Kk := Kk) (by omega)) ?_
     rintro _ _ ⟨rfl, rfl⟩
     refine tp rfl (lv_assign rfl) (t_done (q_then_n (hK7 _ _ (c_ret ?_))))
     refine t_learn (fun _ h => rfacts_of h) (fun hrf2 => ?_)
     refine q_ret rfl rfl ?_
     have hpp : HeapP Kk l6 (l.length - 1) := by have h3 := hp8; exact h3
     have hmm : ∀ y, y ∈ l6 ↔ y ∈ l := fun y => by rw [hs7.mem, hno.1, swap_mem (by omega) (by omega)]
     have hln : l6.length = l.length := by rw [hs7.len, hno.1, swapL_len]
     have hlast : l6.getD (l6.length - 1) 0 = l.getD i 0 := by rw [show l6.length = l.length from by rw [hs7.len, hno.1, swapL_len], hs7.rest _ (by omega), hno.1]; rw [swapL_get (by omega) (by omega), if_pos rfl]
     refine ⟨l6.dropLast, ⟨fun y => ?_, hrf2.1, hpp.dropLast (by omega)⟩, by rw [hlast], rfl⟩
     rw [dropLast_mem hq2 (by omega), hlast, hmm]
   · refine c_skip (q_then_n (hK3 _ _ (c_seq (fun K7 hK7 => c_region ?_))))
     refine t_learn (fun _ h => rfacts_of h) (fun hrf1 => ?_)
     have hq2 := hrf1.1
     have hd0 := hd4.same.len
     rw [swapL_len] at hd0
     refine tp rfl (lv_move rfl) ?_
     refine tc rfl (en_meth meth_Pop rfl rfl) (rpop_ok (n := n) (l := l3) (Kk := Kk) (by omega)) ?_
     rintro _ _ ⟨rfl, rfl⟩
     refine tp rfl (lv_assign rfl) (t_done (q_then_n (hK7 _ _ (c_ret ?_))))
     refine t_learn (fun _ h => rfacts_of h) (fun hrf2 => ?_)
     refine q_ret rfl rfl ?_
     have hpp : HeapP Kk l3 (l.length - 1) := hd4.yes (by have hq : (!bb2) = false := (by assumption); simpa using hq)
     have hmm : ∀ y, y ∈ l3 ↔ y ∈ l := fun y => by rw [hd4.same.mem, swap_mem (by omega) (by omega)]
     have hln : l3.length = l.length := by rw [hd4.same.len, swapL_len]
     have hlast : l3.getD (l3.length - 1) 0 = l.getD i 0 := by rw [show l3.length = l.length from by rw [hd4.same.len, swapL_len], hd4.same.rest _ (by omega)]; rw [swapL_get (by omega) (by omega), if_pos rfl]
     refine ⟨l3.dropLast, ⟨fun y => ?_, hrf2.1, hpp.dropLast (by omega)⟩, by rw [hlast], rfl⟩
     rw [dropLast_mem hq2 (by omega), hlast, hmm]
end Go.Proofs.YtanfdikglplkaaaGreatDoor
set_option maxRecDepth 100000
namespace Go.Proofs.YtanfdikglplkaaaGreatDoor
open Go Go.Proofs Sp
theorem known_ok {R : List HP} {p n : Nat} {ks : Ks} (x : Int) :
    Ok Tryz.prog 160 [(.pointer (some ⟨p, 0, none⟩)), (.int .i64 x)] ((HeapO p n ks) :: R)
      (fun v M => v = .bool (known n x) ∧ M = HeapO p n ks :: R) := by
 refine ok_of (N := 17) Tryz.func160 rfl rfl rfl (fun W => ?_)
 refine t_openH (fun l Kk hH => ?_)
 refine t_openW (fun at1 bs2 cp3 bs4 cp5 bs6 cp7 hR8 => ?_)
 have hal := hR8.ato.len
 have hkl := hR8.lk
 have hbg := hR8.big
 have hll := hR8.hi.le
 have hcl := hR8.cpl
 refine c_seq (fun K1 hK1 => c_region (tp rfl (lv_assign rfl) (t_done (q_then_n (hK1 _ _ (c_seq (fun K2 hK2 => c_region (tp rfl (lv_move rfl) ?_))))))))
 by_cases h9 : x ≥ 0
 · refine tp rfl (lv_geq rfl rfl (decide_eq_true h9)) (tp rfl (lv_move rfl) ?_)
   refine t_guard rfl rfl ?_
   refine tp rfl (lv_move rfl) ?_
   refine t_guard rfl rfl ?_
   refine tp rfl (lv_move rfl) ?_
   refine t_guard rfl rfl ?_
   refine tp rfl (lv_nilCheck rfl) ?_
   refine t_guard rfl rfl ?_
   refine tp rfl (lv_fieldAddr (o' := 0) Tryz.underlying173 rfl Tryz.sizeOf171 rfl rfl) ?_
   refine t_guard rfl rfl ?_
   refine tp rfl (lv_fieldAddr (o' := 1) Tryz.underlying171 rfl Tryz.sizeOf34 rfl rfl) ?_
   refine t_guard rfl rfl ?_
   refine tp rfl (lv_load Tryz.isAgg34 rfl (gives_blk (.head _) rfl)) ?_
   refine t_guard rfl rfl ?_
   refine tp rfl (lv_len Tryz.underlying34 rfl rfl) ?_
   refine t_guard rfl rfl ?_
   refine tp rfl (lv_lss rfl rfl rfl) (tp rfl (lv_pick_t rfl rfl) (tp rfl (lv_assign rfl) (t_done (q_then_n (hK2 _ _ (c_ret (t_f3 (t_f3 (t_f3 (t_f3 ?_))))))))))
   refine t_shutW rfl hR8 ?_
   refine t_shutH hH ?_
   refine q_ret rfl rfl ?_
   exact ⟨by first | (unfold known; simp [*]; done) | (unfold known; simp [*]; omega), rfl⟩
 · refine tp rfl (lv_geq rfl rfl (decide_eq_false h9)) (tp rfl (lv_move rfl) ?_)
   refine t_skip rfl rfl rfl ?_
   refine t_skip rfl rfl rfl ?_
   refine t_skip rfl rfl rfl ?_
   refine t_skip rfl rfl rfl ?_
   refine t_skip rfl rfl rfl ?_
   refine t_skip rfl rfl rfl ?_
   refine t_skip rfl rfl rfl ?_
   refine t_skip rfl rfl rfl ?_
   refine tp rfl (lv_pick_f rfl rfl) (tp rfl (lv_assign rfl) (t_done (q_then_n (hK2 _ _ (c_ret (t_f3 (t_f3 (t_f3 (t_f3 ?_)))))))))
   refine t_shutW rfl hR8 ?_
   refine t_shutH hH ?_
   refine q_ret rfl rfl ?_
   exact ⟨by first | (unfold known; simp [*]; done) | (unfold known; simp [*]; omega), rfl⟩
theorem hasK_ok {R : List HP} {p n : Nat} {ks : Ks} (x : Int) :
    Ok Tryz.prog 161 [(.pointer (some ⟨p, 0, none⟩)), (.int .i64 x)] ((HeapO p n ks) :: R)
      (fun v M => v = .bool (hasK ks x) ∧ M = HeapO p n ks :: R) := by
 refine ok_of (N := 19) Tryz.func161 rfl rfl rfl (fun W => ?_)
 refine t_learn (fun _ h => hfacts_of h) (fun hhf => ?_)
 obtain ⟨hln, hbig, hcn⟩ := hhf
 refine c_seq (fun K1 hK1 => c_region (tp rfl (lv_assign rfl) (t_done (q_then_n (hK1 _ _ (c_seq (fun K2 hK2 => c_region (tp rfl (lv_move rfl) (tp rfl (lv_move rfl) ?_)))))))))
 refine tc rfl (en_fn Tryz.call160 rfl) (known_ok (n := n) (ks := ks) x) ?_
 rintro _ _ ⟨rfl, rfl⟩
 refine tp rfl (lv_move rfl) ?_
 rcases hb1 : known n x with _ | _
 · refine t_skip rfl rfl rfl ?_
   refine t_skip rfl rfl rfl ?_
   refine t_skip rfl rfl rfl ?_
   refine t_skip rfl rfl rfl ?_
   refine t_skip rfl rfl rfl ?_
   refine t_skip rfl rfl rfl ?_
   refine t_skip rfl rfl rfl ?_
   refine t_skip rfl rfl rfl ?_
   refine t_skip rfl rfl rfl ?_
   refine tp rfl (lv_pick_f rfl rfl) (tp rfl (lv_assign rfl) (t_done (q_then_n (hK2 _ _ (c_ret ?_)))))
   refine q_ret rfl rfl ?_
   have hkn : known n x = false := by assumption
   exact ⟨by rw [hasK_no hln (fun hh => by rw [known_iff.2 hh] at hkn; cases hkn)], rfl⟩
 · refine t_guard rfl rfl ?_
   refine tp rfl (lv_move rfl) ?_
   have hkx := known_iff.1 (show known n x = true by assumption)
   refine t_openH (fun l Kk hH => ?_)
   refine t_openW (fun at2 bs3 cp4 bs5 cp6 bs7 cp8 hR9 => ?_)
   have hal := hR9.ato.len
   have hkl := hR9.lk
   have hbg := hR9.big
   have hll := hR9.hi.le
   have hcl := hR9.cpl
   refine t_guard rfl rfl ?_
   refine tp rfl (lv_nilCheck rfl) ?_
   refine t_guard rfl rfl ?_
   refine tp rfl (lv_fieldAddr (o' := 0) Tryz.underlying173 rfl Tryz.sizeOf171 rfl rfl) ?_
   refine t_guard rfl rfl ?_
   refine tp rfl (lv_fieldAddr (o' := 1) Tryz.underlying171 rfl Tryz.sizeOf34 rfl rfl) ?_
   refine t_guard rfl rfl ?_
   refine tp rfl (lv_load Tryz.isAgg34 rfl (gives_blk (.head _) rfl)) ?_
   refine t_guard rfl rfl ?_
   refine tp rfl (lv_move rfl) ?_
   refine t_guard rfl rfl ?_
   refine tp rfl (lv_indexAddr (k' := x.toNat) Tryz.underlying34 Tryz.sizeOf3 rfl rfl hR9.oka (by omega) (by omega) (by omega)) ?_
   refine t_guard rfl rfl ?_
   refine tp rfl (lv_load Tryz.isAgg3 rfl (gives_sl (.tail _ (.tail _ (.head _))) (ints_get (by omega)))) ?_
   refine t_guard rfl rfl ?_
   refine tp rfl (lv_geq rfl rfl rfl) (tp rfl (lv_pick_t rfl rfl) (tp rfl (lv_assign rfl) (t_done (q_then_n (hK2 _ _ (c_ret (t_f3 (t_f3 (t_f3 (t_f3 ?_))))))))))
   refine t_shutW rfl hR9 ?_
   refine t_shutH hH ?_
   refine q_ret rfl rfl ?_
   exact ⟨by rw [hH.has hkx, hR9.ato.at_ge hR9.hi hkx], rfl⟩
theorem check_ok {R : List HP} {p n : Nat} {ks : Ks} (x : Int) :
    Ok Tryz.prog 158 [(.pointer (some ⟨p, 0, none⟩)), (.int .i64 x)] ((HeapO p n ks) :: R)
      (fun v M => v = .int .i64 (remE ks x) ∧ M = HeapO p n ks :: R) := by
 refine ok_of (N := 15) Tryz.func158 rfl rfl rfl (fun W => ?_)
 refine t_learn (fun _ h => hfacts_of h) (fun hhf => ?_)
 obtain ⟨hln, hbig, hcn⟩ := hhf
 refine c_seq (fun K1 hK1 => c_region (tp rfl (lv_assign rfl) (t_done (q_then_n (hK1 _ _ (c_seq (fun K2 hK2 => c_block (c_seq (fun K3 hK3 => c_region (tp rfl (lv_move rfl) ?_))))))))))
 refine tp rfl (lv_move rfl) ?_
 refine tc rfl (en_fn Tryz.call160 rfl) (known_ok (n := n) (ks := ks) x) ?_
 rintro _ _ ⟨rfl, rfl⟩
 refine tp rfl (lv_not (c := !(known n x)) rfl rfl) (tp rfl (lv_assign rfl) (t_done (q_then_n (hK3 _ _ ?_))))
 refine c_split rfl (fun c1 => ?_) (fun c1 => ?_)
 · refine c_seq (fun K4 hK4 => c_region (tp rfl (lv_assign rfl) (t_done (q_then_n (hK4 _ _ (c_ret ?_))))))
   refine q_in_r ?_
   refine q_then_r ?_
   refine q_ret rfl rfl ?_
   refine ⟨?_, rfl⟩
   congr 1
   unfold remE
   rw [hln]
   simp_all
 · refine c_seq (fun K4 hK4 => c_region (tp rfl (lv_move rfl) (tp rfl (lv_move rfl) ?_)))
   refine tc rfl (en_fn Tryz.call161 rfl) (hasK_ok (n := n) (ks := ks) x) ?_
   rintro _ _ ⟨rfl, rfl⟩
   refine tp rfl (lv_not (c := !(hasK ks x)) rfl rfl) (tp rfl (lv_assign rfl) (t_done (q_then_n (hK4 _ _ ?_))))
   refine c_split rfl (fun c2 => ?_) (fun c2 => ?_)
   · refine c_seq (fun K5 hK5 => c_region (tp rfl (lv_assign rfl) (t_done (q_then_n (hK5 _ _ (c_ret ?_))))))
     refine q_in_r ?_
     refine q_then_r ?_
     refine q_ret rfl rfl ?_
     refine ⟨?_, rfl⟩
     congr 1
     unfold remE
     rw [hln]
     simp_all
   · refine c_skip (q_in_n (q_then_n (hK2 _ _ (c_seq (fun K5 hK5 => c_region (tp rfl (lv_assign rfl) (t_done (q_then_n (hK5 _ _ (c_ret ?_))))))))))
     refine q_ret rfl rfl ?_
     refine ⟨?_, rfl⟩
     congr 1
     unfold remE
     rw [hln]
     simp_all
set_option maxHeartbeats 4000000 in
theorem hpush_ok {R : List HP} {p n : Nat} {ks : Ks} (x k : Int) :
    Ok Tryz.prog 132 [(.pointer (some ⟨p, 0, none⟩)), (.int .i64 x), (.int .i64 k)] ((HeapO p n ks) :: R)
      (fun v M => v = .int .i64 (pushE ks x) ∧ M = HeapO p n (pushK ks x k) :: R) := by
 refine ok_of (N := 31) Tryz.func132 rfl rfl rfl (fun W => ?_)
 refine t_learn (fun _ h => hfacts_of h) (fun hhf => ?_)
 obtain ⟨hln, hbig, hcn⟩ := hhf
 refine c_seq (fun K1 hK1 => c_region (tp rfl (lv_assign rfl) (t_done (q_then_n (hK1 _ _ (c_seq (fun K2 hK2 => c_block (c_seq (fun K3 hK3 => c_region (tp rfl (lv_move rfl) ?_))))))))))
 refine tp rfl (lv_move rfl) ?_
 refine tc rfl (en_fn Tryz.call160 rfl) (known_ok (n := n) (ks := ks) x) ?_
 rintro _ _ ⟨rfl, rfl⟩
 refine tp rfl (lv_not (c := !(known n x)) rfl rfl) (tp rfl (lv_assign rfl) (t_done (q_then_n (hK3 _ _ ?_))))
 refine c_split rfl (fun c1 => ?_) (fun c1 => ?_)
 · refine c_seq (fun K4 hK4 => c_region (tp rfl (lv_assign rfl) (t_done (q_then_n (hK4 _ _ (c_ret ?_))))))
   refine q_in_r ?_
   refine q_then_r ?_
   refine q_ret rfl rfl ?_
   have e1 : pushE ks x = 1 := by unfold pushE; rw [hln]; simp_all
   have e2 : pushK ks x k = ks := by unfold pushK; rw [e1]; rfl
   exact ⟨by rw [e1], by rw [e2]⟩
 · refine c_seq (fun K4 hK4 => c_region (tp rfl (lv_move rfl) (tp rfl (lv_move rfl) ?_)))
   refine tc rfl (en_fn Tryz.call161 rfl) (hasK_ok (n := n) (ks := ks) x) ?_
   rintro _ _ ⟨rfl, rfl⟩
   refine tp rfl (lv_assign rfl) (t_done (q_then_n (hK4 _ _ ?_)))
   refine c_split rfl (fun c2 => ?_) (fun c2 => ?_)
   · refine c_seq (fun K5 hK5 => c_region (tp rfl (lv_assign rfl) (t_done (q_then_n (hK5 _ _ (c_ret ?_))))))
     refine q_in_r ?_
     refine q_then_r ?_
     refine q_ret rfl rfl ?_
     have e1 : pushE ks x = 8 := by unfold pushE; rw [hln]; simp_all
     have e2 : pushK ks x k = ks := by unfold pushK; rw [e1]; rfl
     exact ⟨by rw [e1], by rw [e2]⟩
   · refine c_skip (q_in_n (q_then_n (hK2 _ _ (c_seq (fun K5 hK5 => c_region ?_)))))
     have hkx := known_iff.1 (show known n x = true by simp_all)
     have hnh : hasK ks x = false := by assumption
     refine t_openH (fun l Kk hH => ?_)
     refine t_openW (fun at3 bs4 cp5 bs6 cp7 bs8 cp9 hR10 => ?_)
     have hal := hR10.ato.len
     have hkl := hR10.lk
     have hbg := hR10.big
     have hll := hR10.hi.le
     have hcl := hR10.cpl
     have hxl : x ∉ l := fun hm => by rw [(hH.key hm).1] at hnh; cases hnh
     refine tp rfl (lv_move rfl) (tp rfl (lv_nilCheck rfl) (tp rfl (lv_fieldAddr (o' := 0) Tryz.underlying173 rfl Tryz.sizeOf171 rfl rfl) (tp rfl (lv_fieldAddr (o' := 2) Tryz.underlying171 rfl Tryz.sizeOf34 rfl rfl) (tp rfl (lv_load Tryz.isAgg34 rfl (gives_blk (.head _) rfl)) (tp rfl (lv_move rfl) (tp rfl (lv_move rfl) (tp rfl (lv_indexAddr (k' := x.toNat) Tryz.underlying34 Tryz.sizeOf3 rfl rfl hR10.okk (by omega) (by omega) (by omega)) ?_)))))))
     refine t_f3 ?_
     refine ts (sv_sl Tryz.sizeOf3 rfl rfl rfl (by rw [ints_length]; omega) ints_set) ?_
     refine t_done (q_then_n (hK5 _ _ (c_seq (fun K6 hK6 => c_region ?_))))
     have hkp := hH.hp.kset hH.hi hH.lk (k := k) hkx hxl
     refine t_f3 (t_f3 (t_f3 ?_))
     refine t_shutW rfl ⟨hR10.hi, hR10.ato, by rw [List.length_set]; exact hR10.lk, hR10.big, hR10.okl, hR10.cpl, hR10.oka, hR10.okk⟩ ?_
     refine tp rfl (lv_move rfl) (tp rfl (lv_nilCheck rfl) (tp rfl (lv_fieldAddr (o' := 0) Tryz.underlying173 rfl Tryz.sizeOf171 rfl rfl) (tp rfl (lv_makeIface (by intro w x; kernel_rfl) rfl) ?_)))
     refine tp rfl (lv_move rfl) (tp rfl (lv_makeIface (by intro w x; kernel_rfl) rfl) ?_)
     refine tc rfl (en_fn Tryz.call162 rfl) (cpush_ok (n := n) (l := l) (Kk := Kk.set x.toNat k) x hkx hxl hkp) ?_
     rintro _ _ ⟨l11, hq12, rfl, rfl⟩
     refine t_done (q_then_n (hK6 _ _ (c_seq (fun K7 hK7 => c_region (tp rfl (lv_assign rfl) (t_done (q_then_n (hK7 _ _ (c_ret ?_)))))))))
     refine t_shutH (hH.push hkx hxl hq12.2.1 hq12.1 hq12.2.2) ?_
     refine q_ret rfl rfl ?_
     have e1 : pushE ks x = 0 := by unfold pushE; rw [hln]; simp_all
     have e2 : pushK ks x k = ks.set x.toNat (some k) := by unfold pushK; rw [e1]; rfl
     exact ⟨by rw [e1], by rw [e2]⟩
set_option maxHeartbeats 4000000 in
theorem hrem_ok {R : List HP} {p n : Nat} {ks : Ks} (x : Int) :
    Ok Tryz.prog 131 [(.pointer (some ⟨p, 0, none⟩)), (.int .i64 x)] ((HeapO p n ks) :: R)
      (fun v M => v = .tuple #[.int .i64 (keyK ks x), .int .i64 (remE ks x)] ∧ M = HeapO p n (remK ks x) :: R) := by
 refine ok_of (N := 34) Tryz.func131 rfl rfl rfl (fun W => ?_)
 refine t_learn (fun _ h => hfacts_of h) (fun hhf => ?_)
 obtain ⟨hln, hbig, hcn⟩ := hhf
 refine c_seq (fun K1 hK1 => c_region (tp rfl (lv_assign rfl) (tp rfl (lv_assign rfl) (t_done (q_then_n (hK1 _ _ (c_seq (fun K2 hK2 => c_seq (fun K3 hK3 => c_region (tp rfl (lv_move rfl) ?_))))))))))
 refine tp rfl (lv_move rfl) ?_
 refine tc rfl (en_fn Tryz.call158 rfl) (check_ok (n := n) (ks := ks) x) ?_
 rintro _ _ ⟨rfl, rfl⟩
 refine tp rfl (lv_assign rfl) (t_done (q_then_n (hK3 _ _ (c_seq (fun K4 hK4 => c_region (tp rfl (lv_move rfl) ?_))))))
 by_cases h1 : (remE ks x) = 0
 · refine tp rfl (lv_neq rfl rfl (bne_eq_false_iff_eq.2 h1)) (t_done (q_then_n (hK4 _ _ (c_false rfl (c_skip (q_then_n (hK2 _ _ (c_seq (fun K5 hK5 => ?_)))))))))
   have hr0 : remE ks x = 0 := by first | assumption | exact Classical.not_not.1 ‹_›
   obtain ⟨hkx', hhx⟩ := remE_zero hr0
   rw [hln] at hkx'
   have hkx := known_iff.1 hkx'
   refine t_openH (fun l Kk hH => ?_)
   have hxl : x ∈ l := by have := hH.has hkx; rw [hhx] at this; exact of_decide_eq_true this.symm
   have hky := (hH.key hxl).2.1
   refine t_openX (fun at2 bs3 cp4 bs5 cp6 bs7 cp8 hR9 => ?_)
   have hal := hR9.ato.len
   obtain ⟨i0, hi0, hi1, hi2⟩ := hR9.ato.at_is hxl
   refine c_draw (γ := List Int) (n := 13) Tryz.mixed rfl rfl (fun (l10 : List Int) S => (S 12 = true → ((∀ y, y ∈ l10 ↔ y ∈ l ∧ y ≠ l.getD i0 0) ∧ HI n l10 ∧ HeapP Kk l10 l10.length))) (fun (l10 : List Int) => [(0, 13, (vP p 0)), (1, 14, (vP p 0)), (2, 15, (vP p 0)), (3, 16, (.iface 178 (vP p 0))), (4, 17, (vP p 0)), (5, 18, (vP p 0)), (6, 19, (vP p 0)), (7, 20, (vP p 1)), (8, 21, (.slice bs5 n cp6)), (9, 22, (.int .i64 x)), (10, 23, (.pointer (some (ad bs5 x.toNat)))), (11, 24, (vN i0)), (12, 25, (.iface 3 (.int .i64 (l.getD i0 0))))]) (fun (l10 : List Int) S => (bif S 12 then (RowsO p n l10 Kk) else (RowsW p n l Kk at2 bs3 cp4 bs5 cp6 bs7 cp8)) :: R) ([]) (by simp [Nat.ble]) (fun _ h => h) (fun _ _ h => h) ?_ ?_
   · refine ⟨?_, ?_, ?_, ?_, ?_, ?_, ?_, ?_, ?_, ?_, ?_, ?_, ?_, trivial⟩
     · rintro l10 S hF hS D hp K hK; try dsimp only
       exact d_lv1 (look_b (t := 0) rfl rfl) (lv_move rfl) 0 rfl rfl hS (hK l10 hF)
     · rintro l10 S hF hS D hp K hK; try dsimp only
       exact d_lv1 (lkr hp 0 rfl rfl) (lv_nilCheck rfl) 1 rfl rfl hS (hK l10 hF)
     · rintro l10 S hF hS D hp K hK; try dsimp only
       exact d_lv1 (lkr hp 1 rfl rfl) (lv_fieldAddr (o' := 0) Tryz.underlying173 rfl Tryz.sizeOf171 rfl rfl) 2 rfl rfl hS (hK l10 hF)
     · rintro l10 S hF hS D hp K hK; try dsimp only
       exact d_lv1 (lkr hp 2 rfl rfl) (lv_makeIface (by intro w x; kernel_rfl) rfl) 3 rfl rfl hS (hK l10 hF)
     · rintro l10 S hF hS D hp K hK; try dsimp only
       exact d_lv1 (look_b (t := 0) rfl rfl) (lv_move rfl) 4 rfl rfl hS (hK l10 hF)
     · rintro l10 S hF hS D hp K hK; try dsimp only
       exact d_lv1 (lkr hp 4 rfl rfl) (lv_nilCheck rfl) 5 rfl rfl hS (hK l10 hF)
     · rintro l10 S hF hS D hp K hK; try dsimp only
       exact d_lv1 (lkr hp 5 rfl rfl) (lv_fieldAddr (o' := 0) Tryz.underlying173 rfl Tryz.sizeOf171 rfl rfl) 6 rfl rfl hS (hK l10 hF)
     · rintro l10 S hF hS D hp K hK; try dsimp only
       exact d_lv1 (lkr hp 6 rfl rfl) (lv_fieldAddr (o' := 1) Tryz.underlying171 rfl Tryz.sizeOf34 rfl rfl) 7 rfl rfl hS (hK l10 hF)
     · rintro l10 S hF hS D hp K hK; try dsimp only
       exact d_lv1 (lkr hp 7 rfl rfl) (lv_load Tryz.isAgg34 rfl (gives_wp (mem_cF (nf (nf (nf hS D (k := 10) (i := 8) rfl) D (k := 11) (i := 10) rfl) D (k := 12) (i := 11) rfl) (.head _)) rfl)) 8 rfl rfl hS (hK l10 hF)
     · rintro l10 S hF hS D hp K hK; try dsimp only
       exact d_lv1 (look_b (t := 1) rfl rfl) (lv_move rfl) 9 rfl rfl hS (hK l10 hF)
     · rintro l10 S hF hS D hp K hK; try dsimp only
       exact d_lv2 (lkr hp 8 rfl rfl) (lkr hp 9 rfl rfl) (lv_indexAddr (k' := x.toNat) Tryz.underlying34 Tryz.sizeOf3 rfl rfl hR9.oka (by omega) (by omega) (by omega)) 10 rfl rfl hS (hK l10 hF)
     · rintro l10 S hF hS D hp K hK; try dsimp only
       exact d_lv1 (lkr hp 10 rfl rfl) (lv_load Tryz.isAgg3 rfl (gives_as (v := .int .i64 ((i0 : Nat) : Int)) (by rw [hi2]) (gives_wa (mem_cF (nf hS D (k := 12) (i := 11) rfl) (.head _)) (ints_get (by omega))))) 11 rfl rfl hS (hK l10 hF)
     · rintro l10 S hF hS D hp K hK
       try dsimp only at hF ⊢
       have hf0 := hF
       have s3 := hp 3 rfl
       have s11 := hp 11 rfl
       refine d_need (small := [(16, (.iface 178 (vP p 0))), (24, (vN i0))]) ⟨look_row rfl 3 rfl s3, look_row rfl 11 rfl s11, trivial⟩ ?_
       refine t_cF hS ?_
       refine t_sat (fun _ h => sat_wo h) ?_
       refine tc rfl (en_fn Tryz.call159 rfl) (crem_ok (n := n) (l := l) (Kk := Kk) i0 hi0 hH.hp) ?_
       rintro _ _ ⟨l10, hq11, rfl, rfl⟩
       exact d_closes ⟨look_row rfl 3 rfl s3, look_row rfl 11 rfl s11, trivial⟩ 12 rfl rfl rfl hS (by exact ⟨.inl rfl, .inl rfl, .inl rfl, .inl rfl, .inl rfl, .inl rfl, .inl rfl, .inl rfl, .inl rfl, .inl rfl, .inl rfl, .inl rfl, .inl rfl, trivial⟩) (t_sat (fun _ h => h) (hK l10 (fun _ => hq11)))
   · rintro l10 hF
     try dsimp only at hF ⊢
     have hf0 := hF
     have hq11 := hf0 rfl
     refine t_weak (E' := [(0, (vP p 0)), (1, (.int .i64 x)), (4, (.int .i64 0)), (5, (.int .i64 0)), (6, (.int .i64 (remE ks x))), (11, (.bool false))]) ⟨rfl, rfl, rfl, rfl, rfl, rfl, trivial⟩ ?_
     refine q_then_n (hK5 _ _ (c_seq (fun K6 hK6 => c_region ?_)))
     refine t_openW (fun at12 bs13 cp14 bs15 cp16 bs17 cp18 hR19 => ?_)
     have hal := hR19.ato.len
     have hkl := hR19.lk
     have hbg := hR19.big
     have hll := hR19.hi.le
     have hcl := hR19.cpl
     refine tp rfl (lv_move rfl) (tp rfl (lv_nilCheck rfl) (tp rfl (lv_fieldAddr (o' := 0) Tryz.underlying173 rfl Tryz.sizeOf171 rfl rfl) (tp rfl (lv_fieldAddr (o' := 2) Tryz.underlying171 rfl Tryz.sizeOf34 rfl rfl) (tp rfl (lv_load Tryz.isAgg34 rfl (gives_blk (.head _) rfl)) (tp rfl (lv_move rfl) (tp rfl (lv_indexAddr (k' := x.toNat) Tryz.underlying34 Tryz.sizeOf3 rfl rfl hR19.okk (by omega) (by omega) (by omega)) ?_))))))
     refine tp rfl (lv_load Tryz.isAgg3 rfl (gives_sl (.tail _ (.tail _ (.tail _ (.head _)))) (ints_get (by omega)))) ?_
     refine tp rfl (lv_assign rfl) (tp rfl (lv_assign rfl) (t_done (q_then_n (hK6 _ _ (c_ret (t_f3 (t_f3 (t_f3 (t_f3 ?_)))))))))
     refine t_shutW rfl hR19 ?_
     refine t_shutH (hH.rem hkx hq11.2.1 (by rw [← hi1]; exact hq11.1) hq11.2.2) ?_
     refine q_ret2 rfl rfl rfl ?_
     have e2 : remK ks x = ks.set x.toNat none := by unfold remK; rw [hhx]; rfl
     exact ⟨by rw [hky, hr0], by rw [e2]⟩
 · refine tp rfl (lv_neq rfl rfl (bne_iff_ne.2 h1)) (t_done (q_then_n (hK4 _ _ (c_true rfl (c_seq (fun K5 hK5 => c_region (tp rfl (lv_move rfl) (tp rfl (lv_assign rfl) (tp rfl (lv_assign rfl) (t_done ?_))))))))))
   refine q_then_n (hK5 _ _ (c_ret ?_))
   refine q_then_r ?_
   refine q_ret2 rfl rfl rfl ?_
   obtain ⟨e1, e2⟩ := remE_ne (hln) ‹_›
   exact ⟨by rw [e1], by rw [e2]⟩
set_option maxHeartbeats 4000000 in
theorem hnew_ok {R : List HP} (m : Int) :
    Ok Tryz.prog 69 [(.int .i64 m)] R
      (fun v M => ∃ p, v = .pointer (some ⟨p, 0, none⟩) ∧ M = HeapO p (hclamp m) (List.replicate (hclamp m) none) :: R) := by
 have hcl := hclamp_le m
 have hce : min (max m 0) 65536 = ((hclamp m : Nat) : Int) := by unfold hclamp; omega
 refine ok_of (N := 33) Tryz.func69 rfl rfl rfl (fun W => ?_)
 refine c_seq (fun K1 hK1 => c_region (tp rfl (lv_assign rfl) (t_done (q_then_n (hK1 _ _ (c_seq (fun K2 hK2 => c_region (tp rfl (lv_move rfl) (tp rfl (lv_max (c := max m 0) rfl rfl rfl) (tp rfl (lv_min (c := ((hclamp m : Nat) : Int)) rfl rfl hce) ?_))))))))))
 refine tp rfl (lv_assign rfl) (t_done (q_then_n (hK2 _ _ (c_seq (fun K3 hK3 => ?_)))))
 refine c_draw (γ := Option Addr × Nat × Option Addr × Nat × Nat) (n := 8) Tryz.mixed rfl rfl (fun (bs1, cp2, bs5, cp6, b9) S => (S 1 = true → SlOk bs1 (hclamp m)) ∧ (S 1 = true → hclamp m ≤ cp2) ∧ (S 3 = true → SlOk bs5 (hclamp m)) ∧ (S 3 = true → hclamp m ≤ cp6)) (fun (bs1, cp2, bs5, cp6, b9) => [(0, 8, (.int .i64 ((hclamp m : Nat) : Int))), (1, 9, (.slice bs1 (hclamp m) cp2)), (2, 10, (.int .i64 ((hclamp m : Nat) : Int))), (3, 11, (.slice bs5 (hclamp m) cp6)), (4, 12, (.agg #[(.slice none 0 0), (.slice bs1 (hclamp m) cp2), (.slice bs5 (hclamp m) cp6)])), (5, 13, (.agg #[(.slice none 0 0), (.slice bs1 (hclamp m) cp2), (.slice bs5 (hclamp m) cp6)])), (6, 14, (vP b9 0)), (7, 3, (vP b9 0))]) (fun (bs1, cp2, bs5, cp6, b9) S => (bif S 1 then (SlV 3 1 (.slice bs1 (hclamp m) cp2) (hclamp m) (ints .i64 (List.replicate (hclamp m) 0))) else Emp) :: (bif S 3 then (SlV 3 1 (.slice bs5 (hclamp m) cp6) (hclamp m) (ints .i64 (List.replicate (hclamp m) 0))) else Emp) :: (bif S 6 then (Blk b9 [(.slice none 0 0), (.slice bs1 (hclamp m) cp2), (.slice bs5 (hclamp m) cp6)] 173) else Emp) :: R) (none, 0, none, 0, 0) (by simp [Nat.ble]) (fun _ h => sat_emps [] 3 h) (fun _ _ h => h) ?_ ?_
 · refine ⟨?_, ?_, ?_, ?_, ?_, ?_, ?_, ?_, trivial⟩
   · rintro ⟨bs1, cp2, bs5, cp6, b9⟩ S hF hS D hp K hK; try dsimp only
     exact d_lv1 (look_b (t := 0) rfl rfl) (lv_move rfl) 0 rfl rfl hS (hK (bs1, cp2, bs5, cp6, b9) hF)
   · rintro ⟨bs1, cp2, bs5, cp6, b9⟩ S hF hS D hp K hK
     try dsimp only at hF ⊢
     obtain ⟨hf0, hf1, hf2, hf3⟩ := hF
     have s0 := hp 0 rfl
     refine d_need (small := [(8, (.int .i64 ((hclamp m : Nat) : Int)))]) ⟨look_row rfl 0 rfl s0, trivial⟩ ?_
     refine tm rfl (mv_makeSlice (i := Tryz.t3) Tryz.underlying34 Tryz.type3 rfl rfl rfl rfl rfl (by omega) (by rw [show Tryz.t3.bytes = 8 from rfl]; omega) (by omega)) ?_
     rintro _ _ ⟨bs1, cp2, hok3, hle4, rfl, rfl⟩
     rw [ints_rep]
     refine t_f3 ?_
     refine t_cF (nf (nf (nf hS D (k := 4) (i := 1) rfl) D (k := 5) (i := 4) rfl) D (k := 6) (i := 5) rfl) ?_
     refine t_wF (A := (Blk b9 [(.slice none 0 0), (.slice bs1 (hclamp m) cp2), (.slice bs5 (hclamp m) cp6)] 173)) (nf (nf (nf hS D (k := 4) (i := 1) rfl) D (k := 5) (i := 4) rfl) D (k := 6) (i := 5) rfl) ?_
     refine t_f3 (t_f3 (t_f3 ?_))
     refine t_sat (fun _ h => sat_put [] h) ?_
     exact d_closes ⟨look_row rfl 0 rfl s0, trivial⟩ 1 rfl rfl rfl hS (by exact ⟨.inl rfl, .inr ⟨rfl, rfl, hS⟩, .inl rfl, .inl rfl, .inr ⟨rfl, rfl, (nf hS D (k := 4) (i := 1) rfl)⟩, .inr ⟨rfl, rfl, (nf (nf hS D (k := 4) (i := 1) rfl) D (k := 5) (i := 4) rfl)⟩, .inl rfl, .inl rfl, trivial⟩) (t_sat (fun _ h => h) (hK (bs1, cp2, bs5, cp6, b9) ⟨(fun _ => hok3), (fun _ => hle4), hf2, hf3⟩))
   · rintro ⟨bs1, cp2, bs5, cp6, b9⟩ S hF hS D hp K hK; try dsimp only
     exact d_lv1 (look_b (t := 0) rfl rfl) (lv_move rfl) 2 rfl rfl hS (hK (bs1, cp2, bs5, cp6, b9) hF)
   · rintro ⟨bs1, cp2, bs5, cp6, b9⟩ S hF hS D hp K hK
     try dsimp only at hF ⊢
     obtain ⟨hf0, hf1, hf2, hf3⟩ := hF
     have s2 := hp 2 rfl
     refine d_need (small := [(10, (.int .i64 ((hclamp m : Nat) : Int)))]) ⟨look_row rfl 2 rfl s2, trivial⟩ ?_
     refine tm rfl (mv_makeSlice (i := Tryz.t3) Tryz.underlying34 Tryz.type3 rfl rfl rfl rfl rfl (by omega) (by rw [show Tryz.t3.bytes = 8 from rfl]; omega) (by omega)) ?_
     rintro _ _ ⟨bs5, cp6, hok7, hle8, rfl, rfl⟩
     rw [ints_rep]
     refine t_f3 ?_
     refine t_cF (nf (nf (nf hS D (k := 4) (i := 3) rfl) D (k := 5) (i := 4) rfl) D (k := 6) (i := 5) rfl) ?_
     refine t_wF (A := (Blk b9 [(.slice none 0 0), (.slice bs1 (hclamp m) cp2), (.slice bs5 (hclamp m) cp6)] 173)) (nf (nf (nf hS D (k := 4) (i := 3) rfl) D (k := 5) (i := 4) rfl) D (k := 6) (i := 5) rfl) ?_
     refine t_f3 (t_f3 (t_f3 ?_))
     refine t_sat (fun _ h => sat_put [_] h) ?_
     exact d_closes ⟨look_row rfl 2 rfl s2, trivial⟩ 3 rfl rfl rfl hS (by exact ⟨.inl rfl, .inl rfl, .inl rfl, .inr ⟨rfl, rfl, hS⟩, .inr ⟨rfl, rfl, (nf hS D (k := 4) (i := 3) rfl)⟩, .inr ⟨rfl, rfl, (nf (nf hS D (k := 4) (i := 3) rfl) D (k := 5) (i := 4) rfl)⟩, .inl rfl, .inl rfl, trivial⟩) (t_sat (fun _ h => h) (hK (bs1, cp2, bs5, cp6, b9) ⟨hf0, hf1, (fun _ => hok7), (fun _ => hle8)⟩))
   · rintro ⟨bs1, cp2, bs5, cp6, b9⟩ S hF hS D hp K hK
     try dsimp only at hF ⊢
     obtain ⟨hf0, hf1, hf2, hf3⟩ := hF
     have s1 := hp 1 rfl
     have hok3 := hf0 s1
     have hle4 := hf1 s1
     have s3 := hp 3 rfl
     have hok7 := hf2 s3
     have hle8 := hf3 s3
     refine d_need (small := [(9, (.slice bs1 (hclamp m) cp2)), (11, (.slice bs5 (hclamp m) cp6))]) ⟨look_row rfl 1 rfl s1, look_row rfl 3 rfl s3, trivial⟩ ?_
     refine tp rfl (lv_build (cs := [(.slice none 0 0), (.slice bs1 (hclamp m) cp2), (.slice bs5 (hclamp m) cp6)]) (pl := [(0, 1), (1, 1), (2, 1)]) Tryz.underlying171 Tryz.zeroValue171 (fun _ => by simp) rfl rfl) ?_
     exact d_closes ⟨look_row rfl 1 rfl s1, look_row rfl 3 rfl s3, trivial⟩ 4 rfl rfl rfl hS (AgreeR.refl _) (t_sat (fun _ h => h) (hK (bs1, cp2, bs5, cp6, b9) ⟨hf0, hf1, hf2, hf3⟩))
   · rintro ⟨bs1, cp2, bs5, cp6, b9⟩ S hF hS D hp K hK
     try dsimp only at hF ⊢
     obtain ⟨hf0, hf1, hf2, hf3⟩ := hF
     have s4 := hp 4 rfl
     have s1 := D 4 1 rfl s4
     have hok3 := hf0 s1
     have hle4 := hf1 s1
     have s3 := D 4 3 rfl s4
     have hok7 := hf2 s3
     have hle8 := hf3 s3
     refine d_need (small := [(12, (.agg #[(.slice none 0 0), (.slice bs1 (hclamp m) cp2), (.slice bs5 (hclamp m) cp6)]))]) ⟨look_row rfl 4 rfl s4, trivial⟩ ?_
     refine tp rfl (lv_build (cs := [(.slice none 0 0), (.slice bs1 (hclamp m) cp2), (.slice bs5 (hclamp m) cp6)]) (pl := [(0, 3)]) Tryz.underlying173 Tryz.zeroValue173 (fun _ => by simp) rfl rfl) ?_
     exact d_closes ⟨look_row rfl 4 rfl s4, trivial⟩ 5 rfl rfl rfl hS (AgreeR.refl _) (t_sat (fun _ h => h) (hK (bs1, cp2, bs5, cp6, b9) ⟨hf0, hf1, hf2, hf3⟩))
   · rintro ⟨bs1, cp2, bs5, cp6, b9⟩ S hF hS D hp K hK
     try dsimp only at hF ⊢
     obtain ⟨hf0, hf1, hf2, hf3⟩ := hF
     have s5 := hp 5 rfl
     have s4 := D 5 4 rfl s5
     have s1 := D 4 1 rfl s4
     have hok3 := hf0 s1
     have hle4 := hf1 s1
     have s3 := D 4 3 rfl s4
     have hok7 := hf2 s3
     have hle8 := hf3 s3
     refine d_need (small := [(13, (.agg #[(.slice none 0 0), (.slice bs1 (hclamp m) cp2), (.slice bs5 (hclamp m) cp6)]))]) ⟨look_row rfl 5 rfl s5, trivial⟩ ?_
     refine tm rfl (mv_box rfl rfl) ?_
     rintro _ _ ⟨b9, rfl, rfl⟩
     refine t_sat (fun _ h => sat_put [_, _] h) ?_
     exact d_closes ⟨look_row rfl 5 rfl s5, trivial⟩ 6 rfl rfl rfl hS (by exact ⟨.inl rfl, .inl rfl, .inl rfl, .inl rfl, .inl rfl, .inl rfl, .inr ⟨rfl, rfl, hS⟩, .inr ⟨rfl, rfl, (nf hS D (k := 7) (i := 6) rfl)⟩, trivial⟩) (t_sat (fun _ h => h) (hK (bs1, cp2, bs5, cp6, b9) ⟨hf0, hf1, hf2, hf3⟩))
   · rintro ⟨bs1, cp2, bs5, cp6, b9⟩ S hF hS D hp K hK; try dsimp only
     exact d_lv1 (lkr hp 6 rfl rfl) (lv_assign rfl) 7 rfl rfl hS (hK (bs1, cp2, bs5, cp6, b9) hF)
 · rintro ⟨bs1, cp2, bs5, cp6, b9⟩ hF
   try dsimp only at hF ⊢
   obtain ⟨hf0, hf1, hf2, hf3⟩ := hF
   have hok3 := hf0 rfl
   have hle4 := hf1 rfl
   have hok7 := hf2 rfl
   have hle8 := hf3 rfl
   refine t_weak (E' := [(0, (.int .i64 ((hclamp m : Nat) : Int))), (2, (.pointer none)), (3, (vP b9 0))]) ⟨rfl, rfl, rfl, trivial⟩ ?_
   refine q_then_n (hK3 _ _ (c_seq (fun K4 hK4 => c_seq (fun K5 hK5 => c_region (tp rfl (lv_move rfl) (tp rfl (lv_nilCheck rfl) (tp rfl (lv_fieldAddr (o' := 0) Tryz.underlying173 rfl Tryz.sizeOf171 rfl rfl) (tp rfl (lv_fieldAddr (o' := 1) Tryz.underlying171 rfl Tryz.sizeOf34 rfl rfl) (tp rfl (lv_load Tryz.isAgg34 rfl (gives_blk (.tail _ (.tail _ (.head _))) rfl)) (tp rfl (lv_len Tryz.underlying34 rfl rfl) ?_))))))))))
   refine tp rfl (lv_move rfl) (t_done (q_then_n (hK5 _ _ (c_block ?_))))
   refine t_sat (fun _ h => (show Sat (SlV 3 1 (.slice bs1 (hclamp m) cp2) (hclamp m) (ints .i64 (fillM (hclamp m) 0)) :: _) _ from by rw [← fillM_start]; exact h)) ?_
   refine c_loop (γ := (Nat)) (fun (i : Nat) => i ≤ hclamp m) (fun (i : Nat) => [(0, (.int .i64 ((hclamp m : Nat) : Int))), (2, (.pointer none)), (3, (vP b9 0)), (20, (.int .i64 ((hclamp m : Nat) : Int))), (21, (vN i))]) (fun (i : Nat) => (SlV 3 1 (.slice bs1 (hclamp m) cp2) (hclamp m) (ints .i64 (fillM (hclamp m) i))) :: (SlV 3 1 (.slice bs5 (hclamp m) cp6) (hclamp m) (ints .i64 (List.replicate (hclamp m) 0))) :: (Blk b9 [(.slice none 0 0), (.slice bs1 (hclamp m) cp2), (.slice bs5 (hclamp m) cp6)] 173) :: R) (fun (i : Nat) => hclamp m - i) (0) (by omega) ⟨rfl, rfl, rfl, rfl, rfl, trivial⟩ (fun _ h => h) ?_
   rintro i K6 hF hK6
   try dsimp only at hF hK6 ⊢
   have hfl := fillM_len (N := hclamp m) (i := i) (by omega)
   refine c_seq (fun K7 hK7 => c_region ?_)
   by_cases h10 : ((i : Nat) : Int) < ((hclamp m : Nat) : Int)
   · refine tp rfl (lv_lss rfl rfl (decide_eq_true h10)) (t_done (q_then_n (hK7 _ _ (c_seq (fun K8 hK8 => c_true rfl (c_skip (q_then_n (hK8 _ _ (c_seq (fun K9 hK9 => c_block (c_seq (fun K10 hK10 => ?_))))))))))))
     refine c_region (tp rfl (lv_move rfl) (tp rfl (lv_assign rfl) (t_done (q_then_n (hK10 _ _ (c_region (tp rfl (lv_move rfl) (tp rfl (lv_nilCheck rfl) (tp rfl (lv_fieldAddr (o' := 0) Tryz.underlying173 rfl Tryz.sizeOf171 rfl rfl) (tp rfl (lv_fieldAddr (o' := 1) Tryz.underlying171 rfl Tryz.sizeOf34 rfl rfl) ?_))))))))))
     refine tp rfl (lv_load Tryz.isAgg34 rfl (gives_blk (.tail _ (.tail _ (.head _))) rfl)) (tp rfl (lv_move rfl) (tp rfl (lv_indexAddr (k' := i) Tryz.underlying34 Tryz.sizeOf3 rfl rfl hok3 (by omega) (by omega) (by omega)) ?_))
     refine ts (sv_sl Tryz.sizeOf3 rfl rfl rfl (by rw [ints_length]; omega) ints_set) ?_
     refine t_done (q_in_n (q_then_n (hK9 _ _ (c_region (tp rfl (lv_add (c := ((i + 1 : Nat) : Int)) rfl rfl (wr_i64_succ (by omega))) ?_)))))
     refine tp rfl (lv_move rfl) (t_done (q_then_n ?_))
     rw [fillM_next (show i < hclamp m by omega)]
     exact t_weak (by exact ⟨rfl, rfl, rfl, rfl, rfl, trivial⟩) ((hK6 (i + 1) (by omega) (by omega)))
   · refine tp rfl (lv_lss rfl rfl (decide_eq_false h10)) (t_done (q_then_n (hK7 _ _ (c_seq (fun K8 hK8 => c_false rfl (c_exit (q_then_x (q_then_x (q_in_x (q_then_n (hK4 _ _ ?_)))))))))))
     refine c_seq (fun K9 hK9 => c_region (tp rfl (lv_move rfl) (tp rfl (lv_assign rfl) (t_done (q_then_n (hK9 _ _ (c_ret (t_f1 (t_f1 (t_f2 ?_))))))))))
     refine t_sat (fun _ h => sat_nilsl 3 1 h) ?_
     refine t_f1 ?_
     rw [show fillM (hclamp m) i = List.replicate (hclamp m) (-1) from by rw [show i = hclamp m by omega]; exact fillM_end _]
     refine t_shutW (l := []) (Ks := List.replicate (hclamp m) 0) rfl (new_facts (hclamp_le m) hok3 hok7) ?_
     refine t_shutH (new_ok _) ?_
     refine q_ret rfl rfl ?_
     exact ⟨_, rfl, rfl⟩
end Go.Proofs.YtanfdikglplkaaaGreatDoor
