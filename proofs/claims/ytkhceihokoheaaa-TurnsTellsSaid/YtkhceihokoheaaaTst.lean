/- Steps of turns, and credits within bounds: plain facts. No program in it. -/
import Derived.Test.YtkhceihokoheaaaTlw
set_option linter.unusedVariables false
set_option linter.unusedSimpArgs false
namespace Go.Proofs.Ytkhceihokoheaaa.Sp
open Go
structure St4 where
  kd : Int
  id : Int
  w : Int
  lv : Value
  ws : List (Int × Int)
abbrev St4.d : St4 := ⟨0, 0, 0, .slice none 0 0, []⟩
instance : Inhabited St4 := ⟨St4.d⟩
def st4F (x : St4) : List Value := [.int .i64 x.kd, .int .i64 x.id, .int .i64 x.w, x.lv]
theorem st4F_len (x : St4) : (st4F x).length = 4 := rfl
def GoodS (L : List HP) (x : St4) : Prop := (-9223372036854775808 ≤ x.w ∧ x.w ≤ 9223372036854775807) ∧ ∃ bs cp, x.lv = .slice bs x.ws.length cp ∧ x.ws.length ≤ 9223372036854775807 ∧ SlOk bs x.ws.length ∧ Rd L bs (pairs x.ws)
theorem st4_mem {l : List St4} {i : Nat} (h : i < l.length) : l.getD i St4.d ∈ l := by simp [List.getD, h]
/-- at most ten wants, of costs that are cut -/
def cutC (c : Int) : Int := if 1024 < c ∧ c ≤ 1048576 then 1 + c % 1024 else c
def fewL (ws : List (Int × Int)) : List (Int × Int) := (ws.take 10).map fun e => (e.1, cutC e.2)
theorem few_len (ws : List (Int × Int)) : (fewL ws).length = min ws.length 10 := by simp [fewL, Nat.min_comm]
theorem few_succ {ws : List (Int × Int)} {k : Nat} (h : k < ws.length) (h10 : k < 10) : fewL (ws.take (k + 1)) = fewL (ws.take k) ++ [((ws.getD k (0, 0)).1, cutC (ws.getD k (0, 0)).2)] := by
  unfold fewL
  rw [List.take_take, List.take_take, Nat.min_eq_right (by omega), Nat.min_eq_right (by omega), take_succ_getD h (0, 0), List.map_append]; rfl
theorem few_end {ws : List (Int × Int)} {k : Nat} (h : k = 10 ∨ ws.length ≤ k) (h10 : k ≤ 10) : fewL (ws.take k) = fewL ws := by
  unfold fewL
  rcases h with h | h
  · subst h; rw [List.take_take, Nat.min_self]
  · rw [List.take_take, Nat.min_eq_right h10, List.take_of_length_le h, List.take_of_length_le (by omega)]
theorem cutC_bd {c : Int} (h : 1 ≤ cutC c ∧ cutC c ≤ 1048576) : cutC c ≤ 1024 := by
  unfold cutC at h ⊢; split <;> rename_i h1
  · omega
  · rw [if_neg h1] at h; omega
theorem few_cost (ws : List (Int × Int)) (id : Int) : costOf (fewL ws) id ≤ 1024 := by
  unfold costOf
  split
  · rename_i e h
    have h1 := List.mem_of_find?_eq_some h
    have h2 := List.find?_some h
    simp only [Bool.and_eq_true, okCost, decide_eq_true_eq] at h2
    unfold fewL at h1
    obtain ⟨x, _, rfl⟩ := List.mem_map.1 h1
    exact cutC_bd h2.2
  · omega
theorem few_costs (ms : List M3) (ws : List (Int × Int)) (i : Nat) : 0 ≤ (costsL ms (fewL ws)).getD i 0 ∧ (costsL ms (fewL ws)).getD i 0 ≤ 1024 := by
  refine ⟨(costsL_bd ms (fewL ws) i).1, ?_⟩
  rcases Nat.lt_or_ge i ms.length with h | h
  · rw [costsL_get h]; exact few_cost _ _
  · rw [show (costsL ms (fewL ws)).getD i 0 = 0 from by simp [List.getD, costsL, List.getElem?_eq_none h]]; omega
/-- credits within bounds, and weights in a row -/
structure CredS (q : Int) (ms : List M3) (a : Nat) (wts : List Int) : Prop where
  bd : ∀ i, i < ms.length → 0 ≤ (ms.getD i M3.z).c ∧ (ms.getD i M3.z).c < 1024 + (if i = a then q * (ms.getD i M3.z).w else 0)
  wt : ∀ i, i < ms.length → 0 ≤ (ms.getD i M3.z).id ∧ (ms.getD i M3.z).id < 16 ∧ wts.getD (ms.getD i M3.z).id.toNat 0 = (ms.getD i M3.z).w ∧ 1 ≤ (ms.getD i M3.z).w ∧ (ms.getD i M3.z).w ≤ 100
  len : wts.length = 20
  al : a < ms.length ∨ (a = 0 ∧ ms = [])
theorem CredS.start (q : Int) : CredS q [] 0 (List.replicate 20 0) := ⟨fun i h => by simp at h, fun i h => by simp at h, by simp, .inr ⟨rfl, rfl⟩⟩
theorem CredS.join {q : Int} {ms : List M3} {a : Nat} {wts : List Int} (h : CredS q ms a wts) (hq : 0 ≤ q) {id w : Int} (hid : 0 ≤ id ∧ id < 16) (he : joinEr ms id w = 0) : CredS q (joinM ms id w) a (wts.set id.toNat w) := by
  have hw : 1 ≤ w ∧ w ≤ 100 ∧ ¬ placeM ms id ≥ 0 := by
    unfold joinEr at he
    by_cases h1 : w < 1 ∨ w > 100
    · rw [if_pos h1] at he; omega
    · rw [if_neg h1] at he
      by_cases h2 : placeM ms id ≥ 0
      · rw [if_pos h2] at he; omega
      · exact ⟨by omega, by omega, h2⟩
  have hno : ∀ m ∈ ms, m.id ≠ id := by
    rcases placeM_cases ms id with ⟨k, hk, _, _⟩ | ⟨_, hno⟩
    · omega
    · exact hno
  have hj : joinM ms id w = ms ++ [⟨id, w, 0⟩] := by unfold joinM; rw [if_pos he]
  rw [hj]
  have hl := h.len
  have hg : ∀ i, i < ms.length + 1 → (ms ++ [(⟨id, w, 0⟩ : M3)]).getD i M3.z = if i = ms.length then ⟨id, w, 0⟩ else ms.getD i M3.z := fun i hi => by
    by_cases e : i = ms.length
    · subst e; rw [if_pos rfl]; exact getD_snoc_r
    · rw [if_neg e]; exact getD_snoc_l (by omega)
  refine ⟨fun i hi => ?_, fun i hi => ?_, by simpa using hl, ?_⟩
  · rw [List.length_append] at hi
    rw [hg i (by simpa using hi)]
    by_cases e : i = ms.length
    · have hwq : 0 ≤ q * w := Int.mul_nonneg hq (by omega)
      rw [if_pos e]; show (0 : Int) ≤ 0 ∧ (0 : Int) < 1024 + (if i = a then q * w else 0); split <;> omega
    · rw [if_neg e]; exact h.bd i (by simp at hi; omega)
  · rw [List.length_append] at hi
    rw [hg i (by simpa using hi)]
    by_cases e : i = ms.length
    · rw [if_pos e]
      refine ⟨hid.1, hid.2, ?_, hw.1, hw.2.1⟩
      show (wts.set id.toNat w).getD id.toNat 0 = w
      simp [List.getD, show id.toNat < wts.length by omega]
    · rw [if_neg e]
      have hi' : i < ms.length := by simp at hi; omega
      have h1 := h.wt i hi'
      have hne : (ms.getD i M3.z).id ≠ id := hno _ (by simp [List.getD, hi'])
      refine ⟨h1.1, h1.2.1, ?_, h1.2.2.2⟩
      rw [getD_set_ne _ (by omega)]; exact h1.2.2.1
  · left; rw [List.length_append]; rcases h.al with h2 | ⟨h2, _⟩ <;> simp <;> omega
theorem CredS.leave {q : Int} {ms : List M3} {a : Nat} {wts : List Int} (h : CredS q ms a wts) (hq : 0 ≤ q) (id : Int) : CredS q (leaveM ms id) (leaveA ms a id) wts := by
  have hpg := placeM_ge ms id
  by_cases hp : placeM ms id < 0
  · unfold leaveM leaveA; rw [if_pos hp, if_pos hp]; exact h
  · obtain ⟨k, hk⟩ : ∃ k : Nat, placeM ms id = (k : Int) := ⟨(placeM ms id).toNat, by omega⟩
    have hkl : k < ms.length := by omega
    have hM : leaveM ms id = ms.eraseIdx k := by unfold leaveM; rw [if_neg hp, hk, Int.toNat_natCast]
    obtain ⟨b, hb⟩ : ∃ b, leaveA ms a id = b := ⟨_, rfl⟩
    rw [hM, hb]
    have hb2 : b = if (if k < a then a - 1 else a) = ms.length - 1 then 0 else (if k < a then a - 1 else a) := by rw [← hb]; unfold leaveA; rw [if_neg hp, hk, Int.toNat_natCast]
    have hb' : (k < a → (a - 1 = ms.length - 1 → b = 0) ∧ (a - 1 ≠ ms.length - 1 → b = a - 1)) ∧ (¬ k < a → (a = ms.length - 1 → b = 0) ∧ (a ≠ ms.length - 1 → b = a)) := by
      refine ⟨fun h1 => ?_, fun h1 => ?_⟩
      · simp only [if_pos h1] at hb2
        exact ⟨fun h2 => by rw [if_pos h2] at hb2; exact hb2, fun h2 => by rw [if_neg h2] at hb2; exact hb2⟩
      · simp only [if_neg h1] at hb2
        exact ⟨fun h2 => by rw [if_pos h2] at hb2; exact hb2, fun h2 => by rw [if_neg h2] at hb2; exact hb2⟩
    clear hb2 hb
    have hl : (ms.eraseIdx k).length = ms.length - 1 := by rw [List.length_eraseIdx, if_pos hkl]
    have ha : a < ms.length := by rcases h.al with h2 | ⟨h2, h3⟩ <;> omega
    have g : ∀ j, j < ms.length → 0 ≤ q * (ms.getD j M3.z).w := fun j hj => Int.mul_nonneg hq (by have := h.wt j hj; omega)
    refine ⟨fun i hi => ?_, fun i hi => ?_, h.len, ?_⟩
    · rw [hl] at hi; rw [erase_get hkl]
      split
      · have h1 := h.bd i (by omega); have h2 := g i (by omega)
        by_cases e : i = a
        · rw [if_pos e] at h1; rw [if_pos (by omega)]; exact h1
        · rw [if_neg e] at h1; split <;> omega
      · have h1 := h.bd (i + 1) (by omega); have h2 := g (i + 1) (by omega)
        by_cases e : i + 1 = a
        · rw [if_pos e] at h1; rw [if_pos (by omega)]; exact h1
        · rw [if_neg e] at h1; split <;> omega
    · rw [hl] at hi; rw [erase_get hkl]; split
      · exact h.wt i (by omega)
      · exact h.wt (i + 1) (by omega)
    · rcases Nat.eq_zero_or_pos (ms.length - 1) with h0 | h0
      · right; exact ⟨by omega, List.eq_nil_of_length_eq_zero (by omega)⟩
      · left; rw [hl]; omega
theorem CredS.take {q : Int} {ms : List M3} {a : Nat} {wts : List Int} (h : CredS q ms a wts) (hq : 0 ≤ q) {ws : List (Int × Int)} (hany : anyPos (costsL ms (fewL ws)) = true) {tm : List M3} {ta : Nat} (ht : TakeR q (costsL ms (fewL ws)) (ms, a) (tm, ta)) :
    CredS q (setC tm ta ((tm.getD ta M3.z).c - (costsL ms (fewL ws)).getD ta 0)) ta wts ∧ tm.length = ms.length := by
  have hcs := few_costs ms ws
  generalize hce : costsL ms (fewL ws) = cs at *
  have hcl : cs.length = ms.length := by rw [← hce, costsL_len]
  have ha : a < ms.length := by
    obtain ⟨j, hj, _⟩ := anyPos_iff.1 hany
    rcases h.al with h2 | ⟨_, h2⟩
    · exact h2
    · rw [h2] at hcl; simp only [List.length_nil] at hcl; omega
  obtain ⟨⟨hI, hta, hlen⟩, hr⟩ := ht.inv (I := fun s => CredS q s.1 s.2 wts ∧ s.2 < s.1.length ∧ s.1.length = ms.length) ⟨h, ha, rfl⟩ (fun s hs hr => by
    obtain ⟨hs1, hs2, hs3⟩ := hs
    have hnl := nxt_lt hs2
    have hrd := rdyT_false.1 hr
    have hlen : (stepT q cs s).1.length = s.1.length := stepT_len _ _ _
    have hpos : (stepT q cs s).2 = nxt s.2 s.1.length := rfl
    have hg : ∀ i, i < s.1.length → (stepT q cs s).1.getD i M3.z = _ := fun i hi => step_get (q := q) (cs := cs) (ms := s.1) (a := s.2) hs2 hi
    refine ⟨⟨fun i hi => ?_, fun i hi => ?_, hs1.len, .inl (by rw [hlen, hpos]; exact hnl)⟩, by rw [hlen, hpos]; exact hnl, by rw [hlen]; exact hs3⟩
    · rw [hlen] at hi; rw [hg i hi, hpos]
      have h1 := hs1.bd i hi; have h2 := hs1.wt i hi; have h3 := hcs i; have h4 := hcs s.2
      have hgn : 0 ≤ q * (s.1.getD i M3.z).w := Int.mul_nonneg hq (by omega)
      show 0 ≤ (if i = s.2 ∧ cs.getD i 0 = 0 then 0 else (s.1.getD i M3.z).c) + (if i = nxt s.2 s.1.length ∧ 0 < cs.getD i 0 then q * (s.1.getD i M3.z).w else 0) ∧ (if i = s.2 ∧ cs.getD i 0 = 0 then 0 else (s.1.getD i M3.z).c) + (if i = nxt s.2 s.1.length ∧ 0 < cs.getD i 0 then q * (s.1.getD i M3.z).w else 0) < 1024 + (if i = nxt s.2 s.1.length then q * (s.1.getD i M3.z).w else 0)
      have hx : 0 ≤ (if i = s.2 ∧ cs.getD i 0 = 0 then 0 else (s.1.getD i M3.z).c) ∧ (if i = s.2 ∧ cs.getD i 0 = 0 then 0 else (s.1.getD i M3.z).c) < 1024 := by
        by_cases e : i = s.2
        · by_cases e2 : cs.getD i 0 = 0
          · rw [if_pos ⟨e, e2⟩]; omega
          · rw [if_neg (fun h => e2 h.2)]; rw [← e] at hrd; have := hrd (by omega); omega
        · rw [if_neg (fun h => e h.1)]; rw [if_neg e] at h1; omega
      generalize (if i = s.2 ∧ cs.getD i 0 = 0 then 0 else (s.1.getD i M3.z).c) = x at hx
      by_cases e : i = nxt s.2 s.1.length
      · rw [if_pos e]
        by_cases e2 : 0 < cs.getD i 0
        · rw [if_pos ⟨e, e2⟩]; omega
        · rw [if_neg (fun h => e2 h.2)]; omega
      · rw [if_neg e, if_neg (fun h => e h.1)]; omega
    · rw [hlen] at hi; rw [hg i hi]; exact hs1.wt i hi)
  simp only at hI hta hlen
  have hr := rdyT_true.1 hr; simp only at hr
  have hg : ∀ i, (setC tm ta ((tm.getD ta M3.z).c - cs.getD ta 0)).getD i M3.z = if i = ta then ⟨(tm.getD ta M3.z).id, (tm.getD ta M3.z).w, (tm.getD ta M3.z).c - cs.getD ta 0⟩ else tm.getD i M3.z := fun i => setC_get hta i
  refine ⟨⟨fun i hi => ?_, fun i hi => ?_, hI.len, .inl (by rw [setC_len]; exact hta)⟩, hlen⟩
  · rw [setC_len] at hi; rw [hg i]
    have h1 := hI.bd i hi; have h2 := hcs ta
    by_cases e : i = ta
    · subst e; rw [if_pos rfl] at h1 ⊢; rw [if_pos rfl]; show 0 ≤ (tm.getD i M3.z).c - cs.getD i 0 ∧ (tm.getD i M3.z).c - cs.getD i 0 < 1024 + q * (tm.getD i M3.z).w; omega
    · rw [if_neg e]; exact h1
  · rw [setC_len] at hi; rw [hg i]
    by_cases e : i = ta
    · subst e; rw [if_pos rfl]; exact hI.wt i hi
    · rw [if_neg e]; exact hI.wt i hi
/-- what is told of an id -/
theorem CredS.tell {q : Int} {ms : List M3} {a : Nat} {wts : List Int} (h : CredS q ms a wts) (hq : 1 ≤ q ∧ q ≤ 1048576) (k : Nat) :
    (placeM ms (k : Int) ≥ 0 → 0 ≤ credV ms (k : Int) ∧ credV ms (k : Int) < 1024 + q * wts.getD k 0 ∧ 0 ≤ q * wts.getD k 0 ∧ q * wts.getD k 0 ≤ 1048576 * 100) ∧ (¬ placeM ms (k : Int) ≥ 0 → credV ms (k : Int) = 0) := by
  refine ⟨fun hp => ?_, fun hp => by unfold credV; rw [if_neg hp]⟩
  rcases placeM_cases ms (k : Int) with ⟨j, h1, h2, h3⟩ | ⟨h1, _⟩
  · unfold credV; rw [if_pos hp, h1, Int.toNat_natCast]
    have hb := h.bd j h2; have hw := h.wt j h2
    rw [h3, Int.toNat_natCast] at hw
    have hm := mul_bd (show 0 ≤ q ∧ q ≤ 1048576 by omega) (show 0 ≤ wts.getD k 0 ∧ wts.getD k 0 ≤ 100 by omega)
    rw [← hw.2.2.1] at hb
    refine ⟨hb.1, ?_, hm⟩
    split at hb <;> omega
  · omega
theorem and_0f (n : Int) : bAnd .i64 n 15 = n % 16 := and_pow 4 (by omega) n
theorem joinM_len (ms : List M3) (id w : Int) : (joinM ms id w).length ≤ ms.length + 1 := by unfold joinM; split <;> simp
theorem leaveM_len (ms : List M3) (id : Int) : (leaveM ms id).length ≤ ms.length := by
  unfold leaveM; split
  · exact Nat.le_refl _
  · rw [List.length_eraseIdx]; split <;> omega
theorem joinM_no {ms : List M3} {id w : Int} (h : ¬ joinEr ms id w = 0) : joinM ms id w = ms := by unfold joinM; rw [if_neg h]
theorem any_al {ms : List M3} {a : Nat} {ws : List (Int × Int)} (h : anyPos (costsL ms ws) = true) (ha : a < ms.length ∨ (a = 0 ∧ ms = [])) : a < ms.length := by
  obtain ⟨j, hj, _⟩ := anyPos_iff.1 h
  rw [costsL_len] at hj
  rcases ha with h2 | ⟨_, h2⟩
  · exact h2
  · rw [h2] at hj; simp at hj
end Go.Proofs.Ytkhceihokoheaaa.Sp
