/- Members that take turns, as they lie in memory. No program in it but for the numbers of its types. -/
import Derived.Test.YtkhceihokoheaaaTrn
import Derived.Test.YtkhceihokoheaaaRec
import Derived.Test.YtkhceihokoheaaaDrw
set_option linter.unusedVariables false
set_option linter.unusedSimpArgs false
namespace Go.Proofs.Ytkhceihokoheaaa.Sp
open Go
def mems (ps : List Nat) (ms : List M3) : List HP := List.zipWith (fun p m => Blk p [.int .i64 m.id, .int .i64 m.w, .int .i64 m.c] 65) ps ms
theorem mems_take {ps : List Nat} {ms : List M3} : ∀ {i : Nat}, ps.length = ms.length → i < ms.length →
    (mems ps ms).Perm (Blk (ps.getD i 0) [.int .i64 (ms.getD i M3.z).id, .int .i64 (ms.getD i M3.z).w, .int .i64 (ms.getD i M3.z).c] 65 :: mems (ps.eraseIdx i) (ms.eraseIdx i)) := by
  induction ps generalizing ms with
  | nil => intro i h hi; cases ms with
    | nil => simp at hi
    | cons m ms => simp at h
  | cons p ps ih =>
    intro i h hi
    cases ms with
    | nil => simp at h
    | cons m ms =>
      cases i with
      | zero => exact .refl _
      | succ i =>
        have := ih (i := i) (ms := ms) (by simpa using h) (by simpa using hi)
        refine (List.Perm.cons (Blk p [.int .i64 m.id, .int .i64 m.w, .int .i64 m.c] 65) this).trans ?_
        exact .swap _ _ _
structure TFacts (q : Int) (ms : List M3) (a : Nat) (ba : Option Addr) (ca : Nat) (ps : List Nat) : Prop where
  q1 : 1 ≤ q
  q2 : q ≤ 1048576
  nd : (ms.map (·.id)).Nodup
  wt : ∀ i, i < ms.length → 1 ≤ (ms.getD i M3.z).w ∧ (ms.getD i M3.z).w ≤ 100
  cr : ∀ i, i < ms.length → 0 ≤ (ms.getD i M3.z).c ∧ (ms.getD i M3.z).c ≤ 1048576 + (if i = a then q * (ms.getD i M3.z).w else 0)
  at_ : a < ms.length ∨ (a = 0 ∧ ms = [])
  lp : ps.length = ms.length
  ok : SlOk ba ms.length
  lc : ms.length ≤ ca
def TurnsO (p : Nat) (q : Int) (ms : List M3) (a : Nat) : HP :=
  Ex fun ba : Option Addr => Ex fun ca : Nat => Ex fun ps : List Nat => Fact (TFacts q ms a ba ca ps) (Join [Blk p [.int .i64 q, .slice ba ms.length ca, .int .i64 ((a : Nat) : Int)] 62, SlV 63 1 (.slice ba ms.length ca) ms.length (recs ptrF ps), Join (mems ps ms)])
section
variable {K : Act → World → Prop} {W : World} {N' : Nat} {E : List (Nat × Value)} {L : List HP}
theorem t_openT {p : Nat} {q : Int} {ms : List M3} {a : Nat} (k : ∀ ba ca ps, TFacts q ms a ba ca ps → Tri K W N' E (Blk p [.int .i64 q, .slice ba ms.length ca, .int .i64 ((a : Nat) : Int)] 62 :: SlV 63 1 (.slice ba ms.length ca) ms.length (recs ptrF ps) :: Join (mems ps ms) :: L)) :
    Tri K W N' E (TurnsO p q ms a :: L) := t_ex fun ba => t_ex fun ca => t_ex fun ps => t_fact fun h => t_join (k ba ca ps h)
theorem t_shutT {p : Nat} {q : Int} {ms : List M3} {a : Nat} {ba : Option Addr} {ca : Nat} {ps : List Nat} (h : TFacts q ms a ba ca ps) (k : Tri K W N' E (TurnsO p q ms a :: L)) :
    Tri K W N' E (Blk p [.int .i64 q, .slice ba ms.length ca, .int .i64 ((a : Nat) : Int)] 62 :: SlV 63 1 (.slice ba ms.length ca) ms.length (recs ptrF ps) :: Join (mems ps ms) :: L) :=
  t_mkjoin (M := [_, _, _]) (t_mkfact h (t_mkex ps (t_mkex ca (t_mkex ba k))))
theorem tfacts_of {p : Nat} {q : Int} {ms : List M3} {a : Nat} {w : World} (h : Sat (TurnsO p q ms a :: L) w) : ∃ ba ca ps, TFacts q ms a ba ca ps := by
  obtain ⟨ba, h⟩ := Sat.ex.1 h; obtain ⟨ca, h⟩ := Sat.ex.1 h; obtain ⟨ps, h⟩ := Sat.ex.1 h
  exact ⟨ba, ca, ps, (Sat.fact.1 h).1⟩
end
theorem sat_takeM {ps : List Nat} {ms : List M3} {i : Nat} {L : List HP} {w : World} (h : ps.length = ms.length) (hi : i < ms.length) (hs : Sat (Join (mems ps ms) :: L) w) :
    Sat (Blk (ps.getD i 0) [.int .i64 (ms.getD i M3.z).id, .int .i64 (ms.getD i M3.z).w, .int .i64 (ms.getD i M3.z).c] 65 :: Join (mems (ps.eraseIdx i) (ms.eraseIdx i)) :: L) w := by
  have h1 := (Sat.join.1 hs).perm ((mems_take h hi).append_right L)
  have h2 : Sat (mems (ps.eraseIdx i) (ms.eraseIdx i) ++ Blk (ps.getD i 0) [.int .i64 (ms.getD i M3.z).id, .int .i64 (ms.getD i M3.z).w, .int .i64 (ms.getD i M3.z).c] 65 :: L) w := h1.perm List.perm_middle.symm
  exact (Sat.join.2 h2).perm (.swap _ _ _)
theorem sat_putM {ps : List Nat} {ms : List M3} {i : Nat} {c : Int} {L : List HP} {w : World} (h : ps.length = ms.length) (hi : i < ms.length)
    (hs : Sat (Blk (ps.getD i 0) [.int .i64 (ms.getD i M3.z).id, .int .i64 (ms.getD i M3.z).w, .int .i64 c] 65 :: Join (mems (ps.eraseIdx i) (ms.eraseIdx i)) :: L) w) : Sat (Join (mems ps (setC ms i c)) :: L) w := by
  have hl : i < (setC ms i c).length := by rw [setC_len]; exact hi
  have e : (setC ms i c).getD i M3.z = ⟨(ms.getD i M3.z).id, (ms.getD i M3.z).w, c⟩ := by rw [setC_get hi, if_pos rfl]
  have e2 : (setC ms i c).eraseIdx i = ms.eraseIdx i := by unfold setC; rw [List.eraseIdx_set_eq]
  have hp := mems_take (ps := ps) (ms := setC ms i c) (by rw [setC_len]; exact h) hl
  rw [e, e2] at hp
  refine Sat.join.2 (Sat.perm (hp.append_right L).symm ?_)
  have h1 := Sat.join.1 (hs.perm (.swap _ _ _))
  exact h1.perm List.perm_middle
section
variable {K : Act → World → Prop} {W : World} {N' : Nat} {E : List (Nat × Value)} {L : List HP}
theorem t_takeM {ps : List Nat} {ms : List M3} {i : Nat} (h : ps.length = ms.length) (hi : i < ms.length) (k : Tri K W N' E (Blk (ps.getD i 0) [.int .i64 (ms.getD i M3.z).id, .int .i64 (ms.getD i M3.z).w, .int .i64 (ms.getD i M3.z).c] 65 :: Join (mems (ps.eraseIdx i) (ms.eraseIdx i)) :: L)) :
    Tri K W N' E (Join (mems ps ms) :: L) := t_sat (fun w hs => sat_takeM h hi hs) k
theorem t_putM {ps : List Nat} {ms : List M3} {i : Nat} {c : Int} (h : ps.length = ms.length) (hi : i < ms.length) (k : Tri K W N' E (Join (mems ps (setC ms i c)) :: L)) :
    Tri K W N' E (Blk (ps.getD i 0) [.int .i64 (ms.getD i M3.z).id, .int .i64 (ms.getD i M3.z).w, .int .i64 c] 65 :: Join (mems (ps.eraseIdx i) (ms.eraseIdx i)) :: L) := t_sat (fun w hs => sat_putM h hi hs) k
theorem t_putM0 {ps : List Nat} {ms : List M3} {i : Nat} (h : ps.length = ms.length) (hi : i < ms.length) (k : Tri K W N' E (Join (mems ps ms) :: L)) :
    Tri K W N' E (Blk (ps.getD i 0) [.int .i64 (ms.getD i M3.z).id, .int .i64 (ms.getD i M3.z).w, .int .i64 (ms.getD i M3.z).c] 65 :: Join (mems (ps.eraseIdx i) (ms.eraseIdx i)) :: L) := t_putM h hi (by rw [setC_same hi]; exact k)
/-- one more -/
theorem t_addM {ps : List Nat} {ms : List M3} {p : Nat} (m : M3) (h : ps.length = ms.length) (k : Tri K W N' E (Join (mems (ps ++ [p]) (ms ++ [m])) :: L)) :
    Tri K W N' E (Blk p [.int .i64 m.id, .int .i64 m.w, .int .i64 m.c] 65 :: Join (mems ps ms) :: L) := t_sat (fun w hs => by
  have e : mems (ps ++ [p]) (ms ++ [m]) = mems ps ms ++ [Blk p [.int .i64 m.id, .int .i64 m.w, .int .i64 m.c] 65] := by
    unfold mems; rw [List.zipWith_append h]; rfl
  refine Sat.join.2 ?_
  rw [e, List.append_assoc]
  exact (Sat.join.1 (hs.perm (.swap _ _ _))).perm (.refl _)) k
end
section
variable {K : Act → World → Prop} {W : World} {N' : Nat} {E : List (Nat × Value)} {L : List HP}
theorem t_putMx {ps : List Nat} {ms : List M3} {i : Nat} {c : Int} {m0 : M3} (e : ms.getD i M3.z = m0) (h : ps.length = ms.length) (hi : i < ms.length) (k : Tri K W N' E (Join (mems ps (setC ms i c)) :: L)) :
    Tri K W N' E (Blk (ps.getD i 0) [.int .i64 m0.id, .int .i64 m0.w, .int .i64 c] 65 :: Join (mems (ps.eraseIdx i) (ms.eraseIdx i)) :: L) := by subst e; exact t_putM h hi k
theorem t_shutTn {p n : Nat} {q : Int} {ms : List M3} {a : Nat} {ba : Option Addr} {ca : Nat} {ps : List Nat} (hn : ms.length = n) (h : TFacts q ms a ba ca ps) (k : Tri K W N' E (TurnsO p q ms a :: L)) :
    Tri K W N' E (Blk p [.int .i64 q, .slice ba n ca, .int .i64 ((a : Nat) : Int)] 62 :: SlV 63 1 (.slice ba n ca) n (recs ptrF ps) :: Join (mems ps ms) :: L) := by subst hn; exact t_shutT h k
theorem t_shutTv {p n : Nat} {q : Int} {ms : List M3} {a : Nat} {va : Value} {ba : Option Addr} {ca : Nat} {ps : List Nat} (hv : va = .int .i64 ((a : Nat) : Int)) (hn : ms.length = n) (h : TFacts q ms a ba ca ps) (k : Tri K W N' E (TurnsO p q ms a :: L)) :
    Tri K W N' E (Blk p [.int .i64 q, .slice ba n ca, va] 62 :: SlV 63 1 (.slice ba n ca) n (recs ptrF ps) :: Join (mems ps ms) :: L) := by subst hv; exact t_shutTn hn h k
theorem t_newT {p : Nat} {q : Int} (h1 : 1 ≤ q) (h2 : q ≤ 1048576) (k : Tri K W N' E (TurnsO p q [] 0 :: L)) : Tri K W N' E (Blk p [.int .i64 q, .slice none 0 0, .int .i64 0] 62 :: L) :=
  t_sat (fun w hs => by
    have h3 : Sat (SlV 63 1 (.slice none 0 0) 0 [] :: Blk p [.int .i64 q, .slice none 0 0, .int .i64 0] 62 :: L) w := sat_nilsl _ 1 hs
    have h4 := h3.perm (.swap _ _ _)
    have h5 : Sat (Join (mems [] []) :: Blk p [.int .i64 q, .slice none 0 0, .int .i64 0] 62 :: SlV 63 1 (.slice none 0 0) 0 [] :: L) w := Sat.join.2 h4
    exact h5.perm ((List.Perm.swap _ _ _).trans (.cons _ (.swap _ _ _))))
    (t_shutT (ms := []) (ba := none) (ca := 0) (ps := []) (a := 0) ⟨h1, h2, by simp, fun i h => by simp at h, fun i h => by simp at h, .inr ⟨rfl, rfl⟩, rfl, slok_none, Nat.le_refl _⟩ k)
end
theorem TFacts.gn {q : Int} {ms : List M3} {a : Nat} {ba : Option Addr} {ca : Nat} {ps : List Nat} (h : TFacts q ms a ba ca ps) (i : Nat) (hi : i < ms.length) : 1 ≤ q * (ms.getD i M3.z).w ∧ q * (ms.getD i M3.z).w ≤ 104857600 := by
  have h1 := h.q1; have h2 := h.q2; have h3 := h.wt i hi
  refine ⟨?_, ?_⟩
  · have := Int.mul_le_mul (a := 1) (b := 1) (c := q) (d := (ms.getD i M3.z).w) h1 h3.1 (by omega) (by omega); omega
  · have := Int.mul_le_mul (a := q) (b := (ms.getD i M3.z).w) (c := 1048576) (d := 100) h2 h3.2 (by omega) (by omega); omega
theorem TFacts.inv0 {q : Int} {ms : List M3} {a : Nat} {ba : Option Addr} {ca : Nat} {ps : List Nat} (h : TFacts q ms a ba ca ps) (ha : a < ms.length) {cs : List Int} (csb : ∀ i, 0 ≤ cs.getD i 0 ∧ cs.getD i 0 ≤ 1048576) : TInv q cs ms a ms a 0 :=
  TInv.init ha h.gn csb h.cr
theorem ids_same {ms ms0 : List M3} (hl : ms.length = ms0.length) (h : ∀ i, i < ms0.length → (ms.getD i M3.z).id = (ms0.getD i M3.z).id) : ms.map (·.id) = ms0.map (·.id) := by
  refine List.ext_getElem (by simp [hl]) fun i h1 h2 => ?_
  have h3 : i < ms0.length := by simpa using h2
  have h4 : i < ms.length := by omega
  have := h i h3
  simpa [List.getD, h3, h4] using this
theorem TFacts.of_inv {q : Int} {cs : List Int} {ms0 ms : List M3} {a0 a k : Nat} {ba : Option Addr} {ca : Nat} {ps : List Nat} (h : TFacts q ms0 a0 ba ca ps) (hi : TInv q cs ms0 a0 ms a k) : TFacts q ms a ba ca ps := by
  have hl := hi.len
  refine ⟨h.q1, h.q2, by rw [ids_same hl (fun i h => (hi.same i h).1)]; exact h.nd, fun i h' => by rw [(hi.same i (by omega)).2]; exact h.wt i (by omega), fun i h' => ?_, .inl (by have := hi.al; omega), by rw [hl]; exact h.lp, by rw [hl]; exact h.ok, by rw [hl]; exact h.lc⟩
  rw [(hi.same i (by omega)).2]; exact hi.cr i (by omega)
theorem TFacts.took {q : Int} {cs : List Int} {ms : List M3} {a : Nat} {ba : Option Addr} {ca : Nat} {ps : List Nat} (h : TFacts q ms a ba ca ps) (ha : a < ms.length) (hr : rdyT cs (ms, a) = true) : TFacts q (setC ms a ((ms.getD a M3.z).c - cs.getD a 0)) a ba ca ps := by
  have hr := rdyT_true.1 hr; simp only at hr
  have hg : ∀ i, i < ms.length → (setC ms a ((ms.getD a M3.z).c - cs.getD a 0)).getD i M3.z = if i = a then ⟨(ms.getD a M3.z).id, (ms.getD a M3.z).w, (ms.getD a M3.z).c - cs.getD a 0⟩ else ms.getD i M3.z := fun i hi => setC_get ha i
  have hl := setC_len ms a ((ms.getD a M3.z).c - cs.getD a 0)
  refine ⟨h.q1, h.q2, ?_, fun i hi => ?_, fun i hi => ?_, .inl (by omega), by rw [hl]; exact h.lp, by rw [hl]; exact h.ok, by rw [hl]; exact h.lc⟩
  · rw [ids_same hl (fun i hi => by rw [hg i hi]; split <;> simp_all)]; exact h.nd
  · rw [hl] at hi; rw [hg i hi]; split
    · exact h.wt a ha
    · exact h.wt i hi
  · rw [hl] at hi; rw [hg i hi]
    have h1 := h.cr i hi
    by_cases e : i = a
    · subst e; rw [if_pos rfl, if_pos rfl] at *
      show 0 ≤ (ms.getD i M3.z).c - cs.getD i 0 ∧ (ms.getD i M3.z).c - cs.getD i 0 ≤ 1048576 + q * (ms.getD i M3.z).w
      omega
    · rw [if_neg e, if_neg e] at *; exact h1
theorem TFacts.joined {q : Int} {ms : List M3} {a : Nat} {ba : Option Addr} {ca : Nat} {ps : List Nat} (h : TFacts q ms a ba ca ps) {id w : Int} (hw : 1 ≤ w ∧ w ≤ 100) (hp : ¬ placeM ms id ≥ 0) {bb : Option Addr} {cb p : Nat} (ok : SlOk bb (ms.length + 1)) (lc : ms.length + 1 ≤ cb) : TFacts q (ms ++ [⟨id, w, 0⟩]) a bb cb (ps ++ [p]) := by
  have hg : ∀ i, i < ms.length + 1 → (ms ++ [(⟨id, w, 0⟩ : M3)]).getD i M3.z = if i = ms.length then ⟨id, w, 0⟩ else ms.getD i M3.z := fun i hi => by
    by_cases e : i = ms.length
    · subst e; rw [if_pos rfl]; simp [List.getD]
    · rw [if_neg e]; simp only [List.getD]; rw [List.getElem?_append_left (by omega)]
  have h1 := h.q1
  refine ⟨h.q1, h.q2, ?_, fun i hi => ?_, fun i hi => ?_, ?_, by simp [h.lp], by simpa using ok, by simpa using lc⟩
  · rw [List.map_append, List.nodup_append]
    refine ⟨h.nd, by simp, fun x hx y hy => ?_⟩
    have hy' : y = id := by simpa using hy
    obtain ⟨m, hm, hmx⟩ := List.mem_map.1 hx
    rcases placeM_cases ms id with ⟨k, hk, _, _⟩ | ⟨_, hno⟩
    · omega
    · rw [hy', ← hmx]; exact hno m hm
  · rw [List.length_append] at hi
    rw [hg i (by simpa using hi)]; split
    · exact hw
    · exact h.wt i (by simp at hi; omega)
  · rw [List.length_append] at hi
    rw [hg i (by simpa using hi)]; split
    · have hwq : 0 ≤ q * w := Int.mul_nonneg (by omega) (by omega)
      show (0 : Int) ≤ 0 ∧ (0 : Int) ≤ 1048576 + (if i = a then q * w else 0)
      split <;> omega
    · exact h.cr i (by simp at hi; omega)
  · left; rw [List.length_append]; rcases h.at_ with h2 | ⟨h2, _⟩ <;> simp <;> omega
theorem erase_get {ms : List M3} {i j : Nat} (hi : i < ms.length) : (ms.eraseIdx i).getD j M3.z = if j < i then ms.getD j M3.z else ms.getD (j + 1) M3.z := by
  simp only [List.getD, List.getElem?_eraseIdx]; split <;> rfl
theorem TFacts.left {q : Int} {ms : List M3} {a : Nat} {ba : Option Addr} {ca : Nat} {ps : List Nat} (h : TFacts q ms a ba ca ps) {k : Nat} (hk : k < ms.length) {b : Nat} (hb : b = if (if k < a then a - 1 else a) = ms.length - 1 then 0 else (if k < a then a - 1 else a)) (ok : SlOk ba (ms.eraseIdx k).length) :
    TFacts q (ms.eraseIdx k) b ba ca (ps.eraseIdx k) := by
  have hl : (ms.eraseIdx k).length = ms.length - 1 := by rw [List.length_eraseIdx, if_pos hk]
  have ha : a < ms.length := by rcases h.at_ with h2 | ⟨h2, h3⟩ <;> omega
  have hq := h.q1
  have hb' : (k < a → (a - 1 = ms.length - 1 → b = 0) ∧ (a - 1 ≠ ms.length - 1 → b = a - 1)) ∧ (¬ k < a → (a = ms.length - 1 → b = 0) ∧ (a ≠ ms.length - 1 → b = a)) := by
    refine ⟨fun h1 => ?_, fun h1 => ?_⟩
    · simp only [if_pos h1] at hb
      exact ⟨fun h2 => by rw [if_pos h2] at hb; exact hb, fun h2 => by rw [if_neg h2] at hb; exact hb⟩
    · simp only [if_neg h1] at hb
      exact ⟨fun h2 => by rw [if_pos h2] at hb; exact hb, fun h2 => by rw [if_neg h2] at hb; exact hb⟩
  clear hb
  refine ⟨h.q1, h.q2, ?_, fun i hi => ?_, fun i hi => ?_, ?_, ?_, ok, by have := h.lc; omega⟩
  · exact h.nd.sublist ((List.eraseIdx_sublist ms k).map _)
  · rw [hl] at hi; rw [erase_get hk]; split
    · exact h.wt i (by omega)
    · exact h.wt (i + 1) (by omega)
  · rw [hl] at hi; rw [erase_get hk]
    have g : ∀ j, j < ms.length → 0 ≤ q * (ms.getD j M3.z).w := fun j hj => by have := h.gn j hj; omega
    split
    · have h1 := h.cr i (by omega); have h2 := g i (by omega)
      by_cases e : i = a
      · have : i = b := by omega
        rw [if_pos e] at h1; rw [if_pos this]; exact h1
      · rw [if_neg e] at h1; split <;> omega
    · have h1 := h.cr (i + 1) (by omega); have h2 := g (i + 1) (by omega)
      by_cases e : i + 1 = a
      · have : i = b := by omega
        rw [if_pos e] at h1; rw [if_pos this]; exact h1
      · rw [if_neg e] at h1; split <;> omega
  · rcases Nat.eq_zero_or_pos (ms.length - 1) with h0 | h0
    · right; exact ⟨by omega, List.eq_nil_of_length_eq_zero (by omega)⟩
    · left; rw [hl]; omega
  · rw [List.length_eraseIdx, List.length_eraseIdx, h.lp]
theorem slok_le {bs : Option Addr} {n k : Nat} (h : SlOk bs n) (hk : k ≤ n) : SlOk bs k := fun h0 => h (by omega)
/-- the first place of which something holds -/
def idxN (p : Nat → Bool) (n : Nat) : Int := match (List.range n).find? p with
  | some k => (k : Int)
  | none => -1
theorem idxN_at {p : Nat → Bool} {n k : Nat} (hk : k < n) (hp : p k = true) (ha : ∀ j, j < k → p j = false) : idxN p n = (k : Int) := by
  unfold idxN
  have : (List.range n).find? p = some k := by
    rw [List.find?_range_eq_some]
    exact ⟨hp, List.mem_range.2 hk, fun j hj => by simp [ha j hj]⟩
  rw [this]
theorem idxN_none {p : Nat → Bool} {n : Nat} (ha : ∀ j, j < n → p j = false) : idxN p n = -1 := by
  unfold idxN
  have : (List.range n).find? p = none := by
    rw [List.find?_range_eq_none]
    exact fun j hj => by simp [ha j hj]
  rw [this]
theorem placeM_idxN (ms : List M3) (id : Int) : idxN (fun k => decide ((ms.getD k M3.z).id = id)) ms.length = placeM ms id := by
  unfold placeM
  by_cases h : ms.findIdx (fun m => decide (m.id = id)) < ms.length
  · rw [if_pos h]
    refine idxN_at h ?_ fun j hj => ?_
    · have := List.findIdx_getElem (w := h)
      simpa [List.getD, h] using this
    · have hj' : j < ms.length := by omega
      have := List.not_of_lt_findIdx hj
      simpa [List.getD, hj'] using this
  · rw [if_neg h]
    refine idxN_none fun j hj => ?_
    have := List.not_of_lt_findIdx (xs := ms) (p := fun m => decide (m.id = id)) (i := j) (by omega)
    simpa [List.getD, hj] using this
end Go.Proofs.Ytkhceihokoheaaa.Sp
