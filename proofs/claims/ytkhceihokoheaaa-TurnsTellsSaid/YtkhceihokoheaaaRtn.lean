/- The document's members that take turns: in memory, and plain facts. No program in it but for the numbers of its types. -/
import Derived.Test.YtkhceihokoheaaaTst
import Derived.Test.YtkhceihokoheaaaDrw
set_option linter.unusedVariables false
set_option linter.unusedSimpArgs false
namespace Go.Proofs.Ytkhceihokoheaaa.Sp
open Go
instance : Inhabited M3 := ⟨M3.z⟩
def m3F (m : M3) : List Value := [.int .i64 m.id, .int .i64 m.w, .int .i64 m.c]
theorem m3F_len (m : M3) : (m3F m).length = 3 := rfl
theorem m3F_one (m : M3) : ∀ u ∈ m3F m, u.oneCell' = true := by intro u hu; simp [m3F] at hu; rcases hu with rfl | rfl | rfl <;> rfl
def RTurnsO (p : Nat) (q : Int) (ms : List M3) (a : Nat) : HP :=
  Ex fun bl : Option Addr => Ex fun cl : Nat => Fact (SlOk bl ms.length ∧ ms.length ≤ cl) (Join [Blk p [.int .i64 q, .slice bl ms.length cl, .int .i64 ((a : Nat) : Int)] 57, SlV 59 3 (.slice bl ms.length cl) ms.length (recs m3F ms)])
section
variable {K : Act → World → Prop} {W : World} {N' : Nat} {E : List (Nat × Value)} {L : List HP}
theorem t_openRT {p : Nat} {q : Int} {ms : List M3} {a : Nat} (k : ∀ bl cl, SlOk bl ms.length → ms.length ≤ cl → Tri K W N' E (Blk p [.int .i64 q, .slice bl ms.length cl, .int .i64 ((a : Nat) : Int)] 57 :: SlV 59 3 (.slice bl ms.length cl) ms.length (recs m3F ms) :: L)) :
    Tri K W N' E (RTurnsO p q ms a :: L) := t_ex fun bl => t_ex fun cl => t_fact fun h => t_join (k bl cl h.1 h.2)
theorem t_shutRT {p n : Nat} {q : Int} {ms : List M3} {a : Nat} {va : Value} {bl : Option Addr} {cl : Nat} (hv : va = .int .i64 ((a : Nat) : Int)) (hn : ms.length = n) (h1 : SlOk bl n) (h2 : n ≤ cl) (k : Tri K W N' E (RTurnsO p q ms a :: L)) :
    Tri K W N' E (Blk p [.int .i64 q, .slice bl n cl, va] 57 :: SlV 59 3 (.slice bl n cl) n (recs m3F ms) :: L) := by
  subst hv; subst hn
  exact t_mkjoin (M := [_, _]) (t_mkfact ⟨h1, h2⟩ (t_mkex cl (t_mkex bl k)))
theorem t_newRT {p : Nat} {q : Int} (k : Tri K W N' E (RTurnsO p q [] 0 :: L)) : Tri K W N' E (Blk p [.int .i64 q, .slice none 0 0, .int .i64 0] 57 :: L) :=
  t_sat (fun w hs => (sat_nilsl 59 3 hs).perm (.swap _ _ _)) (t_shutRT (ms := []) (a := 0) (bl := none) (cl := 0) rfl rfl slok_none (Nat.le_refl _) k)
end
theorem costOf_found {ws : List (Int × Int)} {id c : Int} {k : Nat} (h : costOf (ws.take k) id = c) (hc : c ≠ 0) : costOf ws id = c := by
  have e : ws = ws.take k ++ ws.drop k := (List.take_append_drop k ws).symm
  unfold costOf at h ⊢
  rw [e, List.find?_append]
  cases hf : (ws.take k).find? (fun e => e.1 == id && okCost e.2) with
  | some x => rw [hf] at h; rw [Option.some_or]; exact h
  | none => rw [hf] at h; exact absurd h.symm hc
theorem costOf_nil (id : Int) : costOf [] id = 0 := rfl
theorem anyT_succ {ms : List M3} {ws : List (Int × Int)} {k : Nat} (h : k < ms.length) : anyPos (costsL (ms.take (k + 1)) ws) = (anyPos (costsL (ms.take k) ws) || decide (costOf ws (ms.getD k M3.z).id > 0)) := by
  rw [take_succ_getD h M3.z]; unfold costsL anyPos; rw [List.map_append, List.any_append]; simp
theorem runN_next {q : Int} {cs : List Int} {k : Nat} {s t : TS} (h : runN q cs k s = some t) (hr : rdyT cs s = false) : ∃ k', k = k' + 1 ∧ runN q cs k' (stepT q cs s) = some t := by
  cases k with
  | zero => cases h
  | succ k => unfold runN at h; rw [hr, cond_false] at h; exact ⟨k, rfl, h⟩
theorem runN_here {q : Int} {cs : List Int} {k : Nat} {s t : TS} (h : runN q cs k s = some t) (hr : rdyT cs s = true) : t = s := by
  cases k with
  | zero => cases h
  | succ k => unfold runN at h; rw [hr, cond_true] at h; exact (Option.some.inj h).symm
/-- credits within bounds -/
structure TB (q : Int) (ms : List M3) (a : Nat) : Prop where
  wt : ∀ i, i < ms.length → 1 ≤ (ms.getD i M3.z).w ∧ (ms.getD i M3.z).w ≤ 100
  cr : ∀ i, i < ms.length → 0 ≤ (ms.getD i M3.z).c ∧ (ms.getD i M3.z).c ≤ 1048576 + (if i = a then q * (ms.getD i M3.z).w else 0)
theorem TFacts.tb {q : Int} {ms : List M3} {a : Nat} {ba : Option Addr} {ca : Nat} {ps : List Nat} (h : TFacts q ms a ba ca ps) : TB q ms a := ⟨h.wt, h.cr⟩
theorem TB.step {q : Int} {ms : List M3} {a : Nat} (h : TB q ms a) (hq : 0 ≤ q) {cs : List Int} (hcs : ∀ i, 0 ≤ cs.getD i 0 ∧ cs.getD i 0 ≤ 1048576) (ha : a < ms.length) (hr : rdyT cs (ms, a) = false) : TB q (gainT q cs (zeroT cs ms a) (nxt a ms.length)) (nxt a ms.length) := by
  have hnl := nxt_lt ha
  have hrd := rdyT_false.1 hr; simp only at hrd
  have hlen : (stepT q cs (ms, a)).1.length = ms.length := stepT_len _ _ _
  have hg : ∀ i, i < ms.length → (stepT q cs (ms, a)).1.getD i M3.z = _ := fun i hi => step_get (q := q) (cs := cs) (ms := ms) (a := a) ha hi
  show TB q (stepT q cs (ms, a)).1 (nxt a ms.length)
  refine ⟨fun i hi => ?_, fun i hi => ?_⟩
  · rw [hlen] at hi; rw [hg i hi]; exact h.wt i hi
  · rw [hlen] at hi; rw [hg i hi]
    have h1 := h.cr i hi; have h2 := h.wt i hi; have h3 := hcs i; have h4 := hcs a
    have hgn : 0 ≤ q * (ms.getD i M3.z).w := Int.mul_nonneg hq (by omega)
    show 0 ≤ (if i = a ∧ cs.getD i 0 = 0 then 0 else (ms.getD i M3.z).c) + (if i = nxt a ms.length ∧ 0 < cs.getD i 0 then q * (ms.getD i M3.z).w else 0) ∧ (if i = a ∧ cs.getD i 0 = 0 then 0 else (ms.getD i M3.z).c) + (if i = nxt a ms.length ∧ 0 < cs.getD i 0 then q * (ms.getD i M3.z).w else 0) ≤ 1048576 + (if i = nxt a ms.length then q * (ms.getD i M3.z).w else 0)
    have hx : 0 ≤ (if i = a ∧ cs.getD i 0 = 0 then 0 else (ms.getD i M3.z).c) ∧ (if i = a ∧ cs.getD i 0 = 0 then 0 else (ms.getD i M3.z).c) ≤ 1048576 := by
      by_cases e : i = a
      · by_cases e2 : cs.getD i 0 = 0
        · rw [if_pos ⟨e, e2⟩]; omega
        · rw [if_neg (fun h => e2 h.2)]; rw [← e] at hrd; have := hrd (by omega); omega
      · rw [if_neg (fun h => e h.1)]; rw [if_neg e] at h1; omega
    generalize (if i = a ∧ cs.getD i 0 = 0 then 0 else (ms.getD i M3.z).c) = x at hx
    by_cases e : i = nxt a ms.length
    · rw [if_pos e]
      by_cases e2 : 0 < cs.getD i 0
      · rw [if_pos ⟨e, e2⟩]; omega
      · rw [if_neg (fun h => e2 h.2)]; omega
    · rw [if_neg e, if_neg (fun h => e h.1)]; omega
theorem TB.gn {q : Int} {ms : List M3} {a : Nat} (h : TB q ms a) (hq : 0 ≤ q ∧ q ≤ 1048576) {i : Nat} (hi : i < ms.length) : 0 ≤ q * (ms.getD i M3.z).w ∧ q * (ms.getD i M3.z).w ≤ 104857600 := by
  have hw := h.wt i hi
  exact mul_bd hq (show 0 ≤ (ms.getD i M3.z).w ∧ (ms.getD i M3.z).w ≤ 100 by omega)
/-- the same names: the same wants -/
structure SameN (ms0 ms : List M3) : Prop where
  len : ms.length = ms0.length
  id : ∀ i, i < ms0.length → (ms.getD i M3.z).id = (ms0.getD i M3.z).id
theorem SameN.refl (ms : List M3) : SameN ms ms := ⟨rfl, fun _ _ => rfl⟩
theorem SameN.step {ms0 ms : List M3} (h : SameN ms0 ms) {q : Int} {cs : List Int} {a : Nat} (ha : a < ms.length) : SameN ms0 (gainT q cs (zeroT cs ms a) (nxt a ms.length)) := by
  have hl := h.len
  refine ⟨by rw [gainT_len, zeroT_len]; exact hl, fun i hi => ?_⟩
  have := step_get (q := q) (cs := cs) ha (i := i) (by omega)
  show ((stepT q cs (ms, a)).1.getD i M3.z).id = _
  rw [this]; exact h.id i hi
theorem SameN.cost {ms0 ms : List M3} (h : SameN ms0 ms) {ws : List (Int × Int)} {i : Nat} (hi : i < ms0.length) : costOf ws (ms.getD i M3.z).id = (costsL ms0 ws).getD i 0 := by
  rw [costsL_get hi, h.id i hi]
theorem zero_id {cs : List Int} {ms : List M3} {a : Nat} (ha : a < ms.length) (i : Nat) : ((zeroT cs ms a).getD i M3.z).id = (ms.getD i M3.z).id ∧ ((zeroT cs ms a).getD i M3.z).w = (ms.getD i M3.z).w := by
  rw [zeroT_get ha]; split <;> exact ⟨rfl, rfl⟩
theorem zero_bd {q : Int} {cs : List Int} {ms : List M3} {a : Nat} (h : TB q ms a) (hq : 0 ≤ q ∧ q ≤ 1048576) (ha : a < ms.length) {i : Nat} (hi : i < ms.length) : 0 ≤ ((zeroT cs ms a).getD i M3.z).c ∧ ((zeroT cs ms a).getD i M3.z).c ≤ 106000000 := by
  have h1 := h.cr i hi; have h2 := h.gn hq hi
  rw [zeroT_get ha]; split
  · show (0 : Int) ≤ 0 ∧ (0 : Int) ≤ 106000000; omega
  · split at h1 <;> omega
end Go.Proofs.Ytkhceihokoheaaa.Sp
