/- Parts Trn, Rec: own lemmas and contracts of the code that the claim reaches. -/
import Derived.Test.YtanfdikglplkaaaGreatDoorM03
import Derived.Test.YtanfdikglplkaaaGreatDoorM04
set_option linter.unusedSimpArgs false
set_option linter.unusedVariables false
namespace Go.Proofs.YtanfdikglplkaaaGreatDoor.Sp
open Go
structure M3 where
  id : Int
  w : Int
  c : Int
abbrev M3.z : M3 := ⟨0, 0, 0⟩
abbrev TS := List M3 × Nat
theorem ms_ext {a b : List M3} (h : a.length = b.length) (hh : ∀ i, i < a.length → a.getD i M3.z = b.getD i M3.z) : a = b := by
  refine List.ext_getElem h fun i h1 h2 => ?_
  have := hh i h1
  simpa [List.getD, h1, h2] using this
def setC (ms : List M3) (i : Nat) (c : Int) : List M3 := ms.set i ⟨(ms.getD i M3.z).id, (ms.getD i M3.z).w, c⟩
theorem setC_len (ms : List M3) (i : Nat) (c : Int) : (setC ms i c).length = ms.length := by simp [setC]
theorem setC_get {ms : List M3} {i : Nat} {c : Int} (h : i < ms.length) (j : Nat) : (setC ms i c).getD j M3.z = if j = i then ⟨(ms.getD i M3.z).id, (ms.getD i M3.z).w, c⟩ else ms.getD j M3.z := by
  unfold setC
  by_cases e : j = i
  · subst e; rw [if_pos rfl]; simp [List.getD, h]
  · rw [if_neg e]; simp only [List.getD]; rw [List.getElem?_set_ne (fun h => e h.symm)]
theorem setC_same {ms : List M3} {i : Nat} (h : i < ms.length) : setC ms i (ms.getD i M3.z).c = ms := by
  refine ms_ext (setC_len _ _ _) fun j hj => ?_
  rw [setC_get h]
  by_cases e : j = i
  · subst e; rw [if_pos rfl]
  · rw [if_neg e]
def nxt (i n : Nat) : Nat := if i + 1 = n then 0 else i + 1
theorem nxt_lt {i n : Nat} (h : i < n) : nxt i n < n := by unfold nxt; split <;> omega
theorem nxt_mod {i n : Nat} (h : i < n) : ((i + 1 : Nat) : Int).tmod (n : Int) = ((nxt i n : Nat) : Int) := by
  rw [Int.tmod_eq_emod_of_nonneg (by omega)]
  unfold nxt
  split
  · rename_i e; rw [e]; simp
  · rw [Int.emod_eq_of_lt (by omega) (by omega)]
def rdyT (cs : List Int) (s : TS) : Bool := decide (0 < cs.getD s.2 0 ∧ cs.getD s.2 0 ≤ (s.1.getD s.2 M3.z).c)
def zeroT (cs : List Int) (ms : List M3) (i : Nat) : List M3 := if cs.getD i 0 = 0 then setC ms i 0 else ms
def gainT (q : Int) (cs : List Int) (ms : List M3) (i : Nat) : List M3 := if 0 < cs.getD i 0 then setC ms i ((ms.getD i M3.z).c + q * (ms.getD i M3.z).w) else ms
def stepT (q : Int) (cs : List Int) (s : TS) : TS := (gainT q cs (zeroT cs s.1 s.2) (nxt s.2 s.1.length), nxt s.2 s.1.length)
theorem zeroT_len (cs : List Int) (ms : List M3) (i : Nat) : (zeroT cs ms i).length = ms.length := by unfold zeroT; split <;> simp [setC_len]
theorem gainT_len (q : Int) (cs : List Int) (ms : List M3) (i : Nat) : (gainT q cs ms i).length = ms.length := by unfold gainT; split <;> simp [setC_len]
theorem stepT_len (q : Int) (cs : List Int) (s : TS) : (stepT q cs s).1.length = s.1.length := by simp [stepT, gainT_len, zeroT_len]
theorem zeroT_get {cs : List Int} {ms : List M3} {i : Nat} (h : i < ms.length) (j : Nat) : (zeroT cs ms i).getD j M3.z = if j = i ∧ cs.getD j 0 = 0 then ⟨(ms.getD j M3.z).id, (ms.getD j M3.z).w, 0⟩ else ms.getD j M3.z := by
  unfold zeroT
  by_cases e2 : j = i
  · subst e2
    by_cases e : cs.getD j 0 = 0
    · rw [if_pos e, if_pos ⟨rfl, e⟩, setC_get h, if_pos rfl]
    · rw [if_neg e, if_neg (fun h => e h.2)]
  · have c : ¬ (j = i ∧ cs.getD j 0 = 0) := fun h => e2 h.1
    simp only [if_neg c]
    by_cases e : cs.getD i 0 = 0
    · rw [if_pos e, setC_get h, if_neg e2]
    · rw [if_neg e]
theorem gainT_get {q : Int} {cs : List Int} {ms : List M3} {i : Nat} (h : i < ms.length) (j : Nat) : (gainT q cs ms i).getD j M3.z = if j = i ∧ 0 < cs.getD j 0 then ⟨(ms.getD j M3.z).id, (ms.getD j M3.z).w, (ms.getD j M3.z).c + q * (ms.getD j M3.z).w⟩ else ms.getD j M3.z := by
  unfold gainT
  by_cases e2 : j = i
  · subst e2
    by_cases e : 0 < cs.getD j 0
    · rw [if_pos e, if_pos ⟨rfl, e⟩, setC_get h, if_pos rfl]
    · rw [if_neg e, if_neg (fun h => e h.2)]
  · have c : ¬ (j = i ∧ 0 < cs.getD j 0) := fun h => e2 h.1
    simp only [if_neg c]
    by_cases e : 0 < cs.getD i 0
    · rw [if_pos e, setC_get h, if_neg e2]
    · rw [if_neg e]
def runN (q : Int) (cs : List Int) : Nat → TS → Option TS
  | 0, _ => none
  | k + 1, s => bif rdyT cs s then some s else runN q cs k (stepT q cs s)
def TakeR (q : Int) (cs : List Int) (s t : TS) : Prop := ∃ k, runN q cs k s = some t
theorem TakeR.here {q : Int} {cs : List Int} {s : TS} (h : rdyT cs s = true) : TakeR q cs s s := ⟨1, by unfold runN; rw [h]; rfl⟩
theorem TakeR.next {q : Int} {cs : List Int} {s t : TS} (h : rdyT cs s = false) (k : TakeR q cs (stepT q cs s) t) : TakeR q cs s t := by
  obtain ⟨k, hk⟩ := k; exact ⟨k + 1, by unfold runN; rw [h, cond_false]; exact hk⟩
theorem runN_inv {q : Int} {cs : List Int} {I : TS → Prop} (hs : ∀ s, I s → rdyT cs s = false → I (stepT q cs s)) : ∀ (k : Nat) (s t : TS), I s → runN q cs k s = some t → I t ∧ rdyT cs t = true := by
  intro k
  induction k with
  | zero => intro s t h0 h; cases h
  | succ k ih =>
    intro s t h0 h
    unfold runN at h
    cases hr : rdyT cs s with
    | true => rw [hr, cond_true] at h; cases h; exact ⟨h0, hr⟩
    | false => rw [hr, cond_false] at h; exact ih _ _ (hs s h0 hr) h
theorem TakeR.inv {q : Int} {cs : List Int} {I : TS → Prop} {s t : TS} (h : TakeR q cs s t) (h0 : I s) (hs : ∀ s, I s → rdyT cs s = false → I (stepT q cs s)) : I t ∧ rdyT cs t = true := by
  obtain ⟨k, h⟩ := h; exact runN_inv hs k s t h0 h
theorem rdyT_false {cs : List Int} {s : TS} : rdyT cs s = false ↔ (0 < cs.getD s.2 0 → (s.1.getD s.2 M3.z).c < cs.getD s.2 0) := by
  unfold rdyT; rw [decide_eq_false_iff_not]
  constructor
  · intro h h1; exact Int.lt_of_not_ge fun h2 => h ⟨h1, h2⟩
  · intro h ⟨h1, h2⟩; have := h h1; omega
theorem rdyT_true {cs : List Int} {s : TS} : rdyT cs s = true ↔ (0 < cs.getD s.2 0 ∧ cs.getD s.2 0 ≤ (s.1.getD s.2 M3.z).c) := by
  unfold rdyT; rw [decide_eq_true_iff]
def LowT (cs : List Int) (ms : List M3) : Prop := ∀ i, i < ms.length → (cs.getD i 0 = 0 → (ms.getD i M3.z).c = 0) ∧ (0 < cs.getD i 0 → (ms.getD i M3.z).c < cs.getD i 0) ∧ 0 ≤ cs.getD i 0
def bumpF (q : Int) (cs : List Int) (f : Nat → Int) (ms : List M3) : List M3 := ms.mapIdx fun i m => if 0 < cs.getD i 0 then ⟨m.id, m.w, m.c + f i * (q * m.w)⟩ else m
theorem bumpF_len (q : Int) (cs : List Int) (f : Nat → Int) (ms : List M3) : (bumpF q cs f ms).length = ms.length := by simp [bumpF]
theorem bumpF_get {q : Int} {cs : List Int} {f : Nat → Int} {ms : List M3} {i : Nat} (h : i < ms.length) : (bumpF q cs f ms).getD i M3.z = if 0 < cs.getD i 0 then ⟨(ms.getD i M3.z).id, (ms.getD i M3.z).w, (ms.getD i M3.z).c + f i * (q * (ms.getD i M3.z).w)⟩ else ms.getD i M3.z := by
  have e2 : ms.getD i M3.z = ms[i] := by simp [List.getD, h]
  have e : (bumpF q cs f ms)[i]? = some (if 0 < cs.getD i 0 then ⟨ms[i].id, ms[i].w, ms[i].c + f i * (q * ms[i].w)⟩ else ms[i]) := by
    unfold bumpF; rw [List.getElem?_mapIdx, List.getElem?_eq_getElem h]; rfl
  rw [e2]; show ((bumpF q cs f ms)[i]?).getD M3.z = _; rw [e]; rfl
def arrT (a n i : Nat) : Nat := if a < i then i - a - 1 else i + n - a - 1
def lapF (a n m : Nat) : Nat → Int := fun i => if arrT a n i < m then 1 else 0
def posT (a n m : Nat) : Nat := if a + m < n then a + m else a + m - n
theorem arr_pos {a n m i : Nat} (ha : a < n) (hi : i < n) (hm : m < n) : arrT a n i = m ↔ i = nxt (posT a n m) n := by
  unfold arrT nxt posT
  split <;> split <;> split <;> omega
theorem lap_step {q : Int} {cs : List Int} {ms : List M3} {a m : Nat} (ha : a < ms.length) (hm : m < ms.length) (hl : LowT cs ms) :
    stepT q cs (bumpF q cs (lapF a ms.length m) ms, posT a ms.length m) = (bumpF q cs (lapF a ms.length (m + 1)) ms, posT a ms.length (m + 1)) := by
  have hp : posT a ms.length m < ms.length := by unfold posT; split <;> omega
  have hn := nxt_lt hp
  have hpn : nxt (posT a ms.length m) ms.length = posT a ms.length (m + 1) := by unfold nxt posT; split <;> split <;> split <;> omega
  unfold stepT
  rw [bumpF_len]
  refine Prod.ext ?_ hpn
  show gainT q cs (zeroT cs (bumpF q cs (lapF a ms.length m) ms) (posT a ms.length m)) (nxt (posT a ms.length m) ms.length) = _
  have hz : zeroT cs (bumpF q cs (lapF a ms.length m) ms) (posT a ms.length m) = bumpF q cs (lapF a ms.length m) ms := by
    unfold zeroT
    split
    · rename_i e
      have h0 := (hl _ hp).1 e
      have hc : ((bumpF q cs (lapF a ms.length m) ms).getD (posT a ms.length m) M3.z).c = 0 := by rw [bumpF_get hp, if_neg (by omega), h0]
      have := setC_same (ms := bumpF q cs (lapF a ms.length m) ms) (i := posT a ms.length m) (by rw [bumpF_len]; exact hp)
      rw [hc] at this; exact this
    · rfl
  rw [hz]
  refine ms_ext (by rw [gainT_len, bumpF_len, bumpF_len]) fun j hj => ?_
  rw [gainT_len, bumpF_len] at hj
  rw [gainT_get (by rw [bumpF_len]; exact hn), bumpF_get hj, bumpF_get hj]
  by_cases e : j = nxt (posT a ms.length m) ms.length
  · have e2 := (arr_pos ha hj hm).2 e
    by_cases hw : 0 < cs.getD j 0
    · rw [if_pos ⟨e, hw⟩, if_pos hw, if_pos hw]
      simp only [lapF, e2, Nat.lt_irrefl, if_false, Nat.lt_succ_self, if_true]
      congr 1; omega
    · rw [if_neg (fun h => hw h.2), if_neg hw, if_neg hw]
  · have e2 : arrT a ms.length j ≠ m := fun h => e ((arr_pos ha hj hm).1 h)
    rw [if_neg (fun h => e h.1)]
    have : lapF a ms.length m j = lapF a ms.length (m + 1) j := by
      unfold lapF
      by_cases h : arrT a ms.length j < m
      · rw [if_pos h, if_pos (by omega)]
      · rw [if_neg h, if_neg (by omega)]
    rw [this]
theorem lap_ready {q : Int} {cs : List Int} {ms : List M3} {a m : Nat} (ha : a < ms.length) (hm : m ≤ ms.length) (hl : LowT cs ms)
    (hf : ∀ i, i < ms.length → 0 < cs.getD i 0 → (ms.getD i M3.z).c + q * (ms.getD i M3.z).w < cs.getD i 0) (hq : ∀ i, i < ms.length → 0 ≤ q * (ms.getD i M3.z).w) :
    rdyT cs (bumpF q cs (lapF a ms.length m) ms, posT a ms.length m) = false := by
  have hp : posT a ms.length m < ms.length := by unfold posT; split <;> omega
  rw [rdyT_false]
  intro hw
  show ((bumpF q cs (lapF a ms.length m) ms).getD (posT a ms.length m) M3.z).c < _
  rw [bumpF_get hp, if_pos hw]
  have h1 := hf _ hp hw
  have h2 := hq _ hp
  show _ + lapF a ms.length m _ * (q * _) < cs.getD (posT a ms.length m) 0
  have h3 : lapF a ms.length m (posT a ms.length m) = 1 ∨ lapF a ms.length m (posT a ms.length m) = 0 := by unfold lapF; split <;> simp
  rcases h3 with h3 | h3 <;> rw [h3] <;> omega
theorem lap_all {q : Int} {cs : List Int} {ms : List M3} {a : Nat} (ha : a < ms.length) (hl : LowT cs ms)
    (hf : ∀ i, i < ms.length → 0 < cs.getD i 0 → (ms.getD i M3.z).c + q * (ms.getD i M3.z).w < cs.getD i 0) (hq : ∀ i, i < ms.length → 0 ≤ q * (ms.getD i M3.z).w) {t : TS}
    (h : TakeR q cs (bumpF q cs (fun _ => 1) ms, a) t) : TakeR q cs (ms, a) t := by
  have key : ∀ d, d ≤ ms.length → TakeR q cs (bumpF q cs (lapF a ms.length (ms.length - d)) ms, posT a ms.length (ms.length - d)) t := by
    intro d
    induction d with
    | zero =>
      intro _
      have e1 : posT a ms.length (ms.length - 0) = a := by unfold posT; split <;> omega
      have e2 : bumpF q cs (lapF a ms.length (ms.length - 0)) ms = bumpF q cs (fun _ => 1) ms := by
        refine ms_ext (by rw [bumpF_len, bumpF_len]) fun j hj => ?_
        rw [bumpF_len] at hj
        rw [bumpF_get hj, bumpF_get hj]
        have : lapF a ms.length (ms.length - 0) j = 1 := by unfold lapF arrT; split <;> rw [if_pos (by omega)]
        rw [this]
      rw [e1, e2]; exact h
    | succ d ih =>
      intro hd
      have := ih (by omega)
      have e : ms.length - d = ms.length - (d + 1) + 1 := by omega
      rw [e, ← lap_step ha (by omega) hl] at this
      exact .next (lap_ready ha (by omega) hl hf hq) this
  have h0 := key ms.length (Nat.le_refl _)
  rw [Nat.sub_self] at h0
  have e1 : posT a ms.length 0 = a := by unfold posT; split <;> omega
  have e2 : bumpF q cs (lapF a ms.length 0) ms = ms := by
    refine ms_ext (by rw [bumpF_len]) fun j hj => ?_
    rw [bumpF_len] at hj
    rw [bumpF_get hj]
    have : lapF a ms.length 0 j = 0 := by unfold lapF; rw [if_neg (by omega)]
    rw [this]; split
    · simp
    · rfl
  rw [e1, e2] at h0; exact h0
theorem skip_take {q : Int} {cs : List Int} : ∀ (r : Nat) {ms : List M3} {a : Nat} (ha : a < ms.length) (hl : LowT cs ms)
    (hf : ∀ i, i < ms.length → 0 < cs.getD i 0 → (ms.getD i M3.z).c + (r : Int) * (q * (ms.getD i M3.z).w) < cs.getD i 0) (hq : ∀ i, i < ms.length → 0 ≤ q * (ms.getD i M3.z).w) {t : TS}
    (h : TakeR q cs (bumpF q cs (fun _ => (r : Int)) ms, a) t), TakeR q cs (ms, a) t := by
  intro r
  induction r with
  | zero =>
    intro ms a ha hl hf hq t h
    have e2 : bumpF q cs (fun _ => ((0 : Nat) : Int)) ms = ms := by
      refine ms_ext (by rw [bumpF_len]) fun j hj => ?_
      rw [bumpF_len] at hj
      rw [bumpF_get hj]; split
      · simp
      · rfl
    rw [e2] at h; exact h
  | succ r ih =>
    intro ms a ha hl hf hq t h
    have hr : ∀ i, 0 ≤ (r : Int) * (q * (ms.getD i M3.z).w) ∨ ¬ i < ms.length := fun i => by
      by_cases hi : i < ms.length
      · exact .inl (Int.mul_nonneg (by omega) (hq i hi))
      · exact .inr hi
    have hx : ∀ i, ((r + 1 : Nat) : Int) * (q * (ms.getD i M3.z).w) = (r : Int) * (q * (ms.getD i M3.z).w) + q * (ms.getD i M3.z).w := fun i => by
      rw [show ((r + 1 : Nat) : Int) = (r : Int) + 1 by omega, Int.add_mul, Int.one_mul]
    have hf1 : ∀ i, i < ms.length → 0 < cs.getD i 0 → (ms.getD i M3.z).c + q * (ms.getD i M3.z).w < cs.getD i 0 := fun i hi hw => by
      have h1 := hf i hi hw; have h2 := hr i; rw [hx] at h1; omega
    refine lap_all ha hl hf1 hq ?_
    have hlen := bumpF_len q cs (fun _ => 1) ms
    refine ih (by rw [hlen]; exact ha) ?_ ?_ ?_ ?_
    · intro i hi
      rw [hlen] at hi
      rw [bumpF_get hi]
      refine ⟨fun e => by rw [if_neg (by omega)]; exact (hl i hi).1 e, fun hw => by rw [if_pos hw]; have := hf1 i hi hw; show _ + 1 * _ < _; omega, (hl i hi).2.2⟩
    · intro i hi hw
      rw [hlen] at hi
      rw [bumpF_get hi, if_pos hw]
      have h1 := hf i hi hw; rw [hx] at h1
      show (ms.getD i M3.z).c + 1 * (q * (ms.getD i M3.z).w) + (r : Int) * (q * (ms.getD i M3.z).w) < _; omega
    · intro i hi
      rw [hlen] at hi
      rw [bumpF_get hi]; split
      · exact hq i hi
      · exact hq i hi
    · have e2 : bumpF q cs (fun _ => (r : Int)) (bumpF q cs (fun _ => 1) ms) = bumpF q cs (fun _ => ((r + 1 : Nat) : Int)) ms := by
        refine ms_ext (by rw [bumpF_len, bumpF_len, bumpF_len]) fun j hj => ?_
        rw [bumpF_len, hlen] at hj
        rw [bumpF_get (by rw [hlen]; exact hj), bumpF_get hj, bumpF_get hj]
        by_cases hw : 0 < cs.getD j 0
        · rw [if_pos hw, if_pos hw, if_pos hw]
          congr 1
          rw [hx]
          show (ms.getD j M3.z).c + 1 * (q * (ms.getD j M3.z).w) + (r : Int) * (q * (ms.getD j M3.z).w) = _; omega
        · rw [if_neg hw, if_neg hw, if_neg hw]
      rw [e2]; exact h
def okCost (c : Int) : Bool := decide (1 ≤ c ∧ c ≤ 1048576)
def costOf (l : List (Int × Int)) (id : Int) : Int := match l.find? (fun e => e.1 == id && okCost e.2) with
  | some e => e.2
  | none => 0
def costsL (ms : List M3) (l : List (Int × Int)) : List Int := ms.map fun m => costOf l m.id
def anyPos (cs : List Int) : Bool := cs.any fun c => decide (0 < c)
theorem costsL_len (ms : List M3) (l : List (Int × Int)) : (costsL ms l).length = ms.length := by simp [costsL]
theorem costsL_get {ms : List M3} {l : List (Int × Int)} {i : Nat} (h : i < ms.length) : (costsL ms l).getD i 0 = costOf l (ms.getD i M3.z).id := by simp [costsL, List.getD, h]
theorem costOf_bd (l : List (Int × Int)) (id : Int) : 0 ≤ costOf l id ∧ costOf l id ≤ 1048576 := by
  unfold costOf
  split
  · rename_i e h
    have := List.find?_some h
    simp only [Bool.and_eq_true, okCost, decide_eq_true_eq] at this
    omega
  · omega
theorem costsL_bd (ms : List M3) (l : List (Int × Int)) (i : Nat) : 0 ≤ (costsL ms l).getD i 0 ∧ (costsL ms l).getD i 0 ≤ 1048576 := by
  rcases Nat.lt_or_ge i ms.length with h | h
  · rw [costsL_get h]; exact costOf_bd _ _
  · rw [show (costsL ms l).getD i 0 = 0 from by simp [List.getD, costsL, List.getElem?_eq_none h]]; omega
theorem costOf_snoc (l : List (Int × Int)) (e : Int × Int) (id : Int) : costOf (l ++ [e]) id = if costOf l id = 0 then (if e.1 = id ∧ 1 ≤ e.2 ∧ e.2 ≤ 1048576 then e.2 else 0) else costOf l id := by
  unfold costOf
  rw [List.find?_append]
  cases hf : l.find? (fun e => e.1 == id && okCost e.2) with
  | some x =>
    have := List.find?_some hf
    simp only [Bool.and_eq_true, okCost, decide_eq_true_eq] at this
    rw [Option.some_or]
    show x.2 = if x.2 = 0 then _ else x.2
    rw [if_neg (by omega)]
  | none =>
    rw [Option.none_or]
    show _ = if (0 : Int) = 0 then _ else _
    rw [if_pos rfl]
    by_cases hc : e.1 = id ∧ 1 ≤ e.2 ∧ e.2 ≤ 1048576
    · rw [if_pos hc]
      have : (e.1 == id && okCost e.2) = true := by simp [okCost, hc]
      rw [List.find?_cons, this]
    · rw [if_neg hc]
      have : (e.1 == id && okCost e.2) = false := by
        rw [Bool.and_eq_false_iff]
        by_cases h1 : e.1 = id
        · right; simp only [okCost, decide_eq_false_iff_not]; exact fun h => hc ⟨h1, h⟩
        · left; simp [h1]
      rw [List.find?_cons, this, List.find?_nil]
def placeM (ms : List M3) (id : Int) : Int := if ms.findIdx (fun m => decide (m.id = id)) < ms.length then ((ms.findIdx (fun m => decide (m.id = id)) : Nat) : Int) else -1
theorem placeM_cases (ms : List M3) (id : Int) : (∃ k : Nat, placeM ms id = (k : Int) ∧ k < ms.length ∧ (ms.getD k M3.z).id = id) ∨ (placeM ms id = -1 ∧ ∀ m ∈ ms, m.id ≠ id) := by
  unfold placeM
  by_cases h : ms.findIdx (fun m => decide (m.id = id)) < ms.length
  · left
    rw [if_pos h]
    refine ⟨_, rfl, h, ?_⟩
    have := List.findIdx_getElem (w := h)
    simp only [decide_eq_true_eq] at this
    simp only [List.getD, List.getElem?_eq_getElem h, Option.getD_some]; exact this
  · right
    rw [if_neg h]
    refine ⟨rfl, fun m hm e => h (List.findIdx_lt_length.2 ⟨m, hm, by simpa using e⟩)⟩
theorem nodup_at3 {ms : List M3} (h : (ms.map (·.id)).Nodup) {i j : Nat} (hi : i < ms.length) (hj : j < ms.length) (e : (ms.getD i M3.z).id = (ms.getD j M3.z).id) : i = j := by
  have h1 : (ms.map (·.id))[i]? = some (ms.getD i M3.z).id := by simp [List.getD, hi]
  have h2 : (ms.map (·.id))[j]? = some (ms.getD j M3.z).id := by simp [List.getD, hj]
  have := List.getElem?_inj (l := ms.map (·.id)) (i := i) (j := j) (by simpa using hi) h
  exact this.1 (by rw [h1, h2, e])
theorem getD_set_ne {l : List Int} {i j : Nat} (v : Int) (h : i ≠ j) : (l.set i v).getD j 0 = l.getD j 0 := by simp only [List.getD]; rw [List.getElem?_set_ne h]
theorem costs_step {ms : List M3} {l : List (Int × Int)} {e : Int × Int} (h : (ms.map (·.id)).Nodup) :
    costsL ms (l ++ [e]) = (if 0 ≤ placeM ms e.1 ∧ (costsL ms l).getD (placeM ms e.1).toNat 0 = 0 ∧ 1 ≤ e.2 ∧ e.2 ≤ 1048576 then (costsL ms l).set (placeM ms e.1).toNat e.2 else costsL ms l) := by
  have ext : ∀ {a b : List Int}, a.length = b.length → (∀ i, i < a.length → a.getD i 0 = b.getD i 0) → a = b := fun {a b} h hh => by
    refine List.ext_getElem h fun i h1 h2 => ?_
    have := hh i h1
    simpa [List.getD, h1, h2] using this
  rcases placeM_cases ms e.1 with ⟨k, hk, hkl, hid⟩ | ⟨hn, hno⟩
  · rw [hk, Int.toNat_natCast]
    by_cases hc : (costsL ms l).getD k 0 = 0 ∧ 1 ≤ e.2 ∧ e.2 ≤ 1048576
    · rw [if_pos ⟨by omega, hc⟩]
      refine ext (by simp [costsL]) fun i hi => ?_
      rw [costsL_len] at hi
      rw [costsL_get hi, costOf_snoc]
      by_cases ei : i = k
      · subst ei
        have h0 := hc.1; rw [costsL_get hi] at h0
        rw [if_pos h0, if_pos ⟨hid.symm, hc.2⟩]
        simp [List.getD, costsL, hi]
      · have hne : ¬ e.1 = (ms.getD i M3.z).id := fun h' => ei (nodup_at3 h hi hkl (by rw [hid, h']))
        rw [getD_set_ne _ (fun h => ei h.symm), costsL_get hi]; split
        · rename_i h0; rw [if_neg (fun hh => hne hh.1)]; exact h0.symm
        · rfl
    · rw [if_neg (fun hh => hc hh.2)]
      refine ext (by simp [costsL]) fun i hi => ?_
      rw [costsL_len] at hi
      rw [costsL_get hi, costsL_get hi, costOf_snoc]
      split
      · rename_i h0
        by_cases ei : i = k
        · subst ei; rw [costsL_get hi] at hc; rw [if_neg (fun hh => hc ⟨h0, hh.2⟩)]; exact h0.symm
        · have hne : ¬ e.1 = (ms.getD i M3.z).id := fun h' => ei (nodup_at3 h hi hkl (by rw [hid, h']))
          rw [if_neg (fun hh => hne hh.1)]; exact h0.symm
      · rfl
  · rw [if_neg (by omega)]
    refine ext (by simp [costsL]) fun i hi => ?_
    rw [costsL_len] at hi
    rw [costsL_get hi, costsL_get hi, costOf_snoc]
    split
    · rename_i h0
      rw [if_neg (fun hh => hno _ (show ms.getD i M3.z ∈ ms by simp [List.getD, hi]) hh.1.symm)]; exact h0.symm
    · rfl
theorem costsL_nil (ms : List M3) : costsL ms [] = List.replicate ms.length 0 := by
  unfold costsL costOf; induction ms <;> simp_all [List.replicate]
theorem anyPos_set {cs : List Int} {i : Nat} {c : Int} (h : i < cs.length) (hc : 1 ≤ c) : anyPos (cs.set i c) = true := by
  unfold anyPos; rw [List.any_eq_true]
  refine ⟨c, ?_, by simp; omega⟩
  have := List.getElem_mem (l := cs.set i c) (n := i) (by simpa using h)
  simpa using this
theorem anyPos_rep (n : Nat) : anyPos (List.replicate n 0) = false := by
  unfold anyPos; rw [List.any_eq_false]; intro x hx
  rw [List.eq_of_mem_replicate hx]; simp
theorem anyPos_iff {cs : List Int} : anyPos cs = true ↔ ∃ i, i < cs.length ∧ 0 < cs.getD i 0 := by
  unfold anyPos; rw [List.any_eq_true]
  constructor
  · rintro ⟨x, hx, h⟩
    obtain ⟨i, hi, e⟩ := List.getElem_of_mem hx
    exact ⟨i, hi, by simp only [List.getD, List.getElem?_eq_getElem hi, Option.getD_some, e]; simpa using h⟩
  · rintro ⟨i, hi, h⟩
    exact ⟨cs[i], List.getElem_mem hi, by simp only [List.getD, List.getElem?_eq_getElem hi, Option.getD_some] at h; simpa using h⟩
theorem TakeR.unstep {q : Int} {cs : List Int} {s t : TS} (h : TakeR q cs s t) (hr : rdyT cs s = false) : TakeR q cs (stepT q cs s) t := by
  obtain ⟨k, hk⟩ := h
  cases k with
  | zero => cases hk
  | succ k => unfold runN at hk; rw [hr, cond_false] at hk; exact ⟨k, hk⟩
def offT (a n i : Nat) : Nat := if a ≤ i then i - a else i + n - a
def posK (a n k : Nat) : Nat := if k < n then posT a n k else posT a n (k - n)
structure TInv (q : Int) (cs : List Int) (ms0 : List M3) (a0 : Nat) (ms : List M3) (a k : Nat) : Prop where
  len : ms.length = ms0.length
  a0l : a0 < ms0.length
  pos : a = posK a0 ms0.length k
  k2 : k < 2 * ms0.length
  red : ∀ t, TakeR q cs (ms, a) t → TakeR q cs (ms0, a0) t
  same : ∀ i, i < ms0.length → (ms.getD i M3.z).id = (ms0.getD i M3.z).id ∧ (ms.getD i M3.z).w = (ms0.getD i M3.z).w
  gn : ∀ i, i < ms0.length → 1 ≤ q * (ms0.getD i M3.z).w ∧ q * (ms0.getD i M3.z).w ≤ 104857600
  csb : ∀ i, 0 ≤ cs.getD i 0 ∧ cs.getD i 0 ≤ 1048576
  cr : ∀ i, i < ms0.length → 0 ≤ (ms.getD i M3.z).c ∧ (ms.getD i M3.z).c ≤ 1048576 + (if i = a then q * (ms0.getD i M3.z).w else 0)
  vis : k < ms0.length → ∀ i, i < ms0.length → offT a0 ms0.length i < k → (cs.getD i 0 = 0 → (ms.getD i M3.z).c = 0) ∧ (0 < cs.getD i 0 → (ms.getD i M3.z).c < cs.getD i 0)
  ph2 : ms0.length ≤ k → ∃ j, j < ms0.length ∧ 0 < cs.getD j 0 ∧ k ≤ ms0.length + offT a0 ms0.length j ∧ cs.getD j 0 ≤ (ms.getD j M3.z).c + (if k = ms0.length + offT a0 ms0.length j then 0 else q * (ms0.getD j M3.z).w)
theorem TInv.al {q : Int} {cs : List Int} {ms0 ms : List M3} {a0 a k : Nat} (h : TInv q cs ms0 a0 ms a k) : a < ms0.length := by
  have h1 := h.a0l; have h2 := h.k2; rw [h.pos]; unfold posK posT; split <;> split <;> omega
theorem TInv.off {q : Int} {cs : List Int} {ms0 ms : List M3} {a0 a k : Nat} (h : TInv q cs ms0 a0 ms a k) : offT a0 ms0.length a = (if k < ms0.length then k else k - ms0.length) := by
  have h1 := h.a0l; have h2 := h.k2; rw [h.pos]; unfold offT posK posT; split <;> split <;> split <;> omega
theorem posK_nxt {a n k : Nat} (ha : a < n) (hk : k + 1 < 2 * n) : nxt (posK a n k) n = posK a n (k + 1) := by
  unfold nxt posK posT; split <;> split <;> split <;> split <;> split <;> omega
theorem off_inj {a n i j : Nat} (ha : a < n) (hi : i < n) (hj : j < n) (h : offT a n i = offT a n j) : i = j := by
  unfold offT at h; split at h <;> split at h <;> omega
theorem step_get {q : Int} {cs : List Int} {ms : List M3} {a : Nat} (ha : a < ms.length) {i : Nat} (hi : i < ms.length) : (stepT q cs (ms, a)).1.getD i M3.z = ⟨(ms.getD i M3.z).id, (ms.getD i M3.z).w,
    (if i = a ∧ cs.getD i 0 = 0 then 0 else (ms.getD i M3.z).c) + (if i = nxt a ms.length ∧ 0 < cs.getD i 0 then q * (ms.getD i M3.z).w else 0)⟩ := by
  have hn := nxt_lt ha
  show (gainT q cs (zeroT cs ms a) (nxt a ms.length)).getD i M3.z = _
  rw [gainT_get (by rw [zeroT_len]; exact hn), zeroT_get ha]
  by_cases c1 : i = nxt a ms.length ∧ 0 < cs.getD i 0
  · by_cases c2 : i = a ∧ cs.getD i 0 = 0
    · simp only [if_pos c1, if_pos c2]
    · simp only [if_pos c1, if_neg c2]
  · by_cases c2 : i = a ∧ cs.getD i 0 = 0
    · simp only [if_neg c1, if_pos c2, Int.add_zero]
    · simp only [if_neg c1, if_neg c2, Int.add_zero]
theorem TInv.init {q : Int} {cs : List Int} {ms : List M3} {a : Nat} (ha : a < ms.length) (gn : ∀ i, i < ms.length → 1 ≤ q * (ms.getD i M3.z).w ∧ q * (ms.getD i M3.z).w ≤ 104857600) (csb : ∀ i, 0 ≤ cs.getD i 0 ∧ cs.getD i 0 ≤ 1048576)
    (cr : ∀ i, i < ms.length → 0 ≤ (ms.getD i M3.z).c ∧ (ms.getD i M3.z).c ≤ 1048576 + (if i = a then q * (ms.getD i M3.z).w else 0)) : TInv q cs ms a ms a 0 :=
  ⟨rfl, ha, by unfold posK posT; split <;> split <;> omega, by omega, fun t h => h, fun i _ => ⟨rfl, rfl⟩, gn, csb, cr, fun _ i _ h => by omega, fun h => by omega⟩
theorem TInv.k_lt {q : Int} {cs : List Int} {ms0 ms : List M3} {a0 a k : Nat} (h : TInv q cs ms0 a0 ms a k) (hr : rdyT cs (ms, a) = false) : k + 1 < 2 * ms0.length ∧ (ms0.length ≤ k → ∃ j, j < ms0.length ∧ 0 < cs.getD j 0 ∧ k + 1 ≤ ms0.length + offT a0 ms0.length j ∧ cs.getD j 0 ≤ (ms.getD j M3.z).c + q * (ms0.getD j M3.z).w) := by
  have hal := h.al; have h0 := h.a0l; have hof := h.off
  rcases Nat.lt_or_ge k ms0.length with hk | hk
  · exact ⟨by omega, fun h' => by omega⟩
  · obtain ⟨j, h1, h2, h3, h4⟩ := h.ph2 hk
    have hjo : offT a0 ms0.length j < ms0.length := by unfold offT; split <;> omega
    by_cases e : k = ms0.length + offT a0 ms0.length j
    · exfalso
      rw [if_pos e] at h4
      rw [if_neg (by omega)] at hof
      have : j = a := off_inj h0 h1 hal (by omega)
      subst this
      have := rdyT_false.1 hr h2; simp only at this; omega
    · rw [if_neg e] at h4
      exact ⟨by omega, fun _ => ⟨j, h1, h2, by omega, h4⟩⟩
theorem TInv.step {q : Int} {cs : List Int} {ms0 ms : List M3} {a0 a k : Nat} (h : TInv q cs ms0 a0 ms a k) (hr : rdyT cs (ms, a) = false) (hk : k + 1 ≠ ms0.length) : TInv q cs ms0 a0 (stepT q cs (ms, a)).1 (nxt a ms0.length) (k + 1) := by
  have hal := h.al; have h0 := h.a0l; have hof := h.off; have hk2 := (h.k_lt hr).1
  have hlen := h.len
  have hpos : nxt a ms0.length = posK a0 ms0.length (k + 1) := by rw [h.pos]; exact posK_nxt h0 hk2
  have hrd := rdyT_false.1 hr; simp only at hrd
  have hg : ∀ i, i < ms0.length → (stepT q cs (ms, a)).1.getD i M3.z = ⟨(ms.getD i M3.z).id, (ms.getD i M3.z).w,
    (if i = a ∧ cs.getD i 0 = 0 then 0 else (ms.getD i M3.z).c) + (if i = nxt a ms0.length ∧ 0 < cs.getD i 0 then q * (ms0.getD i M3.z).w else 0)⟩ := fun i hi => by
      rw [step_get (by omega) (by omega), hlen, (h.same i hi).2]
  refine ⟨by rw [stepT_len]; exact hlen, h0, hpos, by omega, fun t ht => h.red t (.next hr (by rw [← hlen] at ht; exact ht)), fun i hi => by rw [hg i hi]; exact h.same i hi, h.gn, h.csb, ?_, ?_, ?_⟩
  · intro i hi
    rw [hg i hi]
    have hc := h.cr i hi; have hgn := h.gn i hi; have hb := h.csb a; have hb2 := h.csb i
    show 0 ≤ (if i = a ∧ cs.getD i 0 = 0 then 0 else (ms.getD i M3.z).c) + (if i = nxt a ms0.length ∧ 0 < cs.getD i 0 then q * (ms0.getD i M3.z).w else 0) ∧ (if i = a ∧ cs.getD i 0 = 0 then 0 else (ms.getD i M3.z).c) + (if i = nxt a ms0.length ∧ 0 < cs.getD i 0 then q * (ms0.getD i M3.z).w else 0) ≤ 1048576 + (if i = nxt a ms0.length then q * (ms0.getD i M3.z).w else 0)
    have hx : 0 ≤ (if i = a ∧ cs.getD i 0 = 0 then 0 else (ms.getD i M3.z).c) ∧ (if i = a ∧ cs.getD i 0 = 0 then 0 else (ms.getD i M3.z).c) ≤ 1048576 := by
      by_cases e : i = a
      · subst e
        by_cases e2 : cs.getD i 0 = 0
        · rw [if_pos ⟨rfl, e2⟩]; omega
        · rw [if_neg (fun h => e2 h.2)]; have := hrd (by omega); omega
      · rw [if_neg (fun h => e h.1)]; rw [if_neg e] at hc; omega
    generalize (if i = a ∧ cs.getD i 0 = 0 then 0 else (ms.getD i M3.z).c) = x at hx
    by_cases e : i = nxt a ms0.length
    · rw [if_pos e]
      by_cases e2 : 0 < cs.getD i 0
      · rw [if_pos ⟨e, e2⟩]; omega
      · rw [if_neg (fun h => e2 h.2)]; omega
    · rw [if_neg e, if_neg (fun h => e h.1)]; omega
  · intro hk1 i hi ho
    have hkl : k < ms0.length := by omega
    rw [if_pos hkl] at hof
    rw [hg i hi]
    show (cs.getD i 0 = 0 → (if i = a ∧ cs.getD i 0 = 0 then 0 else (ms.getD i M3.z).c) + (if i = nxt a ms0.length ∧ 0 < cs.getD i 0 then q * (ms0.getD i M3.z).w else 0) = 0) ∧ (0 < cs.getD i 0 → (if i = a ∧ cs.getD i 0 = 0 then 0 else (ms.getD i M3.z).c) + (if i = nxt a ms0.length ∧ 0 < cs.getD i 0 then q * (ms0.getD i M3.z).w else 0) < cs.getD i 0)
    have hni : i ≠ nxt a ms0.length := fun e => by
      have : offT a0 ms0.length (nxt a ms0.length) = k + 1 := by rw [hpos]; unfold offT posK posT; split <;> split <;> split <;> omega
      rw [← e] at this; omega
    have c1 : ¬ (i = nxt a ms0.length ∧ 0 < cs.getD i 0) := fun h => hni h.1
    simp only [if_neg c1, Int.add_zero]
    by_cases e : i = a
    · subst e
      exact ⟨fun e2 => by rw [if_pos ⟨rfl, e2⟩], fun e2 => by rw [if_neg (fun h => by omega)]; exact hrd e2⟩
    · have c2 : ¬ (i = a ∧ cs.getD i 0 = 0) := fun h => e h.1
      simp only [if_neg c2]
      have ho2 : offT a0 ms0.length i ≠ k := fun e2 => e (off_inj h0 hi hal (by omega))
      exact h.vis hkl i hi (by omega)
  · intro hk1
    obtain ⟨j, h1, h2, h3, h4⟩ := (h.k_lt hr).2 (by omega)
    refine ⟨j, h1, h2, h3, ?_⟩
    rw [hg j h1]
    show _ ≤ (if j = a ∧ cs.getD j 0 = 0 then 0 else (ms.getD j M3.z).c) + (if j = nxt a ms0.length ∧ 0 < cs.getD j 0 then q * (ms0.getD j M3.z).w else 0) + _
    have c2 : ¬ (j = a ∧ cs.getD j 0 = 0) := fun h => by omega
    simp only [if_neg c2]
    have hgn := h.gn j h1
    by_cases e : k + 1 = ms0.length + offT a0 ms0.length j
    · have : j = nxt a ms0.length := by
        have hnl := nxt_lt hal
        refine off_inj h0 h1 hnl ?_
        have : offT a0 ms0.length (nxt a ms0.length) = k + 1 - ms0.length := by rw [hpos]; unfold offT posK posT; split <;> split <;> split <;> omega
        omega
      rw [if_pos ⟨this, h2⟩, if_pos e]; omega
    · rw [if_neg e]; split <;> omega
theorem TInv.low {q : Int} {cs : List Int} {ms0 ms : List M3} {a0 a k : Nat} (h : TInv q cs ms0 a0 ms a k) (hr : rdyT cs (ms, a) = false) (hk : k + 1 = ms0.length) : LowT cs (zeroT cs ms a) := by
  have hal := h.al; have h0 := h.a0l; have hof := h.off; have hlen := h.len
  have hrd := rdyT_false.1 hr; simp only at hrd
  intro i hi
  rw [zeroT_len] at hi
  rw [zeroT_get (by omega)]
  refine ⟨fun e => ?_, fun e => ?_, (h.csb i).1⟩
  · by_cases e2 : i = a ∧ cs.getD i 0 = 0
    · rw [if_pos e2]
    · rw [if_neg e2]
      have : i ≠ a := fun e3 => e2 ⟨e3, e⟩
      have ho2 : offT a0 ms0.length i ≠ k := fun e3 => this (off_inj h0 (by omega) hal (by rw [if_pos (by omega)] at hof; omega))
      have hjo : offT a0 ms0.length i < ms0.length := by unfold offT; split <;> omega
      exact (h.vis (by omega) i (by omega) (by omega)).1 e
  · rw [if_neg (fun h => by omega)]
    by_cases e3 : i = a
    · subst e3; exact hrd e
    · have ho2 : offT a0 ms0.length i ≠ k := fun e4 => e3 (off_inj h0 (by omega) hal (by rw [if_pos (by omega)] at hof; omega))
      have hjo : offT a0 ms0.length i < ms0.length := by unfold offT; split <;> omega
      exact (h.vis (by omega) i (by omega) (by omega)).2 e
theorem TInv.skip {q : Int} {cs : List Int} {ms0 ms : List M3} {a0 a k : Nat} (h : TInv q cs ms0 a0 ms a k) (hr : rdyT cs (ms, a) = false) (hk : k + 1 = ms0.length) (r : Nat)
    (hub : ∀ i, i < ms0.length → 0 < cs.getD i 0 → ((zeroT cs ms a).getD i M3.z).c + (r : Int) * (q * ((zeroT cs ms a).getD i M3.z).w) < cs.getD i 0)
    (hex : ∃ j, j < ms0.length ∧ 0 < cs.getD j 0 ∧ cs.getD j 0 ≤ ((zeroT cs ms a).getD j M3.z).c + (r : Int) * (q * ((zeroT cs ms a).getD j M3.z).w) + q * ((zeroT cs ms a).getD j M3.z).w) :
    TInv q cs ms0 a0 (gainT q cs (bumpF q cs (fun _ => (r : Int)) (zeroT cs ms a)) (nxt a ms0.length)) (nxt a ms0.length) (k + 1) := by
  have hal := h.al; have h0 := h.a0l; have hof := h.off; have hlen := h.len; have hlow := h.low hr hk
  have hnl := nxt_lt hal
  have hzl := zeroT_len cs ms a
  have hbl := bumpF_len q cs (fun _ => (r : Int)) (zeroT cs ms a)
  have hz : ∀ i, i < ms0.length → ((zeroT cs ms a).getD i M3.z).id = (ms0.getD i M3.z).id ∧ ((zeroT cs ms a).getD i M3.z).w = (ms0.getD i M3.z).w ∧ 0 ≤ ((zeroT cs ms a).getD i M3.z).c ∧ ((zeroT cs ms a).getD i M3.z).c ≤ 1048576 := fun i hi => by
    have hs := h.same i hi; have hc := h.cr i hi; have hl := hlow i (by omega)
    rw [zeroT_get (by omega)] at hl ⊢
    by_cases e : i = a ∧ cs.getD i 0 = 0
    · rw [if_pos e]; exact ⟨hs.1, hs.2, by show (0 : Int) ≤ 0; omega, by show (0 : Int) ≤ 1048576; omega⟩
    · rw [if_neg e] at hl ⊢
      refine ⟨hs.1, hs.2, hc.1, ?_⟩
      have hb := h.csb i
      by_cases e2 : cs.getD i 0 = 0
      · have := hl.1 e2; omega
      · have := hl.2.1 (by omega); omega
  have hB : ∀ i, i < ms0.length → (bumpF q cs (fun _ => (r : Int)) (zeroT cs ms a)).getD i M3.z = if 0 < cs.getD i 0 then ⟨((zeroT cs ms a).getD i M3.z).id, ((zeroT cs ms a).getD i M3.z).w, ((zeroT cs ms a).getD i M3.z).c + (r : Int) * (q * ((zeroT cs ms a).getD i M3.z).w)⟩ else (zeroT cs ms a).getD i M3.z := fun i hi => bumpF_get (by omega)
  have hG : ∀ i, i < ms0.length → (gainT q cs (bumpF q cs (fun _ => (r : Int)) (zeroT cs ms a)) (nxt a ms0.length)).getD i M3.z = ⟨(ms0.getD i M3.z).id, (ms0.getD i M3.z).w,
      (if 0 < cs.getD i 0 then ((zeroT cs ms a).getD i M3.z).c + (r : Int) * (q * (ms0.getD i M3.z).w) else ((zeroT cs ms a).getD i M3.z).c) + (if i = nxt a ms0.length ∧ 0 < cs.getD i 0 then q * (ms0.getD i M3.z).w else 0)⟩ := fun i hi => by
    obtain ⟨z1, z2, _, _⟩ := hz i hi
    rw [gainT_get (by omega)]
    rw [hB i hi]
    by_cases e : i = nxt a ms0.length ∧ 0 < cs.getD i 0
    · simp only [if_pos e, if_pos e.2, z1, z2]
    · by_cases e2 : 0 < cs.getD i 0
      · simp only [if_neg e, if_pos e2, Int.add_zero, z1, z2]
      · simp only [if_neg e, if_neg e2, Int.add_zero, ← z1, ← z2]
  have hpos : nxt a ms0.length = posK a0 ms0.length (k + 1) := by rw [h.pos]; exact posK_nxt h0 (by omega)
  refine ⟨by rw [gainT_len]; omega, h0, hpos, by omega, ?_, fun i hi => by rw [hG i hi]; exact ⟨rfl, rfl⟩, h.gn, h.csb, ?_, fun hk1 => by omega, ?_⟩
  · intro t ht
    refine h.red t ?_
    have hnr1 : rdyT cs (zeroT cs ms a, a) = false := rdyT_false.2 (hlow a (by omega)).2.1
    have hzz : zeroT cs (zeroT cs ms a) a = zeroT cs ms a := by
      refine ms_ext (by rw [zeroT_len]) fun j hj => ?_
      rw [zeroT_len] at hj
      rw [zeroT_get (by omega)]
      by_cases e : j = a ∧ cs.getD j 0 = 0
      · rw [if_pos e, zeroT_get (by omega), if_pos e]
      · rw [if_neg e]
    have hst : stepT q cs (zeroT cs ms a, a) = stepT q cs (ms, a) := by
      unfold stepT; simp only [hzz, hzl]
    refine .next hr ?_
    rw [← hst]
    refine TakeR.unstep ?_ hnr1
    refine skip_take r (by omega) hlow (fun i hi hw => hub i (by omega) hw) (fun i hi => by rw [(hz i (by omega)).2.1]; have := h.gn i (by omega); omega) ?_
    refine .next (rdyT_false.2 (fun hw => by show ((bumpF q cs (fun _ => (r : Int)) (zeroT cs ms a)).getD a M3.z).c < _; rw [hB a hal, if_pos hw]; exact hub a hal hw)) ?_
    have hz2 : zeroT cs (bumpF q cs (fun _ => (r : Int)) (zeroT cs ms a)) a = bumpF q cs (fun _ => (r : Int)) (zeroT cs ms a) := by
      refine ms_ext (by rw [zeroT_len]) fun j hj => ?_
      rw [zeroT_len] at hj
      rw [zeroT_get (by omega)]
      by_cases e : j = a ∧ cs.getD j 0 = 0
      · rw [if_pos e, hB j (by omega), if_neg (by omega)]
        have := (hlow j (by omega)).1 e.2
        rw [← this]
      · rw [if_neg e]
    unfold stepT
    simp only [hz2, hbl, hzl, hlen]
    exact ht
  · intro i hi
    rw [hG i hi]
    obtain ⟨z1, z2, z3, z4⟩ := hz i hi
    have hgn := h.gn i hi; have hb := h.csb i
    show 0 ≤ (if 0 < cs.getD i 0 then ((zeroT cs ms a).getD i M3.z).c + (r : Int) * (q * (ms0.getD i M3.z).w) else ((zeroT cs ms a).getD i M3.z).c) + (if i = nxt a ms0.length ∧ 0 < cs.getD i 0 then q * (ms0.getD i M3.z).w else 0) ∧ _ + (if i = nxt a ms0.length ∧ 0 < cs.getD i 0 then q * (ms0.getD i M3.z).w else 0) ≤ _
    by_cases e2 : 0 < cs.getD i 0
    · have hu := hub i hi e2
      rw [z2] at hu
      have hp : 0 ≤ (r : Int) * (q * (ms0.getD i M3.z).w) := Int.mul_nonneg (by omega) (by omega)
      rw [if_pos e2]
      by_cases e3 : i = nxt a ms0.length
      · rw [if_pos e3, if_pos ⟨e3, e2⟩]; omega
      · rw [if_neg e3, if_neg (fun h => e3 h.1)]; omega
    · rw [if_neg e2, if_neg (fun h => e2 h.2)]; split <;> omega
  · intro _
    obtain ⟨j, h1, h2, h3⟩ := hex
    have hjo : offT a0 ms0.length j < ms0.length := by unfold offT; split <;> omega
    have hgn := h.gn j h1
    refine ⟨j, h1, h2, by omega, ?_⟩
    rw [(hz j h1).2.1] at h3
    rw [hG j h1]
    show _ ≤ (if 0 < cs.getD j 0 then ((zeroT cs ms a).getD j M3.z).c + (r : Int) * (q * (ms0.getD j M3.z).w) else ((zeroT cs ms a).getD j M3.z).c) + (if j = nxt a ms0.length ∧ 0 < cs.getD j 0 then q * (ms0.getD j M3.z).w else 0) + _
    rw [if_pos h2]
    by_cases e : k + 1 = ms0.length + offT a0 ms0.length j
    · have : j = nxt a ms0.length := by
        refine off_inj h0 h1 hnl ?_
        have : offT a0 ms0.length (nxt a ms0.length) = k + 1 - ms0.length := by rw [hpos]; unfold offT posK posT; split <;> split <;> split <;> omega
        omega
      rw [if_pos ⟨this, h2⟩, if_pos e]; omega
    · rw [if_neg e]; split <;> omega
theorem TInv.step' {q : Int} {cs : List Int} {ms0 ms : List M3} {a0 a k : Nat} (h : TInv q cs ms0 a0 ms a k) (hr : rdyT cs (ms, a) = false) (hk : k + 1 ≠ ms0.length) :
    TInv q cs ms0 a0 (gainT q cs (zeroT cs ms a) (nxt a ms0.length)) (nxt a ms0.length) (k + 1) := by
  have := h.step hr hk
  unfold stepT at this; simp only [h.len] at this; exact this
theorem TInv.zfacts {q : Int} {cs : List Int} {ms0 ms : List M3} {a0 a k : Nat} (h : TInv q cs ms0 a0 ms a k) (i : Nat) (hi : i < ms0.length) :
    1 ≤ q * ((zeroT cs ms a).getD i M3.z).w ∧ q * ((zeroT cs ms a).getD i M3.z).w ≤ 104857600 ∧ 0 ≤ ((zeroT cs ms a).getD i M3.z).c ∧ ((zeroT cs ms a).getD i M3.z).c ≤ 106000000 := by
  have hs := h.same i hi; have hc := h.cr i hi; have hg := h.gn i hi; have hl := h.len
  rw [zeroT_get (by have := h.al; omega)]
  by_cases e : i = a ∧ cs.getD i 0 = 0
  · rw [if_pos e]; show 1 ≤ q * (ms.getD i M3.z).w ∧ q * (ms.getD i M3.z).w ≤ _ ∧ (0 : Int) ≤ 0 ∧ (0 : Int) ≤ _
    rw [hs.2]; omega
  · rw [if_neg e, hs.2]; split at hc <;> omega
def bumpI (q : Int) (cs : List Int) (r i : Nat) (ms : List M3) : List M3 := bumpF q cs (fun j => if j < i then (r : Int) else 0) ms
theorem bumpI_len (q : Int) (cs : List Int) (r i : Nat) (ms : List M3) : (bumpI q cs r i ms).length = ms.length := bumpF_len _ _ _ _
theorem bumpI_zero (q : Int) (cs : List Int) (r : Nat) (ms : List M3) : bumpI q cs r 0 ms = ms := by
  refine ms_ext (bumpI_len _ _ _ _ _) fun j hj => ?_
  rw [bumpI_len] at hj
  unfold bumpI; rw [bumpF_get hj]; split
  · simp
  · rfl
theorem bumpI_at {q : Int} {cs : List Int} {r i : Nat} {ms : List M3} (h : i < ms.length) : (bumpI q cs r i ms).getD i M3.z = ms.getD i M3.z := by
  unfold bumpI; rw [bumpF_get h]; split
  · simp
  · rfl
theorem bumpI_yes {q : Int} {cs : List Int} {r i : Nat} {ms : List M3} (h : i < ms.length) (hw : cs.getD i 0 > 0) : setC (bumpI q cs r i ms) i ((ms.getD i M3.z).c + (r : Int) * (q * (ms.getD i M3.z).w)) = bumpI q cs r (i + 1) ms := by
  refine ms_ext (by rw [setC_len, bumpI_len, bumpI_len]) fun j hj => ?_
  rw [setC_len, bumpI_len] at hj
  rw [setC_get (by rw [bumpI_len]; exact h)]
  by_cases e : j = i
  · subst e; rw [if_pos rfl, bumpI_at hj]; unfold bumpI; rw [bumpF_get hj, if_pos hw]; simp
  · rw [if_neg e]; unfold bumpI; rw [bumpF_get hj, bumpF_get hj]
    have : (if j < i then (r : Int) else 0) = (if j < i + 1 then (r : Int) else 0) := by
      by_cases h1 : j < i
      · rw [if_pos h1, if_pos (by omega)]
      · rw [if_neg h1, if_neg (by omega)]
    simp only [this]
theorem bumpI_no {q : Int} {cs : List Int} {r i : Nat} {ms : List M3} (hw : ¬ cs.getD i 0 > 0) : bumpI q cs r i ms = bumpI q cs r (i + 1) ms := by
  refine ms_ext (by rw [bumpI_len, bumpI_len]) fun j hj => ?_
  rw [bumpI_len] at hj
  unfold bumpI; rw [bumpF_get hj, bumpF_get hj]
  by_cases e : j = i
  · subst e; rw [if_neg hw, if_neg hw]
  · have : (if j < i then (r : Int) else 0) = (if j < i + 1 then (r : Int) else 0) := by
      by_cases h1 : j < i
      · rw [if_pos h1, if_pos (by omega)]
      · rw [if_neg h1, if_neg (by omega)]
    simp only [this]
theorem bumpI_all {q : Int} {cs : List Int} {r i : Nat} {ms : List M3} (h : ms.length ≤ i) : bumpI q cs r i ms = bumpF q cs (fun _ => (r : Int)) ms := by
  refine ms_ext (by rw [bumpI_len, bumpF_len]) fun j hj => ?_
  rw [bumpI_len] at hj
  unfold bumpI; rw [bumpF_get hj, bumpF_get hj]
  have : (if j < i then (r : Int) else 0) = (r : Int) := if_pos (by omega)
  simp only [this]
structure SkInv (q : Int) (cs : List Int) (ms : List M3) (i r : Nat) : Prop where
  r2 : r ≤ 1048576
  ub : ∀ j, j < i → 0 < cs.getD j 0 → (ms.getD j M3.z).c + (r : Int) * (q * (ms.getD j M3.z).w) < cs.getD j 0
  ex : (r = 1048576 ∧ ∀ j, j < i → ¬ 0 < cs.getD j 0) ∨ ∃ j, j < i ∧ 0 < cs.getD j 0 ∧ cs.getD j 0 ≤ (ms.getD j M3.z).c + (r : Int) * (q * (ms.getD j M3.z).w) + q * (ms.getD j M3.z).w
theorem SkInv.zero (q : Int) (cs : List Int) (ms : List M3) : SkInv q cs ms 0 1048576 := ⟨Nat.le_refl _, fun j h => by omega, .inl ⟨rfl, fun j h => by omega⟩⟩
theorem SkInv.no {q : Int} {cs : List Int} {ms : List M3} {i r : Nat} (h : SkInv q cs ms i r) (hw : ¬ cs.getD i 0 > 0) : SkInv q cs ms (i + 1) r := by
  refine ⟨h.r2, fun j hj h0 => ?_, ?_⟩
  · by_cases e : j = i
    · subst e; exact absurd h0 hw
    · exact h.ub j (by omega) h0
  · rcases h.ex with ⟨h1, h2⟩ | ⟨j, h1, h2⟩
    · refine .inl ⟨h1, fun j hj => ?_⟩
      by_cases e : j = i
      · subst e; exact hw
      · exact h2 j (by omega)
    · exact .inr ⟨j, by omega, h2⟩
theorem SkInv.yes {q : Int} {cs : List Int} {ms : List M3} {i r : Nat} (h : SkInv q cs ms i r) (hw : cs.getD i 0 > 0) (hc : (ms.getD i M3.z).c < cs.getD i 0) (hc0 : 0 ≤ (ms.getD i M3.z).c) (hb : cs.getD i 0 ≤ 1048576)
    (hg : ∀ j, j < i + 1 → 1 ≤ q * (ms.getD j M3.z).w) : SkInv q cs ms (i + 1) (min r ((cs.getD i 0 - (ms.getD i M3.z).c - 1) / (q * (ms.getD i M3.z).w)).toNat) := by
  have hgi := hg i (by omega)
  obtain ⟨x, hx⟩ : ∃ x : Nat, (cs.getD i 0 - (ms.getD i M3.z).c - 1) / (q * (ms.getD i M3.z).w) = (x : Int) := ⟨_, (Int.toNat_of_nonneg (Int.ediv_nonneg (by omega) (by omega))).symm⟩
  have h1 := Int.mul_ediv_add_emod (cs.getD i 0 - (ms.getD i M3.z).c - 1) (q * (ms.getD i M3.z).w)
  have h2 := Int.emod_nonneg (cs.getD i 0 - (ms.getD i M3.z).c - 1) (show q * (ms.getD i M3.z).w ≠ 0 by omega)
  have h3 := Int.emod_lt_of_pos (cs.getD i 0 - (ms.getD i M3.z).c - 1) (show 0 < q * (ms.getD i M3.z).w by omega)
  rw [hx] at h1 ⊢
  rw [Int.toNat_natCast]
  have h4 : q * (ms.getD i M3.z).w * (x : Int) = (x : Int) * (q * (ms.getD i M3.z).w) := Int.mul_comm _ _
  rw [h4] at h1
  have mono : ∀ (y z : Nat) (g : Int), y ≤ z → 1 ≤ g → (y : Int) * g ≤ (z : Int) * g := fun y z g hyz hg => Int.mul_le_mul_of_nonneg_right (by omega) (by omega)
  have hxb : (x : Int) ≤ 1048575 := by
    have := mono 1 1 (q * (ms.getD i M3.z).w) (by omega) hgi
    have h5 : (x : Int) * 1 ≤ (x : Int) * (q * (ms.getD i M3.z).w) := Int.mul_le_mul_of_nonneg_left (by omega) (by omega)
    omega
  refine ⟨by have := h.r2; omega, fun j hj h0 => ?_, ?_⟩
  · by_cases e : j = i
    · subst e
      have := mono (min r x) x _ (by omega) hgi; omega
    · have h6 := h.ub j (by omega) h0
      have := mono (min r x) r _ (by omega) (hg j (by omega)); omega
  · right
    by_cases hm : r ≤ x
    · rw [Nat.min_eq_left hm]
      rcases h.ex with ⟨h6, h7⟩ | ⟨j, h6, h7⟩
      · omega
      · exact ⟨j, by omega, h7⟩
    · rw [Nat.min_eq_right (by omega)]
      exact ⟨i, by omega, hw, by omega⟩
theorem SkInv.done {q : Int} {cs : List Int} {ms : List M3} {i n r : Nat} (h : SkInv q cs ms i r) (hi : n ≤ i) (hany : ∃ j, j < n ∧ 0 < cs.getD j 0) (hin : i ≤ n) :
    ∃ j, j < n ∧ 0 < cs.getD j 0 ∧ cs.getD j 0 ≤ (ms.getD j M3.z).c + (r : Int) * (q * (ms.getD j M3.z).w) + q * (ms.getD j M3.z).w := by
  rcases h.ex with ⟨_, h2⟩ | ⟨j, h1, h2⟩
  · obtain ⟨j, h3, h4⟩ := hany; exact absurd h4 (h2 j (by omega))
  · exact ⟨j, by omega, h2⟩
def joinEr (ms : List M3) (id w : Int) : Int := if w < 1 ∨ w > 100 then 1 else if placeM ms id ≥ 0 then 8 else 0
def joinM (ms : List M3) (id w : Int) : List M3 := if joinEr ms id w = 0 then ms ++ [⟨id, w, 0⟩] else ms
def leaveEr (ms : List M3) (id : Int) : Int := if placeM ms id < 0 then 6 else 0
def leaveM (ms : List M3) (id : Int) : List M3 := if placeM ms id < 0 then ms else ms.eraseIdx (placeM ms id).toNat
def leaveA (ms : List M3) (a : Nat) (id : Int) : Nat := if placeM ms id < 0 then a else if (if (placeM ms id).toNat < a then a - 1 else a) = ms.length - 1 then 0 else (if (placeM ms id).toNat < a then a - 1 else a)
theorem placeM_ge (ms : List M3) (id : Int) : placeM ms id ≥ -1 ∧ placeM ms id < ms.length := by
  rcases placeM_cases ms id with ⟨k, h1, h2, _⟩ | ⟨h1, _⟩ <;> omega
def qOf (n : Int) : Int := min (max n 1) 1048576
end Go.Proofs.YtanfdikglplkaaaGreatDoor.Sp
namespace Go.Proofs.YtanfdikglplkaaaGreatDoor.Sp
open Go
variable {L : List HP}
def recs {α : Type} (F : α → List Value) (xs : List α) : List Value := xs.flatMap F
theorem recs_len {α : Type} {F : α → List Value} {n : Nat} (hF : ∀ x, (F x).length = n) (xs : List α) : (recs F xs).length = xs.length * n := by
  unfold recs
  induction xs with
  | nil => simp
  | cons x xs ih => rw [List.flatMap_cons, List.length_append, ih, hF, List.length_cons, Nat.succ_mul, Nat.add_comm]
theorem recs_append {α : Type} (F : α → List Value) (xs ys : List α) : recs F (xs ++ ys) = recs F xs ++ recs F ys := by simp [recs]
theorem recs_snoc {α : Type} (F : α → List Value) (xs : List α) (y : α) : recs F xs ++ F y = recs F (xs ++ [y]) := by simp [recs]
theorem recs_split {α : Type} {F : α → List Value} {n : Nat} (hF : ∀ x, (F x).length = n) (xs : List α) (k : Nat) : (recs F xs).take (k * n) = recs F (xs.take k) ∧ (recs F xs).drop (k * n) = recs F (xs.drop k) := by
  rcases Nat.lt_or_ge xs.length k with h | h
  · have hl := recs_len hF xs
    have hle : xs.length * n ≤ k * n := Nat.mul_le_mul_right n (by omega)
    rw [List.take_of_length_le (by omega), List.drop_of_length_le (by omega), List.take_of_length_le (by omega), List.drop_of_length_le (by omega)]
    exact ⟨rfl, rfl⟩
  · have e : recs F xs = recs F (xs.take k) ++ recs F (xs.drop k) := by rw [← recs_append, List.take_append_drop]
    have hl : (recs F (xs.take k)).length = k * n := by rw [recs_len hF, List.length_take, Nat.min_eq_left h]
    rw [e, List.take_append_of_le_length (by omega), List.drop_append_of_le_length (by omega), ← hl, List.take_length, List.drop_length, List.nil_append]
    exact ⟨rfl, rfl⟩
theorem recs_take {α : Type} {F : α → List Value} {n : Nat} (hF : ∀ x, (F x).length = n) (xs : List α) (k : Nat) : (recs F xs).take (k * n) = recs F (xs.take k) := (recs_split hF xs k).1
theorem recs_drop {α : Type} {F : α → List Value} {n : Nat} (hF : ∀ x, (F x).length = n) (xs : List α) (k : Nat) : (recs F xs).drop (k * n) = recs F (xs.drop k) := (recs_split hF xs k).2
theorem recs_get {α : Type} {F : α → List Value} {n : Nat} (hF : ∀ x, (F x).length = n) {xs : List α} {d : α} {k j : Nat} (h : k < xs.length) (hj : j < n) : (recs F xs)[k * n + j]? = (F (xs.getD k d))[j]? := by
  have h1 : (recs F xs)[k * n + j]? = ((recs F xs).drop (k * n))[j]? := by rw [List.getElem?_drop]
  rw [h1, recs_drop hF, List.drop_eq_getElem_cons h]
  unfold recs
  rw [List.flatMap_cons, List.getElem?_append_left (by rw [hF]; exact hj)]
  simp [List.getD, h]
theorem recs_one {α : Type} {F : α → List Value} (h : ∀ x, ∀ u ∈ F x, u.oneCell' = true) {xs : List α} : ∀ u ∈ recs F xs, u.oneCell' = true := by
  intro u hu
  obtain ⟨x, _, hx⟩ := List.mem_flatMap.1 hu
  exact h x u hx
theorem rd_sb_recs {α : Type} {F : α → List Value} {sz : Nat} (hF : ∀ x, (F x).length = sz) {bs : Option Addr} {n l m : Nat} {xs : List α} (hrd : Rd L bs (recs F xs)) (h : SlOk bs n) (hl : xs.length = n) (hnm : n ≤ m) : Rd L (sbase bs l m sz) (recs F (xs.drop l)) := by
  rw [← recs_drop hF]; exact rd_sbase hrd h (by rw [recs_len hF, hl]) hnm
theorem recs_splice {α : Type} {F : α → List Value} {sz : Nat} (hF : ∀ x, (F x).length = sz) {xs ys : List α} {a b : Nat} : (recs F xs).take (a * sz) ++ recs F ys ++ (recs F xs).drop (b * sz) = recs F (xs.take a ++ ys ++ xs.drop b) := by
  rw [recs_take hF, recs_drop hF, recs_append, recs_append]
def ptrF (p : Nat) : List Value := [.pointer (some ⟨p, 0, none⟩)]
theorem ptrF_len (p : Nat) : (ptrF p).length = 1 := rfl
theorem ptrF_one (p : Nat) : ∀ u ∈ ptrF p, u.oneCell' = true := by intro u hu; simp [ptrF] at hu; subst hu; rfl
abbrev ptrs (ps : List Nat) : List Value := recs ptrF ps
theorem ptrs_get {ps : List Nat} {k : Nat} (h : k < ps.length) : (ptrs ps)[k]? = some (.pointer (some ⟨ps.getD k 0, 0, none⟩)) := by
  have := recs_get ptrF_len (d := 0) h (show 0 < 1 by omega)
  rw [Nat.mul_one, Nat.add_zero] at this; exact this
theorem sat_cut_recs {α : Type} {F : α → List Value} {sz : Nat} (hF : ∀ x, (F x).length = sz) {T cp n a b : Nat} {bs : Option Addr} {xs : List α} {zs : List Value} {w : World} (h0 : 0 < n) (ha : a ≤ n) (hx : xs.length = n) (h : Sat (SlV T sz (.slice bs n cp) n ((recs F xs).take (a * sz) ++ zs ++ (recs F xs).drop (b * sz)) :: L) w) :
    Sat (SlV T sz (.slice bs a cp) a (recs F (xs.take a)) :: L) w := by
  have := sat_short (k := a) ha h0 h
  rw [List.append_assoc, List.take_append_of_le_length (by rw [List.length_take, recs_len hF, hx]; exact Nat.le_min.2 ⟨Nat.le_refl _, Nat.mul_le_mul_right _ ha⟩), List.take_take, Nat.min_self, recs_take hF] at this
  exact this
theorem erase_takeG {α : Type} {xs : List α} {i : Nat} (h : i < xs.length) (n : Nat) (hn : n = xs.length - 1) (zs : List α) : (xs.take i ++ xs.drop (i + 1) ++ zs).take n = xs.eraseIdx i := by
  have hl : (xs.take i ++ xs.drop (i + 1)).length = n := by simp; omega
  rw [List.take_append_of_le_length (by omega), List.take_of_length_le (by omega), List.eraseIdx_eq_take_drop_succ]
end Go.Proofs.YtanfdikglplkaaaGreatDoor.Sp
