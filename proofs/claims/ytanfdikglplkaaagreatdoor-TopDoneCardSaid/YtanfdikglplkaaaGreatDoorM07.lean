/- Parts Hp, Hpm, Eng0, Eng1, Hpl, Hpl2, Hpl3, Tm: own lemmas and contracts of the code that the claim reaches. -/
import Derived.Test.YtanfdikglplkaaaGreatDoorM04
import Derived.Test.YtanfdikglplkaaaGreatDoorM03
import Derived.Test.YtanfdikglplkaaaGreatDoorM06
set_option linter.unusedSimpArgs false
set_option linter.unusedVariables false
namespace Go.Proofs.YtanfdikglplkaaaGreatDoor.Sp
open Go
def LtK (K : List Int) (a b : Int) : Prop := K.getD a.toNat 0 < K.getD b.toNat 0 ∨ (K.getD a.toNat 0 = K.getD b.toNat 0 ∧ a < b)
instance (K : List Int) (a b : Int) : Decidable (LtK K a b) := by unfold LtK; infer_instance
theorem LtK.irr {K : List Int} {a : Int} : ¬ LtK K a a := by unfold LtK; omega
theorem LtK.asymm {K : List Int} {a b : Int} (h : LtK K a b) : ¬ LtK K b a := by unfold LtK at *; omega
theorem not_lt_trans {K : List Int} {a b c : Int} (h : ¬ LtK K b a) (k : ¬ LtK K c b) : ¬ LtK K c a := by unfold LtK at *; omega
def LeAt (K l : List Int) (i j : Nat) : Prop := ¬ LtK K (l.getD j 0) (l.getD i 0)
structure HI (n : Nat) (l : List Int) : Prop where
  bd : ∀ i, i < l.length → 0 ≤ l.getD i 0 ∧ l.getD i 0 < n
  inj : ∀ i j, i < l.length → j < l.length → l.getD i 0 = l.getD j 0 → i = j
structure AtOk (n : Nat) (l at_ : List Int) : Prop where
  len : at_.length = n
  here : ∀ i, i < l.length → at_.getD (l.getD i 0).toNat 0 = (i : Int)
  away : ∀ x : Nat, x < n → (∀ i, i < l.length → l.getD i 0 ≠ (x : Int)) → at_.getD x 0 = -1
def swapL (l : List Int) (i k : Nat) : List Int := (l.set i (l.getD k 0)).set k (l.getD i 0)
theorem swapL_len (l : List Int) (i k : Nat) : (swapL l i k).length = l.length := by simp [swapL]
theorem set_getD {l : List Int} {i j : Nat} {x d : Int} (h : i < l.length) : (l.set i x).getD j d = if j = i then x else l.getD j d := by
  simp only [List.getD_eq_getElem?_getD, List.getElem?_set]
  by_cases e : i = j
  · subst e; simp [h]
  · rw [if_neg e, if_neg (fun h => e h.symm)]
theorem swapL_get {l : List Int} {i k j : Nat} (hi : i < l.length) (hk : k < l.length) : (swapL l i k).getD j 0 = if j = k then l.getD i 0 else if j = i then l.getD k 0 else l.getD j 0 := by
  unfold swapL; rw [set_getD (by simpa using hk), set_getD hi]
theorem HI.swap {n : Nat} {l : List Int} (h : HI n l) {i k : Nat} (hi : i < l.length) (hk : k < l.length) : HI n (swapL l i k) := by
  refine ⟨fun j hj => ?_, fun a b ha hb e => ?_⟩
  · rw [swapL_len] at hj; rw [swapL_get hi hk]
    split
    · exact h.bd i hi
    · split
      · exact h.bd k hk
      · exact h.bd j hj
  · rw [swapL_len] at ha hb; rw [swapL_get hi hk, swapL_get hi hk] at e
    have q := h.inj
    split at e <;> split at e <;> (try split at e) <;> (try split at e) <;> first | omega | (have := h.inj _ _ (by assumption) (by assumption) e; omega)
structure Same (m : Nat) (l l' : List Int) : Prop where
  len : l'.length = l.length
  mem : ∀ x, x ∈ l' ↔ x ∈ l
  rest : ∀ j, m ≤ j → l'.getD j 0 = l.getD j 0
theorem Same.refl (m : Nat) (l : List Int) : Same m l l := ⟨rfl, fun _ => .rfl, fun _ _ => rfl⟩
theorem Same.trans {m : Nat} {a b c : List Int} (h : Same m a b) (k : Same m b c) : Same m a c := ⟨k.len.trans h.len, fun x => (k.mem x).trans (h.mem x), fun j hj => (k.rest j hj).trans (h.rest j hj)⟩
theorem mem_iff_at {l : List Int} {x : Int} : x ∈ l ↔ ∃ i, i < l.length ∧ l.getD i 0 = x := by
  rw [List.mem_iff_getElem]
  constructor
  · rintro ⟨i, hi, e⟩; exact ⟨i, hi, by simp [List.getD, hi, e]⟩
  · rintro ⟨i, hi, e⟩; exact ⟨i, hi, by simpa [List.getD, hi] using e⟩
theorem swap_mem {l : List Int} {i k : Nat} (hi : i < l.length) (hk : k < l.length) (x : Int) : x ∈ swapL l i k ↔ x ∈ l := by
  rw [mem_iff_at, mem_iff_at, swapL_len]
  constructor
  · rintro ⟨j, hj, e⟩
    rw [swapL_get hi hk] at e
    split at e
    · exact ⟨i, hi, e⟩
    · split at e
      · exact ⟨k, hk, e⟩
      · exact ⟨j, hj, e⟩
  · rintro ⟨j, hj, e⟩
    by_cases h1 : j = i
    · exact ⟨k, hk, by rw [swapL_get hi hk, if_pos rfl, ← h1, e]⟩
    · by_cases h2 : j = k
      · refine ⟨i, hi, ?_⟩
        rw [swapL_get hi hk]
        split
        · rename_i h3; rw [← e, h2, h3]
        · rw [if_pos rfl, ← h2, e]
      · exact ⟨j, hj, by rw [swapL_get hi hk, if_neg h2, if_neg h1, e]⟩
theorem Same.swap {m : Nat} {l : List Int} {i k : Nat} (hi : i < l.length) (hk : k < l.length) (h1 : i < m) (h2 : k < m) : Same m l (swapL l i k) :=
  ⟨swapL_len _ _ _, swap_mem hi hk, fun j hj => by rw [swapL_get hi hk, if_neg (by omega), if_neg (by omega)]⟩
theorem AtOk.swap {n : Nat} {l at_ : List Int} (h : AtOk n l at_) (q : HI n l) {i k : Nat} (hi : i < l.length) (hk : k < l.length) :
    AtOk n (swapL l i k) ((at_.set ((swapL l i k).getD i 0).toNat (i : Int)).set ((swapL l i k).getD k 0).toNat (k : Int)) := by
  have q' := q.swap hi hk
  have bi := q'.bd i (by rw [swapL_len]; exact hi)
  have bk := q'.bd k (by rw [swapL_len]; exact hk)
  have hl := h.len
  refine ⟨by simp [hl], fun j hj => ?_, fun x hx hn => ?_⟩
  · rw [set_getD (by rw [List.length_set]; omega), set_getD (by omega)]
    have bj := q'.bd j hj
    split
    · rename_i e; have := q'.inj j k hj (by rw [swapL_len]; exact hk) (by omega); omega
    · rename_i e1; split
      · rename_i e; have := q'.inj j i hj (by rw [swapL_len]; exact hi) (by omega); omega
      · rename_i e2
        have h1 : j ≠ k := fun e => e1 (by rw [e])
        have h2 : j ≠ i := fun e => e2 (by rw [e])
        rw [swapL_get hi hk, if_neg h1, if_neg h2]
        exact h.here j (by rw [swapL_len] at hj; exact hj)
  · rw [set_getD (by rw [List.length_set]; omega), set_getD (by omega)]
    have n1 := hn i (by rw [swapL_len]; exact hi)
    have n2 := hn k (by rw [swapL_len]; exact hk)
    rw [if_neg (by omega), if_neg (by omega)]
    refine h.away x hx fun j hj e => ?_
    have hm : (x : Int) ∈ swapL l i k := (swap_mem hi hk _).2 (mem_iff_at.2 ⟨j, hj, e⟩)
    obtain ⟨j', hj', e'⟩ := mem_iff_at.1 hm
    exact hn j' hj' e'
def HeapP (K l : List Int) (m : Nat) : Prop := ∀ k, 0 < k → k < m → LeAt K l ((k - 1) / 2) k
def HeapUp (K l : List Int) (m j : Nat) : Prop := (∀ k, 0 < k → k < m → k ≠ j → LeAt K l ((k - 1) / 2) k) ∧ ∀ k, 0 < k → k < m → (k - 1) / 2 = j → 0 < j → LeAt K l ((j - 1) / 2) k
def HeapX (K l : List Int) (m i0 i : Nat) : Prop := (∀ k, 0 < k → k < m → (k ≠ i0 ∨ i ≠ i0) → (k - 1) / 2 ≠ i → LeAt K l ((k - 1) / 2) k) ∧ ∀ k, 0 < k → k < m → (k - 1) / 2 = i → 0 < i → LeAt K l ((i - 1) / 2) k
theorem HeapUp.top {K l : List Int} {m : Nat} (h : HeapUp K l m 0) : HeapP K l m := fun k h0 h1 => h.1 k h0 h1 (by omega)
theorem HeapUp.done {K l : List Int} {m j : Nat} (h : HeapUp K l m j) (hle : LeAt K l ((j - 1) / 2) j) : HeapP K l m := fun k h0 h1 => by
  by_cases e : k = j
  · subst e; exact hle
  · exact h.1 k h0 h1 e
theorem HeapUp.next {K l : List Int} {m j : Nat} (h : HeapUp K l m j) (h0 : 0 < j) (hj : j < m) (hm : m ≤ l.length) (hlt : LtK K (l.getD j 0) (l.getD ((j - 1) / 2) 0)) : HeapUp K (swapL l ((j - 1) / 2) j) m ((j - 1) / 2) := by
  obtain ⟨i, hi⟩ : ∃ i, i = (j - 1) / 2 := ⟨_, rfl⟩
  rw [← hi] at hlt ⊢
  have g : ∀ x, (swapL l i j).getD x 0 = if x = j then l.getD i 0 else if x = i then l.getD j 0 else l.getD x 0 := fun x => swapL_get (by omega) (by omega)
  constructor
  · intro k k0 k1 ne
    unfold LeAt; rw [g, g]
    by_cases e1 : k = j
    · subst e1; rw [if_pos rfl, ← hi, if_neg (by omega), if_pos rfl]; exact hlt.asymm
    · rw [if_neg e1, if_neg ne]
      by_cases e2 : (k - 1) / 2 = j
      · rw [if_pos e2]; have := h.2 k k0 k1 e2 h0; rw [← hi] at this; exact this
      · rw [if_neg e2]
        by_cases e3 : (k - 1) / 2 = i
        · rw [if_pos e3]
          have := h.1 k k0 k1 e1
          unfold LeAt at this; rw [e3] at this
          exact not_lt_trans hlt.asymm this
        · rw [if_neg e3]; exact h.1 k k0 k1 e1
  · intro k k0 k1 e i0
    unfold LeAt; rw [g, g]
    rw [if_neg (show (i - 1) / 2 ≠ j by omega), if_neg (show (i - 1) / 2 ≠ i by omega)]
    have hi' := h.1 i i0 (by omega) (by omega)
    by_cases e1 : k = j
    · rw [if_pos e1]; exact hi'
    · rw [if_neg e1, if_neg (by omega)]
      have := h.1 k k0 k1 e1
      unfold LeAt at this; rw [e] at this
      exact not_lt_trans hi' this
theorem HeapP.x {K l : List Int} {m i : Nat} (h : HeapP K l m) : HeapX K l m i i := ⟨fun k k0 k1 _ _ => h k k0 k1, fun k k0 k1 e i0 => by
  have h1 := h k k0 k1; have h2 := h i i0 (by omega)
  rw [e] at h1; exact not_lt_trans h2 h1⟩
theorem HeapP.xset {K l l' : List Int} {m i : Nat} (h : HeapP K l m) (hi : i < m) (hs : ∀ j, j < m → j ≠ i → l'.getD j 0 = l.getD j 0) : HeapX K l' m i i := by
  constructor
  · intro k k0 k1 ne pe
    unfold LeAt; rw [hs k k1 (by omega), hs ((k - 1) / 2) (by omega) pe]; exact h k k0 k1
  · intro k k0 k1 e i0
    unfold LeAt; rw [hs k k1 (by omega), hs ((i - 1) / 2) (by omega) (by omega)]
    exact (HeapP.x h).2 k k0 k1 e i0
theorem HeapX.stop {K l : List Int} {m i0 i : Nat} (h : HeapX K l m i0 i) (hc : ∀ k, 0 < k → k < m → (k - 1) / 2 = i → LeAt K l i k) (hne : i ≠ i0) : HeapP K l m := fun k k0 k1 => by
  by_cases e : (k - 1) / 2 = i
  · rw [e]; exact hc k k0 k1 e
  · exact h.1 k k0 k1 (.inr hne) e
theorem HeapX.stay {K l : List Int} {m i0 : Nat} (h : HeapX K l m i0 i0) (hc : ∀ k, 0 < k → k < m → (k - 1) / 2 = i0 → LeAt K l i0 k) : HeapUp K l m i0 := ⟨fun k k0 k1 ne => by
  by_cases e : (k - 1) / 2 = i0
  · rw [e]; exact hc k k0 k1 e
  · exact h.1 k k0 k1 (.inl ne) e, h.2⟩
theorem HeapX.next {K l : List Int} {m i0 i j : Nat} (h : HeapX K l m i0 i) (hi0 : i0 ≤ i) (hj : j < m) (hm : m ≤ l.length) (hp : (j - 1) / 2 = i) (j0 : 0 < j) (hlt : LtK K (l.getD j 0) (l.getD i 0)) (hc : ∀ k, 0 < k → k < m → (k - 1) / 2 = i → LeAt K l j k) : HeapX K (swapL l i j) m i0 j := by
  have g : ∀ x, (swapL l i j).getD x 0 = if x = j then l.getD i 0 else if x = i then l.getD j 0 else l.getD x 0 := fun x => swapL_get (by omega) (by omega)
  constructor
  · intro k k0 k1 ne pe
    unfold LeAt; rw [g, g, if_neg pe]
    by_cases e1 : k = j
    · subst e1; rw [if_pos rfl, if_pos hp]; exact hlt.asymm
    · rw [if_neg e1]
      by_cases e2 : k = i
      · rw [if_pos e2, if_neg (by omega)]
        have := h.2 j j0 hj hp (by omega)
        rw [e2]; exact this
      · rw [if_neg e2]
        by_cases e3 : (k - 1) / 2 = i
        · rw [if_pos e3]; exact hc k k0 k1 e3
        · rw [if_neg e3]
          by_cases e4 : k = i0
          · by_cases e5 : i = i0
            · omega
            · exact h.1 k k0 k1 (.inr e5) e3
          · exact h.1 k k0 k1 (.inl e4) e3
  · intro k k0 k1 e _
    unfold LeAt; rw [g, g]
    rw [if_neg (show k ≠ j by omega), if_neg (show k ≠ i by omega), if_neg (show (j - 1) / 2 ≠ j by omega), if_pos hp]
    have := h.1 k k0 k1 (.inl (by omega)) (by omega)
    unfold LeAt at this; rw [e] at this; exact this
abbrev Ks := List (Option Int)
def cntK (ks : Ks) : Nat := (ks.filter Option.isSome).length
structure HpOk (n : Nat) (l K : List Int) (ks : Ks) : Prop where
  hi : HI n l
  hp : HeapP K l l.length
  lk : K.length = n
  ln : ks.length = n
  says : ∀ x : Nat, x < n → ks.getD x none = if (x : Int) ∈ l then some (K.getD x 0) else none
theorem cnt_eq (ks : Ks) : cntK ks = ((List.range ks.length).filter fun i => (ks.getD i none).isSome).length := by
  unfold cntK
  induction ks with
  | nil => rfl
  | cons o r ih =>
    rw [List.length_cons, List.range_succ_eq_map, List.filter_cons, List.filter_cons]
    have : ((List.range r.length).map Nat.succ).filter (fun i => ((o :: r).getD i none).isSome) = ((List.range r.length).filter fun i => (r.getD i none).isSome).map Nat.succ := by
      rw [List.filter_map]; rfl
    rw [this]
    cases o with
    | none => simpa using ih
    | some k => simpa using ih
theorem HpOk.count {n : Nat} {l K : List Int} {ks : Ks} (h : HpOk n l K ks) : cntK ks = l.length := by
  rw [cnt_eq, h.ln]
  have hd : (l.map Int.toNat).Nodup := by
    rw [List.nodup_iff_pairwise_ne, List.pairwise_iff_getElem]
    intro i j hi hj hlt e
    simp only [List.length_map] at hi hj
    have b1 := h.hi.bd i hi; have b2 := h.hi.bd j hj
    have := h.hi.inj i j hi hj (by simp [List.getD, hi, hj] at *; omega)
    omega
  have : ((List.range n).filter fun i => (ks.getD i none).isSome).Perm (l.map Int.toNat) := (List.perm_ext_iff_of_nodup (List.nodup_range.filter _) hd).2 fun x => by
    simp only [List.mem_filter, List.mem_range, List.mem_map]
    constructor
    · rintro ⟨hx, hs⟩
      rw [h.says x hx] at hs
      split at hs
      · exact ⟨_, by assumption, by omega⟩
      · cases hs
    · rintro ⟨y, hy, rfl⟩
      obtain ⟨i, hi, e⟩ := mem_iff_at.1 hy
      have b := h.hi.bd i hi
      refine ⟨by omega, ?_⟩
      rw [h.says _ (by omega), if_pos (by rw [Int.toNat_of_nonneg (by omega)]; exact hy)]; rfl
  rw [this.length_eq, List.length_map]
theorem HpOk.le {n : Nat} {l K : List Int} {ks : Ks} (h : HpOk n l K ks) : l.length ≤ n := by
  rw [← h.count, ← h.ln]; exact List.length_filter_le _ _
end Go.Proofs.YtanfdikglplkaaaGreatDoor.Sp
namespace Go.Proofs.YtanfdikglplkaaaGreatDoor.Sp
open Go
section
variable {P : Program} {E : List (Nat × Value)} {L : List HP} {ty : TypeId} {K : Act → World → Prop} {W : World} {N : Nat}
theorem lv_makeIface {t : TypeId} {x : Operand} {v : Value} (hr : ∀ w x, (Instr.makeInterface t x).run P w = .ok (.iface t x) w) (hx : ev E x = some v) : LV P E L (.makeInterface t x) ty (.iface t v) := by
  intro ρ h w _ d pos af g; simp [execOp, h x _ hx, hr]
theorem lv_typeAssert {t xT : TypeId} {x : Operand} {v : Value} (hr : ∀ w v, (Instr.typeAssert (.iface t v) xT t false).run P w = .ok v w) (hx : ev E x = some (.iface t v)) : LV P E L (.typeAssert x xT t false) ty v := by
  intro ρ h w _ d pos af g; simp [execOp, h x _ hx, hr]
theorem en_meth {f : FuncId} {T : TypeId} {name : String} {y : Operand} {u : Value} {xs : List Operand} {vs : List Value} {ts : Array TypeId} (hc : ∀ v args w, (callMethod (.iface T v) name args).run P w = .ok (.enter f (#[v] ++ args)) w)
    (hy : ev E y = some (.iface T u)) (hx : evs E xs = some vs) : EnterV P E (.call { callee := .invoke y name, args := xs.toArray, argTypes := ts }) ty f (u :: vs) := by
  intro ρ h w d pos af g
  simp [execOp, resolve, h.evs hx, h y _ hy, invoke, hc]
structure RFacts (n : Nat) (l at_ K : List Int) (bl : Option Addr) (cl : Nat) (ba bk : Option Addr) : Prop where
  hi : HI n l
  ato : AtOk n l at_
  lk : K.length = n
  big : n ≤ 65536
  okl : SlOk bl l.length
  cpl : l.length ≤ cl
  oka : SlOk ba n
  okk : SlOk bk n
def RParts (p n : Nat) (l at_ K : List Int) (bl : Option Addr) (cl : Nat) (ba : Option Addr) (ca : Nat) (bk : Option Addr) (ck : Nat) : List HP :=
  [Blk p [.slice bl l.length cl, .slice ba n ca, .slice bk n ck] 173, SlV 3 1 (.slice bl l.length cl) l.length (ints .i64 l), SlV 3 1 (.slice ba n ca) n (ints .i64 at_), SlV 3 1 (.slice bk n ck) n (ints .i64 K)]
def RowsO (p n : Nat) (l K : List Int) : HP := fun f => ∃ at_ bl cl ba ca bk ck, RFacts n l at_ K bl cl ba bk ∧ Parts (RParts p n l at_ K bl cl ba ca bk ck) f
theorem Sat.openW {p n : Nat} {l Ks : List Int} {w : World} (h : Sat (RowsO p n l Ks :: L) w) : ∃ at_ bl cl ba ca bk ck, RFacts n l at_ Ks bl cl ba bk ∧ Sat (RParts p n l at_ Ks bl cl ba ca bk ck ++ L) w := by
  obtain ⟨_, ⟨f1, f2, rfl, ⟨at_, bl, cl, ba, ca, bk, ck, h1, h2⟩, hl⟩, hh⟩ := h
  exact ⟨at_, bl, cl, ba, ca, bk, ck, h1, _, Parts.append h2 hl, hh⟩
theorem Sat.shutW {p n : Nat} {l Ks at_ : List Int} {w : World} {bl : Option Addr} {cl : Nat} {ba : Option Addr} {ca : Nat} {bk : Option Addr} {ck : Nat} (h : RFacts n l at_ Ks bl cl ba bk) (hs : Sat (RParts p n l at_ Ks bl cl ba ca bk ck ++ L) w) : Sat (RowsO p n l Ks :: L) w := by
  obtain ⟨f, hp, hh⟩ := hs
  obtain ⟨f1, f2, rfl, h1, h2⟩ := Parts.split hp
  exact ⟨_, ⟨f1, f2, rfl, ⟨at_, bl, cl, ba, ca, bk, ck, h, h1⟩, h2⟩, hh⟩
theorem t_openW {p n : Nat} {l Ks : List Int} (k : ∀ at_ bl cl ba ca bk ck, RFacts n l at_ Ks bl cl ba bk → Tri K W N E (Blk p [.slice bl l.length cl, .slice ba n ca, .slice bk n ck] 173 :: SlV 3 1 (.slice bl l.length cl) l.length (ints .i64 l) :: SlV 3 1 (.slice ba n ca) n (ints .i64 at_) :: SlV 3 1 (.slice bk n ck) n (ints .i64 Ks) :: L)) : Tri K W N E (RowsO p n l Ks :: L) := fun a w s => by
  obtain ⟨at_, bl, cl, ba, ca, bk, ck, h1, h2⟩ := s.sat.openW
  exact k at_ bl cl ba ca bk ck h1 a w ⟨s.size, s.defers, s.env, h2, s.ext⟩
theorem t_shutW {p n m : Nat} {l Ks at_ : List Int} {bl : Option Addr} {cl : Nat} {ba : Option Addr} {ca : Nat} {bk : Option Addr} {ck : Nat} (hm : l.length = m) (h : RFacts n l at_ Ks bl cl ba bk) (k : Tri K W N E (RowsO p n l Ks :: L)) : Tri K W N E (Blk p [.slice bl m cl, .slice ba n ca, .slice bk n ck] 173 :: SlV 3 1 (.slice bl m cl) m (ints .i64 l) :: SlV 3 1 (.slice ba n ca) n (ints .i64 at_) :: SlV 3 1 (.slice bk n ck) n (ints .i64 Ks) :: L) := by
  subst hm; exact t_sat (fun _ hs => hs.shutW h) k
theorem rfacts_of {p n : Nat} {l Ks : List Int} {w : World} (h : Sat (RowsO p n l Ks :: L) w) : HI n l ∧ Ks.length = n ∧ n ≤ 65536 := by
  obtain ⟨_, _, _, _, _, _, _, h1, _⟩ := h.openW; exact ⟨h1.hi, h1.lk, h1.big⟩
def HeapO (p n : Nat) (ks : Ks) : HP := fun f => ∃ l Kk, HpOk n l Kk ks ∧ RowsO p n l Kk f
theorem t_openH {p n : Nat} {ks : Ks} (k : ∀ l Kk, HpOk n l Kk ks → Tri K W N E (RowsO p n l Kk :: L)) : Tri K W N E (HeapO p n ks :: L) := fun a w s => by
  obtain ⟨_, ⟨f1, f2, rfl, ⟨l, Kk, h1, h2⟩, hl⟩, hh⟩ := s.sat
  exact k l Kk h1 a w ⟨s.size, s.defers, s.env, ⟨_, ⟨f1, f2, rfl, h2, hl⟩, hh⟩, s.ext⟩
theorem t_shutH {p n : Nat} {ks : Ks} {l Kk : List Int} (h : HpOk n l Kk ks) (k : Tri K W N E (HeapO p n ks :: L)) : Tri K W N E (RowsO p n l Kk :: L) := fun a w s => by
  obtain ⟨_, ⟨f1, f2, rfl, h2, hl⟩, hh⟩ := s.sat
  exact k a w ⟨s.size, s.defers, s.env, ⟨_, ⟨f1, f2, rfl, ⟨l, Kk, h, h2⟩, hl⟩, hh⟩, s.ext⟩
theorem hfacts_of {p n : Nat} {ks : Ks} {w : World} (h : Sat (HeapO p n ks :: L) w) : ks.length = n ∧ n ≤ 65536 ∧ cntK ks ≤ n := by
  obtain ⟨_, ⟨f1, f2, rfl, ⟨l, Kk, h1, h2⟩, hl⟩, hh⟩ := h
  have := rfacts_of (L := L) (w := w) ⟨_, ⟨f1, f2, rfl, h2, hl⟩, hh⟩
  exact ⟨h1.ln, this.2.2, by rw [h1.count]; exact h1.le⟩
end
theorem par_quo (j : Nat) (hj : j ≤ 100000) : IntKind.i64.wrap (((j : Int) - 1).tdiv 2) = (((j - 1) / 2 : Nat) : Int) := by
  cases j with
  | zero => decide
  | succ j =>
    have e : (((j + 1 : Nat) : Int) - 1).tdiv 2 = ((j / 2 : Nat) : Int) := by
      rw [show ((j + 1 : Nat) : Int) - 1 = (j : Int) by omega]; rfl
    rw [e, show j + 1 - 1 = j by omega]; exact wr_i64 (by omega) (by omega)
theorem less_t {K : List Int} {a b : Int} (h : K.getD a.toNat 0 < K.getD b.toNat 0) : true = decide (LtK K a b) := by
  symm; rw [decide_eq_true_iff]; exact .inl h
theorem less_e {K : List Int} {a b : Int} (h : ¬ K.getD a.toNat 0 < K.getD b.toNat 0) (h2 : K.getD a.toNat 0 = K.getD b.toNat 0) : decide (a < b) = decide (LtK K a b) := by
  rw [decide_eq_decide]; exact ⟨fun h3 => .inr ⟨h2, h3⟩, fun h3 => by rcases h3 with h3 | h3; exact absurd h3 h; exact h3.2⟩
theorem less_f {K : List Int} {a b : Int} (h : ¬ K.getD a.toNat 0 < K.getD b.toNat 0) (h2 : ¬ K.getD a.toNat 0 = K.getD b.toNat 0) : false = decide (LtK K a b) := by
  symm; rw [decide_eq_false_iff_not]; rintro (h3 | h3); exact h h3; exact h2 h3.1
structure DownOk (K l l' : List Int) (m i0 : Nat) (b : Bool) : Prop where
  same : Same m l l'
  yes : b = true → HeapP K l' m
  no : b = false → l' = l ∧ HeapUp K l m i0
theorem HI.le {n : Nat} {l : List Int} (h : HI n l) : l.length ≤ n := by
  have hd : (l.map Int.toNat).Nodup := by
    rw [List.nodup_iff_pairwise_ne, List.pairwise_iff_getElem]
    intro i j hi hj hlt e
    simp only [List.length_map] at hi hj
    have b1 := h.bd i hi; have b2 := h.bd j hj
    have := h.inj i j hi hj (by simp [List.getD, hi, hj] at *; omega)
    omega
  have key : ∀ (N : Nat) (l : List Nat), l.Nodup → (∀ x ∈ l, x < N) → l.length ≤ N := by
    intro N
    induction N with
    | zero => intro l _ h; cases l with | nil => simp | cons x l => exact absurd (h x (List.mem_cons_self ..)) (by omega)
    | succ N ih =>
      intro l hn h
      have := ih (l.erase N) (hn.erase N) (fun x hx => by have h1 := (hn.mem_erase_iff).1 hx; have := h x h1.2; omega)
      have h2 : l.length ≤ (l.erase N).length + 1 := by rw [List.length_erase]; split <;> omega
      omega
  have := key n _ hd fun x hx => by
    obtain ⟨y, hy, rfl⟩ := List.mem_map.1 hx
    obtain ⟨i, hi, e⟩ := mem_iff_at.1 hy
    have := h.bd i hi; omega
  simpa using this
theorem HI.push {n : Nat} {l : List Int} (h : HI n l) {x : Int} (hx : 0 ≤ x ∧ x < n) (hn : x ∉ l) : HI n (l ++ [x]) := by
  have g1 : ∀ i, i < l.length → (l ++ [x]).getD i 0 = l.getD i 0 := fun i hi => by simp only [List.getD_eq_getElem?_getD, List.getElem?_append_left hi]
  have g2 : (l ++ [x]).getD l.length 0 = x := by simp [List.getD]
  have hne : ∀ i, i < l.length → l.getD i 0 ≠ x := fun i hi e => hn (mem_iff_at.2 ⟨i, hi, e⟩)
  refine ⟨fun i hi => ?_, fun i j hi hj e => ?_⟩
  · rw [List.length_append, List.length_singleton] at hi
    by_cases e : i < l.length
    · rw [g1 i e]; exact h.bd i e
    · rw [show i = l.length by omega, g2]; exact hx
  · rw [List.length_append, List.length_singleton] at hi hj
    by_cases e1 : i < l.length <;> by_cases e2 : j < l.length
    · rw [g1 i e1, g1 j e2] at e; exact h.inj i j e1 e2 e
    · rw [g1 i e1, show j = l.length by omega, g2] at e; exact absurd e (hne i e1)
    · rw [g1 j e2, show i = l.length by omega, g2] at e; exact absurd e.symm (hne j e2)
    · omega
theorem AtOk.push {n : Nat} {l at_ : List Int} (h : AtOk n l at_) (q : HI n l) {x : Int} (hx : 0 ≤ x ∧ x < n) (hn : x ∉ l) : AtOk n (l ++ [x]) (at_.set x.toNat (l.length : Int)) := by
  have g1 : ∀ i, i < l.length → (l ++ [x]).getD i 0 = l.getD i 0 := fun i hi => by simp only [List.getD_eq_getElem?_getD, List.getElem?_append_left hi]
  have g2 : (l ++ [x]).getD l.length 0 = x := by simp [List.getD]
  have hl := h.len
  have hne : ∀ i, i < l.length → l.getD i 0 ≠ x := fun i hi e => hn (mem_iff_at.2 ⟨i, hi, e⟩)
  refine ⟨by rw [List.length_set]; exact hl, fun i hi => ?_, fun y hy hf => ?_⟩
  · rw [List.length_append, List.length_singleton] at hi
    rw [set_getD (by omega)]
    by_cases e : i < l.length
    · rw [g1 i e, if_neg (by have := q.bd i e; have := hne i e; omega)]; exact h.here i e
    · rw [show i = l.length by omega, g2, if_pos rfl]
  · have := hf l.length (by simp)
    rw [g2] at this
    rw [set_getD (by omega), if_neg (by omega)]
    refine h.away y hy fun i hi => ?_
    have := hf i (by simp; omega)
    rw [g1 i hi] at this; exact this
theorem dropLast_getD {l : List Int} {i : Nat} (h : i < l.length - 1) : l.dropLast.getD i 0 = l.getD i 0 := by
  simp only [List.getD_eq_getElem?_getD, List.getElem?_dropLast, if_pos h]
theorem HI.pop {n : Nat} {l : List Int} (h : HI n l) : HI n l.dropLast := by
  refine ⟨fun i hi => ?_, fun i j hi hj e => ?_⟩
  · rw [List.length_dropLast] at hi; rw [dropLast_getD hi]; exact h.bd i (by omega)
  · rw [List.length_dropLast] at hi hj; rw [dropLast_getD hi, dropLast_getD hj] at e; exact h.inj i j (by omega) (by omega) e
theorem AtOk.pop {n : Nat} {l at_ : List Int} (h : AtOk n l at_) (q : HI n l) (h0 : 0 < l.length) : AtOk n l.dropLast (at_.set (l.getD (l.length - 1) 0).toNat (-1)) := by
  have hb := q.bd (l.length - 1) (by omega)
  have hl := h.len
  refine ⟨by rw [List.length_set]; exact hl, fun i hi => ?_, fun y hy hf => ?_⟩
  · rw [List.length_dropLast] at hi
    rw [dropLast_getD hi, set_getD (by omega), if_neg]
    · exact h.here i (by omega)
    · intro e
      have := q.bd i (by omega)
      have := q.inj i (l.length - 1) (by omega) (by omega) (by omega); omega
  · rw [set_getD (by omega)]
    split
    · rfl
    · rename_i hne
      refine h.away y hy fun i hi e => ?_
      by_cases e2 : i < l.length - 1
      · exact hf i (by rw [List.length_dropLast]; exact e2) (by rw [dropLast_getD e2]; exact e)
      · rw [show i = l.length - 1 by omega] at e; omega
theorem AtOk.at_ge {n : Nat} {l at_ : List Int} (h : AtOk n l at_) (q : HI n l) {x : Int} (hx : 0 ≤ x ∧ x < n) : decide (at_.getD x.toNat 0 ≥ 0) = decide (x ∈ l) := by
  rw [decide_eq_decide]
  constructor
  · intro h0
    refine Classical.byContradiction fun hn => ?_
    have := h.away x.toNat (by omega) fun i hi e => hn (mem_iff_at.2 ⟨i, hi, by omega⟩)
    omega
  · intro hm
    obtain ⟨i, hi, e⟩ := mem_iff_at.1 hm
    have := h.here i hi
    rw [e] at this; omega
theorem AtOk.at_is {n : Nat} {l at_ : List Int} (h : AtOk n l at_) {x : Int} (hm : x ∈ l) : ∃ i : Nat, i < l.length ∧ l.getD i 0 = x ∧ at_.getD x.toNat 0 = (i : Int) := by
  obtain ⟨i, hi, e⟩ := mem_iff_at.1 hm
  exact ⟨i, hi, e, by rw [← e]; exact h.here i hi⟩
theorem HeapP.pushUp {K l : List Int} {x : Int} (h : HeapP K l l.length) : HeapUp K (l ++ [x]) (l ++ [x]).length l.length := by
  have g1 : ∀ i, i < l.length → (l ++ [x]).getD i 0 = l.getD i 0 := fun i hi => by simp only [List.getD_eq_getElem?_getD, List.getElem?_append_left hi]
  constructor
  · intro k k0 k1 ne
    rw [List.length_append, List.length_singleton] at k1
    unfold LeAt; rw [g1 k (by omega), g1 _ (by omega)]; exact h k k0 (by omega)
  · intro k k0 k1 e _
    rw [List.length_append, List.length_singleton] at k1; omega
theorem HeapP.swapX {K l : List Int} {m i k : Nat} (h : HeapP K l m) (hi : i < l.length) (hk : k < l.length) (hik : i ≤ k) (hm : m ≤ k) : HeapX K (swapL l i k) m i i := by
  by_cases him : i < m
  · exact h.xset him fun j hj hne => by rw [swapL_get hi hk, if_neg (by omega), if_neg hne]
  · refine ⟨fun j j0 j1 _ _ => ?_, fun j j0 j1 e _ => by omega⟩
    unfold LeAt; rw [swapL_get hi hk, swapL_get hi hk, if_neg (by omega), if_neg (by omega), if_neg (by omega), if_neg (by omega)]; exact h j j0 j1
def known (n : Nat) (x : Int) : Bool := decide (0 ≤ x) && decide (x < (n : Int))
theorem known_iff {n : Nat} {x : Int} : known n x = true ↔ 0 ≤ x ∧ x < n := by simp [known]
def hasK (ks : Ks) (x : Int) : Bool := decide (0 ≤ x) && (ks.getD x.toNat none).isSome
def keyK (ks : Ks) (x : Int) : Int := bif hasK ks x then (ks.getD x.toNat none).getD 0 else 0
def pushE (ks : Ks) (x : Int) : Int := bif known ks.length x then (bif hasK ks x then 8 else 0) else 1
def pushK (ks : Ks) (x k : Int) : Ks := bif pushE ks x == 0 then ks.set x.toNat (some k) else ks
def remE (ks : Ks) (x : Int) : Int := bif known ks.length x then (bif hasK ks x then 0 else 6) else 1
def remK (ks : Ks) (x : Int) : Ks := bif hasK ks x then ks.set x.toNat none else ks
theorem HpOk.has {n : Nat} {l K : List Int} {ks : Ks} (h : HpOk n l K ks) {x : Int} (hx : 0 ≤ x ∧ x < n) : hasK ks x = decide (x ∈ l) := by
  unfold hasK
  rw [h.says x.toNat (by omega), Int.toNat_of_nonneg hx.1, decide_eq_true hx.1, Bool.true_and]
  by_cases hm : x ∈ l
  · rw [if_pos hm, decide_eq_true hm]; rfl
  · rw [if_neg hm, decide_eq_false hm]; rfl
theorem hasK_no {n : Nat} {ks : Ks} (hl : ks.length = n) {x : Int} (hx : ¬ (0 ≤ x ∧ x < n)) : hasK ks x = false := by
  unfold hasK
  by_cases h0 : 0 ≤ x
  · have : ks.getD x.toNat none = none := by simp [List.getD, show ks.length ≤ x.toNat by omega]
    rw [this, Option.isSome_none, Bool.and_false]
  · rw [decide_eq_false h0, Bool.false_and]
theorem HpOk.key {n : Nat} {l K : List Int} {ks : Ks} (h : HpOk n l K ks) {x : Int} (hm : x ∈ l) : hasK ks x = true ∧ keyK ks x = K.getD x.toNat 0 ∧ (0 ≤ x ∧ x < n) := by
  obtain ⟨i, hi, e⟩ := mem_iff_at.1 hm
  have hb := h.hi.bd i hi
  rw [e] at hb
  have h1 : hasK ks x = true := by rw [h.has hb, decide_eq_true hm]
  refine ⟨h1, ?_, hb⟩
  unfold keyK
  rw [h1, cond_true, h.says x.toNat (by omega), Int.toNat_of_nonneg hb.1, if_pos hm]; rfl
theorem setK {ks : Ks} {i j : Nat} {x : Option Int} (h : i < ks.length) : (ks.set i x).getD j none = if j = i then x else ks.getD j none := by
  simp only [List.getD_eq_getElem?_getD, List.getElem?_set]
  by_cases e : i = j
  · subst e; simp [h]
  · rw [if_neg e, if_neg (fun h => e h.symm)]
theorem HpOk.push {n : Nat} {l l' K : List Int} {ks : Ks} (h : HpOk n l K ks) {x k : Int} (hx : 0 ≤ x ∧ x < n) (hn : x ∉ l) (hi : HI n l') (hm : ∀ y, y ∈ l' ↔ y ∈ l ++ [x]) (hp : HeapP (K.set x.toNat k) l' l'.length) : HpOk n l' (K.set x.toNat k) (ks.set x.toNat (some k)) := by
  have h1 := h.lk; have h2 := h.ln
  refine ⟨hi, hp, by rw [List.length_set]; exact h1, by rw [List.length_set]; exact h2, fun y hy => ?_⟩
  rw [setK (by omega), set_getD (by omega), h.says y hy]
  by_cases e : y = x.toNat
  · rw [if_pos e, if_pos e, if_pos ((hm _).2 (List.mem_append_right _ (by rw [List.mem_singleton]; omega)))]
  · rw [if_neg e, if_neg e]
    have : ((y : Int) ∈ l') ↔ ((y : Int) ∈ l) := by
      rw [hm, List.mem_append, List.mem_singleton]
      exact ⟨fun h => by rcases h with h | h; exact h; omega, .inl⟩
    simp only [this]
theorem HpOk.rem {n : Nat} {l l' K : List Int} {ks : Ks} (h : HpOk n l K ks) {x : Int} (hx : 0 ≤ x ∧ x < n) (hi : HI n l') (hm : ∀ y, y ∈ l' ↔ y ∈ l ∧ y ≠ x) (hp : HeapP K l' l'.length) : HpOk n l' K (ks.set x.toNat none) := by
  have h1 := h.lk; have h2 := h.ln
  refine ⟨hi, hp, h1, by rw [List.length_set]; exact h2, fun y hy => ?_⟩
  rw [setK (by omega), h.says y hy]
  by_cases e : y = x.toNat
  · rw [if_pos e, if_neg (fun hh => ((hm _).1 hh).2 (by omega))]
  · rw [if_neg e]
    have : ((y : Int) ∈ l') ↔ ((y : Int) ∈ l) := by rw [hm]; exact ⟨fun h => h.1, fun h => ⟨h, by omega⟩⟩
    simp only [this]
theorem dropLast_mem {n : Nat} {l : List Int} (h : HI n l) (h0 : 0 < l.length) (y : Int) : y ∈ l.dropLast ↔ y ∈ l ∧ y ≠ l.getD (l.length - 1) 0 := by
  rw [mem_iff_at, mem_iff_at]
  constructor
  · rintro ⟨i, hi, e⟩
    rw [List.length_dropLast] at hi
    rw [dropLast_getD hi] at e
    exact ⟨⟨i, by omega, e⟩, fun e2 => by have := h.inj i (l.length - 1) (by omega) (by omega) (by omega); omega⟩
  · rintro ⟨⟨i, hi, e⟩, hne⟩
    have : i ≠ l.length - 1 := fun e2 => by subst e2; exact hne e.symm
    exact ⟨i, by rw [List.length_dropLast]; omega, by rw [dropLast_getD (by omega)]; exact e⟩
theorem HeapP.dropLast {K l : List Int} {m : Nat} (h : HeapP K l m) (hm : m = l.length - 1) : HeapP K l.dropLast l.dropLast.length := by
  intro k k0 k1
  rw [List.length_dropLast] at k1
  unfold LeAt; rw [dropLast_getD (by omega), dropLast_getD (by omega)]
  exact h k k0 (by omega)
theorem HeapP.less {K l : List Int} {m m' : Nat} (h : HeapP K l m) (hm : m' ≤ m) : HeapP K l m' := fun k k0 k1 => h k k0 (by omega)
theorem HeapP.kset {n : Nat} {K l : List Int} (h : HeapP K l l.length) (q : HI n l) (hl : K.length = n) {x k : Int} (hx : 0 ≤ x ∧ x < n) (hn : x ∉ l) : HeapP (K.set x.toNat k) l l.length := by
  intro j j0 j1
  have g : ∀ i, i < l.length → (K.set x.toNat k).getD (l.getD i 0).toNat 0 = K.getD (l.getD i 0).toNat 0 := fun i hi => by
    have := q.bd i hi
    rw [set_getD (by omega), if_neg]
    intro e; exact hn (mem_iff_at.2 ⟨i, hi, by omega⟩)
  have := h j j0 j1
  unfold LeAt LtK at this ⊢; rw [g j j1, g _ (by omega)]; exact this
def hclamp (n : Int) : Nat := (min (max n 0) 65536).toNat
theorem hclamp_le (n : Int) : hclamp n ≤ 65536 := by unfold hclamp; omega
def fillM (N i : Nat) : List Int := List.replicate i (-1) ++ List.replicate (N - i) 0
theorem fillM_len {N i : Nat} (h : i ≤ N) : (fillM N i).length = N := by unfold fillM; simp; omega
theorem fillM_next {N i : Nat} (h : i < N) : (fillM N i).set i (-1) = fillM N (i + 1) := by
  unfold fillM
  rw [List.set_append, if_neg (by simp), List.length_replicate, Nat.sub_self, show N - i = (N - (i + 1)) + 1 by omega, List.replicate_succ, List.set_cons_zero, List.replicate_succ']
  simp
theorem fillM_start (N : Nat) : List.replicate N (0 : Int) = fillM N 0 := by unfold fillM; simp
theorem fillM_end (N : Nat) : fillM N N = List.replicate N (-1) := by unfold fillM; simp
theorem rep_at {α : Type} {n i : Nat} {x d : α} (h : i < n) : (List.replicate n x).getD i d = x := by simp [List.getD, h]
theorem new_facts {n : Nat} (hn : n ≤ 65536) {ba bk : Option Addr} (oka : SlOk ba n) (okk : SlOk bk n) : RFacts n [] (List.replicate n (-1)) (List.replicate n 0) none 0 ba bk :=
  ⟨⟨fun i hi => by simp at hi, fun i j hi => by simp at hi⟩, ⟨List.length_replicate, fun i hi => by simp at hi, fun x hx _ => rep_at hx⟩, List.length_replicate, hn, slok_none, Nat.le_refl _, oka, okk⟩
theorem new_ok (n : Nat) : HpOk n [] (List.replicate n 0) (List.replicate n none) :=
  ⟨⟨fun i hi => by simp at hi, fun i j hi => by simp at hi⟩, fun k _ h => by simp at h, List.length_replicate, List.length_replicate, fun x hx => by rw [rep_at hx]; simp⟩
theorem remE_zero {ks : Ks} {x : Int} (h : remE ks x = 0) : known ks.length x = true ∧ hasK ks x = true := by
  unfold remE at h
  cases h1 : known ks.length x <;> cases h2 : hasK ks x <;> rw [h1, h2] at h <;> first | exact ⟨rfl, rfl⟩ | (simp at h; done)
theorem remE_ne {n : Nat} {ks : Ks} {x : Int} (hl : ks.length = n) (h : ¬ remE ks x = 0) : keyK ks x = 0 ∧ remK ks x = ks := by
  have h2 : hasK ks x = false := by
    cases h2 : hasK ks x with
    | false => rfl
    | true =>
      exfalso; apply h
      unfold remE
      have : known ks.length x = true := by
        refine known_iff.2 (Classical.byContradiction fun hn => ?_)
        rw [hasK_no rfl hn] at h2; cases h2
      rw [this, h2]; rfl
  unfold keyK remK; rw [h2]; exact ⟨rfl, rfl⟩
def RowsW (p n : Nat) (l Kk at_ : List Int) (bl : Option Addr) (cl : Nat) (ba : Option Addr) (ca : Nat) (bk : Option Addr) (ck : Nat) : HP := fun f => RFacts n l at_ Kk bl cl ba bk ∧ Parts (RParts p n l at_ Kk bl cl ba ca bk ck) f
section
variable {E : List (Nat × Value)} {L : List HP} {K : Act → World → Prop} {W : World} {N : Nat} {p n cl ca ck : Nat} {l Kk at_ : List Int} {bl ba bk : Option Addr}
theorem sat_wo {w : World} (h : Sat (RowsW p n l Kk at_ bl cl ba ca bk ck :: L) w) : Sat (RowsO p n l Kk :: L) w := h.imp fun f hf => ⟨at_, bl, cl, ba, ca, bk, ck, hf⟩
theorem sat_wj {w : World} (h : Sat (RowsW p n l Kk at_ bl cl ba ca bk ck :: L) w) : Sat (RParts p n l at_ Kk bl cl ba ca bk ck ++ L) w := by
  obtain ⟨_, ⟨f1, f2, rfl, ⟨_, h2⟩, hl⟩, hh⟩ := h
  exact ⟨_, Parts.append h2 hl, hh⟩
theorem t_openX (k : ∀ at_ bl cl ba ca bk ck, RFacts n l at_ Kk bl cl ba bk → Tri K W N E (RowsW p n l Kk at_ bl cl ba ca bk ck :: L)) : Tri K W N E (RowsO p n l Kk :: L) := fun a w s => by
  obtain ⟨_, ⟨f1, f2, rfl, ⟨at_, bl, cl, ba, ca, bk, ck, h1, h2⟩, hl⟩, hh⟩ := s.sat
  exact k at_ bl cl ba ca bk ck h1 a w ⟨s.size, s.defers, s.env, ⟨_, ⟨f1, f2, rfl, ⟨h1, h2⟩, hl⟩, hh⟩, s.ext⟩
theorem gives_front {A : HP} {M : List HP} (hm : A ∈ L) (hA : ∀ w L', Sat (A :: L') w → Sat (M ++ L') w) {a : Addr} {v : Value} (h : ∀ L', Gives (M ++ L') a v) : Gives L a v := by
  obtain ⟨L1, L2, rfl⟩ := List.append_of_mem hm
  exact fun w hs => h _ w (hA w _ (hs.perm List.perm_middle))
theorem gives_wp {k : Nat} {v : Value} (hm : RowsW p n l Kk at_ bl cl ba ca bk ck ∈ L) (hv : ([.slice bl l.length cl, .slice ba n ca, .slice bk n ck] : List Value)[k]? = some v) : Gives L ⟨p, k, none⟩ v :=
  gives_front (M := RParts p n l at_ Kk bl cl ba ca bk ck) hm (fun _ _ h => sat_wj h) (fun _ => gives_blk (List.mem_cons_self ..) hv)
theorem gives_wa {k : Nat} {v : Value} (hm : RowsW p n l Kk at_ bl cl ba ca bk ck ∈ L) (hv : (ints .i64 at_)[k]? = some v) : Gives L (ad ba k) v :=
  gives_front (M := RParts p n l at_ Kk bl cl ba ca bk ck) hm (fun _ _ h => sat_wj h) (fun _ => gives_sl (by exact .tail _ (.tail _ (.head _))) hv)
end
end Go.Proofs.YtanfdikglplkaaaGreatDoor.Sp
namespace Go.Proofs.YtanfdikglplkaaaGreatDoor.Sp
open Go
structure Cfg where
  bud : Int
  slots : Int
  act : Int
  que : Int
  tries : Int
  pre : Int
  tmo : Int
  bak : Int
  most : Int
  qu : Int
def cfgC (c : Cfg) : List Value := [.int .i64 c.bud, .int .i64 c.slots, .int .i64 c.act, .int .i64 c.que, .int .i64 c.tries, .int .i64 c.pre, .int .i64 c.tmo, .int .i64 c.bak, .int .i64 c.most, .int .i64 c.qu]
structure CfgOk (c : Cfg) : Prop where
  bud : 1 ≤ c.bud ∧ c.bud ≤ 1048576
  act : 1 ≤ c.act ∧ c.act ≤ 1048576
  tries : 1 ≤ c.tries ∧ c.tries ≤ 1048576
  tmo : 1 ≤ c.tmo ∧ c.tmo ≤ 1048576
  bak : 1 ≤ c.bak ∧ c.bak ≤ 1048576
  most : 1 ≤ c.most ∧ c.most ≤ 1048576
  qu : 1 ≤ c.qu ∧ c.qu ≤ 1048576
  que : 0 ≤ c.que ∧ c.que ≤ 1048576
  pre : 0 ≤ c.pre ∧ c.pre ≤ 1048576
  slots : 1 ≤ c.slots ∧ c.slots ≤ 16
structure Tk where
  mem : Int
  cost : Int
  wt : Int
  sn : Int
  cv : Value
abbrev Tk.z : Tk := ⟨0, 0, 0, 0, .slice none 0 0⟩
structure Rq where
  root : Int
  wt : Int
  pr : Int
  st : Int
abbrev Rq.z : Rq := ⟨0, 0, 0, 0⟩
structure Ev where
  k : Int
  t : Int
  s : Int
  e : Int
  i : Int
def evC (x : Ev) : List Value := [.int .i64 x.k, .int .i64 x.t, .int .i64 x.s, .int .i64 x.e, .int .i64 x.i]
def rqC (x : Rq) : List Value := [.int .i64 x.root, .int .i64 x.wt, .int .i64 x.pr, .int .i64 x.st]
def tkC (k : Nat × Nat) (x : Tk) : List Value := [.int .i64 x.mem, .int .i64 x.cost, .pointer (some ⟨k.2, 0, none⟩), .int .i64 x.wt, .int .i64 x.sn, x.cv]
end Go.Proofs.YtanfdikglplkaaaGreatDoor.Sp
namespace Go.Proofs.YtanfdikglplkaaaGreatDoor.Sp
open Go
structure ES where
  c : Cfg
  al : List (Int × Int)
  tk : List Tk
  lf : List Lf
  rq : List Rq
  now : Int
  bg : Int
  lg : List Ev
structure EP where
  g : Nat
  tp : Nat
  ld : Nat
  ad : Nat
  tn : Nat
  n : Nat
  m : Nat
  ba : Option Addr
  ca : Nat
  bt : Option Addr
  ct : Nat
  br : Option Addr
  cr : Nat
  ks : List (Nat × Nat)
  rs : List Nat
def engC (x : EP) (s : ES) (b : Option Addr) (c : Nat) : List Value :=
  [.int .i64 s.c.bud, .int .i64 s.c.slots, .int .i64 s.c.act, .int .i64 s.c.que, .int .i64 s.c.tries, .int .i64 s.c.pre, .int .i64 s.c.tmo, .int .i64 s.c.bak, .int .i64 s.c.most, .int .i64 s.c.qu,
   .slice x.ba x.n x.ca, .slice x.bt x.n x.ct, .slice x.br x.m x.cr, .pointer (some ⟨x.g, 0, none⟩), .pointer (some ⟨x.tp, 0, none⟩), .pointer (some ⟨x.ld, 0, none⟩), .pointer (some ⟨x.ad, 0, none⟩), .pointer (some ⟨x.tn, 0, none⟩),
   .int .i64 s.now, .int .i64 s.bg, .slice b s.lg.length c]
structure EF (x : EP) (s : ES) : Prop where
  tn : s.tk.length = x.n
  ln : s.lf.length = x.n
  kn : x.ks.length = x.n
  an : s.al.length = x.n
  mn : s.rq.length = x.m
  rn : x.rs.length = x.m
  oka : SlOk x.ba x.n
  okt : SlOk x.bt x.n
  okr : SlOk x.br x.m
  nb : x.n ≤ 64
  mb : x.m ≤ 64
  ca : x.n ≤ x.ca
  ct : x.n ≤ x.ct
  cr : x.m ≤ x.cr
  lo : ∀ i, i < x.n → LfOk (s.lf.getD i Lf.z)
  n0 : 0 ≤ s.now ∧ s.now ≤ 1099511627776
abbrev TTk : Nat := 76
abbrev TLf : Nat := 92
abbrev TRq : Nat := 82
def engL (e : Nat) (x : EP) (s : ES) (b : Option Addr) (c : Nat) : List HP :=
  [Blk e (engC x s b c) 73, SlV 57 2 (.slice x.ba x.n x.ca) x.n (pairs s.al), SlV 64 1 (.slice x.bt x.n x.ct) x.n (recs ptrF (x.ks.map Prod.fst)),
   SlV 79 1 (.slice x.br x.m x.cr) x.m (recs ptrF x.rs), SlV 45 5 (.slice b s.lg.length c) s.lg.length (recs evC s.lg),
   Join (blks TTk Prod.fst tkC x.ks s.tk), Join (blks TLf Prod.snd (fun _ => lfC) x.ks s.lf), Join (blks TRq id (fun _ => rqC) x.rs s.rq)]
structure LgOk (s : ES) (b : Option Addr) (c : Nat) : Prop where
  ok : SlOk b s.lg.length
  le : s.lg.length ≤ c
def EngC (e : Nat) (x : EP) (s : ES) : HP := Fact (EF x s) (Ex fun b : Option Addr => Ex fun c : Nat => Fact (LgOk s b c) (Join (engL e x s b c)))
section
variable {P : Program} {E : List (Nat × Value)} {L : List HP} {ty : TypeId} {e : Nat} {x : EP} {s : ES} {b : Option Addr} {c : Nat}
theorem ef_of {w : World} (h : Sat (EngC e x s :: L) w) : EF x s := (Sat.fact.1 h).1
theorem engc_open {w : World} (h : Sat (EngC e x s :: L) w) : ∃ b c, LgOk s b c ∧ Sat (engL e x s b c ++ L) w := by
  obtain ⟨b, h1⟩ := Sat.ex.1 (Sat.fact.1 h).2
  obtain ⟨c, h2⟩ := Sat.ex.1 h1
  obtain ⟨h3, h4⟩ := Sat.fact.1 h2
  exact ⟨b, c, h3, Sat.join.1 h4⟩
theorem engc_shut {w : World} (hE : EF x s) (hl : LgOk s b c) (h : Sat (engL e x s b c ++ L) w) : Sat (EngC e x s :: L) w :=
  Sat.fact.2 ⟨hE, Sat.ex.2 ⟨b, Sat.ex.2 ⟨c, Sat.fact.2 ⟨hl, Sat.join.2 h⟩⟩⟩⟩
theorem engc_gives {a : Addr} {v : Value} (hm : EngC e x s ∈ L) (h : EF x s → ∀ b c, Gives (engL e x s b c) a v) : Gives L a v := fun w hs => by
  obtain ⟨f, hf, hh⟩ := hs.mem hm
  have h1 : Sat [EngC e x s] w := ⟨f, ⟨f, [], by simp, hf, rfl⟩, hh⟩
  obtain ⟨b, c, _, h2⟩ := engc_open h1
  rw [List.append_nil] at h2
  exact h (ef_of h1) b c w h2
theorem gives_e {o : Nat} {v : Value} (hm : EngC e x s ∈ L) (hv : ∀ b c, (engC x s b c)[o]? = some v) : Gives L ⟨e, o, none⟩ v := engc_gives hm fun _ b c => gives_blk (.head _) (hv b c)
theorem gives_ba0 {i : Nat} (hm : EngC e x s ∈ L) (hi : i < x.n) : Gives L (ad x.ba (i * 2)) (.int .i64 (s.al.getD i (0, 0)).1) := engc_gives hm fun h b c => gives_sl (.tail _ (.head _)) (pairs_get0 (by rw [h.an]; exact hi))
theorem gives_bt {i : Nat} (hm : EngC e x s ∈ L) (hi : i < x.n) : Gives L (ad x.bt i) (.pointer (some ⟨(x.ks.getD i (0, 0)).1, 0, none⟩)) := engc_gives hm fun h b c => by
  have h1 : i < (x.ks.map Prod.fst).length := by rw [List.length_map, h.kn]; exact hi
  have h3 : i < x.ks.length := by rw [h.kn]; exact hi
  have h2 : (x.ks.map Prod.fst).getD i 0 = (x.ks.getD i (0, 0)).1 := by simp [List.getD, h3]
  rw [← h2]; exact gives_sl (.tail _ (.tail _ (.head _))) (ptrs_get h1)
theorem gives_br {i : Nat} (hm : EngC e x s ∈ L) (hi : i < x.m) : Gives L (ad x.br i) (.pointer (some ⟨x.rs.getD i 0, 0, none⟩)) := engc_gives hm fun h b c =>
  gives_sl (.tail _ (.tail _ (.tail _ (.head _)))) (ptrs_get (by rw [h.rn]; exact hi))
theorem gives_tk {i o : Nat} {v : Value} (hm : EngC e x s ∈ L) (hi : i < x.n) (hv : (tkC (x.ks.getD i (0, 0)) (s.tk.getD i Tk.z))[o]? = some v) : Gives L ⟨(x.ks.getD i (0, 0)).1, o, none⟩ v := engc_gives hm fun h b c =>
  gives_bks (T := TTk) (pk := Prod.fst) (F := tkC) (0, 0) Tk.z (.tail _ (.tail _ (.tail _ (.tail _ (.tail _ (.head _)))))) (by rw [h.kn, h.tn]) (by rw [h.tn]; exact hi) hv
theorem gives_rq {i o : Nat} {v : Value} (hm : EngC e x s ∈ L) (hi : i < x.m) (hv : (rqC (s.rq.getD i Rq.z))[o]? = some v) : Gives L ⟨x.rs.getD i 0, o, none⟩ v := engc_gives hm fun h b c =>
  gives_bks (T := TRq) (pk := id) (F := fun _ => rqC) 0 Rq.z (.tail _ (.tail _ (.tail _ (.tail _ (.tail _ (.tail _ (.tail _ (.head _)))))))) (by rw [h.rn, h.mn]) (by rw [h.mn]; exact hi) hv
theorem engc_rd {bs : Option Addr} {cs : List Value} (hm : EngC e x s ∈ L) (h : ∀ b c, Rd (engL e x s b c) bs cs) : Rd L bs cs := fun w hs => by
  obtain ⟨f, hf, hh⟩ := hs.mem hm
  have h1 : Sat [EngC e x s] w := ⟨f, ⟨f, [], by simp, hf, rfl⟩, hh⟩
  obtain ⟨b, c, _, h2⟩ := engc_open h1
  rw [List.append_nil] at h2
  exact h b c w h2
theorem rd_al (hm : EngC e x s ∈ L) : Rd L x.ba (pairs s.al) := engc_rd hm fun _ _ => rd_sl (.tail _ (.head _))
def ES.setTk (s : ES) (i : Nat) (y : Tk) : ES := { s with tk := s.tk.set i y }
def ES.setLf (s : ES) (i : Nat) (y : Lf) : ES := { s with lf := s.lf.set i y }
def ES.setRq (s : ES) (i : Nat) (y : Rq) : ES := { s with rq := s.rq.set i y }
def ES.setBg (s : ES) (v : Int) : ES := { s with bg := v }
theorem EF.setTk (h : EF x s) (i : Nat) (y : Tk) : EF x (s.setTk i y) := ⟨by show (s.tk.set i y).length = _; rw [List.length_set]; exact h.tn, h.ln, h.kn, h.an, h.mn, h.rn, h.oka, h.okt, h.okr, h.nb, h.mb, h.ca, h.ct, h.cr, h.lo, h.n0⟩
theorem EF.setRq (h : EF x s) (i : Nat) (y : Rq) : EF x (s.setRq i y) := ⟨h.tn, h.ln, h.kn, h.an, by show (s.rq.set i y).length = _; rw [List.length_set]; exact h.mn, h.rn, h.oka, h.okt, h.okr, h.nb, h.mb, h.ca, h.ct, h.cr, h.lo, h.n0⟩
theorem lf_set {l : List Lf} {i : Nat} {y : Lf} (h : i < l.length) (j : Nat) : (l.set i y).getD j Lf.z = if j = i then y else l.getD j Lf.z := by
  by_cases e : j = i
  · subst e; rw [if_pos rfl]; simp [List.getD, h]
  · rw [if_neg e]; simp only [List.getD]; rw [List.getElem?_set_ne (fun h => e h.symm)]
theorem EF.setBg (h : EF x s) (v : Int) : EF x (s.setBg v) := ⟨h.tn, h.ln, h.kn, h.an, h.mn, h.rn, h.oka, h.okt, h.okr, h.nb, h.mb, h.ca, h.ct, h.cr, h.lo, h.n0⟩
theorem EF.setLf (h : EF x s) {i : Nat} (hi : i < x.n) {y : Lf} (hy : LfOk y) : EF x (s.setLf i y) := by
  refine ⟨h.tn, by show (s.lf.set i y).length = _; rw [List.length_set]; exact h.ln, h.kn, h.an, h.mn, h.rn, h.oka, h.okt, h.okr, h.nb, h.mb, h.ca, h.ct, h.cr, fun j hj => ?_, h.n0⟩
  show LfOk ((s.lf.set i y).getD j Lf.z)
  rw [lf_set (by rw [h.ln]; exact hi)]; split
  · exact hy
  · exact h.lo j hj
theorem SV.via {ι : Type} {p : ι → Prop} {L' M' : ι → List HP} {M : List HP} {op : Op} (h1 : ∀ w, Sat L w → ∃ i, p i ∧ Sat (L' i) w) (h : ∀ i, SV P E (L' i) op ty (M' i)) (h2 : ∀ i, p i → ∀ w, Sat (M' i) w → Sat M w) : SV P E L op ty M := by
  intro ρ hρ w hs d pos af g
  obtain ⟨i, hp, hs1⟩ := h1 w hs
  obtain ⟨w', r1, r2, r3⟩ := h i ρ hρ w hs1 d pos af g
  exact ⟨w', r1, h2 i hp w' r2, r3⟩
theorem SV.of {M : List HP} {op : Op} {p : Prop} (h : ∀ w, Sat L w → p) (k : p → SV P E L op ty M) : SV P E L op ty M := fun ρ hρ w hs => k (h w hs) ρ hρ w hs
abbrev BC := Option Addr × Nat
theorem engc_open' {w : World} (h : Sat (EngC e x s :: L) w) : ∃ i : BC, LgOk s i.1 i.2 ∧ Sat (engL e x s i.1 i.2 ++ L) w := by
  obtain ⟨b, c, h1, h2⟩ := engc_open h; exact ⟨(b, c), h1, h2⟩
theorem sat_tk {i : Nat} {w : World} (hE : EF x s) (hi : i < x.n) (h : Sat (EngC e x s :: L) w) : ∃ j : BC, LgOk s j.1 j.2 ∧
    Sat (Blk (x.ks.getD i (0, 0)).1 (tkC (x.ks.getD i (0, 0)) (s.tk.getD i Tk.z)) TTk :: Join (blks TTk Prod.fst tkC (x.ks.eraseIdx i) (s.tk.eraseIdx i)) :: ((engL e x s j.1 j.2).eraseIdx 5 ++ L)) w := by
  obtain ⟨j, h1, h2⟩ := engc_open' h
  exact ⟨j, h1, sat_takeB (pk := Prod.fst) (F := tkC) (0, 0) Tk.z (by rw [hE.kn, hE.tn]) (by rw [hE.tn]; exact hi) (h2.perm (perm_front [_, _, _, _, _] _))⟩
theorem sat_tk' {i : Nat} {y : Tk} {w : World} (hE : EF x s) (hi : i < x.n) (hl : LgOk s b c)
    (h : Sat (Blk (x.ks.getD i (0, 0)).1 (tkC (x.ks.getD i (0, 0)) y) TTk :: Join (blks TTk Prod.fst tkC (x.ks.eraseIdx i) (s.tk.eraseIdx i)) :: ((engL e x s b c).eraseIdx 5 ++ L)) w) : Sat (EngC e x (s.setTk i y) :: L) w :=
  engc_shut (b := b) (c := c) (hE.setTk i y) ⟨hl.ok, hl.le⟩ ((sat_putB (pk := Prod.fst) (F := tkC) (0, 0) (by rw [hE.kn, hE.tn]) (by rw [hE.tn]; exact hi) h).perm (perm_front [_, _, _, _, _] _).symm)
theorem sat_rq {i : Nat} {w : World} (hE : EF x s) (hi : i < x.m) (h : Sat (EngC e x s :: L) w) : ∃ j : BC, LgOk s j.1 j.2 ∧
    Sat (Blk (x.rs.getD i 0) (rqC (s.rq.getD i Rq.z)) TRq :: Join (blks TRq id (fun _ => rqC) (x.rs.eraseIdx i) (s.rq.eraseIdx i)) :: ((engL e x s j.1 j.2).eraseIdx 7 ++ L)) w := by
  obtain ⟨j, h1, h2⟩ := engc_open' h
  exact ⟨j, h1, sat_takeB (pk := id) (F := fun _ => rqC) 0 Rq.z (by rw [hE.rn, hE.mn]) (by rw [hE.mn]; exact hi) (h2.perm (perm_front [_, _, _, _, _, _, _] _))⟩
theorem sat_rq' {i : Nat} {y : Rq} {w : World} (hE : EF x s) (hi : i < x.m) (hl : LgOk s b c)
    (h : Sat (Blk (x.rs.getD i 0) (rqC y) TRq :: Join (blks TRq id (fun _ => rqC) (x.rs.eraseIdx i) (s.rq.eraseIdx i)) :: ((engL e x s b c).eraseIdx 7 ++ L)) w) : Sat (EngC e x (s.setRq i y) :: L) w :=
  engc_shut (b := b) (c := c) (hE.setRq i y) ⟨hl.ok, hl.le⟩ ((sat_putB (pk := id) (F := fun _ => rqC) 0 (by rw [hE.rn, hE.mn]) (by rw [hE.mn]; exact hi) h).perm (perm_front [_, _, _, _, _, _, _] _).symm)
theorem sat_lf {i : Nat} {w : World} (hE : EF x s) (hi : i < x.n) (h : Sat (EngC e x s :: L) w) : ∃ j : BC, LgOk s j.1 j.2 ∧
    Sat (Blk (x.ks.getD i (0, 0)).2 (lfC (s.lf.getD i Lf.z)) TLf :: Join (blks TLf Prod.snd (fun _ => lfC) (x.ks.eraseIdx i) (s.lf.eraseIdx i)) :: ((engL e x s j.1 j.2).eraseIdx 6 ++ L)) w := by
  obtain ⟨j, h1, h2⟩ := engc_open' h
  exact ⟨j, h1, sat_takeB (pk := Prod.snd) (F := fun _ => lfC) (0, 0) Lf.z (by rw [hE.kn, hE.ln]) (by rw [hE.ln]; exact hi) (h2.perm (perm_front [_, _, _, _, _, _] _))⟩
theorem sat_lf' {i : Nat} {y : Lf} {w : World} (hE : EF x s) (hi : i < x.n) (hy : LfOk y) (hl : LgOk s b c)
    (h : Sat (Blk (x.ks.getD i (0, 0)).2 (lfC y) TLf :: Join (blks TLf Prod.snd (fun _ => lfC) (x.ks.eraseIdx i) (s.lf.eraseIdx i)) :: ((engL e x s b c).eraseIdx 6 ++ L)) w) : Sat (EngC e x (s.setLf i y) :: L) w :=
  engc_shut (b := b) (c := c) (hE.setLf hi hy) ⟨hl.ok, hl.le⟩ ((sat_putB (pk := Prod.snd) (F := fun _ => lfC) (0, 0) (by rw [hE.kn, hE.ln]) (by rw [hE.ln]; exact hi) h).perm (perm_front [_, _, _, _, _, _] _).symm)
theorem sv_tk {t : TypeId} {a y : Operand} {i o : Nat} {v : Value} {z : Tk} (hi : i < x.n) (hz : (tkC (x.ks.getD i (0, 0)) (s.tk.getD i Tk.z)).set o v = tkC (x.ks.getD i (0, 0)) z) (ho : o < 6) (h1 : v.oneCell' = true)
    (hsz : ∀ w, (sizeOf t).run P w = .ok 1 w) (hx : ev E a = some (.pointer (some ⟨(x.ks.getD i (0, 0)).1, o, none⟩))) (hy : ev E y = some v) :
    SV P E (EngC e x s :: L) (.store t a y) ty (EngC e x (s.setTk i z) :: L) :=
  SV.of (fun _ h => ef_of h) fun hE => SV.via (fun _ h => sat_tk hE hi h) (fun _ => sv_blk hsz hx hy h1 ho hz) (fun _ hl _ h => sat_tk' hE hi hl h)
theorem sv_rq {t : TypeId} {a y : Operand} {i o : Nat} {v : Value} {z : Rq} (hi : i < x.m) (hz : (rqC (s.rq.getD i Rq.z)).set o v = rqC z) (ho : o < 4) (h1 : v.oneCell' = true)
    (hsz : ∀ w, (sizeOf t).run P w = .ok 1 w) (hx : ev E a = some (.pointer (some ⟨x.rs.getD i 0, o, none⟩))) (hy : ev E y = some v) :
    SV P E (EngC e x s :: L) (.store t a y) ty (EngC e x (s.setRq i z) :: L) :=
  SV.of (fun _ h => ef_of h) fun hE => SV.via (fun _ h => sat_rq hE hi h) (fun _ => sv_blk hsz hx hy h1 ho hz) (fun _ hl _ h => sat_rq' hE hi hl h)
theorem sv_bg {t : TypeId} {a y : Operand} {v : Int} (hsz : ∀ w, (sizeOf t).run P w = .ok 1 w) (hx : ev E a = some (.pointer (some ⟨e, 19, none⟩))) (hy : ev E y = some (.int .i64 v)) :
    SV P E (EngC e x s :: L) (.store t a y) ty (EngC e x (s.setBg v) :: L) :=
  SV.of (fun _ h => ef_of h) fun hE => SV.via (fun _ h => engc_open' h) (fun i => sv_blk (cs' := engC x (s.setBg v) i.1 i.2) hsz hx hy rfl (Nat.le_of_ble_eq_true rfl) rfl) (fun _ hl _ h => engc_shut (hE.setBg v) ⟨hl.ok, hl.le⟩ h)
theorem ok_life {f : FuncId} {args : List Value} {i : Nat} {v : Value} {y : Lf} (hi : i < x.n) (hy : LfOk (s.lf.getD i Lf.z) → LfOk y)
    (h : LfOk (s.lf.getD i Lf.z) → ∀ R : List HP, Ok P f (.pointer (some ⟨(x.ks.getD i (0, 0)).2, 0, none⟩) :: args) (Blk (x.ks.getD i (0, 0)).2 (lfC (s.lf.getD i Lf.z)) TLf :: R) (fun u M => u = v ∧ M = Blk (x.ks.getD i (0, 0)).2 (lfC y) TLf :: R)) :
    Ok P f (.pointer (some ⟨(x.ks.getD i (0, 0)).2, 0, none⟩) :: args) (EngC e x s :: L) (fun u M => u = v ∧ M = EngC e x (s.setLf i y) :: L) := fun w hs => by
  have hE := ef_of hs
  obtain ⟨j, hl, hs1⟩ := sat_lf hE hi hs
  refine (h (hE.lo i hi) _ w hs1).mono ?_
  rintro en w' ⟨u, M, ⟨rfl, rfl⟩, h1, h2, h3⟩
  exact ⟨_, _, ⟨rfl, rfl⟩, h1, sat_lf' hE hi (hy (hE.lo i hi)) hl h2, h3⟩
theorem ok_life0 {f : FuncId} {args : List Value} {i : Nat} {v : Value} (hi : i < x.n)
    (h : ∀ R : List HP, Ok P f (.pointer (some ⟨(x.ks.getD i (0, 0)).2, 0, none⟩) :: args) (Blk (x.ks.getD i (0, 0)).2 (lfC (s.lf.getD i Lf.z)) TLf :: R) (fun u M => u = v ∧ M = Blk (x.ks.getD i (0, 0)).2 (lfC (s.lf.getD i Lf.z)) TLf :: R)) :
    Ok P f (.pointer (some ⟨(x.ks.getD i (0, 0)).2, 0, none⟩) :: args) (EngC e x s :: L) (fun u M => u = v ∧ M = EngC e x s :: L) := fun w hs => by
  have hE := ef_of hs
  obtain ⟨j, hl, hs1⟩ := sat_lf hE hi hs
  refine (h _ w hs1).mono ?_
  rintro en w' ⟨u, M, ⟨rfl, rfl⟩, h1, h2, h3⟩
  have h4 := sat_lf' hE hi (hE.lo i hi) hl h2
  have h5 : s.setLf i (s.lf.getD i Lf.z) = s := by unfold ES.setLf; rw [bk_set_getD Lf.z (by rw [hE.ln]; exact hi)]
  rw [h5] at h4
  exact ⟨_, _, ⟨rfl, rfl⟩, h1, h4, h3⟩
variable {K : Act → World → Prop} {W : World} {N' : Nat}
theorem t_openC (k : ∀ b c, EF x s → LgOk s b c → Tri K W N' E (engL e x s b c ++ L)) : Tri K W N' E (EngC e x s :: L) := t_fact fun hE => t_ex fun b => t_ex fun c => t_fact fun hl => t_join (k b c hE hl)
theorem t_shutC (hE : EF x s) (hl : LgOk s b c) (k : Tri K W N' E (EngC e x s :: L)) : Tri K W N' E (engL e x s b c ++ L) := t_sat (fun _ h => engc_shut hE hl h) k
end
end Go.Proofs.YtanfdikglplkaaaGreatDoor.Sp
namespace Go.Proofs.YtanfdikglplkaaaGreatDoor.Sp
open Go
end Go.Proofs.YtanfdikglplkaaaGreatDoor.Sp
namespace Go.Proofs.YtanfdikglplkaaaGreatDoor.Sp
open Go
end Go.Proofs.YtanfdikglplkaaaGreatDoor.Sp
namespace Go.Proofs.YtanfdikglplkaaaGreatDoor.Sp
open Go
end Go.Proofs.YtanfdikglplkaaaGreatDoor.Sp
namespace Go.Proofs.YtanfdikglplkaaaGreatDoor.Sp
open Go
def stopB (ks : Ks) (x : Int) : Bool := remE ks x == 0
end Go.Proofs.YtanfdikglplkaaaGreatDoor.Sp
