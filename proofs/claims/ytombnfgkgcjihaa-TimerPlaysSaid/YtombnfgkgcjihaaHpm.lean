/- Heaps: how they lie in memory; the operations of interfaces. No program in it (but for the numbers of its types). -/
import Derived.Test.YtombnfgkgcjihaaHp
import Derived.Test.YtombnfgkgcjihaaDrw
import Derived.Test.YtombnfgkgcjihaaIdx
import Derived.Test.YtombnfgkgcjihaaVal2
set_option linter.unusedVariables false
set_option linter.unusedSimpArgs false
namespace Go.Proofs.Ytombnfgkgcjihaa.Sp
open Go
section
variable {P : Program} {E : List (Nat × Value)} {L : List HP} {ty : TypeId} {K : Act → World → Prop} {W : World} {N : Nat}
/-! interfaces -/
theorem lv_makeIface {t : TypeId} {x : Operand} {v : Value} (hr : ∀ w x, (Instr.makeInterface t x).run P w = .ok (.iface t x) w) (hx : ev E x = some v) : LV P E L (.makeInterface t x) ty (.iface t v) := by
  intro ρ h w _ d pos af g; simp [execOp, h x _ hx, hr]
theorem lv_typeAssert {t xT : TypeId} {x : Operand} {v : Value} (hr : ∀ w v, (Instr.typeAssert (.iface t v) xT t false).run P w = .ok v w) (hx : ev E x = some (.iface t v)) : LV P E L (.typeAssert x xT t false) ty v := by
  intro ρ h w _ d pos af g; simp [execOp, h x _ hx, hr]
theorem en_meth {f : FuncId} {T : TypeId} {name : String} {y : Operand} {u : Value} {xs : List Operand} {vs : List Value} {ts : Array TypeId} (hc : ∀ v args w, (callMethod (.iface T v) name args).run P w = .ok (.enter f (#[v] ++ args)) w)
    (hy : ev E y = some (.iface T u)) (hx : evs E xs = some vs) : EnterV P E (.call { callee := .invoke y name, args := xs.toArray, argTypes := ts }) ty f (u :: vs) := by
  intro ρ h w d pos af g
  simp [execOp, resolve, h.evs hx, h y _ hy, invoke, hc]
/-! rows of ids with places and keys -/
structure RFacts (n : Nat) (l at_ K : List Int) (bl : Option Addr) (cl : Nat) (ba bk : Option Addr) : Prop where
  hi : HI n l
  ato : AtOk n l at_
  lk : K.length = n
  big : n ≤ 65536
  okl : SlOk bl l.length
  cpl : l.length ≤ cl
  oka : SlOk ba n
  okk : SlOk bk n
def RParts (p n : Nat) (l at_ K : List Int) (bl : Option Addr) (cl : Nat) (ba : Option Addr) (ca : Nat) (bk : Option Addr) (ck : Nat) : List HP :=
  [Blk p [.slice bl l.length cl, .slice ba n ca, .slice bk n ck] 65, SlV 3 1 (.slice bl l.length cl) l.length (ints .i64 l), SlV 3 1 (.slice ba n ca) n (ints .i64 at_), SlV 3 1 (.slice bk n ck) n (ints .i64 K)]
def RowsO (p n : Nat) (l K : List Int) : HP := fun f => ∃ at_ bl cl ba ca bk ck, RFacts n l at_ K bl cl ba bk ∧ Parts (RParts p n l at_ K bl cl ba ca bk ck) f
theorem Sat.openW {p n : Nat} {l Ks : List Int} {w : World} (h : Sat (RowsO p n l Ks :: L) w) : ∃ at_ bl cl ba ca bk ck, RFacts n l at_ Ks bl cl ba bk ∧ Sat (RParts p n l at_ Ks bl cl ba ca bk ck ++ L) w := by
  obtain ⟨_, ⟨f1, f2, rfl, ⟨at_, bl, cl, ba, ca, bk, ck, h1, h2⟩, hl⟩, hh⟩ := h
  exact ⟨at_, bl, cl, ba, ca, bk, ck, h1, _, Parts.append h2 hl, hh⟩
theorem Sat.shutW {p n : Nat} {l Ks at_ : List Int} {w : World} {bl : Option Addr} {cl : Nat} {ba : Option Addr} {ca : Nat} {bk : Option Addr} {ck : Nat} (h : RFacts n l at_ Ks bl cl ba bk) (hs : Sat (RParts p n l at_ Ks bl cl ba ca bk ck ++ L) w) : Sat (RowsO p n l Ks :: L) w := by
  obtain ⟨f, hp, hh⟩ := hs
  obtain ⟨f1, f2, rfl, h1, h2⟩ := Parts.split hp
  exact ⟨_, ⟨f1, f2, rfl, ⟨at_, bl, cl, ba, ca, bk, ck, h, h1⟩, h2⟩, hh⟩
theorem t_openW {p n : Nat} {l Ks : List Int} (k : ∀ at_ bl cl ba ca bk ck, RFacts n l at_ Ks bl cl ba bk → Tri K W N E (Blk p [.slice bl l.length cl, .slice ba n ca, .slice bk n ck] 65 :: SlV 3 1 (.slice bl l.length cl) l.length (ints .i64 l) :: SlV 3 1 (.slice ba n ca) n (ints .i64 at_) :: SlV 3 1 (.slice bk n ck) n (ints .i64 Ks) :: L)) : Tri K W N E (RowsO p n l Ks :: L) := fun a w s => by
  obtain ⟨at_, bl, cl, ba, ca, bk, ck, h1, h2⟩ := s.sat.openW
  exact k at_ bl cl ba ca bk ck h1 a w ⟨s.size, s.defers, s.env, h2, s.ext⟩
theorem t_shutW {p n m : Nat} {l Ks at_ : List Int} {bl : Option Addr} {cl : Nat} {ba : Option Addr} {ca : Nat} {bk : Option Addr} {ck : Nat} (hm : l.length = m) (h : RFacts n l at_ Ks bl cl ba bk) (k : Tri K W N E (RowsO p n l Ks :: L)) : Tri K W N E (Blk p [.slice bl m cl, .slice ba n ca, .slice bk n ck] 65 :: SlV 3 1 (.slice bl m cl) m (ints .i64 l) :: SlV 3 1 (.slice ba n ca) n (ints .i64 at_) :: SlV 3 1 (.slice bk n ck) n (ints .i64 Ks) :: L) := by
  subst hm; exact t_sat (fun _ hs => hs.shutW h) k
theorem rfacts_of {p n : Nat} {l Ks : List Int} {w : World} (h : Sat (RowsO p n l Ks :: L) w) : HI n l ∧ Ks.length = n ∧ n ≤ 65536 := by
  obtain ⟨_, _, _, _, _, _, _, h1, _⟩ := h.openW; exact ⟨h1.hi, h1.lk, h1.big⟩
/-! heaps -/
def HeapO (p n : Nat) (ks : Ks) : HP := fun f => ∃ l Kk, HpOk n l Kk ks ∧ RowsO p n l Kk f
theorem t_openH {p n : Nat} {ks : Ks} (k : ∀ l Kk, HpOk n l Kk ks → Tri K W N E (RowsO p n l Kk :: L)) : Tri K W N E (HeapO p n ks :: L) := fun a w s => by
  obtain ⟨_, ⟨f1, f2, rfl, ⟨l, Kk, h1, h2⟩, hl⟩, hh⟩ := s.sat
  exact k l Kk h1 a w ⟨s.size, s.defers, s.env, ⟨_, ⟨f1, f2, rfl, h2, hl⟩, hh⟩, s.ext⟩
theorem t_shutH {p n : Nat} {ks : Ks} {l Kk : List Int} (h : HpOk n l Kk ks) (k : Tri K W N E (HeapO p n ks :: L)) : Tri K W N E (RowsO p n l Kk :: L) := fun a w s => by
  obtain ⟨_, ⟨f1, f2, rfl, h2, hl⟩, hh⟩ := s.sat
  exact k a w ⟨s.size, s.defers, s.env, ⟨_, ⟨f1, f2, rfl, ⟨l, Kk, h, h2⟩, hl⟩, hh⟩, s.ext⟩
theorem hfacts_of {p n : Nat} {ks : Ks} {w : World} (h : Sat (HeapO p n ks :: L) w) : ks.length = n ∧ n ≤ 65536 ∧ cntK ks ≤ n := by
  obtain ⟨_, ⟨f1, f2, rfl, ⟨l, Kk, h1, h2⟩, hl⟩, hh⟩ := h
  have := rfacts_of (L := L) (w := w) ⟨_, ⟨f1, f2, rfl, h2, hl⟩, hh⟩
  exact ⟨h1.ln, this.2.2, by rw [h1.count]; exact h1.le⟩
end
/-! plain facts of what the functions do -/
theorem par_quo (j : Nat) (hj : j ≤ 100000) : IntKind.i64.wrap (((j : Int) - 1).tdiv 2) = (((j - 1) / 2 : Nat) : Int) := by
  cases j with
  | zero => decide
  | succ j =>
    have e : (((j + 1 : Nat) : Int) - 1).tdiv 2 = ((j / 2 : Nat) : Int) := by
      rw [show ((j + 1 : Nat) : Int) - 1 = (j : Int) by omega]; rfl
    rw [e, show j + 1 - 1 = j by omega]; exact wr_i64 (by omega) (by omega)
theorem less_t {K : List Int} {a b : Int} (h : K.getD a.toNat 0 < K.getD b.toNat 0) : true = decide (LtK K a b) := by
  symm; rw [decide_eq_true_iff]; exact .inl h
theorem less_e {K : List Int} {a b : Int} (h : ¬ K.getD a.toNat 0 < K.getD b.toNat 0) (h2 : K.getD a.toNat 0 = K.getD b.toNat 0) : decide (a < b) = decide (LtK K a b) := by
  rw [decide_eq_decide]; exact ⟨fun h3 => .inr ⟨h2, h3⟩, fun h3 => by rcases h3 with h3 | h3; exact absurd h3 h; exact h3.2⟩
theorem less_f {K : List Int} {a b : Int} (h : ¬ K.getD a.toNat 0 < K.getD b.toNat 0) (h2 : ¬ K.getD a.toNat 0 = K.getD b.toNat 0) : false = decide (LtK K a b) := by
  symm; rw [decide_eq_false_iff_not]; rintro (h3 | h3); exact h h3; exact h2 h3.1
structure DownOk (K l l' : List Int) (m i0 : Nat) (b : Bool) : Prop where
  same : Same m l l'
  yes : b = true → HeapP K l' m
  no : b = false → l' = l ∧ HeapUp K l m i0
theorem HI.le {n : Nat} {l : List Int} (h : HI n l) : l.length ≤ n := by
  have hd : (l.map Int.toNat).Nodup := by
    rw [List.nodup_iff_pairwise_ne, List.pairwise_iff_getElem]
    intro i j hi hj hlt e
    simp only [List.length_map] at hi hj
    have b1 := h.bd i hi; have b2 := h.bd j hj
    have := h.inj i j hi hj (by simp [List.getD, hi, hj] at *; omega)
    omega
  have key : ∀ (N : Nat) (l : List Nat), l.Nodup → (∀ x ∈ l, x < N) → l.length ≤ N := by
    intro N
    induction N with
    | zero => intro l _ h; cases l with | nil => simp | cons x l => exact absurd (h x (List.mem_cons_self ..)) (by omega)
    | succ N ih =>
      intro l hn h
      have := ih (l.erase N) (hn.erase N) (fun x hx => by have h1 := (hn.mem_erase_iff).1 hx; have := h x h1.2; omega)
      have h2 : l.length ≤ (l.erase N).length + 1 := by rw [List.length_erase]; split <;> omega
      omega
  have := key n _ hd fun x hx => by
    obtain ⟨y, hy, rfl⟩ := List.mem_map.1 hx
    obtain ⟨i, hi, e⟩ := mem_iff_at.1 hy
    have := h.bd i hi; omega
  simpa using this
theorem HI.push {n : Nat} {l : List Int} (h : HI n l) {x : Int} (hx : 0 ≤ x ∧ x < n) (hn : x ∉ l) : HI n (l ++ [x]) := by
  have g1 : ∀ i, i < l.length → (l ++ [x]).getD i 0 = l.getD i 0 := fun i hi => by simp only [List.getD_eq_getElem?_getD, List.getElem?_append_left hi]
  have g2 : (l ++ [x]).getD l.length 0 = x := by simp [List.getD]
  have hne : ∀ i, i < l.length → l.getD i 0 ≠ x := fun i hi e => hn (mem_iff_at.2 ⟨i, hi, e⟩)
  refine ⟨fun i hi => ?_, fun i j hi hj e => ?_⟩
  · rw [List.length_append, List.length_singleton] at hi
    by_cases e : i < l.length
    · rw [g1 i e]; exact h.bd i e
    · rw [show i = l.length by omega, g2]; exact hx
  · rw [List.length_append, List.length_singleton] at hi hj
    by_cases e1 : i < l.length <;> by_cases e2 : j < l.length
    · rw [g1 i e1, g1 j e2] at e; exact h.inj i j e1 e2 e
    · rw [g1 i e1, show j = l.length by omega, g2] at e; exact absurd e (hne i e1)
    · rw [g1 j e2, show i = l.length by omega, g2] at e; exact absurd e.symm (hne j e2)
    · omega
theorem AtOk.push {n : Nat} {l at_ : List Int} (h : AtOk n l at_) (q : HI n l) {x : Int} (hx : 0 ≤ x ∧ x < n) (hn : x ∉ l) : AtOk n (l ++ [x]) (at_.set x.toNat (l.length : Int)) := by
  have g1 : ∀ i, i < l.length → (l ++ [x]).getD i 0 = l.getD i 0 := fun i hi => by simp only [List.getD_eq_getElem?_getD, List.getElem?_append_left hi]
  have g2 : (l ++ [x]).getD l.length 0 = x := by simp [List.getD]
  have hl := h.len
  have hne : ∀ i, i < l.length → l.getD i 0 ≠ x := fun i hi e => hn (mem_iff_at.2 ⟨i, hi, e⟩)
  refine ⟨by rw [List.length_set]; exact hl, fun i hi => ?_, fun y hy hf => ?_⟩
  · rw [List.length_append, List.length_singleton] at hi
    rw [set_getD (by omega)]
    by_cases e : i < l.length
    · rw [g1 i e, if_neg (by have := q.bd i e; have := hne i e; omega)]; exact h.here i e
    · rw [show i = l.length by omega, g2, if_pos rfl]
  · have := hf l.length (by simp)
    rw [g2] at this
    rw [set_getD (by omega), if_neg (by omega)]
    refine h.away y hy fun i hi => ?_
    have := hf i (by simp; omega)
    rw [g1 i hi] at this; exact this
theorem dropLast_getD {l : List Int} {i : Nat} (h : i < l.length - 1) : l.dropLast.getD i 0 = l.getD i 0 := by
  simp only [List.getD_eq_getElem?_getD, List.getElem?_dropLast, if_pos h]
theorem HI.pop {n : Nat} {l : List Int} (h : HI n l) : HI n l.dropLast := by
  refine ⟨fun i hi => ?_, fun i j hi hj e => ?_⟩
  · rw [List.length_dropLast] at hi; rw [dropLast_getD hi]; exact h.bd i (by omega)
  · rw [List.length_dropLast] at hi hj; rw [dropLast_getD hi, dropLast_getD hj] at e; exact h.inj i j (by omega) (by omega) e
theorem AtOk.pop {n : Nat} {l at_ : List Int} (h : AtOk n l at_) (q : HI n l) (h0 : 0 < l.length) : AtOk n l.dropLast (at_.set (l.getD (l.length - 1) 0).toNat (-1)) := by
  have hb := q.bd (l.length - 1) (by omega)
  have hl := h.len
  refine ⟨by rw [List.length_set]; exact hl, fun i hi => ?_, fun y hy hf => ?_⟩
  · rw [List.length_dropLast] at hi
    rw [dropLast_getD hi, set_getD (by omega), if_neg]
    · exact h.here i (by omega)
    · intro e
      have := q.bd i (by omega)
      have := q.inj i (l.length - 1) (by omega) (by omega) (by omega); omega
  · rw [set_getD (by omega)]
    split
    · rfl
    · rename_i hne
      refine h.away y hy fun i hi e => ?_
      by_cases e2 : i < l.length - 1
      · exact hf i (by rw [List.length_dropLast]; exact e2) (by rw [dropLast_getD e2]; exact e)
      · rw [show i = l.length - 1 by omega] at e; omega
theorem HI.same {n m : Nat} {l l' : List Int} (h : HI n l) (s : Same m l l') (hd : ∀ i j, i < l'.length → j < l'.length → l'.getD i 0 = l'.getD j 0 → i = j) : HI n l' := ⟨fun i hi => by
  obtain ⟨j, hj, e⟩ := mem_iff_at.1 ((s.mem _).1 (mem_iff_at.2 ⟨i, hi, rfl⟩))
  rw [← e]; exact h.bd j hj, hd⟩
/-- where an id is -/
theorem AtOk.at_ge {n : Nat} {l at_ : List Int} (h : AtOk n l at_) (q : HI n l) {x : Int} (hx : 0 ≤ x ∧ x < n) : decide (at_.getD x.toNat 0 ≥ 0) = decide (x ∈ l) := by
  rw [decide_eq_decide]
  constructor
  · intro h0
    refine Classical.byContradiction fun hn => ?_
    have := h.away x.toNat (by omega) fun i hi e => hn (mem_iff_at.2 ⟨i, hi, by omega⟩)
    omega
  · intro hm
    obtain ⟨i, hi, e⟩ := mem_iff_at.1 hm
    have := h.here i hi
    rw [e] at this; omega
theorem AtOk.at_is {n : Nat} {l at_ : List Int} (h : AtOk n l at_) {x : Int} (hm : x ∈ l) : ∃ i : Nat, i < l.length ∧ l.getD i 0 = x ∧ at_.getD x.toNat 0 = (i : Int) := by
  obtain ⟨i, hi, e⟩ := mem_iff_at.1 hm
  exact ⟨i, hi, e, by rw [← e]; exact h.here i hi⟩
theorem HeapP.pushUp {K l : List Int} {x : Int} (h : HeapP K l l.length) : HeapUp K (l ++ [x]) (l ++ [x]).length l.length := by
  have g1 : ∀ i, i < l.length → (l ++ [x]).getD i 0 = l.getD i 0 := fun i hi => by simp only [List.getD_eq_getElem?_getD, List.getElem?_append_left hi]
  constructor
  · intro k k0 k1 ne
    rw [List.length_append, List.length_singleton] at k1
    unfold LeAt; rw [g1 k (by omega), g1 _ (by omega)]; exact h k k0 (by omega)
  · intro k k0 k1 e _
    rw [List.length_append, List.length_singleton] at k1; omega
/-- the first of two places has another one -/
theorem HeapP.swapX {K l : List Int} {m i k : Nat} (h : HeapP K l m) (hi : i < l.length) (hk : k < l.length) (hik : i ≤ k) (hm : m ≤ k) : HeapX K (swapL l i k) m i i := by
  by_cases him : i < m
  · exact h.xset him fun j hj hne => by rw [swapL_get hi hk, if_neg (by omega), if_neg hne]
  · refine ⟨fun j j0 j1 _ _ => ?_, fun j j0 j1 e _ => by omega⟩
    unfold LeAt; rw [swapL_get hi hk, swapL_get hi hk, if_neg (by omega), if_neg (by omega), if_neg (by omega), if_neg (by omega)]; exact h j j0 j1
theorem DownOk.heap0 {K l l' : List Int} {m : Nat} {b : Bool} (h : DownOk K l l' m 0 b) : HeapP K l' m := by
  cases b with
  | true => exact h.yes rfl
  | false => obtain ⟨e, hu⟩ := h.no rfl; rw [e]; exact hu.top
/-! what a heap says, and what becomes of it -/
def known (n : Nat) (x : Int) : Bool := decide (0 ≤ x) && decide (x < (n : Int))
theorem known_iff {n : Nat} {x : Int} : known n x = true ↔ 0 ≤ x ∧ x < n := by simp [known]
def hasK (ks : Ks) (x : Int) : Bool := decide (0 ≤ x) && (ks.getD x.toNat none).isSome
def keyK (ks : Ks) (x : Int) : Int := bif hasK ks x then (ks.getD x.toNat none).getD 0 else 0
def pushE (ks : Ks) (x : Int) : Int := bif known ks.length x then (bif hasK ks x then 8 else 0) else 1
def pushK (ks : Ks) (x k : Int) : Ks := bif pushE ks x == 0 then ks.set x.toNat (some k) else ks
def lowE (ks : Ks) (x k : Int) : Int := bif known ks.length x then (bif hasK ks x then (bif decide (k > keyK ks x) then 3 else 0) else 6) else 1
def lowK (ks : Ks) (x k : Int) : Ks := bif lowE ks x k == 0 then ks.set x.toNat (some k) else ks
def remE (ks : Ks) (x : Int) : Int := bif known ks.length x then (bif hasK ks x then 0 else 6) else 1
def remK (ks : Ks) (x : Int) : Ks := bif hasK ks x then ks.set x.toNat none else ks
def fstI (ks : Ks) : Int := match minK ks 0 with | none => 0 | some (i, _) => (i : Int)
def fstV (ks : Ks) : Int := match minK ks 0 with | none => 0 | some (_, k) => k
def fstB (ks : Ks) : Bool := (minK ks 0).isSome
def popK (ks : Ks) : Ks := match minK ks 0 with | none => ks | some (i, _) => ks.set i none
theorem HpOk.has {n : Nat} {l K : List Int} {ks : Ks} (h : HpOk n l K ks) {x : Int} (hx : 0 ≤ x ∧ x < n) : hasK ks x = decide (x ∈ l) := by
  unfold hasK
  rw [h.says x.toNat (by omega), Int.toNat_of_nonneg hx.1, decide_eq_true hx.1, Bool.true_and]
  by_cases hm : x ∈ l
  · rw [if_pos hm, decide_eq_true hm]; rfl
  · rw [if_neg hm, decide_eq_false hm]; rfl
theorem hasK_no {n : Nat} {ks : Ks} (hl : ks.length = n) {x : Int} (hx : ¬ (0 ≤ x ∧ x < n)) : hasK ks x = false := by
  unfold hasK
  by_cases h0 : 0 ≤ x
  · have : ks.getD x.toNat none = none := by simp [List.getD, show ks.length ≤ x.toNat by omega]
    rw [this, Option.isSome_none, Bool.and_false]
  · rw [decide_eq_false h0, Bool.false_and]
theorem HpOk.key {n : Nat} {l K : List Int} {ks : Ks} (h : HpOk n l K ks) {x : Int} (hm : x ∈ l) : hasK ks x = true ∧ keyK ks x = K.getD x.toNat 0 ∧ (0 ≤ x ∧ x < n) := by
  obtain ⟨i, hi, e⟩ := mem_iff_at.1 hm
  have hb := h.hi.bd i hi
  rw [e] at hb
  have h1 : hasK ks x = true := by rw [h.has hb, decide_eq_true hm]
  refine ⟨h1, ?_, hb⟩
  unfold keyK
  rw [h1, cond_true, h.says x.toNat (by omega), Int.toNat_of_nonneg hb.1, if_pos hm]; rfl
theorem ks_ext {n : Nat} {a b : Ks} (ha : a.length = n) (hb : b.length = n) (h : ∀ x : Nat, x < n → a.getD x none = b.getD x none) : a = b := by
  refine List.ext_getElem (by omega) fun i h1 h2 => ?_
  have := h i (by omega)
  simpa [List.getD, h1, h2] using this
theorem setK {ks : Ks} {i j : Nat} {x : Option Int} (h : i < ks.length) : (ks.set i x).getD j none = if j = i then x else ks.getD j none := by
  simp only [List.getD_eq_getElem?_getD, List.getElem?_set]
  by_cases e : i = j
  · subst e; simp [h]
  · rw [if_neg e, if_neg (fun h => e h.symm)]
/-- the ids as they were, in another order -/
theorem HpOk.re {n : Nat} {l l' K : List Int} {ks : Ks} (h : HpOk n l K ks) (hi : HI n l') (hm : ∀ x, x ∈ l' ↔ x ∈ l) (hp : HeapP K l' l'.length) : HpOk n l' K ks :=
  ⟨hi, hp, h.lk, h.ln, fun x hx => by rw [h.says x hx]; simp only [hm]⟩
theorem HpOk.push {n : Nat} {l l' K : List Int} {ks : Ks} (h : HpOk n l K ks) {x k : Int} (hx : 0 ≤ x ∧ x < n) (hn : x ∉ l) (hi : HI n l') (hm : ∀ y, y ∈ l' ↔ y ∈ l ++ [x]) (hp : HeapP (K.set x.toNat k) l' l'.length) : HpOk n l' (K.set x.toNat k) (ks.set x.toNat (some k)) := by
  have h1 := h.lk; have h2 := h.ln
  refine ⟨hi, hp, by rw [List.length_set]; exact h1, by rw [List.length_set]; exact h2, fun y hy => ?_⟩
  rw [setK (by omega), set_getD (by omega), h.says y hy]
  by_cases e : y = x.toNat
  · rw [if_pos e, if_pos e, if_pos ((hm _).2 (List.mem_append_right _ (by rw [List.mem_singleton]; omega)))]
  · rw [if_neg e, if_neg e]
    have : ((y : Int) ∈ l') ↔ ((y : Int) ∈ l) := by
      rw [hm, List.mem_append, List.mem_singleton]
      exact ⟨fun h => by rcases h with h | h; exact h; omega, .inl⟩
    simp only [this]
theorem HpOk.low {n : Nat} {l l' K : List Int} {ks : Ks} (h : HpOk n l K ks) {x k : Int} (hxl : x ∈ l) (hx : 0 ≤ x ∧ x < n) (hi : HI n l') (hm : ∀ y, y ∈ l' ↔ y ∈ l) (hp : HeapP (K.set x.toNat k) l' l'.length) : HpOk n l' (K.set x.toNat k) (ks.set x.toNat (some k)) := by
  have h1 := h.lk; have h2 := h.ln
  refine ⟨hi, hp, by rw [List.length_set]; exact h1, by rw [List.length_set]; exact h2, fun y hy => ?_⟩
  rw [setK (by omega), set_getD (by omega), h.says y hy]
  by_cases e : y = x.toNat
  · rw [if_pos e, if_pos e, if_pos ((hm _).2 (by rw [show (y : Int) = x by omega]; exact hxl))]
  · rw [if_neg e, if_neg e]; simp only [hm]
theorem HpOk.rem {n : Nat} {l l' K : List Int} {ks : Ks} (h : HpOk n l K ks) {x : Int} (hx : 0 ≤ x ∧ x < n) (hi : HI n l') (hm : ∀ y, y ∈ l' ↔ y ∈ l ∧ y ≠ x) (hp : HeapP K l' l'.length) : HpOk n l' K (ks.set x.toNat none) := by
  have h1 := h.lk; have h2 := h.ln
  refine ⟨hi, hp, h1, by rw [List.length_set]; exact h2, fun y hy => ?_⟩
  rw [setK (by omega), h.says y hy]
  by_cases e : y = x.toNat
  · rw [if_pos e, if_neg (fun hh => ((hm _).1 hh).2 (by omega))]
  · rw [if_neg e]
    have : ((y : Int) ∈ l') ↔ ((y : Int) ∈ l) := by rw [hm]; exact ⟨fun h => h.1, fun h => ⟨h, by omega⟩⟩
    simp only [this]
/-- the last one goes -/
theorem dropLast_mem {n : Nat} {l : List Int} (h : HI n l) (h0 : 0 < l.length) (y : Int) : y ∈ l.dropLast ↔ y ∈ l ∧ y ≠ l.getD (l.length - 1) 0 := by
  rw [mem_iff_at, mem_iff_at]
  constructor
  · rintro ⟨i, hi, e⟩
    rw [List.length_dropLast] at hi
    rw [dropLast_getD hi] at e
    exact ⟨⟨i, by omega, e⟩, fun e2 => by have := h.inj i (l.length - 1) (by omega) (by omega) (by omega); omega⟩
  · rintro ⟨⟨i, hi, e⟩, hne⟩
    have : i ≠ l.length - 1 := fun e2 => by subst e2; exact hne e.symm
    exact ⟨i, by rw [List.length_dropLast]; omega, by rw [dropLast_getD (by omega)]; exact e⟩
theorem HeapP.dropLast {K l : List Int} {m : Nat} (h : HeapP K l m) (hm : m = l.length - 1) : HeapP K l.dropLast l.dropLast.length := by
  intro k k0 k1
  rw [List.length_dropLast] at k1
  unfold LeAt; rw [dropLast_getD (by omega), dropLast_getD (by omega)]
  exact h k k0 (by omega)
theorem HeapP.less {K l : List Int} {m m' : Nat} (h : HeapP K l m) (hm : m' ≤ m) : HeapP K l m' := fun k k0 k1 => h k k0 (by omega)
theorem HpOk.minNone {n : Nat} {l K : List Int} {ks : Ks} (h : HpOk n l K ks) (h0 : l.length = 0) : minK ks 0 = none := by
  cases hm : minK ks 0 with
  | none => rfl
  | some x =>
    obtain ⟨i, k⟩ := x
    obtain ⟨_, h2, _⟩ := minK_some hm
    rw [Nat.sub_zero] at h2
    have hi : i < n := by
      by_cases hi : i < n
      · exact hi
      · rw [← h.ln] at hi; simp [List.getD, show ks.length ≤ i by omega] at h2
    rw [h.says i hi, if_neg (by rw [List.eq_nil_of_length_eq_zero h0]; simp)] at h2; cases h2
theorem HpOk.fst {n : Nat} {l K : List Int} {ks : Ks} (h : HpOk n l K ks) (h0 : 0 < l.length) : fstI ks = l.getD 0 0 ∧ fstV ks = K.getD (l.getD 0 0).toNat 0 ∧ fstB ks = true ∧ popK ks = ks.set (l.getD 0 0).toNat none := by
  have hm := h.min h0
  have hb := h.hi.bd 0 h0
  unfold fstI fstV fstB popK
  rw [hm]
  exact ⟨by dsimp only; omega, rfl, rfl, rfl⟩
theorem HpOk.fstNone {n : Nat} {l K : List Int} {ks : Ks} (h : HpOk n l K ks) (h0 : l.length = 0) : fstI ks = 0 ∧ fstV ks = 0 ∧ fstB ks = false ∧ popK ks = ks := by
  have hm := h.minNone h0
  unfold fstI fstV fstB popK
  rw [hm]; exact ⟨rfl, rfl, rfl, rfl⟩
theorem HeapP.kset {n : Nat} {K l : List Int} (h : HeapP K l l.length) (q : HI n l) (hl : K.length = n) {x k : Int} (hx : 0 ≤ x ∧ x < n) (hn : x ∉ l) : HeapP (K.set x.toNat k) l l.length := by
  intro j j0 j1
  have g : ∀ i, i < l.length → (K.set x.toNat k).getD (l.getD i 0).toNat 0 = K.getD (l.getD i 0).toNat 0 := fun i hi => by
    have := q.bd i hi
    rw [set_getD (by omega), if_neg]
    intro e; exact hn (mem_iff_at.2 ⟨i, hi, by omega⟩)
  have := h j j0 j1
  unfold LeAt LtK at this ⊢; rw [g j j1, g _ (by omega)]; exact this
theorem HeapP.klow {n : Nat} {K l : List Int} (h : HeapP K l l.length) (q : HI n l) (hl : K.length = n) {x k : Int} {i : Nat} (hi : i < l.length) (e : l.getD i 0 = x) : HeapX (K.set x.toNat k) l l.length i i := by
  refine h.xkey hi fun j hj hne => ?_
  have b1 := q.bd j hj; have b2 := q.bd i hi
  rw [set_getD (by omega), if_neg]
  intro e2; exact hne (q.inj j i hj hi (by omega))
def hclamp (n : Int) : Nat := (min (max n 0) 65536).toNat
theorem hclamp_le (n : Int) : hclamp n ≤ 65536 := by unfold hclamp; omega
def fillM (N i : Nat) : List Int := List.replicate i (-1) ++ List.replicate (N - i) 0
theorem fillM_len {N i : Nat} (h : i ≤ N) : (fillM N i).length = N := by unfold fillM; simp; omega
theorem fillM_next {N i : Nat} (h : i < N) : (fillM N i).set i (-1) = fillM N (i + 1) := by
  unfold fillM
  rw [List.set_append, if_neg (by simp), List.length_replicate, Nat.sub_self, show N - i = (N - (i + 1)) + 1 by omega, List.replicate_succ, List.set_cons_zero, List.replicate_succ']
  simp
theorem fillM_start (N : Nat) : List.replicate N (0 : Int) = fillM N 0 := by unfold fillM; simp
theorem fillM_end (N : Nat) : fillM N N = List.replicate N (-1) := by unfold fillM; simp
theorem rep_at {α : Type} {n i : Nat} {x d : α} (h : i < n) : (List.replicate n x).getD i d = x := by simp [List.getD, h]
theorem new_facts {n : Nat} (hn : n ≤ 65536) {ba bk : Option Addr} (oka : SlOk ba n) (okk : SlOk bk n) : RFacts n [] (List.replicate n (-1)) (List.replicate n 0) none 0 ba bk :=
  ⟨⟨fun i hi => by simp at hi, fun i j hi => by simp at hi⟩, ⟨List.length_replicate, fun i hi => by simp at hi, fun x hx _ => rep_at hx⟩, List.length_replicate, hn, slok_none, Nat.le_refl _, oka, okk⟩
theorem new_ok (n : Nat) : HpOk n [] (List.replicate n 0) (List.replicate n none) :=
  ⟨⟨fun i hi => by simp at hi, fun i j hi => by simp at hi⟩, fun k _ h => by simp at h, List.length_replicate, List.length_replicate, fun x hx => by rw [rep_at hx]; simp⟩
theorem remE_zero {ks : Ks} {x : Int} (h : remE ks x = 0) : known ks.length x = true ∧ hasK ks x = true := by
  unfold remE at h
  cases h1 : known ks.length x <;> cases h2 : hasK ks x <;> rw [h1, h2] at h <;> first | exact ⟨rfl, rfl⟩ | (simp at h; done)
theorem remE_ne {n : Nat} {ks : Ks} {x : Int} (hl : ks.length = n) (h : ¬ remE ks x = 0) : keyK ks x = 0 ∧ remK ks x = ks := by
  have h2 : hasK ks x = false := by
    cases h2 : hasK ks x with
    | false => rfl
    | true =>
      exfalso; apply h
      unfold remE
      have : known ks.length x = true := by
        refine known_iff.2 (Classical.byContradiction fun hn => ?_)
        rw [hasK_no rfl hn] at h2; cases h2
      rw [this, h2]; rfl
  unfold keyK remK; rw [h2]; exact ⟨rfl, rfl⟩
theorem hasK_in {n : Nat} {ks : Ks} {x : Int} (hl : ks.length = n) (h : hasK ks x = true) : 0 ≤ x ∧ x < n := Classical.byContradiction fun hn => by rw [hasK_no hl hn] at h; cases h
/-! rows, all of their pieces named: they can be read, and handed to who asks for rows -/
def RowsW (p n : Nat) (l Kk at_ : List Int) (bl : Option Addr) (cl : Nat) (ba : Option Addr) (ca : Nat) (bk : Option Addr) (ck : Nat) : HP := fun f => RFacts n l at_ Kk bl cl ba bk ∧ Parts (RParts p n l at_ Kk bl cl ba ca bk ck) f
section
variable {E : List (Nat × Value)} {L : List HP} {K : Act → World → Prop} {W : World} {N : Nat} {p n cl ca ck : Nat} {l Kk at_ : List Int} {bl ba bk : Option Addr}
theorem sat_wo {w : World} (h : Sat (RowsW p n l Kk at_ bl cl ba ca bk ck :: L) w) : Sat (RowsO p n l Kk :: L) w := h.imp fun f hf => ⟨at_, bl, cl, ba, ca, bk, ck, hf⟩
theorem sat_wj {w : World} (h : Sat (RowsW p n l Kk at_ bl cl ba ca bk ck :: L) w) : Sat (RParts p n l at_ Kk bl cl ba ca bk ck ++ L) w := by
  obtain ⟨_, ⟨f1, f2, rfl, ⟨_, h2⟩, hl⟩, hh⟩ := h
  exact ⟨_, Parts.append h2 hl, hh⟩
theorem t_openX (k : ∀ at_ bl cl ba ca bk ck, RFacts n l at_ Kk bl cl ba bk → Tri K W N E (RowsW p n l Kk at_ bl cl ba ca bk ck :: L)) : Tri K W N E (RowsO p n l Kk :: L) := fun a w s => by
  obtain ⟨_, ⟨f1, f2, rfl, ⟨at_, bl, cl, ba, ca, bk, ck, h1, h2⟩, hl⟩, hh⟩ := s.sat
  exact k at_ bl cl ba ca bk ck h1 a w ⟨s.size, s.defers, s.env, ⟨_, ⟨f1, f2, rfl, ⟨h1, h2⟩, hl⟩, hh⟩, s.ext⟩
theorem gives_front {A : HP} {M : List HP} (hm : A ∈ L) (hA : ∀ w L', Sat (A :: L') w → Sat (M ++ L') w) {a : Addr} {v : Value} (h : ∀ L', Gives (M ++ L') a v) : Gives L a v := by
  obtain ⟨L1, L2, rfl⟩ := List.append_of_mem hm
  exact fun w hs => h _ w (hA w _ (hs.perm List.perm_middle))
theorem gives_wp {k : Nat} {v : Value} (hm : RowsW p n l Kk at_ bl cl ba ca bk ck ∈ L) (hv : ([.slice bl l.length cl, .slice ba n ca, .slice bk n ck] : List Value)[k]? = some v) : Gives L ⟨p, k, none⟩ v :=
  gives_front (M := RParts p n l at_ Kk bl cl ba ca bk ck) hm (fun _ _ h => sat_wj h) (fun _ => gives_blk (List.mem_cons_self ..) hv)
theorem gives_wa {k : Nat} {v : Value} (hm : RowsW p n l Kk at_ bl cl ba ca bk ck ∈ L) (hv : (ints .i64 at_)[k]? = some v) : Gives L (ad ba k) v :=
  gives_front (M := RParts p n l at_ Kk bl cl ba ca bk ck) hm (fun _ _ h => sat_wj h) (fun _ => gives_sl (by exact .tail _ (.tail _ (.head _))) hv)
end
end Go.Proofs.Ytombnfgkgcjihaa.Sp
