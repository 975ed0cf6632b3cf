/- Graphs: what edges say, and how a graph lies in memory. No program in it (but for the numbers of its types). -/
import Derived.Test.YtppgccafgfpkdaaDoorBit
import Derived.Test.YtppgccafgfpkdaaDoorDrw
import Derived.Test.YtppgccafgfpkdaaDoorIdx
namespace Go.Proofs.YtppgccafgfpkdaaDoor.Sp
open Go
abbrev Es := List (Int × Int)
def outs (es : Es) (a : Int) : List Int := (es.filter fun e => e.1 == a).map (·.2)
def inns (es : Es) (b : Int) : List Int := (es.filter fun e => e.2 == b).map (·.1)
def maskL (l : List Int) : Nat := l.foldl (fun m b => m ||| 2 ^ b.toNat) 0
structure GOk (N : Nat) (es : Es) : Prop where
  small : N ≤ 64
  nodup : es.Nodup
  inn : ∀ e ∈ es, 0 ≤ e.1 ∧ e.1 < N ∧ 0 ≤ e.2 ∧ e.2 < N
inductive Rch (es : Es) (a : Int) : Int → Prop
  | refl : Rch es a a
  | step {b c : Int} : Rch es a b → (b, c) ∈ es → Rch es a c
open Classical in
noncomputable def rch (es : Es) (a b : Int) : Bool := decide (Rch es a b)
theorem rch_iff {es : Es} {a b : Int} : rch es a b = true ↔ Rch es a b := by unfold rch; simp
theorem Rch.trans {es : Es} {a b c : Int} (h : Rch es a b) (k : Rch es b c) : Rch es a c := by
  induction k with
  | refl => exact h
  | step _ he ih => exact ih.step he
theorem Rch.mono {es es' : Es} (hs : ∀ e ∈ es, e ∈ es') {a b : Int} (h : Rch es a b) : Rch es' a b := by
  induction h with
  | refl => exact .refl
  | step _ he ih => exact ih.step (hs _ he)
theorem Rch.inn {N : Nat} {es : Es} (h : GOk N es) {a b : Int} (ha : 0 ≤ a ∧ a < N) (k : Rch es a b) : 0 ≤ b ∧ b < N := by
  cases k with
  | refl => exact ha
  | step _ he => exact ⟨(h.inn _ he).2.2.1, (h.inn _ he).2.2.2⟩
theorem mem_outs {es : Es} {a b : Int} : b ∈ outs es a ↔ (a, b) ∈ es := by
  simp only [outs, List.mem_map, List.mem_filter, beq_iff_eq]
  constructor
  · rintro ⟨⟨x, y⟩, ⟨h, rfl⟩, rfl⟩; exact h
  · intro h; exact ⟨(a, b), ⟨h, rfl⟩, rfl⟩
theorem mem_inns {es : Es} {a b : Int} : a ∈ inns es b ↔ (a, b) ∈ es := by
  simp only [inns, List.mem_map, List.mem_filter, beq_iff_eq]
  constructor
  · rintro ⟨⟨x, y⟩, ⟨h, rfl⟩, rfl⟩; exact h
  · intro h; exact ⟨(a, b), ⟨h, rfl⟩, rfl⟩
theorem outs_snoc (es : Es) (a b c : Int) : outs (es ++ [(a, b)]) c = if a = c then outs es c ++ [b] else outs es c := by
  unfold outs
  rw [List.filter_append, List.map_append]
  split
  · rename_i h; subst h; simp
  · rename_i h; simp [h]
theorem inns_snoc (es : Es) (a b c : Int) : inns (es ++ [(a, b)]) c = if b = c then inns es c ++ [a] else inns es c := by
  unfold inns
  rw [List.filter_append, List.map_append]
  split
  · rename_i h; subst h; simp
  · rename_i h; simp [h]
theorem maskL_snoc (l : List Int) (b : Int) : maskL (l ++ [b]) = maskL l ||| 2 ^ b.toNat := by simp [maskL]
theorem maskL_bit (l : List Int) (hl : ∀ x ∈ l, 0 ≤ x) (i : Nat) : (maskL l).testBit i = true ↔ (i : Int) ∈ l := by
  unfold maskL
  have key : ∀ (l : List Int) (m : Nat), (∀ x ∈ l, 0 ≤ x) → ((l.foldl (fun m b => m ||| 2 ^ b.toNat) m).testBit i = true ↔ m.testBit i = true ∨ (i : Int) ∈ l) := by
    intro l
    induction l with
    | nil => intro m _; simp
    | cons x l ih =>
      intro m h
      rw [List.foldl_cons, ih _ (fun y hy => h y (List.mem_cons_of_mem _ hy)), Nat.testBit_or, Nat.testBit_two_pow, List.mem_cons]
      have h0 := h x (List.mem_cons_self ..)
      simp only [Bool.or_eq_true, decide_eq_true_eq]
      constructor
      · rintro ((h1 | h1) | h1)
        · exact .inl h1
        · exact .inr (.inl (by omega))
        · exact .inr (.inr h1)
      · rintro (h1 | h1 | h1)
        · exact .inl (.inl h1)
        · exact .inl (.inr (by omega))
        · exact .inr h1
  rw [key l 0 hl]
  simp
theorem maskL_lt (l : List Int) (hl : ∀ x ∈ l, 0 ≤ x ∧ x < 64) : maskL l < 2 ^ 64 := by
  unfold maskL
  have key : ∀ (l : List Int) (m : Nat), m < 2 ^ 64 → (∀ x ∈ l, 0 ≤ x ∧ x < 64) → l.foldl (fun m b => m ||| 2 ^ b.toNat) m < 2 ^ 64 := by
    intro l
    induction l with
    | nil => exact fun m hm _ => hm
    | cons x l ih =>
      intro m hm h
      have h0 := h x (List.mem_cons_self ..)
      exact ih _ (Nat.or_lt_two_pow hm (Nat.pow_lt_pow_right (by omega) (by omega))) (fun y hy => h y (List.mem_cons_of_mem _ hy))
  exact key l 0 (by omega) hl
theorem GOk.outs_inn {N : Nat} {es : Es} (h : GOk N es) {a x : Int} (hx : x ∈ outs es a) : 0 ≤ x ∧ x < N := by
  have := h.inn _ (mem_outs.1 hx); exact ⟨this.2.2.1, this.2.2.2⟩
theorem GOk.inns_inn {N : Nat} {es : Es} (h : GOk N es) {a x : Int} (hx : x ∈ inns es a) : 0 ≤ x ∧ x < N := by
  have := h.inn _ (mem_inns.1 hx); exact ⟨this.1, this.2.1⟩
theorem GOk.mask_lt {N : Nat} {es : Es} (h : GOk N es) (a : Int) : maskL (outs es a) < 2 ^ 64 :=
  maskL_lt _ fun x hx => by have := h.outs_inn hx; have := h.small; omega
theorem GOk.mask_bit {N : Nat} {es : Es} (h : GOk N es) (a : Int) (i : Nat) : (maskL (outs es a)).testBit i = true ↔ (a, (i : Int)) ∈ es := by
  rw [maskL_bit _ (fun x hx => (h.outs_inn hx).1), mem_outs]
theorem GOk.snoc {N : Nat} {es : Es} (h : GOk N es) {a b : Int} (ha : 0 ≤ a ∧ a < N) (hb : 0 ≤ b ∧ b < N) (hn : (a, b) ∉ es) : GOk N (es ++ [(a, b)]) := by
  refine ⟨h.small, ?_, fun e he => ?_⟩
  · rw [List.nodup_append]
    exact ⟨h.nodup, by simp, fun x hx y hy => by simp at hy; subst hy; intro e; subst e; exact hn hx⟩
  · rcases List.mem_append.1 he with he | he
    · exact h.inn e he
    · simp at he; subst he; exact ⟨ha.1, ha.2, hb.1, hb.2⟩
theorem nodup_outs {es : Es} (h : es.Nodup) (a : Int) : (outs es a).Nodup := by
  unfold outs
  induction es with
  | nil => simp
  | cons e es ih =>
    have hn := List.nodup_cons.1 h
    rw [List.filter_cons]
    split
    · rename_i he
      rw [List.map_cons, List.nodup_cons]
      refine ⟨fun hm => ?_, ih hn.2⟩
      obtain ⟨x, hx, hxe⟩ := List.mem_map.1 hm
      obtain ⟨hx1, hx2⟩ := List.mem_filter.1 hx
      have : x = e := by
        obtain ⟨x1, x2⟩ := x; obtain ⟨e1, e2⟩ := e
        simp only [beq_iff_eq] at he hx2
        simp only at hxe
        subst hxe; rw [hx2, he]
      exact hn.1 (this ▸ hx1)
    · exact ih hn.2
theorem nodup_inns {es : Es} (h : es.Nodup) (a : Int) : (inns es a).Nodup := by
  unfold inns
  induction es with
  | nil => simp
  | cons e es ih =>
    have hn := List.nodup_cons.1 h
    rw [List.filter_cons]
    split
    · rename_i he
      rw [List.map_cons, List.nodup_cons]
      refine ⟨fun hm => ?_, ih hn.2⟩
      obtain ⟨x, hx, hxe⟩ := List.mem_map.1 hm
      obtain ⟨hx1, hx2⟩ := List.mem_filter.1 hx
      have : x = e := by
        obtain ⟨x1, x2⟩ := x; obtain ⟨e1, e2⟩ := e
        simp only [beq_iff_eq] at he hx2
        simp only at hxe
        subst hxe; rw [hx2, he]
      exact hn.1 (this ▸ hx1)
    · exact ih hn.2
theorem nodup_nat_le : ∀ (N : Nat) (l : List Nat), l.Nodup → (∀ x ∈ l, x < N) → l.length ≤ N
  | 0, l, _, h => by
    cases l with
    | nil => simp
    | cons x l => exact absurd (h x (List.mem_cons_self ..)) (by omega)
  | N + 1, l, hn, h => by
    have ih := nodup_nat_le N (l.erase N) (hn.erase N) (fun x hx => by
      have h1 := (hn.mem_erase_iff).1 hx
      have := h x h1.2
      omega)
    have := List.length_erase_le (a := N) (l := l)
    have h2 : l.length ≤ (l.erase N).length + 1 := by rw [List.length_erase]; split <;> omega
    omega
theorem nodup_le {l : List Int} (h : l.Nodup) {N : Nat} (hi : ∀ x ∈ l, 0 ≤ x ∧ x < N) : l.length ≤ N := by
  have h1 : (l.map Int.toNat).Nodup := by
    rw [List.nodup_iff_pairwise_ne, List.pairwise_map]
    refine List.Pairwise.imp_of_mem ?_ (List.nodup_iff_pairwise_ne.1 h)
    intro x y hx hy hne e
    have := hi x hx; have := hi y hy
    omega
  have := nodup_nat_le N (l.map Int.toNat) h1 (fun x hx => by
    obtain ⟨y, hy, rfl⟩ := List.mem_map.1 hx
    have := hi y hy
    omega)
  simpa using this
theorem GOk.outs_le {N : Nat} {es : Es} (h : GOk N es) (a : Int) : (outs es a).length ≤ 64 :=
  Nat.le_trans (nodup_le (nodup_outs h.nodup a) (fun _ hx => h.outs_inn hx)) h.small
theorem GOk.inns_le {N : Nat} {es : Es} (h : GOk N es) (a : Int) : (inns es a).length ≤ 64 :=
  Nat.le_trans (nodup_le (nodup_inns h.nodup a) (fun _ hx => h.inns_inn hx)) h.small

/-! in memory -/
/-- a slice of ints of one's own, whatever its address and its room -/
def IntSl (v : Value) (xs : List Int) : HP := fun f => ∃ bs cp, (SlOk bs xs.length ∧ xs.length ≤ cp ∧ v = .slice bs xs.length cp) ∧ SlV 3 1 (.slice bs xs.length cp) xs.length (ints .i64 xs) f
def rowsL (vs : List Value) (xss : List (List Int)) : List HP := List.zipWith IntSl vs xss
section
variable {K : Act → World → Prop} {W : World} {N : Nat} {E : List (Nat × Value)} {L : List HP}
theorem Sat.openI {v : Value} {xs : List Int} {w : World} (h : Sat (IntSl v xs :: L) w) : ∃ bs cp, SlOk bs xs.length ∧ xs.length ≤ cp ∧ v = .slice bs xs.length cp ∧ Sat (SlV 3 1 (.slice bs xs.length cp) xs.length (ints .i64 xs) :: L) w := by
  obtain ⟨_, ⟨f1, f2, rfl, ⟨bs, cp, ⟨h1, h2, h3⟩, h4⟩, hl⟩, hh⟩ := h
  exact ⟨bs, cp, h1, h2, h3, _, ⟨f1, f2, rfl, h4, hl⟩, hh⟩
theorem Sat.shutI {bs : Option Addr} {cp : Nat} {xs : List Int} {w : World} (h1 : SlOk bs xs.length) (h2 : xs.length ≤ cp) (h : Sat (SlV 3 1 (.slice bs xs.length cp) xs.length (ints .i64 xs) :: L) w) : Sat (IntSl (.slice bs xs.length cp) xs :: L) w :=
  h.imp fun _ hf => ⟨bs, cp, ⟨h1, h2, rfl⟩, hf⟩
theorem Sat.shutIn {bs : Option Addr} {cp n : Nat} {xs : List Int} {w : World} (hn : xs.length = n) (h1 : SlOk bs n) (h2 : n ≤ cp) (h : Sat (SlV 3 1 (.slice bs n cp) n (ints .i64 xs) :: L) w) : Sat (IntSl (.slice bs n cp) xs :: L) w := by
  subst hn; exact h.shutI h1 h2
theorem rowsL_perm {vs : List Value} {xss : List (List Int)} (h : vs.length = xss.length) {a : Nat} (ha : a < vs.length) :
    (rowsL vs xss).Perm (IntSl (vs.getD a undef) (xss.getD a []) :: rowsL (vs.eraseIdx a) (xss.eraseIdx a)) := by
  induction vs generalizing xss a with
  | nil => simp at ha
  | cons v vs ih =>
    cases xss with
    | nil => simp at h
    | cons xs xss =>
      cases a with
      | zero => simp [rowsL]
      | succ a =>
        have := ih (xss := xss) (by simpa using h) (a := a) (by simpa using ha)
        simp only [rowsL, List.zipWith_cons_cons, List.getD_cons_succ, List.eraseIdx_cons_succ] at this ⊢
        exact (List.Perm.cons _ this).trans (.swap _ _ _)
theorem Sat.takeRow {vs : List Value} {xss : List (List Int)} {w : World} (h : vs.length = xss.length) {a : Nat} (ha : a < vs.length) (hs : Sat (Join (rowsL vs xss) :: L) w) :
    Sat (IntSl (vs.getD a undef) (xss.getD a []) :: Join (rowsL (vs.eraseIdx a) (xss.eraseIdx a)) :: L) w := by
  have h1 := (Sat.join.1 hs).perm ((rowsL_perm h ha).append_right L)
  rw [List.cons_append] at h1
  have h2 : Sat (rowsL (vs.eraseIdx a) (xss.eraseIdx a) ++ (IntSl (vs.getD a undef) (xss.getD a []) :: L)) w := h1.perm List.perm_middle.symm
  exact (Sat.join.2 h2).perm (.swap _ _ _)
theorem Sat.putRow {vs : List Value} {xss : List (List Int)} {w : World} (h : vs.length = xss.length) {a : Nat} (ha : a < vs.length) {v : Value} {xs : List Int}
    (hs : Sat (IntSl v xs :: Join (rowsL (vs.eraseIdx a) (xss.eraseIdx a)) :: L) w) : Sat (Join (rowsL (vs.set a v) (xss.set a xs)) :: L) w := by
  have h1 := Sat.join.1 (hs.perm (.swap _ _ _))
  have h2 := h1.perm List.perm_middle
  have hp := rowsL_perm (vs := vs.set a v) (xss := xss.set a xs) (by simpa using h) (a := a) (by simpa using ha)
  have e1 : (vs.set a v).getD a undef = v := by simp [List.getD, ha]
  have e2 : (xss.set a xs).getD a [] = xs := by simp [List.getD, ← h, ha]
  rw [e1, e2, List.eraseIdx_set_eq, List.eraseIdx_set_eq] at hp
  rw [← List.cons_append] at h2
  exact Sat.join.2 (h2.perm (hp.symm.append_right L))
def rowsOf (N : Nat) (f : Int → List Int) : List (List Int) := (List.range N).map fun i : Nat => f (i : Int)
theorem rowsOf_length (N : Nat) (f : Int → List Int) : (rowsOf N f).length = N := by simp [rowsOf]
theorem rowsOf_get {N : Nat} {f : Int → List Int} {a : Nat} (h : a < N) : (rowsOf N f).getD a [] = f (a : Int) := by simp [rowsOf, List.getD, h]
theorem rowsOf_set {N : Nat} {f g : Int → List Int} {a : Nat} (hg : ∀ i : Nat, i ≠ a → g (i : Int) = f (i : Int)) : rowsOf N g = (rowsOf N f).set a (g (a : Int)) := by
  apply List.ext_getElem
  · simp [rowsOf]
  · intro i h1 h2
    simp only [rowsOf, List.getElem_map, List.getElem_range, List.getElem_set]
    split
    · rename_i e; rw [← e]
    · rename_i e; exact hg i (fun h => e h.symm)
def masksOf (N : Nat) (es : Es) : List Int := (List.range N).map fun i : Nat => ((maskL (outs es (i : Int)) : Nat) : Int)
theorem masksOf_length (N : Nat) (es : Es) : (masksOf N es).length = N := by simp [masksOf]
theorem masksOf_get {N : Nat} {es : Es} {a : Nat} (h : a < N) : (masksOf N es).getD a 0 = ((maskL (outs es (a : Int)) : Nat) : Int) := by simp [masksOf, List.getD, h]
theorem masksOf_snoc {N : Nat} {es : Es} {a : Nat} {b : Int} : masksOf N (es ++ [((a : Int), b)]) = (masksOf N es).set a (((maskL (outs es (a : Int)) ||| 2 ^ b.toNat : Nat) : Nat) : Int) := by
  apply List.ext_getElem
  · simp [masksOf]
  · intro i h1 h2
    simp only [masksOf, List.getElem_map, List.getElem_range, List.getElem_set, outs_snoc]
    split
    · rename_i e; rw [if_pos (by omega), maskL_snoc]
      have : (a : Int) = (i : Int) := e
      rw [this]
    · rename_i e; rw [if_neg (by omega)]
/-- the pieces of a graph -/
def GParts (p N : Nat) (es : Es) (bo : Option Addr) (co : Nat) (bi : Option Addr) (ci : Nat) (bt : Option Addr) (ct : Nat) (vo vi : List Value) : List HP :=
  [Blk p [.slice bo N co, .slice bi N ci, .slice bt N ct, .int .i64 ((es.length : Nat) : Int)] 64,
   SlV 33 1 (.slice bo N co) N vo, SlV 33 1 (.slice bi N ci) N vi, SlV 68 1 (.slice bt N ct) N (ints .u64 (masksOf N es)),
   Join (rowsL vo (rowsOf N (outs es))), Join (rowsL vi (rowsOf N (inns es)))]
structure GFacts (N : Nat) (es : Es) (bo bi bt : Option Addr) (vo vi : List Value) : Prop where
  ok : GOk N es
  oko : SlOk bo N
  oki : SlOk bi N
  okt : SlOk bt N
  lo : vo.length = N
  li : vi.length = N
def GraphO (p N : Nat) (es : Es) : HP := fun f => ∃ bo co bi ci bt ct vo vi, GFacts N es bo bi bt vo vi ∧ Parts (GParts p N es bo co bi ci bt ct vo vi) f
theorem Sat.openG {p n : Nat} {es : Es} {w : World} (h : Sat (GraphO p n es :: L) w) : ∃ bo co bi ci bt ct vo vi, GFacts n es bo bi bt vo vi ∧ Sat (GParts p n es bo co bi ci bt ct vo vi ++ L) w := by
  obtain ⟨_, ⟨f1, f2, rfl, ⟨bo, co, bi, ci, bt, ct, vo, vi, h1, h2⟩, hl⟩, hh⟩ := h
  exact ⟨bo, co, bi, ci, bt, ct, vo, vi, h1, _, Parts.append h2 hl, hh⟩
theorem Sat.shutG {p n : Nat} {es : Es} {w : World} {bo : Option Addr} {co : Nat} {bi : Option Addr} {ci : Nat} {bt : Option Addr} {ct : Nat} {vo vi : List Value} (h : GFacts n es bo bi bt vo vi) (hs : Sat (GParts p n es bo co bi ci bt ct vo vi ++ L) w) : Sat (GraphO p n es :: L) w := by
  obtain ⟨f, hp, hh⟩ := hs
  obtain ⟨f1, f2, rfl, h1, h2⟩ := Parts.split hp
  exact ⟨_, ⟨f1, f2, rfl, ⟨bo, co, bi, ci, bt, ct, vo, vi, h, h1⟩, h2⟩, hh⟩
theorem t_openG {p n : Nat} {es : Es} (k : ∀ bo co bi ci bt ct vo vi, GFacts n es bo bi bt vo vi → Tri K W N E (Blk p [.slice bo n co, .slice bi n ci, .slice bt n ct, .int .i64 ((es.length : Nat) : Int)] 64 :: SlV 33 1 (.slice bo n co) n vo :: SlV 33 1 (.slice bi n ci) n vi :: SlV 68 1 (.slice bt n ct) n (ints .u64 (masksOf n es)) :: Join (rowsL vo (rowsOf n (outs es))) :: Join (rowsL vi (rowsOf n (inns es))) :: L)) : Tri K W N E (GraphO p n es :: L) := fun a w s => by
  obtain ⟨bo, co, bi, ci, bt, ct, vo, vi, h1, h2⟩ := s.sat.openG
  exact k bo co bi ci bt ct vo vi h1 a w ⟨s.size, s.defers, s.env, h2, s.ext⟩
theorem t_shutG {p n : Nat} {es : Es} {bo : Option Addr} {co : Nat} {bi : Option Addr} {ci : Nat} {bt : Option Addr} {ct : Nat} {vo vi : List Value} (h : GFacts n es bo bi bt vo vi) (k : Tri K W N E (GraphO p n es :: L)) : Tri K W N E (Blk p [.slice bo n co, .slice bi n ci, .slice bt n ct, .int .i64 ((es.length : Nat) : Int)] 64 :: SlV 33 1 (.slice bo n co) n vo :: SlV 33 1 (.slice bi n ci) n vi :: SlV 68 1 (.slice bt n ct) n (ints .u64 (masksOf n es)) :: Join (rowsL vo (rowsOf n (outs es))) :: Join (rowsL vi (rowsOf n (inns es))) :: L) :=
  t_sat (fun _ hs => hs.shutG h) k
theorem t_openI {v : Value} {xs : List Int} (k : ∀ bs cp, SlOk bs xs.length → xs.length ≤ cp → v = .slice bs xs.length cp → Tri K W N E (SlV 3 1 (.slice bs xs.length cp) xs.length (ints .i64 xs) :: L)) : Tri K W N E (IntSl v xs :: L) := fun a w s => by
  obtain ⟨bs, cp, h1, h2, h3, h4⟩ := s.sat.openI
  exact k bs cp h1 h2 h3 a w ⟨s.size, s.defers, s.env, h4, s.ext⟩
theorem Sat.midRow {A B C D : HP} {vs : List Value} {xss : List (List Int)} {w : World} (h : Sat (A :: B :: C :: D :: Join (rowsL vs xss) :: L) w) : Sat (Join (rowsL vs xss) :: A :: B :: C :: D :: L) w := h.perm (perm_front [A, B, C, D] _)
/-- a row of one's own can be read -/
theorem rd_row {vs : List Value} {xss : List (List Int)} (hm : Join (rowsL vs xss) ∈ L) (h : vs.length = xss.length) {a : Nat} (ha : a < vs.length) {w0 : World} (hs0 : Sat L w0) :
    ∃ bs cp, SlOk bs (xss.getD a []).length ∧ (xss.getD a []).length ≤ cp ∧ vs.getD a undef = .slice bs (xss.getD a []).length cp ∧ Rd L bs (ints .i64 (xss.getD a [])) := by
  obtain ⟨L1, L2, rfl⟩ := List.append_of_mem hm
  have front : ∀ w, Sat (L1 ++ Join (rowsL vs xss) :: L2) w → Sat (IntSl (vs.getD a undef) (xss.getD a []) :: Join (rowsL (vs.eraseIdx a) (xss.eraseIdx a)) :: (L1 ++ L2)) w := fun w hs =>
    (hs.perm List.perm_middle).takeRow h ha
  obtain ⟨bs, cp, h1, h2, h3, _⟩ := (front w0 hs0).openI
  refine ⟨bs, cp, h1, h2, h3, fun w hs => ?_⟩
  obtain ⟨bs', cp', _, _, h3', h4'⟩ := (front w hs).openI
  rw [h3] at h3'
  cases h3'
  exact rd_sl (List.mem_cons_self ..) w h4'
theorem t_rdRow {vs : List Value} {xss : List (List Int)} (hm : Join (rowsL vs xss) ∈ L) (h : vs.length = xss.length) {a : Nat} (ha : a < vs.length)
    (k : ∀ bs cp, SlOk bs (xss.getD a []).length → (xss.getD a []).length ≤ cp → vs.getD a undef = .slice bs (xss.getD a []).length cp → Rd L bs (ints .i64 (xss.getD a [])) → Tri K W N E L) : Tri K W N E L := fun c w s => by
  obtain ⟨bs, cp, h1, h2, h3, h4⟩ := rd_row hm h ha s.sat
  exact k bs cp h1 h2 h3 h4 c w s
def thereB (N : Nat) (ts : List Int) : Bool := !ts.any fun a => decide (a < 0) || decide (a ≥ (N : Int))
theorem gok_of {p n : Nat} {es : Es} {w : World} (h : Sat (GraphO p n es :: L) w) : GOk n es := by
  obtain ⟨_, _, _, _, _, _, _, _, h1, _⟩ := h.openG; exact h1.ok
end
/-! what the calls answer -/
def valid (N : Nat) (a : Int) : Bool := decide (0 ≤ a) && decide (a < (N : Int))
def hasE (es : Es) (e : Int × Int) : Bool := es.contains e
def isNew (N : Nat) (es : Es) (a b : Int) : Bool := valid N a && valid N b && !es.contains (a, b)
def addE (N : Nat) (es : Es) (a b : Int) : Es := bif isNew N es a b then es ++ [(a, b)] else es
def addErr (N : Nat) (a b : Int) : Int := bif valid N a && valid N b then 0 else 1
def clampN (n : Int) : Nat := (min (max n 0) 64).toNat
noncomputable def reachB (N : Nat) (es : Es) (a b : Int) : Bool := valid N a && valid N b && rch es a b
noncomputable def reachL (N : Nat) (es : Es) (a : Int) : List Int := bif valid N a then ((List.range N).filter fun i : Nat => rch es a (i : Int)).map fun i : Nat => (i : Int) else []
theorem valid_iff {N : Nat} {a : Int} : valid N a = true ↔ 0 ≤ a ∧ a < N := by simp [valid]
theorem valid_nat {N a : Nat} (h : a < N) : valid N (a : Int) = true := valid_iff.2 ⟨by omega, by omega⟩
theorem thereB_cons (N : Nat) (a : Int) (l : List Int) : thereB N (a :: l) = (valid N a && thereB N l) := by
  unfold thereB valid
  rw [List.any_cons, Bool.not_or]
  congr 1
  rw [Bool.eq_iff_iff]; simp
theorem thereB_nil (N : Nat) : thereB N [] = true := rfl
theorem thereB_1 (N : Nat) (a : Int) : thereB N [a] = valid N a := by rw [thereB_cons, thereB_nil, Bool.and_true]
theorem thereB_2 (N : Nat) (a b : Int) : thereB N [a, b] = (valid N a && valid N b) := by rw [thereB_cons, thereB_1]
theorem there_t1 {N a : Nat} (h : a < N) : thereB N [(a : Int)] = true := by rw [thereB_1]; exact valid_nat h
theorem there_t2 {N a b : Nat} (h : a < N) (k : b < N) : thereB N [(a : Int), (b : Int)] = true := by rw [thereB_2, valid_nat h, valid_nat k]; rfl
theorem valid_cases (N : Nat) (a : Int) : (∃ k : Nat, k < N ∧ a = (k : Int)) ∨ valid N a = false := by
  cases h : valid N a with
  | false => exact .inr rfl
  | true => obtain ⟨h1, h2⟩ := valid_iff.1 h; exact .inl ⟨a.toNat, by omega, by omega⟩
theorem there_cases2 (N : Nat) (a b : Int) : (∃ k m : Nat, k < N ∧ m < N ∧ a = (k : Int) ∧ b = (m : Int)) ∨ (thereB N [a, b] = false ∧ (valid N a && valid N b) = false) := by
  rw [thereB_2]
  rcases valid_cases N a with ⟨k, hk, rfl⟩ | h
  · rcases valid_cases N b with ⟨m, hm, rfl⟩ | h'
    · exact .inl ⟨k, m, hk, hm, rfl, rfl⟩
    · exact .inr (by simp [h'])
  · exact .inr (by simp [h])
theorem there_cases1 (N : Nat) (a : Int) : (∃ k : Nat, k < N ∧ a = (k : Int)) ∨ (thereB N [a] = false ∧ valid N a = false) := by
  rw [thereB_1]
  rcases valid_cases N a with h | h
  · exact .inl h
  · exact .inr ⟨h, h⟩
theorem GOk.valid {N : Nat} {es : Es} (h : GOk N es) {a b : Int} (he : (a, b) ∈ es) : Sp.valid N a = true ∧ Sp.valid N b = true := by
  have := h.inn _ he
  exact ⟨valid_iff.2 ⟨this.1, this.2.1⟩, valid_iff.2 ⟨this.2.2.1, this.2.2.2⟩⟩
theorem GOk.hasE_bit {N : Nat} {es : Es} (h : GOk N es) (a b : Nat) : (maskL (outs es (a : Int))).testBit b = hasE es ((a : Int), (b : Int)) := by
  rw [Bool.eq_iff_iff, h.mask_bit]; simp [hasE]
theorem GOk.hasE_f {N : Nat} {es : Es} (h : GOk N es) {a b : Int} (hv : (Sp.valid N a && Sp.valid N b) = false) : hasE es (a, b) = false := by
  cases hb : hasE es (a, b) with
  | false => rfl
  | true =>
    have := h.valid (a := a) (b := b) (by simpa [hasE] using hb)
    rw [this.1, this.2] at hv; cases hv
theorem outs_f {N : Nat} {es : Es} (h : GOk N es) {a : Int} (hv : valid N a = false) : outs es a = [] := by
  unfold outs
  rw [List.map_eq_nil_iff, List.filter_eq_nil_iff]
  intro e he hc
  have := (h.valid (a := e.1) (b := e.2) he).1
  simp only [beq_iff_eq] at hc
  rw [hc, hv] at this; cases this
theorem inns_f {N : Nat} {es : Es} (h : GOk N es) {a : Int} (hv : valid N a = false) : inns es a = [] := by
  unfold inns
  rw [List.map_eq_nil_iff, List.filter_eq_nil_iff]
  intro e he hc
  have := (h.valid (a := e.1) (b := e.2) he).2
  simp only [beq_iff_eq] at hc
  rw [hc, hv] at this; cases this
theorem GOk.len_le {N : Nat} {es : Es} (h : GOk N es) : es.length ≤ 4096 := by
  have h1 : (es.map fun e => e.1 * 64 + e.2).Nodup := by
    rw [List.nodup_iff_pairwise_ne, List.pairwise_map]
    refine List.Pairwise.imp_of_mem ?_ (List.nodup_iff_pairwise_ne.1 h.nodup)
    intro x y hx hy hne e
    have := h.inn x hx; have := h.inn y hy; have := h.small
    apply hne
    obtain ⟨x1, x2⟩ := x; obtain ⟨y1, y2⟩ := y
    simp only at *
    have : x1 = y1 := by omega
    have : x2 = y2 := by omega
    subst_vars; rfl
  have := nodup_le h1 (N := 4096) (fun x hx => by
    obtain ⟨e, he, rfl⟩ := List.mem_map.1 hx
    have := h.inn e he; have := h.small
    omega)
  simpa using this
theorem addE_new {N : Nat} {es : Es} {a b : Nat} (ha : a < N) (hb : b < N) (h : hasE es ((a : Int), (b : Int)) = false) : addE N es a b = es ++ [((a : Int), (b : Int))] ∧ isNew N es a b = true ∧ addErr N a b = 0 := by
  have h1 : isNew N es a b = true := by
    unfold isNew; rw [valid_nat ha, valid_nat hb]
    simpa [hasE] using h
  refine ⟨by unfold addE; rw [h1]; rfl, h1, ?_⟩
  unfold addErr; rw [valid_nat ha, valid_nat hb]; rfl
theorem addE_old {N : Nat} {es : Es} {a b : Nat} (ha : a < N) (hb : b < N) (h : hasE es ((a : Int), (b : Int)) = true) : addE N es a b = es ∧ isNew N es a b = false ∧ addErr N a b = 0 := by
  have h1 : isNew N es a b = false := by
    unfold isNew; rw [valid_nat ha, valid_nat hb]
    simpa [hasE] using h
  refine ⟨by unfold addE; rw [h1]; rfl, h1, ?_⟩
  unfold addErr; rw [valid_nat ha, valid_nat hb]; rfl
theorem addE_bad {N : Nat} {es : Es} {a b : Int} (h : (valid N a && valid N b) = false) : addE N es a b = es ∧ isNew N es a b = false ∧ addErr N a b = 1 := by
  have h1 : isNew N es a b = false := by unfold isNew; rw [h]; rfl
  refine ⟨by unfold addE; rw [h1]; rfl, h1, ?_⟩
  unfold addErr; rw [h]; rfl
theorem rows_outs_snoc (N : Nat) (es : Es) (a : Nat) (b : Int) : (rowsOf N (outs es)).set a (outs es (a : Int) ++ [b]) = rowsOf N (outs (es ++ [((a : Int), b)])) := by
  have := rowsOf_set (N := N) (f := outs es) (g := outs (es ++ [((a : Int), b)])) (a := a) (fun i hi => by rw [outs_snoc, if_neg (by omega)])
  rw [this, outs_snoc, if_pos rfl]
theorem rows_inns_snoc (N : Nat) (es : Es) (a : Int) (b : Nat) : (rowsOf N (inns es)).set b (inns es (b : Int) ++ [a]) = rowsOf N (inns (es ++ [(a, (b : Int))])) := by
  have := rowsOf_set (N := N) (f := inns es) (g := inns (es ++ [(a, (b : Int))])) (a := b) (fun i hi => by rw [inns_snoc, if_neg (by omega)])
  rw [this, inns_snoc, if_pos rfl]
end Go.Proofs.YtppgccafgfpkdaaDoor.Sp
