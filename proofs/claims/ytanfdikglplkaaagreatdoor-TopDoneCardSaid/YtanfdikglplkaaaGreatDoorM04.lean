/- Parts Gra, Opm, Opm2, Val2, Lif, Pln: own lemmas and contracts of the code that the claim reaches. -/
import Derived.Test.YtanfdikglplkaaaGreatDoorM03
import Derived.Test.YtanfdikglplkaaaGreatDoorM02
set_option linter.unusedSimpArgs false
set_option linter.unusedVariables false
namespace Go.Proofs.YtanfdikglplkaaaGreatDoor.Sp
open Go
abbrev Es := List (Int × Int)
def outs (es : Es) (a : Int) : List Int := (es.filter fun e => e.1 == a).map (·.2)
def inns (es : Es) (b : Int) : List Int := (es.filter fun e => e.2 == b).map (·.1)
def maskL (l : List Int) : Nat := l.foldl (fun m b => m ||| 2 ^ b.toNat) 0
structure GOk (N : Nat) (es : Es) : Prop where
  small : N ≤ 64
  nodup : es.Nodup
  inn : ∀ e ∈ es, 0 ≤ e.1 ∧ e.1 < N ∧ 0 ≤ e.2 ∧ e.2 < N
inductive Rch (es : Es) (a : Int) : Int → Prop
  | refl : Rch es a a
  | step {b c : Int} : Rch es a b → (b, c) ∈ es → Rch es a c
open Classical in
noncomputable def rch (es : Es) (a b : Int) : Bool := decide (Rch es a b)
theorem rch_iff {es : Es} {a b : Int} : rch es a b = true ↔ Rch es a b := by unfold rch; simp
theorem Rch.inn {N : Nat} {es : Es} (h : GOk N es) {a b : Int} (ha : 0 ≤ a ∧ a < N) (k : Rch es a b) : 0 ≤ b ∧ b < N := by
  cases k with
  | refl => exact ha
  | step _ he => exact ⟨(h.inn _ he).2.2.1, (h.inn _ he).2.2.2⟩
theorem mem_outs {es : Es} {a b : Int} : b ∈ outs es a ↔ (a, b) ∈ es := by
  simp only [outs, List.mem_map, List.mem_filter, beq_iff_eq]
  constructor
  · rintro ⟨⟨x, y⟩, ⟨h, rfl⟩, rfl⟩; exact h
  · intro h; exact ⟨(a, b), ⟨h, rfl⟩, rfl⟩
theorem mem_inns {es : Es} {a b : Int} : a ∈ inns es b ↔ (a, b) ∈ es := by
  simp only [inns, List.mem_map, List.mem_filter, beq_iff_eq]
  constructor
  · rintro ⟨⟨x, y⟩, ⟨h, rfl⟩, rfl⟩; exact h
  · intro h; exact ⟨(a, b), ⟨h, rfl⟩, rfl⟩
theorem maskL_bit (l : List Int) (hl : ∀ x ∈ l, 0 ≤ x) (i : Nat) : (maskL l).testBit i = true ↔ (i : Int) ∈ l := by
  unfold maskL
  have key : ∀ (l : List Int) (m : Nat), (∀ x ∈ l, 0 ≤ x) → ((l.foldl (fun m b => m ||| 2 ^ b.toNat) m).testBit i = true ↔ m.testBit i = true ∨ (i : Int) ∈ l) := by
    intro l
    induction l with
    | nil => intro m _; simp
    | cons x l ih =>
      intro m h
      rw [List.foldl_cons, ih _ (fun y hy => h y (List.mem_cons_of_mem _ hy)), Nat.testBit_or, Nat.testBit_two_pow, List.mem_cons]
      have h0 := h x (List.mem_cons_self ..)
      simp only [Bool.or_eq_true, decide_eq_true_eq]
      constructor
      · rintro ((h1 | h1) | h1)
        · exact .inl h1
        · exact .inr (.inl (by omega))
        · exact .inr (.inr h1)
      · rintro (h1 | h1 | h1)
        · exact .inl (.inl h1)
        · exact .inl (.inr (by omega))
        · exact .inr h1
  rw [key l 0 hl]
  simp
theorem maskL_lt (l : List Int) (hl : ∀ x ∈ l, 0 ≤ x ∧ x < 64) : maskL l < 2 ^ 64 := by
  unfold maskL
  have key : ∀ (l : List Int) (m : Nat), m < 2 ^ 64 → (∀ x ∈ l, 0 ≤ x ∧ x < 64) → l.foldl (fun m b => m ||| 2 ^ b.toNat) m < 2 ^ 64 := by
    intro l
    induction l with
    | nil => exact fun m hm _ => hm
    | cons x l ih =>
      intro m hm h
      have h0 := h x (List.mem_cons_self ..)
      exact ih _ (Nat.or_lt_two_pow hm (Nat.pow_lt_pow_right (by omega) (by omega))) (fun y hy => h y (List.mem_cons_of_mem _ hy))
  exact key l 0 (by omega) hl
theorem GOk.outs_inn {N : Nat} {es : Es} (h : GOk N es) {a x : Int} (hx : x ∈ outs es a) : 0 ≤ x ∧ x < N := by
  have := h.inn _ (mem_outs.1 hx); exact ⟨this.2.2.1, this.2.2.2⟩
theorem GOk.inns_inn {N : Nat} {es : Es} (h : GOk N es) {a x : Int} (hx : x ∈ inns es a) : 0 ≤ x ∧ x < N := by
  have := h.inn _ (mem_inns.1 hx); exact ⟨this.1, this.2.1⟩
theorem GOk.mask_lt {N : Nat} {es : Es} (h : GOk N es) (a : Int) : maskL (outs es a) < 2 ^ 64 :=
  maskL_lt _ fun x hx => by have := h.outs_inn hx; have := h.small; omega
theorem GOk.mask_bit {N : Nat} {es : Es} (h : GOk N es) (a : Int) (i : Nat) : (maskL (outs es a)).testBit i = true ↔ (a, (i : Int)) ∈ es := by
  rw [maskL_bit _ (fun x hx => (h.outs_inn hx).1), mem_outs]
theorem nodup_inns {es : Es} (h : es.Nodup) (a : Int) : (inns es a).Nodup := by
  unfold inns
  induction es with
  | nil => simp
  | cons e es ih =>
    have hn := List.nodup_cons.1 h
    rw [List.filter_cons]
    split
    · rename_i he
      rw [List.map_cons, List.nodup_cons]
      refine ⟨fun hm => ?_, ih hn.2⟩
      obtain ⟨x, hx, hxe⟩ := List.mem_map.1 hm
      obtain ⟨hx1, hx2⟩ := List.mem_filter.1 hx
      have : x = e := by
        obtain ⟨x1, x2⟩ := x; obtain ⟨e1, e2⟩ := e
        simp only [beq_iff_eq] at he hx2
        simp only at hxe
        subst hxe; rw [hx2, he]
      exact hn.1 (this ▸ hx1)
    · exact ih hn.2
theorem nodup_nat_le : ∀ (N : Nat) (l : List Nat), l.Nodup → (∀ x ∈ l, x < N) → l.length ≤ N
  | 0, l, _, h => by
    cases l with
    | nil => simp
    | cons x l => exact absurd (h x (List.mem_cons_self ..)) (by omega)
  | N + 1, l, hn, h => by
    have ih := nodup_nat_le N (l.erase N) (hn.erase N) (fun x hx => by
      have h1 := (hn.mem_erase_iff).1 hx
      have := h x h1.2
      omega)
    have := List.length_erase_le (a := N) (l := l)
    have h2 : l.length ≤ (l.erase N).length + 1 := by rw [List.length_erase]; split <;> omega
    omega
theorem nodup_le {l : List Int} (h : l.Nodup) {N : Nat} (hi : ∀ x ∈ l, 0 ≤ x ∧ x < N) : l.length ≤ N := by
  have h1 : (l.map Int.toNat).Nodup := by
    rw [List.nodup_iff_pairwise_ne, List.pairwise_map]
    refine List.Pairwise.imp_of_mem ?_ (List.nodup_iff_pairwise_ne.1 h)
    intro x y hx hy hne e
    have := hi x hx; have := hi y hy
    omega
  have := nodup_nat_le N (l.map Int.toNat) h1 (fun x hx => by
    obtain ⟨y, hy, rfl⟩ := List.mem_map.1 hx
    have := hi y hy
    omega)
  simpa using this
theorem GOk.inns_le {N : Nat} {es : Es} (h : GOk N es) (a : Int) : (inns es a).length ≤ 64 :=
  Nat.le_trans (nodup_le (nodup_inns h.nodup a) (fun _ hx => h.inns_inn hx)) h.small
def IntSl (v : Value) (xs : List Int) : HP := fun f => ∃ bs cp, (SlOk bs xs.length ∧ xs.length ≤ cp ∧ v = .slice bs xs.length cp) ∧ SlV 3 1 (.slice bs xs.length cp) xs.length (ints .i64 xs) f
def rowsL (vs : List Value) (xss : List (List Int)) : List HP := List.zipWith IntSl vs xss
section
variable {K : Act → World → Prop} {W : World} {N : Nat} {E : List (Nat × Value)} {L : List HP}
theorem Sat.openI {v : Value} {xs : List Int} {w : World} (h : Sat (IntSl v xs :: L) w) : ∃ bs cp, SlOk bs xs.length ∧ xs.length ≤ cp ∧ v = .slice bs xs.length cp ∧ Sat (SlV 3 1 (.slice bs xs.length cp) xs.length (ints .i64 xs) :: L) w := by
  obtain ⟨_, ⟨f1, f2, rfl, ⟨bs, cp, ⟨h1, h2, h3⟩, h4⟩, hl⟩, hh⟩ := h
  exact ⟨bs, cp, h1, h2, h3, _, ⟨f1, f2, rfl, h4, hl⟩, hh⟩
theorem Sat.shutI {bs : Option Addr} {cp : Nat} {xs : List Int} {w : World} (h1 : SlOk bs xs.length) (h2 : xs.length ≤ cp) (h : Sat (SlV 3 1 (.slice bs xs.length cp) xs.length (ints .i64 xs) :: L) w) : Sat (IntSl (.slice bs xs.length cp) xs :: L) w :=
  h.imp fun _ hf => ⟨bs, cp, ⟨h1, h2, rfl⟩, hf⟩
theorem rowsL_perm {vs : List Value} {xss : List (List Int)} (h : vs.length = xss.length) {a : Nat} (ha : a < vs.length) :
    (rowsL vs xss).Perm (IntSl (vs.getD a undef) (xss.getD a []) :: rowsL (vs.eraseIdx a) (xss.eraseIdx a)) := by
  induction vs generalizing xss a with
  | nil => simp at ha
  | cons v vs ih =>
    cases xss with
    | nil => simp at h
    | cons xs xss =>
      cases a with
      | zero => simp [rowsL]
      | succ a =>
        have := ih (xss := xss) (by simpa using h) (a := a) (by simpa using ha)
        simp only [rowsL, List.zipWith_cons_cons, List.getD_cons_succ, List.eraseIdx_cons_succ] at this ⊢
        exact (List.Perm.cons _ this).trans (.swap _ _ _)
theorem Sat.takeRow {vs : List Value} {xss : List (List Int)} {w : World} (h : vs.length = xss.length) {a : Nat} (ha : a < vs.length) (hs : Sat (Join (rowsL vs xss) :: L) w) :
    Sat (IntSl (vs.getD a undef) (xss.getD a []) :: Join (rowsL (vs.eraseIdx a) (xss.eraseIdx a)) :: L) w := by
  have h1 := (Sat.join.1 hs).perm ((rowsL_perm h ha).append_right L)
  rw [List.cons_append] at h1
  have h2 : Sat (rowsL (vs.eraseIdx a) (xss.eraseIdx a) ++ (IntSl (vs.getD a undef) (xss.getD a []) :: L)) w := h1.perm List.perm_middle.symm
  exact (Sat.join.2 h2).perm (.swap _ _ _)
def rowsOf (N : Nat) (f : Int → List Int) : List (List Int) := (List.range N).map fun i : Nat => f (i : Int)
theorem rowsOf_length (N : Nat) (f : Int → List Int) : (rowsOf N f).length = N := by simp [rowsOf]
theorem rowsOf_get {N : Nat} {f : Int → List Int} {a : Nat} (h : a < N) : (rowsOf N f).getD a [] = f (a : Int) := by simp [rowsOf, List.getD, h]
def masksOf (N : Nat) (es : Es) : List Int := (List.range N).map fun i : Nat => ((maskL (outs es (i : Int)) : Nat) : Int)
theorem masksOf_length (N : Nat) (es : Es) : (masksOf N es).length = N := by simp [masksOf]
theorem masksOf_get {N : Nat} {es : Es} {a : Nat} (h : a < N) : (masksOf N es).getD a 0 = ((maskL (outs es (a : Int)) : Nat) : Int) := by simp [masksOf, List.getD, h]
def GParts (p N : Nat) (es : Es) (bo : Option Addr) (co : Nat) (bi : Option Addr) (ci : Nat) (bt : Option Addr) (ct : Nat) (vo vi : List Value) : List HP :=
  [Blk p [.slice bo N co, .slice bi N ci, .slice bt N ct, .int .i64 ((es.length : Nat) : Int)] 126,
   SlV 34 1 (.slice bo N co) N vo, SlV 34 1 (.slice bi N ci) N vi, SlV 166 1 (.slice bt N ct) N (ints .u64 (masksOf N es)),
   Join (rowsL vo (rowsOf N (outs es))), Join (rowsL vi (rowsOf N (inns es)))]
structure GFacts (N : Nat) (es : Es) (bo bi bt : Option Addr) (vo vi : List Value) : Prop where
  ok : GOk N es
  oko : SlOk bo N
  oki : SlOk bi N
  okt : SlOk bt N
  lo : vo.length = N
  li : vi.length = N
def GraphO (p N : Nat) (es : Es) : HP := fun f => ∃ bo co bi ci bt ct vo vi, GFacts N es bo bi bt vo vi ∧ Parts (GParts p N es bo co bi ci bt ct vo vi) f
theorem Sat.openG {p n : Nat} {es : Es} {w : World} (h : Sat (GraphO p n es :: L) w) : ∃ bo co bi ci bt ct vo vi, GFacts n es bo bi bt vo vi ∧ Sat (GParts p n es bo co bi ci bt ct vo vi ++ L) w := by
  obtain ⟨_, ⟨f1, f2, rfl, ⟨bo, co, bi, ci, bt, ct, vo, vi, h1, h2⟩, hl⟩, hh⟩ := h
  exact ⟨bo, co, bi, ci, bt, ct, vo, vi, h1, _, Parts.append h2 hl, hh⟩
theorem Sat.shutG {p n : Nat} {es : Es} {w : World} {bo : Option Addr} {co : Nat} {bi : Option Addr} {ci : Nat} {bt : Option Addr} {ct : Nat} {vo vi : List Value} (h : GFacts n es bo bi bt vo vi) (hs : Sat (GParts p n es bo co bi ci bt ct vo vi ++ L) w) : Sat (GraphO p n es :: L) w := by
  obtain ⟨f, hp, hh⟩ := hs
  obtain ⟨f1, f2, rfl, h1, h2⟩ := Parts.split hp
  exact ⟨_, ⟨f1, f2, rfl, ⟨bo, co, bi, ci, bt, ct, vo, vi, h, h1⟩, h2⟩, hh⟩
theorem t_openG {p n : Nat} {es : Es} (k : ∀ bo co bi ci bt ct vo vi, GFacts n es bo bi bt vo vi → Tri K W N E (Blk p [.slice bo n co, .slice bi n ci, .slice bt n ct, .int .i64 ((es.length : Nat) : Int)] 126 :: SlV 34 1 (.slice bo n co) n vo :: SlV 34 1 (.slice bi n ci) n vi :: SlV 166 1 (.slice bt n ct) n (ints .u64 (masksOf n es)) :: Join (rowsL vo (rowsOf n (outs es))) :: Join (rowsL vi (rowsOf n (inns es))) :: L)) : Tri K W N E (GraphO p n es :: L) := fun a w s => by
  obtain ⟨bo, co, bi, ci, bt, ct, vo, vi, h1, h2⟩ := s.sat.openG
  exact k bo co bi ci bt ct vo vi h1 a w ⟨s.size, s.defers, s.env, h2, s.ext⟩
theorem t_shutG {p n : Nat} {es : Es} {bo : Option Addr} {co : Nat} {bi : Option Addr} {ci : Nat} {bt : Option Addr} {ct : Nat} {vo vi : List Value} (h : GFacts n es bo bi bt vo vi) (k : Tri K W N E (GraphO p n es :: L)) : Tri K W N E (Blk p [.slice bo n co, .slice bi n ci, .slice bt n ct, .int .i64 ((es.length : Nat) : Int)] 126 :: SlV 34 1 (.slice bo n co) n vo :: SlV 34 1 (.slice bi n ci) n vi :: SlV 166 1 (.slice bt n ct) n (ints .u64 (masksOf n es)) :: Join (rowsL vo (rowsOf n (outs es))) :: Join (rowsL vi (rowsOf n (inns es))) :: L) :=
  t_sat (fun _ hs => hs.shutG h) k
theorem rd_row {vs : List Value} {xss : List (List Int)} (hm : Join (rowsL vs xss) ∈ L) (h : vs.length = xss.length) {a : Nat} (ha : a < vs.length) {w0 : World} (hs0 : Sat L w0) :
    ∃ bs cp, SlOk bs (xss.getD a []).length ∧ (xss.getD a []).length ≤ cp ∧ vs.getD a undef = .slice bs (xss.getD a []).length cp ∧ Rd L bs (ints .i64 (xss.getD a [])) := by
  obtain ⟨L1, L2, rfl⟩ := List.append_of_mem hm
  have front : ∀ w, Sat (L1 ++ Join (rowsL vs xss) :: L2) w → Sat (IntSl (vs.getD a undef) (xss.getD a []) :: Join (rowsL (vs.eraseIdx a) (xss.eraseIdx a)) :: (L1 ++ L2)) w := fun w hs =>
    (hs.perm List.perm_middle).takeRow h ha
  obtain ⟨bs, cp, h1, h2, h3, _⟩ := (front w0 hs0).openI
  refine ⟨bs, cp, h1, h2, h3, fun w hs => ?_⟩
  obtain ⟨bs', cp', _, _, h3', h4'⟩ := (front w hs).openI
  rw [h3] at h3'
  cases h3'
  exact rd_sl (List.mem_cons_self ..) w h4'
theorem t_rdRow {vs : List Value} {xss : List (List Int)} (hm : Join (rowsL vs xss) ∈ L) (h : vs.length = xss.length) {a : Nat} (ha : a < vs.length)
    (k : ∀ bs cp, SlOk bs (xss.getD a []).length → (xss.getD a []).length ≤ cp → vs.getD a undef = .slice bs (xss.getD a []).length cp → Rd L bs (ints .i64 (xss.getD a [])) → Tri K W N E L) : Tri K W N E L := fun c w s => by
  obtain ⟨bs, cp, h1, h2, h3, h4⟩ := rd_row hm h ha s.sat
  exact k bs cp h1 h2 h3 h4 c w s
def thereB (N : Nat) (ts : List Int) : Bool := !ts.any fun a => decide (a < 0) || decide (a ≥ (N : Int))
theorem gok_of {p n : Nat} {es : Es} {w : World} (h : Sat (GraphO p n es :: L) w) : GOk n es := by
  obtain ⟨_, _, _, _, _, _, _, _, h1, _⟩ := h.openG; exact h1.ok
end
def valid (N : Nat) (a : Int) : Bool := decide (0 ≤ a) && decide (a < (N : Int))
def clampN (n : Int) : Nat := (min (max n 0) 64).toNat
noncomputable def reachB (N : Nat) (es : Es) (a b : Int) : Bool := valid N a && valid N b && rch es a b
noncomputable def reachL (N : Nat) (es : Es) (a : Int) : List Int := bif valid N a then ((List.range N).filter fun i : Nat => rch es a (i : Int)).map fun i : Nat => (i : Int) else []
theorem valid_iff {N : Nat} {a : Int} : valid N a = true ↔ 0 ≤ a ∧ a < N := by simp [valid]
theorem valid_nat {N a : Nat} (h : a < N) : valid N (a : Int) = true := valid_iff.2 ⟨by omega, by omega⟩
theorem thereB_cons (N : Nat) (a : Int) (l : List Int) : thereB N (a :: l) = (valid N a && thereB N l) := by
  unfold thereB valid
  rw [List.any_cons, Bool.not_or]
  congr 1
  rw [Bool.eq_iff_iff]; simp
theorem thereB_nil (N : Nat) : thereB N [] = true := rfl
theorem thereB_1 (N : Nat) (a : Int) : thereB N [a] = valid N a := by rw [thereB_cons, thereB_nil, Bool.and_true]
theorem thereB_2 (N : Nat) (a b : Int) : thereB N [a, b] = (valid N a && valid N b) := by rw [thereB_cons, thereB_1]
theorem there_t1 {N a : Nat} (h : a < N) : thereB N [(a : Int)] = true := by rw [thereB_1]; exact valid_nat h
theorem there_t2 {N a b : Nat} (h : a < N) (k : b < N) : thereB N [(a : Int), (b : Int)] = true := by rw [thereB_2, valid_nat h, valid_nat k]; rfl
theorem valid_cases (N : Nat) (a : Int) : (∃ k : Nat, k < N ∧ a = (k : Int)) ∨ valid N a = false := by
  cases h : valid N a with
  | false => exact .inr rfl
  | true => obtain ⟨h1, h2⟩ := valid_iff.1 h; exact .inl ⟨a.toNat, by omega, by omega⟩
theorem there_cases2 (N : Nat) (a b : Int) : (∃ k m : Nat, k < N ∧ m < N ∧ a = (k : Int) ∧ b = (m : Int)) ∨ (thereB N [a, b] = false ∧ (valid N a && valid N b) = false) := by
  rw [thereB_2]
  rcases valid_cases N a with ⟨k, hk, rfl⟩ | h
  · rcases valid_cases N b with ⟨m, hm, rfl⟩ | h'
    · exact .inl ⟨k, m, hk, hm, rfl, rfl⟩
    · exact .inr (by simp [h'])
  · exact .inr (by simp [h])
theorem there_cases1 (N : Nat) (a : Int) : (∃ k : Nat, k < N ∧ a = (k : Int)) ∨ (thereB N [a] = false ∧ valid N a = false) := by
  rw [thereB_1]
  rcases valid_cases N a with h | h
  · exact .inl h
  · exact .inr ⟨h, h⟩
theorem GOk.valid {N : Nat} {es : Es} (h : GOk N es) {a b : Int} (he : (a, b) ∈ es) : Sp.valid N a = true ∧ Sp.valid N b = true := by
  have := h.inn _ he
  exact ⟨valid_iff.2 ⟨this.1, this.2.1⟩, valid_iff.2 ⟨this.2.2.1, this.2.2.2⟩⟩
theorem inns_f {N : Nat} {es : Es} (h : GOk N es) {a : Int} (hv : valid N a = false) : inns es a = [] := by
  unfold inns
  rw [List.map_eq_nil_iff, List.filter_eq_nil_iff]
  intro e he hc
  have := (h.valid (a := e.1) (b := e.2) he).2
  simp only [beq_iff_eq] at hc
  rw [hc, hv] at this; cases this
end Go.Proofs.YtanfdikglplkaaaGreatDoor.Sp
namespace Go.Proofs.YtanfdikglplkaaaGreatDoor.Sp
open Go
section
variable {P : Program} {E : List (Nat × Value)} {L : List HP} {ty : TypeId}
theorem lv_buildArr0 {t e : TypeId} {n s : Nat} {z : Value} {cs : List Value} (hu : P.underlying t = some (.array n e)) (hz : ∀ w, (zeroValue t).run P w = .ok z w) (hsz : ∀ w, (sizeOf e).run P w = .ok s w) (hc : z.cells = cs.toArray) :
    LV P E L (.build t #[]) ty (.agg cs.toArray) := by
  intro ρ h w _ d pos af g
  simp [execOp, Instr.build, hz, run_underlying hu, hsz, Instr.fill, hc]
theorem splice_take {α : Type} (A new : List α) (k N : Nat) (h : k + new.length ≤ N) (hN : N ≤ A.length) :
    (A.take k ++ new ++ A.drop (k + new.length)).take N = (A.take N).take k ++ new ++ (A.take N).drop (k + new.length) := by
  have h1 : (A.take k).length = k := by rw [List.length_take]; omega
  rw [List.append_assoc, List.append_assoc, List.take_append, List.take_append, List.take_take, List.take_take, List.drop_take, h1]
  rw [Nat.min_eq_right (by omega : k ≤ N), Nat.min_eq_left (by omega : k ≤ N), List.take_of_length_le (by omega : new.length ≤ N - k), Nat.sub_sub]
theorem run_storeVarAgg {t : TypeId} {g o : Nat} {v : Value} {news : List Value} {cur : Array Value} {T : TypeId} {w : World} (hsz : ∀ w, (sizeOf t).run P w = .ok news.length w) (hv : v.cells.toList = news) (hg : w.heap[g]? = some (.cells cur T (0, 0)))
    (hl : o + news.length ≤ cur.size) (h1 : ∀ u ∈ news, u.oneCell' = true) : (storeVar t ⟨g, o, none⟩ v).run P w = .ok () (w.setRow g (cur.toList.take o ++ news ++ cur.toList.drop (o + news.length)).toArray) := by
  have hs : v.cells.size = news.length := by rw [← hv, Array.length_toList]
  have := run_storeCells_at (P := P) g o T news 0 cur w hg (by simpa using hl) h1
  simp [storeVar, hsz, hs, hv]
  simpa using this
theorem sv_blkAgg {t : TypeId} {x y : Operand} {b o : Nat} {cs cs' news : List Value} {T : TypeId} {v : Value} (hsz : ∀ w, (sizeOf t).run P w = .ok news.length w) (hx : ev E x = some (.pointer (some ⟨b, o, none⟩))) (hy : ev E y = some v) (hv : v.cells.toList = news)
    (h1 : (news.all fun u => u.oneCell') = true) (ho : o + news.length ≤ cs.length) (hc : cs.take o ++ news ++ cs.drop (o + news.length) = cs') : SV P E (Blk b cs T :: L) (.store t x y) ty (Blk b cs' T :: L) := by
  intro ρ h w hs d pos af g
  subst hc
  obtain ⟨f, hf, hh⟩ := hs.mem (List.mem_cons_self ..)
  subst hf
  have hb := hh.2 _ (List.mem_singleton.2 rfl)
  have r := run_storeVarAgg (P := P) hsz hv hb (by simpa using ho) (by simpa using h1)
  have u := upd_setRow hb (cs.take o ++ news ++ cs.drop (o + news.length)).toArray
  refine ⟨_, ?_, hs.upd u, u.ext (.inr ⟨_, _, hb⟩)⟩
  simp [execOp, h x _ hx, h y _ hy, Instr.storeAt, Instr.sureAddr] at r ⊢
  rw [r]; rfl
end
end Go.Proofs.YtanfdikglplkaaaGreatDoor.Sp
namespace Go.Proofs.YtanfdikglplkaaaGreatDoor.Sp
open Go
section
variable {P : Program} {E : List (Nat × Value)} {L : List HP} {ty : TypeId}
def sbase (bs : Option Addr) (l m sz : Nat) : Option Addr := bif Nat.beq m l then bs else bs.map (·.add (l * sz))
def evo (E : List (Nat × Value)) : Option Operand → Option (Option Value)
  | none => some none
  | some x => (ev E x).map some
theorem Agr.evo {ρ : Operand → Value} (h : Agr E ρ) {o : Option Operand} {v : Option Value} (e : Sp.evo E o = some v) : o.map ρ = v := by
  cases o with
  | none => simp [Sp.evo] at e; simp [← e]
  | some x =>
    simp only [Sp.evo, Option.map_eq_some_iff] at e
    obtain ⟨u, hu, rfl⟩ := e
    simp [h x u hu]
def SBo (v : Option Value) (y d : Nat) (r : Nat) : Prop := (∃ k i, v = some (.int k i) ∧ 0 ≤ i ∧ i ≤ (y : Int) ∧ i.toNat = r) ∨ (v = none ∧ d = r)
theorem lv_slice {t e : TypeId} {x : Operand} {lo hi mx : Option Operand} {lov hiv mxv : Option Value} {bs : Option Addr} {n cp l h m sz : Nat} {v : Value} (hu : P.underlying t = some (.slice e)) (hsz : ∀ w, (sizeOf e).run P w = .ok sz w)
    (hx : ev E x = some (.slice bs n cp)) (hlo : evo E lo = some lov) (hhi : evo E hi = some hiv) (hmx : evo E mx = some mxv) (hm : SBo mxv cp cp m) (hh : SBo hiv m n h) (hl : SBo lov h 0 l)
    (hn : (mxv.isSome = true → hiv.isSome = true)) (hv : .slice (sbase bs l m sz) (h - l) (m - l) = v) : LV P E L (.slice t x lo hi mx) ty v := by
  intro ρ hρ w _ d pos af g
  subst hv
  have e1 := hρ.evo hlo
  have e2 := hρ.evo hhi
  have e3 := hρ.evo hmx
  simp only [execOp, hρ x _ hx, e1, e2, e3]
  have hb : ∀ (y r : Nat) (k : IntKind) (i : Int) (c : BoundsCode), 0 ≤ i ∧ i ≤ y ∧ i.toNat = r → (Instr.sliceBound (.int k i) y c).run P w = .ok r w := by
    intro y r k i c ⟨h0, h1, h2⟩
    simp [Instr.sliceBound, asIntOf, h0, h1, h2]
  have hsb : (Instr.sliceBounds true n cp lov hiv mxv).run P w = .ok (l, h, m) w := by
    clear e1 e2 e3 hlo hhi hmx
    rcases hm with ⟨k, i, rfl, hm⟩ | ⟨rfl, rfl⟩ <;> rcases hh with ⟨k', i', rfl, hh⟩ | ⟨rfl, rfl⟩ <;> rcases hl with ⟨k'', i'', rfl, hl⟩ | ⟨rfl, rfl⟩
    · simp [Instr.sliceBounds, hb _ _ _ _ _ hm, hb _ _ _ _ _ hh, hb _ _ _ _ _ hl]
    · simp [Instr.sliceBounds, hb _ _ _ _ _ hm, hb _ _ _ _ _ hh]
    · exact absurd (hn rfl) (by simp)
    · exact absurd (hn rfl) (by simp)
    · simp [Instr.sliceBounds, hb _ _ _ _ _ hh, hb _ _ _ _ _ hl]
    · simp [Instr.sliceBounds, hb _ _ _ _ _ hh]
    · simp [Instr.sliceBounds, hb _ _ _ _ _ hl]
    · simp [Instr.sliceBounds]
  have hif : (if m = l then bs else bs.map (·.add (l * sz))) = sbase bs l m sz := by
    unfold sbase
    by_cases e : m = l
    · subst e; simp
    · rw [if_neg e]
      have : Nat.beq m l = false := by cases hbq : Nat.beq m l with | false => rfl | true => exact absurd (Nat.eq_of_beq_eq_true hbq) e
      rw [this, cond_false]
  simp [Instr.sliceAt, Instr.slice, run_underlying hu, hsb, hsz, hif]
theorem sbase_zero {bs : Option Addr} {m sz : Nat} : sbase bs 0 m sz = bs := by
  unfold sbase
  cases Nat.beq m 0 with
  | true => rfl
  | false => cases bs <;> simp [Addr.add]
theorem slok_sbase {bs : Option Addr} {n l m sz k : Nat} (h : SlOk bs n) (hn : 0 < n) : SlOk (sbase bs l m sz) k := by
  obtain ⟨b, o, rfl⟩ := h hn
  intro _
  unfold sbase
  cases Nat.beq m l with
  | true => exact ⟨b, o, rfl⟩
  | false => exact ⟨b, o + l * sz, by rw [cond_false]; simp [add_plain]⟩
theorem ad_sbase {bs : Option Addr} {n l m sz : Nat} (h : SlOk bs n) (hn : 0 < n) (hlm : l < m) (k : Nat) : ad (sbase bs l m sz) k = ad bs (l * sz + k) := by
  obtain ⟨b, o, rfl⟩ := h hn
  have : Nat.beq m l = false := by cases hbq : Nat.beq m l with | false => rfl | true => exact absurd (Nat.eq_of_beq_eq_true hbq) (by omega)
  unfold sbase; rw [this, cond_false]
  simp [add_plain, ad, Nat.add_assoc]
theorem rd_sbase {bs : Option Addr} {n l m sz : Nat} {cs : List Value} (hrd : Rd L bs cs) (h : SlOk bs n) (hl : cs.length = n * sz) (hnm : n ≤ m) : Rd L (sbase bs l m sz) (cs.drop (l * sz)) := by
  intro w hs j u hu
  rw [List.getElem?_drop] at hu
  have hj := (List.getElem?_eq_some_iff.1 hu).1
  have hn : 0 < n := by
    rcases Nat.eq_zero_or_pos n with h0 | h0
    · subst h0; rw [Nat.zero_mul] at hl; omega
    · exact h0
  have hlm : l < m := by
    rcases Nat.lt_or_ge l m with h0 | h0
    · exact h0
    · have : n * sz ≤ l * sz := Nat.mul_le_mul_right _ (by omega)
      omega
  rw [ad_sbase h hn hlm]
  exact hrd w hs _ _ hu
theorem rd_take {bs : Option Addr} {cs : List Value} (hrd : Rd L bs cs) (k : Nat) : Rd L bs (cs.take k) := by
  intro w hs j u hu
  rw [List.getElem?_take] at hu
  split at hu
  · exact hrd w hs j u hu
  · cases hu
theorem sat_short {T sz n k cp : Nat} {bs : Option Addr} {cs : List Value} {w : World} (hk : k ≤ n) (h0 : 0 < n) (h : Sat (SlV T sz (.slice bs n cp) n cs :: L) w) : Sat (SlV T sz (.slice bs k cp) k (cs.take (k * sz)) :: L) w := by
  refine h.imp fun f hf => ?_
  obtain ⟨hl, hf⟩ := hf
  have hks : k * sz ≤ n * sz := Nat.mul_le_mul_right _ hk
  refine ⟨by rw [List.length_take]; omega, ?_⟩
  rcases hf with ⟨_, hn, _⟩ | ⟨g, cap, cur, hv, rfl, h1, h2, h3, h4⟩
  · omega
  · simp only [Value.slice.injEq, true_and] at hv
    obtain ⟨rfl, rfl⟩ := hv
    exact .inr ⟨g, cp, cur, rfl, rfl, by omega, h2, h3, by rw [← h4, List.take_take, Nat.min_eq_left hks]⟩
theorem slv_facts {T sz n cp : Nat} {bs : Option Addr} {cs : List Value} {w : World} (h : Sat (SlV T sz (.slice bs n cp) n cs :: L) w) : SlOk bs n ∧ n ≤ cp ∧ cp ≤ maxLen := by
  obtain ⟨fall, ⟨f1, f2, rfl, ⟨hcl, hf⟩, hp⟩, hh⟩ := h
  rcases hf with ⟨hv, hn, _⟩ | ⟨gb, cap, cur, hv, rfl, h2, h3, h4, h5⟩
  · simp only [Value.slice.injEq] at hv
    obtain ⟨rfl, rfl, rfl⟩ := hv
    exact ⟨fun h => absurd h (by omega), Nat.le_refl _, Nat.zero_le _⟩
  · simp only [Value.slice.injEq, true_and] at hv
    obtain ⟨rfl, rfl⟩ := hv
    exact ⟨slok_some _ _, h2, h3⟩
theorem mv_appendOwn {t e : TypeId} {i : TypeInfo} {sz : Nat} {s x : Operand} {bs bx : Option Addr} {n cp k m c : Nat} {cs cs' news : List Value} (hu : P.underlying t = some (.slice e)) (hi : P.info? e = some i)
    (hsz : i.size = sz) (hs' : ev E s = some (.slice bs k cp)) (hx : ev E x = some (.slice bx m c)) (hok : SlOk bx 1) (h0 : 0 < n) (hl : news.length = m * sz) (hrd : Rd (SlV e sz (.slice bs n cp) n cs :: L) bx news)
    (h1 : ∀ u ∈ news, u.oneCell' = true) (hkm : k + m ≤ n) (hc : cs.take (k * sz) ++ news ++ cs.drop ((k + m) * sz) = cs') :
    MV P E (SlV e sz (.slice bs n cp) n cs :: L) (.call { callee := .builtin .append, args := #[s, x], argTypes := #[t, t] }) ty (fun v M => v = .slice bs (k + m) cp ∧ M = SlV e sz (.slice bs n cp) n cs' :: L) := by
  intro ρ h w hs d pos af g
  subst hsz; subst hc
  obtain ⟨ab, ao, rfl⟩ := hok (by omega)
  obtain ⟨fall, ⟨f1, f2, rfl, ⟨hcl, hf⟩, hp⟩, hh⟩ := id hs
  rcases hf with ⟨_, hn, _⟩ | ⟨gb, cap, cur, hv, rfl, h2, h3, h4, h5⟩
  · omega
  simp only [Value.slice.injEq, true_and] at hv
  obtain ⟨rfl, rfl⟩ := hv
  have hb := hh.2 (gb, .cells cur e (0, 0)) (by simp)
  have hnews' : ∀ j u, news[j]? = some u → w.cell? ((⟨ab, ao, none⟩ : Addr).add j) = some u := by
    intro j u hu'
    have := hrd w hs j u hu'
    rwa [add_plain]
  have hkn : (k + m) * i.size ≤ n * i.size := Nat.mul_le_mul_right _ hkm
  have hnc : n * i.size ≤ cp * i.size := Nat.mul_le_mul_right _ h2
  have hkm' : (k + m) * i.size = k * i.size + news.length := by rw [hl, Nat.add_mul]
  have hr := run_append_room (P := P) w t ty e i hu hi gb k cp cur hb ⟨ab, ao, none⟩ m c news hl hnews' h1 (by omega) (by omega)
  have u := upd_setRow hb (cur.toList.take (k * i.size) ++ news ++ cur.toList.drop (k * i.size + news.length)).toArray
  have hs2 : Sat (one gb (.cells cur e (0, 0)) :: L) w := ⟨_, ⟨_, f2, rfl, rfl, hp⟩, hh⟩
  have hcl' : cur.toList.length = cur.size := Array.length_toList
  refine ⟨_, _, _, ?_, ⟨rfl, rfl⟩, (hs2.upd u).imp fun f hf => ⟨?_, .inr ⟨gb, cp, _, rfl, hf, h2, h3, ?_, ?_⟩⟩, u.ext (.inr ⟨_, _, hb⟩)⟩
  · simp [execOp, resolve, h s _ hs', h x _ hx, invoke, builtin, hr]
  · simp; omega
  · simp; omega
  · have := splice_take cur.toList news (k * i.size) (n * i.size) (by omega) (by omega)
    rw [h5] at this
    simpa [hkm'] using this
theorem mv_clear {t e : TypeId} {z : Value} {sz : Nat} {x : Operand} {bs : Option Addr} {n cp l m c : Nat} {cs : List Value} (hu : P.underlying t = some (.slice e)) (hz : ∀ w, (zeroValue e).run P w = .ok z w)
    (hzs : z.cells.size = sz) (hz1 : (z.cells.toList.all fun u => u.oneCell') = true) (hpos : 0 < sz) (hx : ev E x = some (.slice (sbase bs l c sz) m (c - l))) (hok : SlOk bs n) (hm : 0 < m) (hlc : l < c) (hlm : l + m ≤ n) :
    MV P E (SlV e sz (.slice bs n cp) n cs :: L) (.call { callee := .builtin .clear, args := #[x], argTypes := #[t] }) ty (fun _ M => ∃ zs : List Value, M = SlV e sz (.slice bs n cp) n (cs.take (l * sz) ++ zs ++ cs.drop ((l + m) * sz)) :: L) := by
  intro ρ h w hs d pos af g
  obtain ⟨fall, ⟨f1, f2, rfl, ⟨hcl, hf⟩, hp⟩, hh⟩ := id hs
  rcases hf with ⟨_, hn, _⟩ | ⟨gb, cap, cur, hv, rfl, h2, h3, h4, h5⟩
  · omega
  simp only [Value.slice.injEq, true_and] at hv
  obtain ⟨rfl, rfl⟩ := hv
  have hb := hh.2 (gb, .cells cur e (0, 0)) (by simp)
  have hsb : sbase (some ⟨gb, 0, none⟩) l c sz = some ⟨gb, l * sz, none⟩ := by
    have : Nat.beq c l = false := by cases hbq : Nat.beq c l with | false => rfl | true => exact absurd (Nat.eq_of_beq_eq_true hbq) (by omega)
    unfold sbase; rw [this, cond_false]; simp [add_plain]
  rw [hsb] at hx
  obtain ⟨zs, hzs'⟩ : ∃ zs, (Builtin.zeroCells z.cells m).toList = zs := ⟨_, rfl⟩
  have hzl : zs.length = m * sz := by rw [← hzs', Array.length_toList, size_zeroCells, hzs]
  have h1 : ∀ u ∈ zs, u.oneCell' = true := by
    intro u hu'
    rw [← hzs'] at hu'
    simp only [Builtin.zeroCells, Array.toList_map, List.mem_map] at hu'
    obtain ⟨j, _, rfl⟩ := hu'
    have hlt : j % z.cells.size < z.cells.size := Nat.mod_lt _ (by omega)
    rw [getElem!_pos z.cells _ hlt]
    exact List.all_eq_true.1 hz1 _ (by rw [Array.mem_toList_iff]; exact Array.getElem_mem hlt)
  have hkn : (l + m) * sz ≤ n * sz := Nat.mul_le_mul_right _ hlm
  have hnc : n * sz ≤ cp * sz := Nat.mul_le_mul_right _ h2
  have hkm' : (l + m) * sz = l * sz + zs.length := by rw [hzl, Nat.add_mul]
  have hr := run_storeCells_at P gb (l * sz) e zs 0 cur w hb (by omega) h1
  simp only [Nat.add_zero] at hr
  have u := upd_setRow hb (cur.toList.take (l * sz) ++ zs ++ cur.toList.drop (l * sz + zs.length)).toArray
  have hs2 : Sat (one gb (.cells cur e (0, 0)) :: L) w := ⟨_, ⟨_, f2, rfl, rfl, hp⟩, hh⟩
  have hcl' : cur.toList.length = cur.size := Array.length_toList
  refine ⟨.tuple #[], _, _, ?_, ⟨zs, rfl⟩, (hs2.upd u).imp fun f hf => ⟨?_, .inr ⟨gb, cp, _, rfl, hf, h2, h3, ?_, ?_⟩⟩, u.ext (.inr ⟨_, _, hb⟩)⟩
  · obtain ⟨m', rfl⟩ : ∃ m', m = m' + 1 := ⟨m - 1, by omega⟩
    simp [execOp, resolve, h x _ hx, invoke, builtin, Builtin.clear_, run_underlying hu, hz, hzs', hr]
  · simp; omega
  · simp; omega
  · have := splice_take cur.toList zs (l * sz) (n * sz) (by omega) (by omega)
    rw [h5] at this
    simpa [hkm'] using this
end
end Go.Proofs.YtanfdikglplkaaaGreatDoor.Sp
namespace Go.Proofs.YtanfdikglplkaaaGreatDoor.Sp
open Go
variable {L : List HP}
theorem ints_take (k : IntKind) (xs : List Int) (n : Nat) : (ints k xs).take n = ints k (xs.take n) := by unfold ints; rw [List.map_take]
theorem ints_drop (k : IntKind) (xs : List Int) (n : Nat) : (ints k xs).drop n = ints k (xs.drop n) := by unfold ints; rw [List.map_drop]
theorem rd_sb_ints {k : IntKind} {bs : Option Addr} {n l m : Nat} {xs : List Int} (hrd : Rd L bs (ints k xs)) (h : SlOk bs n) (hl : xs.length = n) (hnm : n ≤ m) : Rd L (sbase bs l m 1) (ints k (xs.drop l)) := by
  have := rd_sbase (sz := 1) (l := l) (m := m) hrd h (by rw [ints_length]; omega) hnm
  rwa [Nat.mul_one, ints_drop] at this
theorem rd_tk_ints {k : IntKind} {bs : Option Addr} {xs : List Int} (n : Nat) (hrd : Rd L bs (ints k xs)) : Rd L bs (ints k (xs.take n)) := by
  have := rd_take hrd n; rwa [ints_take] at this
theorem ints_splice {k : IntKind} {xs ys : List Int} {a b : Nat} : (ints k xs).take (a * 1) ++ ints k ys ++ (ints k xs).drop (b * 1) = ints k (xs.take a ++ ys ++ xs.drop b) := by
  rw [Nat.mul_one, Nat.mul_one, ints_take, ints_drop]; unfold ints; simp
theorem sat_cut_ints {T cp n a b : Nat} {bs : Option Addr} {xs : List Int} {zs : List Value} {w : World} (h0 : 0 < n) (ha : a ≤ n) (hx : xs.length = n) (h : Sat (SlV T 1 (.slice bs n cp) n ((ints .i64 xs).take (a * 1) ++ zs ++ (ints .i64 xs).drop (b * 1)) :: L) w) :
    Sat (SlV T 1 (.slice bs a cp) a (ints .i64 (xs.take a)) :: L) w := by
  have := sat_short ha h0 h
  have e : ((ints .i64 xs).take (a * 1) ++ zs ++ (ints .i64 xs).drop (b * 1)).take (a * 1) = ints .i64 (xs.take a) := by
    have hl : ((ints .i64 xs).take (a * 1)).length = a * 1 := by rw [List.length_take, ints_length]; omega
    rw [List.append_assoc, List.take_append_of_le_length (by omega), List.take_take, Nat.min_self, Nat.mul_one, ints_take]
  rw [e] at this; exact this
end Go.Proofs.YtanfdikglplkaaaGreatDoor.Sp
namespace Go.Proofs.YtanfdikglplkaaaGreatDoor.Sp
open Go
structure Lf where
  st : Int
  ep : Int
  ms : Int
  sp : Int
  tr : Int
  pr : Int
abbrev Lf.z : Lf := ⟨0, 0, 0, 0, 1, 0⟩
def lfC (x : Lf) : List Value := [.int .i64 x.st, .int .i64 x.ep, .int .i64 x.ms, .int .i64 x.sp, .int .i64 x.tr, .int .i64 x.pr]
structure LfOk (x : Lf) : Prop where
  s0 : 0 ≤ x.st
  s7 : x.st ≤ 7
  e0 : 0 ≤ x.ep
  m0 : 0 ≤ x.ms
  m1 : x.ms ≤ x.tr
  m2 : x.st ≠ 6 → x.ms < x.tr
  p0 : 0 ≤ x.sp
  p1 : x.sp ≤ x.pr
  t1 : 1 ≤ x.tr
  t2 : x.tr ≤ 1048576
  r1 : x.pr ≤ 1048576
theorem st_cases {st : Int} (h0 : 0 ≤ st) (h7 : st ≤ 7) : st = 0 ∨ st = 1 ∨ st = 2 ∨ st = 3 ∨ st = 4 ∨ st = 5 ∨ st = 6 ∨ st = 7 := by omega
def ofM (l : List Int) : Int := l.foldl (fun s x => bOr .u8 s (bShl .u8 1 x)) 0
theorem ofM_snoc (l : List Int) (x : Int) : ofM (l ++ [x]) = bOr .u8 (ofM l) (bShl .u8 1 x) := by unfold ofM; rw [List.foldl_append]; rfl
def stE (m st : Int) : Int := if bAnd .u8 (bShr .u8 m st) 1 = 0 then 8 else 0
section
variable {st : Int} (h0 : 0 ≤ st) (h7 : st ≤ 7)
include h0 h7
theorem stE_1 : stE 1 st = if st = 0 then 0 else 8 := by rcases st_cases h0 h7 with h | h | h | h | h | h | h | h <;> subst h <;> decide
theorem stE_2 : stE 2 st = if st = 1 then 0 else 8 := by rcases st_cases h0 h7 with h | h | h | h | h | h | h | h <;> subst h <;> decide
theorem stE_4 : stE 4 st = if st = 2 then 0 else 8 := by rcases st_cases h0 h7 with h | h | h | h | h | h | h | h <;> subst h <;> decide
theorem stE_8 : stE 8 st = if st = 3 then 0 else 8 := by rcases st_cases h0 h7 with h | h | h | h | h | h | h | h <;> subst h <;> decide
theorem stE_9 : stE 9 st = if st = 3 ∨ st = 0 then 0 else 8 := by rcases st_cases h0 h7 with h | h | h | h | h | h | h | h <;> subst h <;> decide
theorem stE_31 : stE 31 st = if st ≤ 4 then 0 else 8 := by rcases st_cases h0 h7 with h | h | h | h | h | h | h | h <;> subst h <;> decide
end
def goL (a b : Int) (x : Lf) : Lf := if x.st = a then { x with st := b } else x
def wantF : Lf → Lf := goL 0 1
def wakeL : Lf → Lf := goL 3 1
def endL : Lf → Lf := goL 2 5
def startL (x : Lf) : Lf := if x.st = 1 then { x with st := 2, ep := x.ep + 1 } else x
def fallL (x : Lf) : Lf := if x.st = 3 ∨ x.st = 0 then { x with st := 6 } else x
def turnL (x : Lf) : Lf := if x.st ≤ 4 then { x with st := 7 } else x
def rightE (x : Lf) (e : Int) : Int := if x.st = 2 ∧ e = x.ep then 0 else 7
theorem LfOk.go {x : Lf} (h : LfOk x) {a b : Int} (ha : a ≠ 6) (h0 : 0 ≤ b) (h7 : b ≤ 7) : LfOk (goL a b x) := by
  have := h.m2; unfold goL
  by_cases e : x.st = a
  · rw [if_pos e]; exact ⟨h0, h7, h.e0, h.m0, h.m1, fun _ => this (by rw [e]; exact ha), h.p0, h.p1, h.t1, h.t2, h.r1⟩
  · rw [if_neg e]; exact h
theorem LfOk.want {x : Lf} (h : LfOk x) : LfOk (wantF x) := h.go (by decide) (by decide) (by decide)
theorem LfOk.wake {x : Lf} (h : LfOk x) : LfOk (wakeL x) := h.go (by decide) (by decide) (by decide)
theorem LfOk.end_ {x : Lf} (h : LfOk x) : LfOk (endL x) := h.go (by decide) (by decide) (by decide)
theorem LfOk.start {x : Lf} (h : LfOk x) : LfOk (startL x) := by
  have h1 := h.e0; have h2 := h.m2; unfold startL
  by_cases e : x.st = 1
  · rw [if_pos e]; exact ⟨by dsimp only; decide, by dsimp only; decide, by show 0 ≤ x.ep + 1; omega, h.m0, h.m1, fun _ => h2 (by omega), h.p0, h.p1, h.t1, h.t2, h.r1⟩
  · rw [if_neg e]; exact h
theorem LfOk.fall {x : Lf} (h : LfOk x) : LfOk (fallL x) := by
  unfold fallL
  by_cases e : x.st = 3 ∨ x.st = 0
  · rw [if_pos e]; exact ⟨by dsimp only; decide, by dsimp only; decide, h.e0, h.m0, h.m1, fun h => absurd rfl h, h.p0, h.p1, h.t1, h.t2, h.r1⟩
  · rw [if_neg e]; exact h
theorem LfOk.turn {x : Lf} (h : LfOk x) : LfOk (turnL x) := by
  have h2 := h.m2; unfold turnL
  by_cases e : x.st ≤ 4
  · rw [if_pos e]; exact ⟨by dsimp only; decide, by dsimp only; decide, h.e0, h.m0, h.m1, fun _ => h2 (by omega), h.p0, h.p1, h.t1, h.t2, h.r1⟩
  · rw [if_neg e]; exact h
end Go.Proofs.YtanfdikglplkaaaGreatDoor.Sp
namespace Go.Proofs.YtanfdikglplkaaaGreatDoor.Sp
open Go
theorem take_succ_getD {α : Type} {l : List α} {k : Nat} (h : k < l.length) (d : α) : l.take (k + 1) = l.take k ++ [l.getD k d] := by
  rw [List.take_succ_eq_append_getElem h]; simp [List.getD, h]
theorem and_pow (k : Nat) (hk : k ≤ 62) (n : Int) : bAnd .i64 n ((2 ^ k - 1 : Nat) : Int) = n % (2 ^ k : Nat) := by
  unfold bAnd
  have hp : 2 ^ k ≤ 2 ^ 62 := Nat.pow_le_pow_right (by omega) hk
  have h0 : 0 < 2 ^ k := Nat.two_pow_pos k
  have h2 : (BitVec.ofInt 64 ((2 ^ k - 1 : Nat) : Int)).toNat = 2 ^ k - 1 := ofInt_natCast64 _ (by omega)
  show IntKind.i64.wrap ((BitVec.ofInt 64 n &&& BitVec.ofInt 64 ((2 ^ k - 1 : Nat) : Int)).toNat : Int) = _
  rw [BitVec.toNat_and, h2, Nat.and_two_pow_sub_one_eq_mod, BitVec.toNat_ofInt]
  have e : (((n % (2 ^ 64 : Nat)).toNat % 2 ^ k : Nat) : Int) = n % (2 ^ k : Nat) := by
    rw [Int.natCast_emod, Int.toNat_of_nonneg (Int.emod_nonneg _ (by decide))]
    refine Int.emod_emod_of_dvd n ?_
    exact_mod_cast Nat.pow_dvd_pow 2 (by omega : k ≤ 64)
  rw [e]
  have h3 : 0 ≤ n % (2 ^ k : Nat) := Int.emod_nonneg _ (by omega)
  have h4 : n % (2 ^ k : Nat) < (2 ^ k : Nat) := Int.emod_lt_of_pos _ (by omega)
  refine wr_i64 (by omega) (by omega)
end Go.Proofs.YtanfdikglplkaaaGreatDoor.Sp
