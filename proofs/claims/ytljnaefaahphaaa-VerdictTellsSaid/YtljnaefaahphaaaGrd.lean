/- Rows of rows in memory, and rows of numbers as bits. No program in it (but for the numbers of its types). -/
import Derived.Test.YtljnaefaahphaaaBit
import Derived.Test.YtljnaefaahphaaaDrw
import Derived.Test.YtljnaefaahphaaaIdx
namespace Go.Proofs.Ytljnaefaahphaaa.Sp
open Go
def maskL (l : List Int) : Nat := l.foldl (fun m b => m ||| 2 ^ b.toNat) 0
theorem maskL_snoc (l : List Int) (b : Int) : maskL (l ++ [b]) = maskL l ||| 2 ^ b.toNat := by simp [maskL]
theorem maskL_bit (l : List Int) (hl : ∀ x ∈ l, 0 ≤ x) (i : Nat) : (maskL l).testBit i = true ↔ (i : Int) ∈ l := by
  unfold maskL
  have key : ∀ (l : List Int) (m : Nat), (∀ x ∈ l, 0 ≤ x) → ((l.foldl (fun m b => m ||| 2 ^ b.toNat) m).testBit i = true ↔ m.testBit i = true ∨ (i : Int) ∈ l) := by
    intro l
    induction l with
    | nil => intro m _; simp
    | cons x l ih =>
      intro m h
      rw [List.foldl_cons, ih _ (fun y hy => h y (List.mem_cons_of_mem _ hy)), Nat.testBit_or, Nat.testBit_two_pow, List.mem_cons]
      have h0 := h x (List.mem_cons_self ..)
      simp only [Bool.or_eq_true, decide_eq_true_eq]
      constructor
      · rintro ((h1 | h1) | h1)
        · exact .inl h1
        · exact .inr (.inl (by omega))
        · exact .inr (.inr h1)
      · rintro (h1 | h1 | h1)
        · exact .inl (.inl h1)
        · exact .inl (.inr (by omega))
        · exact .inr h1
  rw [key l 0 hl]
  simp
theorem maskL_lt (l : List Int) (hl : ∀ x ∈ l, 0 ≤ x ∧ x < 64) : maskL l < 2 ^ 64 := by
  unfold maskL
  have key : ∀ (l : List Int) (m : Nat), m < 2 ^ 64 → (∀ x ∈ l, 0 ≤ x ∧ x < 64) → l.foldl (fun m b => m ||| 2 ^ b.toNat) m < 2 ^ 64 := by
    intro l
    induction l with
    | nil => exact fun m hm _ => hm
    | cons x l ih =>
      intro m hm h
      have h0 := h x (List.mem_cons_self ..)
      exact ih _ (Nat.or_lt_two_pow hm (Nat.pow_lt_pow_right (by omega) (by omega))) (fun y hy => h y (List.mem_cons_of_mem _ hy))
  exact key l 0 (by omega) hl
/-! in memory -/
/-- a slice of ints of one's own, whatever its address and its room -/
def IntSl (v : Value) (xs : List Int) : HP := fun f => ∃ bs cp, (SlOk bs xs.length ∧ xs.length ≤ cp ∧ v = .slice bs xs.length cp) ∧ SlV 3 1 (.slice bs xs.length cp) xs.length (ints .i64 xs) f
def rowsL (vs : List Value) (xss : List (List Int)) : List HP := List.zipWith IntSl vs xss
section
variable {K : Act → World → Prop} {W : World} {N : Nat} {E : List (Nat × Value)} {L : List HP}
theorem Sat.openI {v : Value} {xs : List Int} {w : World} (h : Sat (IntSl v xs :: L) w) : ∃ bs cp, SlOk bs xs.length ∧ xs.length ≤ cp ∧ v = .slice bs xs.length cp ∧ Sat (SlV 3 1 (.slice bs xs.length cp) xs.length (ints .i64 xs) :: L) w := by
  obtain ⟨_, ⟨f1, f2, rfl, ⟨bs, cp, ⟨h1, h2, h3⟩, h4⟩, hl⟩, hh⟩ := h
  exact ⟨bs, cp, h1, h2, h3, _, ⟨f1, f2, rfl, h4, hl⟩, hh⟩
theorem Sat.shutI {bs : Option Addr} {cp : Nat} {xs : List Int} {w : World} (h1 : SlOk bs xs.length) (h2 : xs.length ≤ cp) (h : Sat (SlV 3 1 (.slice bs xs.length cp) xs.length (ints .i64 xs) :: L) w) : Sat (IntSl (.slice bs xs.length cp) xs :: L) w :=
  h.imp fun _ hf => ⟨bs, cp, ⟨h1, h2, rfl⟩, hf⟩
theorem Sat.shutIn {bs : Option Addr} {cp n : Nat} {xs : List Int} {w : World} (hn : xs.length = n) (h1 : SlOk bs n) (h2 : n ≤ cp) (h : Sat (SlV 3 1 (.slice bs n cp) n (ints .i64 xs) :: L) w) : Sat (IntSl (.slice bs n cp) xs :: L) w := by
  subst hn; exact h.shutI h1 h2
theorem rowsL_perm {vs : List Value} {xss : List (List Int)} (h : vs.length = xss.length) {a : Nat} (ha : a < vs.length) :
    (rowsL vs xss).Perm (IntSl (vs.getD a undef) (xss.getD a []) :: rowsL (vs.eraseIdx a) (xss.eraseIdx a)) := by
  induction vs generalizing xss a with
  | nil => simp at ha
  | cons v vs ih =>
    cases xss with
    | nil => simp at h
    | cons xs xss =>
      cases a with
      | zero => simp [rowsL]
      | succ a =>
        have := ih (xss := xss) (by simpa using h) (a := a) (by simpa using ha)
        simp only [rowsL, List.zipWith_cons_cons, List.getD_cons_succ, List.eraseIdx_cons_succ] at this ⊢
        exact (List.Perm.cons _ this).trans (.swap _ _ _)
theorem Sat.takeRow {vs : List Value} {xss : List (List Int)} {w : World} (h : vs.length = xss.length) {a : Nat} (ha : a < vs.length) (hs : Sat (Join (rowsL vs xss) :: L) w) :
    Sat (IntSl (vs.getD a undef) (xss.getD a []) :: Join (rowsL (vs.eraseIdx a) (xss.eraseIdx a)) :: L) w := by
  have h1 := (Sat.join.1 hs).perm ((rowsL_perm h ha).append_right L)
  rw [List.cons_append] at h1
  have h2 : Sat (rowsL (vs.eraseIdx a) (xss.eraseIdx a) ++ (IntSl (vs.getD a undef) (xss.getD a []) :: L)) w := h1.perm List.perm_middle.symm
  exact (Sat.join.2 h2).perm (.swap _ _ _)
theorem Sat.putRow {vs : List Value} {xss : List (List Int)} {w : World} (h : vs.length = xss.length) {a : Nat} (ha : a < vs.length) {v : Value} {xs : List Int}
    (hs : Sat (IntSl v xs :: Join (rowsL (vs.eraseIdx a) (xss.eraseIdx a)) :: L) w) : Sat (Join (rowsL (vs.set a v) (xss.set a xs)) :: L) w := by
  have h1 := Sat.join.1 (hs.perm (.swap _ _ _))
  have h2 := h1.perm List.perm_middle
  have hp := rowsL_perm (vs := vs.set a v) (xss := xss.set a xs) (by simpa using h) (a := a) (by simpa using ha)
  have e1 : (vs.set a v).getD a undef = v := by simp [List.getD, ha]
  have e2 : (xss.set a xs).getD a [] = xs := by simp [List.getD, ← h, ha]
  rw [e1, e2, List.eraseIdx_set_eq, List.eraseIdx_set_eq] at hp
  rw [← List.cons_append] at h2
  exact Sat.join.2 (h2.perm (hp.symm.append_right L))
end
section
variable {K : Act → World → Prop} {W : World} {N : Nat} {E : List (Nat × Value)} {L : List HP}
theorem t_openI {v : Value} {xs : List Int} (k : ∀ bs cp, SlOk bs xs.length → xs.length ≤ cp → v = .slice bs xs.length cp → Tri K W N E (SlV 3 1 (.slice bs xs.length cp) xs.length (ints .i64 xs) :: L)) : Tri K W N E (IntSl v xs :: L) := fun a w s => by
  obtain ⟨bs, cp, h1, h2, h3, h4⟩ := s.sat.openI
  exact k bs cp h1 h2 h3 a w ⟨s.size, s.defers, s.env, h4, s.ext⟩
/-- a row of one's own can be read -/
theorem rd_row {vs : List Value} {xss : List (List Int)} (hm : Join (rowsL vs xss) ∈ L) (h : vs.length = xss.length) {a : Nat} (ha : a < vs.length) {w0 : World} (hs0 : Sat L w0) :
    ∃ bs cp, SlOk bs (xss.getD a []).length ∧ (xss.getD a []).length ≤ cp ∧ vs.getD a undef = .slice bs (xss.getD a []).length cp ∧ Rd L bs (ints .i64 (xss.getD a [])) := by
  obtain ⟨L1, L2, rfl⟩ := List.append_of_mem hm
  have front : ∀ w, Sat (L1 ++ Join (rowsL vs xss) :: L2) w → Sat (IntSl (vs.getD a undef) (xss.getD a []) :: Join (rowsL (vs.eraseIdx a) (xss.eraseIdx a)) :: (L1 ++ L2)) w := fun w hs =>
    (hs.perm List.perm_middle).takeRow h ha
  obtain ⟨bs, cp, h1, h2, h3, _⟩ := (front w0 hs0).openI
  refine ⟨bs, cp, h1, h2, h3, fun w hs => ?_⟩
  obtain ⟨bs', cp', _, _, h3', h4'⟩ := (front w hs).openI
  rw [h3] at h3'
  cases h3'
  exact rd_sl (List.mem_cons_self ..) w h4'
theorem t_rdRow {vs : List Value} {xss : List (List Int)} (hm : Join (rowsL vs xss) ∈ L) (h : vs.length = xss.length) {a : Nat} (ha : a < vs.length)
    (k : ∀ bs cp, SlOk bs (xss.getD a []).length → (xss.getD a []).length ≤ cp → vs.getD a undef = .slice bs (xss.getD a []).length cp → Rd L bs (ints .i64 (xss.getD a [])) → Tri K W N E L) : Tri K W N E L := fun c w s => by
  obtain ⟨bs, cp, h1, h2, h3, h4⟩ := rd_row hm h ha s.sat
  exact k bs cp h1 h2 h3 h4 c w s
end
/-! a grid: rows of numbers that can be read -/
def GridR (L : List HP) (bs : Option Addr) (es : List (List Int)) : Prop :=
  ∃ vs : List Value, vs.length = es.length ∧ Rd L bs vs ∧ ∀ i, i < es.length → ∃ b c, SlOk b (es.getD i []).length ∧ (es.getD i []).length ≤ c ∧ vs.getD i undef = .slice b (es.getD i []).length c ∧ Rd L b (ints .i64 (es.getD i []))
theorem GridR.cons {L : List HP} {bs : Option Addr} {es : List (List Int)} {A : HP} (h : GridR L bs es) : GridR (A :: L) bs es := by
  obtain ⟨vs, h1, h2, h3⟩ := h
  refine ⟨vs, h1, h2.cons, fun i hi => ?_⟩
  obtain ⟨b, c, k1, k2, k3, k4⟩ := h3 i hi
  exact ⟨b, c, k1, k2, k3, k4.cons⟩
section
variable {K : Act → World → Prop} {W : World} {N : Nat} {E : List (Nat × Value)} {L : List HP}
theorem t_rdGrid {bs : Option Addr} {es : List (List Int)} (h : GridR L bs es) (k : ∀ vs : List Value, vs.length = es.length → Rd L bs vs → (∀ i, i < es.length → ∃ b c, SlOk b (es.getD i []).length ∧ (es.getD i []).length ≤ c ∧ vs.getD i undef = .slice b (es.getD i []).length c ∧ Rd L b (ints .i64 (es.getD i []))) → Tri K W N E L) : Tri K W N E L := by
  obtain ⟨vs, h1, h2, h3⟩ := h
  exact k vs h1 h2 h3
/-- rows of one's own are a grid that can be read -/
theorem gridR_own {bs : Option Addr} {n cp : Nat} {vs : List Value} {es : List (List Int)} (h1 : SlV 23 1 (.slice bs n cp) n vs ∈ L) (h2 : Join (rowsL vs es) ∈ L) (hl : vs.length = es.length) {w : World} (hs : Sat L w) : GridR L bs es :=
  ⟨vs, hl, rd_sl h1, fun i hi => by
    obtain ⟨b, c, k1, k2, k3, k4⟩ := rd_row h2 hl (a := i) (by omega) hs
    exact ⟨b, c, k1, k2, k3, k4⟩⟩
end
end Go.Proofs.Ytljnaefaahphaaa.Sp
