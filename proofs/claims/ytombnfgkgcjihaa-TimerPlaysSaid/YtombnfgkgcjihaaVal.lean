/- Small words for the walk's values: rows of numbers, of bools; what wraps. No program in it. -/
import Derived.Test.YtombnfgkgcjihaaOpl
namespace Go.Proofs.Ytombnfgkgcjihaa.Sp
open Go
def ints (k : IntKind) (xs : List Int) : List Value := xs.map (Value.int k)
def bools (xs : List Bool) : List Value := xs.map Value.bool
@[simp] theorem ints_length (k : IntKind) (xs : List Int) : (ints k xs).length = xs.length := by simp [ints]
@[simp] theorem bools_length (xs : List Bool) : (bools xs).length = xs.length := by simp [bools]
theorem ints_get {k : IntKind} {xs : List Int} {i : Nat} (h : i < xs.length) : (ints k xs)[i]? = some (.int k (xs.getD i 0)) := by
  simp [ints, List.getD, h]
theorem bools_get {xs : List Bool} {i : Nat} (h : i < xs.length) : (bools xs)[i]? = some (.bool (xs.getD i false)) := by
  simp [bools, List.getD, h]
theorem vals_get {xs : List Value} {i : Nat} (h : i < xs.length) : xs[i]? = some (xs.getD i undef) := by
  simp [List.getD, h]
theorem ints_set {k : IntKind} {xs : List Int} {i : Nat} {v : Int} : (ints k xs).set i (.int k v) = ints k (xs.set i v) := by simp [ints, List.map_set]
theorem bools_set {xs : List Bool} {i : Nat} {v : Bool} : (bools xs).set i (.bool v) = bools (xs.set i v) := by simp [bools, List.map_set]
theorem ints_one {k : IntKind} {xs : List Int} : ∀ u ∈ ints k xs, u.oneCell' = true := by
  intro u hu; obtain ⟨x, _, rfl⟩ := List.mem_map.1 hu; rfl
theorem bools_one {xs : List Bool} : ∀ u ∈ bools xs, u.oneCell' = true := by
  intro u hu; obtain ⟨x, _, rfl⟩ := List.mem_map.1 hu; rfl
theorem ints_rep (k : IntKind) (n : Nat) (v : Int) : List.replicate n (Value.int k v) = ints k (List.replicate n v) := by simp [ints]
theorem bools_rep (n : Nat) (v : Bool) : List.replicate n (Value.bool v) = bools (List.replicate n v) := by simp [bools]
theorem ints_snoc (k : IntKind) (xs : List Int) (v : Int) : ints k xs ++ [.int k v] = ints k (xs ++ [v]) := by simp [ints]
theorem ints_append (k : IntKind) (xs ys : List Int) : ints k (xs ++ ys) = ints k xs ++ ints k ys := by simp [ints]
theorem ints_nil (k : IntKind) : ints k [] = [] := rfl
theorem wr_i64 {x : Int} (h : -9223372036854775808 ≤ x) (h' : x ≤ 9223372036854775807) : IntKind.i64.wrap x = x := by rw [IntKind.wrap_i64]; omega
theorem wr_i64_succ {n : Nat} (h : n < 9223372036854775807) : IntKind.i64.wrap ((n : Int) + 1) = ((n + 1 : Nat) : Int) := by rw [wr_i64 (by omega) (by omega)]; rfl
theorem wr_quo {x y : Int} (h : 0 ≤ x) (h' : x ≤ 9223372036854775807) (hy : 1 ≤ y) : IntKind.i64.wrap (x.tdiv y) = x / y := by
  have e : x.tdiv y = x / y := Int.tdiv_eq_ediv_of_nonneg h
  have h1 : 0 ≤ x / y := Int.ediv_nonneg h (by omega)
  have h2 : x / y ≤ x := Int.ediv_le_self _ h
  rw [e]
  exact wr_i64 (by omega) (by omega)
theorem wr_u64 {x : Int} (h : 0 ≤ x) (h' : x ≤ 18446744073709551615) : IntKind.u64.wrap x = x := by
  have e : IntKind.u64.wrap x = x % 18446744073709551616 := by simp [IntKind.wrap, IntKind.bits, IntKind.signed]
  rw [e]; omega
theorem rd_nil {L : List HP} : Rd L none [] := fun _ _ j u hu => by simp at hu
theorem slok_none : SlOk none 0 := fun h => absurd h (by omega)
theorem sat_nilsl (T sz : Nat) {L : List HP} {w : World} (h : Sat L w) : Sat (SlV T sz (.slice none 0 0) 0 [] :: L) w := by
  obtain ⟨f, hp, hh⟩ := h
  exact ⟨f, ⟨[], f, rfl, ⟨by simp, .inl ⟨rfl, rfl, rfl⟩⟩, hp⟩, hh⟩
def pairs (es : List (Int × Int)) : List Value := es.flatMap fun e => [.int .i64 e.1, .int .i64 e.2]
theorem pairs_length (es : List (Int × Int)) : (pairs es).length = es.length * 2 := by
  induction es with
  | nil => rfl
  | cons e es ih => simp only [pairs, List.flatMap_cons, List.length_append, List.length_cons, List.length_nil] at ih ⊢; omega
theorem pairs_get0 {es : List (Int × Int)} {k : Nat} (h : k < es.length) : (pairs es)[k * 2]? = some (.int .i64 (es.getD k (0, 0)).1) := by
  induction es generalizing k with
  | nil => simp at h
  | cons e es ih =>
    cases k with
    | zero => rfl
    | succ k =>
      have := ih (k := k) (by simpa using h)
      rw [show (k + 1) * 2 = k * 2 + 2 by omega]
      simpa [pairs] using this
theorem pairs_get1 {es : List (Int × Int)} {k : Nat} (h : k < es.length) : (pairs es)[k * 2 + 1]? = some (.int .i64 (es.getD k (0, 0)).2) := by
  induction es generalizing k with
  | nil => simp at h
  | cons e es ih =>
    cases k with
    | zero => rfl
    | succ k =>
      have := ih (k := k) (by simpa using h)
      rw [show (k + 1) * 2 + 1 = k * 2 + 1 + 2 by omega]
      simpa [pairs] using this
theorem pairs_one {es : List (Int × Int)} : ∀ u ∈ pairs es, u.oneCell' = true := by
  intro u hu; unfold pairs at hu; rw [List.mem_flatMap] at hu
  obtain ⟨e, _, he⟩ := hu
  simp only [List.mem_cons, List.not_mem_nil, or_false] at he
  rcases he with rfl | rfl <;> rfl
theorem pairs_snoc (es : List (Int × Int)) (a b : Int) : pairs es ++ [.int .i64 a, .int .i64 b] = pairs (es ++ [(a, b)]) := by unfold pairs; rw [List.flatMap_append]; rfl
theorem all_succ {p : Nat → Prop} {k : Nat} (h : ∀ j, j < k → p j) (hk : p k) : ∀ j, j < k + 1 → p j := fun j hj => by
  rcases Nat.lt_succ_iff_lt_or_eq.1 hj with h' | h'
  · exact h j h'
  · exact h' ▸ hk
theorem slok_isNone {bs : Option Addr} {n : Nat} (h : SlOk bs n) (hb : bs.isNone = true) : n = 0 := by
  rcases Nat.eq_zero_or_pos n with e | e
  · exact e
  · obtain ⟨b, o, rfl⟩ := h e; cases hb
theorem gives_all1 {L : List HP} {b o : Nat} {v : Value} (h : Gives L ⟨b, o, none⟩ v) : ∀ j u, [v][j]? = some u → Gives L ⟨b, o + j, none⟩ u := by
  intro j u hu
  match j, hu with
  | 0, hu => simp at hu; subst hu; exact h
theorem gives_all2 {L : List HP} {F : Nat → Addr} {v0 v1 : Value} (h0 : Gives L (F 0) v0) (h1 : Gives L (F 1) v1) : ∀ j u, [v0, v1][j]? = some u → Gives L (F j) u := by
  intro j u hu
  match j, hu with
  | 0, hu => simp at hu; subst hu; exact h0
  | 1, hu => simp at hu; subst hu; exact h1
theorem gives_all3 {L : List HP} {F : Nat → Addr} {v0 v1 v2 : Value} (h0 : Gives L (F 0) v0) (h1 : Gives L (F 1) v1) (h2 : Gives L (F 2) v2) : ∀ j u, [v0, v1, v2][j]? = some u → Gives L (F j) u := by
  intro j u hu
  match j, hu with
  | 0, hu => simp at hu; subst hu; exact h0
  | 1, hu => simp at hu; subst hu; exact h1
  | 2, hu => simp at hu; subst hu; exact h2
theorem gives_all4 {L : List HP} {F : Nat → Addr} {v0 v1 v2 v3 : Value} (h0 : Gives L (F 0) v0) (h1 : Gives L (F 1) v1) (h2 : Gives L (F 2) v2) (h3 : Gives L (F 3) v3) : ∀ j u, [v0, v1, v2, v3][j]? = some u → Gives L (F j) u := by
  intro j u hu
  match j, hu with
  | 0, hu => simp at hu; subst hu; exact h0
  | 1, hu => simp at hu; subst hu; exact h1
  | 2, hu => simp at hu; subst hu; exact h2
  | 3, hu => simp at hu; subst hu; exact h3
theorem gives_all5 {L : List HP} {F : Nat → Addr} {v0 v1 v2 v3 v4 : Value} (h0 : Gives L (F 0) v0) (h1 : Gives L (F 1) v1) (h2 : Gives L (F 2) v2) (h3 : Gives L (F 3) v3) (h4 : Gives L (F 4) v4) : ∀ j u, [v0, v1, v2, v3, v4][j]? = some u → Gives L (F j) u := by
  intro j u hu
  match j, hu with
  | 0, hu => simp at hu; subst hu; exact h0
  | 1, hu => simp at hu; subst hu; exact h1
  | 2, hu => simp at hu; subst hu; exact h2
  | 3, hu => simp at hu; subst hu; exact h3
  | 4, hu => simp at hu; subst hu; exact h4
theorem gives_all6 {L : List HP} {F : Nat → Addr} {v0 v1 v2 v3 v4 v5 : Value} (h0 : Gives L (F 0) v0) (h1 : Gives L (F 1) v1) (h2 : Gives L (F 2) v2) (h3 : Gives L (F 3) v3) (h4 : Gives L (F 4) v4) (h5 : Gives L (F 5) v5) : ∀ j u, [v0, v1, v2, v3, v4, v5][j]? = some u → Gives L (F j) u := by
  intro j u hu
  match j, hu with
  | 0, hu => simp at hu; subst hu; exact h0
  | 1, hu => simp at hu; subst hu; exact h1
  | 2, hu => simp at hu; subst hu; exact h2
  | 3, hu => simp at hu; subst hu; exact h3
  | 4, hu => simp at hu; subst hu; exact h4
  | 5, hu => simp at hu; subst hu; exact h5
end Go.Proofs.Ytombnfgkgcjihaa.Sp
