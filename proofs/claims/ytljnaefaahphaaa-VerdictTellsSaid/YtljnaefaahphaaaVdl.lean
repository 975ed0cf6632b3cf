/- Verdicts: what the laws make out of their arguments (chapter 17). No program in it. -/
import Derived.Test.YtljnaefaahphaaaVdm
import Derived.Test.YtljnaefaahphaaaRec
import Derived.Test.YtljnaefaahphaaaPln
namespace Go.Proofs.Ytljnaefaahphaaa.Sp
open Go
def pu8F (e : Int × Int) : List Value := [.int .u8 e.1, .int .u8 e.2]
theorem pu8F_len (e : Int × Int) : (pu8F e).length = 2 := rfl
section
variable {P : Program} {K : Act → World → Prop} {W : World} {N : Nat} {E : List (Nat × Value)} {L : List HP} {ty : TypeId}
theorem lv_indexArr_ad {t e : TypeId} {x y : Operand} {bs : Option Addr} {o n sz k' : Nat} {k : IntKind} {j : Int} (hu : P.underlying t = some (.array n e)) (hsz : ∀ w, (sizeOf e).run P w = .ok sz w)
    (hx : ev E x = some (.pointer (some (ad bs o)))) (hy : ev E y = some (.int k j)) (h0 : 0 ≤ j) (hlt : j < n) (hk : o + j.toNat * sz = k') :
    LV P E L (.indexAddr t x y) ty (.pointer (some (ad bs k'))) := by
  intro ρ h w _ d pos af g
  subst hk
  simp only [ad] at hx
  simp [execOp, h x _ hx, h y _ hy, Instr.indexAt, asIntOf, run_underlying hu, Instr.sureAddr, h0, hlt, hsz, ad, Addr.add, Nat.add_assoc]
theorem nilrows (N : Nat) : Parts (rowsL (List.replicate N (.slice none 0 0)) (List.replicate N [])) [] := by
  induction N with
  | zero => rfl
  | succ N ih =>
    refine ⟨[], [], rfl, ⟨none, 0, ⟨slok_none, Nat.le_refl _, rfl⟩, rfl, .inl ⟨rfl, rfl, rfl⟩⟩, ?_⟩
    simpa [List.replicate_succ, rowsL] using ih
theorem sat_nilrows (N : Nat) {w : World} (h : Sat L w) : Sat (Join (rowsL (List.replicate N (.slice none 0 0)) (List.replicate N [])) :: L) w := by
  obtain ⟨f, hp, hh⟩ := h
  exact ⟨f, ⟨[], f, rfl, nilrows N, hp⟩, hh⟩
end
def RowsR (L : List HP) (vs : List Value) (es : List (List Int)) : Prop := vs.length = es.length ∧ ∀ i, i < es.length → ∃ b c, SlOk b (es.getD i []).length ∧ (es.getD i []).length ≤ c ∧ vs.getD i undef = .slice b (es.getD i []).length c ∧ Rd L b (ints .i64 (es.getD i []))
theorem rowsR_nil {L : List HP} : RowsR L [] [] := ⟨rfl, fun _ h => absurd h (Nat.not_lt_zero _)⟩
theorem rowsR_cons {L : List HP} {vs : List Value} {es : List (List Int)} {b : Option Addr} {c : Nat} {l : List Int} (h1 : SlOk b l.length) (h2 : l.length ≤ c) (h3 : Rd L b (ints .i64 l)) (h : RowsR L vs es) : RowsR L (.slice b l.length c :: vs) (l :: es) := by
  refine ⟨by simp [h.1], fun i hi => ?_⟩
  cases i with
  | zero => exact ⟨b, c, h1, h2, rfl, h3⟩
  | succ i =>
    obtain ⟨b', c', k1, k2, k3, k4⟩ := h.2 i (by simpa using hi)
    exact ⟨b', c', by simpa using k1, by simpa using k2, by simpa using k3, by simpa using k4⟩
theorem gridR_of {L : List HP} {bs : Option Addr} {vs : List Value} {es : List (List Int)} (h : Rd L bs vs) (k : RowsR L vs es) : GridR L bs es := ⟨vs, k.1, h, k.2⟩
/-! edges -/
def addR (N : Nat) (g : List (List Int)) (e : Int × Int) : List (List Int) := g.set (e.1 % (N : Int)).toNat (g.getD (e.1 % (N : Int)).toNat [] ++ [e.2 % (N : Int)])
def madeG (N : Nat) (ps : List (Int × Int)) : List (List Int) := ps.foldl (addR N) (List.replicate N [])
theorem take_succ_p {l : List (Int × Int)} {k : Nat} (h : k < l.length) : l.take (k + 1) = l.take k ++ [l.getD k (0, 0)] := by rw [List.take_add_one]; simp [List.getD, h]
theorem madeG_snoc (N : Nat) (ps : List (Int × Int)) (e : Int × Int) : madeG N (ps ++ [e]) = addR N (madeG N ps) e := by simp [madeG]
theorem foldG_len (N : Nat) : ∀ (ps : List (Int × Int)) (g : List (List Int)), (ps.foldl (addR N) g).length = g.length
  | [], _ => rfl
  | e :: ps, g => by rw [List.foldl_cons, foldG_len N ps]; simp [addR]
theorem madeG_len (N : Nat) (ps : List (Int × Int)) : (madeG N ps).length = N := by rw [madeG, foldG_len]; simp
theorem madeG_next {N : Nat} {ps : List (Int × Int)} {k a : Nat} (h : k < ps.length) (ha : (ps.getD k (0, 0)).1 % (N : Int) = (a : Int)) :
    (madeG N (ps.take k)).set a ((madeG N (ps.take k)).getD a [] ++ [(ps.getD k (0, 0)).2 % (N : Int)]) = madeG N (ps.take (k + 1)) := by
  rw [take_succ_p h, madeG_snoc]; unfold addR; rw [ha, Int.toNat_natCast]
theorem foldG_zero : ∀ ps : List (Int × Int), madeG 0 ps = [] := fun ps => List.eq_nil_of_length_eq_zero (madeG_len 0 ps)
theorem madeG_end {N k : Nat} {ps : List (Int × Int)} (h : N = 0 ∨ ps.length ≤ k ∧ k ≤ 200 ∨ k = 200) : madeG N (ps.take k) = madeG N (ps.take 200) := by
  rcases h with rfl | ⟨h, h'⟩ | rfl
  · rw [foldG_zero, foldG_zero]
  · rw [List.take_of_length_le h, List.take_of_length_le (by omega)]
  · rfl
theorem setL {g : List (List Int)} {i j : Nat} {x : List Int} (h : i < g.length) : (g.set i x).getD j [] = if j = i then x else g.getD j [] := by
  by_cases e : j = i
  · subst e; simp [List.getD, h]
  · rw [if_neg e]; simp [List.getD, Ne.symm e]
theorem repL (N i : Nat) : (List.replicate N ([] : List Int)).getD i [] = [] := by
  by_cases h : i < N
  · simp [List.getD, h]
  · simp [List.getD, Nat.le_of_not_lt h]
theorem foldG_inn {N : Nat} : ∀ (ps : List (Int × Int)) (g : List (List Int)), g.length = N → Inn N g → Inn N (ps.foldl (addR N) g)
  | [], _, _, h => h
  | e :: ps, g, hl, h => by
    rw [List.foldl_cons]
    refine foldG_inn ps _ (by simp [addR, hl]) ?_
    intro i x hx
    by_cases hN : N = 0
    · subst hN
      have : g = [] := List.eq_nil_of_length_eq_zero hl
      subst this; simp [addR] at hx
    · unfold addR at hx
      have h1 := Int.emod_nonneg e.1 (show (N : Int) ≠ 0 by omega); have h2 := Int.emod_lt_of_pos e.1 (show (0 : Int) < N by omega)
      rw [setL (by omega)] at hx
      split at hx
      · rcases List.mem_append.1 hx with hx | hx
        · exact h _ x hx
        · rw [List.mem_singleton] at hx; subst hx
          exact ⟨Int.emod_nonneg _ (by omega), Int.emod_lt_of_pos _ (by omega)⟩
      · exact h _ x hx
theorem madeG_inn (N : Nat) (ps : List (Int × Int)) : Inn N (madeG N ps) := foldG_inn ps _ (by simp) (fun i x hx => by rw [repL] at hx; cases hx)
theorem foldG_le {N : Nat} (m : Nat) : ∀ (ps : List (Int × Int)) (g : List (List Int)), (∀ i, (g.getD i []).length ≤ m) → ∀ i, ((ps.foldl (addR N) g).getD i []).length ≤ m + ps.length
  | [], _, h, i => h i
  | e :: ps, g, h, i => by
    rw [List.foldl_cons, List.length_cons, show m + (ps.length + 1) = (m + 1) + ps.length by omega]
    refine foldG_le (m + 1) ps _ (fun j => ?_) i
    unfold addR
    by_cases hk : (e.1 % (N : Int)).toNat < g.length
    · rw [setL hk]
      split
      · rw [List.length_append, List.length_singleton]; have := h (e.1 % (N : Int)).toNat; omega
      · have := h j; omega
    · rw [List.set_eq_of_length_le (by omega)]; have := h j; omega
theorem madeG_le (N : Nat) (ps : List (Int × Int)) (i : Nat) : ((madeG N ps).getD i []).length ≤ ps.length := by
  have := foldG_le (N := N) 0 ps (List.replicate N []) (fun j => by rw [repL]; simp) i
  simpa [madeG] using this
theorem rows_of_getD {es : List (List Int)} {p : List Int → Prop} (h : ∀ i, i < es.length → p (es.getD i [])) : ∀ l ∈ es, p l := fun l hl => by
  obtain ⟨i, hi, rfl⟩ := List.getElem_of_mem hl
  have := h i hi
  simpa [List.getD, hi] using this
theorem madeG_rows (N : Nat) (ps : List (Int × Int)) (h : ps.length ≤ 1000000) : ∀ l ∈ madeG N ps, l.length ≤ 1000000 := rows_of_getD fun i _ => by have := madeG_le N ps i; omega
/-! what attempts came to -/
def kindOf (x : Int) : Int := ([0, 5, 6] : List Int).getD (x % 3).toNat 0
theorem kindOf_in (x : Int) : kindOf x = 0 ∨ kindOf x = 5 ∨ kindOf x = 6 := by
  unfold kindOf
  have h1 := Int.emod_nonneg x (show (3 : Int) ≠ 0 by omega); have h2 := Int.emod_lt_of_pos x (show (0 : Int) < 3 by omega)
  have : (x % 3).toNat = 0 ∨ (x % 3).toNat = 1 ∨ (x % 3).toNat = 2 := by omega
  rcases this with h | h | h <;> rw [h] <;> simp
def ownP (N : Nat) (ow : List Int) (k : Nat) : List Int := (List.range N).map fun i => if i < k ∧ i < ow.length then kindOf (ow.getD i 0) else 0
def madeO (N : Nat) (ow : List Int) : List Int := ownP N ow N
theorem ownP_len (N : Nat) (ow : List Int) (k : Nat) : (ownP N ow k).length = N := by simp [ownP]
theorem madeO_len (N : Nat) (ow : List Int) : (madeO N ow).length = N := ownP_len _ _ _
theorem ownP_get {N : Nat} {ow : List Int} {k i : Nat} (h : i < N) : (ownP N ow k).getD i 0 = if i < k ∧ i < ow.length then kindOf (ow.getD i 0) else 0 := by simp [ownP, List.getD, h]
theorem getD_extI {l m : List Int} (h : l.length = m.length) (k : ∀ i, i < l.length → l.getD i 0 = m.getD i 0) : l = m := by
  apply List.ext_getElem h
  intro i h1 h2
  have := k i h1
  simpa [List.getD, h1, h2] using this
theorem ownP_zero (N : Nat) (ow : List Int) : ownP N ow 0 = List.replicate N 0 := by
  refine getD_extI (by simp [ownP]) fun i hi => ?_
  rw [ownP_len] at hi
  rw [ownP_get hi, if_neg (by omega)]; simp [List.getD, hi]
theorem ownP_succ {N : Nat} {ow : List Int} {k : Nat} (hk : k < N) (h : k < ow.length) : (ownP N ow k).set k (kindOf (ow.getD k 0)) = ownP N ow (k + 1) := by
  refine getD_extI (by simp [ownP]) fun i hi => ?_
  rw [List.length_set, ownP_len] at hi
  rw [setI' (by rw [ownP_len]; exact hk), ownP_get hi, ownP_get hi]
  by_cases e : i = k
  · subst e; rw [if_pos rfl, if_pos ⟨by omega, h⟩]
  · rw [if_neg e]
    by_cases e2 : i < k ∧ i < ow.length
    · rw [if_pos e2, if_pos ⟨by omega, e2.2⟩]
    · rw [if_neg e2, if_neg (by omega)]
theorem ownP_end {N : Nat} {ow : List Int} {k : Nat} (h : N ≤ k ∨ ow.length ≤ k) : ownP N ow k = madeO N ow := by
  refine getD_extI (by simp [ownP, madeO]) fun i hi => ?_
  rw [ownP_len] at hi
  rw [ownP_get hi]; unfold madeO; rw [ownP_get hi]
  by_cases e : i < k ∧ i < ow.length
  · rw [if_pos e, if_pos ⟨hi, e.2⟩]
  · rw [if_neg e, if_neg (by omega)]
theorem madeO_in {N : Nat} {ow : List Int} {i : Nat} (h : i < N) : (madeO N ow).getD i 0 = 0 ∨ (madeO N ow).getD i 0 = 5 ∨ (madeO N ow).getD i 0 = 6 := by
  unfold madeO; rw [ownP_get h]; split
  · exact kindOf_in _
  · exact .inl rfl
theorem made_fok {N : Nat} (h : N ≤ 64) (ps : List (Int × Int)) (ow : List Int) : FOk N (madeG N ps) (madeO N ow) :=
  ⟨h, madeG_len _ _, madeO_len _ _, rows_of_getD fun i _ x hx => madeG_inn N ps i x hx, fun _ hi => madeO_in hi⟩
end Go.Proofs.Ytljnaefaahphaaa.Sp
