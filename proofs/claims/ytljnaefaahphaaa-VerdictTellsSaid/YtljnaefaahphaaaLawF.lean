/- Facts as an argument: a number, rows of rows of numbers, and a row of numbers. No program in it. -/
import Derived.Test.YtljnaefaahphaaaLawU
set_option linter.unusedVariables false
set_option linter.unusedSimpArgs false
namespace Go.Proofs.Ytljnaefaahphaaa.Sp
open Go Go.ChangeShapes Go.WideShapes Go.ChangeAt Go.RowKit
variable {P : Program} {H : Type} {enc : TypeId × Value → H}
/-- a row of numbers -/
def RowG (W : World) (v : Value) (xs : List Int) : Prop := ∃ b c, v = .slice b xs.length c ∧ SlOk b xs.length ∧ xs.length ≤ c ∧ xs.length ≤ 9223372036854775807 ∧ Rd [Old W] b (ints .i64 xs)
theorem each_row {W : World} {e f : TypeId} (ue : P.underlying e = some (.slice f)) (uf : P.underlying f = some (.int .i64)) (cf : P.cellsOf f = 1) {fuel : Nat} {c : Value} {y : DataW H × List MemPlace}
    (h : DataW.trod enc P W 0 (fun _ => true) true fuel e [c] = some y) : ∃ xs, RowG W c xs := by
  rcases open_ints ue uf cf h with ⟨hcs, _⟩ | ⟨a', len', cap', zs, hcs, _, hl, hm, hz, _, hcell, hwz⟩
  · simp only [List.cons.injEq, and_true] at hcs
    exact ⟨[], none, 0, hcs, slok_none, Nat.le_refl _, by simp, fun _ _ j u hu => by simp [ints] at hu⟩
  · simp only [List.cons.injEq, and_true] at hcs
    simp only [if_true] at hz
    have hle : (zs.take len').length = len' := by simp; omega
    have hmax : cap' ≤ 9223372036854775807 := by simpa [maxLen] using hm
    have hsl : SlOk (some a') len' := slok_cells (W := W) fun hn => ⟨_, hcell 0 (by omega)⟩
    refine ⟨zs.take len', some a', cap', by rw [hle]; exact hcs, by rw [hle]; exact hsl, by omega, by omega, ?_⟩
    intro w hs j u hu
    have hj : j < len' := by have := (List.getElem?_eq_some_iff.1 hu).1; simp at this; omega
    obtain ⟨b, o, hb⟩ := hsl (by omega)
    cases hb
    have h1 := hcell j (by omega)
    rw [add_plain] at h1
    refine gives_old ?_ w hs
    rw [ad_some, h1]
    have : (ints .i64 (zs.take len'))[j]? = some (.int .i64 ((zs.take len').getD j 0)) := ints_get (by rw [hle]; exact hj)
    rw [this] at hu
    simp only [Option.some.injEq] at hu
    rw [← hu]
    simp [List.getD, hj]
def rowF (z : Value × List Int) : List Value := [z.1]
theorem rowF_len (z : Value × List Int) : (rowF z).length = 1 := rfl
theorem cap_of {W : World} {t e : TypeId} {fuel : Nat} {a : Option Addr} {len cap : Nat} {y : DataW H × List MemPlace} (ht : P.underlying t = some (.slice e)) (h : DataW.trod enc P W 0 (fun _ => true) true fuel t [.slice a len cap] = some y) : len ≤ cap := by
  rcases Deep.open_slice ht h with ⟨hcs, _⟩ | ⟨a', len', cap', m, k, D, Pl, hcs, _, hl, hm, hmm, _, hx⟩
  · simp only [List.cons.injEq, and_true, Value.slice.injEq] at hcs
    obtain ⟨rfl, rfl, rfl⟩ := hcs
    exact Nat.le_refl _
  · simp only [List.cons.injEq, and_true, Value.slice.injEq] at hcs
    obtain ⟨rfl, rfl, rfl⟩ := hcs
    exact hl
instance : Inhabited (Value × List Int) := ⟨(undef, [])⟩
theorem open_grid {W : World} {t e f : TypeId} (ut : P.underlying t = some (.slice e)) (ue : P.underlying e = some (.slice f)) (uf : P.underlying f = some (.int .i64)) (ce : P.cellsOf e = 1) (cf : P.cellsOf f = 1) {fuel : Nat} {c : Value} {y : DataW H × List MemPlace}
    (h : DataW.trod enc P W 0 (fun _ => true) true fuel t [c] = some y) : ∃ bs cp, ∃ es : List (List Int), c = .slice bs es.length cp ∧ es.length ≤ 9223372036854775807 ∧ SlOk bs es.length ∧ es.length ≤ cp ∧ GridR [Old W] bs es := by
  obtain ⟨bs, cp, xs, h1, h2, h3, h4, h5⟩ := o_recs (F := rowF) (good := fun z => RowG W z.1 z.2) rowF_len (by omega) ut ce (fun fuel cs y hl h => by
    match cs, hl with
    | [c], _ =>
      obtain ⟨xs, hx⟩ := each_row ue uf cf h
      exact ⟨(c, xs), rfl, hx⟩) h
  have hc : c = .slice bs xs.length cp := by simpa using h1
  subst hc
  have hcap := cap_of ut h
  have hlen : (xs.map (·.2)).length = xs.length := by simp
  refine ⟨bs, cp, xs.map (·.2), by rw [hlen], by rw [hlen]; exact h2, by rw [hlen]; exact h3, by rw [hlen]; exact hcap, xs.map (·.1), by simp, ?_, fun i hi => ?_⟩
  · have e : recs rowF xs = xs.map (·.1) := by
      clear h1 h2 h3 h4 h5 h hcap hlen
      unfold recs
      induction xs with
      | nil => rfl
      | cons x xs ih => rw [List.flatMap_cons, List.map_cons, ih]; rfl
    rw [← e]; exact h4
  · have hi' : i < xs.length := by simpa using hi
    have hm : xs[i] ∈ xs := List.getElem_mem hi'
    obtain ⟨b, cc, k1, k2, k3, _, k5⟩ := h5 _ hm
    have e1 : (xs.map (·.2)).getD i [] = xs[i].2 := by simp [List.getD, hi']
    have e2 : (xs.map (·.1)).getD i undef = xs[i].1 := by simp [List.getD, hi']
    rw [e1, e2]
    exact ⟨b, cc, k2, k3, k1, k5⟩
theorem o_facts {W : World} {t e f : TypeId} {f0 f1 f2 : Field} {v : Value} {d : DataW H} {p : List MemPlace} {base : Nat} (hs : P.underlying t = some (.struct #[f0, f1, f2])) (hone : Go.Deep.oneCellFields P #[f0, f1, f2] = true) (hC : P.cellsOf t = 3)
    (u0 : P.underlying f0.type = some (.int .i64)) (u1 : P.underlying f1.type = some (.slice e)) (ue : P.underlying e = some (.slice f)) (uf : P.underlying f = some (.int .i64)) (u2 : P.underlying f2.type = some (.slice f)) (ce : P.cellsOf e = 1) (cf : P.cellsOf f = 1)
    (hok : Value.okWide P W .any base t v) (h : DataW.Trod enc P W 0 (fun _ => true) true t v d p) :
    ∃ (n : Int) (be bo : Option Addr) (ca co : Nat) (es : List (List Int)) (own : List Int), v = .agg #[.int .i64 n, .slice be es.length ca, .slice bo own.length co] ∧ GridR [Old W] be es ∧ SlOk be es.length ∧ es.length ≤ ca ∧ es.length ≤ 9223372036854775807 ∧
      Rd [Old W] bo (ints .i64 own) ∧ SlOk bo own.length ∧ own.length ≤ co ∧ own.length ≤ 9223372036854775807 := by
  obtain ⟨c0, c1, c2, y0, y1, y2, n, rfl, _, _, h0, h1, h2⟩ := Go.Joins.open_agg3 hs hone hC hok h
  obtain ⟨x0, rfl, _⟩ := each_int u0 h0
  obtain ⟨be, ca, es, rfl, k1, k2, k3, k4⟩ := open_grid u1 ue uf ce cf h1
  obtain ⟨own, bo, co, rfl, j1, j2, j3, j4⟩ := each_row u2 uf cf h2
  exact ⟨x0, be, bo, ca, co, es, own, rfl, k4, k2, k3, k1, j4, j1, j2, j3⟩
end Go.Proofs.Ytljnaefaahphaaa.Sp
