/- Arguments that are rows of records: what was there can be read. No program in it. -/
import Derived.Test.YtombnfgkgcjihaaLawB
import Derived.Test.YtombnfgkgcjihaaRec
import Derived.Deep.Strs
import Derived.Lib.SmallJoins
set_option linter.unusedVariables false
set_option linter.unusedSimpArgs false
namespace Go.Proofs.Ytombnfgkgcjihaa.Sp
open Go Go.ChangeShapes Go.WideShapes Go.ChangeAt Go.RowKit
variable {P : Program} {H : Type} {enc : TypeId × Value → H}
theorem o_recs {α : Type} [Inhabited α] {F : α → List Value} {n : Nat} (hF : ∀ x, (F x).length = n) (hn : 0 < n) {good : α → Prop} {W : World} {t e : TypeId} {cs : List Value} {fuel : Nat} {x : DataW H × List MemPlace}
    (ht : P.underlying t = some (.slice e)) (ce : P.cellsOf e = n) (each : ∀ (fuel : Nat) (cs : List Value) (y : DataW H × List MemPlace), cs.length = n → DataW.trod enc P W 0 (fun _ => true) true fuel e cs = some y → ∃ z, F z = cs ∧ good z)
    (h : DataW.trod enc P W 0 (fun _ => true) true fuel t cs = some x) :
    ∃ bs cp, ∃ xs : List α, cs = [.slice bs xs.length cp] ∧ xs.length ≤ 9223372036854775807 ∧ SlOk bs xs.length ∧ Rd [Old W] bs (recs F xs) ∧ ∀ x ∈ xs, good x := by
  rcases Deep.open_slice ht h with ⟨hcs, _⟩ | ⟨a, len, cap, m, k, D, Pl, hcs, _, hl, hm, hmm, _, hx⟩
  · exact ⟨none, 0, [], hcs, by simp, slok_none, fun _ _ j u hu => by simp [recs] at hu, fun x hx => by cases hx⟩
  · simp only [if_true] at hmm
    subst hmm
    have hmax : m ≤ 9223372036854775807 := by simpa [maxLen] using hm
    have hq : ∀ i, i < len → ∃ z : α, good z ∧ ∀ j, j < n → W.cell? ((a.add (i * n)).add j) = (F z)[j]? := fun i hi => by
      obtain ⟨cs', h1, h2⟩ := hx i (by omega)
      rw [ce] at h1
      obtain ⟨_, hlen, hcell⟩ := World.cells?_some h1
      obtain ⟨z, hz, hg⟩ := each _ _ _ hlen h2
      refine ⟨z, hg, fun j hj => ?_⟩
      rw [hz]; exact hcell j hj
    obtain ⟨q, hq⟩ := Deep.choose_lt hq
    have hsl : SlOk (some a) len := slok_cells (W := W) fun h0 => by
      have h1 := (hq 0 h0).2 0 hn
      have h2 : 0 < (F (q 0)).length := by rw [hF]; exact hn
      refine ⟨(F (q 0))[0], ?_⟩
      rw [List.getElem?_eq_getElem h2] at h1
      simpa [Addr.add] using h1
    have hlr : ((List.range len).map q).length = len := by simp
    refine ⟨some a, m, (List.range len).map q, by rw [hlr]; exact hcs, by rw [hlr]; omega, by rw [hlr]; exact hsl, ?_, fun x hx' => ?_⟩
    · intro w hs j u hu
      have hj : j < len * n := by have := (List.getElem?_eq_some_iff.1 hu).1; rw [recs_len hF, hlr] at this; exact this
      have hdm := Nat.div_add_mod j n
      have hmod := Nat.mod_lt j hn
      have hdiv : j / n < len := Nat.div_lt_of_lt_mul (by rw [Nat.mul_comm]; exact hj)
      obtain ⟨b, o, hb⟩ := hsl (Nat.lt_of_le_of_lt (Nat.zero_le _) hdiv)
      cases hb
      have h1 := (hq (j / n) hdiv).2 (j % n) hmod
      rw [add_plain, add_plain] at h1
      have h2 := recs_get hF (xs := (List.range len).map q) (d := default) (k := j / n) (j := j % n) (by rw [hlr]; exact hdiv) hmod
      rw [show j / n * n + j % n = j by rw [Nat.mul_comm]; exact hdm, hu] at h2
      have hget : ((List.range len).map q).getD (j / n) default = q (j / n) := by simp [List.getD, hdiv]
      rw [hget] at h2
      refine gives_old ?_ w hs
      rw [ad_some, show o + j = o + j / n * n + j % n by rw [Nat.add_assoc, show j / n * n + j % n = j by rw [Nat.mul_comm]; exact hdm], h1, ← h2]
    · obtain ⟨i, hi, rfl⟩ := List.mem_map.1 hx'
      exact (hq i (List.mem_range.1 hi)).1
/-- at the top -/
theorem o_recsT {α : Type} [Inhabited α] {F : α → List Value} {n : Nat} (hF : ∀ x, (F x).length = n) (hn : 0 < n) {good : α → Prop} {W : World} {t e : TypeId} {v : Value} {d : DataW H} {p : List MemPlace}
    (ht : P.underlying t = some (.slice e)) (ce : P.cellsOf e = n) (each : ∀ (fuel : Nat) (cs : List Value) (y : DataW H × List MemPlace), cs.length = n → DataW.trod enc P W 0 (fun _ => true) true fuel e cs = some y → ∃ z, F z = cs ∧ good z)
    {base : Nat} (hok : Value.okWide P W .any base t v) (h : DataW.Trod enc P W 0 (fun _ => true) true t v d p) :
    ∃ bs cp, ∃ xs : List α, v = .slice bs xs.length cp ∧ xs.length ≤ 9223372036854775807 ∧ SlOk bs xs.length ∧ Rd [Old W] bs (recs F xs) ∧ ∀ x ∈ xs, good x := by
  obtain ⟨a, len, cap, rfl⟩ := okWide_slice ht hok
  obtain ⟨fuel, hf⟩ := h
  obtain ⟨bs, cp, xs, h1, h2, h3, h4, h5⟩ := o_recs hF hn ht ce each hf
  exact ⟨bs, cp, xs, by simpa [Value.cells] using h1, h2, h3, h4, h5⟩
/-- pairs of ints -/
def pairF (e : Int × Int) : List Value := [.int .i64 e.1, .int .i64 e.2]
theorem pairF_len (e : Int × Int) : (pairF e).length = 2 := rfl
theorem pairF_one (e : Int × Int) : ∀ u ∈ pairF e, u.oneCell' = true := by intro u hu; simp [pairF] at hu; rcases hu with rfl | rfl <;> rfl
theorem recs_pairs (es : List (Int × Int)) : recs pairF es = pairs es := rfl
/-- of three ints -/
structure R3 where
  x : Int
  y : Int
  z : Int
abbrev R3.d : R3 := ⟨0, 0, 0⟩
instance : Inhabited R3 := ⟨R3.d⟩
def triF (e : R3) : List Value := [.int .i64 e.x, .int .i64 e.y, .int .i64 e.z]
theorem triF_len (e : R3) : (triF e).length = 3 := rfl
theorem triF_one (e : R3) : ∀ u ∈ triF e, u.oneCell' = true := by intro u hu; simp [triF] at hu; rcases hu with rfl | rfl | rfl <;> rfl
def GoodI (x : Int) : Prop := -9223372036854775808 ≤ x ∧ x ≤ 9223372036854775807
theorem each_int {W : World} {t : TypeId} {k : IntKind} {fuel : Nat} {c : Value} {y : DataW H × List MemPlace} (u : P.underlying t = some (.int k)) (h : DataW.trod enc P W 0 (fun _ => true) true fuel t [c] = some y) : ∃ x, c = .int k x ∧ (Lit.int k x).wf = true := by
  obtain ⟨x, e, _, w⟩ := DataW.trod_int u h
  exact ⟨x, by simpa using e, w⟩
theorem each_pair {W : World} {e : TypeId} {f0 f1 : Field} (he : P.underlying e = some (.struct #[f0, f1])) (o0 : f0.offset = 0) (o1 : f1.offset = 1) (c0 : P.cellsOf f0.type = 1) (c1 : P.cellsOf f1.type = 1) (u0 : P.underlying f0.type = some (.int .i64)) (u1 : P.underlying f1.type = some (.int .i64))
    (fuel : Nat) (cs : List Value) (y : DataW H × List MemPlace) (hl : cs.length = 2) (h : DataW.trod enc P W 0 (fun _ => true) true fuel e cs = some y) : ∃ z, pairF z = cs ∧ GoodI z.1 ∧ GoodI z.2 := by
  obtain ⟨y0, y1, n, _, _, h0, h1⟩ := trod_struct2 he h
  match cs, hl with
  | [a, b], _ =>
    rw [o0, c0] at h0; rw [o1, c1] at h1
    obtain ⟨x0, rfl, w0⟩ := each_int u0 h0
    obtain ⟨x1, rfl, w1⟩ := each_int u1 h1
    exact ⟨(x0, x1), rfl, wf_i64 w0, wf_i64 w1⟩
theorem each_tri {W : World} {e : TypeId} {f0 f1 f2 : Field} (he : P.underlying e = some (.struct #[f0, f1, f2])) (o0 : f0.offset = 0) (o1 : f1.offset = 1) (o2 : f2.offset = 2) (c0 : P.cellsOf f0.type = 1) (c1 : P.cellsOf f1.type = 1) (c2 : P.cellsOf f2.type = 1)
    (u0 : P.underlying f0.type = some (.int .i64)) (u1 : P.underlying f1.type = some (.int .i64)) (u2 : P.underlying f2.type = some (.int .i64))
    (fuel : Nat) (cs : List Value) (y : DataW H × List MemPlace) (hl : cs.length = 3) (h : DataW.trod enc P W 0 (fun _ => true) true fuel e cs = some y) : ∃ z, triF z = cs ∧ GoodI z.x ∧ GoodI z.y ∧ GoodI z.z := by
  obtain ⟨y0, y1, y2, n, _, _, h0, h1, h2⟩ := Deep.trod_struct3 he h
  match cs, hl with
  | [a, b, c], _ =>
    rw [o0, c0] at h0; rw [o1, c1] at h1; rw [o2, c2] at h2
    obtain ⟨x0, rfl, w0⟩ := each_int u0 h0
    obtain ⟨x1, rfl, w1⟩ := each_int u1 h1
    obtain ⟨x2, rfl, w2⟩ := each_int u2 h2
    exact ⟨⟨x0, x1, x2⟩, rfl, wf_i64 w0, wf_i64 w1, wf_i64 w2⟩
end Go.Proofs.Ytombnfgkgcjihaa.Sp
