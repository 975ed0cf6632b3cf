/- Steps of turns as an argument. No program in it. -/
import Derived.Test.YtkhceihokoheaaaLawR
import Derived.Test.YtkhceihokoheaaaTst
set_option linter.unusedVariables false
namespace Go.Proofs.Ytkhceihokoheaaa.Sp
open Go Go.ChangeShapes Go.WideShapes Go.ChangeAt Go.RowKit
variable {P : Program} {H : Type} {enc : TypeId × Value → H}
theorem each_step {W : World} {e e2 : TypeId} {f0 f1 f2 f3 : Field} (he : P.underlying e = some (.struct #[f0, f1, f2, f3])) (o0 : f0.offset = 0) (o1 : f1.offset = 1) (o2 : f2.offset = 2) (o3 : f3.offset = 3) (c0 : P.cellsOf f0.type = 1) (c1 : P.cellsOf f1.type = 1) (c2 : P.cellsOf f2.type = 1) (c3 : P.cellsOf f3.type = 1)
    (u0 : P.underlying f0.type = some (.int .i64)) (u1 : P.underlying f1.type = some (.int .i64)) (u2 : P.underlying f2.type = some (.int .i64)) (u3 : P.underlying f3.type = some (.slice e2))
    (hp : ∀ (fuel : Nat) (cs : List Value) (y : DataW H × List MemPlace), cs.length = 2 → DataW.trod enc P W 0 (fun _ => true) true fuel e2 cs = some y → ∃ z, pairF z = cs ∧ GoodI z.1 ∧ GoodI z.2) (ce2 : P.cellsOf e2 = 2)
    (fuel : Nat) (cs : List Value) (y : DataW H × List MemPlace) (hl : cs.length = 4) (h : DataW.trod enc P W 0 (fun _ => true) true fuel e cs = some y) : ∃ z, st4F z = cs ∧ GoodS [Old W] z := by
  obtain ⟨y0, y1, y2, y3, n, _, _, h0, h1, h2, h3⟩ := Go.Joins.trod_struct4 he h
  match cs, hl with
  | [a, b, c, d], _ =>
    rw [o0, c0] at h0; rw [o1, c1] at h1; rw [o2, c2] at h2; rw [o3, c3] at h3
    obtain ⟨x0, rfl, w0⟩ := each_int u0 h0
    obtain ⟨x1, rfl, w1⟩ := each_int u1 h1
    obtain ⟨x2, rfl, w2⟩ := each_int u2 h2
    obtain ⟨bs, cp, xs, e1, e2, e3, e4, _⟩ := o_recs (good := fun z => GoodI z.1 ∧ GoodI z.2) pairF_len (by omega) u3 ce2 hp h3
    have ed : d = .slice bs xs.length cp := by simpa using e1
    exact ⟨⟨x0, x1, x2, d, xs⟩, rfl, wf_i64 w2, bs, cp, ed, e2, e3, e4⟩
end Go.Proofs.Ytkhceihokoheaaa.Sp
