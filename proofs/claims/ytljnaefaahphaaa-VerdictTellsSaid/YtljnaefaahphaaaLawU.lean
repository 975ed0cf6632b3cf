/- Arguments that are rows of pairs of small numbers (arrays of two bytes). No program in it. -/
import Derived.Test.YtljnaefaahphaaaLawR
import Derived.Test.YtljnaefaahphaaaVdl
import Derived.OpenShut
set_option linter.unusedVariables false
set_option linter.unusedSimpArgs false
namespace Go.Proofs.Ytljnaefaahphaaa.Sp
open Go Go.ChangeShapes Go.WideShapes Go.ChangeAt Go.RowKit
variable {P : Program} {H : Type} {enc : TypeId × Value → H}
theorem wf_u8 {x : Int} (w : (Lit.int .u8 x).wf = true) : 0 ≤ x ∧ x ≤ 255 := by simpa [Lit.wf, IntKind.min, IntKind.max, IntKind.signed, IntKind.bits] using w
theorem wfs_u8 {xs : List Int} (w : ∀ x ∈ xs, (Lit.int .u8 x).wf = true) : ∀ x ∈ xs, 0 ≤ x ∧ x ≤ 255 := fun x hx => wf_u8 (w x hx)
theorem each_u8p {W : World} {e f : TypeId} (he : P.underlying e = some (.array 2 f)) (cf : P.cellsOf f = 1) (uf : P.underlying f = some (.int .u8))
    (fuel : Nat) (cs : List Value) (y : DataW H × List MemPlace) (hl : cs.length = 2) (h : DataW.trod enc P W 0 (fun _ => true) true fuel e cs = some y) : ∃ z, pu8F z = cs ∧ (0 ≤ z.1 ∧ z.1 ≤ 255) ∧ 0 ≤ z.2 ∧ z.2 ≤ 255 := by
  obtain ⟨xs, m, _, _, _, hlen, hf⟩ := DataW.trod_array he h
  match cs, hl with
  | [a, b], _ =>
    have h0 := hf 0 (by omega)
    have h1 := hf 1 (by omega)
    rw [cf] at h0 h1
    match xs, hlen with
    | [y0, y1], _ =>
      obtain ⟨x0, rfl, w0⟩ := each_int (c := a) uf (show DataW.trod enc P W 0 (fun _ => true) true m f [a] = some y0 from by simpa using h0)
      obtain ⟨x1, rfl, w1⟩ := each_int (c := b) uf (show DataW.trod enc P W 0 (fun _ => true) true m f [b] = some y1 from by simpa using h1)
      exact ⟨(x0, x1), rfl, wf_u8 w0, wf_u8 w1⟩
end Go.Proofs.Ytljnaefaahphaaa.Sp
