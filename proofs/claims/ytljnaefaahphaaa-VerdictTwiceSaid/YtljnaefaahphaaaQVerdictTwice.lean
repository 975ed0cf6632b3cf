/- VerdictTwice: an edge that is there twice is one; what was handed in stays: whatever comes in, the call returns true, and what came in reads as before. No condition but the row's own. -/
import Derived.Test.YtljnaefaahphaaaRows
import Derived.Test.YtljnaefaahphaaaLaw
import Derived.Test.YtljnaefaahphaaaLf
import Derived.Test.YtljnaefaahphaaaLawU
import Derived.Deep.DeepHandedRow
import Derived.Lib.SmallJoins
set_option linter.unusedVariables false
set_option linter.unusedSimpArgs false
namespace Go.Proofs.Ytljnaefaahphaaa.verdictTwice
open Go Go.Proofs Go.Proofs.Ytljnaefaahphaaa.Sp Go.ChangeShapes Go.WideShapes Go.ChangeAt Go.RowKit
theorem own : ownKnob Try.prog.godebug = none := by kernel_rfl
theorem cells5 : Try.prog.cellsOf 5 = 1 := by kernel_rfl
theorem cells50 : Try.prog.cellsOf 50 = 2 := by kernel_rfl
theorem rec_ok : (Try.f7.params.toList.all fun t => Try.prog.readableRec t && decide (t < Try.prog.types.size)) = true := by kernel_rfl
theorem laid_ok : laidOutB Try.prog = true := by kernel_rfl
theorem contract (H : Type) (enc : TypeId × Value → H) (W : World) (base : Nat) (args : Array Value) (ds gs : List (DataW H)) (before : List MemPlace)
    (hval : ∀ (j : Nat) t v, Try.f7.params[j]? = some t → args[j]? = some v → Value.okWide Try.prog W .any base t v)
    (hW : DataW.Whole enc Try.prog Try.f7.params.toList Rows.verdictTwiceSpec.vars false W args.toList ds gs before) :
    Calls Try.prog 7 args W fun e W' => ∃ v, e = .returned v ∧ Rows.verdictTwiceSpec.post enc Try.prog Try.f7 false true false false W args v W' := by
  have hW' := hW
  obtain ⟨p, q, hA0, hV, rfl, hfz, hnd⟩ := hW
  have hA : DataW.TrodAll enc Try.prog W 0 (fun _ => true) true Try.f7.params.toList args.toList ds p := hA0
  clear hA0 hV hfz hnd
  rw [Try.params7] at hA hval
  obtain ⟨v0, vs0, d0, ds0, p0, q0, hargs, rfl, rfl, h0, r0⟩ := trodAll_cons hA
  obtain ⟨v1, vs1, d1, ds1, p1, q1, rfl, rfl, rfl, h1, r1⟩ := trodAll_cons r0
  obtain ⟨v2, vs2, d2, ds2, p2, q2, rfl, rfl, rfl, h2, r2⟩ := trodAll_cons r1
  obtain ⟨v3, vs3, d3, ds3, p3, q3, rfl, rfl, rfl, h3, r3⟩ := trodAll_cons r2
  obtain ⟨rfl, rfl, rfl⟩ := trodAll_nil r3
  obtain rfl : args = #[v0, v1, v2, v3] := by cases args; simp_all
  obtain ⟨a0, rfl, rfl, rfl, w0⟩ := open_int Try.underlying3 (hval 0 3 v0 rfl rfl) h0
  have w0 := wf_i64 w0
  obtain ⟨bs1, cp1, xs1, rfl, ll1, ok1, rd1, gd1⟩ := o_recsT (good := fun z : Int × Int => (0 ≤ z.1 ∧ z.1 ≤ 255) ∧ 0 ≤ z.2 ∧ z.2 ≤ 255) pu8F_len (by omega) Try.underlying34 cells50 (each_u8p Try.underlying50 cells5 Try.underlying5) (hval 1 34 v1 rfl rfl) h1
  obtain ⟨bs2, cp2, xs2, rfl, ll2, ok2, rd2, wf2⟩ := o_ints Try.underlying35 Try.underlying5 cells5 (hval 2 35 v2 rfl rfl) h2
  obtain ⟨bs3, cp3, xs3, rfl, ll3, ok3, rd3, wf3⟩ := o_ints Try.underlying35 Try.underlying5 cells5 (hval 3 35 v3 rfl rfl) h3
  refine (law_calls (twice_law a0 (N := (a0 % 65536 % 65).toNat) (by omega) xs1 xs2 rd1 ok1 rd2 ok2 gd1 (wfs_u8 wf2) ll1 ll2 xs3 rd3 ok3 (wfs_u8 wf3) ll3)).mono fun e W' ⟨he, hend⟩ => ?_
  subst he
  exact ⟨_, rfl, law_post laid_ok rec_ok rfl rfl Try.underlying4 (fun ds h => by match ds, h with | [_, _, _, _], _ => rfl) hW' hend⟩
noncomputable def wit (os : Os) : World := World.holding Try.prog os ⟨#[], #[], []⟩
theorem reads (os : Os) {H : Type} (enc : TypeId × Value → H) : ∃ places, DataW.whole enc Try.prog ((wit os).forCall (fun _ _ => 0) ⟨#[], #[.int .i64 0, .slice none 0 0, .slice none 0 0, .slice none 0 0], []⟩).memory Try.f7.params.toList Rows.verdictTwiceSpec.vars false (#[.int .i64 0, .slice none 0 0, .slice none 0 0, .slice none 0 0] : Array Value).toList 8 = some ([.lit (.int .i64 0), .nil, .nil, .nil], [], places) :=
  ⟨[], by kernel_rfl⟩
set_option maxRecDepth 100000 in
theorem lifted (os : Os) (started : os.Started) (H : Type) (enc : TypeId × Value → H) (F : Stop.Interp) :
    ReturnsInHanded {} Try.checked os 7 .any ((OpenSpec.ofChange Rows.verdictTwiceSpec).preRow enc Try.prog Try.f7 Rows.verdictTwiceRow.domain false Rows.verdictTwiceRow.laid) (((OpenSpec.ofChange Rows.verdictTwiceSpec).at F).post enc Try.prog Try.f7 false true false false) := by
  obtain ⟨places, hx⟩ := reads os enc
  refine returnsInHanded_of_row (C := Try.checked) (s := OpenSpec.ofChange Rows.verdictTwiceSpec) own started (by kernel_rfl) Try.func7
    (witness_row_at (enc := enc) (C := Try.checked) false (wit os) #[.int .i64 0, .slice none 0 0, .slice none 0 0, .slice none 0 0] rfl (by kernel_rfl) (by kernel_rfl) (by kernel_rfl)
      (OpenSpec.preRow_of_cond 8 hx (by kernel_rfl) (fun k hk => by cases hk) (by kernel_rfl) (laidMet_of_run' 8 (by kernel_rfl) (by kernel_rfl)))) ?_
  intro W base args ds gs before hval hW _ _ _ hL _ _
  exact contract H enc W base args ds gs before hval hW
theorem said : Rows.VerdictTwiceSaid :=
  OpenClaim.holds_of_cond 7 Try.f7 rfl rfl rfl rfl rfl rfl rfl ⟨rfl, rfl, rfl, rfl, rfl⟩ rfl rfl rfl rfl rfl (by kernel_rfl) Try.func7 (by kernel_rfl)
    (of_decide_eq_true (by kernel_rfl)) (by unfold Func.isWrapper; first | (rw [if_pos (by decide +kernel)]; kernel_rfl) | (rw [if_neg (by decide +kernel)]; exact ⟨rfl, rfl⟩))
    (fun os started H enc _ F => by rw [OpenClaim.pre_eq_preRow]; exact lifted os started H enc F)
#print axioms said
end Go.Proofs.Ytljnaefaahphaaa.verdictTwice
