/- PickTells: what may run next is what the document says: whatever comes in, the call returns true, and what came in reads as before. No condition but the row's own. -/
import Derived.Test.YtfoiopbjomaclaaDoorCards
import Derived.Test.YtfoiopbjomaclaaDoorTie
import Derived.Test.YtfoiopbjomaclaaDoorLaw
import Derived.Test.YtfoiopbjomaclaaDoorLf
import Derived.Test.YtfoiopbjomaclaaDoorLawC
import Derived.Deep.DeepHandedRow
import Derived.Lib.SmallJoins
set_option linter.unusedVariables false
set_option linter.unusedSimpArgs false
namespace Go.Proofs.YtfoiopbjomaclaaDoor.pickTells
open Go Go.Proofs Go.Proofs.YtfoiopbjomaclaaDoor.Sp Go.ChangeShapes Go.WideShapes Go.ChangeAt Go.RowKit
theorem own : ownKnob Tryd.prog.godebug = none := by kernel_rfl
theorem cells3 : Tryd.prog.cellsOf 3 = 1 := by kernel_rfl
theorem cells34 : Tryd.prog.cellsOf 34 = 2 := by kernel_rfl
theorem cells51 : Tryd.prog.cellsOf 51 = 2 := by kernel_rfl
theorem gTab : Tryd.prog.globalNamed "math/bits.deBruijn64tab" = some 0 := by kernel_rfl
theorem gTabType : (Tryd.prog.globals[0]?).map (·.type) = some 77 := by kernel_rfl
theorem cellsT : Tryd.prog.cellsOf 77 = 64 := by kernel_rfl
theorem cellsU : Tryd.prog.cellsOf 5 = 1 := by kernel_rfl
theorem table {W : World} (h : laidMetH Tryd.prog Rows.pickTellsRow.laid W) : Lib.TabIs Tryd.prog W "math/bits.deBruijn64tab" .u8 (Lib.deBruijn64tab.map fun n : Nat => (n : Int)) :=
  Lib.tabIs_of_head (rest := []) gTab gTabType Tryd.underlying77 Tryd.underlying5 cellsU cellsT h
theorem tab {W : World} (h : laidMetH Tryd.prog Rows.pickTellsRow.laid W) : Tab [Old W] := fun j hj => gives_old (by
  have := (table h).cell gTab j (by rw [List.length_map]; exact hj)
  rw [this]
  have hj' : j < Lib.deBruijn64tab.length := hj
  simp [List.getD, hj'])
theorem rec_ok : (Tryd.f3.params.toList.all fun t => Tryd.prog.readableRec t && decide (t < Tryd.prog.types.size)) = true := by kernel_rfl
theorem laid_ok : laidOutB Tryd.prog = true := by kernel_rfl
theorem contract (H : Type) (enc : TypeId × Value → H) (W : World) (base : Nat) (args : Array Value) (ds gs : List (DataW H)) (before : List MemPlace)
    (hval : ∀ (j : Nat) t v, Tryd.f3.params[j]? = some t → args[j]? = some v → Value.okWide Tryd.prog W .any base t v)
    (hW : DataW.Whole enc Tryd.prog Tryd.f3.params.toList Rows.pickTellsSpec.vars false W args.toList ds gs before) (hL : laidMetH Tryd.prog Rows.pickTellsRow.laid W) :
    Calls Tryd.prog 3 args W fun e W' => ∃ v, e = .returned v ∧ Rows.pickTellsSpec.post enc Tryd.prog Tryd.f3 false true false false W args v W' := by
  have hW' := hW
  obtain ⟨p, q, hA0, hV, rfl, hfz, hnd⟩ := hW
  have hA : DataW.TrodAll enc Tryd.prog W 0 (fun _ => true) true Tryd.f3.params.toList args.toList ds p := hA0
  clear hA0 hV hfz hnd
  rw [Tryd.params3] at hA hval
  obtain ⟨v0, vs0, d0, ds0, p0, q0, hargs, rfl, rfl, h0, r0⟩ := trodAll_cons hA
  obtain ⟨v1, vs1, d1, ds1, p1, q1, rfl, rfl, rfl, h1, r1⟩ := trodAll_cons r0
  obtain ⟨v2, vs2, d2, ds2, p2, q2, rfl, rfl, rfl, h2, r2⟩ := trodAll_cons r1
  obtain ⟨v3, vs3, d3, ds3, p3, q3, rfl, rfl, rfl, h3, r3⟩ := trodAll_cons r2
  obtain ⟨v4, vs4, d4, ds4, p4, q4, rfl, rfl, rfl, h4, r4⟩ := trodAll_cons r3
  obtain ⟨v5, vs5, d5, ds5, p5, q5, rfl, rfl, rfl, h5, r5⟩ := trodAll_cons r4
  obtain ⟨v6, vs6, d6, ds6, p6, q6, rfl, rfl, rfl, h6, r6⟩ := trodAll_cons r5
  obtain ⟨v7, vs7, d7, ds7, p7, q7, rfl, rfl, rfl, h7, r7⟩ := trodAll_cons r6
  obtain ⟨rfl, rfl, rfl⟩ := trodAll_nil r7
  obtain rfl : args = #[v0, v1, v2, v3, v4, v5, v6, v7] := by cases args; simp_all
  obtain ⟨bs0, cp0, xs0, rfl, ll0, ok0, rd0, wf0⟩ := o_ints Tryd.underlying22 Tryd.underlying3 cells3 (hval 0 22 v0 rfl rfl) h0
  obtain ⟨bs1, cp1, xs1, rfl, ll1, ok1, rd1, wf1⟩ := o_ints Tryd.underlying22 Tryd.underlying3 cells3 (hval 1 22 v1 rfl rfl) h1
  obtain ⟨a2, rfl, rfl, rfl, w2⟩ := open_int Tryd.underlying3 (hval 2 3 v2 rfl rfl) h2
  have w2 := wf_i64 w2
  obtain ⟨a3, rfl, rfl, rfl, w3⟩ := open_int Tryd.underlying3 (hval 3 3 v3 rfl rfl) h3
  have w3 := wf_i64 w3
  obtain ⟨bs4, cp4, xs4, rfl, ll4, ok4, rd4, wf4⟩ := o_pairs Tryd.underlying23 Tryd.underlying34 cells34 rfl rfl cells3 cells3 Tryd.underlying3 Tryd.underlying3 (hval 4 23 v4 rfl rfl) h4
  obtain ⟨bs5, cp5, xs5, rfl, ll5, ok5, rd5, wf5⟩ := o_pairs Tryd.underlying24 Tryd.underlying51 cells51 rfl rfl cells3 cells3 Tryd.underlying3 Tryd.underlying3 (hval 5 24 v5 rfl rfl) h5
  obtain ⟨bs6, cp6, xs6, rfl, ll6, ok6, rd6, wf6⟩ := o_ints Tryd.underlying22 Tryd.underlying3 cells3 (hval 6 22 v6 rfl rfl) h6
  obtain ⟨bs7, cp7, xs7, rfl, ll7, ok7, rd7, wf7⟩ := o_ints Tryd.underlying22 Tryd.underlying3 cells3 (hval 7 22 v7 rfl rfl) h7
  have lc0 := o_cap Tryd.underlying22 h0
  have lc1 := o_cap Tryd.underlying22 h1
  have lc4 := o_cap Tryd.underlying23 h4
  have lc5 := o_cap Tryd.underlying24 h5
  have lc6 := o_cap Tryd.underlying22 h6
  have lc7 := o_cap Tryd.underlying22 h7
  refine (law_calls (tells_law xs0 rd0 ok0 ll0 lc0 xs1 rd1 ok1 ll1 lc1 a2 a3 xs4 rd4 ok4 ll4 lc4 xs5 rd5 ok5 ll5 lc5 xs6 rd6 ok6 ll6 lc6 xs7 rd7 ok7 ll7 lc7 (tab hL))).mono fun e W' ⟨he, hend⟩ => ?_
  subst he
  exact ⟨_, rfl, law_post laid_ok rec_ok rfl rfl Tryd.underlying4 (fun ds h => by match ds, h with | [_, _, _, _, _, _, _, _], _ => rfl) hW' hend⟩
noncomputable def wit (os : Os) : World :=
  { World.holding Tryd.prog os ⟨#[], #[], []⟩ with heap := (World.holding Tryd.prog os ⟨#[], #[], []⟩).heap.modify 0 fun
      | .cells _ t frozen => .cells #[.int .u8 0, .int .u8 1, .int .u8 56, .int .u8 2, .int .u8 57, .int .u8 49, .int .u8 28, .int .u8 3, .int .u8 61, .int .u8 58, .int .u8 42, .int .u8 50, .int .u8 38, .int .u8 29, .int .u8 17, .int .u8 4, .int .u8 62, .int .u8 47, .int .u8 59, .int .u8 36, .int .u8 45, .int .u8 43, .int .u8 51, .int .u8 22, .int .u8 53, .int .u8 39, .int .u8 33, .int .u8 30, .int .u8 24, .int .u8 18, .int .u8 12, .int .u8 5, .int .u8 63, .int .u8 55, .int .u8 48, .int .u8 27, .int .u8 60, .int .u8 41, .int .u8 37, .int .u8 16, .int .u8 46, .int .u8 35, .int .u8 44, .int .u8 21, .int .u8 52, .int .u8 32, .int .u8 23, .int .u8 11, .int .u8 54, .int .u8 26, .int .u8 40, .int .u8 15, .int .u8 34, .int .u8 20, .int .u8 31, .int .u8 10, .int .u8 25, .int .u8 14, .int .u8 19, .int .u8 9, .int .u8 13, .int .u8 8, .int .u8 7, .int .u8 6] t frozen
      | o => o }
theorem laid_met (os : Os) : laidMet Tryd.prog Rows.pickTellsRow.laid ((wit os).forCall (fun _ _ => 0) ⟨#[], #[.slice none 0 0, .slice none 0 0, .int .i64 0, .int .i64 0, .slice none 0 0, .slice none 0 0, .slice none 0 0, .slice none 0 0], []⟩).memory :=
  laidMet_of_run' 8 (by kernel_rfl) (by kernel_rfl)
theorem reads (os : Os) {H : Type} (enc : TypeId × Value → H) : ∃ places, DataW.whole enc Tryd.prog ((wit os).forCall (fun _ _ => 0) ⟨#[], #[.slice none 0 0, .slice none 0 0, .int .i64 0, .int .i64 0, .slice none 0 0, .slice none 0 0, .slice none 0 0, .slice none 0 0], []⟩).memory Tryd.f3.params.toList Rows.pickTellsSpec.vars false (#[.slice none 0 0, .slice none 0 0, .int .i64 0, .int .i64 0, .slice none 0 0, .slice none 0 0, .slice none 0 0, .slice none 0 0] : Array Value).toList 8 = some ([.nil, .nil, .lit (.int .i64 0), .lit (.int .i64 0), .nil, .nil, .nil, .nil], [], places) :=
  ⟨[], by kernel_rfl⟩
set_option maxRecDepth 100000 in
theorem lifted (os : Os) (started : os.Started) (H : Type) (enc : TypeId × Value → H) (F : Stop.Interp) :
    ReturnsInHanded {} Tryd.checked os 3 .any ((OpenSpec.ofChange Rows.pickTellsSpec).preRow enc Tryd.prog Tryd.f3 Rows.pickTellsRow.domain false Rows.pickTellsRow.laid) (((OpenSpec.ofChange Rows.pickTellsSpec).at F).post enc Tryd.prog Tryd.f3 false true false false) := by
  obtain ⟨places, hx⟩ := reads os enc
  refine returnsInHanded_of_row (C := Tryd.checked) (s := OpenSpec.ofChange Rows.pickTellsSpec) own started (by kernel_rfl) Tryd.func3
    (witness_row_at (enc := enc) (C := Tryd.checked) false (wit os) #[.slice none 0 0, .slice none 0 0, .int .i64 0, .int .i64 0, .slice none 0 0, .slice none 0 0, .slice none 0 0, .slice none 0 0] rfl (by kernel_rfl) (by kernel_rfl) (by kernel_rfl)
      (OpenSpec.preRow_of_cond 8 hx (by kernel_rfl) (fun k hk => by cases hk) (by kernel_rfl) (laid_met os))) ?_
  intro W base args ds gs before hval hW _ _ _ hL _ _
  exact contract H enc W base args ds gs before hval hW hL
theorem said : Rows.PickTellsSaid :=
  OpenClaim.holds_of_cond 3 Tryd.f3 rfl rfl rfl rfl rfl rfl rfl ⟨rfl, rfl, rfl, rfl, rfl⟩ rfl rfl rfl rfl rfl (by kernel_rfl) Tryd.func3 (by kernel_rfl)
    (of_decide_eq_true (by kernel_rfl)) (by unfold Func.isWrapper; first | (rw [if_pos (by decide +kernel)]; kernel_rfl) | (rw [if_neg (by decide +kernel)]; exact ⟨rfl, rfl⟩))
    (fun os started H enc _ F => by rw [OpenClaim.pre_eq_preRow]; exact lifted os started H enc F)
theorem plain (f : FuncId) (fn : Func) (hf : Tryd.pinned.checked.prog.funcNamed "millwright/millwrightlaw16.PickTells" = some f) (hfn : Tryd.pinned.checked.prog.funcs[f]? = some fn) :
    false = Tryd.pinned.checked.prog.looks [] ∧ ∀ (j : Nat) t, fn.params[j]? = some t → Tryd.pinned.checked.prog.wantsStandIn t = false := by
  obtain rfl : f = 3 := Option.some.inj ((show Tryd.prog.funcNamed "millwright/millwrightlaw16.PickTells" = some 3 by kernel_rfl).symm.trans hf) |>.symm
  obtain rfl : fn = Tryd.f3 := (Option.some.inj (Tryd.func3.symm.trans hfn)).symm
  refine ⟨by kernel_rfl, fun j t ht => ?_⟩
  rw [Tryd.params3] at ht
  have hm := Array.mem_of_getElem? ht
  have hall : ∀ t ∈ #[22, 22, 3, 3, 23, 24, 22, 22], Tryd.prog.wantsStandIn t = false := by
    intro t ht
    simp only [List.mem_toArray, List.mem_cons, List.not_mem_nil, or_false] at ht
    rcases ht with rfl | rfl | rfl | rfl | rfl | rfl | rfl | rfl
    all_goals kernel_rfl
  exact hall t hm
theorem card : Rows.PickTellsCardSaid :=
  Claim7.holds_tied_plain_at .later [] _ _ _ _ said (fun _ h => by cases h) (by kernel_rfl) (fun _ h => by cases h) pickTells_row_tie rfl ⟨rfl, rfl⟩ (by kernel_rfl) rfl plain (by kernel_rfl)
#print axioms card
end Go.Proofs.YtfoiopbjomaclaaDoor.pickTells
