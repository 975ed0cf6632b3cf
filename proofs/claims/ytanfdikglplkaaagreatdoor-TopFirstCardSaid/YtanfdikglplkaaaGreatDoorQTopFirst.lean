/- TopFirst: who begins is ready, and nobody who is ready, and wanted, is above it; who is stopped for it is below it: whatever comes in, the call returns true, and what came in reads as before. No condition but the row's own. -/
import Derived.Test.YtanfdikglplkaaaGreatDoorCards
import Derived.Test.YtanfdikglplkaaaGreatDoorTie
import Derived.Test.YtanfdikglplkaaaGreatDoorM03
import Derived.Test.YtanfdikglplkaaaGreatDoorM38
import Derived.Test.YtanfdikglplkaaaGreatDoorM14
import Derived.Test.YtanfdikglplkaaaGreatDoorM12
import Derived.Deep.DeepHandedRow
import Derived.Lib.SmallJoins
import Derived.LaidMore
set_option linter.unusedVariables false
set_option linter.unusedSimpArgs false
namespace Go.Proofs.YtanfdikglplkaaaGreatDoor.topFirst
open Go Go.Proofs Go.Proofs.YtanfdikglplkaaaGreatDoor.Sp Go.ChangeShapes Go.WideShapes Go.ChangeAt Go.RowKit
theorem own:ownKnob Tryz.prog.godebug=none:=by kernel_rfl
theorem cells3:Tryz.prog.cellsOf 3=1:=by kernel_rfl
theorem cells23:Tryz.prog.cellsOf 23=10:=by kernel_rfl
theorem cells32:Tryz.prog.cellsOf 32=5:=by kernel_rfl
theorem cells57:Tryz.prog.cellsOf 57=2:=by kernel_rfl
set_option maxRecDepth 100000 in
theorem opencfg{H:Type}{enc:TypeId×Value→H}{W:World}{v:Value}{d:DataW H}{p:List MemPlace}{base:Nat}(hok:Value.okWide Tryz.prog W .any base 23 v)(h:DataW.Trod enc Tryz.prog W 0 (fun _=>true) true 23 v d p):∃c:Cfg,v=.agg (Be c).toArray:=
 Co (ti:=3) CW (by kernel_rfl) cells23 (by kernel_rfl) C4 hok h
theorem gTab:Tryz.prog.globalNamed "math/bits.deBruijn64tab" =some 1:=by kernel_rfl
theorem gTabType:(Tryz.prog.globals[1]?).map (·.type)=some 218:=by kernel_rfl
theorem cellsT:Tryz.prog.cellsOf 218=64:=by kernel_rfl
theorem cellsU:Tryz.prog.cellsOf 5=1:=by kernel_rfl
theorem plainly{W:World}(h:laidMetH Tryz.prog Rows.topFirstRow.laid W):laidMet Tryz.prog [("math/bits.deBruijn64tab",Rows.laid_math_bits_deBruijn64tab),("millwright/engine.verdicts",Rows.laid_millwright_engine_verdicts)] W:=h
theorem table{W:World}(h:laidMetH Tryz.prog Rows.topFirstRow.laid W):Lib.TabIs Tryz.prog W "math/bits.deBruijn64tab" .u8 (Lib.deBruijn64tab.map fun n:Nat=>(n:Int)):=
 Lib.tabIs_of_head (rest:=[("millwright/engine.verdicts",Rows.laid_millwright_engine_verdicts)]) gTab gTabType Tryz.underlying218 Tryz.underlying5 cellsU cellsT (plainly h)
theorem gVer:Tryz.prog.globalNamed "millwright/engine.verdicts" =some 0:=by kernel_rfl
theorem gVerType:(Tryz.prog.globals[0]?).map (·.type)=some 143:=by kernel_rfl
theorem vtab{W:World}(h:laidMetH Tryz.prog Rows.topFirstRow.laid W):∃vr,VTab vr [w4 W]:=by
 obtain ⟨ps,⟨g0,t0,cs0,f0,p0,q0,hg0,ht0,hv0,hd0,⟨g1,t1,cs1,f1,p1,q1,hg1,ht1,hv1,hd1,_,_⟩,_⟩,_,_⟩:=plainly h
 obtain rfl:=Option.some.inj (gVer.symm.trans hg1)
 obtain rfl:=Option.some.inj (gVerType.symm.trans ht1)
 exact zW gVer Tryz.underlying143 C4 C4 hv1 hd1
theorem tab{W:World}(h:laidMetH Tryz.prog Rows.topFirstRow.laid W):Tab [w4 W]:=fun j hj=>kN (by
 have:=(table h).cell gTab j (by rw [List.length_map];exact hj)
 rw [this]
 have hj':j<Lib.deBruijn64tab.length:=hj
 simp [List.getD,hj'])
theorem rec_ok:(Tryz.f3.params.toList.all fun t=>Tryz.prog.readableRec t && decide (t<Tryz.prog.types.size))=true:=by kernel_rfl
theorem laid_ok:laidOutB Tryz.prog=true:=by kernel_rfl
set_option maxRecDepth 100000 in
theorem contract(H:Type)(enc:TypeId×Value→H)(W:World)(base:Nat)(args:Array Value)(ds gs:List (DataW H))(before:List MemPlace)
 (hval:∀(j:Nat) t v,Tryz.f3.params[j]?=some t→args[j]?=some v→Value.okWide Tryz.prog W .any base t v)
 (hW:DataW.Whole enc Tryz.prog Tryz.f3.params.toList Rows.topFirstSpec.vars false W args.toList ds gs before) (hL:laidMetH Tryz.prog Rows.topFirstRow.laid W):
 Calls Tryz.prog 3 args W fun e W'=> ∃v,e=.returned v∧Rows.topFirstSpec.post enc Tryz.prog Tryz.f3 false true false false W args v W':=by
 have hW':=hW
 obtain ⟨p,q,hA0,hV,rfl,hfz,hnd⟩:=hW
 have hA:DataW.TrodAll enc Tryz.prog W 0 (fun _=>true) true Tryz.f3.params.toList args.toList ds p:=hA0
 clear hA0 hV hfz hnd
 rw [Tryz.params3] at hA hval
 obtain ⟨v0,vs0,d0,ds0,p0,q0,hargs,rfl,rfl,h0,r0⟩:=trodAll_cons hA
 obtain ⟨v1,vs1,d1,ds1,p1,q1,rfl,rfl,rfl,h1,r1⟩:=trodAll_cons r0
 obtain ⟨v2,vs2,d2,ds2,p2,q2,rfl,rfl,rfl,h2,r2⟩:=trodAll_cons r1
 obtain ⟨rfl,rfl,rfl⟩:=trodAll_nil r2
 obtain rfl:args=#[v0,v1,v2]:=by cases args;simp_all
 obtain ⟨c0,rfl⟩:=opencfg (hval 0 23 v0 rfl rfl) h0
 obtain ⟨bs1,cp1,xs1,rfl,ll1,ok1,rd1,wf1⟩:=zP CY Dt cells57 rfl rfl cells3 cells3 C4 C4 (hval 1 24 v1 rfl rfl) h1
 obtain ⟨bs2,cp2,xs2,rfl,ll2,ok2,rd2,gd2⟩:=Ap (good:=fun _:Ev=>True) bA (by omega) Er cells32 (Ab (ti:=3) CQ (by kernel_rfl) (by kernel_rfl) C4) (hval 2 25 v2 rfl rfl) h2
 obtain ⟨vr,hV⟩:=vtab hL
 refine (vR (vc (c:=c0) xs1 xs2 rfl rfl rd1 ok1 rd2 ok2 ll2 (tab hL) hV)).mono fun e W' ⟨he,hend⟩=>?_
 subst he
 exact ⟨_,rfl,xp laid_ok rec_ok rfl rfl Tryz.underlying4 (fun ds h=>by match ds,h with| [_,_,_],_=>rfl) hW' hend⟩
noncomputable def wit(os:Os):World:=World.doorLaid Tryz.prog 4000 os
set_option maxRecDepth 100000 in
theorem laid_met(os:Os):laidMet Tryz.prog Rows.topFirstRow.laid ((wit os).forCall (fun _ _=>0) ⟨#[],#[.agg #[.int .i64 0,.int .i64 0,.int .i64 0,.int .i64 0,.int .i64 0,.int .i64 0,.int .i64 0,.int .i64 0,.int .i64 0,.int .i64 0],.slice none 0 0,.slice none 0 0],[]⟩).memory:=
 laidMet_of_run' 8 (by kernel_rfl) (by kernel_rfl)
set_option maxRecDepth 100000 in
theorem reads(os:Os){H:Type}(enc:TypeId×Value→H):∃places,DataW.whole enc Tryz.prog ((wit os).forCall (fun _ _=>0) ⟨#[],#[.agg #[.int .i64 0,.int .i64 0,.int .i64 0,.int .i64 0,.int .i64 0,.int .i64 0,.int .i64 0,.int .i64 0,.int .i64 0,.int .i64 0],.slice none 0 0,.slice none 0 0],[]⟩).memory Tryz.f3.params.toList Rows.topFirstSpec.vars false (#[.agg #[.int .i64 0,.int .i64 0,.int .i64 0,.int .i64 0,.int .i64 0,.int .i64 0,.int .i64 0,.int .i64 0,.int .i64 0,.int .i64 0],.slice none 0 0,.slice none 0 0]:Array Value).toList 8=some ([.agg [.lit (.int .i64 0),.lit (.int .i64 0),.lit (.int .i64 0),.lit (.int .i64 0),.lit (.int .i64 0),.lit (.int .i64 0),.lit (.int .i64 0),.lit (.int .i64 0),.lit (.int .i64 0),.lit (.int .i64 0)],.nil,.nil],[],places):=
 ⟨[],by kernel_rfl⟩
set_option maxRecDepth 100000 in
theorem lifted(os:Os)(started:os.Started)(H:Type)(enc:TypeId×Value→H)(F:Stop.Interp):
 ReturnsInHanded {} Tryz.checked os 3 .any ((OpenSpec.ofChange Rows.topFirstSpec).preRow enc Tryz.prog Tryz.f3 Rows.topFirstRow.domain false Rows.topFirstRow.laid) (((OpenSpec.ofChange Rows.topFirstSpec).at F).post enc Tryz.prog Tryz.f3 false true false false):=by
 obtain ⟨places,hx⟩:=reads os enc
 refine returnsInHanded_of_row (C:=Tryz.checked) (s:=OpenSpec.ofChange Rows.topFirstSpec) own started (by kernel_rfl) Tryz.func3
  (witness_row_at (enc:=enc) (C:=Tryz.checked) false (wit os) #[.agg #[.int .i64 0,.int .i64 0,.int .i64 0,.int .i64 0,.int .i64 0,.int .i64 0,.int .i64 0,.int .i64 0,.int .i64 0,.int .i64 0],.slice none 0 0,.slice none 0 0] rfl (by kernel_rfl) (by kernel_rfl) (by kernel_rfl)
   (OpenSpec.preRow_of_cond 8 hx (by kernel_rfl) (fun k hk=>by cases hk) (by kernel_rfl) (laid_met os))) ?_
 intro W base args ds gs before hval hW _ _ _ hL _ _
 exact contract H enc W base args ds gs before hval hW hL
theorem said:Rows.TopFirstSaid:=
 OpenClaim.holds_of_cond 3 Tryz.f3 rfl rfl rfl rfl rfl rfl rfl ⟨rfl,rfl,rfl,rfl,rfl⟩ rfl rfl rfl rfl rfl (by kernel_rfl) Tryz.func3 (by kernel_rfl)
  (of_decide_eq_true (by kernel_rfl)) (by unfold Func.isWrapper;first| (rw [if_pos (by decide+kernel)];kernel_rfl)| (rw [if_neg (by decide+kernel)];exact ⟨rfl,rfl⟩))
  (fun os started H enc _ F=>by rw [OpenClaim.pre_eq_preRow];exact lifted os started H enc F)
theorem plain(f:FuncId)(fn:Func)(hf:Tryz.pinned.checked.prog.funcNamed "millwright/millwrighttop.TopFirst" =some f)(hfn:Tryz.pinned.checked.prog.funcs[f]?=some fn):
 true=Tryz.pinned.checked.prog.looks []∧∀(j:Nat) t,fn.params[j]?=some t→Tryz.pinned.checked.prog.wantsStandIn t=false:=by
 obtain rfl:f=3:=Option.some.inj ((show Tryz.prog.funcNamed "millwright/millwrighttop.TopFirst" =some 3 by kernel_rfl).symm.trans hf) |>.symm
 obtain rfl:fn=Tryz.f3:=(Option.some.inj (Tryz.func3.symm.trans hfn)).symm
 refine ⟨by kernel_rfl,fun j t ht=>?_⟩
 rw [Tryz.params3] at ht
 have hm:=Array.mem_of_getElem? ht
 have hall:∀t∈#[23,24,25],Tryz.prog.wantsStandIn t=false:=by
  intro t ht
  simp only [List.mem_toArray,List.mem_cons,List.not_mem_nil,or_false] at ht
  rcases ht with rfl|rfl|rfl
  all_goals kernel_rfl
 exact hall t hm
theorem card:Rows.TopFirstCardSaid:=
 Claim7.holds_tied_plain_at .later [] _ _ _ _ said (fun _ h=>by cases h) (by kernel_rfl) (fun _ h=>by cases h) topFirst_row_tie rfl ⟨rfl,rfl⟩ (by kernel_rfl) rfl plain (by kernel_rfl)
#print axioms card
end Go.Proofs.YtanfdikglplkaaaGreatDoor.topFirst
