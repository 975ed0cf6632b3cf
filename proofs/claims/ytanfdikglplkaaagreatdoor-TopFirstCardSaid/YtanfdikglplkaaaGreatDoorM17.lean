/- Parts Eb, Ec, Ed: own lemmas and contracts of the code that the claim reaches. -/
import Derived.Test.YtanfdikglplkaaaGreatDoorM03
import Derived.Test.YtanfdikglplkaaaGreatDoorM04
import Derived.Test.YtanfdikglplkaaaGreatDoorM15
import Derived.Test.YtanfdikglplkaaaGreatDoorM05
import Derived.Test.YtanfdikglplkaaaGreatDoorM07
import Derived.Test.YtanfdikglplkaaaGreatDoorM08
set_option linter.unusedSimpArgs false
set_option linter.unusedVariables false
set_option maxRecDepth 100000
namespace Go.Proofs.YtanfdikglplkaaaGreatDoor
open Go Go.Proofs Sp
theorem tM{R:List HP}{H G:HP}{id:Int}{b:Nat}{pl:Pl}:
 Ok Tryz.prog 157 [(.agg #[(.bool pl.h),(vI pl.id),(vI pl.mem)]),(vP b 0)] (H::G::(bI b [(vI id)] 3)::R)
  (fun v M=>v=.bool (pl.h && decide (pl.id=id))∧M=H::G::bI b [.int .i64 id] 3::R):=by
 refine aP (N:=12) Tryz.func157 rfl rfl rfl (fun W=>?_)
 refine av (fun _ hK1=>?_)
 refine tm rfl (cZ rfl rfl) ?_
 rintro _ _ ⟨b1,rfl,rfl⟩
 refine aA rfl (td hK1 (av (fun _ hK2=>bU 0 DO rfl Tryz.sizeOf4 rfl rfl (bK Tryz.isAgg4 rfl (aa (.head _) rfl) (ag rfl ?_)))))
 rcases hb2:pl.h with _|_
 ·refine aq rfl rfl rfl ?_
  refine aq rfl rfl rfl ?_
  refine aq rfl rfl rfl ?_
  refine aq rfl rfl rfl ?_
  refine tp rfl (aC rfl rfl) (aA rfl (td hK2 (ay (ak ?_))))
  refine aM rfl rfl ?_
  exact ⟨by first| (simp_all;done)| (simp_all;rfl),rfl⟩
 ·refine ae rfl rfl ?_
  refine bU 1 DO rfl CG rfl rfl ?_
  refine ae rfl rfl ?_
  refine bK CH rfl (aa (.head _) rfl) ?_
  refine ae rfl rfl ?_
  refine bK CH rfl (aa (.tail _ (.tail _ (.tail _ (.head _)))) rfl) ?_
  refine ae rfl rfl ?_
  refine tp rfl (aV rfl rfl rfl) (tp rfl (aL rfl rfl) (aA rfl (td hK2 (ay (ak ?_)))))
  refine aM rfl rfl ?_
  exact ⟨by first| (simp_all;done)| (simp_all;rfl),rfl⟩
theorem yZ{R:List HP}{H G:HP}{pl:Pl}:
 Ok Tryz.prog 147 [(.agg #[(.bool pl.h),(vI pl.id),(vI pl.mem)])] (H::G::R)
  (fun v M=>v=.bool (!pl.h)∧M=H::G::R):=by
 refine aP (N:=6) Tryz.func147 rfl rfl rfl (fun W=>?_)
 refine av (fun _ hK1=>?_)
 refine tm rfl (cZ rfl rfl) ?_
 rintro _ _ ⟨b1,rfl,rfl⟩
 refine aA rfl (td hK1 (av (fun _ hK2=>bU 0 DO rfl Tryz.sizeOf4 rfl rfl (bK Tryz.isAgg4 rfl (aa (.head _) rfl) (tp rfl (dy (c:= !pl.h) rfl rfl) (aA rfl (aI ?_)))))))
 refine qn hK2 (ay (ak ?_))
 refine aM rfl rfl ?_
 exact ⟨rfl,rfl⟩
theorem qQ{R:List HP}(id:Int):
 Ok Tryz.prog 130 [(vI id)] R
  (fun v M=> ∃b,v=.func (.func 157) #[] #[.pointer (some ⟨b,0,none⟩)]∧M=bI b [.int .i64 id] 3::R):=by
 refine aP (N:=4) Tryz.func130 rfl rfl rfl (fun W=>?_)
 refine av (fun _ hK1=>?_)
 refine tm rfl (cZ rfl rfl) ?_
 rintro _ _ ⟨b1,rfl,rfl⟩
 refine aA rfl (td hK1 (av (fun _ hK2=>tp rfl (fU rfl) (aA rfl (td hK2 (ay ?_))))))
 refine aM rfl rfl ?_
 exact ⟨_,rfl,rfl⟩
set_option maxHeartbeats 4000000 in
theorem lR{R:List HP}{l:Nat}{d:Led}{p:Nat→Bool}{f:Nat}{caps:List Value}(hlm:d.many≤16)(hf:(∀args w,(callFunc f args).run Tryz.prog w=.ok (.enter f args) w)∧∀(H:HP) (k:Nat),k<d.many→Ok Tryz.prog f ([(.agg #[(.bool ((d.ps.getD k Pl.z).h)),(.int .i64 ((d.ps.getD k Pl.z).id)),(.int .i64 ((d.ps.getD k Pl.z).mem))])]++caps) (H::gL l d::R) (fun v M=>v=.bool (p k)∧M=H::gL l d::R)):
 Ok Tryz.prog 129 [(vP l 0),(.func (.func f) #[] caps.toArray)] ((gL l d)::R)
  (fun v M=>v=.int .i64 (gi p d.many)∧M=gL l d::R):=by
 obtain ⟨hcall,hf⟩:=hf
 refine aP (N:=26) Tryz.func129 rfl rfl rfl (fun W=>?_)
 refine av (fun _ hK1=>aA rfl (td hK1 (ai (fun _ hK2=>ai (fun _ hK3=>?_)))))
 refine bz (γ:=Unit) (n:=10) Tryz.mixed rfl rfl (fun _ S=>True) (fun _=>[(0,7,(vP l 0)),(1,8,(vP l 0)),(2,9,(vP l 2)),(3,10,(vP l 0)),(4,11,(vP l 0)),(5,12,(vP l 1)),(6,13,(vN d.many)),(7,14,(.slice (some ⟨l,2,none⟩) d.many 16)),(8,15,(vN d.many)),(9,16,(vI 0))]) (fun _ S=>(gL l d)::R) (()) trivial (fun _ h=>h) (fun _ _ h=>h) ?_ ?_
 ·refine ⟨aU,bW,bL Di rfl D3,aU,bW,bL Di rfl CG,dB CH rr rr fun _ _=>lF (.head _),?_,iT Et rfl,aU,trivial⟩
  ·rintro _ S hF hS D hp K hK;try dsimp only
   exact bV (bE hp 2 rfl rfl) (bE hp 6 rfl rfl) (m3 (h:=d.many) D4 Dp rfl rfl (by omega) (by omega) (by first|rfl|omega)) 7 rfl rfl hS (hK () hF)
 ·rintro _ hF
  try dsimp only at hF⊢
  refine az (E':=[(0,(vP l 0)),(1,(.func (.func f) #[] caps.toArray)),(4,(vI 0)),(14,(.slice (some ⟨l,2,none⟩) d.many 16)),(15,(vN d.many)),(16,(vI 0))]) ⟨rfl,rfl,rfl,rfl,rfl,rfl,trivial⟩ ?_
  refine qn hK3 (aH ?_)
  refine cE (γ:=(Nat)) (fun (k:Nat)=>k≤d.many∧(∀j,j<k→p j=false)) (fun (k:Nat)=>[(0,(vP l 0)),(1,(.func (.func f) #[] caps.toArray)),(14,(.slice (some ⟨l,2,none⟩) d.many 16)),(15,(vN d.many)),(16,(vN k))]) (fun (k:Nat)=>(gL l d)::R) (fun (k:Nat)=>d.many-k) (0) ⟨by omega,fun j hj=>by omega⟩ ⟨rfl,rfl,rfl,rfl,rfl,trivial⟩ (fun _ h=>h) ?_
  rintro k K4 hF hK4
  try dsimp only at hF hK4⊢
  obtain ⟨hk,hall⟩:=hF
  refine av (fun K5 hK5=>?_)
  by_cases h1:(k:Int)< (d.many:Int)
  ·refine tp rfl (aJ rfl rfl (decide_eq_true h1)) (td hK5 (ai (fun _ hK6=>aG rfl (dp hK6 (ai (fun _ hK7=>aH (ai (fun _ hK8=>?_))))))))
   refine aj (ag rfl (tp rfl (ah (k':=k*3) Et Dp rfl rfl (fun _=>⟨_,_,rfl⟩) (by omega) (by omega) (by omega)) ?_))
   refine tp rfl (cU (cs:=[(.bool ((d.ps.getD k Pl.z).h)),(vI ((d.ps.getD k Pl.z).id)),(vI ((d.ps.getD k Pl.z).mem))]) Tryz.isAgg117 Dp rfl (ej (fk (j:=0) (.head _) (by omega) (by decide) rfl) (fk (j:=1) (.head _) (by omega) (by decide) rfl) (fk (j:=2) (.head _) (by omega) (by decide) rfl))) ?_
   refine tm rfl (cD Eh rfl) ?_
   rintro _ _ ⟨b2,rfl,rfl⟩
   refine aA rfl ?_
   refine ts (bn (news:=[(.bool ((d.ps.getD k Pl.z).h)),(vI ((d.ps.getD k Pl.z).id)),(vI ((d.ps.getD k Pl.z).mem))]) Dp rfl rfl rfl rfl (nB rfl) rfl) ?_
   refine td hK8 (av (fun _ hK9=>ag rfl (tp rfl (cB (cs:=[(.bool ((d.ps.getD k Pl.z).h)),(vI ((d.ps.getD k Pl.z).id)),(vI ((d.ps.getD k Pl.z).mem))]) Tryz.isAgg117 Dp rfl (ej (aa (.head _) rfl) (aa (.head _) rfl) (aa (.head _) rfl))) (aE (aE ?_)))))
   refine tc rfl (lJ hcall rfl rfl) (hf _ k (by omega)) ?_
   rintro _ _ ⟨rfl,rfl⟩
   refine td hK9 ?_
   refine cW rfl (fun c3=>?_) (fun c3=>?_)
   ·skip
    refine av (fun _ hK10=>ag rfl (aA rfl (td hK10 (ay ?_))))
    refine cH ?_
    refine aK ?_
    refine aK ?_
    refine cH ?_
    refine aK ?_
    refine ak ?_
    refine aM rfl rfl ?_
    exact ⟨by rw [kP (k:=k) (by omega) ‹_› hall],rfl⟩
   ·skip
    refine cS (aZ (qn hK7 (aj (tp rfl (aX (c:=((k+1:Nat):Int)) rfl rfl (aB (by omega))) ?_))))
    refine ag rfl (aI (aN (ak ?_)))
    exact az (by exact ⟨rfl,rfl,rfl,rfl,rfl,trivial⟩) ((hK4 (k+1) ⟨by omega,jx hall ‹_›⟩ (by omega)))
  ·refine tp rfl (aJ rfl rfl (decide_eq_false h1)) (td hK5 (ai (fun _ hK6=>ar rfl (bT (au (au (bS (qn hK2 ?_))))))))
   refine av (fun _ hK7=>aA rfl (td hK7 (ay ?_)))
   refine aM rfl rfl ?_
   exact ⟨by rw [iL (fun j hj=>hall j (by omega))],rfl⟩
theorem vY{R:List HP}{l:Nat}{d:Led}(hlm:d.many≤16)(id:Int):
 Ok Tryz.prog 128 [(vP l 0),(vI id)] ((gL l d)::R)
  (fun v M=>v=.tuple #[.int .i64 (max (d.slot id) 0),.bool (decide (d.slot id≥0))]∧M=gL l d::R):=by
 refine aP (N:=15) Tryz.func128 rfl rfl rfl (fun W=>?_)
 refine av (fun _ hK1=>aA rfl (aA rfl (td hK1 (av (fun _ hK2=>ag rfl (ag rfl ?_))))))
 refine bN Tryz.call130 rfl (qQ id) ?_
 rintro _ _ ⟨b1,rfl,rfl⟩
 refine aE ?_
 refine bN Tryz.call129 rfl (lR (d:=d) (caps:=[(vP b1 0)]) (p:=fun k=>(d.ps.getD k Pl.z).h && decide ((d.ps.getD k Pl.z).id=id)) hlm ⟨Tryz.call157,fun H k hk=>tM⟩) ?_
 rintro _ _ ⟨rfl,rfl⟩
 rw [show gi (fun k=>(d.ps.getD k Pl.z).h && decide ((d.ps.getD k Pl.z).id=id)) d.many=d.slot id from rfl]
 refine aA rfl (td hK2 (av (fun _ hK3=>ag rfl (tp rfl (fm (c:=max (d.slot id) 0) rfl rfl rfl) (ag rfl (tp rfl (cC rfl rfl rfl) (aA rfl ?_)))))))
 refine aA rfl (td hK3 (ay (aE (ak ?_))))
 refine dc rfl rfl rfl ?_
 exact ⟨rfl,rfl⟩
set_option maxHeartbeats 4000000 in
theorem vO{R:List HP}{l:Nat}{d:Led}(hlm:d.many≤16)(hu0:0≤d.used)(hub:d.used≤d.bud)(hb1:d.bud≤1099511627776):
 Ok Tryz.prog 95 [(vP l 0)] ((gL l d)::R)
  (fun v M=>v=.int .i64 (d.bud-d.used)∧M=gL l d::R):=by
 refine aP (N:=12) Tryz.func95 rfl rfl rfl (fun W=>?_)
 refine av (fun _ hK1=>aA rfl (td hK1 (ai (fun _ hK2=>?_))))
 refine bz (γ:=Unit) (n:=10) Tryz.mixed rfl rfl (fun _ S=>True) (fun _=>[(0,3,(vP l 0)),(1,4,(vP l 0)),(2,5,(vP l 0)),(3,6,(vI d.bud)),(4,7,(vP l 0)),(5,8,(vP l 0)),(6,9,(vP l 50)),(7,10,(vI d.used)),(8,11,(vI (d.bud-d.used))),(9,2,(vI (d.bud-d.used)))]) (fun _ S=>(gL l d)::R) (()) trivial (fun _ h=>h) (fun _ _ h=>h) ?_ ?_
 ·refine ⟨aU,bW,bL Di rfl CG,dB CH rr rr fun _ _=>lH (.head _),aU,bW,bL Di rfl CG,dB CH rr rr fun _ _=>jN (.head _),?_,fh,trivial⟩
  ·intro _ S h s D p K k;exact bV (bE p 3 rfl rfl) (bE p 7 rfl rfl) (eR (c:=d.bud-d.used) rfl rfl (cA (by omega) (by omega))) 8 rfl rfl s (k () h)
 ·rintro _ hF
  try dsimp only at hF⊢
  refine az (E':=[(0,(vP l 0)),(2,(vI (d.bud-d.used)))]) ⟨rfl,rfl,trivial⟩ ?_
  refine qn hK2 (ay ?_)
  refine aM rfl rfl ?_
  exact ⟨rfl,rfl⟩
theorem xU{R:List HP}{l:Nat}{d:Led}(id:Int):
 Ok Tryz.prog 128 [(vP l 0),(vI id)] ((dz l d)::R)
  (fun v M=>v=.tuple #[.int .i64 (max (d.slot id) 0),.bool (decide (d.slot id≥0))]∧M=dz l d::R):=by
 refine aP (N:=15) Tryz.func128 rfl rfl rfl (fun W=>?_)
 refine kB (fun hL=>?_)
 have hlm:=hL.lm
 have hb0:=hL.b0
 have hb1:=hL.b1
 have hu0:=hL.u0
 have hub:=hL.ub
 refine av (fun _ hK1=>aA rfl (aA rfl (td hK1 (av (fun _ hK2=>ag rfl (ag rfl ?_))))))
 refine bN Tryz.call130 rfl (qQ id) ?_
 rintro _ _ ⟨b1,rfl,rfl⟩
 refine aE ?_
 refine bN Tryz.call129 rfl (lR (d:=d) (caps:=[(vP b1 0)]) (p:=fun k=>(d.ps.getD k Pl.z).h && decide ((d.ps.getD k Pl.z).id=id)) hlm ⟨Tryz.call157,fun H k hk=>tM⟩) ?_
 rintro _ _ ⟨rfl,rfl⟩
 rw [show gi (fun k=>(d.ps.getD k Pl.z).h && decide ((d.ps.getD k Pl.z).id=id)) d.many=d.slot id from rfl]
 refine aA rfl (td hK2 (av (fun _ hK3=>ag rfl (tp rfl (fm (c:=max (d.slot id) 0) rfl rfl rfl) (ag rfl (tp rfl (cC rfl rfl rfl) (aA rfl ?_)))))))
 refine aA rfl (td hK3 (ay ?_))
 refine fK hL ?_
 refine aE (ak ?_)
 refine dc rfl rfl rfl ?_
 exact ⟨rfl,rfl⟩
set_option maxHeartbeats 4000000 in
theorem rE{R:List HP}{l:Nat}{d:Led}:
 Ok Tryz.prog 95 [(vP l 0)] ((dz l d)::R)
  (fun v M=>v=.int .i64 (d.bud-d.used)∧M=dz l d::R):=by
 refine aP (N:=12) Tryz.func95 rfl rfl rfl (fun W=>?_)
 refine kB (fun hL=>?_)
 have hlm:=hL.lm
 have hb0:=hL.b0
 have hb1:=hL.b1
 have hu0:=hL.u0
 have hub:=hL.ub
 refine av (fun _ hK1=>aA rfl (td hK1 (ai (fun _ hK2=>?_))))
 refine bz (γ:=Unit) (n:=10) Tryz.mixed rfl rfl (fun _ S=>True) (fun _=>[(0,3,(vP l 0)),(1,4,(vP l 0)),(2,5,(vP l 0)),(3,6,(vI d.bud)),(4,7,(vP l 0)),(5,8,(vP l 0)),(6,9,(vP l 50)),(7,10,(vI d.used)),(8,11,(vI (d.bud-d.used))),(9,2,(vI (d.bud-d.used)))]) (fun _ S=>(gL l d)::R) (()) trivial (fun _ h=>h) (fun _ _ h=>h) ?_ ?_
 ·refine ⟨aU,bW,bL Di rfl CG,dB CH rr rr fun _ _=>lH (.head _),aU,bW,bL Di rfl CG,dB CH rr rr fun _ _=>jN (.head _),?_,fh,trivial⟩
  ·intro _ S h s D p K k;exact bV (bE p 3 rfl rfl) (bE p 7 rfl rfl) (eR (c:=d.bud-d.used) rfl rfl (cA (by omega) (by omega))) 8 rfl rfl s (k () h)
 ·rintro _ hF
  try dsimp only at hF⊢
  refine az (E':=[(0,(vP l 0)),(2,(vI (d.bud-d.used)))]) ⟨rfl,rfl,trivial⟩ ?_
  refine qn hK2 (ay ?_)
  refine fK hL ?_
  refine aM rfl rfl ?_
  exact ⟨rfl,rfl⟩
set_option maxHeartbeats 4000000 in
theorem kG{R:List HP}{l:Nat}{d:Led}:
 Ok Tryz.prog 96 [(vP l 0)] ((dz l d)::R)
  (fun v M=>v=.int .i64 ((d.cnt d.many:Nat):Int)∧M=dz l d::R):=by
 refine aP (N:=26) Tryz.func96 rfl rfl rfl (fun W=>?_)
 refine kB (fun hL=>?_)
 have hlm:=hL.lm
 have hb0:=hL.b0
 have hb1:=hL.b1
 have hu0:=hL.u0
 have hub:=hL.ub
 refine av (fun _ hK1=>aA rfl (td hK1 (av (fun _ hK2=>aA rfl (td hK2 ?_)))))
 refine ai (fun _ hK3=>ai (fun K4 hK4=>?_))
 refine bz (γ:=Unit) (n:=10) Tryz.mixed rfl rfl (fun _ S=>True) (fun _=>[(0,6,(vP l 0)),(1,7,(vP l 0)),(2,8,(vP l 2)),(3,9,(vP l 0)),(4,10,(vP l 0)),(5,11,(vP l 1)),(6,12,(vN d.many)),(7,13,(.slice (some ⟨l,2,none⟩) d.many 16)),(8,14,(vN d.many)),(9,15,(vI 0))]) (fun _ S=>(gL l d)::R) (()) trivial (fun _ h=>h) (fun _ _ h=>h) ?_ ?_
 ·refine ⟨aU,bW,bL Di rfl D3,aU,bW,bL Di rfl CG,dB CH rr rr fun _ _=>lF (.head _),?_,iT Et rfl,aU,trivial⟩
  ·rintro _ S hF hS D hp K hK;try dsimp only
   exact bV (bE hp 2 rfl rfl) (bE hp 6 rfl rfl) (m3 (h:=d.many) D4 Dp rfl rfl (by omega) (by omega) (by first|rfl|omega)) 7 rfl rfl hS (hK () hF)
 ·rintro _ hF
  try dsimp only at hF⊢
  refine az (E':=[(0,(vP l 0)),(2,(vI 0)),(3,(vI 0)),(13,(.slice (some ⟨l,2,none⟩) d.many 16)),(14,(vN d.many)),(15,(vI 0))]) ⟨rfl,rfl,rfl,rfl,rfl,rfl,trivial⟩ ?_
  refine qn hK4 (aH ?_)
  refine cE (γ:=(Nat)) (fun (k:Nat)=>k≤d.many) (fun (k:Nat)=>[(0,(vP l 0)),(2,(vI 0)),(3,(vI ((d.cnt k:Nat):Int))),(13,(.slice (some ⟨l,2,none⟩) d.many 16)),(14,(vN d.many)),(15,(vN k))]) (fun (k:Nat)=>(gL l d)::R) (fun (k:Nat)=>d.many-k) (0) (Nat.zero_le _) ⟨rfl,rfl,rfl,rfl,rfl,rfl,trivial⟩ (fun _ h=>h) ?_
  rintro k K5 hF hK5
  try dsimp only at hF hK5⊢
  have hck:=d.cnt_le k
  refine av (fun _ hK6=>?_)
  by_cases h1:(k:Int)< (d.many:Int)
  ·refine tp rfl (aJ rfl rfl (decide_eq_true h1)) (td hK6 (ai (fun _ hK7=>aG rfl (dp hK7 (ai (fun _ hK8=>aH (ai (fun _ hK9=>?_))))))))
   refine aj (tp rfl (ah (k':=k*3) Et Dp rfl rfl (fun _=>⟨_,_,rfl⟩) (by omega) (by omega) (by omega)) ?_)
   refine tp rfl (cU (cs:=[(.bool ((d.ps.getD k Pl.z).h)),(vI ((d.ps.getD k Pl.z).id)),(vI ((d.ps.getD k Pl.z).mem))]) Tryz.isAgg117 Dp rfl (ej (fk (j:=0) (.head _) (by omega) (by decide) rfl) (fk (j:=1) (.head _) (by omega) (by decide) rfl) (fk (j:=2) (.head _) (by omega) (by decide) rfl))) ?_
   refine tm rfl (cD Eh rfl) ?_
   rintro _ _ ⟨b2,rfl,rfl⟩
   refine ts (bn (news:=[(.bool ((d.ps.getD k Pl.z).h)),(vI ((d.ps.getD k Pl.z).id)),(vI ((d.ps.getD k Pl.z).mem))]) Dp rfl rfl rfl rfl (nB rfl) rfl) ?_
   refine td hK9 (av (fun _ hK10=>bU 0 DO rfl Tryz.sizeOf4 rfl rfl (bK Tryz.isAgg4 rfl (aa (.head _) rfl) (tp rfl (dy (c:= !((d.ps.getD k Pl.z).h)) rfl rfl) (td hK10 ?_)))))
   refine cW rfl (fun c3=>?_) (fun c3=>?_)
   ·refine aj (ag rfl (tp rfl (aX (c:=((d.cnt k+1:Nat):Int)) rfl rfl (aB (by omega))) ?_))
    refine aA rfl (aI (aZ (qn hK8 (aj (tp rfl (aX (c:=((k+1:Nat):Int)) rfl rfl (aB (by omega))) ?_)))))
    refine ag rfl (aI (aN (ak ?_)))
    exact az (by exact ⟨rfl,rfl,(by show some _=some _;congr 2;show _=((d.cnt k+(if (d.ps.getD k Pl.z).h=false then 1 else 0):Nat):Int);simp_all),rfl,rfl,rfl,trivial⟩) ((hK5 (k+1) (by omega) (by omega)))
   ·refine cS (aZ (qn hK8 (aj (tp rfl (aX (c:=((k+1:Nat):Int)) rfl rfl (aB (by omega))) ?_))))
    refine ag rfl (aI (aN (ak ?_)))
    exact az (by exact ⟨rfl,rfl,(by show some _=some _;congr 2;show _=((d.cnt k+(if (d.ps.getD k Pl.z).h=false then 1 else 0):Nat):Int);simp_all),rfl,rfl,rfl,trivial⟩) ((hK5 (k+1) (by omega) (by omega)))
  ·refine tp rfl (aJ rfl rfl (decide_eq_false h1)) (td hK6 (ai (fun _ hK7=>ar rfl (bT (au (au (bS (qn hK3 ?_))))))))
   refine av (fun _ hK8=>ag rfl (aA rfl (td hK8 (ay ?_))))
   refine fK hL ?_
   refine aM rfl rfl ?_
   obtain rfl:k=d.many:=by omega
   exact ⟨rfl,rfl⟩
set_option maxHeartbeats 4000000 in
theorem BJ{R:List HP}{l:Nat}{d:Led}(s:Int):
 Ok Tryz.prog 61 [(vP l 0),(vI s)] ((dz l d)::R)
  (fun v M=>v=.tuple #[.int .i64 (d.atI s),.bool (d.atB s)]∧M=dz l d::R):=by
 refine aP (N:=27) Tryz.func61 rfl rfl rfl (fun W=>?_)
 refine kB (fun hL=>?_)
 have hlm:=hL.lm
 have hb0:=hL.b0
 have hb1:=hL.b1
 have hu0:=hL.u0
 have hub:=hL.ub
 refine av (fun _ hK1=>aA rfl (aA rfl (td hK1 (ai (fun _ hK2=>av (fun _ hK3=>ag rfl ?_))))))
 by_cases h1:s<0
 ·refine tp rfl (aJ rfl rfl (decide_eq_true h1)) (ag rfl ?_)
  refine aq rfl rfl rfl ?_
  refine aq rfl rfl rfl ?_
  refine aq rfl rfl rfl ?_
  refine aq rfl rfl rfl ?_
  refine aq rfl rfl rfl ?_
  refine aq rfl rfl rfl ?_
  refine tp rfl (aL rfl rfl) (td hK3 (aG rfl (av (fun K4 hK4=>aA rfl (aA rfl (td hK4 ?_))))))
  refine ay ?_
  refine aK ?_
  refine fK hL ?_
  refine dc rfl rfl rfl ?_
  exact ⟨by unfold Led.atI Led.atB;rw [if_neg (by omega),decide_eq_false (by omega)];rfl,rfl⟩
 ·refine tp rfl (aJ rfl rfl (decide_eq_false h1)) (ag rfl ?_)
  refine ae rfl rfl ?_
  refine ag rfl ?_
  refine ae rfl rfl ?_
  refine ag rfl ?_
  refine ae rfl rfl ?_
  refine cV rfl ?_
  refine ae rfl rfl ?_
  refine bU 1 Di rfl CG rfl rfl ?_
  refine ae rfl rfl ?_
  refine bK CH rfl (lF (.head _)) ?_
  refine ae rfl rfl ?_
  by_cases h2:s≥(d.many:Int)
  ·refine tp rfl (cC rfl rfl (decide_eq_true h2)) (tp rfl (aC rfl rfl) (td hK3 (aG rfl (av (fun K4 hK4=>aA rfl (aA rfl (aI ?_)))))))
   refine qn hK4 (ay ?_)
   refine aK ?_
   refine fK hL ?_
   refine dc rfl rfl rfl ?_
   exact ⟨by unfold Led.atI Led.atB;rw [if_neg (by omega),decide_eq_false (by omega)];rfl,rfl⟩
  ·refine tp rfl (cC rfl rfl (decide_eq_false h2)) (tp rfl (aC rfl rfl) (td hK3 (ar rfl (dp hK2 (av (fun K4 hK4=>ag rfl ?_))))))
   refine ag rfl (cV rfl (bU 2 Di rfl D3 rfl rfl (tp rfl (gJ (k':=s.toNat*3) D4 Dp rfl rfl (by omega) (by omega) (by omega)) ?_)))
   refine tp rfl (cU (cs:=[(.bool ((d.ps.getD s.toNat Pl.z).h)),(vI ((d.ps.getD s.toNat Pl.z).id)),(vI ((d.ps.getD s.toNat Pl.z).mem))]) Tryz.isAgg117 Dp rfl (ej (fk (j:=0) (.head _) (by omega) (by decide) rfl) (fk (j:=1) (.head _) (by omega) (by decide) rfl) (fk (j:=2) (.head _) (by omega) (by decide) rfl))) ?_
   refine tm rfl (cD Eh rfl) ?_
   rintro _ _ ⟨b3,rfl,rfl⟩
   refine ts (bn (news:=[(.bool ((d.ps.getD s.toNat Pl.z).h)),(vI ((d.ps.getD s.toNat Pl.z).id)),(vI ((d.ps.getD s.toNat Pl.z).mem))]) Dp rfl rfl rfl rfl (nB rfl) rfl) ?_
   refine td hK4 (ai (fun K5 hK5=>?_))
   refine bz (γ:=Unit) (n:=6) Tryz.mixed rfl rfl (fun _ S=>True) (fun _=>[(0,23,(vP b3 1)),(1,24,(vI ((d.ps.getD s.toNat Pl.z).id))),(2,25,(vP b3 0)),(3,26,(.bool ((d.ps.getD s.toNat Pl.z).h))),(4,4,(vI ((d.ps.getD s.toNat Pl.z).id))),(5,5,(.bool ((d.ps.getD s.toNat Pl.z).h)))]) (fun _ S=>(bI b3 [(.bool ((d.ps.getD s.toNat Pl.z).h)),(vI ((d.ps.getD s.toNat Pl.z).id)),(vI ((d.ps.getD s.toNat Pl.z).mem))] 117)::(gL l d)::R) (()) trivial (fun _ h=>h) (fun _ _ h=>h) ?_ ?_
   ·refine ⟨bL DO rfl CG,db CH fun _ _=>aa (.head _) rfl,bL DO rfl Tryz.sizeOf4,db Tryz.isAgg4 fun _ _=>aa (.head _) rfl,fh,fh,trivial⟩
   ·rintro _ hF
    try dsimp only at hF⊢
    refine az (E':=[(0,(vP l 0)),(1,(vI s)),(4,(vI ((d.ps.getD s.toNat Pl.z).id))),(5,(.bool ((d.ps.getD s.toNat Pl.z).h))),(6,(vP b3 0)),(16,(.bool false))]) ⟨rfl,rfl,rfl,rfl,rfl,rfl,trivial⟩ ?_
    refine qn hK5 (ay (aE ?_))
    refine fK hL ?_
    refine aE (ak ?_)
    refine dc rfl rfl rfl ?_
    exact ⟨by unfold Led.atI Led.atB;rw [if_pos (by omega),decide_eq_true (by omega)];rfl,rfl⟩
end Go.Proofs.YtanfdikglplkaaaGreatDoor
set_option maxRecDepth 100000
namespace Go.Proofs.YtanfdikglplkaaaGreatDoor
open Go Go.Proofs Sp
set_option maxHeartbeats 4000000 in
theorem ya{R:List HP}{l:Nat}{d:Led}(hz:∀i,(d.ps.getD i Pl.z).h=false→(d.ps.getD i Pl.z).mem=0)(id mem:Int):
 Ok Tryz.prog 107 [(vP l 0),(vI id),(vI mem)] ((dz l d)::R)
  (fun v M=>v=.tuple #[.int .i64 (d.takeV id mem),.int .i64 (d.takeE id mem)]∧M=dz l (d.take id mem)::R):=by
 refine aP (N:=61) Tryz.func107 rfl rfl rfl (fun W=>?_)
 refine kB (fun hL=>?_)
 have hlm:=hL.lm
 have hb0:=hL.b0
 have hb1:=hL.b1
 have hu0:=hL.u0
 have hub:=hL.ub
 refine av (fun _ hK1=>aA rfl (aA rfl (td hK1 (av (fun _ hK2=>ag rfl ?_)))))
 refine bN Tryz.call129 rfl (lR (d:=d) (caps:=[]) (p:=fun k=> !(d.ps.getD k Pl.z).h) hlm ⟨Tryz.call147,fun H k hk=>yZ⟩) ?_
 rintro _ _ ⟨rfl,rfl⟩
 rw [show gi (fun k=> !(d.ps.getD k Pl.z).h) d.many=d.free from rfl]
 refine aA rfl (td hK2 (av (fun _ hK3=>ag rfl (ag rfl ?_))))
 refine bN Tryz.call128 rfl (vY (d:=d) hlm id) ?_
 rintro _ _ ⟨rfl,rfl⟩
 refine ag rfl (tp rfl (aW rfl rfl) (tp rfl (aW rfl rfl) (aA rfl (aA rfl (td hK3 (ai (fun _ hK4=>aH (ai (fun _ hK5=>?_)))))))))
 refine aj ?_
 have hfr:=d.free_rng
 have hsr:=d.slot_rng id
 refine ag rfl ?_
 by_cases h1:id<0
 ·refine tp rfl (aJ rfl rfl (decide_eq_true h1)) (ag rfl ?_)
  refine aq rfl rfl rfl ?_
  refine aq rfl rfl rfl ?_
  refine tp rfl (aL rfl rfl) (aA rfl (td hK5 (aG rfl (av (fun _ hK6=>aA rfl (aA rfl (aI ?_)))))))
  refine qn hK6 (ay ?_)
  refine cH ?_
  refine aK ?_
  have hte:d.takeE id mem=1:=by unfold Led.takeE;rw [if_pos (by omega)]
  have htk:d.take id mem=d:=by unfold Led.take;rw [hte];rfl
  have hok2:LedOk (d):=by rw [←htk];exact hL.take hz id mem
  refine fK hok2 ?_
  rw [show dz l d=dz l (d.take id mem) from by rw [htk]]
  refine dc rfl rfl rfl ?_
  exact ⟨by unfold Led.takeV;rw [hte];rfl,rfl⟩
 ·refine tp rfl (aJ rfl rfl (decide_eq_false h1)) (ag rfl ?_)
  refine ae rfl rfl ?_
  refine ag rfl ?_
  refine ae rfl rfl ?_
  by_cases h2:mem<0
  ·refine tp rfl (aJ rfl rfl (decide_eq_true h2)) (tp rfl (aC rfl rfl) (aA rfl (td hK5 (aG rfl (av (fun _ hK6=>aA rfl (aA rfl ?_)))))))
   refine td hK6 (ay ?_)
   refine cH ?_
   refine aK ?_
   have hte:d.takeE id mem=1:=by unfold Led.takeE;rw [if_pos (by omega)]
   have htk:d.take id mem=d:=by unfold Led.take;rw [hte];rfl
   have hok2:LedOk (d):=by rw [←htk];exact hL.take hz id mem
   refine fK hok2 ?_
   rw [show dz l d=dz l (d.take id mem) from by rw [htk]]
   refine dc rfl rfl rfl ?_
   exact ⟨by unfold Led.takeV;rw [hte];rfl,rfl⟩
  ·refine tp rfl (aJ rfl rfl (decide_eq_false h2)) (tp rfl (aC rfl rfl) (aA rfl (td hK5 (ar rfl (av (fun _ hK6=>ag rfl (ag rfl ?_)))))))
   refine cV rfl (bU 0 Di rfl CG rfl rfl (bK CH rfl (lH (.head _)) ?_))
   by_cases h3:mem>d.bud
   ·refine tp rfl (cu rfl rfl (decide_eq_true h3)) (aA rfl (td hK6 (aG rfl (av (fun _ hK7=>aA rfl (aA rfl (aI ?_)))))))
    refine qn hK7 (ay ?_)
    refine cH ?_
    refine aK ?_
    have hte:d.takeE id mem=5:=by unfold Led.takeE;rw [if_neg (by omega),if_pos (by omega)]
    have htk:d.take id mem=d:=by unfold Led.take;rw [hte];rfl
    have hok2:LedOk (d):=by rw [←htk];exact hL.take hz id mem
    refine fK hok2 ?_
    rw [show dz l d=dz l (d.take id mem) from by rw [htk]]
    refine dc rfl rfl rfl ?_
    exact ⟨by unfold Led.takeV;rw [hte];rfl,rfl⟩
   ·refine tp rfl (cu rfl rfl (decide_eq_false h3)) (aA rfl (td hK6 (ar rfl (av (fun _ hK7=>ag rfl (aA rfl (aI ?_)))))))
    refine qn hK7 ?_
    refine cW rfl (fun c4=>?_) (fun c4=>?_)
    ·have hcs:=of_decide_eq_true c4
     refine av (fun _ hK8=>aA rfl (aA rfl (td hK8 (ay ?_))))
     refine cH ?_
     refine aK ?_
     have hte:d.takeE id mem=8:=by unfold Led.takeE;rw [if_neg (by omega),if_neg (by omega),if_pos (by omega)]
     have htk:d.take id mem=d:=by unfold Led.take;rw [hte];rfl
     have hok2:LedOk (d):=by rw [←htk];exact hL.take hz id mem
     refine fK hok2 ?_
     rw [show dz l d=dz l (d.take id mem) from by rw [htk]]
     refine dc rfl rfl rfl ?_
     exact ⟨by unfold Led.takeV;rw [hte];rfl,rfl⟩
    ·have hcs:=of_decide_eq_false c4
     refine av (fun _ hK8=>ag rfl ?_)
     by_cases h5:d.free<0
     ·refine tp rfl (aJ rfl rfl (decide_eq_true h5)) (ag rfl ?_)
      refine aq rfl rfl rfl ?_
      refine aq rfl rfl rfl ?_
      refine aq rfl rfl rfl ?_
      refine aq rfl rfl rfl ?_
      refine tp rfl (aL rfl rfl) (aA rfl (td hK8 (aG rfl (av (fun _ hK9=>aA rfl (aA rfl (aI ?_)))))))
      refine qn hK9 (ay ?_)
      refine cH ?_
      refine aK ?_
      have hte:d.takeE id mem=4:=by unfold Led.takeE;rw [if_neg (by omega),if_neg (by omega),if_neg (by omega),if_pos (by omega)]
      have htk:d.take id mem=d:=by unfold Led.take;rw [hte];rfl
      have hok2:LedOk (d):=by rw [←htk];exact hL.take hz id mem
      refine fK hok2 ?_
      rw [show dz l d=dz l (d.take id mem) from by rw [htk]]
      refine dc rfl rfl rfl ?_
      exact ⟨by unfold Led.takeV;rw [hte];rfl,rfl⟩
     ·refine tp rfl (aJ rfl rfl (decide_eq_false h5)) (ag rfl ?_)
      refine ae rfl rfl ?_
      refine ag rfl ?_
      refine ae rfl rfl ?_
      refine ag rfl ?_
      refine ae rfl rfl ?_
      refine bN Tryz.call95 rfl (vO (d:=d) hlm hu0 hub hb1) ?_
      rintro _ _ ⟨rfl,rfl⟩
      refine ae rfl rfl ?_
      by_cases h6:mem> (d.bud-d.used)
      ·refine tp rfl (cu rfl rfl (decide_eq_true h6)) (tp rfl (aC rfl rfl) (aA rfl (td hK8 (aG rfl (av (fun _ hK9=>aA rfl (aA rfl ?_)))))))
       refine td hK9 (ay ?_)
       refine cH ?_
       refine aK ?_
       have hte:d.takeE id mem=4:=by unfold Led.takeE;rw [if_neg (by omega),if_neg (by omega),if_neg (by omega),if_pos (by omega)]
       have htk:d.take id mem=d:=by unfold Led.take;rw [hte];rfl
       have hok2:LedOk (d):=by rw [←htk];exact hL.take hz id mem
       refine fK hok2 ?_
       rw [show dz l d=dz l (d.take id mem) from by rw [htk]]
       refine dc rfl rfl rfl ?_
       exact ⟨by unfold Led.takeV;rw [hte];rfl,rfl⟩
      ·refine tp rfl (cu rfl rfl (decide_eq_false h6)) (tp rfl (aC rfl rfl) (aA rfl (td hK8 (ar rfl (cS (aZ (qn hK4 (ai (fun _ hK9=>?_)))))))))
       refine aj (ag rfl (ag rfl (ag rfl (ag rfl (tp rfl (bG (cs:=[(.bool true),(vI id),(vI mem)]) (pl:=[(0,1),(1,1),(2,1)]) DO Eh (fun _=>by simp) rfl rfl) ?_)))))
       refine cV rfl (bU 2 Di rfl D3 rfl rfl (tp rfl (gJ (k':=d.free.toNat*3) D4 Dp rfl rfl (by omega) (by omega) (by omega)) ?_))
       refine ts (uO (i:=d.free.toNat) (q:=⟨true,id,mem⟩) (by omega) Dp rfl rfl) ?_
       refine td hK9 (av (fun _ hK10=>ag rfl (cV rfl (bU 50 Di rfl CG rfl rfl (bK CH rfl (dh (u:=.int .i64 (d.put d.free.toNat ⟨true,id,mem⟩ d.used).used) (v:=.int .i64 d.used) rfl (jN (.head _))) (ag rfl (tp rfl (aX (c:=d.used+mem) rfl rfl (cA (by omega) (by omega))) ?_)))))))
       refine cV rfl (bU 50 Di rfl CG rfl rfl ?_)
       refine ts (uv CG rfl rfl) ?_
       refine td hK10 (av (fun _ hK11=>ag rfl (aA rfl (aA rfl (td hK11 (ay ?_))))))
       have hte:d.takeE id mem=0:=by unfold Led.takeE;rw [if_neg (by omega),if_neg (by omega),if_neg (by omega),if_neg (by omega)]
       have htk:d.take id mem=(d.put d.free.toNat ⟨true,id,mem⟩ d.used).setU (d.used+mem):=by unfold Led.take;rw [hte];rfl
       have hok2:LedOk ((d.put d.free.toNat ⟨true,id,mem⟩ d.used).setU (d.used+mem)):=by rw [←htk];exact hL.take hz id mem
       refine fK hok2 ?_
       rw [show dz l ((d.put d.free.toNat ⟨true,id,mem⟩ d.used).setU (d.used+mem))=dz l (d.take id mem) from by rw [htk]]
       refine dc rfl rfl rfl ?_
       exact ⟨by unfold Led.takeV;rw [hte];rfl,rfl⟩
set_option maxHeartbeats 4000000 in
theorem yT{R:List HP}{l:Nat}{d:Led}(id:Int):
 Ok Tryz.prog 83 [(vP l 0),(vI id)] ((dz l d)::R)
  (fun v M=>v=.int .i64 (if d.slot id<0 then 6 else 0)∧M=dz l (d.drop id)::R):=by
 refine aP (N:=32) Tryz.func83 rfl rfl rfl (fun W=>?_)
 refine kB (fun hL=>?_)
 have hlm:=hL.lm
 have hb0:=hL.b0
 have hb1:=hL.b1
 have hu0:=hL.u0
 have hub:=hL.ub
 refine av (fun _ hK1=>aA rfl (td hK1 (av (fun _ hK2=>ag rfl (ag rfl ?_)))))
 refine bN Tryz.call130 rfl (qQ id) ?_
 rintro _ _ ⟨b1,rfl,rfl⟩
 refine aE ?_
 refine bN Tryz.call129 rfl (lR (d:=d) (caps:=[(vP b1 0)]) (p:=fun k=>(d.ps.getD k Pl.z).h && decide ((d.ps.getD k Pl.z).id=id)) hlm ⟨Tryz.call157,fun H k hk=>tM⟩) ?_
 rintro _ _ ⟨rfl,rfl⟩
 rw [show gi (fun k=>(d.ps.getD k Pl.z).h && decide ((d.ps.getD k Pl.z).id=id)) d.many=d.slot id from rfl]
 refine aA rfl (td hK2 (ai (fun _ hK3=>av (fun _ hK4=>?_))))
 have hsr:=d.slot_rng id
 refine ag rfl ?_
 by_cases h2:(d.slot id)<0
 ·refine tp rfl (aJ rfl rfl (decide_eq_true h2)) (td hK4 (aG rfl (av (fun _ hK5=>aA rfl (td hK5 (ay ?_))))))
  refine aK ?_
  have htk:d.drop id=d:=by unfold Led.drop;rw [if_pos (by omega)]
  have hok2:LedOk (d):=by rw [←htk];exact hL.drop id
  refine fK hok2 ?_
  rw [show dz l d=dz l (d.drop id) from by rw [htk]]
  refine aE (ak ?_)
  refine aM rfl rfl ?_
  exact ⟨by rw [if_pos (by omega)],rfl⟩
 ·refine tp rfl (aJ rfl rfl (decide_eq_false h2)) (td hK4 (ar rfl (dp hK3 (ai (fun _ hK5=>?_)))))
  have hmu:=hL.mu (d.slot id).toNat
  have hm0:=hL.m0 (d.slot id).toNat
  refine bz (γ:=Unit) (n:=15) Tryz.mixed rfl rfl (fun _ S=>True) (fun _=>[(0,12,(vP l 0)),(1,13,(vP l 0)),(2,14,(vP l 50)),(3,15,(vI d.used)),(4,16,(vP l 0)),(5,17,(vI (d.slot id))),(6,18,(vP l 0)),(7,19,(vP l 2)),(8,20,(.pointer (some (ad (some ⟨l,2,none⟩) (((d.slot id).toNat)*3))))),(9,21,(.pointer (some (ad (some ⟨l,2,none⟩) (((d.slot id).toNat)*3+2))))),(10,22,(vI ((d.ps.getD ((d.slot id).toNat) Pl.z).mem))),(11,23,(vI (d.used- ((d.ps.getD ((d.slot id).toNat) Pl.z).mem)))),(12,24,(vP l 0)),(13,25,(vP l 50))]) (fun _ S=>(bif S 14 then (gL l (d.setU (d.used- ((d.ps.getD ((d.slot id).toNat) Pl.z).mem)))) else (gL l d))::(bI b1 [(vI id)] 3)::R) (()) trivial (fun _ h=>h) (fun _ _ h=>h) ?_ ?_
  ·refine ⟨aU,bW,bL Di rfl CG,?_,aU,aU,bW,bL Di rfl D3,?_,?_,?_,?_,bW,bL Di rfl CG,?_,trivial⟩
   ·rintro _ S hF hS D hp K hK;try dsimp only
    exact bH (bE hp 2 rfl rfl) (bP CH rfl (jN (cF (nf hS D (k:=14) (i:=3) rfl) (.head _)))) 3 rfl rfl hS (hK () hF)
   ·rintro _ S hF hS D hp K hK;try dsimp only
    exact bV (bE hp 5 rfl rfl) (bE hp 7 rfl rfl) (gJ (k':=((d.slot id).toNat)*3) D4 Dp rfl rfl (by omega) (by omega) (by omega)) 8 rfl rfl hS (hK () hF)
   ·intro _ S h s D p K k;exact bH (bE p 8 rfl rfl) (bM (o':=((d.slot id).toNat)*3+2) DO rfl CG rfl rfl) 9 rfl rfl s (k () h)
   ·rintro _ S hF hS D hp K hK;try dsimp only
    exact bH (bE hp 9 rfl rfl) (bP CH rfl (fk (j:=2) (cF (nf hS D (k:=14) (i:=10) rfl) (.head _)) (by omega) (by decide) rfl)) 10 rfl rfl hS (hK () hF)
   ·intro _ S h s D p K k;exact bV (bE p 3 rfl rfl) (bE p 10 rfl rfl) (eR (c:=d.used- ((d.ps.getD ((d.slot id).toNat) Pl.z).mem)) rfl rfl (cA (by omega) (by omega))) 11 rfl rfl s (k () h)
   ·rintro _ S hF hS D hp K hK
    try dsimp only at hF⊢
    refine bZ hp [23,25] rfl rfl ?_
    refine c9 hS ?_
    refine ts (uv CG rfl rfl) ?_
    exact gE hp (ti (hK () trivial)) rfl rfl rfl
  ·rintro _ hF
   try dsimp only at hF⊢
   refine az (E':=[(0,(vP l 0)),(1,(vI id)),(4,(vI 0)),(5,(vI (d.slot id))),(11,(.bool false))]) ⟨rfl,rfl,rfl,rfl,rfl,trivial⟩ ?_
   refine qn hK5 (av (fun _ hK6=>ag rfl (ag rfl (tp rfl (bG (cs:=[(.bool false),(vI 0),(vI 0)]) (pl:=[(0,1),(1,1),(2,1)]) DO Eh (fun _=>by simp) rfl rfl) ?_))))
   refine cV rfl (bU 2 Di rfl D3 rfl rfl (tp rfl (gJ (k':=((d.slot id).toNat)*3) D4 Dp rfl rfl (by omega) (by omega) (by omega)) ?_))
   refine ts (uO (i:=((d.slot id).toNat)) (q:=⟨false,0,0⟩) (by omega) Dp rfl rfl) ?_
   refine td hK6 (av (fun _ hK7=>aA rfl (td hK7 (ay ?_))))
   have htk:d.drop id=(d.setU (d.used- ((d.ps.getD ((d.slot id).toNat) Pl.z).mem))).put ((d.slot id).toNat) ⟨false,0,0⟩ (d.setU (d.used- ((d.ps.getD ((d.slot id).toNat) Pl.z).mem))).used:=by unfold Led.drop;rw [if_neg (by omega)];rfl
   have hok2:LedOk ((d.setU (d.used- ((d.ps.getD ((d.slot id).toNat) Pl.z).mem))).put ((d.slot id).toNat) ⟨false,0,0⟩ (d.setU (d.used- ((d.ps.getD ((d.slot id).toNat) Pl.z).mem))).used):=by rw [←htk];exact hL.drop id
   refine fK hok2 ?_
   rw [show dz l ((d.setU (d.used- ((d.ps.getD ((d.slot id).toNat) Pl.z).mem))).put ((d.slot id).toNat) ⟨false,0,0⟩ (d.setU (d.used- ((d.ps.getD ((d.slot id).toNat) Pl.z).mem))).used)=dz l (d.drop id) from by rw [htk]]
   refine aE (ak ?_)
   refine aM rfl rfl ?_
   exact ⟨by rw [if_neg (by omega)],rfl⟩
theorem zS{R:List HP}(x y:Int)(hx:x≤1099511627776):
 Ok Tryz.prog 37 [(vI x),(vI y)] R
  (fun v M=> ∃p,v=.pointer (some ⟨p,0,none⟩)∧M=dz p ⟨max x 0,(min (max y 0) 16).toNat,List.replicate 16 Pl.z,0⟩::R):=by
 refine aP (N:=12) Tryz.func37 rfl rfl rfl (fun W=>?_)
 refine av (fun _ hK1=>aA rfl (td hK1 (av (fun _ hK2=>ag rfl (tp rfl (fm (c:=max x 0) rfl rfl rfl) (ag rfl ?_))))))
 refine tp rfl (fm (c:=max y 0) rfl rfl rfl) (tp rfl (hO (c:=min (max y 0) 16) rfl rfl rfl) (tp rfl (bG (cs:=[(vI (max x 0)),(vI (min (max y 0) 16)),(.bool false),(vI 0),(vI 0),(.bool false),(vI 0),(vI 0),(.bool false),(vI 0),(vI 0),(.bool false),(vI 0),(vI 0),(.bool false),(vI 0),(vI 0),(.bool false),(vI 0),(vI 0),(.bool false),(vI 0),(vI 0),(.bool false),(vI 0),(vI 0),(.bool false),(vI 0),(vI 0),(.bool false),(vI 0),(vI 0),(.bool false),(vI 0),(vI 0),(.bool false),(vI 0),(vI 0),(.bool false),(vI 0),(vI 0),(.bool false),(vI 0),(vI 0),(.bool false),(vI 0),(vI 0),(.bool false),(vI 0),(vI 0),(vI 0)]) (pl:=[(0,1),(1,1),(2,48),(50,1)]) Di Tryz.zeroValue120 (fun _=>by simp) rfl rfl) ?_))
 refine tm rfl (cZ rfl rfl) ?_
 rintro _ _ ⟨b1,rfl,rfl⟩
 refine aA rfl (td hK2 (ay ?_))
 refine BL (b:=max x 0) (m:=min (max y 0) 16) (by unfold jf;simp only [Int.toNat_of_nonneg (show 0≤min (max y 0) 16 by omega)];rfl) (by omega) (by omega) (by omega) ?_
 refine aM rfl rfl ?_
 exact ⟨_,rfl,rfl⟩
end Go.Proofs.YtanfdikglplkaaaGreatDoor
set_option maxRecDepth 100000
namespace Go.Proofs.YtanfdikglplkaaaGreatDoor
open Go Go.Proofs Sp
set_option maxHeartbeats 4000000 in
theorem kQ{R:List HP}{bx:Option Addr}{cx:Nat}{xs:List Int}{a z:Int}(hx:∀x∈xs,a≤x∧x≤z)(lx:xs.length≤100)(hr:Rd R bx (aF .i64 xs))(okx:bB bx xs.length):
 Ok Tryz.prog 67 [(vI a),(vI z),(.slice bx xs.length cx)] R
  (fun v M=>v=.bool true∧M=R):=by
 refine aP (N:=24) Tryz.func67 rfl rfl rfl (fun W=>?_)
 refine av (fun _ hK1=>aA rfl (td hK1 (ai (fun _ hK2=>av (fun _ hK3=>ag rfl (tp rfl (bC CI rfl rfl) ?_))))))
 refine ag rfl (td hK3 (aH ?_))
 refine cE (γ:=(Nat)) (fun (k:Nat)=>k≤xs.length) (fun (k:Nat)=>[(0,(vI a)),(1,(vI z)),(2,(.slice bx xs.length cx)),(9,(.slice bx xs.length cx)),(10,(vN xs.length)),(11,(vN k))]) (fun (k:Nat)=>R) (fun (k:Nat)=>xs.length-k) (0) (Nat.zero_le _) ⟨rfl,rfl,rfl,rfl,rfl,rfl,trivial⟩ (fun _ h=>h) ?_
 rintro k K4 hF hK4
 try dsimp only at hF hK4⊢
 have hxk:k<xs.length→a≤xs.getD k 0∧xs.getD k 0≤z:=fun h=>hx _ (dP h)
 refine av (fun _ hK5=>?_)
 by_cases h1:(k:Int)< (xs.length:Int)
 ·refine tp rfl (aJ rfl rfl (decide_eq_true h1)) (td hK5 (ai (fun _ hK6=>aG rfl (dp hK6 (ai (fun _ hK7=>aH (ai (fun _ hK8=>?_))))))))
  refine aj (tp rfl (ah (k':=k) CI CG rfl rfl okx (by omega) (by omega) (by omega)) ?_)
  refine bK CH rfl (Rd.gives hr (aQ (by first|omega| (simp;omega)))) ?_
  refine aA rfl (td hK8 (av (fun _ hK9=>ag rfl (ag rfl (tp rfl (aJ rfl rfl (decide_eq_false (by have hxk2:=hxk (by omega);omega))) ?_)))))
  refine ag rfl ?_
  refine ae rfl rfl ?_
  refine ag rfl ?_
  refine ae rfl rfl ?_
  refine ag rfl ?_
  refine ae rfl rfl ?_
  refine tp rfl (cu rfl rfl (decide_eq_false (by have hxk2:=hxk (by omega);omega))) ?_
  refine tp rfl (aC rfl rfl) (td hK9 (ar rfl (cS (aZ (qn hK7 (aj (tp rfl (aX (c:=((k+1:Nat):Int)) rfl rfl (aB (by omega))) ?_)))))))
  refine ag rfl (aI (aN ?_))
  exact az (by exact ⟨rfl,rfl,rfl,rfl,rfl,rfl,trivial⟩) ((hK4 (k+1) (by omega) (by omega)))
 ·refine tp rfl (aJ rfl rfl (decide_eq_false h1)) (td hK5 (ai (fun _ hK6=>ar rfl (bT (au (au (bS (qn hK2 ?_))))))))
  refine av (fun _ hK7=>aA rfl (td hK7 (ay ?_)))
  refine aM rfl rfl ?_
  exact ⟨rfl,rfl⟩
theorem uT{R:List HP}:
 Ok Tryz.prog 68 [(.bool true)] R
  (fun v M=>v=.int .i64 0∧M=R):=by
 refine aP (N:=5) Tryz.func68 rfl rfl rfl (fun W=>?_)
 refine av (fun _ hK1=>aA rfl (td hK1 (ai (fun _ hK2=>av (fun _ hK3=>ag rfl (tp rfl (dy (c:=false) rfl rfl) ?_))))))
 refine td hK3 (ar rfl (dp hK2 (av (fun K4 hK4=>aA rfl (td hK4 ?_)))))
 refine ay ?_
 refine aM rfl rfl ?_
 exact ⟨rfl,rfl⟩
set_option maxHeartbeats 4000000 in
theorem wP{R:List HP}{c:Cfg}(hc:CfgOk c):
 Ok Tryz.prog 33 [(.agg #[(vI c.bud),(vI c.slots),(vI c.act),(vI c.que),(vI c.tries),(vI c.pre),(vI c.tmo),(vI c.bak),(vI c.most),(vI c.qu)])] R
  (fun v M=>v=.int .i64 0∧M=R):=by
 refine aP (N:=36) Tryz.func33 rfl rfl rfl (fun W=>?_)
 have hbud:=hc.bud
 have hslots:=hc.slots
 have hact:=hc.act
 have hque:=hc.que
 have htries:=hc.tries
 have hpre:=hc.pre
 have htmo:=hc.tmo
 have hbak:=hc.bak
 have hmost:=hc.most
 have hqu:=hc.qu
 refine av (fun _ hK1=>?_)
 refine tm rfl (cZ rfl rfl) ?_
 rintro _ _ ⟨b1,rfl,rfl⟩
 refine aA rfl (td hK1 (av (fun _ hK2=>bU 0 CW rfl CG rfl rfl (bK CH rfl (aa (.head _) rfl) (bU 2 CW rfl CG rfl rfl (bK CH rfl (aa (.head _) rfl) (bU 4 CW rfl CG rfl rfl ?_)))))))
 refine bK CH rfl (aa (.head _) rfl) (bU 6 CW rfl CG rfl rfl (bK CH rfl (aa (.head _) rfl) (bU 7 CW rfl CG rfl rfl (bK CH rfl (aa (.head _) rfl) (bU 8 CW rfl CG rfl rfl (bK CH rfl (aa (.head _) rfl) (bU 9 CW rfl CG rfl rfl (bK CH rfl (aa (.head _) rfl) ?_))))))))
 refine tm rfl (aD (cs:=[(vI c.bud),(vI c.act),(vI c.tries),(vI c.tmo),(vI c.bak),(vI c.most),(vI c.qu)]) CI CG CN (by decide) rfl rfl rfl rfl) ?_
 rintro _ _ ⟨bs2,cp3,hok4,hle5,rfl,rfl⟩
 refine bN Tryz.call67 rfl (kQ (xs:=[c.bud,c.act,c.tries,c.tmo,c.bak,c.most,c.qu]) (a:=1) (z:=1048576) (by intro y hy;simp at hy;omega) (nB rfl) (cj (.head _)) hok4) ?_
 rintro _ _ ⟨rfl,rfl⟩
 refine aA rfl (td hK2 (av (fun _ hK3=>ag rfl (ag rfl ?_))))
 refine ae rfl rfl ?_
 refine bU 3 CW rfl CG rfl rfl ?_
 refine ae rfl rfl ?_
 refine bK CH rfl (aa (.tail _ (.head _)) rfl) ?_
 refine ae rfl rfl ?_
 refine bU 5 CW rfl CG rfl rfl ?_
 refine ae rfl rfl ?_
 refine bK CH rfl (aa (.tail _ (.head _)) rfl) ?_
 refine ae rfl rfl ?_
 refine tm rfl (aD (cs:=[(vI c.que),(vI c.pre)]) CI CG CN (by decide) rfl rfl rfl rfl) ?_
 rintro _ _ ⟨bs6,cp7,hok8,hle9,rfl,rfl⟩
 refine ae rfl rfl ?_
 refine bN Tryz.call67 rfl (kQ (xs:=[c.que,c.pre]) (a:=0) (z:=1048576) (by intro y hy;simp at hy;omega) (nB rfl) (cj (.head _)) hok8) ?_
 rintro _ _ ⟨rfl,rfl⟩
 refine tp rfl (aL rfl rfl) (ag rfl ?_)
 refine ae rfl rfl ?_
 refine bU 1 CW rfl CG rfl rfl ?_
 refine ae rfl rfl ?_
 refine bK CH rfl (aa (.tail _ (.tail _ (.head _))) rfl) ?_
 refine ae rfl rfl ?_
 refine tm rfl (aD (cs:=[(vI c.slots)]) CI CG CN (by decide) rfl rfl rfl rfl) ?_
 rintro _ _ ⟨bs10,cp11,hok12,hle13,rfl,rfl⟩
 refine ae rfl rfl ?_
 refine bN Tryz.call67 rfl (kQ (xs:=[c.slots]) (a:=1) (z:=16) (by intro y hy;simp at hy;omega) (nB rfl) (cj (.head _)) hok12) ?_
 rintro _ _ ⟨rfl,rfl⟩
 refine tp rfl (aL rfl rfl) ?_
 refine bN Tryz.call68 rfl (uT) ?_
 rintro _ _ ⟨rfl,rfl⟩
 refine aA rfl (td hK3 (ay (ak (ak (ak (ak ?_))))))
 refine aM rfl rfl ?_
 exact ⟨rfl,rfl⟩
theorem yj{R:List HP}{m q:Int}(h:(1≤m∧m≤1048576)∧1≤q∧q≤1048576):
 Ok Tryz.prog 40 [(.agg #[(vI m),(vI q)])] R
  (fun v M=>v=.int .i64 0∧M=R):=by
 refine aP (N:=10) Tryz.func40 rfl rfl rfl (fun W=>?_)
 refine av (fun _ hK1=>?_)
 refine tm rfl (cZ rfl rfl) ?_
 rintro _ _ ⟨b1,rfl,rfl⟩
 refine aA rfl (td hK1 (av (fun _ hK2=>bU 0 Dt rfl CG rfl rfl (bK CH rfl (aa (.head _) rfl) (bU 1 Dt rfl CG rfl rfl (bK CH rfl (aa (.head _) rfl) ?_))))))
 refine tm rfl (aD (cs:=[(vI m),(vI q)]) CI CG CN (by decide) rfl rfl rfl rfl) ?_
 rintro _ _ ⟨bs2,cp3,hok4,hle5,rfl,rfl⟩
 refine bN Tryz.call67 rfl (kQ (xs:=[m,q]) (a:=1) (z:=1048576) (by intro y hy;simp at hy;omega) (nB rfl) (cj (.head _)) hok4) ?_
 rintro _ _ ⟨rfl,rfl⟩
 refine bN Tryz.call68 rfl (uT) ?_
 rintro _ _ ⟨rfl,rfl⟩
 refine aA rfl (td hK2 (ay (ak (ak ?_))))
 refine aM rfl rfl ?_
 exact ⟨rfl,rfl⟩
set_option maxHeartbeats 4000000 in
theorem vS{R:List HP}(b n m:Int)(hb:b≤1048576)(hm:m≤1048576)(hn: -1000000≤n∧n≤1000000000):
 Ok Tryz.prog 87 [(vI b),(vI n),(vI m)] R
  (fun v M=> ∃r,0≤r∧r≤1048576∧v=.int .i64 r∧M=R):=by
 refine aP (N:=34) Tryz.func87 rfl rfl rfl (fun W=>?_)
 refine av (fun _ hK1=>aA rfl (td hK1 (av (fun _ hK2=>ag rfl (tp rfl (fm (c:=max b 0) rfl rfl rfl) (ag rfl ?_))))))
 refine tp rfl (fm (c:=max m 0) rfl rfl rfl) (aA rfl (aA rfl (td hK2 (ai (fun _ hK3=>aH ?_)))))
 refine cE (γ:=(Int)×(Int)) (fun (n2,y)=>0≤y∧y≤4611686018427387904∧(n2≤n∨n2≤0)∧ -4611686018427387904≤n2) (fun (n2,y)=>[(0,(vI y)),(1,(vI n2)),(2,(vI (max m 0))),(6,(vI 0))]) (fun (n2,y)=>R) (fun (n2,y)=>n2.toNat) (n,max b 0) ⟨by omega,by omega,by omega,by omega⟩ ⟨rfl,rfl,rfl,rfl,trivial⟩ (fun _ h=>h) ?_
 rintro ⟨n2,y⟩ K4 hF hK4
 try dsimp only at hF hK4⊢
 refine ai (fun _ hK5=>av (fun _ hK6=>ag rfl ?_))
 by_cases h1:n2>0
 ·refine tp rfl (cu rfl rfl (decide_eq_true h1)) (ag rfl ?_)
  refine ae rfl rfl ?_
  refine ag rfl ?_
  refine ae rfl rfl ?_
  by_cases h2:y>0
  ·refine tp rfl (cu rfl rfl (decide_eq_true h2)) (tp rfl (aL rfl rfl) (ag rfl ?_))
   refine ae rfl rfl ?_
   refine ag rfl ?_
   refine ae rfl rfl ?_
   refine ag rfl ?_
   refine ae rfl rfl ?_
   by_cases h3:y< (max m 0)
   ·refine tp rfl (aJ rfl rfl (decide_eq_true h3)) (tp rfl (aL rfl rfl) (td hK6 (aG rfl (dp hK5 (ai (fun _ hK7=>aH (aj ?_)))))))
    refine ag rfl (ag rfl (ag rfl (ag rfl (tp rfl (eR (c:=(max m 0)-y) rfl rfl (cA (by omega) (by omega))) ?_))))
    refine tp rfl (hO (c:=min y ((max m 0)-y)) rfl rfl rfl) (tp rfl (aX (c:=y+(min y ((max m 0)-y))) rfl rfl (cA (by omega) (by omega))) ?_)
    refine aA rfl (aI (aZ (qn hK7 (aj (ag rfl (tp rfl (eR (c:=n2-1) rfl rfl (cA (by omega) (by omega))) ?_))))))
    refine aA rfl (aI (aN ?_))
    exact az (by exact ⟨rfl,rfl,rfl,rfl,trivial⟩) ((hK4 (n2-1,y+(min y ((max m 0)-y))) ⟨by omega,by omega,by omega,by omega⟩ (by omega)))
   ·refine tp rfl (aJ rfl rfl (decide_eq_false h3)) (tp rfl (aL rfl rfl) (td hK6 (ar rfl (bT (au (au (bS (qn hK3 ?_))))))))
    refine av (fun _ hK7=>ag rfl (ag rfl (tp rfl (hO (c:=min y (max m 0)) rfl rfl rfl) (aA rfl (td hK7 (ay ?_))))))
    refine aM rfl rfl ?_
    exact ⟨_,by omega,by omega,rfl,rfl⟩
  ·refine tp rfl (cu rfl rfl (decide_eq_false h2)) (tp rfl (aL rfl rfl) (ag rfl ?_))
   refine aq rfl rfl rfl ?_
   refine aq rfl rfl rfl ?_
   refine aq rfl rfl rfl ?_
   refine tp rfl (aC rfl rfl) (td hK6 (ar rfl (bT (au (au (bS (qn hK3 (ai (fun _ hK7=>?_)))))))))
   refine aj (ag rfl (ag rfl (tp rfl (hO (c:=min y (max m 0)) rfl rfl rfl) (aA rfl (td hK7 (ay ?_))))))
   refine aM rfl rfl ?_
   exact ⟨_,by omega,by omega,rfl,rfl⟩
 ·refine tp rfl (cu rfl rfl (decide_eq_false h1)) (ag rfl ?_)
  refine aq rfl rfl rfl ?_
  refine aq rfl rfl rfl ?_
  refine tp rfl (aC rfl rfl) (ag rfl ?_)
  refine aq rfl rfl rfl ?_
  refine aq rfl rfl rfl ?_
  refine aq rfl rfl rfl ?_
  refine tp rfl (aC rfl rfl) (td hK6 (ar rfl (bT (au (au (bS (qn hK3 (ai (fun _ hK7=>?_)))))))))
  refine aj (ag rfl (ag rfl (tp rfl (hO (c:=min y (max m 0)) rfl rfl rfl) (aA rfl (td hK7 (ay ?_))))))
  refine aM rfl rfl ?_
  exact ⟨_,by omega,by omega,rfl,rfl⟩
end Go.Proofs.YtanfdikglplkaaaGreatDoor
