/- Parts Fb, Ei, Pd: own lemmas and contracts of the code that the claim reaches. -/
import Derived.Test.YtanfdikglplkaaaGreatDoorM03
import Derived.Test.YtanfdikglplkaaaGreatDoorM04
import Derived.Test.YtanfdikglplkaaaGreatDoorM27
import Derived.Test.YtanfdikglplkaaaGreatDoorM23
import Derived.Test.YtanfdikglplkaaaGreatDoorM11
set_option linter.unusedSimpArgs false
set_option linter.unusedVariables false
set_option maxRecDepth 100000
namespace Go.Proofs.YtanfdikglplkaaaGreatDoor
open Go Go.Proofs Sp
set_option maxHeartbeats 4000000 in
theorem yu{R:List HP}{e:Nat}{x:EP}{s:ES}{ld:Led}{ks:Ks}{hp n:Nat}(r:Int)(t:Nat)(ht:t<x.n)(hz:∀i,(ld.ps.getD i Pl.z).h=false→(ld.ps.getD i Pl.z).mem=0)(hl:s.lg.length≤1000000000)(hb:0≤s.bg∧s.bg≤1000000000000)(he:(s.lf.getD t Lf.z).ep≤1000000000000)(hc:0≤s.c.tmo∧s.c.tmo≤1048576):
 Ok Tryz.prog 60 [(vP e 0),(vI r),(vN t)] ((bQ e x s)::(dz x.ld ld)::(bI x.tp [(vP hp 0)] 132)::(cL hp n ks)::R)
  (fun v M=> ∃(er sl ep rr tt:Int) (a:SL),yc (⟨s,ld,ks⟩:SL) r t er sl ep rr tt a∧v=.tuple #[.agg #[.int .i64 rr,.int .i64 0,.int .i64 tt,.int .i64 sl,.int .i64 ep],.int .i64 er]∧M=bQ e x a.s::dz x.ld a.ld::bI x.tp [.pointer (some ⟨hp,0,none⟩)] 132::cL hp n a.ks::R):=by
 refine aP (N:=83) Tryz.func60 rfl rfl rfl (fun W=>?_)
 refine aY (fun _ h=>dG h) (fun hE=>?_)
 have hE_nb:=hE.nb
 have hE_mb:=hE.mb
 have hE_tn:=hE.tn
 have hE_ln:=hE.ln
 have hE_mn:=hE.mn
 have hn0:=hE.n0
 have hE_an:=hE.an
 refine av (fun _ hK1=>?_)
 refine tm rfl (cD CR rfl) ?_
 rintro _ _ ⟨b1,rfl,rfl⟩
 refine aA rfl (td hK1 (av (fun _ hK2=>ag rfl (cV rfl (bU 11 CJ rfl C9 rfl rfl (bK Dc rfl (bu (v:=(.slice x.bt x.n x.ct)) (.tail _ (.head _)) (fun _ _=>rfl)) (ag rfl ?_)))))))
 refine tp rfl (ah (k':=t) C6 De rfl rfl hE.okt (by omega) (by omega) (by omega)) ?_
 refine bK Df rfl (dT (i:=t) (.tail _ (.head _)) (by omega)) ?_
 refine aA rfl (td hK2 (ai (fun _ hK3=>?_)))
 refine bz (γ:=Unit) (n:=16) Tryz.mixed rfl rfl (fun _ S=>True) (fun _=>[(0,19,(vP e 0)),(1,20,(vP e 0)),(2,21,(vP e 15)),(3,22,(vP x.ld 0)),(4,23,(vN t)),(5,24,(.pointer (some ⟨(x.ks.getD t (0,0)).1,0,none⟩))),(6,25,(.pointer (some ⟨(x.ks.getD t (0,0)).1,0,none⟩))),(7,26,(.pointer (some ⟨(x.ks.getD t (0,0)).1,0,none⟩))),(8,27,(.pointer (some ⟨(x.ks.getD t (0,0)).1,0,none⟩))),(9,28,(vI ((s.tk.getD t Tk.z).mem))),(10,29,(.tuple #[(vI (ld.takeV (t:Int) ((s.tk.getD t Tk.z).mem))),(vI (ld.takeE (t:Int) ((s.tk.getD t Tk.z).mem)))])),(11,18,(.tuple #[(vI (ld.takeV (t:Int) ((s.tk.getD t Tk.z).mem))),(vI (ld.takeE (t:Int) ((s.tk.getD t Tk.z).mem)))])),(12,30,(vI (ld.takeV (t:Int) ((s.tk.getD t Tk.z).mem)))),(13,31,(vI (ld.takeE (t:Int) ((s.tk.getD t Tk.z).mem)))),(14,9,(vI (ld.takeV (t:Int) ((s.tk.getD t Tk.z).mem)))),(15,10,(vI (ld.takeE (t:Int) ((s.tk.getD t Tk.z).mem))))]) (fun _ S=>(bI b1 [(vI 0),(vI 0),(vI 0),(vI 0),(vI 0)] 40)::(bQ e x s)::(bif S 10 then (dz x.ld (ld.take (t:Int) ((s.tk.getD t Tk.z).mem))) else (dz x.ld ld))::(bI x.tp [(vP hp 0)] 132)::(cL hp n ks)::R) (()) trivial (fun _ h=>h) (fun _ _ h=>h) ?_ ?_
 ·refine ⟨aU,bW,bL CJ rfl DK,dB DL rr rr fun _ _=>bu (v:=(vP x.ld 0)) (.tail _ (.head _)) (fun _ _=>rfl),aU,aU,bW,bL CP rfl Dl,bL Dt rfl CG,?_,?_,aU,?_,?_,fh,fh,trivial⟩
  ·rintro _ S hF hS D hp K hK;try dsimp only
   exact bH (bE hp 8 rfl rfl) (bP CH rfl (bY (i:=t) (v:=(vI ((s.tk.getD t Tk.z).mem))) (.tail _ (.head _)) (by omega) rfl)) 9 rfl rfl hS (hK () hF)
  ·rintro _ S hF hS D hp K hK
   try dsimp only at hF⊢
   refine bZ hp [22,23,28] rfl rfl ?_
   refine aR ?_
   refine c9 hS ?_
   refine bN Tryz.call107 rfl (ya (d:=ld) hz (t:Int) ((s.tk.getD t Tk.z).mem)) ?_
   rintro _ _ ⟨rfl,rfl⟩
   refine aR (aR ?_)
   exact cK hp hS (ti (hK () trivial)) rfl rfl rfl
  ·intro _ S h s D p K k;exact bH (bE p 11 rfl rfl) (aW rfl rfl) 12 rfl rfl s (k () h)
  ·intro _ S h s D p K k;exact bH (bE p 11 rfl rfl) (aW rfl rfl) 13 rfl rfl s (k () h)
 ·rintro _ hF
  try dsimp only at hF⊢
  refine az (E':=[(0,(vP e 0)),(1,(vI r)),(2,(vN t)),(6,(vP b1 0)),(7,(vI 0)),(8,(.pointer (some ⟨(x.ks.getD t (0,0)).1,0,none⟩))),(9,(vI (ld.takeV (t:Int) ((s.tk.getD t Tk.z).mem)))),(10,(vI (ld.takeE (t:Int) ((s.tk.getD t Tk.z).mem))))]) ⟨rfl,rfl,rfl,rfl,rfl,rfl,rfl,rfl,trivial⟩ ?_
  refine qn hK3 (ai (fun _ hK4=>av (fun _ hK5=>ag rfl ?_)))
  by_cases h2:(ld.takeE (t:Int) ((s.tk.getD t Tk.z).mem))=0
  ·refine tp rfl (cG rfl rfl (bne_eq_false_iff_eq.2 h2)) (td hK5 (ar rfl (dp hK4 (av (fun _ hK6=>ag rfl (cV rfl ?_))))))
   refine bU 2 CP rfl CU rfl rfl (bK CV rfl (bY (i:=t) (v:=(.pointer (some ⟨(x.ks.getD t (0,0)).2,0,none⟩))) (.tail _ (.head _)) (by omega) rfl) ?_)
   refine aE ?_
   refine bN Tryz.call108 rfl (fj (i:=t) (y:=fP (s.lf.getD t Lf.z)) (by omega) (fun h=>h.start) (fun h _=>vV _ h (by omega))) ?_
   rintro _ _ ⟨rfl,rfl⟩
   refine td hK6 (av (fun _ hK7=>ag rfl (ag rfl (cV rfl (bU 19 CJ rfl CG rfl rfl (bK CH rfl (bu (v:=(vI s.bg)) (.head _) (fun _ _=>rfl)) (cV rfl ?_)))))))
   refine bU 4 CP rfl CG rfl rfl ?_
   refine ts (su (i:=t) (o:=4) (z:={(s.tk.getD t Tk.z) with sn:=s.bg}) (by omega) rfl (by decide) rfl CG rfl rfl) ?_
   refine td hK7 (av (fun _ hK8=>ag rfl (cV rfl (bU 19 CJ rfl CG rfl rfl (bK CH rfl (bu (v:=(vI s.bg)) (.head _) (fun _ _=>rfl)) (tp rfl (aX (c:=s.bg+1) rfl rfl (cA (by omega) (by omega))) ?_))))))
   refine cV rfl (bU 19 CJ rfl CG rfl rfl ?_)
   refine ts (Ct CG rfl rfl) ?_
   refine td hK8 (ai (fun _ hK9=>?_))
   refine bz (γ:=Unit) (n:=16) Tryz.mixed rfl rfl (fun _ S=>True) (fun _=>[(0,55,(vP e 0)),(1,56,(vP e 0)),(2,57,(vP e 14)),(3,58,(vP x.tp 0)),(4,59,(vN t)),(5,60,(vP e 0)),(6,61,(vP e 0)),(7,62,(vP e 18)),(8,63,(vI s.now)),(9,64,(vP e 0)),(10,65,(vP e 0)),(11,66,(vP e 0)),(12,67,(vP e 6)),(13,68,(vI s.c.tmo)),(14,69,(vI (s.now+s.c.tmo))),(15,70,(vI (kb (jq ks (t:Int)) (t:Int))))]) (fun _ S=>(bQ e x (((s.lfu t fP).setTk t ({(s.tk.getD t Tk.z) with sn:=s.bg})).setBg (s.bg+1)))::(bI b1 [(vI 0),(vI 0),(vI 0),(vI 0),(vI 0)] 40)::(dz x.ld (ld.take (t:Int) ((s.tk.getD t Tk.z).mem)))::(bI x.tp [(vP hp 0)] 132)::(bif S 15 then (cL hp n (jS (jq ks (t:Int)) (t:Int) (s.now+s.c.tmo))) else (cL hp n ks))::R) (()) trivial (fun _ h=>h) (fun _ _ h=>h) ?_ ?_
   ·refine ⟨aU,bW,bL CJ rfl Tryz.sizeOf68,dB Tryz.isAgg68 rr rr fun _ _=>bu (v:=(vP x.tp 0)) (.head _) (fun _ _=>rfl),aU,aU,bW,bL CJ rfl CG,?_,aU,bW,bL CJ rfl Dm,bL CW rfl CG,?_,?_,?_,trivial⟩
    ·rintro _ S hF hS D hp K hK;try dsimp only
     exact bH (bE hp 7 rfl rfl) (bP CH rfl (bu (v:=(vI s.now)) (.head _) (fun _ _=>rfl))) 8 rfl rfl hS (hK () hF)
    ·rintro _ S hF hS D hp K hK;try dsimp only
     exact bH (bE hp 12 rfl rfl) (bP CH rfl (bu (v:=(vI s.c.tmo)) (.head _) (fun _ _=>rfl))) 13 rfl rfl hS (hK () hF)
    ·rintro _ S hF hS D hp K hK;try dsimp only
     exact bV (bE hp 8 rfl rfl) (bE hp 13 rfl rfl) (aX (c:=s.now+s.c.tmo) rfl rfl (cA (by omega) (by omega))) 14 rfl rfl hS (hK () hF)
    ·rintro _ S hF hS D hp K hK
     try dsimp only at hF⊢
     refine bZ hp [58,59,69] rfl rfl ?_
     refine de ?_
     refine c9 hS ?_
     refine de ?_
     refine bN Tryz.call86 rfl (uY (n:=n) (ks:=ks) (t:Int) (s.now+s.c.tmo)) ?_
     rintro _ _ ⟨rfl,rfl⟩
     refine aE (aE (de (de (de ?_))))
     exact cK hp hS (ti (hK () trivial)) rfl rfl rfl
   ·rintro _ hF
    try dsimp only at hF⊢
    refine az (E':=[(0,(vP e 0)),(1,(vI r)),(2,(vN t)),(6,(vP b1 0)),(7,(vI 0)),(8,(.pointer (some ⟨(x.ks.getD t (0,0)).1,0,none⟩))),(9,(vI (ld.takeV (t:Int) ((s.tk.getD t Tk.z).mem)))),(10,(vI (ld.takeE (t:Int) ((s.tk.getD t Tk.z).mem)))),(33,(.bool false))]) ⟨rfl,rfl,rfl,rfl,rfl,rfl,rfl,rfl,rfl,trivial⟩ ?_
    refine qn hK9 (av (fun _ hK10=>ag rfl (ag rfl (aR (aE ?_)))))
    refine bN Tryz.call82 rfl (sb (x:=x) (s:=((s.lfu t fP).setTk t ({(s.tk.getD t Tk.z) with sn:=s.bg})).setBg (s.bg+1)) (ld:=ld.take (t:Int) ((s.tk.getD t Tk.z).mem)) 1 t (by omega) hl) ?_
    rintro _ _ ⟨rfl,rfl⟩
    refine td hK10 (av (fun K11 hK11=>ag rfl (ag rfl (ag rfl (ag rfl (cV rfl (bU 2 CP rfl CU rfl rfl ?_)))))))
    refine bK CV rfl (bY (i:=t) (v:=(.pointer (some ⟨(x.ks.getD t (0,0)).2,0,none⟩))) (.head _) (by omega) rfl) ?_
    refine bN Tryz.call109 rfl (dK (i:=t) (by omega) (fun _=>qf _)) ?_
    rintro _ _ ⟨rfl,rfl⟩
    refine tp rfl (bG (cs:=[(vI r),(vI 0),(vN t),(vI (ld.takeV (t:Int) ((s.tk.getD t Tk.z).mem))),(vI (((s.lfu t fP).lf.getD t Lf.z).ep))]) (pl:=[(0,1),(1,1),(2,1),(3,1),(4,1)]) CT CR (fun _=>by simp) rfl rfl) ?_
    refine aR ?_
    refine ts (bn (news:=[(vI r),(vI 0),(vN t),(vI (ld.takeV (t:Int) ((s.tk.getD t Tk.z).mem))),(vI (((s.lfu t fP).lf.getD t Lf.z).ep))]) CM rfl rfl rfl rfl (nB rfl) rfl) ?_
    refine aA rfl (td hK11 (ay ?_))
    refine dD (cs:=[(vI r),(vI 0),(vN t),(vI (ld.takeV (t:Int) ((s.tk.getD t Tk.z).mem))),(vI (((s.lfu t fP).lf.getD t Lf.z).ep))]) rfl rfl rfl C3 CM (bh (aa (.head _) rfl) (aa (.head _) rfl) (aa (.head _) rfl) (aa (.head _) rfl) (aa (.head _) rfl)) (fun _ h=>h.drop) ?_
    exact ⟨0,_,_,_,_,_,.inr ⟨rfl,by omega,rfl,rfl,rfl,rfl,rfl⟩,rfl,rfl⟩
  ·refine tp rfl (cG rfl rfl (bne_iff_ne.2 h2)) (td hK5 (aG rfl (av (fun _ hK6=>tp rfl (bG (cs:=[(vI 0),(vI 0),(vI 0),(vI 0),(vI 0)]) (pl:=[(0,1),(1,1),(2,1),(3,1),(4,1)]) CT CR (fun _=>by simp) rfl rfl) ?_))))
   refine ag rfl ?_
   refine ts (bn (news:=[(vI 0),(vI 0),(vI 0),(vI 0),(vI 0)]) CM rfl rfl rfl rfl (nB rfl) rfl) ?_
   refine aA rfl (td hK6 (ay ?_))
   refine aK ?_
   refine dD (cs:=[(vI 0),(vI 0),(vI 0),(vI 0),(vI 0)]) rfl rfl rfl C3 CM (bh (aa (.head _) rfl) (aa (.head _) rfl) (aa (.head _) rfl) (aa (.head _) rfl) (aa (.head _) rfl)) (fun _ h=>h.drop) ?_
   rw [show ld.take (t:Int) (s.tk.getD t Tk.z).mem=ld from if_neg ‹_›]
   exact ⟨_,0,0,0,0,(⟨s,ld,ks⟩:SL),.inl ⟨rfl,‹_›,zo _ _ _,rfl⟩,rfl,rfl⟩
set_option maxHeartbeats 4000000 in
theorem Bk{R:List HP}{e:Nat}{x:EP}{s:ES}{ld:Led}{ks:Ks}{hp n:Nat}{bb bp:Option Addr}{cb cp np:Nat}(ts pr:List Int)(p:Int)(h16:x.n≤16)(hb:Rd R bb (aF .i64 ts))(okb:bB bb ts.length)(lb:ts.length≤64)(htr:∀t∈ts,0≤t∧t<x.n)(hts:0<ts.length)(hpl:x.n≤np∧pr.length=np)(hrp:Rd R bp (aF .i64 pr))(okp:bB bp np)(hlg:s.lg.length≤900000000):
 Ok Tryz.prog 55 [(vP e 0),(.slice bb ts.length cb),(vI p),(.slice bp np cp)] ((bQ e x s)::(dz x.ld ld)::(bI x.tp [(vP hp 0)] 132)::(cL hp n ks)::R)
  (fun v M=> ∃(er:Int) (l vs:List Int) (bs:Option Addr) (cp:Nat),Bg s pr ts x.n p er l vs∧(0<ld.cnt ld.many∧ts.filter (fE x.n s.al (ld.bud-ld.used))≠[]→er=0∧l=ts.filter (fE x.n s.al (ld.bud-ld.used))∧vs=[])∧bB bs l.length∧l.length≤cp∧v=.tuple #[.slice bs l.length cp,.int .i64 er]∧M=SlV 3 1 (.slice bs l.length cp) l.length (aF .i64 l)::bQ e x (stopN (⟨s,ld,ks⟩:SL) vs).s::dz x.ld (stopN (⟨s,ld,ks⟩:SL) vs).ld::bI x.tp [.pointer (some ⟨hp,0,none⟩)] 132::cL hp n (stopN (⟨s,ld,ks⟩:SL) vs).ks::R):=by
 refine aP (N:=103) Tryz.func55 rfl rfl rfl (fun W=>?_)
 refine aY (fun _ h=>dG h) (fun hE=>?_)
 have hE_nb:=hE.nb
 have hE_mb:=hE.mb
 have hE_tn:=hE.tn
 have hE_ln:=hE.ln
 have hE_mn:=hE.mn
 have hn0:=hE.n0
 have hE_an:=hE.an
 refine av (fun _ hK1=>aA rfl (aA rfl (td hK1 (ai (fun _ hK2=>ai (fun _ hK3=>?_))))))
 refine bz (γ:=Option Addr×Nat) (n:=12) Tryz.mixed rfl rfl (fun (bs1,cp2) S=>(S 10=true→bB bs1 ((ts.filter (fE x.n s.al (ld.bud-ld.used))).length))∧(S 10=true→(ts.filter (fE x.n s.al (ld.bud-ld.used))).length≤cp2)) (fun (bs1,cp2)=>[(0,16,(.slice bb ts.length cb)),(1,17,(vP e 0)),(2,18,(vP e 0)),(3,19,(vP e 10)),(4,20,(.slice x.ba x.n x.ca)),(5,21,(vP e 0)),(6,22,(vP e 0)),(7,23,(vP e 15)),(8,24,(vP x.ld 0)),(9,25,(vI (ld.bud-ld.used))),(10,26,(.slice bs1 ((ts.filter (fE x.n s.al (ld.bud-ld.used))).length) cp2)),(11,10,(.slice bs1 ((ts.filter (fE x.n s.al (ld.bud-ld.used))).length) cp2))]) (fun (bs1,cp2) S=>(bQ e x s)::(dz x.ld ld)::(bI x.tp [(vP hp 0)] 132)::(cL hp n ks)::(bif S 10 then (SlV 3 1 (.slice bs1 ((ts.filter (fE x.n s.al (ld.bud-ld.used))).length) cp2) ((ts.filter (fE x.n s.al (ld.bud-ld.used))).length) (aF .i64 (ts.filter (fE x.n s.al (ld.bud-ld.used))))) else ib)::R) (none,0) (by simp [Nat.ble]) (fun _ h=>ef [_,_,_,_] 1 h) (fun _ _ h=>h) ?_ ?_
 ·refine ⟨ga fun ⟨_,_⟩=>da,ga fun ⟨_,_⟩=>da,ga fun ⟨_,_⟩=>fx,ga fun ⟨_,_⟩=>dF CJ rfl Tryz.sizeOf24,ga fun ⟨_,_⟩=>gI DM rfl rfl fun _=>bu (v:=(.slice x.ba x.n x.ca)) (.head _) (fun _ _=>rfl),ga fun ⟨_,_⟩=>da,ga fun ⟨_,_⟩=>fx,ga fun ⟨_,_⟩=>dF CJ rfl DK,ga fun ⟨_,_⟩=>gI DL rfl rfl fun _=>bu (v:=(vP x.ld 0)) (.head _) (fun _ _=>rfl),?_,?_,ga fun ⟨_,_⟩=>kj,trivial⟩
  ·rintro ⟨bs1,cp2⟩ S hF hS D hp K hK
   try dsimp only at hF⊢
   obtain ⟨hf0,hf1⟩:=hF
   refine bZ hp [24] rfl rfl ?_
   refine aE ?_
   refine bN Tryz.call95 rfl (rE (d:=ld)) ?_
   rintro _ _ ⟨rfl,rfl⟩
   refine aE ?_
   exact cK hp hS (ti (hK (bs1,cp2) ⟨hf0,hf1⟩)) rfl rfl rfl
  ·rintro ⟨bs1,cp2⟩ S hF hS D hp K hK
   try dsimp only at hF⊢
   obtain ⟨hf0,hf1⟩:=hF
   refine bZ hp [16,20,25] rfl rfl ?_
   refine bN Tryz.call94 rfl (Bt (n:=x.n) ts s.al (ld.bud-ld.used) (by first|rfl|omega| (simp;done)| (simp;omega)) (by first|rfl|omega| (simp;done)| (simp;omega)) (Rd.cons (Rd.cons (Rd.cons (Rd.cons (Rd.cons hb))))) (AX (.head _)) okb hE.oka (by first|omega| (simp;omega)| (simp;done))) ?_
   rintro _ _ ⟨bs1,cp2,hok3,hle4,rfl,rfl⟩
   refine bO (fun _ h=>cX [_,_,_,_] h) ?_
   exact cK hp hS (ti (hK (bs1,cp2) ⟨(fun _=>hok3),(fun _=>hle4)⟩)) rfl rfl rfl
 ·rintro ⟨bs1,cp2⟩ hF
  try dsimp only at hF⊢
  obtain ⟨hf0,hf1⟩:=hF
  have hok3:=hf0 rfl
  have hle4:=hf1 rfl
  refine az (E':=[(0,(vP e 0)),(1,(.slice bb ts.length cb)),(2,(vI p)),(3,(.slice bp np cp)),(8,(.slice none 0 0)),(9,(vI 0)),(10,(.slice bs1 ((ts.filter (fE x.n s.al (ld.bud-ld.used))).length) cp2))]) ⟨rfl,rfl,rfl,rfl,rfl,rfl,rfl,trivial⟩ ?_
  refine qn hK3 (av (fun _ hK4=>?_))
  by_cases hc5:((ld.cnt ld.many:Nat):Int)>0∧(((ts.filter (fE x.n s.al (ld.bud-ld.used))).length:Nat):Int)>0
  ·have hc5a:=hc5.1
   have hc5b:=hc5.2
   refine ag rfl (cV rfl (bU 15 CJ rfl DK rfl rfl (bK DL rfl (bu (v:=(vP x.ld 0)) (.head _) (fun _ _=>rfl)) (aE ?_))))
   refine bN Tryz.call96 rfl (kG (d:=ld)) ?_
   rintro _ _ ⟨rfl,rfl⟩
   refine tp rfl (cu rfl rfl (decide_eq_true hc5.1)) (ag rfl ?_)
   refine ae rfl rfl ?_
   refine ag rfl ?_
   refine ae rfl rfl ?_
   refine tp rfl (bC CI rfl rfl) ?_
   refine ae rfl rfl ?_
   refine tp rfl (cu rfl rfl (decide_eq_true hc5.2)) (tp rfl (aL rfl rfl) (td hK4 (aG rfl (av (fun _ hK5=>ag rfl (aA rfl (aA rfl ?_)))))))
   refine td hK5 (ay ?_)
   refine aK ?_
   refine aS (aS (aR (aS (de ?_))))
   refine dc rfl rfl rfl ?_
   exact ⟨0,ts.filter (fE x.n s.al (ld.bud-ld.used)),[],_,_,.inr ⟨rfl,fun h9=>by have h8:=congrArg List.length h9;simp only [List.length_nil] at h8;omega,zZ,fun v hv=>(by cases hv),Nat.zero_le _,List.length_filter_le _ _⟩,fun _=>⟨rfl,rfl,rfl⟩,hok3,hle4,rfl,rfl⟩
  ·refine mK (E':=[(0,(vP e 0)),(1,(.slice bb ts.length cb)),(2,(vI p)),(3,(.slice bp np cp)),(8,(.slice none 0 0)),(9,(vI 0)),(10,(.slice bs1 ((ts.filter (fE x.n s.al (ld.bud-ld.used))).length) cp2)),(37,(.bool false))]) ?_ (fun KK hKK=>?_)
   ·
    refine qn hK4 (ar rfl (dp hK2 (av (fun _ hK5=>ag rfl (tp rfl (ah (k':=0) CI CG rfl rfl okb (by omega) (by omega) (by omega)) ?_)))))
    refine bK CH rfl (Rd.gives (Rd.cons (Rd.cons (Rd.cons (Rd.cons (Rd.cons hb))))) (aQ (by first|omega| (simp;omega)))) ?_
    refine aA rfl (td hK5 (ai (fun _ hK6=>?_)))
    obtain ⟨t0,ht0⟩:∃t0:Nat,ts.getD 0 0=(t0:Int):=⟨(ts.getD 0 0).toNat,by have:=htr _ (dP (show 0<ts.length by omega));omega⟩
    have ht0n:=htr _ (dP (show 0<ts.length by omega))
    have ht0m:ts.getD 0 0∈ts:=dP (by omega)
    have hrkl:=my s x.n
    have hrll:=r5 s pr x.n
    rw [ht0] at ht0n ht0m⊢
    refine bz (γ:=Option Addr×Nat×List Int×Option Addr×Nat×Bool) (n:=33) Tryz.mixed rfl rfl (fun (bs6,cp7,lv10,bs11,cp12,zb13) S=>(S 2=true→bB bs6 ((eF s x.n).length))∧(S 2=true→(eF s x.n).length≤cp7)∧(S 27=true→rV (jn s pr x.n) p s.c.pre lv10)∧(S 27=true→lv10.length≤((eF s x.n).length))∧(S 27=true→bB bs11 lv10.length)∧(S 27=true→lv10.length≤cp12)) (fun (bs6,cp7,lv10,bs11,cp12,zb13)=>[(0,43,(vP e 0)),(1,44,(.slice bp np cp)),(2,45,(.slice bs6 ((eF s x.n).length) cp7)),(3,46,(vI p)),(4,47,(vP e 0)),(5,48,(vP e 0)),(6,49,(vP e 10)),(7,50,(.slice x.ba x.n x.ca)),(8,51,(vN t0)),(9,52,(.pointer (some (ad x.ba (t0*2))))),(10,53,(.pointer (some (ad x.ba (t0*2))))),(11,54,(vI ((s.al.getD t0 (0,0)).1))),(12,55,(vP e 0)),(13,56,(vP e 0)),(14,57,(vP e 15)),(15,58,(vP x.ld 0)),(16,59,(vI (ld.bud-ld.used))),(17,60,(vP e 0)),(18,61,(vP e 0)),(19,62,(vP e 15)),(20,63,(vP x.ld 0)),(21,64,(vI ((ld.cnt ld.many:Nat):Int))),(22,65,(vP e 0)),(23,66,(vP e 0)),(24,67,(vP e 0)),(25,68,(vP e 5)),(26,69,(vI s.c.pre)),(27,70,(.tuple #[(.slice bs11 lv10.length cp12),(.bool zb13)])),(28,42,(.tuple #[(.slice bs11 lv10.length cp12),(.bool zb13)])),(29,71,(.slice bs11 lv10.length cp12)),(30,72,(.bool zb13)),(31,12,(.slice bs11 lv10.length cp12)),(32,13,(.bool zb13))]) (fun (bs6,cp7,lv10,bs11,cp12,zb13) S=>(bQ e x s)::(dz x.ld ld)::(bI x.tp [(vP hp 0)] 132)::(cL hp n ks)::(SlV 3 1 (.slice bs1 ((ts.filter (fE x.n s.al (ld.bud-ld.used))).length) cp2) ((ts.filter (fE x.n s.al (ld.bud-ld.used))).length) (aF .i64 (ts.filter (fE x.n s.al (ld.bud-ld.used)))))::(bif S 2 then (SlV 195 5 (.slice bs6 ((eF s x.n).length) cp7) ((eF s x.n).length) (bJ gH (jn s pr x.n))) else ib)::(bif S 27 then (SlV 3 1 (.slice bs11 lv10.length cp12) lv10.length (aF .i64 lv10)) else ib)::R) (none,0,[],none,0,false) (by simp [Nat.ble]) (fun _ h=>ef [_,_,_,_,_] 2 h) (fun _ _ h=>h) ?_ ?_
    ·refine ⟨ga fun ⟨_,_,_,_,_,_⟩=>da,ga fun ⟨_,_,_,_,_,_⟩=>da,?_,ga fun ⟨_,_,_,_,_,_⟩=>da,ga fun ⟨_,_,_,_,_,_⟩=>da,ga fun ⟨_,_,_,_,_,_⟩=>fx,ga fun ⟨_,_,_,_,_,_⟩=>dF CJ rfl Tryz.sizeOf24,ga fun ⟨_,_,_,_,_,_⟩=>gI DM rfl rfl fun _=>bu (v:=(.slice x.ba x.n x.ca)) (.head _) (fun _ _=>rfl),ga fun ⟨_,_,_,_,_,_⟩=>da,ga fun ⟨_,_,_,_,_,_⟩=>nu CY Dl rfl rfl rfl ⟨hE.oka,by omega,by omega,by omega⟩,?_,ga fun ⟨_,_,_,_,_,_⟩=>gI CH rfl rfl fun _=>pY (i:=t0) (.head _) (by omega),ga fun ⟨_,_,_,_,_,_⟩=>da,ga fun ⟨_,_,_,_,_,_⟩=>fx,ga fun ⟨_,_,_,_,_,_⟩=>dF CJ rfl DK,ga fun ⟨_,_,_,_,_,_⟩=>gI DL rfl rfl fun _=>bu (v:=(vP x.ld 0)) (.head _) (fun _ _=>rfl),?_,ga fun ⟨_,_,_,_,_,_⟩=>da,ga fun ⟨_,_,_,_,_,_⟩=>fx,ga fun ⟨_,_,_,_,_,_⟩=>dF CJ rfl DK,ga fun ⟨_,_,_,_,_,_⟩=>gI DL rfl rfl fun _=>bu (v:=(vP x.ld 0)) (.head _) (fun _ _=>rfl),?_,ga fun ⟨_,_,_,_,_,_⟩=>da,ga fun ⟨_,_,_,_,_,_⟩=>fx,ga fun ⟨_,_,_,_,_,_⟩=>dF CJ rfl Dm,ga fun ⟨_,_,_,_,_,_⟩=>dF CW rfl CG,?_,?_,ga fun ⟨_,_,_,_,_,_⟩=>da,?_,?_,ga fun ⟨_,_,_,_,_,_⟩=>kj,ga fun ⟨_,_,_,_,_,_⟩=>kj,trivial⟩
     ·rintro ⟨bs6,cp7,lv10,bs11,cp12,zb13⟩ S hF hS D hp K hK
      try dsimp only at hF⊢
      obtain ⟨hf0,hf1,hf2,hf3,hf4,hf5⟩:=hF
      refine bZ hp [43,44] rfl rfl ?_
      refine bN Tryz.call98 rfl (A9 (x:=x) (s:=s) pr (by omega) (Rd.cons (Rd.cons (Rd.cons (Rd.cons (Rd.cons (Rd.cons hrp)))))) okp) ?_
      rintro _ _ ⟨bs6,cp7,hok8,hle9,rfl,rfl⟩
      refine bO (fun _ h=>cX [_,_,_,_,_] h) ?_
      exact cK hp hS (ti (hK (bs6,cp7,lv10,bs11,cp12,zb13) ⟨(fun _=>hok8),(fun _=>hle9),hf2,hf3,hf4,hf5⟩)) rfl rfl rfl
     ·rintro ⟨bs6,cp7,lv10,bs11,cp12,zb13⟩ S hF hS D hp K hK;try dsimp only
      exact bH (bE hp 9 rfl rfl) (bM (o':=t0*2) Dt rfl CG rfl rfl) 10 rfl rfl hS (hK (bs6,cp7,lv10,bs11,cp12,zb13) hF)
     ·rintro ⟨bs6,cp7,lv10,bs11,cp12,zb13⟩ S hF hS D hp K hK
      try dsimp only at hF⊢
      obtain ⟨hf0,hf1,hf2,hf3,hf4,hf5⟩:=hF
      refine bZ hp [58] rfl rfl ?_
      refine aE ?_
      refine bN Tryz.call95 rfl (rE (d:=ld)) ?_
      rintro _ _ ⟨rfl,rfl⟩
      refine aE ?_
      exact cK hp hS (ti (hK (bs6,cp7,lv10,bs11,cp12,zb13) ⟨hf0,hf1,hf2,hf3,hf4,hf5⟩)) rfl rfl rfl
     ·rintro ⟨bs6,cp7,lv10,bs11,cp12,zb13⟩ S hF hS D hp K hK
      try dsimp only at hF⊢
      obtain ⟨hf0,hf1,hf2,hf3,hf4,hf5⟩:=hF
      refine bZ hp [63] rfl rfl ?_
      refine aE ?_
      refine bN Tryz.call96 rfl (kG (d:=ld)) ?_
      rintro _ _ ⟨rfl,rfl⟩
      refine aE ?_
      exact cK hp hS (ti (hK (bs6,cp7,lv10,bs11,cp12,zb13) ⟨hf0,hf1,hf2,hf3,hf4,hf5⟩)) rfl rfl rfl
     ·rintro ⟨bs6,cp7,lv10,bs11,cp12,zb13⟩ S hF hS D hp K hK;try dsimp only
      exact bH (bE hp 25 rfl rfl) (bP CH rfl (bu (v:=(vI s.c.pre)) (.head _) (fun _ _=>rfl))) 26 rfl rfl hS (hK (bs6,cp7,lv10,bs11,cp12,zb13) hF)
     ·rintro ⟨bs6,cp7,lv10,bs11,cp12,zb13⟩ S hF hS D hp K hK
      try dsimp only at hF⊢
      obtain ⟨hf0,hf1,hf2,hf3,hf4,hf5⟩:=hF
      have s2:=hp 2 rfl
      have hok8:=hf0 s2
      have hle9:=hf1 s2
      refine bZ hp [45,46,54,59,64,69] rfl rfl ?_
      refine cN ?_
      refine jJ s2 ?_
      refine bN Tryz.call97 rfl (wW (n:=((eF s x.n).length)) (jn s pr x.n) p ((s.al.getD t0 (0,0)).1) (ld.bud-ld.used) ((ld.cnt ld.many:Nat):Int) s.c.pre (by omega) (by omega) (cj (.head _)) hok8) ?_
      rintro _ _ ⟨lv10,bs11,cp12,zb13,hvi14,hvl15,hok16,hle17,rfl,rfl⟩
      refine aE ?_
      refine lZ (B:=ib) s2 ?_
      refine dM (dM (dM (dM (dM (dM ?_)))))
      refine bO (fun _ h=>cX [_,_,_,_,_,_] h) ?_
      exact cK hp hS (ti (hK (bs6,cp7,lv10,bs11,cp12,zb13) ⟨hf0,hf1,(fun _=>hvi14),(fun _=>hvl15),(fun _=>hok16),(fun _=>hle17)⟩)) rfl rfl rfl (ha:=by exact ⟨.inl rfl,.inl rfl,.inl rfl,.inl rfl,.inl rfl,.inl rfl,.inl rfl,.inl rfl,.inl rfl,.inl rfl,.inl rfl,.inl rfl,.inl rfl,.inl rfl,.inl rfl,.inl rfl,.inl rfl,.inl rfl,.inl rfl,.inl rfl,.inl rfl,.inl rfl,.inl rfl,.inl rfl,.inl rfl,.inl rfl,.inl rfl,.inr ⟨rfl,rfl,hS⟩,.inr ⟨rfl,rfl,(nf hS D (k:=28) (i:=27) rfl)⟩,.inr ⟨rfl,rfl,(nf (nf hS D (k:=28) (i:=27) rfl) D (k:=29) (i:=28) rfl)⟩,.inr ⟨rfl,rfl,(nf (nf hS D (k:=28) (i:=27) rfl) D (k:=30) (i:=28) rfl)⟩,.inr ⟨rfl,rfl,(nf hS D (k:=31) (i:=27) rfl)⟩,.inr ⟨rfl,rfl,(nf hS D (k:=32) (i:=27) rfl)⟩,trivial⟩)
     ·rintro ⟨bs6,cp7,lv10,bs11,cp12,zb13⟩ S hF hS D hp K hK;try dsimp only
      exact bH (bE hp 28 rfl rfl) (aW rfl rfl) 29 rfl rfl hS (hK (bs6,cp7,lv10,bs11,cp12,zb13) hF)
     ·rintro ⟨bs6,cp7,lv10,bs11,cp12,zb13⟩ S hF hS D hp K hK;try dsimp only
      exact bH (bE hp 28 rfl rfl) (aW rfl rfl) 30 rfl rfl hS (hK (bs6,cp7,lv10,bs11,cp12,zb13) hF)
    ·rintro ⟨bs6,cp7,lv10,bs11,cp12,zb13⟩ hF
     try dsimp only at hF⊢
     obtain ⟨hf0,hf1,hf2,hf3,hf4,hf5⟩:=hF
     have hok8:=hf0 rfl
     have hle9:=hf1 rfl
     have hvi14:=hf2 rfl
     have hvl15:=hf3 rfl
     have hok16:=hf4 rfl
     have hle17:=hf5 rfl
     refine az (E':=[(0,(vP e 0)),(1,(.slice bb ts.length cb)),(2,(vI p)),(3,(.slice bp np cp)),(8,(.slice none 0 0)),(9,(vI 0)),(10,(.slice bs1 ((ts.filter (fE x.n s.al (ld.bud-ld.used))).length) cp2)),(11,(vN t0)),(12,(.slice bs11 lv10.length cp12)),(13,(.bool zb13)),(37,(.bool false))]) ⟨rfl,rfl,rfl,rfl,rfl,rfl,rfl,rfl,rfl,rfl,rfl,trivial⟩ ?_
     refine qn hK6 (ai (fun _ hK7=>av (fun _ hK8=>ag rfl (tp rfl (dy (c:= !zb13) rfl rfl) (ag rfl ?_)))))
     rcases hb18:zb13 with _|_
     ·refine aq rfl rfl rfl ?_
      refine aq rfl rfl rfl ?_
      refine aq rfl rfl rfl ?_
      refine tp rfl (aL rfl rfl) (td hK8 (aG rfl (av (fun _ hK9=>aA rfl (aA rfl (td hK9 ?_))))))
      refine ay ?_
      refine aK ?_
      refine bO (fun _ h=>cz 3 1 h) ?_
      refine cN (ak (cN (ak (cN (ak ?_)))))
      refine dc rfl rfl rfl ?_
      exact ⟨4,[],[],none,0,.inl ⟨rfl,rfl,rfl⟩,fun h=>(by exfalso;have:=List.length_pos_iff.2 h.2;omega),cn,Nat.le_refl _,rfl,rfl⟩
     ·refine ae rfl rfl ?_
      refine ag rfl ?_
      refine ae rfl rfl ?_
      refine tp rfl (bC CI rfl rfl) ?_
      refine ae rfl rfl ?_
      by_cases h19:(lv10.length:Int)=0
      ·refine tp rfl (aV rfl rfl (beq_iff_eq.2 h19)) (tp rfl (aC rfl rfl) (td hK8 (aG rfl (av (fun _ hK9=>aA rfl (aA rfl (aI ?_)))))))
       refine qn hK9 (ay ?_)
       refine aK ?_
       refine bO (fun _ h=>cz 3 1 h) ?_
       refine cN (ak (cN (ak (cN (ak ?_)))))
       refine dc rfl rfl rfl ?_
       exact ⟨4,[],[],none,0,.inl ⟨rfl,rfl,rfl⟩,fun h=>(by exfalso;have:=List.length_pos_iff.2 h.2;omega),cn,Nat.le_refl _,rfl,rfl⟩
      ·refine tp rfl (aV rfl rfl (beq_eq_false_iff_ne.2 h19)) (tp rfl (aC rfl rfl) (td hK8 (ar rfl (dp hK7 (ai (fun _ hK9=>av (fun _ hK10=>?_)))))))
       refine ag rfl (tp rfl (bC CI rfl rfl) (ag rfl (td hK10 (aH ?_))))
       rw [show bQ e x s=bQ e x (stopN (⟨s,ld,ks⟩:SL) (lv10.take 0)).s from rfl,show dz x.ld ld=dz x.ld (stopN (⟨s,ld,ks⟩:SL) (lv10.take 0)).ld from rfl,show cL hp n ks=cL hp n (stopN (⟨s,ld,ks⟩:SL) (lv10.take 0)).ks from rfl]
       refine cN (ak ?_)
       refine cE (γ:=(Nat)) (fun (k:Nat)=>k≤lv10.length) (fun (k:Nat)=>[(0,(vP e 0)),(1,(.slice bb ts.length cb)),(2,(vI p)),(3,(.slice bp np cp)),(8,(.slice none 0 0)),(9,(vI 0)),(10,(.slice bs1 ((ts.filter (fE x.n s.al (ld.bud-ld.used))).length) cp2)),(11,(vN t0)),(12,(.slice bs11 lv10.length cp12)),(13,(.bool true)),(37,(.bool false)),(79,(.bool false)),(80,(.slice bs11 lv10.length cp12)),(81,(vN lv10.length)),(82,(vN k))]) (fun (k:Nat)=>(bQ e x ((stopN (⟨s,ld,ks⟩:SL) (lv10.take k)).s))::(dz x.ld ((stopN (⟨s,ld,ks⟩:SL) (lv10.take k)).ld))::(bI x.tp [(vP hp 0)] 132)::(cL hp n ((stopN (⟨s,ld,ks⟩:SL) (lv10.take k)).ks))::(SlV 3 1 (.slice bs1 ((ts.filter (fE x.n s.al (ld.bud-ld.used))).length) cp2) ((ts.filter (fE x.n s.al (ld.bud-ld.used))).length) (aF .i64 (ts.filter (fE x.n s.al (ld.bud-ld.used)))))::(SlV 3 1 (.slice bs11 lv10.length cp12) lv10.length (aF .i64 lv10))::R) (fun (k:Nat)=>lv10.length-k) (0) (Nat.zero_le _) ⟨rfl,rfl,rfl,rfl,rfl,rfl,rfl,rfl,rfl,rfl,rfl,rfl,rfl,rfl,rfl,trivial⟩ (fun _ h=>h) ?_
       rintro k K11 hF hK11
       try dsimp only at hF hK11⊢
       have hlgk:(stopN (⟨s,ld,ks⟩:SL) (lv10.take k)).s.lg.length=s.lg.length+(lv10.take k).length:=oO _
       have htk:(lv10.take k).length≤lv10.length:=by rw [List.length_take];omega
       refine av (fun _ hK12=>?_)
       by_cases h20:(k:Int)< (lv10.length:Int)
       ·refine tp rfl (aJ rfl rfl (decide_eq_true h20)) (td hK12 (ai (fun _ hK13=>aG rfl (dp hK13 (ai (fun _ hK14=>aH (ai (fun _ hK15=>?_))))))))
        refine aj (tp rfl (ah (k':=k) CI CG rfl rfl hok16 (by omega) (by omega) (by omega)) ?_)
        refine bK CH rfl (aw (.tail _ (.tail _ (.tail _ (.tail _ (.tail _ (.head _)))))) (aQ (by first|omega| (simp;omega)))) ?_
        refine aA rfl (td hK15 (av (fun _ hK16=>?_)))
        obtain ⟨t,htt,htn,_,_⟩:=uy hvi14 (dP (show k<lv10.length by omega))
        have hs1:=sR (a:=(⟨s,ld,ks⟩:SL)) (vs:=lv10) (k:=k) (by omega)
        rw [htt] at hs1⊢
        refine ag rfl (ag rfl (aS (aS (aS (aS ?_)))))
        refine bN Tryz.call49 rfl (qA (x:=x) (s:=(stopN (⟨s,ld,ks⟩:SL) (lv10.take k)).s) (ld:=(stopN (⟨s,ld,ks⟩:SL) (lv10.take k)).ld) (ks:=(stopN (⟨s,ld,ks⟩:SL) (lv10.take k)).ks) 6 t (by omega) (by omega)) ?_
        rintro _ _ ⟨rfl,rfl⟩
        refine td hK16 (aj ?_)
        refine aY (fun _ h=>dG h) (fun hE2=>?_)
        have hE2_nb:=hE2.nb
        have hE2_mb:=hE2.mb
        have hE2_tn:=hE2.tn
        have hE2_ln:=hE2.ln
        have hE2_mn:=hE2.mn
        refine ag rfl (cV rfl (bU 11 CJ rfl C9 rfl rfl (bK Dc rfl (bu (v:=(.slice x.bt x.n x.ct)) (.head _) (fun _ _=>rfl)) (ag rfl (tp rfl (ah (k':=t) C6 De rfl rfl hE.okt (by omega) (by omega) (by omega)) ?_)))))
        refine bK Df rfl (dT (i:=t) (.head _) (by omega)) ?_
        refine cV rfl (bU 2 CP rfl CU rfl rfl (bK CV rfl (bY (i:=t) (v:=(.pointer (some ⟨(x.ks.getD t (0,0)).2,0,none⟩))) (.head _) (by omega) rfl) ?_))
        refine bN Tryz.call99 rfl (fj (i:=t) (y:=gO (((stopN (⟨s,ld,ks⟩:SL) (lv10.take k)).s).lf.getD t Lf.z)) (by omega) (fun h=>h.stop) (fun h _=>xq _ h)) ?_
        rintro _ _ ⟨rfl,rfl⟩
        refine aI (aZ (qn hK14 (aj (tp rfl (aX (c:=((k+1:Nat):Int)) rfl rfl (aB (by omega))) ?_))))
        refine ag rfl (aI (aN ?_))
        refine bO (fun _ h=>(show Sat (bQ e x (lS (stopN (⟨s,ld,ks⟩:SL) (lv10.take k)) (t:Int)).s::dz x.ld (lS (stopN (⟨s,ld,ks⟩:SL) (lv10.take k)) (t:Int)).ld::(bI x.tp [(vP hp 0)] 132)::cL hp n (lS (stopN (⟨s,ld,ks⟩:SL) (lv10.take k)) (t:Int)).ks::(SlV 3 1 (.slice bs1 ((ts.filter (fE x.n s.al (ld.bud-ld.used))).length) cp2) ((ts.filter (fE x.n s.al (ld.bud-ld.used))).length) (aF .i64 (ts.filter (fE x.n s.al (ld.bud-ld.used)))))::(SlV 3 1 (.slice bs11 lv10.length cp12) lv10.length (aF .i64 lv10))::R) _ from h)) ?_
        rw [hs1]
        exact az (by exact ⟨rfl,rfl,rfl,rfl,rfl,rfl,rfl,rfl,rfl,rfl,rfl,rfl,rfl,rfl,rfl,trivial⟩) ((hK11 (k+1) (by omega) (by omega)))
       ·refine tp rfl (aJ rfl rfl (decide_eq_false h20)) (td hK12 (ai (fun _ hK13=>ar rfl (bT (au (au (bS (qn hK9 ?_))))))))
        refine av (fun _ hK14=>ag rfl ?_)
        refine tm rfl (aD (cs:=[(vN t0)]) CI CG CN (by decide) rfl rfl rfl rfl) ?_
        rintro _ _ ⟨bs21,cp22,hok23,hle24,rfl,rfl⟩
        refine aA rfl (aA rfl (td hK14 (ay (cN (ak (cN (ak ?_)))))))
        refine dc rfl rfl rfl ?_
        obtain rfl:k=lv10.length:=by omega
        rw [show lv10.take lv10.length=lv10 from List.take_of_length_le (Nat.le_refl _)]
        exact ⟨0,[(t0:Int)],lv10,_,_,.inr ⟨rfl,by simp,fun t ht=>(by simp at ht;subst ht;exact ht0m),hvi14,by omega,by show 1≤ts.length;omega⟩,fun h=>(by exfalso;have:=List.length_pos_iff.2 h.2;omega),hok23,hle24,rfl,rfl⟩
   ·by_cases hc5A:((ld.cnt ld.many:Nat):Int)>0
    ·
     have hc5B:¬((((ts.filter (fE x.n s.al (ld.bud-ld.used))).length:Nat):Int)>0):=fun hh=>hc5 ⟨hc5A,hh⟩
     refine ag rfl (cV rfl (bU 15 CJ rfl DK rfl rfl (bK DL rfl (bu (v:=(vP x.ld 0)) (.head _) (fun _ _=>rfl)) (aE ?_))))
     refine bN Tryz.call96 rfl (kG (d:=ld)) ?_
     rintro _ _ ⟨rfl,rfl⟩
     refine tp rfl (cu rfl rfl (decide_eq_true hc5A)) (ag rfl ?_)
     refine ae rfl rfl ?_
     refine ag rfl ?_
     refine ae rfl rfl ?_
     refine tp rfl (bC CI rfl rfl) ?_
     refine ae rfl rfl ?_
     refine tp rfl (cu rfl rfl (decide_eq_false hc5B)) (tp rfl (aL rfl rfl) (aE ?_))
     exact aI (az (by exact ⟨rfl,rfl,rfl,rfl,rfl,rfl,rfl,rfl,trivial⟩) hKK)
    ·
     refine ag rfl (cV rfl (bU 15 CJ rfl DK rfl rfl (bK DL rfl (bu (v:=(vP x.ld 0)) (.head _) (fun _ _=>rfl)) (aE ?_))))
     refine bN Tryz.call96 rfl (kG (d:=ld)) ?_
     rintro _ _ ⟨rfl,rfl⟩
     refine tp rfl (cu rfl rfl (decide_eq_false hc5A)) (ag rfl ?_)
     refine aq rfl rfl rfl ?_
     refine aq rfl rfl rfl ?_
     refine aq rfl rfl rfl ?_
     refine tp rfl (aC rfl rfl) (aE ?_)
     exact aI (az (by exact ⟨rfl,rfl,rfl,rfl,rfl,rfl,rfl,rfl,trivial⟩) hKK)
end Go.Proofs.YtanfdikglplkaaaGreatDoor
set_option maxRecDepth 100000
namespace Go.Proofs.YtanfdikglplkaaaGreatDoor
open Go Go.Proofs Sp
end Go.Proofs.YtanfdikglplkaaaGreatDoor
set_option maxRecDepth 100000
namespace Go.Proofs.YtanfdikglplkaaaGreatDoor
open Go Go.Proofs Sp
set_option maxHeartbeats 4000000 in
theorem wD{R:List HP}{g N:Nat}{E:Es}(x:Int){c1 c2 c3 c4 n m cl cr k:Nat}{bl bq:Option Addr}(rs:List Int)(hk:k<m)(hm:m≤rs.length)(hr:Rd R bq (aF .i64 rs))(okr:bB bq m)(h1:Gives R ⟨c1,0,none⟩ (.slice bl n cl))(h2:Gives R ⟨c2,0,none⟩ (.pointer (some ⟨g,0,none⟩)))(h3:Gives R ⟨c3,0,none⟩ (.slice bq m cr))(h4:Gives R ⟨c4,0,none⟩ (.int .i64 (k:Int)))(hT:Tab R):
 Ok Tryz.prog 101 [(vI x),(vP c1 0),(vP c2 0),(vP c3 0),(vP c4 0)] ((aT g N E)::R)
  (fun v M=>v=.bool (oS x n && cQ N E (rs.getD k 0) x)∧M=aT g N E::R):=by
 refine aP (N:=19) Tryz.func101 rfl rfl rfl (fun W=>?_)
 refine av (fun _ hK1=>aA rfl (td hK1 (ai (fun _ hK2=>?_))))
 rcases hh1:oS x n with _|_
 ·refine bz (γ:=Unit) (n:=13) Tryz.mixed rfl rfl (fun _ S=>True) (fun _=>[(0,7,(vI x)),(1,8,(.slice bl n cl)),(2,9,(.bool false)),(3,10,(.bool false)),(4,11,undef),(5,12,undef),(6,13,undef),(7,14,undef),(8,15,undef),(9,16,undef),(10,17,undef),(11,18,(.bool false)),(12,6,(.bool false))]) (fun _ S=>(aT g N E)::R) (()) trivial (fun _ h=>h) (fun _ _ h=>h) ?_ ?_
  ·refine ⟨aU,dB DM rr rr fun _ _=>Gives.cons h1,?_,aU,c7,c7,c7,c7,c7,c7,c7,?_,fh,trivial⟩
   ·rintro _ S hF hS D hp K hK
    try dsimp only at hF⊢
    refine bZ hp [7,8] rfl rfl ?_
    refine bN Tryz.call102 rfl (kD x) ?_
    rintro _ _ ⟨rfl,rfl⟩
    rw [show oS x n=false from hh1]
    exact cK hp hS (ti (hK () trivial)) rfl rfl rfl
   ·intro _ S h s D p K k;exact bV (bE p 3 rfl rfl) (bE p 10 rfl rfl) (aC rfl rfl) 11 rfl rfl s (k () h)
  ·rintro _ hF
   try dsimp only at hF⊢
   refine az (E':=[(0,(vI x)),(1,(vP c1 0)),(2,(vP c2 0)),(3,(vP c3 0)),(4,(vP c4 0)),(6,(.bool false))]) ⟨rfl,rfl,rfl,rfl,rfl,rfl,trivial⟩ ?_
   refine qn hK2 (ay ?_)
   refine aM rfl rfl ?_
   exact ⟨by simp [*],rfl⟩
 ·refine bz (γ:=Unit) (n:=13) Tryz.mixed rfl rfl (fun _ S=>True) (fun _=>[(0,7,(vI x)),(1,8,(.slice bl n cl)),(2,9,(.bool true)),(3,10,(.bool true)),(4,11,(vP g 0)),(5,12,(.slice bq m cr)),(6,13,(vN k)),(7,14,(.pointer (some (ad bq k)))),(8,15,(vI ((rs).getD k 0))),(9,16,(vI x)),(10,17,(.bool (cQ N E ((rs).getD k 0) x))),(11,18,(.bool (cQ N E ((rs).getD k 0) x))),(12,6,(.bool (cQ N E ((rs).getD k 0) x)))]) (fun _ S=>(aT g N E)::R) (()) trivial (fun _ h=>h) (fun _ _ h=>h) ?_ ?_
  ·refine ⟨aU,dB DM rr rr fun _ _=>Gives.cons h1,?_,aU,dd (dB DN rr rr fun _ _=>Gives.cons h2),dd (dB CL rr rr fun _ _=>Gives.cons h3),dd (dB CH rr rr fun _ _=>Gives.cons h4),?_,dd (dB CH rr rr fun _ _=>Rd.gives (Rd.cons hr) (aQ (by first|omega| (simp;omega)))),dd aU,?_,?_,fh,trivial⟩
   ·rintro _ S hF hS D hp K hK
    try dsimp only at hF⊢
    refine bZ hp [7,8] rfl rfl ?_
    refine bN Tryz.call102 rfl (kD x) ?_
    rintro _ _ ⟨rfl,rfl⟩
    rw [show oS x n=true from hh1]
    exact cK hp hS (ti (hK () trivial)) rfl rfl rfl
   ·rintro _ S hF hS D hp K hK;try dsimp only
    exact kf (bE hp 3 rfl rfl) (bE hp 5 rfl rfl) (bE hp 6 rfl rfl) rfl rfl (ah (k':=k) CI CG rfl rfl okr (by omega) (by omega) (by omega)) 7 rfl rfl hS (hK () hF)
   ·rintro _ S hF hS D hp K hK
    try dsimp only at hF⊢
    refine bZ hp [10,11,15,16] rfl rfl ?_
    refine ae rfl rfl ?_
    refine bN Tryz.call103 rfl (sN (N:=N) (es:=E) ((rs).getD k 0) x hT) ?_
    rintro _ _ ⟨rfl,rfl⟩
    exact cK hp hS (ti (hK () trivial)) rfl rfl rfl
   ·intro _ S h s D p K k;exact bV (bE p 3 rfl rfl) (bE p 10 rfl rfl) (aL rfl rfl) 11 rfl rfl s (k () h)
  ·rintro _ hF
   try dsimp only at hF⊢
   refine az (E':=[(0,(vI x)),(1,(vP c1 0)),(2,(vP c2 0)),(3,(vP c3 0)),(4,(vP c4 0)),(6,(.bool (cQ N E ((rs).getD k 0) x)))]) ⟨rfl,rfl,rfl,rfl,rfl,rfl,trivial⟩ ?_
   refine qn hK2 (ay ?_)
   refine aM rfl rfl ?_
   exact ⟨by simp [*],rfl⟩
theorem sh{R:List HP}{p:Int→Bool}{f n:Nat}{caps:List Value}{bx:Option Addr}{cx:Nat}(xs:List Int)(hn:xs.length=n)(hf:(∀args w,(callFunc f args).run Tryz.prog w=.ok (.enter f args) w)∧∀x∈xs,Ok Tryz.prog f ([.int .i64 x]++caps) R (fun v M=>v=.bool (p x)∧M=R))(hx:Rd R bx (aF .i64 xs))(okx:bB bx n)(lx:n≤4611686018427387904):
 Ok Tryz.prog 100 [.slice bx n cx,.func (.func f) #[] caps.toArray] R (fun v M=>v=.int .i64 (eU p xs)∧M=R):=by subst hn;exact iz xs hf hx okx lx
set_option maxHeartbeats 4000000 in
theorem xC{R:List HP}{g N:Nat}{E:Es}{bx bl bi bq:Option Addr}{cx cl ci cr nt n ni m m1:Nat}(tl:List Int)(es:List (Int×Int))(is rs:List Int)(htn:tl.length=nt)(hn:n≤es.length)(hi:ni≤is.length)(hm:m≤rs.length)(hm1:m1=min ni m)(hx:Rd R bx (aF .i64 tl))(hl:Rd R bl (df es))(hs:Rd R bi (aF .i64 is))(hr:Rd R bq (aF .i64 rs))(okt:bB bx nt)(okl:bB bl n)(oki:bB bi ni)(okr:bB bq m)(lt:nt≤1000000)(li:ni≤1000000)(hci:ni≤ci)(hT:Tab R):
 Ok Tryz.prog 56 [(vP g 0),(.slice bx nt cx),(.slice bl n cl),(.slice bi ni ci),(.slice bq m cr)] ((aT g N E)::R)
  (fun v M=> ∃b1 d1 b2 d2,bB b1 (dC n N E es tl is rs m1).1.length∧(dC n N E es tl is rs m1).1.length≤d1∧bB b2 (dC n N E es tl is rs m1).2.length∧(dC n N E es tl is rs m1).2.length≤d2∧v=.tuple #[.slice b1 (dC n N E es tl is rs m1).1.length d1,.slice b2 (dC n N E es tl is rs m1).2.length d2]∧M=SlV 110 2 (.slice b1 (dC n N E es tl is rs m1).1.length d1) (dC n N E es tl is rs m1).1.length (df (dC n N E es tl is rs m1).1)::SlV 3 1 (.slice b2 (dC n N E es tl is rs m1).2.length d2) (dC n N E es tl is rs m1).2.length (aF .i64 (dC n N E es tl is rs m1).2)::aT g N E::R):=by
 refine aP (N:=55) Tryz.func56 rfl rfl rfl (fun W=>?_)
 refine av (fun _ hK1=>?_)
 refine tm rfl (cZ rfl rfl) ?_
 rintro _ _ ⟨b1,rfl,rfl⟩
 refine tm rfl (cZ rfl rfl) ?_
 rintro _ _ ⟨b2,rfl,rfl⟩
 refine tm rfl (cZ rfl rfl) ?_
 rintro _ _ ⟨b3,rfl,rfl⟩
 refine aA rfl (aA rfl (td hK1 (ai (fun _ hK2=>av (fun _ hK3=>ag rfl (ag rfl (tp rfl (bC CI rfl rfl) ?_)))))))
 refine bK CL rfl (aa (.head _) rfl) (tp rfl (bC CI rfl rfl) (tp rfl (hO (c:=(m1:Int)) rfl rfl (by omega)) ?_))
 refine tp rfl (ed (l:=0) (h:=m1) (m:=ci) (v:=(.slice bi m1 ci)) CI CG rfl rfl rfl rfl (.inr ⟨rfl,rfl⟩) (.inl ⟨_,_,rfl,(by omega),(by omega),(by omega)⟩) (.inr ⟨rfl,rfl⟩) (by simp) (by rw [fI];rfl)) ?_
 refine tp rfl (bC CI rfl rfl) (ag rfl (td hK3 (aH ?_)))
 refine bO (fun _ h=>cz 3 1 h) ?_
 refine bO (fun _ h=>cz 110 2 h) ?_
 refine cE (γ:=(Nat)×(List (Int×Int))×(List Int)×(Option Addr)×(Nat)×(Option Addr)×(Nat)) (fun (k,ps,qs,bv,d1,bw,d2)=>k≤m1∧dC n N E es tl is rs k=(ps,qs)∧bB bv ps.length∧ps.length≤d1∧bB bw qs.length∧qs.length≤d2) (fun (k,ps,qs,bv,d1,bw,d2)=>[(0,(vP g 0)),(1,(.slice bx nt cx)),(2,(.slice bl n cl)),(3,(.slice bi ni ci)),(4,(.slice bq m cr)),(5,(vP b1 0)),(7,(vP b2 0)),(9,(vP b3 0)),(10,(.slice bv ps.length d1)),(11,(.slice bw qs.length d2)),(22,(.slice bi m1 ci)),(23,(vN m1)),(24,(vN k))]) (fun (k,ps,qs,bv,d1,bw,d2)=>(SlV 110 2 (.slice bv ps.length d1) ps.length (df ps))::(SlV 3 1 (.slice bw qs.length d2) qs.length (aF .i64 qs))::(bI b3 [(.slice bq m cr)] 34)::(bI b2 [(.slice bl n cl)] 24)::(bI b1 [(vP g 0)] 67)::(aT g N E)::R) (fun (k,ps,qs,bv,d1,bw,d2)=>m1-k) (0,[],[],none,0,none,0) ⟨by omega,rfl,cn,Nat.le_refl _,cn,Nat.le_refl _⟩ ⟨rfl,rfl,rfl,rfl,rfl,rfl,rfl,rfl,rfl,rfl,rfl,rfl,rfl,trivial⟩ (fun _ h=>h) ?_
 rintro ⟨k,ps,qs,bv,d1,bw,d2⟩ K4 hF hK4
 try dsimp only at hF hK4⊢
 obtain ⟨hk,hb,hok1,hle1,hok2,hle2⟩:=hF
 have hwl:=kU n N E es tl is rs k
 rw [hb] at hwl
 dsimp only at hwl
 have hjb:=rJ n N E tl (rs.getD k 0)
 refine av (fun _ hK5=>?_)
 by_cases h4:(k:Int)< (m1:Int)
 ·refine tp rfl (aJ rfl rfl (decide_eq_true h4)) (td hK5 (ai (fun _ hK6=>aG rfl (dp hK6 (ai (fun _ hK7=>aH (ai (fun _ hK8=>?_))))))))
  refine aj (ag rfl (tp rfl (ah (k':=k) CI CG rfl rfl (fun hz=>oki (by omega)) (by omega) (by omega) (by omega)) ?_))
  refine bK CH rfl (Rd.gives (Rd.cons (Rd.cons (Rd.cons (Rd.cons (Rd.cons (Rd.cons hs)))))) (aQ (by first|omega| (simp;omega)))) ?_
  refine tm rfl (cD CN rfl) ?_
  rintro _ _ ⟨b5,rfl,rfl⟩
  refine ts (cM CG rfl rfl rfl (nB rfl) rfl) ?_
  refine aA rfl (td hK8 (av (fun _ hK9=>?_)))
  have hkm:k<m:=by omega
  refine ag rfl (tp rfl (fU rfl) (dM ?_))
  refine bN Tryz.call100 rfl (sh (p:=fun x=>oS x n && cQ N E (rs.getD k 0) x) tl htn ⟨Tryz.call101,fun x _=>wD x rs hkm hm (Rd.cons (Rd.cons (Rd.cons (Rd.cons (Rd.cons (Rd.cons hr)))))) okr (aa (.tail _ (.tail _ (.tail _ (.tail _ (.head _))))) rfl) (aa (.tail _ (.tail _ (.tail _ (.tail _ (.tail _ (.head _)))))) rfl) (aa (.tail _ (.tail _ (.tail _ (.head _)))) rfl) (aa (.head _) rfl) (Tab.cons (Tab.cons (Tab.cons (Tab.cons (Tab.cons (Tab.cons hT))))))⟩ (Rd.cons (Rd.cons (Rd.cons (Rd.cons (Rd.cons (Rd.cons (Rd.cons hx))))))) okt (by omega)) ?_
  rintro _ _ ⟨rfl,rfl⟩
  rw [show eU (fun x=>oS x n && cQ N E (rs.getD k 0) x) tl=dY n N E tl (rs.getD k 0) from rfl]
  refine aA rfl (td hK9 (av (fun _ hK10=>ag rfl ?_)))
  by_cases hj:(dY n N E tl (rs.getD k 0))≥0
  ·refine tp rfl (cC rfl rfl (decide_eq_true hj)) (td hK10 (aG rfl (av (fun _ hK11=>ag rfl (ag rfl (tp rfl (ah (k':=(dY n N E tl (rs.getD k 0)).toNat) CI CG rfl rfl okt (by omega) (by omega) (by omega)) ?_))))))
   refine bK CH rfl (Rd.gives (Rd.cons (Rd.cons (Rd.cons (Rd.cons (Rd.cons (Rd.cons (Rd.cons hx))))))) (aQ (by first|omega| (simp;omega)))) ?_
   refine aA rfl (td hK11 (aj ?_))
   have hth:=rO (xe hj)
   refine ag rfl (ag rfl (bK DM rfl (aa (.tail _ (.tail _ (.tail _ (.tail _ (.tail _ (.head _)))))) rfl) (ag rfl (tp rfl (ah (k':=(((tl).getD ((dY n N E tl (rs.getD k 0)).toNat) 0).toNat)*2) CY Dl rfl rfl okl (by omega) (by omega) (by omega)) ?_))))
   refine tp rfl (bM (o':=(((tl).getD ((dY n N E tl (rs.getD k 0)).toNat) 0).toNat)*2+1) Dt rfl CG rfl rfl) (bK CH rfl (Rd.gives (Rd.cons (Rd.cons (Rd.cons (Rd.cons (Rd.cons (Rd.cons (Rd.cons hl))))))) (hY (by first|omega| (simp;omega)))) ?_)
   refine tp rfl (bG (cs:=[(vI ((is).getD k 0)),(vI (((es).getD (((tl).getD ((dY n N E tl (rs.getD k 0)).toNat) 0).toNat) (0,0)).2))]) (pl:=[(0,1),(1,1)]) D7 Tryz.zeroValue110 (fun _=>by simp) rfl rfl) ?_
   refine tm rfl (aD (cs:=[(vI ((is).getD k 0)),(vI (((es).getD (((tl).getD ((dY n N E tl (rs.getD k 0)).toNat) 0).toNat) (0,0)).2))]) D5 D6 Tryz.zeroValue110 (by decide) rfl rfl rfl rfl) ?_
   rintro _ _ ⟨bs6,cp7,hok8,hle9,rfl,rfl⟩
   refine aS ?_
   refine tm rfl (cR (i:=Tryz.t110) D5 Tryz.type110 rfl rfl rfl (by decide) rfl rfl hok8 (by first| (simp;done)| (simp;omega)) (cj (.tail _ (.head _))) (by simp [Value.oneCell']) (by rw [show Tryz.t110.bytes=16 from rfl];omega)) ?_
   rintro _ _ ⟨bs10,cp11,hok12,hle13,rfl,rfl⟩
   rw [show df ps++[(.int .i64 ((is).getD k 0)),(.int .i64 (((es).getD (((tl).getD ((dY n N E tl (rs.getD k 0)).toNat) 0).toNat) (0,0)).2))]=df (ps++[((is).getD k 0,((es).getD (((tl).getD ((dY n N E tl (rs.getD k 0)).toNat) 0).toNat) (0,0)).2)]) from lL _ _ _]
   rw [show ps.length+1=(ps++[(is.getD k 0,(es.getD (tl.getD (dY n N E tl (rs.getD k 0)).toNat 0).toNat (0,0)).2)]).length from by simp] at hok12 hle13⊢
   refine ag rfl (ag rfl ?_)
   refine tm rfl (aD (cs:=[(vI ((tl).getD ((dY n N E tl (rs.getD k 0)).toNat) 0))]) CI CG CN (by decide) rfl rfl rfl rfl) ?_
   rintro _ _ ⟨bs14,cp15,hok16,hle17,rfl,rfl⟩
   refine cN ?_
   refine tm rfl (cR (i:=Tryz.t3) CI C1 rfl rfl rfl (by decide) rfl rfl hok16 (by first| (simp;done)| (simp;omega)) (cj (.tail _ (.head _))) (by simp [Value.oneCell']) (by rw [show Tryz.t3.bytes=8 from rfl];omega)) ?_
   rintro _ _ ⟨bs18,cp19,hok20,hle21,rfl,rfl⟩
   rw [show aF .i64 qs++[(.int .i64 ((tl).getD ((dY n N E tl (rs.getD k 0)).toNat) 0))]=aF .i64 (qs++[(tl).getD ((dY n N E tl (rs.getD k 0)).toNat) 0]) from dW _ _ _]
   rw [show qs.length+1=(qs++[tl.getD (dY n N E tl (rs.getD k 0)).toNat 0]).length from by simp] at hok20 hle21⊢
   refine aA rfl (aA rfl (aI (aZ (qn hK7 (aj (tp rfl (aX (c:=((k+1:Nat):Int)) rfl rfl (aB (by omega))) ?_))))))
   refine ag rfl (aI (aN (aE (ak (aR (ak (aS (ak (aR ?_)))))))))
   refine cN (cN (cN (de (cN ?_))))
   exact az (by exact ⟨rfl,rfl,rfl,rfl,rfl,rfl,rfl,rfl,rfl,rfl,rfl,rfl,rfl,trivial⟩) ((hK4 (k+1,ps++[((is).getD k 0,((es).getD (((tl).getD ((dY n N E tl (rs.getD k 0)).toNat) 0).toNat) (0,0)).2)],qs++[(tl).getD ((dY n N E tl (rs.getD k 0)).toNat) 0],bs10,cp11,bs18,cp19) ⟨by omega,o7 hb hj,hok12,hle13,hok20,hle21⟩ (by omega)))
  ·refine tp rfl (cC rfl rfl (decide_eq_false hj)) (td hK10 (ar rfl (cS (aZ (qn hK7 (aj (tp rfl (aX (c:=((k+1:Nat):Int)) rfl rfl (aB (by omega))) ?_)))))))
   refine ag rfl (aI (aN (aE (ak (cN (cN (cN (cN (cN ?_)))))))))
   exact az (by exact ⟨rfl,rfl,rfl,rfl,rfl,rfl,rfl,rfl,rfl,rfl,rfl,rfl,rfl,trivial⟩) ((hK4 (k+1,ps,qs,bv,d1,bw,d2) ⟨by omega,qX hb hj,hok1,hle1,hok2,hle2⟩ (by omega)))
 ·refine tp rfl (aJ rfl rfl (decide_eq_false h4)) (td hK5 (ai (fun _ hK6=>ar rfl (bT (au (au (bS (qn hK2 ?_))))))))
  refine av (fun _ hK7=>ag rfl (ag rfl (aA rfl (aA rfl (td hK7 (ay (aR ?_)))))))
  refine ak (aR (ak (aR (ak ?_))))
  refine dc rfl rfl rfl ?_
  have e:k=m1:=by omega
  subst e
  rw [hb]
  exact ⟨bv,d1,bw,d2,hok1,hle1,hok2,hle2,rfl,rfl⟩
end Go.Proofs.YtanfdikglplkaaaGreatDoor
