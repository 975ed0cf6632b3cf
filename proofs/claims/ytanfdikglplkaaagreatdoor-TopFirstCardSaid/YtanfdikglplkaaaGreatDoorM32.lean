/- Parts Eh, Fd, Fe: own lemmas and contracts of the code that the claim reaches. -/
import Derived.Test.YtanfdikglplkaaaGreatDoorM03
import Derived.Test.YtanfdikglplkaaaGreatDoorM04
import Derived.Test.YtanfdikglplkaaaGreatDoorM24
import Derived.Test.YtanfdikglplkaaaGreatDoorM13
import Derived.Test.YtanfdikglplkaaaGreatDoorM23
import Derived.Test.YtanfdikglplkaaaGreatDoorM17
import Derived.Test.YtanfdikglplkaaaGreatDoorM28
set_option linter.unusedSimpArgs false
set_option linter.unusedVariables false
set_option maxRecDepth 100000
namespace Go.Proofs.YtanfdikglplkaaaGreatDoor
open Go Go.Proofs Sp
set_option maxHeartbeats 4000000 in
theorem te{R:List HP}{e:Nat}{x:EP}{s:ES}(u:Nat)(hu:u<x.n)(st:Int):
 Ok Tryz.prog 111 [(.pointer (some ⟨(x.ks.getD u (0,0)).1,0,none⟩)),(vI st)] ((bQ e x s)::R)
  (fun v M=>v=.bool (decide ((jc s u st).stt u≥5))∧M=bQ e x (jc s u st)::R):=by
 refine aP (N:=33) Tryz.func111 rfl rfl rfl (fun W=>?_)
 refine aY (fun _ h=>dG h) (fun hE=>?_)
 have hE_nb:=hE.nb
 have hE_mb:=hE.mb
 have hE_tn:=hE.tn
 have hE_ln:=hE.ln
 have hE_mn:=hE.mn
 refine av (fun _ hK1=>aA rfl (td hK1 (av (fun _ hK2=>ag rfl (cV rfl (bU 3 CP rfl CG rfl rfl ?_))))))
 refine ts (su (i:=u) (o:=3) (z:={(s.tk.getD u Tk.z) with wt:=(-1)}) (by omega) rfl (by decide) rfl CG rfl rfl) ?_
 refine td hK2 (ai (fun K3 hK3=>av (fun _ hK4=>ag rfl (td hK4 (aH (ai (fun _ hK5=>?_)))))))
 refine aj ?_
 by_cases h1:st=5
 ·refine tp rfl (aV rfl rfl (beq_iff_eq.2 h1)) (aA rfl (td hK5 (aG rfl (aj (ag rfl (cV rfl (bU 2 CP rfl CU rfl rfl (bK CV rfl (bY (i:=u) (v:=(.pointer (some ⟨(x.ks.getD u (0,0)).2,0,none⟩))) (.head _) (by omega) rfl) ?_))))))))
  refine bN Tryz.call148 rfl (fj (i:=u) (y:=lV (s.lf.getD u Lf.z)) (by omega) (fun h=>h.wake) (fun h _=>yO _ h)) ?_
  rintro _ _ ⟨rfl,rfl⟩
  refine aI (aZ (qn hK3 (av (fun _ hK6=>ag rfl (cV rfl (bU 2 CP rfl CU rfl rfl (bK CV rfl (bY (i:=u) (v:=(.pointer (some ⟨(x.ks.getD u (0,0)).2,0,none⟩))) (.head _) (by omega) rfl) ?_)))))))
  refine bN Tryz.call77 rfl (dK (i:=u) (by omega) (fun _=>jy _)) ?_
  rintro _ _ ⟨rfl,rfl⟩
  refine aA rfl (td hK6 (ay ?_))
  refine aM rfl rfl ?_
  have hfz:jc s u st=(s.setTk u ({(s.tk.getD u Tk.z) with wt:=(-1)})).lfu u lV:=by unfold jc;rw [if_pos ‹_›]
  rw [hfz]
  exact ⟨rfl,rfl⟩
 ·refine tp rfl (aV rfl rfl (beq_eq_false_iff_ne.2 h1)) (aA rfl (td hK5 (ar rfl (av (fun _ hK6=>?_)))))
  by_cases h2:st=6
  ·refine tp rfl (aV rfl rfl (beq_iff_eq.2 h2)) (aA rfl (td hK6 (aG rfl (aj (ag rfl (cV rfl (bU 2 CP rfl CU rfl rfl (bK CV rfl (bY (i:=u) (v:=(.pointer (some ⟨(x.ks.getD u (0,0)).2,0,none⟩))) (.head _) (by omega) rfl) ?_))))))))
   refine bN Tryz.call118 rfl (fj (i:=u) (y:=gz (s.lf.getD u Lf.z)) (by omega) (fun h=>h.fall) (fun h _=>oL _ h)) ?_
   rintro _ _ ⟨rfl,rfl⟩
   refine aI (aZ (qn hK3 (av (fun _ hK7=>ag rfl (cV rfl (bU 2 CP rfl CU rfl rfl (bK CV rfl (bY (i:=u) (v:=(.pointer (some ⟨(x.ks.getD u (0,0)).2,0,none⟩))) (.head _) (by omega) rfl) ?_)))))))
   refine bN Tryz.call77 rfl (dK (i:=u) (by omega) (fun _=>jy _)) ?_
   rintro _ _ ⟨rfl,rfl⟩
   refine aA rfl (td hK7 (ay ?_))
   refine aM rfl rfl ?_
   have hfz:jc s u st=(s.setTk u ({(s.tk.getD u Tk.z) with wt:=(-1)})).lfu u gz:=by unfold jc;rw [if_neg ‹_›,if_pos ‹_›]
   rw [hfz]
   exact ⟨rfl,rfl⟩
  ·refine tp rfl (aV rfl rfl (beq_eq_false_iff_ne.2 h2)) (aA rfl (td hK6 (ar rfl (aj (ag rfl (cV rfl (bU 2 CP rfl CU rfl rfl (bK CV rfl (bY (i:=u) (v:=(.pointer (some ⟨(x.ks.getD u (0,0)).2,0,none⟩))) (.head _) (by omega) rfl) ?_))))))))
   refine bN Tryz.call119 rfl (fj (i:=u) (y:=gA (s.lf.getD u Lf.z)) (by omega) (fun h=>h.turn) (fun h _=>nO _ h)) ?_
   rintro _ _ ⟨rfl,rfl⟩
   refine aI (aZ (qn hK3 (av (fun _ hK7=>ag rfl (cV rfl (bU 2 CP rfl CU rfl rfl (bK CV rfl (bY (i:=u) (v:=(.pointer (some ⟨(x.ks.getD u (0,0)).2,0,none⟩))) (.head _) (by omega) rfl) ?_)))))))
   refine bN Tryz.call77 rfl (dK (i:=u) (by omega) (fun _=>jy _)) ?_
   rintro _ _ ⟨rfl,rfl⟩
   refine aA rfl (td hK7 (ay ?_))
   refine aM rfl rfl ?_
   have hfz:jc s u st=(s.setTk u ({(s.tk.getD u Tk.z) with wt:=(-1)})).lfu u gA:=by unfold jc;rw [if_neg ‹_›,if_neg ‹_›]
   rw [hfz]
   exact ⟨rfl,rfl⟩
set_option maxHeartbeats 4000000 in
theorem iI{R:List HP}{e:Nat}{x:EP}{q A Q:Int}{y:OS}{vr:Nat}{es:Es}(t:Nat)(ht:t<x.n)(hy:OvOk x.n x.m A Q y)(hA:A≤400∧Q≤400)(hV:VTab vr R):
 Ok Tryz.prog 64 [(vP e 0),(vN t)] ((bQ e x y.s)::(aT x.g x.n es)::(bF x.tn q y.ms y.ta)::(dv x.ad A Q y.as)::R)
  (fun u M=> ∃sf z,Foll es y.s sf∧Ov {y with s:=sf} z∧z.calm∧u=.tuple #[]∧M=bQ e x z.s::aT x.g x.n es::bF x.tn q z.ms z.ta::dv x.ad A Q z.as::R):=by
 refine aP (N:=75) Tryz.func64 rfl rfl rfl (fun W=>?_)
 refine aY (fun _ h=>dG h) (fun hE=>?_)
 have hE_nb:=hE.nb
 have hE_mb:=hE.mb
 have hE_tn:=hE.tn
 have hE_ln:=hE.ln
 have hE_mn:=hE.mn
 refine ai (fun _ hK1=>av (fun _ hK2=>ag rfl ?_))
 refine tm rfl (aD (cs:=[(vN t)]) CI CG CN (by decide) rfl rfl rfl rfl) ?_
 rintro _ _ ⟨bs1,cp2,hok3,hle4,rfl,rfl⟩
 refine aA rfl (td hK2 (aH ?_))
 have hl1:bB bs1 1∧1≤cp2:=⟨hok3,hle4⟩
 refine bO (fun _ h=>nE h) ?_
 rw [show [Value.int .i64 (t:Int)]=aF .i64 [(t:Int)] from rfl]
 refine cE (γ:=(ES)×(List Int)×(Option Addr)×(Nat)) (fun (s,l,bt,ct)=>Foll es y.s s∧(∀i∈l,0≤i∧i<x.n)∧2*pz s+l.length≤200∧bB bt l.length∧l.length≤ct) (fun (s,l,bt,ct)=>[(0,(vP e 0)),(1,(vN t)),(4,(.slice bt l.length ct))]) (fun (s,l,bt,ct)=>(rA 3 1 (.slice bt l.length ct) l.length (aF .i64 l))::(bQ e x s)::(aT x.g x.n es)::(bF x.tn q y.ms y.ta)::(dv x.ad A Q y.as)::R) (fun (s,l,bt,ct)=>2*pz s+l.length) (y.s,[(t:Int)],bs1,cp2) ⟨.refl _,fun i hi=>by simp at hi;subst hi;omega,by have:=AA y.s;have:=hE.ln;simp;omega,hl1.1,hl1.2⟩ ⟨rfl,rfl,rfl,trivial⟩ (fun _ h=>h) ?_
 rintro ⟨s,l,bt,ct⟩ K3 hF hK3
 try dsimp only at hF hK3⊢
 obtain ⟨hfo,hin,hms,hok,hle⟩:=hF
 refine ai (fun _ hK4=>av (fun _ hK5=>ag rfl (tp rfl (bC CI rfl rfl) ?_)))
 by_cases h5:(l.length:Int)>0
 ·refine tp rfl (cu rfl rfl (decide_eq_true h5)) (td hK5 (aG rfl (dp hK4 (ai (fun _ hK6=>aH (ai (fun _ hK7=>?_)))))))
  obtain ⟨a,hqa⟩:∃a,l.getD 0 0=a:=⟨_,rfl⟩
  have hqa2:l.getD (0:Int).toNat 0=a:=hqa
  have ha0:=hin a (by rw [←hqa];exact dP (by omega))
  refine aR ?_
  refine aY (fun _ h=>fH h) (fun hgok=>?_)
  refine aR ?_
  refine aY (fun _ h=>dG h) (fun hE=>?_)
  have hE_nb:=hE.nb
  have hE_mb:=hE.mb
  have hE_tn:=hE.tn
  have hE_ln:=hE.ln
  have hE_mn:=hE.mn
  refine bz (γ:=Option Addr×Nat) (n:=10) Tryz.mixed rfl rfl (fun (bs6,cp7) S=>(S 7=true→bB bs6 ((cg es a).length))∧(S 7=true→(cg es a).length≤cp7)) (fun (bs6,cp7)=>[(0,15,(vP e 0)),(1,16,(vP e 0)),(2,17,(vP e 13)),(3,18,(vP x.g 0)),(4,19,(.slice bt l.length ct)),(5,20,(.pointer (some (ad bt 0)))),(6,21,(vI a)),(7,22,(.slice bs6 ((cg es a).length) cp7)),(8,23,(vI (((cg es a).length:Nat):Int))),(9,24,(vI 0))]) (fun (bs6,cp7) S=>(bQ e x s)::(aT x.g x.n es)::(rA 3 1 (.slice bt l.length ct) l.length (aF .i64 l))::(bF x.tn q y.ms y.ta)::(dv x.ad A Q y.as)::(bif S 7 then (SlV 3 1 (.slice bs6 ((cg es a).length) cp7) ((cg es a).length) (aF .i64 (cg es a))) else ib)::R) (none,0) (by simp [Nat.ble]) (fun _ h=>ef [_,_,_,_,_] 1 h) (fun _ _ h=>h) ?_ ?_
  ·refine ⟨ga fun ⟨_,_⟩=>da,ga fun ⟨_,_⟩=>fx,ga fun ⟨_,_⟩=>dF CJ rfl DZ,ga fun ⟨_,_⟩=>gI DN rfl rfl fun _=>bu (v:=(vP x.g 0)) (.head _) (fun _ _=>rfl),ga fun ⟨_,_⟩=>da,ga fun ⟨_,_⟩=>nu CI CG rfl rfl rfl ⟨hok,by omega,by omega,by omega⟩,ga fun ⟨_,_⟩=>gI CH rfl rfl fun _=>dh (v:=.int .i64 a) (congrArg (Value.int .i64) hqa) (gD (.tail _ (.tail _ (.head _))) (aQ (by omega))),?_,ga fun ⟨_,_⟩=>x5 CI rfl,ga fun ⟨_,_⟩=>da,trivial⟩
   ·rintro ⟨bs6,cp7⟩ S hF hS D hp K hK
    try dsimp only at hF⊢
    obtain ⟨hf0,hf1⟩:=hF
    refine bZ hp [18,21] rfl rfl ?_
    refine aE ?_
    refine bN Tryz.call110 rfl (AY (N:=x.n) (es:=es) a) ?_
    rintro _ _ ⟨bs6,cp7,hok8,hle9,rfl,rfl⟩
    refine aE (aR (aR ?_))
    refine bO (fun _ h=>cX [_,_,_,_,_] h) ?_
    exact cK hp hS (ti (hK (bs6,cp7) ⟨(fun _=>hok8),(fun _=>hle9)⟩)) rfl rfl rfl
  ·rintro ⟨bs6,cp7⟩ hF
   try dsimp only at hF⊢
   obtain ⟨hf0,hf1⟩:=hF
   have hok8:=hf0 rfl
   have hle9:=hf1 rfl
   refine az (E':=[(0,(vP e 0)),(1,(vN t)),(4,(.slice bt l.length ct)),(12,(.bool true)),(22,(.slice bs6 ((cg es a).length) cp7)),(23,(vI (((cg es a).length:Nat):Int))),(24,(vI 0))]) ⟨rfl,rfl,rfl,rfl,rfl,rfl,rfl,trivial⟩ ?_
   refine qn hK7 (aH ?_)
   refine cE (γ:=(Nat)×(ES)×(List Int)×(Option Addr)×(Nat)) (fun (j,s1,lq,bm,cm)=>j≤(cg es a).length∧Foll es y.s s1∧(∀i∈lq,0≤i∧i<x.n)∧lq.getD 0 0=a∧0<lq.length∧2*pz s1+lq.length≤2*pz s+l.length∧bB bm lq.length∧lq.length≤cm) (fun (j,s1,lq,bm,cm)=>[(0,(vP e 0)),(1,(vN t)),(4,(.slice bm lq.length cm)),(12,(.bool true)),(22,(.slice bs6 ((cg es a).length) cp7)),(23,(vI (((cg es a).length:Nat):Int))),(24,(vN j))]) (fun (j,s1,lq,bm,cm)=>(bQ e x s1)::(aT x.g x.n es)::(rA 3 1 (.slice bm lq.length cm) lq.length (aF .i64 lq))::(bF x.tn q y.ms y.ta)::(dv x.ad A Q y.as)::(SlV 3 1 (.slice bs6 ((cg es a).length) cp7) ((cg es a).length) (aF .i64 (cg es a)))::R) (fun (j,s1,lq,bm,cm)=>(cg es a).length-j) (0,s,l,bt,ct) ⟨Nat.zero_le _,hfo,hin,hqa,by omega,Nat.le_refl _,hok,hle⟩ ⟨rfl,rfl,rfl,rfl,rfl,rfl,rfl,trivial⟩ (fun _ h=>h) ?_
   rintro ⟨j,s1,lq,bm,cm⟩ K8 hF hK8
   try dsimp only at hF hK8⊢
   obtain ⟨hj,hf1,hin1,hla,hlp,hm1,hokm,hlem⟩:=hF
   have hil:=hgok.inns_le a
   refine av (fun _ hK9=>?_)
   by_cases h10:(j:Int)< (((cg es a).length:Nat):Int)
   ·refine tp rfl (aJ rfl rfl (decide_eq_true h10)) (td hK9 (ai (fun _ hK10=>aG rfl (dp hK10 (ai (fun _ hK11=>aH (ai (fun _ hK12=>?_))))))))
    refine aj (tp rfl (ah (k':=j) CI CG rfl rfl hok8 (by omega) (by omega) (by omega)) ?_)
    refine bK CH rfl (aw (.tail _ (.tail _ (.tail _ (.tail _ (.tail _ (.head _)))))) (aQ (by first|omega| (simp;omega)))) ?_
    refine aA rfl (td hK12 (av (fun _ hK13=>?_)))
    obtain ⟨uu,huu⟩:∃u,(cg es a).getD j 0=u:=⟨_,rfl⟩
    rw [huu]
    have hum:uu∈cg es a:=by rw [←huu];exact dP (by omega)
    have hue:=inns_mem.1 hum
    have hu0:=hgok.inns_inn hum
    refine aY (fun _ h=>dG h) (fun hE=>?_)
    have hE_nb:=hE.nb
    have hE_mb:=hE.mb
    have hE_tn:=hE.tn
    have hE_ln:=hE.ln
    have hE_mn:=hE.mn
    have hla2:lq.getD (0:Int).toNat 0=a:=hla
    refine ag rfl (cV rfl (bU 11 CJ rfl C9 rfl rfl (bK Dc rfl (bu (v:=(.slice x.bt x.n x.ct)) (.head _) (fun _ _=>rfl)) (ag rfl (tp rfl (ah (k':=uu.toNat) C6 De rfl rfl hE.okt (by omega) (by omega) (by omega)) ?_)))))
    refine bK Df rfl (dT (i:=uu.toNat) (.head _) (by omega)) ?_
    refine aA rfl (td hK13 (ai (fun _ hK14=>?_)))
    by_cases hwt:((s1.tk.getD uu.toNat Tk.z).wt)=a
    ·by_cases hst3:((s1.lf.getD uu.toNat Lf.z).st)=3
     ·refine bz (γ:=Unit) (n:=33) Tryz.mixed rfl rfl (fun _ S=>True) (fun _=>[(0,35,(.pointer (some ⟨(x.ks.getD uu.toNat (0,0)).1,0,none⟩))),(1,36,(.pointer (some ⟨(x.ks.getD uu.toNat (0,0)).1,0,none⟩))),(2,37,(.pointer (some ⟨(x.ks.getD uu.toNat (0,0)).1,3,none⟩))),(3,38,(vI ((s1.tk.getD uu.toNat Tk.z).wt))),(4,39,(.slice bm lq.length cm)),(5,40,(.pointer (some (ad bm 0)))),(6,41,(vI a)),(7,42,(.bool true)),(8,43,(.bool true)),(9,44,(.pointer (some ⟨(x.ks.getD uu.toNat (0,0)).1,0,none⟩))),(10,45,(.pointer (some ⟨(x.ks.getD uu.toNat (0,0)).1,0,none⟩))),(11,46,(.pointer (some ⟨(x.ks.getD uu.toNat (0,0)).1,2,none⟩))),(12,47,(.pointer (some ⟨(x.ks.getD uu.toNat (0,0)).2,0,none⟩))),(13,48,(vI ((s1.lf.getD uu.toNat Lf.z).st))),(14,49,(.bool true)),(15,50,(.bool true)),(16,51,(.bool true)),(17,52,(.pointer (some ⟨(x.ks.getD uu.toNat (0,0)).1,0,none⟩))),(18,53,(vP e 0)),(19,54,(vP e 0)),(20,55,(vP e 11)),(21,56,(.slice x.bt x.n x.ct)),(22,57,(.slice bm lq.length cm)),(23,58,(.pointer (some (ad bm 0)))),(24,59,(vI a)),(25,60,(.pointer (some (ad x.bt a.toNat)))),(26,61,(.pointer (some ⟨(x.ks.getD a.toNat (0,0)).1,0,none⟩))),(27,62,(.pointer (some ⟨(x.ks.getD a.toNat (0,0)).1,0,none⟩))),(28,63,(.pointer (some ⟨(x.ks.getD a.toNat (0,0)).1,2,none⟩))),(29,64,(.pointer (some ⟨(x.ks.getD a.toNat (0,0)).2,0,none⟩))),(30,65,(vI ((s1.lf.getD a.toNat Lf.z).st))),(31,66,(.bool (decide ((jc s1 uu.toNat ((s1.lf.getD a.toNat Lf.z).st)).stt uu.toNat≥5)))),(32,67,(.bool (decide ((jc s1 uu.toNat ((s1.lf.getD a.toNat Lf.z).st)).stt uu.toNat≥5))))]) (fun _ S=>(bif S 31 then (bQ e x (jc s1 uu.toNat ((s1.lf.getD a.toNat Lf.z).st))) else (bQ e x s1))::(aT x.g x.n es)::(rA 3 1 (.slice bm lq.length cm) lq.length (aF .i64 lq))::(bF x.tn q y.ms y.ta)::(dv x.ad A Q y.as)::(SlV 3 1 (.slice bs6 ((cg es a).length) cp7) ((cg es a).length) (aF .i64 (cg es a)))::R) (()) trivial (fun _ h=>h) (fun _ _ h=>h) ?_ ?_
      ·refine ⟨aU,bW,bL CP rfl CG,?_,aU,eJ CI CG rr rr rr fun _=>⟨hokm,by omega,by omega,by omega⟩,dB CH rr rr fun _ _=>dh (v:=.int .i64 a) (congrArg (Value.int .i64) hla) (gD (.tail _ (.tail _ (.head _))) (aQ (by omega))),?_,aU,dd aU,dd bW,dd (bL CP rfl CU),?_,?_,?_,?_,aU,dd aU,dd aU,dd bW,dd (bL CJ rfl C9),?_,dd aU,dd (eJ CI CG rr rr rr fun _=>⟨hokm,by omega,by omega,by omega⟩),dd (dB CH rr rr fun _ _=>dh (v:=.int .i64 a) (congrArg (Value.int .i64) hla) (gD (.tail _ (.tail _ (.head _))) (aQ (by omega)))),dd (eJ C6 De rr rr rr fun _=>⟨hE.okt,by omega,by omega,by omega⟩),?_,dd bW,dd (bL CP rfl CU),?_,?_,?_,?_,trivial⟩
       ·rintro _ S hF hS D hp K hK;try dsimp only
        exact bH (bE hp 2 rfl rfl) (bP CH rfl (bY (i:=uu.toNat) (v:=(vI ((s1.tk.getD uu.toNat Tk.z).wt))) (cF (nf (nf (nf (nf (nf (nf (nf (nf (nf (nf (nf (nf (nf (nf (nf (nf (nf (nf (nf (nf hS D (k:=7) (i:=3) rfl) D (k:=8) (i:=7) rfl) D (k:=9) (i:=8) rfl) D (k:=10) (i:=9) rfl) D (k:=11) (i:=10) rfl) D (k:=12) (i:=11) rfl) D (k:=13) (i:=12) rfl) D (k:=14) (i:=13) rfl) D (k:=15) (i:=14) rfl) D (k:=16) (i:=15) rfl) D (k:=22) (i:=16) rfl) D (k:=23) (i:=22) rfl) D (k:=24) (i:=23) rfl) D (k:=25) (i:=24) rfl) D (k:=26) (i:=25) rfl) D (k:=27) (i:=26) rfl) D (k:=28) (i:=27) rfl) D (k:=29) (i:=28) rfl) D (k:=30) (i:=29) rfl) D (k:=31) (i:=30) rfl) (.head _)) (by omega) rfl)) 3 rfl rfl hS (hK () hF)
       ·intro _ S h s D p K k;exact bV (bE p 3 rfl rfl) (bE p 6 rfl rfl) (aV rfl rfl (beq_iff_eq.2 hwt)) 7 rfl rfl s (k () h)
       ·rintro _ S hF hS D hp K hK;try dsimp only
        exact je (bE hp 8 rfl rfl) (bE hp 11 rfl rfl) rfl rfl (bP CV rfl (bY (i:=uu.toNat) (v:=(.pointer (some ⟨(x.ks.getD uu.toNat (0,0)).2,0,none⟩))) (cF (nf (nf (nf (nf (nf (nf (nf (nf (nf (nf (nf (nf (nf (nf hS D (k:=13) (i:=12) rfl) D (k:=14) (i:=13) rfl) D (k:=15) (i:=14) rfl) D (k:=16) (i:=15) rfl) D (k:=22) (i:=16) rfl) D (k:=23) (i:=22) rfl) D (k:=24) (i:=23) rfl) D (k:=25) (i:=24) rfl) D (k:=26) (i:=25) rfl) D (k:=27) (i:=26) rfl) D (k:=28) (i:=27) rfl) D (k:=29) (i:=28) rfl) D (k:=30) (i:=29) rfl) D (k:=31) (i:=30) rfl) (.head _)) (by omega) rfl)) 12 rfl rfl hS (hK () hF)
       ·rintro _ S hF hS D hp K hK
        try dsimp only at hF⊢
        refine bZ hp [43,47] rfl rfl ?_
        refine c9 (nf (nf (nf (nf (nf (nf (nf (nf (nf (nf (nf hS D (k:=16) (i:=13) rfl) D (k:=22) (i:=16) rfl) D (k:=23) (i:=22) rfl) D (k:=24) (i:=23) rfl) D (k:=25) (i:=24) rfl) D (k:=26) (i:=25) rfl) D (k:=27) (i:=26) rfl) D (k:=28) (i:=27) rfl) D (k:=29) (i:=28) rfl) D (k:=30) (i:=29) rfl) D (k:=31) (i:=30) rfl) ?_
        refine ae rfl rfl ?_
        refine bN DF rfl (dK (i:=uu.toNat) (by omega) (fun _=>fc _)) ?_
        rintro _ _ ⟨rfl,rfl⟩
        refine fG (A:=(bQ e x (jc s1 uu.toNat ((s1.lf.getD a.toNat Lf.z).st)))) (nf (nf (nf (nf (nf (nf (nf (nf (nf (nf (nf hS D (k:=16) (i:=13) rfl) D (k:=22) (i:=16) rfl) D (k:=23) (i:=22) rfl) D (k:=24) (i:=23) rfl) D (k:=25) (i:=24) rfl) D (k:=26) (i:=25) rfl) D (k:=27) (i:=26) rfl) D (k:=28) (i:=27) rfl) D (k:=29) (i:=28) rfl) D (k:=30) (i:=29) rfl) D (k:=31) (i:=30) rfl) ?_
        exact cK hp hS (ti (hK () trivial)) rfl rfl rfl
       ·intro _ S h s D p K k;exact je (bE p 8 rfl rfl) (bE p 13 rfl rfl) rfl rfl (aV rfl rfl (beq_iff_eq.2 hst3)) 14 rfl rfl s (k () h)
       ·intro _ S h s D p K k;exact bV (bE p 8 rfl rfl) (bE p 14 rfl rfl) (aL rfl rfl) 15 rfl rfl s (k () h)
       ·rintro _ S hF hS D hp K hK;try dsimp only
        exact je (bE hp 16 rfl rfl) (bE hp 20 rfl rfl) rfl rfl (bP Dc rfl (bu (v:=(.slice x.bt x.n x.ct)) (cF (nf (nf (nf (nf (nf (nf (nf hS D (k:=25) (i:=21) rfl) D (k:=26) (i:=25) rfl) D (k:=27) (i:=26) rfl) D (k:=28) (i:=27) rfl) D (k:=29) (i:=28) rfl) D (k:=30) (i:=29) rfl) D (k:=31) (i:=30) rfl) (.head _)) (fun _ _=>rfl))) 21 rfl rfl hS (hK () hF)
       ·rintro _ S hF hS D hp K hK;try dsimp only
        exact je (bE hp 16 rfl rfl) (bE hp 25 rfl rfl) rfl rfl (bP Df rfl (dT (i:=a.toNat) (cF (nf (nf (nf (nf (nf hS D (k:=27) (i:=26) rfl) D (k:=28) (i:=27) rfl) D (k:=29) (i:=28) rfl) D (k:=30) (i:=29) rfl) D (k:=31) (i:=30) rfl) (.head _)) (by omega))) 26 rfl rfl hS (hK () hF)
       ·rintro _ S hF hS D hp K hK;try dsimp only
        exact je (bE hp 16 rfl rfl) (bE hp 28 rfl rfl) rfl rfl (bP CV rfl (bY (i:=a.toNat) (v:=(.pointer (some ⟨(x.ks.getD a.toNat (0,0)).2,0,none⟩))) (cF (nf (nf hS D (k:=30) (i:=29) rfl) D (k:=31) (i:=30) rfl) (.head _)) (by omega) rfl)) 29 rfl rfl hS (hK () hF)
       ·rintro _ S hF hS D hp K hK
        try dsimp only at hF⊢
        refine bZ hp [51,64] rfl rfl ?_
        refine c9 (nf hS D (k:=31) (i:=30) rfl) ?_
        refine ae rfl rfl ?_
        refine bN DF rfl (dK (i:=a.toNat) (by omega) (fun _=>fc _)) ?_
        rintro _ _ ⟨rfl,rfl⟩
        refine fG (A:=(bQ e x (jc s1 uu.toNat ((s1.lf.getD a.toNat Lf.z).st)))) (nf hS D (k:=31) (i:=30) rfl) ?_
        exact cK hp hS (ti (hK () trivial)) rfl rfl rfl
       ·rintro _ S hF hS D hp K hK
        try dsimp only at hF⊢
        refine bZ hp [51,52,65] rfl rfl ?_
        refine c9 hS ?_
        refine ae rfl rfl ?_
        refine bN Tryz.call111 rfl (te (s:=s1) uu.toNat (by omega) ((s1.lf.getD a.toNat Lf.z).st)) ?_
        rintro _ _ ⟨rfl,rfl⟩
        exact cK hp hS (ti (hK () trivial)) rfl rfl rfl
       ·intro _ S h s D p K k;exact bV (bE p 16 rfl rfl) (bE p 31 rfl rfl) (aL rfl rfl) 32 rfl rfl s (k () h)
      ·rintro _ hF
       try dsimp only at hF⊢
       refine az (E':=[(0,(vP e 0)),(1,(vN t)),(4,(.slice bm lq.length cm)),(6,(vI uu)),(7,(.pointer (some ⟨(x.ks.getD uu.toNat (0,0)).1,0,none⟩))),(12,(.bool true)),(22,(.slice bs6 ((cg es a).length) cp7)),(23,(vI (((cg es a).length:Nat):Int))),(24,(vN j)),(25,(.bool true)),(67,(.bool (decide ((jc s1 uu.toNat ((s1.lf.getD a.toNat Lf.z).st)).stt uu.toNat≥5))))]) ⟨rfl,rfl,rfl,rfl,rfl,rfl,rfl,rfl,rfl,rfl,rfl,trivial⟩ ?_
       refine qn hK14 ?_
       refine cW rfl (fun c11=>?_) (fun c11=>?_)
       ·refine aj (ag rfl (ag rfl ?_))
        refine tm rfl (aD (cs:=[(vI uu)]) CI CG CN (by decide) rfl rfl rfl rfl) ?_
        rintro _ _ ⟨bs12,cp13,hok14,hle15,rfl,rfl⟩
        refine aS ?_
        refine tm rfl (oq (i:=Tryz.t3) CI C1 rfl rfl rfl (by decide) rfl rfl hok14 (by first| (simp;done)| (simp;omega)) (cj (.tail _ (.head _))) (by simp [Value.oneCell']) (by rw [show Tryz.t3.bytes=8 from rfl];omega)) ?_
        rintro _ _ ⟨bs16,cp17,hok18,hle19,rfl,rfl⟩
        rw [show aF .i64 lq++[(.int .i64 uu)]=aF .i64 (lq++[uu]) from dW _ _ _]
        rw [show lq.length+1=(lq++[uu]).length from by simp] at hok18 hle19⊢
        refine aA rfl (aI (aZ (qn hK11 (aj (tp rfl (aX (c:=((j+1:Nat):Int)) rfl rfl (aB (by omega))) ?_)))))
        refine ag rfl (aI (aN (aE (ak (aR (aR ?_))))))
        exact az (by exact ⟨rfl,rfl,rfl,rfl,rfl,rfl,rfl,trivial⟩) ((hK8 (j+1,jc s1 uu.toNat (s1.stt a.toNat),lq++[uu],bs16,cp17) ⟨by omega,hf1.step uu a hue hwt hst3,fun i hi=>(by rcases List.mem_append.1 hi with h|h;exact hin1 i h;simp at h;subst h;exact hu0),by rw [←hla];exact wZ hlp,by simp,by have:=rP (s:=s1) (u:=uu.toNat) (by omega) hst3 (s1.stt a.toNat);simp;omega,hok18,hle19⟩ (by dsimp only;omega)))
       ·refine cS (aZ (qn hK11 (aj (tp rfl (aX (c:=((j+1:Nat):Int)) rfl rfl (aB (by omega))) ?_))))
        refine ag rfl (aI (aN ?_))
        exact az (by exact ⟨rfl,rfl,rfl,rfl,rfl,rfl,rfl,trivial⟩) ((hK8 (j+1,jc s1 uu.toNat (s1.stt a.toNat),lq,bm,cm) ⟨by omega,hf1.step uu a hue hwt hst3,hin1,hla,hlp,by have:=rP (s:=s1) (u:=uu.toNat) (by omega) hst3 (s1.stt a.toNat);dsimp only;omega,hokm,hlem⟩ (by dsimp only;omega)))
     ·refine bz (γ:=Unit) (n:=33) Tryz.mixed rfl rfl (fun _ S=>True) (fun _=>[(0,35,(.pointer (some ⟨(x.ks.getD uu.toNat (0,0)).1,0,none⟩))),(1,36,(.pointer (some ⟨(x.ks.getD uu.toNat (0,0)).1,0,none⟩))),(2,37,(.pointer (some ⟨(x.ks.getD uu.toNat (0,0)).1,3,none⟩))),(3,38,(vI ((s1.tk.getD uu.toNat Tk.z).wt))),(4,39,(.slice bm lq.length cm)),(5,40,(.pointer (some (ad bm 0)))),(6,41,(vI a)),(7,42,(.bool true)),(8,43,(.bool true)),(9,44,(.pointer (some ⟨(x.ks.getD uu.toNat (0,0)).1,0,none⟩))),(10,45,(.pointer (some ⟨(x.ks.getD uu.toNat (0,0)).1,0,none⟩))),(11,46,(.pointer (some ⟨(x.ks.getD uu.toNat (0,0)).1,2,none⟩))),(12,47,(.pointer (some ⟨(x.ks.getD uu.toNat (0,0)).2,0,none⟩))),(13,48,(vI ((s1.lf.getD uu.toNat Lf.z).st))),(14,49,(.bool false)),(15,50,(.bool false)),(16,51,(.bool false)),(17,52,undef),(18,53,undef),(19,54,undef),(20,55,undef),(21,56,undef),(22,57,undef),(23,58,undef),(24,59,undef),(25,60,undef),(26,61,undef),(27,62,undef),(28,63,undef),(29,64,undef),(30,65,undef),(31,66,undef),(32,67,(.bool false))]) (fun _ S=>(bQ e x s1)::(aT x.g x.n es)::(rA 3 1 (.slice bm lq.length cm) lq.length (aF .i64 lq))::(bF x.tn q y.ms y.ta)::(dv x.ad A Q y.as)::(SlV 3 1 (.slice bs6 ((cg es a).length) cp7) ((cg es a).length) (aF .i64 (cg es a)))::R) (()) trivial (fun _ h=>h) (fun _ _ h=>h) ?_ ?_
      ·refine ⟨aU,bW,bL CP rfl CG,dB CH rr rr fun _ _=>bY (i:=uu.toNat) (v:=(vI ((s1.tk.getD uu.toNat Tk.z).wt))) (.head _) (by omega) rfl,aU,eJ CI CG rr rr rr fun _=>⟨hokm,by omega,by omega,by omega⟩,dB CH rr rr fun _ _=>dh (v:=.int .i64 a) (congrArg (Value.int .i64) hla) (gD (.tail _ (.tail _ (.head _))) (aQ (by omega))),?_,aU,dd aU,dd bW,dd (bL CP rfl CU),dd (dB CV rr rr fun _ _=>bY (i:=uu.toNat) (v:=(.pointer (some ⟨(x.ks.getD uu.toNat (0,0)).2,0,none⟩))) (.head _) (by omega) rfl),?_,?_,?_,aU,c7,c7,c7,c7,c7,c7,c7,c7,c7,c7,c7,c7,c7,c7,c7,?_,trivial⟩
       ·intro _ S h s D p K k;exact bV (bE p 3 rfl rfl) (bE p 6 rfl rfl) (aV rfl rfl (beq_iff_eq.2 hwt)) 7 rfl rfl s (k () h)
       ·rintro _ S hF hS D hp K hK
        try dsimp only at hF⊢
        refine bZ hp [43,47] rfl rfl ?_
        refine ae rfl rfl ?_
        refine bN DF rfl (dK (i:=uu.toNat) (by omega) (fun _=>fc _)) ?_
        rintro _ _ ⟨rfl,rfl⟩
        exact cK hp hS (ti (hK () trivial)) rfl rfl rfl
       ·intro _ S h s D p K k;exact je (bE p 8 rfl rfl) (bE p 13 rfl rfl) rfl rfl (aV rfl rfl (beq_eq_false_iff_ne.2 hst3)) 14 rfl rfl s (k () h)
       ·intro _ S h s D p K k;exact bV (bE p 8 rfl rfl) (bE p 14 rfl rfl) (aL rfl rfl) 15 rfl rfl s (k () h)
       ·intro _ S h s D p K k;exact bV (bE p 16 rfl rfl) (bE p 31 rfl rfl) (aC rfl rfl) 32 rfl rfl s (k () h)
      ·rintro _ hF
       try dsimp only at hF⊢
       refine az (E':=[(0,(vP e 0)),(1,(vN t)),(4,(.slice bm lq.length cm)),(6,(vI uu)),(7,(.pointer (some ⟨(x.ks.getD uu.toNat (0,0)).1,0,none⟩))),(12,(.bool true)),(22,(.slice bs6 ((cg es a).length) cp7)),(23,(vI (((cg es a).length:Nat):Int))),(24,(vN j)),(25,(.bool true)),(67,(.bool false))]) ⟨rfl,rfl,rfl,rfl,rfl,rfl,rfl,rfl,rfl,rfl,rfl,trivial⟩ ?_
       refine qn hK14 (ar rfl (cS (aZ (qn hK11 (aj (tp rfl (aX (c:=((j+1:Nat):Int)) rfl rfl (aB (by omega))) ?_))))))
       refine ag rfl (aI (aN ?_))
       exact az (by exact ⟨rfl,rfl,rfl,rfl,rfl,rfl,rfl,trivial⟩) ((hK8 (j+1,s1,lq,bm,cm) ⟨by omega,hf1,hin1,hla,hlp,hm1,hokm,hlem⟩ (by dsimp only;omega)))
    ·refine bz (γ:=Unit) (n:=33) Tryz.mixed rfl rfl (fun _ S=>True) (fun _=>[(0,35,(.pointer (some ⟨(x.ks.getD uu.toNat (0,0)).1,0,none⟩))),(1,36,(.pointer (some ⟨(x.ks.getD uu.toNat (0,0)).1,0,none⟩))),(2,37,(.pointer (some ⟨(x.ks.getD uu.toNat (0,0)).1,3,none⟩))),(3,38,(vI ((s1.tk.getD uu.toNat Tk.z).wt))),(4,39,(.slice bm lq.length cm)),(5,40,(.pointer (some (ad bm 0)))),(6,41,(vI a)),(7,42,(.bool false)),(8,43,(.bool false)),(9,44,undef),(10,45,undef),(11,46,undef),(12,47,undef),(13,48,undef),(14,49,undef),(15,50,(.bool false)),(16,51,(.bool false)),(17,52,undef),(18,53,undef),(19,54,undef),(20,55,undef),(21,56,undef),(22,57,undef),(23,58,undef),(24,59,undef),(25,60,undef),(26,61,undef),(27,62,undef),(28,63,undef),(29,64,undef),(30,65,undef),(31,66,undef),(32,67,(.bool false))]) (fun _ S=>(bQ e x s1)::(aT x.g x.n es)::(rA 3 1 (.slice bm lq.length cm) lq.length (aF .i64 lq))::(bF x.tn q y.ms y.ta)::(dv x.ad A Q y.as)::(SlV 3 1 (.slice bs6 ((cg es a).length) cp7) ((cg es a).length) (aF .i64 (cg es a)))::R) (()) trivial (fun _ h=>h) (fun _ _ h=>h) ?_ ?_
     ·refine ⟨aU,bW,bL CP rfl CG,dB CH rr rr fun _ _=>bY (i:=uu.toNat) (v:=(vI ((s1.tk.getD uu.toNat Tk.z).wt))) (.head _) (by omega) rfl,aU,eJ CI CG rr rr rr fun _=>⟨hokm,by omega,by omega,by omega⟩,dB CH rr rr fun _ _=>dh (v:=.int .i64 a) (congrArg (Value.int .i64) hla) (gD (.tail _ (.tail _ (.head _))) (aQ (by omega))),?_,aU,c7,c7,c7,c7,c7,c7,?_,aU,c7,c7,c7,c7,c7,c7,c7,c7,c7,c7,c7,c7,c7,c7,c7,?_,trivial⟩
      ·intro _ S h s D p K k;exact bV (bE p 3 rfl rfl) (bE p 6 rfl rfl) (aV rfl rfl (beq_eq_false_iff_ne.2 hwt)) 7 rfl rfl s (k () h)
      ·intro _ S h s D p K k;exact bV (bE p 8 rfl rfl) (bE p 14 rfl rfl) (aC rfl rfl) 15 rfl rfl s (k () h)
      ·intro _ S h s D p K k;exact bV (bE p 16 rfl rfl) (bE p 31 rfl rfl) (aC rfl rfl) 32 rfl rfl s (k () h)
     ·rintro _ hF
      try dsimp only at hF⊢
      refine az (E':=[(0,(vP e 0)),(1,(vN t)),(4,(.slice bm lq.length cm)),(6,(vI uu)),(7,(.pointer (some ⟨(x.ks.getD uu.toNat (0,0)).1,0,none⟩))),(12,(.bool true)),(22,(.slice bs6 ((cg es a).length) cp7)),(23,(vI (((cg es a).length:Nat):Int))),(24,(vN j)),(25,(.bool true)),(67,(.bool false))]) ⟨rfl,rfl,rfl,rfl,rfl,rfl,rfl,rfl,rfl,rfl,rfl,trivial⟩ ?_
      refine qn hK14 (ar rfl (cS (aZ (qn hK11 (aj (tp rfl (aX (c:=((j+1:Nat):Int)) rfl rfl (aB (by omega))) ?_))))))
      refine ag rfl (aI (aN ?_))
      exact az (by exact ⟨rfl,rfl,rfl,rfl,rfl,rfl,rfl,trivial⟩) ((hK8 (j+1,s1,lq,bm,cm) ⟨by omega,hf1,hin1,hla,hlp,hm1,hokm,hlem⟩ (by dsimp only;omega)))
   ·refine tp rfl (aJ rfl rfl (decide_eq_false h10)) (td hK9 (ai (fun _ hK10=>ar rfl (bT (au (au (bS (aZ ?_))))))))
    refine qn hK6 (aj (ag rfl (tp rfl (ed (l:=1) (h:=lq.length) (m:=cm) (v:=(.slice (eu bm 1 cm 1) ((lq.drop 1).length) (cm-1))) CI CG rfl rfl rfl rfl (.inr ⟨rfl,rfl⟩) (.inr ⟨rfl,rfl⟩) (.inl ⟨_,_,rfl,(by omega),(by omega),(by omega)⟩) (by simp) (by rw [List.length_drop])) ?_)))
    refine aR ?_
    refine bO (fun _ h=>sg (l:=1) (n':=(lq.drop 1).length) (c':=cm-1) (by omega) (by omega) (by rw [List.length_drop]) (by omega) h) ?_
    rw [show (aF .i64 lq).drop (1*1)=aF .i64 (lq.drop 1) from by rw [Nat.mul_one,kV]]
    refine aY (fun _ h=>mN h) (fun hbx=>?_)
    obtain ⟨hok20,hle21⟩:=hbx
    refine aA rfl (aI (aN (cN (ak ?_))))
    exact az (by exact ⟨rfl,rfl,rfl,trivial⟩) ((hK3 (s1,lq.drop 1,(eu bm 1 cm 1),cm-1) ⟨hf1,fun i hi=>hin1 i (List.mem_of_mem_drop hi),by dsimp only;rw [List.length_drop];omega,hok20,hle21⟩ (by dsimp only;rw [List.length_drop];omega)))
 ·refine tp rfl (cu rfl rfl (decide_eq_false h5)) (td hK5 (ar rfl (bT (au (au (bS (qn hK1 (aj ?_))))))))
  refine ag rfl (de (de (aS ?_)))
  refine bN Tryz.call46 rfl (qP (x:=x) (y:={y with s:=s}) (A:=A) (Q:=Q) (hy.fol hfo.rq) hA (VTab.cons (VTab.cons hV))) ?_
  rintro _ _ ⟨yo22,hyo22v,hyo22c,rfl,rfl⟩
  refine aI (aS (ak (aR (aR (aS (aS ?_))))))
  refine fC rfl ?_
  exact ⟨s,_,hfo,‹_›,‹_›,rfl,rfl⟩
end Go.Proofs.YtanfdikglplkaaaGreatDoor
set_option maxRecDepth 100000
namespace Go.Proofs.YtanfdikglplkaaaGreatDoor
open Go Go.Proofs Sp
set_option maxHeartbeats 4000000 in
theorem tR{R:List HP}{e:Nat}{x:EP}{q A Q:Int}{y:OS}{vr:Nat}{es:Es}{tp9 n:Nat}{ks:Ks}(t:Nat)(ht:t<x.n)(hcf:CfgOk y.s.c)(hy:OvOk x.n x.m A Q y)(hA:A≤400∧Q≤400)(hV:VTab vr R):
 Ok Tryz.prog 50 [(vP e 0),(vN t)] ((bQ e x y.s)::(bI x.tp [(vP tp9 0)] 132)::(cL tp9 n ks)::(aT x.g x.n es)::(bF x.tn q y.ms y.ta)::(dv x.ad A Q y.as)::R)
  (fun v M=> ∃(z:OS) (ks':Ks),KpO x.n x.m A Q y z∧v=.tuple #[]∧M=bQ e x z.s::bI x.tp [.pointer (some ⟨tp9,0,none⟩)] 132::cL tp9 n ks'::aT x.g x.n es::bF x.tn q z.ms z.ta::dv x.ad A Q z.as::R):=by
 refine aP (N:=53) Tryz.func50 rfl rfl rfl (fun W=>?_)
 refine aY (fun _ h=>dG h) (fun hE=>?_)
 have hE_nb:=hE.nb
 have hE_mb:=hE.mb
 have hE_tn:=hE.tn
 have hE_ln:=hE.ln
 have hE_mn:=hE.mn
 have hn0:=hE.n0
 have hE_an:=hE.an
 refine av (fun _ hK1=>ag rfl (cV rfl (bU 11 CJ rfl C9 rfl rfl (bK Dc rfl (bu (v:=(.slice x.bt x.n x.ct)) (.head _) (fun _ _=>rfl)) (ag rfl (tp rfl (ah (k':=t) C6 De rfl rfl hE.okt (by omega) (by omega) (by omega)) ?_))))))
 refine bK Df rfl (dT (i:=t) (.head _) (by omega)) ?_
 refine aA rfl (td hK1 (av (fun _ hK2=>ag rfl (cV rfl (bU 2 CP rfl CU rfl rfl (bK CV rfl (bY (i:=t) (v:=(.pointer (some ⟨(x.ks.getD t (0,0)).2,0,none⟩))) (.head _) (by omega) rfl) ?_))))))
 refine bN Tryz.call85 rfl (fj (i:=t) (y:=ff (y.s.lf.getD t Lf.z)) (by omega) (fun h=>h.miss) (fun h _=>y3 _ h)) ?_
 rintro _ _ ⟨rfl,rfl⟩
 refine td hK2 (ai (fun _ hK3=>av (fun _ hK4=>ag rfl (cV rfl (bU 2 CP rfl CU rfl rfl (bK CV rfl (bY (i:=t) (v:=(.pointer (some ⟨(x.ks.getD t (0,0)).2,0,none⟩))) (.head _) (by omega) rfl) ?_))))))
 refine bN Tryz.call77 rfl (dK (i:=t) (by omega) (fun _=>jy _)) ?_
 rintro _ _ ⟨rfl,rfl⟩
 refine td hK4 ?_
 refine cW rfl (fun c1=>?_) (fun c1=>?_)
 ·refine av (fun _ hK5=>ag rfl (ag rfl (cN (cN (cN (aS ?_))))))
  refine bN Ee rfl (iI (x:=x) (y:=(⟨y.s.lfu t ff,y.ms,y.ta,y.as⟩:OS)) (A:=A) (Q:=Q) t (by omega) (hy.fol rfl) hA (VTab.cons (VTab.cons hV))) ?_
  rintro _ _ ⟨sf3,yo2,hsf3f,hyo2v,hyo2c,rfl,rfl⟩
  refine td hK5 (ay ?_)
  refine aK ?_
  refine aS (aS (aS (cN (cN (cN ?_)))))
  refine jO rfl ?_
  exact ⟨yo2,ks,KpO.trans (KpO.of (s':=y.s.lfu t ff) hy rfl (Kp.lfu _ _ uR)) (KpO.set (y:=(⟨y.s.lfu t ff,y.ms,y.ta,y.as⟩:OS)) (hy.fol rfl) hsf3f hyo2v),rfl,rfl⟩
 ·refine dp hK3 ?_
  refine aY (fun _ h=>dG h) (fun hE2=>?_)
  have hE2_nb:=hE2.nb
  have hE2_mb:=hE2.mb
  have hE2_tn:=hE2.tn
  have hE2_ln:=hE2.ln
  have hE2_mn:=hE2.mn
  have hlo2:=hE2.lo t (by omega)
  have hl1:0≤((y.s.lfu t ff).lf.getD t Lf.z).ms:=hlo2.m0
  have hl2:((y.s.lfu t ff).lf.getD t Lf.z).ms≤((y.s.lfu t ff).lf.getD t Lf.z).tr:=hlo2.m1
  have hl3:((y.s.lfu t ff).lf.getD t Lf.z).tr≤1048576:=hlo2.t2
  have hc1:=hcf.bak
  have hc2:=hcf.most
  have hn2:=hE2.n0
  refine bz (γ:=Int) (n:=28) Tryz.mixed rfl rfl (fun (zi4:Int) S=>(S 25=true→0≤zi4)∧(S 25=true→zi4≤1048576)) (fun (zi4:Int)=>[(0,25,(vP e 0)),(1,26,(vP e 0)),(2,27,(vP e 14)),(3,28,(vP x.tp 0)),(4,29,(vN t)),(5,30,(vP e 0)),(6,31,(vP e 0)),(7,32,(vP e 18)),(8,33,(vI y.s.now)),(9,34,(vP e 0)),(10,35,(vP e 0)),(11,36,(vP e 0)),(12,37,(vP e 7)),(13,38,(vI y.s.c.bak)),(14,39,(.pointer (some ⟨(x.ks.getD t (0,0)).1,0,none⟩))),(15,40,(.pointer (some ⟨(x.ks.getD t (0,0)).1,0,none⟩))),(16,41,(.pointer (some ⟨(x.ks.getD t (0,0)).1,2,none⟩))),(17,42,(.pointer (some ⟨(x.ks.getD t (0,0)).2,0,none⟩))),(18,43,(vI (((y.s.lfu t ff).lf.getD t Lf.z).ms))),(19,44,(vI ((((y.s.lfu t ff).lf.getD t Lf.z).ms)-1))),(20,45,(vP e 0)),(21,46,(vP e 0)),(22,47,(vP e 0)),(23,48,(vP e 8)),(24,49,(vI y.s.c.most)),(25,50,(vI zi4)),(26,51,(vI (y.s.now+zi4))),(27,52,(vI (kb (jq ks (t:Int)) (t:Int))))]) (fun (zi4:Int) S=>(bQ e x (y.s.lfu t ff))::(bI x.tp [(vP tp9 0)] 132)::(bif S 27 then (cL tp9 n (jS (jq ks (t:Int)) (t:Int) (y.s.now+zi4))) else (cL tp9 n ks))::(aT x.g x.n es)::(bF x.tn q y.ms y.ta)::(dv x.ad A Q y.as)::R) (0) (by simp [Nat.ble]) (fun _ h=>h) (fun _ _ h=>h) ?_ ?_
  ·refine ⟨ga fun _=>da,ga fun _=>fx,ga fun _=>dF CJ rfl Tryz.sizeOf68,ga fun _=>gI Tryz.isAgg68 rfl rfl fun _=>bu (v:=(vP x.tp 0)) (.head _) (fun _ _=>rfl),ga fun _=>da,ga fun _=>da,ga fun _=>fx,ga fun _=>dF CJ rfl CG,?_,ga fun _=>da,ga fun _=>fx,ga fun _=>dF CJ rfl Dm,ga fun _=>dF CW rfl CG,?_,ga fun _=>da,ga fun _=>fx,ga fun _=>dF CP rfl CU,ga fun _=>gI CV rfl rfl fun _=>bY (i:=t) (v:=(.pointer (some ⟨(x.ks.getD t (0,0)).2,0,none⟩))) (.head _) (by omega) rfl,?_,?_,ga fun _=>da,ga fun _=>fx,ga fun _=>dF CJ rfl Dm,ga fun _=>dF CW rfl CG,?_,?_,?_,?_,trivial⟩
   ·rintro zi4 S hF hS D hp K hK;try dsimp only
    exact bH (bE hp 7 rfl rfl) (bP CH rfl (bu (v:=(vI y.s.now)) (.head _) (fun _ _=>rfl))) 8 rfl rfl hS (hK zi4 hF)
   ·rintro zi4 S hF hS D hp K hK;try dsimp only
    exact bH (bE hp 12 rfl rfl) (bP CH rfl (bu (v:=(vI y.s.c.bak)) (.head _) (fun _ _=>rfl))) 13 rfl rfl hS (hK zi4 hF)
   ·rintro zi4 S hF hS D hp K hK
    try dsimp only at hF⊢
    obtain ⟨hf0,hf1⟩:=hF
    refine bZ hp [42] rfl rfl ?_
    refine bN Tryz.call88 rfl (dK (i:=t) (by omega) (fun _=>tx _)) ?_
    rintro _ _ ⟨rfl,rfl⟩
    exact cK hp hS (ti (hK zi4 ⟨hf0,hf1⟩)) rfl rfl rfl
   ·rintro zi4 S hF hS D hp K hK;try dsimp only
    exact bH (bE hp 18 rfl rfl) (eR (c:=(((y.s.lfu t ff).lf.getD t Lf.z).ms)-1) rfl rfl (cA (by omega) (by omega))) 19 rfl rfl hS (hK zi4 hF)
   ·rintro zi4 S hF hS D hp K hK;try dsimp only
    exact bH (bE hp 23 rfl rfl) (bP CH rfl (bu (v:=(vI y.s.c.most)) (.head _) (fun _ _=>rfl))) 24 rfl rfl hS (hK zi4 hF)
   ·rintro zi4 S hF hS D hp K hK
    try dsimp only at hF⊢
    obtain ⟨hf0,hf1⟩:=hF
    refine bZ hp [38,44,49] rfl rfl ?_
    refine aR ?_
    refine c9 (nf hS D (k:=27) (i:=25) rfl) ?_
    refine bN Tryz.call87 rfl (vS y.s.c.bak ((((y.s.lfu t ff).lf.getD t Lf.z).ms)-1) y.s.c.most (by omega) (by omega) (by omega)) ?_
    rintro _ _ ⟨zi4,hzi4a,hzi4b,rfl,rfl⟩
    refine fG (A:=(cL tp9 n (jS (jq ks (t:Int)) (t:Int) (y.s.now+zi4)))) (nf hS D (k:=27) (i:=25) rfl) ?_
    refine aR (aR ?_)
    exact cK hp hS (ti (hK zi4 ⟨(fun _=>hzi4a),(fun _=>hzi4b)⟩)) rfl rfl rfl
   ·rintro zi4 S hF hS D hp K hK
    try dsimp only at hF⊢
    obtain ⟨hf0,hf1⟩:=hF
    have s25:=hp 25 rfl
    have hzi4a:=hf0 s25
    have hzi4b:=hf1 s25
    refine bZ hp [33,50] rfl rfl ?_
    refine tp rfl (aX (c:=y.s.now+zi4) rfl rfl (cA (by omega) (by omega))) ?_
    exact cK hp hS (ti (hK zi4 ⟨hf0,hf1⟩)) rfl rfl rfl
   ·rintro zi4 S hF hS D hp K hK
    try dsimp only at hF⊢
    obtain ⟨hf0,hf1⟩:=hF
    refine bZ hp [28,29,51] rfl rfl ?_
    refine aR ?_
    refine c9 hS ?_
    refine aR ?_
    refine bN Tryz.call86 rfl (uY (n:=n) (ks:=ks) (t:Int) (y.s.now+zi4)) ?_
    rintro _ _ ⟨rfl,rfl⟩
    refine aE (aE (aR ?_))
    exact cK hp hS (ti (hK zi4 ⟨hf0,hf1⟩)) rfl rfl rfl
  ·rintro zi4 hF
   try dsimp only at hF⊢
   obtain ⟨hf0,hf1⟩:=hF
   have hzi4a:=hf0 rfl
   have hzi4b:=hf1 rfl
   refine az (E':=[(0,(vP e 0)),(1,(vN t)),(4,(.pointer (some ⟨(x.ks.getD t (0,0)).1,0,none⟩))),(21,(.bool (decide (((y.s.lfu t ff).lf.getD t Lf.z).st≥5))))]) ⟨rfl,rfl,rfl,rfl,trivial⟩ ?_
   refine fC rfl ?_
   exact ⟨(⟨y.s.lfu t ff,y.ms,y.ta,y.as⟩:OS),_,KpO.of (s':=y.s.lfu t ff) hy rfl (Kp.lfu _ _ uR),rfl,rfl⟩
end Go.Proofs.YtanfdikglplkaaaGreatDoor
set_option maxRecDepth 100000
namespace Go.Proofs.YtanfdikglplkaaaGreatDoor
open Go Go.Proofs Sp
set_option maxHeartbeats 4000000 in
theorem zq{R:List HP}{e:Nat}{x:EP}{q A Q:Int}{y:OS}{vr:Nat}{es:Es}{bl:Option Addr}{cc:Nat}(cl:List Int)(hin:∀t∈cl,0≤t∧t<x.n)(hrd:Rd R bl (aF .i64 cl))(okl:bB bl cl.length)(ll:cl.length≤64)(hy:OvOk x.n x.m A Q y)(hA:A≤400∧Q≤400)(hV:VTab vr R):
 Ok Tryz.prog 115 [(vP e 0),(.slice bl cl.length cc)] ((bQ e x y.s)::(aT x.g x.n es)::(bF x.tn q y.ms y.ta)::(dv x.ad A Q y.as)::R)
  (fun v M=> ∃z:OS,KpO x.n x.m A Q y z∧v=.tuple #[]∧M=bQ e x z.s::aT x.g x.n es::bF x.tn q z.ms z.ta::dv x.ad A Q z.as::R):=by
 refine aP (N:=46) Tryz.func115 rfl rfl rfl (fun W=>?_)
 refine aY (fun _ h=>dG h) (fun hE=>?_)
 have hE_nb:=hE.nb
 have hE_mb:=hE.mb
 have hE_tn:=hE.tn
 have hE_ln:=hE.ln
 have hE_mn:=hE.mn
 have hn0:=hE.n0
 have hE_an:=hE.an
 refine ai (fun _ hK1=>av (fun _ hK2=>ag rfl (tp rfl (bC CI rfl rfl) (ag rfl (td hK2 (aH ?_))))))
 refine cE (γ:=(Nat)×(ES)) (fun (k,s1)=>k≤cl.length∧s1.rq=y.s.rq∧Kp y.s s1) (fun (k,s1)=>[(0,(vP e 0)),(1,(.slice bl cl.length cc)),(9,(.slice bl cl.length cc)),(10,(vN cl.length)),(11,(vN k))]) (fun (k,s1)=>(bQ e x s1)::(aT x.g x.n es)::(bF x.tn q y.ms y.ta)::(dv x.ad A Q y.as)::R) (fun (k,s1)=>cl.length-k) (0,y.s) ⟨Nat.zero_le _,rfl,.refl _⟩ ⟨rfl,rfl,rfl,rfl,rfl,trivial⟩ (fun _ h=>h) ?_
 rintro ⟨k,s1⟩ K3 hF hK3
 try dsimp only at hF hK3⊢
 obtain ⟨hk,hrq,hkp⟩:=hF
 refine av (fun _ hK4=>?_)
 by_cases h1:(k:Int)< (cl.length:Int)
 ·refine tp rfl (aJ rfl rfl (decide_eq_true h1)) (td hK4 (ai (fun _ hK5=>aG rfl (dp hK5 (ai (fun _ hK6=>aH (ai (fun K7 hK7=>?_))))))))
  refine aj (tp rfl (ah (k':=k) CI CG rfl rfl okl (by omega) (by omega) (by omega)) ?_)
  refine bK CH rfl (Rd.gives (Rd.cons (Rd.cons (Rd.cons (Rd.cons hrd)))) (aQ (by first|omega| (simp;omega)))) ?_
  refine aA rfl (td hK7 (av (fun _ hK8=>?_)))
  refine aY (fun _ h=>dG h) (fun hE=>?_)
  have hE_nb:=hE.nb
  have hE_mb:=hE.mb
  have hE_tn:=hE.tn
  have hE_ln:=hE.ln
  have hE_mn:=hE.mn
  obtain ⟨t,htt⟩:∃t:Nat,cl.getD k 0=(t:Int):=⟨(cl.getD k 0).toNat,by have:=hin _ (dP (show k<cl.length by omega));omega⟩
  have htn:=hin _ (dP (show k<cl.length by omega))
  rw [htt] at htn⊢
  refine ag rfl (cV rfl (bU 11 CJ rfl C9 rfl rfl (bK Dc rfl (bu (v:=(.slice x.bt x.n x.ct)) (.head _) (fun _ _=>rfl)) (ag rfl (tp rfl (ah (k':=t) C6 De rfl rfl hE.okt (by omega) (by omega) (by omega)) ?_)))))
  refine bK Df rfl (dT (i:=t) (.head _) (by omega)) ?_
  refine aA rfl (td hK8 (av (fun _ hK9=>ag rfl (cV rfl (bU 2 CP rfl CU rfl rfl (bK CV rfl (bY (i:=t) (v:=(.pointer (some ⟨(x.ks.getD t (0,0)).2,0,none⟩))) (.head _) (by omega) rfl) ?_))))))
  refine bN Tryz.call119 rfl (fj (i:=t) (y:=gA (s1.lf.getD t Lf.z)) (by omega) (fun h=>h.turn) (fun h _=>nO _ h)) ?_
  rintro _ _ ⟨rfl,rfl⟩
  refine td hK9 (aj (ag rfl (ag rfl (ag rfl ?_))))
  refine bN Tryz.call72 rfl (ky cl (Rd.cons (Rd.cons (Rd.cons (Rd.cons hrd)))) okl (by first|omega| (simp;omega))) ?_
  rintro _ _ ⟨bs2,cp3,hok4,hle5,rfl,rfl⟩
  refine cV rfl (bU 3 CP rfl CG rfl rfl (aE ?_))
  refine ts (su (i:=t) (o:=3) (z:={(s1.tk.getD t Tk.z) with wt:=(-1)}) (by omega) rfl (by decide) rfl CG rfl rfl) ?_
  refine cV rfl (bU 5 CP rfl CK rfl rfl ?_)
  refine ts (su (i:=t) (o:=5) (z:={(((s1.lfu t gA).setTk t ({(s1.tk.getD t Tk.z) with wt:=(-1)})).tk.getD t Tk.z) with cv:=(.slice bs2 cl.length cp3)}) (by omega) rfl (by decide) rfl CK rfl rfl) ?_
  refine aI (aZ (qn hK6 (aj (tp rfl (aX (c:=((k+1:Nat):Int)) rfl rfl (aB (by omega))) ?_))))
  refine ag rfl (aI (aN (aE (ak ?_))))
  exact az (by exact ⟨rfl,rfl,rfl,rfl,rfl,trivial⟩) ((hK3 (k+1,((s1.lfu t gA).setTk t ({(s1.tk.getD t Tk.z) with wt:=(-1)})).setTk t ({(((s1.lfu t gA).setTk t ({(s1.tk.getD t Tk.z) with wt:=(-1)})).tk.getD t Tk.z) with cv:=(.slice bs2 cl.length cp3)})) ⟨by omega,hrq,hkp.trans ((Kp.lfu _ _ qt).trans ((Kp.setTk _ _ (by rfl)).trans (Kp.setTk _ _ (by rfl))))⟩ (by dsimp only;omega)))
 ·refine tp rfl (aJ rfl rfl (decide_eq_false h1)) (td hK4 (ai (fun _ hK5=>ar rfl (bT (au (au (bS (qn hK1 ?_))))))))
  refine av (fun _ hK6=>ag rfl (tp rfl (bC CI rfl rfl) (ag rfl (td hK6 (aH ?_)))))
  refine cE (γ:=(Nat)×(OS)) (fun (k2,z1)=>k2≤cl.length∧KpO x.n x.m A Q y z1) (fun (k2,z1)=>[(0,(vP e 0)),(1,(.slice bl cl.length cc)),(9,(.slice bl cl.length cc)),(10,(vN cl.length)),(11,(vN k)),(12,(.bool false)),(36,(.slice bl cl.length cc)),(37,(vN cl.length)),(38,(vN k2))]) (fun (k2,z1)=>(bQ e x z1.s)::(aT x.g x.n es)::(bF x.tn q z1.ms z1.ta)::(dv x.ad A Q z1.as)::R) (fun (k2,z1)=>cl.length-k2) (0,(⟨s1,y.ms,y.ta,y.as⟩:OS)) ⟨Nat.zero_le _,KpO.of hy hrq hkp⟩ ⟨rfl,rfl,rfl,rfl,rfl,rfl,rfl,rfl,rfl,trivial⟩ (fun _ h=>h) ?_
  rintro ⟨k2,z1⟩ K7 hF hK7
  try dsimp only at hF hK7⊢
  obtain ⟨hk2,hkz⟩:=hF
  refine av (fun _ hK8=>?_)
  by_cases h6:(k2:Int)< (cl.length:Int)
  ·refine tp rfl (aJ rfl rfl (decide_eq_true h6)) (td hK8 (ai (fun _ hK9=>aG rfl (dp hK9 (ai (fun _ hK10=>aH (ai (fun _ hK11=>?_))))))))
   refine aj (tp rfl (ah (k':=k2) CI CG rfl rfl okl (by omega) (by omega) (by omega)) ?_)
   refine bK CH rfl (Rd.gives (Rd.cons (Rd.cons (Rd.cons (Rd.cons hrd)))) (aQ (by first|omega| (simp;omega)))) ?_
   refine aA rfl (td hK11 (aj ?_))
   obtain ⟨t,htt⟩:∃t:Nat,cl.getD k2 0=(t:Int):=⟨(cl.getD k2 0).toNat,by have:=hin _ (dP (show k2<cl.length by omega));omega⟩
   have htn:=hin _ (dP (show k2<cl.length by omega))
   rw [htt] at htn⊢
   refine ag rfl (ag rfl (aS (aS (aS (aS ?_)))))
   refine bN Ee rfl (iI (x:=x) (y:=z1) (A:=A) (Q:=Q) t (by omega) hkz.1 hA hV) ?_
   rintro _ _ ⟨sf8,yo7,hsf8f,hyo7v,hyo7c,rfl,rfl⟩
   refine aI (aZ (qn hK10 (aj (tp rfl (aX (c:=((k2+1:Nat):Int)) rfl rfl (aB (by omega))) ?_))))
   refine ag rfl (aI (aN ?_))
   exact az (by exact ⟨rfl,rfl,rfl,rfl,rfl,rfl,rfl,rfl,rfl,trivial⟩) ((hK7 (k2+1,yo7) ⟨by omega,hkz.trans (KpO.set (y:=z1) hkz.1 hsf8f hyo7v)⟩ (by dsimp only;omega)))
  ·refine tp rfl (aJ rfl rfl (decide_eq_false h6)) (td hK8 (ai (fun _ hK9=>ar rfl (bT (au (au (bS ?_)))))))
   refine fC rfl ?_
   exact ⟨z1,hkz,rfl,rfl⟩
end Go.Proofs.YtanfdikglplkaaaGreatDoor
