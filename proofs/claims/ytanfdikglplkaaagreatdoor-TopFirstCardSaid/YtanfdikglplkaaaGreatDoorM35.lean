/- Parts Fj, Fk, Fm, Fl: own lemmas and contracts of the code that the claim reaches. -/
import Derived.Test.YtanfdikglplkaaaGreatDoorM03
import Derived.Test.YtanfdikglplkaaaGreatDoorM04
import Derived.Test.YtanfdikglplkaaaGreatDoorM32
import Derived.Test.YtanfdikglplkaaaGreatDoorM13
import Derived.Test.YtanfdikglplkaaaGreatDoorM23
import Derived.Test.YtanfdikglplkaaaGreatDoorM11
import Derived.Test.YtanfdikglplkaaaGreatDoorM12
import Derived.Test.YtanfdikglplkaaaGreatDoorM24
import Derived.Test.YtanfdikglplkaaaGreatDoorM25
import Derived.Test.YtanfdikglplkaaaGreatDoorM31
import Derived.Test.YtanfdikglplkaaaGreatDoorM34
import Derived.Test.YtanfdikglplkaaaGreatDoorM14
set_option linter.unusedSimpArgs false
set_option linter.unusedVariables false
set_option maxRecDepth 100000
namespace Go.Proofs.YtanfdikglplkaaaGreatDoor
open Go Go.Proofs Sp
set_option maxHeartbeats 4000000 in
theorem AZ{R:List HP}{e:Nat}{x:EP}{q A Q:Int}{y:OS}{vr tp9 n:Nat}{es:Es}{ks:Ks}{ld:Led}{okd oa ob oc od:Int}(hnn:n≤x.n)(hz:HzL ld)(hid:HidL x.n ld)(hl:y.s.lg.length≤900000000)(hcf:CfgOk y.s.c)(hy:OvOk x.n x.m A Q y)(hA:A≤400∧Q≤400)(hV:VTab vr R):
 Ok Tryz.prog 27 [(vP e 0),(.agg #[(vI okd),(vI oa),(vI ob),(vI oc),(vI od)])] ((bQ e x y.s)::(dz x.ld ld)::(bI x.tp [(vP tp9 0)] 132)::(cL tp9 n ks)::(aT x.g x.n es)::(bF x.tn q y.ms y.ta)::(dv x.ad A Q y.as)::R)
  (fun u M=> ∃(z:OS) (ld':Led) (ks':Ks) (er:Int),(OvOk x.n x.m A Q z∧Kq x.n y.s z.s∧HzL ld'∧HidL x.n ld')∧u=.tuple #[.agg #[.int .i64 0,.int .i64 0,.int .i64 0,.int .i64 0,.int .i64 0],.int .i64 er]∧M=bQ e x z.s::dz x.ld ld'::bI x.tp [.pointer (some ⟨tp9,0,none⟩)] 132::cL tp9 n ks'::aT x.g x.n es::bF x.tn q z.ms z.ta::dv x.ad A Q z.as::R):=by
 refine aP (N:=69) Tryz.func27 rfl rfl rfl (fun W=>?_)
 refine aY (fun _ h=>dG h) (fun hE=>?_)
 have hE_nb:=hE.nb
 have hE_mb:=hE.mb
 have hE_tn:=hE.tn
 have hE_ln:=hE.ln
 have hE_mn:=hE.mn
 have hn0:=hE.n0
 refine aS ?_
 refine aY (fun _ h=>gB h) (fun hhf=>?_)
 have hdl:=zl ks (y.s.now+1)
 have hdi:=BQ ks (y.s.now+1)
 refine av (fun _ hK1=>?_)
 refine tm rfl (cZ rfl rfl) ?_
 rintro _ _ ⟨b1,rfl,rfl⟩
 refine tm rfl (cD CR rfl) ?_
 rintro _ _ ⟨b2,rfl,rfl⟩
 refine aA rfl (td hK1 (ai (fun _ hK2=>av (fun _ hK3=>ag rfl (cV rfl (bU 18 CJ rfl CG rfl rfl (bK CH rfl (bu (v:=(vI y.s.now)) (.tail _ (.tail _ (.tail _ (.head _)))) (fun _ _=>rfl)) ?_)))))))
 by_cases h3:y.s.now=1099511627776
 ·refine tp rfl (aV rfl rfl (beq_iff_eq.2 h3)) (td hK3 (aG rfl (av (fun _ hK4=>tp rfl (bG (cs:=[(vI 0),(vI 0),(vI 0),(vI 0),(vI 0)]) (pl:=[(0,1),(1,1),(2,1),(3,1),(4,1)]) CT CR (fun _=>by simp) rfl rfl) ?_))))
  refine ts (bn (news:=[(vI 0),(vI 0),(vI 0),(vI 0),(vI 0)]) CM rfl rfl rfl rfl (nB rfl) rfl) ?_
  refine aA rfl (td hK4 (ay ?_))
  refine aK ?_
  refine aE (ak (aE (de (de (de (de ?_))))))
  refine dD (cs:=[(vI 0),(vI 0),(vI 0),(vI 0),(vI 0)]) rfl rfl rfl C3 CM (bh (aa (.head _) rfl) (aa (.head _) rfl) (aa (.head _) rfl) (aa (.head _) rfl) (aa (.head _) rfl)) (fun _ h=>h.drop) ?_
  exact ⟨y,ld,ks,10,⟨hy,(Kp.refl _).q.mono (Nat.zero_le _),hz,hid⟩,rfl,rfl⟩
 ·refine tp rfl (aV rfl rfl (beq_eq_false_iff_ne.2 h3)) (td hK3 (ar rfl (dp hK2 (av (fun _ hK4=>ag rfl (cV rfl ?_))))))
  refine bU 18 CJ rfl CG rfl rfl (bK CH rfl (bu (v:=(vI y.s.now)) (.tail _ (.tail _ (.tail _ (.head _)))) (fun _ _=>rfl)) (tp rfl (aX (c:=y.s.now+1) rfl rfl (cA (by omega) (by omega))) ?_))
  refine cV rfl (bU 18 CJ rfl CG rfl rfl (aS ?_))
  refine ts (Bj (by omega) CG rfl rfl) ?_
  refine td hK4 (ai (fun _ hK5=>ai (fun _ hK6=>?_)))
  refine bz (γ:=Option Addr×Nat) (n:=11) Tryz.mixed rfl rfl (fun (bs4,cp5) S=>(S 8=true→bB bs4 ((fT ks (y.s.now+1)).length))∧(S 8=true→(fT ks (y.s.now+1)).length≤cp5)) (fun (bs4,cp5)=>[(0,21,(vP e 0)),(1,22,(vP e 0)),(2,23,(vP e 14)),(3,24,(vP x.tp 0)),(4,25,(vP e 0)),(5,26,(vP e 0)),(6,27,(vP e 18)),(7,28,(vI (y.s.now+1))),(8,29,(.slice bs4 ((fT ks (y.s.now+1)).length) cp5)),(9,30,(vI (((fT ks (y.s.now+1)).length:Nat):Int))),(10,31,(vI 0))]) (fun (bs4,cp5) S=>(bQ e x (y.s.setNow (y.s.now+1)))::(bI b2 [(vI 0),(vI 0),(vI 0),(vI 0),(vI 0)] 40)::(bI b1 [(vI okd),(vI oa),(vI ob),(vI oc),(vI od)] 32)::(bif S 8 then (cL tp9 n (uV ks (y.s.now+1))) else (cL tp9 n ks))::(dz x.ld ld)::(bI x.tp [(vP tp9 0)] 132)::(aT x.g x.n es)::(bF x.tn q y.ms y.ta)::(dv x.ad A Q y.as)::(bif S 8 then (SlV 3 1 (.slice bs4 ((fT ks (y.s.now+1)).length) cp5) ((fT ks (y.s.now+1)).length) (aF .i64 (fT ks (y.s.now+1)))) else ib)::R) (none,0) (by simp [Nat.ble]) (fun _ h=>ef [_,_,_,_,_,_,_,_,_] 1 h) (fun _ _ h=>h) ?_ ?_
  ·refine ⟨ga fun ⟨_,_⟩=>da,ga fun ⟨_,_⟩=>fx,ga fun ⟨_,_⟩=>dF CJ rfl Tryz.sizeOf68,ga fun ⟨_,_⟩=>gI Tryz.isAgg68 rfl rfl fun _=>bu (v:=(vP x.tp 0)) (.head _) (fun _ _=>rfl),ga fun ⟨_,_⟩=>da,ga fun ⟨_,_⟩=>fx,ga fun ⟨_,_⟩=>dF CJ rfl CG,?_,?_,ga fun ⟨_,_⟩=>x5 CI rfl,ga fun ⟨_,_⟩=>da,trivial⟩
   ·rintro ⟨bs4,cp5⟩ S hF hS D hp K hK;try dsimp only
    exact bH (bE hp 6 rfl rfl) (bP CH rfl (bu (v:=(vI (y.s.now+1))) (.head _) (fun _ _=>rfl))) 7 rfl rfl hS (hK (bs4,cp5) hF)
   ·rintro ⟨bs4,cp5⟩ S hF hS D hp K hK
    try dsimp only at hF⊢
    obtain ⟨hf0,hf1⟩:=hF
    refine bZ hp [24,28] rfl rfl ?_
    refine aS ?_
    refine c9 hS ?_
    refine cN ?_
    refine bN Tryz.call48 rfl (Ad (n:=n) (ks:=ks) (y.s.now+1)) ?_
    rintro _ _ ⟨bs4,cp5,hok6,hle7,rfl,rfl⟩
    refine aE (dM (aS (dM (dM (dM (dM ?_))))))
    refine bO (fun _ h=>cX [_,_,_,_,_,_,_,_,_] h) ?_
    exact cK hp hS (ti (hK (bs4,cp5) ⟨(fun _=>hok6),(fun _=>hle7)⟩)) rfl rfl rfl
  ·rintro ⟨bs4,cp5⟩ hF
   try dsimp only at hF⊢
   obtain ⟨hf0,hf1⟩:=hF
   have hok6:=hf0 rfl
   have hle7:=hf1 rfl
   refine az (E':=[(0,(vP e 0)),(1,(.agg #[(vI okd),(vI oa),(vI ob),(vI oc),(vI od)])),(4,(vP b2 0)),(5,(vI 0)),(12,(.bool false)),(29,(.slice bs4 ((fT ks (y.s.now+1)).length) cp5)),(30,(vI (((fT ks (y.s.now+1)).length:Nat):Int))),(31,(vI 0))]) ⟨rfl,rfl,rfl,rfl,rfl,rfl,rfl,rfl,trivial⟩ ?_
   refine qn hK6 (aH (aR (ak ?_)))
   refine cE (γ:=(Nat)×(OS)×(Led)×(Ks)) (fun (k,z,ld1,ks1)=>k≤(fT ks (y.s.now+1)).length∧OvOk x.n x.m A Q z∧Kq k y.s z.s∧HzL ld1∧HidL x.n ld1) (fun (k,z,ld1,ks1)=>[(0,(vP e 0)),(1,(.agg #[(vI okd),(vI oa),(vI ob),(vI oc),(vI od)])),(4,(vP b2 0)),(5,(vI 0)),(12,(.bool false)),(29,(.slice bs4 ((fT ks (y.s.now+1)).length) cp5)),(30,(vI (((fT ks (y.s.now+1)).length:Nat):Int))),(31,(vN k))]) (fun (k,z,ld1,ks1)=>(bQ e x z.s)::(bI b2 [(vI 0),(vI 0),(vI 0),(vI 0),(vI 0)] 40)::(cL tp9 n ks1)::(dz x.ld ld1)::(bI x.tp [(vP tp9 0)] 132)::(aT x.g x.n es)::(bF x.tn q z.ms z.ta)::(dv x.ad A Q z.as)::(SlV 3 1 (.slice bs4 ((fT ks (y.s.now+1)).length) cp5) ((fT ks (y.s.now+1)).length) (aF .i64 (fT ks (y.s.now+1))))::R) (fun (k,z,ld1,ks1)=>(fT ks (y.s.now+1)).length-k) (0,⟨y.s.setNow (y.s.now+1),y.ms,y.ta,y.as⟩,ld,uV ks (y.s.now+1)) ⟨Nat.zero_le _,hy.fol rfl,Kq.now _ _,hz,hid⟩ ⟨rfl,rfl,rfl,rfl,rfl,rfl,rfl,rfl,trivial⟩ (fun _ h=>h) ?_
   rintro ⟨k,z,ld1,ks1⟩ K7 hF hK7
   try dsimp only at hF hK7⊢
   obtain ⟨hk,hkz,hkq,hz1,hid1⟩:=hF
   have hcf2:CfgOk z.s.c:=by rw [hkq.c];exact hcf
   have hlg2:=hkq.lg
   refine av (fun _ hK8=>?_)
   by_cases h8:(k:Int)< (((fT ks (y.s.now+1)).length:Nat):Int)
   ·refine tp rfl (aJ rfl rfl (decide_eq_true h8)) (td hK8 (ai (fun _ hK9=>aG rfl (dp hK9 (ai (fun _ hK10=>aH (ai (fun _ hK11=>?_))))))))
    refine aj (tp rfl (ah (k':=k) CI CG rfl rfl hok6 (by omega) (by omega) (by omega)) ?_)
    refine bK CH rfl (aw (.tail _ (.tail _ (.tail _ (.tail _ (.tail _ (.tail _ (.tail _ (.tail _ (.head _))))))))) (aQ (by first|omega| (simp;omega)))) ?_
    refine aA rfl (td hK11 (av (fun _ hK12=>?_)))
    refine aY (fun _ h=>dG h) (fun hE2=>?_)
    have hE2_nb:=hE2.nb
    have hE2_mb:=hE2.mb
    have hE2_tn:=hE2.tn
    have hE2_ln:=hE2.ln
    have hE2_mn:=hE2.mn
    obtain ⟨t,htt⟩:∃t:Nat,(fT ks (y.s.now+1)).getD k 0=(t:Int):=⟨((fT ks (y.s.now+1)).getD k 0).toNat,by have:=hdi _ (dP (show k< (fT ks (y.s.now+1)).length by omega));omega⟩
    have htn:=hdi _ (dP (show k< (fT ks (y.s.now+1)).length by omega))
    rw [htt] at htn⊢
    refine ag rfl (cV rfl (bU 11 CJ rfl C9 rfl rfl (bK Dc rfl (bu (v:=(.slice x.bt x.n x.ct)) (.head _) (fun _ _=>rfl)) (ag rfl (tp rfl (ah (k':=t) C6 De rfl rfl hE2.okt (by omega) (by omega) (by omega)) ?_)))))
    refine bK Df rfl (dT (i:=t) (.head _) (by omega)) ?_
    refine cV rfl (bU 2 CP rfl CU rfl rfl (bK CV rfl (bY (i:=t) (v:=(.pointer (some ⟨(x.ks.getD t (0,0)).2,0,none⟩))) (.head _) (by omega) rfl) ?_))
    refine bN DF rfl (dK (i:=t) (by omega) (fun _=>fc _)) ?_
    rintro _ _ ⟨rfl,rfl⟩
    refine td hK12 (aH (av (fun _ hK13=>?_)))
    by_cases h9:((z.s.lf.getD t Lf.z).st)=2
    ·refine tp rfl (aV rfl rfl (beq_iff_eq.2 h9)) (aA rfl (td hK13 (aG rfl (av (fun _ hK14=>ag rfl (ag rfl (aR ?_)))))))
     refine de (de (aS ?_))
     refine bN Tryz.call49 rfl (qA (x:=x) (s:=z.s) (ld:=ld1) (ks:=ks1) 5 t (by omega) (by omega)) ?_
     rintro _ _ ⟨rfl,rfl⟩
     refine td hK14 (aj (ag rfl (ag rfl (eL (eL (eL (dM (dM ?_))))))))
     refine cN ?_
     refine bN Tryz.call50 rfl (tR (x:=x) (y:=(⟨z.s.addLg (g7 z.s ld1 5 (t:Int)),z.ms,z.ta,z.as⟩:OS)) (A:=A) (Q:=Q) t (by omega) hcf2 (hkz.fol rfl) hA (VTab.cons (VTab.cons (VTab.cons hV)))) ?_
     rintro _ _ ⟨yo10,ks12,hkp11,rfl,rfl⟩
     refine aI (aZ (aZ (qn hK10 (aj (tp rfl (aX (c:=((k+1:Nat):Int)) rfl rfl (aB (by omega))) ?_)))))
     refine ag rfl (aI (aN (cN (cN (cN (de (dM (dM (eL ?_)))))))))
     refine eL ?_
     exact az (by exact ⟨rfl,rfl,rfl,rfl,rfl,rfl,rfl,rfl,trivial⟩) ((hK7 (k+1,yo10,ld1.drop (t:Int),ks12) ⟨by omega,hkp11.1,Kq.mono (hkq.trans ((Kq.lg1 _ _).trans hkp11.2.q)) (by omega),hz1.drop _,hid1.drop _⟩ (by dsimp only;omega)))
    ·refine tp rfl (aV rfl rfl (beq_eq_false_iff_ne.2 h9)) (aA rfl (td hK13 (ar rfl (av (fun _ hK14=>?_)))))
     by_cases h13:((z.s.lf.getD t Lf.z).st)=4
     ·refine tp rfl (aV rfl rfl (beq_iff_eq.2 h13)) (aA rfl (td hK14 (aG rfl (aj (ag rfl (cV rfl (bU 11 CJ rfl C9 rfl rfl (bK Dc rfl (bu (v:=(.slice x.bt x.n x.ct)) (.head _) (fun _ _=>rfl)) ?_))))))))
      refine ag rfl (tp rfl (ah (k':=t) C6 De rfl rfl hE2.okt (by omega) (by omega) (by omega)) ?_)
      refine bK Df rfl (dT (i:=t) (.head _) (by omega)) ?_
      refine cV rfl (bU 2 CP rfl CU rfl rfl (bK CV rfl (bY (i:=t) (v:=(.pointer (some ⟨(x.ks.getD t (0,0)).2,0,none⟩))) (.head _) (by omega) rfl) ?_))
      refine bN Tryz.call51 rfl (fj (i:=t) (y:=pN (z.s.lf.getD t Lf.z)) (by omega) (fun h=>h.rest) (fun h _=>sW _ h)) ?_
      rintro _ _ ⟨rfl,rfl⟩
      refine aI (aZ (aZ (qn hK10 (aj (tp rfl (aX (c:=((k+1:Nat):Int)) rfl rfl (aB (by omega))) ?_)))))
      refine ag rfl (aI (aN ?_))
      exact az (by exact ⟨rfl,rfl,rfl,rfl,rfl,rfl,rfl,rfl,trivial⟩) ((hK7 (k+1,⟨z.s.lfu t pN,z.ms,z.ta,z.as⟩,ld1,ks1) ⟨by omega,hkz.fol rfl,Kq.mono (hkq.trans (Kp.lfu _ _ (lh 4 1)).q) (by omega),hz1,hid1⟩ (by dsimp only;omega)))
     ·refine tp rfl (aV rfl rfl (beq_eq_false_iff_ne.2 h13)) (aA rfl (td hK14 (ar rfl (cS (aZ (aZ (qn hK10 (aj ?_))))))))
      refine tp rfl (aX (c:=((k+1:Nat):Int)) rfl rfl (aB (by omega))) ?_
      refine ag rfl (aI (aN ?_))
      exact az (by exact ⟨rfl,rfl,rfl,rfl,rfl,rfl,rfl,rfl,trivial⟩) ((hK7 (k+1,z,ld1,ks1) ⟨by omega,hkz,Kq.mono hkq (by omega),hz1,hid1⟩ (by dsimp only;omega)))
   ·refine tp rfl (aJ rfl rfl (decide_eq_false h8)) (td hK8 (ai (fun _ hK9=>ar rfl (bT (au (au (bS (qn hK5 ?_))))))))
    refine av (fun _ hK10=>tp rfl (bG (cs:=[(vI 0),(vI 0),(vI 0),(vI 0),(vI 0)]) (pl:=[(0,1),(1,1),(2,1),(3,1),(4,1)]) CT CR (fun _=>by simp) rfl rfl) ?_)
    refine aE ?_
    refine ts (bn (news:=[(vI 0),(vI 0),(vI 0),(vI 0),(vI 0)]) CM rfl rfl rfl rfl (nB rfl) rfl) ?_
    refine aA rfl (td hK10 (ay (dR (ak (aR (de (de (de ?_))))))))
    refine de ?_
    refine dD (cs:=[(vI 0),(vI 0),(vI 0),(vI 0),(vI 0)]) rfl rfl rfl C3 CM (bh (aa (.head _) rfl) (aa (.head _) rfl) (aa (.head _) rfl) (aa (.head _) rfl) (aa (.head _) rfl)) (fun _ h=>h.drop) ?_
    exact ⟨z,ld1,ks1,0,⟨hkz,hkq.mono (by omega),hz1,hid1⟩,rfl,rfl⟩
end Go.Proofs.YtanfdikglplkaaaGreatDoor
set_option maxRecDepth 100000
namespace Go.Proofs.YtanfdikglplkaaaGreatDoor
open Go Go.Proofs Sp
set_option maxHeartbeats 4000000 in
theorem xL{R:List HP}{e:Nat}{x:EP}{s:ES}{okd oa ob oc od:Int}(hr:¬(0≤oa∧oa<x.n∧1≤ob∧ob≤100∧0≤oc∧oc≤7)):
 Ok Tryz.prog 25 [(vP e 0),(.agg #[(vI okd),(vI oa),(vI ob),(vI oc),(vI od)])] ((bQ e x s)::R)
  (fun u M=>u=.tuple #[.agg #[.int .i64 0,.int .i64 0,.int .i64 0,.int .i64 0,.int .i64 0],.int .i64 1]∧M=bQ e x s::R):=by
 refine aP (N:=115) Tryz.func25 rfl rfl rfl (fun W=>?_)
 refine aY (fun _ h=>dG h) (fun hE=>?_)
 have hE_nb:=hE.nb
 have hE_mb:=hE.mb
 have hE_tn:=hE.tn
 have hE_ln:=hE.ln
 have hE_mn:=hE.mn
 refine av (fun _ hK1=>?_)
 refine tm rfl (cZ rfl rfl) ?_
 rintro _ _ ⟨b1,rfl,rfl⟩
 refine tm rfl (cD CR rfl) ?_
 rintro _ _ ⟨b2,rfl,rfl⟩
 refine aA rfl (td hK1 (av (fun _ hK2=>bU 1 CQ rfl CG rfl rfl (bK CH rfl (aa (.tail _ (.head _)) rfl) (bU 2 CQ rfl CG rfl rfl (bK CH rfl (aa (.tail _ (.head _)) rfl) (bU 3 CQ rfl CG rfl rfl ?_)))))))
 refine bK CH rfl (aa (.tail _ (.head _)) rfl) (tp rfl (bG (cs:=[(vI oa),(vI ob),(vI oc)]) (pl:=[(0,1),(1,1),(2,1)]) Da DV (fun _=>by simp) rfl rfl) ?_)
 refine tm rfl (cD DV rfl) ?_
 rintro _ _ ⟨b3,rfl,rfl⟩
 refine ts (bn (news:=[(vI oa),(vI ob),(vI oc)]) Dj rfl rfl rfl rfl (nB rfl) rfl) ?_
 refine td hK2 (av (fun _ hK3=>ag rfl (cV rfl (bU 12 CJ rfl Dv rfl rfl (bK DC rfl (bu (v:=(.slice x.br x.m x.cr)) (.tail _ (.tail _ (.tail _ (.head _)))) (fun _ _=>rfl)) (tp rfl (bC Dx rfl rfl) (aA rfl ?_)))))))
 refine td hK3 (ai (fun _ hK4=>aH (av (fun _ hK5=>ag rfl (bU 0 Da rfl CG rfl rfl (bK CH rfl (aa (.head _) rfl) (aS ?_)))))))
 refine bN Tryz.call22 rfl (nH (x:=x) (s:=s) oa) ?_
 rintro _ _ ⟨rfl,rfl⟩
 refine tp rfl (dy (c:= !(decide (0≤oa∧oa<x.n))) rfl rfl) (ag rfl ?_)
 rcases hb4:decide (0≤oa∧oa<x.n) with _|_
 ·refine aq rfl rfl rfl ?_
  refine aq rfl rfl rfl ?_
  refine aq rfl rfl rfl ?_
  refine tp rfl (aL rfl rfl) (ag rfl ?_)
  refine aq rfl rfl rfl ?_
  refine aq rfl rfl rfl ?_
  refine aq rfl rfl rfl ?_
  refine tp rfl (aL rfl rfl) (ag rfl ?_)
  refine aq rfl rfl rfl ?_
  refine aq rfl rfl rfl ?_
  refine aq rfl rfl rfl ?_
  refine tp rfl (aL rfl rfl) (ag rfl ?_)
  refine aq rfl rfl rfl ?_
  refine aq rfl rfl rfl ?_
  refine aq rfl rfl rfl ?_
  refine tp rfl (aL rfl rfl) (aA rfl (td hK5 (aG rfl (av (fun _ hK6=>tp rfl (bG (cs:=[(vI 0),(vI 0),(vI 0),(vI 0),(vI 0)]) (pl:=[(0,1),(1,1),(2,1),(3,1),(4,1)]) CT CR (fun _=>by simp) rfl rfl) ?_)))))
  refine aR ?_
  refine ts (bn (news:=[(vI 0),(vI 0),(vI 0),(vI 0),(vI 0)]) CM rfl rfl rfl rfl (nB rfl) rfl) ?_
  refine aA rfl (td hK6 (ay ?_))
  refine cH ?_
  refine aK ?_
  refine aR (ak (aR (ak ?_)))
  refine dD (cs:=[(vI 0),(vI 0),(vI 0),(vI 0),(vI 0)]) rfl rfl rfl C3 CM (bh (aa (.head _) rfl) (aa (.head _) rfl) (aa (.head _) rfl) (aa (.head _) rfl) (aa (.head _) rfl)) (fun _ h=>h.drop) ?_
  exact ⟨rfl,rfl⟩
 ·refine ae rfl rfl ?_
  refine bU 1 Da rfl CG rfl rfl ?_
  refine ae rfl rfl ?_
  refine bK CH rfl (aa (.tail _ (.head _)) rfl) ?_
  refine ae rfl rfl ?_
  by_cases h5:ob<1
  ·refine tp rfl (aJ rfl rfl (decide_eq_true h5)) (tp rfl (aC rfl rfl) (ag rfl ?_))
   refine aq rfl rfl rfl ?_
   refine aq rfl rfl rfl ?_
   refine aq rfl rfl rfl ?_
   refine tp rfl (aL rfl rfl) (ag rfl ?_)
   refine aq rfl rfl rfl ?_
   refine aq rfl rfl rfl ?_
   refine aq rfl rfl rfl ?_
   refine tp rfl (aL rfl rfl) (ag rfl ?_)
   refine aq rfl rfl rfl ?_
   refine aq rfl rfl rfl ?_
   refine aq rfl rfl rfl ?_
   refine tp rfl (aL rfl rfl) (aA rfl (td hK5 (aG rfl (av (fun _ hK6=>tp rfl (bG (cs:=[(vI 0),(vI 0),(vI 0),(vI 0),(vI 0)]) (pl:=[(0,1),(1,1),(2,1),(3,1),(4,1)]) CT CR (fun _=>by simp) rfl rfl) ?_)))))
   refine aR ?_
   refine ts (bn (news:=[(vI 0),(vI 0),(vI 0),(vI 0),(vI 0)]) CM rfl rfl rfl rfl (nB rfl) rfl) ?_
   refine aA rfl (td hK6 (ay ?_))
   refine cH ?_
   refine aK ?_
   refine aR (ak (aR (ak ?_)))
   refine dD (cs:=[(vI 0),(vI 0),(vI 0),(vI 0),(vI 0)]) rfl rfl rfl C3 CM (bh (aa (.head _) rfl) (aa (.head _) rfl) (aa (.head _) rfl) (aa (.head _) rfl) (aa (.head _) rfl)) (fun _ h=>h.drop) ?_
   exact ⟨rfl,rfl⟩
  ·refine tp rfl (aJ rfl rfl (decide_eq_false h5)) (tp rfl (aC rfl rfl) (ag rfl ?_))
   refine ae rfl rfl ?_
   refine bU 1 Da rfl CG rfl rfl ?_
   refine ae rfl rfl ?_
   refine bK CH rfl (aa (.tail _ (.head _)) rfl) ?_
   refine ae rfl rfl ?_
   by_cases h6:ob>100
   ·refine tp rfl (cu rfl rfl (decide_eq_true h6)) (tp rfl (aC rfl rfl) (ag rfl ?_))
    refine aq rfl rfl rfl ?_
    refine aq rfl rfl rfl ?_
    refine aq rfl rfl rfl ?_
    refine tp rfl (aL rfl rfl) (ag rfl ?_)
    refine aq rfl rfl rfl ?_
    refine aq rfl rfl rfl ?_
    refine aq rfl rfl rfl ?_
    refine tp rfl (aL rfl rfl) (aA rfl (td hK5 (aG rfl (av (fun _ hK6=>tp rfl (bG (cs:=[(vI 0),(vI 0),(vI 0),(vI 0),(vI 0)]) (pl:=[(0,1),(1,1),(2,1),(3,1),(4,1)]) CT CR (fun _=>by simp) rfl rfl) ?_)))))
    refine aR ?_
    refine ts (bn (news:=[(vI 0),(vI 0),(vI 0),(vI 0),(vI 0)]) CM rfl rfl rfl rfl (nB rfl) rfl) ?_
    refine aA rfl (td hK6 (ay ?_))
    refine cH ?_
    refine aK ?_
    refine aR (ak (aR (ak ?_)))
    refine dD (cs:=[(vI 0),(vI 0),(vI 0),(vI 0),(vI 0)]) rfl rfl rfl C3 CM (bh (aa (.head _) rfl) (aa (.head _) rfl) (aa (.head _) rfl) (aa (.head _) rfl) (aa (.head _) rfl)) (fun _ h=>h.drop) ?_
    exact ⟨rfl,rfl⟩
   ·refine tp rfl (cu rfl rfl (decide_eq_false h6)) (tp rfl (aC rfl rfl) (ag rfl ?_))
    refine ae rfl rfl ?_
    refine bU 2 Da rfl CG rfl rfl ?_
    refine ae rfl rfl ?_
    refine bK CH rfl (aa (.tail _ (.head _)) rfl) ?_
    refine ae rfl rfl ?_
    by_cases h7:oc<0
    ·refine tp rfl (aJ rfl rfl (decide_eq_true h7)) (tp rfl (aC rfl rfl) (ag rfl ?_))
     refine aq rfl rfl rfl ?_
     refine aq rfl rfl rfl ?_
     refine aq rfl rfl rfl ?_
     refine tp rfl (aL rfl rfl) (aA rfl (td hK5 (aG rfl (av (fun _ hK6=>tp rfl (bG (cs:=[(vI 0),(vI 0),(vI 0),(vI 0),(vI 0)]) (pl:=[(0,1),(1,1),(2,1),(3,1),(4,1)]) CT CR (fun _=>by simp) rfl rfl) ?_)))))
     refine aR ?_
     refine ts (bn (news:=[(vI 0),(vI 0),(vI 0),(vI 0),(vI 0)]) CM rfl rfl rfl rfl (nB rfl) rfl) ?_
     refine aA rfl (td hK6 (ay ?_))
     refine cH ?_
     refine aK ?_
     refine aR (ak (aR (ak ?_)))
     refine dD (cs:=[(vI 0),(vI 0),(vI 0),(vI 0),(vI 0)]) rfl rfl rfl C3 CM (bh (aa (.head _) rfl) (aa (.head _) rfl) (aa (.head _) rfl) (aa (.head _) rfl) (aa (.head _) rfl)) (fun _ h=>h.drop) ?_
     exact ⟨rfl,rfl⟩
    ·refine tp rfl (aJ rfl rfl (decide_eq_false h7)) (tp rfl (aC rfl rfl) (ag rfl ?_))
     refine ae rfl rfl ?_
     refine bU 2 Da rfl CG rfl rfl ?_
     refine ae rfl rfl ?_
     refine bK CH rfl (aa (.tail _ (.head _)) rfl) ?_
     refine ae rfl rfl ?_
     by_cases h8:oc>7
     ·refine tp rfl (cu rfl rfl (decide_eq_true h8)) (tp rfl (aC rfl rfl) (aA rfl (td hK5 (aG rfl (av (fun _ hK6=>tp rfl (bG (cs:=[(vI 0),(vI 0),(vI 0),(vI 0),(vI 0)]) (pl:=[(0,1),(1,1),(2,1),(3,1),(4,1)]) CT CR (fun _=>by simp) rfl rfl) ?_))))))
      refine aR ?_
      refine ts (bn (news:=[(vI 0),(vI 0),(vI 0),(vI 0),(vI 0)]) CM rfl rfl rfl rfl (nB rfl) rfl) ?_
      refine aA rfl (td hK6 (ay ?_))
      refine cH ?_
      refine aK ?_
      refine aR (ak (aR (ak ?_)))
      refine dD (cs:=[(vI 0),(vI 0),(vI 0),(vI 0),(vI 0)]) rfl rfl rfl C3 CM (bh (aa (.head _) rfl) (aa (.head _) rfl) (aa (.head _) rfl) (aa (.head _) rfl) (aa (.head _) rfl)) (fun _ h=>h.drop) ?_
      exact ⟨rfl,rfl⟩
     ·refine tp rfl (cu rfl rfl (decide_eq_false h8)) ?_
      have hft:=of_decide_eq_true hb4;exfalso;omega
end Go.Proofs.YtanfdikglplkaaaGreatDoor
set_option maxRecDepth 100000
namespace Go.Proofs.YtanfdikglplkaaaGreatDoor
open Go Go.Proofs Sp
theorem vG{R:List HP}{bx:Option Addr}{cx n:Nat}(xs:List Ev)(hn:xs.length=n)(hx:Rd R bx (bJ gH xs))(okx:bB bx n)(lx:n≤1000000):
 Ok Tryz.prog 24 [(.slice bx n cx)] R
  (dZ 45 5 n (bJ gH xs) R):=by
 refine aP (N:=8) Tryz.func24 rfl rfl rfl (fun W=>?_)
 refine av (fun _ hK1=>aA rfl (td hK1 (ai (fun _ hK2=>av (fun _ hK3=>ag rfl ?_)))))
 rcases hnhnil1:(bx).isNone with _|_
 ·refine tp rfl (gC C5 rfl rfl hnhnil1) (td hK3 (ar rfl (dp hK2 (av (fun _ hK4=>?_)))))
  refine tm rfl (aD (cs:=[]) C5 Dh Tryz.zeroValue45 (by decide) rfl rfl rfl rfl) ?_
  rintro _ _ ⟨bs2,cp3,hok4,hle5,rfl,rfl⟩
  refine ag rfl ?_
  refine tm rfl (cR (i:=Tryz.t45) C5 Tryz.type45 rfl rfl rfl (by decide) rfl rfl okx (by rw [dQ bA,hn]) (Rd.cons hx) (ot uU) (by rw [show Tryz.t45.bytes=40 from rfl];omega)) ?_
  rintro _ _ ⟨bs6,cp7,hok8,hle9,rfl,rfl⟩
  simp only [Nat.zero_add] at hok8 hle9⊢
  rw [List.nil_append]
  refine aA rfl (td hK4 (ay ?_))
  refine aM rfl rfl ?_
  exact ⟨_,_,hok8,hle9,rfl,rfl⟩
 ·refine tp rfl (gC C5 rfl rfl hnhnil1) (td hK3 (aG rfl (av (fun _ hK4=>aA rfl (td hK4 (ay ?_))))))
  refine aK ?_
  refine bO (fun _ h=>cz 45 5 h) ?_
  refine aM rfl rfl ?_
  have h0:n=0:=ji okx ‹_›
  subst h0
  obtain rfl:xs=[]:=List.eq_nil_of_length_eq_zero hn
  exact ⟨none,0,cn,Nat.le_refl _,rfl,rfl⟩
theorem B5{R:List HP}{e:Nat}{x:EP}{s:ES}(hl:s.lg.length≤1000000):
 Ok Tryz.prog 12 [(vP e 0)] ((bQ e x s)::R)
  (dZ 45 5 s.lg.length (bJ gH s.lg) (bQ e x s::R)):=by
 refine aP (N:=8) Tryz.func12 rfl rfl rfl (fun W=>?_)
 refine qk (fun bl cl hE3 hl3=>?_)
 unfold jX sI;simp only [List.cons_append,List.nil_append]
 refine av (fun _ hK1=>aA rfl (td hK1 (av (fun _ hK2=>ag rfl (cV rfl (bU 20 CJ rfl Tryz.sizeOf37 rfl rfl ?_))))))
 refine bK Tryz.isAgg37 rfl (aa (.head _) rfl) ?_
 refine bN Tryz.call24 rfl (vG s.lg rfl (cj (.tail _ (.tail _ (.tail _ (.tail _ (.head _)))))) hl3.ok hl) ?_
 rintro _ _ ⟨bs1,cp2,hok3,hle4,rfl,rfl⟩
 refine aA rfl (td hK2 (ay (dR (dR (dR (dR (dR (dR ?_))))))))
 refine dR (dR ?_)
 refine bO (fun _ h=>hP (e:=e) (x:=x) (s:=s) (b:=bl) (c:=cl) hE3 hl3 (by exact h)) ?_
 refine aE ?_
 refine aM rfl rfl ?_
 exact ⟨_,_,hok3,hle4,rfl,rfl⟩
end Go.Proofs.YtanfdikglplkaaaGreatDoor
set_option maxRecDepth 100000
namespace Go.Proofs.YtanfdikglplkaaaGreatDoor
open Go Go.Proofs Sp
theorem fR{f:FuncId}{args:List Value}{L L':List HP}{Post Post':Value→List HP→Prop}(h1:∀w,Sat L w→Sat L' w)(h:Ok Tryz.prog f args L' Post')(h2:∀u M,Post' u M→∃M',Post u M'∧∀w,Sat M w→Sat M' w):Ok Tryz.prog f args L Post:=fun w hs=>by
 refine (h w (h1 w hs)).mono ?_
 rintro en w' ⟨u,M,hp,h3,h4,h5⟩
 obtain ⟨M',hp',h6⟩:=h2 u M hp
 exact ⟨u,M',hp',h3,h6 _ h4,h5⟩
section
variable{R:List HP}{e vr:Nat}{c:Cfg}{al:List (Int×Int)}{i:Nat}{T:YG}{oa ob oc od:Int}
theorem gq{w:World}(hs:Sat (cO e T::R) w):Sat (nT e T++R) w:=Sat.join.1 hs
theorem sH{w:World}(hs:Sat (cO e T::R) w):Sat (bQ e T.x T.y.s::bF T.x.tn T.q T.y.ms T.y.ta::dv T.x.ad T.A T.Q T.y.as::dz T.x.ld T.ld::bI T.x.tp [.pointer (some ⟨T.hp,0,none⟩)] 132::cL T.hp T.n T.ks::aT T.x.g T.x.n T.es::R) w:=
 ((((Sat.join.1 hs:Sat (nT e T++R) w).perm (bX [_,_,_,_,_,_] _)).perm (bX [_,_,_,_,_,_] _)).perm (bX [_,_] _))
theorem n8{w:World}(h:Sat (bQ e T.x T.y.s::bF T.x.tn T.q T.y.ms T.y.ta::dv T.x.ad T.A T.Q T.y.as::dz T.x.ld T.ld::bI T.x.tp [.pointer (some ⟨T.hp,0,none⟩)] 132::cL T.hp T.n T.ks::aT T.x.g T.x.n T.es::R) w):Sat (cO e T::R) w:=
 Sat.join.2 (((((h.perm (bX [_,_,_,_,_,_] _)).perm (bX [_,_,_,_,_,_] _)).perm (bX [_,_,_,_,_,_] _)).perm (bX [_,_,_,_,_,_] _)).perm (bX [_,_,_,_] _))
theorem yX(hS:Sml c al)(h:GR c al i T)(hi:i≤1000)(hT:Tab R){kd:Int}:Ok Tryz.prog 28 [.pointer (some ⟨e,0,none⟩),.agg #[.int .i64 kd,.int .i64 oa,.int .i64 ob,.int .i64 oc,.int .i64 od]] (cO e T::R) (fun u M=> ∃j:YV,vU T j∧u=j.v∧M=cO e j.T::R):=fun w hs=>by
 have hs1:=gq hs
 obtain ⟨ba,ca,ps,hF⟩:=wh (hs1.perm (bX [_,_,_,_,_] _))
 obtain ⟨p,tl,hb⟩:∃p tl,dO (T.y.s.lf.map (·.st)) (mR T) T.x.n=(p,tl):=⟨_,_,rfl⟩
 have h8:=hS.n;have hx:=h.xn;have hl:=h.lg;have hbg:=h.bg;have htm:=hS.cf.tmo
 refine (BH (x:=T.x) (y:=T.y) hb (uD hb) (h.want hS (hF.at_.imp id And.right) hb) h.ov ⟨h.a4,h.q4⟩ (by omega) h.hz (by omega) (by omega) (fun t ht=>by have:=h.ep t (by omega);omega) hT (by rw [h.ec];omega) w hs1).mono ?_
 rintro en w' ⟨u,M,⟨er,sl,ep,rr,tt,a,tm,tb,hd,rfl,rfl⟩,h1,h2,h3⟩
 exact ⟨_,_,⟨⟨{T with y:=⟨a.s,tm,tb,T.y.as⟩,ld:=a.ld,ks:=a.ks},rr,0,tt,sl,ep,er⟩,⟨p,tl,a,tm,tb,hb,hd,rfl⟩,rfl,rfl⟩,h1,Sat.join.2 h2,h3⟩
theorem AP(hS:Sml c al)(h:GR c al i T)(hi:i≤1000)(hV:VTab vr R){kd:Int}:Ok Tryz.prog 29 [.pointer (some ⟨e,0,none⟩),.agg #[.int .i64 kd,.int .i64 oa,.int .i64 ob,.int .i64 oc,.int .i64 od]] (cO e T::R) (fun u M=> ∃j:YV,Ai T oa ob oc j∧u=j.v∧M=cO e j.T::R):=by
 have hl:=h.lg
 refine fR (fun w=>gq) (xo (x:=T.x) (y:=T.y) (es:=T.es) (ks:=T.ks) h.hid (by omega) (by rw [h.ec];exact hS.cf) h.ov ⟨h.a4,h.q4⟩ hV) ?_
 rintro u M ⟨er,z,es',ld',ks',rt,rs,ha,rfl,rfl⟩
 exact ⟨_,⟨⟨{T with y:=z,es:=es',ld:=ld',ks:=ks'},0,rs,rt,0,0,er⟩,⟨z,es',ld',ks',ha,rfl⟩,rfl,rfl⟩,fun w hw=>Sat.join.2 hw⟩
theorem BR(hS:Sml c al)(h:GR c al i T)(hi:i≤1000)(hV:VTab vr R){kd:Int}:Ok Tryz.prog 27 [.pointer (some ⟨e,0,none⟩),.agg #[.int .i64 kd,.int .i64 oa,.int .i64 ob,.int .i64 oc,.int .i64 od]] (cO e T::R) (fun u M=> ∃j:YV,B0 T j∧u=j.v∧M=cO e j.T::R):=by
 have hl:=h.lg
 refine fR (fun w=>gq) (AZ (x:=T.x) (y:=T.y) (es:=T.es) (ks:=T.ks) h.nn h.hz h.hid (by omega) (by rw [h.ec];exact hS.cf) h.ov ⟨h.a4,h.q4⟩ hV) ?_
 rintro u M ⟨z,ld',ks',er,ha,rfl,rfl⟩
 exact ⟨_,⟨⟨{T with y:=z,ld:=ld',ks:=ks'},0,0,0,0,0,er⟩,⟨z,ld',ks',ha,rfl⟩,rfl,rfl⟩,fun w hw=>Sat.join.2 hw⟩
theorem Cr(h:GR c al i T)(hV:VTab vr R){kd:Int}:Ok Tryz.prog 26 [.pointer (some ⟨e,0,none⟩),.agg #[.int .i64 kd,.int .i64 oa,.int .i64 ob,.int .i64 oc,.int .i64 od]] (cO e T::R) (fun u M=> ∃j:YV,Cp T j∧u=j.v∧M=cO e j.T::R):=by
 by_cases hr:oa<0∨oa≥T.x.m
 ·refine fR (fun w=>gq) (xz (x:=T.x) (s:=T.y.s) hr) ?_
  rintro u M ⟨rfl,rfl⟩
  exact ⟨_,⟨⟨T,0,0,0,0,0,6⟩,⟨T.y,KpO.refl h.ov,rfl⟩,rfl,rfl⟩,fun w hw=>Sat.join.2 hw⟩
 ·obtain ⟨r,rfl⟩:∃r:Nat,oa=r:=⟨oa.toNat,by omega⟩
  refine fR (fun w=>sH) (yy (x:=T.x) (y:=T.y) r (by omega) h.ov ⟨h.a4,h.q4⟩ hV.cons.cons.cons.cons) ?_
  rintro u M ⟨z,rs,er,ha,rfl,rfl⟩
  exact ⟨_,⟨⟨{T with y:=z},0,rs,0,0,0,er⟩,⟨z,ha,rfl⟩,rfl,rfl⟩,fun w hw=>n8 (T:={T with y:=z}) hw⟩
theorem AT(hS:Sml c al)(h:GR c al i T)(hV:VTab vr R){kd:Int}(root:Nat)(hr:root<al.length∧1≤ob∧ob≤100∧0≤oc∧oc≤7):Ok Tryz.prog 25 [.pointer (some ⟨e,0,none⟩),.agg #[.int .i64 kd,.int .i64 (root:Int),.int .i64 ob,.int .i64 oc,.int .i64 od]] (cO e T::R) (fun u M=> ∃j:YV,zj T root ob oc j∧u=j.v∧M=cO e j.T::R):=by
 have hx:=h.xn;have hm:=hS.ts root hr.1
 refine fR (fun w=>sH) (u9 (x:=T.x) (y:=T.y) root ob oc (by omega) (by rw [h.ea,h.ec];omega) h.ov ⟨h.a4,h.q4⟩ hV.cons.cons.cons.cons) ?_
 rintro u M (⟨rfl,hne,rfl⟩| ⟨h0,b,c',p,z,hz,rfl,rfl⟩)
 ·exact ⟨_,⟨⟨T,0,0,0,0,0,kW T.A T.Q T.y⟩,.inl ⟨rfl,hne,rfl⟩,rfl,rfl⟩,fun w hw=>n8 hw⟩
 ·exact ⟨_,⟨⟨{T with x:=T.x.addRq b c' p,y:=z},(T.x.m:Int),(z.s.rq.getD T.x.m Rq.z).st,0,0,0,0⟩,.inr ⟨rfl,h0,b,c',p,z,hz,rfl⟩,rfl,rfl⟩,fun w hw=>n8 (T:={T with x:=T.x.addRq b c' p,y:=z}) hw⟩
theorem A3(h:GR c al i T){kd:Int}(hr:¬(0≤oa∧oa<al.length∧1≤ob∧ob≤100∧0≤oc∧oc≤7)):Ok Tryz.prog 25 [.pointer (some ⟨e,0,none⟩),.agg #[.int .i64 kd,.int .i64 oa,.int .i64 ob,.int .i64 oc,.int .i64 od]] (cO e T::R) (fun u M=> ∃j:YV,j.T=T∧u=j.v∧M=cO e j.T::R):=by
 refine fR (fun w=>gq) (xL (x:=T.x) (s:=T.y.s) (by rw [h.xn];exact hr)) ?_
 rintro u M ⟨rfl,rfl⟩
 exact ⟨_,⟨⟨T,0,0,0,0,0,1⟩,rfl,rfl,rfl⟩,fun w hw=>Sat.join.2 hw⟩
theorem AW(r:Nat)(hr:r<T.x.m){kd:Int}:Ok Tryz.prog 30 [.pointer (some ⟨e,0,none⟩),.agg #[.int .i64 kd,.int .i64 (r:Int),.int .i64 ob,.int .i64 oc,.int .i64 od]] (cO e T::R) (fun u M=> ∃j:YV,(j.T=T∧j.f=0∧j.b=(T.y.s.rq.getD r Rq.z).st)∧u=j.v∧M=cO e j.T::R):=by
 refine fR (fun w=>gq) (yo (x:=T.x) (s:=T.y.s) r hr) ?_
 rintro u M ⟨rfl,rfl⟩
 exact ⟨_,⟨⟨T,0,(T.y.s.rq.getD r Rq.z).st,(T.y.s.rq.getD r Rq.z).root,0,0,0⟩,⟨rfl,rfl,rfl⟩,rfl,rfl⟩,fun w hw=>Sat.join.2 hw⟩
theorem Bo(hr:oa<0∨oa≥T.x.m){kd:Int}:Ok Tryz.prog 30 [.pointer (some ⟨e,0,none⟩),.agg #[.int .i64 kd,.int .i64 oa,.int .i64 ob,.int .i64 oc,.int .i64 od]] (cO e T::R) (fun u M=> ∃j:YV,j.T=T∧u=j.v∧M=cO e j.T::R):=by
 refine fR (fun w=>gq) (AD (x:=T.x) (s:=T.y.s) hr) ?_
 rintro u M ⟨rfl,rfl⟩
 exact ⟨_,⟨⟨T,0,0,0,0,0,6⟩,rfl,rfl,rfl⟩,fun w hw=>Sat.join.2 hw⟩
theorem kX{q:YV→Prop}{f9:Nat}{kd:Int}(hT:Tab R)(hV:VTab vr R)(hk:mL kd (Cv e)=some (.func (.func f9) #[(.pointer (some ⟨e,0,none⟩))] #[]))(hcall:∀args w,(callFunc f9 args).run Tryz.prog w=.ok (.enter f9 args) w)
 (h:∀R':List HP,Tab R'→VTab vr R'→Ok Tryz.prog f9 [.pointer (some ⟨e,0,none⟩),.agg #[.int .i64 kd,.int .i64 oa,.int .i64 ob,.int .i64 oc,.int .i64 od]] (cO e T::R') (fun u M=> ∃j:YV,q j∧u=j.v∧M=cO e j.T::R')):
 Ok Tryz.prog 13 [.pointer (some ⟨e,0,none⟩),.agg #[.int .i64 kd,.int .i64 oa,.int .i64 ob,.int .i64 oc,.int .i64 od]] (cO e T::R) (fun u M=> ∃j:YV,q j∧u=j.v∧M=cO e j.T::R):=
 BN (ι:=YV) (A1:=nT e T) (B1:=fun j=>nT e j.T) (q1:=q) (ra:=YV.a) (rb:=YV.b) (rc:=YV.c) (rd:=YV.d) (re:=YV.e) (rf:=YV.f) hk hcall fun X Y Z=>h (X::Y::Z::R) hT.cons.cons.cons hV.cons.cons.cons
theorem js{f:FuncId}{args:List Value}{L R':List HP}{q q':YV→Prop}(h:Ok Tryz.prog f args L (fun u M=> ∃j:YV,q j∧u=j.v∧M=cO e j.T::R'))(hq:∀j,q j→q' j):Ok Tryz.prog f args L (fun u M=> ∃j:YV,q' j∧u=j.v∧M=cO e j.T::R'):=
 fR (fun _ h=>h) h fun u M ⟨j,h1,h2,h3⟩=>⟨M,⟨j,hq j h1,h2,h3⟩,fun _ h=>h⟩
theorem CC(hS:Sml c al)(h:GR c al i T)(hi:i≤1000)(hT:Tab R)(hV:VTab vr R)(kd:Int):Ok Tryz.prog 13 [.pointer (some ⟨e,0,none⟩),.agg #[.int .i64 kd,.int .i64 oa,.int .i64 ob,.int .i64 oc,.int .i64 od]] (cO e T::R) (fun u M=> ∃j:YV,(GR c al (i+1) j.T∧(kd=4→vU T j))∧u=j.v∧M=cO e j.T::R):=by
 have h8:=hS.n
 by_cases h1:kd=1
 ·subst h1
  refine kX hT hV rfl Tryz.call25 fun R' hT' hV'=>?_
  by_cases hr:0≤oa∧oa<al.length∧1≤ob∧ob≤100∧0≤oc∧oc≤7
  ·obtain ⟨r,rfl⟩:∃r:Nat,oa=r:=⟨oa.toNat,by omega⟩
   have hr':r<al.length∧1≤ob∧ob≤100∧0≤oc∧oc≤7:=by omega
   exact js (AT hS h hV' r hr') fun j hj=>⟨h.sub hr' hj,fun e=>by cases e⟩
  ·exact js (A3 h hr) fun j hj=>⟨by rw [hj];exact h.mono,fun e=>by cases e⟩
 by_cases h2:kd=2
 ·subst h2
  exact kX hT hV rfl Tryz.call26 fun R' hT' hV'=>js (Cr h hV') fun j hj=>⟨h.can hj,fun e=>by cases e⟩
 by_cases h3:kd=3
 ·subst h3
  exact kX hT hV rfl Tryz.call27 fun R' hT' hV'=>js (BR hS h hi hV') fun j hj=>⟨h.tic h8 hj,fun e=>by cases e⟩
 by_cases h4:kd=4
 ·subst h4
  exact kX hT hV rfl Tryz.call28 fun R' hT' hV'=>js (yX hS h hi hT') fun j hj=>⟨h.dsp h8 hj,fun _=>hj⟩
 by_cases h5:kd=5
 ·subst h5
  exact kX hT hV rfl Tryz.call29 fun R' hT' hV'=>js (AP hS h hi hV') fun j hj=>⟨h.ans hj,fun e=>by cases e⟩
 by_cases h6:kd=6
 ·subst h6
  refine kX hT hV rfl Tryz.call30 fun R' hT' hV'=>?_
  by_cases hr:oa<0∨oa≥T.x.m
  ·exact js (Bo hr) fun j hj=>⟨by rw [hj];exact h.mono,fun e=>by cases e⟩
  ·obtain ⟨r,rfl⟩:∃r:Nat,oa=r:=⟨oa.toNat,by omega⟩
   exact js (AW r (by omega)) fun j hj=>⟨by rw [hj.1];exact h.mono,fun e=>by cases e⟩
 refine fR (fun w=>id) (At (A1:=nT e T) (by simp [Cv,mL, *])) ?_
 rintro u M ⟨rfl,rfl⟩
 exact ⟨_,⟨⟨T,0,0,0,0,0,1⟩,⟨h.mono,fun e=>absurd e h4⟩,rfl,rfl⟩,fun w hw=>hw⟩
theorem qM(t:Nat)(ht:t<T.x.n):Ok Tryz.prog 11 [.pointer (some ⟨e,0,none⟩),.int .i64 (t:Int)] (cO e T::R) (fun u M=>u=.int .i64 (T.y.s.stt t)∧M=cO e T::R):=
 fR (fun w=>gq) (AC (x:=T.x) (s:=T.y.s) t ht) (by rintro u M ⟨rfl,rfl⟩;exact ⟨_,⟨rfl,rfl⟩,fun w h=>Sat.join.2 h⟩)
theorem vA(r:Nat)(hr:r<T.x.m):Ok Tryz.prog 16 [.pointer (some ⟨e,0,none⟩),.int .i64 (r:Int)] (cO e T::R) (fun u M=>u=.tuple #[.agg #[.int .i64 (T.y.s.rq.getD r Rq.z).root,.int .i64 (T.y.s.rq.getD r Rq.z).wt,.int .i64 (T.y.s.rq.getD r Rq.z).pr],.int .i64 (T.y.s.rq.getD r Rq.z).st,.bool true]∧M=cO e T::R):=
 fR (fun w=>gq) (wK (x:=T.x) (s:=T.y.s) r hr) (by rintro u M ⟨rfl,rfl⟩;exact ⟨_,⟨rfl,rfl⟩,fun w h=>Sat.join.2 h⟩)
theorem yf{f:FuncId}{args:List Value}{L':List HP}{ty k n:Nat}{cs:List Value}(hp:(nT e T++R).Perm L')(h:Ok Tryz.prog f args L' (dZ ty k n cs L')):Ok Tryz.prog f args (cO e T::R) (dZ ty k n cs (cO e T::R)):=
 fR (fun w hs=>(gq hs).perm hp) h (by
  rintro u M ⟨bs,cp,h1,h2,h3,rfl⟩
  refine ⟨_,⟨bs,cp,h1,h2,h3,rfl⟩,fun w hw=>?_⟩
  have h4:=(hw.perm (hp.symm.cons _)).perm List.perm_middle.symm
  exact (Sat.join.2 h4:Sat (cO e T::_) w).perm (List.Perm.swap _ _ _))
theorem wi(h:GR c al i T):Ok Tryz.prog 20 [.pointer (some ⟨e,0,none⟩)] (cO e T::R) (dZ 3 1 T.y.as.a.length (aF .i64 T.y.as.a) (cO e T::R)):=
 yf ((bX [_,_,_,_,_,_] _).trans (bX [_] _)) (vF (x:=T.x) (s:=T.y.s) (y:=T.y.as) (by have:=h.ov.ao.la;have:=h.ov.ao.lq;have:=h.a4;have:=h.q4;omega))
theorem z8(t:Int):Ok Tryz.prog 21 [.pointer (some ⟨e,0,none⟩),.int .i64 t] (cO e T::R) (dZ 3 1 (cP T.es t).length (aF .i64 (cP T.es t)) (cO e T::R)):=
 yf ((bX [_,_,_,_] _).trans (bX [_] _)) (Aw (x:=T.x) (s:=T.y.s) t)
theorem uw(h:GR c al i T)(hi:i≤1000):Ok Tryz.prog 12 [.pointer (some ⟨e,0,none⟩)] (cO e T::R) (dZ 45 5 T.y.s.lg.length (bJ gH T.y.s.lg) (cO e T::R)):=
 yf (List.Perm.refl _) (B5 (x:=T.x) (s:=T.y.s) (by have:=h.lg;omega))
theorem B6{n cb:Nat}{bb:Option Addr}(hS:Sml c al)(hln:al.length=n)(hb:Rd R bb (df al))(okb:bB bb n):Ok Tryz.prog 18 [.agg (Be c).toArray,.slice bb n cb] R (fun u M=> ∃(e:Nat) (T:YG),NewG c al T∧u=.tuple #[.pointer (some ⟨e,0,none⟩),.int .i64 0]∧M=cO e T::R):=
 fR (fun w hs=>hs) (zr al hS.cf hln (by have:=hS.n;omega) (fun k hk=>by have:=hS.ts k (by omega);have:=hS.cf.bud;omega) hb okb) (by
  rintro u M ⟨e,x,hp,hxn,hxm,rfl,rfl⟩
  exact ⟨_,⟨e,⟨x,⟨wH c al,[],0,⟨[],[]⟩⟩,lG c,_,hp,_,BX c.qu,max c.act 1,max c.que 0,[]⟩,⟨rfl,rfl,rfl,hxn.trans hln.symm,hxm,rfl,rfl,by show b8 _≤x.n;unfold b8;omega⟩,rfl,rfl⟩,fun w h=>Sat.join.2 h⟩)
theorem BU(hS:Sml c al)(h:GR c al i T)(hT:Tab R)(hV:VTab vr R)(root:Nat)(hr:root<al.length∧1≤ob∧ob≤100∧0≤oc∧oc≤7):Ok Tryz.prog 13 [.pointer (some ⟨e,0,none⟩),.agg #[.int .i64 1,.int .i64 (root:Int),.int .i64 ob,.int .i64 oc,.int .i64 od]] (cO e T::R) (fun u M=> ∃j:YV,(zj T root ob oc j∧GR c al (i+1) j.T)∧u=j.v∧M=cO e j.T::R):=
 kX hT hV rfl Tryz.call25 fun R' hT' hV'=>js (AT hS h hV' root hr) fun j hj=>⟨hj,h.sub hr hj⟩
theorem zJ(hS:Sml c al)(h:GR c al i T)(hi:i≤1000)(hT:Tab R)(hV:VTab vr R):Ok Tryz.prog 13 [.pointer (some ⟨e,0,none⟩),.agg #[.int .i64 4,.int .i64 oa,.int .i64 ob,.int .i64 oc,.int .i64 od]] (cO e T::R) (fun u M=> ∃j:YV,(vU T j∧GR c al (i+1) j.T)∧u=j.v∧M=cO e j.T::R):=
 kX hT hV rfl Tryz.call28 fun R' hT' hV'=>js (yX hS h hi hT') fun j hj=>⟨hj,h.dsp hS.n hj⟩
theorem BP(hS:Sml c al)(h:GR c al i T)(hi:i≤1000)(hT:Tab R)(hV:VTab vr R):Ok Tryz.prog 13 [.pointer (some ⟨e,0,none⟩),.agg #[.int .i64 5,.int .i64 oa,.int .i64 ob,.int .i64 oc,.int .i64 od]] (cO e T::R) (fun u M=> ∃j:YV,Ai T oa ob oc j∧u=j.v∧M=cO e j.T::R):=
 kX hT hV rfl Tryz.call29 fun R' hT' hV'=>AP hS h hi hV'
theorem A6(hT:Tab R)(hV:VTab vr R)(r:Nat)(hr:r<T.x.m):Ok Tryz.prog 13 [.pointer (some ⟨e,0,none⟩),.agg #[.int .i64 6,.int .i64 (r:Int),.int .i64 ob,.int .i64 oc,.int .i64 od]] (cO e T::R) (fun u M=> ∃j:YV,(j.T=T∧j.f=0∧j.b=(T.y.s.rq.getD r Rq.z).st)∧u=j.v∧M=cO e j.T::R):=
 kX hT hV rfl Tryz.call30 fun R' hT' hV'=>AW r hr
theorem Bp{w:World}(hs:Sat (cO e T::R) w):T.y.s.lf.length=T.x.n∧T.x.m≤64:=by have h:=dG (gq hs:Sat (bQ e T.x T.y.s::_) w);exact ⟨h.ln,h.mb⟩
theorem Bv{w:World}(hs:Sat (cO e T::R) w):GOk T.x.n T.es:=fH ((gq hs).perm (bX [_,_,_,_] _))
end
end Go.Proofs.YtanfdikglplkaaaGreatDoor
