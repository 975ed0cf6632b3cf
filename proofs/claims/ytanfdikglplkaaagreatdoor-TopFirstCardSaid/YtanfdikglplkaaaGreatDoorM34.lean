/- Parts Fg, Fh, Fi: own lemmas and contracts of the code that the claim reaches. -/
import Derived.Test.YtanfdikglplkaaaGreatDoorM03
import Derived.Test.YtanfdikglplkaaaGreatDoorM04
import Derived.Test.YtanfdikglplkaaaGreatDoorM33
import Derived.Test.YtanfdikglplkaaaGreatDoorM13
import Derived.Test.YtanfdikglplkaaaGreatDoorM24
import Derived.Test.YtanfdikglplkaaaGreatDoorM23
import Derived.Test.YtanfdikglplkaaaGreatDoorM12
set_option linter.unusedSimpArgs false
set_option linter.unusedVariables false
set_option maxRecDepth 100000
namespace Go.Proofs.YtanfdikglplkaaaGreatDoor
open Go Go.Proofs Sp
set_option maxHeartbeats 4000000 in
theorem xo{R:List HP}{e:Nat}{x:EP}{q A Q:Int}{y:OS}{vr:Nat}{es:Es}{tp9 n:Nat}{ks:Ks}{ld:Led}{okd oa ob oc od9:Int}(hid:HidL x.n ld)(hl:y.s.lg.length≤1000000000)(hcf:CfgOk y.s.c)(hy:OvOk x.n x.m A Q y)(hA:A≤400∧Q≤400)(hV:VTab vr R):
 Ok Tryz.prog 29 [(vP e 0),(.agg #[(vI okd),(vI oa),(vI ob),(vI oc),(vI od9)])] ((bQ e x y.s)::(dz x.ld ld)::(bI x.tp [(vP tp9 0)] 132)::(cL tp9 n ks)::(aT x.g x.n es)::(bF x.tn q y.ms y.ta)::(dv x.ad A Q y.as)::R)
  (fun u M=> ∃(er:Int) (z:OS) (es':Es) (ld':Led) (ks':Ks) (rt rs:Int),Cf x.n x.m A Q es y ld oa ob oc er z es' ld'∧u=.tuple #[.agg #[.int .i64 0,.int .i64 rs,.int .i64 rt,.int .i64 0,.int .i64 0],.int .i64 er]∧M=bQ e x z.s::dz x.ld ld'::bI x.tp [.pointer (some ⟨tp9,0,none⟩)] 132::cL tp9 n ks'::aT x.g x.n es'::bF x.tn q z.ms z.ta::dv x.ad A Q z.as::R):=by
 refine aP (N:=120) Tryz.func29 rfl rfl rfl (fun W=>?_)
 refine aY (fun _ h=>dG h) (fun hE=>?_)
 have hE_nb:=hE.nb
 have hE_mb:=hE.mb
 have hE_tn:=hE.tn
 have hE_ln:=hE.ln
 have hE_mn:=hE.mn
 have hn0:=hE.n0
 refine av (fun _ hK1=>?_)
 refine tm rfl (cZ rfl rfl) ?_
 rintro _ _ ⟨b1,rfl,rfl⟩
 refine tm rfl (cD CR rfl) ?_
 rintro _ _ ⟨b2,rfl,rfl⟩
 refine aA rfl (td hK1 (ai (fun _ hK2=>?_)))
 refine bz (γ:=Unit) (n:=12) Tryz.mixed rfl rfl (fun _ S=>True) (fun _=>[(0,9,(vP e 0)),(1,10,(vP e 0)),(2,11,(vP e 15)),(3,12,(vP x.ld 0)),(4,13,(vP b1 1)),(5,14,(vI oa)),(6,15,(.tuple #[(vI (ld.atI oa)),(.bool (ld.atB oa))])),(7,8,(.tuple #[(vI (ld.atI oa)),(.bool (ld.atB oa))])),(8,16,(vI (ld.atI oa))),(9,17,(.bool (ld.atB oa))),(10,6,(vI (ld.atI oa))),(11,7,(.bool (ld.atB oa)))]) (fun _ S=>(bI b2 [(vI 0),(vI 0),(vI 0),(vI 0),(vI 0)] 40)::(bI b1 [(vI okd),(vI oa),(vI ob),(vI oc),(vI od9)] 32)::(bQ e x y.s)::(dz x.ld ld)::(bI x.tp [(vP tp9 0)] 132)::(cL tp9 n ks)::(aT x.g x.n es)::(bF x.tn q y.ms y.ta)::(dv x.ad A Q y.as)::R) (()) trivial (fun _ h=>h) (fun _ _ h=>h) ?_ ?_
 ·refine ⟨aU,bW,bL CJ rfl DK,dB DL rr rr fun _ _=>bu (v:=(vP x.ld 0)) (.tail _ (.tail _ (.head _))) (fun _ _=>rfl),bL CQ rfl CG,db CH fun _ _=>aa (.tail _ (.head _)) rfl,?_,aU,?_,?_,fh,fh,trivial⟩
  ·rintro _ S hF hS D hp K hK
   try dsimp only at hF⊢
   refine bZ hp [12,14] rfl rfl ?_
   refine aS ?_
   refine bN Tryz.call61 rfl (BJ (d:=ld) oa) ?_
   rintro _ _ ⟨rfl,rfl⟩
   refine aS (aS (aS ?_))
   exact cK hp hS (ti (hK () trivial)) rfl rfl rfl
  ·intro _ S h s D p K k;exact bH (bE p 7 rfl rfl) (aW rfl rfl) 8 rfl rfl s (k () h)
  ·intro _ S h s D p K k;exact bH (bE p 7 rfl rfl) (aW rfl rfl) 9 rfl rfl s (k () h)
 ·rintro _ hF
  try dsimp only at hF⊢
  refine az (E':=[(0,(vP e 0)),(1,(.agg #[(vI okd),(vI oa),(vI ob),(vI oc),(vI od9)])),(3,(vP b1 0)),(4,(vP b2 0)),(5,(vI 0)),(6,(vI (ld.atI oa))),(7,(.bool (ld.atB oa)))]) ⟨rfl,rfl,rfl,rfl,rfl,rfl,rfl,trivial⟩ ?_
  refine qn hK2 (ai (fun K3 hK3=>?_))
  have hM3:∀(t:Nat),ld.atI oa=t∧t<x.n∧1≤oc∧oc≤3∧(oc=3→0≤od9∧od9<x.n)→cd K3 W 120 [(0,(.pointer (some ⟨e,0,none⟩))),(1,(.agg #[(.int .i64 okd),(.int .i64 oa),(.int .i64 ob),(.int .i64 oc),(.int .i64 od9)])),(3,(.pointer (some ⟨b1,0,none⟩))),(4,(.pointer (some ⟨b2,0,none⟩))),(6,(.int .i64 (t:Int))),(7,(.bool (ld.atB oa)))] ((bI b2 [(.int .i64 0),(.int .i64 0),(.int .i64 0),(.int .i64 0),(.int .i64 0)] 40)::(bI b1 [(.int .i64 okd),(.int .i64 oa),(.int .i64 ob),(.int .i64 oc),(.int .i64 od9)] 32)::(bQ e x y.s)::(dz x.ld ld)::(bI x.tp [(.pointer (some ⟨tp9,0,none⟩))] 132)::(cL tp9 n ks)::(aT x.g x.n es)::(bF x.tn q y.ms y.ta)::(dv x.ad A Q y.as)::R):=by
   rintro t hF
   obtain ⟨hat,htn,hc1,hc3,hcd⟩:=hF
   refine hK3 _ _ ?_
   refine av (fun _ hK4=>ag rfl (bU 3 CQ rfl CG rfl rfl (bK CH rfl (aa (.tail _ (.head _)) rfl) (tp rfl (aX (c:=oc+2) rfl rfl (cA (by omega) (by omega))) ?_))))
   refine tp rfl (eR (c:=(oc+2)-1) rfl rfl (cA (by omega) (by omega))) ?_
   refine ag rfl (cN (cN (cN (cN ?_))))
   refine bN Tryz.call49 rfl (qA (x:=x) (s:=y.s) (ld:=ld) (ks:=ks) ((oc+2)-1) t (by omega) hl) ?_
   rintro _ _ ⟨rfl,rfl⟩
   refine td hK4 (ai (fun K5 hK5=>?_))
   have hM5:∀(z:OS) (es2:Es) (ks2:Ks),KpO x.n x.m A Q (⟨(y.s.addLg (g7 y.s ld (oc+2-1) (t:Int))),y.ms,y.ta,y.as⟩:OS) z∧(oc=1→es2=es∧∃sf,Foll es (mU y.s ld t) sf∧Ov {y with s:=sf} z∧z.calm)→cd K5 W 120 [(0,(.pointer (some ⟨e,0,none⟩))),(1,(.agg #[(.int .i64 okd),(.int .i64 oa),(.int .i64 ob),(.int .i64 oc),(.int .i64 od9)])),(3,(.pointer (some ⟨b1,0,none⟩))),(4,(.pointer (some ⟨b2,0,none⟩))),(6,(.int .i64 (t:Int))),(7,(.bool (ld.atB oa)))] ((bQ e x z.s)::(dz x.ld (ld.drop (t:Int)))::(bI x.tp [(.pointer (some ⟨tp9,0,none⟩))] 132)::(cL tp9 n ks2)::(bI b2 [(.int .i64 0),(.int .i64 0),(.int .i64 0),(.int .i64 0),(.int .i64 0)] 40)::(bI b1 [(.int .i64 okd),(.int .i64 oa),(.int .i64 ob),(.int .i64 oc),(.int .i64 od9)] 32)::(aT x.g x.n es2)::(bF x.tn q z.ms z.ta)::(dv x.ad A Q z.as)::R):=by
    rintro z es2 ks2 hF
    obtain ⟨hkz,hdid⟩:=hF
    refine hK5 _ _ ?_
    refine av (fun _ hK6=>?_)
    refine aY (fun _ h=>dG h) (fun hE=>?_)
    have hE_nb:=hE.nb
    have hE_mb:=hE.mb
    have hE_tn:=hE.tn
    have hE_ln:=hE.ln
    have hE_mn:=hE.mn
    refine ag rfl (ag rfl (cV rfl (bU 11 CJ rfl C9 rfl rfl (bK Dc rfl (bu (v:=(.slice x.bt x.n x.ct)) (.head _) (fun _ _=>rfl)) (ag rfl (tp rfl (ah (k':=t) C6 De rfl rfl hE.okt (by omega) (by omega) (by omega)) ?_))))))
    refine bK Df rfl (dT (i:=t) (.head _) (by omega)) ?_
    refine cV rfl (bU 2 CP rfl CU rfl rfl (bK CV rfl (bY (i:=t) (v:=(.pointer (some ⟨(x.ks.getD t (0,0)).2,0,none⟩))) (.head _) (by omega) rfl) ?_))
    refine bN DF rfl (dK (i:=t) (by omega) (fun _=>fc _)) ?_
    rintro _ _ ⟨rfl,rfl⟩
    refine tp rfl (bG (cs:=[(vI 0),(vI ((z.s.lf.getD t Lf.z).st)),(vN t),(vI 0),(vI 0)]) (pl:=[(0,1),(1,1),(2,1),(3,1),(4,1)]) CT CR (fun _=>by simp) rfl rfl) ?_
    refine de ?_
    refine ts (bn (news:=[(vI 0),(vI ((z.s.lf.getD t Lf.z).st)),(vN t),(vI 0),(vI 0)]) CM rfl rfl rfl rfl (nB rfl) rfl) ?_
    refine aA rfl (td hK6 (ay (cN (ak ?_))))
    refine dD (cs:=[(vI 0),(vI ((z.s.lf.getD t Lf.z).st)),(vN t),(vI 0),(vI 0)]) rfl rfl rfl C3 CM (bh (aa (.head _) rfl) (aa (.head _) rfl) (aa (.head _) rfl) (aa (.head _) rfl) (aa (.head _) rfl)) (fun _ h=>h.drop) ?_
    exact ⟨0,z,_,_,_,_,_,.inr ⟨rfl,t,_,hat,rfl,hkz,hdid⟩,rfl,rfl⟩
   refine aH (av (fun _ hK6=>bU 3 CQ rfl CG rfl rfl (bK CH rfl (aa (.tail _ (.tail _ (.tail _ (.tail _ (.tail _ (.head _)))))) rfl) ?_)))
   by_cases h3:oc=1
   ·refine tp rfl (aV rfl rfl (beq_iff_eq.2 h3)) (aA rfl (td hK6 (aG rfl (av (fun _ hK7=>ag rfl (cV rfl (bU 11 CJ rfl C9 rfl rfl ?_)))))))
    refine bK Dc rfl (bu (v:=(.slice x.bt x.n x.ct)) (.head _) (fun _ _=>rfl)) (ag rfl (tp rfl (ah (k':=t) C6 De rfl rfl hE.okt (by omega) (by omega) (by omega)) ?_))
    refine bK Df rfl (dT (i:=t) (.head _) (by omega)) ?_
    refine cV rfl (bU 2 CP rfl CU rfl rfl (bK CV rfl (bY (i:=t) (v:=(.pointer (some ⟨(x.ks.getD t (0,0)).2,0,none⟩))) (.head _) (by omega) rfl) ?_))
    refine bN Tryz.call63 rfl (fj (i:=t) (y:=pj (y.s.lf.getD t Lf.z)) (by omega) (fun h=>h.end_) (fun h _=>z9 _ h)) ?_
    rintro _ _ ⟨rfl,rfl⟩
    refine td hK7 (aj (ag rfl (ag rfl (dR (dR (dR (aS ?_)))))))
    refine bN Ee rfl (iI (x:=x) (y:=⟨(y.s.addLg (g7 y.s ld (oc+2-1) (t:Int))).lfu t pj,y.ms,y.ta,y.as⟩) (A:=A) (Q:=Q) t (by omega) (hy.fol rfl) hA (VTab.cons (VTab.cons (VTab.cons (VTab.cons (VTab.cons hV)))))) ?_
    rintro _ _ ⟨sf5,yo4,hsf5f,hyo4v,hyo4c,rfl,rfl⟩
    refine aI (aZ (aN (aS (aS (aS (dR (dR (dR (dR ?_)))))))))
    refine dR (dR ?_)
    exact az (by exact ⟨rfl,rfl,rfl,rfl,rfl,rfl,trivial⟩) (hM5 yo4 es (jq ks (t:Int)) ⟨KpO.trans (KpO.of (s':=((y.s.addLg (g7 y.s ld (oc+2-1) (t:Int))).lfu t pj)) (hy.fol rfl) rfl (Kp.lfu _ _ (lh 2 5))) (KpO.set (y:=⟨((y.s.addLg (g7 y.s ld (oc+2-1) (t:Int))).lfu t pj),y.ms,y.ta,y.as⟩) (hy.fol rfl) hsf5f hyo4v),fun hc=>⟨rfl,sf5,by subst hc;exact hsf5f,hyo4v,hyo4c⟩⟩)
   ·refine tp rfl (aV rfl rfl (beq_eq_false_iff_ne.2 h3)) (aA rfl (td hK6 (ar rfl (ai (fun _ hK7=>?_)))))
    by_cases h6:oc=2
    ·refine bz (γ:=Unit) (n:=14) Tryz.mixed rfl rfl (fun _ S=>True) (fun _=>[(0,91,(vP b1 3)),(1,92,(vI oc)),(2,93,(.bool true)),(3,94,(.bool true)),(4,95,undef),(5,96,undef),(6,97,undef),(7,98,undef),(8,99,undef),(9,100,undef),(10,101,undef),(11,102,undef),(12,103,(.bool true)),(13,90,(.bool true))]) (fun _ S=>(bQ e x (y.s.addLg (g7 y.s ld ((oc+2)-1) (t:Int))))::(dz x.ld (ld.drop (t:Int)))::(bI x.tp [(vP tp9 0)] 132)::(cL tp9 n (jq ks (t:Int)))::(bI b2 [(vI 0),(vI 0),(vI 0),(vI 0),(vI 0)] 40)::(bI b1 [(vI okd),(vI oa),(vI ob),(vI oc),(vI od9)] 32)::(aT x.g x.n es)::(bF x.tn q y.ms y.ta)::(dv x.ad A Q y.as)::R) (()) trivial (fun _ h=>h) (fun _ _ h=>h) ?_ ?_
     ·refine ⟨bL CQ rfl CG,db CH fun _ _=>aa (.tail _ (.tail _ (.tail _ (.tail _ (.tail _ (.head _)))))) rfl,?_,aU,c7,c7,c7,c7,c7,c7,c7,c7,?_,fh,trivial⟩
      ·intro _ S h s D p K k;exact bH (bE p 1 rfl rfl) (aV rfl rfl (beq_iff_eq.2 h6)) 2 rfl rfl s (k () h)
      ·intro _ S h s D p K k;exact bV (bE p 3 rfl rfl) (bE p 11 rfl rfl) (aL rfl rfl) 12 rfl rfl s (k () h)
     ·rintro _ hF
      try dsimp only at hF⊢
      refine az (E':=[(0,(vP e 0)),(1,(.agg #[(vI okd),(vI oa),(vI ob),(vI oc),(vI od9)])),(3,(vP b1 0)),(4,(vP b2 0)),(6,(vN t)),(7,(.bool (ld.atB oa))),(72,(.bool false)),(90,(.bool true))]) ⟨rfl,rfl,rfl,rfl,rfl,rfl,rfl,rfl,trivial⟩ ?_
      refine qn hK7 (aG rfl (aj (ag rfl (ag rfl (dR (dR (dR (dM (dM ?_)))))))))
      refine cN ?_
      refine bN Tryz.call50 rfl (tR (x:=x) (y:=(⟨y.s.addLg (g7 y.s ld ((oc+2)-1) (t:Int)),y.ms,y.ta,y.as⟩:OS)) (A:=A) (Q:=Q) t (by omega) hcf (hy.fol rfl) hA (VTab.cons (VTab.cons (VTab.cons hV)))) ?_
      rintro _ _ ⟨yo7,ks9,hkp8,rfl,rfl⟩
      refine aI (aZ (aN (cN (cN (cN (dR (dR (eL (eL ?_)))))))))
      refine dR (dR ?_)
      exact az (by exact ⟨rfl,rfl,rfl,rfl,rfl,rfl,trivial⟩) (hM5 yo7 es ks9 ⟨hkp8,fun hc=>by exfalso;omega⟩)
    ·refine bz (γ:=Unit) (n:=14) Tryz.mixed rfl rfl (fun _ S=>True) (fun _=>[(0,91,(vP b1 3)),(1,92,(vI oc)),(2,93,(.bool false)),(3,94,(.bool false)),(4,95,(vP e 0)),(5,96,(vP e 0)),(6,97,(vP e 13)),(7,98,(vP x.g 0)),(8,99,(vN t)),(9,100,(vP b1 4)),(10,101,(vI od9)),(11,102,(.bool (iv es ((t:Int),od9)))),(12,103,(.bool (iv es ((t:Int),od9)))),(13,90,(.bool (iv es ((t:Int),od9))))]) (fun _ S=>(bQ e x (y.s.addLg (g7 y.s ld ((oc+2)-1) (t:Int))))::(dz x.ld (ld.drop (t:Int)))::(bI x.tp [(vP tp9 0)] 132)::(cL tp9 n (jq ks (t:Int)))::(bI b2 [(vI 0),(vI 0),(vI 0),(vI 0),(vI 0)] 40)::(bI b1 [(vI okd),(vI oa),(vI ob),(vI oc),(vI od9)] 32)::(aT x.g x.n es)::(bF x.tn q y.ms y.ta)::(dv x.ad A Q y.as)::R) (()) trivial (fun _ h=>h) (fun _ _ h=>h) ?_ ?_
     ·refine ⟨bL CQ rfl CG,db CH fun _ _=>aa (.tail _ (.tail _ (.tail _ (.tail _ (.tail _ (.head _)))))) rfl,?_,aU,dd aU,dd bW,dd (bL CJ rfl DZ),dd (dB DN rr rr fun _ _=>bu (v:=(vP x.g 0)) (.head _) (fun _ _=>rfl)),dd aU,dd (bL CQ rfl CG),dd (db CH fun _ _=>aa (.tail _ (.tail _ (.tail _ (.tail _ (.tail _ (.head _)))))) rfl),?_,?_,fh,trivial⟩
      ·intro _ S h s D p K k;exact bH (bE p 1 rfl rfl) (aV rfl rfl (beq_eq_false_iff_ne.2 h6)) 2 rfl rfl s (k () h)
      ·rintro _ S hF hS D hp K hK
       try dsimp only at hF⊢
       refine bZ hp [94,98,99,101] rfl rfl ?_
       refine ae rfl rfl ?_
       refine dM ?_
       refine bN Tryz.call65 rfl (Aj (N:=x.n) (es:=es) (t:Int) od9) ?_
       rintro _ _ ⟨rfl,rfl⟩
       refine dM (dM (dM (dM (dM (dM ?_)))))
       exact cK hp hS (ti (hK () trivial)) rfl rfl rfl
      ·intro _ S h s D p K k;exact bV (bE p 3 rfl rfl) (bE p 11 rfl rfl) (aC rfl rfl) 12 rfl rfl s (k () h)
     ·rintro _ hF
      try dsimp only at hF⊢
      refine az (E':=[(0,(vP e 0)),(1,(.agg #[(vI okd),(vI oa),(vI ob),(vI oc),(vI od9)])),(3,(vP b1 0)),(4,(vP b2 0)),(6,(vN t)),(7,(.bool (ld.atB oa))),(72,(.bool false)),(90,(.bool (iv es ((t:Int),od9))))]) ⟨rfl,rfl,rfl,rfl,rfl,rfl,rfl,rfl,trivial⟩ ?_
      refine qn hK7 ?_
      refine cW rfl (fun c10=>?_) (fun c10=>?_)
      ·try (have hft:=c10;simp at hft)
       refine aj (ag rfl (ag rfl (dR (dR (dR (dM (dM (cN ?_))))))))
       refine bN Tryz.call50 rfl (tR (x:=x) (y:=(⟨y.s.addLg (g7 y.s ld ((oc+2)-1) (t:Int)),y.ms,y.ta,y.as⟩:OS)) (A:=A) (Q:=Q) t (by omega) hcf (hy.fol rfl) hA (VTab.cons (VTab.cons (VTab.cons hV)))) ?_
       rintro _ _ ⟨yo11,ks13,hkp12,rfl,rfl⟩
       refine aI (aZ (aN (cN (cN (cN (dR (dR (eL (eL ?_)))))))))
       refine dR (dR ?_)
       exact az (by exact ⟨rfl,rfl,rfl,rfl,rfl,rfl,trivial⟩) (hM5 yo11 es ks13 ⟨hkp12,fun hc=>by exfalso;omega⟩)
      ·try (have hft:=c10;simp at hft)
       refine aj ?_
       obtain ⟨d,rfl⟩:∃d:Nat,od9=(d:Int):=⟨od9.toNat,by omega⟩
       refine ag rfl (ag rfl (bU 4 CQ rfl CG rfl rfl (bK CH rfl (aa (.tail _ (.tail _ (.tail _ (.tail _ (.tail _ (.head _)))))) rfl) (dR (dR (dR (aS ?_)))))))
       refine bN Tryz.call66 rfl (zU (x:=x) (y:=(⟨y.s.addLg (g7 y.s ld ((oc+2)-1) (t:Int)),y.ms,y.ta,y.as⟩:OS)) (A:=A) (Q:=Q) t d (by omega) (hy.fol rfl) hA (VTab.cons (VTab.cons (VTab.cons (VTab.cons (VTab.cons hV)))))) ?_
       rintro _ _ ⟨yo14,es16,hkp15,rfl,rfl⟩
       refine aI (aZ (aN (aS (aS (aS (dR (dR (dR (dR ?_)))))))))
       refine dR (dR ?_)
       exact az (by exact ⟨rfl,rfl,rfl,rfl,rfl,rfl,trivial⟩) (hM5 yo14 es16 (jq ks (t:Int)) ⟨hkp15,fun hc=>by exfalso;omega⟩)
  refine aH (av (fun _ hK4=>ag rfl (tp rfl (dy (c:= !(ld.atB oa)) rfl rfl) (aA rfl (td hK4 ?_)))))
  refine cW rfl (fun c17=>?_) (fun c17=>?_)
  ·try (have hft:=c17;simp at hft)
   refine av (fun K5 hK5=>tp rfl (bG (cs:=[(vI 0),(vI 0),(vI 0),(vI 0),(vI 0)]) (pl:=[(0,1),(1,1),(2,1),(3,1),(4,1)]) CT CR (fun _=>by simp) rfl rfl) ?_)
   refine ts (bn (news:=[(vI 0),(vI 0),(vI 0),(vI 0),(vI 0)]) CM rfl rfl rfl rfl (nB rfl) rfl) ?_
   refine aA rfl (td hK5 (ay ?_))
   refine cH ?_
   refine aK ?_
   refine aE (ak ?_)
   refine dD (cs:=[(vI 0),(vI 0),(vI 0),(vI 0),(vI 0)]) rfl rfl rfl C3 CM (bh (aa (.head _) rfl) (aa (.head _) rfl) (aa (.head _) rfl) (aa (.head _) rfl) (aa (.head _) rfl)) (fun _ h=>h.drop) ?_
   exact ⟨6,y,es,ld,ks,0,0,.inl ⟨by decide,rfl,rfl,rfl,fun hh=>absurd hh (by simpa using hft)⟩,rfl,rfl⟩
  ·try (have hft:=c17;simp at hft)
   refine ai (fun K5 hK5=>?_)
   obtain ⟨t,hat,htn⟩:=hid.at_ (s:=oa) (by simpa using hft)
   rw [hat]
   by_cases h18:(jP (y.s.lf.getD t Lf.z) ob)=0
   ·refine bz (γ:=Unit) (n:=15) Tryz.mixed rfl rfl (fun _ S=>True) (fun _=>[(0,23,(vP e 0)),(1,24,(vP e 0)),(2,25,(vP e 11)),(3,26,(.slice x.bt x.n x.ct)),(4,27,(vN t)),(5,28,(.pointer (some (ad x.bt t)))),(6,29,(.pointer (some ⟨(x.ks.getD t (0,0)).1,0,none⟩))),(7,30,(.pointer (some ⟨(x.ks.getD t (0,0)).1,0,none⟩))),(8,31,(.pointer (some ⟨(x.ks.getD t (0,0)).1,2,none⟩))),(9,32,(.pointer (some ⟨(x.ks.getD t (0,0)).2,0,none⟩))),(10,33,(vP b1 2)),(11,34,(vI ob)),(12,35,(vI (jP (y.s.lf.getD t Lf.z) ob))),(13,36,(.bool false)),(14,22,(.bool false))]) (fun _ S=>(bI b2 [(vI 0),(vI 0),(vI 0),(vI 0),(vI 0)] 40)::(bI b1 [(vI okd),(vI oa),(vI ob),(vI oc),(vI od9)] 32)::(bQ e x y.s)::(dz x.ld ld)::(bI x.tp [(vP tp9 0)] 132)::(cL tp9 n ks)::(aT x.g x.n es)::(bF x.tn q y.ms y.ta)::(dv x.ad A Q y.as)::R) (()) trivial (fun _ h=>h) (fun _ _ h=>h) ?_ ?_
    ·refine ⟨aU,bW,bL CJ rfl C9,dB Dc rr rr fun _ _=>bu (v:=(.slice x.bt x.n x.ct)) (.tail _ (.tail _ (.head _))) (fun _ _=>rfl),aU,eJ C6 De rr rr rr fun _=>⟨hE.okt,by omega,by omega,by omega⟩,dB Df rr rr fun _ _=>dT (i:=t) (.tail _ (.tail _ (.head _))) (by omega),bW,bL CP rfl CU,dB CV rr rr fun _ _=>bY (i:=t) (v:=(.pointer (some ⟨(x.ks.getD t (0,0)).2,0,none⟩))) (.tail _ (.tail _ (.head _))) (by omega) rfl,bL CQ rfl CG,db CH fun _ _=>aa (.tail _ (.head _)) rfl,?_,?_,fh,trivial⟩
     ·rintro _ S hF hS D hp K hK
      try dsimp only at hF⊢
      refine bZ hp [32,34] rfl rfl ?_
      refine aR ?_
      refine bN Tryz.call62 rfl (dK (i:=t) (by omega) (fun _=>pP _ ob)) ?_
      rintro _ _ ⟨rfl,rfl⟩
      refine aR (aR ?_)
      exact cK hp hS (ti (hK () trivial)) rfl rfl rfl
     ·intro _ S h s D p K k;exact bH (bE p 12 rfl rfl) (cG rfl rfl (bne_eq_false_iff_eq.2 h18)) 13 rfl rfl s (k () h)
    ·rintro _ hF
     try dsimp only at hF⊢
     refine az (E':=[(0,(vP e 0)),(1,(.agg #[(vI okd),(vI oa),(vI ob),(vI oc),(vI od9)])),(3,(vP b1 0)),(4,(vP b2 0)),(5,(vI 0)),(6,(vN t)),(7,(.bool (ld.atB oa))),(18,(.bool (!(ld.atB oa)))),(22,(.bool false))]) ⟨rfl,rfl,rfl,rfl,rfl,rfl,rfl,rfl,rfl,trivial⟩ ?_
     refine qn hK5 (ar rfl (av (fun _ hK6=>bU 3 CQ rfl CG rfl rfl (bK CH rfl (aa (.tail _ (.head _)) rfl) ?_))))
     by_cases h19:oc<1
     ·refine tp rfl (aJ rfl rfl (decide_eq_true h19)) (ag rfl ?_)
      refine aq rfl rfl rfl ?_
      refine aq rfl rfl rfl ?_
      refine aq rfl rfl rfl ?_
      refine tp rfl (aL rfl rfl) (ag rfl ?_)
      refine aq rfl rfl rfl ?_
      refine aq rfl rfl rfl ?_
      refine aq rfl rfl rfl ?_
      refine aq rfl rfl rfl ?_
      refine dw rfl rfl rfl ?_
      refine dw rfl rfl rfl ?_
      refine dw rfl rfl rfl ?_
      refine dw rfl rfl rfl ?_
      refine dw rfl rfl rfl ?_
      refine aq rfl rfl rfl ?_
      refine tp rfl (aL rfl rfl) (aA rfl (td hK6 (aG rfl (av (fun _ hK7=>tp rfl (bG (cs:=[(vI 0),(vI 0),(vI 0),(vI 0),(vI 0)]) (pl:=[(0,1),(1,1),(2,1),(3,1),(4,1)]) CT CR (fun _=>by simp) rfl rfl) ?_)))))
      refine ts (bn (news:=[(vI 0),(vI 0),(vI 0),(vI 0),(vI 0)]) CM rfl rfl rfl rfl (nB rfl) rfl) ?_
      refine aA rfl (td hK7 (ay ?_))
      refine cH ?_
      refine aK ?_
      refine aE (ak ?_)
      refine dD (cs:=[(vI 0),(vI 0),(vI 0),(vI 0),(vI 0)]) rfl rfl rfl C3 CM (bh (aa (.head _) rfl) (aa (.head _) rfl) (aa (.head _) rfl) (aa (.head _) rfl) (aa (.head _) rfl)) (fun _ h=>h.drop) ?_
      exact ⟨1,y,es,ld,ks,0,0,.inl ⟨by decide,rfl,rfl,rfl,fun _ hc=>by exfalso;omega⟩,rfl,rfl⟩
     ·refine tp rfl (aJ rfl rfl (decide_eq_false h19)) (ag rfl ?_)
      refine ae rfl rfl ?_
      refine bU 3 CQ rfl CG rfl rfl ?_
      refine ae rfl rfl ?_
      refine bK CH rfl (aa (.tail _ (.head _)) rfl) ?_
      refine ae rfl rfl ?_
      by_cases h20:oc>3
      ·refine tp rfl (cu rfl rfl (decide_eq_true h20)) (tp rfl (aC rfl rfl) (ag rfl ?_))
       refine aq rfl rfl rfl ?_
       refine aq rfl rfl rfl ?_
       refine aq rfl rfl rfl ?_
       refine aq rfl rfl rfl ?_
       refine dw rfl rfl rfl ?_
       refine dw rfl rfl rfl ?_
       refine dw rfl rfl rfl ?_
       refine dw rfl rfl rfl ?_
       refine dw rfl rfl rfl ?_
       refine aq rfl rfl rfl ?_
       refine tp rfl (aL rfl rfl) (aA rfl (td hK6 (aG rfl (av (fun _ hK7=>tp rfl (bG (cs:=[(vI 0),(vI 0),(vI 0),(vI 0),(vI 0)]) (pl:=[(0,1),(1,1),(2,1),(3,1),(4,1)]) CT CR (fun _=>by simp) rfl rfl) ?_)))))
       refine ts (bn (news:=[(vI 0),(vI 0),(vI 0),(vI 0),(vI 0)]) CM rfl rfl rfl rfl (nB rfl) rfl) ?_
       refine aA rfl (td hK7 (ay ?_))
       refine cH ?_
       refine aK ?_
       refine aE (ak ?_)
       refine dD (cs:=[(vI 0),(vI 0),(vI 0),(vI 0),(vI 0)]) rfl rfl rfl C3 CM (bh (aa (.head _) rfl) (aa (.head _) rfl) (aa (.head _) rfl) (aa (.head _) rfl) (aa (.head _) rfl)) (fun _ h=>h.drop) ?_
       exact ⟨1,y,es,ld,ks,0,0,.inl ⟨by decide,rfl,rfl,rfl,fun _ hc=>by exfalso;omega⟩,rfl,rfl⟩
      ·refine tp rfl (cu rfl rfl (decide_eq_false h20)) (tp rfl (aC rfl rfl) (ag rfl ?_))
       refine ae rfl rfl ?_
       refine bU 3 CQ rfl CG rfl rfl ?_
       refine ae rfl rfl ?_
       refine bK CH rfl (aa (.tail _ (.head _)) rfl) ?_
       refine ae rfl rfl ?_
       by_cases h21:oc=3
       ·refine tp rfl (aV rfl rfl (beq_iff_eq.2 h21)) ?_
        refine ae rfl rfl ?_
        refine ag rfl ?_
        refine ae rfl rfl ?_
        refine ag rfl ?_
        refine ae rfl rfl ?_
        refine bU 4 CQ rfl CG rfl rfl ?_
        refine ae rfl rfl ?_
        refine bK CH rfl (aa (.tail _ (.head _)) rfl) ?_
        refine ae rfl rfl ?_
        refine aR ?_
        refine bN Tryz.call22 rfl (nH (x:=x) (s:=y.s) od9) ?_
        rintro _ _ ⟨rfl,rfl⟩
        refine ae rfl rfl ?_
        refine tp rfl (dy (c:= !(decide (0≤od9∧od9<x.n))) rfl rfl) ?_
        refine ae rfl rfl ?_
        refine tp rfl (aL rfl rfl) (tp rfl (aC rfl rfl) (aA rfl (td hK6 ?_)))
        refine cW rfl (fun c22=>?_) (fun c22=>?_)
        ·try (have hft:=c22;simp at hft)
         refine av (fun _ hK7=>tp rfl (bG (cs:=[(vI 0),(vI 0),(vI 0),(vI 0),(vI 0)]) (pl:=[(0,1),(1,1),(2,1),(3,1),(4,1)]) CT CR (fun _=>by simp) rfl rfl) ?_)
         refine aE ?_
         refine ts (bn (news:=[(vI 0),(vI 0),(vI 0),(vI 0),(vI 0)]) CM rfl rfl rfl rfl (nB rfl) rfl) ?_
         refine aA rfl (td hK7 (ay ?_))
         refine cH ?_
         refine aK ?_
         refine aR (ak ?_)
         refine dD (cs:=[(vI 0),(vI 0),(vI 0),(vI 0),(vI 0)]) rfl rfl rfl C3 CM (bh (aa (.head _) rfl) (aa (.head _) rfl) (aa (.head _) rfl) (aa (.head _) rfl) (aa (.head _) rfl)) (fun _ h=>h.drop) ?_
         exact ⟨1,y,es,ld,ks,0,0,.inl ⟨by decide,rfl,rfl,rfl,fun _ hc=>by exfalso;omega⟩,rfl,rfl⟩
        ·try (have hft:=c22;simp at hft)
         refine cS (aZ (aN (aR (aR ?_))))
         exact az (by exact ⟨rfl,rfl,rfl,rfl,rfl,rfl,trivial⟩) (hM3 t ⟨hat,htn,by omega,by omega,fun h=>by omega⟩)
       ·refine tp rfl (aV rfl rfl (beq_eq_false_iff_ne.2 h21)) ?_
        refine ae rfl rfl ?_
        refine ag rfl ?_
        refine aq rfl rfl rfl ?_
        refine aq rfl rfl rfl ?_
        refine aq rfl rfl rfl ?_
        refine aq rfl rfl rfl ?_
        refine aq rfl rfl rfl ?_
        refine ae rfl rfl ?_
        refine tp rfl (aC rfl rfl) (tp rfl (aC rfl rfl) (aA rfl (td hK6 (ar rfl (cS (aZ (aN ?_)))))))
        exact az (by exact ⟨rfl,rfl,rfl,rfl,rfl,rfl,trivial⟩) (hM3 t ⟨hat,htn,by omega,by omega,fun h=>by omega⟩)
   ·refine bz (γ:=Unit) (n:=15) Tryz.mixed rfl rfl (fun _ S=>True) (fun _=>[(0,23,(vP e 0)),(1,24,(vP e 0)),(2,25,(vP e 11)),(3,26,(.slice x.bt x.n x.ct)),(4,27,(vN t)),(5,28,(.pointer (some (ad x.bt t)))),(6,29,(.pointer (some ⟨(x.ks.getD t (0,0)).1,0,none⟩))),(7,30,(.pointer (some ⟨(x.ks.getD t (0,0)).1,0,none⟩))),(8,31,(.pointer (some ⟨(x.ks.getD t (0,0)).1,2,none⟩))),(9,32,(.pointer (some ⟨(x.ks.getD t (0,0)).2,0,none⟩))),(10,33,(vP b1 2)),(11,34,(vI ob)),(12,35,(vI (jP (y.s.lf.getD t Lf.z) ob))),(13,36,(.bool true)),(14,22,(.bool true))]) (fun _ S=>(bI b2 [(vI 0),(vI 0),(vI 0),(vI 0),(vI 0)] 40)::(bI b1 [(vI okd),(vI oa),(vI ob),(vI oc),(vI od9)] 32)::(bQ e x y.s)::(dz x.ld ld)::(bI x.tp [(vP tp9 0)] 132)::(cL tp9 n ks)::(aT x.g x.n es)::(bF x.tn q y.ms y.ta)::(dv x.ad A Q y.as)::R) (()) trivial (fun _ h=>h) (fun _ _ h=>h) ?_ ?_
    ·refine ⟨aU,bW,bL CJ rfl C9,dB Dc rr rr fun _ _=>bu (v:=(.slice x.bt x.n x.ct)) (.tail _ (.tail _ (.head _))) (fun _ _=>rfl),aU,eJ C6 De rr rr rr fun _=>⟨hE.okt,by omega,by omega,by omega⟩,dB Df rr rr fun _ _=>dT (i:=t) (.tail _ (.tail _ (.head _))) (by omega),bW,bL CP rfl CU,dB CV rr rr fun _ _=>bY (i:=t) (v:=(.pointer (some ⟨(x.ks.getD t (0,0)).2,0,none⟩))) (.tail _ (.tail _ (.head _))) (by omega) rfl,bL CQ rfl CG,db CH fun _ _=>aa (.tail _ (.head _)) rfl,?_,?_,fh,trivial⟩
     ·rintro _ S hF hS D hp K hK
      try dsimp only at hF⊢
      refine bZ hp [32,34] rfl rfl ?_
      refine aR ?_
      refine bN Tryz.call62 rfl (dK (i:=t) (by omega) (fun _=>pP _ ob)) ?_
      rintro _ _ ⟨rfl,rfl⟩
      refine aR (aR ?_)
      exact cK hp hS (ti (hK () trivial)) rfl rfl rfl
     ·intro _ S h s D p K k;exact bH (bE p 12 rfl rfl) (cG rfl rfl (bne_iff_ne.2 h18)) 13 rfl rfl s (k () h)
    ·rintro _ hF
     try dsimp only at hF⊢
     refine az (E':=[(0,(vP e 0)),(1,(.agg #[(vI okd),(vI oa),(vI ob),(vI oc),(vI od9)])),(3,(vP b1 0)),(4,(vP b2 0)),(5,(vI 0)),(6,(vN t)),(7,(.bool (ld.atB oa))),(18,(.bool (!(ld.atB oa)))),(22,(.bool true))]) ⟨rfl,rfl,rfl,rfl,rfl,rfl,rfl,rfl,rfl,trivial⟩ ?_
     refine qn hK5 (aG rfl (av (fun _ hK6=>tp rfl (bG (cs:=[(vI 0),(vI 0),(vI 0),(vI 0),(vI 0)]) (pl:=[(0,1),(1,1),(2,1),(3,1),(4,1)]) CT CR (fun _=>by simp) rfl rfl) ?_)))
     refine ts (bn (news:=[(vI 0),(vI 0),(vI 0),(vI 0),(vI 0)]) CM rfl rfl rfl rfl (nB rfl) rfl) ?_
     refine aA rfl (td hK6 (ay ?_))
     refine cH ?_
     refine aK ?_
     refine aE (ak ?_)
     refine dD (cs:=[(vI 0),(vI 0),(vI 0),(vI 0),(vI 0)]) rfl rfl rfl C3 CM (bh (aa (.head _) rfl) (aa (.head _) rfl) (aa (.head _) rfl) (aa (.head _) rfl) (aa (.head _) rfl)) (fun _ h=>h.drop) ?_
     exact ⟨7,y,es,ld,ks,0,0,.inl ⟨by decide,rfl,rfl,rfl,fun _ _=>by rw [hat,Int.toNat_natCast];omega⟩,rfl,rfl⟩
end Go.Proofs.YtanfdikglplkaaaGreatDoor
set_option maxRecDepth 100000
namespace Go.Proofs.YtanfdikglplkaaaGreatDoor
open Go Go.Proofs Sp
theorem AD{R:List HP}{e:Nat}{x:EP}{s:ES}{okd oa ob oc od:Int}(hr:oa<0∨oa≥x.m):
 Ok Tryz.prog 30 [(vP e 0),(.agg #[(vI okd),(vI oa),(vI ob),(vI oc),(vI od)])] ((bQ e x s)::R)
  (fun u M=>u=.tuple #[(.agg #[.int .i64 0,.int .i64 0,.int .i64 0,.int .i64 0,.int .i64 0]),.int .i64 6]∧M=bQ e x s::R):=by
 refine aP (N:=24) Tryz.func30 rfl rfl rfl (fun W=>?_)
 refine aY (fun _ h=>dG h) (fun hE=>?_)
 have hE_nb:=hE.nb
 have hE_mb:=hE.mb
 have hE_tn:=hE.tn
 have hE_ln:=hE.ln
 have hE_mn:=hE.mn
 refine av (fun _ hK1=>?_)
 refine tm rfl (cZ rfl rfl) ?_
 rintro _ _ ⟨b1,rfl,rfl⟩
 refine tm rfl (cD CR rfl) ?_
 rintro _ _ ⟨b2,rfl,rfl⟩
 refine aA rfl (td hK1 (av (fun _ hK2=>ag rfl (bU 1 CQ rfl CG rfl rfl (bK CH rfl (aa (.tail _ (.head _)) rfl) (aR ?_))))))
 refine bN Tryz.call31 rfl (tZ (x:=x) (s:=s) oa hr) ?_
 rintro _ _ ⟨rfl,rfl⟩
 refine aA rfl (td hK2 (ai (fun K3 hK3=>av (fun _ hK4=>ag rfl (tp rfl (qe El rfl rfl) (td hK4 ?_))))))
 refine aG rfl (av (fun _ hK5=>tp rfl (bG (cs:=[(vI 0),(vI 0),(vI 0),(vI 0),(vI 0)]) (pl:=[(0,1),(1,1),(2,1),(3,1),(4,1)]) CT CR (fun _=>by simp) rfl rfl) ?_))
 refine aE ?_
 refine ts (bn (news:=[(vI 0),(vI 0),(vI 0),(vI 0),(vI 0)]) CM rfl rfl rfl rfl (nB rfl) rfl) ?_
 refine aA rfl (td hK5 (ay ?_))
 refine aK ?_
 refine aR (ak ?_)
 refine dD (cs:=[(vI 0),(vI 0),(vI 0),(vI 0),(vI 0)]) rfl rfl rfl C3 CM (bh (aa (.head _) rfl) (aa (.head _) rfl) (aa (.head _) rfl) (aa (.head _) rfl) (aa (.head _) rfl)) (fun _ h=>h.drop) ?_
 exact ⟨rfl,rfl⟩
theorem xz{R:List HP}{e:Nat}{x:EP}{s:ES}{okd oa ob oc od:Int}(hr:oa<0∨oa≥x.m):
 Ok Tryz.prog 26 [(vP e 0),(.agg #[(vI okd),(vI oa),(vI ob),(vI oc),(vI od)])] ((bQ e x s)::R)
  (fun u M=>u=.tuple #[(.agg #[.int .i64 0,.int .i64 0,.int .i64 0,.int .i64 0,.int .i64 0]),.int .i64 6]∧M=bQ e x s::R):=by
 refine aP (N:=36) Tryz.func26 rfl rfl rfl (fun W=>?_)
 refine aY (fun _ h=>dG h) (fun hE=>?_)
 have hE_nb:=hE.nb
 have hE_mb:=hE.mb
 have hE_tn:=hE.tn
 have hE_ln:=hE.ln
 have hE_mn:=hE.mn
 refine av (fun _ hK1=>?_)
 refine tm rfl (cZ rfl rfl) ?_
 rintro _ _ ⟨b1,rfl,rfl⟩
 refine tm rfl (cD CR rfl) ?_
 rintro _ _ ⟨b2,rfl,rfl⟩
 refine aA rfl (td hK1 (av (fun _ hK2=>ag rfl (bU 1 CQ rfl CG rfl rfl (bK CH rfl (aa (.tail _ (.head _)) rfl) (aR ?_))))))
 refine bN Tryz.call31 rfl (tZ (x:=x) (s:=s) oa hr) ?_
 rintro _ _ ⟨rfl,rfl⟩
 refine aA rfl (td hK2 (ai (fun K3 hK3=>aH (av (fun _ hK4=>ag rfl (tp rfl (qe El rfl rfl) (aA rfl ?_)))))))
 refine td hK4 (aG rfl (av (fun _ hK5=>tp rfl (bG (cs:=[(vI 0),(vI 0),(vI 0),(vI 0),(vI 0)]) (pl:=[(0,1),(1,1),(2,1),(3,1),(4,1)]) CT CR (fun _=>by simp) rfl rfl) ?_)))
 refine aE ?_
 refine ts (bn (news:=[(vI 0),(vI 0),(vI 0),(vI 0),(vI 0)]) CM rfl rfl rfl rfl (nB rfl) rfl) ?_
 refine aA rfl (td hK5 (ay ?_))
 refine cH ?_
 refine aK ?_
 refine aR (ak ?_)
 refine dD (cs:=[(vI 0),(vI 0),(vI 0),(vI 0),(vI 0)]) rfl rfl rfl C3 CM (bh (aa (.head _) rfl) (aa (.head _) rfl) (aa (.head _) rfl) (aa (.head _) rfl) (aa (.head _) rfl)) (fun _ h=>h.drop) ?_
 exact ⟨rfl,rfl⟩
set_option maxHeartbeats 4000000 in
theorem yo{R:List HP}{e:Nat}{x:EP}{s:ES}{okd ob oc od:Int}(r:Nat)(hr:r<x.m):
 Ok Tryz.prog 30 [(vP e 0),(.agg #[(vI okd),(vN r),(vI ob),(vI oc),(vI od)])] ((bQ e x s)::R)
  (fun u M=>u=.tuple #[.agg #[.int .i64 0,.int .i64 (s.rq.getD r Rq.z).st,.int .i64 (s.rq.getD r Rq.z).root,.int .i64 0,.int .i64 0],.int .i64 0]∧M=bQ e x s::R):=by
 refine aP (N:=24) Tryz.func30 rfl rfl rfl (fun W=>?_)
 refine aY (fun _ h=>dG h) (fun hE=>?_)
 have hE_nb:=hE.nb
 have hE_mb:=hE.mb
 have hE_tn:=hE.tn
 have hE_ln:=hE.ln
 have hE_mn:=hE.mn
 refine av (fun _ hK1=>?_)
 refine tm rfl (cZ rfl rfl) ?_
 rintro _ _ ⟨b1,rfl,rfl⟩
 refine tm rfl (cD CR rfl) ?_
 rintro _ _ ⟨b2,rfl,rfl⟩
 refine aA rfl (td hK1 (av (fun _ hK2=>ag rfl (bU 1 CQ rfl CG rfl rfl (bK CH rfl (aa (.tail _ (.head _)) rfl) (aR ?_))))))
 refine bN Tryz.call31 rfl (qR (x:=x) (s:=s) r hr) ?_
 rintro _ _ ⟨rfl,rfl⟩
 refine aA rfl (td hK2 (ai (fun K3 hK3=>av (fun _ hK4=>ag rfl (tp rfl (j3 El rfl rfl) (td hK4 ?_))))))
 refine ar rfl (dp hK3 (ai (fun _ hK5=>?_)))
 refine bz (γ:=Unit) (n:=12) Tryz.mixed rfl rfl (fun _ S=>True) (fun _=>[(0,14,(vP (x.rs.getD r 0) 0)),(1,15,(vP (x.rs.getD r 0) 0)),(2,16,(vP (x.rs.getD r 0) 3)),(3,17,(vI ((s.rq.getD r Rq.z).st))),(4,18,(vP (x.rs.getD r 0) 0)),(5,19,(vP (x.rs.getD r 0) 0)),(6,20,(vP (x.rs.getD r 0) 0)),(7,21,(vP (x.rs.getD r 0) 0)),(8,22,(vI ((s.rq.getD r Rq.z).root))),(9,23,(.agg #[(vI 0),(vI ((s.rq.getD r Rq.z).st)),(vI ((s.rq.getD r Rq.z).root)),(vI 0),(vI 0)])),(11,5,(vI 0))]) (fun _ S=>(bQ e x s)::(bif S 10 then (bI b2 [(vI 0),(vI ((s.rq.getD r Rq.z).st)),(vI ((s.rq.getD r Rq.z).root)),(vI 0),(vI 0)] 40) else (bI b2 [(vI 0),(vI 0),(vI 0),(vI 0),(vI 0)] 40))::(bI b1 [(vI okd),(vN r),(vI ob),(vI oc),(vI od)] 32)::R) (()) trivial (fun _ h=>h) (fun _ _ h=>h) ?_ ?_
 ·refine ⟨aU,bW,bL Ds rfl CG,?_,aU,bW,bL Ds rfl Dj,bL Da rfl CG,?_,?_,?_,fh,trivial⟩
  ·rintro _ S hF hS D hp K hK;try dsimp only
   exact bH (bE hp 2 rfl rfl) (bP CH rfl (eB (i:=r) (v:=(vI ((s.rq.getD r Rq.z).st))) (.head _) (by omega) rfl)) 3 rfl rfl hS (hK () hF)
  ·rintro _ S hF hS D hp K hK;try dsimp only
   exact bH (bE hp 7 rfl rfl) (bP CH rfl (eB (i:=r) (v:=(vI ((s.rq.getD r Rq.z).root))) (.head _) (by omega) rfl)) 8 rfl rfl hS (hK () hF)
  ·rintro _ S hF hS D hp K hK;try dsimp only
   exact bV (bE hp 3 rfl rfl) (bE hp 8 rfl rfl) (bG (cs:=[(vI 0),(vI ((s.rq.getD r Rq.z).st)),(vI ((s.rq.getD r Rq.z).root)),(vI 0),(vI 0)]) (pl:=[(0,1),(1,1),(2,1),(3,1),(4,1)]) CT CR (fun _=>by simp) rfl rfl) 9 rfl rfl hS (hK () hF)
  ·rintro _ S hF hS D hp K hK
   try dsimp only at hF⊢
   refine bZ hp [4,23] rfl rfl ?_
   refine aE ?_
   refine c9 hS ?_
   refine ts (bn (news:=[(vI 0),(vI ((s.rq.getD r Rq.z).st)),(vI ((s.rq.getD r Rq.z).root)),(vI 0),(vI 0)]) CM rfl rfl rfl rfl (nB rfl) rfl) ?_
   refine aE ?_
   exact gE hp (ti (hK () trivial)) rfl rfl rfl
 ·rintro _ hF
  try dsimp only at hF⊢
  refine az (E':=[(0,(vP e 0)),(1,(.agg #[(vI okd),(vN r),(vI ob),(vI oc),(vI od)])),(3,(vP b1 0)),(4,(vP b2 0)),(5,(vI 0)),(6,(vP (x.rs.getD r 0) 0)),(12,(.bool false))]) ⟨rfl,rfl,rfl,rfl,rfl,rfl,rfl,trivial⟩ ?_
  refine qn hK5 (ay (aE (aR (ak ?_))))
  refine dD (cs:=[(vI 0),(vI ((s.rq.getD r Rq.z).st)),(vI ((s.rq.getD r Rq.z).root)),(vI 0),(vI 0)]) rfl rfl rfl C3 CM (bh (aa (.head _) rfl) (aa (.head _) rfl) (aa (.head _) rfl) (aa (.head _) rfl) (aa (.head _) rfl)) (fun _ h=>h.drop) ?_
  exact ⟨rfl,rfl⟩
set_option maxHeartbeats 4000000 in
theorem yy{R:List HP}{e:Nat}{x:EP}{q A Q:Int}{y:OS}{vr:Nat}{okd ob oc od:Int}(r:Nat)(hr:r<x.m)(hy:OvOk x.n x.m A Q y)(hA:A≤400∧Q≤400)(hV:VTab vr R):
 Ok Tryz.prog 26 [(vP e 0),(.agg #[(vI okd),(vN r),(vI ob),(vI oc),(vI od)])] ((bQ e x y.s)::(bF x.tn q y.ms y.ta)::(dv x.ad A Q y.as)::R)
  (fun u M=> ∃(z:OS) (rs er:Int),KpO x.n x.m A Q y z∧u=.tuple #[(.agg #[.int .i64 0,.int .i64 rs,.int .i64 0,.int .i64 0,.int .i64 0]),.int .i64 er]∧M=bQ e x z.s::bF x.tn q z.ms z.ta::dv x.ad A Q z.as::R):=by
 refine aP (N:=36) Tryz.func26 rfl rfl rfl (fun W=>?_)
 refine aY (fun _ h=>dG h) (fun hE=>?_)
 have hE_nb:=hE.nb
 have hE_mb:=hE.mb
 have hE_tn:=hE.tn
 have hE_ln:=hE.ln
 have hE_mn:=hE.mn
 refine av (fun _ hK1=>?_)
 refine tm rfl (cZ rfl rfl) ?_
 rintro _ _ ⟨b1,rfl,rfl⟩
 refine tm rfl (cD CR rfl) ?_
 rintro _ _ ⟨b2,rfl,rfl⟩
 refine aA rfl (td hK1 (av (fun _ hK2=>ag rfl (bU 1 CQ rfl CG rfl rfl (bK CH rfl (aa (.tail _ (.head _)) rfl) (aR ?_))))))
 refine bN Tryz.call31 rfl (qR (x:=x) (s:=y.s) r hr) ?_
 rintro _ _ ⟨rfl,rfl⟩
 refine aA rfl (td hK2 (ai (fun K3 hK3=>?_)))
 have hM3:∀(k9:Nat),k9=0∧True→cd K3 W 36 [(0,(.pointer (some ⟨e,0,none⟩))),(1,(.agg #[(.int .i64 okd),(.int .i64 (r:Int)),(.int .i64 ob),(.int .i64 oc),(.int .i64 od)])),(3,(.pointer (some ⟨b1,0,none⟩))),(4,(.pointer (some ⟨b2,0,none⟩))),(6,(.pointer (some ⟨(x.rs.getD r 0),0,none⟩)))] ((bQ e x y.s)::(bI b2 [(.int .i64 0),(.int .i64 0),(.int .i64 0),(.int .i64 0),(.int .i64 0)] 40)::(bI b1 [(.int .i64 okd),(.int .i64 (r:Int)),(.int .i64 ob),(.int .i64 oc),(.int .i64 od)] 32)::(bF x.tn q y.ms y.ta)::(dv x.ad A Q y.as)::R):=by
  rintro k9 hF
  refine hK3 _ _ ?_
  refine av (fun _ hK4=>ag rfl (bU 1 CQ rfl CG rfl rfl (bK CH rfl (aa (.tail _ (.tail _ (.head _))) rfl) (de (de (aR ?_))))))
  refine bN Tryz.call47 rfl (pC (x:=x) (y:=y) (A:=A) (Q:=Q) (r:Int) 5 hy (by omega) hA) ?_
  rintro _ _ ⟨rfl,rfl⟩
  refine td hK4 (av (fun _ hK5=>ag rfl (aR (aR (aR ?_)))))
  refine bN Tryz.call46 rfl (qP (x:=x) (y:=(y.leaves (r:Int) 5)) (A:=A) (Q:=Q) (hy.lv _ _) hA (VTab.cons (VTab.cons hV))) ?_
  rintro _ _ ⟨yo3,hyo3v,hyo3c,rfl,rfl⟩
  refine td hK5 (av (fun _ hK6=>tp rfl (bG (cs:=[(vI 0),(vI 5),(vI 0),(vI 0),(vI 0)]) (pl:=[(0,1),(1,1),(2,1),(3,1),(4,1)]) CT CR (fun _=>by simp) rfl rfl) ?_))
  refine aS ?_
  refine ts (bn (news:=[(vI 0),(vI 5),(vI 0),(vI 0),(vI 0)]) CM rfl rfl rfl rfl (nB rfl) rfl) ?_
  refine aA rfl (td hK6 (ay (de (ak ?_))))
  refine dD (cs:=[(vI 0),(vI 5),(vI 0),(vI 0),(vI 0)]) rfl rfl rfl C3 CM (bh (aa (.head _) rfl) (aa (.head _) rfl) (aa (.head _) rfl) (aa (.head _) rfl) (aa (.head _) rfl)) (fun _ h=>h.drop) ?_
  exact ⟨yo3,_,_,KpO.trans (KpO.lv hy _ _) (KpO.ov (hy.lv _ _) hyo3v),rfl,rfl⟩
 refine aH (av (fun _ hK4=>ag rfl (tp rfl (j3 El rfl rfl) (aA rfl (td hK4 (ar rfl (ai (fun _ hK5=>?_))))))))
 refine aj (ag rfl (cV rfl (bU 3 Ds rfl CG rfl rfl (bK CH rfl (eB (i:=r) (v:=(vI ((y.s.rq.getD r Rq.z).st))) (.head _) (by omega) rfl) ?_))))
 by_cases h4:((y.s.rq.getD r Rq.z).st)=0
 ·refine tp rfl (cG rfl rfl (bne_eq_false_iff_eq.2 h4)) (ag rfl ?_)
  refine aq rfl rfl rfl ?_
  refine aq rfl rfl rfl ?_
  refine aq rfl rfl rfl ?_
  refine aq rfl rfl rfl ?_
  refine aq rfl rfl rfl ?_
  refine tp rfl (aC rfl rfl) (aA rfl (td hK5 (ar rfl (cS (aZ (aN ?_))))))
  exact az (by exact ⟨rfl,rfl,rfl,rfl,rfl,trivial⟩) (hM3 0 ⟨rfl,trivial⟩)
 ·refine tp rfl (cG rfl rfl (bne_iff_ne.2 h4)) (ag rfl ?_)
  refine ae rfl rfl ?_
  refine ag rfl ?_
  refine ae rfl rfl ?_
  refine cV rfl ?_
  refine ae rfl rfl ?_
  refine bU 3 Ds rfl CG rfl rfl ?_
  refine ae rfl rfl ?_
  refine bK CH rfl (eB (i:=r) (v:=(vI ((y.s.rq.getD r Rq.z).st))) (.head _) (by omega) rfl) ?_
  refine ae rfl rfl ?_
  by_cases h5:((y.s.rq.getD r Rq.z).st)=1
  ·refine tp rfl (cG rfl rfl (bne_eq_false_iff_eq.2 h5)) (tp rfl (aL rfl rfl) (aA rfl (td hK5 (ar rfl (cS (aZ (aN ?_)))))))
   exact az (by exact ⟨rfl,rfl,rfl,rfl,rfl,trivial⟩) (hM3 0 ⟨rfl,trivial⟩)
  ·refine tp rfl (cG rfl rfl (bne_iff_ne.2 h5)) (tp rfl (aL rfl rfl) (aA rfl (td hK5 (aG rfl (av (fun _ hK6=>tp rfl (bG (cs:=[(vI 0),(vI 0),(vI 0),(vI 0),(vI 0)]) (pl:=[(0,1),(1,1),(2,1),(3,1),(4,1)]) CT CR (fun _=>by simp) rfl rfl) ?_))))))
   refine aE ?_
   refine ts (bn (news:=[(vI 0),(vI 0),(vI 0),(vI 0),(vI 0)]) CM rfl rfl rfl rfl (nB rfl) rfl) ?_
   refine aA rfl (td hK6 (ay ?_))
   refine cH ?_
   refine aK ?_
   refine aR (ak ?_)
   refine dD (cs:=[(vI 0),(vI 0),(vI 0),(vI 0),(vI 0)]) rfl rfl rfl C3 CM (bh (aa (.head _) rfl) (aa (.head _) rfl) (aa (.head _) rfl) (aa (.head _) rfl) (aa (.head _) rfl)) (fun _ h=>h.drop) ?_
   exact ⟨y,_,_,KpO.refl hy,rfl,rfl⟩
end Go.Proofs.YtanfdikglplkaaaGreatDoor
set_option maxRecDepth 100000
namespace Go.Proofs.YtanfdikglplkaaaGreatDoor
open Go Go.Proofs Sp
def Cv(e:Nat):List (Int×Value):=[(1,(.func (.func 25) #[(.pointer (some ⟨e,0,none⟩))] #[])),(2,(.func (.func 26) #[(.pointer (some ⟨e,0,none⟩))] #[])),(3,(.func (.func 27) #[(.pointer (some ⟨e,0,none⟩))] #[])),(4,(.func (.func 28) #[(.pointer (some ⟨e,0,none⟩))] #[])),(5,(.func (.func 29) #[(.pointer (some ⟨e,0,none⟩))] #[])),(6,(.func (.func 30) #[(.pointer (some ⟨e,0,none⟩))] #[]))]
theorem BN{R:List HP}{ι:Type}{e f9:Nat}{kd oa ob oc od:Int}{A1:List HP}{B1:ι→List HP}{q1:ι→Prop}{ra rb rc rd re rf:ι→Int}(hk:mL kd (Cv e)=some (.func (.func f9) #[(.pointer (some ⟨e,0,none⟩))] #[]))(hcall:∀args w,(callFunc f9 args).run Tryz.prog w=.ok (.enter f9 args) w)(h:∀X Y Z:HP,Ok Tryz.prog f9 [.pointer (some ⟨e,0,none⟩),(.agg #[.int .i64 kd,.int .i64 oa,.int .i64 ob,.int .i64 oc,.int .i64 od])] (cI A1::X::Y::Z::R) (fun u M=> ∃i,q1 i∧u=.tuple #[.agg #[.int .i64 (ra i),.int .i64 (rb i),.int .i64 (rc i),.int .i64 (rd i),.int .i64 (re i)],.int .i64 (rf i)]∧M=cI (B1 i)::X::Y::Z::R)):
 Ok Tryz.prog 13 [(vP e 0),(.agg #[(vI kd),(vI oa),(vI ob),(vI oc),(vI od)])] ((cI A1)::R)
  (fun u M=> ∃i,q1 i∧u=.tuple #[.agg #[.int .i64 (ra i),.int .i64 (rb i),.int .i64 (rc i),.int .i64 (rd i),.int .i64 (re i)],.int .i64 (rf i)]∧M=cI (B1 i)::R):=by
 refine aP (N:=32) Tryz.func13 rfl rfl rfl (fun W=>?_)
 refine av (fun _ hK1=>?_)
 refine tm rfl (cZ rfl rfl) ?_
 rintro _ _ ⟨b1,rfl,rfl⟩
 refine tm rfl (cD CR rfl) ?_
 rintro _ _ ⟨b2,rfl,rfl⟩
 refine aA rfl (td hK1 (av (fun _ hK2=>?_)))
 refine tm rfl (nX .i64) ?_
 rintro _ _ ⟨mb3,rfl,rfl⟩
 refine ag rfl (tp rfl (dH rfl) ?_)
 refine ts (fe Dy C4 rfl rfl rfl rfl) ?_
 refine ag rfl (tp rfl (dH rfl) ?_)
 refine ts (fe Dy C4 rfl rfl rfl rfl) ?_
 refine ag rfl (tp rfl (dH rfl) ?_)
 refine ts (fe Dy C4 rfl rfl rfl rfl) ?_
 refine ag rfl (tp rfl (dH rfl) ?_)
 refine ts (fe Dy C4 rfl rfl rfl rfl) ?_
 refine ag rfl (tp rfl (dH rfl) ?_)
 refine ts (fe Dy C4 rfl rfl rfl rfl) ?_
 refine ag rfl (tp rfl (dH rfl) ?_)
 refine ts (fe Dy C4 rfl rfl rfl rfl) ?_
 refine ag rfl (bU 0 CQ rfl CG rfl rfl (bK CH rfl (aa (.tail _ (.tail _ (.head _))) rfl) (tp rfl (pO Dy C4 Tryz.zeroValue43 rfl rfl (.head _) (congrArg (fun x:Option Value=>x.getD _) hk)) (aA rfl (td hK2 (ai (fun _ hK3=>av (fun _ hK4=>?_))))))))
 refine ag rfl (tp rfl (AF Tryz.underlying43 rfl rfl) (td hK4 (ar rfl (dp hK3 (av (fun _ hK5=>ag rfl ?_))))))
 refine tp rfl (cB (cs:=[(vI kd),(vI oa),(vI ob),(vI oc),(vI od)]) Dw Dd rfl (bh (aa (.tail _ (.tail _ (.head _))) rfl) (aa (.tail _ (.tail _ (.head _))) rfl) (aa (.tail _ (.tail _ (.head _))) rfl) (aa (.tail _ (.tail _ (.head _))) rfl) (aa (.tail _ (.tail _ (.head _))) rfl))) (aS ?_)
 refine tc rfl (qB (first:=[(vP e 0)]) hcall rfl rfl) (h _ _ _) ?_
 rintro _ _ ⟨iy4,hiy4q,rfl,rfl⟩
 refine tp rfl (aW rfl rfl) (tp rfl (aW rfl rfl) (aR ?_))
 refine ts (bn (news:=[(vI (ra iy4)),(vI (rb iy4)),(vI (rc iy4)),(vI (rd iy4)),(vI (re iy4))]) CM rfl rfl rfl rfl (nB rfl) rfl) ?_
 refine aA rfl (td hK5 (ay (aR (ak (aR (ak ?_))))))
 refine dD (cs:=[(vI (ra iy4)),(vI (rb iy4)),(vI (rc iy4)),(vI (rd iy4)),(vI (re iy4))]) rfl rfl rfl C3 CM (bh (aa (.head _) rfl) (aa (.head _) rfl) (aa (.head _) rfl) (aa (.head _) rfl) (aa (.head _) rfl)) (fun _ h=>h.drop) ?_
 exact ⟨iy4,hiy4q,rfl,rfl⟩
theorem At{R:List HP}{e:Nat}{kd oa ob oc od:Int}{A1:List HP}(hk:mL kd (Cv e)=none):
 Ok Tryz.prog 13 [(vP e 0),(.agg #[(vI kd),(vI oa),(vI ob),(vI oc),(vI od)])] ((cI A1)::R)
  (fun u M=>u=.tuple #[.agg #[.int .i64 0,.int .i64 0,.int .i64 0,.int .i64 0,.int .i64 0],.int .i64 1]∧M=cI A1::R):=by
 refine aP (N:=32) Tryz.func13 rfl rfl rfl (fun W=>?_)
 refine av (fun _ hK1=>?_)
 refine tm rfl (cZ rfl rfl) ?_
 rintro _ _ ⟨b1,rfl,rfl⟩
 refine tm rfl (cD CR rfl) ?_
 rintro _ _ ⟨b2,rfl,rfl⟩
 refine aA rfl (td hK1 (av (fun _ hK2=>?_)))
 refine tm rfl (nX .i64) ?_
 rintro _ _ ⟨mb3,rfl,rfl⟩
 refine ag rfl (tp rfl (dH rfl) ?_)
 refine ts (fe Dy C4 rfl rfl rfl rfl) ?_
 refine ag rfl (tp rfl (dH rfl) ?_)
 refine ts (fe Dy C4 rfl rfl rfl rfl) ?_
 refine ag rfl (tp rfl (dH rfl) ?_)
 refine ts (fe Dy C4 rfl rfl rfl rfl) ?_
 refine ag rfl (tp rfl (dH rfl) ?_)
 refine ts (fe Dy C4 rfl rfl rfl rfl) ?_
 refine ag rfl (tp rfl (dH rfl) ?_)
 refine ts (fe Dy C4 rfl rfl rfl rfl) ?_
 refine ag rfl (tp rfl (dH rfl) ?_)
 refine ts (fe Dy C4 rfl rfl rfl rfl) ?_
 refine ag rfl (bU 0 CQ rfl CG rfl rfl (bK CH rfl (aa (.tail _ (.tail _ (.head _))) rfl) (tp rfl (pO Dy C4 Tryz.zeroValue43 rfl rfl (.head _) (congrArg (fun x:Option Value=>x.getD _) hk)) (aA rfl (td hK2 (ai (fun _ hK3=>av (fun _ hK4=>?_))))))))
 refine ag rfl (tp rfl (xA Tryz.underlying43 rfl rfl) (td hK4 (aG rfl (av (fun _ hK5=>tp rfl (bG (cs:=[(vI 0),(vI 0),(vI 0),(vI 0),(vI 0)]) (pl:=[(0,1),(1,1),(2,1),(3,1),(4,1)]) CT CR (fun _=>by simp) rfl rfl) ?_)))))
 refine aE ?_
 refine ts (bn (news:=[(vI 0),(vI 0),(vI 0),(vI 0),(vI 0)]) CM rfl rfl rfl rfl (nB rfl) rfl) ?_
 refine aA rfl (td hK5 (ay ?_))
 refine aK ?_
 refine aE (ak (aE (ak ?_)))
 refine dD (cs:=[(vI 0),(vI 0),(vI 0),(vI 0),(vI 0)]) rfl rfl rfl C3 CM (bh (aa (.head _) rfl) (aa (.head _) rfl) (aa (.head _) rfl) (aa (.head _) rfl) (aa (.head _) rfl)) (fun _ h=>h.drop) ?_
 exact ⟨rfl,rfl⟩
end Go.Proofs.YtanfdikglplkaaaGreatDoor
