/- Parts Eg, Ej: own lemmas and contracts of the code that the claim reaches. -/
import Derived.Test.YtanfdikglplkaaaGreatDoorM03
import Derived.Test.YtanfdikglplkaaaGreatDoorM04
import Derived.Test.YtanfdikglplkaaaGreatDoorM23
import Derived.Test.YtanfdikglplkaaaGreatDoorM12
set_option linter.unusedSimpArgs false
set_option linter.unusedVariables false
set_option maxRecDepth 100000
namespace Go.Proofs.YtanfdikglplkaaaGreatDoor
open Go Go.Proofs Sp
set_option maxHeartbeats 4000000 in
theorem pC{R:List HP}{e:Nat}{x:EP}{q A Q:Int}{y:OS}(r v:Int)(hy:OvOk x.n x.m A Q y)(hr:0≤r∧r<x.m)(hA:A≤400∧Q≤400):
 Ok Tryz.prog 47 [(vP e 0),(vI r),(vI v)] ((bQ e x y.s)::(bF x.tn q y.ms y.ta)::(dv x.ad A Q y.as)::R)
  (fun u M=>u=.tuple #[]∧M=bQ e x (y.leaves r v).s::bF x.tn q (y.leaves r v).ms (y.leaves r v).ta::dv x.ad A Q (y.leaves r v).as::R):=by
 refine aP (N:=42) Tryz.func47 rfl rfl rfl (fun W=>?_)
 refine aY (fun _ h=>dG h) (fun hE=>?_)
 have hE_nb:=hE.nb
 have hE_mb:=hE.mb
 have hE_tn:=hE.tn
 have hE_ln:=hE.ln
 have hE_mn:=hE.mn
 have hla:=hy.ao.la
 have hlq:=hy.ao.lq
 have hme:y.ms.length=y.as.a.length:=by rw [←hy.me,List.length_map]
 have hr0:=hr
 refine av (fun K1 hK1=>ag rfl (cV rfl (bU 12 CJ rfl Dv rfl rfl (bK DC rfl (bu (v:=(.slice x.br x.m x.cr)) (.head _) (fun _ _=>rfl)) (ag rfl (tp rfl (ah (k':=r.toNat) Dx DP rfl rfl hE.okr (by omega) (by omega) (by omega)) ?_))))))
 refine bK DU rfl (ie (i:=r.toNat) (.head _) (by omega)) ?_
 refine ag rfl (cV rfl (bU 3 Ds rfl CG rfl rfl ?_))
 refine ts (AV (i:=r.toNat) (o:=3) (z:={(y.s.rq.getD r.toNat Rq.z) with st:=v}) (by omega) rfl (by decide) rfl CG rfl rfl) ?_
 refine td hK1 (av (fun _ hK2=>ag rfl (cV rfl (bU 17 CJ rfl Tryz.sizeOf71 rfl rfl (bK Tryz.isAgg71 rfl (bu (v:=(vP x.tn 0)) (.head _) (fun _ _=>rfl)) (ag rfl (aE ?_)))))))
 refine bN Tryz.call78 rfl (vw (q:=q) (ms:=y.ms) (a:=y.ta) r (by omega)) ?_
 rintro _ _ ⟨rfl,rfl⟩
 refine td hK2 (av (fun K3 hK3=>ag rfl (cV rfl (bU 16 CJ rfl En rfl rfl (bK Eo rfl (bu (v:=(vP x.ad 0)) (.tail _ (.head _)) (fun _ _=>rfl)) (ag rfl (aR ?_)))))))
 refine bN Tryz.call79 rfl (zx (A:=A) (Q:=Q) (s:=y.as) r (by omega)) ?_
 rintro _ _ ⟨rfl,rfl⟩
 refine ag rfl (tp rfl (aW rfl rfl) (tp rfl (aW rfl rfl) (aA rfl (aA rfl (td hK3 (av (fun _ hK4=>?_)))))))
 by_cases hc1:(eG y.as r)=0∧(fq y.as r)≥0
 ·have hc1a:=hc1.1
  have hc1b:=hc1.2
  refine ag rfl (tp rfl (aV rfl rfl (beq_iff_eq.2 hc1.1)) (ag rfl ?_))
  refine ae rfl rfl ?_
  refine ag rfl ?_
  refine ae rfl rfl ?_
  refine tp rfl (cC rfl rfl (decide_eq_true hc1.2)) (tp rfl (aL rfl rfl) (td hK4 (aG rfl (aj ?_))))
  have hnm:=hy.next (vn (by omega)) (by omega)
  have hnr:=hy.ids _ (List.mem_append_right _ hnm)
  obtain ⟨nx,hnx⟩:∃n:Nat,fq y.as r=(n:Int):=⟨(fq y.as r).toNat,by omega⟩
  have hlv:=sQ y.ms r
  rw [hnx]
  have hnx2:(fq y.as r).toNat=nx:=by omega
  have hlf:=hy.left (r:=r) v
  refine ag rfl (ag rfl (aE (aR ?_)))
  refine bN Tryz.call45 rfl (pU (x:=x) (s:=y.s.setSt r.toNat v) (ms:=fo y.ms r) nx (by omega) hlf.1 (by show (fo y.ms r).length≤1000;omega)) ?_
  rintro _ _ ⟨rfl,rfl⟩
  refine aI ?_
  refine fC rfl ?_
  have hlz:y.leaves r v=(y.left r v).come nx:=by unfold OS.leaves;rw [if_pos ⟨by omega,by omega⟩,hnx2]
  rw [hlz]
  exact ⟨rfl,rfl⟩
 ·refine mK (E':=[(0,(vP e 0)),(1,(vI r)),(2,(vI v)),(6,(vI (fq y.as r))),(7,(vI (eG y.as r))),(38,(.bool false))]) ?_ (fun KK hKK=>?_)
  ·
   refine qn hK4 (ar rfl (cS (aE (aR ?_))))
   refine fC rfl ?_
   have hlz:y.leaves r v=y.left r v:=by unfold OS.leaves;rw [if_neg (by omega)]
   rw [hlz]
   exact ⟨rfl,rfl⟩
  ·by_cases hc1A:(eG y.as r)=0
   ·
    have hc1B:¬((fq y.as r)≥0):=fun hh=>hc1 ⟨hc1A,hh⟩
    refine ag rfl (tp rfl (aV rfl rfl (beq_iff_eq.2 hc1A)) (ag rfl ?_))
    refine ae rfl rfl ?_
    refine ag rfl ?_
    refine ae rfl rfl ?_
    refine tp rfl (cC rfl rfl (decide_eq_false hc1B)) (tp rfl (aL rfl rfl) ?_)
    exact aI (az (by exact ⟨rfl,rfl,rfl,rfl,rfl,rfl,trivial⟩) hKK)
   ·
    refine ag rfl (tp rfl (aV rfl rfl (beq_eq_false_iff_ne.2 hc1A)) (ag rfl ?_))
    refine aq rfl rfl rfl ?_
    refine aq rfl rfl rfl ?_
    refine tp rfl (aC rfl rfl) ?_
    exact aI (az (by exact ⟨rfl,rfl,rfl,rfl,rfl,rfl,trivial⟩) hKK)
set_option maxHeartbeats 4000000 in
theorem qP{R:List HP}{e:Nat}{x:EP}{q A Q:Int}{y:OS}{vr:Nat}(hy:OvOk x.n x.m A Q y)(hA:A≤400∧Q≤400)(hV:VTab vr R):
 Ok Tryz.prog 46 [(vP e 0)] ((bQ e x y.s)::(bF x.tn q y.ms y.ta)::(dv x.ad A Q y.as)::R)
  (fun u M=> ∃z,Ov y z∧z.calm∧u=.tuple #[]∧M=bQ e x z.s::bF x.tn q z.ms z.ta::dv x.ad A Q z.as::R):=by
 refine aP (N:=48) Tryz.func46 rfl rfl rfl (fun W=>?_)
 refine um (γ:=(OS)) (c:=_) 0 (fun (z:OS)=>Ov y z∧OvOk x.n x.m A Q z) (fun (z:OS)=>[(0,(vP e 0))]) (fun (z:OS)=>(bQ e x z.s)::(bF x.tn q z.ms z.ta)::(dv x.ad A Q z.as)::R) (fun (z:OS)=>z.cnt) rfl ?_ ?_
 ·rintro z K1 hF hK1
  try dsimp only at hF hK1⊢
  obtain ⟨hz,hzo⟩:=hF
  have hla:=hzo.ao.la
  have hlq:=hzo.ao.lq
  refine av (fun _ hK2=>ag rfl (cV rfl (bU 16 CJ rfl En rfl rfl (bK Eo rfl (bu (v:=(vP x.ad 0)) (.head _) (fun _ _=>rfl)) (aR ?_)))))
  refine bN Tryz.call42 rfl (lE (A:=A) (Q:=Q) (s:=z.as) (by omega)) ?_
  rintro _ _ ⟨bs1,cp2,hok3,hle4,rfl,rfl⟩
  refine tp rfl (bC CI rfl rfl) (ag rfl (td hK2 (aH ?_)))
  refine cE (γ:=(Nat)) (fun (k:Nat)=>k≤z.as.a.length∧(∀j,j<k→z.s.stt (z.s.rt (z.as.a.getD j 0).toNat)<5)) (fun (k:Nat)=>[(0,(vP e 0)),(9,(.slice bs1 z.as.a.length cp2)),(10,(vN z.as.a.length)),(11,(vN k))]) (fun (k:Nat)=>(SlV 3 1 (.slice bs1 z.as.a.length cp2) z.as.a.length (aF .i64 z.as.a))::(dv x.ad A Q z.as)::(bQ e x z.s)::(bF x.tn q z.ms z.ta)::R) (fun (k:Nat)=>z.as.a.length-k) (0) ⟨Nat.zero_le _,fun j hj=>by omega⟩ ⟨rfl,rfl,rfl,rfl,trivial⟩ (fun _ h=>h) ?_
  rintro k K3 hF hK3
  try dsimp only at hF hK3⊢
  obtain ⟨hk,hall⟩:=hF
  refine av (fun _ hK4=>?_)
  by_cases h5:(k:Int)< (z.as.a.length:Int)
  ·refine tp rfl (aJ rfl rfl (decide_eq_true h5)) (td hK4 (ai (fun _ hK5=>aG rfl (dp hK5 (ai (fun _ hK6=>aH (ai (fun _ hK7=>?_))))))))
   refine aj (tp rfl (ah (k':=k) CI CG rfl rfl hok3 (by omega) (by omega) (by omega)) ?_)
   refine bK CH rfl (aw (.head _) (aQ (by first|omega| (simp;omega)))) ?_
   refine aA rfl (td hK7 (ai (fun _ hK8=>?_)))
   obtain ⟨r,hrd⟩:∃r,z.as.a.getD k 0=r:=⟨_,rfl⟩
   rw [hrd]
   have hrm:r∈z.as.a:=by rw [←hrd];exact dP (by omega)
   have hr0:=hzo.ids r (List.mem_append_left _ hrm)
   have hq0:=hzo.rq r.toNat (by rw [hzo.lm];omega)
   refine aR ?_
   refine aY (fun _ h=>dG h) (fun hE=>?_)
   have hE_nb:=hE.nb
   have hE_mb:=hE.mb
   have hE_tn:=hE.tn
   have hE_ln:=hE.ln
   have hE_mn:=hE.mn
   refine bz (γ:=Unit) (n:=18) Tryz.mixed rfl rfl (fun _ S=>True) (fun _=>[(0,15,(vP e 0)),(1,16,(vP e 0)),(2,17,(vP e 11)),(3,18,(.slice x.bt x.n x.ct)),(4,19,(vP e 0)),(5,20,(vP e 0)),(6,21,(vP e 12)),(7,22,(.slice x.br x.m x.cr)),(8,23,(vI r)),(9,24,(.pointer (some (ad x.br r.toNat)))),(10,25,(vP (x.rs.getD r.toNat 0) 0)),(11,26,(vP (x.rs.getD r.toNat 0) 0)),(12,27,(vP (x.rs.getD r.toNat 0) 0)),(13,28,(vP (x.rs.getD r.toNat 0) 0)),(14,29,(vI ((z.s.rq.getD r.toNat Rq.z).root))),(15,30,(.pointer (some (ad x.bt (((z.s.rq.getD r.toNat Rq.z).root).toNat))))),(16,31,(.pointer (some ⟨(x.ks.getD (((z.s.rq.getD r.toNat Rq.z).root).toNat) (0,0)).1,0,none⟩))),(17,4,(.pointer (some ⟨(x.ks.getD (((z.s.rq.getD r.toNat Rq.z).root).toNat) (0,0)).1,0,none⟩)))]) (fun _ S=>(bQ e x z.s)::(SlV 3 1 (.slice bs1 z.as.a.length cp2) z.as.a.length (aF .i64 z.as.a))::(dv x.ad A Q z.as)::(bF x.tn q z.ms z.ta)::R) (()) trivial (fun _ h=>h) (fun _ _ h=>h) ?_ ?_
   ·refine ⟨aU,bW,bL CJ rfl C9,dB Dc rr rr fun _ _=>bu (v:=(.slice x.bt x.n x.ct)) (.head _) (fun _ _=>rfl),aU,bW,bL CJ rfl Dv,dB DC rr rr fun _ _=>bu (v:=(.slice x.br x.m x.cr)) (.head _) (fun _ _=>rfl),aU,eJ Dx DP rr rr rr fun _=>⟨hE.okr,by omega,by omega,by omega⟩,dB DU rr rr fun _ _=>ie (i:=r.toNat) (.head _) (by omega),bW,bL Ds rfl Dj,bL Da rfl CG,?_,?_,?_,fh,trivial⟩
    ·rintro _ S hF hS D hp K hK;try dsimp only
     exact bH (bE hp 13 rfl rfl) (bP CH rfl (eB (i:=r.toNat) (v:=(vI ((z.s.rq.getD r.toNat Rq.z).root))) (.head _) (by omega) rfl)) 14 rfl rfl hS (hK () hF)
    ·rintro _ S hF hS D hp K hK;try dsimp only
     exact bV (bE hp 3 rfl rfl) (bE hp 14 rfl rfl) (ah (k':=((z.s.rq.getD r.toNat Rq.z).root).toNat) C6 De rfl rfl hE.okt (by omega) (by omega) (by omega)) 15 rfl rfl hS (hK () hF)
    ·rintro _ S hF hS D hp K hK;try dsimp only
     exact bH (bE hp 15 rfl rfl) (bP Df rfl (dT (i:=((z.s.rq.getD r.toNat Rq.z).root).toNat) (.head _) (by omega))) 16 rfl rfl hS (hK () hF)
   ·rintro _ hF
    try dsimp only at hF⊢
    refine az (E':=[(0,(vP e 0)),(3,(vI r)),(4,(.pointer (some ⟨(x.ks.getD (((z.s.rq.getD r.toNat Rq.z).root).toNat) (0,0)).1,0,none⟩))),(9,(.slice bs1 z.as.a.length cp2)),(10,(vN z.as.a.length)),(11,(vN k)),(12,(.bool true))]) ⟨rfl,rfl,rfl,rfl,rfl,rfl,rfl,trivial⟩ ?_
    refine qn hK8 (av (fun _ hK9=>?_))
    obtain ⟨t,hrt⟩:∃t,z.s.rt r.toNat=t:=⟨_,rfl⟩
    have hrt2:(z.s.rq.getD r.toNat Rq.z).root.toNat=t:=hrt
    have htn:t<x.n:=by omega
    rw [hrt2]
    have hlo:=hE.lo t htn
    have hs7:=hlo.s7
    refine ag rfl (cV rfl (bU 2 CP rfl CU rfl rfl (bK CV rfl (bY (i:=t) (v:=(.pointer (some ⟨(x.ks.getD t (0,0)).2,0,none⟩))) (.head _) (by omega) rfl) ?_)))
    refine bN Tryz.call77 rfl (dK (i:=t) (by omega) (fun _=>jy _)) ?_
    rintro _ _ ⟨rfl,rfl⟩
    refine td hK9 ?_
    refine cW rfl (fun c6=>?_) (fun c6=>?_)
    ·have hft:=of_decide_eq_true c6
     refine ai (fun _ hK10=>?_)
     refine bz (γ:=Unit) (n:=10) Tryz.mixed rfl rfl (fun _ S=>True) (fun _=>[(0,37,(vP e 0)),(1,38,(vI r)),(2,39,(.map (some vr))),(3,40,(.pointer (some ⟨(x.ks.getD t (0,0)).1,0,none⟩))),(4,41,(.pointer (some ⟨(x.ks.getD t (0,0)).1,0,none⟩))),(5,42,(.pointer (some ⟨(x.ks.getD t (0,0)).1,2,none⟩))),(6,43,(.pointer (some ⟨(x.ks.getD t (0,0)).2,0,none⟩))),(7,44,(vI ((z.s.lf.getD t Lf.z).st))),(8,45,(vI (jg ((z.s.lf.getD t Lf.z).st)))),(9,46,(.tuple #[]))]) (fun _ S=>(bif S 9 then (bQ e x ((z.leaves r (jg ((z.s.lf.getD t Lf.z).st))).s)) else (bQ e x z.s))::(SlV 3 1 (.slice bs1 z.as.a.length cp2) z.as.a.length (aF .i64 z.as.a))::(bif S 9 then (dv x.ad A Q ((z.leaves r (jg ((z.s.lf.getD t Lf.z).st))).as)) else (dv x.ad A Q z.as))::(bif S 9 then (bF x.tn q ((z.leaves r (jg ((z.s.lf.getD t Lf.z).st))).ms) ((z.leaves r (jg ((z.s.lf.getD t Lf.z).st))).ta)) else (bF x.tn q z.ms z.ta))::R) (()) trivial (fun _ h=>h) (fun _ _ h=>h) ?_ ?_
     ·refine ⟨aU,aU,dB Tryz.isAgg143 rr rr fun _ _=>Gives.cons (Gives.cons (Gives.cons (Gives.cons hV.1))),aU,bW,bL CP rfl CU,?_,?_,?_,?_,trivial⟩
      ·rintro _ S hF hS D hp K hK;try dsimp only
       exact bH (bE hp 5 rfl rfl) (bP CV rfl (bY (i:=t) (v:=(.pointer (some ⟨(x.ks.getD t (0,0)).2,0,none⟩))) (cF (nf (nf (nf hS D (k:=7) (i:=6) rfl) D (k:=8) (i:=7) rfl) D (k:=9) (i:=8) rfl) (.head _)) (by omega) rfl)) 6 rfl rfl hS (hK () hF)
      ·rintro _ S hF hS D hp K hK
       try dsimp only at hF⊢
       refine bZ hp [43] rfl rfl ?_
       refine c9 (nf hS D (k:=9) (i:=7) rfl) ?_
       refine bN DF rfl (dK (i:=t) (by omega) (fun _=>fc _)) ?_
       rintro _ _ ⟨rfl,rfl⟩
       refine fG (A:=(bQ e x ((z.leaves r (jg ((z.s.lf.getD t Lf.z).st))).s))) (nf hS D (k:=9) (i:=7) rfl) ?_
       exact cK hp hS (ti (hK () trivial)) rfl rfl rfl
      ·intro _ S h s D p K k;exact bV (bE p 2 rfl rfl) (bE p 7 rfl rfl) (xY (VTab.cons (VTab.cons (VTab.cons (VTab.cons hV)))) Tryz.underlying143 C4 rfl rfl (by omega) (by omega)) 8 rfl rfl s (k () h)
      ·rintro _ S hF hS D hp K hK
       try dsimp only at hF⊢
       refine bZ hp [37,38,45] rfl rfl ?_
       refine c9 hS ?_
       refine aR ?_
       refine c9 hS ?_
       refine aS ?_
       refine c9 hS ?_
       refine aE (aE (aR ?_))
       refine bN Tryz.call47 rfl (pC (x:=x) (y:=z) (A:=A) (Q:=Q) r (jg ((z.s.lf.getD t Lf.z).st)) hzo (hzo.ids _ (List.mem_append_left _ hrm)) hA) ?_
       rintro _ _ ⟨rfl,rfl⟩
       refine aE (aR (aS (aS ?_)))
       exact cK hp hS (ti (hK () trivial)) rfl rfl rfl
     ·rintro _ hF
      try dsimp only at hF⊢
      refine az (E':=[(0,(vP e 0)),(3,(vI r)),(4,(.pointer (some ⟨(x.ks.getD t (0,0)).1,0,none⟩))),(9,(.slice bs1 z.as.a.length cp2)),(10,(vN z.as.a.length)),(11,(vN k)),(12,(.bool true)),(36,(.bool (decide ((z.s.lf.getD t Lf.z).st≥5))))]) ⟨rfl,rfl,rfl,rfl,rfl,rfl,rfl,rfl,trivial⟩ ?_
      refine qn hK10 ?_
      refine jD ?_
      refine xQ ?_
      refine rX ?_
      refine rX ?_
      refine xQ ?_
      refine gR ?_
      rw [show (z.s.lf.getD t Lf.z).st=z.s.stt (z.s.rt r.toNat) from by rw [hrt];rfl]
      refine aE (ak (aE (aR (aR ?_))))
      exact az (by exact ⟨rfl,trivial⟩) (hK1 (z.leaves r (jg (z.s.stt (z.s.rt r.toNat)))) ⟨.step r hz hrm (by show 5≤z.s.stt (z.s.rt r.toNat);rw [hrt];exact hft),hzo.leaves (List.mem_append_left _ hrm) _⟩ (hzo.less hrm _))
    ·have hft:=of_decide_eq_false c6
     refine cS (aZ (qn hK6 (aj (tp rfl (aX (c:=((k+1:Nat):Int)) rfl rfl (aB (by omega))) ?_))))
     refine ag rfl (aI (aN (aR (aR ?_))))
     exact az (by exact ⟨rfl,rfl,rfl,rfl,trivial⟩) ((hK3 (k+1) ⟨by omega,vH hall (by rw [hrd,hrt];show (z.s.lf.getD t Lf.z).st<5;omega)⟩ (by omega)))
  ·refine tp rfl (aJ rfl rfl (decide_eq_false h5)) (td hK4 (ai (fun _ hK5=>ar rfl (bT (au (au (bS ?_)))))))
   refine xv ?_
   refine ak (aR (aR ?_))
   refine fC rfl ?_
   exact ⟨z,hz,yM (by omega) hall,rfl,rfl⟩
 ·intro K0 hpass
  refine ai (fun K1 hK1=>?_)
  refine uA ?_
  refine qn hK1 ?_
  exact az (by exact ⟨rfl,trivial⟩) (hpass (y) ⟨.refl y,hy⟩)
end Go.Proofs.YtanfdikglplkaaaGreatDoor
set_option maxRecDepth 100000
namespace Go.Proofs.YtanfdikglplkaaaGreatDoor
open Go Go.Proofs Sp
set_option maxHeartbeats 4000000 in
theorem u9{R:List HP}{e:Nat}{x:EP}{q A Q:Int}{y:OS}{vr:Nat}{okd od:Int}(root:Nat)(ow op_:Int)(hv:root<x.n∧1≤ow∧ow≤100∧0≤op_∧op_≤7)(hg:(y.s.al.getD root (0,0)).1≤y.s.c.bud)(hy:OvOk x.n x.m A Q y)(hA:A≤400∧Q≤400)(hV:VTab vr R):
 Ok Tryz.prog 25 [(vP e 0),(.agg #[(vI okd),(vN root),(vI ow),(vI op_),(vI od)])] ((bQ e x y.s)::(bF x.tn q y.ms y.ta)::(dv x.ad A Q y.as)::R)
  (fun u M=>(u=.tuple #[(.agg #[.int .i64 0,.int .i64 0,.int .i64 0,.int .i64 0,.int .i64 0]),.int .i64 (kW A Q y)]∧kW A Q y≠0∧M=bQ e x y.s::bF x.tn q y.ms y.ta::dv x.ad A Q y.as::R)∨(kW A Q y=0∧∃b c p z,SubZ A Q y ⟨(root:Int),ow,op_,eg A Q y.as (x.m:Int)⟩ z∧u=.tuple #[.agg #[.int .i64 (x.m:Int),.int .i64 (z.s.rq.getD x.m Rq.z).st,.int .i64 0,.int .i64 0,.int .i64 0],.int .i64 0]∧M=bQ e (x.addRq b c p) z.s::bF x.tn q z.ms z.ta::dv x.ad A Q z.as::R)):=by
 refine aP (N:=115) Tryz.func25 rfl rfl rfl (fun W=>?_)
 refine aY (fun _ h=>dG h) (fun hE=>?_)
 have hE_nb:=hE.nb
 have hE_mb:=hE.mb
 have hE_tn:=hE.tn
 have hE_ln:=hE.ln
 have hE_mn:=hE.mn
 have hla:=hy.ao.la
 have hlq:=hy.ao.lq
 have hlm:=hy.lm
 have hme:y.ms.length=y.as.a.length:=by rw [←hy.me,List.length_map]
 refine av (fun _ hK1=>?_)
 refine tm rfl (cZ rfl rfl) ?_
 rintro _ _ ⟨b1,rfl,rfl⟩
 refine tm rfl (cD CR rfl) ?_
 rintro _ _ ⟨b2,rfl,rfl⟩
 refine aA rfl (td hK1 (av (fun _ hK2=>bU 1 CQ rfl CG rfl rfl (bK CH rfl (aa (.tail _ (.head _)) rfl) (bU 2 CQ rfl CG rfl rfl (bK CH rfl (aa (.tail _ (.head _)) rfl) (bU 3 CQ rfl CG rfl rfl ?_)))))))
 refine bK CH rfl (aa (.tail _ (.head _)) rfl) (tp rfl (bG (cs:=[(vN root),(vI ow),(vI op_)]) (pl:=[(0,1),(1,1),(2,1)]) Da DV (fun _=>by simp) rfl rfl) ?_)
 refine tm rfl (cD DV rfl) ?_
 rintro _ _ ⟨b3,rfl,rfl⟩
 refine ts (bn (news:=[(vN root),(vI ow),(vI op_)]) Dj rfl rfl rfl rfl (nB rfl) rfl) ?_
 refine td hK2 (av (fun _ hK3=>ag rfl (cV rfl (bU 12 CJ rfl Dv rfl rfl (bK DC rfl (bu (v:=(.slice x.br x.m x.cr)) (.tail _ (.tail _ (.tail _ (.head _)))) (fun _ _=>rfl)) (tp rfl (bC Dx rfl rfl) (aA rfl ?_)))))))
 refine td hK3 (ai (fun _ hK4=>aH (av (fun _ hK5=>ag rfl (bU 0 Da rfl CG rfl rfl (bK CH rfl (aa (.head _) rfl) (aS ?_)))))))
 refine bN Tryz.call22 rfl (nH (x:=x) (s:=y.s) (root:Int)) ?_
 rintro _ _ ⟨rfl,rfl⟩
 rw [show decide (0≤(root:Int)∧(root:Int)<x.n)=true from decide_eq_true (by omega)]
 refine tp rfl (dy (c:=false) rfl rfl) (ag rfl ?_)
 refine ae rfl rfl ?_
 refine bU 1 Da rfl CG rfl rfl ?_
 refine ae rfl rfl ?_
 refine bK CH rfl (aa (.tail _ (.head _)) rfl) ?_
 refine ae rfl rfl ?_
 refine tp rfl (aJ rfl rfl (decide_eq_false (by omega))) ?_
 refine tp rfl (aC rfl rfl) (ag rfl ?_)
 refine ae rfl rfl ?_
 refine bU 1 Da rfl CG rfl rfl ?_
 refine ae rfl rfl ?_
 refine bK CH rfl (aa (.tail _ (.head _)) rfl) ?_
 refine ae rfl rfl ?_
 refine tp rfl (cu rfl rfl (decide_eq_false (by omega))) ?_
 refine tp rfl (aC rfl rfl) (ag rfl ?_)
 refine ae rfl rfl ?_
 refine bU 2 Da rfl CG rfl rfl ?_
 refine ae rfl rfl ?_
 refine bK CH rfl (aa (.tail _ (.head _)) rfl) ?_
 refine ae rfl rfl ?_
 refine tp rfl (aJ rfl rfl (decide_eq_false (by omega))) ?_
 refine tp rfl (aC rfl rfl) (ag rfl ?_)
 refine ae rfl rfl ?_
 refine bU 2 Da rfl CG rfl rfl ?_
 refine ae rfl rfl ?_
 refine bK CH rfl (aa (.tail _ (.head _)) rfl) ?_
 refine ae rfl rfl ?_
 refine tp rfl (cu rfl rfl (decide_eq_false (by omega))) ?_
 refine tp rfl (aC rfl rfl) (aA rfl (td hK5 (ar rfl (ai (fun _ hK6=>?_)))))
 refine bz (γ:=Unit) (n:=16) Tryz.mixed rfl rfl (fun _ S=>True) (fun _=>[(0,50,(vP e 0)),(1,51,(vP e 0)),(2,52,(vP e 10)),(3,53,(.slice x.ba x.n x.ca)),(4,54,(vP b3 0)),(5,55,(vN root)),(6,56,(.pointer (some (ad x.ba (root*2))))),(7,57,(.pointer (some (ad x.ba (root*2))))),(8,58,(vI ((y.s.al.getD root (0,0)).1))),(9,59,(vP e 0)),(10,60,(vP e 0)),(11,61,(vP e 0)),(12,62,(vP e 0)),(13,63,(vI y.s.c.bud)),(14,64,(.bool false)),(15,49,(.bool false))]) (fun _ S=>(bQ e x y.s)::(bI b3 [(vN root),(vI ow),(vI op_)] 51)::(bI b2 [(vI 0),(vI 0),(vI 0),(vI 0),(vI 0)] 40)::(bI b1 [(vI okd),(vN root),(vI ow),(vI op_),(vI od)] 32)::(bF x.tn q y.ms y.ta)::(dv x.ad A Q y.as)::R) (()) trivial (fun _ h=>h) (fun _ _ h=>h) ?_ ?_
 ·refine ⟨aU,bW,bL CJ rfl Tryz.sizeOf24,dB DM rr rr fun _ _=>bu (v:=(.slice x.ba x.n x.ca)) (.head _) (fun _ _=>rfl),bL Da rfl CG,db CH fun _ _=>aa (.tail _ (.head _)) rfl,eJ CY Dl rr rr rr fun _=>⟨hE.oka,by omega,by omega,by omega⟩,?_,dB CH rr rr fun _ _=>pY (i:=root) (.head _) (by omega),aU,bW,bL CJ rfl Dm,bL CW rfl CG,?_,?_,fh,trivial⟩
  ·intro _ S h s D p K k;exact bH (bE p 6 rfl rfl) (bM (o':=root*2) Dt rfl CG rfl rfl) 7 rfl rfl s (k () h)
  ·rintro _ S hF hS D hp K hK;try dsimp only
   exact bH (bE hp 12 rfl rfl) (bP CH rfl (bu (v:=(vI y.s.c.bud)) (.head _) (fun _ _=>rfl))) 13 rfl rfl hS (hK () hF)
  ·intro _ S h s D p K k;exact bV (bE p 8 rfl rfl) (bE p 13 rfl rfl) (cu rfl rfl (decide_eq_false (by omega))) 14 rfl rfl s (k () h)
 ·rintro _ hF
  try dsimp only at hF⊢
  refine az (E':=[(0,(vP e 0)),(1,(.agg #[(vI okd),(vN root),(vI ow),(vI op_),(vI od)])),(3,(vP b1 0)),(4,(vP b2 0)),(5,(vI 0)),(6,(vP b3 0)),(7,(vN x.m)),(22,(.bool false)),(49,(.bool false))]) ⟨rfl,rfl,rfl,rfl,rfl,rfl,rfl,rfl,rfl,trivial⟩ ?_
  refine qn hK6 (ar rfl (av (fun _ hK7=>ag rfl ?_)))
  by_cases h4:(x.m:Int)≥64
  ·refine tp rfl (cC rfl rfl (decide_eq_true h4)) (aA rfl (td hK7 (aG rfl (av (fun _ hK8=>tp rfl (bG (cs:=[(vI 0),(vI 0),(vI 0),(vI 0),(vI 0)]) (pl:=[(0,1),(1,1),(2,1),(3,1),(4,1)]) CT CR (fun _=>by simp) rfl rfl) ?_)))))
   refine aR ?_
   refine ts (bn (news:=[(vI 0),(vI 0),(vI 0),(vI 0),(vI 0)]) CM rfl rfl rfl rfl (nB rfl) rfl) ?_
   refine aA rfl (td hK8 (ay ?_))
   refine cH ?_
   refine aK ?_
   refine aR (ak (aR (ak ?_)))
   refine dD (cs:=[(vI 0),(vI 0),(vI 0),(vI 0),(vI 0)]) rfl rfl rfl C3 CM (bh (aa (.head _) rfl) (aa (.head _) rfl) (aa (.head _) rfl) (aa (.head _) rfl) (aa (.head _) rfl)) (fun _ h=>h.drop) ?_
   exact .inl ⟨by unfold kW;rw [if_pos (by omega)],by unfold kW;rw [if_pos (by omega)];decide,rfl⟩
  ·refine tp rfl (cC rfl rfl (decide_eq_false h4)) (aA rfl (td hK7 (ar rfl (cS (aZ (qn hK4 (av (fun _ hK8=>?_))))))))
   refine ag rfl (cV rfl (bU 16 CJ rfl En rfl rfl (bK Eo rfl (bu (v:=(vP x.ad 0)) (.head _) (fun _ _=>rfl)) (ag rfl (cN ?_)))))
   refine bN Tryz.call44 rfl (AH (A:=A) (Q:=Q) (s:=y.as) (x.m:Int) (by omega)) ?_
   rintro _ _ ⟨rfl,rfl⟩
   refine ag rfl (tp rfl (aW rfl rfl) (tp rfl (aW rfl rfl) (aA rfl (aA rfl (td hK8 (ai (fun _ hK9=>av (fun _ hK10=>?_))))))))
   refine ag rfl ?_
   by_cases h5:(eE A Q y.as (x.m:Int))=0
   ·refine tp rfl (cG rfl rfl (bne_eq_false_iff_eq.2 h5)) (td hK10 (ar rfl (dp hK9 (ai (fun _ hK11=>aE ?_)))))
    refine qk (fun bl cl hE3 hl3=>?_)
    unfold jX sI;simp only [List.cons_append,List.nil_append]
    refine bz (γ:=Nat×Option Addr×Nat×Option Addr×Nat) (n:=14) Tryz.mixed rfl rfl (fun (b6,bs7,cp8,bs11,cp12) S=>(S 9=true→bB bs7 1)∧(S 9=true→1≤cp8)∧(S 10=true→bB bs11 (x.m+1))∧(S 10=true→x.m+1≤cp12)) (fun (b6,bs7,cp8,bs11,cp12)=>[(0,83,(vP e 0)),(1,84,(vP e 0)),(2,85,(vP e 0)),(3,86,(vP e 12)),(4,87,(.slice x.br x.m x.cr)),(5,88,(.agg #[(vN root),(vI ow),(vI op_)])),(6,89,(vI (eg A Q y.as (x.m:Int)))),(7,90,(.agg #[(vN root),(vI ow),(vI op_),(vI (eg A Q y.as (x.m:Int)))])),(8,91,(vP b6 0)),(9,92,(.slice bs7 1 cp8)),(10,93,(.slice bs11 (x.m+1) cp12)),(11,94,(vP e 0)),(12,95,(vP e 12))]) (fun (b6,bs7,cp8,bs11,cp12) S=>(bif S 13 then (bI e [(vI y.s.c.bud),(vI y.s.c.slots),(vI y.s.c.act),(vI y.s.c.que),(vI y.s.c.tries),(vI y.s.c.pre),(vI y.s.c.tmo),(vI y.s.c.bak),(vI y.s.c.most),(vI y.s.c.qu),(.slice x.ba x.n x.ca),(.slice x.bt x.n x.ct),(.slice bs11 (x.m+1) cp12),(vP x.g 0),(vP x.tp 0),(vP x.ld 0),(vP x.ad 0),(vP x.tn 0),(vI y.s.now),(vI y.s.bg),(.slice bl y.s.lg.length cl)] 73) else (bI e [(vI y.s.c.bud),(vI y.s.c.slots),(vI y.s.c.act),(vI y.s.c.que),(vI y.s.c.tries),(vI y.s.c.pre),(vI y.s.c.tmo),(vI y.s.c.bak),(vI y.s.c.most),(vI y.s.c.qu),(.slice x.ba x.n x.ca),(.slice x.bt x.n x.ct),(.slice x.br x.m x.cr),(vP x.g 0),(vP x.tp 0),(vP x.ld 0),(vP x.ad 0),(vP x.tn 0),(vI y.s.now),(vI y.s.bg),(.slice bl y.s.lg.length cl)] 73))::(SlV 57 2 (.slice x.ba x.n x.ca) x.n (df y.s.al))::(SlV 64 1 (.slice x.bt x.n x.ct) x.n (bJ dJ (x.ks.map Prod.fst)))::(bif S 10 then (SlV 79 1 (.slice bs11 (x.m+1) cp12) (x.m+1) (bJ dJ (x.rs++[b6]))) else (SlV 79 1 (.slice x.br x.m x.cr) x.m (bJ dJ x.rs)))::(SlV 45 5 (.slice bl y.s.lg.length cl) y.s.lg.length (bJ gH y.s.lg))::(cI (e9 tf Prod.fst pd x.ks y.s.tk))::(cI (e9 py Prod.snd (fun _=>fD) x.ks y.s.lf))::(cI (e9 w5 id (fun _=>rv) x.rs y.s.rq))::(dv x.ad A Q (fg A Q y.as (x.m:Int)))::(bI b3 [(vN root),(vI ow),(vI op_)] 51)::(bI b2 [(vI 0),(vI 0),(vI 0),(vI 0),(vI 0)] 40)::(bI b1 [(vI okd),(vN root),(vI ow),(vI op_),(vI od)] 32)::(bF x.tn q y.ms y.ta)::(bif S 8 then (bI b6 [(vN root),(vI ow),(vI op_),(vI (eg A Q y.as (x.m:Int)))] 82) else ib)::(bif S 9 then (SlV 79 1 (.slice bs7 1 cp8) 1 [(vP b6 0)]) else ib)::R) (0,none,0,none,0) (by simp [Nat.ble]) (fun _ h=>ef [_,_,_,_,_,_,_,_,_,_,_,_,_] 2 h) (fun _ _ h=>h) ?_ ?_
    ·refine ⟨ga fun ⟨_,_,_,_,_⟩=>da,ga fun ⟨_,_,_,_,_⟩=>da,ga fun ⟨_,_,_,_,_⟩=>fx,ga fun ⟨_,_,_,_,_⟩=>dF CJ rfl Dv,?_,?_,ga fun ⟨_,_,_,_,_⟩=>da,?_,?_,?_,?_,ga fun ⟨_,_,_,_,_⟩=>fx,ga fun ⟨_,_,_,_,_⟩=>dF CJ rfl Dv,?_,trivial⟩
     ·rintro ⟨b6,bs7,cp8,bs11,cp12⟩ S hF hS D hp K hK;try dsimp only
      exact bH (bE hp 3 rfl rfl) (bP DC rfl (aa (cF (nf hS D (k:=13) (i:=4) rfl) (.head _)) rfl)) 4 rfl rfl hS (hK (b6,bs7,cp8,bs11,cp12) hF)
     ·rintro ⟨b6,bs7,cp8,bs11,cp12⟩ S hF hS D hp K hK;try dsimp only
      exact bH (qT (t:=6) rfl rfl) (cB (cs:=[(vN root),(vI ow),(vI op_)]) Em Dj rfl (ej (aa (.tail _ (.tail _ (.tail _ (.tail _ (.tail _ (.tail _ (.tail _ (.tail _ (.tail _ (.head _)))))))))) rfl) (aa (.tail _ (.tail _ (.tail _ (.tail _ (.tail _ (.tail _ (.tail _ (.tail _ (.tail _ (.head _)))))))))) rfl) (aa (.tail _ (.tail _ (.tail _ (.tail _ (.tail _ (.tail _ (.tail _ (.tail _ (.tail _ (.head _)))))))))) rfl))) 5 rfl rfl hS (hK (b6,bs7,cp8,bs11,cp12) hF)
     ·rintro ⟨b6,bs7,cp8,bs11,cp12⟩ S hF hS D hp K hK;try dsimp only
      exact bV (bE hp 5 rfl rfl) (bE hp 6 rfl rfl) (bG (cs:=[(vN root),(vI ow),(vI op_),(vI (eg A Q y.as (x.m:Int)))]) (pl:=[(0,3),(3,1)]) Ds Tryz.zeroValue82 (fun _=>by simp) rfl rfl) 7 rfl rfl hS (hK (b6,bs7,cp8,bs11,cp12) hF)
     ·rintro ⟨b6,bs7,cp8,bs11,cp12⟩ S hF hS D hp K hK
      try dsimp only at hF⊢
      obtain ⟨hf0,hf1,hf2,hf3⟩:=hF
      refine bZ hp [90] rfl rfl ?_
      refine aS ?_
      refine c9 (nf (nf hS D (k:=9) (i:=8) rfl) D (k:=10) (i:=9) rfl) ?_
      refine tm rfl (cZ rfl rfl) ?_
      rintro _ _ ⟨b6,rfl,rfl⟩
      refine aE ?_
      refine fG (A:=(SlV 79 1 (.slice bs11 (x.m+1) cp12) (x.m+1) (bJ dJ (x.rs++[b6])))) (nf (nf hS D (k:=9) (i:=8) rfl) D (k:=10) (i:=9) rfl) ?_
      refine dN ?_
      refine c9 (nf hS D (k:=9) (i:=8) rfl) ?_
      refine fG (A:=(SlV 79 1 (.slice bs7 1 cp8) 1 [(vP b6 0)])) (nf hS D (k:=9) (i:=8) rfl) ?_
      refine dN (dN (dN (dN (dN (dN (dN (dN (dN (dN ?_)))))))))
      refine iQ (dN (dN (dN (dN ?_))))
      refine bO (fun _ h=>cX [_,_,_,_,_,_,_,_,_,_,_,_,_] h) ?_
      exact cK hp hS (ti (hK (b6,bs7,cp8,bs11,cp12) ⟨hf0,hf1,hf2,hf3⟩)) rfl rfl rfl
     ·rintro ⟨b6,bs7,cp8,bs11,cp12⟩ S hF hS D hp K hK
      try dsimp only at hF⊢
      obtain ⟨hf0,hf1,hf2,hf3⟩:=hF
      refine bZ hp [91] rfl rfl ?_
      refine tm rfl (aD (cs:=[(vP b6 0)]) Dx DP Tryz.zeroValue79 (by decide) rfl rfl rfl rfl) ?_
      rintro _ _ ⟨bs7,cp8,hok9,hle10,rfl,rfl⟩
      refine bO (fun _ h=>cX [_,_,_,_,_,_,_,_,_,_,_,_,_,_] h) ?_
      exact cK hp hS (ti (hK (b6,bs7,cp8,bs11,cp12) ⟨(fun _=>hok9),(fun _=>hle10),hf2,hf3⟩)) rfl rfl rfl
     ·rintro ⟨b6,bs7,cp8,bs11,cp12⟩ S hF hS D hp K hK
      try dsimp only at hF⊢
      obtain ⟨hf0,hf1,hf2,hf3⟩:=hF
      have s9:=hp 9 rfl
      have hok9:=hf0 s9
      have hle10:=hf1 s9
      refine bZ hp [87,92] rfl rfl ?_
      refine c9 (nf hS D (k:=13) (i:=10) rfl) ?_
      refine aS ?_
      refine c9 hS ?_
      refine rC ?_
      have s8:=D 9 8 rfl s9
      refine jJ s8 ?_
      refine im ?_
      refine jJ s9 ?_
      refine aR ?_
      refine tm rfl (cR (i:=Tryz.t79) Dx Tryz.type79 rfl rfl rfl (by decide) rfl rfl hok9 (by first| (simp;done)| (simp;omega)) (cj (.tail _ (.head _))) (by simp [Value.oneCell']) (by rw [show Tryz.t79.bytes=8 from rfl];omega)) ?_
      rintro _ _ ⟨bs11,cp12,hok13,hle14,rfl,rfl⟩
      rw [show bJ dJ x.rs++[(.pointer (some ⟨b6,0,none⟩))]=bJ dJ (x.rs++[b6]) from iG dJ x.rs b6]
      refine aS ?_
      refine fG (A:=(bI e [(vI y.s.c.bud),(vI y.s.c.slots),(vI y.s.c.act),(vI y.s.c.que),(vI y.s.c.tries),(vI y.s.c.pre),(vI y.s.c.tmo),(vI y.s.c.bak),(vI y.s.c.most),(vI y.s.c.qu),(.slice x.ba x.n x.ca),(.slice x.bt x.n x.ct),(.slice bs11 (x.m+1) cp12),(vP x.g 0),(vP x.tp 0),(vP x.ld 0),(vP x.ad 0),(vP x.tn 0),(vI y.s.now),(vI y.s.bg),(.slice bl y.s.lg.length cl)] 73)) (nf hS D (k:=13) (i:=10) rfl) ?_
      refine aS ?_
      refine lZ (B:=ib) s8 ?_
      refine aS ?_
      refine lZ (B:=ib) s9 ?_
      refine aE (im (im (im (im (im (im (im (im (im ?_)))))))))
      refine eH (im (im (im ?_)))
      exact cK hp hS (ti (hK (b6,bs7,cp8,bs11,cp12) ⟨hf0,hf1,(fun _=>hok13),(fun _=>hle14)⟩)) rfl rfl rfl
     ·rintro ⟨b6,bs7,cp8,bs11,cp12⟩ S hF hS D hp K hK
      try dsimp only at hF⊢
      obtain ⟨hf0,hf1,hf2,hf3⟩:=hF
      have s9:=hp 9 rfl
      have hok9:=hf0 s9
      have hle10:=hf1 s9
      have s10:=hp 10 rfl
      have hok13:=hf2 s10
      have hle14:=hf3 s10
      refine bZ hp [93,95] rfl rfl ?_
      refine c9 hS ?_
      refine ts (cM Dv rfl rfl rfl (nB rfl) rfl) ?_
      exact gE hp (ti (hK (b6,bs7,cp8,bs11,cp12) ⟨hf0,hf1,hf2,hf3⟩)) rfl rfl rfl
    ·rintro ⟨b6,bs7,cp8,bs11,cp12⟩ hF
     try dsimp only at hF⊢
     obtain ⟨hf0,hf1,hf2,hf3⟩:=hF
     have hok9:=hf0 rfl
     have hle10:=hf1 rfl
     have hok13:=hf2 rfl
     have hle14:=hf3 rfl
     refine az (E':=[(0,(vP e 0)),(1,(.agg #[(vI okd),(vN root),(vI ow),(vI op_),(vI od)])),(3,(vP b1 0)),(4,(vP b2 0)),(5,(vI 0)),(6,(vP b3 0)),(7,(vN x.m)),(8,(vI (eg A Q y.as (x.m:Int)))),(9,(vI (eE A Q y.as (x.m:Int)))),(22,(.bool false)),(49,(.bool false)),(66,(.bool false)),(80,(.bool false))]) ⟨rfl,rfl,rfl,rfl,rfl,rfl,rfl,rfl,rfl,rfl,rfl,rfl,rfl,trivial⟩ ?_
     refine qn hK11 (ai (fun _ hK12=>av (fun _ hK13=>eL (rC (dR (dR (dR (dR ?_))))))))
     refine dR (dR (dR ?_))
     refine zi (p:=b6) ⟨(root:Int),ow,op_,eg A Q y.as (x.m:Int)⟩ hE3 hl3 (by omega) hok13 hle14 ?_
     obtain ⟨x2,hx2⟩:∃z,x.addRq bs11 cp12 b6=z:=⟨_,rfl⟩
     have hxn:x2.n=x.n:=by rw [←hx2];rfl
     have hxm:x2.m=x.m+1:=by rw [←hx2];rfl
     have hxt:x.tn=x2.tn:=by rw [←hx2];rfl
     have hxa:x.ad=x2.ad:=by rw [←hx2];rfl
     rw [hx2,hxt,hxa]
     have hadd:y.added A Q ⟨(root:Int),ow,op_,eg A Q y.as (x.m:Int)⟩=⟨y.s.addRq ⟨(root:Int),ow,op_,eg A Q y.as (x.m:Int)⟩,y.ms,y.ta,fg A Q y.as (x.m:Int)⟩:=by unfold OS.added;rw [hlm]
     have her:eE A Q y.as (y.s.rq.length:Int)=0:=by rw [hlm];omega
     have hrr:0≤(⟨(root:Int),ow,op_,eg A Q y.as (x.m:Int)⟩:Rq).root∧(⟨(root:Int),ow,op_,eg A Q y.as (x.m:Int)⟩:Rq).root<x.n∧1≤(⟨(root:Int),ow,op_,eg A Q y.as (x.m:Int)⟩:Rq).wt∧(⟨(root:Int),ow,op_,eg A Q y.as (x.m:Int)⟩:Rq).wt≤100∧0≤(⟨(root:Int),ow,op_,eg A Q y.as (x.m:Int)⟩:Rq).pr∧(⟨(root:Int),ow,op_,eg A Q y.as (x.m:Int)⟩:Rq).pr≤7:=by dsimp only;omega
     have hsub:kW A Q y=0:=by unfold kW;rw [if_neg (by omega)];exact her
     refine ag rfl ?_
     by_cases h15:(eg A Q y.as (x.m:Int))=1
     ·refine tp rfl (aV rfl rfl (beq_iff_eq.2 h15)) (td hK13 (aG rfl (av (fun _ hK14=>?_))))
      have hv1:eg A Q y.as (y.s.rq.length:Int)=1:=by rw [hlm];assumption
      have hoa:=hy.addedA hrr her hv1
      have ho0:=hy.added0 hrr her
      rw [hadd] at hoa ho0
      rw [hlm] at hoa
      rw [←hxn,←hxm] at hoa
      rw [←hxn] at ho0
      refine ag rfl (ag rfl (cN (aE ?_)))
      refine bN Tryz.call45 rfl (pU (x:=x2) (s:=(y.s.addRq ⟨(root:Int),ow,op_,eg A Q y.as (x.m:Int)⟩)) (ms:=y.ms) x.m (by omega) ho0.1 (by omega)) ?_
      rintro _ _ ⟨rfl,rfl⟩
      refine td hK14 (aj (ag rfl (aR (aR (aR ?_)))))
      refine bN Tryz.call46 rfl (qP (x:=x2) (y:=(OS.come ⟨y.s.addRq ⟨(root:Int),ow,op_,eg A Q y.as (x.m:Int)⟩,y.ms,y.ta,fg A Q y.as (x.m:Int)⟩ x.m)) (A:=A) (Q:=Q) hoa hA (VTab.cons (VTab.cons (VTab.cons (VTab.cons hV))))) ?_
      rintro _ _ ⟨yo16,hyo16v,hyo16c,rfl,rfl⟩
      refine td hK12 (av (fun _ hK15=>?_))
      refine aY (fun _ h=>dG h) (fun hE4=>?_)
      have hE4_nb:=hE4.nb
      have hE4_mb:=hE4.mb
      have hE4_tn:=hE4.tn
      have hE4_ln:=hE4.ln
      have hE4_mn:=hE4.mn
      refine ag rfl (ag rfl (cV rfl (bU 12 CJ rfl Dv rfl rfl (bK DC rfl (bu (v:=(.slice x2.br x2.m x2.cr)) (.head _) (fun _ _=>rfl)) (ag rfl (tp rfl (ah (k':=x.m) Dx DP rfl rfl hE4.okr (by omega) (by omega) (by omega)) ?_))))))
      refine bK DU rfl (ie (i:=x.m) (.head _) (by omega)) ?_
      refine cV rfl (bU 3 Ds rfl CG rfl rfl (bK CH rfl (eB (i:=x.m) (v:=(vI ((yo16.s.rq.getD x.m Rq.z).st))) (.head _) (by omega) rfl) ?_))
      refine tp rfl (bG (cs:=[(vN x.m),(vI ((yo16.s.rq.getD x.m Rq.z).st)),(vI 0),(vI 0),(vI 0)]) (pl:=[(0,1),(1,1),(2,1),(3,1),(4,1)]) CT CR (fun _=>by simp) rfl rfl) ?_
      refine de ?_
      refine ts (bn (news:=[(vN x.m),(vI ((yo16.s.rq.getD x.m Rq.z).st)),(vI 0),(vI 0),(vI 0)]) CM rfl rfl rfl rfl (nB rfl) rfl) ?_
      refine aA rfl (td hK15 (ay ?_))
      subst hx2
      refine de (ak (de (ak (de (ak ?_)))))
      refine dD (cs:=[(vN x.m),(vI ((yo16.s.rq.getD x.m Rq.z).st)),(vI 0),(vI 0),(vI 0)]) rfl rfl rfl C3 CM (bh (aa (.head _) rfl) (aa (.head _) rfl) (aa (.head _) rfl) (aa (.head _) rfl) (aa (.head _) rfl)) (fun _ h=>h.drop) ?_
      refine .inr ⟨hsub,bs11,cp12,b6,yo16,.inl ⟨hv1,?_,hyo16c⟩,?_⟩
      ·rw [hlm,hadd];exact hyo16v
      ·exact ⟨rfl,rfl⟩
     ·refine tp rfl (aV rfl rfl (beq_eq_false_iff_ne.2 h15)) (td hK13 (ar rfl (dp hK12 (av (fun _ hK14=>?_)))))
      refine aY (fun _ h=>dG h) (fun hE4=>?_)
      have hE4_nb:=hE4.nb
      have hE4_mb:=hE4.mb
      have hE4_tn:=hE4.tn
      have hE4_ln:=hE4.ln
      have hE4_mn:=hE4.mn
      refine ag rfl (ag rfl (cV rfl (bU 12 CJ rfl Dv rfl rfl (bK DC rfl (bu (v:=(.slice x2.br x2.m x2.cr)) (.head _) (fun _ _=>rfl)) (ag rfl (tp rfl (ah (k':=x.m) Dx DP rfl rfl hE4.okr (by omega) (by omega) (by omega)) ?_))))))
      refine bK DU rfl (ie (i:=x.m) (.head _) (by omega)) ?_
      refine cV rfl (bU 3 Ds rfl CG rfl rfl (bK CH rfl (eB (i:=x.m) (v:=(vI (((y.s.addRq ⟨(root:Int),ow,op_,eg A Q y.as (x.m:Int)⟩).rq.getD x.m Rq.z).st))) (.head _) (by omega) rfl) ?_))
      refine tp rfl (bG (cs:=[(vN x.m),(vI (((y.s.addRq ⟨(root:Int),ow,op_,eg A Q y.as (x.m:Int)⟩).rq.getD x.m Rq.z).st)),(vI 0),(vI 0),(vI 0)]) (pl:=[(0,1),(1,1),(2,1),(3,1),(4,1)]) CT CR (fun _=>by simp) rfl rfl) ?_
      refine aS ?_
      refine ts (bn (news:=[(vN x.m),(vI (((y.s.addRq ⟨(root:Int),ow,op_,eg A Q y.as (x.m:Int)⟩).rq.getD x.m Rq.z).st)),(vI 0),(vI 0),(vI 0)]) CM rfl rfl rfl rfl (nB rfl) rfl) ?_
      refine aA rfl (td hK14 (ay ?_))
      subst hx2
      refine aS (ak (aS (ak (de (ak (aR (aS (aS (aS ?_)))))))))
      refine dD (cs:=[(vN x.m),(vI (((y.s.addRq ⟨(root:Int),ow,op_,eg A Q y.as (x.m:Int)⟩).rq.getD x.m Rq.z).st)),(vI 0),(vI 0),(vI 0)]) rfl rfl rfl C3 CM (bh (aa (.head _) rfl) (aa (.head _) rfl) (aa (.head _) rfl) (aa (.head _) rfl) (aa (.head _) rfl)) (fun _ h=>h.drop) ?_
      refine .inr ⟨hsub,bs11,cp12,b6,y.added A Q ⟨(root:Int),ow,op_,eg A Q y.as (x.m:Int)⟩,.inr ⟨by rw [hlm];assumption,rfl⟩,?_⟩
      rw [hadd];exact ⟨rfl,rfl⟩
   ·refine tp rfl (cG rfl rfl (bne_iff_ne.2 h5)) (td hK10 (aG rfl (av (fun _ hK11=>tp rfl (bG (cs:=[(vI 0),(vI 0),(vI 0),(vI 0),(vI 0)]) (pl:=[(0,1),(1,1),(2,1),(3,1),(4,1)]) CT CR (fun _=>by simp) rfl rfl) ?_))))
    refine ag rfl (aS ?_)
    refine ts (bn (news:=[(vI 0),(vI 0),(vI 0),(vI 0),(vI 0)]) CM rfl rfl rfl rfl (nB rfl) rfl) ?_
    refine aA rfl (td hK11 (ay ?_))
    refine aK ?_
    refine aS (ak (aS (ak (aE (aS (aS (aS ?_)))))))
    refine dD (cs:=[(vI 0),(vI 0),(vI 0),(vI 0),(vI 0)]) rfl rfl rfl C3 CM (bh (aa (.head _) rfl) (aa (.head _) rfl) (aa (.head _) rfl) (aa (.head _) rfl) (aa (.head _) rfl)) (fun _ h=>h.drop) ?_
    rw [show fg A Q y.as (x.m:Int)=y.as from B4 (by omega)]
    exact .inl ⟨by unfold kW;rw [if_neg (by omega),hlm];rfl,by unfold kW;rw [if_neg (by omega),hlm];omega,rfl⟩
end Go.Proofs.YtanfdikglplkaaaGreatDoor
