/- Parts El, Fc: own lemmas and contracts of the code that the claim reaches. -/
import Derived.Test.YtanfdikglplkaaaGreatDoorM03
import Derived.Test.YtanfdikglplkaaaGreatDoorM28
import Derived.Test.YtanfdikglplkaaaGreatDoorM29
import Derived.Test.YtanfdikglplkaaaGreatDoorM30
import Derived.Test.YtanfdikglplkaaaGreatDoorM04
set_option linter.unusedSimpArgs false
set_option linter.unusedVariables false
set_option maxRecDepth 100000
namespace Go.Proofs.YtanfdikglplkaaaGreatDoor
open Go Go.Proofs Sp
set_option maxHeartbeats 4000000 in
theorem pn{R:List HP}{p:Nat→Bool}{f n:Nat}{caps:List Value}{bx:Option Addr}{cx:Nat}(ps:List (Int×Int))(hlp:ps.length=n)(hf:(∀args w,(callFunc f args).run Tryz.prog w=.ok (.enter f args) w)∧∀k,k<n→Ok Tryz.prog f ([.agg #[.int .i64 (ps.getD k (0,0)).1,.int .i64 (ps.getD k (0,0)).2]]++caps) R (fun v M=>v=.bool (p k)∧M=R))(hx:Rd R bx (df ps))(okx:bB bx n)(lx:n≤4611686018427387904):
 Ok Tryz.prog 58 [(.slice bx n cx),(.func (.func f) #[] caps.toArray)] R
  (fun v M=>v=.int .i64 (gi p n)∧M=R):=by
 obtain ⟨hcall,hf⟩:=hf
 refine aP (N:=19) Tryz.func58 rfl rfl rfl (fun W=>?_)
 refine av (fun _ hK1=>aA rfl (td hK1 (ai (fun _ hK2=>av (fun _ hK3=>ag rfl (tp rfl (bC D5 rfl rfl) ?_))))))
 refine ag rfl (td hK3 (aH ?_))
 refine cE (γ:=(Nat)) (fun (k:Nat)=>k≤n∧(∀j,j<k→p j=false)) (fun (k:Nat)=>[(0,(.slice bx n cx)),(1,(.func (.func f) #[] caps.toArray)),(7,(vN n)),(8,(vN k))]) (fun (k:Nat)=>R) (fun (k:Nat)=>n-k) (0) ⟨by omega,fun j hj=>by omega⟩ ⟨rfl,rfl,rfl,rfl,trivial⟩ (fun _ h=>h) ?_
 rintro k K4 hF hK4
 try dsimp only at hF hK4⊢
 obtain ⟨hk,hall⟩:=hF
 refine av (fun _ hK5=>?_)
 by_cases h1:(k:Int)< (n:Int)
 ·refine tp rfl (aJ rfl rfl (decide_eq_true h1)) (td hK5 (ai (fun _ hK6=>aG rfl (dp hK6 (ai (fun _ hK7=>aH (ai (fun _ hK8=>?_))))))))
  refine aj (ag rfl (aA rfl (td hK8 (av (fun _ hK9=>ag rfl (ag rfl (ag rfl ?_)))))))
  refine tp rfl (ah (k':=k*2) D5 D6 rfl rfl okx (by omega) (by omega) (by omega)) ?_
  refine tp rfl (cU (cs:=[(vI (((ps).getD k (0,0)).1)),(vI (((ps).getD k (0,0)).2))]) Tryz.isAgg110 D6 rfl (fW (Rd.gives hx (gv (by first|omega| (simp;omega)))) (Rd.gives hx (hY (by first|omega| (simp;omega)))))) ?_
  refine tc rfl (lJ hcall rfl rfl) (hf k (by omega)) ?_
  rintro _ _ ⟨rfl,hMR⟩
  rw [hMR];clear hMR
  refine td hK9 ?_
  refine cW rfl (fun c2=>?_) (fun c2=>?_)
  ·skip
   refine av (fun _ hK10=>ag rfl (aA rfl (td hK10 (ay ?_))))
   refine cH ?_
   refine aK ?_
   refine aK ?_
   refine cH ?_
   refine aK ?_
   refine aM rfl rfl ?_
   exact ⟨by rw [kP (k:=k) (by omega) ‹_› hall],rfl⟩
  ·skip
   refine cS (aZ (qn hK7 (aj (tp rfl (aX (c:=((k+1:Nat):Int)) rfl rfl (aB (by omega))) ?_))))
   refine ag rfl (aI (aN ?_))
   exact az (by exact ⟨rfl,rfl,rfl,rfl,trivial⟩) ((hK4 (k+1) ⟨by omega,jx hall ‹_›⟩ (by omega)))
 ·refine tp rfl (aJ rfl rfl (decide_eq_false h1)) (td hK5 (ai (fun _ hK6=>ar rfl (bT (au (au (bS (qn hK2 ?_))))))))
  refine av (fun _ hK7=>aA rfl (td hK7 (ay ?_)))
  refine aM rfl rfl ?_
  exact ⟨by rw [iL (fun j hj=>hall j (by omega))],rfl⟩
theorem yn{R:List HP}{c:Nat}{i k r:Int}(hr:Gives R ⟨c,0,none⟩ (.int .i64 r)):
 Ok Tryz.prog 59 [(.agg #[(vI i),(vI k)]),(vP c 0)] R
  (fun v M=>v=.bool (decide (i=r))∧M=R):=by
 refine aP (N:=8) Tryz.func59 rfl rfl rfl (fun W=>?_)
 refine av (fun _ hK1=>?_)
 refine tm rfl (cZ rfl rfl) ?_
 rintro _ _ ⟨b1,rfl,rfl⟩
 refine aA rfl (td hK1 (av (fun _ hK2=>bU 0 D7 rfl CG rfl rfl (bK CH rfl (aa (.head _) rfl) (bK CH rfl (Gives.cons hr) (tp rfl (aV rfl rfl rfl) (aA rfl ?_)))))))
 refine td hK2 (ay (ak ?_))
 refine aM rfl rfl ?_
 exact ⟨rfl,rfl⟩
end Go.Proofs.YtanfdikglplkaaaGreatDoor
set_option maxRecDepth 100000
namespace Go.Proofs.YtanfdikglplkaaaGreatDoor
open Go Go.Proofs Sp
set_option maxHeartbeats 4000000 in
theorem BH{R:List HP}{e:Nat}{x:EP}{q A Q:Int}{y:OS}{n hp:Nat}{es:Es}{ks:Ks}{ld:Led}{okd oa ob oc od p:Int}{tl9:List Int}(hb0:dO (y.s.lf.map (·.st)) (iE x.n es (e6 y.s y.as.a)) x.n=(p,tl9))(htr:∀t∈tl9,0≤t∧t<x.n)(hW:∀l:List Int,l≠[]→(∀t∈l,t∈tl9)→∃ps qs,WantI x.n y.s y.as.a es y.ms y.ta l ps qs)(hy:OvOk x.n x.m A Q y)(hA:A≤400∧Q≤400)(h16:x.n≤16)(hz:HzL ld)(hl:y.s.lg.length≤900000000)(hb:0≤y.s.bg∧y.s.bg≤1000000000000)(he:∀t,t<x.n→(y.s.lf.getD t Lf.z).ep≤1000000000000)(hT:Tab R)(htm:0≤y.s.c.tmo∧y.s.c.tmo≤1048576):
 Ok Tryz.prog 28 [(vP e 0),(.agg #[(vI okd),(vI oa),(vI ob),(vI oc),(vI od)])] ((bQ e x y.s)::(dz x.ld ld)::(bI x.tp [(vP hp 0)] 132)::(cL hp n ks)::(aT x.g x.n es)::(bF x.tn q y.ms y.ta)::(dv x.ad A Q y.as)::R)
  (fun u M=> ∃(er sl ep rr tt:Int) (a:SL) (tm:List M3) (tb:Nat),Cl (⟨y.s,ld,ks⟩:SL) (iE x.n es (e6 y.s y.as.a)) tl9 x.n p y.ms y.ta (tl9.filter (fE x.n y.s.al (ld.bud-ld.used))) er sl ep rr tt a tm tb∧u=.tuple #[.agg #[.int .i64 rr,.int .i64 0,.int .i64 tt,.int .i64 sl,.int .i64 ep],.int .i64 er]∧M=bQ e x a.s::dz x.ld a.ld::bI x.tp [.pointer (some ⟨hp,0,none⟩)] 132::cL hp n a.ks::aT x.g x.n es::bF x.tn q tm tb::dv x.ad A Q y.as::R):=by
 have hb1:(dO (y.s.lf.map (·.st)) (iE x.n es (e6 y.s y.as.a)) x.n).1=p:=by rw [hb0]
 have hb2:(dO (y.s.lf.map (·.st)) (iE x.n es (e6 y.s y.as.a)) x.n).2=tl9:=by rw [hb0]
 refine aP (N:=128) Tryz.func28 rfl rfl rfl (fun W=>?_)
 refine aY (fun _ h=>dG h) (fun hE=>?_)
 have hE_nb:=hE.nb
 have hE_mb:=hE.mb
 have hE_tn:=hE.tn
 have hE_ln:=hE.ln
 have hE_mn:=hE.mn
 have hE_an:=hE.an
 have hsl0:(y.s.lf.map (·.st)).length=x.n:=by rw [List.length_map];exact hE.ln
 have hla:=hy.ao.la
 have hlq:=hy.ao.lq
 have hlm:=hy.lm
 have hme:y.ms.length=y.as.a.length:=by rw [←hy.me,List.length_map]
 refine av (fun _ hK1=>?_)
 refine tm rfl (cZ rfl rfl) ?_
 rintro _ _ ⟨b1,rfl,rfl⟩
 refine tm rfl (cD CR rfl) ?_
 rintro _ _ ⟨b2,rfl,rfl⟩
 refine aA rfl (td hK1 (av (fun _ hK2=>ag rfl (cV rfl (bU 16 CJ rfl En rfl rfl (bK Eo rfl (bu (v:=(vP x.ad 0)) (.tail _ (.tail _ (.head _))) (fun _ _=>rfl)) (dR ?_)))))))
 refine bN Tryz.call42 rfl (lE (A:=A) (Q:=Q) (s:=y.as) (by omega)) ?_
 rintro _ _ ⟨bs3,cp4,hok5,hle6,rfl,rfl⟩
 refine aA rfl (td hK2 (av (fun _ hK3=>aA rfl (td hK3 (av (fun _ hK4=>?_))))))
 refine aA rfl (td hK4 (ai (fun _ hK5=>av (fun _ hK6=>ag rfl (tp rfl (bC CI rfl rfl) (ag rfl (aI ?_)))))))
 refine qn hK6 (aH ?_)
 refine bO (fun _ h=>cz 51 3 h) ?_
 refine bO (fun _ h=>cz 3 1 h) ?_
 refine cN (ak ?_)
 refine cE (γ:=(Nat)×(Option Addr)×(Nat)×(Option Addr)×(Nat)) (fun (k,ba,ca,bo,co)=>k≤y.as.a.length∧bB ba k∧k≤ca∧bB bo k∧k≤co) (fun (k,ba,ca,bo,co)=>[(0,(vP e 0)),(1,(.agg #[(vI okd),(vI oa),(vI ob),(vI oc),(vI od)])),(4,(vP b2 0)),(5,(vI 0)),(6,(.slice bs3 y.as.a.length cp4)),(7,(.slice ba k ca)),(8,(.slice bo k co)),(26,(.slice bs3 y.as.a.length cp4)),(27,(vN y.as.a.length)),(28,(vN k))]) (fun (k,ba,ca,bo,co)=>(SlV 3 1 (.slice bo k co) k (aF .i64 ((dE y.s y.as.a).take k)))::(SlV 51 3 (.slice ba k ca) k (bJ qx ((e6 y.s y.as.a).take k)))::(SlV 3 1 (.slice bs3 y.as.a.length cp4) y.as.a.length (aF .i64 y.as.a))::(dv x.ad A Q y.as)::(bI b2 [(vI 0),(vI 0),(vI 0),(vI 0),(vI 0)] 40)::(bQ e x y.s)::(dz x.ld ld)::(bI x.tp [(vP hp 0)] 132)::(cL hp n ks)::(aT x.g x.n es)::(bF x.tn q y.ms y.ta)::R) (fun (k,ba,ca,bo,co)=>y.as.a.length-k) (0,none,0,none,0) ⟨Nat.zero_le _,cn,Nat.le_refl _,cn,Nat.le_refl _⟩ ⟨rfl,rfl,rfl,rfl,rfl,rfl,rfl,rfl,rfl,rfl,trivial⟩ (fun _ h=>h) ?_
 rintro ⟨k,ba,ca,bo,co⟩ K7 hF hK7
 try dsimp only at hF hK7⊢
 obtain ⟨hk,hoka,hlea,hoko,hleo⟩:=hF
 refine av (fun _ hK8=>?_)
 by_cases h7:(k:Int)< (y.as.a.length:Int)
 ·refine tp rfl (aJ rfl rfl (decide_eq_true h7)) (td hK8 (ai (fun _ hK9=>aG rfl (dp hK9 (ai (fun _ hK10=>aH (ai (fun _ hK11=>?_))))))))
  refine aj (tp rfl (ah (k':=k) CI CG rfl rfl hok5 (by omega) (by omega) (by omega)) ?_)
  refine bK CH rfl (aw (.tail _ (.tail _ (.head _))) (aQ (by first|omega| (simp;omega)))) ?_
  refine aA rfl (td hK11 ?_)
  obtain ⟨r,hrd⟩:∃r,y.as.a.getD k 0=r:=⟨_,rfl⟩
  rw [hrd]
  have hrm:r∈y.as.a:=by rw [←hrd];exact dP (by omega)
  have hr0:=hy.ids r (List.mem_append_left _ hrm)
  have hac:=yk y.s (k:=k) (ids:=y.as.a) (by omega)
  have hro:=tz y.s (k:=k) (ids:=y.as.a) (by omega)
  rw [hrd] at hac hro
  refine bz (γ:=Option Addr×Nat×Option Addr×Nat×Option Addr×Nat×Option Addr×Nat) (n:=29) Tryz.mixed rfl rfl (fun (bs8,cp9,bs12,cp13,bs16,cp17,bs20,cp21) S=>(S 11=true→bB bs8 1)∧(S 11=true→1≤cp9)∧(S 12=true→bB bs12 (k+1))∧(S 12=true→k+1≤cp13)∧(S 25=true→bB bs16 1)∧(S 25=true→1≤cp17)∧(S 26=true→bB bs20 (k+1))∧(S 26=true→k+1≤cp21)) (fun (bs8,cp9,bs12,cp13,bs16,cp17,bs20,cp21)=>[(0,32,(.slice ba k ca)),(1,33,(vP e 0)),(2,34,(vP e 0)),(3,35,(vP e 12)),(4,36,(.slice x.br x.m x.cr)),(5,37,(vI r)),(6,38,(.pointer (some (ad x.br r.toNat)))),(7,39,(vP (x.rs.getD r.toNat 0) 0)),(8,40,(vP (x.rs.getD r.toNat 0) 0)),(9,41,(vP (x.rs.getD r.toNat 0) 0)),(10,42,(.agg #[(vI ((y.s.rq.getD r.toNat Rq.z).root)),(vI ((y.s.rq.getD r.toNat Rq.z).wt)),(vI ((y.s.rq.getD r.toNat Rq.z).pr))])),(11,43,(.slice bs8 1 cp9)),(12,44,(.slice bs12 (k+1) cp13)),(13,45,(.slice bo k co)),(14,46,(vP e 0)),(15,47,(vP e 0)),(16,48,(vP e 12)),(17,49,(.slice x.br x.m x.cr)),(18,50,(vI r)),(19,51,(.pointer (some (ad x.br r.toNat)))),(20,52,(vP (x.rs.getD r.toNat 0) 0)),(21,53,(vP (x.rs.getD r.toNat 0) 0)),(22,54,(vP (x.rs.getD r.toNat 0) 0)),(23,55,(vP (x.rs.getD r.toNat 0) 0)),(24,56,(vI ((y.s.rq.getD r.toNat Rq.z).root))),(25,57,(.slice bs16 1 cp17)),(26,58,(.slice bs20 (k+1) cp21)),(27,7,(.slice bs12 (k+1) cp13)),(28,8,(.slice bs20 (k+1) cp21))]) (fun (bs8,cp9,bs12,cp13,bs16,cp17,bs20,cp21) S=>(bif S 26 then (SlV 3 1 (.slice bs20 (k+1) cp21) (k+1) (aF .i64 (((dE y.s y.as.a).take k)++[(y.s.rq.getD r.toNat Rq.z).root]))) else (SlV 3 1 (.slice bo k co) k (aF .i64 ((dE y.s y.as.a).take k))))::(bif S 12 then (SlV 51 3 (.slice bs12 (k+1) cp13) (k+1) (bJ qx (((e6 y.s y.as.a).take k)++[(⟨(y.s.rq.getD r.toNat Rq.z).root,(y.s.rq.getD r.toNat Rq.z).wt,(y.s.rq.getD r.toNat Rq.z).pr⟩:R3)]))) else (SlV 51 3 (.slice ba k ca) k (bJ qx ((e6 y.s y.as.a).take k))))::(SlV 3 1 (.slice bs3 y.as.a.length cp4) y.as.a.length (aF .i64 y.as.a))::(dv x.ad A Q y.as)::(bI b2 [(vI 0),(vI 0),(vI 0),(vI 0),(vI 0)] 40)::(bQ e x y.s)::(dz x.ld ld)::(bI x.tp [(vP hp 0)] 132)::(cL hp n ks)::(aT x.g x.n es)::(bF x.tn q y.ms y.ta)::(bif S 11 then (SlV 51 3 (.slice bs8 1 cp9) 1 [(vI ((y.s.rq.getD r.toNat Rq.z).root)),(vI ((y.s.rq.getD r.toNat Rq.z).wt)),(vI ((y.s.rq.getD r.toNat Rq.z).pr))]) else ib)::(bif S 25 then (SlV 3 1 (.slice bs16 1 cp17) 1 [(vI ((y.s.rq.getD r.toNat Rq.z).root))]) else ib)::R) (none,0,none,0,none,0,none,0) (by simp [Nat.ble]) (fun _ h=>ef [_,_,_,_,_,_,_,_,_,_,_] 2 h) (fun _ _ h=>h) ?_ ?_
  ·refine ⟨?_,ga fun ⟨_,_,_,_,_,_,_,_⟩=>da,ga fun ⟨_,_,_,_,_,_,_,_⟩=>fx,ga fun ⟨_,_,_,_,_,_,_,_⟩=>dF CJ rfl Dv,ga fun ⟨_,_,_,_,_,_,_,_⟩=>gI DC rfl rfl fun _=>bu (v:=(.slice x.br x.m x.cr)) (.tail _ (.tail _ (.tail _ (.tail _ (.tail _ (.head _)))))) (fun _ _=>rfl),ga fun ⟨_,_,_,_,_,_,_,_⟩=>da,ga fun ⟨_,_,_,_,_,_,_,_⟩=>nu Dx DP rfl rfl rfl ⟨hE.okr,by omega,by omega,by omega⟩,ga fun ⟨_,_,_,_,_,_,_,_⟩=>gI DU rfl rfl fun _=>ie (i:=r.toNat) (.tail _ (.tail _ (.tail _ (.tail _ (.tail _ (.head _)))))) (by omega),ga fun ⟨_,_,_,_,_,_,_,_⟩=>fx,ga fun ⟨_,_,_,_,_,_,_,_⟩=>dF Ds rfl Dj,?_,?_,?_,?_,ga fun ⟨_,_,_,_,_,_,_,_⟩=>da,ga fun ⟨_,_,_,_,_,_,_,_⟩=>fx,ga fun ⟨_,_,_,_,_,_,_,_⟩=>dF CJ rfl Dv,ga fun ⟨_,_,_,_,_,_,_,_⟩=>gI DC rfl rfl fun _=>bu (v:=(.slice x.br x.m x.cr)) (.tail _ (.tail _ (.tail _ (.tail _ (.tail _ (.head _)))))) (fun _ _=>rfl),ga fun ⟨_,_,_,_,_,_,_,_⟩=>da,ga fun ⟨_,_,_,_,_,_,_,_⟩=>nu Dx DP rfl rfl rfl ⟨hE.okr,by omega,by omega,by omega⟩,ga fun ⟨_,_,_,_,_,_,_,_⟩=>gI DU rfl rfl fun _=>ie (i:=r.toNat) (.tail _ (.tail _ (.tail _ (.tail _ (.tail _ (.head _)))))) (by omega),ga fun ⟨_,_,_,_,_,_,_,_⟩=>fx,ga fun ⟨_,_,_,_,_,_,_,_⟩=>dF Ds rfl Dj,ga fun ⟨_,_,_,_,_,_,_,_⟩=>dF Da rfl CG,?_,?_,?_,ga fun ⟨_,_,_,_,_,_,_,_⟩=>kj,ga fun ⟨_,_,_,_,_,_,_,_⟩=>kj,trivial⟩
   ·rintro ⟨bs8,cp9,bs12,cp13,bs16,cp17,bs20,cp21⟩ S hF hS D hp K hK;try dsimp only
    exact bH (fu (t:=7) 27 (nf hS D (k:=27) (i:=0) rfl) rfl rfl) (eX rfl) 0 rfl rfl hS (hK (bs8,cp9,bs12,cp13,bs16,cp17,bs20,cp21) hF)
   ·rintro ⟨bs8,cp9,bs12,cp13,bs16,cp17,bs20,cp21⟩ S hF hS D hp K hK;try dsimp only
    exact bH (bE hp 9 rfl rfl) (cB (cs:=[(vI ((y.s.rq.getD r.toNat Rq.z).root)),(vI ((y.s.rq.getD r.toNat Rq.z).wt)),(vI ((y.s.rq.getD r.toNat Rq.z).pr))]) Em Dj rfl (ej (eB (i:=r.toNat) (v:=(vI ((y.s.rq.getD r.toNat Rq.z).root))) (.tail _ (.tail _ (.tail _ (.tail _ (.tail _ (.head _)))))) (by omega) rfl) (eB (i:=r.toNat) (v:=(vI ((y.s.rq.getD r.toNat Rq.z).wt))) (.tail _ (.tail _ (.tail _ (.tail _ (.tail _ (.head _)))))) (by omega) rfl) (eB (i:=r.toNat) (v:=(vI ((y.s.rq.getD r.toNat Rq.z).pr))) (.tail _ (.tail _ (.tail _ (.tail _ (.tail _ (.head _)))))) (by omega) rfl))) 10 rfl rfl hS (hK (bs8,cp9,bs12,cp13,bs16,cp17,bs20,cp21) hF)
   ·rintro ⟨bs8,cp9,bs12,cp13,bs16,cp17,bs20,cp21⟩ S hF hS D hp K hK
    try dsimp only at hF⊢
    obtain ⟨hf0,hf1,hf2,hf3,hf4,hf5,hf6,hf7⟩:=hF
    refine bZ hp [42] rfl rfl ?_
    refine tm rfl (aD (cs:=[(vI ((y.s.rq.getD r.toNat Rq.z).root)),(vI ((y.s.rq.getD r.toNat Rq.z).wt)),(vI ((y.s.rq.getD r.toNat Rq.z).pr))]) Ew Dj DV (by decide) rfl rfl rfl rfl) ?_
    rintro _ _ ⟨bs8,cp9,hok10,hle11,rfl,rfl⟩
    refine bO (fun _ h=>cX [_,_,_,_,_,_,_,_,_,_,_] h) ?_
    exact cK hp hS (ti (hK (bs8,cp9,bs12,cp13,bs16,cp17,bs20,cp21) ⟨(fun _=>hok10),(fun _=>hle11),hf2,hf3,hf4,hf5,hf6,hf7⟩)) rfl rfl rfl
   ·rintro ⟨bs8,cp9,bs12,cp13,bs16,cp17,bs20,cp21⟩ S hF hS D hp K hK
    try dsimp only at hF⊢
    obtain ⟨hf0,hf1,hf2,hf3,hf4,hf5,hf6,hf7⟩:=hF
    have s11:=hp 11 rfl
    have hok10:=hf0 s11
    have hle11:=hf1 s11
    refine bZ hp [32,43] rfl rfl ?_
    refine aE ?_
    refine c9 hS ?_
    refine iQ ?_
    refine jJ s11 ?_
    refine aE ?_
    refine tm rfl (cR (i:=Tryz.t51) Ew Tryz.type51 rfl rfl rfl (by decide) rfl rfl hok10 (by first| (simp;done)| (simp;omega)) (cj (.tail _ (.head _))) (by simp [Value.oneCell']) (by rw [show Tryz.t51.bytes=24 from rfl];omega)) ?_
    rintro _ _ ⟨bs12,cp13,hok14,hle15,rfl,rfl⟩
    rw [show bJ qx ((e6 y.s y.as.a).take k)++[(.int .i64 ((y.s.rq.getD r.toNat Rq.z).root)),(.int .i64 ((y.s.rq.getD r.toNat Rq.z).wt)),(.int .i64 ((y.s.rq.getD r.toNat Rq.z).pr))]=bJ qx (((e6 y.s y.as.a).take k)++[(⟨(y.s.rq.getD r.toNat Rq.z).root,(y.s.rq.getD r.toNat Rq.z).wt,(y.s.rq.getD r.toNat Rq.z).pr⟩:R3)]) from iG qx ((e6 y.s y.as.a).take k) (⟨(y.s.rq.getD r.toNat Rq.z).root,(y.s.rq.getD r.toNat Rq.z).wt,(y.s.rq.getD r.toNat Rq.z).pr⟩:R3)]
    refine aE ?_
    refine lZ (B:=ib) s11 ?_
    refine iQ (iQ (iQ (iQ (iQ (iQ (iQ (iQ (iQ (eT ?_)))))))))
    refine iQ ?_
    exact cK hp hS (ti (hK (bs8,cp9,bs12,cp13,bs16,cp17,bs20,cp21) ⟨hf0,hf1,(fun _=>hok14),(fun _=>hle15),hf4,hf5,hf6,hf7⟩)) rfl rfl rfl
   ·rintro ⟨bs8,cp9,bs12,cp13,bs16,cp17,bs20,cp21⟩ S hF hS D hp K hK;try dsimp only
    exact bH (fu (t:=8) 28 (nf hS D (k:=28) (i:=13) rfl) rfl rfl) (eX rfl) 13 rfl rfl hS (hK (bs8,cp9,bs12,cp13,bs16,cp17,bs20,cp21) hF)
   ·rintro ⟨bs8,cp9,bs12,cp13,bs16,cp17,bs20,cp21⟩ S hF hS D hp K hK;try dsimp only
    exact bH (bE hp 23 rfl rfl) (bP CH rfl (eB (i:=r.toNat) (v:=(vI ((y.s.rq.getD r.toNat Rq.z).root))) (.tail _ (.tail _ (.tail _ (.tail _ (.tail _ (.head _)))))) (by omega) rfl)) 24 rfl rfl hS (hK (bs8,cp9,bs12,cp13,bs16,cp17,bs20,cp21) hF)
   ·rintro ⟨bs8,cp9,bs12,cp13,bs16,cp17,bs20,cp21⟩ S hF hS D hp K hK
    try dsimp only at hF⊢
    obtain ⟨hf0,hf1,hf2,hf3,hf4,hf5,hf6,hf7⟩:=hF
    refine bZ hp [56] rfl rfl ?_
    refine tm rfl (aD (cs:=[(vI ((y.s.rq.getD r.toNat Rq.z).root))]) CI CG CN (by decide) rfl rfl rfl rfl) ?_
    rintro _ _ ⟨bs16,cp17,hok18,hle19,rfl,rfl⟩
    refine bO (fun _ h=>cX [_,_,_,_,_,_,_,_,_,_,_,_] h) ?_
    exact cK hp hS (ti (hK (bs8,cp9,bs12,cp13,bs16,cp17,bs20,cp21) ⟨hf0,hf1,hf2,hf3,(fun _=>hok18),(fun _=>hle19),hf6,hf7⟩)) rfl rfl rfl
   ·rintro ⟨bs8,cp9,bs12,cp13,bs16,cp17,bs20,cp21⟩ S hF hS D hp K hK
    try dsimp only at hF⊢
    obtain ⟨hf0,hf1,hf2,hf3,hf4,hf5,hf6,hf7⟩:=hF
    have s12:=hp 12 rfl
    have s11:=D 12 11 rfl s12
    have hok10:=hf0 s11
    have hle11:=hf1 s11
    have hok14:=hf2 s12
    have hle15:=hf3 s12
    have s25:=hp 25 rfl
    have hok18:=hf4 s25
    have hle19:=hf5 s25
    refine bZ hp [45,57] rfl rfl ?_
    refine c9 hS ?_
    refine eH ?_
    refine jJ s25 ?_
    refine aE ?_
    refine tm rfl (cR (i:=Tryz.t3) CI C1 rfl rfl rfl (by decide) rfl rfl hok18 (by first| (simp;done)| (simp;omega)) (cj (.tail _ (.head _))) (by simp [Value.oneCell']) (by rw [show Tryz.t3.bytes=8 from rfl];omega)) ?_
    rintro _ _ ⟨bs20,cp21,hok22,hle23,rfl,rfl⟩
    rw [show aF .i64 ((dE y.s y.as.a).take k)++[(.int .i64 ((y.s.rq.getD r.toNat Rq.z).root))]=aF .i64 (((dE y.s y.as.a).take k)++[(y.s.rq.getD r.toNat Rq.z).root]) from dW _ _ _]
    refine aE ?_
    refine lZ (B:=ib) s25 ?_
    refine eH (eH (eH (eH (eH (eH (eH (eH (eH (eH ?_)))))))))
    refine eH (eH ?_)
    exact cK hp hS (ti (hK (bs8,cp9,bs12,cp13,bs16,cp17,bs20,cp21) ⟨hf0,hf1,hf2,hf3,hf4,hf5,(fun _=>hok22),(fun _=>hle23)⟩)) rfl rfl rfl
  ·rintro ⟨bs8,cp9,bs12,cp13,bs16,cp17,bs20,cp21⟩ hF
   try dsimp only at hF⊢
   obtain ⟨hf0,hf1,hf2,hf3,hf4,hf5,hf6,hf7⟩:=hF
   have hok10:=hf0 rfl
   have hle11:=hf1 rfl
   have hok14:=hf2 rfl
   have hle15:=hf3 rfl
   have hok18:=hf4 rfl
   have hle19:=hf5 rfl
   have hok22:=hf6 rfl
   have hle23:=hf7 rfl
   refine az (E':=[(0,(vP e 0)),(1,(.agg #[(vI okd),(vI oa),(vI ob),(vI oc),(vI od)])),(4,(vP b2 0)),(5,(vI 0)),(6,(.slice bs3 y.as.a.length cp4)),(7,(.slice bs12 (k+1) cp13)),(8,(.slice bs20 (k+1) cp21)),(10,(vI r)),(26,(.slice bs3 y.as.a.length cp4)),(27,(vN y.as.a.length)),(28,(vN k)),(29,(.bool true))]) ⟨rfl,rfl,rfl,rfl,rfl,rfl,rfl,rfl,rfl,rfl,rfl,rfl,trivial⟩ ?_
   refine aZ (qn hK10 (aj ?_))
   rw [show ((dE y.s y.as.a).take k)++[(y.s.rq.getD r.toNat Rq.z).root]=(dE y.s y.as.a).take (k+1) from hro]
   rw [show ((e6 y.s y.as.a).take k)++[(⟨(y.s.rq.getD r.toNat Rq.z).root,(y.s.rq.getD r.toNat Rq.z).wt,(y.s.rq.getD r.toNat Rq.z).pr⟩:R3)]=(e6 y.s y.as.a).take (k+1) from hac]
   refine tp rfl (aX (c:=((k+1:Nat):Int)) rfl rfl (aB (by omega))) ?_
   refine ag rfl (aI (aN (iQ (ak (iQ (ak ?_))))))
   exact az (by exact ⟨rfl,rfl,rfl,rfl,rfl,rfl,rfl,rfl,rfl,rfl,trivial⟩) ((hK7 (k+1,bs12,cp13,bs20,cp21) ⟨by omega,hok14,hle15,hok22,hle23⟩ (by dsimp only;omega)))
 ·refine tp rfl (aJ rfl rfl (decide_eq_false h7)) (td hK8 (ai (fun _ hK9=>ar rfl (bT (au (au (bS (qn hK5 ?_))))))))
  refine av (fun _ hK10=>?_)
  obtain rfl:k=y.as.a.length:=by omega
  rw [show (e6 y.s y.as.a).take y.as.a.length=e6 y.s y.as.a from List.take_of_length_le (by rw [ru];exact Nat.le_refl _),show (dE y.s y.as.a).take y.as.a.length=dE y.s y.as.a from List.take_of_length_le (by rw [pK];exact Nat.le_refl _)]
  have hofl:=iB x.n es (e6 y.s y.as.a)
  have hac0:=ru y.s y.as.a
  have hro0:=pK y.s y.as.a
  refine ag rfl (cV rfl (bU 13 CJ rfl DZ rfl rfl (bK DN rfl (bu (v:=(vP x.g 0)) (.tail _ (.tail _ (.tail _ (.tail _ (.tail _ (.head _)))))) (fun _ _=>rfl)) (ag rfl (dL ?_)))))
  refine bN Tryz.call52 rfl (Cc (e6 y.s y.as.a) (by first|rfl|omega| (simp;done)| (simp;omega)) (cj (.tail _ (.head _))) (fun hz=>hoka (by first|exact hz|omega)) (by first|rfl|omega| (simp;done)| (simp;omega)) (Tab.cons (Tab.cons (Tab.cons (Tab.cons (Tab.cons (Tab.cons (Tab.cons (Tab.cons (Tab.cons (Tab.cons hT))))))))))) ?_
  rintro _ _ ⟨bs24,cp25,hok26,hle27,rfl,rfl⟩
  refine aA rfl (td hK10 (av (fun _ hK11=>ag rfl (eL ?_))))
  refine bN Tryz.call54 rfl (yK (x:=x) (s:=y.s)) ?_
  rintro _ _ ⟨bs28,cp29,hok30,hle31,rfl,rfl⟩
  refine ag rfl ?_
  refine bN Tryz.call53 rfl (ze (m:=x.n) (y.s.lf.map (·.st)) (iE x.n es (e6 y.s y.as.a)) (by first|rfl|omega| (simp;done)| (simp;omega)) (by first|rfl|omega| (simp;done)| (simp;omega)) (by omega) (cj (.head _)) (cj (.tail _ (.tail _ (.head _)))) hok30 hok26 (by first|omega| (simp;omega)| (simp;done)) (by first|omega| (simp;omega)| (simp;done)) (by first|omega| (simp;omega))) ?_
  rintro _ _ ⟨bs32,cp33,hok34,hle35,rfl,rfl⟩
  try rw [show (dO (y.s.lf.map (·.st)) (iE x.n es (e6 y.s y.as.a)) x.n).1=p from hb1] at hok34
  try rw [show (dO (y.s.lf.map (·.st)) (iE x.n es (e6 y.s y.as.a)) x.n).1=p from hb1] at hle35
  rw [show (dO (y.s.lf.map (·.st)) (iE x.n es (e6 y.s y.as.a)) x.n).1=p from hb1]
  try rw [show (dO (y.s.lf.map (·.st)) (iE x.n es (e6 y.s y.as.a)) x.n).2=tl9 from hb2] at hok34
  try rw [show (dO (y.s.lf.map (·.st)) (iE x.n es (e6 y.s y.as.a)) x.n).2=tl9 from hb2] at hle35
  rw [show (dO (y.s.lf.map (·.st)) (iE x.n es (e6 y.s y.as.a)) x.n).2=tl9 from hb2]
  refine ag rfl (tp rfl (aW rfl rfl) (tp rfl (aW rfl rfl) (aA rfl (aA rfl (td hK11 (ai (fun _ hK12=>av (fun _ hK13=>?_))))))))
  refine ag rfl (tp rfl (bC CI rfl rfl) ?_)
  by_cases h36:(tl9.length:Int)=0
  ·refine tp rfl (aV rfl rfl (beq_iff_eq.2 h36)) (td hK13 (aG rfl (av (fun _ hK14=>tp rfl (bG (cs:=[(vI 0),(vI 0),(vI 0),(vI 0),(vI 0)]) (pl:=[(0,1),(1,1),(2,1),(3,1),(4,1)]) CT CR (fun _=>by simp) rfl rfl) ?_))))
   refine dL ?_
   refine ts (bn (news:=[(vI 0),(vI 0),(vI 0),(vI 0),(vI 0)]) CM rfl rfl rfl rfl (nB rfl) rfl) ?_
   refine aA rfl (td hK14 (ay ?_))
   refine aK ?_
   refine aE (ak (aE (ak (aR (ak (aS (ak (aS (ak ?_)))))))))
   refine aS (ak (aS (eL (de (eL (eL (eL (eL (eL ?_)))))))))
   refine dD (cs:=[(vI 0),(vI 0),(vI 0),(vI 0),(vI 0)]) rfl rfl rfl C3 CM (bh (aa (.head _) rfl) (aa (.head _) rfl) (aa (.head _) rfl) (aa (.head _) rfl) (aa (.head _) rfl)) (fun _ h=>h.drop) ?_
   exact ⟨6,0,0,0,0,(⟨y.s,ld,ks⟩:SL),y.ms,y.ta,.inl ⟨rfl,List.length_eq_zero_iff.1 (by omega),rfl,rfl,rfl⟩,rfl,rfl⟩
  ·refine tp rfl (aV rfl rfl (beq_eq_false_iff_ne.2 h36)) (td hK13 (ar rfl (dp hK12 (av (fun _ hK14=>?_)))))
   have hne:tl9≠[]:=fun h9=>by have h8:=congrArg List.length h9;simp only [List.length_nil] at h8;omega
   have hbl:=mI (y.s.lf.map (·.st)) (iE x.n es (e6 y.s y.as.a)) x.n
   rw [hb0] at hbl
   have hbl2:tl9.length≤x.n:=hbl
   refine ag rfl (ag rfl (ag rfl (ag rfl (eH (eH (eH (cN ?_)))))))
   refine bN Tryz.call55 rfl (Bk (x:=x) (s:=y.s) (ld:=ld) (ks:=ks) tl9 (iE x.n es (e6 y.s y.as.a)) p h16 (cj (.head _)) hok34 (by omega) htr (by omega) ⟨Nat.le_refl _,hofl⟩ (cj (.tail _ (.tail _ (.head _)))) hok26 (by omega)) ?_
   rintro _ _ ⟨er37,lv38,lv39,bs40,cp41,hft42,hfx43,hok44,hle45,rfl,rfl⟩
   refine ag rfl (tp rfl (aW rfl rfl) (tp rfl (aW rfl rfl) (aA rfl (aA rfl (td hK14 (ai (fun _ hK15=>av (fun _ hK16=>?_))))))))
   refine ag rfl ?_
   by_cases h46:er37=0
   ·refine tp rfl (cG rfl rfl (bne_eq_false_iff_eq.2 h46)) (td hK16 (ar rfl (dp hK15 (ai (fun _ hK17=>?_)))))
    obtain ⟨rfl,hln,hlt,hvo,hvl,hll⟩:=hft42.resolve_left (fun hh=>by have:=hh.1;omega)
    obtain ⟨ps,qs,hD⟩:=hW lv38 hln hlt
    obtain ⟨k1,k2,k3,k4,k5,k6,k7⟩:=lD (⟨y.s,ld,ks⟩:SL) lv39
    have k8:(stopN (⟨y.s,ld,ks⟩:SL) lv39).s.lg.length=y.s.lg.length+lv39.length:=oO _
    have k9:=fun t=>rS (⟨y.s,ld,ks⟩:SL) t lv39
    have k10:=HzL.stopN (a:=(⟨y.s,ld,ks⟩:SL)) hz lv39
    have hlp:0<lv38.length:=List.length_pos_iff.2 hln
    obtain ⟨a1,ha1⟩:∃a1,stopN (⟨y.s,ld,ks⟩:SL) lv39=a1:=⟨_,rfl⟩
    have hfit:Bg y.s (iE x.n es (e6 y.s y.as.a)) tl9 x.n p 0 lv38 lv39:=.inr ⟨rfl,hln,hlt,hvo,hvl,hll⟩
    rw [ha1] at k1 k2 k3 k4 k5 k6 k7 k8 k9 k10⊢
    dsimp only at k1 k2 k3 k4 k5 k6 k7 k9
    have hpl:=hD.pl
    have hql:=hD.ql
    refine aE ?_
    refine aY (fun _ h=>dG h) (fun hE5=>?_)
    have hE5_nb:=hE5.nb
    have hE5_mb:=hE5.mb
    have hE5_tn:=hE5.tn
    have hE5_ln:=hE5.ln
    have hE5_mn:=hE5.mn
    have hE5_an:=hE5.an
    have hw1:(dC x.n x.n es y.s.al lv38 y.as.a (dE y.s y.as.a) y.as.a.length).1=ps:=by rw [hD.hw]
    have hw2:(dC x.n x.n es y.s.al lv38 y.as.a (dE y.s y.as.a) y.as.a.length).2=qs:=by rw [hD.hw]
    rw [←k1] at hw1 hw2
    refine bz (γ:=Option Addr×Nat×Option Addr×Nat) (n:=17) Tryz.mixed rfl rfl (fun (bs47,cp48,bs49,cp50) S=>(S 11=true→bB bs47 ps.length)∧(S 11=true→bB bs49 qs.length)∧(S 11=true→ps.length≤cp48)∧(S 11=true→qs.length≤cp50)) (fun (bs47,cp48,bs49,cp50)=>[(0,90,(vP e 0)),(1,91,(vP e 0)),(2,92,(vP e 13)),(3,93,(vP x.g 0)),(4,94,(.slice bs40 lv38.length cp41)),(5,95,(vP e 0)),(6,96,(vP e 0)),(7,97,(vP e 10)),(8,98,(.slice x.ba x.n x.ca)),(9,99,(.slice bs3 y.as.a.length cp4)),(10,100,(.slice bo y.as.a.length co)),(11,101,(.tuple #[(.slice bs47 ps.length cp48),(.slice bs49 qs.length cp50)])),(12,89,(.tuple #[(.slice bs47 ps.length cp48),(.slice bs49 qs.length cp50)])),(13,102,(.slice bs47 ps.length cp48)),(14,103,(.slice bs49 qs.length cp50)),(15,16,(.slice bs47 ps.length cp48)),(16,17,(.slice bs49 qs.length cp50))]) (fun (bs47,cp48,bs49,cp50) S=>(bQ e x a1.s)::(SlV 3 1 (.slice bs40 lv38.length cp41) lv38.length (aF .i64 lv38))::(dz x.ld a1.ld)::(bI x.tp [(vP hp 0)] 132)::(cL hp n a1.ks)::(SlV 3 1 (.slice bs32 tl9.length cp33) tl9.length (aF .i64 tl9))::(SlV 3 1 (.slice bs28 x.n cp29) x.n (aF .i64 (y.s.lf.map (·.st))))::(SlV 3 1 (.slice bs24 x.n cp25) x.n (aF .i64 (iE x.n es (e6 y.s y.as.a))))::(aT x.g x.n es)::(SlV 3 1 (.slice bo y.as.a.length co) y.as.a.length (aF .i64 (dE y.s y.as.a)))::(SlV 51 3 (.slice ba y.as.a.length ca) y.as.a.length (bJ qx (e6 y.s y.as.a)))::(SlV 3 1 (.slice bs3 y.as.a.length cp4) y.as.a.length (aF .i64 y.as.a))::(dv x.ad A Q y.as)::(bI b2 [(vI 0),(vI 0),(vI 0),(vI 0),(vI 0)] 40)::(bF x.tn q y.ms y.ta)::(bif S 11 then (SlV 110 2 (.slice bs47 ps.length cp48) ps.length (df ps)) else ib)::(bif S 11 then (SlV 3 1 (.slice bs49 qs.length cp50) qs.length (aF .i64 qs)) else ib)::R) (none,0,none,0) (by simp [Nat.ble]) (fun _ h=>ef [_,_,_,_,_,_,_,_,_,_,_,_,_,_,_] 2 h) (fun _ _ h=>h) ?_ ?_
    ·refine ⟨ga fun ⟨_,_,_,_⟩=>da,ga fun ⟨_,_,_,_⟩=>fx,ga fun ⟨_,_,_,_⟩=>dF CJ rfl DZ,ga fun ⟨_,_,_,_⟩=>gI DN rfl rfl fun _=>bu (v:=(vP x.g 0)) (.head _) (fun _ _=>rfl),ga fun ⟨_,_,_,_⟩=>da,ga fun ⟨_,_,_,_⟩=>da,ga fun ⟨_,_,_,_⟩=>fx,ga fun ⟨_,_,_,_⟩=>dF CJ rfl Tryz.sizeOf24,ga fun ⟨_,_,_,_⟩=>gI DM rfl rfl fun _=>bu (v:=(.slice x.ba x.n x.ca)) (.head _) (fun _ _=>rfl),ga fun ⟨_,_,_,_⟩=>da,ga fun ⟨_,_,_,_⟩=>da,?_,ga fun ⟨_,_,_,_⟩=>da,?_,?_,ga fun ⟨_,_,_,_⟩=>kj,ga fun ⟨_,_,_,_⟩=>kj,trivial⟩
     ·rintro ⟨bs47,cp48,bs49,cp50⟩ S hF hS D hp K hK
      try dsimp only at hF⊢
      obtain ⟨hf0,hf1,hf2,hf3⟩:=hF
      refine bZ hp [93,94,98,99,100] rfl rfl ?_
      refine dR ?_
      refine bN Tryz.call56 rfl (xC (n:=x.n) (m1:=y.as.a.length) lv38 a1.s.al y.as.a (dE y.s y.as.a) (by first|rfl|omega| (simp;done)| (simp;omega)) (by first|rfl|omega| (simp;done)| (simp;omega)) (by first|rfl|omega| (simp;done)| (simp;omega)) (by first|rfl|omega| (simp;done)| (simp;omega)) (by omega) (cj (.tail _ (.head _))) (AX (.head _)) (cj (.tail _ (.tail _ (.tail _ (.tail _ (.tail _ (.tail _ (.tail _ (.tail _ (.tail _ (.tail _ (.head _)))))))))))) (cj (.tail _ (.tail _ (.tail _ (.tail _ (.tail _ (.tail _ (.tail _ (.tail _ (.head _)))))))))) hok44 hE5.oka hok5 hoko (by first|omega| (simp;omega)| (simp;done)) (by first|omega| (simp;omega)| (simp;done)) (by first|omega| (simp;omega)) (Tab.cons (Tab.cons (Tab.cons (Tab.cons (Tab.cons (Tab.cons (Tab.cons (Tab.cons (Tab.cons (Tab.cons (Tab.cons (Tab.cons (Tab.cons (Tab.cons (Tab.cons (Tab.cons hT))))))))))))))))) ?_
      rintro _ _ ⟨bs47,cp48,bs49,cp50,hok51,hle52,hok53,hle54,rfl,rfl⟩
      try rw [show (dC x.n x.n es a1.s.al lv38 y.as.a (dE y.s y.as.a) y.as.a.length).1=ps from hw1] at hok51
      try rw [show (dC x.n x.n es a1.s.al lv38 y.as.a (dE y.s y.as.a) y.as.a.length).1=ps from hw1] at hle52
      try rw [show (dC x.n x.n es a1.s.al lv38 y.as.a (dE y.s y.as.a) y.as.a.length).1=ps from hw1] at hok53
      try rw [show (dC x.n x.n es a1.s.al lv38 y.as.a (dE y.s y.as.a) y.as.a.length).1=ps from hw1] at hle54
      rw [show (dC x.n x.n es a1.s.al lv38 y.as.a (dE y.s y.as.a) y.as.a.length).1=ps from hw1]
      try rw [show (dC x.n x.n es a1.s.al lv38 y.as.a (dE y.s y.as.a) y.as.a.length).2=qs from hw2] at hok51
      try rw [show (dC x.n x.n es a1.s.al lv38 y.as.a (dE y.s y.as.a) y.as.a.length).2=qs from hw2] at hle52
      try rw [show (dC x.n x.n es a1.s.al lv38 y.as.a (dE y.s y.as.a) y.as.a.length).2=qs from hw2] at hok53
      try rw [show (dC x.n x.n es a1.s.al lv38 y.as.a (dE y.s y.as.a) y.as.a.length).2=qs from hw2] at hle54
      rw [show (dC x.n x.n es a1.s.al lv38 y.as.a (dE y.s y.as.a) y.as.a.length).2=qs from hw2]
      refine aR (eT (eT (eT (eT (eT (eT (eT (eT (eT ?_)))))))))
      refine eT ?_
      refine bO (fun _ h=>cX [_,_,_,_,_,_,_,_,_,_,_,_,_,_,_,_] h) ?_
      refine bO (fun _ h=>cX [_,_,_,_,_,_,_,_,_,_,_,_,_,_,_,_] h) ?_
      exact cK hp hS (ti (hK (bs47,cp48,bs49,cp50) ⟨(fun _=>hok51),(fun _=>hok53),(fun _=>hle52),(fun _=>hle54)⟩)) rfl rfl rfl (ha:=by exact ⟨.inl rfl,.inl rfl,.inl rfl,.inl rfl,.inl rfl,.inl rfl,.inl rfl,.inl rfl,.inl rfl,.inl rfl,.inl rfl,.inr ⟨rfl,rfl,hS⟩,.inr ⟨rfl,rfl,(nf hS D (k:=12) (i:=11) rfl)⟩,.inr ⟨rfl,rfl,(nf (nf hS D (k:=12) (i:=11) rfl) D (k:=13) (i:=12) rfl)⟩,.inr ⟨rfl,rfl,(nf (nf hS D (k:=12) (i:=11) rfl) D (k:=14) (i:=12) rfl)⟩,.inr ⟨rfl,rfl,(nf hS D (k:=15) (i:=11) rfl)⟩,.inr ⟨rfl,rfl,(nf hS D (k:=16) (i:=11) rfl)⟩,trivial⟩)
     ·rintro ⟨bs47,cp48,bs49,cp50⟩ S hF hS D hp K hK;try dsimp only
      exact bH (bE hp 12 rfl rfl) (aW rfl rfl) 13 rfl rfl hS (hK (bs47,cp48,bs49,cp50) hF)
     ·rintro ⟨bs47,cp48,bs49,cp50⟩ S hF hS D hp K hK;try dsimp only
      exact bH (bE hp 12 rfl rfl) (aW rfl rfl) 14 rfl rfl hS (hK (bs47,cp48,bs49,cp50) hF)
    ·rintro ⟨bs47,cp48,bs49,cp50⟩ hF
     try dsimp only at hF⊢
     obtain ⟨hf0,hf1,hf2,hf3⟩:=hF
     have hok51:=hf0 rfl
     have hok53:=hf1 rfl
     have hle52:=hf2 rfl
     have hle54:=hf3 rfl
     refine az (E':=[(0,(vP e 0)),(1,(.agg #[(vI okd),(vI oa),(vI ob),(vI oc),(vI od)])),(4,(vP b2 0)),(5,(vI 0)),(6,(.slice bs3 y.as.a.length cp4)),(7,(.slice ba y.as.a.length ca)),(8,(.slice bo y.as.a.length co)),(11,(.slice bs24 x.n cp25)),(12,(vI p)),(13,(.slice bs32 tl9.length cp33)),(14,(.slice bs40 lv38.length cp41)),(15,(vI 0)),(16,(.slice bs47 ps.length cp48)),(17,(.slice bs49 qs.length cp50)),(26,(.slice bs3 y.as.a.length cp4)),(27,(vN y.as.a.length)),(28,(vN y.as.a.length)),(29,(.bool false)),(75,(.bool false)),(86,(.bool false))]) ⟨rfl,rfl,rfl,rfl,rfl,rfl,rfl,rfl,rfl,rfl,rfl,rfl,rfl,rfl,rfl,rfl,rfl,rfl,rfl,rfl,trivial⟩ ?_
     refine qn hK17 (av (fun _ hK18=>ag rfl (cV rfl (bU 17 CJ rfl Tryz.sizeOf71 rfl rfl (bK Tryz.isAgg71 rfl (bu (v:=(vP x.tn 0)) (.head _) (fun _ _=>rfl)) (ag rfl (im ?_)))))))
     refine bN Tryz.call57 rfl (yx (q:=q) (ms:=y.ms) (a:=y.ta) ps rfl (cj (.tail _ (.tail _ (.tail _ (.tail _ (.tail _ (.tail _ (.tail _ (.tail _ (.tail _ (.tail _ (.tail _ (.tail _ (.tail _ (.tail _ (.head _)))))))))))))))) hok51 (by omega) (by omega) hD.any) ?_
     rintro _ _ ⟨tmq,ta9,htk,rfl,rfl⟩
     refine ag rfl (tp rfl (aW rfl rfl) (tp rfl (aW rfl rfl) ?_))
     refine tm rfl (cD CN rfl) ?_
     rintro _ _ ⟨b55,rfl,rfl⟩
     refine ts (cM CG rfl rfl rfl (nB rfl) rfl) ?_
     refine aA rfl (td hK18 (ai (fun _ hK19=>av (fun _ hK20=>?_))))
     obtain ⟨hti,htl,kz,t,hk1,hk2,hk3,ht1,hst⟩:=hD.tk _ _ _ htk
     refine ag rfl (tp rfl (dy (c:=false) rfl rfl) (td hK20 (ar rfl (dp hK19 (av (fun _ hK21=>ag rfl ?_))))))
     refine ag rfl (tp rfl (fU rfl) ?_)
     refine bN Tryz.call58 rfl (pn (p:=(fun k=>decide ((ps.getD k (0,0)).1=(tmq.getD ta9 M3.z).id))) (n:=ps.length) ps rfl ⟨Tryz.call59,fun k hk=>yn (aa (o:=0) (.head _) rfl)⟩ (cj (.tail _ (.tail _ (.tail _ (.tail _ (.tail _ (.tail _ (.tail _ (.tail _ (.tail _ (.tail _ (.tail _ (.tail _ (.tail _ (.tail _ (.tail _ (.tail _ (.head _)))))))))))))))))) hok51 (by omega)) ?_
     rintro _ _ ⟨rfl,rfl⟩
     rw [show gi (fun k=>decide ((ps.getD k (0,0)).1=(tmq.getD ta9 M3.z).id)) ps.length=(kz:Int) from hk2]
     refine tp rfl (ah (k':=kz) CI CG rfl rfl hok53 (by omega) (by omega) (by omega)) ?_
     refine bK CH rfl (aw (.tail _ (.tail _ (.tail _ (.tail _ (.tail _ (.tail _ (.tail _ (.tail _ (.tail _ (.tail _ (.tail _ (.tail _ (.tail _ (.tail _ (.tail _ (.tail _ (.tail _ (.head _)))))))))))))))))) (aQ (by first|omega| (simp;omega)))) ?_
     refine aA rfl (td hK21 (av (fun _ hK22=>?_)))
     rw [hk3]
     refine ag rfl (bK CH rfl (aa (.head _) rfl) (ag rfl (dM (dM (dM (cN ?_))))))
     refine bN Tryz.call60 rfl (yu (x:=x) (s:=a1.s) (ld:=a1.ld) (ks:=a1.ks) ((tmq.getD ta9 M3.z).id) t (by omega) k10 (by omega) (by rw [k6];exact hb) (by rw [k9];exact he t ht1) (by rw [k4];exact htm)) ?_
     rintro _ _ ⟨er56,sl57,ep58,rr59,tt60,a61,hsr62,rfl,rfl⟩
     refine tp rfl (aW rfl rfl) (tp rfl (aW rfl rfl) (dN ?_))
     refine ts (bn (news:=[(vI rr59),(vI 0),(vI tt60),(vI sl57),(vI ep58)]) CM rfl rfl rfl rfl (nB rfl) rfl) ?_
     refine aA rfl (td hK22 (ay (cN (ak (dM (ak (dM (ak ?_))))))))
     refine dM (ak (dM (ak (eL (ak (eL (ak (eL (ak ?_)))))))))
     refine dR (ak (dR (ak (cN (dM (dM (dM (dM (dM ?_)))))))))
     refine dM ?_
     refine dD (cs:=[(vI rr59),(vI 0),(vI tt60),(vI sl57),(vI ep58)]) rfl rfl rfl C3 CM (bh (aa (.head _) rfl) (aa (.head _) rfl) (aa (.head _) rfl) (aa (.head _) rfl) (aa (.head _) rfl)) (fun _ h=>h.drop) ?_
     rw [←ha1] at hsr62
     exact ⟨er56,sl57,ep58,rr59,tt60,a61,_,_,.inr (.inr ⟨hne,lv38,lv39,t,_,hfit,fun hh=>(hfx43 hh).2,hst,ht1,by rw [nP (by omega)];exact hti,hsr62⟩),rfl,rfl⟩
   ·refine tp rfl (cG rfl rfl (bne_iff_ne.2 h46)) (td hK16 (aG rfl (av (fun _ hK17=>tp rfl (bG (cs:=[(vI 0),(vI 0),(vI 0),(vI 0),(vI 0)]) (pl:=[(0,1),(1,1),(2,1),(3,1),(4,1)]) CT CR (fun _=>by simp) rfl rfl) ?_))))
    refine ag rfl (rC ?_)
    refine ts (bn (news:=[(vI 0),(vI 0),(vI 0),(vI 0),(vI 0)]) CM rfl rfl rfl rfl (nB rfl) rfl) ?_
    refine aA rfl (td hK17 (ay ?_))
    refine aK ?_
    refine aE (ak (cN (ak (cN (ak (cN (ak (dM (ak ?_)))))))))
    refine dM (ak (dM (ak (dM (eL (eL (eL (eL (eL ?_)))))))))
    refine eL (eL ?_)
    refine dD (cs:=[(vI 0),(vI 0),(vI 0),(vI 0),(vI 0)]) rfl rfl rfl C3 CM (bh (aa (.head _) rfl) (aa (.head _) rfl) (aa (.head _) rfl) (aa (.head _) rfl) (aa (.head _) rfl)) (fun _ h=>h.drop) ?_
    obtain ⟨rfl,rfl,rfl⟩:=hft42.resolve_right (fun hh=> ‹¬_› hh.1)
    exact ⟨4,0,0,0,0,(⟨y.s,ld,ks⟩:SL),y.ms,y.ta,.inr (.inl ⟨rfl,hne,fun hh=>absurd (hfx43 hh).1 (by decide),rfl,rfl,rfl⟩),rfl,rfl⟩
end Go.Proofs.YtanfdikglplkaaaGreatDoor
