/- Parts Hd, Ee, En, Ef: own lemmas and contracts of the code that the claim reaches. -/
import Derived.Test.YtanfdikglplkaaaGreatDoorM03
import Derived.Test.YtanfdikglplkaaaGreatDoorM22
import Derived.Test.YtanfdikglplkaaaGreatDoorM09
import Derived.Test.YtanfdikglplkaaaGreatDoorM04
import Derived.Test.YtanfdikglplkaaaGreatDoorM16
import Derived.Test.YtanfdikglplkaaaGreatDoorM17
import Derived.Test.YtanfdikglplkaaaGreatDoorM18
import Derived.Test.YtanfdikglplkaaaGreatDoorM20
import Derived.Test.YtanfdikglplkaaaGreatDoorM21
set_option linter.unusedSimpArgs false
set_option linter.unusedVariables false
set_option maxRecDepth 100000
namespace Go.Proofs.YtanfdikglplkaaaGreatDoor
open Go Go.Proofs Sp
theorem An{R:List HP}(m:Int):
 Ok Tryz.prog 36 [(vI m)] R
  (fun v M=> ∃p q,v=.pointer (some ⟨p,0,none⟩)∧M=bI p [.pointer (some ⟨q,0,none⟩)] 132::cL q (b8 m) (List.replicate (b8 m) none)::R):=by
 refine aP (N:=8) Tryz.func36 rfl rfl rfl (fun W=>?_)
 refine av (fun _ hK1=>aA rfl (td hK1 (av (fun K2 hK2=>ag rfl ?_))))
 refine bN Tryz.call69 rfl (Ag m) ?_
 rintro _ _ ⟨p1,rfl,rfl⟩
 refine tp rfl (bG (cs:=[(vP p1 0)]) (pl:=[(0,1)]) Ej Tryz.zeroValue130 (fun _=>by simp) rfl rfl) ?_
 refine tp rfl (bG (cs:=[(vP p1 0)]) (pl:=[(0,1)]) Ek Tryz.zeroValue132 (fun _=>by simp) rfl rfl) ?_
 refine tm rfl (cZ rfl rfl) ?_
 rintro _ _ ⟨b2,rfl,rfl⟩
 refine aA rfl (td hK2 (ay ?_))
 refine aM rfl rfl ?_
 exact ⟨_,_,rfl,rfl⟩
theorem sC{R:List HP}{p q n:Nat}{ks:Ks}(x:Int):
 Ok Tryz.prog 84 [(vP p 0),(vI x)] ((bI p [(vP q 0)] 132)::(cL q n ks)::R)
  (fun v M=>v=.bool (B8 ks x)∧M=bI p [.pointer (some ⟨q,0,none⟩)] 132::cL q n (jq ks x)::R):=by
 refine aP (N:=19) Tryz.func84 rfl rfl rfl (fun W=>?_)
 refine av (fun _ hK1=>aA rfl (td hK1 (av (fun K2 hK2=>ag rfl (cV rfl (bU 0 Ek rfl Tryz.sizeOf130 rfl rfl ?_))))))
 refine bU 0 Ej rfl Tryz.sizeOf127 rfl rfl (bK Tryz.isAgg127 rfl (aa (.head _) rfl) (ag rfl (aE ?_)))
 refine bN Tryz.call131 rfl (zM (n:=n) (ks:=ks) x) ?_
 rintro _ _ ⟨rfl,rfl⟩
 refine ag rfl (tp rfl (aW rfl rfl) (tp rfl (aW rfl rfl) (aA rfl (aA rfl (td hK2 (av (fun _ hK3=>ag rfl ?_)))))))
 refine tp rfl (aV rfl rfl rfl) (aA rfl (td hK3 (ay (aE ?_))))
 refine aM rfl rfl ?_
 exact ⟨rfl,rfl⟩
theorem uY{R:List HP}{p q n:Nat}{ks:Ks}(x k:Int):
 Ok Tryz.prog 86 [(vP p 0),(vI x),(vI k)] ((bI p [(vP q 0)] 132)::(cL q n ks)::R)
  (fun v M=>v=.int .i64 (kb (jq ks x) x)∧M=bI p [.pointer (some ⟨q,0,none⟩)] 132::cL q n (jS (jq ks x) x k)::R):=by
 refine aP (N:=18) Tryz.func86 rfl rfl rfl (fun W=>?_)
 refine av (fun _ hK1=>aA rfl (td hK1 (av (fun K2 hK2=>ag rfl (ag rfl (aE ?_))))))
 refine aE ?_
 refine bN Tryz.call84 rfl (sC (n:=n) (ks:=ks) x) ?_
 rintro _ _ ⟨rfl,rfl⟩
 refine td hK2 (av (fun _ hK3=>ag rfl (cV rfl (bU 0 Ek rfl Tryz.sizeOf130 rfl rfl (bU 0 Ej rfl Tryz.sizeOf127 rfl rfl (bK Tryz.isAgg127 rfl (aa (.head _) rfl) (ag rfl ?_)))))))
 refine ag rfl (aE ?_)
 refine bN Tryz.call132 rfl (yG (n:=n) (ks:=jq ks x) x k) ?_
 rintro _ _ ⟨rfl,rfl⟩
 refine aA rfl (td hK3 (ay (aE ?_)))
 refine aM rfl rfl ?_
 exact ⟨rfl,rfl⟩
theorem xc{R:List HP}{p q n:Nat}{ks:Ks}:
 Ok Tryz.prog 80 [(vP p 0)] ((bI p [(vP q 0)] 132)::(cL q n ks)::R)
  (fun v M=>v=.tuple #[.int .i64 (jd ks),.bool (gT ks)]∧M=bI p [.pointer (some ⟨q,0,none⟩)] 132::cL q n ks::R):=by
 refine aP (N:=19) Tryz.func80 rfl rfl rfl (fun W=>?_)
 refine av (fun _ hK1=>aA rfl (aA rfl (td hK1 (av (fun K2 hK2=>ag rfl (cV rfl ?_))))))
 refine bU 0 Ek rfl Tryz.sizeOf130 rfl rfl (bU 0 Ej rfl Tryz.sizeOf127 rfl rfl (bK Tryz.isAgg127 rfl (aa (.head _) rfl) (aE ?_)))
 refine bN Tryz.call126 rfl (zf (n:=n) (ks:=ks)) ?_
 rintro _ _ ⟨rfl,rfl⟩
 refine ag rfl (tp rfl (aW rfl rfl) (tp rfl (aW rfl rfl) (tp rfl (aW rfl rfl) (aA rfl (aA rfl (aA rfl (td hK2 (ai (fun _ hK3=>?_)))))))))
 refine aj (ag rfl (ag rfl (aA rfl (aA rfl (td hK3 (ay (aE ?_)))))))
 refine dc rfl rfl rfl ?_
 exact ⟨rfl,rfl⟩
set_option maxHeartbeats 4000000 in
theorem Ad{R:List HP}{p q n:Nat}{ks:Ks}(x:Int):
 Ok Tryz.prog 48 [(vP p 0),(vI x)] ((bI p [(vP q 0)] 132)::(cL q n ks)::R)
  (dZ 3 1 (fT ks x).length (aF .i64 (fT ks x)) (bI p [.pointer (some ⟨q,0,none⟩)] 132::cL q n (uV ks x)::R)):=by
 refine aP (N:=37) Tryz.func48 rfl rfl rfl (fun W=>?_)
 refine aE ?_
 refine aY (fun _ h=>gB h) (fun hhf=>?_)
 obtain ⟨hln,hbig,hcn⟩:=hhf
 refine av (fun _ hK1=>aA rfl (td hK1 (aH ?_)))
 refine bO (fun _ h=>cz 3 1 h) ?_
 refine cE (γ:=(List Int)×(Ks)×(Option Addr)×(Nat)) (fun (l,k2,bt,ct)=>fT ks x=l++fT k2 x∧uV ks x=uV k2 x∧l.length+gf k2=gf ks∧bB bt l.length∧l.length≤ct) (fun (l,k2,bt,ct)=>[(0,(vP p 0)),(1,(vI x)),(4,(.slice bt l.length ct))]) (fun (l,k2,bt,ct)=>(SlV 3 1 (.slice bt l.length ct) l.length (aF .i64 l))::(cL q n k2)::(bI p [(vP q 0)] 132)::R) (fun (l,k2,bt,ct)=>gf k2) ([],ks,none,0) ⟨rfl,rfl,by simp,cn,Nat.le_refl _⟩ ⟨rfl,rfl,rfl,trivial⟩ (fun _ h=>h) ?_
 rintro ⟨l,k2,bt,ct⟩ K2 hF hK2
 try dsimp only at hF hK2⊢
 obtain ⟨hd1,hd2,hd3,hok,hle⟩:=hF
 refine aH (av (fun _ hK3=>ag rfl (aE (aR ?_))))
 refine bN Tryz.call80 rfl (xc (n:=n) (ks:=k2)) ?_
 rintro _ _ ⟨rfl,rfl⟩
 refine ag rfl (tp rfl (aW rfl rfl) (tp rfl (aW rfl rfl) (aA rfl (aA rfl (td hK3 (ai (fun _ hK4=>av (fun _ hK5=>?_))))))))
 refine ag rfl (tp rfl (dy (c:= !(gT k2)) rfl rfl) (ag rfl ?_))
 rcases hb1:gT k2 with _|_
 ·refine aq rfl rfl rfl ?_
  refine aq rfl rfl rfl ?_
  refine aq rfl rfl rfl ?_
  refine tp rfl (aL rfl rfl) (td hK5 (aG rfl (av (fun _ hK6=>ag rfl (aA rfl (td hK6 ?_))))))
  refine ay ?_
  refine aK ?_
  refine cH ?_
  refine aK ?_
  refine cH ?_
  refine aE (aE (aR ?_))
  refine aM rfl rfl ?_
  have hdn:fT k2 x=[]∧uV k2 x=k2:=og (fun hh=>by first| (have:=hh.2;omega)| (have:=hh.1;simp_all))
  rw [hdn.1,List.append_nil] at hd1
  rw [hdn.2] at hd2
  exact ⟨bt,ct,by rw [hd1];exact hok,by rw [hd1];exact hle,by rw [hd1],by rw [hd1,hd2]⟩
 ·refine ae rfl rfl ?_
  refine ag rfl ?_
  refine ae rfl rfl ?_
  refine ag rfl ?_
  refine ae rfl rfl ?_
  by_cases h2:(jd k2)>x
  ·refine tp rfl (cu rfl rfl (decide_eq_true h2)) (tp rfl (aC rfl rfl) (td hK5 (aG rfl (av (fun _ hK6=>ag rfl (aA rfl (aI ?_)))))))
   refine qn hK6 (ay ?_)
   refine aK ?_
   refine cH ?_
   refine aK ?_
   refine cH ?_
   refine aE (aE (aR ?_))
   refine aM rfl rfl ?_
   have hdn:fT k2 x=[]∧uV k2 x=k2:=og (fun hh=>by first| (have:=hh.2;omega)| (have:=hh.1;simp_all))
   rw [hdn.1,List.append_nil] at hd1
   rw [hdn.2] at hd2
   exact ⟨bt,ct,by rw [hd1];exact hok,by rw [hd1];exact hle,by rw [hd1],by rw [hd1,hd2]⟩
  ·refine tp rfl (cu rfl rfl (decide_eq_false h2)) (tp rfl (aC rfl rfl) (td hK5 (ar rfl (dp hK4 (av (fun _ hK6=>?_))))))
   have hyb:gT k2=true:=by assumption
   have hyv:jd k2≤x:=by first|assumption|omega
   have hdy:=nA ⟨hyb,hyv⟩
   have hcp:=nz (fstB_pos.1 hyb)
   refine ag rfl (cV rfl (bU 0 Ek rfl Tryz.sizeOf130 rfl rfl (bU 0 Ej rfl Tryz.sizeOf127 rfl rfl (bK Tryz.isAgg127 rfl (aa (.head _) rfl) (aE ?_)))))
   refine bN Tryz.call81 rfl (zy (n:=n) (ks:=k2)) ?_
   rintro _ _ ⟨rfl,rfl⟩
   refine ag rfl (tp rfl (aW rfl rfl) (tp rfl (aW rfl rfl) (tp rfl (aW rfl rfl) (aA rfl (aA rfl (aA rfl (td hK6 (aj ?_))))))))
   refine ag rfl (ag rfl ?_)
   refine tm rfl (aD (cs:=[(vI (jI k2))]) CI CG CN (by decide) rfl rfl rfl rfl) ?_
   rintro _ _ ⟨bs3,cp4,hok5,hle6,rfl,rfl⟩
   refine aS ?_
   refine tm rfl (cR (i:=Tryz.t3) CI C1 rfl rfl rfl (by decide) rfl rfl hok5 (by first| (simp;done)| (simp;omega)) (cj (.tail _ (.head _))) (by simp [Value.oneCell']) (by rw [show Tryz.t3.bytes=8 from rfl];omega)) ?_
   rintro _ _ ⟨bs7,cp8,hok9,hle10,rfl,rfl⟩
   rw [show aF .i64 l++[(.int .i64 (jI k2))]=aF .i64 (l++[jI k2]) from dW _ _ _]
   rw [show l.length+1=(l++[jI k2]).length from by simp] at hok9 hle10⊢
   refine aA rfl (aI (aZ (aN (aE (ak ?_)))))
   exact az (by exact ⟨rfl,rfl,rfl,trivial⟩) ((hK2 (l++[jI k2],jt k2,bs7,cp8) ⟨by dsimp only;rw [List.append_assoc,hd1,hdy.1];rfl,by dsimp only;rw [hd2,hdy.2],by dsimp only;rw [List.length_append,List.length_singleton];omega,hok9,hle10⟩ (by dsimp only;omega)))
end Go.Proofs.YtanfdikglplkaaaGreatDoor
set_option maxRecDepth 100000
namespace Go.Proofs.YtanfdikglplkaaaGreatDoor
open Go Go.Proofs Sp
theorem nH{R:List HP}{e:Nat}{x:EP}{s:ES}(t:Int):
 Ok Tryz.prog 22 [(vP e 0),(vI t)] ((bQ e x s)::R)
  (fun v M=>v=.bool (decide (0≤t∧t<x.n))∧M=bQ e x s::R):=by
 refine aP (N:=16) Tryz.func22 rfl rfl rfl (fun W=>?_)
 refine aY (fun _ h=>dG h) (fun hE=>?_)
 have hE_nb:=hE.nb
 have hE_mb:=hE.mb
 have hE_tn:=hE.tn
 have hE_ln:=hE.ln
 have hE_mn:=hE.mn
 refine av (fun _ hK1=>aA rfl (td hK1 (av (fun _ hK2=>ag rfl ?_))))
 by_cases h1:t≥0
 ·refine tp rfl (cC rfl rfl (decide_eq_true h1)) (ag rfl ?_)
  refine ae rfl rfl ?_
  refine ag rfl ?_
  refine ae rfl rfl ?_
  refine ag rfl ?_
  refine ae rfl rfl ?_
  refine cV rfl ?_
  refine ae rfl rfl ?_
  refine bU 11 CJ rfl C9 rfl rfl ?_
  refine ae rfl rfl ?_
  refine bK Dc rfl (bu (v:=(.slice x.bt x.n x.ct)) (.head _) (fun _ _=>rfl)) ?_
  refine ae rfl rfl ?_
  refine tp rfl (bC C6 rfl rfl) ?_
  refine ae rfl rfl ?_
  refine tp rfl (aJ rfl rfl rfl) (tp rfl (aL rfl rfl) (aA rfl (td hK2 (ay ?_))))
  refine aM rfl rfl ?_
  exact ⟨by first|rfl| (congr 1;rw [decide_eq_decide];omega)| (rw [decide_eq_true (by omega)])| (rw [decide_eq_false (by omega)]),rfl⟩
 ·refine tp rfl (cC rfl rfl (decide_eq_false h1)) (ag rfl ?_)
  refine aq rfl rfl rfl ?_
  refine aq rfl rfl rfl ?_
  refine aq rfl rfl rfl ?_
  refine aq rfl rfl rfl ?_
  refine aq rfl rfl rfl ?_
  refine aq rfl rfl rfl ?_
  refine aq rfl rfl rfl ?_
  refine tp rfl (aC rfl rfl) (aA rfl (td hK2 (ay ?_)))
  refine aM rfl rfl ?_
  exact ⟨by rw [decide_eq_false (by omega)],rfl⟩
theorem AC{R:List HP}{e:Nat}{x:EP}{s:ES}(t:Nat)(ht:t<x.n):
 Ok Tryz.prog 11 [(vP e 0),(vN t)] ((bQ e x s)::R)
  (fun v M=>v=.int .i64 (s.lf.getD t Lf.z).st∧M=bQ e x s::R):=by
 refine aP (N:=20) Tryz.func11 rfl rfl rfl (fun W=>?_)
 refine aY (fun _ h=>dG h) (fun hE=>?_)
 have hE_nb:=hE.nb
 have hE_mb:=hE.mb
 have hE_tn:=hE.tn
 have hE_ln:=hE.ln
 have hE_mn:=hE.mn
 refine av (fun _ hK1=>aA rfl (td hK1 (ai (fun _ hK2=>av (fun _ hK3=>ag rfl (ag rfl ?_))))))
 refine bN Tryz.call22 rfl (nH (x:=x) (s:=s) (t:Int)) ?_
 rintro _ _ ⟨rfl,rfl⟩
 rw [show decide (0≤(t:Int)∧(t:Int)<x.n)=true from decide_eq_true (by omega)]
 refine tp rfl (dy (c:=false) rfl rfl) (td hK3 (ar rfl (dp hK2 (av (fun K4 hK4=>ag rfl (cV rfl ?_))))))
 refine bU 11 CJ rfl C9 rfl rfl (bK Dc rfl (bu (v:=(.slice x.bt x.n x.ct)) (.head _) (fun _ _=>rfl)) (ag rfl (tp rfl (ah (k':=t) C6 De rfl rfl hE.okt (by omega) (by omega) (by omega)) ?_)))
 refine bK Df rfl (dT (i:=t) (.head _) (by omega)) ?_
 refine cV rfl (bU 2 CP rfl CU rfl rfl (bK CV rfl (bY (i:=t) (v:=(.pointer (some ⟨(x.ks.getD t (0,0)).2,0,none⟩))) (.head _) (by omega) rfl) ?_))
 refine bN DF rfl (dK (i:=t) (by omega) (fun _=>fc _)) ?_
 rintro _ _ ⟨rfl,rfl⟩
 refine aA rfl (td hK4 (ay ?_))
 refine aM rfl rfl ?_
 exact ⟨rfl,rfl⟩
theorem qR{R:List HP}{e:Nat}{x:EP}{s:ES}(r:Nat)(hr:r<x.m):
 Ok Tryz.prog 31 [(vP e 0),(vN r)] ((bQ e x s)::R)
  (fun v M=>v=.pointer (some ⟨x.rs.getD r 0,0,none⟩)∧M=bQ e x s::R):=by
 refine aP (N:=23) Tryz.func31 rfl rfl rfl (fun W=>?_)
 refine aY (fun _ h=>dG h) (fun hE=>?_)
 have hE_nb:=hE.nb
 have hE_mb:=hE.mb
 have hE_tn:=hE.tn
 have hE_ln:=hE.ln
 have hE_mn:=hE.mn
 refine av (fun _ hK1=>aA rfl (td hK1 (ai (fun _ hK2=>av (fun _ hK3=>ag rfl (tp rfl (aJ rfl rfl (decide_eq_false (by omega))) ?_))))))
 refine ag rfl ?_
 refine ae rfl rfl ?_
 refine ag rfl ?_
 refine ae rfl rfl ?_
 refine ag rfl ?_
 refine ae rfl rfl ?_
 refine cV rfl ?_
 refine ae rfl rfl ?_
 refine bU 12 CJ rfl Dv rfl rfl ?_
 refine ae rfl rfl ?_
 refine bK DC rfl (bu (v:=(.slice x.br x.m x.cr)) (.head _) (fun _ _=>rfl)) ?_
 refine ae rfl rfl ?_
 refine tp rfl (bC Dx rfl rfl) ?_
 refine ae rfl rfl ?_
 refine tp rfl (cC rfl rfl (decide_eq_false (by omega))) ?_
 refine tp rfl (aC rfl rfl) (td hK3 (ar rfl (dp hK2 (av (fun K4 hK4=>ag rfl (cV rfl ?_))))))
 refine bU 12 CJ rfl Dv rfl rfl (bK DC rfl (bu (v:=(.slice x.br x.m x.cr)) (.head _) (fun _ _=>rfl)) (ag rfl (tp rfl (ah (k':=r) Dx DP rfl rfl hE.okr (by omega) (by omega) (by omega)) ?_)))
 refine bK DU rfl (ie (i:=r) (.head _) (by omega)) ?_
 refine aA rfl (td hK4 (ay ?_))
 refine aM rfl rfl ?_
 exact ⟨rfl,rfl⟩
theorem tZ{R:List HP}{e:Nat}{x:EP}{s:ES}(r:Int)(hr:r<0∨r≥x.m):
 Ok Tryz.prog 31 [(vP e 0),(vI r)] ((bQ e x s)::R)
  (fun v M=>v=.pointer none∧M=bQ e x s::R):=by
 refine aP (N:=23) Tryz.func31 rfl rfl rfl (fun W=>?_)
 refine aY (fun _ h=>dG h) (fun hE=>?_)
 have hE_nb:=hE.nb
 have hE_mb:=hE.mb
 have hE_tn:=hE.tn
 have hE_ln:=hE.ln
 have hE_mn:=hE.mn
 refine av (fun _ hK1=>aA rfl (td hK1 (ai (fun _ hK2=>av (fun _ hK3=>ag rfl ?_)))))
 by_cases h1:r<0
 ·refine tp rfl (aJ rfl rfl (decide_eq_true h1)) (ag rfl ?_)
  refine aq rfl rfl rfl ?_
  refine aq rfl rfl rfl ?_
  refine aq rfl rfl rfl ?_
  refine aq rfl rfl rfl ?_
  refine aq rfl rfl rfl ?_
  refine aq rfl rfl rfl ?_
  refine aq rfl rfl rfl ?_
  refine tp rfl (aL rfl rfl) (td hK3 (aG rfl (av (fun K4 hK4=>aA rfl (td hK4 (ay ?_))))))
  refine aK ?_
  refine aM rfl rfl ?_
  exact ⟨rfl,rfl⟩
 ·refine tp rfl (aJ rfl rfl (decide_eq_false h1)) (ag rfl ?_)
  refine ae rfl rfl ?_
  refine ag rfl ?_
  refine ae rfl rfl ?_
  refine ag rfl ?_
  refine ae rfl rfl ?_
  refine cV rfl ?_
  refine ae rfl rfl ?_
  refine bU 12 CJ rfl Dv rfl rfl ?_
  refine ae rfl rfl ?_
  refine bK DC rfl (bu (v:=(.slice x.br x.m x.cr)) (.head _) (fun _ _=>rfl)) ?_
  refine ae rfl rfl ?_
  refine tp rfl (bC Dx rfl rfl) ?_
  refine ae rfl rfl ?_
  by_cases h2:r≥(x.m:Int)
  ·refine tp rfl (cC rfl rfl (decide_eq_true h2)) (tp rfl (aC rfl rfl) (td hK3 (aG rfl (av (fun K4 hK4=>aA rfl (td hK4 ?_))))))
   refine ay ?_
   refine aK ?_
   refine aM rfl rfl ?_
   exact ⟨rfl,rfl⟩
  ·refine tp rfl (cC rfl rfl (decide_eq_false h2)) ?_
   exfalso;omega
set_option maxHeartbeats 4000000 in
theorem wK{R:List HP}{e:Nat}{x:EP}{s:ES}(r:Nat)(hr:r<x.m):
 Ok Tryz.prog 16 [(vP e 0),(vN r)] ((bQ e x s)::R)
  (fun v M=>v=.tuple #[.agg #[.int .i64 (s.rq.getD r Rq.z).root,.int .i64 (s.rq.getD r Rq.z).wt,.int .i64 (s.rq.getD r Rq.z).pr],.int .i64 (s.rq.getD r Rq.z).st,.bool true]∧M=bQ e x s::R):=by
 refine aP (N:=22) Tryz.func16 rfl rfl rfl (fun W=>?_)
 refine aY (fun _ h=>dG h) (fun hE=>?_)
 have hE_nb:=hE.nb
 have hE_mb:=hE.mb
 have hE_tn:=hE.tn
 have hE_ln:=hE.ln
 have hE_mn:=hE.mn
 refine av (fun _ hK1=>?_)
 refine tm rfl (cD DV rfl) ?_
 rintro _ _ ⟨b1,rfl,rfl⟩
 refine aA rfl (aA rfl (td hK1 (av (fun _ hK2=>ag rfl (ag rfl (aE ?_))))))
 refine bN Tryz.call31 rfl (qR (x:=x) (s:=s) r hr) ?_
 rintro _ _ ⟨rfl,rfl⟩
 refine aA rfl (td hK2 (ai (fun _ hK3=>av (fun K4 hK4=>ag rfl (tp rfl (j3 El rfl rfl) (td hK4 ?_))))))
 refine ar rfl (dp hK3 (ai (fun _ hK5=>?_)))
 refine bz (γ:=Unit) (n:=11) Tryz.mixed rfl rfl (fun _ S=>True) (fun _=>[(0,14,(vP (x.rs.getD r 0) 0)),(1,15,(vP (x.rs.getD r 0) 0)),(2,16,(vP (x.rs.getD r 0) 0)),(3,17,(.agg #[(vI ((s.rq.getD r Rq.z).root)),(vI ((s.rq.getD r Rq.z).wt)),(vI ((s.rq.getD r Rq.z).pr))])),(4,18,(vP (x.rs.getD r 0) 0)),(5,19,(vP (x.rs.getD r 0) 0)),(6,20,(vP (x.rs.getD r 0) 3)),(7,21,(vI ((s.rq.getD r Rq.z).st))),(9,5,(vI ((s.rq.getD r Rq.z).st))),(10,6,(.bool true))]) (fun _ S=>(bQ e x s)::(bif S 8 then (bI b1 [(vI ((s.rq.getD r Rq.z).root)),(vI ((s.rq.getD r Rq.z).wt)),(vI ((s.rq.getD r Rq.z).pr))] 51) else (bI b1 [(vI 0),(vI 0),(vI 0)] 51))::R) (()) trivial (fun _ h=>h) (fun _ _ h=>h) ?_ ?_
 ·refine ⟨aU,bW,bL Ds rfl Dj,?_,aU,bW,bL Ds rfl CG,?_,?_,fh,fh,trivial⟩
  ·rintro _ S hF hS D hp K hK;try dsimp only
   exact bH (bE hp 2 rfl rfl) (cB (cs:=[(vI ((s.rq.getD r Rq.z).root)),(vI ((s.rq.getD r Rq.z).wt)),(vI ((s.rq.getD r Rq.z).pr))]) Em Dj rfl (ej (eB (i:=r) (v:=(vI ((s.rq.getD r Rq.z).root))) (.head _) (by omega) rfl) (eB (i:=r) (v:=(vI ((s.rq.getD r Rq.z).wt))) (.head _) (by omega) rfl) (eB (i:=r) (v:=(vI ((s.rq.getD r Rq.z).pr))) (.head _) (by omega) rfl))) 3 rfl rfl hS (hK () hF)
  ·rintro _ S hF hS D hp K hK;try dsimp only
   exact bH (bE hp 6 rfl rfl) (bP CH rfl (eB (i:=r) (v:=(vI ((s.rq.getD r Rq.z).st))) (.head _) (by omega) rfl)) 7 rfl rfl hS (hK () hF)
  ·rintro _ S hF hS D hp K hK
   try dsimp only at hF⊢
   refine bZ hp [4,17] rfl rfl ?_
   refine aE ?_
   refine c9 hS ?_
   refine ts (bn (news:=[(vI ((s.rq.getD r Rq.z).root)),(vI ((s.rq.getD r Rq.z).wt)),(vI ((s.rq.getD r Rq.z).pr))]) Dj rfl rfl rfl rfl (nB rfl) rfl) ?_
   refine aE ?_
   exact gE hp (ti (hK () trivial)) rfl rfl rfl
 ·rintro _ hF
  try dsimp only at hF⊢
  refine az (E':=[(0,(vP e 0)),(1,(vN r)),(4,(vP b1 0)),(5,(vI ((s.rq.getD r Rq.z).st))),(6,(.bool true)),(7,(vP (x.rs.getD r 0) 0)),(12,(.bool false))]) ⟨rfl,rfl,rfl,rfl,rfl,rfl,rfl,trivial⟩ ?_
  refine qn hK5 (ay (aE ?_))
  refine AE (cs:=[(vI ((s.rq.getD r Rq.z).root)),(vI ((s.rq.getD r Rq.z).wt)),(vI ((s.rq.getD r Rq.z).pr))]) rfl rfl rfl rfl Em Dj (ej (aa (.head _) rfl) (aa (.head _) rfl) (aa (.head _) rfl)) (fun _ h=>h.drop) ?_
  exact ⟨rfl,rfl⟩
theorem vF{R:List HP}{e:Nat}{x:EP}{s:ES}{Aa Qq:Int}{y:AS}(hb:y.a.length+y.q.length≤1000):
 Ok Tryz.prog 20 [(vP e 0)] ((bQ e x s)::(dv x.ad Aa Qq y)::R)
  (dZ 3 1 y.a.length (aF .i64 y.a) (bQ e x s::dv x.ad Aa Qq y::R)):=by
 refine aP (N:=8) Tryz.func20 rfl rfl rfl (fun W=>?_)
 refine av (fun _ hK1=>aA rfl (td hK1 (av (fun _ hK2=>ag rfl (cV rfl (bU 16 CJ rfl En rfl rfl ?_))))))
 refine bK Eo rfl (bu (v:=(vP x.ad 0)) (.head _) (fun _ _=>rfl)) (aE ?_)
 refine bN Tryz.call42 rfl (lE (A:=Aa) (Q:=Qq) (s:=y) (by omega)) ?_
 rintro _ _ ⟨bs1,cp2,hok3,hle4,rfl,rfl⟩
 refine aA rfl (td hK2 (ay (aE (aR (aR ?_)))))
 refine aM rfl rfl ?_
 exact ⟨_,_,hok3,hle4,rfl,rfl⟩
theorem Aw{R:List HP}{e:Nat}{x:EP}{s:ES}{N:Nat}{es:Es}(t:Int):
 Ok Tryz.prog 21 [(vP e 0),(vI t)] ((bQ e x s)::(aT x.g N es)::R)
  (dZ 3 1 (cP es t).length (aF .i64 (cP es t)) (bQ e x s::aT x.g N es::R)):=by
 refine aP (N:=11) Tryz.func21 rfl rfl rfl (fun W=>?_)
 refine av (fun _ hK1=>aA rfl (td hK1 (av (fun _ hK2=>ag rfl (cV rfl (bU 13 CJ rfl DZ rfl rfl ?_))))))
 refine bK DN rfl (bu (v:=(vP x.g 0)) (.head _) (fun _ _=>rfl)) (ag rfl (aE ?_))
 refine bN Tryz.call43 rfl (xa (N:=N) (es:=es) t) ?_
 rintro _ _ ⟨bs1,cp2,hok3,hle4,rfl,rfl⟩
 refine aA rfl (td hK2 (ay (aE (aR (aR ?_)))))
 refine aM rfl rfl ?_
 exact ⟨_,_,hok3,hle4,rfl,rfl⟩
set_option maxHeartbeats 4000000 in
theorem yK{R:List HP}{e:Nat}{x:EP}{s:ES}:
 Ok Tryz.prog 54 [(vP e 0)] ((bQ e x s)::R)
  (dZ 3 1 x.n (aF .i64 (s.lf.map (·.st))) (bQ e x s::R)):=by
 refine aP (N:=24) Tryz.func54 rfl rfl rfl (fun W=>?_)
 refine aY (fun _ h=>dG h) (fun hE=>?_)
 have hE_nb:=hE.nb
 have hE_mb:=hE.mb
 have hE_tn:=hE.tn
 have hE_ln:=hE.ln
 have hE_mn:=hE.mn
 refine av (fun _ hK1=>aA rfl (td hK1 (ai (fun _ hK2=>av (fun _ hK3=>ag rfl (cV rfl ?_))))))
 refine bU 11 CJ rfl C9 rfl rfl (bK Dc rfl (bu (v:=(.slice x.bt x.n x.ct)) (.head _) (fun _ _=>rfl)) (tp rfl (bC C6 rfl rfl) (ag rfl (td hK3 (aH ?_)))))
 refine bO (fun _ h=>cz 3 1 h) ?_
 refine cE (γ:=(Nat)×(Option Addr)×(Nat)) (fun (k,bt,ct)=>k≤x.n∧bB bt k∧k≤ct) (fun (k,bt,ct)=>[(0,(vP e 0)),(2,(.slice bt k ct)),(8,(.slice x.bt x.n x.ct)),(9,(vN x.n)),(10,(vN k))]) (fun (k,bt,ct)=>(SlV 3 1 (.slice bt k ct) k (aF .i64 ((s.lf.map (·.st)).take k)))::(bQ e x s)::R) (fun (k,bt,ct)=>x.n-k) (0,none,0) ⟨Nat.zero_le _,cn,Nat.le_refl _⟩ ⟨rfl,rfl,rfl,rfl,rfl,trivial⟩ (fun _ h=>h) ?_
 rintro ⟨k,bt,ct⟩ K4 hF hK4
 try dsimp only at hF hK4⊢
 obtain ⟨hk,hok,hle⟩:=hF
 refine av (fun _ hK5=>?_)
 by_cases h1:(k:Int)< (x.n:Int)
 ·refine tp rfl (aJ rfl rfl (decide_eq_true h1)) (td hK5 (ai (fun _ hK6=>aG rfl (dp hK6 (ai (fun _ hK7=>aH (ai (fun _ hK8=>?_))))))))
  refine aj (tp rfl (ah (k':=k) C6 De rfl rfl hE.okt (by omega) (by omega) (by omega)) ?_)
  refine bK Df rfl (dT (i:=k) (.tail _ (.head _)) (by omega)) ?_
  refine aA rfl (td hK8 (aj (ag rfl (ag rfl (cV rfl (bU 2 CP rfl CU rfl rfl (bK CV rfl (bY (i:=k) (v:=(.pointer (some ⟨(x.ks.getD k (0,0)).2,0,none⟩))) (.tail _ (.head _)) (by omega) rfl) ?_)))))))
  refine aE ?_
  refine bN DF rfl (dK (i:=k) (by omega) (fun _=>fc _)) ?_
  rintro _ _ ⟨rfl,rfl⟩
  refine tm rfl (aD (cs:=[(vI ((s.lf.getD k Lf.z).st))]) CI CG CN (by decide) rfl rfl rfl rfl) ?_
  rintro _ _ ⟨bs2,cp3,hok4,hle5,rfl,rfl⟩
  refine aR ?_
  refine tm rfl (cR (i:=Tryz.t3) CI C1 rfl rfl rfl (by decide) rfl rfl hok4 (by first| (simp;done)| (simp;omega)) (cj (.tail _ (.head _))) (by simp [Value.oneCell']) (by rw [show Tryz.t3.bytes=8 from rfl];omega)) ?_
  rintro _ _ ⟨bs6,cp7,hok8,hle9,rfl,rfl⟩
  rw [show aF .i64 ((s.lf.map (·.st)).take k)++[.int .i64 (s.lf.getD k Lf.z).st]=aF .i64 ((s.lf.map (·.st)).take (k+1)) from by rw [←na (by omega)];exact dW _ _ _]
  rw [show k+1=k+1 from by simp] at hok8 hle9⊢
  refine aA rfl (aI (aZ (qn hK7 (aj (tp rfl (aX (c:=((k+1:Nat):Int)) rfl rfl (aB (by omega))) ?_)))))
  refine ag rfl (aI (aN (aE (ak ?_))))
  exact az (by exact ⟨rfl,rfl,rfl,rfl,rfl,trivial⟩) ((hK4 (k+1,bs6,cp7) ⟨by omega,hok8,hle9⟩ (by dsimp only;omega)))
 ·refine tp rfl (aJ rfl rfl (decide_eq_false h1)) (td hK5 (ai (fun _ hK6=>ar rfl (bT (au (au (bS (qn hK2 ?_))))))))
  refine av (fun _ hK7=>ag rfl (aA rfl (td hK7 (ay ?_))))
  refine aM rfl rfl ?_
  obtain rfl:k=x.n:=by omega
  rw [List.take_of_length_le (by rw [List.length_map];exact Nat.le_of_eq hE.ln)]
  exact ⟨bt,ct,hok,hle,rfl,rfl⟩
end Go.Proofs.YtanfdikglplkaaaGreatDoor
set_option maxRecDepth 100000
namespace Go.Proofs.YtanfdikglplkaaaGreatDoor
open Go Go.Proofs Sp
set_option maxHeartbeats 4000000 in
theorem sb{R:List HP}{e:Nat}{x:EP}{s:ES}{ld:Led}(kind:Int)(t:Nat)(ht:t<x.n)(hl:s.lg.length≤1000000000):
 Ok Tryz.prog 82 [(vP e 0),(vI kind),(vN t)] ((bQ e x s)::(dz x.ld ld)::R)
  (fun v M=>v=.tuple #[]∧M=bQ e x (s.addLg (g7 s ld kind (t:Int)))::dz x.ld ld::R):=by
 refine aP (N:=45) Tryz.func82 rfl rfl rfl (fun W=>?_)
 refine qk (fun bl cl hE hl2=>?_)
 have hnb:=hE.nb
 have hlok:=hl2.ok
 have hlle:=hl2.le
 unfold jX;simp only [List.cons_append,List.nil_append]
 obtain ⟨k,hk⟩:∃k,s.lg.length=k:=⟨_,rfl⟩
 unfold sI;rw [hk] at hl hlok hlle⊢
 refine av (fun _ hK1=>ag rfl (cV rfl (bU 15 CJ rfl DK rfl rfl (bK DL rfl (aa (.head _) rfl) (ag rfl (dR ?_))))))
 refine bN Tryz.call128 rfl (xU (d:=ld) (t:Int)) ?_
 rintro _ _ ⟨rfl,rfl⟩
 refine ag rfl (tp rfl (aW rfl rfl) (tp rfl (aW rfl rfl) (aA rfl (aA rfl (td hK1 ?_)))))
 refine bz (γ:=Option Addr×Nat×Option Addr×Nat) (n:=29) Tryz.mixed rfl rfl (fun (bs1,cp2,bs5,cp6) S=>(S 24=true→bB bs1 1)∧(S 24=true→1≤cp2)∧(S 25=true→bB bs5 (k+1))∧(S 25=true→k+1≤cp6)) (fun (bs1,cp2,bs5,cp6)=>[(0,17,(vP e 0)),(1,18,(vP e 0)),(2,19,(vP e 0)),(3,20,(vP e 20)),(4,21,(.slice bl k cl)),(5,22,(vI kind)),(6,23,(vN t)),(7,24,(vI (max (ld.slot (t:Int)) 0))),(8,25,(vP e 0)),(9,26,(vP e 0)),(10,27,(vP e 11)),(11,28,(.slice x.bt x.n x.ct)),(12,29,(vN t)),(13,30,(.pointer (some (ad x.bt t)))),(14,31,(.pointer (some ⟨(x.ks.getD t (0,0)).1,0,none⟩))),(15,32,(.pointer (some ⟨(x.ks.getD t (0,0)).1,0,none⟩))),(16,33,(.pointer (some ⟨(x.ks.getD t (0,0)).1,2,none⟩))),(17,34,(.pointer (some ⟨(x.ks.getD t (0,0)).2,0,none⟩))),(18,35,(vI ((s.lf.getD t Lf.z).ep))),(19,36,(vP e 0)),(20,37,(vP e 0)),(21,38,(vP e 18)),(22,39,(vI s.now)),(23,40,(.agg #[(vI kind),(vN t),(vI (max (ld.slot (t:Int)) 0)),(vI ((s.lf.getD t Lf.z).ep)),(vI s.now)])),(24,41,(.slice bs1 1 cp2)),(25,42,(.slice bs5 (k+1) cp6)),(26,43,(vP e 0)),(27,44,(vP e 20))]) (fun (bs1,cp2,bs5,cp6) S=>(dz x.ld ld)::(bif S 28 then (bI e [(vI s.c.bud),(vI s.c.slots),(vI s.c.act),(vI s.c.que),(vI s.c.tries),(vI s.c.pre),(vI s.c.tmo),(vI s.c.bak),(vI s.c.most),(vI s.c.qu),(.slice x.ba x.n x.ca),(.slice x.bt x.n x.ct),(.slice x.br x.m x.cr),(vP x.g 0),(vP x.tp 0),(vP x.ld 0),(vP x.ad 0),(vP x.tn 0),(vI s.now),(vI s.bg),(.slice bs5 (k+1) cp6)] 73) else (bI e [(vI s.c.bud),(vI s.c.slots),(vI s.c.act),(vI s.c.que),(vI s.c.tries),(vI s.c.pre),(vI s.c.tmo),(vI s.c.bak),(vI s.c.most),(vI s.c.qu),(.slice x.ba x.n x.ca),(.slice x.bt x.n x.ct),(.slice x.br x.m x.cr),(vP x.g 0),(vP x.tp 0),(vP x.ld 0),(vP x.ad 0),(vP x.tn 0),(vI s.now),(vI s.bg),(.slice bl k cl)] 73))::(SlV 57 2 (.slice x.ba x.n x.ca) x.n (df s.al))::(SlV 64 1 (.slice x.bt x.n x.ct) x.n (bJ dJ (x.ks.map Prod.fst)))::(SlV 79 1 (.slice x.br x.m x.cr) x.m (bJ dJ x.rs))::(bif S 25 then (SlV 45 5 (.slice bs5 (k+1) cp6) (k+1) (bJ gH (s.lg++[⟨kind,(t:Int),max (ld.slot (t:Int)) 0,(s.lf.getD t Lf.z).ep,s.now⟩]))) else (SlV 45 5 (.slice bl k cl) k (bJ gH s.lg)))::(cI (e9 tf Prod.fst pd x.ks s.tk))::(cI (e9 py Prod.snd (fun _=>fD) x.ks s.lf))::(cI (e9 w5 id (fun _=>rv) x.rs s.rq))::(bif S 24 then (SlV 45 5 (.slice bs1 1 cp2) 1 [(vI kind),(vN t),(vI (max (ld.slot (t:Int)) 0)),(vI ((s.lf.getD t Lf.z).ep)),(vI s.now)]) else ib)::R) (none,0,none,0) (by simp [Nat.ble]) (fun _ h=>ef [_,_,_,_,_,_,_,_,_] 1 h) (fun _ _ h=>h) ?_ ?_
 ·refine ⟨ga fun ⟨_,_,_,_⟩=>da,ga fun ⟨_,_,_,_⟩=>da,ga fun ⟨_,_,_,_⟩=>fx,ga fun ⟨_,_,_,_⟩=>dF CJ rfl Tryz.sizeOf37,?_,ga fun ⟨_,_,_,_⟩=>da,ga fun ⟨_,_,_,_⟩=>da,ga fun ⟨_,_,_,_⟩=>da,ga fun ⟨_,_,_,_⟩=>da,ga fun ⟨_,_,_,_⟩=>fx,ga fun ⟨_,_,_,_⟩=>dF CJ rfl C9,?_,ga fun ⟨_,_,_,_⟩=>da,ga fun ⟨_,_,_,_⟩=>nu C6 De rfl rfl rfl ⟨hE.okt,by omega,by omega,by omega⟩,ga fun ⟨_,_,_,_⟩=>gI Df rfl rfl fun _=>aw (.tail _ (.tail _ (.tail _ (.head _)))) (Bh hE (by first|omega| (simp;omega))),ga fun ⟨_,_,_,_⟩=>fx,ga fun ⟨_,_,_,_⟩=>dF CP rfl CU,ga fun ⟨_,_,_,_⟩=>gI CV rfl rfl fun _=>mX (v:=(.pointer (some ⟨(x.ks.getD t (0,0)).2,0,none⟩))) (T:=tf) (pk:=Prod.fst) (F:=pd) (0,0) Tk.z (.tail _ (.tail _ (.tail _ (.tail _ (.tail _ (.tail _ (.head _))))))) (by rw [hE.kn,hE.tn]) (by rw [hE.tn];exact ht) rfl,?_,ga fun ⟨_,_,_,_⟩=>da,ga fun ⟨_,_,_,_⟩=>fx,ga fun ⟨_,_,_,_⟩=>dF CJ rfl CG,?_,?_,?_,?_,ga fun ⟨_,_,_,_⟩=>fx,ga fun ⟨_,_,_,_⟩=>dF CJ rfl Tryz.sizeOf37,?_,trivial⟩
  ·rintro ⟨bs1,cp2,bs5,cp6⟩ S hF hS D hp K hK;try dsimp only
   exact bH (bE hp 3 rfl rfl) (bP Tryz.isAgg37 rfl (aa (cF (nf hS D (k:=28) (i:=4) rfl) (.tail _ (.head _))) rfl)) 4 rfl rfl hS (hK (bs1,cp2,bs5,cp6) hF)
  ·rintro ⟨bs1,cp2,bs5,cp6⟩ S hF hS D hp K hK;try dsimp only
   exact bH (bE hp 10 rfl rfl) (bP Dc rfl (aa (cF (nf hS D (k:=28) (i:=11) rfl) (.tail _ (.head _))) rfl)) 11 rfl rfl hS (hK (bs1,cp2,bs5,cp6) hF)
  ·rintro ⟨bs1,cp2,bs5,cp6⟩ S hF hS D hp K hK
   try dsimp only at hF⊢
   obtain ⟨hf0,hf1,hf2,hf3⟩:=hF
   refine bZ hp [34] rfl rfl ?_
   refine eL ?_
   refine bN Tryz.call109 rfl (A4 (i:=t) (by rw [hE.kn,hE.ln]) (by rw [hE.ln];exact ht) (fun _=>qf _)) ?_
   rintro _ _ ⟨rfl,rfl⟩
   refine eL (eL (eL (eL (eL (eL (eL ?_))))))
   exact cK hp hS (ti (hK (bs1,cp2,bs5,cp6) ⟨hf0,hf1,hf2,hf3⟩)) rfl rfl rfl
  ·rintro ⟨bs1,cp2,bs5,cp6⟩ S hF hS D hp K hK;try dsimp only
   exact bH (bE hp 21 rfl rfl) (bP CH rfl (aa (cF (nf hS D (k:=28) (i:=22) rfl) (.tail _ (.head _))) rfl)) 22 rfl rfl hS (hK (bs1,cp2,bs5,cp6) hF)
  ·rintro ⟨bs1,cp2,bs5,cp6⟩ S hF hS D hp K hK;try dsimp only
   exact AN (bE hp 5 rfl rfl) (bE hp 6 rfl rfl) (bE hp 7 rfl rfl) (bE hp 18 rfl rfl) (bE hp 22 rfl rfl) (bG (cs:=[(vI kind),(vN t),(vI (max (ld.slot (t:Int)) 0)),(vI ((s.lf.getD t Lf.z).ep)),(vI s.now)]) (pl:=[(0,1),(1,1),(2,1),(3,1),(4,1)]) Dk Tryz.zeroValue45 (fun _=>by simp) rfl rfl) 23 rfl rfl hS (hK (bs1,cp2,bs5,cp6) hF)
  ·rintro ⟨bs1,cp2,bs5,cp6⟩ S hF hS D hp K hK
   try dsimp only at hF⊢
   obtain ⟨hf0,hf1,hf2,hf3⟩:=hF
   refine bZ hp [40] rfl rfl ?_
   refine tm rfl (aD (cs:=[(vI kind),(vN t),(vI (max (ld.slot (t:Int)) 0)),(vI ((s.lf.getD t Lf.z).ep)),(vI s.now)]) C5 Dh Tryz.zeroValue45 (by decide) rfl rfl rfl rfl) ?_
   rintro _ _ ⟨bs1,cp2,hok3,hle4,rfl,rfl⟩
   refine bO (fun _ h=>cX [_,_,_,_,_,_,_,_,_] h) ?_
   exact cK hp hS (ti (hK (bs1,cp2,bs5,cp6) ⟨(fun _=>hok3),(fun _=>hle4),hf2,hf3⟩)) rfl rfl rfl
  ·rintro ⟨bs1,cp2,bs5,cp6⟩ S hF hS D hp K hK
   try dsimp only at hF⊢
   obtain ⟨hf0,hf1,hf2,hf3⟩:=hF
   have s24:=hp 24 rfl
   have hok3:=hf0 s24
   have hle4:=hf1 s24
   refine bZ hp [21,41] rfl rfl ?_
   refine aE ?_
   refine c9 (nf hS D (k:=28) (i:=25) rfl) ?_
   refine cN ?_
   refine c9 hS ?_
   refine dL ?_
   refine jJ s24 ?_
   refine aE ?_
   refine tm rfl (cR (i:=Tryz.t45) C5 Tryz.type45 rfl rfl rfl (by decide) rfl rfl hok3 (by first| (simp;done)| (simp;omega)) (cj (.tail _ (.head _))) (by simp [Value.oneCell']) (by rw [show Tryz.t45.bytes=40 from rfl];omega)) ?_
   rintro _ _ ⟨bs5,cp6,hok7,hle8,rfl,rfl⟩
   rw [show bJ gH s.lg++[(.int .i64 kind),(.int .i64 (t:Int)),(.int .i64 (max (ld.slot (t:Int)) 0)),(.int .i64 ((s.lf.getD t Lf.z).ep)),(.int .i64 s.now)]=bJ gH (s.lg++[⟨kind,(t:Int),max (ld.slot (t:Int)) 0,(s.lf.getD t Lf.z).ep,s.now⟩]) from iG gH s.lg ⟨kind,(t:Int),max (ld.slot (t:Int)) 0,(s.lf.getD t Lf.z).ep,s.now⟩]
   refine aR ?_
   refine fG (A:=(bI e [(vI s.c.bud),(vI s.c.slots),(vI s.c.act),(vI s.c.que),(vI s.c.tries),(vI s.c.pre),(vI s.c.tmo),(vI s.c.bak),(vI s.c.most),(vI s.c.qu),(.slice x.ba x.n x.ca),(.slice x.bt x.n x.ct),(.slice x.br x.m x.cr),(vP x.g 0),(vP x.tp 0),(vP x.ld 0),(vP x.ad 0),(vP x.tn 0),(vI s.now),(vI s.bg),(.slice bs5 (k+1) cp6)] 73)) (nf hS D (k:=28) (i:=25) rfl) ?_
   refine aR ?_
   refine lZ (B:=ib) s24 ?_
   refine dL (dL (dL (cN (dL (dL (dL (dR (dL ?_))))))))
   exact cK hp hS (ti (hK (bs1,cp2,bs5,cp6) ⟨hf0,hf1,(fun _=>hok7),(fun _=>hle8)⟩)) rfl rfl rfl
  ·rintro ⟨bs1,cp2,bs5,cp6⟩ S hF hS D hp K hK
   try dsimp only at hF⊢
   obtain ⟨hf0,hf1,hf2,hf3⟩:=hF
   have s24:=hp 24 rfl
   have hok3:=hf0 s24
   have hle4:=hf1 s24
   have s25:=hp 25 rfl
   have hok7:=hf2 s25
   have hle8:=hf3 s25
   refine bZ hp [42,44] rfl rfl ?_
   refine aE ?_
   refine c9 hS ?_
   refine ts (cM Tryz.sizeOf37 rfl rfl rfl (nB rfl) rfl) ?_
   refine aE ?_
   exact gE hp (ti (hK (bs1,cp2,bs5,cp6) ⟨hf0,hf1,hf2,hf3⟩)) rfl rfl rfl
 ·rintro ⟨bs1,cp2,bs5,cp6⟩ hF
  try dsimp only at hF⊢
  obtain ⟨hf0,hf1,hf2,hf3⟩:=hF
  have hok3:=hf0 rfl
  have hle4:=hf1 rfl
  have hok7:=hf2 rfl
  have hle8:=hf3 rfl
  refine az (E':=[(0,(vP e 0)),(1,(vI kind)),(2,(vN t)),(6,(vI (max (ld.slot (t:Int)) 0)))]) ⟨rfl,rfl,rfl,rfl,trivial⟩ ?_
  refine dR (dR (dR (dR (dR (dR (dR (dR ?_)))))))
  refine zw (v:=g7 s ld kind (t:Int)) hk hE hok7 hle8 ?_
  refine aR (ak ?_)
  refine fC rfl ?_
  exact ⟨rfl,rfl⟩
end Go.Proofs.YtanfdikglplkaaaGreatDoor
set_option maxRecDepth 100000
namespace Go.Proofs.YtanfdikglplkaaaGreatDoor
open Go Go.Proofs Sp
theorem qA{R:List HP}{e:Nat}{x:EP}{s:ES}{ld:Led}{ks:Ks}{hp n:Nat}(kind:Int)(t:Nat)(ht:t<x.n)(hl:s.lg.length≤1000000000):
 Ok Tryz.prog 49 [(vP e 0),(vI kind),(vN t)] ((bQ e x s)::(dz x.ld ld)::(bI x.tp [(vP hp 0)] 132)::(cL hp n ks)::R)
  (fun v M=>v=.tuple #[]∧M=bQ e x (s.addLg (g7 s ld kind (t:Int)))::dz x.ld (ld.drop (t:Int))::bI x.tp [.pointer (some ⟨hp,0,none⟩)] 132::cL hp n (jq ks (t:Int))::R):=by
 refine aP (N:=22) Tryz.func49 rfl rfl rfl (fun W=>?_)
 refine av (fun _ hK1=>ag rfl (ag rfl (ag rfl (aE (aE ?_)))))
 refine bN Tryz.call82 rfl (sb (x:=x) (s:=s) (ld:=ld) kind t (by omega) (by omega)) ?_
 rintro _ _ ⟨rfl,rfl⟩
 refine td hK1 (av (fun _ hK2=>ag rfl (cV rfl (bU 15 CJ rfl DK rfl rfl (bK DL rfl (bu (v:=(vP x.ld 0)) (.head _) (fun _ _=>rfl)) (ag rfl (aE ?_)))))))
 refine bN Tryz.call83 rfl (yT (d:=ld) (t:Int)) ?_
 rintro _ _ ⟨rfl,rfl⟩
 refine td hK2 (aj (ag rfl (cV rfl (bU 14 CJ rfl Tryz.sizeOf68 rfl rfl (bK Tryz.isAgg68 rfl (bu (v:=(vP x.tp 0)) (.tail _ (.head _)) (fun _ _=>rfl)) (ag rfl (aS (aS ?_))))))))
 refine bN Tryz.call84 rfl (sC (n:=n) (ks:=ks) (t:Int)) ?_
 rintro _ _ ⟨rfl,rfl⟩
 refine aI (aE (aE (aR (aS ?_))))
 refine fC rfl ?_
 exact ⟨rfl,rfl⟩
set_option maxHeartbeats 4000000 in
theorem pU{R:List HP}{e:Nat}{x:EP}{s:ES}{q:Int}{ms:List M3}{ta:Nat}(r:Nat)(hr:r<x.m)(hq:RqOk x.n s)(hb:ms.length≤1000):
 Ok Tryz.prog 45 [(vP e 0),(vN r)] ((bQ e x s)::(bF x.tn q ms ta)::R)
  (fun v M=>v=.tuple #[]∧M=bQ e x (oA s r)::bF x.tn q (vW s ms r) ta::R):=by
 refine aP (N:=49) Tryz.func45 rfl rfl rfl (fun W=>?_)
 refine aY (fun _ h=>dG h) (fun hE=>?_)
 have hE_nb:=hE.nb
 have hE_mb:=hE.mb
 have hE_tn:=hE.tn
 have hE_ln:=hE.ln
 have hE_mn:=hE.mn
 refine av (fun _ hK1=>ag rfl (cV rfl (bU 12 CJ rfl Dv rfl rfl (bK DC rfl (bu (v:=(.slice x.br x.m x.cr)) (.head _) (fun _ _=>rfl)) (ag rfl (tp rfl (ah (k':=r) Dx DP rfl rfl hE.okr (by omega) (by omega) (by omega)) ?_))))))
 refine bK DU rfl (ie (i:=r) (.head _) (by omega)) ?_
 refine aA rfl (td hK1 (av (fun _ hK2=>ag rfl (cV rfl (bU 3 Ds rfl CG rfl rfl ?_)))))
 refine ts (AV (i:=r) (o:=3) (z:={(s.rq.getD r Rq.z) with st:=1}) (by omega) rfl (by decide) rfl CG rfl rfl) ?_
 refine td hK2 (ai (fun _ hK3=>?_))
 have hq0:=hq r (by omega)
 have hq1:=oT s r 1 r
 have hq2:=sq s r 1 r
 refine aY (fun _ h=>dG h) (fun hE2=>?_)
 have hE2_nb:=hE2.nb
 have hE2_mb:=hE2.mb
 have hE2_tn:=hE2.tn
 have hE2_ln:=hE2.ln
 have hE2_mn:=hE2.mn
 refine bz (γ:=Unit) (n:=11) Tryz.mixed rfl rfl (fun _ S=>True) (fun _=>[(0,16,(vP e 0)),(1,17,(vP e 0)),(2,18,(vP e 17)),(3,19,(vP x.tn 0)),(4,20,(vN r)),(5,21,(vP (x.rs.getD r 0) 0)),(6,22,(vP (x.rs.getD r 0) 0)),(7,23,(vP (x.rs.getD r 0) 0)),(8,24,(vP (x.rs.getD r 0) 1)),(9,25,(vI (((s.setSt r 1).rq.getD r Rq.z).wt))),(10,26,(vI (hX ms (r:Int) (((s.setSt r 1).rq.getD r Rq.z).wt))))]) (fun _ S=>(bQ e x (s.setSt r 1))::(bif S 10 then (bF x.tn q (ir ms (r:Int) (((s.setSt r 1).rq.getD r Rq.z).wt)) ta) else (bF x.tn q ms ta))::R) (()) trivial (fun _ h=>h) (fun _ _ h=>h) ?_ ?_
 ·refine ⟨aU,bW,bL CJ rfl Tryz.sizeOf71,dB Tryz.isAgg71 rr rr fun _ _=>bu (v:=(vP x.tn 0)) (.head _) (fun _ _=>rfl),aU,aU,bW,bL Ds rfl Dj,bL Da rfl CG,?_,?_,trivial⟩
  ·rintro _ S hF hS D hp K hK;try dsimp only
   exact bH (bE hp 8 rfl rfl) (bP CH rfl (eB (i:=r) (v:=(vI (((s.setSt r 1).rq.getD r Rq.z).wt))) (.head _) (by omega) rfl)) 9 rfl rfl hS (hK () hF)
  ·rintro _ S hF hS D hp K hK
   try dsimp only at hF⊢
   refine bZ hp [19,20,25] rfl rfl ?_
   refine aE ?_
   refine c9 hS ?_
   refine bN Tryz.call75 rfl (yh (q:=q) (ms:=ms) (a:=ta) (r:Int) (((s.setSt r 1).rq.getD r Rq.z).wt) (by omega)) ?_
   rintro _ _ ⟨rfl,rfl⟩
   refine aE ?_
   exact cK hp hS (ti (hK () trivial)) rfl rfl rfl
 ·rintro _ hF
  try dsimp only at hF⊢
  refine az (E':=[(0,(vP e 0)),(1,(vN r)),(4,(vP (x.rs.getD r 0) 0))]) ⟨rfl,rfl,rfl,trivial⟩ ?_
  refine qn hK3 (ai (fun _ hK4=>?_))
  refine bz (γ:=Unit) (n:=12) Tryz.mixed rfl rfl (fun _ S=>True) (fun _=>[(0,27,(vP e 0)),(1,28,(vP e 0)),(2,29,(vP e 11)),(3,30,(.slice x.bt x.n x.ct)),(4,31,(vP (x.rs.getD r 0) 0)),(5,32,(vP (x.rs.getD r 0) 0)),(6,33,(vP (x.rs.getD r 0) 0)),(7,34,(vP (x.rs.getD r 0) 0)),(8,35,(vI (((s.setSt r 1).rq.getD r Rq.z).root))),(9,36,(.pointer (some (ad x.bt ((((s.setSt r 1).rq.getD r Rq.z).root).toNat))))),(10,37,(.pointer (some ⟨(x.ks.getD ((((s.setSt r 1).rq.getD r Rq.z).root).toNat) (0,0)).1,0,none⟩))),(11,5,(.pointer (some ⟨(x.ks.getD ((((s.setSt r 1).rq.getD r Rq.z).root).toNat) (0,0)).1,0,none⟩)))]) (fun _ S=>(bQ e x (s.setSt r 1))::(bF x.tn q (ir ms (r:Int) (((s.setSt r 1).rq.getD r Rq.z).wt)) ta)::R) (()) trivial (fun _ h=>h) (fun _ _ h=>h) ?_ ?_
  ·refine ⟨aU,bW,bL CJ rfl C9,dB Dc rr rr fun _ _=>bu (v:=(.slice x.bt x.n x.ct)) (.head _) (fun _ _=>rfl),aU,bW,bL Ds rfl Dj,bL Da rfl CG,?_,?_,?_,fh,trivial⟩
   ·rintro _ S hF hS D hp K hK;try dsimp only
    exact bH (bE hp 7 rfl rfl) (bP CH rfl (eB (i:=r) (v:=(vI (((s.setSt r 1).rq.getD r Rq.z).root))) (.head _) (by omega) rfl)) 8 rfl rfl hS (hK () hF)
   ·rintro _ S hF hS D hp K hK;try dsimp only
    exact bV (bE hp 3 rfl rfl) (bE hp 8 rfl rfl) (ah (k':=(((s.setSt r 1).rq.getD r Rq.z).root).toNat) C6 De rfl rfl hE.okt (by omega) (by omega) (by omega)) 9 rfl rfl hS (hK () hF)
   ·rintro _ S hF hS D hp K hK;try dsimp only
    exact bH (bE hp 9 rfl rfl) (bP Df rfl (dT (i:=(((s.setSt r 1).rq.getD r Rq.z).root).toNat) (.head _) (by omega))) 10 rfl rfl hS (hK () hF)
  ·rintro _ hF
   try dsimp only at hF⊢
   refine az (E':=[(0,(vP e 0)),(1,(vN r)),(4,(vP (x.rs.getD r 0) 0)),(5,(.pointer (some ⟨(x.ks.getD ((((s.setSt r 1).rq.getD r Rq.z).root).toNat) (0,0)).1,0,none⟩)))]) ⟨rfl,rfl,rfl,rfl,trivial⟩ ?_
   refine qn hK4 (av (fun _ hK5=>ag rfl (cV rfl (bU 2 CP rfl CU rfl rfl (bK CV rfl (bY (i:=((((s.setSt r 1).rq.getD r Rq.z).root).toNat)) (v:=(.pointer (some ⟨(x.ks.getD ((((s.setSt r 1).rq.getD r Rq.z).root).toNat) (0,0)).2,0,none⟩))) (.head _) (by omega) rfl) ?_)))))
   refine bN DF rfl (dK (i:=((((s.setSt r 1).rq.getD r Rq.z).root).toNat)) (by omega) (fun _=>fc _)) ?_
   rintro _ _ ⟨rfl,rfl⟩
   by_cases h1:((s.lf.getD ((((s.setSt r 1).rq.getD r Rq.z).root).toNat) Lf.z).st)=0
   ·refine tp rfl (aV rfl rfl (beq_iff_eq.2 h1)) (td hK5 (aG rfl (aj (ag rfl (cV rfl (bU 2 CP rfl CU rfl rfl (bK CV rfl (bY (i:=((((s.setSt r 1).rq.getD r Rq.z).root).toNat)) (v:=(.pointer (some ⟨(x.ks.getD ((((s.setSt r 1).rq.getD r Rq.z).root).toNat) (0,0)).2,0,none⟩))) (.head _) (by omega) rfl) ?_)))))))
    refine bN Tryz.call76 rfl (fj (i:=((((s.setSt r 1).rq.getD r Rq.z).root).toNat)) (y:=mj (s.lf.getD ((((s.setSt r 1).rq.getD r Rq.z).root).toNat) Lf.z)) (by omega) (fun h=>h.want) (fun h _=>sm _ h)) ?_
    rintro _ _ ⟨rfl,rfl⟩
    refine aI ?_
    refine fC rfl ?_
    exact ⟨rfl,by unfold oA ES.rt ES.stt;first|rw [if_pos ‹_›];rfl|rw [if_neg ‹_›];rfl⟩
   ·refine tp rfl (aV rfl rfl (beq_eq_false_iff_ne.2 h1)) (td hK5 (ar rfl (cS ?_)))
    refine fC rfl ?_
    exact ⟨rfl,by unfold oA ES.rt ES.stt;first|rw [if_pos ‹_›];rfl|rw [if_neg ‹_›];rfl⟩
end Go.Proofs.YtanfdikglplkaaaGreatDoor
