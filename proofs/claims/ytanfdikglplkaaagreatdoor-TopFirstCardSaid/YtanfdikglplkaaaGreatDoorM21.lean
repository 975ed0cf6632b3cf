/- Parts Gc, Ha: own lemmas and contracts of the code that the claim reaches. -/
import Derived.Test.YtanfdikglplkaaaGreatDoorM03
import Derived.Test.YtanfdikglplkaaaGreatDoorM04
import Derived.Test.YtanfdikglplkaaaGreatDoorM15
import Derived.Test.YtanfdikglplkaaaGreatDoorM09
import Derived.Test.YtanfdikglplkaaaGreatDoorM08
set_option linter.unusedSimpArgs false
set_option linter.unusedVariables false
set_option maxRecDepth 100000
namespace Go.Proofs.YtanfdikglplkaaaGreatDoor
open Go Go.Proofs Sp
theorem AQ{R:List HP}(m:Nat)(h0:m≠0)(hm:m<2^64)(hT:Tab R):
 Ok Tryz.prog 135 [(.int .u64 (m:Int))] R
  (fun v M=>v=.int .i64 ((Lib.ctz 64 m:Nat):Int)∧M=R):=by
 have hc:=qy h0 hm
 have hd:=Lib.deBruijn64_at _ hc
 refine aP (N:=14) Tryz.func135 rfl rfl rfl (fun W=>?_)
 refine av (fun _ hK1=>aA rfl (td hK1 (ai (fun _ hK2=>av (fun _ hK3=>ag rfl (tp rfl (aV rfl rfl (beq_eq_false_iff_ne.2 (by omega))) ?_))))))
 refine td hK3 (ar rfl (dp hK2 (av (fun K4 hK4=>ag rfl (ag rfl (tp rfl (Bc rfl (Ay h0 hm)) ?_))))))
 refine tp rfl (jM (c:=((2^Lib.ctz 64 m:Nat):Int)) rfl rfl (zz h0 hm)) (tp rfl (jB (c:=((2^Lib.ctz 64 m*285870213051353865%18446744073709551616:Nat):Int)) rfl rfl (Ax _)) (tp rfl (j4 (c:=((2^Lib.ctz 64 m*285870213051353865%18446744073709551616/288230376151711744:Nat):Int)) rfl rfl (by decide) (A5 _)) ?_))
 refine tp rfl (rF (k':=2^Lib.ctz 64 m*285870213051353865%18446744073709551616/288230376151711744) Tryz.underlying218 Tryz.sizeOf5 rfl rfl (Int.natCast_nonneg _) (Int.ofNat_lt.2 hd.1) (by rw [Nat.mul_one,Int.toNat_natCast])) ?_
 refine bK Tryz.isAgg5 rfl (hT (2^Lib.ctz 64 m*285870213051353865%18446744073709551616/288230376151711744) hd.1) (tp rfl (gy (c:=((Lib.ctz 64 m:Nat):Int)) Tryz.underlying5 C4 rfl (by rw [hd.2];exact cA (by omega) (by omega))) ?_)
 refine aA rfl (td hK4 (ay ?_))
 refine aM rfl rfl ?_
 exact ⟨rfl,rfl⟩
set_option maxHeartbeats 4000000 in
theorem uk{R:List HP}{p N:Nat}{es:Es}(a:Nat)(ha:a<N)(hT:Tab R):
 Ok Tryz.prog 134 [(vP p 0),(vN a)] ((aT p N es)::R)
  (fun v M=> ∃m:Nat,m<2^64∧(∀i:Nat,m.testBit i=true↔Rch es (a:Int) (i:Int))∧v=.int .u64 (m:Int)∧M=aT p N es::R):=by
 refine aP (N:=29) Tryz.func134 rfl rfl rfl (fun W=>?_)
 refine aY (fun _ h=>fH h) (fun hgok=>?_)
 have hsmall:=hgok.small
 refine av (fun _ hK1=>aA rfl (td hK1 (ai (fun _ hK2=>?_))))
 refine bz (γ:=Unit) (n:=4) Tryz.mixed rfl rfl (fun _ S=>True) (fun _=>[(0,8,(vN a)),(1,9,(.int .u64 ((2^a:Nat):Int))),(2,5,(.int .u64 0)),(3,6,(.int .u64 ((2^a:Nat):Int)))]) (fun _ S=>(aT p N es)::R) (()) trivial (fun _ h=>h) (fun _ _ h=>h) ?_ ?_
 ·refine ⟨aU,?_,fh,fh,trivial⟩
  ·intro _ S h s D p K k;exact bH (bE p 0 rfl rfl) (tj (c:=((2^a:Nat):Int)) rfl rfl (by omega) (r8 a (by omega))) 1 rfl rfl s (k () h)
 ·rintro _ hF
  try dsimp only at hF⊢
  refine az (E':=[(0,(vP p 0)),(1,(vN a)),(4,(.int .u64 0)),(5,(.int .u64 0)),(6,(.int .u64 ((2^a:Nat):Int)))]) ⟨rfl,rfl,rfl,rfl,rfl,trivial⟩ ?_
  refine qn hK2 (ai (fun _ hK3=>aH ?_))
  refine cE (γ:=(Nat)×(Nat)) (fun (s,o)=>RInv N es a s o) (fun (s,o)=>[(0,(vP p 0)),(5,(.int .u64 (s:Int))),(6,(.int .u64 (o:Int)))]) (fun (s,o)=>(aT p N es)::R) (fun (s,o)=>qE s) (0,2^a) (RInv.init a (by omega)) ⟨rfl,rfl,rfl,trivial⟩ (fun _ h=>h) ?_
  rintro ⟨s,o⟩ K4 hF hK4
  try dsimp only at hF hK4⊢
  have hsl:=hF.sl
  have hol:=hF.ol
  refine ai (fun _ hK5=>av (fun K6 hK6=>ag rfl ?_))
  by_cases hz:(o:Int)=0
  ·refine tp rfl (cG rfl rfl (bne_eq_false_iff_eq.2 hz)) (td hK6 (ar rfl (bT (au (au (bS (qn hK3 (ai (fun _ hK7=>?_)))))))))
   refine aj (ag rfl (aA rfl (td hK7 (ay ?_))))
   refine aM rfl rfl ?_
   exact ⟨s,hF.sl,(by have e:o=0:=(by omega);subst e;exact hF.done hgok),rfl,rfl⟩
  ·refine tp rfl (cG rfl rfl (bne_iff_ne.2 hz)) (td hK6 (aG rfl (dp hK5 (aH (av (fun _ hK7=>?_))))))
   have h0:o≠0:=by intro e;subst e;exact absurd rfl ‹_›
   have hcx:=qy h0 hol
   have hcN:Lib.ctz 64 o<N:=by have:=(hF.reach _ (.inr (qG h0 hol))).inn hgok ⟨by omega,by omega⟩;omega
   have hwl:=uj s _ hcx hsl
   have hml:=hgok.mask_lt ((Lib.ctz 64 o:Nat):Int)
   refine ag rfl ?_
   refine bN Tryz.call135 rfl (AQ o h0 hol (Tab.cons hT)) ?_
   rintro _ _ ⟨rfl,rfl⟩
   refine aA rfl (td hK7 (av (fun _ hK8=>ag rfl (ag rfl ?_))))
   refine bN Tryz.call150 rfl (tX s (Lib.ctz 64 o) hcx hsl) ?_
   rintro _ _ ⟨rfl,rfl⟩
   refine aA rfl (td hK8 (aj (ag rfl ?_)))
   obtain ⟨o2,ho2,ho2l,ho2b⟩:=sM (o |||fL (cP es ((Lib.ctz 64 o:Nat):Int))) (s |||2^Lib.ctz 64 o) (Nat.or_lt_two_pow hol hml) hwl
   have hst:=hF.step hgok h0 ho2b
   refine jj (fun bo co bi ci bt ct vo vi hG=>?_)
   have gsm:=hG.ok.small
   have glo:=hG.lo
   have gli:=hG.li
   have gml:=eC N es
   refine ag rfl (cV rfl (bU 2 Do rfl D9 rfl rfl (bK Ea rfl (aa (.head _) rfl) (ag rfl (tp rfl (ah (k':=Lib.ctz 64 o) DX DY rfl rfl hG.okt (by omega) (by omega) (by omega)) ?_)))))
   refine bK Ei rfl (dh (by rw [ic (by omega)]) (aw (.tail _ (.tail _ (.tail _ (.head _)))) (aQ (by first|omega| (simp;omega))))) ?_
   refine tp rfl (yd (c:=((o |||fL (cP es ((Lib.ctz 64 o:Nat):Int)):Nat):Int)) rfl rfl (uq o _ hol hml)) (ag rfl (tp rfl (wM (c:=(o2:Int)) rfl rfl ho2) (aA rfl (aI (aZ (aN (cN (cN (cN ?_)))))))))
   refine cN (cN (cN ?_))
   refine iw hG ?_
   exact az (by exact ⟨rfl,rfl,rfl,trivial⟩) ((hK4 (s |||2^Lib.ctz 64 o,o2) hst.1 hst.2))
set_option maxHeartbeats 4000000 in
theorem z6{R:List HP}{p N:Nat}{es:Es}(a:Nat)(ha:a<N)(hT:Tab R):
 Ok Tryz.prog 93 [(vP p 0),(vN a)] ((aT p N es)::R)
  (dZ 3 1 (cw N es (a:Int)).length (aF .i64 (cw N es (a:Int))) (aT p N es::R)):=by
 refine aP (N:=26) Tryz.func93 rfl rfl rfl (fun W=>?_)
 refine aY (fun _ h=>fH h) (fun hgok=>?_)
 refine av (fun _ hK1=>aA rfl (td hK1 (ai (fun _ hK2=>av (fun _ hK3=>ag rfl (ag rfl ?_))))))
 refine tm rfl (aD (cs:=[(vN a)]) CI CG CN (by decide) rfl rfl rfl rfl) ?_
 rintro _ _ ⟨bs1,cp2,hok3,hle4,rfl,rfl⟩
 refine aE ?_
 refine bN DB rfl (fy (N:=N) (es:=es) [(a:Int)] (nR ha) (cj (.head _)) hok3 (by simp)) ?_
 rintro _ _ ⟨rfl,rfl⟩
 refine tp rfl (dy (c:=false) rfl rfl) (td hK3 (ar rfl (dp hK2 (ai (fun K4 hK4=>av (fun _ hK5=>ag rfl ?_))))))
 refine ag rfl ?_
 refine bN Tryz.call134 rfl (uk (N:=N) (es:=es) a (by omega) (Tab.cons hT)) ?_
 rintro _ _ ⟨m,hm1,hm2,rfl,rfl⟩
 refine aA rfl (td hK5 (aH ?_))
 refine bO (fun _ h=>cz 3 1 h) ?_
 refine cE (γ:=(Nat)×(List Int)×(Option Addr)×(Nat)) (fun (r,xs,bs,cp)=>r<2^64∧ja m=xs++ja r∧bB bs xs.length∧xs.length≤cp) (fun (r,xs,bs,cp)=>[(0,(vP p 0)),(4,(.slice bs xs.length cp)),(5,(.int .u64 (r:Int)))]) (fun (r,xs,bs,cp)=>(SlV 3 1 (.slice bs xs.length cp) xs.length (aF .i64 xs))::(aT p N es)::(SlV 3 1 (.slice bs1 1 cp2) 1 [(vN a)])::R) (fun (r,xs,bs,cp)=>r) (m,[],none,0) ⟨‹_›,rfl,cn,Nat.le_refl _⟩ ⟨rfl,rfl,rfl,trivial⟩ (fun _ h=>h) ?_
 rintro ⟨r,xs,bs,cp⟩ K6 hF hK6
 try dsimp only at hF hK6⊢
 obtain ⟨hrl,hall,hok,hle⟩:=hF
 have hxl:xs.length≤64:=by have h1:=sP m;have h2:=congrArg List.length hall;rw [List.length_append] at h2;omega
 refine ai (fun _ hK7=>av (fun _ hK8=>ag rfl ?_))
 by_cases h5:(r:Int)=0
 ·refine tp rfl (cG rfl rfl (bne_eq_false_iff_eq.2 h5)) (td hK8 (ar rfl (bT (au (au (bS (qn hK4 (ai (fun _ hK9=>?_)))))))))
  refine aj (ag rfl (aA rfl (td hK9 (ay (aR (ak ?_))))))
  refine aM rfl rfl ?_
  have e:r=0:=(by omega)
  subst e
  rw [sB,List.append_nil] at hall
  rw [←qK hgok ha hm2,hall]
  exact ⟨_,_,hok,hle,rfl,rfl⟩
 ·refine tp rfl (cG rfl rfl (bne_iff_ne.2 h5)) (td hK8 (aG rfl (dp hK7 (ai (fun _ hK9=>aH (aj ?_))))))
  have h0:r≠0:=by intro e;subst e;exact absurd rfl ‹_›
  obtain ⟨r2,hr2,hr2l,hr2b⟩:=zv h0 hrl
  have hstep:=rQ h0 hrl hr2b
  refine ag rfl (ag rfl ?_)
  refine bN Tryz.call135 rfl (AQ r h0 hrl (Tab.cons (Tab.cons (Tab.cons hT)))) ?_
  rintro _ _ ⟨rfl,rfl⟩
  refine tm rfl (aD (cs:=[(vI ((Lib.ctz 64 r:Nat):Int))]) CI CG CN (by decide) rfl rfl rfl rfl) ?_
  rintro _ _ ⟨bs6,cp7,hok8,hle9,rfl,rfl⟩
  refine aE ?_
  refine tm rfl (cR (i:=Tryz.t3) CI C1 rfl rfl rfl (by decide) rfl rfl hok8 (by first| (simp;done)| (simp;omega)) (cj (.tail _ (.head _))) (by simp [Value.oneCell']) (by rw [show Tryz.t3.bytes=8 from rfl];omega)) ?_
  rintro _ _ ⟨bs10,cp11,hok12,hle13,rfl,rfl⟩
  rw [show aF .i64 xs++[(.int .i64 ((Lib.ctz 64 r:Nat):Int))]=aF .i64 (xs++[((Lib.ctz 64 r:Nat):Int)]) from dW _ _ _]
  refine aA rfl (aI (aZ (qn hK9 (aj (ag rfl (ag rfl (tp rfl (eR (c:=IntKind.u64.wrap ((r:Int)-1)) rfl rfl rfl) (tp rfl (jM (c:=(r2:Int)) rfl rfl hr2) (aA rfl ?_)))))))))
  refine aI (aN (aE (ak ?_)))
  have hlen:xs.length+1=(xs++[((Lib.ctz 64 r:Nat):Int)]).length:=by simp
  have hok':=hok12
  have hle':=hle13
  rw [hlen] at hok' hle'⊢
  exact az (by exact ⟨rfl,rfl,rfl,trivial⟩) ((hK6 (r2,xs++[((Lib.ctz 64 r:Nat):Int)],bs10,cp11) ⟨by omega,by rw [hall,hstep];simp,hok',hle'⟩ (by omega)))
theorem AI{R:List HP}{p N:Nat}{es:Es}(a:Int)(hv:fN N [a]=false)(hv':valid N a=false):
 Ok Tryz.prog 93 [(vP p 0),(vI a)] ((aT p N es)::R)
  (dZ 3 1 (cw N es a).length (aF .i64 (cw N es a)) (aT p N es::R)):=by
 refine aP (N:=26) Tryz.func93 rfl rfl rfl (fun W=>?_)
 refine aY (fun _ h=>fH h) (fun hgok=>?_)
 refine av (fun _ hK1=>aA rfl (td hK1 (ai (fun _ hK2=>av (fun _ hK3=>ag rfl (ag rfl ?_))))))
 refine tm rfl (aD (cs:=[(vI a)]) CI CG CN (by decide) rfl rfl rfl rfl) ?_
 rintro _ _ ⟨bs1,cp2,hok3,hle4,rfl,rfl⟩
 refine aE ?_
 refine bN DB rfl (fy (N:=N) (es:=es) [a] hv (cj (.head _)) hok3 (by simp)) ?_
 rintro _ _ ⟨rfl,rfl⟩
 refine tp rfl (dy (c:=true) rfl rfl) (td hK3 (aG rfl (av (fun K4 hK4=>aA rfl (td hK4 (ay ?_))))))
 refine aK ?_
 refine bO (fun _ h=>cz 3 1 h) ?_
 refine aR (ak ?_)
 refine aM rfl rfl ?_
 rw [show cw N es a=[] from by unfold cw;rw [hv'];rfl]
 exact ⟨none,0,cn,Nat.le_refl _,rfl,rfl⟩
theorem za{R:List HP}{p N:Nat}{es:Es}(a:Int)(hT:Tab R):Ok Tryz.prog 93 [(.pointer (some ⟨p,0,none⟩)),(.int .i64 a)] (aT p N es::R)
 (dZ 3 1 (cw N es a).length (aF .i64 (cw N es a)) (aT p N es::R)):=by
 rcases jK N a with ⟨k,hk,rfl⟩| ⟨h1,h2⟩
 ·exact z6 k hk hT
 ·exact AI a h1 h2
theorem wQ{R:List HP}{p N:Nat}{es:Es}(a b:Nat)(ha:a<N)(hb:b<N)(hT:Tab R):
 Ok Tryz.prog 103 [(vP p 0),(vN a),(vN b)] ((aT p N es)::R)
  (fun v M=>v=.bool (cQ N es (a:Int) (b:Int))∧M=aT p N es::R):=by
 refine aP (N:=19) Tryz.func103 rfl rfl rfl (fun W=>?_)
 refine aY (fun _ h=>fH h) (fun hgok=>?_)
 have hsmall:=hgok.small
 refine av (fun _ hK1=>aA rfl (td hK1 (av (fun _ hK2=>ag rfl (ag rfl (ag rfl ?_))))))
 refine tm rfl (aD (cs:=[(vN a),(vN b)]) CI CG CN (by decide) rfl rfl rfl rfl) ?_
 rintro _ _ ⟨bs1,cp2,hok3,hle4,rfl,rfl⟩
 refine aE ?_
 refine bN DB rfl (fy (N:=N) (es:=es) [(a:Int),(b:Int)] (lP ha hb) (cj (.head _)) hok3 (by simp)) ?_
 rintro _ _ ⟨rfl,rfl⟩
 refine ag rfl ?_
 refine ae rfl rfl ?_
 refine ag rfl ?_
 refine ae rfl rfl ?_
 refine ag rfl ?_
 refine ae rfl rfl ?_
 refine bN Tryz.call134 rfl (uk (N:=N) (es:=es) a (by omega) (Tab.cons hT)) ?_
 rintro _ _ ⟨m,hm1,hm2,rfl,rfl⟩
 refine ae rfl rfl ?_
 refine ag rfl ?_
 refine ae rfl rfl ?_
 refine bN Tryz.call112 rfl (q9 m b (by omega) hm1) ?_
 rintro _ _ ⟨rfl,rfl⟩
 refine tp rfl (aL rfl rfl) (aA rfl (td hK2 (ay (aE (ak ?_)))))
 refine aM rfl rfl ?_
 exact ⟨by rw [show m.testBit b=cQ N es (a:Int) (b:Int) from by unfold cQ;rw [ek ha,ek hb,Bool.and_self,Bool.true_and,Bool.eq_iff_iff,rch_iff];exact hm2 b],rfl⟩
theorem wJ{R:List HP}{p N:Nat}{es:Es}(a b:Int)(hv:fN N [a,b]=false)(hv':(valid N a && valid N b)=false):
 Ok Tryz.prog 103 [(vP p 0),(vI a),(vI b)] ((aT p N es)::R)
  (fun v M=>v=.bool (cQ N es a b)∧M=aT p N es::R):=by
 refine aP (N:=19) Tryz.func103 rfl rfl rfl (fun W=>?_)
 refine av (fun _ hK1=>aA rfl (td hK1 (av (fun _ hK2=>ag rfl (ag rfl (ag rfl ?_))))))
 refine tm rfl (aD (cs:=[(vI a),(vI b)]) CI CG CN (by decide) rfl rfl rfl rfl) ?_
 rintro _ _ ⟨bs1,cp2,hok3,hle4,rfl,rfl⟩
 refine aE ?_
 refine bN DB rfl (fy (N:=N) (es:=es) [a,b] hv (cj (.head _)) hok3 (by simp)) ?_
 rintro _ _ ⟨rfl,rfl⟩
 refine ag rfl ?_
 refine aq rfl rfl rfl ?_
 refine aq rfl rfl rfl ?_
 refine aq rfl rfl rfl ?_
 refine aq rfl rfl rfl ?_
 refine aq rfl rfl rfl ?_
 refine tp rfl (aC rfl rfl) (aA rfl (td hK2 (ay (aE (ak ?_)))))
 refine aM rfl rfl ?_
 exact ⟨by rw [show cQ N es a b=false from by unfold cQ;rw [hv'];rfl],rfl⟩
theorem sN{R:List HP}{p N:Nat}{es:Es}(a b:Int)(hT:Tab R):Ok Tryz.prog 103 [(.pointer (some ⟨p,0,none⟩)),(.int .i64 a),(.int .i64 b)] (aT p N es::R)
 (fun v M=>v=.bool (cQ N es a b)∧M=aT p N es::R):=by
 rcases jL N a b with ⟨k,m,hk,hm,rfl,rfl⟩| ⟨h1,h2⟩
 ·exact wQ k m hk hm hT
 ·exact wJ a b h1 h2
set_option maxHeartbeats 4000000 in
theorem new_ok{R:List HP}(n:Int):
 Ok Tryz.prog 35 [(vI n)] R
  (fun v M=> ∃p,v=.pointer (some ⟨p,0,none⟩)∧M=aT p (cT n) ([]:Es)::R):=by
 have hcl:cT n≤64:=by unfold cT;omega
 have hce:min (max n 0) 64=((cT n:Nat):Int):=by unfold cT;omega
 refine aP (N:=14) Tryz.func35 rfl rfl rfl (fun W=>?_)
 refine av (fun _ hK1=>aA rfl (td hK1 (av (fun _ hK2=>ag rfl (tp rfl (fm (c:=max n 0) rfl rfl rfl) (tp rfl (hO (c:=((cT n:Nat):Int)) rfl rfl hce) ?_))))))
 refine aA rfl (td hK2 (ai (fun _ hK3=>?_)))
 refine bz (γ:=Option Addr×Nat×Option Addr×Nat×Option Addr×Nat×Nat) (n:=9) Tryz.mixed rfl rfl (fun (bs1,cp2,bs5,cp6,bs9,cp10,b13) S=>(S 1=true→bB bs1 (cT n))∧(S 1=true→cT n≤cp2)∧(S 3=true→bB bs5 (cT n))∧(S 3=true→cT n≤cp6)∧(S 5=true→bB bs9 (cT n))∧(S 5=true→cT n≤cp10)) (fun (bs1,cp2,bs5,cp6,bs9,cp10,b13)=>[(0,6,(vI ((cT n:Nat):Int))),(1,7,(.slice bs1 (cT n) cp2)),(2,8,(vI ((cT n:Nat):Int))),(3,9,(.slice bs5 (cT n) cp6)),(4,10,(vI ((cT n:Nat):Int))),(5,11,(.slice bs9 (cT n) cp10)),(6,12,(.agg #[(.slice bs1 (cT n) cp2),(.slice bs5 (cT n) cp6),(.slice bs9 (cT n) cp10),(vI 0)])),(7,13,(vP b13 0)),(8,2,(vP b13 0))]) (fun (bs1,cp2,bs5,cp6,bs9,cp10,b13) S=>(bif S 1 then (SlV 34 1 (.slice bs1 (cT n) cp2) (cT n) (List.replicate (cT n) (.slice none 0 0))) else ib)::(bif S 3 then (SlV 34 1 (.slice bs5 (cT n) cp6) (cT n) (List.replicate (cT n) (.slice none 0 0))) else ib)::(bif S 5 then (SlV 166 1 (.slice bs9 (cT n) cp10) (cT n) (aF .u64 (List.replicate (cT n) 0))) else ib)::(bif S 7 then (bI b13 [(.slice bs1 (cT n) cp2),(.slice bs5 (cT n) cp6),(.slice bs9 (cT n) cp10),(vI 0)] 126) else ib)::R) (none,0,none,0,none,0,0) (by simp [Nat.ble]) (fun _ h=>ef [] 4 h) (fun _ _ h=>h) ?_ ?_
 ·refine ⟨ga fun ⟨_,_,_,_,_,_,_⟩=>da,?_,ga fun ⟨_,_,_,_,_,_,_⟩=>da,?_,ga fun ⟨_,_,_,_,_,_,_⟩=>da,?_,?_,?_,ga fun ⟨_,_,_,_,_,_,_⟩=>kj,trivial⟩
  ·rintro ⟨bs1,cp2,bs5,cp6,bs9,cp10,b13⟩ S hF hS D hp K hK
   try dsimp only at hF⊢
   obtain ⟨hf0,hf1,hf2,hf3,hf4,hf5⟩:=hF
   refine bZ hp [6] rfl rfl ?_
   refine tm rfl (eP (i:=Tryz.t34) DJ Tryz.type34 rfl rfl rfl rfl rfl (by omega) (by rw [show Tryz.t34.bytes=24 from rfl];omega) (by omega)) ?_
   rintro _ _ ⟨bs1,cp2,hok3,hle4,rfl,rfl⟩
   refine de ?_
   refine c9 (nf (nf hS D (k:=6) (i:=1) rfl) D (k:=7) (i:=6) rfl) ?_
   refine fG (A:=(bI b13 [(.slice bs1 (cT n) cp2),(.slice bs5 (cT n) cp6),(.slice bs9 (cT n) cp10),(vI 0)] 126)) (nf (nf hS D (k:=6) (i:=1) rfl) D (k:=7) (i:=6) rfl) ?_
   refine de (de (de (de ?_)))
   refine bO (fun _ h=>cX [] h) ?_
   exact cK hp hS (ti (hK (bs1,cp2,bs5,cp6,bs9,cp10,b13) ⟨(fun _=>hok3),(fun _=>hle4),hf2,hf3,hf4,hf5⟩)) rfl rfl rfl
  ·rintro ⟨bs1,cp2,bs5,cp6,bs9,cp10,b13⟩ S hF hS D hp K hK
   try dsimp only at hF⊢
   obtain ⟨hf0,hf1,hf2,hf3,hf4,hf5⟩:=hF
   refine bZ hp [8] rfl rfl ?_
   refine tm rfl (eP (i:=Tryz.t34) DJ Tryz.type34 rfl rfl rfl rfl rfl (by omega) (by rw [show Tryz.t34.bytes=24 from rfl];omega) (by omega)) ?_
   rintro _ _ ⟨bs5,cp6,hok7,hle8,rfl,rfl⟩
   refine de ?_
   refine c9 (nf (nf hS D (k:=6) (i:=3) rfl) D (k:=7) (i:=6) rfl) ?_
   refine fG (A:=(bI b13 [(.slice bs1 (cT n) cp2),(.slice bs5 (cT n) cp6),(.slice bs9 (cT n) cp10),(vI 0)] 126)) (nf (nf hS D (k:=6) (i:=3) rfl) D (k:=7) (i:=6) rfl) ?_
   refine de (de (de (de ?_)))
   refine bO (fun _ h=>cX [_] h) ?_
   exact cK hp hS (ti (hK (bs1,cp2,bs5,cp6,bs9,cp10,b13) ⟨hf0,hf1,(fun _=>hok7),(fun _=>hle8),hf4,hf5⟩)) rfl rfl rfl
  ·rintro ⟨bs1,cp2,bs5,cp6,bs9,cp10,b13⟩ S hF hS D hp K hK
   try dsimp only at hF⊢
   obtain ⟨hf0,hf1,hf2,hf3,hf4,hf5⟩:=hF
   refine bZ hp [10] rfl rfl ?_
   refine tm rfl (eP (i:=Tryz.t166) DX Tryz.type166 rfl rfl rfl rfl rfl (by omega) (by rw [show Tryz.t166.bytes=8 from rfl];omega) (by omega)) ?_
   rintro _ _ ⟨bs9,cp10,hok11,hle12,rfl,rfl⟩
   rw [iX]
   refine de ?_
   refine c9 (nf (nf hS D (k:=6) (i:=5) rfl) D (k:=7) (i:=6) rfl) ?_
   refine fG (A:=(bI b13 [(.slice bs1 (cT n) cp2),(.slice bs5 (cT n) cp6),(.slice bs9 (cT n) cp10),(vI 0)] 126)) (nf (nf hS D (k:=6) (i:=5) rfl) D (k:=7) (i:=6) rfl) ?_
   refine de (de (de (de ?_)))
   refine bO (fun _ h=>cX [_,_] h) ?_
   exact cK hp hS (ti (hK (bs1,cp2,bs5,cp6,bs9,cp10,b13) ⟨hf0,hf1,hf2,hf3,(fun _=>hok11),(fun _=>hle12)⟩)) rfl rfl rfl
  ·rintro ⟨bs1,cp2,bs5,cp6,bs9,cp10,b13⟩ S hF hS D hp K hK
   try dsimp only at hF⊢
   obtain ⟨hf0,hf1,hf2,hf3,hf4,hf5⟩:=hF
   have s1:=hp 1 rfl
   have hok3:=hf0 s1
   have hle4:=hf1 s1
   have s3:=hp 3 rfl
   have hok7:=hf2 s3
   have hle8:=hf3 s3
   have s5:=hp 5 rfl
   have hok11:=hf4 s5
   have hle12:=hf5 s5
   refine bZ hp [7,9,11] rfl rfl ?_
   refine tp rfl (bG (cs:=[(.slice bs1 (cT n) cp2),(.slice bs5 (cT n) cp6),(.slice bs9 (cT n) cp10),(vI 0)]) (pl:=[(0,1),(1,1),(2,1),(3,1)]) Do Tryz.zeroValue126 (fun _=>by simp) rfl rfl) ?_
   exact cK hp hS (ti (hK (bs1,cp2,bs5,cp6,bs9,cp10,b13) ⟨hf0,hf1,hf2,hf3,hf4,hf5⟩)) rfl rfl rfl
  ·rintro ⟨bs1,cp2,bs5,cp6,bs9,cp10,b13⟩ S hF hS D hp K hK
   try dsimp only at hF⊢
   obtain ⟨hf0,hf1,hf2,hf3,hf4,hf5⟩:=hF
   have s6:=hp 6 rfl
   have s1:=D 6 1 rfl s6
   have hok3:=hf0 s1
   have hle4:=hf1 s1
   have s3:=D 6 3 rfl s6
   have hok7:=hf2 s3
   have hle8:=hf3 s3
   have s5:=D 6 5 rfl s6
   have hok11:=hf4 s5
   have hle12:=hf5 s5
   refine bZ hp [12] rfl rfl ?_
   refine tm rfl (cZ rfl rfl) ?_
   rintro _ _ ⟨b13,rfl,rfl⟩
   refine bO (fun _ h=>cX [_,_,_] h) ?_
   exact cK hp hS (ti (hK (bs1,cp2,bs5,cp6,bs9,cp10,b13) ⟨hf0,hf1,hf2,hf3,hf4,hf5⟩)) rfl rfl rfl
 ·rintro ⟨bs1,cp2,bs5,cp6,bs9,cp10,b13⟩ hF
  try dsimp only at hF⊢
  obtain ⟨hf0,hf1,hf2,hf3,hf4,hf5⟩:=hF
  have hok3:=hf0 rfl
  have hle4:=hf1 rfl
  have hok7:=hf2 rfl
  have hle8:=hf3 rfl
  have hok11:=hf4 rfl
  have hle12:=hf5 rfl
  refine az (E':=[(0,(vI ((cT n:Nat):Int))),(2,(vP b13 0))]) ⟨rfl,rfl,trivial⟩ ?_
  refine qn hK3 (ay (aR (aR (aR (aS ?_)))))
  refine bO (fun _ h=>xf (by omega) hok3 hok7 hok11 h) ?_
  refine aM rfl rfl ?_
  exact ⟨_,rfl,rfl⟩
end Go.Proofs.YtanfdikglplkaaaGreatDoor
set_option maxRecDepth 100000
namespace Go.Proofs.YtanfdikglplkaaaGreatDoor
open Go Go.Proofs Sp
theorem oD(v:Value)(args:Array Value)(w:World):(callMethod (.iface 178 v) "Len" args).run Tryz.prog w=.ok (.enter 198 (#[v]++args)) w:=by kernel_rfl
theorem jv(v:Value)(args:Array Value)(w:World):(callMethod (.iface 178 v) "Less" args).run Tryz.prog w=.ok (.enter 199 (#[v]++args)) w:=by kernel_rfl
theorem iK(v:Value)(args:Array Value)(w:World):(callMethod (.iface 178 v) "Swap" args).run Tryz.prog w=.ok (.enter 202 (#[v]++args)) w:=by kernel_rfl
theorem wz(v:Value)(args:Array Value)(w:World):(callMethod (.iface 178 v) "Push" args).run Tryz.prog w=.ok (.enter 201 (#[v]++args)) w:=by kernel_rfl
theorem lX(v:Value)(args:Array Value)(w:World):(callMethod (.iface 178 v) "Pop" args).run Tryz.prog w=.ok (.enter 200 (#[v]++args)) w:=by kernel_rfl
theorem qJ{R:List HP}{p n:Nat}{l Kk:List Int}:
 Ok Tryz.prog 198 [(vP p 0)] ((eK p n l Kk)::R)
  (fun v M=>v=.int .i64 (l.length:Int)∧M=eK p n l Kk::R):=by
 refine aP (N:=8) Tryz.func198 rfl rfl rfl (fun W=>?_)
 refine gp (fun at1 bs2 cp3 bs4 cp5 bs6 cp7 hR8=>?_)
 have hal:=hR8.ato.len
 have hkl:=hR8.lk
 have hbg:=hR8.big
 have hll:=hR8.hi.le
 have hcl:=hR8.cpl
 refine av (fun _ hK1=>aA rfl (td hK1 (av (fun _ hK2=>ag rfl (cV rfl (bU 0 CS rfl CK rfl rfl ?_))))))
 refine bK CL rfl (aa (.head _) rfl) (tp rfl (bC CI rfl rfl) (aA rfl (td hK2 (ay (aS (aS (aS (aS ?_))))))))
 refine eZ rfl hR8 ?_
 refine aM rfl rfl ?_
 exact ⟨rfl,rfl⟩
set_option maxHeartbeats 4000000 in
theorem kh{R:List HP}{p n:Nat}{l Kk:List Int}(i k:Nat)(hi:i<l.length)(hk:k<l.length):
 Ok Tryz.prog 199 [(vP p 0),(vN i),(vN k)] ((eK p n l Kk)::R)
  (fun v M=>v=.bool (decide (LtK Kk (l.getD i 0) (l.getD k 0)))∧M=eK p n l Kk::R):=by
 refine aP (N:=60) Tryz.func199 rfl rfl rfl (fun W=>?_)
 refine gp (fun at1 bs2 cp3 bs4 cp5 bs6 cp7 hR8=>?_)
 have hal:=hR8.ato.len
 have hkl:=hR8.lk
 have hbg:=hR8.big
 have hll:=hR8.hi.le
 have hcl:=hR8.cpl
 have hbi:=hR8.hi.bd i hi
 have hbk:=hR8.hi.bd k hk
 refine av (fun _ hK1=>aA rfl (td hK1 (ai (fun _ hK2=>?_))))
 refine bz (γ:=Unit) (n:=16) Tryz.mixed rfl rfl (fun _ S=>True) (fun _=>[(0,9,(vP p 0)),(1,10,(vP p 0)),(2,11,(vP p 0)),(3,12,(.slice bs2 l.length cp3)),(4,13,(vN i)),(5,14,(.pointer (some (ad bs2 i)))),(6,15,(vI ((l).getD i 0))),(7,16,(vP p 0)),(8,17,(vP p 0)),(9,18,(vP p 0)),(10,19,(.slice bs2 l.length cp3)),(11,20,(vN k)),(12,21,(.pointer (some (ad bs2 k)))),(13,22,(vI ((l).getD k 0))),(14,7,(vI ((l).getD i 0))),(15,8,(vI ((l).getD k 0)))]) (fun _ S=>(bI p [(.slice bs2 l.length cp3),(.slice bs4 n cp5),(.slice bs6 n cp7)] 173)::(SlV 3 1 (.slice bs2 l.length cp3) l.length (aF .i64 l))::(SlV 3 1 (.slice bs4 n cp5) n (aF .i64 at1))::(SlV 3 1 (.slice bs6 n cp7) n (aF .i64 Kk))::R) (()) trivial (fun _ h=>h) (fun _ _ h=>h) ?_ ?_
 ·refine ⟨aU,bW,bL CS rfl CK,db CL fun _ _=>aa (.head _) rfl,aU,eJ CI CG rr rr rr fun _=>⟨hR8.okl,by omega,by omega,by omega⟩,dB CH rr rr fun _ _=>aw (.tail _ (.head _)) (aQ (by omega)),aU,bW,bL CS rfl CK,db CL fun _ _=>aa (.head _) rfl,aU,?_,dB CH rr rr fun _ _=>aw (.tail _ (.head _)) (aQ (by omega)),fh,fh,trivial⟩
  ·rintro _ S hF hS D hp K hK;try dsimp only
   exact bV (bE hp 10 rfl rfl) (bE hp 11 rfl rfl) (ah (k':=k) CI CG rfl rfl hR8.okl (by omega) (by omega) (by omega)) 12 rfl rfl hS (hK () hF)
 ·rintro _ hF
  try dsimp only at hF⊢
  refine az (E':=[(0,(vP p 0)),(1,(vN i)),(2,(vN k)),(6,(.bool false)),(7,(vI ((l).getD i 0))),(8,(vI ((l).getD k 0)))]) ⟨rfl,rfl,rfl,rfl,rfl,rfl,trivial⟩ ?_
  refine qn hK2 (ai (fun _ hK3=>?_))
  by_cases h9:((Kk).getD (((l).getD i 0).toNat) 0)< ((Kk).getD (((l).getD k 0).toNat) 0)
  ·refine bz (γ:=Unit) (n:=38) Tryz.mixed rfl rfl (fun _ S=>True) (fun _=>[(0,23,(vP p 0)),(1,24,(vP p 0)),(2,25,(vP p 2)),(3,26,(.slice bs6 n cp7)),(4,27,(vI ((l).getD i 0))),(5,28,(.pointer (some (ad bs6 (((l).getD i 0).toNat))))),(6,29,(vI ((Kk).getD (((l).getD i 0).toNat) 0))),(7,30,(vP p 0)),(8,31,(vP p 0)),(9,32,(vP p 2)),(10,33,(.slice bs6 n cp7)),(11,34,(vI ((l).getD k 0))),(12,35,(.pointer (some (ad bs6 (((l).getD k 0).toNat))))),(13,36,(vI ((Kk).getD (((l).getD k 0).toNat) 0))),(14,37,(.bool true)),(15,38,(.bool true)),(16,39,undef),(17,40,undef),(18,41,undef),(19,42,undef),(20,43,undef),(21,44,undef),(22,45,undef),(23,46,undef),(24,47,undef),(25,48,undef),(26,49,undef),(27,50,undef),(28,51,undef),(29,52,undef),(30,53,undef),(31,54,undef),(32,55,undef),(33,56,undef),(34,57,undef),(35,58,undef),(36,59,(.bool true)),(37,6,(.bool true))]) (fun _ S=>(bI p [(.slice bs2 l.length cp3),(.slice bs4 n cp5),(.slice bs6 n cp7)] 173)::(SlV 3 1 (.slice bs2 l.length cp3) l.length (aF .i64 l))::(SlV 3 1 (.slice bs4 n cp5) n (aF .i64 at1))::(SlV 3 1 (.slice bs6 n cp7) n (aF .i64 Kk))::R) (()) trivial (fun _ h=>h) (fun _ _ h=>h) ?_ ?_
   ·refine ⟨aU,bW,bL CS rfl CK,db CL fun _ _=>aa (.head _) rfl,aU,eJ CI CG rr rr rr fun _=>⟨hR8.okk,by omega,by omega,by omega⟩,dB CH rr rr fun _ _=>aw (.tail _ (.tail _ (.tail _ (.head _)))) (aQ (by omega)),aU,bW,bL CS rfl CK,db CL fun _ _=>aa (.head _) rfl,aU,?_,dB CH rr rr fun _ _=>aw (.tail _ (.tail _ (.tail _ (.head _)))) (aQ (by omega)),?_,aU,c7,c7,c7,c7,c7,c7,c7,c7,c7,c7,c7,c7,c7,c7,c7,c7,?_,?_,?_,c7,?_,fh,trivial⟩
    ·rintro _ S hF hS D hp K hK;try dsimp only
     exact bV (bE hp 10 rfl rfl) (bE hp 11 rfl rfl) (ah (k':=((l).getD k 0).toNat) CI CG rfl rfl hR8.okk (by omega) (by omega) (by omega)) 12 rfl rfl hS (hK () hF)
    ·intro _ S h s D p K k;exact bV (bE p 6 rfl rfl) (bE p 13 rfl rfl) (aJ rfl rfl (decide_eq_true h9)) 14 rfl rfl s (k () h)
    ·rintro _ S hF hS D hp K hK
     try dsimp only at hF⊢
     refine bZ hp [7,54] rfl rfl ?_
     refine dw rfl rfl rfl ?_
     exact cK hp hS (ti (hK () trivial)) rfl rfl rfl
    ·rintro _ S hF hS D hp K hK
     try dsimp only at hF⊢
     refine bZ hp [8,54] rfl rfl ?_
     refine dw rfl rfl rfl ?_
     exact cK hp hS (ti (hK () trivial)) rfl rfl rfl
    ·rintro _ S hF hS D hp K hK
     try dsimp only at hF⊢
     refine bZ hp [54,55,56] rfl rfl ?_
     refine dw rfl rfl rfl ?_
     exact cK hp hS (ti (hK () trivial)) rfl rfl rfl
    ·intro _ S h s D p K k;exact bV (bE p 15 rfl rfl) (bE p 35 rfl rfl) (aL rfl rfl) 36 rfl rfl s (k () h)
   ·rintro _ hF
    try dsimp only at hF⊢
    refine az (E':=[(0,(vP p 0)),(1,(vN i)),(2,(vN k)),(6,(.bool true)),(7,(vI ((l).getD i 0))),(8,(vI ((l).getD k 0)))]) ⟨rfl,rfl,rfl,rfl,rfl,rfl,trivial⟩ ?_
    refine qn hK3 (ay (aS (aS (aS (aS ?_)))))
    refine eZ rfl hR8 ?_
    refine aM rfl rfl ?_
    refine ⟨?_,rfl⟩
    congr 1
    first|exact th (by assumption)|exact sX (by assumption) (by assumption)|exact tL (by assumption) (by assumption)
  ·by_cases h10:((Kk).getD (((l).getD i 0).toNat) 0)=((Kk).getD (((l).getD k 0).toNat) 0)
   ·refine bz (γ:=Unit) (n:=38) Tryz.mixed rfl rfl (fun _ S=>True) (fun _=>[(0,23,(vP p 0)),(1,24,(vP p 0)),(2,25,(vP p 2)),(3,26,(.slice bs6 n cp7)),(4,27,(vI ((l).getD i 0))),(5,28,(.pointer (some (ad bs6 (((l).getD i 0).toNat))))),(6,29,(vI ((Kk).getD (((l).getD i 0).toNat) 0))),(7,30,(vP p 0)),(8,31,(vP p 0)),(9,32,(vP p 2)),(10,33,(.slice bs6 n cp7)),(11,34,(vI ((l).getD k 0))),(12,35,(.pointer (some (ad bs6 (((l).getD k 0).toNat))))),(13,36,(vI ((Kk).getD (((l).getD k 0).toNat) 0))),(14,37,(.bool false)),(15,38,(.bool false)),(16,39,(vP p 0)),(17,40,(vP p 0)),(18,41,(vP p 2)),(19,42,(.slice bs6 n cp7)),(20,43,(vI ((l).getD i 0))),(21,44,(.pointer (some (ad bs6 (((l).getD i 0).toNat))))),(22,45,(vI ((Kk).getD (((l).getD i 0).toNat) 0))),(23,46,(vP p 0)),(24,47,(vP p 0)),(25,48,(vP p 2)),(26,49,(.slice bs6 n cp7)),(27,50,(vI ((l).getD k 0))),(28,51,(.pointer (some (ad bs6 (((l).getD k 0).toNat))))),(29,52,(vI ((Kk).getD (((l).getD k 0).toNat) 0))),(30,53,(.bool true)),(31,54,(.bool true)),(32,55,(vI ((l).getD i 0))),(33,56,(vI ((l).getD k 0))),(34,57,(.bool (decide (((l).getD i 0)< ((l).getD k 0))))),(35,58,(.bool (decide (((l).getD i 0)< ((l).getD k 0))))),(36,59,(.bool (decide (((l).getD i 0)< ((l).getD k 0))))),(37,6,(.bool (decide (((l).getD i 0)< ((l).getD k 0)))))]) (fun _ S=>(bI p [(.slice bs2 l.length cp3),(.slice bs4 n cp5),(.slice bs6 n cp7)] 173)::(SlV 3 1 (.slice bs2 l.length cp3) l.length (aF .i64 l))::(SlV 3 1 (.slice bs4 n cp5) n (aF .i64 at1))::(SlV 3 1 (.slice bs6 n cp7) n (aF .i64 Kk))::R) (()) trivial (fun _ h=>h) (fun _ _ h=>h) ?_ ?_
    ·refine ⟨aU,bW,bL CS rfl CK,db CL fun _ _=>aa (.head _) rfl,aU,eJ CI CG rr rr rr fun _=>⟨hR8.okk,by omega,by omega,by omega⟩,dB CH rr rr fun _ _=>aw (.tail _ (.tail _ (.tail _ (.head _)))) (aQ (by omega)),aU,bW,bL CS rfl CK,db CL fun _ _=>aa (.head _) rfl,aU,?_,dB CH rr rr fun _ _=>aw (.tail _ (.tail _ (.tail _ (.head _)))) (aQ (by omega)),?_,aU,dd aU,dd bW,dd (bL CS rfl CK),dd (db CL fun _ _=>aa (.head _) rfl),dd aU,dd (eJ CI CG rr rr rr fun _=>⟨hR8.okk,by omega,by omega,by omega⟩),dd (dB CH rr rr fun _ _=>aw (.tail _ (.tail _ (.tail _ (.head _)))) (aQ (by omega))),dd aU,dd bW,dd (bL CS rfl CK),dd (db CL fun _ _=>aa (.head _) rfl),dd aU,?_,dd (dB CH rr rr fun _ _=>aw (.tail _ (.tail _ (.tail _ (.head _)))) (aQ (by omega))),?_,dd aU,dd aU,dd aU,?_,?_,?_,fh,trivial⟩
     ·rintro _ S hF hS D hp K hK;try dsimp only
      exact bV (bE hp 10 rfl rfl) (bE hp 11 rfl rfl) (ah (k':=((l).getD k 0).toNat) CI CG rfl rfl hR8.okk (by omega) (by omega) (by omega)) 12 rfl rfl hS (hK () hF)
     ·intro _ S h s D p K k;exact bV (bE p 6 rfl rfl) (bE p 13 rfl rfl) (aJ rfl rfl (decide_eq_false h9)) 14 rfl rfl s (k () h)
     ·rintro _ S hF hS D hp K hK;try dsimp only
      exact kf (bE hp 15 rfl rfl) (bE hp 26 rfl rfl) (bE hp 27 rfl rfl) rfl rfl (ah (k':=((l).getD k 0).toNat) CI CG rfl rfl hR8.okk (by omega) (by omega) (by omega)) 28 rfl rfl hS (hK () hF)
     ·intro _ S h s D p K k;exact kf (bE p 15 rfl rfl) (bE p 22 rfl rfl) (bE p 29 rfl rfl) rfl rfl (aV rfl rfl (beq_iff_eq.2 h10)) 30 rfl rfl s (k () h)
     ·intro _ S h s D p K k;exact kf (bE p 31 rfl rfl) (bE p 32 rfl rfl) (bE p 33 rfl rfl) rfl rfl (aJ rfl rfl rfl) 34 rfl rfl s (k () h)
     ·intro _ S h s D p K k;exact kf (bE p 15 rfl rfl) (bE p 31 rfl rfl) (bE p 34 rfl rfl) rfl rfl (aL rfl rfl) 35 rfl rfl s (k () h)
     ·intro _ S h s D p K k;exact bV (bE p 15 rfl rfl) (bE p 35 rfl rfl) (aC rfl rfl) 36 rfl rfl s (k () h)
    ·rintro _ hF
     try dsimp only at hF⊢
     refine az (E':=[(0,(vP p 0)),(1,(vN i)),(2,(vN k)),(6,(.bool (decide (((l).getD i 0)< ((l).getD k 0))))),(7,(vI ((l).getD i 0))),(8,(vI ((l).getD k 0)))]) ⟨rfl,rfl,rfl,rfl,rfl,rfl,trivial⟩ ?_
     refine qn hK3 (ay (aS (aS (aS (aS ?_)))))
     refine eZ rfl hR8 ?_
     refine aM rfl rfl ?_
     refine ⟨?_,rfl⟩
     congr 1
     first|exact th (by assumption)|exact sX (by assumption) (by assumption)|exact tL (by assumption) (by assumption)
   ·refine bz (γ:=Unit) (n:=38) Tryz.mixed rfl rfl (fun _ S=>True) (fun _=>[(0,23,(vP p 0)),(1,24,(vP p 0)),(2,25,(vP p 2)),(3,26,(.slice bs6 n cp7)),(4,27,(vI ((l).getD i 0))),(5,28,(.pointer (some (ad bs6 (((l).getD i 0).toNat))))),(6,29,(vI ((Kk).getD (((l).getD i 0).toNat) 0))),(7,30,(vP p 0)),(8,31,(vP p 0)),(9,32,(vP p 2)),(10,33,(.slice bs6 n cp7)),(11,34,(vI ((l).getD k 0))),(12,35,(.pointer (some (ad bs6 (((l).getD k 0).toNat))))),(13,36,(vI ((Kk).getD (((l).getD k 0).toNat) 0))),(14,37,(.bool false)),(15,38,(.bool false)),(16,39,(vP p 0)),(17,40,(vP p 0)),(18,41,(vP p 2)),(19,42,(.slice bs6 n cp7)),(20,43,(vI ((l).getD i 0))),(21,44,(.pointer (some (ad bs6 (((l).getD i 0).toNat))))),(22,45,(vI ((Kk).getD (((l).getD i 0).toNat) 0))),(23,46,(vP p 0)),(24,47,(vP p 0)),(25,48,(vP p 2)),(26,49,(.slice bs6 n cp7)),(27,50,(vI ((l).getD k 0))),(28,51,(.pointer (some (ad bs6 (((l).getD k 0).toNat))))),(29,52,(vI ((Kk).getD (((l).getD k 0).toNat) 0))),(30,53,(.bool false)),(31,54,(.bool false)),(32,55,undef),(33,56,undef),(34,57,undef),(35,58,(.bool false)),(36,59,(.bool false)),(37,6,(.bool false))]) (fun _ S=>(bI p [(.slice bs2 l.length cp3),(.slice bs4 n cp5),(.slice bs6 n cp7)] 173)::(SlV 3 1 (.slice bs2 l.length cp3) l.length (aF .i64 l))::(SlV 3 1 (.slice bs4 n cp5) n (aF .i64 at1))::(SlV 3 1 (.slice bs6 n cp7) n (aF .i64 Kk))::R) (()) trivial (fun _ h=>h) (fun _ _ h=>h) ?_ ?_
    ·refine ⟨aU,bW,bL CS rfl CK,db CL fun _ _=>aa (.head _) rfl,aU,eJ CI CG rr rr rr fun _=>⟨hR8.okk,by omega,by omega,by omega⟩,dB CH rr rr fun _ _=>aw (.tail _ (.tail _ (.tail _ (.head _)))) (aQ (by omega)),aU,bW,bL CS rfl CK,db CL fun _ _=>aa (.head _) rfl,aU,?_,dB CH rr rr fun _ _=>aw (.tail _ (.tail _ (.tail _ (.head _)))) (aQ (by omega)),?_,aU,dd aU,dd bW,dd (bL CS rfl CK),dd (db CL fun _ _=>aa (.head _) rfl),dd aU,dd (eJ CI CG rr rr rr fun _=>⟨hR8.okk,by omega,by omega,by omega⟩),dd (dB CH rr rr fun _ _=>aw (.tail _ (.tail _ (.tail _ (.head _)))) (aQ (by omega))),dd aU,dd bW,dd (bL CS rfl CK),dd (db CL fun _ _=>aa (.head _) rfl),dd aU,?_,dd (dB CH rr rr fun _ _=>aw (.tail _ (.tail _ (.tail _ (.head _)))) (aQ (by omega))),?_,dd aU,c7,c7,c7,?_,?_,fh,trivial⟩
     ·rintro _ S hF hS D hp K hK;try dsimp only
      exact bV (bE hp 10 rfl rfl) (bE hp 11 rfl rfl) (ah (k':=((l).getD k 0).toNat) CI CG rfl rfl hR8.okk (by omega) (by omega) (by omega)) 12 rfl rfl hS (hK () hF)
     ·intro _ S h s D p K k;exact bV (bE p 6 rfl rfl) (bE p 13 rfl rfl) (aJ rfl rfl (decide_eq_false h9)) 14 rfl rfl s (k () h)
     ·rintro _ S hF hS D hp K hK;try dsimp only
      exact kf (bE hp 15 rfl rfl) (bE hp 26 rfl rfl) (bE hp 27 rfl rfl) rfl rfl (ah (k':=((l).getD k 0).toNat) CI CG rfl rfl hR8.okk (by omega) (by omega) (by omega)) 28 rfl rfl hS (hK () hF)
     ·intro _ S h s D p K k;exact kf (bE p 15 rfl rfl) (bE p 22 rfl rfl) (bE p 29 rfl rfl) rfl rfl (aV rfl rfl (beq_eq_false_iff_ne.2 h10)) 30 rfl rfl s (k () h)
     ·intro _ S h s D p K k;exact kf (bE p 15 rfl rfl) (bE p 31 rfl rfl) (bE p 34 rfl rfl) rfl rfl (aC rfl rfl) 35 rfl rfl s (k () h)
     ·intro _ S h s D p K k;exact bV (bE p 15 rfl rfl) (bE p 35 rfl rfl) (aC rfl rfl) 36 rfl rfl s (k () h)
    ·rintro _ hF
     try dsimp only at hF⊢
     refine az (E':=[(0,(vP p 0)),(1,(vN i)),(2,(vN k)),(6,(.bool false)),(7,(vI ((l).getD i 0))),(8,(vI ((l).getD k 0)))]) ⟨rfl,rfl,rfl,rfl,rfl,rfl,trivial⟩ ?_
     refine qn hK3 (ay (aS (aS (aS (aS ?_)))))
     refine eZ rfl hR8 ?_
     refine aM rfl rfl ?_
     refine ⟨?_,rfl⟩
     congr 1
     first|exact th (by assumption)|exact sX (by assumption) (by assumption)|exact tL (by assumption) (by assumption)
set_option maxHeartbeats 8000000 in
theorem jz{R:List HP}{p n:Nat}{l Kk:List Int}(i k:Nat)(hi:i<l.length)(hk:k<l.length):
 Ok Tryz.prog 202 [(vP p 0),(vN i),(vN k)] ((eK p n l Kk)::R)
  (fun v M=>v=.tuple #[]∧M=eK p n (eo l i k) Kk::R):=by
 refine aP (N:=58) Tryz.func202 rfl rfl rfl (fun W=>?_)
 refine gp (fun at1 bs2 cp3 bs4 cp5 bs6 cp7 hR8=>?_)
 have hal:=hR8.ato.len
 have hkl:=hR8.lk
 have hbg:=hR8.big
 have hll:=hR8.hi.le
 have hcl:=hR8.cpl
 have hbi:=hR8.hi.bd i hi
 have hbk:=hR8.hi.bd k hk
 have hsl:=dt l i k
 refine ai (fun _ hK1=>?_)
 refine bz (γ:=Unit) (n:=28) Tryz.mixed rfl rfl (fun _ S=>True) (fun _=>[(0,6,(vP p 0)),(1,7,(vP p 0)),(2,8,(vP p 0)),(3,9,(.slice bs2 l.length cp3)),(4,10,(vN i)),(5,11,(vP p 0)),(6,12,(vP p 0)),(7,13,(vP p 0)),(8,14,(.slice bs2 l.length cp3)),(9,15,(vN k)),(10,16,(vP p 0)),(11,17,(vP p 0)),(12,18,(vP p 0)),(13,19,(.slice bs2 l.length cp3)),(14,20,(vN k)),(15,21,(.pointer (some (ad bs2 k)))),(16,22,(vI ((l).getD k 0))),(17,23,(vP p 0)),(18,24,(vP p 0)),(19,25,(vP p 0)),(20,26,(.slice bs2 l.length cp3)),(21,27,(vN i)),(22,28,(.pointer (some (ad bs2 i)))),(23,29,(vI ((l).getD i 0))),(24,30,(.pointer (some (ad bs2 i)))),(26,31,(.pointer (some (ad bs2 k))))]) (fun _ S=>(bI p [(.slice bs2 l.length cp3),(.slice bs4 n cp5),(.slice bs6 n cp7)] 173)::(bif S 27 then (SlV 3 1 (.slice bs2 l.length cp3) l.length (aF .i64 ((((l).set i ((l).getD k 0))).set k ((l).getD i 0)))) else (bif S 25 then (SlV 3 1 (.slice bs2 l.length cp3) l.length (aF .i64 ((l).set i ((l).getD k 0)))) else (SlV 3 1 (.slice bs2 l.length cp3) l.length (aF .i64 l))))::(SlV 3 1 (.slice bs4 n cp5) n (aF .i64 at1))::(SlV 3 1 (.slice bs6 n cp7) n (aF .i64 Kk))::R) (()) trivial (fun _ h=>h) (fun _ _ h=>h) ?_ ?_
 ·refine ⟨aU,bW,bL CS rfl CK,db CL fun _ _=>aa (.head _) rfl,aU,aU,bW,bL CS rfl CK,db CL fun _ _=>aa (.head _) rfl,aU,aU,bW,bL CS rfl CK,db CL fun _ _=>aa (.head _) rfl,aU,?_,?_,aU,bW,bL CS rfl CK,db CL fun _ _=>aa (.head _) rfl,aU,eJ CI CG rr rr rr fun _=>⟨hR8.okl,by omega,by omega,by omega⟩,?_,eJ CI CG rr rr rr fun _=>⟨hR8.okl,by omega,by omega,by omega⟩,?_,?_,?_,trivial⟩
  ·rintro _ S hF hS D hp K hK;try dsimp only
   exact bV (bE hp 13 rfl rfl) (bE hp 14 rfl rfl) (ah (k':=k) CI CG rfl rfl hR8.okl (by omega) (by omega) (by omega)) 15 rfl rfl hS (hK () hF)
  ·rintro _ S hF hS D hp K hK;try dsimp only
   exact bH (bE hp 15 rfl rfl) (bP CH rfl (aw (cF (nf hS D (k:=25) (i:=16) rfl) (cF (nf hS D (k:=27) (i:=16) rfl) (.tail _ (.head _)))) (aQ (by omega)))) 16 rfl rfl hS (hK () hF)
  ·rintro _ S hF hS D hp K hK;try dsimp only
   exact bH (bE hp 22 rfl rfl) (bP CH rfl (aw (cF (nf hS D (k:=25) (i:=23) rfl) (cF (nf hS D (k:=27) (i:=23) rfl) (.tail _ (.head _)))) (aQ (by omega)))) 23 rfl rfl hS (hK () hF)
  ·rintro _ S hF hS D hp K hK
   try dsimp only at hF⊢
   refine bZ hp [22,30] rfl rfl ?_
   refine aE ?_
   refine c9 (nf hS D (k:=27) (i:=25) rfl) ?_
   refine c9 hS ?_
   refine ts (gN CG rfl rfl rfl (by rw [ints_length];omega) eD) ?_
   refine fG (A:=(SlV 3 1 (.slice bs2 l.length cp3) l.length (aF .i64 ((((l).set i ((l).getD k 0))).set k ((l).getD i 0))))) (nf hS D (k:=27) (i:=25) rfl) ?_
   refine aE ?_
   exact gE hp (ti (hK () trivial)) rfl rfl rfl
  ·rintro _ S hF hS D hp K hK;try dsimp only
   exact bV (bE hp 8 rfl rfl) (bE hp 9 rfl rfl) (ah (k':=k) CI CG rfl rfl hR8.okl (by omega) (by omega) (by omega)) 25 rfl rfl hS (hK () hF)
  ·rintro _ S hF hS D hp K hK
   try dsimp only at hF⊢
   refine bZ hp [29,31] rfl rfl ?_
   refine aE ?_
   refine c9 hS ?_
   have s25:=hp 25 rfl
   refine jJ s25 ?_
   refine ts (gN CG rfl rfl rfl (by rw [ints_length,List.length_set];omega) eD) ?_
   refine aE ?_
   exact gE hp (ti (hK () trivial)) rfl rfl rfl
 ·rintro _ hF
  try dsimp only at hF⊢
  refine az (E':=[(0,(vP p 0)),(1,(vN i)),(2,(vN k))]) ⟨rfl,rfl,rfl,trivial⟩ ?_
  refine qn hK1 ?_
  have hswl:(l.set i (l.getD k 0)).set k (l.getD i 0)=eo l i k:=rfl
  rw [hswl]
  have hq:=hR8.hi.swap hi hk
  have hsi:=hq.bd i (by omega)
  have hsk:=hq.bd k (by omega)
  refine bz (γ:=Unit) (n:=28) Tryz.mixed rfl rfl (fun _ S=>True) (fun _=>[(0,32,(vP p 0)),(1,33,(vP p 0)),(2,34,(vP p 1)),(3,35,(.slice bs4 n cp5)),(4,36,(vP p 0)),(5,37,(vP p 0)),(6,38,(vP p 0)),(7,39,(.slice bs2 l.length cp3)),(8,40,(vN i)),(9,41,(.pointer (some (ad bs2 i)))),(10,42,(vI ((eo l i k).getD i 0))),(11,43,(vP p 0)),(12,44,(vP p 0)),(13,45,(vP p 1)),(14,46,(.slice bs4 n cp5)),(15,47,(vP p 0)),(16,48,(vP p 0)),(17,49,(vP p 0)),(18,50,(.slice bs2 l.length cp3)),(19,51,(vN k)),(20,52,(.pointer (some (ad bs2 k)))),(21,53,(vI ((eo l i k).getD k 0))),(22,54,(vN i)),(23,55,(vN k)),(24,56,(.pointer (some (ad bs4 (((eo l i k).getD i 0).toNat))))),(26,57,(.pointer (some (ad bs4 (((eo l i k).getD k 0).toNat)))))]) (fun _ S=>(bI p [(.slice bs2 l.length cp3),(.slice bs4 n cp5),(.slice bs6 n cp7)] 173)::(SlV 3 1 (.slice bs2 l.length cp3) l.length (aF .i64 (eo l i k)))::(bif S 27 then (SlV 3 1 (.slice bs4 n cp5) n (aF .i64 ((((at1).set (((eo l i k).getD i 0).toNat) (i:Int))).set (((eo l i k).getD k 0).toNat) (k:Int)))) else (bif S 25 then (SlV 3 1 (.slice bs4 n cp5) n (aF .i64 ((at1).set (((eo l i k).getD i 0).toNat) (i:Int)))) else (SlV 3 1 (.slice bs4 n cp5) n (aF .i64 at1))))::(SlV 3 1 (.slice bs6 n cp7) n (aF .i64 Kk))::R) (()) trivial (fun _ h=>h) (fun _ _ h=>h) ?_ ?_
  ·refine ⟨aU,bW,bL CS rfl CK,db CL fun _ _=>aa (.head _) rfl,aU,bW,bL CS rfl CK,db CL fun _ _=>aa (.head _) rfl,aU,eJ CI CG rr rr rr fun _=>⟨hR8.okl,by omega,by omega,by omega⟩,dB CH rr rr fun _ _=>aw (.tail _ (.head _)) (aQ (by omega)),aU,bW,bL CS rfl CK,db CL fun _ _=>aa (.head _) rfl,aU,bW,bL CS rfl CK,db CL fun _ _=>aa (.head _) rfl,aU,?_,dB CH rr rr fun _ _=>aw (.tail _ (.head _)) (aQ (by omega)),aU,aU,?_,?_,?_,?_,trivial⟩
   ·rintro _ S hF hS D hp K hK;try dsimp only
    exact bV (bE hp 18 rfl rfl) (bE hp 19 rfl rfl) (ah (k':=k) CI CG rfl rfl hR8.okl (by omega) (by omega) (by omega)) 20 rfl rfl hS (hK () hF)
   ·rintro _ S hF hS D hp K hK;try dsimp only
    exact bV (bE hp 3 rfl rfl) (bE hp 10 rfl rfl) (ah (k':=((eo l i k).getD i 0).toNat) CI CG rfl rfl hR8.oka (by omega) (by omega) (by omega)) 24 rfl rfl hS (hK () hF)
   ·rintro _ S hF hS D hp K hK
    try dsimp only at hF⊢
    refine bZ hp [54,56] rfl rfl ?_
    refine aR ?_
    refine c9 (nf hS D (k:=27) (i:=25) rfl) ?_
    refine c9 hS ?_
    refine ts (gN CG rfl rfl rfl (by rw [ints_length];omega) eD) ?_
    refine fG (A:=(SlV 3 1 (.slice bs4 n cp5) n (aF .i64 ((((at1).set (((eo l i k).getD i 0).toNat) (i:Int))).set (((eo l i k).getD k 0).toNat) (k:Int))))) (nf hS D (k:=27) (i:=25) rfl) ?_
    refine aR (aR ?_)
    exact gE hp (ti (hK () trivial)) rfl rfl rfl
   ·rintro _ S hF hS D hp K hK;try dsimp only
    exact bV (bE hp 14 rfl rfl) (bE hp 21 rfl rfl) (ah (k':=((eo l i k).getD k 0).toNat) CI CG rfl rfl hR8.oka (by omega) (by omega) (by omega)) 25 rfl rfl hS (hK () hF)
   ·rintro _ S hF hS D hp K hK
    try dsimp only at hF⊢
    refine bZ hp [55,57] rfl rfl ?_
    refine aR ?_
    refine c9 hS ?_
    have s25:=hp 25 rfl
    refine jJ s25 ?_
    refine ts (gN CG rfl rfl rfl (by rw [ints_length,List.length_set];omega) eD) ?_
    refine aR (aR ?_)
    exact gE hp (ti (hK () trivial)) rfl rfl rfl
  ·rintro _ hF
   try dsimp only at hF⊢
   refine az (E':=[(0,(vP p 0)),(1,(vN i)),(2,(vN k))]) ⟨rfl,rfl,rfl,trivial⟩ ?_
   refine aS (aS (aS (aS ?_)))
   refine eZ hsl ⟨hR8.hi.swap hi hk,hR8.ato.swap hR8.hi hi hk,hR8.lk,hR8.big,(fun hz=>hR8.okl (by omega)),(by omega),hR8.oka,hR8.okk⟩ ?_
   refine fC rfl ?_
   exact ⟨rfl,rfl⟩
set_option maxHeartbeats 4000000 in
theorem xP{R:List HP}{p n:Nat}{l Kk:List Int}(x:Int)(hx:0≤x∧x<n)(hn:x ∉ l):
 Ok Tryz.prog 201 [(vP p 0),(.iface 3 (vI x))] ((eK p n l Kk)::R)
  (fun v M=>v=.tuple #[]∧M=eK p n (l++[x]) Kk::R):=by
 refine aP (N:=28) Tryz.func201 rfl rfl rfl (fun W=>?_)
 refine gp (fun at1 bs2 cp3 bs4 cp5 bs6 cp7 hR8=>?_)
 have hal:=hR8.ato.len
 have hkl:=hR8.lk
 have hbg:=hR8.big
 have hll:=hR8.hi.le
 have hcl:=hR8.cpl
 have hlt:l.length+1≤n:=by have:=(hR8.hi.push hx hn).le;simpa using this
 refine av (fun _ hK1=>ag rfl (tp rfl (kY (by intro w v;kernel_rfl) rfl) ?_))
 refine aA rfl (td hK1 (ai (fun _ hK2=>?_)))
 refine bz (γ:=Unit) (n:=12) Tryz.mixed rfl rfl (fun _ S=>True) (fun _=>[(0,7,(vP p 0)),(1,8,(vP p 0)),(2,9,(vP p 1)),(3,10,(.slice bs4 n cp5)),(4,11,(vI x)),(5,12,(vP p 0)),(6,13,(vP p 0)),(7,14,(vP p 0)),(8,15,(.slice bs2 l.length cp3)),(9,16,(vN l.length)),(10,17,(.pointer (some (ad bs4 x.toNat))))]) (fun _ S=>(bI p [(.slice bs2 l.length cp3),(.slice bs4 n cp5),(.slice bs6 n cp7)] 173)::(SlV 3 1 (.slice bs2 l.length cp3) l.length (aF .i64 l))::(bif S 11 then (SlV 3 1 (.slice bs4 n cp5) n (aF .i64 ((at1).set x.toNat (l.length:Int)))) else (SlV 3 1 (.slice bs4 n cp5) n (aF .i64 at1)))::(SlV 3 1 (.slice bs6 n cp7) n (aF .i64 Kk))::R) (()) trivial (fun _ h=>h) (fun _ _ h=>h) ?_ ?_
 ·refine ⟨aU,bW,bL CS rfl CK,db CL fun _ _=>aa (.head _) rfl,aU,aU,bW,bL CS rfl CK,db CL fun _ _=>aa (.head _) rfl,iT CI rfl,eJ CI CG rr rr rr fun _=>⟨hR8.oka,by omega,by omega,by omega⟩,?_,trivial⟩
  ·rintro _ S hF hS D hp K hK
   try dsimp only at hF⊢
   refine bZ hp [16,17] rfl rfl ?_
   refine aR ?_
   refine c9 hS ?_
   refine ts (gN CG rfl rfl rfl (by rw [ints_length];omega) eD) ?_
   refine aR (aR ?_)
   exact gE hp (ti (hK () trivial)) rfl rfl rfl
 ·rintro _ hF
  try dsimp only at hF⊢
  refine az (E':=[(0,(vP p 0)),(1,(.iface 3 (vI x))),(4,(vI x))]) ⟨rfl,rfl,rfl,trivial⟩ ?_
  refine qn hK2 (aj (ag rfl (ag rfl (cV rfl (bU 0 CS rfl CK rfl rfl (bK CL rfl (aa (.head _) rfl) (ag rfl ?_)))))))
  refine tm rfl (aD (cs:=[(vI x)]) CI CG CN (by decide) rfl rfl rfl rfl) ?_
  rintro _ _ ⟨bs9,cp10,hok11,hle12,rfl,rfl⟩
  refine aR ?_
  refine tm rfl (cR (i:=Tryz.t3) CI C1 rfl rfl rfl (by decide) rfl rfl hok11 (by first| (simp;done)| (simp;omega)) (cj (.tail _ (.head _))) (by simp [Value.oneCell']) (by rw [show Tryz.t3.bytes=8 from rfl];omega)) ?_
  rintro _ _ ⟨bs13,cp14,hok15,hle16,rfl,rfl⟩
  rw [show aF .i64 l++[(.int .i64 x)]=aF .i64 (l++[x]) from dW _ _ _]
  refine cV rfl (bU 0 CS rfl CK rfl rfl (aR ?_))
  refine ts (cM CK rfl rfl rfl (nB rfl) rfl) ?_
  refine aI (de (de (aS (aS ?_))))
  refine eZ (by simp) ⟨hR8.hi.push hx hn,hR8.ato.push hR8.hi hx hn,hR8.lk,hR8.big,(by simpa using hok15),(by simpa using hle16),hR8.oka,hR8.okk⟩ ?_
  refine aE (ak ?_)
  refine fC rfl ?_
  exact ⟨rfl,rfl⟩
theorem nD{R:List HP}{p n:Nat}{l Kk:List Int}(h0:0<l.length):
 Ok Tryz.prog 200 [(vP p 0)] ((eK p n l Kk)::R)
  (fun v M=>v=.iface 3 (.int .i64 (l.getD (l.length-1) 0))∧M=eK p n l.dropLast Kk::R):=by
 refine aP (N:=35) Tryz.func200 rfl rfl rfl (fun W=>?_)
 refine gp (fun at1 bs2 cp3 bs4 cp5 bs6 cp7 hR8=>?_)
 have hal:=hR8.ato.len
 have hkl:=hR8.lk
 have hbg:=hR8.big
 have hll:=hR8.hi.le
 have hcl:=hR8.cpl
 have hbl:=hR8.hi.bd (l.length-1) (by omega)
 refine av (fun _ hK1=>aA rfl (td hK1 (av (fun _ hK2=>ag rfl (cV rfl (bU 0 CS rfl CK rfl rfl ?_))))))
 refine bK CL rfl (aa (.head _) rfl) (tp rfl (bC CI rfl rfl) (tp rfl (eR (c:=((l.length-1:Nat):Int)) rfl rfl ((cA (by omega) (by omega)).trans (by omega))) ?_))
 refine aA rfl (td hK2 (av (fun _ hK3=>ag rfl (cV rfl (bU 0 CS rfl CK rfl rfl (bK CL rfl (aa (.head _) rfl) (ag rfl ?_)))))))
 refine tp rfl (ah (k':=l.length-1) CI CG rfl rfl hR8.okl (by omega) (by omega) (by omega)) ?_
 refine bK CH rfl (aw (.tail _ (.head _)) (aQ (by omega))) ?_
 refine aA rfl (td hK3 (av (fun _ hK4=>ag rfl (ag rfl (cV rfl (bU 0 CS rfl CK rfl rfl (bK CL rfl (aa (.head _) rfl) ?_)))))))
 refine ag rfl (tp rfl (ed (l:=0) (h:=l.length-1) (m:=cp3) (v:=(.slice bs2 (l.length-1) cp3)) CI CG rfl rfl rfl rfl (.inr ⟨rfl,rfl⟩) (.inl ⟨_,_,rfl,(by omega),(by omega),(by omega)⟩) (.inr ⟨rfl,rfl⟩) (by simp) (by rw [fI];rfl)) ?_)
 refine cV rfl (bU 0 CS rfl CK rfl rfl ?_)
 refine ts (cM CK rfl rfl rfl (nB rfl) rfl) ?_
 refine td hK4 (av (fun _ hK5=>ag rfl (cV rfl (bU 1 CS rfl CK rfl rfl (bK CL rfl (aa (.head _) rfl) (ag rfl (tp rfl (ah (k':=((l).getD (l.length-1) 0).toNat) CI CG rfl rfl hR8.oka (by omega) (by omega) (by omega)) ?_)))))))
 refine aR ?_
 refine ts (gN CG rfl rfl rfl (by rw [ints_length];omega) eD) ?_
 refine td hK5 (av (fun _ hK6=>ag rfl (tp rfl (gU (by intro w x;kernel_rfl) rfl) ?_)))
 refine aA rfl (td hK6 (ay (aR ?_)))
 refine bO (fun _ h=>mM (k:=l.length-1) (by omega) (by omega) h) ?_
 rw [Nat.mul_one,kL,show l.take (l.length-1)=l.dropLast from (List.dropLast_eq_take ..).symm]
 refine aS (aR (aR (aS ?_)))
 refine eZ (List.length_dropLast ..) ⟨hR8.hi.pop,hR8.ato.pop hR8.hi h0,hR8.lk,hR8.big,(fun hz=>hR8.okl (by omega)),(by rw [List.length_dropLast];omega),hR8.oka,hR8.okk⟩ ?_
 refine aM rfl rfl ?_
 exact ⟨rfl,rfl⟩
end Go.Proofs.YtanfdikglplkaaaGreatDoor
