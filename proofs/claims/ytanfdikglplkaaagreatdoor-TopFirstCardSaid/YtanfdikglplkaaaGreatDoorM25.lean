/- Parts Ep, Ua: own lemmas and contracts of the code that the claim reaches. -/
import Derived.Test.YtanfdikglplkaaaGreatDoorM03
import Derived.Test.YtanfdikglplkaaaGreatDoorM04
import Derived.Test.YtanfdikglplkaaaGreatDoorM23
import Derived.Test.YtanfdikglplkaaaGreatDoorM12
import Derived.Test.YtanfdikglplkaaaGreatDoorM20
import Derived.Test.YtanfdikglplkaaaGreatDoorM21
import Derived.Test.YtanfdikglplkaaaGreatDoorM15
set_option linter.unusedSimpArgs false
set_option linter.unusedVariables false
set_option maxRecDepth 100000
namespace Go.Proofs.YtanfdikglplkaaaGreatDoor
open Go Go.Proofs Sp
theorem vE{R:List HP}{bx:Option Addr}{cx n:Nat}(xs:List (Int×Int))(hn:xs.length=n)(hx:Rd R bx (df xs))(okx:bB bx n)(lx:n≤1000000):
 Ok Tryz.prog 34 [(.slice bx n cx)] R
  (dZ 57 2 n (df xs) R):=by
 refine aP (N:=8) Tryz.func34 rfl rfl rfl (fun W=>?_)
 refine av (fun _ hK1=>aA rfl (td hK1 (ai (fun _ hK2=>av (fun _ hK3=>ag rfl ?_)))))
 rcases hnhnil1:(bx).isNone with _|_
 ·refine tp rfl (gC CY rfl rfl hnhnil1) (td hK3 (ar rfl (dp hK2 (av (fun _ hK4=>?_)))))
  refine tm rfl (aD (cs:=[]) CY Dl Eb (by decide) rfl rfl rfl rfl) ?_
  rintro _ _ ⟨bs2,cp3,hok4,hle5,rfl,rfl⟩
  refine ag rfl ?_
  refine tm rfl (cR (i:=Tryz.t57) CY Tryz.type57 rfl rfl rfl (by decide) rfl rfl okx (by rw [mw,hn]) (Rd.cons hx) wg (by rw [show Tryz.t57.bytes=16 from rfl];omega)) ?_
  rintro _ _ ⟨bs6,cp7,hok8,hle9,rfl,rfl⟩
  simp only [Nat.zero_add] at hok8 hle9⊢
  rw [List.nil_append]
  refine aA rfl (td hK4 (ay ?_))
  refine aM rfl rfl ?_
  exact ⟨_,_,hok8,hle9,rfl,rfl⟩
 ·refine tp rfl (gC CY rfl rfl hnhnil1) (td hK3 (aG rfl (av (fun _ hK4=>aA rfl (td hK4 (ay ?_))))))
  refine aK ?_
  refine bO (fun _ h=>cz 57 2 h) ?_
  refine aM rfl rfl ?_
  have h0:n=0:=ji okx ‹_›
  subst h0
  obtain rfl:xs=[]:=List.eq_nil_of_length_eq_zero hn
  exact ⟨none,0,cn,Nat.le_refl _,rfl,rfl⟩
set_option maxHeartbeats 4000000 in
theorem zr{R:List HP}{c:Cfg}{bb:Option Addr}{n cb:Nat}(al:List (Int×Int))(hc:CfgOk c)(hln:al.length=n)(hn:n≤64)(hal:∀i,i<n→(1≤(al.getD i (0,0)).1∧(al.getD i (0,0)).1≤1048576)∧1≤(al.getD i (0,0)).2∧(al.getD i (0,0)).2≤1048576)(hb:Rd R bb (df al))(okb:bB bb n):
 Ok Tryz.prog 18 [(.agg #[(vI c.bud),(vI c.slots),(vI c.act),(vI c.que),(vI c.tries),(vI c.pre),(vI c.tmo),(vI c.bak),(vI c.most),(vI c.qu)]),(.slice bb n cb)] R
  (fun v M=> ∃(e:Nat) (x:EP) (hp:Nat),x.n=n∧x.m=0∧v=.tuple #[.pointer (some ⟨e,0,none⟩),.int .i64 0]∧M=bQ e x (wH c al)::dz x.ld ⟨max c.bud 0,(min (max c.slots 0) 16).toNat,List.replicate 16 Pl.z,0⟩::bI x.tp [.pointer (some ⟨hp,0,none⟩)] 132::cL hp (b8 (n:Int)) (List.replicate (b8 (n:Int)) none)::aT x.g x.n []::bF x.tn (BX c.qu) [] 0::dv x.ad (max c.act 1) (max c.que 0) ⟨[],[]⟩::R):=by
 refine aP (N:=74) Tryz.func18 rfl rfl rfl (fun W=>?_)
 have hbud:=hc.bud
 have hslots:=hc.slots
 have hact:=hc.act
 have hque:=hc.que
 have htries:=hc.tries
 have hpre:=hc.pre
 have htmo:=hc.tmo
 have hbak:=hc.bak
 have hmost:=hc.most
 have hqu:=hc.qu
 refine av (fun _ hK1=>?_)
 refine tm rfl (cZ rfl rfl) ?_
 rintro _ _ ⟨b1,rfl,rfl⟩
 refine aA rfl (aA rfl (td hK1 (ai (fun _ hK2=>av (fun _ hK3=>tp rfl (cB (cs:=[(vI c.bud),(vI c.slots),(vI c.act),(vI c.que),(vI c.tries),(vI c.pre),(vI c.tmo),(vI c.bak),(vI c.most),(vI c.qu)]) DW Dm rfl (fF (aa (.head _) rfl) (aa (.head _) rfl) (aa (.head _) rfl) (aa (.head _) rfl) (aa (.head _) rfl) (aa (.head _) rfl) (aa (.head _) rfl) (aa (.head _) rfl) (aa (.head _) rfl) (aa (.head _) rfl))) ?_)))))
 refine bN Tryz.call33 rfl (wP hc) ?_
 rintro _ _ ⟨rfl,rfl⟩
 refine aA rfl (td hK3 (av (fun _ hK4=>ag rfl (tp rfl (cG (r:=false) rfl rfl (by decide)) ?_))))
 refine td hK4 (ar rfl (dp hK2 (ai (fun _ hK5=>av (fun _ hK6=>ag rfl (tp rfl (bC CY rfl rfl) ?_))))))
 refine tp rfl (cu rfl rfl (decide_eq_false (by omega))) ?_
 refine td hK6 (ar rfl (dp hK5 (av (fun _ hK7=>ag rfl (tp rfl (bC CY rfl rfl) (aA rfl ?_))))))
 refine td hK7 (ai (fun _ hK8=>?_))
 refine bz (γ:=Option Addr×Nat×Nat×Nat×Nat×Nat×Nat×Nat×Nat) (n:=23) Tryz.mixed rfl rfl (fun (bs2,cp3,p6,p7,q8,p9,p10,p11,b12) S=>(S 2=true→bB bs2 n)∧(S 2=true→n≤cp3)) (fun (bs2,cp3,p6,p7,q8,p9,p10,p11,b12)=>[(0,22,(.agg #[(vI c.bud),(vI c.slots),(vI c.act),(vI c.que),(vI c.tries),(vI c.pre),(vI c.tmo),(vI c.bak),(vI c.most),(vI c.qu)])),(1,23,(.slice bb n cb)),(2,24,(.slice bs2 n cp3)),(3,25,(vN n)),(4,26,(vP p6 0)),(5,27,(vN n)),(6,28,(vP p7 0)),(7,29,(vP b1 0)),(8,30,(vI c.bud)),(9,31,(vP b1 1)),(10,32,(vI c.slots)),(11,33,(vP p9 0)),(12,34,(vP b1 2)),(13,35,(vI c.act)),(14,36,(vP b1 3)),(15,37,(vI c.que)),(16,38,(vP p10 0)),(17,39,(vP b1 9)),(18,40,(vI c.qu)),(19,41,(vP p11 0)),(20,42,(.agg #[(vI c.bud),(vI c.slots),(vI c.act),(vI c.que),(vI c.tries),(vI c.pre),(vI c.tmo),(vI c.bak),(vI c.most),(vI c.qu),(.slice bs2 n cp3),(.slice none 0 0),(.slice none 0 0),(vP p6 0),(vP p7 0),(vP p9 0),(vP p10 0),(vP p11 0),(vI 0),(vI 0),(.slice none 0 0)])),(21,43,(vP b12 0)),(22,8,(vP b12 0))]) (fun (bs2,cp3,p6,p7,q8,p9,p10,p11,b12) S=>(bI b1 [(vI c.bud),(vI c.slots),(vI c.act),(vI c.que),(vI c.tries),(vI c.pre),(vI c.tmo),(vI c.bak),(vI c.most),(vI c.qu)] 23)::(bif S 2 then (SlV 57 2 (.slice bs2 n cp3) n (df al)) else ib)::(bif S 4 then (aT p6 (cT (n:Int)) ([]:Es)) else ib)::(bif S 6 then (bI p7 [(vP q8 0)] 132) else ib)::(bif S 6 then (cL q8 (b8 (n:Int)) (List.replicate (b8 (n:Int)) none)) else ib)::(bif S 11 then (dz p9 ⟨max c.bud 0,(min (max c.slots 0) 16).toNat,List.replicate 16 Pl.z,0⟩) else ib)::(bif S 16 then (dv p10 (max c.act 1) (max c.que 0) ⟨[],[]⟩) else ib)::(bif S 19 then (bF p11 (BX c.qu) [] 0) else ib)::(bif S 21 then (bI b12 [(vI c.bud),(vI c.slots),(vI c.act),(vI c.que),(vI c.tries),(vI c.pre),(vI c.tmo),(vI c.bak),(vI c.most),(vI c.qu),(.slice bs2 n cp3),(.slice none 0 0),(.slice none 0 0),(vP p6 0),(vP p7 0),(vP p9 0),(vP p10 0),(vP p11 0),(vI 0),(vI 0),(.slice none 0 0)] 73) else ib)::R) (none,0,0,0,0,0,0,0,0) (by simp [Nat.ble]) (fun _ h=>ef [_] 8 h) (fun _ _ h=>h) ?_ ?_
 ·refine ⟨?_,ga fun ⟨_,_,_,_,_,_,_,_,_⟩=>da,?_,ga fun ⟨_,_,_,_,_,_,_,_,_⟩=>da,?_,ga fun ⟨_,_,_,_,_,_,_,_,_⟩=>da,?_,ga fun ⟨_,_,_,_,_,_,_,_,_⟩=>dF CW rfl CG,ga fun ⟨_,_,_,_,_,_,_,_,_⟩=>gG CH fun _=>aa (.head _) rfl,ga fun ⟨_,_,_,_,_,_,_,_,_⟩=>dF CW rfl CG,ga fun ⟨_,_,_,_,_,_,_,_,_⟩=>gG CH fun _=>aa (.head _) rfl,?_,ga fun ⟨_,_,_,_,_,_,_,_,_⟩=>dF CW rfl CG,ga fun ⟨_,_,_,_,_,_,_,_,_⟩=>gG CH fun _=>aa (.head _) rfl,ga fun ⟨_,_,_,_,_,_,_,_,_⟩=>dF CW rfl CG,ga fun ⟨_,_,_,_,_,_,_,_,_⟩=>gG CH fun _=>aa (.head _) rfl,?_,ga fun ⟨_,_,_,_,_,_,_,_,_⟩=>dF CW rfl CG,ga fun ⟨_,_,_,_,_,_,_,_,_⟩=>gG CH fun _=>aa (.head _) rfl,?_,?_,?_,ga fun ⟨_,_,_,_,_,_,_,_,_⟩=>kj,trivial⟩
  ·rintro ⟨bs2,cp3,p6,p7,q8,p9,p10,p11,b12⟩ S hF hS D hp K hK;try dsimp only
   exact bH (qT (t:=2) rfl rfl) (cB (cs:=[(vI c.bud),(vI c.slots),(vI c.act),(vI c.que),(vI c.tries),(vI c.pre),(vI c.tmo),(vI c.bak),(vI c.most),(vI c.qu)]) DW Dm rfl (fF (aa (.head _) rfl) (aa (.head _) rfl) (aa (.head _) rfl) (aa (.head _) rfl) (aa (.head _) rfl) (aa (.head _) rfl) (aa (.head _) rfl) (aa (.head _) rfl) (aa (.head _) rfl) (aa (.head _) rfl))) 0 rfl rfl hS (hK (bs2,cp3,p6,p7,q8,p9,p10,p11,b12) hF)
  ·rintro ⟨bs2,cp3,p6,p7,q8,p9,p10,p11,b12⟩ S hF hS D hp K hK
   try dsimp only at hF⊢
   obtain ⟨hf0,hf1⟩:=hF
   refine bZ hp [23] rfl rfl ?_
   refine bN Tryz.call34 rfl (vE al (by omega) (Rd.cons (Rd.cons (Rd.cons (Rd.cons (Rd.cons (Rd.cons (Rd.cons (Rd.cons (Rd.cons hb))))))))) okb (by omega)) ?_
   rintro _ _ ⟨bs2,cp3,hok4,hle5,rfl,rfl⟩
   refine dL ?_
   refine c9 (nf (nf hS D (k:=20) (i:=2) rfl) D (k:=21) (i:=20) rfl) ?_
   refine fG (A:=(bI b12 [(vI c.bud),(vI c.slots),(vI c.act),(vI c.que),(vI c.tries),(vI c.pre),(vI c.tmo),(vI c.bak),(vI c.most),(vI c.qu),(.slice bs2 n cp3),(.slice none 0 0),(.slice none 0 0),(vP p6 0),(vP p7 0),(vP p9 0),(vP p10 0),(vP p11 0),(vI 0),(vI 0),(.slice none 0 0)] 73)) (nf (nf hS D (k:=20) (i:=2) rfl) D (k:=21) (i:=20) rfl) ?_
   refine dL (dL (dL (dL (dL (dL (dL (dL (dL ?_))))))))
   refine bO (fun _ h=>cX [_] h) ?_
   exact cK hp hS (ti (hK (bs2,cp3,p6,p7,q8,p9,p10,p11,b12) ⟨(fun _=>hok4),(fun _=>hle5)⟩)) rfl rfl rfl
  ·rintro ⟨bs2,cp3,p6,p7,q8,p9,p10,p11,b12⟩ S hF hS D hp K hK
   try dsimp only at hF⊢
   obtain ⟨hf0,hf1⟩:=hF
   have s2:=hp 2 rfl
   have hok4:=hf0 s2
   have hle5:=hf1 s2
   refine bZ hp [25] rfl rfl ?_
   refine bN Tryz.call35 rfl (new_ok (n:Int)) ?_
   rintro _ _ ⟨p6,rfl,rfl⟩
   refine dL ?_
   refine c9 (nf (nf hS D (k:=20) (i:=4) rfl) D (k:=21) (i:=20) rfl) ?_
   refine fG (A:=(bI b12 [(vI c.bud),(vI c.slots),(vI c.act),(vI c.que),(vI c.tries),(vI c.pre),(vI c.tmo),(vI c.bak),(vI c.most),(vI c.qu),(.slice bs2 n cp3),(.slice none 0 0),(.slice none 0 0),(vP p6 0),(vP p7 0),(vP p9 0),(vP p10 0),(vP p11 0),(vI 0),(vI 0),(.slice none 0 0)] 73)) (nf (nf hS D (k:=20) (i:=4) rfl) D (k:=21) (i:=20) rfl) ?_
   refine dL (dL (dL (dL (dL (dL (dL (dL (dL ?_))))))))
   refine bO (fun _ h=>cX [_,_] h) ?_
   exact cK hp hS (ti (hK (bs2,cp3,p6,p7,q8,p9,p10,p11,b12) ⟨hf0,hf1⟩)) rfl rfl rfl
  ·rintro ⟨bs2,cp3,p6,p7,q8,p9,p10,p11,b12⟩ S hF hS D hp K hK
   try dsimp only at hF⊢
   obtain ⟨hf0,hf1⟩:=hF
   have s4:=hp 4 rfl
   have s2:=D 4 2 rfl s4
   have hok4:=hf0 s2
   have hle5:=hf1 s2
   refine bZ hp [27] rfl rfl ?_
   refine bN Tryz.call36 rfl (An (n:Int)) ?_
   rintro _ _ ⟨p7,q8,rfl,rfl⟩
   refine eT ?_
   refine c9 (nf (nf hS D (k:=20) (i:=6) rfl) D (k:=21) (i:=20) rfl) ?_
   refine fG (A:=(bI b12 [(vI c.bud),(vI c.slots),(vI c.act),(vI c.que),(vI c.tries),(vI c.pre),(vI c.tmo),(vI c.bak),(vI c.most),(vI c.qu),(.slice bs2 n cp3),(.slice none 0 0),(.slice none 0 0),(vP p6 0),(vP p7 0),(vP p9 0),(vP p10 0),(vP p11 0),(vI 0),(vI 0),(.slice none 0 0)] 73)) (nf (nf hS D (k:=20) (i:=6) rfl) D (k:=21) (i:=20) rfl) ?_
   refine eT (eT (eT (eT (eT (eT (eT (eT (eT (eT ?_)))))))))
   refine bO (fun _ h=>cX [_,_,_,_] h) ?_
   refine bO (fun _ h=>cX [_,_,_,_] h) ?_
   exact cK hp hS (ti (hK (bs2,cp3,p6,p7,q8,p9,p10,p11,b12) ⟨hf0,hf1⟩)) rfl rfl rfl
  ·rintro ⟨bs2,cp3,p6,p7,q8,p9,p10,p11,b12⟩ S hF hS D hp K hK
   try dsimp only at hF⊢
   obtain ⟨hf0,hf1⟩:=hF
   have s6:=hp 6 rfl
   have s4:=D 6 4 rfl s6
   have s2:=D 4 2 rfl s4
   have hok4:=hf0 s2
   have hle5:=hf1 s2
   refine bZ hp [30,32] rfl rfl ?_
   refine bN Tryz.call37 rfl (zS c.bud c.slots (by omega)) ?_
   rintro _ _ ⟨p9,rfl,rfl⟩
   refine dL ?_
   refine c9 (nf (nf hS D (k:=20) (i:=11) rfl) D (k:=21) (i:=20) rfl) ?_
   refine fG (A:=(bI b12 [(vI c.bud),(vI c.slots),(vI c.act),(vI c.que),(vI c.tries),(vI c.pre),(vI c.tmo),(vI c.bak),(vI c.most),(vI c.qu),(.slice bs2 n cp3),(.slice none 0 0),(.slice none 0 0),(vP p6 0),(vP p7 0),(vP p9 0),(vP p10 0),(vP p11 0),(vI 0),(vI 0),(.slice none 0 0)] 73)) (nf (nf hS D (k:=20) (i:=11) rfl) D (k:=21) (i:=20) rfl) ?_
   refine dL (dL (dL (dL (dL (dL (dL (dL (dL ?_))))))))
   refine bO (fun _ h=>cX [_,_,_,_,_] h) ?_
   exact cK hp hS (ti (hK (bs2,cp3,p6,p7,q8,p9,p10,p11,b12) ⟨hf0,hf1⟩)) rfl rfl rfl
  ·rintro ⟨bs2,cp3,p6,p7,q8,p9,p10,p11,b12⟩ S hF hS D hp K hK
   try dsimp only at hF⊢
   obtain ⟨hf0,hf1⟩:=hF
   have s11:=hp 11 rfl
   have s6:=D 11 6 rfl s11
   have s4:=D 6 4 rfl s6
   have s2:=D 4 2 rfl s4
   have hok4:=hf0 s2
   have hle5:=hf1 s2
   refine bZ hp [35,37] rfl rfl ?_
   refine bN Tryz.call38 rfl (Al c.act c.que) ?_
   rintro _ _ ⟨p10,rfl,rfl⟩
   refine dL ?_
   refine c9 (nf (nf hS D (k:=20) (i:=16) rfl) D (k:=21) (i:=20) rfl) ?_
   refine fG (A:=(bI b12 [(vI c.bud),(vI c.slots),(vI c.act),(vI c.que),(vI c.tries),(vI c.pre),(vI c.tmo),(vI c.bak),(vI c.most),(vI c.qu),(.slice bs2 n cp3),(.slice none 0 0),(.slice none 0 0),(vP p6 0),(vP p7 0),(vP p9 0),(vP p10 0),(vP p11 0),(vI 0),(vI 0),(.slice none 0 0)] 73)) (nf (nf hS D (k:=20) (i:=16) rfl) D (k:=21) (i:=20) rfl) ?_
   refine dL (dL (dL (dL (dL (dL (dL (dL (dL ?_))))))))
   refine bO (fun _ h=>cX [_,_,_,_,_,_] h) ?_
   exact cK hp hS (ti (hK (bs2,cp3,p6,p7,q8,p9,p10,p11,b12) ⟨hf0,hf1⟩)) rfl rfl rfl
  ·rintro ⟨bs2,cp3,p6,p7,q8,p9,p10,p11,b12⟩ S hF hS D hp K hK
   try dsimp only at hF⊢
   obtain ⟨hf0,hf1⟩:=hF
   have s16:=hp 16 rfl
   have s11:=D 16 11 rfl s16
   have s6:=D 11 6 rfl s11
   have s4:=D 6 4 rfl s6
   have s2:=D 4 2 rfl s4
   have hok4:=hf0 s2
   have hle5:=hf1 s2
   refine bZ hp [40] rfl rfl ?_
   refine bN Tryz.call39 rfl (x9 c.qu) ?_
   rintro _ _ ⟨p11,rfl,rfl⟩
   refine dL ?_
   refine c9 (nf (nf hS D (k:=20) (i:=19) rfl) D (k:=21) (i:=20) rfl) ?_
   refine fG (A:=(bI b12 [(vI c.bud),(vI c.slots),(vI c.act),(vI c.que),(vI c.tries),(vI c.pre),(vI c.tmo),(vI c.bak),(vI c.most),(vI c.qu),(.slice bs2 n cp3),(.slice none 0 0),(.slice none 0 0),(vP p6 0),(vP p7 0),(vP p9 0),(vP p10 0),(vP p11 0),(vI 0),(vI 0),(.slice none 0 0)] 73)) (nf (nf hS D (k:=20) (i:=19) rfl) D (k:=21) (i:=20) rfl) ?_
   refine dL (dL (dL (dL (dL (dL (dL (dL (dL ?_))))))))
   refine bO (fun _ h=>cX [_,_,_,_,_,_,_] h) ?_
   exact cK hp hS (ti (hK (bs2,cp3,p6,p7,q8,p9,p10,p11,b12) ⟨hf0,hf1⟩)) rfl rfl rfl
  ·rintro ⟨bs2,cp3,p6,p7,q8,p9,p10,p11,b12⟩ S hF hS D hp K hK
   try dsimp only at hF⊢
   obtain ⟨hf0,hf1⟩:=hF
   have s2:=hp 2 rfl
   have hok4:=hf0 s2
   have hle5:=hf1 s2
   refine bZ hp [22,24,26,28,33,38,41] rfl rfl ?_
   refine tp rfl (bG (cs:=[(vI c.bud),(vI c.slots),(vI c.act),(vI c.que),(vI c.tries),(vI c.pre),(vI c.tmo),(vI c.bak),(vI c.most),(vI c.qu),(.slice bs2 n cp3),(.slice none 0 0),(.slice none 0 0),(vP p6 0),(vP p7 0),(vP p9 0),(vP p10 0),(vP p11 0),(vI 0),(vI 0),(.slice none 0 0)]) (pl:=[(0,10),(10,1),(11,1),(12,1),(13,1),(14,1),(15,1),(16,1),(17,1),(18,1),(19,1),(20,1)]) CJ Tryz.zeroValue73 (fun _=>by simp) rfl rfl) ?_
   exact cK hp hS (ti (hK (bs2,cp3,p6,p7,q8,p9,p10,p11,b12) ⟨hf0,hf1⟩)) rfl rfl rfl
  ·rintro ⟨bs2,cp3,p6,p7,q8,p9,p10,p11,b12⟩ S hF hS D hp K hK
   try dsimp only at hF⊢
   obtain ⟨hf0,hf1⟩:=hF
   have s20:=hp 20 rfl
   have s2:=D 20 2 rfl s20
   have hok4:=hf0 s2
   have hle5:=hf1 s2
   refine bZ hp [42] rfl rfl ?_
   refine tm rfl (cZ rfl rfl) ?_
   rintro _ _ ⟨b12,rfl,rfl⟩
   refine bO (fun _ h=>cX [_,_,_,_,_,_,_,_] h) ?_
   exact cK hp hS (ti (hK (bs2,cp3,p6,p7,q8,p9,p10,p11,b12) ⟨hf0,hf1⟩)) rfl rfl rfl
 ·rintro ⟨bs2,cp3,p6,p7,q8,p9,p10,p11,b12⟩ hF
  try dsimp only at hF⊢
  obtain ⟨hf0,hf1⟩:=hF
  have hok4:=hf0 rfl
  have hle5:=hf1 rfl
  refine az (E':=[(0,(.agg #[(vI c.bud),(vI c.slots),(vI c.act),(vI c.que),(vI c.tries),(vI c.pre),(vI c.tmo),(vI c.bak),(vI c.most),(vI c.qu)])),(1,(.slice bb n cb)),(2,(vP b1 0)),(4,(.pointer none)),(5,(vI 0)),(6,(vI 0)),(7,(vN n)),(8,(vP b12 0)),(15,(.bool false)),(19,(.bool false))]) ⟨rfl,rfl,rfl,rfl,rfl,rfl,rfl,rfl,rfl,rfl,trivial⟩ ?_
  refine qn hK8 (ai (fun _ hK9=>av (fun _ hK10=>?_)))
  have hcl:cT (n:Int)=n:=by unfold cT;omega
  rw [hcl]
  refine ag rfl (tp rfl (bC CY rfl rfl) (ag rfl (td hK10 (aH ?_))))
  refine bO (fun _ h=>cz 64 1 h) ?_
  refine xh (κ:=Nat×Nat) tf Prod.fst pd ?_
  refine xh (κ:=Nat×Nat) py Prod.snd (fun _=>fD) ?_
  refine cE (γ:=(Nat)×(List (Nat×Nat))×(Option Addr)×(Nat)) (fun (k,ks,bt,ct)=>k≤n∧ks.length=k∧bB bt k∧k≤ct) (fun (k,ks,bt,ct)=>[(0,(.agg #[(vI c.bud),(vI c.slots),(vI c.act),(vI c.que),(vI c.tries),(vI c.pre),(vI c.tmo),(vI c.bak),(vI c.most),(vI c.qu)])),(1,(.slice bb n cb)),(2,(vP b1 0)),(6,(vI 0)),(7,(vN n)),(8,(vP b12 0)),(15,(.bool false)),(19,(.bool false)),(44,(.slice bb n cb)),(45,(vN n)),(46,(vN k))]) (fun (k,ks,bt,ct)=>(cI (e9 py Prod.snd (fun _=>fD) ks (List.replicate k (j5 c))))::(cI (e9 tf Prod.fst pd ks ((al.map kc).take k)))::(SlV 64 1 (.slice bt k ct) k (bJ dJ (ks.map Prod.fst)))::(bI b1 [(vI c.bud),(vI c.slots),(vI c.act),(vI c.que),(vI c.tries),(vI c.pre),(vI c.tmo),(vI c.bak),(vI c.most),(vI c.qu)] 23)::(SlV 57 2 (.slice bs2 n cp3) n (df al))::(aT p6 n [])::(bI p7 [(vP q8 0)] 132)::(cL q8 (b8 (n:Int)) (List.replicate (b8 (n:Int)) none))::(dz p9 ⟨max c.bud 0,(min (max c.slots 0) 16).toNat,List.replicate 16 Pl.z,0⟩)::(dv p10 (max c.act 1) (max c.que 0) ⟨[],[]⟩)::(bF p11 (BX c.qu) [] 0)::(bI b12 [(vI c.bud),(vI c.slots),(vI c.act),(vI c.que),(vI c.tries),(vI c.pre),(vI c.tmo),(vI c.bak),(vI c.most),(vI c.qu),(.slice bs2 n cp3),(.slice bt k ct),(.slice none 0 0),(vP p6 0),(vP p7 0),(vP p9 0),(vP p10 0),(vP p11 0),(vI 0),(vI 0),(.slice none 0 0)] 73)::R) (fun (k,ks,bt,ct)=>n-k) (0,[],none,0) ⟨Nat.zero_le _,rfl,cn,Nat.le_refl _⟩ ⟨rfl,rfl,rfl,rfl,rfl,rfl,rfl,rfl,rfl,rfl,rfl,trivial⟩ (fun _ h=>h) ?_
  rintro ⟨k,ks,bt,ct⟩ K11 hF hK11
  try dsimp only at hF hK11⊢
  obtain ⟨hk,hkl,hok,hle⟩:=hF
  refine av (fun _ hK12=>?_)
  by_cases h13:(k:Int)< (n:Int)
  ·refine tp rfl (aJ rfl rfl (decide_eq_true h13)) (td hK12 (ai (fun _ hK13=>aG rfl (dp hK13 (ai (fun _ hK14=>aH (ai (fun _ hK15=>?_))))))))
   refine aj (tp rfl (ah (k':=k*2) CY Dl rfl rfl okb (by omega) (by omega) (by omega)) ?_)
   refine tp rfl (cU (cs:=[(vI (((al).getD k (0,0)).1)),(vI (((al).getD k (0,0)).2))]) Tryz.isAgg57 Dl rfl (fW (Rd.gives (Rd.cons (Rd.cons (Rd.cons (Rd.cons (Rd.cons (Rd.cons (Rd.cons (Rd.cons (Rd.cons (Rd.cons (Rd.cons (Rd.cons hb)))))))))))) (gv (by omega))) (Rd.gives (Rd.cons (Rd.cons (Rd.cons (Rd.cons (Rd.cons (Rd.cons (Rd.cons (Rd.cons (Rd.cons (Rd.cons (Rd.cons (Rd.cons hb)))))))))))) (hY (by omega))))) ?_
   refine tm rfl (cD Eb rfl) ?_
   rintro _ _ ⟨b14,rfl,rfl⟩
   refine ts (bn (news:=[(vI (((al).getD k (0,0)).1)),(vI (((al).getD k (0,0)).2))]) Dl rfl rfl rfl rfl (nB rfl) rfl) ?_
   refine td hK15 (ai (fun _ hK16=>av (fun _ hK17=>?_)))
   have hal1:=hal k (by omega)
   refine tp rfl (cB (cs:=[(vI (((al).getD k (0,0)).1)),(vI (((al).getD k (0,0)).2))]) Tryz.isAgg57 Dl rfl (fW (aa (.head _) rfl) (aa (.head _) rfl))) ?_
   refine bN Tryz.call40 rfl (yj hal1) ?_
   rintro _ _ ⟨rfl,rfl⟩
   refine aA rfl (td hK17 (av (fun _ hK18=>ag rfl (tp rfl (cG (r:=false) rfl rfl (by decide)) ?_))))
   refine td hK18 (ar rfl (dp hK16 ?_))
   refine bz (γ:=Nat×Nat×Option Addr×Nat×Option Addr×Nat) (n:=18) Tryz.mixed rfl rfl (fun (p15,b16,bs17,cp18,bs21,cp22) S=>(S 13=true→bB bs17 1)∧(S 13=true→1≤cp18)∧(S 14=true→bB bs21 (k+1))∧(S 14=true→k+1≤cp22)) (fun (p15,b16,bs17,cp18,bs21,cp22)=>[(0,55,(vP b12 0)),(1,56,(vP b12 0)),(2,57,(vP b12 0)),(3,58,(vP b12 11)),(4,59,(.slice bt k ct)),(5,60,(.agg #[(vI (((al).getD k (0,0)).1)),(vI (((al).getD k (0,0)).2))])),(6,61,(vP b1 4)),(7,62,(vI c.tries)),(8,63,(vP b1 5)),(9,64,(vI c.pre)),(10,65,(vP p15 0)),(11,66,(.agg #[(vI (((al).getD k (0,0)).1)),(vI (((al).getD k (0,0)).2)),(vP p15 0),(vI (-1)),(vI 0),(.slice none 0 0)])),(12,67,(vP b16 0)),(13,68,(.slice bs17 1 cp18)),(14,69,(.slice bs21 (k+1) cp22)),(15,70,(vP b12 0)),(16,71,(vP b12 11))]) (fun (p15,b16,bs17,cp18,bs21,cp22) S=>(bI b14 [(vI (((al).getD k (0,0)).1)),(vI (((al).getD k (0,0)).2))] 57)::(cI (e9 py Prod.snd (fun _=>fD) ks (List.replicate k (j5 c))))::(cI (e9 tf Prod.fst pd ks ((al.map kc).take k)))::(bif S 14 then (SlV 64 1 (.slice bs21 (k+1) cp22) (k+1) (bJ dJ ((ks.map Prod.fst)++[b16]))) else (SlV 64 1 (.slice bt k ct) k (bJ dJ (ks.map Prod.fst))))::(bI b1 [(vI c.bud),(vI c.slots),(vI c.act),(vI c.que),(vI c.tries),(vI c.pre),(vI c.tmo),(vI c.bak),(vI c.most),(vI c.qu)] 23)::(SlV 57 2 (.slice bs2 n cp3) n (df al))::(aT p6 n [])::(bI p7 [(vP q8 0)] 132)::(cL q8 (b8 (n:Int)) (List.replicate (b8 (n:Int)) none))::(dz p9 ⟨max c.bud 0,(min (max c.slots 0) 16).toNat,List.replicate 16 Pl.z,0⟩)::(dv p10 (max c.act 1) (max c.que 0) ⟨[],[]⟩)::(bF p11 (BX c.qu) [] 0)::(bif S 17 then (bI b12 [(vI c.bud),(vI c.slots),(vI c.act),(vI c.que),(vI c.tries),(vI c.pre),(vI c.tmo),(vI c.bak),(vI c.most),(vI c.qu),(.slice bs2 n cp3),(.slice bs21 (k+1) cp22),(.slice none 0 0),(vP p6 0),(vP p7 0),(vP p9 0),(vP p10 0),(vP p11 0),(vI 0),(vI 0),(.slice none 0 0)] 73) else (bI b12 [(vI c.bud),(vI c.slots),(vI c.act),(vI c.que),(vI c.tries),(vI c.pre),(vI c.tmo),(vI c.bak),(vI c.most),(vI c.qu),(.slice bs2 n cp3),(.slice bt k ct),(.slice none 0 0),(vP p6 0),(vP p7 0),(vP p9 0),(vP p10 0),(vP p11 0),(vI 0),(vI 0),(.slice none 0 0)] 73))::(bif S 10 then (bI p15 [(vI 0),(vI 0),(vI 0),(vI 0),(vI (max c.tries 1)),(vI (max c.pre 0))] 92) else ib)::(bif S 12 then (bI b16 [(vI (((al).getD k (0,0)).1)),(vI (((al).getD k (0,0)).2)),(vP p15 0),(vI (-1)),(vI 0),(.slice none 0 0)] 76) else ib)::(bif S 13 then (SlV 64 1 (.slice bs17 1 cp18) 1 [(vP b16 0)]) else ib)::R) (0,0,none,0,none,0) (by simp [Nat.ble]) (fun _ h=>ef [_,_,_,_,_,_,_,_,_,_,_,_,_] 3 h) (fun _ _ h=>h) ?_ ?_
   ·refine ⟨ga fun ⟨_,_,_,_,_,_⟩=>da,ga fun ⟨_,_,_,_,_,_⟩=>da,ga fun ⟨_,_,_,_,_,_⟩=>fx,ga fun ⟨_,_,_,_,_,_⟩=>dF CJ rfl C9,?_,?_,ga fun ⟨_,_,_,_,_,_⟩=>dF CW rfl CG,ga fun ⟨_,_,_,_,_,_⟩=>gG CH fun _=>aa (.tail _ (.tail _ (.tail _ (.tail _ (.head _))))) rfl,ga fun ⟨_,_,_,_,_,_⟩=>dF CW rfl CG,ga fun ⟨_,_,_,_,_,_⟩=>gG CH fun _=>aa (.tail _ (.tail _ (.tail _ (.tail _ (.head _))))) rfl,?_,?_,?_,?_,?_,ga fun ⟨_,_,_,_,_,_⟩=>fx,ga fun ⟨_,_,_,_,_,_⟩=>dF CJ rfl C9,?_,trivial⟩
    ·rintro ⟨p15,b16,bs17,cp18,bs21,cp22⟩ S hF hS D hp K hK;try dsimp only
     exact bH (bE hp 3 rfl rfl) (bP Dc rfl (aa (cF (nf hS D (k:=17) (i:=4) rfl) (.tail _ (.tail _ (.tail _ (.tail _ (.tail _ (.tail _ (.tail _ (.tail _ (.tail _ (.tail _ (.tail _ (.tail _ (.head _)))))))))))))) rfl)) 4 rfl rfl hS (hK (p15,b16,bs17,cp18,bs21,cp22) hF)
    ·rintro ⟨p15,b16,bs17,cp18,bs21,cp22⟩ S hF hS D hp K hK;try dsimp only
     exact bH (qT (t:=10) rfl rfl) (cB (cs:=[(vI (((al).getD k (0,0)).1)),(vI (((al).getD k (0,0)).2))]) Tryz.isAgg57 Dl rfl (fW (aa (.head _) rfl) (aa (.head _) rfl))) 5 rfl rfl hS (hK (p15,b16,bs17,cp18,bs21,cp22) hF)
    ·rintro ⟨p15,b16,bs17,cp18,bs21,cp22⟩ S hF hS D hp K hK
     try dsimp only at hF⊢
     obtain ⟨hf0,hf1,hf2,hf3⟩:=hF
     refine bZ hp [62,64] rfl rfl ?_
     refine bN Tryz.call41 rfl (zE c.tries c.pre) ?_
     rintro _ _ ⟨p15,rfl,rfl⟩
     refine dN ?_
     refine c9 (nf (nf hS D (k:=11) (i:=10) rfl) D (k:=12) (i:=11) rfl) ?_
     refine fG (A:=(bI b16 [(vI (((al).getD k (0,0)).1)),(vI (((al).getD k (0,0)).2)),(vP p15 0),(vI (-1)),(vI 0),(.slice none 0 0)] 76)) (nf (nf hS D (k:=11) (i:=10) rfl) D (k:=12) (i:=11) rfl) ?_
     refine dN (dN (dN (dN (dN (dN (dN (dN (dN (dN ?_)))))))))
     refine dN (dN (dN (dN (dN ?_))))
     refine bO (fun _ h=>cX [_,_,_,_,_,_,_,_,_,_,_,_,_] h) ?_
     exact cK hp hS (ti (hK (p15,b16,bs17,cp18,bs21,cp22) ⟨hf0,hf1,hf2,hf3⟩)) rfl rfl rfl
    ·rintro ⟨p15,b16,bs17,cp18,bs21,cp22⟩ S hF hS D hp K hK;try dsimp only
     exact bV (bE hp 5 rfl rfl) (bE hp 10 rfl rfl) (bG (cs:=[(vI (((al).getD k (0,0)).1)),(vI (((al).getD k (0,0)).2)),(vP p15 0),(vI (-1)),(vI 0),(.slice none 0 0)]) (pl:=[(0,2),(2,1),(3,1),(4,1),(5,1)]) CP Tryz.zeroValue76 (fun _=>by simp) rfl rfl) 11 rfl rfl hS (hK (p15,b16,bs17,cp18,bs21,cp22) hF)
    ·rintro ⟨p15,b16,bs17,cp18,bs21,cp22⟩ S hF hS D hp K hK
     try dsimp only at hF⊢
     obtain ⟨hf0,hf1,hf2,hf3⟩:=hF
     refine bZ hp [66] rfl rfl ?_
     refine aS ?_
     refine c9 (nf (nf hS D (k:=13) (i:=12) rfl) D (k:=14) (i:=13) rfl) ?_
     refine tm rfl (cZ rfl rfl) ?_
     rintro _ _ ⟨b16,rfl,rfl⟩
     refine aE ?_
     refine fG (A:=(SlV 64 1 (.slice bs21 (k+1) cp22) (k+1) (bJ dJ ((ks.map Prod.fst)++[b16])))) (nf (nf hS D (k:=13) (i:=12) rfl) D (k:=14) (i:=13) rfl) ?_
     refine iq ?_
     refine c9 (nf hS D (k:=13) (i:=12) rfl) ?_
     refine fG (A:=(SlV 64 1 (.slice bs17 1 cp18) 1 [(vP b16 0)])) (nf hS D (k:=13) (i:=12) rfl) ?_
     refine iq (iq (iq (iq (iq (iq (iq (iq (iq (iq ?_)))))))))
     refine iq (eH (iq (iq (iq (iq ?_)))))
     refine bO (fun _ h=>cX [_,_,_,_,_,_,_,_,_,_,_,_,_,_] h) ?_
     exact cK hp hS (ti (hK (p15,b16,bs17,cp18,bs21,cp22) ⟨hf0,hf1,hf2,hf3⟩)) rfl rfl rfl
    ·rintro ⟨p15,b16,bs17,cp18,bs21,cp22⟩ S hF hS D hp K hK
     try dsimp only at hF⊢
     obtain ⟨hf0,hf1,hf2,hf3⟩:=hF
     refine bZ hp [67] rfl rfl ?_
     refine tm rfl (aD (cs:=[(vP b16 0)]) C6 De Tryz.zeroValue64 (by decide) rfl rfl rfl rfl) ?_
     rintro _ _ ⟨bs17,cp18,hok19,hle20,rfl,rfl⟩
     refine bO (fun _ h=>cX [_,_,_,_,_,_,_,_,_,_,_,_,_,_,_] h) ?_
     exact cK hp hS (ti (hK (p15,b16,bs17,cp18,bs21,cp22) ⟨(fun _=>hok19),(fun _=>hle20),hf2,hf3⟩)) rfl rfl rfl
    ·rintro ⟨p15,b16,bs17,cp18,bs21,cp22⟩ S hF hS D hp K hK
     try dsimp only at hF⊢
     obtain ⟨hf0,hf1,hf2,hf3⟩:=hF
     have s13:=hp 13 rfl
     have hok19:=hf0 s13
     have hle20:=hf1 s13
     refine bZ hp [59,68] rfl rfl ?_
     refine aS ?_
     refine c9 hS ?_
     refine eH ?_
     refine c9 (nf hS D (k:=17) (i:=14) rfl) ?_
     refine rC ?_
     have s10:=hp 10 rfl
     refine jJ s10 ?_
     refine im ?_
     have s12:=D 13 12 rfl s13
     refine jJ s12 ?_
     refine dN ?_
     refine jJ s13 ?_
     refine de ?_
     refine tm rfl (cR (i:=Tryz.t64) C6 Tryz.type64 rfl rfl rfl (by decide) rfl rfl hok19 (by first| (simp;done)| (simp;omega)) (cj (.tail _ (.head _))) (by simp [Value.oneCell']) (by rw [show Tryz.t64.bytes=8 from rfl];omega)) ?_
     rintro _ _ ⟨bs21,cp22,hok23,hle24,rfl,rfl⟩
     rw [show bJ dJ (ks.map Prod.fst)++[(.pointer (some ⟨b16,0,none⟩))]=bJ dJ ((ks.map Prod.fst)++[b16]) from iG dJ (ks.map Prod.fst) b16]
     refine de ?_
     refine fG (A:=(bI b12 [(vI c.bud),(vI c.slots),(vI c.act),(vI c.que),(vI c.tries),(vI c.pre),(vI c.tmo),(vI c.bak),(vI c.most),(vI c.qu),(.slice bs2 n cp3),(.slice bs21 (k+1) cp22),(.slice none 0 0),(vP p6 0),(vP p7 0),(vP p9 0),(vP p10 0),(vP p11 0),(vI 0),(vI 0),(.slice none 0 0)] 73)) (nf hS D (k:=17) (i:=14) rfl) ?_
     refine de ?_
     refine lZ (B:=ib) s10 ?_
     refine de ?_
     refine lZ (B:=ib) s12 ?_
     refine de ?_
     refine lZ (B:=ib) s13 ?_
     refine aE (aR (aS (dN (dN (dN (dN (dN (dN (dN ?_)))))))))
     refine dN (eH (dN (dN (dN ?_))))
     exact cK hp hS (ti (hK (p15,b16,bs17,cp18,bs21,cp22) ⟨hf0,hf1,(fun _=>hok23),(fun _=>hle24)⟩)) rfl rfl rfl
    ·rintro ⟨p15,b16,bs17,cp18,bs21,cp22⟩ S hF hS D hp K hK
     try dsimp only at hF⊢
     obtain ⟨hf0,hf1,hf2,hf3⟩:=hF
     have s13:=hp 13 rfl
     have hok19:=hf0 s13
     have hle20:=hf1 s13
     have s14:=hp 14 rfl
     have hok23:=hf2 s14
     have hle24:=hf3 s14
     refine bZ hp [69,71] rfl rfl ?_
     refine eH ?_
     refine c9 hS ?_
     refine ts (cM C9 rfl rfl rfl (nB rfl) rfl) ?_
     refine eH (eH (eH (eH (eH (eH (eH (eH (eH (eH ?_)))))))))
     refine eH (eH ?_)
     exact gE hp (ti (hK (p15,b16,bs17,cp18,bs21,cp22) ⟨hf0,hf1,hf2,hf3⟩)) rfl rfl rfl
   ·rintro ⟨p15,b16,bs17,cp18,bs21,cp22⟩ hF
    try dsimp only at hF⊢
    obtain ⟨hf0,hf1,hf2,hf3⟩:=hF
    have hok19:=hf0 rfl
    have hle20:=hf1 rfl
    have hok23:=hf2 rfl
    have hle24:=hf3 rfl
    refine az (E':=[(0,(.agg #[(vI c.bud),(vI c.slots),(vI c.act),(vI c.que),(vI c.tries),(vI c.pre),(vI c.tmo),(vI c.bak),(vI c.most),(vI c.qu)])),(1,(.slice bb n cb)),(2,(vP b1 0)),(6,(vI 0)),(7,(vN n)),(8,(vP b12 0)),(10,(vP b14 0)),(11,(vI 0)),(15,(.bool false)),(19,(.bool false)),(44,(.slice bb n cb)),(45,(vN n)),(46,(vN k)),(47,(.bool true)),(53,(.bool false))]) ⟨rfl,rfl,rfl,rfl,rfl,rfl,rfl,rfl,rfl,rfl,rfl,rfl,rfl,rfl,rfl,trivial⟩ ?_
    refine aZ (qn hK14 (aj (tp rfl (aX (c:=((k+1:Nat):Int)) rfl rfl (aB (by omega))) ?_)))
    refine ag rfl (aI (aN (aR (im ?_))))
    refine tw (pk:=Prod.fst) (F:=pd) (b16,p15) (kc (al.getD k (0,0))) (by rw [hkl,List.length_take,List.length_map];omega) rfl rfl ?_
    rw [tO (by omega)]
    refine aR (rC ?_)
    refine tw (pk:=Prod.snd) (F:=fun _=>fD) (b16,p15) (j5 c) (by rw [hkl,List.length_replicate]) rfl rfl ?_
    rw [tU]
    rw [show ks.map Prod.fst++[b16]=(ks++[(b16,p15)]).map Prod.fst from by simp]
    refine aR (ak (eH (ak ?_)))
    exact az (by exact ⟨rfl,rfl,rfl,rfl,rfl,rfl,rfl,rfl,rfl,rfl,rfl,trivial⟩) ((hK11 (k+1,ks++[(b16,p15)],bs21,cp22) ⟨by omega,by rw [List.length_append,hkl];rfl,hok23,hle24⟩ (by dsimp only;omega)))
  ·refine tp rfl (aJ rfl rfl (decide_eq_false h13)) (td hK12 (ai (fun _ hK13=>ar rfl (bT (au (au (bS (qn hK9 ?_))))))))
   refine av (fun _ hK14=>ag rfl (aA rfl (aA rfl (td hK14 (ay ?_)))))
   obtain rfl:k=n:=by omega
   rw [show (al.map kc).take k=al.map kc from List.take_of_length_le (by rw [List.length_map];omega)]
   refine aE (aR (de (iQ ?_)))
   refine xg hc hln hn hkl hok4 hle5 hok hle ?_
   refine aE (ak (cN (dM (aS (cN (cN (dM (dM ?_))))))))
   refine dc rfl rfl rfl ?_
   exact ⟨_,_,_,rfl,rfl,rfl,rfl⟩
end Go.Proofs.YtanfdikglplkaaaGreatDoor
set_option maxRecDepth 100000
namespace Go.Proofs.YtanfdikglplkaaaGreatDoor
open Go Go.Proofs Sp
set_option maxHeartbeats 4000000 in
theorem BW{R:List HP}{bx:Option Addr}{cx:Nat}(x y z:Int)(hr:Rd R bx (aF .i64 [x,y,z]))(okx:bB bx 3):
 Ok Tryz.prog 167 [(.slice bx 3 cx)] R
  (fun v M=>v=.int .i64 (By x y z)∧M=R):=by
 refine aP (N:=18) Tryz.func167 rfl rfl rfl (fun W=>?_)
 refine av (fun _ hK1=>aA rfl (td hK1 (av (fun _ hK2=>aA rfl (td hK2 ?_)))))
 refine ai (fun _ hK3=>av (fun _ hK4=>ag rfl (tp rfl (bC CI rfl rfl) (ag rfl (td hK4 (aH ?_))))))
 refine cE (γ:=(Nat)) (fun (k:Nat)=>k≤3∧∀j,j<k→[x,y,z].getD j 0=0) (fun (k:Nat)=>[(0,(.slice bx 3 cx)),(3,(vI 0)),(6,(.slice bx 3 cx)),(7,(vI 3)),(8,(vN k))]) (fun (k:Nat)=>R) (fun (k:Nat)=>3-k) (0) ⟨by omega,fun j hj=>by omega⟩ ⟨rfl,rfl,rfl,rfl,rfl,trivial⟩ (fun _ h=>h) ?_
 rintro k K5 hF hK5
 try dsimp only at hF hK5⊢
 obtain ⟨hk,hall⟩:=hF
 refine av (fun _ hK6=>?_)
 by_cases h1:(k:Int)<3
 ·refine tp rfl (aJ rfl rfl (decide_eq_true h1)) (td hK6 (ai (fun _ hK7=>aG rfl (dp hK7 (ai (fun _ hK8=>aH (ai (fun _ hK9=>?_))))))))
  refine aj (tp rfl (ah (k':=k) CI CG rfl rfl okx (by omega) (by omega) (by omega)) ?_)
  refine bK CH rfl (Rd.gives hr (aQ (show k< [x,y,z].length by show k<3;omega))) ?_
  refine aA rfl (td hK9 (av (fun _ hK10=>ag rfl (ag rfl ?_))))
  by_cases h2:(([x,y,z]).getD k 0)=0
  ·refine tp rfl (cG rfl rfl (bne_eq_false_iff_eq.2 h2)) (td hK10 (ar rfl (cS (aZ (qn hK8 (aj (tp rfl (aX (c:=((k+1:Nat):Int)) rfl rfl (aB (by omega))) ?_)))))))
   refine ag rfl (aI (aN ?_))
   exact az (by exact ⟨rfl,rfl,rfl,rfl,rfl,trivial⟩) ((hK5 (k+1) ⟨by omega,fun j hj=>by rcases Nat.lt_succ_iff_lt_or_eq.1 hj with h|h;exact hall j h;subst h;(first|assumption| (exact Classical.byContradiction ‹_›))⟩ (by omega)))
  ·refine tp rfl (cG rfl rfl (bne_iff_ne.2 h2)) (td hK10 (aG rfl (av (fun _ hK11=>ag rfl (aA rfl (td hK11 ?_))))))
   refine ay ?_
   refine cH ?_
   refine aK ?_
   refine aK ?_
   refine cH ?_
   refine aK ?_
   refine aM rfl rfl ?_
   refine ⟨?_,rfl⟩
   rcases (show k=0∨k=1∨k=2 by omega) with h|h|h <;>subst h
   ·exact congrArg (Value.int .i64) (if_pos ‹_›).symm
   ·have h0:=hall 0 (by omega)
    exact congrArg (Value.int .i64) (by unfold By;rw [if_neg (fun hh=>hh h0),if_pos (by assumption)];rfl)
   ·have h0:=hall 0 (by omega)
    have h1:=hall 1 (by omega)
    exact congrArg (Value.int .i64) (by unfold By;rw [if_neg (fun hh=>hh h0),if_neg (fun hh=>hh h1)];rfl)
 ·refine tp rfl (aJ rfl rfl (decide_eq_false h1)) (td hK6 (ai (fun _ hK7=>ar rfl (bT (au (au (bS (qn hK3 ?_))))))))
  refine av (fun _ hK8=>ag rfl (aA rfl (td hK8 (ay ?_))))
  refine aM rfl rfl ?_
  have h0:=hall 0 (by omega)
  have h1:=hall 1 (by omega)
  have h2:=hall 2 (by omega)
  exact ⟨by rw [show x=0 from h0,show y=0 from h1,show z=0 from h2];rfl,rfl⟩
theorem rT{R:List HP}(x:Int):
 Ok Tryz.prog 175 [(vI x)] R
  (fun v M=>v=.bool false∧M=R):=by
 refine aP (N:=6) Tryz.func175 rfl rfl rfl (fun W=>?_)
 refine av (fun _ hK1=>aA rfl (td hK1 (av (fun _ hK2=>ag rfl (ag rfl (tp rfl (cG rfl rfl (bne_eq_false_iff_eq.2 rfl)) ?_))))))
 refine aA rfl (td hK2 (ay ?_))
 refine aM rfl rfl ?_
 exact ⟨rfl,rfl⟩
set_option maxHeartbeats 4000000 in
theorem qv{R:List HP}(x y:Int):
 Ok Tryz.prog 168 [(vI x),(vI y)] R
  (fun v M=>v=.int .i64 (gX x y)∧M=R):=by
 refine aP (N:=20) Tryz.func168 rfl rfl rfl (fun W=>?_)
 refine av (fun _ hK1=>aA rfl (td hK1 (av (fun _ hK2=>ag rfl ?_))))
 refine bN Tryz.call175 rfl (rT x) ?_
 rintro _ _ ⟨rfl,hMR⟩
 rw [hMR];clear hMR
 refine aA rfl (td hK2 (av (fun _ hK3=>ag rfl ?_)))
 refine bN Tryz.call175 rfl (rT y) ?_
 rintro _ _ ⟨rfl,hMR⟩
 rw [hMR];clear hMR
 refine aA rfl (td hK3 (ai (fun _ hK4=>av (fun K5 hK5=>ag rfl (td hK5 (ar rfl ?_))))))
 refine dp hK4 (ai (fun _ hK6=>av (fun _ hK7=>ag rfl (td hK7 (ar rfl (cS ?_))))))
 refine qn hK6 (ai (fun _ hK8=>av (fun _ hK9=>ag rfl (ag rfl ?_))))
 by_cases h1:x<y
 ·refine tp rfl (aJ rfl rfl (decide_eq_true h1)) (td hK9 (aG rfl (av (fun _ hK10=>aA rfl (td hK10 (ay ?_))))))
  refine aK ?_
  refine aM rfl rfl ?_
  exact ⟨by unfold gX;first|rw [if_pos ‹_›]|rw [if_neg ‹_›,if_pos ‹_›]|rw [if_neg ‹_›,if_neg ‹_›],rfl⟩
 ·refine tp rfl (aJ rfl rfl (decide_eq_false h1)) (td hK9 (ar rfl (dp hK8 (ai (fun _ hK10=>av (fun _ hK11=>ag rfl ?_))))))
  refine ag rfl ?_
  by_cases h2:x>y
  ·refine tp rfl (cu rfl rfl (decide_eq_true h2)) (td hK11 (aG rfl (av (fun _ hK12=>aA rfl (td hK12 (ay ?_))))))
   refine aK ?_
   refine aM rfl rfl ?_
   exact ⟨by unfold gX;first|rw [if_pos ‹_›]|rw [if_neg ‹_›,if_pos ‹_›]|rw [if_neg ‹_›,if_neg ‹_›],rfl⟩
  ·refine tp rfl (cu rfl rfl (decide_eq_false h2)) (td hK11 (ar rfl (dp hK10 (av (fun _ hK12=>aA rfl (aI ?_))))))
   refine qn hK12 (ay ?_)
   refine aM rfl rfl ?_
   exact ⟨by unfold gX;first|rw [if_pos ‹_›]|rw [if_neg ‹_›,if_pos ‹_›]|rw [if_neg ‹_›,if_neg ‹_›],rfl⟩
theorem mS{R:List HP}(n:Int):
 Ok Tryz.prog 138 [(vI n)] R
  (fun v M=>v=.int .i64 (gx n)∧M=R):=by
 refine aP (N:=6) Tryz.func138 rfl rfl rfl (fun W=>?_)
 refine av (fun _ hK1=>aA rfl (td hK1 (av (fun _ hK2=>ag rfl (tp rfl (fm (c:=max n 0) rfl rfl rfl) (tp rfl (hO (c:=min (max n 0) 1048576) rfl rfl rfl) ?_))))))
 refine aA rfl (td hK2 (ay ?_))
 refine aM rfl rfl ?_
 exact ⟨rfl,rfl⟩
theorem n6{R:List HP}(f s p m o:Int):
 Ok Tryz.prog 144 [(.agg #[(vI f),(vI s)]),(.agg #[(vI p),(vI m),(vI o)])] R
  (fun v M=>v=.bool (decide (s≥1) && decide (m≤f))∧M=R):=by
 refine aP (N:=15) Tryz.func144 rfl rfl rfl (fun W=>?_)
 refine av (fun _ hK1=>?_)
 refine tm rfl (cZ rfl rfl) ?_
 rintro _ _ ⟨b1,rfl,rfl⟩
 refine tm rfl (cZ rfl rfl) ?_
 rintro _ _ ⟨b2,rfl,rfl⟩
 refine aA rfl (td hK1 (av (fun _ hK2=>bU 1 D2 rfl CG rfl rfl (bK CH rfl (aa (.tail _ (.head _)) rfl) ?_))))
 by_cases h3:s≥1
 ·refine tp rfl (cC rfl rfl (decide_eq_true h3)) (ag rfl ?_)
  refine ae rfl rfl ?_
  refine bU 1 Eu rfl CG rfl rfl ?_
  refine ae rfl rfl ?_
  refine bK CH rfl (aa (.head _) rfl) ?_
  refine ae rfl rfl ?_
  refine bU 0 D2 rfl CG rfl rfl ?_
  refine ae rfl rfl ?_
  refine bK CH rfl (aa (.tail _ (.head _)) rfl) ?_
  refine ae rfl rfl ?_
  refine tp rfl (rl rfl rfl rfl) (tp rfl (aL rfl rfl) (aA rfl (td hK2 (ay (ak (ak ?_))))))
  refine aM rfl rfl ?_
  exact ⟨by simp [*],rfl⟩
 ·refine tp rfl (cC rfl rfl (decide_eq_false h3)) (ag rfl ?_)
  refine aq rfl rfl rfl ?_
  refine aq rfl rfl rfl ?_
  refine aq rfl rfl rfl ?_
  refine aq rfl rfl rfl ?_
  refine aq rfl rfl rfl ?_
  refine tp rfl (aC rfl rfl) (aA rfl (td hK2 (ay (ak (ak ?_)))))
  refine aM rfl rfl ?_
  exact ⟨by simp [*],rfl⟩
theorem vX{R:List HP}(p m o:Int)(x:Ev):
 Ok Tryz.prog 141 [(.agg #[(vI p),(vI m),(vI o)]),(.agg #[(vI x.k),(vI x.t),(vI x.s),(vI x.e),(vI x.i)])] R
  (fun v M=>v=.bool (jC p o x)∧M=R):=by
 refine aP (N:=17) Tryz.func141 rfl rfl rfl (fun W=>?_)
 refine av (fun _ hK1=>?_)
 refine tm rfl (cZ rfl rfl) ?_
 rintro _ _ ⟨b1,rfl,rfl⟩
 refine tm rfl (cZ rfl rfl) ?_
 rintro _ _ ⟨b2,rfl,rfl⟩
 refine aA rfl (td hK1 (av (fun _ hK2=>bU 1 DH rfl CG rfl rfl (bK CH rfl (aa (.head _) rfl) (bU 0 Eu rfl CG rfl rfl (bK CH rfl (aa (.tail _ (.head _)) rfl) ?_))))))
 by_cases h3:x.t≥p
 ·refine tp rfl (cC rfl rfl (decide_eq_true h3)) (ag rfl ?_)
  refine aq rfl rfl rfl ?_
  refine aq rfl rfl rfl ?_
  refine aq rfl rfl rfl ?_
  refine aq rfl rfl rfl ?_
  refine aq rfl rfl rfl ?_
  refine tp rfl (aL rfl rfl) (aA rfl (td hK2 (ay (ak (ak ?_)))))
  refine aM rfl rfl ?_
  exact ⟨by simp [jC, *],rfl⟩
 ·refine tp rfl (cC rfl rfl (decide_eq_false h3)) (ag rfl ?_)
  refine ae rfl rfl ?_
  refine bU 3 DH rfl CG rfl rfl ?_
  refine ae rfl rfl ?_
  refine bK CH rfl (aa (.head _) rfl) ?_
  refine ae rfl rfl ?_
  refine bU 2 Eu rfl CG rfl rfl ?_
  refine ae rfl rfl ?_
  refine bK CH rfl (aa (.tail _ (.head _)) rfl) ?_
  refine ae rfl rfl ?_
  refine tp rfl (cC rfl rfl rfl) (tp rfl (aC rfl rfl) (aA rfl (td hK2 (ay (ak (ak ?_))))))
  refine aM rfl rfl ?_
  exact ⟨by simp [jC, *],rfl⟩
set_option maxHeartbeats 4000000 in
theorem tF{R:List HP}(x y:Ev):
 Ok Tryz.prog 143 [(.agg #[(vI x.k),(vI x.t),(vI x.s),(vI x.e),(vI x.i)]),(.agg #[(vI y.k),(vI y.t),(vI y.s),(vI y.e),(vI y.i)])] R
  (fun v M=>v=.int .i64 (Cs x y)∧M=R):=by
 refine aP (N:=22) Tryz.func143 rfl rfl rfl (fun W=>?_)
 refine av (fun _ hK1=>?_)
 refine tm rfl (cZ rfl rfl) ?_
 rintro _ _ ⟨b1,rfl,rfl⟩
 refine tm rfl (cZ rfl rfl) ?_
 rintro _ _ ⟨b2,rfl,rfl⟩
 refine aA rfl (td hK1 (ai (fun _ hK2=>?_)))
 refine bz (γ:=Option Addr×Nat) (n:=18) Tryz.mixed rfl rfl (fun (bs3,cp4) S=>(S 15=true→bB bs3 3)∧(S 15=true→3≤cp4)) (fun (bs3,cp4)=>[(0,5,(vP b1 1)),(1,6,(vI x.t)),(2,7,(vP b2 1)),(3,8,(vI y.t)),(4,9,(vI (gX x.t y.t))),(5,10,(vP b2 4)),(6,11,(vI y.i)),(7,12,(vP b1 4)),(8,13,(vI x.i)),(9,14,(vI (gX y.i x.i))),(10,15,(vP b2 0)),(11,16,(vI y.k)),(12,17,(vP b1 0)),(13,18,(vI x.k)),(14,19,(vI (gX y.k x.k))),(15,20,(.slice bs3 3 cp4)),(16,21,(vI (By (gX x.t y.t) (gX y.i x.i) (gX y.k x.k)))),(17,4,(vI (By (gX x.t y.t) (gX y.i x.i) (gX y.k x.k))))]) (fun (bs3,cp4) S=>(bI b2 [(vI y.k),(vI y.t),(vI y.s),(vI y.e),(vI y.i)] 195)::(bI b1 [(vI x.k),(vI x.t),(vI x.s),(vI x.e),(vI x.i)] 195)::(bif S 15 then (SlV 3 1 (.slice bs3 3 cp4) 3 [(vI (gX x.t y.t)),(vI (gX y.i x.i)),(vI (gX y.k x.k))]) else ib)::R) (none,0) (by simp [Nat.ble]) (fun _ h=>ef [_,_] 1 h) (fun _ _ h=>h) ?_ ?_
 ·refine ⟨ga fun ⟨_,_⟩=>dF DH rfl CG,ga fun ⟨_,_⟩=>gG CH fun _=>aa (.tail _ (.head _)) rfl,ga fun ⟨_,_⟩=>dF DH rfl CG,ga fun ⟨_,_⟩=>gG CH fun _=>aa (.head _) rfl,?_,ga fun ⟨_,_⟩=>dF DH rfl CG,ga fun ⟨_,_⟩=>gG CH fun _=>aa (.head _) rfl,ga fun ⟨_,_⟩=>dF DH rfl CG,ga fun ⟨_,_⟩=>gG CH fun _=>aa (.tail _ (.head _)) rfl,?_,ga fun ⟨_,_⟩=>dF DH rfl CG,ga fun ⟨_,_⟩=>gG CH fun _=>aa (.head _) rfl,ga fun ⟨_,_⟩=>dF DH rfl CG,ga fun ⟨_,_⟩=>gG CH fun _=>aa (.tail _ (.head _)) rfl,?_,?_,?_,ga fun ⟨_,_⟩=>kj,trivial⟩
  ·rintro ⟨bs3,cp4⟩ S hF hS D hp K hK
   try dsimp only at hF⊢
   obtain ⟨hf0,hf1⟩:=hF
   refine bZ hp [6,8] rfl rfl ?_
   refine bN Tryz.call168 rfl (qv x.t y.t) ?_
   rintro _ _ ⟨rfl,rfl⟩
   exact cK hp hS (ti (hK (bs3,cp4) ⟨hf0,hf1⟩)) rfl rfl rfl
  ·rintro ⟨bs3,cp4⟩ S hF hS D hp K hK
   try dsimp only at hF⊢
   obtain ⟨hf0,hf1⟩:=hF
   refine bZ hp [11,13] rfl rfl ?_
   refine bN Tryz.call168 rfl (qv y.i x.i) ?_
   rintro _ _ ⟨rfl,rfl⟩
   exact cK hp hS (ti (hK (bs3,cp4) ⟨hf0,hf1⟩)) rfl rfl rfl
  ·rintro ⟨bs3,cp4⟩ S hF hS D hp K hK
   try dsimp only at hF⊢
   obtain ⟨hf0,hf1⟩:=hF
   refine bZ hp [16,18] rfl rfl ?_
   refine bN Tryz.call168 rfl (qv y.k x.k) ?_
   rintro _ _ ⟨rfl,rfl⟩
   exact cK hp hS (ti (hK (bs3,cp4) ⟨hf0,hf1⟩)) rfl rfl rfl
  ·rintro ⟨bs3,cp4⟩ S hF hS D hp K hK
   try dsimp only at hF⊢
   obtain ⟨hf0,hf1⟩:=hF
   refine bZ hp [9,14,19] rfl rfl ?_
   refine tm rfl (aD (cs:=[(vI (gX x.t y.t)),(vI (gX y.i x.i)),(vI (gX y.k x.k))]) CI CG CN (by decide) rfl rfl rfl rfl) ?_
   rintro _ _ ⟨bs3,cp4,hok5,hle6,rfl,rfl⟩
   refine bO (fun _ h=>cX [_,_] h) ?_
   exact cK hp hS (ti (hK (bs3,cp4) ⟨(fun _=>hok5),(fun _=>hle6)⟩)) rfl rfl rfl
  ·rintro ⟨bs3,cp4⟩ S hF hS D hp K hK
   try dsimp only at hF⊢
   obtain ⟨hf0,hf1⟩:=hF
   have s15:=hp 15 rfl
   have hok5:=hf0 s15
   have hle6:=hf1 s15
   refine bZ hp [20] rfl rfl ?_
   refine aR ?_
   refine jJ s15 ?_
   refine bN Tryz.call167 rfl (BW (gX x.t y.t) (gX y.i x.i) (gX y.k x.k) (cj (.head _)) hok5) ?_
   rintro _ _ ⟨rfl,rfl⟩
   refine lZ (B:=ib) s15 ?_
   refine aR (aR ?_)
   exact cK hp hS (ti (hK (bs3,cp4) ⟨hf0,hf1⟩)) rfl rfl rfl
 ·rintro ⟨bs3,cp4⟩ hF
  try dsimp only at hF⊢
  obtain ⟨hf0,hf1⟩:=hF
  have hok5:=hf0 rfl
  have hle6:=hf1 rfl
  refine az (E':=[(0,(.agg #[(vI x.k),(vI x.t),(vI x.s),(vI x.e),(vI x.i)])),(1,(.agg #[(vI y.k),(vI y.t),(vI y.s),(vI y.e),(vI y.i)])),(2,(vP b1 0)),(3,(vP b2 0)),(4,(vI (By (gX x.t y.t) (gX y.i x.i) (gX y.k x.k))))]) ⟨rfl,rfl,rfl,rfl,rfl,trivial⟩ ?_
  refine qn hK2 (ay (ak (ak (ak ?_))))
  refine aM rfl rfl ?_
  exact ⟨rfl,rfl⟩
end Go.Proofs.YtanfdikglplkaaaGreatDoor
