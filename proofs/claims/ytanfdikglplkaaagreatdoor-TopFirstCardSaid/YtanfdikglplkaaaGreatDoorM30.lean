/- Parts Tc: own lemmas and contracts of the code that the claim reaches. -/
import Derived.Test.YtanfdikglplkaaaGreatDoorM03
import Derived.Test.YtanfdikglplkaaaGreatDoorM04
import Derived.Test.YtanfdikglplkaaaGreatDoorM20
set_option linter.unusedSimpArgs false
set_option linter.unusedVariables false
set_option maxRecDepth 100000
namespace Go.Proofs.YtanfdikglplkaaaGreatDoor
open Go Go.Proofs Sp
set_option maxHeartbeats 4000000 in
theorem zO{R:List HP}{p a:Nat}{q:Int}{ms:List M3}(ws:List (Int×Int)){bl:Option Addr}{cl:Nat}(hw:Rd R bl (df ws))(okl:bB bl ws.length)(lw:ws.length≤1000000)(hb:ms.length≤50000)(hany:il (c8 ms ws)=true):
 Ok Tryz.prog 57 [(vP p 0),(.slice bl ws.length cl)] ((bF p q ms a)::R)
  (fun v M=> ∃(tm:List M3) (ta:Nat),TakeR q (c8 ms ws) (ms,a) (tm,ta)∧v=.tuple #[.int .i64 (tm.getD ta M3.z).id,.bool true]∧M=bF p q (hU tm ta ((tm.getD ta M3.z).c- (c8 ms ws).getD ta 0)) ta::R):=by
 obtain ⟨cs,hcs⟩:∃x,c8 ms ws=x:=⟨_,rfl⟩
 rw [hcs]
 refine aP (N:=125) Tryz.func57 rfl rfl rfl (fun W=>?_)
 refine qL (fun ba ca ps hT=>?_)
 have hTlp:=hT.lp
 have hTat:=hT.at_
 have hTq1:=hT.q1
 have hTq2:=hT.q2
 have hcb:∀i,0≤cs.getD i 0∧cs.getD i 0≤1048576:=fun i=>by rw [←hcs];exact vy ms ws i
 have hcl:cs.length=ms.length:=by rw [←hcs];exact g8 ms ws
 have hany2:∃j,j<ms.length∧0<cs.getD j 0:=by have:=anyPos_iff.1 (hcs▸hany);rw [hcl] at this;exact this
 have hal0:a<ms.length:=by obtain ⟨j,hj,_⟩:=hany2;rcases hTat with h| ⟨_,h⟩;exact h;subst h;simp at hj
 refine av (fun _ hK1=>aA rfl (aA rfl (td hK1 ?_)))
 refine um (γ:=(Option Addr)×(Nat)×(List M3)×(Nat)×(Nat)) (c:=_) 0 (fun (bs,cp,mx,ax,k)=>TInv q cs ms a mx ax k∧bB bs ms.length) (fun (bs,cp,mx,ax,k)=>[(0,(vP p 0)),(6,(.slice bs ms.length cp)),(8,(vN k))]) (fun (bs,cp,mx,ax,k)=>(SlV 3 1 (.slice bs ms.length cp) ms.length (aF .i64 cs))::(bI p [(vI q),(.slice ba ms.length ca),(vN ax)] 139)::(SlV 159 1 (.slice ba ms.length ca) ms.length (bJ dJ ps))::(cI (ey ps mx))::R) (fun (bs,cp,mx,ax,k)=>2*ms.length-k) rfl ?_ ?_
 ·rintro ⟨bs,cp,mx,ax,k⟩ K2 hF hK2
  try dsimp only at hF hK2⊢
  obtain ⟨hI,hbs⟩:=hF
  have hal:=hI.al
  have hlx:=hI.len
  have hcr:=hI.cr ax hal
  rw [if_pos rfl] at hcr
  have hga:=hI.gn ax hal
  have hsx:=hI.same ax hal
  have hca:=hcb ax
  have hk2:=hI.k2
  refine ai (fun _ hK3=>?_)
  refine bz (γ:=Unit) (n:=19) Tryz.mixed rfl rfl (fun _ S=>True) (fun _=>[(0,19,(vP p 0)),(1,20,(vP p 0)),(2,21,(vP p 1)),(3,22,(.slice ba ms.length ca)),(4,23,(vP p 0)),(5,24,(vP p 0)),(6,25,(vP p 2)),(7,26,(vN ax)),(8,27,(.pointer (some (ad ba ax)))),(9,28,(vP (ps.getD ax 0) 0)),(10,29,(.slice bs ms.length cp)),(11,30,(vP p 0)),(12,31,(vP p 0)),(13,32,(vP p 2)),(14,33,(vN ax)),(15,34,(.pointer (some (ad bs ax)))),(16,35,(vI ((cs).getD ax 0))),(17,9,(vP (ps.getD ax 0) 0)),(18,10,(vI ((cs).getD ax 0)))]) (fun _ S=>(SlV 3 1 (.slice bs ms.length cp) ms.length (aF .i64 cs))::(bI p [(vI q),(.slice ba ms.length ca),(vN ax)] 139)::(SlV 159 1 (.slice ba ms.length ca) ms.length (bJ dJ ps))::(cI (ey ps mx))::R) (()) trivial (fun _ h=>h) (fun _ _ h=>h) ?_ ?_
  ·refine ⟨aU,bW,bL CO rfl C2,db C8 fun _ _=>aa (.tail _ (.head _)) rfl,aU,bW,bL CO rfl CG,db CH fun _ _=>aa (.tail _ (.head _)) rfl,eJ CX Dq rr rr rr fun _=>⟨hT.ok,by omega,by omega,by omega⟩,dB DE rr rr fun _ _=>aw (.tail _ (.tail _ (.head _))) (eV (by first|omega| (simp;omega))),aU,aU,bW,bL CO rfl CG,db CH fun _ _=>aa (.tail _ (.head _)) rfl,eJ CI CG rr rr rr fun _=>⟨hbs,by omega,by omega,by omega⟩,dB CH rr rr fun _ _=>aw (.head _) (aQ (by first|omega| (simp;omega))),fh,fh,trivial⟩
  ·rintro _ hF
   try dsimp only at hF⊢
   refine az (E':=[(0,(vP p 0)),(6,(.slice bs ms.length cp)),(8,(vN k)),(9,(vP (ps.getD ax 0) 0)),(10,(vI ((cs).getD ax 0)))]) ⟨rfl,rfl,rfl,rfl,rfl,trivial⟩ ?_
   refine qn hK3 (ai (fun _ hK4=>ai (fun _ hK5=>aS ?_)))
   refine iD (i:=ax) (by omega) (by omega) ?_
   refine aj ?_
   by_cases hc1:((cs).getD ax 0)>0∧((mx.getD ax M3.z).c)≥((cs).getD ax 0)
   ·have hc1a:=hc1.1
    have hc1b:=hc1.2
    refine ag rfl (tp rfl (cu rfl rfl (decide_eq_true hc1.1)) (ag rfl ?_))
    refine ae rfl rfl ?_
    refine ag rfl ?_
    refine ae rfl rfl ?_
    refine cV rfl ?_
    refine ae rfl rfl ?_
    refine bU 2 Dg rfl CG rfl rfl ?_
    refine ae rfl rfl ?_
    refine bK CH rfl (aa (.head _) rfl) ?_
    refine ae rfl rfl ?_
    refine ag rfl ?_
    refine ae rfl rfl ?_
    refine tp rfl (cC rfl rfl (decide_eq_true hc1.2)) (tp rfl (aL rfl rfl) (td hK5 (aG rfl (av (fun _ hK6=>ag rfl (cV rfl (bU 2 Dg rfl CG rfl rfl ?_)))))))
    refine bK CH rfl (aa (.head _) rfl) (ag rfl (tp rfl (eR (c:=((mx.getD ax M3.z).c)- ((cs).getD ax 0)) rfl rfl (cA (by omega) (by omega))) ?_))
    refine cV rfl (bU 2 Dg rfl CG rfl rfl ?_)
    refine ts (cM CG rfl rfl rfl (nB rfl) rfl) ?_
    refine td hK6 (av (fun _ hK7=>ag rfl (cV rfl (bU 0 Dg rfl CG rfl rfl (bK CH rfl (aa (.head _) rfl) (aA rfl (aA rfl ?_)))))))
    refine td hK7 (ay ?_)
    refine aK ?_
    refine xt ?_
    have hr:iS cs (mx,ax)=true:=rdyT_true.2 ⟨by show 0<cs.getD ax 0;omega,by show cs.getD ax 0≤(mx.getD ax M3.z).c;omega⟩
    refine aE (aE ?_)
    refine ke (c:=((mx.getD ax M3.z).c)- ((cs).getD ax 0)) (by omega) (by omega) ?_
    refine aS (aS ?_)
    refine j6 (by rw [gk];exact hlx) ((hT.of_inv hI).took (by omega) hr) ?_
    refine aE (ak ?_)
    refine dc rfl rfl rfl ?_
    exact ⟨mx,ax,hI.red _ (.here hr),rfl,rfl⟩
   ·refine mK (E':=[(0,(vP p 0)),(6,(.slice bs ms.length cp)),(8,(vN k)),(9,(vP (ps.getD ax 0) 0)),(10,(vI ((cs).getD ax 0))),(45,(.bool false))]) ?_ (fun KK hKK=>?_)
    ·
     refine qn hK5 (ar rfl (dp hK4 (ai (fun _ hK6=>av (fun _ hK7=>?_)))))
     have hr:iS cs (mx,ax)=false:=rdyT_false.2 (fun hw=>by have hw2:0<cs.getD ax 0:=hw;show (mx.getD ax M3.z).c<cs.getD ax 0;omega)
     have hz:=hI.zfacts
     refine ag rfl ?_
     by_cases h2:((cs).getD ax 0)=0
     ·refine tp rfl (aV rfl rfl (beq_iff_eq.2 h2)) (td hK7 (aG rfl (aj (ag rfl (cV rfl (bU 2 Dg rfl CG rfl rfl ?_))))))
      refine ts (cM CG rfl rfl rfl (nB rfl) rfl) ?_
      refine td hK6 (ai (fun _ hK8=>av (fun _ hK9=>aE (aE ?_))))
      refine ke (c:=0) (by omega) (by omega) ?_
      rw [show hU mx ax 0=aO cs mx ax from by unfold aO;first|rw [if_pos (by omega)]|rw [if_neg (by omega)]]
      have hzl:(aO cs mx ax).length=ms.length:=by rw [fB];exact hlx
      refine ag rfl (tp rfl (aX (c:=((k+1:Nat):Int)) rfl rfl (aB (by omega))) ?_)
      refine aA rfl (td hK9 (av (fun _ hK10=>ag rfl (ag rfl (cV rfl (bU 1 CO rfl C2 rfl rfl (bK C8 rfl (aa (.tail _ (.tail _ (.head _))) rfl) ?_)))))))
      refine tp rfl (bC CX rfl rfl) ?_
      by_cases h3:((k+1:Nat):Int)=(ms.length:Int)
      ·refine tp rfl (aV rfl rfl (beq_iff_eq.2 h3)) (td hK10 (aG rfl (aj (ag rfl (ag rfl (aS (aS (aS ?_))))))))
       refine bN Tryz.call105 rfl (uc hTlp hzl hT.ok (by omega) hbs hcl (by omega) (fun i h1 h2=>(hI.low hr (by omega) i (by omega)).2.1 h2) hz hcb hany2) ?_
       rintro _ _ ⟨r,hub,hex,rfl,rfl⟩
       refine td hK8 (ai (fun _ hK11=>?_))
       have hnl:=jr hal
       refine bz (γ:=Unit) (n:=15) Tryz.mixed rfl rfl (fun _ S=>True) (fun _=>[(0,75,(vP p 0)),(1,76,(vP p 0)),(2,77,(vP p 0)),(3,78,(vP p 2)),(4,79,(vN ax)),(5,80,(vI ((ax+1:Nat):Int))),(6,81,(vP p 0)),(7,82,(vP p 0)),(8,83,(vP p 1)),(9,84,(.slice ba ms.length ca)),(10,85,(vN ms.length)),(11,86,(vI ((ch ax ms.length:Nat):Int))),(12,87,(vP p 0)),(13,88,(vP p 2))]) (fun _ S=>(SlV 3 1 (.slice bs ms.length cp) ms.length (aF .i64 cs))::(bif S 14 then (bI p [(vI q),(.slice ba ms.length ca),(vI ((ch ax ms.length:Nat):Int))] 139) else (bI p [(vI q),(.slice ba ms.length ca),(vN ax)] 139))::(SlV 159 1 (.slice ba ms.length ca) ms.length (bJ dJ ps))::(cI (ey ps (bR q cs (fun _=>(r:Int)) (aO cs mx ax))))::R) (()) trivial (fun _ h=>h) (fun _ _ h=>h) ?_ ?_
       ·refine ⟨aU,aU,bW,bL CO rfl CG,?_,?_,aU,bW,bL CO rfl C2,?_,iT CX rfl,?_,bW,bL CO rfl CG,?_,trivial⟩
        ·rintro _ S hF hS D hp K hK;try dsimp only
         exact bH (bE hp 3 rfl rfl) (bP CH rfl (aa (cF (nf hS D (k:=14) (i:=4) rfl) (.tail _ (.head _))) rfl)) 4 rfl rfl hS (hK () hF)
        ·intro _ S h s D p K k;exact bH (bE p 4 rfl rfl) (aX (c:=((ax+1:Nat):Int)) rfl rfl (aB (by omega))) 5 rfl rfl s (k () h)
        ·rintro _ S hF hS D hp K hK;try dsimp only
         exact bH (bE hp 8 rfl rfl) (bP C8 rfl (aa (cF (nf hS D (k:=14) (i:=9) rfl) (.tail _ (.head _))) rfl)) 9 rfl rfl hS (hK () hF)
        ·intro _ S h s D p K k;exact bV (bE p 5 rfl rfl) (bE p 10 rfl rfl) (oz (c:=((ch ax ms.length:Nat):Int)) rfl rfl (by omega) (nC hal)) 11 rfl rfl s (k () h)
        ·rintro _ S hF hS D hp K hK
         try dsimp only at hF⊢
         refine bZ hp [86,88] rfl rfl ?_
         refine aE ?_
         refine c9 hS ?_
         refine ts (cM CG rfl rfl rfl (nB rfl) rfl) ?_
         refine aE ?_
         exact gE hp (ti (hK () trivial)) rfl rfl rfl
       ·rintro _ hF
        try dsimp only at hF⊢
        refine az (E':=[(0,(vP p 0)),(6,(.slice bs ms.length cp)),(8,(vI ((k+1:Nat):Int))),(9,(vP (ps.getD ax 0) 0)),(10,(vI ((cs).getD ax 0))),(45,(.bool false)),(59,(.bool true)),(71,(.bool true))]) ⟨rfl,rfl,rfl,rfl,rfl,rfl,rfl,rfl,trivial⟩ ?_
        refine qn hK11 (ai (fun _ hK12=>av (fun _ hK13=>ag rfl (ag rfl (cV rfl (bU 2 CO rfl CG rfl rfl (bK CH rfl (aa (.tail _ (.head _)) rfl) (tp rfl (ah (k':=ch ax ms.length) CI CG rfl rfl hbs (by omega) (by omega) (by omega)) ?_))))))))
        refine bK CH rfl (aw (.head _) (aQ (by first|omega| (simp;omega)))) ?_
        by_cases h4:((cs).getD (ch ax ms.length) 0)>0
        ·refine tp rfl (cu rfl rfl (decide_eq_true h4)) (td hK13 (aG rfl ?_))
         have hbl:(bR q cs (fun _=>(r:Int)) (aO cs mx ax)).length=ms.length:=by rw [dg];exact hzl
         have hzj:=hz (ch ax ms.length) hnl
         have hubj:=hub (ch ax ms.length) hnl (by omega)
         have hcbj:=hcb (ch ax ms.length)
         have hrg:0≤(r:Int)*(q*((aO cs mx ax).getD (ch ax ms.length) M3.z).w):=Int.mul_nonneg (by omega) (by omega)
         have hgj:(bR q cs (fun _=>(r:Int)) (aO cs mx ax)).getD (ch ax ms.length) M3.z=⟨((aO cs mx ax).getD (ch ax ms.length) M3.z).id,((aO cs mx ax).getD (ch ax ms.length) M3.z).w,((aO cs mx ax).getD (ch ax ms.length) M3.z).c+(r:Int)*(q*((aO cs mx ax).getD (ch ax ms.length) M3.z).w)⟩:=by rw [cY (by omega),if_pos (by omega)]
         have hw1:0≤q*((bR q cs (fun _=>(r:Int)) (aO cs mx ax)).getD (ch ax ms.length) M3.z).w∧q*((bR q cs (fun _=>(r:Int)) (aO cs mx ax)).getD (ch ax ms.length) M3.z).w≤104857600∧0≤((bR q cs (fun _=>(r:Int)) (aO cs mx ax)).getD (ch ax ms.length) M3.z).c∧((bR q cs (fun _=>(r:Int)) (aO cs mx ax)).getD (ch ax ms.length) M3.z).c≤1048576:=by rw [hgj];dsimp only;omega
         refine aS ?_
         refine iD (i:=(ch ax ms.length)) (by omega) (by omega) ?_
         refine bz (γ:=Unit) (n:=29) Tryz.mixed rfl rfl (fun _ S=>True) (fun _=>[(0,97,(vP p 0)),(1,98,(vP p 0)),(2,99,(vP p 1)),(3,100,(.slice ba ms.length ca)),(4,101,(vP p 0)),(5,102,(vP p 0)),(6,103,(vP p 2)),(7,104,(vI ((ch ax ms.length:Nat):Int))),(8,105,(.pointer (some (ad ba (ch ax ms.length))))),(9,106,(vP (ps.getD (ch ax ms.length) 0) 0)),(10,107,(vP (ps.getD (ch ax ms.length) 0) 0)),(11,108,(vP (ps.getD (ch ax ms.length) 0) 2)),(12,109,(vI (((bR q cs (fun _=>(r:Int)) (aO cs mx ax)).getD (ch ax ms.length) M3.z).c))),(13,110,(vP p 0)),(14,111,(vP p 0)),(15,112,(vP p 0)),(16,113,(vP p 1)),(17,114,(.slice ba ms.length ca)),(18,115,(vP p 0)),(19,116,(vP p 0)),(20,117,(vP p 2)),(21,118,(vI ((ch ax ms.length:Nat):Int))),(22,119,(.pointer (some (ad ba (ch ax ms.length))))),(23,120,(vP (ps.getD (ch ax ms.length) 0) 0)),(24,121,(vI (q*(((bR q cs (fun _=>(r:Int)) (aO cs mx ax)).getD (ch ax ms.length) M3.z).w)))),(25,122,(vI ((((bR q cs (fun _=>(r:Int)) (aO cs mx ax)).getD (ch ax ms.length) M3.z).c)+(q*(((bR q cs (fun _=>(r:Int)) (aO cs mx ax)).getD (ch ax ms.length) M3.z).w))))),(26,123,(vP (ps.getD (ch ax ms.length) 0) 0)),(27,124,(vP (ps.getD (ch ax ms.length) 0) 2))]) (fun _ S=>(bif S 28 then (bI (ps.getD (ch ax ms.length) 0) [(vI (((bR q cs (fun _=>(r:Int)) (aO cs mx ax)).getD (ch ax ms.length) M3.z).id)),(vI (((bR q cs (fun _=>(r:Int)) (aO cs mx ax)).getD (ch ax ms.length) M3.z).w)),(vI ((((bR q cs (fun _=>(r:Int)) (aO cs mx ax)).getD (ch ax ms.length) M3.z).c)+(q*(((bR q cs (fun _=>(r:Int)) (aO cs mx ax)).getD (ch ax ms.length) M3.z).w))))] 161) else (bI (ps.getD (ch ax ms.length) 0) [(vI (((bR q cs (fun _=>(r:Int)) (aO cs mx ax)).getD (ch ax ms.length) M3.z).id)),(vI (((bR q cs (fun _=>(r:Int)) (aO cs mx ax)).getD (ch ax ms.length) M3.z).w)),(vI (((bR q cs (fun _=>(r:Int)) (aO cs mx ax)).getD (ch ax ms.length) M3.z).c))] 161))::(cI (ey (ps.eraseIdx (ch ax ms.length)) ((bR q cs (fun _=>(r:Int)) (aO cs mx ax)).eraseIdx (ch ax ms.length))))::(SlV 3 1 (.slice bs ms.length cp) ms.length (aF .i64 cs))::(bI p [(vI q),(.slice ba ms.length ca),(vI ((ch ax ms.length:Nat):Int))] 139)::(SlV 159 1 (.slice ba ms.length ca) ms.length (bJ dJ ps))::R) (()) trivial (fun _ h=>h) (fun _ _ h=>h) ?_ ?_
         ·refine ⟨aU,bW,bL CO rfl C2,db C8 fun _ _=>aa (.tail _ (.tail _ (.tail _ (.head _)))) rfl,aU,bW,bL CO rfl CG,db CH fun _ _=>aa (.tail _ (.tail _ (.tail _ (.head _)))) rfl,eJ CX Dq rr rr rr fun _=>⟨hT.ok,by omega,by omega,by omega⟩,dB DE rr rr fun _ _=>aw (.tail _ (.tail _ (.tail _ (.tail _ (.head _))))) (eV (by first|omega| (simp;omega))),bW,bL Dg rfl CG,?_,aU,aU,bW,bL CO rfl C2,db C8 fun _ _=>aa (.tail _ (.tail _ (.tail _ (.head _)))) rfl,aU,bW,bL CO rfl CG,db CH fun _ _=>aa (.tail _ (.tail _ (.tail _ (.head _)))) rfl,eJ CX Dq rr rr rr fun _=>⟨hT.ok,by omega,by omega,by omega⟩,dB DE rr rr fun _ _=>aw (.tail _ (.tail _ (.tail _ (.tail _ (.head _))))) (eV (by first|omega| (simp;omega))),?_,?_,bW,bL Dg rfl CG,?_,trivial⟩
          ·rintro _ S hF hS D hp K hK;try dsimp only
           exact bH (bE hp 11 rfl rfl) (bP CH rfl (aa (cF (nf hS D (k:=28) (i:=12) rfl) (.head _)) rfl)) 12 rfl rfl hS (hK () hF)
          ·rintro _ S hF hS D hp K hK
           try dsimp only at hF⊢
           refine bZ hp [110,120] rfl rfl ?_
           refine c9 (nf hS D (k:=28) (i:=24) rfl) ?_
           refine aS ?_
           refine bN D8 rfl (kA (by omega)) ?_
           rintro _ _ ⟨rfl,rfl⟩
           refine aE ?_
           refine fG (A:=(bI (ps.getD (ch ax ms.length) 0) [(vI (((bR q cs (fun _=>(r:Int)) (aO cs mx ax)).getD (ch ax ms.length) M3.z).id)),(vI (((bR q cs (fun _=>(r:Int)) (aO cs mx ax)).getD (ch ax ms.length) M3.z).w)),(vI ((((bR q cs (fun _=>(r:Int)) (aO cs mx ax)).getD (ch ax ms.length) M3.z).c)+(q*(((bR q cs (fun _=>(r:Int)) (aO cs mx ax)).getD (ch ax ms.length) M3.z).w))))] 161)) (nf hS D (k:=28) (i:=24) rfl) ?_
           refine aE (aS (aS (aS ?_)))
           exact cK hp hS (ti (hK () trivial)) rfl rfl rfl
          ·intro _ S h s D p K k;exact bV (bE p 12 rfl rfl) (bE p 24 rfl rfl) (aX (c:=(((bR q cs (fun _=>(r:Int)) (aO cs mx ax)).getD (ch ax ms.length) M3.z).c)+(q*(((bR q cs (fun _=>(r:Int)) (aO cs mx ax)).getD (ch ax ms.length) M3.z).w))) rfl rfl (cA (by omega) (by omega))) 25 rfl rfl s (k () h)
          ·rintro _ S hF hS D hp K hK
           try dsimp only at hF⊢
           refine bZ hp [122,124] rfl rfl ?_
           refine c9 hS ?_
           refine ts (cM CG rfl rfl rfl (nB rfl) rfl) ?_
           exact gE hp (ti (hK () trivial)) rfl rfl rfl
         ·rintro _ hF
          try dsimp only at hF⊢
          refine az (E':=[(0,(vP p 0)),(6,(.slice bs ms.length cp)),(8,(vI ((k+1:Nat):Int))),(9,(vP (ps.getD ax 0) 0)),(10,(vI ((cs).getD ax 0))),(45,(.bool false)),(59,(.bool true)),(71,(.bool true)),(96,(.bool true))]) ⟨rfl,rfl,rfl,rfl,rfl,rfl,rfl,rfl,rfl,trivial⟩ ?_
          refine qn hK12 ?_
          refine jD ?_
          refine gR ?_
          refine aE (aE ?_)
          refine ke (c:=(((bR q cs (fun _=>(r:Int)) (aO cs mx ax)).getD (ch ax ms.length) M3.z).c)+(q*(((bR q cs (fun _=>(r:Int)) (aO cs mx ax)).getD (ch ax ms.length) M3.z).w))) (by omega) (by omega) ?_
          rw [show hU (bR q cs (fun _=>(r:Int)) (aO cs mx ax)) (ch ax ms.length) ((((bR q cs (fun _=>(r:Int)) (aO cs mx ax)).getD (ch ax ms.length) M3.z).c)+(q*(((bR q cs (fun _=>(r:Int)) (aO cs mx ax)).getD (ch ax ms.length) M3.z).w)))=ew q cs (bR q cs (fun _=>(r:Int)) (aO cs mx ax)) (ch ax ms.length) from by unfold ew;rw [if_pos (by omega)]]
          refine aS (aS (aS ?_))
          exact az (by exact ⟨rfl,rfl,rfl,trivial⟩) (hK2 (bs,cp,ew q cs (bR q cs (fun _=>(r:Int)) (aO cs mx ax)) (ch ax ms.length),ch ax ms.length,k+1) ⟨hI.skip hr (by omega) r hub hex,hbs⟩ (by dsimp only;have:=hI.k2;omega))
        ·refine tp rfl (cu rfl rfl (decide_eq_false h4)) (td hK13 (ar rfl (dp hK12 ?_)))
         refine jD ?_
         refine gR ?_
         rw [show bR q cs (fun _=>(r:Int)) (aO cs mx ax)=ew q cs (bR q cs (fun _=>(r:Int)) (aO cs mx ax)) (ch ax ms.length) from by unfold ew;rw [if_neg (by omega)]]
         exact az (by exact ⟨rfl,rfl,rfl,trivial⟩) (hK2 (bs,cp,ew q cs (bR q cs (fun _=>(r:Int)) (aO cs mx ax)) (ch ax ms.length),ch ax ms.length,k+1) ⟨hI.skip hr (by omega) r hub hex,hbs⟩ (by dsimp only;have:=hI.k2;omega))
      ·refine tp rfl (aV rfl rfl (beq_eq_false_iff_ne.2 h3)) (td hK10 (ar rfl (dp hK8 (ai (fun _ hK11=>?_)))))
       have hnl:=jr hal
       refine bz (γ:=Unit) (n:=15) Tryz.mixed rfl rfl (fun _ S=>True) (fun _=>[(0,75,(vP p 0)),(1,76,(vP p 0)),(2,77,(vP p 0)),(3,78,(vP p 2)),(4,79,(vN ax)),(5,80,(vI ((ax+1:Nat):Int))),(6,81,(vP p 0)),(7,82,(vP p 0)),(8,83,(vP p 1)),(9,84,(.slice ba ms.length ca)),(10,85,(vN ms.length)),(11,86,(vI ((ch ax ms.length:Nat):Int))),(12,87,(vP p 0)),(13,88,(vP p 2))]) (fun _ S=>(cI (ey ps (aO cs mx ax)))::(SlV 3 1 (.slice bs ms.length cp) ms.length (aF .i64 cs))::(bif S 14 then (bI p [(vI q),(.slice ba ms.length ca),(vI ((ch ax ms.length:Nat):Int))] 139) else (bI p [(vI q),(.slice ba ms.length ca),(vN ax)] 139))::(SlV 159 1 (.slice ba ms.length ca) ms.length (bJ dJ ps))::R) (()) trivial (fun _ h=>h) (fun _ _ h=>h) ?_ ?_
       ·refine ⟨aU,aU,bW,bL CO rfl CG,?_,?_,aU,bW,bL CO rfl C2,?_,iT CX rfl,?_,bW,bL CO rfl CG,?_,trivial⟩
        ·rintro _ S hF hS D hp K hK;try dsimp only
         exact bH (bE hp 3 rfl rfl) (bP CH rfl (aa (cF (nf hS D (k:=14) (i:=4) rfl) (.tail _ (.tail _ (.head _)))) rfl)) 4 rfl rfl hS (hK () hF)
        ·intro _ S h s D p K k;exact bH (bE p 4 rfl rfl) (aX (c:=((ax+1:Nat):Int)) rfl rfl (aB (by omega))) 5 rfl rfl s (k () h)
        ·rintro _ S hF hS D hp K hK;try dsimp only
         exact bH (bE hp 8 rfl rfl) (bP C8 rfl (aa (cF (nf hS D (k:=14) (i:=9) rfl) (.tail _ (.tail _ (.head _)))) rfl)) 9 rfl rfl hS (hK () hF)
        ·intro _ S h s D p K k;exact bV (bE p 5 rfl rfl) (bE p 10 rfl rfl) (oz (c:=((ch ax ms.length:Nat):Int)) rfl rfl (by omega) (nC hal)) 11 rfl rfl s (k () h)
        ·rintro _ S hF hS D hp K hK
         try dsimp only at hF⊢
         refine bZ hp [86,88] rfl rfl ?_
         refine aR ?_
         refine c9 hS ?_
         refine ts (cM CG rfl rfl rfl (nB rfl) rfl) ?_
         refine aR (aR ?_)
         exact gE hp (ti (hK () trivial)) rfl rfl rfl
       ·rintro _ hF
        try dsimp only at hF⊢
        refine az (E':=[(0,(vP p 0)),(6,(.slice bs ms.length cp)),(8,(vI ((k+1:Nat):Int))),(9,(vP (ps.getD ax 0) 0)),(10,(vI ((cs).getD ax 0))),(45,(.bool false)),(59,(.bool true)),(71,(.bool false))]) ⟨rfl,rfl,rfl,rfl,rfl,rfl,rfl,rfl,trivial⟩ ?_
        refine qn hK11 (ai (fun _ hK12=>av (fun _ hK13=>ag rfl (ag rfl (cV rfl (bU 2 CO rfl CG rfl rfl (bK CH rfl (aa (.tail _ (.tail _ (.head _))) rfl) (tp rfl (ah (k':=ch ax ms.length) CI CG rfl rfl hbs (by omega) (by omega) (by omega)) ?_))))))))
        refine bK CH rfl (aw (.tail _ (.head _)) (aQ (by first|omega| (simp;omega)))) ?_
        by_cases h5:((cs).getD (ch ax ms.length) 0)>0
        ·refine tp rfl (cu rfl rfl (decide_eq_true h5)) (td hK13 (aG rfl ?_))
         have hw1:=hz (ch ax ms.length) hnl
         refine iD (i:=(ch ax ms.length)) (by omega) (by omega) ?_
         refine bz (γ:=Unit) (n:=29) Tryz.mixed rfl rfl (fun _ S=>True) (fun _=>[(0,97,(vP p 0)),(1,98,(vP p 0)),(2,99,(vP p 1)),(3,100,(.slice ba ms.length ca)),(4,101,(vP p 0)),(5,102,(vP p 0)),(6,103,(vP p 2)),(7,104,(vI ((ch ax ms.length:Nat):Int))),(8,105,(.pointer (some (ad ba (ch ax ms.length))))),(9,106,(vP (ps.getD (ch ax ms.length) 0) 0)),(10,107,(vP (ps.getD (ch ax ms.length) 0) 0)),(11,108,(vP (ps.getD (ch ax ms.length) 0) 2)),(12,109,(vI (((aO cs mx ax).getD (ch ax ms.length) M3.z).c))),(13,110,(vP p 0)),(14,111,(vP p 0)),(15,112,(vP p 0)),(16,113,(vP p 1)),(17,114,(.slice ba ms.length ca)),(18,115,(vP p 0)),(19,116,(vP p 0)),(20,117,(vP p 2)),(21,118,(vI ((ch ax ms.length:Nat):Int))),(22,119,(.pointer (some (ad ba (ch ax ms.length))))),(23,120,(vP (ps.getD (ch ax ms.length) 0) 0)),(24,121,(vI (q*(((aO cs mx ax).getD (ch ax ms.length) M3.z).w)))),(25,122,(vI ((((aO cs mx ax).getD (ch ax ms.length) M3.z).c)+(q*(((aO cs mx ax).getD (ch ax ms.length) M3.z).w))))),(26,123,(vP (ps.getD (ch ax ms.length) 0) 0)),(27,124,(vP (ps.getD (ch ax ms.length) 0) 2))]) (fun _ S=>(bif S 28 then (bI (ps.getD (ch ax ms.length) 0) [(vI (((aO cs mx ax).getD (ch ax ms.length) M3.z).id)),(vI (((aO cs mx ax).getD (ch ax ms.length) M3.z).w)),(vI ((((aO cs mx ax).getD (ch ax ms.length) M3.z).c)+(q*(((aO cs mx ax).getD (ch ax ms.length) M3.z).w))))] 161) else (bI (ps.getD (ch ax ms.length) 0) [(vI (((aO cs mx ax).getD (ch ax ms.length) M3.z).id)),(vI (((aO cs mx ax).getD (ch ax ms.length) M3.z).w)),(vI (((aO cs mx ax).getD (ch ax ms.length) M3.z).c))] 161))::(cI (ey (ps.eraseIdx (ch ax ms.length)) ((aO cs mx ax).eraseIdx (ch ax ms.length))))::(SlV 3 1 (.slice bs ms.length cp) ms.length (aF .i64 cs))::(bI p [(vI q),(.slice ba ms.length ca),(vI ((ch ax ms.length:Nat):Int))] 139)::(SlV 159 1 (.slice ba ms.length ca) ms.length (bJ dJ ps))::R) (()) trivial (fun _ h=>h) (fun _ _ h=>h) ?_ ?_
         ·refine ⟨aU,bW,bL CO rfl C2,db C8 fun _ _=>aa (.tail _ (.tail _ (.tail _ (.head _)))) rfl,aU,bW,bL CO rfl CG,db CH fun _ _=>aa (.tail _ (.tail _ (.tail _ (.head _)))) rfl,eJ CX Dq rr rr rr fun _=>⟨hT.ok,by omega,by omega,by omega⟩,dB DE rr rr fun _ _=>aw (.tail _ (.tail _ (.tail _ (.tail _ (.head _))))) (eV (by first|omega| (simp;omega))),bW,bL Dg rfl CG,?_,aU,aU,bW,bL CO rfl C2,db C8 fun _ _=>aa (.tail _ (.tail _ (.tail _ (.head _)))) rfl,aU,bW,bL CO rfl CG,db CH fun _ _=>aa (.tail _ (.tail _ (.tail _ (.head _)))) rfl,eJ CX Dq rr rr rr fun _=>⟨hT.ok,by omega,by omega,by omega⟩,dB DE rr rr fun _ _=>aw (.tail _ (.tail _ (.tail _ (.tail _ (.head _))))) (eV (by first|omega| (simp;omega))),?_,?_,bW,bL Dg rfl CG,?_,trivial⟩
          ·rintro _ S hF hS D hp K hK;try dsimp only
           exact bH (bE hp 11 rfl rfl) (bP CH rfl (aa (cF (nf hS D (k:=28) (i:=12) rfl) (.head _)) rfl)) 12 rfl rfl hS (hK () hF)
          ·rintro _ S hF hS D hp K hK
           try dsimp only at hF⊢
           refine bZ hp [110,120] rfl rfl ?_
           refine c9 (nf hS D (k:=28) (i:=24) rfl) ?_
           refine aS ?_
           refine bN D8 rfl (kA (by omega)) ?_
           rintro _ _ ⟨rfl,rfl⟩
           refine aE ?_
           refine fG (A:=(bI (ps.getD (ch ax ms.length) 0) [(vI (((aO cs mx ax).getD (ch ax ms.length) M3.z).id)),(vI (((aO cs mx ax).getD (ch ax ms.length) M3.z).w)),(vI ((((aO cs mx ax).getD (ch ax ms.length) M3.z).c)+(q*(((aO cs mx ax).getD (ch ax ms.length) M3.z).w))))] 161)) (nf hS D (k:=28) (i:=24) rfl) ?_
           refine aE (aS (aS (aS ?_)))
           exact cK hp hS (ti (hK () trivial)) rfl rfl rfl
          ·intro _ S h s D p K k;exact bV (bE p 12 rfl rfl) (bE p 24 rfl rfl) (aX (c:=(((aO cs mx ax).getD (ch ax ms.length) M3.z).c)+(q*(((aO cs mx ax).getD (ch ax ms.length) M3.z).w))) rfl rfl (cA (by omega) (by omega))) 25 rfl rfl s (k () h)
          ·rintro _ S hF hS D hp K hK
           try dsimp only at hF⊢
           refine bZ hp [122,124] rfl rfl ?_
           refine c9 hS ?_
           refine ts (cM CG rfl rfl rfl (nB rfl) rfl) ?_
           exact gE hp (ti (hK () trivial)) rfl rfl rfl
         ·rintro _ hF
          try dsimp only at hF⊢
          refine az (E':=[(0,(vP p 0)),(6,(.slice bs ms.length cp)),(8,(vI ((k+1:Nat):Int))),(9,(vP (ps.getD ax 0) 0)),(10,(vI ((cs).getD ax 0))),(45,(.bool false)),(59,(.bool true)),(71,(.bool false)),(96,(.bool true))]) ⟨rfl,rfl,rfl,rfl,rfl,rfl,rfl,rfl,rfl,trivial⟩ ?_
          refine qn hK12 ?_
          refine jD ?_
          refine gR ?_
          refine aE (aE ?_)
          refine ke (c:=(((aO cs mx ax).getD (ch ax ms.length) M3.z).c)+(q*(((aO cs mx ax).getD (ch ax ms.length) M3.z).w))) (by omega) (by omega) ?_
          rw [show hU (aO cs mx ax) (ch ax ms.length) ((((aO cs mx ax).getD (ch ax ms.length) M3.z).c)+(q*(((aO cs mx ax).getD (ch ax ms.length) M3.z).w)))=ew q cs (aO cs mx ax) (ch ax ms.length) from by unfold ew;rw [if_pos (by omega)]]
          refine aS (aS (aS ?_))
          exact az (by exact ⟨rfl,rfl,rfl,trivial⟩) (hK2 (bs,cp,ew q cs (aO cs mx ax) (ch ax ms.length),ch ax ms.length,k+1) ⟨hI.step' hr (by omega),hbs⟩ (by dsimp only;have:=hI.k2;omega))
        ·refine tp rfl (cu rfl rfl (decide_eq_false h5)) (td hK13 (ar rfl (dp hK12 ?_)))
         refine jD ?_
         refine gR ?_
         rw [show aO cs mx ax=ew q cs (aO cs mx ax) (ch ax ms.length) from by unfold ew;rw [if_neg (by omega)]]
         refine aS (aS (aS ?_))
         exact az (by exact ⟨rfl,rfl,rfl,trivial⟩) (hK2 (bs,cp,ew q cs (aO cs mx ax) (ch ax ms.length),ch ax ms.length,k+1) ⟨hI.step' hr (by omega),hbs⟩ (by dsimp only;have:=hI.k2;omega))
     ·refine tp rfl (aV rfl rfl (beq_eq_false_iff_ne.2 h2)) (td hK7 (ar rfl (dp hK6 (ai (fun _ hK8=>av (fun _ hK9=>aE ?_))))))
      refine aE ?_
      refine qH (by omega) (by omega) ?_
      rw [show mx=aO cs mx ax from by unfold aO;first|rw [if_pos (by omega)]|rw [if_neg (by omega)]]
      have hzl:(aO cs mx ax).length=ms.length:=by rw [fB];exact hlx
      refine ag rfl (tp rfl (aX (c:=((k+1:Nat):Int)) rfl rfl (aB (by omega))) ?_)
      refine aA rfl (td hK9 (av (fun _ hK10=>ag rfl (ag rfl (cV rfl (bU 1 CO rfl C2 rfl rfl (bK C8 rfl (aa (.tail _ (.tail _ (.head _))) rfl) ?_)))))))
      refine tp rfl (bC CX rfl rfl) ?_
      by_cases h6:((k+1:Nat):Int)=(ms.length:Int)
      ·refine tp rfl (aV rfl rfl (beq_iff_eq.2 h6)) (td hK10 (aG rfl (aj (ag rfl (ag rfl (aS (aS (aS ?_))))))))
       refine bN Tryz.call105 rfl (uc hTlp hzl hT.ok (by omega) hbs hcl (by omega) (fun i h1 h2=>(hI.low hr (by omega) i (by omega)).2.1 h2) hz hcb hany2) ?_
       rintro _ _ ⟨r,hub,hex,rfl,rfl⟩
       refine td hK8 (ai (fun _ hK11=>?_))
       have hnl:=jr hal
       refine bz (γ:=Unit) (n:=15) Tryz.mixed rfl rfl (fun _ S=>True) (fun _=>[(0,75,(vP p 0)),(1,76,(vP p 0)),(2,77,(vP p 0)),(3,78,(vP p 2)),(4,79,(vN ax)),(5,80,(vI ((ax+1:Nat):Int))),(6,81,(vP p 0)),(7,82,(vP p 0)),(8,83,(vP p 1)),(9,84,(.slice ba ms.length ca)),(10,85,(vN ms.length)),(11,86,(vI ((ch ax ms.length:Nat):Int))),(12,87,(vP p 0)),(13,88,(vP p 2))]) (fun _ S=>(SlV 3 1 (.slice bs ms.length cp) ms.length (aF .i64 cs))::(bif S 14 then (bI p [(vI q),(.slice ba ms.length ca),(vI ((ch ax ms.length:Nat):Int))] 139) else (bI p [(vI q),(.slice ba ms.length ca),(vN ax)] 139))::(SlV 159 1 (.slice ba ms.length ca) ms.length (bJ dJ ps))::(cI (ey ps (bR q cs (fun _=>(r:Int)) (aO cs mx ax))))::R) (()) trivial (fun _ h=>h) (fun _ _ h=>h) ?_ ?_
       ·refine ⟨aU,aU,bW,bL CO rfl CG,?_,?_,aU,bW,bL CO rfl C2,?_,iT CX rfl,?_,bW,bL CO rfl CG,?_,trivial⟩
        ·rintro _ S hF hS D hp K hK;try dsimp only
         exact bH (bE hp 3 rfl rfl) (bP CH rfl (aa (cF (nf hS D (k:=14) (i:=4) rfl) (.tail _ (.head _))) rfl)) 4 rfl rfl hS (hK () hF)
        ·intro _ S h s D p K k;exact bH (bE p 4 rfl rfl) (aX (c:=((ax+1:Nat):Int)) rfl rfl (aB (by omega))) 5 rfl rfl s (k () h)
        ·rintro _ S hF hS D hp K hK;try dsimp only
         exact bH (bE hp 8 rfl rfl) (bP C8 rfl (aa (cF (nf hS D (k:=14) (i:=9) rfl) (.tail _ (.head _))) rfl)) 9 rfl rfl hS (hK () hF)
        ·intro _ S h s D p K k;exact bV (bE p 5 rfl rfl) (bE p 10 rfl rfl) (oz (c:=((ch ax ms.length:Nat):Int)) rfl rfl (by omega) (nC hal)) 11 rfl rfl s (k () h)
        ·rintro _ S hF hS D hp K hK
         try dsimp only at hF⊢
         refine bZ hp [86,88] rfl rfl ?_
         refine aE ?_
         refine c9 hS ?_
         refine ts (cM CG rfl rfl rfl (nB rfl) rfl) ?_
         refine aE ?_
         exact gE hp (ti (hK () trivial)) rfl rfl rfl
       ·rintro _ hF
        try dsimp only at hF⊢
        refine az (E':=[(0,(vP p 0)),(6,(.slice bs ms.length cp)),(8,(vI ((k+1:Nat):Int))),(9,(vP (ps.getD ax 0) 0)),(10,(vI ((cs).getD ax 0))),(45,(.bool false)),(59,(.bool false)),(71,(.bool true))]) ⟨rfl,rfl,rfl,rfl,rfl,rfl,rfl,rfl,trivial⟩ ?_
        refine qn hK11 (ai (fun _ hK12=>av (fun _ hK13=>ag rfl (ag rfl (cV rfl (bU 2 CO rfl CG rfl rfl (bK CH rfl (aa (.tail _ (.head _)) rfl) (tp rfl (ah (k':=ch ax ms.length) CI CG rfl rfl hbs (by omega) (by omega) (by omega)) ?_))))))))
        refine bK CH rfl (aw (.head _) (aQ (by first|omega| (simp;omega)))) ?_
        by_cases h7:((cs).getD (ch ax ms.length) 0)>0
        ·refine tp rfl (cu rfl rfl (decide_eq_true h7)) (td hK13 (aG rfl ?_))
         have hbl:(bR q cs (fun _=>(r:Int)) (aO cs mx ax)).length=ms.length:=by rw [dg];exact hzl
         have hzj:=hz (ch ax ms.length) hnl
         have hubj:=hub (ch ax ms.length) hnl (by omega)
         have hcbj:=hcb (ch ax ms.length)
         have hrg:0≤(r:Int)*(q*((aO cs mx ax).getD (ch ax ms.length) M3.z).w):=Int.mul_nonneg (by omega) (by omega)
         have hgj:(bR q cs (fun _=>(r:Int)) (aO cs mx ax)).getD (ch ax ms.length) M3.z=⟨((aO cs mx ax).getD (ch ax ms.length) M3.z).id,((aO cs mx ax).getD (ch ax ms.length) M3.z).w,((aO cs mx ax).getD (ch ax ms.length) M3.z).c+(r:Int)*(q*((aO cs mx ax).getD (ch ax ms.length) M3.z).w)⟩:=by rw [cY (by omega),if_pos (by omega)]
         have hw1:0≤q*((bR q cs (fun _=>(r:Int)) (aO cs mx ax)).getD (ch ax ms.length) M3.z).w∧q*((bR q cs (fun _=>(r:Int)) (aO cs mx ax)).getD (ch ax ms.length) M3.z).w≤104857600∧0≤((bR q cs (fun _=>(r:Int)) (aO cs mx ax)).getD (ch ax ms.length) M3.z).c∧((bR q cs (fun _=>(r:Int)) (aO cs mx ax)).getD (ch ax ms.length) M3.z).c≤1048576:=by rw [hgj];dsimp only;omega
         refine aS ?_
         refine iD (i:=(ch ax ms.length)) (by omega) (by omega) ?_
         refine bz (γ:=Unit) (n:=29) Tryz.mixed rfl rfl (fun _ S=>True) (fun _=>[(0,97,(vP p 0)),(1,98,(vP p 0)),(2,99,(vP p 1)),(3,100,(.slice ba ms.length ca)),(4,101,(vP p 0)),(5,102,(vP p 0)),(6,103,(vP p 2)),(7,104,(vI ((ch ax ms.length:Nat):Int))),(8,105,(.pointer (some (ad ba (ch ax ms.length))))),(9,106,(vP (ps.getD (ch ax ms.length) 0) 0)),(10,107,(vP (ps.getD (ch ax ms.length) 0) 0)),(11,108,(vP (ps.getD (ch ax ms.length) 0) 2)),(12,109,(vI (((bR q cs (fun _=>(r:Int)) (aO cs mx ax)).getD (ch ax ms.length) M3.z).c))),(13,110,(vP p 0)),(14,111,(vP p 0)),(15,112,(vP p 0)),(16,113,(vP p 1)),(17,114,(.slice ba ms.length ca)),(18,115,(vP p 0)),(19,116,(vP p 0)),(20,117,(vP p 2)),(21,118,(vI ((ch ax ms.length:Nat):Int))),(22,119,(.pointer (some (ad ba (ch ax ms.length))))),(23,120,(vP (ps.getD (ch ax ms.length) 0) 0)),(24,121,(vI (q*(((bR q cs (fun _=>(r:Int)) (aO cs mx ax)).getD (ch ax ms.length) M3.z).w)))),(25,122,(vI ((((bR q cs (fun _=>(r:Int)) (aO cs mx ax)).getD (ch ax ms.length) M3.z).c)+(q*(((bR q cs (fun _=>(r:Int)) (aO cs mx ax)).getD (ch ax ms.length) M3.z).w))))),(26,123,(vP (ps.getD (ch ax ms.length) 0) 0)),(27,124,(vP (ps.getD (ch ax ms.length) 0) 2))]) (fun _ S=>(bif S 28 then (bI (ps.getD (ch ax ms.length) 0) [(vI (((bR q cs (fun _=>(r:Int)) (aO cs mx ax)).getD (ch ax ms.length) M3.z).id)),(vI (((bR q cs (fun _=>(r:Int)) (aO cs mx ax)).getD (ch ax ms.length) M3.z).w)),(vI ((((bR q cs (fun _=>(r:Int)) (aO cs mx ax)).getD (ch ax ms.length) M3.z).c)+(q*(((bR q cs (fun _=>(r:Int)) (aO cs mx ax)).getD (ch ax ms.length) M3.z).w))))] 161) else (bI (ps.getD (ch ax ms.length) 0) [(vI (((bR q cs (fun _=>(r:Int)) (aO cs mx ax)).getD (ch ax ms.length) M3.z).id)),(vI (((bR q cs (fun _=>(r:Int)) (aO cs mx ax)).getD (ch ax ms.length) M3.z).w)),(vI (((bR q cs (fun _=>(r:Int)) (aO cs mx ax)).getD (ch ax ms.length) M3.z).c))] 161))::(cI (ey (ps.eraseIdx (ch ax ms.length)) ((bR q cs (fun _=>(r:Int)) (aO cs mx ax)).eraseIdx (ch ax ms.length))))::(SlV 3 1 (.slice bs ms.length cp) ms.length (aF .i64 cs))::(bI p [(vI q),(.slice ba ms.length ca),(vI ((ch ax ms.length:Nat):Int))] 139)::(SlV 159 1 (.slice ba ms.length ca) ms.length (bJ dJ ps))::R) (()) trivial (fun _ h=>h) (fun _ _ h=>h) ?_ ?_
         ·refine ⟨aU,bW,bL CO rfl C2,db C8 fun _ _=>aa (.tail _ (.tail _ (.tail _ (.head _)))) rfl,aU,bW,bL CO rfl CG,db CH fun _ _=>aa (.tail _ (.tail _ (.tail _ (.head _)))) rfl,eJ CX Dq rr rr rr fun _=>⟨hT.ok,by omega,by omega,by omega⟩,dB DE rr rr fun _ _=>aw (.tail _ (.tail _ (.tail _ (.tail _ (.head _))))) (eV (by first|omega| (simp;omega))),bW,bL Dg rfl CG,?_,aU,aU,bW,bL CO rfl C2,db C8 fun _ _=>aa (.tail _ (.tail _ (.tail _ (.head _)))) rfl,aU,bW,bL CO rfl CG,db CH fun _ _=>aa (.tail _ (.tail _ (.tail _ (.head _)))) rfl,eJ CX Dq rr rr rr fun _=>⟨hT.ok,by omega,by omega,by omega⟩,dB DE rr rr fun _ _=>aw (.tail _ (.tail _ (.tail _ (.tail _ (.head _))))) (eV (by first|omega| (simp;omega))),?_,?_,bW,bL Dg rfl CG,?_,trivial⟩
          ·rintro _ S hF hS D hp K hK;try dsimp only
           exact bH (bE hp 11 rfl rfl) (bP CH rfl (aa (cF (nf hS D (k:=28) (i:=12) rfl) (.head _)) rfl)) 12 rfl rfl hS (hK () hF)
          ·rintro _ S hF hS D hp K hK
           try dsimp only at hF⊢
           refine bZ hp [110,120] rfl rfl ?_
           refine c9 (nf hS D (k:=28) (i:=24) rfl) ?_
           refine aS ?_
           refine bN D8 rfl (kA (by omega)) ?_
           rintro _ _ ⟨rfl,rfl⟩
           refine aE ?_
           refine fG (A:=(bI (ps.getD (ch ax ms.length) 0) [(vI (((bR q cs (fun _=>(r:Int)) (aO cs mx ax)).getD (ch ax ms.length) M3.z).id)),(vI (((bR q cs (fun _=>(r:Int)) (aO cs mx ax)).getD (ch ax ms.length) M3.z).w)),(vI ((((bR q cs (fun _=>(r:Int)) (aO cs mx ax)).getD (ch ax ms.length) M3.z).c)+(q*(((bR q cs (fun _=>(r:Int)) (aO cs mx ax)).getD (ch ax ms.length) M3.z).w))))] 161)) (nf hS D (k:=28) (i:=24) rfl) ?_
           refine aE (aS (aS (aS ?_)))
           exact cK hp hS (ti (hK () trivial)) rfl rfl rfl
          ·intro _ S h s D p K k;exact bV (bE p 12 rfl rfl) (bE p 24 rfl rfl) (aX (c:=(((bR q cs (fun _=>(r:Int)) (aO cs mx ax)).getD (ch ax ms.length) M3.z).c)+(q*(((bR q cs (fun _=>(r:Int)) (aO cs mx ax)).getD (ch ax ms.length) M3.z).w))) rfl rfl (cA (by omega) (by omega))) 25 rfl rfl s (k () h)
          ·rintro _ S hF hS D hp K hK
           try dsimp only at hF⊢
           refine bZ hp [122,124] rfl rfl ?_
           refine c9 hS ?_
           refine ts (cM CG rfl rfl rfl (nB rfl) rfl) ?_
           exact gE hp (ti (hK () trivial)) rfl rfl rfl
         ·rintro _ hF
          try dsimp only at hF⊢
          refine az (E':=[(0,(vP p 0)),(6,(.slice bs ms.length cp)),(8,(vI ((k+1:Nat):Int))),(9,(vP (ps.getD ax 0) 0)),(10,(vI ((cs).getD ax 0))),(45,(.bool false)),(59,(.bool false)),(71,(.bool true)),(96,(.bool true))]) ⟨rfl,rfl,rfl,rfl,rfl,rfl,rfl,rfl,rfl,trivial⟩ ?_
          refine qn hK12 ?_
          refine jD ?_
          refine gR ?_
          refine aE (aE ?_)
          refine ke (c:=(((bR q cs (fun _=>(r:Int)) (aO cs mx ax)).getD (ch ax ms.length) M3.z).c)+(q*(((bR q cs (fun _=>(r:Int)) (aO cs mx ax)).getD (ch ax ms.length) M3.z).w))) (by omega) (by omega) ?_
          rw [show hU (bR q cs (fun _=>(r:Int)) (aO cs mx ax)) (ch ax ms.length) ((((bR q cs (fun _=>(r:Int)) (aO cs mx ax)).getD (ch ax ms.length) M3.z).c)+(q*(((bR q cs (fun _=>(r:Int)) (aO cs mx ax)).getD (ch ax ms.length) M3.z).w)))=ew q cs (bR q cs (fun _=>(r:Int)) (aO cs mx ax)) (ch ax ms.length) from by unfold ew;rw [if_pos (by omega)]]
          refine aS (aS (aS ?_))
          exact az (by exact ⟨rfl,rfl,rfl,trivial⟩) (hK2 (bs,cp,ew q cs (bR q cs (fun _=>(r:Int)) (aO cs mx ax)) (ch ax ms.length),ch ax ms.length,k+1) ⟨hI.skip hr (by omega) r hub hex,hbs⟩ (by dsimp only;have:=hI.k2;omega))
        ·refine tp rfl (cu rfl rfl (decide_eq_false h7)) (td hK13 (ar rfl (dp hK12 ?_)))
         refine jD ?_
         refine gR ?_
         rw [show bR q cs (fun _=>(r:Int)) (aO cs mx ax)=ew q cs (bR q cs (fun _=>(r:Int)) (aO cs mx ax)) (ch ax ms.length) from by unfold ew;rw [if_neg (by omega)]]
         exact az (by exact ⟨rfl,rfl,rfl,trivial⟩) (hK2 (bs,cp,ew q cs (bR q cs (fun _=>(r:Int)) (aO cs mx ax)) (ch ax ms.length),ch ax ms.length,k+1) ⟨hI.skip hr (by omega) r hub hex,hbs⟩ (by dsimp only;have:=hI.k2;omega))
      ·refine tp rfl (aV rfl rfl (beq_eq_false_iff_ne.2 h6)) (td hK10 (ar rfl (dp hK8 (ai (fun _ hK11=>?_)))))
       have hnl:=jr hal
       refine bz (γ:=Unit) (n:=15) Tryz.mixed rfl rfl (fun _ S=>True) (fun _=>[(0,75,(vP p 0)),(1,76,(vP p 0)),(2,77,(vP p 0)),(3,78,(vP p 2)),(4,79,(vN ax)),(5,80,(vI ((ax+1:Nat):Int))),(6,81,(vP p 0)),(7,82,(vP p 0)),(8,83,(vP p 1)),(9,84,(.slice ba ms.length ca)),(10,85,(vN ms.length)),(11,86,(vI ((ch ax ms.length:Nat):Int))),(12,87,(vP p 0)),(13,88,(vP p 2))]) (fun _ S=>(cI (ey ps (aO cs mx ax)))::(SlV 3 1 (.slice bs ms.length cp) ms.length (aF .i64 cs))::(bif S 14 then (bI p [(vI q),(.slice ba ms.length ca),(vI ((ch ax ms.length:Nat):Int))] 139) else (bI p [(vI q),(.slice ba ms.length ca),(vN ax)] 139))::(SlV 159 1 (.slice ba ms.length ca) ms.length (bJ dJ ps))::R) (()) trivial (fun _ h=>h) (fun _ _ h=>h) ?_ ?_
       ·refine ⟨aU,aU,bW,bL CO rfl CG,?_,?_,aU,bW,bL CO rfl C2,?_,iT CX rfl,?_,bW,bL CO rfl CG,?_,trivial⟩
        ·rintro _ S hF hS D hp K hK;try dsimp only
         exact bH (bE hp 3 rfl rfl) (bP CH rfl (aa (cF (nf hS D (k:=14) (i:=4) rfl) (.tail _ (.tail _ (.head _)))) rfl)) 4 rfl rfl hS (hK () hF)
        ·intro _ S h s D p K k;exact bH (bE p 4 rfl rfl) (aX (c:=((ax+1:Nat):Int)) rfl rfl (aB (by omega))) 5 rfl rfl s (k () h)
        ·rintro _ S hF hS D hp K hK;try dsimp only
         exact bH (bE hp 8 rfl rfl) (bP C8 rfl (aa (cF (nf hS D (k:=14) (i:=9) rfl) (.tail _ (.tail _ (.head _)))) rfl)) 9 rfl rfl hS (hK () hF)
        ·intro _ S h s D p K k;exact bV (bE p 5 rfl rfl) (bE p 10 rfl rfl) (oz (c:=((ch ax ms.length:Nat):Int)) rfl rfl (by omega) (nC hal)) 11 rfl rfl s (k () h)
        ·rintro _ S hF hS D hp K hK
         try dsimp only at hF⊢
         refine bZ hp [86,88] rfl rfl ?_
         refine aR ?_
         refine c9 hS ?_
         refine ts (cM CG rfl rfl rfl (nB rfl) rfl) ?_
         refine aR (aR ?_)
         exact gE hp (ti (hK () trivial)) rfl rfl rfl
       ·rintro _ hF
        try dsimp only at hF⊢
        refine az (E':=[(0,(vP p 0)),(6,(.slice bs ms.length cp)),(8,(vI ((k+1:Nat):Int))),(9,(vP (ps.getD ax 0) 0)),(10,(vI ((cs).getD ax 0))),(45,(.bool false)),(59,(.bool false)),(71,(.bool false))]) ⟨rfl,rfl,rfl,rfl,rfl,rfl,rfl,rfl,trivial⟩ ?_
        refine qn hK11 (ai (fun _ hK12=>av (fun _ hK13=>ag rfl (ag rfl (cV rfl (bU 2 CO rfl CG rfl rfl (bK CH rfl (aa (.tail _ (.tail _ (.head _))) rfl) (tp rfl (ah (k':=ch ax ms.length) CI CG rfl rfl hbs (by omega) (by omega) (by omega)) ?_))))))))
        refine bK CH rfl (aw (.tail _ (.head _)) (aQ (by first|omega| (simp;omega)))) ?_
        by_cases h8:((cs).getD (ch ax ms.length) 0)>0
        ·refine tp rfl (cu rfl rfl (decide_eq_true h8)) (td hK13 (aG rfl ?_))
         have hw1:=hz (ch ax ms.length) hnl
         refine iD (i:=(ch ax ms.length)) (by omega) (by omega) ?_
         refine bz (γ:=Unit) (n:=29) Tryz.mixed rfl rfl (fun _ S=>True) (fun _=>[(0,97,(vP p 0)),(1,98,(vP p 0)),(2,99,(vP p 1)),(3,100,(.slice ba ms.length ca)),(4,101,(vP p 0)),(5,102,(vP p 0)),(6,103,(vP p 2)),(7,104,(vI ((ch ax ms.length:Nat):Int))),(8,105,(.pointer (some (ad ba (ch ax ms.length))))),(9,106,(vP (ps.getD (ch ax ms.length) 0) 0)),(10,107,(vP (ps.getD (ch ax ms.length) 0) 0)),(11,108,(vP (ps.getD (ch ax ms.length) 0) 2)),(12,109,(vI (((aO cs mx ax).getD (ch ax ms.length) M3.z).c))),(13,110,(vP p 0)),(14,111,(vP p 0)),(15,112,(vP p 0)),(16,113,(vP p 1)),(17,114,(.slice ba ms.length ca)),(18,115,(vP p 0)),(19,116,(vP p 0)),(20,117,(vP p 2)),(21,118,(vI ((ch ax ms.length:Nat):Int))),(22,119,(.pointer (some (ad ba (ch ax ms.length))))),(23,120,(vP (ps.getD (ch ax ms.length) 0) 0)),(24,121,(vI (q*(((aO cs mx ax).getD (ch ax ms.length) M3.z).w)))),(25,122,(vI ((((aO cs mx ax).getD (ch ax ms.length) M3.z).c)+(q*(((aO cs mx ax).getD (ch ax ms.length) M3.z).w))))),(26,123,(vP (ps.getD (ch ax ms.length) 0) 0)),(27,124,(vP (ps.getD (ch ax ms.length) 0) 2))]) (fun _ S=>(bif S 28 then (bI (ps.getD (ch ax ms.length) 0) [(vI (((aO cs mx ax).getD (ch ax ms.length) M3.z).id)),(vI (((aO cs mx ax).getD (ch ax ms.length) M3.z).w)),(vI ((((aO cs mx ax).getD (ch ax ms.length) M3.z).c)+(q*(((aO cs mx ax).getD (ch ax ms.length) M3.z).w))))] 161) else (bI (ps.getD (ch ax ms.length) 0) [(vI (((aO cs mx ax).getD (ch ax ms.length) M3.z).id)),(vI (((aO cs mx ax).getD (ch ax ms.length) M3.z).w)),(vI (((aO cs mx ax).getD (ch ax ms.length) M3.z).c))] 161))::(cI (ey (ps.eraseIdx (ch ax ms.length)) ((aO cs mx ax).eraseIdx (ch ax ms.length))))::(SlV 3 1 (.slice bs ms.length cp) ms.length (aF .i64 cs))::(bI p [(vI q),(.slice ba ms.length ca),(vI ((ch ax ms.length:Nat):Int))] 139)::(SlV 159 1 (.slice ba ms.length ca) ms.length (bJ dJ ps))::R) (()) trivial (fun _ h=>h) (fun _ _ h=>h) ?_ ?_
         ·refine ⟨aU,bW,bL CO rfl C2,db C8 fun _ _=>aa (.tail _ (.tail _ (.tail _ (.head _)))) rfl,aU,bW,bL CO rfl CG,db CH fun _ _=>aa (.tail _ (.tail _ (.tail _ (.head _)))) rfl,eJ CX Dq rr rr rr fun _=>⟨hT.ok,by omega,by omega,by omega⟩,dB DE rr rr fun _ _=>aw (.tail _ (.tail _ (.tail _ (.tail _ (.head _))))) (eV (by first|omega| (simp;omega))),bW,bL Dg rfl CG,?_,aU,aU,bW,bL CO rfl C2,db C8 fun _ _=>aa (.tail _ (.tail _ (.tail _ (.head _)))) rfl,aU,bW,bL CO rfl CG,db CH fun _ _=>aa (.tail _ (.tail _ (.tail _ (.head _)))) rfl,eJ CX Dq rr rr rr fun _=>⟨hT.ok,by omega,by omega,by omega⟩,dB DE rr rr fun _ _=>aw (.tail _ (.tail _ (.tail _ (.tail _ (.head _))))) (eV (by first|omega| (simp;omega))),?_,?_,bW,bL Dg rfl CG,?_,trivial⟩
          ·rintro _ S hF hS D hp K hK;try dsimp only
           exact bH (bE hp 11 rfl rfl) (bP CH rfl (aa (cF (nf hS D (k:=28) (i:=12) rfl) (.head _)) rfl)) 12 rfl rfl hS (hK () hF)
          ·rintro _ S hF hS D hp K hK
           try dsimp only at hF⊢
           refine bZ hp [110,120] rfl rfl ?_
           refine c9 (nf hS D (k:=28) (i:=24) rfl) ?_
           refine aS ?_
           refine bN D8 rfl (kA (by omega)) ?_
           rintro _ _ ⟨rfl,rfl⟩
           refine aE ?_
           refine fG (A:=(bI (ps.getD (ch ax ms.length) 0) [(vI (((aO cs mx ax).getD (ch ax ms.length) M3.z).id)),(vI (((aO cs mx ax).getD (ch ax ms.length) M3.z).w)),(vI ((((aO cs mx ax).getD (ch ax ms.length) M3.z).c)+(q*(((aO cs mx ax).getD (ch ax ms.length) M3.z).w))))] 161)) (nf hS D (k:=28) (i:=24) rfl) ?_
           refine aE (aS (aS (aS ?_)))
           exact cK hp hS (ti (hK () trivial)) rfl rfl rfl
          ·intro _ S h s D p K k;exact bV (bE p 12 rfl rfl) (bE p 24 rfl rfl) (aX (c:=(((aO cs mx ax).getD (ch ax ms.length) M3.z).c)+(q*(((aO cs mx ax).getD (ch ax ms.length) M3.z).w))) rfl rfl (cA (by omega) (by omega))) 25 rfl rfl s (k () h)
          ·rintro _ S hF hS D hp K hK
           try dsimp only at hF⊢
           refine bZ hp [122,124] rfl rfl ?_
           refine c9 hS ?_
           refine ts (cM CG rfl rfl rfl (nB rfl) rfl) ?_
           exact gE hp (ti (hK () trivial)) rfl rfl rfl
         ·rintro _ hF
          try dsimp only at hF⊢
          refine az (E':=[(0,(vP p 0)),(6,(.slice bs ms.length cp)),(8,(vI ((k+1:Nat):Int))),(9,(vP (ps.getD ax 0) 0)),(10,(vI ((cs).getD ax 0))),(45,(.bool false)),(59,(.bool false)),(71,(.bool false)),(96,(.bool true))]) ⟨rfl,rfl,rfl,rfl,rfl,rfl,rfl,rfl,rfl,trivial⟩ ?_
          refine qn hK12 ?_
          refine jD ?_
          refine gR ?_
          refine aE (aE ?_)
          refine ke (c:=(((aO cs mx ax).getD (ch ax ms.length) M3.z).c)+(q*(((aO cs mx ax).getD (ch ax ms.length) M3.z).w))) (by omega) (by omega) ?_
          rw [show hU (aO cs mx ax) (ch ax ms.length) ((((aO cs mx ax).getD (ch ax ms.length) M3.z).c)+(q*(((aO cs mx ax).getD (ch ax ms.length) M3.z).w)))=ew q cs (aO cs mx ax) (ch ax ms.length) from by unfold ew;rw [if_pos (by omega)]]
          refine aS (aS (aS ?_))
          exact az (by exact ⟨rfl,rfl,rfl,trivial⟩) (hK2 (bs,cp,ew q cs (aO cs mx ax) (ch ax ms.length),ch ax ms.length,k+1) ⟨hI.step' hr (by omega),hbs⟩ (by dsimp only;have:=hI.k2;omega))
        ·refine tp rfl (cu rfl rfl (decide_eq_false h8)) (td hK13 (ar rfl (dp hK12 ?_)))
         refine jD ?_
         refine gR ?_
         rw [show aO cs mx ax=ew q cs (aO cs mx ax) (ch ax ms.length) from by unfold ew;rw [if_neg (by omega)]]
         refine aS (aS (aS ?_))
         exact az (by exact ⟨rfl,rfl,rfl,trivial⟩) (hK2 (bs,cp,ew q cs (aO cs mx ax) (ch ax ms.length),ch ax ms.length,k+1) ⟨hI.step' hr (by omega),hbs⟩ (by dsimp only;have:=hI.k2;omega))
    ·by_cases hc1A:((cs).getD ax 0)>0
     ·
      have hc1B:¬(((mx.getD ax M3.z).c)≥((cs).getD ax 0)):=fun hh=>hc1 ⟨hc1A,hh⟩
      refine ag rfl (tp rfl (cu rfl rfl (decide_eq_true hc1A)) (ag rfl ?_))
      refine ae rfl rfl ?_
      refine ag rfl ?_
      refine ae rfl rfl ?_
      refine cV rfl ?_
      refine ae rfl rfl ?_
      refine bU 2 Dg rfl CG rfl rfl ?_
      refine ae rfl rfl ?_
      refine bK CH rfl (aa (.head _) rfl) ?_
      refine ae rfl rfl ?_
      refine ag rfl ?_
      refine ae rfl rfl ?_
      refine tp rfl (cC rfl rfl (decide_eq_false hc1B)) (tp rfl (aL rfl rfl) ?_)
      exact aI (az (by exact ⟨rfl,rfl,rfl,rfl,rfl,rfl,trivial⟩) hKK)
     ·
      refine ag rfl (tp rfl (cu rfl rfl (decide_eq_false hc1A)) (ag rfl ?_))
      refine aq rfl rfl rfl ?_
      refine aq rfl rfl rfl ?_
      refine aq rfl rfl rfl ?_
      refine aq rfl rfl rfl ?_
      refine aq rfl rfl rfl ?_
      refine aq rfl rfl rfl ?_
      refine tp rfl (aC rfl rfl) ?_
      exact aI (az (by exact ⟨rfl,rfl,rfl,rfl,rfl,rfl,trivial⟩) hKK)
 ·intro K0 hpass
  refine av (fun K2 hK2=>ag rfl (ag rfl (aR (aR (aR ?_)))))
  refine bN Tryz.call104 rfl (yV hTlp rfl hT.ok (by omega) hT.nd ws hw okl (by omega)) ?_
  rintro _ _ ⟨bs9,cp10,hok11,hle12,rfl,rfl⟩
  rw [show il (c8 ms ws)=true from hany]
  refine ag rfl (tp rfl (aW rfl rfl) (tp rfl (aW rfl rfl) (aA rfl (aA rfl (td hK2 (ai (fun _ hK3=>av (fun _ hK4=>?_))))))))
  refine ag rfl (tp rfl (dy (c:=false) rfl rfl) (td hK4 (ar rfl (dp hK3 (av (fun _ hK5=>aA rfl ?_))))))
  refine td hK5 (ai (fun _ hK6=>?_))
  refine uA ?_
  refine qn hK6 ?_
  rw [hcs]
  refine aS (aS (aS (aS ?_)))
  exact az (by exact ⟨rfl,rfl,rfl,trivial⟩) (hpass (bs9,cp10,ms,a,0) ⟨hT.inv0 hal0 hcb,hok11⟩)
theorem yx{R:List HP}{p a nw:Nat}{q:Int}{ms:List M3}(ws:List (Int×Int))(hwl:ws.length=nw){bl:Option Addr}{cl:Nat}(hw:Rd R bl (df ws))(okl:bB bl nw)(lw:nw≤1000000)(hb:ms.length≤50000)(hany:il (c8 ms ws)=true):Ok Tryz.prog 57 [.pointer (some ⟨p,0,none⟩),.slice bl nw cl] (bF p q ms a::R) (fun v M=> ∃(tm:List M3) (ta:Nat),TakeR q (c8 ms ws) (ms,a) (tm,ta)∧v=.tuple #[.int .i64 (tm.getD ta M3.z).id,.bool true]∧M=bF p q (hU tm ta ((tm.getD ta M3.z).c- (c8 ms ws).getD ta 0)) ta::R):=by subst hwl;exact zO ws hw okl lw hb hany
end Go.Proofs.YtanfdikglplkaaaGreatDoor
