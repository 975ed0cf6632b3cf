/- Parts Tb, Gb: own lemmas and contracts of the code that the claim reaches. -/
import Derived.Test.YtanfdikglplkaaaGreatDoorM03
import Derived.Test.YtanfdikglplkaaaGreatDoorM04
import Derived.Test.YtanfdikglplkaaaGreatDoorM19
import Derived.Test.YtanfdikglplkaaaGreatDoorM15
set_option linter.unusedSimpArgs false
set_option linter.unusedVariables false
set_option maxRecDepth 100000
namespace Go.Proofs.YtanfdikglplkaaaGreatDoor
open Go Go.Proofs Sp
theorem x9{R:List HP}(x:Int):
 Ok Tryz.prog 39 [(vI x)] R
  (fun v M=> ∃p,v=.pointer (some ⟨p,0,none⟩)∧M=bF p (BX x) [] 0::R):=by
 refine aP (N:=8) Tryz.func39 rfl rfl rfl (fun W=>?_)
 refine av (fun _ hK1=>aA rfl (td hK1 (av (fun _ hK2=>ag rfl (tp rfl (fm (c:=max x 1) rfl rfl rfl) (tp rfl (hO (c:=min (max x 1) 1048576) rfl rfl rfl) ?_))))))
 refine tp rfl (bG (cs:=[(vI (min (max x 1) 1048576)),(.slice none 0 0),(vI 0)]) (pl:=[(0,1),(1,1),(2,1)]) CO Tryz.zeroValue139 (fun _=>by simp) rfl rfl) ?_
 refine tm rfl (cZ rfl rfl) ?_
 rintro _ _ ⟨b1,rfl,rfl⟩
 refine aA rfl (td hK2 (ay ?_))
 refine BF (by omega) (by omega) ?_
 refine aM rfl rfl ?_
 exact ⟨_,rfl,rfl⟩
set_option maxHeartbeats 4000000 in
theorem yh{R:List HP}{p a:Nat}{q:Int}{ms:List M3}(id w:Int)(hb:ms.length≤50000):
 Ok Tryz.prog 75 [(vP p 0),(vI id),(vI w)] ((bF p q ms a)::R)
  (fun v M=>v=.int .i64 (hX ms id w)∧M=bF p q (ir ms id w) a::R):=by
 refine aP (N:=32) Tryz.func75 rfl rfl rfl (fun W=>?_)
 refine av (fun _ hK1=>aA rfl (td hK1 (ai (fun _ hK2=>aH (av (fun _ hK3=>ag rfl ?_))))))
 by_cases h1:w<1
 ·refine tp rfl (aJ rfl rfl (decide_eq_true h1)) (ag rfl ?_)
  refine aq rfl rfl rfl ?_
  refine aq rfl rfl rfl ?_
  refine tp rfl (aL rfl rfl) (aA rfl (td hK3 (aG rfl (av (fun _ hK4=>aA rfl (td hK4 ?_))))))
  refine ay ?_
  refine cH ?_
  refine aK ?_
  have hje:hX ms id w=1:=by unfold hX;first|rw [if_pos (by omega)]|rw [if_neg (by omega),if_pos (by omega)]
  rw [show bF p q ms a=bF p q (ir ms id w) a from by unfold ir;rw [hje,if_neg (by decide)]]
  refine aM rfl rfl ?_
  exact ⟨by rw [hje],rfl⟩
 ·refine tp rfl (aJ rfl rfl (decide_eq_false h1)) (ag rfl ?_)
  refine ae rfl rfl ?_
  refine ag rfl ?_
  refine ae rfl rfl ?_
  by_cases h2:w>100
  ·refine tp rfl (cu rfl rfl (decide_eq_true h2)) (tp rfl (aC rfl rfl) (aA rfl (td hK3 (aG rfl (av (fun _ hK4=>aA rfl (aI ?_)))))))
   refine qn hK4 (ay ?_)
   refine cH ?_
   refine aK ?_
   have hje:hX ms id w=1:=by unfold hX;first|rw [if_pos (by omega)]|rw [if_neg (by omega),if_pos (by omega)]
   rw [show bF p q ms a=bF p q (ir ms id w) a from by unfold ir;rw [hje,if_neg (by decide)]]
   refine aM rfl rfl ?_
   exact ⟨by rw [hje],rfl⟩
  ·refine tp rfl (cu rfl rfl (decide_eq_false h2)) (tp rfl (aC rfl rfl) (aA rfl (td hK3 (ar rfl (av (fun _ hK4=>?_))))))
   refine qL (fun ba ca ps hT=>?_)
   have hTlp:=hT.lp
   have hTat:=hT.at_
   have hTq1:=hT.q1
   have hTq2:=hT.q2
   refine ag rfl (ag rfl (aR (aR (aR ?_))))
   refine bN Tryz.call123 rfl (oM hTlp rfl hT.ok (by omega) id) ?_
   rintro _ _ ⟨rfl,rfl⟩
   by_cases h3:(dS ms id)≥0
   ·refine tp rfl (cC rfl rfl (decide_eq_true h3)) (aA rfl (td hK4 (aG rfl (av (fun _ hK5=>aA rfl (td hK5 ?_))))))
    refine ay ?_
    refine cH ?_
    refine aK ?_
    refine aR (aR (aR ?_))
    refine j6 rfl hT ?_
    have hje:hX ms id w=8:=by unfold hX;first|rw [if_pos (by omega)]|rw [if_neg (by omega),if_pos (by omega)]
    rw [show bF p q ms a=bF p q (ir ms id w) a from by unfold ir;rw [hje,if_neg (by decide)]]
    refine aM rfl rfl ?_
    exact ⟨by rw [hje],rfl⟩
   ·refine tp rfl (cC rfl rfl (decide_eq_false h3)) (aA rfl (td hK4 (ar rfl (cS (aZ (qn hK2 (av (fun _ hK5=>?_))))))))
    refine ag rfl (ag rfl (cV rfl (bU 1 CO rfl C2 rfl rfl (bK C8 rfl (aa (.head _) rfl) (ag rfl (ag rfl (tp rfl (bG (cs:=[(vI id),(vI w),(vI 0)]) (pl:=[(0,1),(1,1),(2,1)]) Dg Tryz.zeroValue161 (fun _=>by simp) rfl rfl) ?_)))))))
    refine tm rfl (cZ rfl rfl) ?_
    rintro _ _ ⟨b4,rfl,rfl⟩
    refine tm rfl (aD (cs:=[(vP b4 0)]) CX Dq Tryz.zeroValue159 (by decide) rfl rfl rfl rfl) ?_
    rintro _ _ ⟨bs5,cp6,hok7,hle8,rfl,rfl⟩
    refine aS ?_
    refine tm rfl (cR (i:=Tryz.t159) CX Tryz.type159 rfl rfl rfl (by decide) rfl rfl hok7 (by first| (simp;done)| (simp;omega)) (cj (.tail _ (.head _))) (by simp [Value.oneCell']) (by rw [show Tryz.t159.bytes=8 from rfl];omega)) ?_
    rintro _ _ ⟨bs9,cp10,hok11,hle12,rfl,rfl⟩
    rw [show bJ dJ ps++[(.pointer (some ⟨b4,0,none⟩))]=bJ dJ (ps++[b4]) from iG dJ ps b4]
    refine cV rfl (bU 1 CO rfl C2 rfl rfl (aS ?_))
    refine ts (cM C2 rfl rfl rfl (nB rfl) rfl) ?_
    refine td hK5 (av (fun _ hK6=>aA rfl (td hK6 (ay (de (de ?_))))))
    refine Bq ⟨id,w,0⟩ hTlp ?_
    refine aR (aR ?_)
    refine j6 (by simp) (hT.joined (by omega) (by omega) hok11 hle12) ?_
    have hje:hX ms id w=0:=by unfold hX;rw [if_neg (by omega),if_neg (by omega)]
    rw [show (ms++[⟨id,w,0⟩]:List M3)=ir ms id w from by unfold ir;rw [if_pos hje]]
    refine aE (ak ?_)
    refine aM rfl rfl ?_
    exact ⟨by rw [hje],rfl⟩
set_option maxHeartbeats 4000000 in
theorem vw{R:List HP}{p a:Nat}{q:Int}{ms:List M3}(id:Int)(hb:ms.length≤50000):
 Ok Tryz.prog 78 [(vP p 0),(vI id)] ((bF p q ms a)::R)
  (fun v M=>v=.int .i64 (kC ms id)∧M=bF p q (fo ms id) (gd ms a id)::R):=by
 refine aP (N:=48) Tryz.func78 rfl rfl rfl (fun W=>?_)
 refine qL (fun ba ca ps hT=>?_)
 have hTlp:=hT.lp
 have hTat:=hT.at_
 have hTq1:=hT.q1
 have hTq2:=hT.q2
 refine av (fun _ hK1=>aA rfl (td hK1 (av (fun _ hK2=>ag rfl (ag rfl (aR ?_))))))
 refine aR (aR ?_)
 refine bN Tryz.call123 rfl (oM hTlp rfl hT.ok (by omega) id) ?_
 rintro _ _ ⟨rfl,rfl⟩
 refine aA rfl (td hK2 (ai (fun _ hK3=>av (fun _ hK4=>ag rfl ?_))))
 by_cases h1:(dS ms id)<0
 ·refine tp rfl (aJ rfl rfl (decide_eq_true h1)) (td hK4 (aG rfl (av (fun _ hK5=>aA rfl (td hK5 (ay ?_))))))
  refine aK ?_
  refine aR (aR (aR ?_))
  refine j6 rfl hT ?_
  rw [show bF p q ms a=bF p q (fo ms id) (gd ms a id) from by unfold fo gd;rw [if_pos (by omega),if_pos (by omega)]]
  refine aM rfl rfl ?_
  exact ⟨by unfold kC;split <;>first|rfl| (exfalso;omega),rfl⟩
 ·refine tp rfl (aJ rfl rfl (decide_eq_false h1)) (td hK4 (ar rfl (dp hK3 (av (fun _ hK5=>?_)))))
  have hpg:=p5 ms id
  obtain ⟨kp,hkp⟩:∃k:Nat,dS ms id=(k:Int):=⟨(dS ms id).toNat,by omega⟩
  rw [hkp]
  have hkl:kp<ms.length:=by omega
  refine ag rfl (ag rfl (cV rfl (bU 1 CO rfl C2 rfl rfl (bK C8 rfl (aa (.head _) rfl) (ag rfl (ag rfl (tp rfl (aX (c:=((kp+1:Nat):Int)) rfl rfl (aB (by omega))) ?_)))))))
  refine aE ?_
  refine bN Tryz.call124 rfl (qY (cx:=ca) ps (by first|rfl|omega) kp hkl) ?_
  rintro _ _ ⟨rfl,rfl⟩
  refine cV rfl (bU 1 CO rfl C2 rfl rfl (aE ?_))
  refine ts (cM C2 rfl rfl rfl (nB rfl) rfl) ?_
  refine td hK5 (ai (fun _ hK6=>av (fun _ hK7=>aR ?_)))
  refine iD (i:=kp) hTlp (by omega) ?_
  refine ak ?_
  have hel:(ms.eraseIdx kp).length=ms.length-1:=by rw [List.length_eraseIdx,if_pos hkl]
  have hpel:(ps.eraseIdx kp).length=(ms.eraseIdx kp).length:=by rw [hel,List.length_eraseIdx,if_pos (by omega)];omega
  rw [hpel]
  have hbok:bB ba (ms.eraseIdx kp).length:=uX hT.ok (by omega)
  refine ag rfl (ag rfl (cV rfl (bU 2 CO rfl CG rfl rfl (bK CH rfl (aa (.tail _ (.head _)) rfl) ?_))))
  by_cases h2:(kp:Int)< (a:Int)
  ·refine tp rfl (aJ rfl rfl (decide_eq_true h2)) (td hK7 (aG rfl (aj (ag rfl (cV rfl (bU 2 CO rfl CG rfl rfl (bK CH rfl (aa (.tail _ (.head _)) rfl) (tp rfl (eR (c:=((a-1:Nat):Int)) rfl rfl ((cA (by omega) (by omega)).trans (by omega))) ?_))))))))
   refine cV rfl (bU 2 CO rfl CG rfl rfl (aE ?_))
   refine ts (cM CG rfl rfl rfl (nB rfl) rfl) ?_
   refine td hK6 (ai (fun _ hK8=>ai (fun _ hK9=>?_)))
   by_cases h3:((a-1:Nat):Int)=(((ms.eraseIdx kp).length:Nat):Int)
   ·refine bz (γ:=Unit) (n:=10) Tryz.mixed rfl rfl (fun _ S=>True) (fun _=>[(0,35,(vP p 0)),(1,36,(vP p 0)),(2,37,(vP p 2)),(3,38,(vI ((a-1:Nat):Int))),(4,39,(vP p 0)),(5,40,(vP p 0)),(6,41,(vP p 1)),(7,42,(.slice ba ((ms.eraseIdx kp).length) ca)),(8,43,(vI (((ms.eraseIdx kp).length:Nat):Int))),(9,44,(.bool true))]) (fun _ S=>(bI p [(vI q),(.slice ba ((ms.eraseIdx kp).length) ca),(vI ((a-1:Nat):Int))] 139)::(cI (ey (ps.eraseIdx kp) (ms.eraseIdx kp)))::(SlV 159 1 (.slice ba ((ms.eraseIdx kp).length) ca) ((ms.eraseIdx kp).length) (bJ dJ (ps.eraseIdx kp)))::R) (()) trivial (fun _ h=>h) (fun _ _ h=>h) ?_ ?_
    ·refine ⟨aU,bW,bL CO rfl CG,db CH fun _ _=>aa (.head _) rfl,aU,bW,bL CO rfl C2,db C8 fun _ _=>aa (.head _) rfl,iT CX rfl,?_,trivial⟩
     ·intro _ S h s D p K k;exact bV (bE p 3 rfl rfl) (bE p 8 rfl rfl) (aV rfl rfl (beq_iff_eq.2 h3)) 9 rfl rfl s (k () h)
    ·rintro _ hF
     try dsimp only at hF⊢
     refine az (E':=[(0,(vP p 0)),(1,(vI id)),(4,(vI 0)),(5,(vN kp)),(10,(.bool false)),(27,(.bool true)),(44,(.bool true))]) ⟨rfl,rfl,rfl,rfl,rfl,rfl,rfl,trivial⟩ ?_
     refine qn hK9 (aG rfl (aj (ag rfl (cV rfl (bU 2 CO rfl CG rfl rfl ?_)))))
     refine ts (cM CG rfl rfl rfl (nB rfl) rfl) ?_
     refine td hK8 (av (fun _ hK10=>aA rfl (td hK10 (ay ?_))))
     have hlv:0=gd ms a id:=by
      unfold gd;rw [hkp,Int.toNat_natCast,if_neg (by omega)]
      by_cases h1:kp<a
      ·simp only [if_pos h1];first| (rw [if_pos (by omega)];done)| (rw [if_pos (by omega)];omega)| (rw [if_neg (by omega)];done)| (rw [if_neg (by omega)];omega)
      ·simp only [if_neg h1];first| (rw [if_pos (by omega)];done)| (rw [if_pos (by omega)];omega)| (rw [if_neg (by omega)];done)| (rw [if_neg (by omega)];omega)
     refine aE (aR (aR ?_))
     refine l4 (congrArg (fun x:Nat=>Value.int .i64 (x:Int)) hlv) rfl (hT.left (k:=kp) (by omega) (by unfold gd;rw [hkp,Int.toNat_natCast,if_neg (by omega)]) hbok) ?_
     rw [show ms.eraseIdx kp=fo ms id from by unfold fo;rw [hkp,Int.toNat_natCast,if_neg (by omega)]]
     refine aM rfl rfl ?_
     exact ⟨by unfold kC;split <;>first|rfl| (exfalso;omega),rfl⟩
   ·refine bz (γ:=Unit) (n:=10) Tryz.mixed rfl rfl (fun _ S=>True) (fun _=>[(0,35,(vP p 0)),(1,36,(vP p 0)),(2,37,(vP p 2)),(3,38,(vI ((a-1:Nat):Int))),(4,39,(vP p 0)),(5,40,(vP p 0)),(6,41,(vP p 1)),(7,42,(.slice ba ((ms.eraseIdx kp).length) ca)),(8,43,(vI (((ms.eraseIdx kp).length:Nat):Int))),(9,44,(.bool false))]) (fun _ S=>(bI p [(vI q),(.slice ba ((ms.eraseIdx kp).length) ca),(vI ((a-1:Nat):Int))] 139)::(cI (ey (ps.eraseIdx kp) (ms.eraseIdx kp)))::(SlV 159 1 (.slice ba ((ms.eraseIdx kp).length) ca) ((ms.eraseIdx kp).length) (bJ dJ (ps.eraseIdx kp)))::R) (()) trivial (fun _ h=>h) (fun _ _ h=>h) ?_ ?_
    ·refine ⟨aU,bW,bL CO rfl CG,db CH fun _ _=>aa (.head _) rfl,aU,bW,bL CO rfl C2,db C8 fun _ _=>aa (.head _) rfl,iT CX rfl,?_,trivial⟩
     ·intro _ S h s D p K k;exact bV (bE p 3 rfl rfl) (bE p 8 rfl rfl) (aV rfl rfl (beq_eq_false_iff_ne.2 h3)) 9 rfl rfl s (k () h)
    ·rintro _ hF
     try dsimp only at hF⊢
     refine az (E':=[(0,(vP p 0)),(1,(vI id)),(4,(vI 0)),(5,(vN kp)),(10,(.bool false)),(27,(.bool true)),(44,(.bool false))]) ⟨rfl,rfl,rfl,rfl,rfl,rfl,rfl,trivial⟩ ?_
     refine qn hK9 (ar rfl (dp hK8 (av (fun _ hK10=>aA rfl (td hK10 (ay ?_))))))
     have hlv:a-1=gd ms a id:=by
      unfold gd;rw [hkp,Int.toNat_natCast,if_neg (by omega)]
      by_cases h1:kp<a
      ·simp only [if_pos h1];first| (rw [if_pos (by omega)];done)| (rw [if_pos (by omega)];omega)| (rw [if_neg (by omega)];done)| (rw [if_neg (by omega)];omega)
      ·simp only [if_neg h1];first| (rw [if_pos (by omega)];done)| (rw [if_pos (by omega)];omega)| (rw [if_neg (by omega)];done)| (rw [if_neg (by omega)];omega)
     refine aE (aR (aR ?_))
     refine l4 (congrArg (fun x:Nat=>Value.int .i64 (x:Int)) hlv) rfl (hT.left (k:=kp) (by omega) (by unfold gd;rw [hkp,Int.toNat_natCast,if_neg (by omega)]) hbok) ?_
     rw [show ms.eraseIdx kp=fo ms id from by unfold fo;rw [hkp,Int.toNat_natCast,if_neg (by omega)]]
     refine aM rfl rfl ?_
     exact ⟨by unfold kC;split <;>first|rfl| (exfalso;omega),rfl⟩
  ·refine tp rfl (aJ rfl rfl (decide_eq_false h2)) (td hK7 (ar rfl (dp hK6 (ai (fun _ hK8=>ai (fun _ hK9=>?_))))))
   by_cases h4:(a:Int)=(((ms.eraseIdx kp).length:Nat):Int)
   ·refine bz (γ:=Unit) (n:=10) Tryz.mixed rfl rfl (fun _ S=>True) (fun _=>[(0,35,(vP p 0)),(1,36,(vP p 0)),(2,37,(vP p 2)),(3,38,(vN a)),(4,39,(vP p 0)),(5,40,(vP p 0)),(6,41,(vP p 1)),(7,42,(.slice ba ((ms.eraseIdx kp).length) ca)),(8,43,(vI (((ms.eraseIdx kp).length:Nat):Int))),(9,44,(.bool true))]) (fun _ S=>(cI (ey (ps.eraseIdx kp) (ms.eraseIdx kp)))::(bI p [(vI q),(.slice ba ((ms.eraseIdx kp).length) ca),(vN a)] 139)::(SlV 159 1 (.slice ba ((ms.eraseIdx kp).length) ca) ((ms.eraseIdx kp).length) (bJ dJ (ps.eraseIdx kp)))::R) (()) trivial (fun _ h=>h) (fun _ _ h=>h) ?_ ?_
    ·refine ⟨aU,bW,bL CO rfl CG,db CH fun _ _=>aa (.tail _ (.head _)) rfl,aU,bW,bL CO rfl C2,db C8 fun _ _=>aa (.tail _ (.head _)) rfl,iT CX rfl,?_,trivial⟩
     ·intro _ S h s D p K k;exact bV (bE p 3 rfl rfl) (bE p 8 rfl rfl) (aV rfl rfl (beq_iff_eq.2 h4)) 9 rfl rfl s (k () h)
    ·rintro _ hF
     try dsimp only at hF⊢
     refine az (E':=[(0,(vP p 0)),(1,(vI id)),(4,(vI 0)),(5,(vN kp)),(10,(.bool false)),(27,(.bool false)),(44,(.bool true))]) ⟨rfl,rfl,rfl,rfl,rfl,rfl,rfl,trivial⟩ ?_
     refine qn hK9 (aG rfl (aj (ag rfl (cV rfl (bU 2 CO rfl CG rfl rfl (aE ?_))))))
     refine ts (cM CG rfl rfl rfl (nB rfl) rfl) ?_
     refine td hK8 (av (fun _ hK10=>aA rfl (td hK10 (ay ?_))))
     have hlv:0=gd ms a id:=by
      unfold gd;rw [hkp,Int.toNat_natCast,if_neg (by omega)]
      by_cases h1:kp<a
      ·simp only [if_pos h1];first| (rw [if_pos (by omega)];done)| (rw [if_pos (by omega)];omega)| (rw [if_neg (by omega)];done)| (rw [if_neg (by omega)];omega)
      ·simp only [if_neg h1];first| (rw [if_pos (by omega)];done)| (rw [if_pos (by omega)];omega)| (rw [if_neg (by omega)];done)| (rw [if_neg (by omega)];omega)
     refine aE (aR (aR ?_))
     refine l4 (congrArg (fun x:Nat=>Value.int .i64 (x:Int)) hlv) rfl (hT.left (k:=kp) (by omega) (by unfold gd;rw [hkp,Int.toNat_natCast,if_neg (by omega)]) hbok) ?_
     rw [show ms.eraseIdx kp=fo ms id from by unfold fo;rw [hkp,Int.toNat_natCast,if_neg (by omega)]]
     refine aM rfl rfl ?_
     exact ⟨by unfold kC;split <;>first|rfl| (exfalso;omega),rfl⟩
   ·refine bz (γ:=Unit) (n:=10) Tryz.mixed rfl rfl (fun _ S=>True) (fun _=>[(0,35,(vP p 0)),(1,36,(vP p 0)),(2,37,(vP p 2)),(3,38,(vN a)),(4,39,(vP p 0)),(5,40,(vP p 0)),(6,41,(vP p 1)),(7,42,(.slice ba ((ms.eraseIdx kp).length) ca)),(8,43,(vI (((ms.eraseIdx kp).length:Nat):Int))),(9,44,(.bool false))]) (fun _ S=>(cI (ey (ps.eraseIdx kp) (ms.eraseIdx kp)))::(bI p [(vI q),(.slice ba ((ms.eraseIdx kp).length) ca),(vN a)] 139)::(SlV 159 1 (.slice ba ((ms.eraseIdx kp).length) ca) ((ms.eraseIdx kp).length) (bJ dJ (ps.eraseIdx kp)))::R) (()) trivial (fun _ h=>h) (fun _ _ h=>h) ?_ ?_
    ·refine ⟨aU,bW,bL CO rfl CG,db CH fun _ _=>aa (.tail _ (.head _)) rfl,aU,bW,bL CO rfl C2,db C8 fun _ _=>aa (.tail _ (.head _)) rfl,iT CX rfl,?_,trivial⟩
     ·intro _ S h s D p K k;exact bV (bE p 3 rfl rfl) (bE p 8 rfl rfl) (aV rfl rfl (beq_eq_false_iff_ne.2 h4)) 9 rfl rfl s (k () h)
    ·rintro _ hF
     try dsimp only at hF⊢
     refine az (E':=[(0,(vP p 0)),(1,(vI id)),(4,(vI 0)),(5,(vN kp)),(10,(.bool false)),(27,(.bool false)),(44,(.bool false))]) ⟨rfl,rfl,rfl,rfl,rfl,rfl,rfl,trivial⟩ ?_
     refine qn hK9 (ar rfl (dp hK8 (av (fun _ hK10=>aA rfl (td hK10 (ay ?_))))))
     have hlv:a=gd ms a id:=by
      unfold gd;rw [hkp,Int.toNat_natCast,if_neg (by omega)]
      by_cases h1:kp<a
      ·simp only [if_pos h1];first| (rw [if_pos (by omega)];done)| (rw [if_pos (by omega)];omega)| (rw [if_neg (by omega)];done)| (rw [if_neg (by omega)];omega)
      ·simp only [if_neg h1];first| (rw [if_pos (by omega)];done)| (rw [if_pos (by omega)];omega)| (rw [if_neg (by omega)];done)| (rw [if_neg (by omega)];omega)
     refine aR (aR ?_)
     refine l4 (congrArg (fun x:Nat=>Value.int .i64 (x:Int)) hlv) rfl (hT.left (k:=kp) (by omega) (by unfold gd;rw [hkp,Int.toNat_natCast,if_neg (by omega)]) hbok) ?_
     rw [show ms.eraseIdx kp=fo ms id from by unfold fo;rw [hkp,Int.toNat_natCast,if_neg (by omega)]]
     refine aM rfl rfl ?_
     exact ⟨by unfold kC;split <;>first|rfl| (exfalso;omega),rfl⟩
end Go.Proofs.YtanfdikglplkaaaGreatDoor
set_option maxRecDepth 100000
namespace Go.Proofs.YtanfdikglplkaaaGreatDoor
open Go Go.Proofs Sp
theorem A0{R:List HP}{p N:Nat}{es:Es}(a b:Nat)(ha:a<N)(hb:b<N):
 Ok Tryz.prog 65 [(vP p 0),(vN a),(vN b)] ((aT p N es)::R)
  (fun v M=>v=.bool (iv es ((a:Int),(b:Int)))∧M=aT p N es::R):=by
 refine aP (N:=23) Tryz.func65 rfl rfl rfl (fun W=>?_)
 refine aY (fun _ h=>fH h) (fun hgok=>?_)
 refine av (fun _ hK1=>aA rfl (td hK1 (av (fun _ hK2=>ag rfl (ag rfl (ag rfl ?_))))))
 refine tm rfl (aD (cs:=[(vN a),(vN b)]) CI CG CN (by decide) rfl rfl rfl rfl) ?_
 rintro _ _ ⟨bs1,cp2,hok3,hle4,rfl,rfl⟩
 refine aE ?_
 refine bN DB rfl (fy (N:=N) (es:=es) [(a:Int),(b:Int)] (lP ha hb) (cj (.head _)) hok3 (by simp)) ?_
 rintro _ _ ⟨rfl,rfl⟩
 refine ag rfl ?_
 refine ae rfl rfl ?_
 refine ag rfl ?_
 refine jj (fun bo co bi ci bt ct vo vi hG=>?_)
 have gsm:=hG.ok.small
 have glo:=hG.lo
 have gli:=hG.li
 have gml:=eC N es
 refine ae rfl rfl ?_
 refine cV rfl ?_
 refine ae rfl rfl ?_
 refine bU 2 Do rfl D9 rfl rfl ?_
 refine ae rfl rfl ?_
 refine bK Ea rfl (aa (.head _) rfl) ?_
 refine ae rfl rfl ?_
 refine ag rfl ?_
 refine ae rfl rfl ?_
 refine tp rfl (ah (k':=a) DX DY rfl rfl hG.okt (by omega) (by omega) (by omega)) ?_
 refine ae rfl rfl ?_
 refine bK Ei rfl (dh (by rw [ic (by omega)]) (aw (.tail _ (.tail _ (.tail _ (.head _)))) (aQ (by first|omega| (simp;omega))))) ?_
 refine ae rfl rfl ?_
 refine ag rfl ?_
 refine ae rfl rfl ?_
 refine bN Tryz.call112 rfl (q9 (fL (cP es (a:Int))) b (by omega) (hG.ok.mask_lt _)) ?_
 rintro _ _ ⟨rfl,rfl⟩
 refine tp rfl (aL rfl rfl) (aA rfl (td hK2 (ay (cN (cN (cN (cN (cN ?_))))))))
 refine cN ?_
 refine iw hG ?_
 refine aE (ak ?_)
 refine aM rfl rfl ?_
 exact ⟨by rw [hgok.hasE_bit],rfl⟩
theorem hasE_f{R:List HP}{p N:Nat}{es:Es}(a b:Int)(hv:fN N [a,b]=false)(hv':(valid N a && valid N b)=false):
 Ok Tryz.prog 65 [(vP p 0),(vI a),(vI b)] ((aT p N es)::R)
  (fun v M=>v=.bool (iv es (a,b))∧M=aT p N es::R):=by
 refine aP (N:=23) Tryz.func65 rfl rfl rfl (fun W=>?_)
 refine aY (fun _ h=>fH h) (fun hgok=>?_)
 refine av (fun _ hK1=>aA rfl (td hK1 (av (fun _ hK2=>ag rfl (ag rfl (ag rfl ?_))))))
 refine tm rfl (aD (cs:=[(vI a),(vI b)]) CI CG CN (by decide) rfl rfl rfl rfl) ?_
 rintro _ _ ⟨bs1,cp2,hok3,hle4,rfl,rfl⟩
 refine aE ?_
 refine bN DB rfl (fy (N:=N) (es:=es) [a,b] hv (cj (.head _)) hok3 (by simp)) ?_
 rintro _ _ ⟨rfl,rfl⟩
 refine ag rfl ?_
 refine aq rfl rfl rfl ?_
 refine aq rfl rfl rfl ?_
 refine aq rfl rfl rfl ?_
 refine aq rfl rfl rfl ?_
 refine aq rfl rfl rfl ?_
 refine aq rfl rfl rfl ?_
 refine aq rfl rfl rfl ?_
 refine aq rfl rfl rfl ?_
 refine aq rfl rfl rfl ?_
 refine tp rfl (aC rfl rfl) (aA rfl (td hK2 (ay (aE (ak ?_)))))
 refine aM rfl rfl ?_
 exact ⟨by rw [hgok.hasE_f hv'],rfl⟩
theorem Aj{R:List HP}{p N:Nat}{es:Es}(a b:Int):Ok Tryz.prog 65 [(.pointer (some ⟨p,0,none⟩)),(.int .i64 a),(.int .i64 b)] (aT p N es::R)
 (fun v M=>v=.bool (iv es (a,b))∧M=aT p N es::R):=by
 rcases jL N a b with ⟨k,m,hk,hm,rfl,rfl⟩| ⟨h1,h2⟩
 ·exact A0 k m hk hm
 ·exact hasE_f a b h1 h2
theorem Cq{R:List HP}{p N:Nat}{es:Es}(a:Nat)(ha:a<N):
 Ok Tryz.prog 43 [(vP p 0),(vN a)] ((aT p N es)::R)
  (dZ 3 1 (cP es (a:Int)).length (aF .i64 (cP es (a:Int))) (aT p N es::R)):=by
 refine aP (N:=18) Tryz.func43 rfl rfl rfl (fun W=>?_)
 refine aY (fun _ h=>fH h) (fun hgok=>?_)
 refine av (fun _ hK1=>aA rfl (td hK1 (ai (fun _ hK2=>av (fun _ hK3=>ag rfl (ag rfl ?_))))))
 refine tm rfl (aD (cs:=[(vN a)]) CI CG CN (by decide) rfl rfl rfl rfl) ?_
 rintro _ _ ⟨bs1,cp2,hok3,hle4,rfl,rfl⟩
 refine aE ?_
 refine bN DB rfl (fy (N:=N) (es:=es) [(a:Int)] (nR ha) (cj (.head _)) hok3 (by simp)) ?_
 rintro _ _ ⟨rfl,rfl⟩
 refine tp rfl (dy (c:=false) rfl rfl) (td hK3 (ar rfl (dp hK2 (av (fun _ hK4=>?_)))))
 refine jj (fun bo co bi ci bt ct vo vi hG=>?_)
 have gsm:=hG.ok.small
 have glo:=hG.lo
 have gli:=hG.li
 have gml:=eC N es
 have hll:=hgok.outs_le (a:Int)
 refine uf (a:=a) (.tail _ (.tail _ (.tail _ (.tail _ (.head _))))) (by rw [fM];first|exact glo|exact gli) (by omega) ?_
 rw [jE ha]
 intro ba ca hoka hlea hva hrda
 refine ag rfl (cV rfl (bU 0 Do rfl DS rfl rfl (bK DT rfl (aa (.head _) rfl) (ag rfl (tp rfl (ah (k':=a) DJ CK rfl rfl hG.oko (by omega) (by omega) (by omega)) ?_)))))
 refine bK CL rfl (dh hva (aw (.tail _ (.head _)) (mB (by omega)))) ?_
 refine bN Tryz.call72 rfl (ky (cP es (a:Int)) hrda hoka (by first|omega| (simp;omega))) ?_
 rintro _ _ ⟨bs5,cp6,hok7,hle8,rfl,rfl⟩
 refine aA rfl (td hK4 (ay (dM (dM (dM (dM (dM (dM ?_))))))))
 refine iw hG ?_
 refine aE (aR (ak ?_))
 refine aM rfl rfl ?_
 exact ⟨_,_,hok7,hle8,rfl,rfl⟩
theorem Cu{R:List HP}{p N:Nat}{es:Es}(a:Int)(hv:fN N [a]=false)(hv':valid N a=false):
 Ok Tryz.prog 43 [(vP p 0),(vI a)] ((aT p N es)::R)
  (dZ 3 1 (cP es a).length (aF .i64 (cP es a)) (aT p N es::R)):=by
 refine aP (N:=18) Tryz.func43 rfl rfl rfl (fun W=>?_)
 refine aY (fun _ h=>fH h) (fun hgok=>?_)
 refine av (fun _ hK1=>aA rfl (td hK1 (ai (fun _ hK2=>av (fun _ hK3=>ag rfl (ag rfl ?_))))))
 refine tm rfl (aD (cs:=[(vI a)]) CI CG CN (by decide) rfl rfl rfl rfl) ?_
 rintro _ _ ⟨bs1,cp2,hok3,hle4,rfl,rfl⟩
 refine aE ?_
 refine bN DB rfl (fy (N:=N) (es:=es) [a] hv (cj (.head _)) hok3 (by simp)) ?_
 rintro _ _ ⟨rfl,rfl⟩
 refine tp rfl (dy (c:=true) rfl rfl) (td hK3 (aG rfl (av (fun _ hK4=>aA rfl (td hK4 (ay ?_))))))
 refine aK ?_
 refine bO (fun _ h=>cz 3 1 h) ?_
 refine aR (ak ?_)
 refine aM rfl rfl ?_
 rw [Bl hgok hv']
 exact ⟨none,0,cn,Nat.le_refl _,rfl,rfl⟩
theorem xa{R:List HP}{p N:Nat}{es:Es}(a:Int):Ok Tryz.prog 43 [(.pointer (some ⟨p,0,none⟩)),(.int .i64 a)] (aT p N es::R)
 (dZ 3 1 (cP es a).length (aF .i64 (cP es a)) (aT p N es::R)):=by
 rcases jK N a with ⟨k,hk,rfl⟩| ⟨h1,h2⟩
 ·exact Cq k hk
 ·exact Cu a h1 h2
theorem Cz{R:List HP}{p N:Nat}{es:Es}(a:Nat)(ha:a<N):
 Ok Tryz.prog 110 [(vP p 0),(vN a)] ((aT p N es)::R)
  (dZ 3 1 (cg es (a:Int)).length (aF .i64 (cg es (a:Int))) (aT p N es::R)):=by
 refine aP (N:=18) Tryz.func110 rfl rfl rfl (fun W=>?_)
 refine aY (fun _ h=>fH h) (fun hgok=>?_)
 refine av (fun _ hK1=>aA rfl (td hK1 (ai (fun _ hK2=>av (fun _ hK3=>ag rfl (ag rfl ?_))))))
 refine tm rfl (aD (cs:=[(vN a)]) CI CG CN (by decide) rfl rfl rfl rfl) ?_
 rintro _ _ ⟨bs1,cp2,hok3,hle4,rfl,rfl⟩
 refine aE ?_
 refine bN DB rfl (fy (N:=N) (es:=es) [(a:Int)] (nR ha) (cj (.head _)) hok3 (by simp)) ?_
 rintro _ _ ⟨rfl,rfl⟩
 refine tp rfl (dy (c:=false) rfl rfl) (td hK3 (ar rfl (dp hK2 (av (fun _ hK4=>?_)))))
 refine jj (fun bo co bi ci bt ct vo vi hG=>?_)
 have gsm:=hG.ok.small
 have glo:=hG.lo
 have gli:=hG.li
 have gml:=eC N es
 have hll:=hgok.inns_le (a:Int)
 refine uf (a:=a) (.tail _ (.tail _ (.tail _ (.tail _ (.tail _ (.head _)))))) (by rw [fM];first|exact glo|exact gli) (by omega) ?_
 rw [jE ha]
 intro ba ca hoka hlea hva hrda
 refine ag rfl (cV rfl (bU 1 Do rfl DS rfl rfl (bK DT rfl (aa (.head _) rfl) (ag rfl (tp rfl (ah (k':=a) DJ CK rfl rfl hG.oki (by omega) (by omega) (by omega)) ?_)))))
 refine bK CL rfl (dh hva (aw (.tail _ (.tail _ (.head _))) (mB (by omega)))) ?_
 refine bN Tryz.call72 rfl (ky (cg es (a:Int)) hrda hoka (by first|omega| (simp;omega))) ?_
 rintro _ _ ⟨bs5,cp6,hok7,hle8,rfl,rfl⟩
 refine aA rfl (td hK4 (ay (dM (dM (dM (dM (dM (dM ?_))))))))
 refine iw hG ?_
 refine aE (aR (ak ?_))
 refine aM rfl rfl ?_
 exact ⟨_,_,hok7,hle8,rfl,rfl⟩
theorem CA{R:List HP}{p N:Nat}{es:Es}(a:Int)(hv:fN N [a]=false)(hv':valid N a=false):
 Ok Tryz.prog 110 [(vP p 0),(vI a)] ((aT p N es)::R)
  (dZ 3 1 (cg es a).length (aF .i64 (cg es a)) (aT p N es::R)):=by
 refine aP (N:=18) Tryz.func110 rfl rfl rfl (fun W=>?_)
 refine aY (fun _ h=>fH h) (fun hgok=>?_)
 refine av (fun _ hK1=>aA rfl (td hK1 (ai (fun _ hK2=>av (fun _ hK3=>ag rfl (ag rfl ?_))))))
 refine tm rfl (aD (cs:=[(vI a)]) CI CG CN (by decide) rfl rfl rfl rfl) ?_
 rintro _ _ ⟨bs1,cp2,hok3,hle4,rfl,rfl⟩
 refine aE ?_
 refine bN DB rfl (fy (N:=N) (es:=es) [a] hv (cj (.head _)) hok3 (by simp)) ?_
 rintro _ _ ⟨rfl,rfl⟩
 refine tp rfl (dy (c:=true) rfl rfl) (td hK3 (aG rfl (av (fun _ hK4=>aA rfl (td hK4 (ay ?_))))))
 refine aK ?_
 refine bO (fun _ h=>cz 3 1 h) ?_
 refine aR (ak ?_)
 refine aM rfl rfl ?_
 rw [Bu hgok hv']
 exact ⟨none,0,cn,Nat.le_refl _,rfl,rfl⟩
theorem AY{R:List HP}{p N:Nat}{es:Es}(a:Int):Ok Tryz.prog 110 [(.pointer (some ⟨p,0,none⟩)),(.int .i64 a)] (aT p N es::R)
 (dZ 3 1 (cg es a).length (aF .i64 (cg es a)) (aT p N es::R)):=by
 rcases jK N a with ⟨k,hk,rfl⟩| ⟨h1,h2⟩
 ·exact Cz k hk
 ·exact CA a h1 h2
theorem Cm{R:List HP}{p N:Nat}{es:Es}(a b:Int)(hv:fN N [a,b]=false)(hv':(valid N a && valid N b)=false):
 Ok Tryz.prog 114 [(vP p 0),(vI a),(vI b)] ((aT p N es)::R)
  (fun v M=>v=.tuple #[.bool (iM N es a b),.int .i64 (jb N a b)]∧M=aT p N (mC N es a b)::R):=by
 refine aP (N:=79) Tryz.func114 rfl rfl rfl (fun W=>?_)
 refine aY (fun _ h=>fH h) (fun hgok=>?_)
 refine av (fun _ hK1=>aA rfl (aA rfl (td hK1 (ai (fun _ hK2=>aH (av (fun _ hK3=>?_)))))))
 refine ag rfl (ag rfl (ag rfl ?_))
 refine tm rfl (aD (cs:=[(vI a),(vI b)]) CI CG CN (by decide) rfl rfl rfl rfl) ?_
 rintro _ _ ⟨bs1,cp2,hok3,hle4,rfl,rfl⟩
 refine aE ?_
 refine bN DB rfl (fy (N:=N) (es:=es) [a,b] hv (cj (.head _)) hok3 (by simp)) ?_
 rintro _ _ ⟨rfl,rfl⟩
 refine tp rfl (dy (c:=true) rfl rfl) (aA rfl (td hK3 (aG rfl (av (fun _ hK4=>aA rfl (aA rfl (aI ?_)))))))
 refine qn hK4 (ay ?_)
 refine cH ?_
 refine aK ?_
 refine aE (ak ?_)
 refine dc rfl rfl rfl ?_
 obtain ⟨e1,e2,e3⟩:=yr (es:=es) hv'
 rw [e1,e2,e3]
 exact ⟨rfl,rfl⟩
theorem zK{R:List HP}{p N:Nat}{es:Es}(a b:Nat)(ha:a<N)(hb:b<N)(hh:iv es ((a:Int),(b:Int))=true):
 Ok Tryz.prog 114 [(vP p 0),(vN a),(vN b)] ((aT p N es)::R)
  (fun v M=>v=.tuple #[.bool (iM N es (a:Int) (b:Int)),.int .i64 (jb N (a:Int) (b:Int))]∧M=aT p N (mC N es (a:Int) (b:Int))::R):=by
 refine aP (N:=79) Tryz.func114 rfl rfl rfl (fun W=>?_)
 refine aY (fun _ h=>fH h) (fun hgok=>?_)
 refine av (fun _ hK1=>aA rfl (aA rfl (td hK1 (ai (fun _ hK2=>aH (av (fun _ hK3=>?_)))))))
 refine ag rfl (ag rfl (ag rfl ?_))
 refine tm rfl (aD (cs:=[(vN a),(vN b)]) CI CG CN (by decide) rfl rfl rfl rfl) ?_
 rintro _ _ ⟨bs1,cp2,hok3,hle4,rfl,rfl⟩
 refine aE ?_
 refine bN DB rfl (fy (N:=N) (es:=es) [(a:Int),(b:Int)] (lP ha hb) (cj (.head _)) hok3 (by simp)) ?_
 rintro _ _ ⟨rfl,rfl⟩
 refine tp rfl (dy (c:=false) rfl rfl) (aA rfl (td hK3 (ar rfl (av (fun _ hK4=>ag rfl ?_)))))
 refine jj (fun bo co bi ci bt ct vo vi hG=>?_)
 have gsm:=hG.ok.small
 have glo:=hG.lo
 have gli:=hG.li
 have gml:=eC N es
 refine cV rfl (bU 2 Do rfl D9 rfl rfl (bK Ea rfl (aa (.head _) rfl) (ag rfl (tp rfl (ah (k':=a) DX DY rfl rfl hG.okt (by omega) (by omega) (by omega)) ?_))))
 refine bK Ei rfl (dh (by rw [ic (by omega)]) (aw (.tail _ (.tail _ (.tail _ (.head _)))) (aQ (by first|omega| (simp;omega))))) ?_
 refine ag rfl ?_
 refine bN Tryz.call112 rfl (q9 (fL (cP es (a:Int))) b (by omega) (hG.ok.mask_lt _)) ?_
 rintro _ _ ⟨rfl,rfl⟩
 rw [hgok.hasE_bit,hh]
 refine aA rfl (td hK4 (aG rfl (av (fun _ hK5=>aA rfl (aA rfl (td hK5 ?_))))))
 refine ay ?_
 refine cH ?_
 refine aK ?_
 refine cN (cN (cN (cN (cN (cN ?_)))))
 refine iw hG ?_
 refine aE (ak ?_)
 refine dc rfl rfl rfl ?_
 obtain ⟨e1,e2,e3⟩:=xi ha hb hh
 rw [e1,e2,e3]
 exact ⟨rfl,rfl⟩
set_option maxHeartbeats 800000 in
theorem zN{R:List HP}{p N:Nat}{es:Es}(a b:Nat)(ha:a<N)(hb:b<N)(hh:iv es ((a:Int),(b:Int))=false):
 Ok Tryz.prog 114 [(vP p 0),(vN a),(vN b)] ((aT p N es)::R)
  (fun v M=>v=.tuple #[.bool (iM N es (a:Int) (b:Int)),.int .i64 (jb N (a:Int) (b:Int))]∧M=aT p N (mC N es (a:Int) (b:Int))::R):=by
 refine aP (N:=79) Tryz.func114 rfl rfl rfl (fun W=>?_)
 refine aY (fun _ h=>fH h) (fun hgok=>?_)
 refine av (fun _ hK1=>aA rfl (aA rfl (td hK1 (ai (fun _ hK2=>aH (av (fun _ hK3=>?_)))))))
 refine ag rfl (ag rfl (ag rfl ?_))
 refine tm rfl (aD (cs:=[(vN a),(vN b)]) CI CG CN (by decide) rfl rfl rfl rfl) ?_
 rintro _ _ ⟨bs1,cp2,hok3,hle4,rfl,rfl⟩
 refine aE ?_
 refine bN DB rfl (fy (N:=N) (es:=es) [(a:Int),(b:Int)] (lP ha hb) (cj (.head _)) hok3 (by simp)) ?_
 rintro _ _ ⟨rfl,rfl⟩
 refine tp rfl (dy (c:=false) rfl rfl) (aA rfl (td hK3 (ar rfl (av (fun _ hK4=>ag rfl ?_)))))
 refine jj (fun bo co bi ci bt ct vo vi hG=>?_)
 have gsm:=hG.ok.small
 have glo:=hG.lo
 have gli:=hG.li
 have gml:=eC N es
 refine cV rfl (bU 2 Do rfl D9 rfl rfl (bK Ea rfl (aa (.head _) rfl) (ag rfl (tp rfl (ah (k':=a) DX DY rfl rfl hG.okt (by omega) (by omega) (by omega)) ?_))))
 refine bK Ei rfl (dh (by rw [ic (by omega)]) (aw (.tail _ (.tail _ (.tail _ (.head _)))) (aQ (by first|omega| (simp;omega))))) ?_
 refine ag rfl ?_
 refine bN Tryz.call112 rfl (q9 (fL (cP es (a:Int))) b (by omega) (hG.ok.mask_lt _)) ?_
 rintro _ _ ⟨rfl,rfl⟩
 rw [hgok.hasE_bit,hh]
 refine aA rfl (td hK4 (ar rfl (cS (aZ (qn hK2 (ai (fun _ hK5=>?_)))))))
 have hla:=hgok.outs_le (a:Int)
 have hlb:=hgok.inns_le (b:Int)
 have hes:=hgok.len_le
 have hmlt:=hgok.mask_lt (a:Int)
 refine de ?_
 refine bO (fun _ h=>h.takeRow (a:=a) (by rw [fM];exact glo) (by omega)) ?_
 rw [jE ha]
 refine uZ (fun ba ca hoka hlea hva=>?_)
 refine dM ?_
 refine bO (fun _ h=>h.takeRow (a:=b) (by rw [fM];exact gli) (by omega)) ?_
 rw [jE hb]
 refine uZ (fun bb cb hokb hleb hvb=>?_)
 refine bz (γ:=Option Addr×Nat×Option Addr×Nat×Option Addr×Nat×Option Addr×Nat) (n:=50) Tryz.mixed rfl rfl (fun (bs5,cp6,bs9,cp10,bs13,cp14,bs17,cp18) S=>(S 23=true→bB bs5 1)∧(S 23=true→1≤cp6)∧(S 24=true→bB bs9 (((cP es (a:Int)).length)+1))∧(S 24=true→((cP es (a:Int)).length)+1≤cp10)∧(S 33=true→bB bs13 1)∧(S 33=true→1≤cp14)∧(S 34=true→bB bs17 (((cg es (b:Int)).length)+1))∧(S 34=true→((cg es (b:Int)).length)+1≤cp18)) (fun (bs5,cp6,bs9,cp10,bs13,cp14,bs17,cp18)=>[(0,25,(vP p 0)),(1,26,(vP p 0)),(2,27,(vP p 0)),(3,28,(.slice bo N co)),(4,29,(vN a)),(5,30,(vP p 0)),(6,31,(vP p 0)),(7,32,(vP p 1)),(8,33,(.slice bi N ci)),(9,34,(vN b)),(10,35,(vP p 0)),(11,36,(vP p 0)),(12,37,(vP p 2)),(13,38,(.slice bt N ct)),(14,39,(vN a)),(15,40,(vP p 0)),(16,41,(vP p 0)),(17,42,(vP p 0)),(18,43,(.slice bo N co)),(19,44,(vN a)),(20,45,(.pointer (some (ad bo a)))),(21,46,(.slice ba ((cP es (a:Int)).length) ca)),(22,47,(vN b)),(23,48,(.slice bs5 1 cp6)),(24,49,(.slice bs9 (((cP es (a:Int)).length)+1) cp10)),(25,50,(vP p 0)),(26,51,(vP p 0)),(27,52,(vP p 1)),(28,53,(.slice bi N ci)),(29,54,(vN b)),(30,55,(.pointer (some (ad bi b)))),(31,56,(.slice bb ((cg es (b:Int)).length) cb)),(32,57,(vN a)),(33,58,(.slice bs13 1 cp14)),(34,59,(.slice bs17 (((cg es (b:Int)).length)+1) cp18)),(35,60,(vP p 0)),(36,61,(vP p 0)),(37,62,(vP p 2)),(38,63,(.slice bt N ct)),(39,64,(vN a)),(40,65,(.pointer (some (ad bt a)))),(41,66,(.int .u64 ((fL (cP es (a:Int)):Nat):Int))),(42,67,(vN b)),(43,68,(.int .u64 (((fL (cP es (a:Int))) |||2^b:Nat):Int))),(44,69,(.pointer (some (ad bo a)))),(46,70,(.pointer (some (ad bi b)))),(48,71,(.pointer (some (ad bt a))))]) (fun (bs5,cp6,bs9,cp10,bs13,cp14,bs17,cp18) S=>(bif S 34 then (SlV 3 1 (.slice bs17 (((cg es (b:Int)).length)+1) cp18) (((cg es (b:Int)).length)+1) (aF .i64 ((cg es (b:Int))++[(a:Int)]))) else (SlV 3 1 (.slice bb ((cg es (b:Int)).length) cb) ((cg es (b:Int)).length) (aF .i64 (cg es (b:Int)))))::(cI (fV (vi.eraseIdx b) ((dX N (cg es)).eraseIdx b)))::(bif S 24 then (SlV 3 1 (.slice bs9 (((cP es (a:Int)).length)+1) cp10) (((cP es (a:Int)).length)+1) (aF .i64 ((cP es (a:Int))++[(b:Int)]))) else (SlV 3 1 (.slice ba ((cP es (a:Int)).length) ca) ((cP es (a:Int)).length) (aF .i64 (cP es (a:Int)))))::(cI (fV (vo.eraseIdx a) ((dX N (cP es)).eraseIdx a)))::(bI p [(.slice bo N co),(.slice bi N ci),(.slice bt N ct),(vN es.length)] 126)::(bif S 45 then (SlV 34 1 (.slice bo N co) N ((vo).set a (.slice bs9 (((cP es (a:Int)).length)+1) cp10))) else (SlV 34 1 (.slice bo N co) N vo))::(bif S 47 then (SlV 34 1 (.slice bi N ci) N ((vi).set b (.slice bs17 (((cg es (b:Int)).length)+1) cp18))) else (SlV 34 1 (.slice bi N ci) N vi))::(bif S 49 then (SlV 166 1 (.slice bt N ct) N (aF .u64 (((eY N es)).set a (((fL (cP es (a:Int))) |||2^b:Nat):Int)))) else (SlV 166 1 (.slice bt N ct) N (aF .u64 (eY N es))))::(SlV 3 1 (.slice bs1 2 cp2) 2 [(vN a),(vN b)])::(bif S 23 then (SlV 3 1 (.slice bs5 1 cp6) 1 [(vN b)]) else ib)::(bif S 33 then (SlV 3 1 (.slice bs13 1 cp14) 1 [(vN a)]) else ib)::R) (none,0,none,0,none,0,none,0) (by simp [Nat.ble]) (fun _ h=>ef [_,_,_,_,_,_,_,_,_] 2 h) (fun _ _ h=>h) ?_ ?_
 ·refine ⟨ga fun ⟨_,_,_,_,_,_,_,_⟩=>da,ga fun ⟨_,_,_,_,_,_,_,_⟩=>fx,ga fun ⟨_,_,_,_,_,_,_,_⟩=>dF Do rfl DS,ga fun ⟨_,_,_,_,_,_,_,_⟩=>gG DT fun _=>aa (.tail _ (.tail _ (.tail _ (.tail _ (.head _))))) rfl,ga fun ⟨_,_,_,_,_,_,_,_⟩=>da,ga fun ⟨_,_,_,_,_,_,_,_⟩=>da,ga fun ⟨_,_,_,_,_,_,_,_⟩=>fx,ga fun ⟨_,_,_,_,_,_,_,_⟩=>dF Do rfl DS,ga fun ⟨_,_,_,_,_,_,_,_⟩=>gG DT fun _=>aa (.tail _ (.tail _ (.tail _ (.tail _ (.head _))))) rfl,ga fun ⟨_,_,_,_,_,_,_,_⟩=>da,ga fun ⟨_,_,_,_,_,_,_,_⟩=>da,ga fun ⟨_,_,_,_,_,_,_,_⟩=>fx,ga fun ⟨_,_,_,_,_,_,_,_⟩=>dF Do rfl D9,ga fun ⟨_,_,_,_,_,_,_,_⟩=>gG Ea fun _=>aa (.tail _ (.tail _ (.tail _ (.tail _ (.head _))))) rfl,ga fun ⟨_,_,_,_,_,_,_,_⟩=>da,ga fun ⟨_,_,_,_,_,_,_,_⟩=>da,ga fun ⟨_,_,_,_,_,_,_,_⟩=>fx,ga fun ⟨_,_,_,_,_,_,_,_⟩=>dF Do rfl DS,ga fun ⟨_,_,_,_,_,_,_,_⟩=>gG DT fun _=>aa (.tail _ (.tail _ (.tail _ (.tail _ (.head _))))) rfl,ga fun ⟨_,_,_,_,_,_,_,_⟩=>da,ga fun ⟨_,_,_,_,_,_,_,_⟩=>nu DJ CK rfl rfl rfl ⟨hG.oko,by omega,by omega,by omega⟩,?_,ga fun ⟨_,_,_,_,_,_,_,_⟩=>da,?_,?_,ga fun ⟨_,_,_,_,_,_,_,_⟩=>da,ga fun ⟨_,_,_,_,_,_,_,_⟩=>fx,ga fun ⟨_,_,_,_,_,_,_,_⟩=>dF Do rfl DS,ga fun ⟨_,_,_,_,_,_,_,_⟩=>gG DT fun _=>aa (.tail _ (.tail _ (.tail _ (.tail _ (.head _))))) rfl,ga fun ⟨_,_,_,_,_,_,_,_⟩=>da,ga fun ⟨_,_,_,_,_,_,_,_⟩=>nu DJ CK rfl rfl rfl ⟨hG.oki,by omega,by omega,by omega⟩,?_,ga fun ⟨_,_,_,_,_,_,_,_⟩=>da,?_,?_,ga fun ⟨_,_,_,_,_,_,_,_⟩=>da,ga fun ⟨_,_,_,_,_,_,_,_⟩=>fx,ga fun ⟨_,_,_,_,_,_,_,_⟩=>dF Do rfl D9,ga fun ⟨_,_,_,_,_,_,_,_⟩=>gG Ea fun _=>aa (.tail _ (.tail _ (.tail _ (.tail _ (.head _))))) rfl,ga fun ⟨_,_,_,_,_,_,_,_⟩=>da,ga fun ⟨_,_,_,_,_,_,_,_⟩=>nu DX DY rfl rfl rfl ⟨hG.okt,by omega,by omega,by omega⟩,?_,ga fun ⟨_,_,_,_,_,_,_,_⟩=>da,?_,?_,?_,?_,?_,?_,?_,trivial⟩
  ·rintro ⟨bs5,cp6,bs9,cp10,bs13,cp14,bs17,cp18⟩ S hF hS D hp K hK;try dsimp only
   exact bH (bE hp 20 rfl rfl) (bP CL rfl (dh hva (aw (cF (nf hS D (k:=45) (i:=21) rfl) (.tail _ (.tail _ (.tail _ (.tail _ (.tail _ (.head _))))))) (mB (by first|omega| (simp;omega)))))) 21 rfl rfl hS (hK (bs5,cp6,bs9,cp10,bs13,cp14,bs17,cp18) hF)
  ·rintro ⟨bs5,cp6,bs9,cp10,bs13,cp14,bs17,cp18⟩ S hF hS D hp K hK
   try dsimp only at hF⊢
   obtain ⟨hf0,hf1,hf2,hf3,hf4,hf5,hf6,hf7⟩:=hF
   refine bZ hp [47] rfl rfl ?_
   refine tm rfl (aD (cs:=[(vN b)]) CI CG CN (by decide) rfl rfl rfl rfl) ?_
   rintro _ _ ⟨bs5,cp6,hok7,hle8,rfl,rfl⟩
   refine bO (fun _ h=>cX [_,_,_,_,_,_,_,_,_] h) ?_
   exact cK hp hS (ti (hK (bs5,cp6,bs9,cp10,bs13,cp14,bs17,cp18) ⟨(fun _=>hok7),(fun _=>hle8),hf2,hf3,hf4,hf5,hf6,hf7⟩)) rfl rfl rfl
  ·rintro ⟨bs5,cp6,bs9,cp10,bs13,cp14,bs17,cp18⟩ S hF hS D hp K hK
   try dsimp only at hF⊢
   obtain ⟨hf0,hf1,hf2,hf3,hf4,hf5,hf6,hf7⟩:=hF
   have s23:=hp 23 rfl
   have hok7:=hf0 s23
   have hle8:=hf1 s23
   refine bZ hp [46,48] rfl rfl ?_
   refine aR ?_
   refine c9 hS ?_
   refine cN ?_
   refine c9 (nf hS D (k:=45) (i:=24) rfl) ?_
   refine dL ?_
   refine jJ s23 ?_
   refine aR ?_
   refine tm rfl (cR (i:=Tryz.t3) CI C1 rfl rfl rfl (by decide) rfl rfl hok7 (by first| (simp;done)| (simp;omega)) (cj (.tail _ (.head _))) (by simp [Value.oneCell']) (by rw [show Tryz.t3.bytes=8 from rfl];omega)) ?_
   rintro _ _ ⟨bs9,cp10,hok11,hle12,rfl,rfl⟩
   rw [show aF .i64 (cP es (a:Int))++[(.int .i64 (b:Int))]=aF .i64 ((cP es (a:Int))++[(b:Int)]) from dW _ _ _]
   refine aR ?_
   refine fG (A:=(SlV 34 1 (.slice bo N co) N ((vo).set a (.slice bs9 (((cP es (a:Int)).length)+1) cp10)))) (nf hS D (k:=45) (i:=24) rfl) ?_
   refine aR ?_
   refine lZ (B:=ib) s23 ?_
   refine dL (dL (dL (de (dL (dL (eL (dL (dL ?_))))))))
   exact cK hp hS (ti (hK (bs5,cp6,bs9,cp10,bs13,cp14,bs17,cp18) ⟨hf0,hf1,(fun _=>hok11),(fun _=>hle12),hf4,hf5,hf6,hf7⟩)) rfl rfl rfl
  ·rintro ⟨bs5,cp6,bs9,cp10,bs13,cp14,bs17,cp18⟩ S hF hS D hp K hK;try dsimp only
   exact bH (bE hp 30 rfl rfl) (bP CL rfl (dh hvb (aw (cF (nf hS D (k:=47) (i:=31) rfl) (.tail _ (.tail _ (.tail _ (.tail _ (.tail _ (.tail _ (.head _)))))))) (mB (by first|omega| (simp;omega)))))) 31 rfl rfl hS (hK (bs5,cp6,bs9,cp10,bs13,cp14,bs17,cp18) hF)
  ·rintro ⟨bs5,cp6,bs9,cp10,bs13,cp14,bs17,cp18⟩ S hF hS D hp K hK
   try dsimp only at hF⊢
   obtain ⟨hf0,hf1,hf2,hf3,hf4,hf5,hf6,hf7⟩:=hF
   refine bZ hp [57] rfl rfl ?_
   refine tm rfl (aD (cs:=[(vN a)]) CI CG CN (by decide) rfl rfl rfl rfl) ?_
   rintro _ _ ⟨bs13,cp14,hok15,hle16,rfl,rfl⟩
   refine bO (fun _ h=>cX [_,_,_,_,_,_,_,_,_,_] h) ?_
   exact cK hp hS (ti (hK (bs5,cp6,bs9,cp10,bs13,cp14,bs17,cp18) ⟨hf0,hf1,hf2,hf3,(fun _=>hok15),(fun _=>hle16),hf6,hf7⟩)) rfl rfl rfl
  ·rintro ⟨bs5,cp6,bs9,cp10,bs13,cp14,bs17,cp18⟩ S hF hS D hp K hK
   try dsimp only at hF⊢
   obtain ⟨hf0,hf1,hf2,hf3,hf4,hf5,hf6,hf7⟩:=hF
   have s24:=hp 24 rfl
   have s23:=D 24 23 rfl s24
   have hok7:=hf0 s23
   have hle8:=hf1 s23
   have hok11:=hf2 s24
   have hle12:=hf3 s24
   have s33:=hp 33 rfl
   have hok15:=hf4 s33
   have hle16:=hf5 s33
   refine bZ hp [56,58] rfl rfl ?_
   refine c9 hS ?_
   refine dM ?_
   refine c9 (nf hS D (k:=47) (i:=34) rfl) ?_
   refine eT ?_
   refine jJ s33 ?_
   refine aR ?_
   refine tm rfl (cR (i:=Tryz.t3) CI C1 rfl rfl rfl (by decide) rfl rfl hok15 (by first| (simp;done)| (simp;omega)) (cj (.tail _ (.head _))) (by simp [Value.oneCell']) (by rw [show Tryz.t3.bytes=8 from rfl];omega)) ?_
   rintro _ _ ⟨bs17,cp18,hok19,hle20,rfl,rfl⟩
   rw [show aF .i64 (cg es (b:Int))++[(.int .i64 (a:Int))]=aF .i64 ((cg es (b:Int))++[(a:Int)]) from dW _ _ _]
   refine aR ?_
   refine fG (A:=(SlV 34 1 (.slice bi N ci) N ((vi).set b (.slice bs17 (((cg es (b:Int)).length)+1) cp18)))) (nf hS D (k:=47) (i:=34) rfl) ?_
   refine aR ?_
   refine lZ (B:=ib) s33 ?_
   refine eT (eT (eT (de (eT (eT (eT (eT (eT (eT ?_)))))))))
   exact cK hp hS (ti (hK (bs5,cp6,bs9,cp10,bs13,cp14,bs17,cp18) ⟨hf0,hf1,hf2,hf3,hf4,hf5,(fun _=>hok19),(fun _=>hle20)⟩)) rfl rfl rfl
  ·rintro ⟨bs5,cp6,bs9,cp10,bs13,cp14,bs17,cp18⟩ S hF hS D hp K hK;try dsimp only
   exact bH (bE hp 40 rfl rfl) (bP Ei rfl (dh (by rw [ic (by omega)]) (aw (cF (nf hS D (k:=49) (i:=41) rfl) (.tail _ (.tail _ (.tail _ (.tail _ (.tail _ (.tail _ (.tail _ (.head _))))))))) (aQ (by first|omega| (simp;omega)))))) 41 rfl rfl hS (hK (bs5,cp6,bs9,cp10,bs13,cp14,bs17,cp18) hF)
  ·rintro ⟨bs5,cp6,bs9,cp10,bs13,cp14,bs17,cp18⟩ S hF hS D hp K hK
   try dsimp only at hF⊢
   obtain ⟨hf0,hf1,hf2,hf3,hf4,hf5,hf6,hf7⟩:=hF
   refine bZ hp [66,67] rfl rfl ?_
   refine bN Tryz.call150 rfl (tX (fL (cP es (a:Int))) b (by omega) hmlt) ?_
   rintro _ _ ⟨rfl,rfl⟩
   exact cK hp hS (ti (hK (bs5,cp6,bs9,cp10,bs13,cp14,bs17,cp18) ⟨hf0,hf1,hf2,hf3,hf4,hf5,hf6,hf7⟩)) rfl rfl rfl
  ·rintro ⟨bs5,cp6,bs9,cp10,bs13,cp14,bs17,cp18⟩ S hF hS D hp K hK
   try dsimp only at hF⊢
   obtain ⟨hf0,hf1,hf2,hf3,hf4,hf5,hf6,hf7⟩:=hF
   have s23:=hp 23 rfl
   have hok7:=hf0 s23
   have hle8:=hf1 s23
   have s24:=hp 24 rfl
   have hok11:=hf2 s24
   have hle12:=hf3 s24
   have s43:=hp 43 rfl
   have s34:=D 43 34 rfl s43
   have s33:=D 34 33 rfl s34
   have hok15:=hf4 s33
   have hle16:=hf5 s33
   have hok19:=hf6 s34
   have hle20:=hf7 s34
   refine bZ hp [28,29] rfl rfl ?_
   refine tp rfl (ah (k':=a) DJ CK rfl rfl hG.oko (by omega) (by omega) (by omega)) ?_
   exact cK hp hS (ti (hK (bs5,cp6,bs9,cp10,bs13,cp14,bs17,cp18) ⟨hf0,hf1,hf2,hf3,hf4,hf5,hf6,hf7⟩)) rfl rfl rfl
  ·rintro ⟨bs5,cp6,bs9,cp10,bs13,cp14,bs17,cp18⟩ S hF hS D hp K hK
   try dsimp only at hF⊢
   obtain ⟨hf0,hf1,hf2,hf3,hf4,hf5,hf6,hf7⟩:=hF
   have s23:=hp 23 rfl
   have hok7:=hf0 s23
   have hle8:=hf1 s23
   have s24:=hp 24 rfl
   have hok11:=hf2 s24
   have hle12:=hf3 s24
   have s44:=hp 44 rfl
   have s43:=D 44 43 rfl s44
   have s34:=D 43 34 rfl s43
   have s33:=D 34 33 rfl s34
   have hok15:=hf4 s33
   have hle16:=hf5 s33
   have hok19:=hf6 s34
   have hle20:=hf7 s34
   refine bZ hp [49,69] rfl rfl ?_
   refine cN ?_
   refine c9 hS ?_
   refine ts (gN CK rfl rfl rfl (by first| (simp;omega)|omega) rfl) ?_
   refine cN (cN (cN (cN (cN ?_))))
   exact gE hp (ti (hK (bs5,cp6,bs9,cp10,bs13,cp14,bs17,cp18) ⟨hf0,hf1,hf2,hf3,hf4,hf5,hf6,hf7⟩)) rfl rfl rfl
  ·rintro ⟨bs5,cp6,bs9,cp10,bs13,cp14,bs17,cp18⟩ S hF hS D hp K hK
   try dsimp only at hF⊢
   obtain ⟨hf0,hf1,hf2,hf3,hf4,hf5,hf6,hf7⟩:=hF
   have s23:=hp 23 rfl
   have hok7:=hf0 s23
   have hle8:=hf1 s23
   have s24:=hp 24 rfl
   have hok11:=hf2 s24
   have hle12:=hf3 s24
   have s33:=hp 33 rfl
   have hok15:=hf4 s33
   have hle16:=hf5 s33
   have s34:=hp 34 rfl
   have hok19:=hf6 s34
   have hle20:=hf7 s34
   refine bZ hp [33,34] rfl rfl ?_
   refine tp rfl (ah (k':=b) DJ CK rfl rfl hG.oki (by omega) (by omega) (by omega)) ?_
   exact cK hp hS (ti (hK (bs5,cp6,bs9,cp10,bs13,cp14,bs17,cp18) ⟨hf0,hf1,hf2,hf3,hf4,hf5,hf6,hf7⟩)) rfl rfl rfl
  ·rintro ⟨bs5,cp6,bs9,cp10,bs13,cp14,bs17,cp18⟩ S hF hS D hp K hK
   try dsimp only at hF⊢
   obtain ⟨hf0,hf1,hf2,hf3,hf4,hf5,hf6,hf7⟩:=hF
   have s23:=hp 23 rfl
   have hok7:=hf0 s23
   have hle8:=hf1 s23
   have s24:=hp 24 rfl
   have hok11:=hf2 s24
   have hle12:=hf3 s24
   have s33:=hp 33 rfl
   have hok15:=hf4 s33
   have hle16:=hf5 s33
   have s34:=hp 34 rfl
   have hok19:=hf6 s34
   have hle20:=hf7 s34
   refine bZ hp [59,70] rfl rfl ?_
   refine dM ?_
   refine c9 hS ?_
   refine ts (gN CK rfl rfl rfl (by first| (simp;omega)|omega) rfl) ?_
   refine dM (dM (dM (dM (dM (dM ?_)))))
   exact gE hp (ti (hK (bs5,cp6,bs9,cp10,bs13,cp14,bs17,cp18) ⟨hf0,hf1,hf2,hf3,hf4,hf5,hf6,hf7⟩)) rfl rfl rfl
  ·rintro ⟨bs5,cp6,bs9,cp10,bs13,cp14,bs17,cp18⟩ S hF hS D hp K hK
   try dsimp only at hF⊢
   obtain ⟨hf0,hf1,hf2,hf3,hf4,hf5,hf6,hf7⟩:=hF
   have s23:=hp 23 rfl
   have hok7:=hf0 s23
   have hle8:=hf1 s23
   have s24:=hp 24 rfl
   have hok11:=hf2 s24
   have hle12:=hf3 s24
   have s33:=hp 33 rfl
   have hok15:=hf4 s33
   have hle16:=hf5 s33
   have s34:=hp 34 rfl
   have hok19:=hf6 s34
   have hle20:=hf7 s34
   refine bZ hp [38,39] rfl rfl ?_
   refine tp rfl (ah (k':=a) DX DY rfl rfl hG.okt (by omega) (by omega) (by omega)) ?_
   exact cK hp hS (ti (hK (bs5,cp6,bs9,cp10,bs13,cp14,bs17,cp18) ⟨hf0,hf1,hf2,hf3,hf4,hf5,hf6,hf7⟩)) rfl rfl rfl
  ·rintro ⟨bs5,cp6,bs9,cp10,bs13,cp14,bs17,cp18⟩ S hF hS D hp K hK
   try dsimp only at hF⊢
   obtain ⟨hf0,hf1,hf2,hf3,hf4,hf5,hf6,hf7⟩:=hF
   have s23:=hp 23 rfl
   have hok7:=hf0 s23
   have hle8:=hf1 s23
   have s24:=hp 24 rfl
   have hok11:=hf2 s24
   have hle12:=hf3 s24
   have s33:=hp 33 rfl
   have hok15:=hf4 s33
   have hle16:=hf5 s33
   have s34:=hp 34 rfl
   have hok19:=hf6 s34
   have hle20:=hf7 s34
   refine bZ hp [68,71] rfl rfl ?_
   refine eL ?_
   refine c9 hS ?_
   refine ts (gN DY rfl rfl rfl (by first| (rw [ints_length];omega)| (simp;omega)|omega) eD) ?_
   refine eL (eL (eL (eL (eL (eL (eL ?_))))))
   exact gE hp (ti (hK (bs5,cp6,bs9,cp10,bs13,cp14,bs17,cp18) ⟨hf0,hf1,hf2,hf3,hf4,hf5,hf6,hf7⟩)) rfl rfl rfl
 ·rintro ⟨bs5,cp6,bs9,cp10,bs13,cp14,bs17,cp18⟩ hF
  try dsimp only at hF⊢
  obtain ⟨hf0,hf1,hf2,hf3,hf4,hf5,hf6,hf7⟩:=hF
  have hok7:=hf0 rfl
  have hle8:=hf1 rfl
  have hok11:=hf2 rfl
  have hle12:=hf3 rfl
  have hok15:=hf4 rfl
  have hle16:=hf5 rfl
  have hok19:=hf6 rfl
  have hle20:=hf7 rfl
  refine az (E':=[(0,(vP p 0)),(1,(vN a)),(2,(vN b)),(6,(.bool false)),(7,(vI 0)),(8,(.bool false)),(15,(.bool false))]) ⟨rfl,rfl,rfl,rfl,rfl,rfl,rfl,trivial⟩ ?_
  refine qn hK5 (av (fun _ hK6=>ag rfl (cV rfl (bU 3 Do rfl CG rfl rfl (bK CH rfl (aa (.tail _ (.tail _ (.tail _ (.tail _ (.head _))))) rfl) (tp rfl (aX (c:=(((es++[((a:Int),(b:Int))]).length:Nat):Int)) rfl rfl ((cA (by omega) (by omega)).trans (by simp))) ?_))))))
  refine cV rfl (bU 3 Do rfl CG rfl rfl (de ?_))
  refine ts (cM CG rfl rfl rfl (nB rfl) rfl) ?_
  refine td hK6 (av (fun _ hK7=>de (de ?_)))
  refine bO (fun _ h=>Sat.shutIn (xs:=(cP es (a:Int))++[(b:Int)]) (by simp) hok11 hle12 h) ?_
  refine bO (fun _ h=>h.putRow (by rw [fM];exact glo) (by omega)) ?_
  rw [oy]
  refine aS (aS ?_)
  refine bO (fun _ h=>Sat.shutIn (xs:=(cg es (b:Int))++[(a:Int)]) (by simp) hok19 hle20 h) ?_
  refine bO (fun _ h=>h.putRow (by rw [fM];exact gli) (by omega)) ?_
  rw [oW]
  refine aE (cN (cN (cN (cN ?_))))
  rw [show (eY N es).set a ((((fL (cP es (a:Int))) |||2^b:Nat):Nat):Int)=eY N (es++[((a:Int),(b:Int))]) from (qD (b:=(b:Int))).symm]
  refine iw (es:=es++[((a:Int),(b:Int))]) ⟨hgok.snoc ⟨by omega,by omega⟩ ⟨by omega,by omega⟩ (by intro hm;rw [iv] at hh;simp [hm] at hh),hG.oko,hG.oki,hG.okt,by simpa using glo,by simpa using gli⟩ ?_
  refine aA rfl (aA rfl (td hK7 (ay (aE (ak (aE (ak (aE ?_))))))))
  refine ak ?_
  refine dc rfl rfl rfl ?_
  obtain ⟨e1,e2,e3⟩:=yv ha hb hh
  rw [e1,e2,e3]
  exact ⟨rfl,rfl⟩
theorem B3{R:List HP}{p N:Nat}{es:Es}(a b:Nat)(ha:a<N)(hb:b<N):Ok Tryz.prog 114 [(.pointer (some ⟨p,0,none⟩)),(.int .i64 (a:Int)),(.int .i64 (b:Int))] (aT p N es::R)
 (fun v M=>v=.tuple #[.bool (iM N es (a:Int) (b:Int)),.int .i64 (jb N (a:Int) (b:Int))]∧M=aT p N (mC N es (a:Int) (b:Int))::R):=by
 cases h:iv es ((a:Int),(b:Int)) with
 |true=>exact zK a b ha hb h
 |false=>exact zN a b ha hb h
theorem Bf{R:List HP}{p N:Nat}{es:Es}(a b:Int):Ok Tryz.prog 114 [(.pointer (some ⟨p,0,none⟩)),(.int .i64 a),(.int .i64 b)] (aT p N es::R)
 (fun v M=>v=.tuple #[.bool (iM N es a b),.int .i64 (jb N a b)]∧M=aT p N (mC N es a b)::R):=by
 rcases jL N a b with ⟨k,m,hk,hm,rfl,rfl⟩| ⟨h1,h2⟩
 ·exact B3 k m hk hm
 ·exact Cm a b h1 h2
end Go.Proofs.YtanfdikglplkaaaGreatDoor
