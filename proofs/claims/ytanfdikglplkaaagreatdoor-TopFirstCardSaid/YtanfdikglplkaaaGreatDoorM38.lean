/- Parts Lf: own lemmas and contracts of the code that the claim reaches. -/
import Derived.Test.YtanfdikglplkaaaGreatDoorM03
import Derived.Test.YtanfdikglplkaaaGreatDoorM37
set_option linter.unusedSimpArgs false
set_option linter.unusedVariables false
set_option maxRecDepth 100000
namespace Go.Proofs.YtanfdikglplkaaaGreatDoor
open Go Go.Proofs Sp
set_option maxHeartbeats 4000000 in
theorem vc{R:List HP}{vr:Nat}{c:Cfg}{bb bq:Option Addr}{n cb nq cq:Nat}(al:List (Int×Int))(qs:List Ev)(hn:al.length=n)(hq:qs.length=nq)(hb:Rd R bb (df al))(okb:bB bb n)(hqr:Rd R bq (bJ gH qs))(okq:bB bq nq)(lq:nq≤9223372036854775807)(hT:Tab R)(hV:VTab vr R):
 Ok Tryz.prog 3 [(.agg #[(vI c.bud),(vI c.slots),(vI c.act),(vI c.que),(vI c.tries),(vI c.pre),(vI c.tmo),(vI c.bak),(vI c.most),(vI c.qu)]),(.slice bb n cb),(.slice bq nq cq)] R
  (fun v M=>v=.bool true∧M=R):=by
 refine aP (N:=210) Tryz.func3 rfl rfl rfl (fun W=>?_)
 refine av (fun _ hK1=>?_)
 refine tm rfl (cZ rfl rfl) ?_
 rintro _ _ ⟨b1,rfl,rfl⟩
 refine aA rfl (td hK1 (av (fun _ hK2=>?_)))
 refine bN Tryz.call5 rfl (yw (Tab.cons hT) (VTab.cons hV)) ?_
 rintro _ _ ⟨rfl,rfl⟩
 refine aA rfl (td hK2 (av (fun _ hK3=>ag rfl ?_)))
 refine bN Tryz.call6 rfl (sc (n:=n) al (by first|rfl|omega) (Rd.cons hb) okb) ?_
 rintro _ _ ⟨bs2,cp3,n4,hnl5,hok6,hle7,rfl,rfl⟩
 refine aA rfl (td hK3 (av (fun _ hK4=>tp rfl (cB (cs:=[(vI c.bud),(vI c.slots),(vI c.act),(vI c.que),(vI c.tries),(vI c.pre),(vI c.tmo),(vI c.bak),(vI c.most),(vI c.qu)]) DW Dm rfl (fF (aa (.tail _ (.head _)) rfl) (aa (.tail _ (.head _)) rfl) (aa (.tail _ (.head _)) rfl) (aa (.tail _ (.head _)) rfl) (aa (.tail _ (.head _)) rfl) (aa (.tail _ (.head _)) rfl) (aa (.tail _ (.head _)) rfl) (aa (.tail _ (.head _)) rfl) (aa (.tail _ (.head _)) rfl) (aa (.tail _ (.head _)) rfl))) ?_)))
 refine bN Tryz.call8 rfl (rR (c:=c) (wide:=false)) ?_
 rintro _ _ ⟨rfl,rfl⟩
 refine ag rfl ?_
 refine bN Tryz.call7 rfl (uJ (c:=sK c) (xO c al) hnl5 (cj (.head _)) hok6) ?_
 rintro _ _ ⟨e8,yt9,hng10,rfl,rfl⟩
 refine aA rfl (td hK4 (ai (fun _ hK5=>av (fun _ hK6=>ag rfl (tp rfl (j3 Tryz.underlying28 rfl rfl) (td hK6 ?_))))))
 refine ar rfl (dp hK5 (ai (fun _ hK7=>av (fun _ hK8=>aA rfl (td hK8 (aH ?_))))))
 have hgr:=NewG.gr (xO c al) hng10
 refine cE (γ:=(Nat)×(YG)) (fun (k,T)=>k≤nq∧k≤120∧GR (sK c) (eS al) k T) (fun (k,T)=>[(0,(.agg #[(vI c.bud),(vI c.slots),(vI c.act),(vI c.que),(vI c.tries),(vI c.pre),(vI c.tmo),(vI c.bak),(vI c.most),(vI c.qu)])),(1,(.slice bs2 n4 cp3)),(2,(.slice bq nq cq)),(3,(vP b1 0)),(7,(.bool true)),(8,(vP e8 0)),(9,(vN k)),(30,(.bool false))]) (fun (k,T)=>(cO e8 T)::(SlV 57 2 (.slice bs2 n4 cp3) n4 (df (eS al)))::(bI b1 [(vI c.bud),(vI c.slots),(vI c.act),(vI c.que),(vI c.tries),(vI c.pre),(vI c.tmo),(vI c.bak),(vI c.most),(vI c.qu)] 23)::R) (fun (k,T)=>nq-k) (0,yt9) ⟨Nat.zero_le _,Nat.zero_le _,hgr⟩ ⟨rfl,rfl,rfl,rfl,rfl,rfl,rfl,rfl,trivial⟩ (fun _ h=>h) ?_
 rintro ⟨k,T⟩ K9 hF hK9
 try dsimp only at hF hK9⊢
 obtain ⟨hk,hk120,hG⟩:=hF
 have hxn:=hG.xn
 have hlgk:=hG.lg
 have htl:=iW al
 have hpl:(mR T).length=T.x.n:=iB _ _ _
 refine ai (fun _ hK10=>av (fun _ hK11=>?_))
 by_cases hc11:(k:Int)< (nq:Int)∧(k:Int)<120
 ·have hc11a:=hc11.1
  have hc11b:=hc11.2
  refine ag rfl (ag rfl (tp rfl (bC Er rfl rfl) (tp rfl (aJ rfl rfl (decide_eq_true hc11.1)) (ag rfl ?_))))
  refine ae rfl rfl ?_
  refine ag rfl ?_
  refine ae rfl rfl ?_
  refine tp rfl (aJ rfl rfl (decide_eq_true hc11.2)) (tp rfl (aL rfl rfl) (td hK11 (aG rfl (dp hK10 (ai (fun _ hK12=>aH (ai (fun _ hK13=>?_))))))))
  refine aj (ag rfl (ag rfl (tp rfl (ah (k':=k*5) Er Dd rfl rfl okq (by omega) (by omega) (by omega)) ?_)))
  refine tp rfl (cU (cs:=[(vI ((qs.getD k Ev.z).k)),(vI ((qs.getD k Ev.z).t)),(vI ((qs.getD k Ev.z).s)),(vI ((qs.getD k Ev.z).e)),(vI ((qs.getD k Ev.z).i))]) Dw Dd rfl (bh (Rd.gives (Rd.cons (Rd.cons (Rd.cons hqr))) ((bc (k:=k) (j:=0) bA (d:=Ev.z) (by first|omega| (simp;omega)) (nB rfl)).trans rfl)) (Rd.gives (Rd.cons (Rd.cons (Rd.cons hqr))) ((bc (k:=k) (j:=1) bA (d:=Ev.z) (by first|omega| (simp;omega)) (nB rfl)).trans rfl)) (Rd.gives (Rd.cons (Rd.cons (Rd.cons hqr))) ((bc (k:=k) (j:=2) bA (d:=Ev.z) (by first|omega| (simp;omega)) (nB rfl)).trans rfl)) (Rd.gives (Rd.cons (Rd.cons (Rd.cons hqr))) ((bc (k:=k) (j:=3) bA (d:=Ev.z) (by first|omega| (simp;omega)) (nB rfl)).trans rfl)) (Rd.gives (Rd.cons (Rd.cons (Rd.cons hqr))) ((bc (k:=k) (j:=4) bA (d:=Ev.z) (by first|omega| (simp;omega)) (nB rfl)).trans rfl)))) ?_
  refine ag rfl ?_
  refine bN Tryz.call9 rfl (Ca (T:=T) hG (by omega) ((qs.getD k Ev.z).k) ((qs.getD k Ev.z).t) ((qs.getD k Ev.z).s) ((qs.getD k Ev.z).e) ((qs.getD k Ev.z).i)) ?_
  rintro _ _ ⟨za12,zb13,zc14,zd15,rfl,rfl⟩
  refine tm rfl (cD Ef rfl) ?_
  rintro _ _ ⟨b16,rfl,rfl⟩
  refine ts (bn (news:=[(vI ((qs.getD k Ev.z).k)),(vI za12),(vI zb13),(vI zc14),(vI zd15)]) Dd rfl rfl rfl rfl (nB rfl) rfl) ?_
  refine td hK13 (av (fun _ hK14=>aE ?_))
  refine aY (fun _ h=>Bp h) (fun hyl=>?_)
  refine ag rfl (ag rfl (tp rfl (bC CY rfl rfl) ?_))
  refine bN Tryz.call10 rfl (xW (T:=T) (n:=n4) hG (by omega)) ?_
  rintro _ _ ⟨bs17,cp18,hok19,hle20,rfl,rfl⟩
  refine aA rfl (td hK14 (av (fun _ hK15=>aA rfl (td hK15 (ai (fun _ hK16=>ai (fun _ hK17=>?_)))))))
  refine aj (aA rfl (td hK17 (aH ?_)))
  refine bO (fun _ h=>cz 3 1 h) ?_
  refine cE (γ:=(Nat)×(Option Addr)×(Nat)) (fun (t,bt,ct)=>t≤T.x.n∧bB bt t∧t≤ct) (fun (t,bt,ct)=>[(0,(.agg #[(vI c.bud),(vI c.slots),(vI c.act),(vI c.que),(vI c.tries),(vI c.pre),(vI c.tmo),(vI c.bak),(vI c.most),(vI c.qu)])),(1,(.slice bs2 n4 cp3)),(2,(.slice bq nq cq)),(3,(vP b1 0)),(7,(.bool true)),(8,(vP e8 0)),(9,(vN k)),(10,(vP b16 0)),(11,(.slice bs17 T.x.n cp18)),(12,(.slice bt t ct)),(13,(vN t)),(30,(.bool false)),(38,(.bool true))]) (fun (t,bt,ct)=>(SlV 3 1 (.slice bt t ct) t (aF .i64 ((T.y.s.lf.map (·.st)).take t)))::(SlV 3 1 (.slice bs17 T.x.n cp18) T.x.n (aF .i64 (mR T)))::(cO e8 T)::(bI b16 [(vI ((qs.getD k Ev.z).k)),(vI za12),(vI zb13),(vI zc14),(vI zd15)] 32)::(SlV 57 2 (.slice bs2 n4 cp3) n4 (df (eS al)))::(bI b1 [(vI c.bud),(vI c.slots),(vI c.act),(vI c.que),(vI c.tries),(vI c.pre),(vI c.tmo),(vI c.bak),(vI c.most),(vI c.qu)] 23)::R) (fun (t,bt,ct)=>T.x.n-t) (0,none,0) ⟨Nat.zero_le _,cn,Nat.le_refl _⟩ ⟨rfl,rfl,rfl,rfl,rfl,rfl,rfl,rfl,rfl,rfl,rfl,rfl,rfl,trivial⟩ (fun _ h=>h) ?_
  rintro ⟨t,bt,ct⟩ K18 hF hK18
  try dsimp only at hF hK18⊢
  obtain ⟨ht,hokt,hlet⟩:=hF
  refine ai (fun _ hK19=>av (fun _ hK20=>ag rfl (ag rfl (tp rfl (bC CY rfl rfl) ?_))))
  by_cases h21:(t:Int)< (n4:Int)
  ·refine tp rfl (aJ rfl rfl (decide_eq_true h21)) (td hK20 (aG rfl (dp hK19 (ai (fun _ hK21=>aH (aj (ag rfl ?_)))))))
   refine ag rfl (ag rfl (aR ?_))
   refine bN Tryz.call11 rfl (qM (T:=T) t (by omega)) ?_
   rintro _ _ ⟨rfl,rfl⟩
   refine tm rfl (aD (cs:=[(vI (T.y.s.stt t))]) CI CG CN (by decide) rfl rfl rfl rfl) ?_
   rintro _ _ ⟨bs22,cp23,hok24,hle25,rfl,rfl⟩
   refine aR ?_
   refine tm rfl (cR (i:=Tryz.t3) CI C1 rfl rfl rfl (by decide) rfl rfl hok24 (by first| (simp;done)| (simp;omega)) (cj (.tail _ (.head _))) (by simp [Value.oneCell']) (by rw [show Tryz.t3.bytes=8 from rfl];omega)) ?_
   rintro _ _ ⟨bs26,cp27,hok28,hle29,rfl,rfl⟩
   rw [show aF .i64 ((T.y.s.lf.map (·.st)).take t)++[.int .i64 (T.y.s.stt t)]=aF .i64 ((T.y.s.lf.map (·.st)).take (t+1)) from by rw [←na (by omega)];exact dW _ _ _]
   rw [show t+1=t+1 from by simp] at hok28 hle29⊢
   refine aA rfl (aI (aZ (qn hK21 (aj (ag rfl (tp rfl (aX (c:=((t+1:Nat):Int)) rfl rfl (aB (by omega))) ?_))))))
   refine aA rfl (aI (aN (aE (ak (aE (aR (aR ?_)))))))
   exact az (by exact ⟨rfl,rfl,rfl,rfl,rfl,rfl,rfl,rfl,rfl,rfl,rfl,rfl,rfl,trivial⟩) ((hK18 (t+1,bs26,cp27) ⟨by omega,hok28,hle29⟩ (by first|omega| (dsimp only;omega))))
  ·refine tp rfl (aJ rfl rfl (decide_eq_false h21)) (td hK20 (ar rfl (bT (au (au (bS (qn hK16 (ai (fun _ hK21=>?_)))))))))
   refine aj ?_
   rw [show (T.y.s.lf.map (·.st)).take t=(T.y.s.lf.map (·.st)) from List.take_of_length_le (by rw [List.length_map];omega)]
   have hwl:(T.y.s.lf.map (·.st)).length=T.x.n:=by rw [List.length_map];exact hyl.1
   refine ag rfl (aR ?_)
   refine bN Tryz.call12 rfl (uw (T:=T) hG (by omega)) ?_
   rintro _ _ ⟨bs30,cp31,hok32,hle33,rfl,rfl⟩
   refine tp rfl (bC C5 rfl rfl) (aA rfl (td hK21 (av (fun _ hK22=>ag rfl (tp rfl (cB (cs:=[(vI ((qs.getD k Ev.z).k)),(vI za12),(vI zb13),(vI zc14),(vI zd15)]) Dw Dd rfl (bh (aa (.tail _ (.tail _ (.tail _ (.tail _ (.head _))))) rfl) (aa (.tail _ (.tail _ (.tail _ (.tail _ (.head _))))) rfl) (aa (.tail _ (.tail _ (.tail _ (.tail _ (.head _))))) rfl) (aa (.tail _ (.tail _ (.tail _ (.tail _ (.head _))))) rfl) (aa (.tail _ (.tail _ (.tail _ (.tail _ (.head _))))) rfl))) (aE ?_))))))
   refine bN Tryz.call13 rfl (CC (T:=T) (xO c al) hG (by omega) (Tab.cons (Tab.cons (Tab.cons (Tab.cons (Tab.cons (Tab.cons hT)))))) (VTab.cons (VTab.cons (VTab.cons (VTab.cons (VTab.cons (VTab.cons hV)))))) ((qs.getD k Ev.z).k)) ?_
   rintro _ _ ⟨yj34,hyq35,rfl,rfl⟩
   refine ag rfl (tp rfl (aW rfl rfl) (tp rfl (aW rfl rfl) ?_))
   refine tm rfl (cD CR rfl) ?_
   rintro _ _ ⟨b36,rfl,rfl⟩
   refine ts (bn (news:=[(vI yj34.a),(vI yj34.b),(vI yj34.c),(vI yj34.d),(vI yj34.e)]) CM rfl rfl rfl rfl (nB rfl) rfl) ?_
   refine aA rfl (td hK22 (ai (fun _ hK23=>av (fun _ hK24=>bU 0 CQ rfl CG rfl rfl (bK CH rfl (aa (.tail _ (.tail _ (.tail _ (.tail _ (.tail _ (.head _)))))) rfl) ?_)))))
   by_cases h37:((qs.getD k Ev.z).k)=4
   ·refine tp rfl (cG rfl rfl (bne_eq_false_iff_eq.2 h37)) (td hK24 (ar rfl (dp hK23 (av (fun _ hK25=>?_)))))
    have hdf:=wB hyl.1 (hyq35.2 (by omega))
    refine aA rfl (td hK25 (ai (fun _ hK26=>av (fun _ hK27=>aA rfl (td hK27 (aH ?_))))))
    refine aR (ak ?_)
    refine cE (γ:=(Nat)) (fun (u:Nat)=>u≤T.x.n) (fun (u:Nat)=>[(0,(.agg #[(vI c.bud),(vI c.slots),(vI c.act),(vI c.que),(vI c.tries),(vI c.pre),(vI c.tmo),(vI c.bak),(vI c.most),(vI c.qu)])),(1,(.slice bs2 n4 cp3)),(2,(.slice bq nq cq)),(3,(vP b1 0)),(7,(.bool true)),(8,(vP e8 0)),(9,(vN k)),(10,(vP b16 0)),(11,(.slice bs17 T.x.n cp18)),(12,(.slice bt t ct)),(13,(vN t)),(14,(vN T.y.s.lg.length)),(15,(vP b36 0)),(16,(vI yj34.f)),(17,(vI (jT (T.y.s.lf.map (·.st)) (mR T) u))),(18,(vN u)),(30,(.bool false)),(38,(.bool true)),(54,(.bool false)),(74,(.bool false))]) (fun (u:Nat)=>(bI b36 [(vI yj34.a),(vI yj34.b),(vI yj34.c),(vI yj34.d),(vI yj34.e)] 40)::(cO e8 yj34.T)::(SlV 3 1 (.slice bt t ct) t (aF .i64 (T.y.s.lf.map (·.st))))::(SlV 3 1 (.slice bs17 T.x.n cp18) T.x.n (aF .i64 (mR T)))::(bI b16 [(vI ((qs.getD k Ev.z).k)),(vI za12),(vI zb13),(vI zc14),(vI zd15)] 32)::(SlV 57 2 (.slice bs2 n4 cp3) n4 (df (eS al)))::(bI b1 [(vI c.bud),(vI c.slots),(vI c.act),(vI c.que),(vI c.tries),(vI c.pre),(vI c.tmo),(vI c.bak),(vI c.most),(vI c.qu)] 23)::R) (fun (u:Nat)=>T.x.n-u) (0) (Nat.zero_le _) ⟨rfl,rfl,rfl,rfl,rfl,rfl,rfl,rfl,rfl,rfl,rfl,rfl,rfl,rfl,rfl,rfl,rfl,rfl,rfl,rfl,trivial⟩ (fun _ h=>h) ?_
    rintro u K28 hF hK28
    try dsimp only at hF hK28⊢
    refine ai (fun _ hK29=>av (fun _ hK30=>ag rfl (ag rfl (tp rfl (bC CY rfl rfl) ?_))))
    by_cases h38:(u:Int)< (n4:Int)
    ·refine tp rfl (aJ rfl rfl (decide_eq_true h38)) (td hK30 (aG rfl (dp hK29 (ai (fun _ hK31=>aH (av (fun _ hK32=>?_)))))))
     refine ag rfl (ag rfl (tp rfl (ah (k':=u) CI CG rfl rfl hokt (by omega) (by omega) (by omega)) ?_))
     refine bK CH rfl (aw (.tail _ (.tail _ (.head _))) (aQ (by first|omega| (simp;omega)))) ?_
     by_cases h39:(((T.y.s.lf.map (·.st))).getD u 0)=1
     ·refine tp rfl (aV rfl rfl (beq_iff_eq.2 h39)) (td hK32 (aG rfl (aj (ag rfl (ag rfl (ag rfl (tp rfl (ah (k':=u) CI CG rfl rfl hok19 (by omega) (by omega) (by omega)) ?_)))))))
      refine bK CH rfl (aw (.tail _ (.tail _ (.tail _ (.head _)))) (aQ (by first|omega| (simp;omega)))) ?_
      refine tp rfl (fm (c:=max (jT (T.y.s.lf.map (·.st)) (mR T) u) ((mR T).getD u 0)) rfl rfl rfl) (aA rfl (aI (aZ (qn hK31 (aj (ag rfl (tp rfl (aX (c:=((u+1:Nat):Int)) rfl rfl (aB (by omega))) ?_)))))))
      refine aA rfl (aI (aN ?_))
      exact az (by exact ⟨rfl,rfl,rfl,rfl,rfl,rfl,rfl,rfl,rfl,rfl,rfl,rfl,rfl,rfl,(congrArg (fun z=>some (Value.int .i64 z)) (if_pos (by assumption)).symm),rfl,rfl,rfl,rfl,rfl,trivial⟩) ((hK28 (u+1) (by omega) (by omega)))
     ·refine tp rfl (aV rfl rfl (beq_eq_false_iff_ne.2 h39)) (td hK32 (ar rfl (cS (aZ (qn hK31 (aj (ag rfl (tp rfl (aX (c:=((u+1:Nat):Int)) rfl rfl (aB (by omega))) ?_))))))))
      refine aA rfl (aI (aN ?_))
      exact az (by exact ⟨rfl,rfl,rfl,rfl,rfl,rfl,rfl,rfl,rfl,rfl,rfl,rfl,rfl,rfl,(congrArg (fun z=>some (Value.int .i64 z)) (if_neg (by assumption)).symm),rfl,rfl,rfl,rfl,rfl,trivial⟩) ((hK28 (u+1) (by omega) (by omega)))
    ·refine tp rfl (aJ rfl rfl (decide_eq_false h38)) (td hK30 (ar rfl (bT (au (au (bS (qn hK26 (ai (fun _ hK31=>?_)))))))))
     refine av (fun _ hK32=>?_)
     rw [show u=T.x.n by omega]
     obtain ⟨bm,hbm⟩:∃z,jT (T.y.s.lf.map (·.st)) (mR T) T.x.n=z:=⟨_,rfl⟩
     rw [hbm] at hdf⊢
     refine ag rfl ?_
     by_cases h40:yj34.f=6
     ·refine tp rfl (aV rfl rfl (beq_iff_eq.2 h40)) (ag rfl ?_)
      refine ae rfl rfl ?_
      refine ag rfl ?_
      refine ae rfl rfl ?_
      by_cases h41:bm≥0
      ·refine tp rfl (cC rfl rfl (decide_eq_true h41)) ?_
       exfalso;have:=hdf.1 (by omega);omega
      ·refine tp rfl (cC rfl rfl (decide_eq_false h41)) (tp rfl (aL rfl rfl) (ag rfl ?_))
       refine ae rfl rfl ?_
       refine ag rfl ?_
       refine ae rfl rfl ?_
       by_cases h42:yj34.f=0
       ·refine tp rfl (aV rfl rfl (beq_iff_eq.2 h42)) ?_
        refine ae rfl rfl ?_
        refine ag rfl ?_
        refine ae rfl rfl ?_
        refine ag rfl ?_
        refine ae rfl rfl ?_
        by_cases h43:bm<0
        ·refine tp rfl (aJ rfl rfl (decide_eq_true h43)) ?_
         exfalso;have:=(hdf.2 (by omega)).1;omega
        ·refine tp rfl (aJ rfl rfl (decide_eq_false h43)) ?_
         refine ae rfl rfl ?_
         refine tp rfl (aL rfl rfl) (tp rfl (aC rfl rfl) (td hK32 (ar rfl (dp hK31 (ai (fun _ hK33=>av (fun _ hK34=>?_)))))))
         refine ag rfl (tp rfl (cG rfl rfl (bne_eq_false_iff_eq.2 h42)) (td hK34 (ar rfl (dp hK33 (ai (fun _ hK35=>av (fun _ hK36=>?_)))))))
         obtain ⟨_,tt,hfi⟩:=hdf.2 (by omega)
         have hfc:=hfi.c
         have hfn:=hfi.n
         rw [hfc]
         have hgr2:=hyq35.1
         have hlg2:=hgr2.lg
         have hxn2:=hgr2.xn
         refine bU 2 CT rfl CG rfl rfl (bK CH rfl (aa (.head _) rfl) (tp rfl (aJ rfl rfl (decide_eq_false (by omega))) ?_))
         refine ag rfl ?_
         refine ae rfl rfl ?_
         refine bU 2 CT rfl CG rfl rfl ?_
         refine ae rfl rfl ?_
         refine bK CH rfl (aa (.head _) rfl) ?_
         refine ae rfl rfl ?_
         refine ag rfl ?_
         refine ae rfl rfl ?_
         refine tp rfl (bC CY rfl rfl) ?_
         refine ae rfl rfl ?_
         refine tp rfl (cC rfl rfl (decide_eq_false (by omega))) ?_
         refine tp rfl (aC rfl rfl) (ag rfl ?_)
         refine ae rfl rfl ?_
         refine ag rfl ?_
         refine ae rfl rfl ?_
         refine bU 2 CT rfl CG rfl rfl ?_
         refine ae rfl rfl ?_
         refine bK CH rfl (aa (.head _) rfl) ?_
         refine ae rfl rfl ?_
         refine tp rfl (ah (k':=tt) CI CG rfl rfl hokt (by omega) (by omega) (by omega)) ?_
         refine ae rfl rfl ?_
         refine bK CH rfl (aw (.tail _ (.tail _ (.head _))) (aQ (by first|omega| (simp;omega)))) ?_
         refine ae rfl rfl ?_
         refine tp rfl (cG rfl rfl (bne_eq_false_iff_eq.2 hfi.was)) (tp rfl (aC rfl rfl) (ag rfl ?_))
         refine ae rfl rfl ?_
         refine ag rfl ?_
         refine ae rfl rfl ?_
         refine bU 2 CT rfl CG rfl rfl ?_
         refine ae rfl rfl ?_
         refine bK CH rfl (aa (.head _) rfl) ?_
         refine ae rfl rfl ?_
         refine tp rfl (ah (k':=tt) CI CG rfl rfl hok19 (by omega) (by omega) (by omega)) ?_
         refine ae rfl rfl ?_
         refine bK CH rfl (aw (.tail _ (.tail _ (.tail _ (.head _)))) (aQ (by first|omega| (simp;omega)))) ?_
         refine ae rfl rfl ?_
         refine ag rfl ?_
         refine ae rfl rfl ?_
         refine tp rfl (cG rfl rfl (bne_eq_false_iff_eq.2 (hfi.pr))) (tp rfl (aC rfl rfl) (ag rfl ?_))
         refine ae rfl rfl ?_
         refine ag rfl ?_
         refine ae rfl rfl ?_
         refine bU 2 CT rfl CG rfl rfl ?_
         refine ae rfl rfl ?_
         refine bK CH rfl (aa (.head _) rfl) ?_
         refine ae rfl rfl ?_
         refine aE ?_
         refine bN Tryz.call11 rfl (qM (T:=yj34.T) tt (by omega)) ?_
         rintro _ _ ⟨rfl,rfl⟩
         refine ae rfl rfl ?_
         refine tp rfl (cG rfl rfl (bne_eq_false_iff_eq.2 hfi.now)) (tp rfl (aC rfl rfl) (td hK36 (ar rfl (dp hK35 (av (fun _ hK37=>ag rfl ?_))))))
         refine bN Tryz.call12 rfl (uw (T:=yj34.T) hgr2 (by omega)) ?_
         rintro _ _ ⟨bs44,cp45,hok46,hle47,rfl,rfl⟩
         refine aA rfl (td hK37 (av (fun _ hK38=>ag rfl (aA rfl (td hK38 (aH ?_))))))
         refine cE (γ:=(Nat)) (fun (v:Nat)=>T.y.s.lg.length≤v∧True) (fun (v:Nat)=>[(0,(.agg #[(vI c.bud),(vI c.slots),(vI c.act),(vI c.que),(vI c.tries),(vI c.pre),(vI c.tmo),(vI c.bak),(vI c.most),(vI c.qu)])),(1,(.slice bs2 n4 cp3)),(2,(.slice bq nq cq)),(3,(vP b1 0)),(7,(.bool true)),(8,(vP e8 0)),(9,(vN k)),(10,(vP b16 0)),(11,(.slice bs17 T.x.n cp18)),(12,(.slice bt t ct)),(13,(vN t)),(14,(vN T.y.s.lg.length)),(15,(vP b36 0)),(16,(vI yj34.f)),(17,(vI bm)),(18,(vN T.x.n)),(19,(.slice bs44 yj34.T.y.s.lg.length cp45)),(20,(vN v)),(30,(.bool false)),(38,(.bool true)),(54,(.bool false)),(74,(.bool false)),(78,(.bool false)),(105,(.bool false)),(107,(.bool false)),(141,(.bool false))]) (fun (v:Nat)=>(SlV 45 5 (.slice bs44 yj34.T.y.s.lg.length cp45) yj34.T.y.s.lg.length (bJ gH yj34.T.y.s.lg))::(cO e8 yj34.T)::(bI b36 [(vI yj34.a),(vI yj34.b),(vN tt),(vI yj34.d),(vI yj34.e)] 40)::(SlV 3 1 (.slice bt t ct) t (aF .i64 (T.y.s.lf.map (·.st))))::(SlV 3 1 (.slice bs17 T.x.n cp18) T.x.n (aF .i64 (mR T)))::(bI b16 [(vI ((qs.getD k Ev.z).k)),(vI za12),(vI zb13),(vI zc14),(vI zd15)] 32)::(SlV 57 2 (.slice bs2 n4 cp3) n4 (df (eS al)))::(bI b1 [(vI c.bud),(vI c.slots),(vI c.act),(vI c.que),(vI c.tries),(vI c.pre),(vI c.tmo),(vI c.bak),(vI c.most),(vI c.qu)] 23)::R) (fun (v:Nat)=>yj34.T.y.s.lg.length-v) (T.y.s.lg.length) ⟨Nat.le_refl _,trivial⟩ ⟨rfl,rfl,rfl,rfl,rfl,rfl,rfl,rfl,rfl,rfl,rfl,rfl,rfl,rfl,rfl,rfl,rfl,rfl,rfl,rfl,rfl,rfl,rfl,rfl,rfl,rfl,trivial⟩ (fun _ h=>h) ?_
         rintro v K39 hF hK39
         try dsimp only at hF hK39⊢
         obtain ⟨hv,_⟩:=hF
         refine ai (fun _ hK40=>av (fun _ hK41=>ag rfl (ag rfl (tp rfl (bC C5 rfl rfl) ?_))))
         by_cases h48:(v:Int)< (yj34.T.y.s.lg.length:Int)
         ·refine tp rfl (aJ rfl rfl (decide_eq_true h48)) (td hK41 (aG rfl (dp hK40 (ai (fun _ hK42=>aH (av (fun _ hK43=>?_)))))))
          refine ag rfl (ag rfl (tp rfl (ah (k':=v*5) C5 Dh rfl rfl hok46 (by omega) (by omega) (by omega)) ?_))
          refine tp rfl (bM (o':=v*5+1) Dk rfl CG rfl rfl) (bK CH rfl (aw (.head _) ((bc (k:=v) (j:=1) bA (d:=Ev.z) (by first|omega| (simp;omega)) (nB rfl)).trans rfl)) ?_)
          refine aA rfl (td hK43 (ai (fun _ hK44=>?_)))
          rcases hfi.log v hv (by omega) with ⟨hk6,xx,hxt,hxl,hxp,hxs⟩| ⟨hk1,hxt⟩
          ·rw [hxt]
           refine aj (ag rfl (tp rfl (aJ rfl rfl (decide_eq_false (by omega))) ?_))
           refine ag rfl ?_
           refine ae rfl rfl ?_
           refine ag rfl ?_
           refine ae rfl rfl ?_
           refine ag rfl ?_
           refine ae rfl rfl ?_
           refine tp rfl (bC CY rfl rfl) ?_
           refine ae rfl rfl ?_
           refine tp rfl (cC rfl rfl (decide_eq_false (by omega))) ?_
           refine tp rfl (aC rfl rfl) (ag rfl ?_)
           refine ae rfl rfl ?_
           refine ag rfl ?_
           refine ae rfl rfl ?_
           refine ag rfl ?_
           refine ae rfl rfl ?_
           refine tp rfl (ah (k':=v*5) C5 Dh rfl rfl hok46 (by omega) (by omega) (by omega)) ?_
           refine ae rfl rfl ?_
           refine tp rfl (bM (o':=v*5) Dk rfl CG rfl rfl) ?_
           refine ae rfl rfl ?_
           refine bK CH rfl (aw (.head _) ((bc (k:=v) (j:=0) bA (d:=Ev.z) (by first|omega| (simp;omega)) (nB rfl)).trans rfl)) ?_
           refine ae rfl rfl ?_
           refine tp rfl (aV rfl rfl (beq_iff_eq.2 hk6)) ?_
           refine ae rfl rfl ?_
           refine ag rfl ?_
           refine ae rfl rfl ?_
           refine ag rfl ?_
           refine ae rfl rfl ?_
           refine ag rfl ?_
           refine ae rfl rfl ?_
           refine tp rfl (ah (k':=xx) CI CG rfl rfl hok19 (by omega) (by omega) (by omega)) ?_
           refine ae rfl rfl ?_
           refine bK CH rfl (aw (.tail _ (.tail _ (.tail _ (.tail _ (.head _))))) (aQ (by first|omega| (simp;omega)))) ?_
           refine ae rfl rfl ?_
           refine ag rfl ?_
           refine ae rfl rfl ?_
           refine tp rfl (cC rfl rfl (decide_eq_false (by omega))) ?_
           refine ae rfl rfl ?_
           refine ag rfl ?_
           refine ae rfl rfl ?_
           refine ag rfl ?_
           refine ae rfl rfl ?_
           refine ag rfl ?_
           refine ae rfl rfl ?_
           refine tp rfl (ah (k':=xx) CI CG rfl rfl hokt (by omega) (by omega) (by omega)) ?_
           refine ae rfl rfl ?_
           refine bK CH rfl (aw (.tail _ (.tail _ (.tail _ (.head _)))) (aQ (by first|omega| (simp;omega)))) ?_
           refine ae rfl rfl ?_
           refine tp rfl (cG rfl rfl (bne_eq_false_iff_eq.2 hxs)) ?_
           refine ae rfl rfl ?_
           refine tp rfl (aC rfl rfl) ?_
           refine ae rfl rfl ?_
           refine tp rfl (aL rfl rfl) (tp rfl (aC rfl rfl) (ag rfl ?_))
           refine ae rfl rfl ?_
           refine ag rfl ?_
           refine ae rfl rfl ?_
           refine ag rfl ?_
           refine ae rfl rfl ?_
           refine tp rfl (ah (k':=v*5) C5 Dh rfl rfl hok46 (by omega) (by omega) (by omega)) ?_
           refine ae rfl rfl ?_
           refine tp rfl (bM (o':=v*5) Dk rfl CG rfl rfl) ?_
           refine ae rfl rfl ?_
           refine bK CH rfl (aw (.head _) ((bc (k:=v) (j:=0) bA (d:=Ev.z) (by first|omega| (simp;omega)) (nB rfl)).trans rfl)) ?_
           refine ae rfl rfl ?_
           refine tp rfl (cG rfl rfl (bne_eq_false_iff_eq.2 hk6)) ?_
           refine ae rfl rfl ?_
           refine ag rfl ?_
           refine aq rfl rfl rfl ?_
           refine aq rfl rfl rfl ?_
           refine aq rfl rfl rfl ?_
           refine aq rfl rfl rfl ?_
           refine aq rfl rfl rfl ?_
           refine aq rfl rfl rfl ?_
           refine aq rfl rfl rfl ?_
           refine dw rfl rfl rfl ?_
           refine dw rfl rfl rfl ?_
           refine dw rfl rfl rfl ?_
           refine dw rfl rfl rfl ?_
           refine aq rfl rfl rfl ?_
           refine ae rfl rfl ?_
           refine tp rfl (aC rfl rfl) (tp rfl (aC rfl rfl) (td hK44 (ar rfl (cS (aZ (qn hK42 (aj (ag rfl ?_))))))))
           refine tp rfl (aX (c:=((v+1:Nat):Int)) rfl rfl (aB (by omega))) ?_
           refine aA rfl (aI (aN ?_))
           exact az (by exact ⟨rfl,rfl,rfl,rfl,rfl,rfl,rfl,rfl,rfl,rfl,rfl,rfl,rfl,rfl,rfl,rfl,rfl,rfl,rfl,rfl,rfl,rfl,rfl,rfl,rfl,rfl,trivial⟩) ((hK39 (v+1) ⟨by omega,trivial⟩ (by first|omega| (dsimp only;omega))))
          ·rw [hxt]
           refine aj (ag rfl (tp rfl (aJ rfl rfl (decide_eq_false (by omega))) ?_))
           refine ag rfl ?_
           refine ae rfl rfl ?_
           refine ag rfl ?_
           refine ae rfl rfl ?_
           refine ag rfl ?_
           refine ae rfl rfl ?_
           refine tp rfl (bC CY rfl rfl) ?_
           refine ae rfl rfl ?_
           refine tp rfl (cC rfl rfl (decide_eq_false (by omega))) ?_
           refine tp rfl (aC rfl rfl) (ag rfl ?_)
           refine ae rfl rfl ?_
           refine ag rfl ?_
           refine ae rfl rfl ?_
           refine ag rfl ?_
           refine ae rfl rfl ?_
           refine tp rfl (ah (k':=v*5) C5 Dh rfl rfl hok46 (by omega) (by omega) (by omega)) ?_
           refine ae rfl rfl ?_
           refine tp rfl (bM (o':=v*5) Dk rfl CG rfl rfl) ?_
           refine ae rfl rfl ?_
           refine bK CH rfl (aw (.head _) ((bc (k:=v) (j:=0) bA (d:=Ev.z) (by first|omega| (simp;omega)) (nB rfl)).trans rfl)) ?_
           refine ae rfl rfl ?_
           refine tp rfl (aV rfl rfl (beq_eq_false_iff_ne.2 (by omega))) ?_
           refine ae rfl rfl ?_
           refine ag rfl ?_
           refine aq rfl rfl rfl ?_
           refine aq rfl rfl rfl ?_
           refine aq rfl rfl rfl ?_
           refine aq rfl rfl rfl ?_
           refine aq rfl rfl rfl ?_
           refine aq rfl rfl rfl ?_
           refine aq rfl rfl rfl ?_
           refine dw rfl rfl rfl ?_
           refine dw rfl rfl rfl ?_
           refine dw rfl rfl rfl ?_
           refine dw rfl rfl rfl ?_
           refine dw rfl rfl rfl ?_
           refine aq rfl rfl rfl ?_
           refine ae rfl rfl ?_
           refine tp rfl (aC rfl rfl) (tp rfl (aC rfl rfl) (ag rfl ?_))
           refine ae rfl rfl ?_
           refine ag rfl ?_
           refine ae rfl rfl ?_
           refine ag rfl ?_
           refine ae rfl rfl ?_
           refine tp rfl (ah (k':=v*5) C5 Dh rfl rfl hok46 (by omega) (by omega) (by omega)) ?_
           refine ae rfl rfl ?_
           refine tp rfl (bM (o':=v*5) Dk rfl CG rfl rfl) ?_
           refine ae rfl rfl ?_
           refine bK CH rfl (aw (.head _) ((bc (k:=v) (j:=0) bA (d:=Ev.z) (by first|omega| (simp;omega)) (nB rfl)).trans rfl)) ?_
           refine ae rfl rfl ?_
           refine tp rfl (cG rfl rfl (bne_iff_ne.2 (by omega))) ?_
           refine ae rfl rfl ?_
           refine ag rfl ?_
           refine ae rfl rfl ?_
           refine ag rfl ?_
           refine ae rfl rfl ?_
           refine ag rfl ?_
           refine ae rfl rfl ?_
           refine tp rfl (ah (k':=v*5) C5 Dh rfl rfl hok46 (by omega) (by omega) (by omega)) ?_
           refine ae rfl rfl ?_
           refine tp rfl (bM (o':=v*5) Dk rfl CG rfl rfl) ?_
           refine ae rfl rfl ?_
           refine bK CH rfl (aw (.head _) ((bc (k:=v) (j:=0) bA (d:=Ev.z) (by first|omega| (simp;omega)) (nB rfl)).trans rfl)) ?_
           refine ae rfl rfl ?_
           refine tp rfl (cG rfl rfl (bne_eq_false_iff_eq.2 hk1)) ?_
           refine ae rfl rfl ?_
           refine ag rfl ?_
           refine ae rfl rfl ?_
           refine ag rfl ?_
           refine ae rfl rfl ?_
           refine bU 2 CT rfl CG rfl rfl ?_
           refine ae rfl rfl ?_
           refine bK CH rfl (aa (.tail _ (.tail _ (.head _))) rfl) ?_
           refine ae rfl rfl ?_
           refine tp rfl (cG rfl rfl (bne_eq_false_iff_eq.2 rfl)) ?_
           refine ae rfl rfl ?_
           refine tp rfl (aC rfl rfl) ?_
           refine ae rfl rfl ?_
           refine tp rfl (aL rfl rfl) (tp rfl (aC rfl rfl) (td hK44 (ar rfl (cS (aZ (qn hK42 (aj (ag rfl ?_))))))))
           refine tp rfl (aX (c:=((v+1:Nat):Int)) rfl rfl (aB (by omega))) ?_
           refine aA rfl (aI (aN ?_))
           exact az (by exact ⟨rfl,rfl,rfl,rfl,rfl,rfl,rfl,rfl,rfl,rfl,rfl,rfl,rfl,rfl,rfl,rfl,rfl,rfl,rfl,rfl,rfl,rfl,rfl,rfl,rfl,rfl,trivial⟩) ((hK39 (v+1) ⟨by omega,trivial⟩ (by first|omega| (dsimp only;omega))))
         ·refine tp rfl (aJ rfl rfl (decide_eq_false h48)) (td hK41 (ar rfl (bT (au (au (bS (aZ (qn hK12 ?_))))))))
          refine aj (ag rfl (tp rfl (aX (c:=((k+1:Nat):Int)) rfl rfl (aB (by omega))) ?_))
          refine aA rfl (aI (aN (ak (aE (ak (aE (ak (aE (ak ?_)))))))))
          refine aE (ak ?_)
          exact az (by exact ⟨rfl,rfl,rfl,rfl,rfl,rfl,rfl,rfl,trivial⟩) ((hK9 (k+1,yj34.T) ⟨by omega,by omega,hyq35.1⟩ (by first|omega| (dsimp only;omega))))
       ·refine tp rfl (aV rfl rfl (beq_eq_false_iff_ne.2 h42)) ?_
        refine ae rfl rfl ?_
        refine ag rfl ?_
        refine aq rfl rfl rfl ?_
        refine aq rfl rfl rfl ?_
        refine ae rfl rfl ?_
        refine tp rfl (aC rfl rfl) (tp rfl (aC rfl rfl) (td hK32 (ar rfl (dp hK31 (ai (fun _ hK33=>av (fun _ hK34=>?_)))))))
        refine ag rfl (tp rfl (cG rfl rfl (bne_iff_ne.2 h42)) (td hK34 (aG rfl (bT (au (bS (qn hK12 (aj ?_))))))))
        refine ag rfl (tp rfl (aX (c:=((k+1:Nat):Int)) rfl rfl (aB (by omega))) ?_)
        refine aA rfl (aI (aN (ak (aE (ak (aE (ak (aE (ak ?_)))))))))
        exact az (by exact ⟨rfl,rfl,rfl,rfl,rfl,rfl,rfl,rfl,trivial⟩) ((hK9 (k+1,yj34.T) ⟨by omega,by omega,hyq35.1⟩ (by first|omega| (dsimp only;omega))))
     ·refine tp rfl (aV rfl rfl (beq_eq_false_iff_ne.2 h40)) (ag rfl ?_)
      refine aq rfl rfl rfl ?_
      refine aq rfl rfl rfl ?_
      refine tp rfl (aC rfl rfl) (ag rfl ?_)
      refine ae rfl rfl ?_
      refine ag rfl ?_
      refine ae rfl rfl ?_
      by_cases h49:yj34.f=0
      ·refine tp rfl (aV rfl rfl (beq_iff_eq.2 h49)) ?_
       refine ae rfl rfl ?_
       refine ag rfl ?_
       refine ae rfl rfl ?_
       refine ag rfl ?_
       refine ae rfl rfl ?_
       by_cases h50:bm<0
       ·refine tp rfl (aJ rfl rfl (decide_eq_true h50)) ?_
        exfalso;have:=(hdf.2 (by omega)).1;omega
       ·refine tp rfl (aJ rfl rfl (decide_eq_false h50)) ?_
        refine ae rfl rfl ?_
        refine tp rfl (aL rfl rfl) (tp rfl (aC rfl rfl) (td hK32 (ar rfl (dp hK31 (ai (fun _ hK33=>av (fun _ hK34=>?_)))))))
        refine ag rfl (tp rfl (cG rfl rfl (bne_eq_false_iff_eq.2 h49)) (td hK34 (ar rfl (dp hK33 (ai (fun _ hK35=>av (fun _ hK36=>?_)))))))
        obtain ⟨_,tt,hfi⟩:=hdf.2 (by omega)
        have hfc:=hfi.c
        have hfn:=hfi.n
        rw [hfc]
        have hgr2:=hyq35.1
        have hlg2:=hgr2.lg
        have hxn2:=hgr2.xn
        refine bU 2 CT rfl CG rfl rfl (bK CH rfl (aa (.head _) rfl) (tp rfl (aJ rfl rfl (decide_eq_false (by omega))) ?_))
        refine ag rfl ?_
        refine ae rfl rfl ?_
        refine bU 2 CT rfl CG rfl rfl ?_
        refine ae rfl rfl ?_
        refine bK CH rfl (aa (.head _) rfl) ?_
        refine ae rfl rfl ?_
        refine ag rfl ?_
        refine ae rfl rfl ?_
        refine tp rfl (bC CY rfl rfl) ?_
        refine ae rfl rfl ?_
        refine tp rfl (cC rfl rfl (decide_eq_false (by omega))) ?_
        refine tp rfl (aC rfl rfl) (ag rfl ?_)
        refine ae rfl rfl ?_
        refine ag rfl ?_
        refine ae rfl rfl ?_
        refine bU 2 CT rfl CG rfl rfl ?_
        refine ae rfl rfl ?_
        refine bK CH rfl (aa (.head _) rfl) ?_
        refine ae rfl rfl ?_
        refine tp rfl (ah (k':=tt) CI CG rfl rfl hokt (by omega) (by omega) (by omega)) ?_
        refine ae rfl rfl ?_
        refine bK CH rfl (aw (.tail _ (.tail _ (.head _))) (aQ (by first|omega| (simp;omega)))) ?_
        refine ae rfl rfl ?_
        refine tp rfl (cG rfl rfl (bne_eq_false_iff_eq.2 hfi.was)) (tp rfl (aC rfl rfl) (ag rfl ?_))
        refine ae rfl rfl ?_
        refine ag rfl ?_
        refine ae rfl rfl ?_
        refine bU 2 CT rfl CG rfl rfl ?_
        refine ae rfl rfl ?_
        refine bK CH rfl (aa (.head _) rfl) ?_
        refine ae rfl rfl ?_
        refine tp rfl (ah (k':=tt) CI CG rfl rfl hok19 (by omega) (by omega) (by omega)) ?_
        refine ae rfl rfl ?_
        refine bK CH rfl (aw (.tail _ (.tail _ (.tail _ (.head _)))) (aQ (by first|omega| (simp;omega)))) ?_
        refine ae rfl rfl ?_
        refine ag rfl ?_
        refine ae rfl rfl ?_
        refine tp rfl (cG rfl rfl (bne_eq_false_iff_eq.2 (hfi.pr))) (tp rfl (aC rfl rfl) (ag rfl ?_))
        refine ae rfl rfl ?_
        refine ag rfl ?_
        refine ae rfl rfl ?_
        refine bU 2 CT rfl CG rfl rfl ?_
        refine ae rfl rfl ?_
        refine bK CH rfl (aa (.head _) rfl) ?_
        refine ae rfl rfl ?_
        refine aE ?_
        refine bN Tryz.call11 rfl (qM (T:=yj34.T) tt (by omega)) ?_
        rintro _ _ ⟨rfl,rfl⟩
        refine ae rfl rfl ?_
        refine tp rfl (cG rfl rfl (bne_eq_false_iff_eq.2 hfi.now)) (tp rfl (aC rfl rfl) (td hK36 (ar rfl (dp hK35 (av (fun _ hK37=>ag rfl ?_))))))
        refine bN Tryz.call12 rfl (uw (T:=yj34.T) hgr2 (by omega)) ?_
        rintro _ _ ⟨bs51,cp52,hok53,hle54,rfl,rfl⟩
        refine aA rfl (td hK37 (av (fun _ hK38=>ag rfl (aA rfl (td hK38 (aH ?_))))))
        refine cE (γ:=(Nat)) (fun (v:Nat)=>T.y.s.lg.length≤v∧True) (fun (v:Nat)=>[(0,(.agg #[(vI c.bud),(vI c.slots),(vI c.act),(vI c.que),(vI c.tries),(vI c.pre),(vI c.tmo),(vI c.bak),(vI c.most),(vI c.qu)])),(1,(.slice bs2 n4 cp3)),(2,(.slice bq nq cq)),(3,(vP b1 0)),(7,(.bool true)),(8,(vP e8 0)),(9,(vN k)),(10,(vP b16 0)),(11,(.slice bs17 T.x.n cp18)),(12,(.slice bt t ct)),(13,(vN t)),(14,(vN T.y.s.lg.length)),(15,(vP b36 0)),(16,(vI yj34.f)),(17,(vI bm)),(18,(vN T.x.n)),(19,(.slice bs51 yj34.T.y.s.lg.length cp52)),(20,(vN v)),(30,(.bool false)),(38,(.bool true)),(54,(.bool false)),(74,(.bool false)),(78,(.bool false)),(105,(.bool false)),(107,(.bool false)),(141,(.bool false))]) (fun (v:Nat)=>(SlV 45 5 (.slice bs51 yj34.T.y.s.lg.length cp52) yj34.T.y.s.lg.length (bJ gH yj34.T.y.s.lg))::(cO e8 yj34.T)::(bI b36 [(vI yj34.a),(vI yj34.b),(vN tt),(vI yj34.d),(vI yj34.e)] 40)::(SlV 3 1 (.slice bt t ct) t (aF .i64 (T.y.s.lf.map (·.st))))::(SlV 3 1 (.slice bs17 T.x.n cp18) T.x.n (aF .i64 (mR T)))::(bI b16 [(vI ((qs.getD k Ev.z).k)),(vI za12),(vI zb13),(vI zc14),(vI zd15)] 32)::(SlV 57 2 (.slice bs2 n4 cp3) n4 (df (eS al)))::(bI b1 [(vI c.bud),(vI c.slots),(vI c.act),(vI c.que),(vI c.tries),(vI c.pre),(vI c.tmo),(vI c.bak),(vI c.most),(vI c.qu)] 23)::R) (fun (v:Nat)=>yj34.T.y.s.lg.length-v) (T.y.s.lg.length) ⟨Nat.le_refl _,trivial⟩ ⟨rfl,rfl,rfl,rfl,rfl,rfl,rfl,rfl,rfl,rfl,rfl,rfl,rfl,rfl,rfl,rfl,rfl,rfl,rfl,rfl,rfl,rfl,rfl,rfl,rfl,rfl,trivial⟩ (fun _ h=>h) ?_
        rintro v K39 hF hK39
        try dsimp only at hF hK39⊢
        obtain ⟨hv,_⟩:=hF
        refine ai (fun _ hK40=>av (fun _ hK41=>ag rfl (ag rfl (tp rfl (bC C5 rfl rfl) ?_))))
        by_cases h55:(v:Int)< (yj34.T.y.s.lg.length:Int)
        ·refine tp rfl (aJ rfl rfl (decide_eq_true h55)) (td hK41 (aG rfl (dp hK40 (ai (fun _ hK42=>aH (av (fun _ hK43=>?_)))))))
         refine ag rfl (ag rfl (tp rfl (ah (k':=v*5) C5 Dh rfl rfl hok53 (by omega) (by omega) (by omega)) ?_))
         refine tp rfl (bM (o':=v*5+1) Dk rfl CG rfl rfl) (bK CH rfl (aw (.head _) ((bc (k:=v) (j:=1) bA (d:=Ev.z) (by first|omega| (simp;omega)) (nB rfl)).trans rfl)) ?_)
         refine aA rfl (td hK43 (ai (fun _ hK44=>?_)))
         rcases hfi.log v hv (by omega) with ⟨hk6,xx,hxt,hxl,hxp,hxs⟩| ⟨hk1,hxt⟩
         ·rw [hxt]
          refine aj (ag rfl (tp rfl (aJ rfl rfl (decide_eq_false (by omega))) ?_))
          refine ag rfl ?_
          refine ae rfl rfl ?_
          refine ag rfl ?_
          refine ae rfl rfl ?_
          refine ag rfl ?_
          refine ae rfl rfl ?_
          refine tp rfl (bC CY rfl rfl) ?_
          refine ae rfl rfl ?_
          refine tp rfl (cC rfl rfl (decide_eq_false (by omega))) ?_
          refine tp rfl (aC rfl rfl) (ag rfl ?_)
          refine ae rfl rfl ?_
          refine ag rfl ?_
          refine ae rfl rfl ?_
          refine ag rfl ?_
          refine ae rfl rfl ?_
          refine tp rfl (ah (k':=v*5) C5 Dh rfl rfl hok53 (by omega) (by omega) (by omega)) ?_
          refine ae rfl rfl ?_
          refine tp rfl (bM (o':=v*5) Dk rfl CG rfl rfl) ?_
          refine ae rfl rfl ?_
          refine bK CH rfl (aw (.head _) ((bc (k:=v) (j:=0) bA (d:=Ev.z) (by first|omega| (simp;omega)) (nB rfl)).trans rfl)) ?_
          refine ae rfl rfl ?_
          refine tp rfl (aV rfl rfl (beq_iff_eq.2 hk6)) ?_
          refine ae rfl rfl ?_
          refine ag rfl ?_
          refine ae rfl rfl ?_
          refine ag rfl ?_
          refine ae rfl rfl ?_
          refine ag rfl ?_
          refine ae rfl rfl ?_
          refine tp rfl (ah (k':=xx) CI CG rfl rfl hok19 (by omega) (by omega) (by omega)) ?_
          refine ae rfl rfl ?_
          refine bK CH rfl (aw (.tail _ (.tail _ (.tail _ (.tail _ (.head _))))) (aQ (by first|omega| (simp;omega)))) ?_
          refine ae rfl rfl ?_
          refine ag rfl ?_
          refine ae rfl rfl ?_
          refine tp rfl (cC rfl rfl (decide_eq_false (by omega))) ?_
          refine ae rfl rfl ?_
          refine ag rfl ?_
          refine ae rfl rfl ?_
          refine ag rfl ?_
          refine ae rfl rfl ?_
          refine ag rfl ?_
          refine ae rfl rfl ?_
          refine tp rfl (ah (k':=xx) CI CG rfl rfl hokt (by omega) (by omega) (by omega)) ?_
          refine ae rfl rfl ?_
          refine bK CH rfl (aw (.tail _ (.tail _ (.tail _ (.head _)))) (aQ (by first|omega| (simp;omega)))) ?_
          refine ae rfl rfl ?_
          refine tp rfl (cG rfl rfl (bne_eq_false_iff_eq.2 hxs)) ?_
          refine ae rfl rfl ?_
          refine tp rfl (aC rfl rfl) ?_
          refine ae rfl rfl ?_
          refine tp rfl (aL rfl rfl) (tp rfl (aC rfl rfl) (ag rfl ?_))
          refine ae rfl rfl ?_
          refine ag rfl ?_
          refine ae rfl rfl ?_
          refine ag rfl ?_
          refine ae rfl rfl ?_
          refine tp rfl (ah (k':=v*5) C5 Dh rfl rfl hok53 (by omega) (by omega) (by omega)) ?_
          refine ae rfl rfl ?_
          refine tp rfl (bM (o':=v*5) Dk rfl CG rfl rfl) ?_
          refine ae rfl rfl ?_
          refine bK CH rfl (aw (.head _) ((bc (k:=v) (j:=0) bA (d:=Ev.z) (by first|omega| (simp;omega)) (nB rfl)).trans rfl)) ?_
          refine ae rfl rfl ?_
          refine tp rfl (cG rfl rfl (bne_eq_false_iff_eq.2 hk6)) ?_
          refine ae rfl rfl ?_
          refine ag rfl ?_
          refine aq rfl rfl rfl ?_
          refine aq rfl rfl rfl ?_
          refine aq rfl rfl rfl ?_
          refine aq rfl rfl rfl ?_
          refine aq rfl rfl rfl ?_
          refine aq rfl rfl rfl ?_
          refine aq rfl rfl rfl ?_
          refine dw rfl rfl rfl ?_
          refine dw rfl rfl rfl ?_
          refine dw rfl rfl rfl ?_
          refine dw rfl rfl rfl ?_
          refine aq rfl rfl rfl ?_
          refine ae rfl rfl ?_
          refine tp rfl (aC rfl rfl) (tp rfl (aC rfl rfl) (td hK44 (ar rfl (cS (aZ (qn hK42 (aj (ag rfl ?_))))))))
          refine tp rfl (aX (c:=((v+1:Nat):Int)) rfl rfl (aB (by omega))) ?_
          refine aA rfl (aI (aN ?_))
          exact az (by exact ⟨rfl,rfl,rfl,rfl,rfl,rfl,rfl,rfl,rfl,rfl,rfl,rfl,rfl,rfl,rfl,rfl,rfl,rfl,rfl,rfl,rfl,rfl,rfl,rfl,rfl,rfl,trivial⟩) ((hK39 (v+1) ⟨by omega,trivial⟩ (by first|omega| (dsimp only;omega))))
         ·rw [hxt]
          refine aj (ag rfl (tp rfl (aJ rfl rfl (decide_eq_false (by omega))) ?_))
          refine ag rfl ?_
          refine ae rfl rfl ?_
          refine ag rfl ?_
          refine ae rfl rfl ?_
          refine ag rfl ?_
          refine ae rfl rfl ?_
          refine tp rfl (bC CY rfl rfl) ?_
          refine ae rfl rfl ?_
          refine tp rfl (cC rfl rfl (decide_eq_false (by omega))) ?_
          refine tp rfl (aC rfl rfl) (ag rfl ?_)
          refine ae rfl rfl ?_
          refine ag rfl ?_
          refine ae rfl rfl ?_
          refine ag rfl ?_
          refine ae rfl rfl ?_
          refine tp rfl (ah (k':=v*5) C5 Dh rfl rfl hok53 (by omega) (by omega) (by omega)) ?_
          refine ae rfl rfl ?_
          refine tp rfl (bM (o':=v*5) Dk rfl CG rfl rfl) ?_
          refine ae rfl rfl ?_
          refine bK CH rfl (aw (.head _) ((bc (k:=v) (j:=0) bA (d:=Ev.z) (by first|omega| (simp;omega)) (nB rfl)).trans rfl)) ?_
          refine ae rfl rfl ?_
          refine tp rfl (aV rfl rfl (beq_eq_false_iff_ne.2 (by omega))) ?_
          refine ae rfl rfl ?_
          refine ag rfl ?_
          refine aq rfl rfl rfl ?_
          refine aq rfl rfl rfl ?_
          refine aq rfl rfl rfl ?_
          refine aq rfl rfl rfl ?_
          refine aq rfl rfl rfl ?_
          refine aq rfl rfl rfl ?_
          refine aq rfl rfl rfl ?_
          refine dw rfl rfl rfl ?_
          refine dw rfl rfl rfl ?_
          refine dw rfl rfl rfl ?_
          refine dw rfl rfl rfl ?_
          refine dw rfl rfl rfl ?_
          refine aq rfl rfl rfl ?_
          refine ae rfl rfl ?_
          refine tp rfl (aC rfl rfl) (tp rfl (aC rfl rfl) (ag rfl ?_))
          refine ae rfl rfl ?_
          refine ag rfl ?_
          refine ae rfl rfl ?_
          refine ag rfl ?_
          refine ae rfl rfl ?_
          refine tp rfl (ah (k':=v*5) C5 Dh rfl rfl hok53 (by omega) (by omega) (by omega)) ?_
          refine ae rfl rfl ?_
          refine tp rfl (bM (o':=v*5) Dk rfl CG rfl rfl) ?_
          refine ae rfl rfl ?_
          refine bK CH rfl (aw (.head _) ((bc (k:=v) (j:=0) bA (d:=Ev.z) (by first|omega| (simp;omega)) (nB rfl)).trans rfl)) ?_
          refine ae rfl rfl ?_
          refine tp rfl (cG rfl rfl (bne_iff_ne.2 (by omega))) ?_
          refine ae rfl rfl ?_
          refine ag rfl ?_
          refine ae rfl rfl ?_
          refine ag rfl ?_
          refine ae rfl rfl ?_
          refine ag rfl ?_
          refine ae rfl rfl ?_
          refine tp rfl (ah (k':=v*5) C5 Dh rfl rfl hok53 (by omega) (by omega) (by omega)) ?_
          refine ae rfl rfl ?_
          refine tp rfl (bM (o':=v*5) Dk rfl CG rfl rfl) ?_
          refine ae rfl rfl ?_
          refine bK CH rfl (aw (.head _) ((bc (k:=v) (j:=0) bA (d:=Ev.z) (by first|omega| (simp;omega)) (nB rfl)).trans rfl)) ?_
          refine ae rfl rfl ?_
          refine tp rfl (cG rfl rfl (bne_eq_false_iff_eq.2 hk1)) ?_
          refine ae rfl rfl ?_
          refine ag rfl ?_
          refine ae rfl rfl ?_
          refine ag rfl ?_
          refine ae rfl rfl ?_
          refine bU 2 CT rfl CG rfl rfl ?_
          refine ae rfl rfl ?_
          refine bK CH rfl (aa (.tail _ (.tail _ (.head _))) rfl) ?_
          refine ae rfl rfl ?_
          refine tp rfl (cG rfl rfl (bne_eq_false_iff_eq.2 rfl)) ?_
          refine ae rfl rfl ?_
          refine tp rfl (aC rfl rfl) ?_
          refine ae rfl rfl ?_
          refine tp rfl (aL rfl rfl) (tp rfl (aC rfl rfl) (td hK44 (ar rfl (cS (aZ (qn hK42 (aj (ag rfl ?_))))))))
          refine tp rfl (aX (c:=((v+1:Nat):Int)) rfl rfl (aB (by omega))) ?_
          refine aA rfl (aI (aN ?_))
          exact az (by exact ⟨rfl,rfl,rfl,rfl,rfl,rfl,rfl,rfl,rfl,rfl,rfl,rfl,rfl,rfl,rfl,rfl,rfl,rfl,rfl,rfl,rfl,rfl,rfl,rfl,rfl,rfl,trivial⟩) ((hK39 (v+1) ⟨by omega,trivial⟩ (by first|omega| (dsimp only;omega))))
        ·refine tp rfl (aJ rfl rfl (decide_eq_false h55)) (td hK41 (ar rfl (bT (au (au (bS (aZ (qn hK12 ?_))))))))
         refine aj (ag rfl (tp rfl (aX (c:=((k+1:Nat):Int)) rfl rfl (aB (by omega))) ?_))
         refine aA rfl (aI (aN (ak (aE (ak (aE (ak (aE (ak ?_)))))))))
         refine aE (ak ?_)
         exact az (by exact ⟨rfl,rfl,rfl,rfl,rfl,rfl,rfl,rfl,trivial⟩) ((hK9 (k+1,yj34.T) ⟨by omega,by omega,hyq35.1⟩ (by first|omega| (dsimp only;omega))))
      ·refine tp rfl (aV rfl rfl (beq_eq_false_iff_ne.2 h49)) ?_
       refine ae rfl rfl ?_
       refine ag rfl ?_
       refine aq rfl rfl rfl ?_
       refine aq rfl rfl rfl ?_
       refine ae rfl rfl ?_
       refine tp rfl (aC rfl rfl) (tp rfl (aC rfl rfl) (td hK32 (ar rfl (dp hK31 (ai (fun _ hK33=>av (fun _ hK34=>?_)))))))
       refine ag rfl (tp rfl (cG rfl rfl (bne_iff_ne.2 h49)) (td hK34 (aG rfl (bT (au (bS (qn hK12 (aj ?_))))))))
       refine ag rfl (tp rfl (aX (c:=((k+1:Nat):Int)) rfl rfl (aB (by omega))) ?_)
       refine aA rfl (aI (aN (ak (aE (ak (aE (ak (aE (ak ?_)))))))))
       exact az (by exact ⟨rfl,rfl,rfl,rfl,rfl,rfl,rfl,rfl,trivial⟩) ((hK9 (k+1,yj34.T) ⟨by omega,by omega,hyq35.1⟩ (by first|omega| (dsimp only;omega))))
   ·refine tp rfl (cG rfl rfl (bne_iff_ne.2 h37)) (td hK24 (aG rfl (bT (au (bS (qn hK12 (aj (ag rfl ?_))))))))
    refine tp rfl (aX (c:=((k+1:Nat):Int)) rfl rfl (aB (by omega))) ?_
    refine aA rfl (aI (aN (ak (aE (ak (aE (ak (aE (ak ?_)))))))))
    refine aE (ak ?_)
    exact az (by exact ⟨rfl,rfl,rfl,rfl,rfl,rfl,rfl,rfl,trivial⟩) ((hK9 (k+1,yj34.T) ⟨by omega,by omega,hyq35.1⟩ (by first|omega| (dsimp only;omega))))
 ·refine mK (E':=[(0,(.agg #[(vI c.bud),(vI c.slots),(vI c.act),(vI c.que),(vI c.tries),(vI c.pre),(vI c.tmo),(vI c.bak),(vI c.most),(vI c.qu)])),(1,(.slice bs2 n4 cp3)),(2,(.slice bq nq cq)),(3,(vP b1 0)),(7,(.bool true)),(8,(vP e8 0)),(9,(vN k)),(30,(.bool false)),(38,(.bool false))]) ?_ (fun KK hKK=>?_)
  ·
   refine qn hK11 (ar rfl (bT (au (au (bS (qn hK7 (av (fun _ hK12=>ag rfl ?_))))))))
   refine aA rfl (td hK12 (ay (ak (ak (ak ?_)))))
   refine aM rfl rfl ?_
   exact ⟨rfl,rfl⟩
  ·by_cases hc11A:(k:Int)< (nq:Int)
   ·
    have hc11B:¬((k:Int)<120):=fun hh=>hc11 ⟨hc11A,hh⟩
    refine ag rfl (ag rfl (tp rfl (bC Er rfl rfl) (tp rfl (aJ rfl rfl (decide_eq_true hc11A)) (ag rfl ?_))))
    refine ae rfl rfl ?_
    refine ag rfl ?_
    refine ae rfl rfl ?_
    refine tp rfl (aJ rfl rfl (decide_eq_false hc11B)) (tp rfl (aL rfl rfl) ?_)
    exact aI (az (by exact ⟨rfl,rfl,rfl,rfl,rfl,rfl,rfl,rfl,rfl,trivial⟩) hKK)
   ·
    refine ag rfl (ag rfl (tp rfl (bC Er rfl rfl) (tp rfl (aJ rfl rfl (decide_eq_false hc11A)) (ag rfl ?_))))
    refine aq rfl rfl rfl ?_
    refine aq rfl rfl rfl ?_
    refine tp rfl (aC rfl rfl) ?_
    exact aI (az (by exact ⟨rfl,rfl,rfl,rfl,rfl,rfl,rfl,rfl,rfl,trivial⟩) hKK)
end Go.Proofs.YtanfdikglplkaaaGreatDoor
