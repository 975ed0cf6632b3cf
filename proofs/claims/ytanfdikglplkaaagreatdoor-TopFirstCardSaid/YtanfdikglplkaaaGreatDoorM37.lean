/- Parts Fo, Fp: own lemmas and contracts of the code that the claim reaches. -/
import Derived.Test.YtanfdikglplkaaaGreatDoorM03
import Derived.Test.YtanfdikglplkaaaGreatDoorM04
import Derived.Test.YtanfdikglplkaaaGreatDoorM36
set_option linter.unusedSimpArgs false
set_option linter.unusedVariables false
set_option maxRecDepth 100000
namespace Go.Proofs.YtanfdikglplkaaaGreatDoor
open Go Go.Proofs Sp
set_option maxHeartbeats 4000000 in
theorem xW{R:List HP}{e:Nat}{c:Cfg}{al:List (Int×Int)}{i:Nat}{T:YG}(hG:GR c al i T){n:Nat}(hn:n=T.x.n):
 Ok Tryz.prog 10 [(vP e 0),(vN n)] ((cO e T)::R)
  (dZ 3 1 T.x.n (aF .i64 (mR T)) (cO e T::R)):=by
 refine aP (N:=119) Tryz.func10 rfl rfl rfl (fun W=>?_)
 refine aY (fun _ h=>Bv h) (fun hg0=>?_)
 have hg:GOk n T.es:=by rw [hn];exact hg0
 have hsm:=hg.small
 have hla:=hG.ov.ao.la
 have ha4:=hG.a4
 have hral:=ru T.y.s T.y.as.a
 refine av (fun _ hK1=>aA rfl (td hK1 (av (fun _ hK2=>ag rfl ?_))))
 refine tm rfl (eP (i:=Tryz.t3) CI C1 rfl rfl rfl rfl rfl (by omega) (by rw [show Tryz.t3.bytes=8 from rfl];omega) (by omega)) ?_
 rintro _ _ ⟨bs1,cp2,hok3,hle4,rfl,rfl⟩
 rw [iX]
 refine aA rfl (td hK2 (ai (fun _ hK3=>av (fun _ hK4=>aA rfl (td hK4 (aH ?_))))))
 refine cE (γ:=(Nat)) (fun (k:Nat)=>k≤n) (fun (k:Nat)=>[(0,(vP e 0)),(1,(vN n)),(4,(.slice none 0 0)),(5,(.slice bs1 n cp2)),(6,(vN k))]) (fun (k:Nat)=>(SlV 3 1 (.slice bs1 n cp2) n (aF .i64 (q5 n k)))::(cO e T)::R) (fun (k:Nat)=>n-k) (0) (Nat.zero_le _) ⟨rfl,rfl,rfl,rfl,rfl,trivial⟩ (fun _ h=>h) ?_
 rintro k K5 hF hK5
 try dsimp only at hF hK5⊢
 obtain hk:=hF
 have hil:=nI (n:=n) (k:=k) (by omega)
 refine ai (fun _ hK6=>av (fun _ hK7=>ag rfl (ag rfl ?_)))
 by_cases h5:(k:Int)< (n:Int)
 ·refine tp rfl (aJ rfl rfl (decide_eq_true h5)) (td hK7 (aG rfl (dp hK6 (ai (fun _ hK8=>aH (aj (ag rfl ?_)))))))
  refine ag rfl (tp rfl (ah (k':=k) CI CG rfl rfl hok3 (by omega) (by omega) (by omega)) ?_)
  refine ts (gN CG rfl rfl rfl (by first| (rw [ints_length];omega)| (simp;omega)|omega) eD) ?_
  refine aI (aZ (qn hK8 (aj (ag rfl (tp rfl (aX (c:=((k+1:Nat):Int)) rfl rfl (aB (by omega))) ?_)))))
  refine aA rfl (aI (aN ?_))
  rw [vC (by omega)]
  exact az (by exact ⟨rfl,rfl,rfl,rfl,rfl,trivial⟩) ((hK5 (k+1) (by omega) (by omega)))
 ·refine tp rfl (aJ rfl rfl (decide_eq_false h5)) (td hK7 (ar rfl (bT (au (au (bS (qn hK3 (ai (fun _ hK8=>?_)))))))))
  refine aj ?_
  rw [show q5 n k=List.replicate n (-1) from by rw [show k=n by omega];exact xJ n]
  refine ag rfl (aE ?_)
  refine bN Tryz.call20 rfl (wi (T:=T) hG) ?_
  rintro _ _ ⟨bs6,cp7,hok8,hle9,rfl,rfl⟩
  refine aA rfl (td hK8 (ai (fun _ hK9=>av (fun _ hK10=>aA rfl (td hK10 (aH ?_))))))
  refine cE (γ:=(Nat)×(List Int)) (fun (k2,o)=>k2≤T.y.as.a.length∧PrS n T.es (e6 T.y.s T.y.as.a) k2 o) (fun (k2,o)=>[(0,(vP e 0)),(1,(vN n)),(4,(.slice none 0 0)),(5,(.slice bs1 n cp2)),(6,(vN k)),(7,(.slice bs6 T.y.as.a.length cp7)),(8,(vN k2)),(20,(.bool false))]) (fun (k2,o)=>(SlV 3 1 (.slice bs6 T.y.as.a.length cp7) T.y.as.a.length (aF .i64 T.y.as.a))::(cO e T)::(SlV 3 1 (.slice bs1 n cp2) n (aF .i64 o))::R) (fun (k2,o)=>T.y.as.a.length-k2) (0,List.replicate n (-1)) ⟨Nat.zero_le _,.start _ _ _⟩ ⟨rfl,rfl,rfl,rfl,rfl,rfl,rfl,rfl,trivial⟩ (fun _ h=>h) ?_
  rintro ⟨k2,o⟩ K11 hF hK11
  try dsimp only at hF hK11⊢
  obtain ⟨hk2,hpr⟩:=hF
  have hol:=hpr.len
  refine ai (fun _ hK12=>av (fun _ hK13=>ag rfl (ag rfl (tp rfl (bC CI rfl rfl) ?_))))
  by_cases h10:(k2:Int)< (T.y.as.a.length:Int)
  ·refine tp rfl (aJ rfl rfl (decide_eq_true h10)) (td hK13 (aG rfl (dp hK12 (ai (fun _ hK14=>aH (av (fun _ hK15=>?_)))))))
   obtain ⟨r,hrd⟩:∃r:Nat,T.y.as.a.getD k2 0=(r:Int):=⟨(T.y.as.a.getD k2 0).toNat,by have:=hG.ov.ids _ (List.mem_append_left _ (dP (show k2<T.y.as.a.length by omega)));omega⟩
   have hr0:=hG.ov.ids _ (List.mem_append_left _ (dP (show k2<T.y.as.a.length by omega)))
   rw [hrd] at hr0
   have hq:=hG.ov.rq r (by rw [hG.ov.lm];omega)
   have hrk:(e6 T.y.s T.y.as.a).getD k2 R3.d=⟨(T.y.s.rq.getD r Rq.z).root,(T.y.s.rq.getD r Rq.z).wt,(T.y.s.rq.getD r Rq.z).pr⟩:=by unfold e6;simp only [List.getD,List.getElem?_map];rw [List.getElem?_eq_getElem (by omega)];have h9:T.y.as.a[k2]=(r:Int):=(by rw [←hrd];simp [List.getD,show k2<T.y.as.a.length by omega]);show wL T.y.s T.y.as.a[k2]=_;rw [h9];rfl
   refine ag rfl (ag rfl (ag rfl (tp rfl (ah (k':=k2) CI CG rfl rfl hok8 (by omega) (by omega) (by omega)) ?_)))
   refine bK CH rfl (dh (v:=.int .i64 (r:Int)) (congrArg (Value.int .i64) hrd) (aw (.head _) (aQ (by omega)))) ?_
   refine aE ?_
   refine bN Tryz.call16 rfl (vA (T:=T) r (by omega)) ?_
   rintro _ _ ⟨rfl,rfl⟩
   refine ag rfl (tp rfl (aW rfl rfl) (tp rfl (aW rfl rfl) (tp rfl (aW rfl rfl) ?_)))
   refine tm rfl (cD DV rfl) ?_
   rintro _ _ ⟨b11,rfl,rfl⟩
   refine ts (bn (news:=[(vI ((T.y.s.rq.getD r Rq.z).root)),(vI ((T.y.s.rq.getD r Rq.z).wt)),(vI ((T.y.s.rq.getD r Rq.z).pr))]) Dj rfl rfl rfl rfl (nB rfl) rfl) ?_
   refine aA rfl (aA rfl (td hK15 (av (fun K16 hK16=>?_))))
   obtain ⟨d,hd⟩:∃d:Nat,(T.y.s.rq.getD r Rq.z).root=(d:Int):=⟨((T.y.s.rq.getD r Rq.z).root).toNat,by omega⟩
   rw [hd] at hq hrk⊢
   have hdn:d<n:=by omega
   have hps:=hpr.step hdn (show k2< ((e6 T.y.s T.y.as.a)).length by omega) (show ((e6 T.y.s T.y.as.a).getD k2 R3.d).x=(d:Int) by rw [hrk])
   rw [hrk] at hps;dsimp only at hps
   refine ag rfl (ag rfl ?_)
   refine ae rfl rfl ?_
   refine bU 0 Da rfl CG rfl rfl ?_
   refine ae rfl rfl ?_
   refine bK CH rfl (aa (.head _) rfl) ?_
   refine ae rfl rfl ?_
   refine tp rfl (cC rfl rfl (decide_eq_true (by omega))) ?_
   refine tp rfl (aL rfl rfl) (ag rfl ?_)
   refine ae rfl rfl ?_
   refine bU 0 Da rfl CG rfl rfl ?_
   refine ae rfl rfl ?_
   refine bK CH rfl (aa (.head _) rfl) ?_
   refine ae rfl rfl ?_
   refine ag rfl ?_
   refine ae rfl rfl ?_
   refine tp rfl (aJ rfl rfl (decide_eq_true (by omega))) ?_
   refine tp rfl (aL rfl rfl) (td hK16 (aG rfl ?_))
   refine bz (γ:=Unit) (n:=13) Tryz.mixed rfl rfl (fun _ S=>True) (fun _=>[(0,56,(.slice bs1 n cp2)),(1,57,(vP b11 0)),(2,58,(vN d)),(3,59,(.slice bs1 n cp2)),(4,60,(vP b11 0)),(5,61,(vN d)),(6,62,(.pointer (some (ad bs1 d)))),(7,63,(vI ((o).getD d 0))),(8,64,(vP b11 2)),(9,65,(vI ((T.y.s.rq.getD r Rq.z).pr))),(10,66,(vI (max ((o).getD d 0) ((T.y.s.rq.getD r Rq.z).pr)))),(11,67,(.pointer (some (ad bs1 d))))]) (fun _ S=>(bI b11 [(vN d),(vI ((T.y.s.rq.getD r Rq.z).wt)),(vI ((T.y.s.rq.getD r Rq.z).pr))] 51)::(cO e T)::(SlV 3 1 (.slice bs6 T.y.as.a.length cp7) T.y.as.a.length (aF .i64 T.y.as.a))::(bif S 12 then (SlV 3 1 (.slice bs1 n cp2) n (aF .i64 ((o).set d (max ((o).getD d 0) ((T.y.s.rq.getD r Rq.z).pr))))) else (SlV 3 1 (.slice bs1 n cp2) n (aF .i64 o)))::R) (()) trivial (fun _ h=>h) (fun _ _ h=>h) ?_ ?_
   ·refine ⟨aU,bL Da rfl CG,db CH fun _ _=>aa (.head _) rfl,aU,bL Da rfl CG,db CH fun _ _=>aa (.head _) rfl,eJ CI CG rr rr rr fun _=>⟨hok3,by omega,by omega,by omega⟩,?_,bL Da rfl CG,db CH fun _ _=>aa (.head _) rfl,?_,eJ CI CG rr rr rr fun _=>⟨hok3,by omega,by omega,by omega⟩,?_,trivial⟩
    ·rintro _ S hF hS D hp K hK;try dsimp only
     exact bH (bE hp 6 rfl rfl) (bP CH rfl (aw (cF (nf hS D (k:=12) (i:=7) rfl) (.tail _ (.tail _ (.tail _ (.head _))))) (aQ (by first|omega| (simp;omega))))) 7 rfl rfl hS (hK () hF)
    ·rintro _ S hF hS D hp K hK;try dsimp only
     exact bV (bE hp 7 rfl rfl) (bE hp 9 rfl rfl) (fm (c:=max ((o).getD d 0) ((T.y.s.rq.getD r Rq.z).pr)) rfl rfl rfl) 10 rfl rfl hS (hK () hF)
    ·rintro _ S hF hS D hp K hK
     try dsimp only at hF⊢
     refine bZ hp [66,67] rfl rfl ?_
     refine aS ?_
     refine c9 hS ?_
     refine ts (gN CG rfl rfl rfl (by first| (rw [ints_length];omega)| (simp;omega)|omega) eD) ?_
     refine aS (aS (aS ?_))
     exact gE hp (ti (hK () trivial)) rfl rfl rfl
   ·rintro _ hF
    try dsimp only at hF⊢
    refine az (E':=[(0,(vP e 0)),(1,(vN n)),(4,(.slice none 0 0)),(5,(.slice bs1 n cp2)),(6,(vN k)),(7,(.slice bs6 T.y.as.a.length cp7)),(8,(vN k2)),(9,(vP b11 0)),(11,(.bool true)),(20,(.bool false)),(31,(.bool true)),(55,(.bool true))]) ⟨rfl,rfl,rfl,rfl,rfl,rfl,rfl,rfl,rfl,rfl,rfl,rfl,trivial⟩ ?_
    refine aZ (qn hK14 (aj (ag rfl (tp rfl (aX (c:=((k2+1:Nat):Int)) rfl rfl (aB (by omega))) ?_))))
    refine aA rfl (aI (aN (ak (aE ?_))))
    exact az (by exact ⟨rfl,rfl,rfl,rfl,rfl,rfl,rfl,rfl,trivial⟩) ((hK11 (k2+1,(o).set d (max ((o).getD d 0) ((T.y.s.rq.getD r Rq.z).pr))) ⟨by omega,hps⟩ (by dsimp only;omega)))
  ·refine tp rfl (aJ rfl rfl (decide_eq_false h10)) (td hK13 (ar rfl (bT (au (au (bS (qn hK9 (ai (fun _ hK14=>?_)))))))))
   refine av (fun _ hK15=>aA rfl (td hK15 (aH ?_)))
   refine cE (γ:=(Nat)×(List Int)) (fun (k3,o3)=>k3≤n∧PrI n T.es (e6 T.y.s T.y.as.a) k3 o3) (fun (k3,o3)=>[(0,(vP e 0)),(1,(vN n)),(4,(.slice none 0 0)),(5,(.slice bs1 n cp2)),(6,(vN k)),(7,(.slice bs6 T.y.as.a.length cp7)),(8,(vN k2)),(12,(vN k3)),(20,(.bool false)),(31,(.bool false))]) (fun (k3,o3)=>(SlV 3 1 (.slice bs6 T.y.as.a.length cp7) T.y.as.a.length (aF .i64 T.y.as.a))::(cO e T)::(SlV 3 1 (.slice bs1 n cp2) n (aF .i64 o3))::R) (fun (k3,o3)=>n-k3) (0,o) ⟨Nat.zero_le _,PrS.stop (by rw [hral];rw [show k2=T.y.as.a.length by omega] at hpr;exact hpr)⟩ ⟨rfl,rfl,rfl,rfl,rfl,rfl,rfl,rfl,rfl,rfl,trivial⟩ (fun _ h=>h) ?_
   rintro ⟨k3,o3⟩ K16 hF hK16
   try dsimp only at hF hK16⊢
   obtain ⟨hk3,hp3⟩:=hF
   have hol3:=hp3.len
   refine ai (fun _ hK17=>av (fun _ hK18=>ag rfl (ag rfl ?_)))
   by_cases h12:(k3:Int)< (n:Int)
   ·refine tp rfl (aJ rfl rfl (decide_eq_true h12)) (td hK18 (aG rfl (dp hK17 (ai (fun _ hK19=>aH (av (fun _ hK20=>?_)))))))
    refine aA rfl (td hK20 (aH ?_))
    refine cE (γ:=(Nat)×(List Int)) (fun (t,o4)=>t≤n∧PrM n T.es (e6 T.y.s T.y.as.a) k3 t 0 o4) (fun (t,o4)=>[(0,(vP e 0)),(1,(vN n)),(4,(.slice none 0 0)),(5,(.slice bs1 n cp2)),(6,(vN k)),(7,(.slice bs6 T.y.as.a.length cp7)),(8,(vN k2)),(12,(vN k3)),(13,(vN t)),(20,(.bool false)),(31,(.bool false)),(70,(.bool true))]) (fun (t,o4)=>(SlV 3 1 (.slice bs6 T.y.as.a.length cp7) T.y.as.a.length (aF .i64 T.y.as.a))::(cO e T)::(SlV 3 1 (.slice bs1 n cp2) n (aF .i64 o4))::R) (fun (t,o4)=>n-t) (0,o3) ⟨Nat.zero_le _,hp3.begin⟩ ⟨rfl,rfl,rfl,rfl,rfl,rfl,rfl,rfl,rfl,rfl,rfl,rfl,trivial⟩ (fun _ h=>h) ?_
    rintro ⟨t,o4⟩ K21 hF hK21
    try dsimp only at hF hK21⊢
    obtain ⟨ht,hp4⟩:=hF
    have hol4:=hp4.io.len
    refine ai (fun _ hK22=>av (fun _ hK23=>ag rfl (ag rfl ?_)))
    by_cases h13:(t:Int)< (n:Int)
    ·refine tp rfl (aJ rfl rfl (decide_eq_true h13)) (td hK23 (aG rfl (dp hK22 (ai (fun _ hK24=>aH (av (fun _ hK25=>?_)))))))
     refine ag rfl (ag rfl (aE ?_))
     refine bN Tryz.call21 rfl (z8 (T:=T) (t:Int)) ?_
     rintro _ _ ⟨bs14,cp15,hok16,hle17,rfl,rfl⟩
     refine aA rfl (td hK25 (av (fun _ hK26=>aA rfl (td hK26 (aH ?_)))))
     refine cE (γ:=(Nat)×(List Int)) (fun (j,o5)=>j≤(cP T.es (t:Int)).length∧PrM n T.es (e6 T.y.s T.y.as.a) k3 t j o5) (fun (j,o5)=>[(0,(vP e 0)),(1,(vN n)),(4,(.slice none 0 0)),(5,(.slice bs1 n cp2)),(6,(vN k)),(7,(.slice bs6 T.y.as.a.length cp7)),(8,(vN k2)),(12,(vN k3)),(13,(vN t)),(14,(.slice bs14 ((cP T.es (t:Int)).length) cp15)),(15,(vN j)),(20,(.bool false)),(31,(.bool false)),(70,(.bool true)),(75,(.bool true))]) (fun (j,o5)=>(SlV 3 1 (.slice bs14 ((cP T.es (t:Int)).length) cp15) ((cP T.es (t:Int)).length) (aF .i64 (cP T.es (t:Int))))::(cO e T)::(SlV 3 1 (.slice bs6 T.y.as.a.length cp7) T.y.as.a.length (aF .i64 T.y.as.a))::(SlV 3 1 (.slice bs1 n cp2) n (aF .i64 o5))::R) (fun (j,o5)=>(cP T.es (t:Int)).length-j) (0,o4) ⟨Nat.zero_le _,hp4⟩ ⟨rfl,rfl,rfl,rfl,rfl,rfl,rfl,rfl,rfl,rfl,rfl,rfl,rfl,rfl,rfl,trivial⟩ (fun _ h=>h) ?_
     rintro ⟨j,o5⟩ K27 hF hK27
     try dsimp only at hF hK27⊢
     obtain ⟨hj,hp5⟩:=hF
     have hol5:=hp5.io.len
     have hul:=hg.outs_le (t:Int)
     refine ai (fun _ hK28=>av (fun _ hK29=>ag rfl (ag rfl (tp rfl (bC CI rfl rfl) ?_))))
     by_cases h18:(j:Int)< (((cP T.es (t:Int)).length:Nat):Int)
     ·refine tp rfl (aJ rfl rfl (decide_eq_true h18)) (td hK29 (aG rfl (dp hK28 (ai (fun _ hK30=>aH (av (fun _ hK31=>?_)))))))
      obtain ⟨d,hd⟩:∃d:Nat,(cP T.es (t:Int)).getD j 0=(d:Int):=⟨((cP T.es (t:Int)).getD j 0).toNat,by have:=uh hg (show j< (cP T.es (t:Int)).length by omega);omega⟩
      have hdb:=uh hg (show j< (cP T.es (t:Int)).length by omega)
      rw [hd] at hdb
      have hdn:d<n:=by omega
      have hp6:=hp5.step hg (show t<n by omega) hdn hd (by omega)
      refine ag rfl (ag rfl (tp rfl (ah (k':=j) CI CG rfl rfl hok16 (by omega) (by omega) (by omega)) ?_))
      refine bK CH rfl (dh (v:=.int .i64 (d:Int)) (congrArg (Value.int .i64) hd) (aw (.head _) (aQ (by omega)))) ?_
      refine tp rfl (cC rfl rfl (decide_eq_true (by omega))) ?_
      refine ag rfl ?_
      refine ae rfl rfl ?_
      refine ag rfl ?_
      refine ae rfl rfl ?_
      refine ag rfl ?_
      refine ae rfl rfl ?_
      refine tp rfl (ah (k':=j) CI CG rfl rfl hok16 (by omega) (by omega) (by omega)) ?_
      refine ae rfl rfl ?_
      refine bK CH rfl (dh (v:=.int .i64 (d:Int)) (congrArg (Value.int .i64) hd) (aw (.head _) (aQ (by omega)))) ?_
      refine ae rfl rfl ?_
      refine ag rfl ?_
      refine ae rfl rfl ?_
      refine tp rfl (aJ rfl rfl (decide_eq_true (by omega))) ?_
      refine tp rfl (aL rfl rfl) (td hK31 (aG rfl ?_))
      refine bz (γ:=Unit) (n:=19) Tryz.mixed rfl rfl (fun _ S=>True) (fun _=>[(0,100,(.slice bs1 n cp2)),(1,101,(.slice bs14 ((cP T.es (t:Int)).length) cp15)),(2,102,(vN j)),(3,103,(.pointer (some (ad bs14 j)))),(4,104,(vN d)),(5,105,(.slice bs1 n cp2)),(6,106,(.slice bs14 ((cP T.es (t:Int)).length) cp15)),(7,107,(vN j)),(8,108,(.pointer (some (ad bs14 j)))),(9,109,(vN d)),(10,110,(.pointer (some (ad bs1 d)))),(11,111,(vI ((o5).getD d 0))),(12,112,(.slice bs1 n cp2)),(13,113,(vN t)),(14,114,(.pointer (some (ad bs1 t)))),(15,115,(vI ((o5).getD t 0))),(16,116,(vI (max ((o5).getD d 0) ((o5).getD t 0)))),(17,117,(.pointer (some (ad bs1 d))))]) (fun _ S=>(SlV 3 1 (.slice bs14 ((cP T.es (t:Int)).length) cp15) ((cP T.es (t:Int)).length) (aF .i64 (cP T.es (t:Int))))::(cO e T)::(SlV 3 1 (.slice bs6 T.y.as.a.length cp7) T.y.as.a.length (aF .i64 T.y.as.a))::(bif S 18 then (SlV 3 1 (.slice bs1 n cp2) n (aF .i64 ((o5).set d (max ((o5).getD d 0) ((o5).getD t 0))))) else (SlV 3 1 (.slice bs1 n cp2) n (aF .i64 o5)))::R) (()) trivial (fun _ h=>h) (fun _ _ h=>h) ?_ ?_
      ·refine ⟨aU,aU,aU,eJ CI CG rr rr rr fun _=>⟨hok16,by omega,by omega,by omega⟩,dB CH rr rr fun _ _=>dh (v:=.int .i64 (d:Int)) (congrArg (Value.int .i64) hd) (aw (.head _) (aQ (by omega))),aU,aU,aU,eJ CI CG rr rr rr fun _=>⟨hok16,by omega,by omega,by omega⟩,dB CH rr rr fun _ _=>dh (v:=.int .i64 (d:Int)) (congrArg (Value.int .i64) hd) (aw (.head _) (aQ (by omega))),eJ CI CG rr rr rr fun _=>⟨hok3,by omega,by omega,by omega⟩,?_,aU,aU,eJ CI CG rr rr rr fun _=>⟨hok3,by omega,by omega,by omega⟩,?_,?_,eJ CI CG rr rr rr fun _=>⟨hok3,by omega,by omega,by omega⟩,?_,trivial⟩
       ·rintro _ S hF hS D hp K hK;try dsimp only
        exact bH (bE hp 10 rfl rfl) (bP CH rfl (aw (cF (nf hS D (k:=18) (i:=11) rfl) (.tail _ (.tail _ (.tail _ (.head _))))) (aQ (by first|omega| (simp;omega))))) 11 rfl rfl hS (hK () hF)
       ·rintro _ S hF hS D hp K hK;try dsimp only
        exact bH (bE hp 14 rfl rfl) (bP CH rfl (aw (cF (nf hS D (k:=18) (i:=15) rfl) (.tail _ (.tail _ (.tail _ (.head _))))) (aQ (by first|omega| (simp;omega))))) 15 rfl rfl hS (hK () hF)
       ·intro _ S h s D p K k;exact bV (bE p 11 rfl rfl) (bE p 15 rfl rfl) (fm (c:=max ((o5).getD d 0) ((o5).getD t 0)) rfl rfl rfl) 16 rfl rfl s (k () h)
       ·rintro _ S hF hS D hp K hK
        try dsimp only at hF⊢
        refine bZ hp [116,117] rfl rfl ?_
        refine aS ?_
        refine c9 hS ?_
        refine ts (gN CG rfl rfl rfl (by first| (rw [ints_length];omega)| (simp;omega)|omega) eD) ?_
        refine aS (aS (aS ?_))
        exact gE hp (ti (hK () trivial)) rfl rfl rfl
      ·rintro _ hF
       try dsimp only at hF⊢
       refine az (E':=[(0,(vP e 0)),(1,(vN n)),(4,(.slice none 0 0)),(5,(.slice bs1 n cp2)),(6,(vN k)),(7,(.slice bs6 T.y.as.a.length cp7)),(8,(vN k2)),(12,(vN k3)),(13,(vN t)),(14,(.slice bs14 ((cP T.es (t:Int)).length) cp15)),(15,(vN j)),(20,(.bool false)),(31,(.bool false)),(70,(.bool true)),(75,(.bool true)),(84,(.bool true)),(99,(.bool true))]) ⟨rfl,rfl,rfl,rfl,rfl,rfl,rfl,rfl,rfl,rfl,rfl,rfl,rfl,rfl,rfl,rfl,rfl,trivial⟩ ?_
       refine aZ (qn hK30 (aj (ag rfl (tp rfl (aX (c:=((j+1:Nat):Int)) rfl rfl (aB (by omega))) ?_))))
       refine aA rfl (aI (aN ?_))
       exact az (by exact ⟨rfl,rfl,rfl,rfl,rfl,rfl,rfl,rfl,rfl,rfl,rfl,rfl,rfl,rfl,rfl,trivial⟩) ((hK27 (j+1,(o5).set d (max ((o5).getD d 0) ((o5).getD t 0))) ⟨by omega,hp6⟩ (by dsimp only;omega)))
     ·refine tp rfl (aJ rfl rfl (decide_eq_false h18)) (td hK29 (ar rfl (bT (au (au (bS (aZ (qn hK24 ?_))))))))
      refine aj (ag rfl (tp rfl (aX (c:=((t+1:Nat):Int)) rfl rfl (aB (by omega))) ?_))
      refine aA rfl (aI (aN (ak (aE ?_))))
      exact az (by exact ⟨rfl,rfl,rfl,rfl,rfl,rfl,rfl,rfl,rfl,rfl,rfl,rfl,trivial⟩) ((hK21 (t+1,o5) ⟨by omega,hp5.next hg (by omega)⟩ (by dsimp only;omega)))
    ·refine tp rfl (aJ rfl rfl (decide_eq_false h13)) (td hK23 (ar rfl (bT (au (au (bS (aZ (qn hK19 ?_))))))))
     refine aj (ag rfl (tp rfl (aX (c:=((k3+1:Nat):Int)) rfl rfl (aB (by omega))) ?_))
     refine aA rfl (aI (aN ?_))
     exact az (by exact ⟨rfl,rfl,rfl,rfl,rfl,rfl,rfl,rfl,rfl,rfl,trivial⟩) ((hK16 (k3+1,o4) ⟨by omega,PrM.stop (by rw [show t=n by omega] at hp4;exact hp4) hg⟩ (by dsimp only;omega)))
   ·refine tp rfl (aJ rfl rfl (decide_eq_false h12)) (td hK18 (ar rfl (bT (au (au (bS (qn hK14 (ai (fun _ hK19=>?_)))))))))
    refine aj (ag rfl (aA rfl (td hK19 (ay (ak (aE ?_))))))
    refine aM rfl rfl ?_
    rw [show k3=n by omega] at hp3
    have hall:=hp3.all hg
    subst hall
    unfold mR
    rw [←hn]
    exact ⟨_,_,hok3,hle4,rfl,rfl⟩
end Go.Proofs.YtanfdikglplkaaaGreatDoor
set_option maxRecDepth 100000
namespace Go.Proofs.YtanfdikglplkaaaGreatDoor
open Go Go.Proofs Sp
set_option maxHeartbeats 4000000 in
theorem yw{R:List HP}{vr:Nat}(hT:Tab R)(hV:VTab vr R):
 Ok Tryz.prog 5 [] R
  (fun v M=>v=.bool true∧M=R):=by
 refine aP (N:=63) Tryz.func5 rfl rfl rfl (fun W=>?_)
 refine av (fun _ hK1=>aA rfl (td hK1 (av (fun _ hK2=>tp rfl (bG (cs:=[(vI 0),(vI 0),(vI 0),(vI 0),(vI 0),(vI 0),(vI 0),(vI 0),(vI 0),(vI 0)]) (pl:=[(0,1),(1,1),(2,1),(3,1),(4,1),(5,1),(6,1),(7,1),(8,1),(9,1)]) CW Ey (fun _=>by simp) rfl rfl) ?_))))
 refine bN Tryz.call8 rfl (rR (c:=rU) (wide:=true)) ?_
 rintro _ _ ⟨rfl,hMR⟩
 rw [hMR];clear hMR
 refine bN Tryz.call6 rfl (sc (n:=0) [] (by first|rfl|omega) Bw cn) ?_
 rintro _ _ ⟨bs1,cp2,n3,hnl4,hok5,hle6,rfl,rfl⟩
 refine bN Tryz.call7 rfl (uJ (c:=wb rU) (rY rU []) hnl4 (cj (.head _)) hok5) ?_
 rintro _ _ ⟨e7,yt8,hng9,rfl,rfl⟩
 refine aA rfl (td hK2 (ai (fun _ hK3=>av (fun _ hK4=>ag rfl (tp rfl (j3 Tryz.underlying28 rfl rfl) (td hK4 ?_))))))
 refine ar rfl (dp hK3 (av (fun _ hK5=>ag rfl (tp rfl (bG (cs:=[(vI 1),(vI 0),(vI 2),(vI 3),(vI 0)]) (pl:=[(0,1),(1,1),(2,1),(3,1),(4,1)]) CQ Ef (fun _=>by simp) rfl rfl) ?_))))
 refine bN Tryz.call13 rfl (BU (T:=yt8) (rY rU []) (NewG.gr (rY rU []) hng9) (Tab.cons hT) (VTab.cons hV) 0 (by decide)) ?_
 rintro _ _ ⟨yj10,hyq11,rfl,rfl⟩
 refine ag rfl (tp rfl (aW rfl rfl) (tp rfl (aW rfl rfl) ?_))
 refine tm rfl (cD CR rfl) ?_
 rintro _ _ ⟨b12,rfl,rfl⟩
 refine ts (bn (news:=[(vI yj10.a),(vI yj10.b),(vI yj10.c),(vI yj10.d),(vI yj10.e)]) CM rfl rfl rfl rfl (nB rfl) rfl) ?_
 refine aA rfl (td hK5 (av (fun _ hK6=>?_)))
 obtain ⟨hf1,hW1⟩:=Cb hng9 hyq11.1
 refine ag rfl (tp rfl (bG (cs:=[(vI 4),(vI 0),(vI 0),(vI 0),(vI 0)]) (pl:=[(0,1),(1,1),(2,1),(3,1),(4,1)]) CQ Ef (fun _=>by simp) rfl rfl) ?_)
 refine aE ?_
 refine bN Tryz.call13 rfl (zJ (T:=yj10.T) (rY rU []) hyq11.2 (by omega) (Tab.cons (Tab.cons hT)) (VTab.cons (VTab.cons hV))) ?_
 rintro _ _ ⟨yj13,hyq14,rfl,rfl⟩
 refine ag rfl (tp rfl (aW rfl rfl) (tp rfl (aW rfl rfl) ?_))
 refine tm rfl (cD CR rfl) ?_
 rintro _ _ ⟨b15,rfl,rfl⟩
 refine ts (bn (news:=[(vI yj13.a),(vI yj13.b),(vI yj13.c),(vI yj13.d),(vI yj13.e)]) CM rfl rfl rfl rfl (nB rfl) rfl) ?_
 refine aA rfl (td hK6 (av (fun _ hK7=>?_)))
 obtain ⟨hf2,hd2,hW2⟩:=Bn hW1 hyq14.1
 refine ag rfl (bU 3 CT rfl CG rfl rfl (bK CH rfl (aa (.head _) rfl) (bU 4 CT rfl CG rfl rfl (bK CH rfl (aa (.head _) rfl) (tp rfl (bG (cs:=[(vI 5),(vI yj13.d),(vI yj13.e),(vI 1),(vI 0)]) (pl:=[(0,1),(1,1),(2,1),(3,1),(4,1)]) CQ Ef (fun _=>by simp) rfl rfl) ?_)))))
 refine aE ?_
 refine bN Tryz.call13 rfl (BP (T:=yj13.T) (rY rU []) hyq14.2 (by omega) (Tab.cons (Tab.cons (Tab.cons hT))) (VTab.cons (VTab.cons (VTab.cons hV)))) ?_
 rintro _ _ ⟨yj16,hyq17,rfl,rfl⟩
 refine ag rfl (tp rfl (aW rfl rfl) (tp rfl (aW rfl rfl) ?_))
 refine tm rfl (cD CR rfl) ?_
 rintro _ _ ⟨b18,rfl,rfl⟩
 refine ts (bn (news:=[(vI yj16.a),(vI yj16.b),(vI yj16.c),(vI yj16.d),(vI yj16.e)]) CM rfl rfl rfl rfl (nB rfl) rfl) ?_
 refine aA rfl (td hK7 (av (fun _ hK8=>?_)))
 rw [hd2] at hyq17
 obtain ⟨hf3,hend,hxm⟩:=Ck hW2 hyq17
 refine ag rfl (tp rfl (bG (cs:=[(vI 6),(vI 0),(vI 0),(vI 0),(vI 0)]) (pl:=[(0,1),(1,1),(2,1),(3,1),(4,1)]) CQ Ef (fun _=>by simp) rfl rfl) ?_)
 refine aE ?_
 refine bN Tryz.call13 rfl (A6 (T:=yj16.T) (Tab.cons (Tab.cons (Tab.cons (Tab.cons hT)))) (VTab.cons (VTab.cons (VTab.cons (VTab.cons hV)))) 0 (by omega)) ?_
 rintro _ _ ⟨yj19,hyq20,rfl,rfl⟩
 refine ag rfl (tp rfl (aW rfl rfl) (tp rfl (aW rfl rfl) ?_))
 refine tm rfl (cD CR rfl) ?_
 rintro _ _ ⟨b21,rfl,rfl⟩
 refine ts (bn (news:=[(vI yj19.a),(vI yj19.b),(vI yj19.c),(vI yj19.d),(vI yj19.e)]) CM rfl rfl rfl rfl (nB rfl) rfl) ?_
 refine aA rfl (td hK8 (av (fun _ hK9=>?_)))
 obtain ⟨hT4,hf4,hb4⟩:=hyq20
 rw [hend] at hb4
 refine ag rfl (tp rfl (aV rfl rfl (beq_iff_eq.2 hf1)) (ag rfl ?_))
 refine ae rfl rfl ?_
 refine ag rfl ?_
 refine ae rfl rfl ?_
 refine tp rfl (aV rfl rfl (beq_iff_eq.2 hf2)) (tp rfl (aL rfl rfl) (ag rfl ?_))
 refine ae rfl rfl ?_
 refine ag rfl ?_
 refine ae rfl rfl ?_
 refine tp rfl (aV rfl rfl (beq_iff_eq.2 hf3)) (tp rfl (aL rfl rfl) (ag rfl ?_))
 refine ae rfl rfl ?_
 refine ag rfl ?_
 refine ae rfl rfl ?_
 refine tp rfl (aV rfl rfl (beq_iff_eq.2 hf4)) (tp rfl (aL rfl rfl) (ag rfl ?_))
 refine ae rfl rfl ?_
 refine bU 1 CT rfl CG rfl rfl ?_
 refine ae rfl rfl ?_
 refine bK CH rfl (aa (.head _) rfl) ?_
 refine ae rfl rfl ?_
 refine tp rfl (aV rfl rfl (beq_iff_eq.2 hb4)) (tp rfl (aL rfl rfl) (aA rfl (td hK9 (ay (ak (ak (ak (ak ?_))))))))
 refine ak (ak ?_)
 refine aM rfl rfl ?_
 exact ⟨rfl,rfl⟩
end Go.Proofs.YtanfdikglplkaaaGreatDoor
