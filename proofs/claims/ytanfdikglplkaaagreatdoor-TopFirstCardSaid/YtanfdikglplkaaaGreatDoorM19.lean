/- Parts Ta: own lemmas and contracts of the code that the claim reaches. -/
import Derived.Test.YtanfdikglplkaaaGreatDoorM03
import Derived.Test.YtanfdikglplkaaaGreatDoorM04
import Derived.Test.YtanfdikglplkaaaGreatDoorM15
import Derived.Test.YtanfdikglplkaaaGreatDoorM07
import Derived.Test.YtanfdikglplkaaaGreatDoorM05
set_option linter.unusedSimpArgs false
set_option linter.unusedVariables false
set_option maxRecDepth 100000
namespace Go.Proofs.YtanfdikglplkaaaGreatDoor
open Go Go.Proofs Sp
set_option maxHeartbeats 4000000 in
theorem px{R:List HP}{p:Nat→Bool}{f n:Nat}{caps:List Value}{bx:Option Addr}{cx:Nat}(ps:List Nat)(hlp:ps.length=n)(hf:(∀args w,(callFunc f args).run Tryz.prog w=.ok (.enter f args) w)∧∀k,k<n→Ok Tryz.prog f ([.pointer (some ⟨ps.getD k 0,0,none⟩)]++caps) R (fun v M=>v=.bool (p k)∧M=R))(hx:Rd R bx (bJ dJ ps))(okx:bB bx n)(lx:n≤4611686018427387904):
 Ok Tryz.prog 152 [(.slice bx n cx),(.func (.func f) #[] caps.toArray)] R
  (fun v M=>v=.int .i64 (gi p n)∧M=R):=by
 obtain ⟨hcall,hf⟩:=hf
 refine aP (N:=19) Tryz.func152 rfl rfl rfl (fun W=>?_)
 refine av (fun _ hK1=>aA rfl (td hK1 (ai (fun _ hK2=>av (fun _ hK3=>ag rfl (tp rfl (bC CX rfl rfl) ?_))))))
 refine ag rfl (td hK3 (aH ?_))
 refine cE (γ:=(Nat)) (fun (k:Nat)=>k≤n∧(∀j,j<k→p j=false)) (fun (k:Nat)=>[(0,(.slice bx n cx)),(1,(.func (.func f) #[] caps.toArray)),(7,(vN n)),(8,(vN k))]) (fun (k:Nat)=>R) (fun (k:Nat)=>n-k) (0) ⟨by omega,fun j hj=>by omega⟩ ⟨rfl,rfl,rfl,rfl,trivial⟩ (fun _ h=>h) ?_
 rintro k K4 hF hK4
 try dsimp only at hF hK4⊢
 obtain ⟨hk,hall⟩:=hF
 refine av (fun K5 hK5=>?_)
 by_cases h1:(k:Int)< (n:Int)
 ·refine tp rfl (aJ rfl rfl (decide_eq_true h1)) (td hK5 (ai (fun _ hK6=>aG rfl (dp hK6 (ai (fun _ hK7=>aH (ai (fun K8 hK8=>?_))))))))
  refine aj (ag rfl (aA rfl (td hK8 (av (fun _ hK9=>ag rfl (ag rfl (ag rfl ?_)))))))
  refine tp rfl (ah (k':=k) CX Dq rfl rfl okx (by omega) (by omega) (by omega)) ?_
  refine bK DE rfl (Rd.gives hx (eV (by first|omega| (simp;omega)))) ?_
  refine tc rfl (lJ hcall rfl rfl) (hf k (by omega)) ?_
  rintro _ _ ⟨rfl,hMR⟩
  rw [hMR];clear hMR
  refine td hK9 ?_
  refine cW rfl (fun c2=>?_) (fun c2=>?_)
  ·skip
   refine av (fun _ hK10=>ag rfl (aA rfl (td hK10 (ay ?_))))
   refine cH ?_
   refine aK ?_
   refine aK ?_
   refine cH ?_
   refine aK ?_
   refine aM rfl rfl ?_
   exact ⟨by rw [kP (k:=k) (by omega) ‹_› hall],rfl⟩
  ·skip
   refine cS (aZ (qn hK7 (aj (tp rfl (aX (c:=((k+1:Nat):Int)) rfl rfl (aB (by omega))) ?_))))
   refine ag rfl (aI (aN ?_))
   exact az (by exact ⟨rfl,rfl,rfl,rfl,trivial⟩) ((hK4 (k+1) ⟨by omega,jx hall ‹_›⟩ (by omega)))
 ·refine tp rfl (aJ rfl rfl (decide_eq_false h1)) (td hK5 (ai (fun _ hK6=>ar rfl (bT (au (au (bS (qn hK2 ?_))))))))
  refine av (fun _ hK7=>aA rfl (td hK7 (ay ?_)))
  refine aM rfl rfl ?_
  exact ⟨by rw [iL (fun j hj=>hall j (by omega))],rfl⟩
set_option maxHeartbeats 4000000 in
theorem tK{R:List HP}{bx:Option Addr}{cx:Nat}(xs:List Nat)(i:Nat)(hi:i<xs.length):
 Ok Tryz.prog 124 [(.slice bx xs.length cx),(vN i),(vI ((i+1:Nat):Int))] ((SlV 159 1 (.slice bx xs.length cx) xs.length (bJ dJ xs))::R)
  (fun v M=>v=.slice bx (xs.eraseIdx i).length cx∧M=SlV 159 1 (.slice bx (xs.eraseIdx i).length cx) (xs.eraseIdx i).length (bJ dJ (xs.eraseIdx i))::R):=by
 refine aP (N:=33) Tryz.func124 rfl rfl rfl (fun W=>?_)
 refine aY (fun _ h=>fY h) (fun hbx=>?_)
 obtain ⟨okx,hcx,hmx⟩:=hbx
 unfold maxLen at hmx
 refine av (fun _ hK1=>aA rfl (td hK1 (av (fun _ hK2=>ag rfl (ag rfl (ag rfl ?_))))))
 refine ag rfl (tp rfl (bC CX rfl rfl) (tp rfl (ed (l:=i) (h:=i+1) (m:=xs.length) (v:=(.slice (eu bx i xs.length 1) ((i+1)-i) (xs.length-i))) CX Dq rfl rfl rfl rfl (.inl ⟨_,_,rfl,(by omega),(by omega),(by omega)⟩) (.inl ⟨_,_,rfl,(by omega),(by omega),(by omega)⟩) (.inl ⟨_,_,rfl,(by omega),(by omega),(by omega)⟩) (by simp) rfl) ?_))
 refine td hK2 (ai (fun _ hK3=>av (fun K4 hK4=>ag rfl (ag rfl (tp rfl (aV rfl rfl (beq_eq_false_iff_ne.2 (by omega))) ?_)))))
 refine td hK4 (ar rfl (dp hK3 (av (fun K5 hK5=>ag rfl (tp rfl (bC CX rfl rfl) (aA rfl ?_))))))
 refine td hK5 (ai (fun _ hK6=>?_))
 refine bz (γ:=Unit) (n:=8) Tryz.mixed rfl rfl (fun _ S=>True) (fun _=>[(0,20,(.slice bx xs.length cx)),(1,21,(vN i)),(2,22,(.slice bx i cx)),(3,23,(.slice bx xs.length cx)),(4,24,(vI ((i+1:Nat):Int))),(5,25,(.slice (eu bx (i+1) cx 1) (xs.length- (i+1)) (cx- (i+1)))),(6,26,(.slice bx (i+(xs.length- (i+1))) cx)),(7,0,(.slice bx (i+(xs.length- (i+1))) cx))]) (fun _ S=>(bif S 6 then (SlV 159 1 (.slice bx xs.length cx) xs.length (bJ dJ (xs.take i++(xs.drop (i+1))++xs.drop (i+(xs.length- (i+1)))))) else (SlV 159 1 (.slice bx xs.length cx) xs.length (bJ dJ xs)))::R) (()) trivial (fun _ h=>h) (fun _ _ h=>h) ?_ ?_
 ·refine ⟨?_,aU,?_,?_,aU,?_,?_,fh,trivial⟩
  ·intro _ S h s D p K k;exact bH (fu (t:=0) 7 (nf s D (k:=7) (i:=0) rfl) rfl rfl) (eX rfl) 0 rfl rfl s (k () h)
  ·rintro _ S hF hS D hp K hK;try dsimp only
   exact bV (bE hp 0 rfl rfl) (bE hp 1 rfl rfl) (ed (l:=0) (h:=i) (m:=cx) (v:=(.slice bx i cx)) CX Dq rfl rfl rfl rfl (.inr ⟨rfl,rfl⟩) (.inl ⟨_,_,rfl,(by omega),(by omega),(by omega)⟩) (.inr ⟨rfl,rfl⟩) (by simp) (by rw [fI];rfl)) 2 rfl rfl hS (hK () hF)
  ·intro _ S h s D p K k;exact bH (fu (t:=0) 7 (nf s D (k:=7) (i:=3) rfl) rfl rfl) (eX rfl) 3 rfl rfl s (k () h)
  ·rintro _ S hF hS D hp K hK;try dsimp only
   exact bV (bE hp 3 rfl rfl) (bE hp 4 rfl rfl) (ed (l:=i+1) (h:=xs.length) (m:=cx) (v:=(.slice (eu bx (i+1) cx 1) (xs.length- (i+1)) (cx- (i+1)))) CX Dq rfl rfl rfl rfl (.inr ⟨rfl,rfl⟩) (.inr ⟨rfl,rfl⟩) (.inl ⟨_,_,rfl,(by omega),(by omega),(by omega)⟩) (by simp) rfl) 5 rfl rfl hS (hK () hF)
  ·rintro _ S hF hS D hp K hK
   try dsimp only at hF⊢
   refine bZ hp [22,25] rfl rfl ?_
   refine c9 hS ?_
   refine tm rfl (l5 (i:=Tryz.t159) (k:=i) CX Tryz.type159 rfl rfl rfl (fun hz=>nS okx (by omega) hz) (by omega) (by first|exact dQ jw _| (rw [dQ jw];congr 1;first| (simp;done)| (simp;omega))) (sT (l:=i+1) (m:=cx) jw (cj (.head _)) okx rfl hcx) (ot x4) (by omega) (j8 jw)) ?_
   rintro _ _ ⟨rfl,rfl⟩
   exact cK hp hS (ti (hK () trivial)) rfl rfl rfl
 ·rintro _ hF
  try dsimp only at hF⊢
  refine az (E':=[(0,(.slice bx (i+(xs.length- (i+1))) cx)),(1,(vN i)),(2,(vI ((i+1:Nat):Int))),(6,(.slice none 0 0)),(7,(vN xs.length)),(16,(.bool false))]) ⟨rfl,rfl,rfl,rfl,rfl,rfl,trivial⟩ ?_
  refine qn hK6 (av (fun _ hK7=>ag rfl (ag rfl (tp rfl (bC CX rfl rfl) (ag rfl (tp rfl (ed (l:=i+(xs.length- (i+1))) (h:=xs.length) (m:=cx) (v:=(.slice (eu bx (i+(xs.length- (i+1))) cx 1) (xs.length- (i+(xs.length- (i+1)))) (cx- (i+(xs.length- (i+1)))))) CX Dq rfl rfl rfl rfl (.inr ⟨rfl,rfl⟩) (.inl ⟨_,_,rfl,(by omega),(by omega),(by omega)⟩) (.inl ⟨_,_,rfl,(by omega),(by omega),(by omega)⟩) (by simp) rfl) ?_))))))
  refine Cw (mi (l:=i+(xs.length- (i+1))) (c:=cx) CX Tryz.zeroValue159 rfl rfl (by decide) rfl okx (by omega) (by omega) (by omega)) ?_
  rintro _ _ ⟨zs1,rfl⟩
  refine td hK7 (av (fun K8 hK8=>ag rfl (aA rfl (td hK8 (ay ?_)))))
  refine bO (fun _ h=>lW jw (by omega) (by omega) (by simp;omega) h) ?_
  rw [sr hi _ (by omega)]
  rw [show i+(xs.length- (i+1))=(xs.eraseIdx i).length by rw [List.length_eraseIdx,if_pos hi];omega]
  refine aM rfl rfl ?_
  exact ⟨rfl,rfl⟩
theorem qY{R:List HP}{bx:Option Addr}{cx n:Nat}(xs:List Nat)(hn:xs.length=n)(i:Nat)(hi:i<n):Ok Tryz.prog 124 [.slice bx n cx,.int .i64 (i:Int),.int .i64 ((i+1:Nat):Int)] (SlV 159 1 (.slice bx n cx) n (bJ dJ xs)::R)
 (fun v M=>v=.slice bx (xs.eraseIdx i).length cx∧M=SlV 159 1 (.slice bx (xs.eraseIdx i).length cx) (xs.eraseIdx i).length (bJ dJ (xs.eraseIdx i))::R):=by subst hn;exact tK xs i hi
theorem vM{R:List HP}{b k:Nat}{ps:List Nat}{ms:List M3}(hlp:ps.length=ms.length)(hk:k<ms.length)(id:Int):
 Ok Tryz.prog 153 [(vP (ps.getD k 0) 0),(vP b 0)] ((bI b [(vI id)] 3)::(cI (ey ps ms))::R)
  (fun v M=>v=.bool (decide ((ms.getD k M3.z).id=id))∧M=bI b [.int .i64 id] 3::cI (ey ps ms)::R):=by
 refine aP (N:=10) Tryz.func153 rfl rfl rfl (fun W=>?_)
 refine aE ?_
 refine iD (i:=k) hlp hk ?_
 refine av (fun _ hK1=>aA rfl (td hK1 (ai (fun _ hK2=>?_))))
 refine bz (γ:=Unit) (n:=7) Tryz.mixed rfl rfl (fun _ S=>True) (fun _=>[(0,4,(vP (ps.getD k 0) 0)),(1,5,(vP (ps.getD k 0) 0)),(2,6,(vP (ps.getD k 0) 0)),(3,7,(vI ((ms.getD k M3.z).id))),(4,8,(vI id)),(5,9,(.bool (((ms.getD k M3.z).id)==id))),(6,3,(.bool (((ms.getD k M3.z).id)==id)))]) (fun _ S=>(bI (ps.getD k 0) [(vI ((ms.getD k M3.z).id)),(vI ((ms.getD k M3.z).w)),(vI ((ms.getD k M3.z).c))] 161)::(cI (ey (ps.eraseIdx k) (ms.eraseIdx k)))::(bI b [(vI id)] 3)::R) (()) trivial (fun _ h=>h) (fun _ _ h=>h) ?_ ?_
 ·refine ⟨aU,bW,bL Dg rfl CG,db CH fun _ _=>aa (.head _) rfl,db CH fun _ _=>aa (.tail _ (.tail _ (.head _))) rfl,?_,fh,trivial⟩
  ·intro _ S h s D p K k;exact bV (bE p 3 rfl rfl) (bE p 4 rfl rfl) (aV rfl rfl rfl) 5 rfl rfl s (k () h)
 ·rintro _ hF
  try dsimp only at hF⊢
  refine az (E':=[(0,(vP (ps.getD k 0) 0)),(1,(vP b 0)),(3,(.bool (((ms.getD k M3.z).id)==id)))]) ⟨rfl,rfl,rfl,trivial⟩ ?_
  refine qn hK2 (ay (aE (aE ?_)))
  refine qH hlp hk ?_
  refine aE ?_
  refine aM rfl rfl ?_
  exact ⟨rfl,rfl⟩
theorem oM{R:List HP}{p n ca:Nat}{vq va:Value}{ba:Option Addr}{ps:List Nat}{ms:List M3}(hlp:ps.length=n)(hn:ms.length=n)(hok:bB ba n)(hl:n≤100000)(id:Int):
 Ok Tryz.prog 123 [(vP p 0),(vI id)] ((bI p [vq,(.slice ba n ca),va] 139)::(SlV 159 1 (.slice ba n ca) n (bJ dJ ps))::(cI (ey ps ms))::R)
  (fun v M=>v=.int .i64 (dS ms id)∧M=bI p [vq,.slice ba n ca,va] 139::SlV 159 1 (.slice ba n ca) n (bJ dJ ps)::cI (ey ps ms)::R):=by
 refine aP (N:=11) Tryz.func123 rfl rfl rfl (fun W=>?_)
 refine av (fun _ hK1=>?_)
 refine tm rfl (cZ rfl rfl) ?_
 rintro _ _ ⟨b1,rfl,rfl⟩
 refine aA rfl (td hK1 (av (fun _ hK2=>ag rfl (cV rfl (bU 1 CO rfl C2 rfl rfl (bK C8 rfl (aa (.tail _ (.head _)) rfl) (tp rfl (fU rfl) ?_)))))))
 refine aS (aE ?_)
 refine bN Tryz.call152 rfl (px (p:=fun k=>decide ((ms.getD k M3.z).id=id)) (n:=n) ps hlp ⟨Tryz.call153,fun k hk=>vM (hlp.trans hn.symm) (by omega) id⟩ (cj (.tail _ (.tail _ (.tail _ (.head _))))) hok (by omega)) ?_
 rintro _ _ ⟨rfl,rfl⟩
 rw [show gi (fun k=>decide ((ms.getD k M3.z).id=id)) n=dS ms id from by rw [←rW,hn]]
 refine aA rfl (td hK2 (ay (ak (aR (aR ?_)))))
 refine aM rfl rfl ?_
 exact ⟨rfl,rfl⟩
set_option maxHeartbeats 4000000 in
theorem kA{R:List HP}{p m:Nat}{q i_ w_ c_:Int}{v1 v2:Value}(h:0≤q*w_∧q*w_≤200000000):
 Ok Tryz.prog 106 [(vP p 0),(vP m 0)] ((bI p [(vI q),v1,v2] 139)::(bI m [(vI i_),(vI w_),(vI c_)] 161)::R)
  (fun v M=>v=.int .i64 (q*w_)∧M=bI p [.int .i64 q,v1,v2] 139::bI m [.int .i64 i_,.int .i64 w_,.int .i64 c_] 161::R):=by
 refine aP (N:=14) Tryz.func106 rfl rfl rfl (fun W=>?_)
 refine av (fun _ hK1=>aA rfl (td hK1 (ai (fun _ hK2=>?_))))
 refine bz (γ:=Unit) (n:=10) Tryz.mixed rfl rfl (fun _ S=>True) (fun _=>[(0,5,(vP p 0)),(1,6,(vP p 0)),(2,7,(vP p 0)),(3,8,(vI q)),(4,9,(vP m 0)),(5,10,(vP m 0)),(6,11,(vP m 1)),(7,12,(vI w_)),(8,13,(vI (q*w_))),(9,4,(vI (q*w_)))]) (fun _ S=>(bI p [(vI q),v1,v2] 139)::(bI m [(vI i_),(vI w_),(vI c_)] 161)::R) (()) trivial (fun _ h=>h) (fun _ _ h=>h) ?_ ?_
 ·refine ⟨aU,bW,bL CO rfl CG,db CH fun _ _=>aa (.head _) rfl,aU,bW,bL Dg rfl CG,db CH fun _ _=>aa (.tail _ (.head _)) rfl,?_,fh,trivial⟩
  ·intro _ S h s D p K k;exact bV (bE p 3 rfl rfl) (bE p 7 rfl rfl) (jB (c:=q*w_) rfl rfl (cA (by omega) (by omega))) 8 rfl rfl s (k () h)
 ·rintro _ hF
  try dsimp only at hF⊢
  refine az (E':=[(0,(vP p 0)),(1,(vP m 0)),(4,(vI (q*w_)))]) ⟨rfl,rfl,rfl,trivial⟩ ?_
  refine qn hK2 (ay ?_)
  refine aM rfl rfl ?_
  exact ⟨rfl,rfl⟩
set_option maxHeartbeats 4000000 in
theorem yV{R:List HP}{p n ca:Nat}{vq va:Value}{ba:Option Addr}{ps:List Nat}{ms:List M3}(hlp:ps.length=n)(hn:ms.length=n)(hok:bB ba n)(hl:n≤100000)(hnd:(ms.map (·.id)).Nodup)(ws:List (Int×Int)){bl:Option Addr}{cl:Nat}(hw:Rd R bl (df ws))(okl:bB bl ws.length)(lw:ws.length≤1000000):
 Ok Tryz.prog 104 [(vP p 0),(.slice bl ws.length cl)] ((bI p [vq,(.slice ba n ca),va] 139)::(SlV 159 1 (.slice ba n ca) n (bJ dJ ps))::(cI (ey ps ms))::R)
  (fun v M=> ∃bs cp,bB bs n∧n≤cp∧v=.tuple #[.slice bs n cp,.bool (il (c8 ms ws))]∧M=SlV 3 1 (.slice bs n cp) n (aF .i64 (c8 ms ws))::bI p [vq,.slice ba n ca,va] 139::SlV 159 1 (.slice ba n ca) n (bJ dJ ps)::cI (ey ps ms)::R):=by
 refine aP (N:=52) Tryz.func104 rfl rfl rfl (fun W=>?_)
 refine av (fun _ hK1=>aA rfl (aA rfl (td hK1 (av (fun _ hK2=>ag rfl (cV rfl ?_))))))
 refine bU 1 CO rfl C2 rfl rfl (bK C8 rfl (aa (.head _) rfl) (tp rfl (bC CX rfl rfl) ?_))
 refine tm rfl (eP (i:=Tryz.t3) CI C1 rfl rfl rfl rfl rfl (by omega) (by rw [show Tryz.t3.bytes=8 from rfl];omega) (by omega)) ?_
 rintro _ _ ⟨bs1,cp2,hok3,hle4,rfl,rfl⟩
 rw [iX]
 refine aA rfl (td hK2 (ai (fun _ hK3=>av (fun K4 hK4=>ag rfl (tp rfl (bC D5 rfl rfl) (ag rfl (aI ?_)))))))
 refine qn hK4 (aH ?_)
 simp only [Int.toNat_natCast]
 rw [show List.replicate n (0:Int)=c8 ms (ws.take 0) from by rw [List.take_zero,oK,hn]]
 refine cE (γ:=(Nat)) (fun (k:Nat)=>k≤ws.length) (fun (k:Nat)=>[(0,(vP p 0)),(1,(.slice bl ws.length cl)),(4,(.slice bs1 n cp2)),(5,(.bool (il (c8 ms (ws.take k))))),(15,(.slice bl ws.length cl)),(16,(vN ws.length)),(17,(vN k))]) (fun (k:Nat)=>(SlV 3 1 (.slice bs1 n cp2) n (aF .i64 (c8 ms (ws.take k))))::(bI p [vq,(.slice ba n ca),va] 139)::(SlV 159 1 (.slice ba n ca) n (bJ dJ ps))::(cI (ey ps ms))::R) (fun (k:Nat)=>ws.length-k) (0) (by omega) ⟨rfl,rfl,rfl,(by rw [List.take_zero,oK,sY];rfl),rfl,rfl,rfl,trivial⟩ (fun _ h=>h) ?_
 rintro k K5 hF hK5
 try dsimp only at hF hK5⊢
 have hcl:=g8 ms (ws.take k)
 have hpg:=p5 ms (ws.getD k (0,0)).1
 refine av (fun _ hK6=>?_)
 by_cases h5:(k:Int)< (ws.length:Int)
 ·refine tp rfl (aJ rfl rfl (decide_eq_true h5)) (td hK6 (ai (fun _ hK7=>aG rfl (dp hK7 (ai (fun K8 hK8=>aH (ai (fun _ hK9=>?_))))))))
  refine aj (tp rfl (ah (k':=k*2) D5 D6 rfl rfl okl (by omega) (by omega) (by omega)) ?_)
  refine tp rfl (cU (cs:=[(vI (((ws).getD k (0,0)).1)),(vI (((ws).getD k (0,0)).2))]) Tryz.isAgg110 D6 rfl (fW (Rd.gives (Rd.cons (Rd.cons (Rd.cons (Rd.cons hw)))) (gv (by omega))) (Rd.gives (Rd.cons (Rd.cons (Rd.cons (Rd.cons hw)))) (hY (by omega))))) ?_
  refine tm rfl (cD Tryz.zeroValue110 rfl) ?_
  rintro _ _ ⟨b6,rfl,rfl⟩
  refine ts (bn (news:=[(vI (((ws).getD k (0,0)).1)),(vI (((ws).getD k (0,0)).2))]) D6 rfl rfl rfl rfl (nB rfl) rfl) ?_
  refine td hK9 (av (fun _ hK10=>ag rfl (bU 0 D7 rfl CG rfl rfl (bK CH rfl (aa (.head _) rfl) (de (de (de ?_)))))))
  refine bN Tryz.call123 rfl (oM hlp hn hok (by omega) (((ws).getD k (0,0)).1)) ?_
  rintro _ _ ⟨rfl,rfl⟩
  refine aA rfl (td hK10 (av (fun _ hK11=>ag rfl ?_)))
  by_cases h7:(dS ms (((ws).getD k (0,0)).1))≥0
  ·refine tp rfl (cC rfl rfl (decide_eq_true h7)) (ag rfl ?_)
   refine ae rfl rfl ?_
   refine ag rfl ?_
   refine ae rfl rfl ?_
   refine ag rfl ?_
   refine ae rfl rfl ?_
   refine tp rfl (ah (k':=(dS ms (((ws).getD k (0,0)).1)).toNat) CI CG rfl rfl hok3 (by omega) (by omega) (by omega)) ?_
   refine ae rfl rfl ?_
   refine bK CH rfl (aw (.tail _ (.tail _ (.tail _ (.tail _ (.head _))))) (aQ (by first|omega| (simp;omega)))) ?_
   refine ae rfl rfl ?_
   by_cases h8:((c8 ms (ws.take k)).getD ((dS ms (((ws).getD k (0,0)).1)).toNat) 0)=0
   ·refine tp rfl (aV rfl rfl (beq_iff_eq.2 h8)) (tp rfl (aL rfl rfl) (ag rfl ?_))
    refine ae rfl rfl ?_
    refine bU 1 D7 rfl CG rfl rfl ?_
    refine ae rfl rfl ?_
    refine bK CH rfl (aa (.tail _ (.tail _ (.tail _ (.head _)))) rfl) ?_
    refine ae rfl rfl ?_
    by_cases h9:(((ws).getD k (0,0)).2)≥1
    ·refine tp rfl (cC rfl rfl (decide_eq_true h9)) (tp rfl (aL rfl rfl) (ag rfl ?_))
     refine ae rfl rfl ?_
     refine bU 1 D7 rfl CG rfl rfl ?_
     refine ae rfl rfl ?_
     refine bK CH rfl (aa (.tail _ (.tail _ (.tail _ (.head _)))) rfl) ?_
     refine ae rfl rfl ?_
     by_cases h10:(((ws).getD k (0,0)).2)≤1048576
     ·refine tp rfl (rl rfl rfl (decide_eq_true h10)) (tp rfl (aL rfl rfl) (td hK11 (aG rfl (aj (ag rfl (ag rfl (bU 1 D7 rfl CG rfl rfl (bK CH rfl (aa (.tail _ (.tail _ (.tail _ (.head _)))) rfl) ?_))))))))
      refine tp rfl (ah (k':=(dS ms (((ws).getD k (0,0)).1)).toNat) CI CG rfl rfl hok3 (by omega) (by omega) (by omega)) ?_
      refine de ?_
      refine ts (gN CG rfl rfl rfl (by first| (rw [ints_length];omega)| (simp;omega)|omega) eD) ?_
      refine aA rfl (aI (aZ (qn hK8 (aj (tp rfl (aX (c:=((k+1:Nat):Int)) rfl rfl (aB (by omega))) ?_)))))
      refine ag rfl (aI (aN (de (ak ?_))))
      have hnew:c8 ms (ws.take (k+1))=((c8 ms (ws.take k))).set ((dS ms (((ws).getD k (0,0)).1)).toNat) (((ws).getD k (0,0)).2):=by rw [di (by omega) (0,0),iR hnd];first|exact if_pos ⟨by omega,by omega,by omega,by omega⟩|exact if_neg (fun hh=>by omega)
      rw [←hnew]
      exact az (by exact ⟨rfl,rfl,rfl,(by rw [hnew,tg (by omega) (by omega)];rfl),rfl,rfl,rfl,trivial⟩) ((hK5 (k+1) (by omega) (by omega)))
     ·refine tp rfl (rl rfl rfl (decide_eq_false h10)) (tp rfl (aL rfl rfl) (td hK11 (ar rfl (cS (aZ (qn hK8 (aj (tp rfl (aX (c:=((k+1:Nat):Int)) rfl rfl (aB (by omega))) ?_))))))))
      refine ag rfl (aI (aN (aS (ak (aR (aR (aR (aS ?_))))))))
      have hnew:c8 ms (ws.take (k+1))=c8 ms (ws.take k):=by rw [di (by omega) (0,0),iR hnd];first|exact if_pos ⟨by omega,by omega,by omega,by omega⟩|exact if_neg (fun hh=>by omega)
      rw [←hnew]
      exact az (by exact ⟨rfl,rfl,rfl,(by rw [hnew];rfl),rfl,rfl,rfl,trivial⟩) ((hK5 (k+1) (by omega) (by omega)))
    ·refine tp rfl (cC rfl rfl (decide_eq_false h9)) (tp rfl (aL rfl rfl) (ag rfl ?_))
     refine aq rfl rfl rfl ?_
     refine aq rfl rfl rfl ?_
     refine aq rfl rfl rfl ?_
     refine tp rfl (aC rfl rfl) (td hK11 (ar rfl (cS (aZ (qn hK8 (aj (tp rfl (aX (c:=((k+1:Nat):Int)) rfl rfl (aB (by omega))) ?_)))))))
     refine ag rfl (aI (aN (aS (ak (aR (aR (aR (aS ?_))))))))
     have hnew:c8 ms (ws.take (k+1))=c8 ms (ws.take k):=by rw [di (by omega) (0,0),iR hnd];first|exact if_pos ⟨by omega,by omega,by omega,by omega⟩|exact if_neg (fun hh=>by omega)
     rw [←hnew]
     exact az (by exact ⟨rfl,rfl,rfl,(by rw [hnew];rfl),rfl,rfl,rfl,trivial⟩) ((hK5 (k+1) (by omega) (by omega)))
   ·refine tp rfl (aV rfl rfl (beq_eq_false_iff_ne.2 h8)) (tp rfl (aL rfl rfl) (ag rfl ?_))
    refine aq rfl rfl rfl ?_
    refine aq rfl rfl rfl ?_
    refine aq rfl rfl rfl ?_
    refine tp rfl (aC rfl rfl) (ag rfl ?_)
    refine aq rfl rfl rfl ?_
    refine aq rfl rfl rfl ?_
    refine aq rfl rfl rfl ?_
    refine tp rfl (aC rfl rfl) (td hK11 (ar rfl (cS (aZ (qn hK8 (aj (tp rfl (aX (c:=((k+1:Nat):Int)) rfl rfl (aB (by omega))) ?_)))))))
    refine ag rfl (aI (aN (aS (ak (aR (aR (aR (aS ?_))))))))
    have hnew:c8 ms (ws.take (k+1))=c8 ms (ws.take k):=by rw [di (by omega) (0,0),iR hnd];first|exact if_pos ⟨by omega,by omega,by omega,by omega⟩|exact if_neg (fun hh=>by omega)
    rw [←hnew]
    exact az (by exact ⟨rfl,rfl,rfl,(by rw [hnew];rfl),rfl,rfl,rfl,trivial⟩) ((hK5 (k+1) (by omega) (by omega)))
  ·refine tp rfl (cC rfl rfl (decide_eq_false h7)) (ag rfl ?_)
   refine aq rfl rfl rfl ?_
   refine aq rfl rfl rfl ?_
   refine aq rfl rfl rfl ?_
   refine aq rfl rfl rfl ?_
   refine aq rfl rfl rfl ?_
   refine tp rfl (aC rfl rfl) (ag rfl ?_)
   refine aq rfl rfl rfl ?_
   refine aq rfl rfl rfl ?_
   refine aq rfl rfl rfl ?_
   refine tp rfl (aC rfl rfl) (ag rfl ?_)
   refine aq rfl rfl rfl ?_
   refine aq rfl rfl rfl ?_
   refine aq rfl rfl rfl ?_
   refine tp rfl (aC rfl rfl) (td hK11 (ar rfl (cS (aZ (qn hK8 (aj (tp rfl (aX (c:=((k+1:Nat):Int)) rfl rfl (aB (by omega))) ?_)))))))
   refine ag rfl (aI (aN (aS (ak (aR (aR (aR (aS ?_))))))))
   have hnew:c8 ms (ws.take (k+1))=c8 ms (ws.take k):=by rw [di (by omega) (0,0),iR hnd];first|exact if_pos ⟨by omega,by omega,by omega,by omega⟩|exact if_neg (fun hh=>by omega)
   rw [←hnew]
   exact az (by exact ⟨rfl,rfl,rfl,(by rw [hnew];rfl),rfl,rfl,rfl,trivial⟩) ((hK5 (k+1) (by omega) (by omega)))
 ·refine tp rfl (aJ rfl rfl (decide_eq_false h5)) (td hK6 (ai (fun _ hK7=>ar rfl (bT (au (au (bS (qn hK3 ?_))))))))
  refine av (fun K8 hK8=>ag rfl (ag rfl (aA rfl (aA rfl (td hK8 (ay ?_))))))
  rw [show ws.take k=ws from List.take_of_length_le (by omega)]
  refine dc rfl rfl rfl ?_
  exact ⟨_,_,hok3,hle4,rfl,rfl⟩
set_option maxHeartbeats 4000000 in
theorem uc{R:List HP}{p n ca:Nat}{q:Int}{cs:List Int}{bs:Option Addr}{cp:Nat}{va:Value}{ba:Option Addr}{ps:List Nat}{ms:List M3}(hlp:ps.length=n)(hn:ms.length=n)(hok:bB ba n)(hl:n≤100000)(hbs:bB bs n)(hcl:cs.length=n)(hq:0≤q)(hlow:∀i,i<n→0<cs.getD i 0→(ms.getD i M3.z).c<cs.getD i 0)(hz:∀i,i<n→1≤q*(ms.getD i M3.z).w∧q*(ms.getD i M3.z).w≤104857600∧0≤(ms.getD i M3.z).c∧(ms.getD i M3.z).c≤106000000)(hcb:∀i,0≤cs.getD i 0∧cs.getD i 0≤1048576)(hany:∃j,j<n∧0<cs.getD j 0):
 Ok Tryz.prog 105 [(vP p 0),(.slice bs n cp)] ((SlV 3 1 (.slice bs n cp) n (aF .i64 cs))::(bI p [(vI q),(.slice ba n ca),va] 139)::(SlV 159 1 (.slice ba n ca) n (bJ dJ ps))::(cI (ey ps ms))::R)
  (fun v M=> ∃r:Nat,(∀i,i<n→0<cs.getD i 0→(ms.getD i M3.z).c+(r:Int)*(q*(ms.getD i M3.z).w)<cs.getD i 0)∧(∃j,j<n∧0<cs.getD j 0∧cs.getD j 0≤(ms.getD j M3.z).c+(r:Int)*(q*(ms.getD j M3.z).w)+q*(ms.getD j M3.z).w)∧v=.tuple #[]∧M=SlV 3 1 (.slice bs n cp) n (aF .i64 cs)::bI p [.int .i64 q,.slice ba n ca,va] 139::SlV 159 1 (.slice ba n ca) n (bJ dJ ps)::cI (ey ps (bR q cs (fun _=>(r:Int)) ms))::R):=by
 refine aP (N:=70) Tryz.func105 rfl rfl rfl (fun W=>?_)
 refine av (fun _ hK1=>aA rfl (td hK1 (ai (fun _ hK2=>av (fun _ hK3=>ag rfl (cV rfl ?_))))))
 refine bU 1 CO rfl C2 rfl rfl (bK C8 rfl (aa (.tail _ (.head _)) rfl) (tp rfl (bC CX rfl rfl) (ag rfl (td hK3 (aH ?_)))))
 refine cE (γ:=(Nat)×(Nat)) (fun (i,r)=>i≤n∧SkInv q cs ms i r) (fun (i,r)=>[(0,(vP p 0)),(1,(.slice bs n cp)),(4,(vN r)),(12,(.slice ba n ca)),(13,(vN n)),(14,(vN i))]) (fun (i,r)=>(SlV 3 1 (.slice bs n cp) n (aF .i64 cs))::(bI p [(vI q),(.slice ba n ca),va] 139)::(SlV 159 1 (.slice ba n ca) n (bJ dJ ps))::(cI (ey ps ms))::R) (fun (i,r)=>n-i) (0,1048576) ⟨by omega,SkInv.zero _ _ _⟩ ⟨rfl,rfl,rfl,rfl,rfl,rfl,trivial⟩ (fun _ h=>h) ?_
 rintro ⟨i,r⟩ K4 hF hK4
 try dsimp only at hF hK4⊢
 obtain ⟨hi,hs⟩:=hF
 have hr2:=hs.r2
 refine av (fun K5 hK5=>?_)
 by_cases h1:(i:Int)< (n:Int)
 ·refine tp rfl (aJ rfl rfl (decide_eq_true h1)) (td hK5 (ai (fun _ hK6=>aG rfl (dp hK6 (ai (fun _ hK7=>aH (ai (fun K8 hK8=>?_))))))))
  refine aj (ag rfl (tp rfl (ah (k':=i) CX Dq rfl rfl hok (by omega) (by omega) (by omega)) ?_))
  refine bK DE rfl (aw (.tail _ (.tail _ (.head _))) (eV (by first|omega| (simp;omega)))) ?_
  refine aA rfl (aA rfl (td hK8 (av (fun _ hK9=>ag rfl (ag rfl (tp rfl (ah (k':=i) CI CG rfl rfl hbs (by omega) (by omega) (by omega)) ?_))))))
  refine bK CH rfl (aw (.head _) (aQ (by first|omega| (simp;omega)))) ?_
  by_cases h2:((cs).getD i 0)>0
  ·refine tp rfl (cu rfl rfl (decide_eq_true h2)) (td hK9 (aG rfl ?_))
   have hzi:=hz i (by omega)
   have hli:=hlow i (by omega) (by omega)
   have hcbi:=hcb i
   have hxq:0≤(cs.getD i 0- (ms.getD i M3.z).c-1)/ (q*(ms.getD i M3.z).w):=Int.ediv_nonneg (by omega) (by omega)
   refine aS ?_
   refine iD (i:=i) (hlp.trans hn.symm) (by omega) ?_
   refine bz (γ:=Unit) (n:=17) Tryz.mixed rfl rfl (fun _ S=>True) (fun _=>[(0,24,(vN r)),(1,25,(.slice bs n cp)),(2,26,(vN i)),(3,27,(.pointer (some (ad bs i)))),(4,28,(vI ((cs).getD i 0))),(5,29,(vP (ps.getD i 0) 0)),(6,30,(vP (ps.getD i 0) 0)),(7,31,(vP (ps.getD i 0) 2)),(8,32,(vI ((ms.getD i M3.z).c))),(9,33,(vI (((cs).getD i 0)- ((ms.getD i M3.z).c)))),(10,34,(vI ((((cs).getD i 0)- ((ms.getD i M3.z).c))-1))),(11,35,(vP p 0)),(12,36,(vP (ps.getD i 0) 0)),(13,37,(vI (q*((ms.getD i M3.z).w)))),(14,38,(vI (((((cs).getD i 0)- ((ms.getD i M3.z).c))-1)/ (q*((ms.getD i M3.z).w))))),(15,39,(vI ((min r ((cs.getD i 0- (ms.getD i M3.z).c-1)/ (q*(ms.getD i M3.z).w)).toNat:Nat):Int))),(16,4,(vI ((min r ((cs.getD i 0- (ms.getD i M3.z).c-1)/ (q*(ms.getD i M3.z).w)).toNat:Nat):Int)))]) (fun _ S=>(bI (ps.getD i 0) [(vI ((ms.getD i M3.z).id)),(vI ((ms.getD i M3.z).w)),(vI ((ms.getD i M3.z).c))] 161)::(cI (ey (ps.eraseIdx i) (ms.eraseIdx i)))::(SlV 3 1 (.slice bs n cp) n (aF .i64 cs))::(bI p [(vI q),(.slice ba n ca),va] 139)::(SlV 159 1 (.slice ba n ca) n (bJ dJ ps))::R) (()) trivial (fun _ h=>h) (fun _ _ h=>h) ?_ ?_
   ·refine ⟨?_,aU,aU,eJ CI CG rr rr rr fun _=>⟨hbs,by omega,by omega,by omega⟩,dB CH rr rr fun _ _=>aw (.tail _ (.tail _ (.head _))) (aQ (by first|omega| (simp;omega))),aU,bW,bL Dg rfl CG,db CH fun _ _=>aa (.head _) rfl,?_,?_,aU,aU,?_,?_,?_,fh,trivial⟩
    ·intro _ S h s D p K k;exact bH (fu (t:=4) 16 (nf s D (k:=16) (i:=0) rfl) rfl rfl) (eX rfl) 0 rfl rfl s (k () h)
    ·intro _ S h s D p K k;exact bV (bE p 4 rfl rfl) (bE p 8 rfl rfl) (eR (c:=((cs).getD i 0)- ((ms.getD i M3.z).c)) rfl rfl (cA (by omega) (by omega))) 9 rfl rfl s (k () h)
    ·intro _ S h s D p K k;exact bH (bE p 9 rfl rfl) (eR (c:=(((cs).getD i 0)- ((ms.getD i M3.z).c))-1) rfl rfl (cA (by omega) (by omega))) 10 rfl rfl s (k () h)
    ·rintro _ S hF hS D hp K hK
     try dsimp only at hF⊢
     refine bZ hp [35,36] rfl rfl ?_
     refine aS ?_
     refine bN D8 rfl (kA (by omega)) ?_
     rintro _ _ ⟨rfl,rfl⟩
     refine aS (aS (aS ?_))
     exact cK hp hS (ti (hK () trivial)) rfl rfl rfl
    ·intro _ S h s D p K k;exact bV (bE p 10 rfl rfl) (bE p 13 rfl rfl) (xG (c:=((((cs).getD i 0)- ((ms.getD i M3.z).c))-1)/ (q*((ms.getD i M3.z).w))) rfl rfl (by omega) (Bz (by omega) (by omega) (by omega))) 14 rfl rfl s (k () h)
    ·intro _ S h s D p K k;exact bV (bE p 0 rfl rfl) (bE p 14 rfl rfl) (hO (c:=((min r ((cs.getD i 0- (ms.getD i M3.z).c-1)/ (q*(ms.getD i M3.z).w)).toNat:Nat):Int)) rfl rfl (by omega)) 15 rfl rfl s (k () h)
   ·rintro _ hF
    try dsimp only at hF⊢
    refine az (E':=[(0,(vP p 0)),(1,(.slice bs n cp)),(4,(vI ((min r ((cs.getD i 0- (ms.getD i M3.z).c-1)/ (q*(ms.getD i M3.z).w)).toNat:Nat):Int))),(5,(vN i)),(6,(vP (ps.getD i 0) 0)),(12,(.slice ba n ca)),(13,(vN n)),(14,(vN i)),(15,(.bool true)),(23,(.bool true))]) ⟨rfl,rfl,rfl,rfl,rfl,rfl,rfl,rfl,rfl,rfl,trivial⟩ ?_
    refine aZ (qn hK7 (aj (aE (aE ?_))))
    refine qH (hlp.trans hn.symm) (by omega) ?_
    refine tp rfl (aX (c:=((i+1:Nat):Int)) rfl rfl (aB (by omega))) ?_
    refine ag rfl (aI (aN (aS (aS (aS ?_)))))
    exact az (by exact ⟨rfl,rfl,rfl,rfl,rfl,rfl,trivial⟩) ((hK4 (i+1,min r ((cs.getD i 0- (ms.getD i M3.z).c-1)/ (q*(ms.getD i M3.z).w)).toNat) ⟨by omega,hs.yes (by omega) (hlow i (by omega) (by omega)) hzi.2.2.1 (hcb i).2 (fun j hj=>(hz j (by omega)).1)⟩ (by dsimp only;omega)))
  ·refine tp rfl (cu rfl rfl (decide_eq_false h2)) (td hK9 (ar rfl (cS (aZ (qn hK7 (aj (tp rfl (aX (c:=((i+1:Nat):Int)) rfl rfl (aB (by omega))) ?_)))))))
   refine ag rfl (aI (aN ?_))
   exact az (by exact ⟨rfl,rfl,rfl,rfl,rfl,rfl,trivial⟩) ((hK4 (i+1,r) ⟨by omega,hs.no (by omega)⟩ (by dsimp only;omega)))
 ·refine tp rfl (aJ rfl rfl (decide_eq_false h1)) (td hK5 (ai (fun _ hK6=>ar rfl (bT (au (au (bS (qn hK2 ?_))))))))
  refine av (fun _ hK7=>ag rfl (cV rfl (bU 1 CO rfl C2 rfl rfl (bK C8 rfl (aa (.tail _ (.head _)) rfl) (tp rfl (bC CX rfl rfl) (ag rfl (td hK7 ?_)))))))
  refine aH ?_
  have hub:=hs.ub
  have hr2:=hs.r2
  have hex:=hs.done (n:=n) (by omega) hany hi
  refine cE (γ:=(Nat)) (fun (k:Nat)=>k≤n) (fun (k:Nat)=>[(0,(vP p 0)),(1,(.slice bs n cp)),(4,(vN r)),(12,(.slice ba n ca)),(13,(vN n)),(14,(vN i)),(15,(.bool false)),(44,(.slice ba n ca)),(45,(vN n)),(46,(vN k))]) (fun (k:Nat)=>(SlV 3 1 (.slice bs n cp) n (aF .i64 cs))::(bI p [(vI q),(.slice ba n ca),va] 139)::(SlV 159 1 (.slice ba n ca) n (bJ dJ ps))::(cI (ey ps (fZ q cs r k ms)))::R) (fun (k:Nat)=>n-k) (0) (by omega) ⟨rfl,rfl,rfl,rfl,rfl,rfl,rfl,rfl,rfl,rfl,trivial⟩ (fun _ h=>by rw [sO];exact h) ?_
  rintro k K8 hF hK8
  try dsimp only at hF hK8⊢
  have hbl:=fa q cs r k ms
  refine av (fun _ hK9=>?_)
  by_cases h3:(k:Int)< (n:Int)
  ·refine tp rfl (aJ rfl rfl (decide_eq_true h3)) (td hK9 (ai (fun _ hK10=>aG rfl (dp hK10 (ai (fun _ hK11=>aH (ai (fun _ hK12=>?_))))))))
   refine aj (ag rfl (tp rfl (ah (k':=k) CX Dq rfl rfl hok (by omega) (by omega) (by omega)) ?_))
   refine bK DE rfl (aw (.tail _ (.tail _ (.head _))) (eV (by first|omega| (simp;omega)))) ?_
   refine aA rfl (aA rfl (td hK12 (av (fun _ hK13=>ag rfl (ag rfl (tp rfl (ah (k':=k) CI CG rfl rfl hbs (by omega) (by omega) (by omega)) ?_))))))
   refine bK CH rfl (aw (.head _) (aQ (by first|omega| (simp;omega)))) ?_
   by_cases h4:((cs).getD k 0)>0
   ·refine tp rfl (cu rfl rfl (decide_eq_true h4)) (td hK13 (aG rfl ?_))
    have hzi:=hz k (by omega)
    have hui:=hub k (by omega) (by omega)
    have hcbi:=hcb k
    have hrg:0≤(r:Int)*(q*(ms.getD k M3.z).w):=Int.mul_nonneg (by omega) (by omega)
    refine aS ?_
    refine iD (i:=k) (by rw [hbl];omega) (by omega) ?_
    rw [show (fZ q cs r k ms).getD k M3.z=ms.getD k M3.z from oV (by omega)]
    refine bz (γ:=Unit) (n:=14) Tryz.mixed rfl rfl (fun _ S=>True) (fun _=>[(0,56,(vP (ps.getD k 0) 0)),(1,57,(vP (ps.getD k 0) 0)),(2,58,(vP (ps.getD k 0) 2)),(3,59,(vI ((ms.getD k M3.z).c))),(4,60,(vN r)),(5,61,(vN r)),(6,62,(vP p 0)),(7,63,(vP (ps.getD k 0) 0)),(8,64,(vI (q*((ms.getD k M3.z).w)))),(9,65,(vI ((r:Int)*(q*((ms.getD k M3.z).w))))),(10,66,(vI (((ms.getD k M3.z).c)+((r:Int)*(q*((ms.getD k M3.z).w)))))),(11,67,(vP (ps.getD k 0) 0)),(12,68,(vP (ps.getD k 0) 2))]) (fun _ S=>(bif S 13 then (bI (ps.getD k 0) [(vI ((ms.getD k M3.z).id)),(vI ((ms.getD k M3.z).w)),(vI (((ms.getD k M3.z).c)+((r:Int)*(q*((ms.getD k M3.z).w)))))] 161) else (bI (ps.getD k 0) [(vI ((ms.getD k M3.z).id)),(vI ((ms.getD k M3.z).w)),(vI ((ms.getD k M3.z).c))] 161))::(cI (ey (ps.eraseIdx k) ((fZ q cs r k ms).eraseIdx k)))::(SlV 3 1 (.slice bs n cp) n (aF .i64 cs))::(bI p [(vI q),(.slice ba n ca),va] 139)::(SlV 159 1 (.slice ba n ca) n (bJ dJ ps))::R) (()) trivial (fun _ h=>h) (fun _ _ h=>h) ?_ ?_
    ·refine ⟨aU,bW,bL Dg rfl CG,?_,aU,?_,aU,aU,?_,?_,?_,bW,bL Dg rfl CG,?_,trivial⟩
     ·rintro _ S hF hS D hp K hK;try dsimp only
      exact bH (bE hp 2 rfl rfl) (bP CH rfl (aa (cF (nf hS D (k:=13) (i:=3) rfl) (.head _)) rfl)) 3 rfl rfl hS (hK () hF)
     ·intro _ S h s D p K k;exact bH (bE p 4 rfl rfl) (fm (c:=(r:Int)) rfl rfl (by omega)) 5 rfl rfl s (k () h)
     ·rintro _ S hF hS D hp K hK
      try dsimp only at hF⊢
      refine bZ hp [62,63] rfl rfl ?_
      refine c9 (nf hS D (k:=13) (i:=8) rfl) ?_
      refine aS ?_
      refine bN D8 rfl (kA (by omega)) ?_
      rintro _ _ ⟨rfl,rfl⟩
      refine aE ?_
      refine fG (A:=(bI (ps.getD k 0) [(vI ((ms.getD k M3.z).id)),(vI ((ms.getD k M3.z).w)),(vI (((ms.getD k M3.z).c)+((r:Int)*(q*((ms.getD k M3.z).w)))))] 161)) (nf hS D (k:=13) (i:=8) rfl) ?_
      refine aE (aS (aS (aS ?_)))
      exact cK hp hS (ti (hK () trivial)) rfl rfl rfl
     ·rintro _ S hF hS D hp K hK;try dsimp only
      exact bV (bE hp 5 rfl rfl) (bE hp 8 rfl rfl) (jB (c:=(r:Int)*(q*((ms.getD k M3.z).w))) rfl rfl (cA (by omega) (by omega))) 9 rfl rfl hS (hK () hF)
     ·rintro _ S hF hS D hp K hK;try dsimp only
      exact bV (bE hp 3 rfl rfl) (bE hp 9 rfl rfl) (aX (c:=((ms.getD k M3.z).c)+((r:Int)*(q*((ms.getD k M3.z).w)))) rfl rfl (cA (by omega) (by omega))) 10 rfl rfl hS (hK () hF)
     ·rintro _ S hF hS D hp K hK
      try dsimp only at hF⊢
      refine bZ hp [66,68] rfl rfl ?_
      refine c9 hS ?_
      refine ts (cM CG rfl rfl rfl (nB rfl) rfl) ?_
      exact gE hp (ti (hK () trivial)) rfl rfl rfl
    ·rintro _ hF
     try dsimp only at hF⊢
     refine az (E':=[(0,(vP p 0)),(1,(.slice bs n cp)),(4,(vN r)),(7,(vN k)),(8,(vP (ps.getD k 0) 0)),(12,(.slice ba n ca)),(13,(vN n)),(14,(vN i)),(15,(.bool false)),(44,(.slice ba n ca)),(45,(vN n)),(46,(vN k)),(47,(.bool true)),(55,(.bool true))]) ⟨rfl,rfl,rfl,rfl,rfl,rfl,rfl,rfl,rfl,rfl,rfl,rfl,rfl,rfl,trivial⟩ ?_
     refine aZ (qn hK11 (aj (aE (aE ?_))))
     refine zd (c:=((ms.getD k M3.z).c)+((r:Int)*(q*((ms.getD k M3.z).w)))) (oV (by omega)) (by rw [hbl];omega) (by omega) ?_
     rw [show hU (fZ q cs r k ms) k (((ms.getD k M3.z).c)+((r:Int)*(q*((ms.getD k M3.z).w))))=fZ q cs r (k+1) ms from vK (by omega) (by omega)]
     refine tp rfl (aX (c:=((k+1:Nat):Int)) rfl rfl (aB (by omega))) ?_
     refine ag rfl (aI (aN (aS (aS (aS ?_)))))
     exact az (by exact ⟨rfl,rfl,rfl,rfl,rfl,rfl,rfl,rfl,rfl,rfl,trivial⟩) ((hK8 (k+1) (by omega) (by omega)))
   ·refine tp rfl (cu rfl rfl (decide_eq_false h4)) (td hK13 (ar rfl (cS (aZ (qn hK11 (aj ?_))))))
    rw [show fZ q cs r k ms=fZ q cs r (k+1) ms from yH (by omega)]
    refine tp rfl (aX (c:=((k+1:Nat):Int)) rfl rfl (aB (by omega))) ?_
    refine ag rfl (aI (aN ?_))
    exact az (by exact ⟨rfl,rfl,rfl,rfl,rfl,rfl,rfl,rfl,rfl,rfl,trivial⟩) ((hK8 (k+1) (by omega) (by omega)))
  ·refine tp rfl (aJ rfl rfl (decide_eq_false h3)) (td hK9 (ai (fun _ hK10=>ar rfl (bT (au (au (bS ?_)))))))
   rw [show fZ q cs r k ms=bR q cs (fun _=>(r:Int)) ms from vT (by omega)]
   refine fC rfl ?_
   exact ⟨r,fun i h1 h2=>hub i (by omega) h2,hex,rfl,rfl⟩
end Go.Proofs.YtanfdikglplkaaaGreatDoor
