/- Parts Ca, Cb, Ff: own lemmas and contracts of the code that the claim reaches. -/
import Derived.Test.YtanfdikglplkaaaGreatDoorM03
import Derived.Test.YtanfdikglplkaaaGreatDoorM29
import Derived.Test.YtanfdikglplkaaaGreatDoorM13
import Derived.Test.YtanfdikglplkaaaGreatDoorM05
import Derived.Test.YtanfdikglplkaaaGreatDoorM04
import Derived.Test.YtanfdikglplkaaaGreatDoorM32
set_option linter.unusedSimpArgs false
set_option linter.unusedVariables false
set_option maxRecDepth 100000
namespace Go.Proofs.YtanfdikglplkaaaGreatDoor
open Go Go.Proofs Sp
theorem pR{R:List HP}{g N:Nat}{es:Es}(a:Int):
 Ok Tryz.prog 169 [(vP g 0),(vI a)] ((aT g N es)::R)
  (fun v M=>v=.bool (valid N a)∧M=aT g N es::R):=by
 refine aP (N:=13) Tryz.func169 rfl rfl rfl (fun W=>?_)
 refine av (fun _ hK1=>aA rfl (td hK1 (av (fun _ hK2=>ag rfl ?_))))
 by_cases h1:a≥0
 ·refine tp rfl (cC rfl rfl (decide_eq_true h1)) (ag rfl ?_)
  refine ae rfl rfl ?_
  refine ag rfl ?_
  refine ae rfl rfl ?_
  refine ag rfl ?_
  refine ae rfl rfl ?_
  refine bN Tryz.call92 rfl (BM) ?_
  rintro _ _ ⟨rfl,rfl⟩
  refine ae rfl rfl ?_
  refine tp rfl (aJ rfl rfl rfl) (tp rfl (aL rfl rfl) (aA rfl (td hK2 (ay ?_))))
  refine aM rfl rfl ?_
  exact ⟨by first| (unfold valid;simp [*];done)| (unfold valid;simp [*];omega),rfl⟩
 ·refine tp rfl (cC rfl rfl (decide_eq_false h1)) (ag rfl ?_)
  refine aq rfl rfl rfl ?_
  refine aq rfl rfl rfl ?_
  refine aq rfl rfl rfl ?_
  refine aq rfl rfl rfl ?_
  refine tp rfl (aC rfl rfl) (aA rfl (td hK2 (ay ?_)))
  refine aM rfl rfl ?_
  exact ⟨by first| (unfold valid;simp [*];done)| (unfold valid;simp [*];omega),rfl⟩
set_option maxHeartbeats 4000000 in
theorem Ar{R:List HP}{g N:Nat}{E:Es}(to:Int)(ht:0≤to∧to<N):
 Ok Tryz.prog 170 [(vP g 0),(vI to)] ((aT g N E)::R)
  (dZ 3 1 N (aF .i64 (oU N E to)) (aT g N E::R)):=by
 refine aP (N:=54) Tryz.func170 rfl rfl rfl (fun W=>?_)
 refine aY (fun _ h=>fH h) (fun hgok=>?_)
 have hsmall:=hgok.small
 refine av (fun _ hK1=>aA rfl (td hK1 (av (fun _ hK2=>?_))))
 refine tm rfl (aD (cs:=[(vI (-1))]) CI CG CN (by decide) rfl rfl rfl rfl) ?_
 rintro _ _ ⟨bs1,cp2,hok3,hle4,rfl,rfl⟩
 refine ag rfl (aE ?_)
 refine bN Tryz.call92 rfl (BM) ?_
 rintro _ _ ⟨rfl,rfl⟩
 refine bN Tryz.call91 rfl (pD (-1) N (by omega) (cj (.tail _ (.head _))) (fun _=>(fun hz=>hok3 (by first|exact hz|omega)) (by omega))) ?_
 rintro _ _ ⟨bs5,cp6,hok7,hle8,rfl,rfl⟩
 refine aA rfl (td hK2 (av (fun _ hK3=>ag rfl (ag rfl (tp rfl (ah (k':=to.toNat) CI CG rfl rfl hok7 (by omega) (by omega) (by omega)) ?_)))))
 refine ts (gN CG rfl rfl rfl (by rw [ints_length,List.length_replicate];omega) eD) ?_
 refine td hK3 (ai (fun _ hK4=>av (fun _ hK5=>ag rfl ?_)))
 refine tm rfl (aD (cs:=[(vI to)]) CI CG CN (by decide) rfl rfl rfl rfl) ?_
 rintro _ _ ⟨bs9,cp10,hok11,hle12,rfl,rfl⟩
 refine aA rfl (td hK5 (aH ?_))
 rw [show [Value.int .i64 to]=aF .i64 [to] from rfl]
 refine bO (fun _ h=>nE h) ?_
 show cd _ _ _ _ (rA 3 1 (.slice bs9 ([to]:List Int).length cp10) ([to]:List Int).length (aF .i64 [to])::_)
 refine aS (ak ?_)
 refine cE (γ:=(List Int)×(List Int)×(Option Addr)×(Nat)) (fun (far,ql,bl,cl)=>Bfs N E to far ql∧BLt N far∧bB bl ql.length∧ql.length≤cl∧iV far+ql.length≤N) (fun (far,ql,bl,cl)=>[(0,(vP g 0)),(1,(vI to)),(4,(.slice none 0 0)),(5,(.slice bs5 N cp6)),(6,(.slice bl ql.length cl))]) (fun (far,ql,bl,cl)=>(rA 3 1 (.slice bl ql.length cl) ql.length (aF .i64 ql))::(SlV 3 1 (.slice bs5 N cp6) N (aF .i64 far))::(aT g N E)::R) (fun (far,ql,bl,cl)=>iV far+ql.length) ((List.replicate N (-1)).set to.toNat 0,[to],bs9,cp10) ⟨Bfs.start hgok ht,BLt.start ht,hok11,hle12,by rw [tA ht];show N-1+1≤N;omega⟩ ⟨rfl,rfl,rfl,rfl,rfl,trivial⟩ (fun _ h=>h) ?_
 rintro ⟨far,ql,bl,cl⟩ K6 hF hK6
 try dsimp only at hF hK6⊢
 obtain ⟨hb,hlt,hok,hle,hsz⟩:=hF
 have hfl:=hb.len
 refine ai (fun _ hK7=>av (fun _ hK8=>ag rfl (tp rfl (bC CI rfl rfl) ?_)))
 by_cases h13:(ql.length:Int)>0
 ·refine tp rfl (cu rfl rfl (decide_eq_true h13)) (td hK8 (aG rfl (dp hK7 (ai (fun _ hK9=>aH (av (fun _ hK10=>?_)))))))
  obtain ⟨h0,qr,rfl⟩:∃a r,ql=a::r:=by cases ql with|nil=>exact absurd ‹_› (by simp)|cons a r=>exact ⟨a,r,rfl⟩
  have hh0:=hb.inn h0 (List.mem_cons_self ..)
  refine ag rfl (ag rfl (tp rfl (ah (k':=0) CI CG rfl rfl hok (by omega) (by omega) (by omega)) ?_))
  refine bK CH rfl (dh (v:=.int .i64 h0) rfl (gD (.head _) (aQ (by first|omega| (simp;omega))))) ?_
  refine aR ?_
  refine bN Tryz.call110 rfl (AY (N:=N) (es:=E) h0) ?_
  rintro _ _ ⟨bs14,cp15,hok16,hle17,rfl,rfl⟩
  refine tp rfl (bC CI rfl rfl) (ag rfl (td hK10 (aH ?_)))
  refine cE (γ:=(Nat)×(Option Addr)×(Nat)) (fun (j,bm,cm)=>j≤(cg E h0).length∧bB bm (dm h0 ((cg E h0).take j) (far,h0::qr)).2.length∧(dm h0 ((cg E h0).take j) (far,h0::qr)).2.length≤cm) (fun (j,bm,cm)=>[(0,(vP g 0)),(1,(vI to)),(4,(.slice none 0 0)),(5,(.slice bs5 N cp6)),(6,(.slice bm ((dm h0 ((cg E h0).take j) (far,h0::qr)).2.length) cm)),(20,(.bool true)),(27,(.slice bs14 ((cg E h0).length) cp15)),(28,(vI (((cg E h0).length:Nat):Int))),(29,(vN j))]) (fun (j,bm,cm)=>(SlV 3 1 (.slice bs14 ((cg E h0).length) cp15) ((cg E h0).length) (aF .i64 (cg E h0)))::(aT g N E)::(rA 3 1 (.slice bm ((dm h0 ((cg E h0).take j) (far,h0::qr)).2.length) cm) ((dm h0 ((cg E h0).take j) (far,h0::qr)).2.length) (aF .i64 ((dm h0 ((cg E h0).take j) (far,h0::qr)).2)))::(SlV 3 1 (.slice bs5 N cp6) N (aF .i64 ((dm h0 ((cg E h0).take j) (far,h0::qr)).1)))::R) (fun (j,bm,cm)=>(cg E h0).length-j) (0,bl,cl) ⟨by omega,hok,hle⟩ ⟨rfl,rfl,rfl,rfl,rfl,rfl,rfl,rfl,rfl,trivial⟩ (fun _ h=>h) ?_
  rintro ⟨j,bm,cm⟩ K11 hF hK11
  try dsimp only at hF hK11⊢
  obtain ⟨hj,hokm,hlem⟩:=hF
  have hm:=hb.mids hgok ht j
  have hfl2:=hm.len
  have hil:=hgok.inns_le h0
  have hjb:j< (cg E h0).length→0≤(cg E h0).getD j 0∧(cg E h0).getD j 0<N:=fun hj'=>hgok.inns_inn (a:=h0) (by simp [List.getD,hj'])
  obtain ⟨qs,hqs⟩:=hm.hd
  have hql:(dm h0 ((cg E h0).take j) (far,h0::qr)).2.length=qs.length+1:=by rw [hqs];rfl
  have hcn0:=oG hb hgok ht j
  have hng:iV far≤N:=by unfold iV;rw [←hfl];exact List.countP_le_length
  have hbt:=hlt.mids hb hgok ht j
  have hbh:=hbt h0.toNat (by omega)
  have hh1:=(hm.inn h0 (by rw [hqs];exact List.mem_cons_self ..)).2.2
  rw [List.length_cons] at hcn0 hsz
  refine av (fun _ hK12=>?_)
  by_cases h18:(j:Int)< (((cg E h0).length:Nat):Int)
  ·refine tp rfl (aJ rfl rfl (decide_eq_true h18)) (td hK12 (ai (fun _ hK13=>aG rfl (dp hK13 (ai (fun _ hK14=>aH (ai (fun _ hK15=>?_))))))))
   refine aj (tp rfl (ah (k':=j) CI CG rfl rfl hok16 (by omega) (by omega) (by omega)) ?_)
   refine bK CH rfl (aw (.head _) (aQ (by omega))) ?_
   refine aA rfl (td hK15 (av (fun _ hK16=>ag rfl (ag rfl (tp rfl (ah (k':=((cg E h0).getD j 0).toNat) CI CG rfl rfl hok7 (by have:=hjb (by omega);omega) (by have:=hjb (by omega);omega) (by have:=hjb (by omega);omega)) ?_)))))
   refine bK CH rfl (aw (.tail _ (.tail _ (.tail _ (.head _)))) (aQ (by have:=hjb (by omega);omega))) ?_
   by_cases h19:(((dm h0 ((cg E h0).take j) (far,h0::qr)).1).getD (((cg E h0).getD j 0).toNat) 0)<0
   ·refine tp rfl (aJ rfl rfl (decide_eq_true h19)) (td hK16 (aG rfl (av (fun _ hK17=>ag rfl (ag rfl (ag rfl (ag rfl ?_)))))))
    refine tp rfl (ah (k':=0) CI CG rfl rfl hokm (by omega) (by omega) (by omega)) ?_
    refine bK CH rfl (dh (v:=.int .i64 h0) (by rw [hqs];rfl) (gD (.tail _ (.tail _ (.head _))) (aQ (by first|omega| (simp;omega))))) ?_
    refine tp rfl (ah (k':=h0.toNat) CI CG rfl rfl hok7 (by omega) (by omega) (by omega)) ?_
    refine bK CH rfl (aw (.tail _ (.tail _ (.tail _ (.head _)))) (aQ (by omega))) ?_
    refine tp rfl (aX (c:=(((dm h0 ((cg E h0).take j) (far,h0::qr)).1).getD h0.toNat 0)+1) rfl rfl (cA (by omega) (by omega))) ?_
    refine tp rfl (ah (k':=((cg E h0).getD j 0).toNat) CI CG rfl rfl hok7 (by have:=hjb (by omega);omega) (by have:=hjb (by omega);omega) (by have:=hjb (by omega);omega)) ?_
    refine aS ?_
    refine ts (gN CG rfl rfl rfl (by rw [ints_length];have:=hjb (by omega);omega) eD) ?_
    refine td hK17 (aj (ag rfl (ag rfl ?_)))
    refine tm rfl (aD (cs:=[(vI ((cg E h0).getD j 0))]) CI CG CN (by decide) rfl rfl rfl rfl) ?_
    rintro _ _ ⟨bs20,cp21,hok22,hle23,rfl,rfl⟩
    refine de ?_
    refine tm rfl (oq (i:=Tryz.t3) CI C1 rfl rfl rfl (by decide) rfl rfl hok22 (by first| (simp;done)| (simp;omega)) (cj (.tail _ (.head _))) (by simp [Value.oneCell']) (by rw [show Tryz.t3.bytes=8 from rfl];omega)) ?_
    rintro _ _ ⟨bs24,cp25,hok26,hle27,rfl,rfl⟩
    rw [show aF .i64 ((dm h0 ((cg E h0).take j) (far,h0::qr)).2)++[(.int .i64 ((cg E h0).getD j 0))]=aF .i64 (((dm h0 ((cg E h0).take j) (far,h0::qr)).2)++[(cg E h0).getD j 0]) from dW _ _ _]
    refine aA rfl (aI (aZ (qn hK14 (aj (tp rfl (aX (c:=((j+1:Nat):Int)) rfl rfl (aB (by omega))) ?_)))))
    refine ag rfl (aI (aN (aE (ak (aE (aE (aS (aS ?_))))))))
    obtain ⟨hy1,hy2⟩:=zh (h:=h0) (far:=far) (l:=h0::qr) (show j< (cg E h0).length by omega) h19
    have hyl:((dm h0 ((cg E h0).take j) (far,h0::qr)).2.length)+1=(dm h0 ((cg E h0).take (j+1)) (far,h0::qr)).2.length:=by rw [hy2,List.length_append];rfl
    rw [←hy1,←hy2,hyl]
    rw [hyl] at hok26 hle27
    exact az (by exact ⟨rfl,rfl,rfl,rfl,rfl,rfl,rfl,rfl,rfl,trivial⟩) ((hK11 (j+1,bs24,cp25) ⟨by omega,hok26,hle27⟩ (by dsimp only;omega)))
   ·refine tp rfl (aJ rfl rfl (decide_eq_false h19)) (td hK16 (ar rfl (cS (aZ (qn hK14 (aj (tp rfl (aX (c:=((j+1:Nat):Int)) rfl rfl (aB (by omega))) ?_)))))))
    refine ag rfl (aI (aN ?_))
    have hy:=zt (h:=h0) (far:=far) (l:=h0::qr) (show j< (cg E h0).length by omega) h19
    rw [←hy] at hokm hlem⊢
    exact az (by exact ⟨rfl,rfl,rfl,rfl,rfl,rfl,rfl,rfl,rfl,trivial⟩) ((hK11 (j+1,bm,cm) ⟨by omega,hokm,hlem⟩ (by dsimp only;omega)))
  ·refine tp rfl (aJ rfl rfl (decide_eq_false h18)) (td hK12 (ai (fun _ hK13=>ar rfl (bT (au (au (bS (aZ ?_))))))))
   refine qn hK9 (aj (ag rfl (tp rfl (ed (l:=1) (h:=(dm h0 ((cg E h0).take j) (far,h0::qr)).2.length) (m:=cm) (v:=(.slice (eu bm 1 cm 1) (((dm h0 ((cg E h0).take j) (far,h0::qr)).2.length)-1) (cm-1))) CI CG rfl rfl rfl rfl (.inr ⟨rfl,rfl⟩) (.inr ⟨rfl,rfl⟩) (.inl ⟨_,_,rfl,(by omega),(by omega),(by omega)⟩) (by simp) rfl) ?_)))
   refine aR ?_
   refine bO (fun _ h=>sg (l:=1) (n':=((dm h0 ((cg E h0).take j) (far,h0::qr)).2.length)-1) (c':=cm-1) (by omega) (by omega) (by omega) (by omega) h) ?_
   rw [show (aF .i64 ((dm h0 ((cg E h0).take j) (far,h0::qr)).2)).drop (1*1)=aF .i64 (((dm h0 ((cg E h0).take j) (far,h0::qr)).2).drop 1) from by rw [Nat.mul_one,kV]]
   refine aY (fun _ h=>mN h) (fun hbx=>?_)
   obtain ⟨hok28,hle29⟩:=hbx
   refine aA rfl (aI (aN (aE (ak (aE (aR (aR ?_)))))))
   have hln:((dm h0 ((cg E h0).take j) (far,h0::qr)).2.length)-1=(((dm h0 ((cg E h0).take j) (far,h0::qr)).2).drop 1).length:=by rw [List.length_drop]
   rw [hln] at hok28 hle29⊢
   have hcn:=oG hb hgok ht j
   have hbn:=hlt.mids hb hgok ht j
   have hmn:=hb.mids hgok ht j
   rw [show (cg E h0).take j=cg E h0 from List.take_of_length_le (by omega)] at hcn hbn hmn hln hql hok28 hle29⊢
   exact az (by exact ⟨rfl,rfl,rfl,rfl,rfl,trivial⟩) ((hK6 ((dm h0 (cg E h0) (far,h0::qr)).1,((dm h0 (cg E h0) (far,h0::qr)).2).drop 1,(eu bm 1 cm 1),cm-1) ⟨by rw [List.drop_one];exact hmn.bfs hgok,hbn,hok28,hle29,by dsimp only;rw [List.length_drop];rw [List.length_cons] at hcn;omega⟩ (by dsimp only;rw [List.length_drop];rw [List.length_cons] at hcn⊢;omega)))
 ·refine tp rfl (cu rfl rfl (decide_eq_false h13)) (td hK8 (ar rfl (bT (au (au (bS (qn hK4 (ai (fun _ hK9=>?_)))))))))
  refine aj (ag rfl (aA rfl (td hK9 (ay (ak ?_)))))
  refine aM rfl rfl ?_
  obtain rfl:ql=[]:=by cases ql with|nil=>rfl|cons a r=>exact absurd ‹_› (by simp)
  rw [hb.end_ hgok ht]
  exact ⟨_,_,hok7,hle8,rfl,rfl⟩
end Go.Proofs.YtanfdikglplkaaaGreatDoor
set_option maxRecDepth 100000
namespace Go.Proofs.YtanfdikglplkaaaGreatDoor
open Go Go.Proofs Sp
set_option maxHeartbeats 4000000 in
theorem ye{R:List HP}(x y:Int){c1 c2 N cp:Nat}{E:Es}{to:Int}{bf:Option Addr}(hx:0≤x∧x<N)(hy:0≤y∧y<N)(hf:Rd R bf (aF .i64 (oU N E to)))(okf:bB bf N)(h1:Gives R ⟨c1,0,none⟩ (.slice bf N cp))(h2:Gives R ⟨c2,0,none⟩ (.int .i64 y))(hlow: -1≤eb E to y)(hup:eb E to y<100):
 Ok Tryz.prog 171 [(vI x),(vP c1 0),(vP c2 0)] R
  (fun v M=>v=.bool (eb E to x==eb E to y-1)∧M=R):=by
 have hfl:=oH N E to
 refine aP (N:=15) Tryz.func171 rfl rfl rfl (fun W=>?_)
 refine av (fun _ hK1=>aA rfl (td hK1 (ai (fun _ hK2=>?_))))
 refine bz (γ:=Unit) (n:=11) Tryz.mixed rfl rfl (fun _ S=>True) (fun _=>[(0,5,(.slice bf N cp)),(1,6,(vI x)),(2,7,(.pointer (some (ad bf x.toNat)))),(3,8,(vI (eb E to x))),(4,9,(.slice bf N cp)),(5,10,(vI y)),(6,11,(.pointer (some (ad bf y.toNat)))),(7,12,(vI (eb E to y))),(8,13,(vI (eb E to y-1))),(9,14,(.bool (eb E to x==eb E to y-1))),(10,4,(.bool (eb E to x==eb E to y-1)))]) (fun _ S=>R) (()) trivial (fun _ h=>h) (fun _ _ h=>h) ?_ ?_
 ·refine ⟨dB CL rr rr fun _ _=>h1,aU,eJ CI CG rr rr rr fun _=>⟨okf,by omega,by omega,by omega⟩,dB CH rr rr fun _ _=>dh (v:=.int .i64 (eb E to x)) (by rw [rj hx]) (Rd.gives hf (aQ (by omega))),dB CL rr rr fun _ _=>h1,dB CH rr rr fun _ _=>h2,eJ CI CG rr rr rr fun _=>⟨okf,by omega,by omega,by omega⟩,dB CH rr rr fun _ _=>dh (v:=.int .i64 (eb E to y)) (by rw [rj hy]) (Rd.gives hf (aQ (by omega))),?_,?_,fh,trivial⟩
  ·intro _ S h s D p K k;exact bH (bE p 7 rfl rfl) (eR (c:=eb E to y-1) rfl rfl (cA (by omega) (by have h3:=hup;omega))) 8 rfl rfl s (k () h)
  ·intro _ S h s D p K k;exact bV (bE p 3 rfl rfl) (bE p 8 rfl rfl) (aV rfl rfl rfl) 9 rfl rfl s (k () h)
 ·rintro _ hF
  try dsimp only at hF⊢
  refine az (E':=[(0,(vI x)),(1,(vP c1 0)),(2,(vP c2 0)),(4,(.bool (eb E to x==eb E to y-1)))]) ⟨rfl,rfl,rfl,rfl,trivial⟩ ?_
  refine qn hK2 (ay ?_)
  refine aM rfl rfl ?_
  exact ⟨rfl,rfl⟩
set_option maxHeartbeats 4000000 in
theorem Aq{R:List HP}{g N:Nat}{E:Es}(a to:Int):
 Ok Tryz.prog 149 [(vP g 0),(vI a),(vI to)] ((aT g N E)::R)
  (dZ 3 1 ((ee N E a to).length) (aF .i64 (ee N E a to)) (aT g N E::R)):=by
 refine aP (N:=50) Tryz.func149 rfl rfl rfl (fun W=>?_)
 refine aY (fun _ h=>fH h) (fun hgok=>?_)
 have hsmall:=hgok.small
 refine av (fun _ hK1=>aA rfl (td hK1 (ai (fun _ hK2=>av (fun _ hK3=>ag rfl (ag rfl ?_))))))
 refine bN Tryz.call169 rfl (pR (N:=N) (es:=E) a) ?_
 rintro _ _ ⟨rfl,rfl⟩
 refine tp rfl (dy (c:= !(valid N a)) rfl rfl) (ag rfl ?_)
 rcases hb1:valid N a with _|_
 ·refine aq rfl rfl rfl ?_
  refine aq rfl rfl rfl ?_
  refine aq rfl rfl rfl ?_
  refine aq rfl rfl rfl ?_
  refine tp rfl (aL rfl rfl) (td hK3 (aG rfl (av (fun _ hK4=>aA rfl (td hK4 (ay ?_))))))
  refine aK ?_
  refine bO (fun _ h=>cz 3 1 h) ?_
  refine aM rfl rfl ?_
  rw [show ee N E a to=[] from if_neg (by rintro ⟨q1,q2,q3⟩;first|omega| (have hA:= ‹valid N a=false›;rw [q1] at hA;cases hA)| (have hA:= ‹(!valid N to)=true›;rw [q2] at hA;cases hA))]
  exact ⟨none,0,cn,Nat.le_refl _,rfl,rfl⟩
 ·refine ae rfl rfl ?_
  refine ag rfl ?_
  refine ae rfl rfl ?_
  refine ag rfl ?_
  refine ae rfl rfl ?_
  refine bN Tryz.call169 rfl (pR (N:=N) (es:=E) to) ?_
  rintro _ _ ⟨rfl,rfl⟩
  refine ae rfl rfl ?_
  refine tp rfl (dy (c:= !(valid N to)) rfl rfl) (tp rfl (aC rfl rfl) (td hK3 ?_))
  refine cW rfl (fun c2=>?_) (fun c2=>?_)
  ·refine av (fun _ hK4=>aA rfl (td hK4 (ay ?_)))
   refine aK ?_
   refine bO (fun _ h=>cz 3 1 h) ?_
   refine aM rfl rfl ?_
   rw [show ee N E a to=[] from if_neg (by rintro ⟨q1,q2,q3⟩;first|omega| (have hA:= ‹valid N a=false›;rw [q1] at hA;cases hA)| (have hA:= ‹(!valid N to)=true›;rw [q2] at hA;cases hA))]
   exact ⟨none,0,cn,Nat.le_refl _,rfl,rfl⟩
  ·refine dp hK2 (av (fun _ hK4=>?_))
   have hva:valid N a=true:=by simp_all
   have hvt:valid N to=true:=by simp_all
   have ha:=valid_iff.1 hva
   have ht:=valid_iff.1 hvt
   refine ag rfl (ag rfl ?_)
   refine bN Tryz.call170 rfl (Ar (N:=N) (E:=E) to (by omega)) ?_
   rintro _ _ ⟨bs3,cp4,hok5,hle6,rfl,rfl⟩
   refine tm rfl (cD Tryz.zeroValue34 rfl) ?_
   rintro _ _ ⟨b7,rfl,rfl⟩
   refine ts (cM CK rfl rfl rfl (nB rfl) rfl) ?_
   refine td hK4 (ai (fun _ hK5=>av (fun _ hK6=>?_)))
   have hfll:=oH N E to
   refine bK CL rfl (aa (.head _) rfl) (ag rfl (tp rfl (ah (k':=a.toNat) CI CG rfl rfl hok5 (by omega) (by omega) (by omega)) ?_))
   refine bK CH rfl (dh (v:=.int .i64 (eb E to a)) (by rw [rj ha]) (aw (.tail _ (.head _)) (aQ (by omega)))) ?_
   by_cases h8:(eb E to a)<0
   ·refine tp rfl (aJ rfl rfl (decide_eq_true h8)) (td hK6 (aG rfl (av (fun _ hK7=>aA rfl (td hK7 (ay ?_))))))
    refine aK ?_
    refine bO (fun _ h=>cz 3 1 h) ?_
    refine aE (ak (aE (ak ?_)))
    refine aM rfl rfl ?_
    rw [show ee N E a to=[] from if_neg (by rintro ⟨q1,q2,q3⟩;first|omega| (have hA:= ‹valid N a=false›;rw [q1] at hA;cases hA)| (have hA:= ‹(!valid N to)=true›;rw [q2] at hA;cases hA))]
    exact ⟨none,0,cn,Nat.le_refl _,rfl,rfl⟩
   ·refine tp rfl (aJ rfl rfl (decide_eq_false h8)) (td hK6 (ar rfl (dp hK5 (av (fun _ hK7=>?_)))))
    obtain ⟨d,hd⟩:∃d:Nat,eb E to a=(d:Int):=⟨(eb E to a).toNat,by omega⟩
    have hdl:d<64:=by have:=q6 hgok ha ht;omega
    refine ag rfl ?_
    refine tm rfl (aD (cs:=[(vI a)]) CI CG CN (by decide) rfl rfl rfl rfl) ?_
    rintro _ _ ⟨bs9,cp10,hok11,hle12,rfl,rfl⟩
    refine aA rfl (td hK7 (ai (fun _ hK8=>av (fun _ hK9=>ag rfl ?_))))
    refine tm rfl (cD CN rfl) ?_
    rintro _ _ ⟨b13,rfl,rfl⟩
    refine ts (cM CG rfl rfl rfl (nB rfl) rfl) ?_
    refine td hK9 (aH ?_)
    have hl1:bB bs9 (0+1)∧0+1≤cp10:=⟨hok11,hle12⟩
    rw [show [Value.int .i64 a]=aF .i64 (gj E to 0 a) from rfl]
    skip
    refine cE (γ:=(Nat)×(Nat)×(Option Addr)×(Nat)) (fun (k,b9,bt,ct)=>k≤d∧bB bt (k+1)∧k+1≤ct) (fun (k,b9,bt,ct)=>[(0,(vP g 0)),(1,(vI a)),(2,(vI to)),(6,(.slice none 0 0)),(7,(vP b7 0)),(8,(.slice bt (k+1) ct)),(9,(vP b9 0)),(20,(.bool (!(valid N to)))),(28,(.bool false))]) (fun (k,b9,bt,ct)=>(bI b9 [(vI (atN E to k a))] 3)::(SlV 3 1 (.slice bt (k+1) ct) (k+1) (aF .i64 (gj E to k a)))::(bI b7 [(.slice bs3 N cp4)] 34)::(SlV 3 1 (.slice bs3 N cp4) N (aF .i64 (oU N E to)))::(aT g N E)::R) (fun (k,b9,bt,ct)=>d-k) (0,b13,bs9,cp10) ⟨by omega,hl1.1,hl1.2⟩ ⟨rfl,rfl,rfl,rfl,rfl,rfl,rfl,rfl,rfl,trivial⟩ (fun _ h=>h) ?_
    rintro ⟨k,b9,bt,ct⟩ K10 hF hK10
    try dsimp only at hF hK10⊢
    obtain ⟨hk,hok,hle⟩:=hF
    have hat:=hgok.atN hd ha k hk
    have hfk:=qp hd k hk
    have hfl0:=AG E to (atN E to k a)
    have hfu:eb E to (atN E to k a)<100:=by have:=q6 hgok hat ht;omega
    have hnx:atN E to (k+1) a=pw E to (atN E to k a):=rfl
    have hpn:=m6 E to k a
    have hplen:=ju E to k a
    have houl:=hgok.outs_le (atN E to k a)
    refine ai (fun _ hK11=>av (fun _ hK12=>bK CH rfl (aa (.head _) rfl) (ag rfl ?_)))
    by_cases h14:(atN E to k a)=to
    ·refine tp rfl (cG rfl rfl (bne_eq_false_iff_eq.2 h14)) (td hK12 (ar rfl (bT (au (au (bS (qn hK8 (ai (fun _ hK13=>?_)))))))))
     refine aj (ag rfl (aA rfl (td hK13 (ay (ak (aE (ak (aE ?_))))))))
     refine ak ?_
     refine aM rfl rfl ?_
     have hkd:k=d:=by
      rcases Nat.lt_or_ge k d with h|h
      ·have h0:atN E to k a=to:=by first|exact Classical.not_not.1 ‹_› |assumption
       rw [h0,wT] at hfk;omega
      ·omega
     subst hkd
     rw [show gj E to k a=ee N E a to from by unfold ee;rw [if_pos ⟨hva,hvt,by omega⟩,hd];rfl]
     have hpl:(ee N E a to).length=k+1:=by unfold ee;rw [if_pos ⟨hva,hvt,by omega⟩,ju,hd];rfl
     rw [hpl]
     exact ⟨bt,ct,hok,hle,rfl,rfl⟩
    ·refine tp rfl (cG rfl rfl (bne_iff_ne.2 h14)) (td hK12 (aG rfl (dp hK11 (ai (fun _ hK13=>aH (av (fun _ hK14=>?_)))))))
     have hkd:k<d:=by
      rcases Nat.lt_or_ge k d with h|h
      ·exact h
      ·exact absurd (vQ (es:=E) (by rw [hfk];omega)) ‹_›
     obtain ⟨hi0,hi1,_,_⟩:=sG (uP (es:=E) (to:=to) (a:=atN E to k a) (d:=d-k-1) (by rw [hfk];congr 1;omega))
     refine ag rfl (bK CH rfl (aa (.head _) rfl) (de ?_))
     refine bN Tryz.call43 rfl (xa (N:=N) (es:=E) (atN E to k a)) ?_
     rintro _ _ ⟨bs15,cp16,hok17,hle18,rfl,rfl⟩
     refine aA rfl (td hK14 (av (fun _ hK15=>ag rfl (ag rfl (tp rfl (fU rfl) ?_)))))
     refine bN Tryz.call100 rfl (iz (p:=fun b=>eb E to b==eb E to (atN E to k a)-1) (cP E (atN E to k a)) ⟨Tryz.call171,fun x hx=>ye x (atN E to k a) (hgok.outs_inn hx) hat (cj (.tail _ (.tail _ (.tail _ (.tail _ (.tail _ (.head _))))))) hok5 (aa (.tail _ (.tail _ (.tail _ (.tail _ (.head _))))) rfl) (aa (.tail _ (.tail _ (.head _))) rfl) hfl0 hfu⟩ (cj (.head _)) hok17 (by first|omega| (simp;omega)| (simp;done))) ?_
     rintro _ _ ⟨rfl,rfl⟩
     refine tp rfl (ah (k':=(eU (fun b=>eb E to b==eb E to (atN E to k a)-1) (cP E (atN E to k a))).toNat) CI CG rfl rfl hok17 (by omega) (by omega) (by omega)) ?_
     refine bK CH rfl (dh (v:=.int .i64 (atN E to (k+1) a)) rfl (aw (.head _) (aQ (by omega)))) ?_
     refine aR ?_
     refine ts (cM CG rfl rfl rfl (nB rfl) rfl) ?_
     refine td hK15 (aj (ag rfl (bK CH rfl (aa (.head _) rfl) ?_)))
     refine tm rfl (aD (cs:=[(vI (atN E to (k+1) a))]) CI CG CN (by decide) rfl rfl rfl rfl) ?_
     rintro _ _ ⟨bs19,cp20,hok21,hle22,rfl,rfl⟩
     refine de ?_
     refine tm rfl (cR (i:=Tryz.t3) CI C1 rfl rfl rfl (by decide) rfl rfl hok21 (by first| (simp;done)| (simp;omega)) (cj (.tail _ (.head _))) (by simp [Value.oneCell']) (by rw [show Tryz.t3.bytes=8 from rfl];omega)) ?_
     rintro _ _ ⟨bs23,cp24,hok25,hle26,rfl,rfl⟩
     rw [show aF .i64 (gj E to k a)++[(.int .i64 (atN E to (k+1) a))]=aF .i64 ((gj E to k a)++[atN E to (k+1) a]) from dW _ _ _]
     refine aA rfl (aI (aZ (qn hK13 (av (fun _ hK16=>bK CH rfl (aa (.tail _ (.tail _ (.head _))) rfl) (td hK16 (aj ?_)))))))
     refine tm rfl (cD CN rfl) ?_
     rintro _ _ ⟨b27,rfl,rfl⟩
     refine ts (cM CG rfl rfl rfl (nB rfl) rfl) ?_
     refine aI (aN (aR (ak (aR (ak (aR (ak (aR (de ?_)))))))))
     refine de (de (de ?_))
     rw [←hpn]
     exact az (by exact ⟨rfl,rfl,rfl,rfl,rfl,rfl,rfl,rfl,rfl,trivial⟩) ((hK10 (k+1,b27,bs23,cp24) ⟨by omega,hok25,hle26⟩ (by dsimp only;omega)))
theorem vl{R:List HP}{g N:Nat}{E:Es}(a b:Int):
 Ok Tryz.prog 113 [(vP g 0),(vI a),(vI b)] ((aT g N E)::R)
  (dZ 3 1 ((ee N E b a).length) (aF .i64 (ee N E b a)) (aT g N E::R)):=by
 refine aP (N:=11) Tryz.func113 rfl rfl rfl (fun W=>?_)
 refine av (fun _ hK1=>aA rfl (td hK1 (av (fun _ hK2=>ag rfl (ag rfl (ag rfl ?_))))))
 refine bN Tryz.call149 rfl (Aq b a) ?_
 rintro _ _ ⟨bs1,cp2,hok3,hle4,rfl,rfl⟩
 refine aA rfl (td hK2 (ay ?_))
 refine aM rfl rfl ?_
 exact ⟨_,_,hok3,hle4,rfl,rfl⟩
end Go.Proofs.YtanfdikglplkaaaGreatDoor
set_option maxRecDepth 100000
namespace Go.Proofs.YtanfdikglplkaaaGreatDoor
open Go Go.Proofs Sp
set_option maxHeartbeats 4000000 in
theorem zU{R:List HP}{e:Nat}{x:EP}{q A Q:Int}{y:OS}{vr:Nat}{es:Es}(t d:Nat)(htd:t<x.n∧d<x.n)(hy:OvOk x.n x.m A Q y)(hA:A≤400∧Q≤400)(hV:VTab vr R):
 Ok Tryz.prog 66 [(vP e 0),(vN t),(vN d)] ((bQ e x y.s)::(aT x.g x.n es)::(bF x.tn q y.ms y.ta)::(dv x.ad A Q y.as)::R)
  (fun v M=> ∃(z:OS) (es':Es),KpO x.n x.m A Q y z∧v=.tuple #[]∧M=bQ e x z.s::aT x.g x.n es'::bF x.tn q z.ms z.ta::dv x.ad A Q z.as::R):=by
 refine aP (N:=119) Tryz.func66 rfl rfl rfl (fun W=>?_)
 refine aY (fun _ h=>dG h) (fun hE=>?_)
 have hE_nb:=hE.nb
 have hE_mb:=hE.mb
 have hE_tn:=hE.tn
 have hE_ln:=hE.ln
 have hE_mn:=hE.mn
 have hn0:=hE.n0
 refine aE ?_
 refine aY (fun _ h=>fH h) (fun hgok=>?_)
 have hin:∀u∈ee x.n es (d:Int) (t:Int),0≤u∧u<x.n:=fun u hu=>by obtain ⟨i,hi,rfl⟩:=mem_at.1 hu;exact ug hgok hi
 have hpl:=uE hgok (a:=(d:Int)) (to:=(t:Int))
 refine av (fun _ hK1=>ag rfl (cV rfl (bU 13 CJ rfl DZ rfl rfl (bK DN rfl (bu (v:=(vP x.g 0)) (.tail _ (.head _)) (fun _ _=>rfl)) (ag rfl (ag rfl ?_))))))
 refine bN Tryz.call113 rfl (vl (N:=x.n) (E:=es) (t:Int) (d:Int)) ?_
 rintro _ _ ⟨bs1,cp2,hok3,hle4,rfl,rfl⟩
 refine aA rfl (td hK1 (av (fun _ hK2=>ag rfl (cV rfl (bU 13 CJ rfl DZ rfl rfl (bK DN rfl (bu (v:=(vP x.g 0)) (.tail _ (.tail _ (.head _))) (fun _ _=>rfl)) (ag rfl ?_)))))))
 refine ag rfl (aE ?_)
 refine bN Tryz.call114 rfl (Bf (N:=x.n) (es:=es) (t:Int) (d:Int)) ?_
 rintro _ _ ⟨rfl,rfl⟩
 refine td hK2 (ai (fun _ hK3=>?_))
 refine bz (γ:=Unit) (n:=16) Tryz.mixed rfl rfl (fun _ S=>True) (fun _=>[(0,23,(vP e 0)),(1,24,(vP e 0)),(2,25,(vP e 11)),(3,26,(.slice x.bt x.n x.ct)),(4,27,(vN t)),(5,28,(.pointer (some (ad x.bt t)))),(6,29,(.pointer (some ⟨(x.ks.getD t (0,0)).1,0,none⟩))),(7,30,(vP e 0)),(8,31,(vP e 0)),(9,32,(vP e 11)),(10,33,(.slice x.bt x.n x.ct)),(11,34,(vN d)),(12,35,(.pointer (some (ad x.bt d)))),(13,36,(.pointer (some ⟨(x.ks.getD d (0,0)).1,0,none⟩))),(14,7,(.pointer (some ⟨(x.ks.getD t (0,0)).1,0,none⟩))),(15,8,(.pointer (some ⟨(x.ks.getD d (0,0)).1,0,none⟩)))]) (fun _ S=>(aT x.g x.n (mC x.n es (t:Int) (d:Int)))::(SlV 3 1 (.slice bs1 ((ee x.n es (d:Int) (t:Int)).length) cp2) ((ee x.n es (d:Int) (t:Int)).length) (aF .i64 (ee x.n es (d:Int) (t:Int))))::(bQ e x y.s)::(bF x.tn q y.ms y.ta)::(dv x.ad A Q y.as)::R) (()) trivial (fun _ h=>h) (fun _ _ h=>h) ?_ ?_
 ·refine ⟨aU,bW,bL CJ rfl C9,dB Dc rr rr fun _ _=>bu (v:=(.slice x.bt x.n x.ct)) (.tail _ (.tail _ (.head _))) (fun _ _=>rfl),aU,eJ C6 De rr rr rr fun _=>⟨hE.okt,by omega,by omega,by omega⟩,dB Df rr rr fun _ _=>dT (i:=t) (.tail _ (.tail _ (.head _))) (by omega),aU,bW,bL CJ rfl C9,dB Dc rr rr fun _ _=>bu (v:=(.slice x.bt x.n x.ct)) (.tail _ (.tail _ (.head _))) (fun _ _=>rfl),aU,eJ C6 De rr rr rr fun _=>⟨hE.okt,by omega,by omega,by omega⟩,dB Df rr rr fun _ _=>dT (i:=d) (.tail _ (.tail _ (.head _))) (by omega),fh,fh,trivial⟩
 ·rintro _ hF
  try dsimp only at hF⊢
  refine az (E':=[(0,(vP e 0)),(1,(vN t)),(2,(vN d)),(6,(.slice bs1 ((ee x.n es (d:Int) (t:Int)).length) cp2)),(7,(.pointer (some ⟨(x.ks.getD t (0,0)).1,0,none⟩))),(8,(.pointer (some ⟨(x.ks.getD d (0,0)).1,0,none⟩)))]) ⟨rfl,rfl,rfl,rfl,rfl,rfl,trivial⟩ ?_
  refine qn hK3 (ai (fun _ hK4=>av (fun _ hK5=>ag rfl (tp rfl (bC CI rfl rfl) ?_))))
  by_cases h5:(((ee x.n es (d:Int) (t:Int)).length:Nat):Int)>0
  ·refine tp rfl (cu rfl rfl (decide_eq_true h5)) (td hK5 (aG rfl (av (fun _ hK6=>ag rfl (ag rfl (de (de ?_)))))))
   refine aR (de ?_)
   refine bN Tryz.call115 rfl (zq (x:=x) (y:=y) (A:=A) (Q:=Q) (ee x.n es (d:Int) (t:Int)) hin (cj (.head _)) hok3 (by omega) hy hA (VTab.cons hV)) ?_
   rintro _ _ ⟨yo6,hkp7,rfl,rfl⟩
   refine td hK6 (ay ?_)
   refine aK ?_
   refine de (ak ?_)
   refine jO rfl ?_
   exact ⟨yo6,_,hkp7,rfl,rfl⟩
  ·refine tp rfl (cu rfl rfl (decide_eq_false h5)) (td hK5 (ar rfl (dp hK4 (ai (fun _ hK6=>av (fun _ hK7=>ag rfl ?_))))))
   refine cV rfl (bU 2 CP rfl CU rfl rfl (bK CV rfl (bY (i:=d) (v:=(.pointer (some ⟨(x.ks.getD d (0,0)).2,0,none⟩))) (.tail _ (.tail _ (.head _))) (by omega) rfl) ?_))
   refine aR ?_
   refine bN DF rfl (dK (i:=d) (by omega) (fun _=>fc _)) ?_
   rintro _ _ ⟨rfl,rfl⟩
   refine td hK7 (aH (av (fun _ hK8=>?_)))
   by_cases h8:((y.s.lf.getD d Lf.z).st)=5
   ·refine tp rfl (aV rfl rfl (beq_iff_eq.2 h8)) (aA rfl (td hK8 (aG rfl (av (fun _ hK9=>ag rfl (cV rfl (bU 2 CP rfl CU rfl rfl ?_)))))))
    refine bK CV rfl (bY (i:=t) (v:=(.pointer (some ⟨(x.ks.getD t (0,0)).2,0,none⟩))) (.head _) (by omega) rfl) ?_
    refine bN Tryz.call116 rfl (fj (i:=t) (y:=lK (y.s.lf.getD t Lf.z)) (by omega) (fun h=>h.again) (fun h _=>vg _ h)) ?_
    rintro _ _ ⟨rfl,rfl⟩
    refine td hK9 (ay ?_)
    refine cH ?_
    refine aK ?_
    refine aR (ak ?_)
    refine jO rfl ?_
    exact ⟨(⟨y.s.lfu t lK,y.ms,y.ta,y.as⟩:OS),_,KpO.of (s':=y.s.lfu t lK) hy rfl (Kp.trans (b:=y.s) (Kp.refl _) (Kp.lfu _ _ (lh 2 1))),rfl,rfl⟩
   ·refine tp rfl (aV rfl rfl (beq_eq_false_iff_ne.2 h8)) (aA rfl (td hK8 (ar rfl (av (fun _ hK9=>?_)))))
    by_cases h9:((y.s.lf.getD d Lf.z).st)=6
    ·refine tp rfl (aV rfl rfl (beq_iff_eq.2 h9)) (aA rfl (td hK9 (aG rfl (av (fun _ hK10=>ag rfl (cV rfl (bU 2 CP rfl CU rfl rfl ?_)))))))
     refine bK CV rfl (bY (i:=t) (v:=(.pointer (some ⟨(x.ks.getD t (0,0)).2,0,none⟩))) (.head _) (by omega) rfl) ?_
     refine bN Tryz.call117 rfl (fj (i:=t) (y:=eN (y.s.lf.getD t Lf.z)) (by omega) (fun h=>h.wait) (fun h _=>rD _ h)) ?_
     rintro _ _ ⟨rfl,rfl⟩
     refine td hK10 (av (fun _ hK11=>ag rfl (cV rfl (bU 2 CP rfl CU rfl rfl (bK CV rfl (bY (i:=t) (v:=(.pointer (some ⟨(x.ks.getD t (0,0)).2,0,none⟩))) (.head _) (by omega) rfl) ?_)))))
     refine bN Tryz.call118 rfl (fj (i:=t) (y:=gz ((y.s.lfu t eN).lf.getD t Lf.z)) (by omega) (fun h=>h.fall) (fun h _=>oL _ h)) ?_
     rintro _ _ ⟨rfl,rfl⟩
     refine td hK11 (av (fun _ hK12=>ag rfl (ag rfl (de (de (aS (aS ?_)))))))
     refine bN Ee rfl (iI (x:=x) (y:=(⟨(y.s.lfu t eN).lfu t gz,y.ms,y.ta,y.as⟩:OS)) (A:=A) (Q:=Q) t (by omega) (hy.fol rfl) hA (VTab.cons hV)) ?_
     rintro _ _ ⟨sf11,yo10,hsf11f,hyo10v,hyo10c,rfl,rfl⟩
     refine td hK12 (ay ?_)
     refine cH ?_
     refine aK ?_
     refine de (ak ?_)
     refine jO rfl ?_
     exact ⟨yo10,_,KpO.trans (KpO.of (s':=(y.s.lfu t eN).lfu t gz) hy rfl (Kp.trans (b:=y.s.lfu t eN) (Kp.trans (b:=y.s) (Kp.refl _) (Kp.lfu _ _ (lh 2 3))) (Kp.lfu _ _ qV))) (KpO.set (y:=(⟨(y.s.lfu t eN).lfu t gz,y.ms,y.ta,y.as⟩:OS)) (hy.fol rfl) hsf11f hyo10v),rfl,rfl⟩
    ·refine tp rfl (aV rfl rfl (beq_eq_false_iff_ne.2 h9)) (aA rfl (td hK9 (ar rfl (av (fun _ hK10=>?_)))))
     by_cases h12:((y.s.lf.getD d Lf.z).st)=7
     ·refine tp rfl (aV rfl rfl (beq_iff_eq.2 h12)) (aA rfl (td hK10 (aG rfl (av (fun _ hK11=>ag rfl (cV rfl (bU 2 CP rfl CU rfl rfl ?_)))))))
      refine bK CV rfl (bY (i:=t) (v:=(.pointer (some ⟨(x.ks.getD t (0,0)).2,0,none⟩))) (.head _) (by omega) rfl) ?_
      refine bN Tryz.call119 rfl (fj (i:=t) (y:=gA (y.s.lf.getD t Lf.z)) (by omega) (fun h=>h.turn) (fun h _=>nO _ h)) ?_
      rintro _ _ ⟨rfl,rfl⟩
      refine td hK11 (av (fun _ hK12=>ag rfl (ag rfl (de (de (aS (aS ?_)))))))
      refine bN Ee rfl (iI (x:=x) (y:=(⟨y.s.lfu t gA,y.ms,y.ta,y.as⟩:OS)) (A:=A) (Q:=Q) t (by omega) (hy.fol rfl) hA (VTab.cons hV)) ?_
      rintro _ _ ⟨sf14,yo13,hsf14f,hyo13v,hyo13c,rfl,rfl⟩
      refine td hK12 (ay ?_)
      refine cH ?_
      refine aK ?_
      refine de (ak ?_)
      refine jO rfl ?_
      exact ⟨yo13,_,KpO.trans (KpO.of (s':=y.s.lfu t gA) hy rfl (Kp.trans (b:=y.s) (Kp.refl _) (Kp.lfu _ _ qt))) (KpO.set (y:=(⟨y.s.lfu t gA,y.ms,y.ta,y.as⟩:OS)) (hy.fol rfl) hsf14f hyo13v),rfl,rfl⟩
     ·refine tp rfl (aV rfl rfl (beq_eq_false_iff_ne.2 h12)) (aA rfl (td hK10 (ar rfl (cS (aZ (qn hK6 (av (fun _ hK11=>?_))))))))
      refine ag rfl (cV rfl (bU 2 CP rfl CU rfl rfl (bK CV rfl (bY (i:=t) (v:=(.pointer (some ⟨(x.ks.getD t (0,0)).2,0,none⟩))) (.head _) (by omega) rfl) ?_)))
      refine bN Tryz.call117 rfl (fj (i:=t) (y:=eN (y.s.lf.getD t Lf.z)) (by omega) (fun h=>h.wait) (fun h _=>rD _ h)) ?_
      rintro _ _ ⟨rfl,rfl⟩
      refine td hK11 (av (fun _ hK12=>ag rfl (ag rfl (cV rfl (bU 3 CP rfl CG rfl rfl ?_)))))
      refine ts (su (i:=t) (o:=3) (z:={(y.s.tk.getD t Tk.z) with wt:=(d:Int)}) (by omega) rfl (by decide) rfl CG rfl rfl) ?_
      refine td hK12 (ai (fun _ hK13=>av (fun _ hK14=>ag rfl (cV rfl (bU 2 CP rfl CU rfl rfl (bK CV rfl (bY (i:=d) (v:=(.pointer (some ⟨(x.ks.getD d (0,0)).2,0,none⟩))) (.head _) (by omega) rfl) ?_))))))
      refine bN DF rfl (dK (i:=d) (by omega) (fun _=>fc _)) ?_
      rintro _ _ ⟨rfl,rfl⟩
      by_cases h15:(((y.s.lfu t eN).lf.getD d Lf.z).st)=0
      ·refine tp rfl (cG rfl rfl (bne_eq_false_iff_eq.2 h15)) (td hK14 (ar rfl (dp hK13 (ai (fun _ hK15=>ai (fun _ hK16=>?_))))))
       by_cases h16:((((y.s.lfu t eN).setTk t ({(y.s.tk.getD t Tk.z) with wt:=(d:Int)})).tk.getD d Tk.z).mem)>y.s.c.bud
       ·refine bz (γ:=Unit) (n:=11) Tryz.mixed rfl rfl (fun _ S=>True) (fun _=>[(0,95,(.pointer (some ⟨(x.ks.getD d (0,0)).1,0,none⟩))),(1,96,(.pointer (some ⟨(x.ks.getD d (0,0)).1,0,none⟩))),(2,97,(.pointer (some ⟨(x.ks.getD d (0,0)).1,0,none⟩))),(3,98,(.pointer (some ⟨(x.ks.getD d (0,0)).1,0,none⟩))),(4,99,(vI ((((y.s.lfu t eN).setTk t ({(y.s.tk.getD t Tk.z) with wt:=(d:Int)})).tk.getD d Tk.z).mem))),(5,100,(vP e 0)),(6,101,(vP e 0)),(7,102,(vP e 0)),(8,103,(vP e 0)),(9,104,(vI y.s.c.bud)),(10,105,(.bool true))]) (fun _ S=>(bQ e x ((y.s.lfu t eN).setTk t ({(y.s.tk.getD t Tk.z) with wt:=(d:Int)})))::(aT x.g x.n (mC x.n es (t:Int) (d:Int)))::(SlV 3 1 (.slice bs1 ((ee x.n es (d:Int) (t:Int)).length) cp2) ((ee x.n es (d:Int) (t:Int)).length) (aF .i64 (ee x.n es (d:Int) (t:Int))))::(bF x.tn q y.ms y.ta)::(dv x.ad A Q y.as)::R) (()) trivial (fun _ h=>h) (fun _ _ h=>h) ?_ ?_
        ·refine ⟨aU,bW,bL CP rfl Dl,bL Dt rfl CG,?_,aU,bW,bL CJ rfl Dm,bL CW rfl CG,?_,?_,trivial⟩
         ·rintro _ S hF hS D hp K hK;try dsimp only
          exact bH (bE hp 3 rfl rfl) (bP CH rfl (bY (i:=d) (v:=(vI ((((y.s.lfu t eN).setTk t ({(y.s.tk.getD t Tk.z) with wt:=(d:Int)})).tk.getD d Tk.z).mem))) (.head _) (by omega) rfl)) 4 rfl rfl hS (hK () hF)
         ·rintro _ S hF hS D hp K hK;try dsimp only
          exact bH (bE hp 8 rfl rfl) (bP CH rfl (bu (v:=(vI y.s.c.bud)) (.head _) (fun _ _=>rfl))) 9 rfl rfl hS (hK () hF)
         ·intro _ S h s D p K k;exact bV (bE p 4 rfl rfl) (bE p 9 rfl rfl) (cu rfl rfl (decide_eq_true h16)) 10 rfl rfl s (k () h)
        ·rintro _ hF
         try dsimp only at hF⊢
         refine az (E':=[(0,(vP e 0)),(1,(vN t)),(2,(vN d)),(6,(.slice bs1 ((ee x.n es (d:Int) (t:Int)).length) cp2)),(7,(.pointer (some ⟨(x.ks.getD t (0,0)).1,0,none⟩))),(8,(.pointer (some ⟨(x.ks.getD d (0,0)).1,0,none⟩))),(39,(.bool false)),(47,(vI ((y.s.lf.getD d Lf.z).st))),(48,(.bool false)),(55,(.bool false)),(70,(.bool false)),(94,(.bool false)),(105,(.bool true))]) ⟨rfl,rfl,rfl,rfl,rfl,rfl,rfl,rfl,rfl,rfl,rfl,rfl,rfl,trivial⟩ ?_
         refine qn hK16 (aG rfl (av (fun _ hK17=>ag rfl (cV rfl (bU 2 CP rfl CU rfl rfl (bK CV rfl (bY (i:=d) (v:=(.pointer (some ⟨(x.ks.getD d (0,0)).2,0,none⟩))) (.head _) (by omega) rfl) ?_))))))
         refine bN Tryz.call118 rfl (fj (i:=d) (y:=gz ((y.s.lfu t eN).lf.getD d Lf.z)) (by omega) (fun h=>h.fall) (fun h _=>oL _ h)) ?_
         rintro _ _ ⟨rfl,rfl⟩
         refine td hK17 (av (fun _ hK18=>ag rfl (ag rfl (de (de (aS (aS ?_)))))))
         refine bN Ee rfl (iI (x:=x) (y:=(⟨((y.s.lfu t eN).setTk t ({(y.s.tk.getD t Tk.z) with wt:=(d:Int)})).lfu d gz,y.ms,y.ta,y.as⟩:OS)) (A:=A) (Q:=Q) d (by omega) (hy.fol rfl) hA (VTab.cons hV)) ?_
         rintro _ _ ⟨sf18,yo17,hsf18f,hyo17v,hyo17c,rfl,rfl⟩
         refine td hK18 (ay ?_)
         refine aK ?_
         refine de (ak ?_)
         refine jO rfl ?_
         exact ⟨yo17,_,KpO.trans (KpO.of (s':=((y.s.lfu t eN).setTk t ({(y.s.tk.getD t Tk.z) with wt:=(d:Int)})).lfu d gz) hy rfl (Kp.trans (b:=(y.s.lfu t eN).setTk t ({(y.s.tk.getD t Tk.z) with wt:=(d:Int)})) (Kp.trans (b:=y.s.lfu t eN) (Kp.trans (b:=y.s) (Kp.refl _) (Kp.lfu _ _ (lh 2 3))) (Kp.setTk _ _ (by rfl))) (Kp.lfu _ _ qV))) (KpO.set (y:=(⟨((y.s.lfu t eN).setTk t ({(y.s.tk.getD t Tk.z) with wt:=(d:Int)})).lfu d gz,y.ms,y.ta,y.as⟩:OS)) (hy.fol rfl) hsf18f hyo17v),rfl,rfl⟩
       ·refine bz (γ:=Unit) (n:=11) Tryz.mixed rfl rfl (fun _ S=>True) (fun _=>[(0,95,(.pointer (some ⟨(x.ks.getD d (0,0)).1,0,none⟩))),(1,96,(.pointer (some ⟨(x.ks.getD d (0,0)).1,0,none⟩))),(2,97,(.pointer (some ⟨(x.ks.getD d (0,0)).1,0,none⟩))),(3,98,(.pointer (some ⟨(x.ks.getD d (0,0)).1,0,none⟩))),(4,99,(vI ((((y.s.lfu t eN).setTk t ({(y.s.tk.getD t Tk.z) with wt:=(d:Int)})).tk.getD d Tk.z).mem))),(5,100,(vP e 0)),(6,101,(vP e 0)),(7,102,(vP e 0)),(8,103,(vP e 0)),(9,104,(vI y.s.c.bud)),(10,105,(.bool false))]) (fun _ S=>(bQ e x ((y.s.lfu t eN).setTk t ({(y.s.tk.getD t Tk.z) with wt:=(d:Int)})))::(aT x.g x.n (mC x.n es (t:Int) (d:Int)))::(SlV 3 1 (.slice bs1 ((ee x.n es (d:Int) (t:Int)).length) cp2) ((ee x.n es (d:Int) (t:Int)).length) (aF .i64 (ee x.n es (d:Int) (t:Int))))::(bF x.tn q y.ms y.ta)::(dv x.ad A Q y.as)::R) (()) trivial (fun _ h=>h) (fun _ _ h=>h) ?_ ?_
        ·refine ⟨aU,bW,bL CP rfl Dl,bL Dt rfl CG,?_,aU,bW,bL CJ rfl Dm,bL CW rfl CG,?_,?_,trivial⟩
         ·rintro _ S hF hS D hp K hK;try dsimp only
          exact bH (bE hp 3 rfl rfl) (bP CH rfl (bY (i:=d) (v:=(vI ((((y.s.lfu t eN).setTk t ({(y.s.tk.getD t Tk.z) with wt:=(d:Int)})).tk.getD d Tk.z).mem))) (.head _) (by omega) rfl)) 4 rfl rfl hS (hK () hF)
         ·rintro _ S hF hS D hp K hK;try dsimp only
          exact bH (bE hp 8 rfl rfl) (bP CH rfl (bu (v:=(vI y.s.c.bud)) (.head _) (fun _ _=>rfl))) 9 rfl rfl hS (hK () hF)
         ·intro _ S h s D p K k;exact bV (bE p 4 rfl rfl) (bE p 9 rfl rfl) (cu rfl rfl (decide_eq_false h16)) 10 rfl rfl s (k () h)
        ·rintro _ hF
         try dsimp only at hF⊢
         refine az (E':=[(0,(vP e 0)),(1,(vN t)),(2,(vN d)),(6,(.slice bs1 ((ee x.n es (d:Int) (t:Int)).length) cp2)),(7,(.pointer (some ⟨(x.ks.getD t (0,0)).1,0,none⟩))),(8,(.pointer (some ⟨(x.ks.getD d (0,0)).1,0,none⟩))),(39,(.bool false)),(47,(vI ((y.s.lf.getD d Lf.z).st))),(48,(.bool false)),(55,(.bool false)),(70,(.bool false)),(94,(.bool false)),(105,(.bool false))]) ⟨rfl,rfl,rfl,rfl,rfl,rfl,rfl,rfl,rfl,rfl,rfl,rfl,rfl,trivial⟩ ?_
         refine qn hK16 (ar rfl (dp hK15 (aj (ag rfl (cV rfl (bU 2 CP rfl CU rfl rfl (bK CV rfl (bY (i:=d) (v:=(.pointer (some ⟨(x.ks.getD d (0,0)).2,0,none⟩))) (.head _) (by omega) rfl) ?_)))))))
         refine bN Tryz.call76 rfl (fj (i:=d) (y:=mj ((y.s.lfu t eN).lf.getD d Lf.z)) (by omega) (fun h=>h.want) (fun h _=>sm _ h)) ?_
         rintro _ _ ⟨rfl,rfl⟩
         refine aI (aR (ak ?_))
         refine fC rfl ?_
         exact ⟨(⟨((y.s.lfu t eN).setTk t ({(y.s.tk.getD t Tk.z) with wt:=(d:Int)})).lfu d mj,y.ms,y.ta,y.as⟩:OS),_,KpO.of (s':=((y.s.lfu t eN).setTk t ({(y.s.tk.getD t Tk.z) with wt:=(d:Int)})).lfu d mj) hy rfl (Kp.trans (b:=(y.s.lfu t eN).setTk t ({(y.s.tk.getD t Tk.z) with wt:=(d:Int)})) (Kp.trans (b:=y.s.lfu t eN) (Kp.trans (b:=y.s) (Kp.refl _) (Kp.lfu _ _ (lh 2 3))) (Kp.setTk _ _ (by rfl))) (Kp.lfu _ _ (lh 0 1))),rfl,rfl⟩
      ·refine tp rfl (cG rfl rfl (bne_iff_ne.2 h15)) (td hK14 (aG rfl (ay ?_)))
       refine aK ?_
       refine aR (ak ?_)
       refine jO rfl ?_
       exact ⟨(⟨(y.s.lfu t eN).setTk t ({(y.s.tk.getD t Tk.z) with wt:=(d:Int)}),y.ms,y.ta,y.as⟩:OS),_,KpO.of (s':=(y.s.lfu t eN).setTk t ({(y.s.tk.getD t Tk.z) with wt:=(d:Int)})) hy rfl (Kp.trans (b:=y.s.lfu t eN) (Kp.trans (b:=y.s) (Kp.refl _) (Kp.lfu _ _ (lh 2 3))) (Kp.setTk _ _ (by rfl))),rfl,rfl⟩
end Go.Proofs.YtanfdikglplkaaaGreatDoor
