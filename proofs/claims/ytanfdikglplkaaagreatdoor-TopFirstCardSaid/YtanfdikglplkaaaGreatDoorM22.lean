/- Parts Hb, Hb2, Hc: own lemmas and contracts of the code that the claim reaches. -/
import Derived.Test.YtanfdikglplkaaaGreatDoorM03
import Derived.Test.YtanfdikglplkaaaGreatDoorM21
import Derived.Test.YtanfdikglplkaaaGreatDoorM04
set_option linter.unusedSimpArgs false
set_option linter.unusedVariables false
set_option maxRecDepth 100000
namespace Go.Proofs.YtanfdikglplkaaaGreatDoor
open Go Go.Proofs Sp
set_option maxHeartbeats 4000000 in
theorem AU{R:List HP}{p n:Nat}{l Kk:List Int}{m:Nat}(j0:Nat)(hu:HeapUp Kk l m j0)(hj:j0<m)(hm:m≤l.length):
 Ok Tryz.prog 172 [(.iface 178 (vP p 0)),(vN j0)] ((eK p n l Kk)::R)
  (fun v M=> ∃l',Same m l l'∧HeapP Kk l' m∧v=.tuple #[]∧M=eK p n l' Kk::R):=by
 refine aP (N:=23) Tryz.func172 rfl rfl rfl (fun W=>?_)
 refine aY (fun _ h=>eh h) (fun hrf=>?_)
 obtain ⟨hhi,hkl,hbg⟩:=hrf
 have hll:=hhi.le
 refine aH ?_
 refine cE (γ:=(Nat)×(List Int)) (fun (j,l')=>Same m l l'∧HeapUp Kk l' m j∧j<m) (fun (j,l')=>[(0,(.iface 178 (vP p 0))),(1,(vN j))]) (fun (j,l')=>(eK p n l' Kk)::R) (fun (j,l')=>j) (j0,l) ⟨Same.refl _ _,hu,hj⟩ ⟨rfl,rfl,trivial⟩ (fun _ h=>h) ?_
 rintro ⟨j,l'⟩ K1 hF hK1
 try dsimp only at hF hK1⊢
 obtain ⟨hs,hup,hjm⟩:=hF
 have hsl:=hs.len
 refine aH (av (fun _ hK2=>ag rfl (tp rfl (eR (c:=(j:Int)-1) rfl rfl (cA (by omega) (by omega))) ?_)))
 refine tp rfl (xG (c:=(((j-1)/2:Nat):Int)) rfl rfl (by omega) (zL j (by omega))) ?_
 refine aA rfl (td hK2 (ai (fun _ hK3=>av (fun K4 hK4=>ag rfl (ag rfl ?_)))))
 by_cases heq:(((j-1)/2:Nat):Int)=(j:Int)
 ·refine tp rfl (aV rfl rfl (beq_iff_eq.2 heq)) (ag rfl ?_)
  refine aq rfl rfl rfl ?_
  refine aq rfl rfl rfl ?_
  refine aq rfl rfl rfl ?_
  refine aq rfl rfl rfl ?_
  refine aq rfl rfl rfl ?_
  refine tp rfl (aL rfl rfl) (td hK4 (aG rfl (bT (au ?_))))
  refine gh rfl ?_
  refine au (bS ?_)
  refine fC rfl ?_
  first|exact ⟨l',hs,(by have hj0:j=0:=(by omega);subst hj0;exact hup.top),rfl,rfl⟩|exact ⟨l',hs,hup.done (by have hq:= ‹(!decide (LtK Kk (l'.getD j 0) (l'.getD ((j-1)/2) 0)))=true›;simpa [gg] using hq),rfl,rfl⟩
 ·refine tp rfl (aV rfl rfl (beq_eq_false_iff_ne.2 heq)) (ag rfl ?_)
  refine ae rfl rfl ?_
  refine ag rfl ?_
  refine ae rfl rfl ?_
  refine ag rfl ?_
  refine ae rfl rfl ?_
  refine ag rfl ?_
  refine ae rfl rfl ?_
  refine tc rfl (eO jv rfl rfl) (kh (n:=n) (l:=l') (Kk:=Kk) j ((j-1)/2) (by omega) (by omega)) ?_
  rintro _ _ ⟨rfl,rfl⟩
  refine ae rfl rfl ?_
  refine tp rfl (dy (c:= !(decide (LtK Kk (l'.getD j 0) (l'.getD ((j-1)/2) 0)))) rfl rfl) (tp rfl (aC rfl rfl) (td hK4 ?_))
  refine cW rfl (fun c1=>?_) (fun c1=>?_)
  ·refine bT (au ?_)
   refine gh rfl ?_
   refine au (bS ?_)
   refine fC rfl ?_
   first|exact ⟨l',hs,(by have hj0:j=0:=(by omega);subst hj0;exact hup.top),rfl,rfl⟩|exact ⟨l',hs,hup.done (by have hq:= ‹(!decide (LtK Kk (l'.getD j 0) (l'.getD ((j-1)/2) 0)))=true›;simpa [gg] using hq),rfl,rfl⟩
  ·refine dp hK3 (av (fun _ hK5=>?_))
   have hlt:LtK Kk (l'.getD j 0) (l'.getD ((j-1)/2) 0):=by have hq:= ‹(!decide (LtK Kk (l'.getD j 0) (l'.getD ((j-1)/2) 0)))=false›;simpa using hq
   refine ag rfl (ag rfl (ag rfl ?_))
   refine tc rfl (eO iK rfl rfl) (jz (n:=n) (l:=l') (Kk:=Kk) ((j-1)/2) j (by omega) (by omega)) ?_
   rintro _ _ ⟨rfl,rfl⟩
   refine td hK5 (aj (ag rfl (aA rfl (aI (aZ (aN ?_))))))
   exact az (by exact ⟨rfl,rfl,trivial⟩) ((hK1 ((j-1)/2,eo l' ((j-1)/2) j) ⟨hs.trans (Same.swap (by omega) (by omega) (by omega) (by omega)),hup.next (by omega) (by omega) (by omega) hlt,by omega⟩ (by dsimp only;omega)))
set_option maxHeartbeats 4000000 in
theorem tY{R:List HP}{p n:Nat}{l Kk:List Int}(i0 m:Nat)(hx:HeapX Kk l m i0 i0)(hi:i0≤65536)(hm:m≤l.length):
 Ok Tryz.prog 156 [(.iface 178 (vP p 0)),(vN i0),(vN m)] ((eK p n l Kk)::R)
  (fun v M=> ∃b l',DownOk Kk l l' m i0 b∧v=.bool b∧M=eK p n l' Kk::R):=by
 refine aP (N:=48) Tryz.func156 rfl rfl rfl (fun W=>?_)
 refine aY (fun _ h=>eh h) (fun hrf=>?_)
 obtain ⟨hhi,hkl,hbg⟩:=hrf
 have hll:=hhi.le
 refine av (fun K1 hK1=>aA rfl (td hK1 (av (fun _ hK2=>ag rfl (aA rfl (aI ?_))))))
 refine qn hK2 (ai (fun _ hK3=>aH ?_))
 refine cE (γ:=(Nat)×(List Int)) (fun (i,l')=>Same m l l'∧HeapX Kk l' m i0 i∧i0≤i∧(i=i0→l'=l)∧i≤100000) (fun (i,l')=>[(0,(.iface 178 (vP p 0))),(1,(vN i0)),(2,(vN m)),(6,(.bool false)),(7,(vN i))]) (fun (i,l')=>(eK p n l' Kk)::R) (fun (i,l')=>m-i) (i0,l) ⟨Same.refl _ _,hx,Nat.le_refl _,fun _=>rfl,by omega⟩ ⟨rfl,rfl,rfl,rfl,rfl,trivial⟩ (fun _ h=>h) ?_
 rintro ⟨i,l'⟩ K4 hF hK4
 try dsimp only at hF hK4⊢
 obtain ⟨hs,hx',hii,hsame,hbig⟩:=hF
 have hsl:=hs.len
 refine aH (av (fun _ hK5=>ag rfl (tp rfl (jB (c:=((2*i:Nat):Int)) rfl rfl ((cA (by omega) (by omega)).trans (by omega))) ?_)))
 refine tp rfl (aX (c:=((2*i+1:Nat):Int)) rfl rfl ((cA (by omega) (by omega)).trans (by omega))) ?_
 refine aA rfl (td hK5 (ai (fun _ hK6=>av (fun _ hK7=>ag rfl (ag rfl ?_)))))
 by_cases h1:((2*i+1:Nat):Int)≥(m:Int)
 ·refine tp rfl (cC rfl rfl (decide_eq_true h1)) (ag rfl ?_)
  refine aq rfl rfl rfl ?_
  refine aq rfl rfl rfl ?_
  refine tp rfl (aL rfl rfl) (td hK7 (aG rfl (bT (au ?_))))
  refine gh rfl ?_
  refine au (bS (qn hK3 (av (fun _ hK8=>ag rfl (ag rfl (tp rfl (cu rfl rfl rfl) (aA rfl (aI ?_))))))))
  refine qn hK8 (ay ?_)
  refine aM rfl rfl ?_
  have hst:(∀k,0<k→k<m→(k-1)/2=i→gg Kk l' i k):=fun k k0 k1 k2=>(by omega)
  refine ⟨decide ((i:Int)> (i0:Int)),l',⟨hs,fun hb=>hx'.stop hst (by have:=of_decide_eq_true hb;omega),fun hb=>?_⟩,rfl,rfl⟩
  have hi0:i=i0:=by have:=of_decide_eq_false hb;omega
  have hl':=hsame hi0
  subst hi0;subst hl'
  exact ⟨rfl,hx'.stay hst⟩
 ·refine tp rfl (cC rfl rfl (decide_eq_false h1)) (ag rfl ?_)
  refine ae rfl rfl ?_
  refine ag rfl ?_
  refine ae rfl rfl ?_
  refine tp rfl (aJ rfl rfl (decide_eq_false (by omega))) ?_
  refine tp rfl (aC rfl rfl) (td hK7 (ar rfl (dp hK6 (av (fun _ hK8=>ag rfl (aA rfl ?_))))))
  refine td hK8 (ai (fun _ hK9=>av (fun _ hK10=>ag rfl (tp rfl (aX (c:=((2*i+2:Nat):Int)) rfl rfl ((cA (by omega) (by omega)).trans (by omega))) ?_))))
  refine aA rfl (td hK10 (av (fun _ hK11=>ag rfl (ag rfl ?_))))
  by_cases h2:((2*i+2:Nat):Int)< (m:Int)
  ·refine tp rfl (aJ rfl rfl (decide_eq_true h2)) (ag rfl ?_)
   refine ae rfl rfl ?_
   refine ag rfl ?_
   refine ae rfl rfl ?_
   refine ag rfl ?_
   refine ae rfl rfl ?_
   refine ag rfl ?_
   refine ae rfl rfl ?_
   refine tc rfl (eO jv rfl rfl) (kh (n:=n) (l:=l') (Kk:=Kk) (2*i+2) (2*i+1) (by omega) (by omega)) ?_
   rintro _ _ ⟨rfl,rfl⟩
   refine tp rfl (aL rfl rfl) (td hK11 ?_)
   refine cW rfl (fun c3=>?_) (fun c3=>?_)
   ·refine aj (ag rfl (aA rfl (td hK9 (ai (fun _ hK12=>av (fun _ hK13=>?_))))))
    have hch:∀k,0<k→k<m→(k-1)/2=i→gg Kk l' (2*i+2) k:=fun k k0 k1 k2=>by
     have hq:=c3
     have hq:LtK Kk (l'.getD (2*i+2) 0) (l'.getD (2*i+1) 0):=by simpa using hq
     rcases (show k=2*i+1∨k=2*i+2 by omega) with e|e
     ·subst e;exact hq.asymm
     ·subst e;exact LtK.irr
    refine ag rfl (ag rfl (ag rfl ?_))
    refine tc rfl (eO jv rfl rfl) (kh (n:=n) (l:=l') (Kk:=Kk) (2*i+2) i (by omega) (by omega)) ?_
    rintro _ _ ⟨rfl,rfl⟩
    refine tp rfl (dy (c:= !(decide (LtK Kk (l'.getD (2*i+2) 0) (l'.getD i 0)))) rfl rfl) (td hK13 ?_)
    refine cW rfl (fun c4=>?_) (fun c4=>?_)
    ·refine bT (au ?_)
     refine gh rfl ?_
     refine au (bS (qn hK3 (av (fun _ hK14=>ag rfl (ag rfl (tp rfl (cu rfl rfl rfl) (aA rfl (aI ?_))))))))
     refine qn hK14 (ay ?_)
     refine aM rfl rfl ?_
     have hst:(∀k,0<k→k<m→(k-1)/2=i→gg Kk l' i k):=fun k k0 k1 k2=>fJ (show¬LtK Kk (l'.getD (2*i+2) 0) (l'.getD i 0) from (by have hq:=c4;simpa using hq)) (hch k k0 k1 k2)
     refine ⟨decide ((i:Int)> (i0:Int)),l',⟨hs,fun hb=>hx'.stop hst (by have:=of_decide_eq_true hb;omega),fun hb=>?_⟩,rfl,rfl⟩
     have hi0:i=i0:=by have:=of_decide_eq_false hb;omega
     have hl':=hsame hi0
     subst hi0;subst hl'
     exact ⟨rfl,hx'.stay hst⟩
    ·refine dp hK12 (av (fun _ hK14=>?_))
     have hlt:LtK Kk (l'.getD (2*i+2) 0) (l'.getD i 0):=by have hq:=c4;simpa using hq
     refine ag rfl (ag rfl (ag rfl ?_))
     refine tc rfl (eO iK rfl rfl) (jz (n:=n) (l:=l') (Kk:=Kk) i (2*i+2) (by omega) (by omega)) ?_
     rintro _ _ ⟨rfl,rfl⟩
     refine td hK14 (aj (ag rfl (aA rfl (aI (aZ (aN ?_))))))
     exact az (by exact ⟨rfl,rfl,rfl,rfl,rfl,trivial⟩) ((hK4 (2*i+2,eo l' i (2*i+2)) ⟨hs.trans (Same.swap (by omega) (by omega) (by omega) (by omega)),hx'.next hii (by omega) (by omega) (by omega) (by omega) hlt hch,by omega,fun e=>absurd e (by omega),by omega⟩ (by dsimp only;omega)))
   ·refine dp hK9 (ai (fun _ hK12=>av (fun _ hK13=>?_)))
    have hch:∀k,0<k→k<m→(k-1)/2=i→gg Kk l' (2*i+1) k:=fun k k0 k1 k2=>by
     have hq:=c3
     have hq:¬LtK Kk (l'.getD (2*i+2) 0) (l'.getD (2*i+1) 0):=by simpa using hq
     rcases (show k=2*i+1∨k=2*i+2 by omega) with e|e
     ·subst e;exact LtK.irr
     ·subst e;exact hq
    refine ag rfl (ag rfl (ag rfl ?_))
    refine tc rfl (eO jv rfl rfl) (kh (n:=n) (l:=l') (Kk:=Kk) (2*i+1) i (by omega) (by omega)) ?_
    rintro _ _ ⟨rfl,rfl⟩
    refine tp rfl (dy (c:= !(decide (LtK Kk (l'.getD (2*i+1) 0) (l'.getD i 0)))) rfl rfl) (td hK13 ?_)
    refine cW rfl (fun c5=>?_) (fun c5=>?_)
    ·refine bT (au ?_)
     refine gh rfl ?_
     refine au (bS (qn hK3 (av (fun _ hK14=>ag rfl (ag rfl (tp rfl (cu rfl rfl rfl) (aA rfl (aI ?_))))))))
     refine qn hK14 (ay ?_)
     refine aM rfl rfl ?_
     have hst:(∀k,0<k→k<m→(k-1)/2=i→gg Kk l' i k):=fun k k0 k1 k2=>fJ (show¬LtK Kk (l'.getD (2*i+1) 0) (l'.getD i 0) from (by have hq:=c5;simpa using hq)) (hch k k0 k1 k2)
     refine ⟨decide ((i:Int)> (i0:Int)),l',⟨hs,fun hb=>hx'.stop hst (by have:=of_decide_eq_true hb;omega),fun hb=>?_⟩,rfl,rfl⟩
     have hi0:i=i0:=by have:=of_decide_eq_false hb;omega
     have hl':=hsame hi0
     subst hi0;subst hl'
     exact ⟨rfl,hx'.stay hst⟩
    ·refine dp hK12 (av (fun _ hK14=>?_))
     have hlt:LtK Kk (l'.getD (2*i+1) 0) (l'.getD i 0):=by have hq:=c5;simpa using hq
     refine ag rfl (ag rfl (ag rfl ?_))
     refine tc rfl (eO iK rfl rfl) (jz (n:=n) (l:=l') (Kk:=Kk) i (2*i+1) (by omega) (by omega)) ?_
     rintro _ _ ⟨rfl,rfl⟩
     refine td hK14 (aj (ag rfl (aA rfl (aI (aZ (aN ?_))))))
     exact az (by exact ⟨rfl,rfl,rfl,rfl,rfl,trivial⟩) ((hK4 (2*i+1,eo l' i (2*i+1)) ⟨hs.trans (Same.swap (by omega) (by omega) (by omega) (by omega)),hx'.next hii (by omega) (by omega) (by omega) (by omega) hlt hch,by omega,fun e=>absurd e (by omega),by omega⟩ (by dsimp only;omega)))
  ·refine tp rfl (aJ rfl rfl (decide_eq_false h2)) (ag rfl ?_)
   refine aq rfl rfl rfl ?_
   refine aq rfl rfl rfl ?_
   refine aq rfl rfl rfl ?_
   refine aq rfl rfl rfl ?_
   refine tp rfl (aC rfl rfl) (td hK11 (ar rfl (dp hK9 (ai (fun _ hK12=>av (fun _ hK13=>?_))))))
   have hch:∀k,0<k→k<m→(k-1)/2=i→gg Kk l' (2*i+1) k:=fun k k0 k1 k2=>by
    have e:k=2*i+1:=by omega
    subst e;exact LtK.irr
   refine ag rfl (ag rfl (ag rfl ?_))
   refine tc rfl (eO jv rfl rfl) (kh (n:=n) (l:=l') (Kk:=Kk) (2*i+1) i (by omega) (by omega)) ?_
   rintro _ _ ⟨rfl,rfl⟩
   refine tp rfl (dy (c:= !(decide (LtK Kk (l'.getD (2*i+1) 0) (l'.getD i 0)))) rfl rfl) (td hK13 ?_)
   refine cW rfl (fun c6=>?_) (fun c6=>?_)
   ·refine bT (au ?_)
    refine gh rfl ?_
    refine au (bS (qn hK3 (av (fun _ hK14=>ag rfl (ag rfl (tp rfl (cu rfl rfl rfl) (aA rfl (aI ?_))))))))
    refine qn hK14 (ay ?_)
    refine aM rfl rfl ?_
    have hst:(∀k,0<k→k<m→(k-1)/2=i→gg Kk l' i k):=fun k k0 k1 k2=>fJ (show¬LtK Kk (l'.getD (2*i+1) 0) (l'.getD i 0) from (by have hq:=c6;simpa using hq)) (hch k k0 k1 k2)
    refine ⟨decide ((i:Int)> (i0:Int)),l',⟨hs,fun hb=>hx'.stop hst (by have:=of_decide_eq_true hb;omega),fun hb=>?_⟩,rfl,rfl⟩
    have hi0:i=i0:=by have:=of_decide_eq_false hb;omega
    have hl':=hsame hi0
    subst hi0;subst hl'
    exact ⟨rfl,hx'.stay hst⟩
   ·refine dp hK12 (av (fun _ hK14=>?_))
    have hlt:LtK Kk (l'.getD (2*i+1) 0) (l'.getD i 0):=by have hq:=c6;simpa using hq
    refine ag rfl (ag rfl (ag rfl ?_))
    refine tc rfl (eO iK rfl rfl) (jz (n:=n) (l:=l') (Kk:=Kk) i (2*i+1) (by omega) (by omega)) ?_
    rintro _ _ ⟨rfl,rfl⟩
    refine td hK14 (aj (ag rfl (aA rfl (aI (aZ (aN ?_))))))
    exact az (by exact ⟨rfl,rfl,rfl,rfl,rfl,trivial⟩) ((hK4 (2*i+1,eo l' i (2*i+1)) ⟨hs.trans (Same.swap (by omega) (by omega) (by omega) (by omega)),hx'.next hii (by omega) (by omega) (by omega) (by omega) hlt hch,by omega,fun e=>absurd e (by omega),by omega⟩ (by dsimp only;omega)))
end Go.Proofs.YtanfdikglplkaaaGreatDoor
set_option maxRecDepth 100000
namespace Go.Proofs.YtanfdikglplkaaaGreatDoor
open Go Go.Proofs Sp
theorem y5{R:List HP}{p n:Nat}{l Kk:List Int}(x:Int)(hx:0≤x∧x<n)(hn:x ∉ l)(hp:HeapP Kk l l.length):
 Ok Tryz.prog 162 [(.iface 178 (vP p 0)),(.iface 3 (vI x))] ((eK p n l Kk)::R)
  (fun v M=> ∃l',((∀y,y∈l'↔y∈l++[x])∧HI n l'∧HeapP Kk l' l'.length)∧v=.tuple #[]∧M=eK p n l' Kk::R):=by
 refine aP (N:=12) Tryz.func162 rfl rfl rfl (fun W=>?_)
 refine aY (fun _ h=>eh h) (fun hrf=>?_)
 obtain ⟨hhi,hkl,hbg⟩:=hrf
 have hll:=hhi.le
 refine av (fun _ hK1=>ag rfl (ag rfl ?_))
 refine tc rfl (eO wz rfl rfl) (xP (n:=n) (l:=l) (Kk:=Kk) x hx hn) ?_
 rintro _ _ ⟨rfl,rfl⟩
 refine td hK1 (aj ?_)
 have hapl:(l++[x]).length=l.length+1:=by simp
 have hle2:l.length+1≤n:=by have:=(hhi.push hx hn).le;omega
 refine ag rfl (ag rfl ?_)
 refine tc rfl (eO oD rfl rfl) (qJ (n:=n) (l:=l++[x]) (Kk:=Kk)) ?_
 rintro _ _ ⟨rfl,rfl⟩
 refine tp rfl (eR (c:=(l.length:Int)) rfl rfl ((cA (by omega) (by omega)).trans (by omega))) ?_
 refine bN Tryz.call172 rfl (AU (n:=n) (l:=l++[x]) (Kk:=Kk) (m:=(l++[x]).length) l.length (HeapP.pushUp hp) (by omega) (by omega)) ?_
 rintro _ _ ⟨l1,hs2,hp3,rfl,rfl⟩
 refine aI ?_
 refine aY (fun _ h=>eh h) (fun hrf2=>?_)
 refine fC rfl ?_
 refine ⟨l1,⟨fun y=>(hs2.mem y),hrf2.1,?_⟩,rfl,rfl⟩
 have e:(l++[x]).length=l1.length:=hs2.len.symm
 rw [e] at hp3;exact hp3
theorem zT{R:List HP}{p n:Nat}{l Kk:List Int}(h0:0<l.length)(hp:HeapP Kk l l.length):
 Ok Tryz.prog 127 [(.iface 178 (vP p 0))] ((eK p n l Kk)::R)
  (fun v M=> ∃l',((∀y,y∈l'↔y∈l∧y≠l.getD 0 0)∧HI n l'∧HeapP Kk l' l'.length)∧v=.iface 3 (.int .i64 (l.getD 0 0))∧M=eK p n l' Kk::R):=by
 refine aP (N:=15) Tryz.func127 rfl rfl rfl (fun W=>?_)
 refine aY (fun _ h=>eh h) (fun hrf=>?_)
 obtain ⟨hhi,hkl,hbg⟩:=hrf
 have hll:=hhi.le
 have hswl:=dt l 0 (l.length-1)
 refine av (fun _ hK1=>aA rfl (td hK1 (av (fun _ hK2=>ag rfl ?_))))
 refine tc rfl (eO oD rfl rfl) (qJ (n:=n) (l:=l) (Kk:=Kk)) ?_
 rintro _ _ ⟨rfl,rfl⟩
 refine tp rfl (eR (c:=((l.length-1:Nat):Int)) rfl rfl ((cA (by omega) (by omega)).trans (by omega))) ?_
 refine aA rfl (td hK2 (av (fun _ hK3=>ag rfl (ag rfl ?_))))
 refine tc rfl (eO iK rfl rfl) (jz (n:=n) (l:=l) (Kk:=Kk) 0 (l.length-1) (by omega) (by omega)) ?_
 rintro _ _ ⟨rfl,rfl⟩
 refine td hK3 (av (fun _ hK4=>ag rfl (ag rfl ?_)))
 refine bN Tryz.call156 rfl (tY (n:=n) (l:=eo l 0 (l.length-1)) (Kk:=Kk) 0 (l.length-1) ((hp.less (Nat.sub_le _ _)).swapX (by omega) (by omega) (by omega) (by omega)) (by omega) (by omega)) ?_
 rintro _ _ ⟨bb1,l2,hd3,rfl,rfl⟩
 refine td hK4 (av (fun _ hK5=>?_))
 refine aY (fun _ h=>eh h) (fun hrf1=>?_)
 have hq2:=hrf1.1
 have hdl:=hd3.same.len
 rw [dt] at hdl
 refine ag rfl ?_
 refine tc rfl (eO lX rfl rfl) (nD (n:=n) (l:=l2) (Kk:=Kk) (by omega)) ?_
 rintro _ _ ⟨rfl,rfl⟩
 refine aA rfl (td hK5 (ay ?_))
 refine aY (fun _ h=>eh h) (fun hrf2=>?_)
 refine aM rfl rfl ?_
 have hsl:=hd3.same.len
 rw [dt] at hsl
 have hlast:l2.getD (l2.length-1) 0=l.getD 0 0:=by rw [hsl,hd3.same.rest _ (by omega),dU (by omega) (by omega),if_pos rfl]
 have hpp:HeapP Kk l2 (l.length-1):=hd3.heap0
 refine ⟨l2.dropLast,⟨fun y=>?_,hrf2.1,hpp.dropLast (by omega)⟩,by rw [hlast],rfl⟩
 rw [iC hq2 (by omega),hlast,hd3.same.mem,km (by omega) (by omega)]
set_option maxHeartbeats 4000000 in
theorem Ac{R:List HP}{p n:Nat}{l Kk:List Int}(i:Nat)(hi:i<l.length)(hp:HeapP Kk l l.length):
 Ok Tryz.prog 159 [(.iface 178 (vP p 0)),(vN i)] ((eK p n l Kk)::R)
  (fun v M=> ∃l',((∀y,y∈l'↔y∈l∧y≠l.getD i 0)∧HI n l'∧HeapP Kk l' l'.length)∧v=.iface 3 (.int .i64 (l.getD i 0))∧M=eK p n l' Kk::R):=by
 refine aP (N:=26) Tryz.func159 rfl rfl rfl (fun W=>?_)
 refine aY (fun _ h=>eh h) (fun hrf=>?_)
 obtain ⟨hhi,hkl,hbg⟩:=hrf
 have hll:=hhi.le
 have hswl:=dt l i (l.length-1)
 refine av (fun _ hK1=>aA rfl (td hK1 (av (fun _ hK2=>ag rfl ?_))))
 refine tc rfl (eO oD rfl rfl) (qJ (n:=n) (l:=l) (Kk:=Kk)) ?_
 rintro _ _ ⟨rfl,rfl⟩
 refine tp rfl (eR (c:=((l.length-1:Nat):Int)) rfl rfl ((cA (by omega) (by omega)).trans (by omega))) ?_
 refine aA rfl (td hK2 (ai (fun _ hK3=>av (fun _ hK4=>ag rfl (ag rfl ?_)))))
 by_cases h1:((l.length-1:Nat):Int)=(i:Int)
 ·refine tp rfl (cG rfl rfl (bne_eq_false_iff_eq.2 h1)) (td hK4 (ar rfl (dp hK3 (av (fun _ hK5=>?_)))))
  refine aY (fun _ h=>eh h) (fun hrf1=>?_)
  have hq2:=hrf1.1
  refine ag rfl ?_
  refine tc rfl (eO lX rfl rfl) (nD (n:=n) (l:=l) (Kk:=Kk) (by omega)) ?_
  rintro _ _ ⟨rfl,rfl⟩
  refine aA rfl (td hK5 (ay ?_))
  refine aY (fun _ h=>eh h) (fun hrf2=>?_)
  refine aM rfl rfl ?_
  have hpp:HeapP Kk l (l.length-1):=hp.less (by omega)
  have hmm:∀y,y∈l↔y∈l:=fun y=>Iff.rfl
  have hln:l.length=l.length:=rfl
  have hlast:l.getD (l.length-1) 0=l.getD i 0:=by rw [show l.length-1=i by omega]
  refine ⟨l.dropLast,⟨fun y=>?_,hrf2.1,hpp.dropLast (by omega)⟩,by rw [hlast],rfl⟩
  rw [iC hq2 (by omega),hlast,hmm]
 ·refine tp rfl (cG rfl rfl (bne_iff_ne.2 h1)) (td hK4 (aG rfl (av (fun _ hK5=>ag rfl (ag rfl (ag rfl ?_))))))
  refine tc rfl (eO iK rfl rfl) (jz (n:=n) (l:=l) (Kk:=Kk) i (l.length-1) (by omega) (by omega)) ?_
  rintro _ _ ⟨rfl,rfl⟩
  refine td hK5 (av (fun _ hK6=>ag rfl (ag rfl (ag rfl ?_))))
  refine bN Tryz.call156 rfl (tY (n:=n) (l:=eo l i (l.length-1)) (Kk:=Kk) i (l.length-1) ((hp.less (Nat.sub_le _ _)).swapX (by omega) (by omega) (by omega) (by omega)) (by omega) (by omega)) ?_
  rintro _ _ ⟨bb2,l3,hd4,rfl,rfl⟩
  refine tp rfl (dy (c:= !bb2) rfl rfl) (td hK6 ?_)
  refine cW rfl (fun c5=>?_) (fun c5=>?_)
  ·refine aj ?_
   have hno:=hd4.no (by have hq:(!bb2)=true:=(by assumption);simpa using hq)
   have hl2:=hno.1
   refine ag rfl (ag rfl ?_)
   refine bN Tryz.call172 rfl (AU (n:=n) (l:=l3) (Kk:=Kk) (m:=(l.length-1)) i (by rw [hl2];exact hno.2) (by omega) (by rw [hl2];omega)) ?_
   rintro _ _ ⟨l6,hs7,hp8,rfl,rfl⟩
   refine td hK3 (av (fun _ hK7=>?_))
   refine aY (fun _ h=>eh h) (fun hrf1=>?_)
   have hq2:=hrf1.1
   have hd0:=hd4.same.len
   rw [dt] at hd0
   have hu0:=hs7.len
   refine ag rfl ?_
   refine tc rfl (eO lX rfl rfl) (nD (n:=n) (l:=l6) (Kk:=Kk) (by omega)) ?_
   rintro _ _ ⟨rfl,rfl⟩
   refine aA rfl (td hK7 (ay ?_))
   refine aY (fun _ h=>eh h) (fun hrf2=>?_)
   refine aM rfl rfl ?_
   have hpp:HeapP Kk l6 (l.length-1):=by have h3:=hp8;exact h3
   have hmm:∀y,y∈l6↔y∈l:=fun y=>by rw [hs7.mem,hno.1,km (by omega) (by omega)]
   have hln:l6.length=l.length:=by rw [hs7.len,hno.1,dt]
   have hlast:l6.getD (l6.length-1) 0=l.getD i 0:=by rw [show l6.length=l.length from by rw [hs7.len,hno.1,dt],hs7.rest _ (by omega),hno.1];rw [dU (by omega) (by omega),if_pos rfl]
   refine ⟨l6.dropLast,⟨fun y=>?_,hrf2.1,hpp.dropLast (by omega)⟩,by rw [hlast],rfl⟩
   rw [iC hq2 (by omega),hlast,hmm]
  ·refine dp hK3 (av (fun _ hK7=>?_))
   refine aY (fun _ h=>eh h) (fun hrf1=>?_)
   have hq2:=hrf1.1
   have hd0:=hd4.same.len
   rw [dt] at hd0
   refine ag rfl ?_
   refine tc rfl (eO lX rfl rfl) (nD (n:=n) (l:=l3) (Kk:=Kk) (by omega)) ?_
   rintro _ _ ⟨rfl,rfl⟩
   refine aA rfl (td hK7 (ay ?_))
   refine aY (fun _ h=>eh h) (fun hrf2=>?_)
   refine aM rfl rfl ?_
   have hpp:HeapP Kk l3 (l.length-1):=hd4.yes (by have hq:(!bb2)=false:=(by assumption);simpa using hq)
   have hmm:∀y,y∈l3↔y∈l:=fun y=>by rw [hd4.same.mem,km (by omega) (by omega)]
   have hln:l3.length=l.length:=by rw [hd4.same.len,dt]
   have hlast:l3.getD (l3.length-1) 0=l.getD i 0:=by rw [show l3.length=l.length from by rw [hd4.same.len,dt],hd4.same.rest _ (by omega)];rw [dU (by omega) (by omega),if_pos rfl]
   refine ⟨l3.dropLast,⟨fun y=>?_,hrf2.1,hpp.dropLast (by omega)⟩,by rw [hlast],rfl⟩
   rw [iC hq2 (by omega),hlast,hmm]
end Go.Proofs.YtanfdikglplkaaaGreatDoor
set_option maxRecDepth 100000
namespace Go.Proofs.YtanfdikglplkaaaGreatDoor
open Go Go.Proofs Sp
theorem nU{R:List HP}{p n:Nat}{ks:Ks}(x:Int):
 Ok Tryz.prog 160 [(vP p 0),(vI x)] ((cL p n ks)::R)
  (fun v M=>v=.bool (gZ n x)∧M=cL p n ks::R):=by
 refine aP (N:=17) Tryz.func160 rfl rfl rfl (fun W=>?_)
 refine kH (fun l Kk hH=>?_)
 refine gp (fun at1 bs2 cp3 bs4 cp5 bs6 cp7 hR8=>?_)
 have hal:=hR8.ato.len
 have hkl:=hR8.lk
 have hbg:=hR8.big
 have hll:=hR8.hi.le
 have hcl:=hR8.cpl
 refine av (fun _ hK1=>aA rfl (td hK1 (av (fun _ hK2=>ag rfl ?_))))
 by_cases h9:x≥0
 ·refine tp rfl (cC rfl rfl (decide_eq_true h9)) (ag rfl ?_)
  refine ae rfl rfl ?_
  refine ag rfl ?_
  refine ae rfl rfl ?_
  refine ag rfl ?_
  refine ae rfl rfl ?_
  refine cV rfl ?_
  refine ae rfl rfl ?_
  refine bU 0 Dr rfl Du rfl rfl ?_
  refine ae rfl rfl ?_
  refine bU 1 CS rfl CK rfl rfl ?_
  refine ae rfl rfl ?_
  refine bK CL rfl (aa (.head _) rfl) ?_
  refine ae rfl rfl ?_
  refine tp rfl (bC CI rfl rfl) ?_
  refine ae rfl rfl ?_
  refine tp rfl (aJ rfl rfl rfl) (tp rfl (aL rfl rfl) (aA rfl (td hK2 (ay (aS (aS (aS (aS ?_))))))))
  refine eZ rfl hR8 ?_
  refine ia hH ?_
  refine aM rfl rfl ?_
  exact ⟨by first| (unfold gZ;simp [*];done)| (unfold gZ;simp [*];omega),rfl⟩
 ·refine tp rfl (cC rfl rfl (decide_eq_false h9)) (ag rfl ?_)
  refine aq rfl rfl rfl ?_
  refine aq rfl rfl rfl ?_
  refine aq rfl rfl rfl ?_
  refine aq rfl rfl rfl ?_
  refine aq rfl rfl rfl ?_
  refine aq rfl rfl rfl ?_
  refine aq rfl rfl rfl ?_
  refine aq rfl rfl rfl ?_
  refine tp rfl (aC rfl rfl) (aA rfl (td hK2 (ay (aS (aS (aS (aS ?_)))))))
  refine eZ rfl hR8 ?_
  refine ia hH ?_
  refine aM rfl rfl ?_
  exact ⟨by first| (unfold gZ;simp [*];done)| (unfold gZ;simp [*];omega),rfl⟩
theorem tV{R:List HP}{p n:Nat}{ks:Ks}(x:Int):
 Ok Tryz.prog 161 [(vP p 0),(vI x)] ((cL p n ks)::R)
  (fun v M=>v=.bool (kg ks x)∧M=cL p n ks::R):=by
 refine aP (N:=19) Tryz.func161 rfl rfl rfl (fun W=>?_)
 refine aY (fun _ h=>gB h) (fun hhf=>?_)
 obtain ⟨hln,hbig,hcn⟩:=hhf
 refine av (fun _ hK1=>aA rfl (td hK1 (av (fun _ hK2=>ag rfl (ag rfl ?_)))))
 refine bN Tryz.call160 rfl (nU (n:=n) (ks:=ks) x) ?_
 rintro _ _ ⟨rfl,rfl⟩
 refine ag rfl ?_
 rcases hb1:gZ n x with _|_
 ·refine aq rfl rfl rfl ?_
  refine aq rfl rfl rfl ?_
  refine aq rfl rfl rfl ?_
  refine aq rfl rfl rfl ?_
  refine aq rfl rfl rfl ?_
  refine aq rfl rfl rfl ?_
  refine aq rfl rfl rfl ?_
  refine aq rfl rfl rfl ?_
  refine aq rfl rfl rfl ?_
  refine tp rfl (aC rfl rfl) (aA rfl (td hK2 (ay ?_)))
  refine aM rfl rfl ?_
  have hkn:gZ n x=false:=by assumption
  exact ⟨by rw [ua hln (fun hh=>by rw [known_iff.2 hh] at hkn;cases hkn)],rfl⟩
 ·refine ae rfl rfl ?_
  refine ag rfl ?_
  have hkx:=known_iff.1 (show gZ n x=true by assumption)
  refine kH (fun l Kk hH=>?_)
  refine gp (fun at2 bs3 cp4 bs5 cp6 bs7 cp8 hR9=>?_)
  have hal:=hR9.ato.len
  have hkl:=hR9.lk
  have hbg:=hR9.big
  have hll:=hR9.hi.le
  have hcl:=hR9.cpl
  refine ae rfl rfl ?_
  refine cV rfl ?_
  refine ae rfl rfl ?_
  refine bU 0 Dr rfl Du rfl rfl ?_
  refine ae rfl rfl ?_
  refine bU 1 CS rfl CK rfl rfl ?_
  refine ae rfl rfl ?_
  refine bK CL rfl (aa (.head _) rfl) ?_
  refine ae rfl rfl ?_
  refine ag rfl ?_
  refine ae rfl rfl ?_
  refine tp rfl (ah (k':=x.toNat) CI CG rfl rfl hR9.oka (by omega) (by omega) (by omega)) ?_
  refine ae rfl rfl ?_
  refine bK CH rfl (aw (.tail _ (.tail _ (.head _))) (aQ (by omega))) ?_
  refine ae rfl rfl ?_
  refine tp rfl (cC rfl rfl rfl) (tp rfl (aL rfl rfl) (aA rfl (td hK2 (ay (aS (aS (aS (aS ?_))))))))
  refine eZ rfl hR9 ?_
  refine ia hH ?_
  refine aM rfl rfl ?_
  exact ⟨by rw [hH.has hkx,hR9.ato.at_ge hR9.hi hkx],rfl⟩
theorem xr{R:List HP}{p n:Nat}{ks:Ks}(x:Int):
 Ok Tryz.prog 158 [(vP p 0),(vI x)] ((cL p n ks)::R)
  (fun v M=>v=.int .i64 (mJ ks x)∧M=cL p n ks::R):=by
 refine aP (N:=15) Tryz.func158 rfl rfl rfl (fun W=>?_)
 refine aY (fun _ h=>gB h) (fun hhf=>?_)
 obtain ⟨hln,hbig,hcn⟩:=hhf
 refine av (fun _ hK1=>aA rfl (td hK1 (ai (fun _ hK2=>aH (av (fun _ hK3=>ag rfl ?_))))))
 refine ag rfl ?_
 refine bN Tryz.call160 rfl (nU (n:=n) (ks:=ks) x) ?_
 rintro _ _ ⟨rfl,rfl⟩
 refine tp rfl (dy (c:= !(gZ n x)) rfl rfl) (aA rfl (td hK3 ?_))
 refine cW rfl (fun c1=>?_) (fun c1=>?_)
 ·refine av (fun _ hK4=>aA rfl (td hK4 (ay ?_)))
  refine cH ?_
  refine aK ?_
  refine aM rfl rfl ?_
  refine ⟨?_,rfl⟩
  congr 1
  unfold mJ
  rw [hln]
  simp_all
 ·refine av (fun _ hK4=>ag rfl (ag rfl ?_))
  refine bN Tryz.call161 rfl (tV (n:=n) (ks:=ks) x) ?_
  rintro _ _ ⟨rfl,rfl⟩
  refine tp rfl (dy (c:= !(kg ks x)) rfl rfl) (aA rfl (td hK4 ?_))
  refine cW rfl (fun c2=>?_) (fun c2=>?_)
  ·refine av (fun _ hK5=>aA rfl (td hK5 (ay ?_)))
   refine cH ?_
   refine aK ?_
   refine aM rfl rfl ?_
   refine ⟨?_,rfl⟩
   congr 1
   unfold mJ
   rw [hln]
   simp_all
  ·refine cS (aZ (qn hK2 (av (fun _ hK5=>aA rfl (td hK5 (ay ?_))))))
   refine aM rfl rfl ?_
   refine ⟨?_,rfl⟩
   congr 1
   unfold mJ
   rw [hln]
   simp_all
set_option maxHeartbeats 4000000 in
theorem yG{R:List HP}{p n:Nat}{ks:Ks}(x k:Int):
 Ok Tryz.prog 132 [(vP p 0),(vI x),(vI k)] ((cL p n ks)::R)
  (fun v M=>v=.int .i64 (kb ks x)∧M=cL p n (jS ks x k)::R):=by
 refine aP (N:=31) Tryz.func132 rfl rfl rfl (fun W=>?_)
 refine aY (fun _ h=>gB h) (fun hhf=>?_)
 obtain ⟨hln,hbig,hcn⟩:=hhf
 refine av (fun _ hK1=>aA rfl (td hK1 (ai (fun _ hK2=>aH (av (fun _ hK3=>ag rfl ?_))))))
 refine ag rfl ?_
 refine bN Tryz.call160 rfl (nU (n:=n) (ks:=ks) x) ?_
 rintro _ _ ⟨rfl,rfl⟩
 refine tp rfl (dy (c:= !(gZ n x)) rfl rfl) (aA rfl (td hK3 ?_))
 refine cW rfl (fun c1=>?_) (fun c1=>?_)
 ·refine av (fun _ hK4=>aA rfl (td hK4 (ay ?_)))
  refine cH ?_
  refine aK ?_
  refine aM rfl rfl ?_
  have e1:kb ks x=1:=by unfold kb;rw [hln];simp_all
  have e2:jS ks x k=ks:=by unfold jS;rw [e1];rfl
  exact ⟨by rw [e1],by rw [e2]⟩
 ·refine av (fun _ hK4=>ag rfl (ag rfl ?_))
  refine bN Tryz.call161 rfl (tV (n:=n) (ks:=ks) x) ?_
  rintro _ _ ⟨rfl,rfl⟩
  refine aA rfl (td hK4 ?_)
  refine cW rfl (fun c2=>?_) (fun c2=>?_)
  ·refine av (fun _ hK5=>aA rfl (td hK5 (ay ?_)))
   refine cH ?_
   refine aK ?_
   refine aM rfl rfl ?_
   have e1:kb ks x=8:=by unfold kb;rw [hln];simp_all
   have e2:jS ks x k=ks:=by unfold jS;rw [e1];rfl
   exact ⟨by rw [e1],by rw [e2]⟩
  ·refine cS (aZ (qn hK2 (av (fun _ hK5=>?_))))
   have hkx:=known_iff.1 (show gZ n x=true by simp_all)
   have hnh:kg ks x=false:=by assumption
   refine kH (fun l Kk hH=>?_)
   refine gp (fun at3 bs4 cp5 bs6 cp7 bs8 cp9 hR10=>?_)
   have hal:=hR10.ato.len
   have hkl:=hR10.lk
   have hbg:=hR10.big
   have hll:=hR10.hi.le
   have hcl:=hR10.cpl
   have hxl:x ∉ l:=fun hm=>by rw [(hH.key hm).1] at hnh;cases hnh
   refine ag rfl (cV rfl (bU 0 Dr rfl Du rfl rfl (bU 2 CS rfl CK rfl rfl (bK CL rfl (aa (.head _) rfl) (ag rfl (ag rfl (tp rfl (ah (k':=x.toNat) CI CG rfl rfl hR10.okk (by omega) (by omega) (by omega)) ?_)))))))
   refine aS ?_
   refine ts (gN CG rfl rfl rfl (by rw [ints_length];omega) eD) ?_
   refine td hK5 (av (fun K6 hK6=>?_))
   have hkp:=hH.hp.kset hH.hi hH.lk (k:=k) hkx hxl
   refine aS (aS (aS ?_))
   refine eZ rfl ⟨hR10.hi,hR10.ato,by rw [List.length_set];exact hR10.lk,hR10.big,hR10.okl,hR10.cpl,hR10.oka,hR10.okk⟩ ?_
   refine ag rfl (cV rfl (bU 0 Dr rfl Du rfl rfl (tp rfl (gU (by intro w x;kernel_rfl) rfl) ?_)))
   refine ag rfl (tp rfl (gU (by intro w x;kernel_rfl) rfl) ?_)
   refine bN Tryz.call162 rfl (y5 (n:=n) (l:=l) (Kk:=Kk.set x.toNat k) x hkx hxl hkp) ?_
   rintro _ _ ⟨l11,hq12,rfl,rfl⟩
   refine td hK6 (av (fun _ hK7=>aA rfl (td hK7 (ay ?_))))
   refine ia (hH.push hkx hxl hq12.2.1 hq12.1 hq12.2.2) ?_
   refine aM rfl rfl ?_
   have e1:kb ks x=0:=by unfold kb;rw [hln];simp_all
   have e2:jS ks x k=ks.set x.toNat (some k):=by unfold jS;rw [e1];rfl
   exact ⟨by rw [e1],by rw [e2]⟩
set_option maxHeartbeats 4000000 in
theorem zM{R:List HP}{p n:Nat}{ks:Ks}(x:Int):
 Ok Tryz.prog 131 [(vP p 0),(vI x)] ((cL p n ks)::R)
  (fun v M=>v=.tuple #[.int .i64 (w7 ks x),.int .i64 (mJ ks x)]∧M=cL p n (jq ks x)::R):=by
 refine aP (N:=34) Tryz.func131 rfl rfl rfl (fun W=>?_)
 refine aY (fun _ h=>gB h) (fun hhf=>?_)
 obtain ⟨hln,hbig,hcn⟩:=hhf
 refine av (fun _ hK1=>aA rfl (aA rfl (td hK1 (ai (fun _ hK2=>av (fun _ hK3=>ag rfl ?_))))))
 refine ag rfl ?_
 refine bN Tryz.call158 rfl (xr (n:=n) (ks:=ks) x) ?_
 rintro _ _ ⟨rfl,rfl⟩
 refine aA rfl (td hK3 (av (fun _ hK4=>ag rfl ?_)))
 by_cases h1:(mJ ks x)=0
 ·refine tp rfl (cG rfl rfl (bne_eq_false_iff_eq.2 h1)) (td hK4 (ar rfl (dp hK2 (ai (fun _ hK5=>?_)))))
  have hr0:mJ ks x=0:=by first|assumption|exact Classical.not_not.1 ‹_›
  obtain ⟨hkx',hhx⟩:=vj hr0
  rw [hln] at hkx'
  have hkx:=known_iff.1 hkx'
  refine kH (fun l Kk hH=>?_)
  have hxl:x∈l:=by have:=hH.has hkx;rw [hhx] at this;exact of_decide_eq_true this.symm
  have hky:=(hH.key hxl).2.1
  refine Az (fun at2 bs3 cp4 bs5 cp6 bs7 cp8 hR9=>?_)
  have hal:=hR9.ato.len
  obtain ⟨i0,hi0,hi1,hi2⟩:=hR9.ato.at_is hxl
  refine bz (γ:=List Int) (n:=13) Tryz.mixed rfl rfl (fun (l10:List Int) S=>(S 12=true→((∀y,y∈l10↔y∈l∧y≠l.getD i0 0)∧HI n l10∧HeapP Kk l10 l10.length))) (fun (l10:List Int)=>[(0,13,(vP p 0)),(1,14,(vP p 0)),(2,15,(vP p 0)),(3,16,(.iface 178 (vP p 0))),(4,17,(vP p 0)),(5,18,(vP p 0)),(6,19,(vP p 0)),(7,20,(vP p 1)),(8,21,(.slice bs5 n cp6)),(9,22,(vI x)),(10,23,(.pointer (some (ad bs5 x.toNat)))),(11,24,(vN i0)),(12,25,(.iface 3 (vI (l.getD i0 0))))]) (fun (l10:List Int) S=>(bif S 12 then (eK p n l10 Kk) else (p8 p n l Kk at2 bs3 cp4 bs5 cp6 bs7 cp8))::R) ([]) (by simp [Nat.ble]) (fun _ h=>h) (fun _ _ h=>h) ?_ ?_
  ·refine ⟨ga fun _=>da,ga fun _=>fx,ga fun _=>dF Dr rfl Du,?_,ga fun _=>da,ga fun _=>fx,ga fun _=>dF Dr rfl Du,ga fun _=>dF CS rfl CK,?_,ga fun _=>da,ga fun _=>nu CI CG rfl rfl rfl ⟨hR9.oka,by omega,by omega,by omega⟩,?_,?_,trivial⟩
   ·rintro l10 S hF hS D hp K hK;try dsimp only
    exact bH (bE hp 2 rfl rfl) (gU (by intro w x;kernel_rfl) rfl) 3 rfl rfl hS (hK l10 hF)
   ·rintro l10 S hF hS D hp K hK;try dsimp only
    exact bH (bE hp 7 rfl rfl) (bP CL rfl (y4 (cF (nf (nf (nf hS D (k:=10) (i:=8) rfl) D (k:=11) (i:=10) rfl) D (k:=12) (i:=11) rfl) (.head _)) rfl)) 8 rfl rfl hS (hK l10 hF)
   ·rintro l10 S hF hS D hp K hK;try dsimp only
    exact bH (bE hp 10 rfl rfl) (bP CH rfl (dh (v:=.int .i64 (i0:Int)) (by rw [hi2]) (xV (cF (nf hS D (k:=12) (i:=11) rfl) (.head _)) (aQ (by omega))))) 11 rfl rfl hS (hK l10 hF)
   ·rintro l10 S hF hS D hp K hK
    try dsimp only at hF⊢
    have hf0:=hF
    refine bZ hp [16,24] rfl rfl ?_
    refine c9 hS ?_
    refine bO (fun _ h=>BS h) ?_
    refine bN Tryz.call159 rfl (Ac (n:=n) (l:=l) (Kk:=Kk) i0 hi0 hH.hp) ?_
    rintro _ _ ⟨l10,hq11,rfl,rfl⟩
    exact cK hp hS (ti (hK l10 (fun _=>hq11))) rfl rfl rfl
  ·rintro l10 hF
   try dsimp only at hF⊢
   have hf0:=hF
   have hq11:=hf0 rfl
   refine az (E':=[(0,(vP p 0)),(1,(vI x)),(4,(vI 0)),(5,(vI 0)),(6,(vI (mJ ks x))),(11,(.bool false))]) ⟨rfl,rfl,rfl,rfl,rfl,rfl,trivial⟩ ?_
   refine qn hK5 (av (fun K6 hK6=>?_))
   refine gp (fun at12 bs13 cp14 bs15 cp16 bs17 cp18 hR19=>?_)
   have hal:=hR19.ato.len
   have hkl:=hR19.lk
   have hbg:=hR19.big
   have hll:=hR19.hi.le
   have hcl:=hR19.cpl
   refine ag rfl (cV rfl (bU 0 Dr rfl Du rfl rfl (bU 2 CS rfl CK rfl rfl (bK CL rfl (aa (.head _) rfl) (ag rfl (tp rfl (ah (k':=x.toNat) CI CG rfl rfl hR19.okk (by omega) (by omega) (by omega)) ?_))))))
   refine bK CH rfl (aw (.tail _ (.tail _ (.tail _ (.head _)))) (aQ (by omega))) ?_
   refine aA rfl (aA rfl (td hK6 (ay (aS (aS (aS (aS ?_)))))))
   refine eZ rfl hR19 ?_
   refine ia (hH.rem hkx hq11.2.1 (by rw [←hi1];exact hq11.1) hq11.2.2) ?_
   refine dc rfl rfl rfl ?_
   have e2:jq ks x=ks.set x.toNat none:=by unfold jq;rw [hhx];rfl
   exact ⟨by rw [hky,hr0],by rw [e2]⟩
 ·refine tp rfl (cG rfl rfl (bne_iff_ne.2 h1)) (td hK4 (aG rfl (av (fun _ hK5=>ag rfl (aA rfl (aA rfl (aI ?_)))))))
  refine qn hK5 (ay ?_)
  refine aK ?_
  refine dc rfl rfl rfl ?_
  obtain ⟨e1,e2⟩:=Au (hln) ‹_›
  exact ⟨by rw [e1],by rw [e2]⟩
set_option maxHeartbeats 4000000 in
theorem zf{R:List HP}{p n:Nat}{ks:Ks}:
 Ok Tryz.prog 126 [(vP p 0)] ((cL p n ks)::R)
  (fun v M=>v=.tuple #[.int .i64 (jI ks),.int .i64 (jd ks),.bool (gT ks)]∧M=cL p n ks::R):=by
 refine aP (N:=28) Tryz.func126 rfl rfl rfl (fun W=>?_)
 refine aY (fun _ h=>gB h) (fun hhf=>?_)
 obtain ⟨hln,hbig,hcn⟩:=hhf
 refine kH (fun l Kk hH=>?_)
 refine gp (fun at1 bs2 cp3 bs4 cp5 bs6 cp7 hR8=>?_)
 have hal:=hR8.ato.len
 have hkl:=hR8.lk
 have hbg:=hR8.big
 have hll:=hR8.hi.le
 have hcl:=hR8.cpl
 refine av (fun _ hK1=>aA rfl (aA rfl (aA rfl (td hK1 (ai (fun _ hK2=>av (fun _ hK3=>?_)))))))
 refine ag rfl (cV rfl (bU 0 Dr rfl Du rfl rfl (bU 0 CS rfl CK rfl rfl (bK CL rfl (aa (.head _) rfl) (tp rfl (bC CI rfl rfl) ?_)))))
 by_cases h9:(l.length:Int)=0
 ·refine tp rfl (aV rfl rfl (beq_iff_eq.2 h9)) (td hK3 (aG rfl (av (fun _ hK4=>aA rfl (aA rfl (aA rfl (aI ?_)))))))
  refine qn hK4 (ay ?_)
  refine aK ?_
  refine aS (aS (aS (aS ?_)))
  refine eZ rfl hR8 ?_
  refine ia hH ?_
  refine qZ rfl rfl rfl rfl ?_
  obtain ⟨e1,e2,e3,e4⟩:=hH.fstNone (by omega)
  exact ⟨by rw [e1,e2,e3],by first|rfl|rw [e4]⟩
 ·refine tp rfl (aV rfl rfl (beq_eq_false_iff_ne.2 h9)) (td hK3 (ar rfl (dp hK2 (av (fun _ hK4=>?_)))))
  have hb0:=hH.hi.bd 0 (by omega)
  refine ag rfl (cV rfl (bU 0 Dr rfl Du rfl rfl (bU 0 CS rfl CK rfl rfl (bK CL rfl (aa (.head _) rfl) (tp rfl (ah (k':=0) CI CG rfl rfl hR8.okl (by omega) (by omega) (by omega)) ?_)))))
  refine bK CH rfl (aw (.tail _ (.head _)) (aQ (by omega))) ?_
  refine aA rfl (td hK4 (ai (fun _ hK5=>?_)))
  refine bz (γ:=Unit) (n:=12) Tryz.mixed rfl rfl (fun _ S=>True) (fun _=>[(0,19,(vI ((l).getD 0 0))),(1,20,(vP p 0)),(2,21,(vP p 0)),(3,22,(vP p 0)),(4,23,(vP p 2)),(5,24,(.slice bs6 n cp7)),(6,25,(vI ((l).getD 0 0))),(7,26,(.pointer (some (ad bs6 (((l).getD 0 0).toNat))))),(8,27,(vI ((Kk).getD (((l).getD 0 0).toNat) 0))),(9,2,(vI ((l).getD 0 0))),(10,3,(vI ((Kk).getD (((l).getD 0 0).toNat) 0))),(11,4,(.bool true))]) (fun _ S=>(bI p [(.slice bs2 l.length cp3),(.slice bs4 n cp5),(.slice bs6 n cp7)] 173)::(SlV 3 1 (.slice bs2 l.length cp3) l.length (aF .i64 l))::(SlV 3 1 (.slice bs4 n cp5) n (aF .i64 at1))::(SlV 3 1 (.slice bs6 n cp7) n (aF .i64 Kk))::R) (()) trivial (fun _ h=>h) (fun _ _ h=>h) ?_ ?_
  ·refine ⟨?_,aU,bW,bL Dr rfl Du,bL CS rfl CK,db CL fun _ _=>aa (.head _) rfl,?_,eJ CI CG rr rr rr fun _=>⟨hR8.okk,by omega,by omega,by omega⟩,dB CH rr rr fun _ _=>aw (.tail _ (.tail _ (.tail _ (.head _)))) (aQ (by omega)),fh,fh,fh,trivial⟩
   ·intro _ S h s D p K k;exact bH (fu (t:=2) 9 (nf s D (k:=9) (i:=0) rfl) rfl rfl) (eX rfl) 0 rfl rfl s (k () h)
   ·intro _ S h s D p K k;exact bH (fu (t:=2) 9 (nf s D (k:=9) (i:=6) rfl) rfl rfl) (eX rfl) 6 rfl rfl s (k () h)
  ·rintro _ hF
   try dsimp only at hF⊢
   refine az (E':=[(0,(vP p 0)),(2,(vI ((l).getD 0 0))),(3,(vI ((Kk).getD (((l).getD 0 0).toNat) 0))),(4,(.bool true)),(11,(.bool false))]) ⟨rfl,rfl,rfl,rfl,rfl,trivial⟩ ?_
   refine qn hK5 (ay (aS (aS (aS (aS ?_)))))
   refine eZ rfl hR8 ?_
   refine ia hH ?_
   refine qZ rfl rfl rfl rfl ?_
   obtain ⟨e1,e2,e3,e4⟩:=hH.fst (by omega)
   exact ⟨by rw [e1,e2,e3],by first|rfl|rw [e4]⟩
set_option maxHeartbeats 4000000 in
theorem zy{R:List HP}{p n:Nat}{ks:Ks}:
 Ok Tryz.prog 81 [(vP p 0)] ((cL p n ks)::R)
  (fun v M=>v=.tuple #[.int .i64 (jI ks),.int .i64 (jd ks),.bool (gT ks)]∧M=cL p n (jt ks)::R):=by
 refine aP (N:=27) Tryz.func81 rfl rfl rfl (fun W=>?_)
 refine aY (fun _ h=>gB h) (fun hhf=>?_)
 obtain ⟨hln,hbig,hcn⟩:=hhf
 refine kH (fun l Kk hH=>?_)
 refine gp (fun at1 bs2 cp3 bs4 cp5 bs6 cp7 hR8=>?_)
 have hal:=hR8.ato.len
 have hkl:=hR8.lk
 have hbg:=hR8.big
 have hll:=hR8.hi.le
 have hcl:=hR8.cpl
 refine av (fun _ hK1=>aA rfl (aA rfl (aA rfl (td hK1 (ai (fun _ hK2=>av (fun _ hK3=>?_)))))))
 refine ag rfl (cV rfl (bU 0 Dr rfl Du rfl rfl (bU 0 CS rfl CK rfl rfl (bK CL rfl (aa (.head _) rfl) (tp rfl (bC CI rfl rfl) ?_)))))
 by_cases h9:(l.length:Int)=0
 ·refine tp rfl (aV rfl rfl (beq_iff_eq.2 h9)) (td hK3 (aG rfl (av (fun _ hK4=>aA rfl (aA rfl (aA rfl (aI ?_)))))))
  refine qn hK4 (ay ?_)
  refine aK ?_
  refine aS (aS (aS (aS ?_)))
  refine eZ rfl hR8 ?_
  refine ia hH ?_
  refine qZ rfl rfl rfl rfl ?_
  obtain ⟨e1,e2,e3,e4⟩:=hH.fstNone (by omega)
  exact ⟨by rw [e1,e2,e3],by first|rfl|rw [e4]⟩
 ·refine tp rfl (aV rfl rfl (beq_eq_false_iff_ne.2 h9)) (td hK3 (ar rfl (dp hK2 (av (fun _ hK4=>?_)))))
  have hb0:=hH.hi.bd 0 (by omega)
  refine aS (aS (aS (aS ?_)))
  refine eZ rfl hR8 ?_
  refine ag rfl (cV rfl (bU 0 Dr rfl Du rfl rfl (tp rfl (gU (by intro w x;kernel_rfl) rfl) ?_)))
  refine bN Tryz.call127 rfl (zT (n:=n) (l:=l) (Kk:=Kk) (by omega) hH.hp) ?_
  rintro _ _ ⟨l10,hq11,rfl,rfl⟩
  refine tp rfl (kY (by intro w v;kernel_rfl) rfl) ?_
  refine aA rfl (td hK4 (ai (fun _ hK5=>?_)))
  refine gp (fun at12 bs13 cp14 bs15 cp16 bs17 cp18 hR19=>?_)
  have hal:=hR19.ato.len
  have hkl:=hR19.lk
  have hbg:=hR19.big
  have hll:=hR19.hi.le
  have hcl:=hR19.cpl
  refine bz (γ:=Unit) (n:=12) Tryz.mixed rfl rfl (fun _ S=>True) (fun _=>[(0,18,(vI (l.getD 0 0))),(1,19,(vP p 0)),(2,20,(vP p 0)),(3,21,(vP p 0)),(4,22,(vP p 2)),(5,23,(.slice bs17 n cp18)),(6,24,(vI (l.getD 0 0))),(7,25,(.pointer (some (ad bs17 ((l.getD 0 0).toNat))))),(8,26,(vI ((Kk).getD ((l.getD 0 0).toNat) 0))),(9,2,(vI (l.getD 0 0))),(10,3,(vI ((Kk).getD ((l.getD 0 0).toNat) 0))),(11,4,(.bool true))]) (fun _ S=>(bI p [(.slice bs13 l10.length cp14),(.slice bs15 n cp16),(.slice bs17 n cp18)] 173)::(SlV 3 1 (.slice bs13 l10.length cp14) l10.length (aF .i64 l10))::(SlV 3 1 (.slice bs15 n cp16) n (aF .i64 at12))::(SlV 3 1 (.slice bs17 n cp18) n (aF .i64 Kk))::R) (()) trivial (fun _ h=>h) (fun _ _ h=>h) ?_ ?_
  ·refine ⟨?_,aU,bW,bL Dr rfl Du,bL CS rfl CK,db CL fun _ _=>aa (.head _) rfl,?_,eJ CI CG rr rr rr fun _=>⟨hR19.okk,by omega,by omega,by omega⟩,dB CH rr rr fun _ _=>aw (.tail _ (.tail _ (.tail _ (.head _)))) (aQ (by omega)),fh,fh,fh,trivial⟩
   ·intro _ S h s D p K k;exact bH (fu (t:=2) 9 (nf s D (k:=9) (i:=0) rfl) rfl rfl) (eX rfl) 0 rfl rfl s (k () h)
   ·intro _ S h s D p K k;exact bH (fu (t:=2) 9 (nf s D (k:=9) (i:=6) rfl) rfl rfl) (eX rfl) 6 rfl rfl s (k () h)
  ·rintro _ hF
   try dsimp only at hF⊢
   refine az (E':=[(0,(vP p 0)),(2,(vI (l.getD 0 0))),(3,(vI ((Kk).getD ((l.getD 0 0).toNat) 0))),(4,(.bool true)),(11,(.bool false))]) ⟨rfl,rfl,rfl,rfl,rfl,trivial⟩ ?_
   refine qn hK5 (ay (aS (aS (aS (aS ?_)))))
   refine eZ rfl hR19 ?_
   refine ia (hH.rem (x:=l.getD 0 0) hb0 hq11.2.1 hq11.1 hq11.2.2) ?_
   refine qZ rfl rfl rfl rfl ?_
   obtain ⟨e1,e2,e3,e4⟩:=hH.fst (by omega)
   exact ⟨by rw [e1,e2,e3],by first|rfl|rw [e4]⟩
set_option maxHeartbeats 4000000 in
theorem Ag{R:List HP}(m:Int):
 Ok Tryz.prog 69 [(vI m)] R
  (fun v M=> ∃p,v=.pointer (some ⟨p,0,none⟩)∧M=cL p (b8 m) (List.replicate (b8 m) none)::R):=by
 have hcl:=pI m
 have hce:min (max m 0) 65536=((b8 m:Nat):Int):=by unfold b8;omega
 refine aP (N:=33) Tryz.func69 rfl rfl rfl (fun W=>?_)
 refine av (fun _ hK1=>aA rfl (td hK1 (av (fun _ hK2=>ag rfl (tp rfl (fm (c:=max m 0) rfl rfl rfl) (tp rfl (hO (c:=((b8 m:Nat):Int)) rfl rfl hce) ?_))))))
 refine aA rfl (td hK2 (ai (fun _ hK3=>?_)))
 refine bz (γ:=Option Addr×Nat×Option Addr×Nat×Nat) (n:=8) Tryz.mixed rfl rfl (fun (bs1,cp2,bs5,cp6,b9) S=>(S 1=true→bB bs1 (b8 m))∧(S 1=true→b8 m≤cp2)∧(S 3=true→bB bs5 (b8 m))∧(S 3=true→b8 m≤cp6)) (fun (bs1,cp2,bs5,cp6,b9)=>[(0,8,(vI ((b8 m:Nat):Int))),(1,9,(.slice bs1 (b8 m) cp2)),(2,10,(vI ((b8 m:Nat):Int))),(3,11,(.slice bs5 (b8 m) cp6)),(4,12,(.agg #[(.slice none 0 0),(.slice bs1 (b8 m) cp2),(.slice bs5 (b8 m) cp6)])),(5,13,(.agg #[(.slice none 0 0),(.slice bs1 (b8 m) cp2),(.slice bs5 (b8 m) cp6)])),(6,14,(vP b9 0)),(7,3,(vP b9 0))]) (fun (bs1,cp2,bs5,cp6,b9) S=>(bif S 1 then (SlV 3 1 (.slice bs1 (b8 m) cp2) (b8 m) (aF .i64 (List.replicate (b8 m) 0))) else ib)::(bif S 3 then (SlV 3 1 (.slice bs5 (b8 m) cp6) (b8 m) (aF .i64 (List.replicate (b8 m) 0))) else ib)::(bif S 6 then (bI b9 [(.slice none 0 0),(.slice bs1 (b8 m) cp2),(.slice bs5 (b8 m) cp6)] 173) else ib)::R) (none,0,none,0,0) (by simp [Nat.ble]) (fun _ h=>ef [] 3 h) (fun _ _ h=>h) ?_ ?_
 ·refine ⟨ga fun ⟨_,_,_,_,_⟩=>da,?_,ga fun ⟨_,_,_,_,_⟩=>da,?_,?_,?_,?_,ga fun ⟨_,_,_,_,_⟩=>kj,trivial⟩
  ·rintro ⟨bs1,cp2,bs5,cp6,b9⟩ S hF hS D hp K hK
   try dsimp only at hF⊢
   obtain ⟨hf0,hf1,hf2,hf3⟩:=hF
   refine bZ hp [8] rfl rfl ?_
   refine tm rfl (eP (i:=Tryz.t3) CI C1 rfl rfl rfl rfl rfl (by omega) (by rw [show Tryz.t3.bytes=8 from rfl];omega) (by omega)) ?_
   rintro _ _ ⟨bs1,cp2,hok3,hle4,rfl,rfl⟩
   rw [iX]
   refine aS ?_
   refine c9 (nf (nf (nf hS D (k:=4) (i:=1) rfl) D (k:=5) (i:=4) rfl) D (k:=6) (i:=5) rfl) ?_
   refine fG (A:=(bI b9 [(.slice none 0 0),(.slice bs1 (b8 m) cp2),(.slice bs5 (b8 m) cp6)] 173)) (nf (nf (nf hS D (k:=4) (i:=1) rfl) D (k:=5) (i:=4) rfl) D (k:=6) (i:=5) rfl) ?_
   refine aS (aS (aS ?_))
   refine bO (fun _ h=>cX [] h) ?_
   exact cK hp hS (ti (hK (bs1,cp2,bs5,cp6,b9) ⟨(fun _=>hok3),(fun _=>hle4),hf2,hf3⟩)) rfl rfl rfl (ha:=by exact ⟨.inl rfl,.inr ⟨rfl,rfl,hS⟩,.inl rfl,.inl rfl,.inr ⟨rfl,rfl,(nf hS D (k:=4) (i:=1) rfl)⟩,.inr ⟨rfl,rfl,(nf (nf hS D (k:=4) (i:=1) rfl) D (k:=5) (i:=4) rfl)⟩,.inl rfl,.inl rfl,trivial⟩)
  ·rintro ⟨bs1,cp2,bs5,cp6,b9⟩ S hF hS D hp K hK
   try dsimp only at hF⊢
   obtain ⟨hf0,hf1,hf2,hf3⟩:=hF
   refine bZ hp [10] rfl rfl ?_
   refine tm rfl (eP (i:=Tryz.t3) CI C1 rfl rfl rfl rfl rfl (by omega) (by rw [show Tryz.t3.bytes=8 from rfl];omega) (by omega)) ?_
   rintro _ _ ⟨bs5,cp6,hok7,hle8,rfl,rfl⟩
   rw [iX]
   refine aS ?_
   refine c9 (nf (nf (nf hS D (k:=4) (i:=3) rfl) D (k:=5) (i:=4) rfl) D (k:=6) (i:=5) rfl) ?_
   refine fG (A:=(bI b9 [(.slice none 0 0),(.slice bs1 (b8 m) cp2),(.slice bs5 (b8 m) cp6)] 173)) (nf (nf (nf hS D (k:=4) (i:=3) rfl) D (k:=5) (i:=4) rfl) D (k:=6) (i:=5) rfl) ?_
   refine aS (aS (aS ?_))
   refine bO (fun _ h=>cX [_] h) ?_
   exact cK hp hS (ti (hK (bs1,cp2,bs5,cp6,b9) ⟨hf0,hf1,(fun _=>hok7),(fun _=>hle8)⟩)) rfl rfl rfl (ha:=by exact ⟨.inl rfl,.inl rfl,.inl rfl,.inr ⟨rfl,rfl,hS⟩,.inr ⟨rfl,rfl,(nf hS D (k:=4) (i:=3) rfl)⟩,.inr ⟨rfl,rfl,(nf (nf hS D (k:=4) (i:=3) rfl) D (k:=5) (i:=4) rfl)⟩,.inl rfl,.inl rfl,trivial⟩)
  ·rintro ⟨bs1,cp2,bs5,cp6,b9⟩ S hF hS D hp K hK
   try dsimp only at hF⊢
   obtain ⟨hf0,hf1,hf2,hf3⟩:=hF
   have s1:=hp 1 rfl
   have hok3:=hf0 s1
   have hle4:=hf1 s1
   have s3:=hp 3 rfl
   have hok7:=hf2 s3
   have hle8:=hf3 s3
   refine bZ hp [9,11] rfl rfl ?_
   refine tp rfl (bG (cs:=[(.slice none 0 0),(.slice bs1 (b8 m) cp2),(.slice bs5 (b8 m) cp6)]) (pl:=[(0,1),(1,1),(2,1)]) CS Tryz.zeroValue171 (fun _=>by simp) rfl rfl) ?_
   exact cK hp hS (ti (hK (bs1,cp2,bs5,cp6,b9) ⟨hf0,hf1,hf2,hf3⟩)) rfl rfl rfl
  ·rintro ⟨bs1,cp2,bs5,cp6,b9⟩ S hF hS D hp K hK
   try dsimp only at hF⊢
   obtain ⟨hf0,hf1,hf2,hf3⟩:=hF
   have s4:=hp 4 rfl
   have s1:=D 4 1 rfl s4
   have hok3:=hf0 s1
   have hle4:=hf1 s1
   have s3:=D 4 3 rfl s4
   have hok7:=hf2 s3
   have hle8:=hf3 s3
   refine bZ hp [12] rfl rfl ?_
   refine tp rfl (bG (cs:=[(.slice none 0 0),(.slice bs1 (b8 m) cp2),(.slice bs5 (b8 m) cp6)]) (pl:=[(0,3)]) Dr Tryz.zeroValue173 (fun _=>by simp) rfl rfl) ?_
   exact cK hp hS (ti (hK (bs1,cp2,bs5,cp6,b9) ⟨hf0,hf1,hf2,hf3⟩)) rfl rfl rfl
  ·rintro ⟨bs1,cp2,bs5,cp6,b9⟩ S hF hS D hp K hK
   try dsimp only at hF⊢
   obtain ⟨hf0,hf1,hf2,hf3⟩:=hF
   have s5:=hp 5 rfl
   have s4:=D 5 4 rfl s5
   have s1:=D 4 1 rfl s4
   have hok3:=hf0 s1
   have hle4:=hf1 s1
   have s3:=D 4 3 rfl s4
   have hok7:=hf2 s3
   have hle8:=hf3 s3
   refine bZ hp [13] rfl rfl ?_
   refine tm rfl (cZ rfl rfl) ?_
   rintro _ _ ⟨b9,rfl,rfl⟩
   refine bO (fun _ h=>cX [_,_] h) ?_
   exact cK hp hS (ti (hK (bs1,cp2,bs5,cp6,b9) ⟨hf0,hf1,hf2,hf3⟩)) rfl rfl rfl
 ·rintro ⟨bs1,cp2,bs5,cp6,b9⟩ hF
  try dsimp only at hF⊢
  obtain ⟨hf0,hf1,hf2,hf3⟩:=hF
  have hok3:=hf0 rfl
  have hle4:=hf1 rfl
  have hok7:=hf2 rfl
  have hle8:=hf3 rfl
  refine az (E':=[(0,(vI ((b8 m:Nat):Int))),(2,(.pointer none)),(3,(vP b9 0))]) ⟨rfl,rfl,rfl,trivial⟩ ?_
  refine qn hK3 (ai (fun _ hK4=>av (fun _ hK5=>ag rfl (cV rfl (bU 0 Dr rfl Du rfl rfl (bU 1 CS rfl CK rfl rfl (bK CL rfl (aa (.tail _ (.tail _ (.head _))) rfl) (tp rfl (bC CI rfl rfl) ?_))))))))
  refine ag rfl (td hK5 (aH ?_))
  refine bO (fun _ h=>(show Sat (SlV 3 1 (.slice bs1 (b8 m) cp2) (b8 m) (aF .i64 (jU (b8 m) 0))::_) _ from by rw [←rN];exact h)) ?_
  refine cE (γ:=(Nat)) (fun (i:Nat)=>i≤b8 m) (fun (i:Nat)=>[(0,(vI ((b8 m:Nat):Int))),(2,(.pointer none)),(3,(vP b9 0)),(20,(vI ((b8 m:Nat):Int))),(21,(vN i))]) (fun (i:Nat)=>(SlV 3 1 (.slice bs1 (b8 m) cp2) (b8 m) (aF .i64 (jU (b8 m) i)))::(SlV 3 1 (.slice bs5 (b8 m) cp6) (b8 m) (aF .i64 (List.replicate (b8 m) 0)))::(bI b9 [(.slice none 0 0),(.slice bs1 (b8 m) cp2),(.slice bs5 (b8 m) cp6)] 173)::R) (fun (i:Nat)=>b8 m-i) (0) (by omega) ⟨rfl,rfl,rfl,rfl,rfl,trivial⟩ (fun _ h=>h) ?_
  rintro i K6 hF hK6
  try dsimp only at hF hK6⊢
  have hfl:=u6 (N:=b8 m) (i:=i) (by omega)
  refine av (fun _ hK7=>?_)
  by_cases h10:(i:Int)< ((b8 m:Nat):Int)
  ·refine tp rfl (aJ rfl rfl (decide_eq_true h10)) (td hK7 (ai (fun _ hK8=>aG rfl (dp hK8 (ai (fun _ hK9=>aH (ai (fun _ hK10=>?_))))))))
   refine aj (ag rfl (aA rfl (td hK10 (aj (ag rfl (cV rfl (bU 0 Dr rfl Du rfl rfl (bU 1 CS rfl CK rfl rfl ?_))))))))
   refine bK CL rfl (aa (.tail _ (.tail _ (.head _))) rfl) (ag rfl (tp rfl (ah (k':=i) CI CG rfl rfl hok3 (by omega) (by omega) (by omega)) ?_))
   refine ts (gN CG rfl rfl rfl (by rw [ints_length];omega) eD) ?_
   refine aI (aZ (qn hK9 (aj (tp rfl (aX (c:=((i+1:Nat):Int)) rfl rfl (aB (by omega))) ?_))))
   refine ag rfl (aI (aN ?_))
   rw [sS (show i<b8 m by omega)]
   exact az (by exact ⟨rfl,rfl,rfl,rfl,rfl,trivial⟩) ((hK6 (i+1) (by omega) (by omega)))
  ·refine tp rfl (aJ rfl rfl (decide_eq_false h10)) (td hK7 (ai (fun _ hK8=>ar rfl (bT (au (au (bS (qn hK4 ?_))))))))
   refine av (fun _ hK9=>ag rfl (aA rfl (td hK9 (ay (aE (aE (aR ?_)))))))
   refine bO (fun _ h=>cz 3 1 h) ?_
   refine aE ?_
   rw [show jU (b8 m) i=List.replicate (b8 m) (-1) from by rw [show i=b8 m by omega];exact wN _]
   refine eZ (l:=[]) (Ks:=List.replicate (b8 m) 0) rfl (vZ (pI m) hok3 hok7) ?_
   refine ia (Sp.new_ok _) ?_
   refine aM rfl rfl ?_
   exact ⟨_,rfl,rfl⟩
end Go.Proofs.YtanfdikglplkaaaGreatDoor
