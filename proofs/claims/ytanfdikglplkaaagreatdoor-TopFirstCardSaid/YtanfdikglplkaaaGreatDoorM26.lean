/- Parts Ub, Uc, Ud: own lemmas and contracts of the code that the claim reaches. -/
import Derived.Test.YtanfdikglplkaaaGreatDoorM03
import Derived.Test.YtanfdikglplkaaaGreatDoorM25
import Derived.Test.YtanfdikglplkaaaGreatDoorM12
import Derived.Test.YtanfdikglplkaaaGreatDoorM13
import Derived.Test.YtanfdikglplkaaaGreatDoorM05
import Derived.Test.YtanfdikglplkaaaGreatDoorM04
set_option linter.unusedSimpArgs false
set_option linter.unusedVariables false
set_option maxRecDepth 100000
namespace Go.Proofs.YtanfdikglplkaaaGreatDoor
open Go Go.Proofs Sp
set_option maxHeartbeats 4000000 in
theorem vd{R:List HP}{p:Ev→Bool}{f n:Nat}{first:List Value}{bx:Option Addr}{cx:Nat}(xs:List Ev)(hlx:xs.length=n)(hf:(∀args w,(callFunc f args).run Tryz.prog w=.ok (.enter f args) w)∧∀(R':List HP) (x:Ev),Ok Tryz.prog f (first++[.agg #[.int .i64 x.k,.int .i64 x.t,.int .i64 x.s,.int .i64 x.e,.int .i64 x.i]]) R' (fun v M=>v=.bool (p x)∧M=R'))(hx:Rd R bx (bJ gH xs))(okx:bB bx n)(lx:n≤1000000):
 Ok Tryz.prog 165 [(.slice bx n cx),(.func (.func f) first.toArray #[])] R
  (fun v M=>v=.int .i64 (gi (fun k=>p (xs.getD k Ev.z)) n)∧M=R):=by
 obtain ⟨hcall,hf⟩:=hf
 refine aP (N:=19) Tryz.func165 rfl rfl rfl (fun W=>?_)
 refine av (fun _ hK1=>aA rfl (td hK1 (ai (fun _ hK2=>av (fun _ hK3=>ag rfl (tp rfl (bC Db rfl rfl) ?_))))))
 refine ag rfl (td hK3 (aH ?_))
 refine cE (γ:=(Nat)) (fun (k:Nat)=>k≤n∧(∀j,j<k→p (xs.getD j Ev.z)=false)) (fun (k:Nat)=>[(0,(.slice bx n cx)),(1,(.func (.func f) first.toArray #[])),(7,(vN n)),(8,(vN k))]) (fun (k:Nat)=>R) (fun (k:Nat)=>n-k) (0) ⟨by omega,fun j hj=>by omega⟩ ⟨rfl,rfl,rfl,rfl,trivial⟩ (fun _ h=>h) ?_
 rintro k K4 hF hK4
 try dsimp only at hF hK4⊢
 obtain ⟨hk,hall⟩:=hF
 refine av (fun _ hK5=>?_)
 by_cases h1:(k:Int)< (n:Int)
 ·refine tp rfl (aJ rfl rfl (decide_eq_true h1)) (td hK5 (ai (fun _ hK6=>aG rfl (dp hK6 (ai (fun K7 hK7=>aH (ai (fun _ hK8=>?_))))))))
  refine aj (ag rfl (aA rfl (td hK8 (av (fun _ hK9=>ag rfl (ag rfl (ag rfl ?_)))))))
  refine tp rfl (ah (k':=k*5) Db CZ rfl rfl okx (by omega) (by omega) (by omega)) ?_
  refine tp rfl (cU (cs:=[(vI ((xs.getD k Ev.z).k)),(vI ((xs.getD k Ev.z).t)),(vI ((xs.getD k Ev.z).s)),(vI ((xs.getD k Ev.z).e)),(vI ((xs.getD k Ev.z).i))]) DI CZ rfl (bh (Rd.gives hx ((bc (k:=k) (j:=0) bA (d:=Ev.z) (by first|omega| (simp;omega)) (nB rfl)).trans rfl)) (Rd.gives hx ((bc (k:=k) (j:=1) bA (d:=Ev.z) (by first|omega| (simp;omega)) (nB rfl)).trans rfl)) (Rd.gives hx ((bc (k:=k) (j:=2) bA (d:=Ev.z) (by first|omega| (simp;omega)) (nB rfl)).trans rfl)) (Rd.gives hx ((bc (k:=k) (j:=3) bA (d:=Ev.z) (by first|omega| (simp;omega)) (nB rfl)).trans rfl)) (Rd.gives hx ((bc (k:=k) (j:=4) bA (d:=Ev.z) (by first|omega| (simp;omega)) (nB rfl)).trans rfl)))) ?_
  refine tc rfl (qB (first:=first) hcall rfl rfl) (hf _ (xs.getD k Ev.z)) ?_
  rintro _ _ ⟨rfl,hMR⟩
  rw [hMR];clear hMR
  refine td hK9 ?_
  refine cW rfl (fun c2=>?_) (fun c2=>?_)
  ·skip
   refine av (fun _ hK10=>ag rfl (aA rfl (td hK10 (ay ?_))))
   refine cH ?_
   refine aK ?_
   refine aK ?_
   refine cH ?_
   refine aK ?_
   refine aM rfl rfl ?_
   exact ⟨by rw [kP (p:=fun k=>p (xs.getD k Ev.z)) (k:=k) (by omega) ‹_› hall],rfl⟩
  ·skip
   refine cS (aZ (qn hK7 (aj (tp rfl (aX (c:=((k+1:Nat):Int)) rfl rfl (aB (by omega))) ?_))))
   refine ag rfl (aI (aN ?_))
   exact az (by exact ⟨rfl,rfl,rfl,rfl,trivial⟩) ((hK4 (k+1) ⟨by omega,jx hall ‹_›⟩ (by omega)))
 ·refine tp rfl (aJ rfl rfl (decide_eq_false h1)) (td hK5 (ai (fun _ hK6=>ar rfl (bT (au (au (bS (qn hK2 ?_))))))))
  refine av (fun K7 hK7=>aA rfl (td hK7 (ay ?_)))
  refine aM rfl rfl ?_
  exact ⟨by rw [iL (p:=fun k=>p (xs.getD k Ev.z)) (fun j hj=>hall j (by omega))],rfl⟩
theorem ve{R:List HP}{bx:Option Addr}{cx n:Nat}(xs:List Ev)(hn:xs.length=n)(hx:Rd R bx (bJ gH xs))(okx:bB bx n)(lx:n≤1000000):
 Ok Tryz.prog 140 [(.slice bx n cx)] R
  (dZ 195 5 n (bJ gH xs) R):=by
 refine aP (N:=8) Tryz.func140 rfl rfl rfl (fun W=>?_)
 refine av (fun _ hK1=>aA rfl (td hK1 (ai (fun _ hK2=>av (fun _ hK3=>ag rfl ?_)))))
 rcases hnhnil1:(bx).isNone with _|_
 ·refine tp rfl (gC Db rfl rfl hnhnil1) (td hK3 (ar rfl (dp hK2 (av (fun K4 hK4=>?_)))))
  refine tm rfl (aD (cs:=[]) Db CZ Ec (by decide) rfl rfl rfl rfl) ?_
  rintro _ _ ⟨bs2,cp3,hok4,hle5,rfl,rfl⟩
  refine ag rfl ?_
  refine tm rfl (cR (i:=Tryz.t195) Db Tryz.type195 rfl rfl rfl (by decide) rfl rfl okx (by rw [dQ bA,hn]) (Rd.cons hx) (ot uU) (by rw [show Tryz.t195.bytes=40 from rfl];omega)) ?_
  rintro _ _ ⟨bs6,cp7,hok8,hle9,rfl,rfl⟩
  simp only [Nat.zero_add] at hok8 hle9⊢
  rw [List.nil_append]
  refine aA rfl (td hK4 (ay ?_))
  refine aM rfl rfl ?_
  exact ⟨_,_,hok8,hle9,rfl,rfl⟩
 ·refine tp rfl (gC Db rfl rfl hnhnil1) (td hK3 (aG rfl (av (fun K4 hK4=>aA rfl (td hK4 (ay ?_))))))
  refine aK ?_
  refine bO (fun _ h=>cz 195 5 h) ?_
  refine aM rfl rfl ?_
  have h0:n=0:=ji okx ‹_›
  subst h0
  obtain rfl:xs=[]:=List.eq_nil_of_length_eq_zero hn
  exact ⟨none,0,cn,Nat.le_refl _,rfl,rfl⟩
set_option maxHeartbeats 4000000 in
theorem vf{R:List HP}{p:Ev→Bool}{f n:Nat}{first:List Value}{bx:Option Addr}{cx:Nat}(xs:List Ev)(hlx:xs.length=n)(hf:(∀args w,(callFunc f args).run Tryz.prog w=.ok (.enter f args) w)∧∀(R':List HP) (x:Ev),Ok Tryz.prog f (first++[.agg #[.int .i64 x.k,.int .i64 x.t,.int .i64 x.s,.int .i64 x.e,.int .i64 x.i]]) R' (fun v M=>v=.bool (p x)∧M=R'))(lx:n≤1000000):
 Ok Tryz.prog 139 [(.slice bx n cx),(.func (.func f) first.toArray #[])] ((SlV 195 5 (.slice bx n cx) n (bJ gH xs))::R)
  (fun v M=> ∃zs,KeptE p xs zs∧v=.slice bx zs.length cx∧M=SlV 195 5 (.slice bx zs.length cx) zs.length (bJ gH zs)::R):=by
 refine aP (N:=42) Tryz.func139 rfl rfl rfl (fun W=>?_)
 refine aY (fun _ h=>fY h) (fun hbx=>?_)
 obtain ⟨okx,hcx,hmx⟩:=hbx
 unfold maxLen at hmx
 obtain ⟨hcall,hf⟩:=hf
 refine av (fun _ hK1=>aA rfl (td hK1 (av (fun _ hK2=>ag rfl (ag rfl ?_)))))
 refine bN Tryz.call165 rfl (vd (n:=n) xs hlx ⟨hcall,hf⟩ (cj (.head _)) okx (by omega)) ?_
 rintro _ _ ⟨rfl,rfl⟩
 refine aA rfl (td hK2 (ai (fun _ hK3=>av (fun K4 hK4=>ag rfl ?_))))
 by_cases hnone:(gi (fun k=>p (xs.getD k Ev.z)) n)=(-1)
 ·refine tp rfl (aV rfl rfl (beq_iff_eq.2 hnone)) (td hK4 (aG rfl (av (fun _ hK5=>ag rfl (aA rfl (td hK5 ?_))))))
  refine ay ?_
  refine aK ?_
  refine aM rfl rfl ?_
  exact ⟨xs,KeptE.all (fun j hj=>yC ‹_› j (by omega)),by rw [hlx],by rw [hlx]⟩
 ·refine tp rfl (aV rfl rfl (beq_eq_false_iff_ne.2 hnone)) (td hK4 (ar rfl (dp hK3 (ai (fun _ hK5=>av (fun _ hK6=>?_))))))
  obtain ⟨k0,hk0,hk1,hk3⟩:∃k0:Nat,gi (fun k=>p (xs.getD k Ev.z)) n=(k0:Int)∧k0<n∧∀j,j<k0→p (xs.getD j Ev.z)=false:=w6 ‹_›
  rw [hk0]
  refine ag rfl (tp rfl (aX (c:=((k0+1:Nat):Int)) rfl rfl (aB (by omega))) ?_)
  refine aA rfl (td hK6 (aH ?_))
  refine cE (γ:=(Nat)×(Nat)×(List Ev)) (fun (i,j,ys)=>DelE p xs i j ys) (fun (i,j,ys)=>[(0,(.slice bx n cx)),(1,(.func (.func f) first.toArray #[])),(4,(.slice none 0 0)),(5,(vN i)),(6,(vN j)),(12,(.bool false))]) (fun (i,j,ys)=>(SlV 195 5 (.slice bx n cx) n (bJ gH ys))::R) (fun (i,j,ys)=>n-j) (k0,k0+1,xs) (DelE.start (p:=p) (by omega) hk3) ⟨rfl,rfl,rfl,rfl,rfl,rfl,trivial⟩ (fun _ h=>h) ?_
  rintro ⟨i,j,ys⟩ K7 hF hK7
  try dsimp only at hF hK7⊢
  have hyl:=hF.len
  have hij:=hF.lt
  have hjl:=hF.le
  refine ai (fun _ hK8=>av (fun _ hK9=>ag rfl (ag rfl (tp rfl (bC Db rfl rfl) ?_))))
  by_cases h1:(j:Int)< (n:Int)
  ·refine tp rfl (aJ rfl rfl (decide_eq_true h1)) (td hK9 (aG rfl (dp hK8 (ai (fun _ hK10=>aH (av (fun _ hK11=>?_)))))))
   refine ag rfl (ag rfl (tp rfl (ah (k':=j*5) Db CZ rfl rfl okx (by omega) (by omega) (by omega)) ?_))
   refine tp rfl (cU (cs:=[(vI ((ys.getD j Ev.z).k)),(vI ((ys.getD j Ev.z).t)),(vI ((ys.getD j Ev.z).s)),(vI ((ys.getD j Ev.z).e)),(vI ((ys.getD j Ev.z).i))]) DI CZ rfl (bh (aw (.head _) ((bc (k:=j) (j:=0) bA (d:=Ev.z) (by first|omega| (simp;omega)) (nB rfl)).trans rfl)) (aw (.head _) ((bc (k:=j) (j:=1) bA (d:=Ev.z) (by first|omega| (simp;omega)) (nB rfl)).trans rfl)) (aw (.head _) ((bc (k:=j) (j:=2) bA (d:=Ev.z) (by first|omega| (simp;omega)) (nB rfl)).trans rfl)) (aw (.head _) ((bc (k:=j) (j:=3) bA (d:=Ev.z) (by first|omega| (simp;omega)) (nB rfl)).trans rfl)) (aw (.head _) ((bc (k:=j) (j:=4) bA (d:=Ev.z) (by first|omega| (simp;omega)) (nB rfl)).trans rfl)))) ?_
   refine tm rfl (cD Ec rfl) ?_
   rintro _ _ ⟨b2,rfl,rfl⟩
   refine ts (bn (news:=[(vI ((ys.getD j Ev.z).k)),(vI ((ys.getD j Ev.z).t)),(vI ((ys.getD j Ev.z).s)),(vI ((ys.getD j Ev.z).e)),(vI ((ys.getD j Ev.z).i))]) CZ rfl rfl rfl rfl (nB rfl) rfl) ?_
   refine td hK11 (av (fun _ hK12=>ag rfl (tp rfl (cB (cs:=[(vI ((ys.getD j Ev.z).k)),(vI ((ys.getD j Ev.z).t)),(vI ((ys.getD j Ev.z).s)),(vI ((ys.getD j Ev.z).e)),(vI ((ys.getD j Ev.z).i))]) DI CZ rfl (bh (aa (.head _) rfl) (aa (.head _) rfl) (aa (.head _) rfl) (aa (.head _) rfl) (aa (.head _) rfl))) ?_)))
   refine tc rfl (qB (first:=first) hcall rfl rfl) (hf _ (ys.getD j Ev.z)) ?_
   rintro _ _ ⟨rfl,rfl⟩
   refine tp rfl (dy (c:= !(p (ys.getD j Ev.z))) rfl rfl) (td hK12 ?_)
   refine cW rfl (fun c3=>?_) (fun c3=>?_)
   ·have hpj:=c3
    refine av (fun _ hK13=>ag rfl (ag rfl (tp rfl (cB (cs:=[(vI ((ys.getD j Ev.z).k)),(vI ((ys.getD j Ev.z).t)),(vI ((ys.getD j Ev.z).s)),(vI ((ys.getD j Ev.z).e)),(vI ((ys.getD j Ev.z).i))]) DI CZ rfl (bh (aa (.head _) rfl) (aa (.head _) rfl) (aa (.head _) rfl) (aa (.head _) rfl) (aa (.head _) rfl))) (tp rfl (ah (k':=i*5) Db CZ rfl rfl okx (by omega) (by omega) (by omega)) ?_))))
    refine aE ?_
    refine ts (oF (news:=[(vI ((ys.getD j Ev.z).k)),(vI ((ys.getD j Ev.z).t)),(vI ((ys.getD j Ev.z).s)),(vI ((ys.getD j Ev.z).e)),(vI ((ys.getD j Ev.z).i))]) CZ rfl rfl rfl rfl (Nat.zero_lt_succ _) (by rw [dQ bA];show i*5+5≤_;omega) (nL bA (by omega) rfl)) ?_
    refine td hK13 (aj (ag rfl (tp rfl (aX (c:=((i+1:Nat):Int)) rfl rfl (aB (by omega))) ?_)))
    refine aA rfl (aI (aZ (qn hK10 (aj (ag rfl (tp rfl (aX (c:=((j+1:Nat):Int)) rfl rfl (aB (by omega))) ?_))))))
    refine aA rfl (aI (aN (aE (ak ?_))))
    exact az (by exact ⟨rfl,rfl,rfl,rfl,rfl,rfl,trivial⟩) ((hK7 (i+1,j+1,ys.set i (ys.getD j Ev.z)) (hF.keep (by omega) (by simpa using hpj)) (by dsimp only;omega)))
   ·have hpj:=c3
    refine cS (aZ (qn hK10 (aj (ag rfl (tp rfl (aX (c:=((j+1:Nat):Int)) rfl rfl (aB (by omega))) ?_)))))
    refine aA rfl (aI (aN (ak ?_)))
    exact az (by exact ⟨rfl,rfl,rfl,rfl,rfl,rfl,trivial⟩) ((hK7 (i,j+1,ys) (hF.skip (by omega)) (by dsimp only;omega)))
  ·refine tp rfl (aJ rfl rfl (decide_eq_false h1)) (td hK9 (ar rfl (bT (au (au (bS (qn hK5 (ai (fun _ hK10=>?_)))))))))
   refine aj (ag rfl (ag rfl (tp rfl (ed (l:=i) (h:=n) (m:=cx) (v:=(.slice (eu bx i cx 5) (n-i) (cx-i))) Db CZ rfl rfl rfl rfl (.inr ⟨rfl,rfl⟩) (.inr ⟨rfl,rfl⟩) (.inl ⟨_,_,rfl,(by omega),(by omega),(by omega)⟩) (by simp) rfl) ?_)))
   refine Cw (mi (l:=i) (c:=cx) Db Ec rfl rfl (by decide) rfl okx (by omega) (by omega) (by omega)) ?_
   rintro _ _ ⟨zs4,rfl⟩
   refine td hK10 (av (fun _ hK11=>ag rfl (ag rfl (tp rfl (ed (l:=0) (h:=i) (m:=cx) (v:=(.slice bx i cx)) Db CZ rfl rfl rfl rfl (.inr ⟨rfl,rfl⟩) (.inl ⟨_,_,rfl,(by omega),(by omega),(by omega)⟩) (.inr ⟨rfl,rfl⟩) (by simp) (by rw [fI];rfl)) ?_))))
   refine aA rfl (td hK11 (ay ?_))
   refine bO (fun _ h=>lW bA (by omega) (by omega) (by omega) h) ?_
   have hil:(ys.take i).length=i:=by rw [List.length_take];omega
   rw [show Value.slice bx i cx=.slice bx (ys.take i).length cx from by rw [hil]]
   refine aM rfl rfl ?_
   exact ⟨ys.take i,hF.done,by rw [hil],by rw [hil]⟩
end Go.Proofs.YtanfdikglplkaaaGreatDoor
set_option maxRecDepth 100000
namespace Go.Proofs.YtanfdikglplkaaaGreatDoor
open Go Go.Proofs Sp
set_option maxHeartbeats 4000000 in
theorem wO{R:List HP}{cf:Ev→Ev→Int}{f n:Nat}{caps:List Value}{bx:Option Addr}{cx:Nat}(xs:List Ev)(hlx:xs.length=n)(hf:(∀args w,(callFunc f args).run Tryz.prog w=.ok (.enter f args) w)∧∀(R':List HP) (x y:Ev),Ok Tryz.prog f ([.agg #[.int .i64 x.k,.int .i64 x.t,.int .i64 x.s,.int .i64 x.e,.int .i64 x.i],.agg #[.int .i64 y.k,.int .i64 y.t,.int .i64 y.s,.int .i64 y.e,.int .i64 y.i]]++caps) R' (fun v M=>v=.int .i64 (cf x y)∧M=R'))(lx:n≤16):
 Ok Tryz.prog 173 [(.slice bx n cx),(vI 0),(vN n),(.func (.func f) #[] caps.toArray)] ((SlV 195 5 (.slice bx n cx) n (bJ gH xs))::R)
  (fun v M=> ∃zs,SameE xs zs∧v=.tuple #[]∧M=SlV 195 5 (.slice bx n cx) n (bJ gH zs)::R):=by
 refine aP (N:=53) Tryz.func173 rfl rfl rfl (fun W=>?_)
 refine aY (fun _ h=>fY h) (fun hbx=>?_)
 obtain ⟨okx,hcx,hmx⟩:=hbx
 unfold maxLen at hmx
 obtain ⟨hcall,hf⟩:=hf
 refine av (fun _ hK1=>ag rfl (tp rfl (aX (c:=1) rfl rfl (by decide)) ?_))
 refine aA rfl (td hK1 (aH ?_))
 refine cE (γ:=(Nat)×(List Ev)) (fun (i,ys)=>1≤i∧i≤n+1∧SameE xs ys) (fun (i,ys)=>[(0,(.slice bx n cx)),(1,(vI 0)),(2,(vN n)),(3,(.func (.func f) #[] caps.toArray)),(8,(vN i))]) (fun (i,ys)=>(SlV 195 5 (.slice bx n cx) n (bJ gH ys))::R) (fun (i,ys)=>n+1-i) (1,xs) ⟨Nat.le_refl _,by omega,.refl _⟩ ⟨rfl,rfl,rfl,rfl,rfl,trivial⟩ (fun _ h=>h) ?_
 rintro ⟨i,ys⟩ K2 hF hK2
 try dsimp only at hF hK2⊢
 obtain ⟨hi1,hi,hys⟩:=hF
 have hyl:=hys.1
 refine ai (fun _ hK3=>av (fun K4 hK4=>ag rfl (ag rfl ?_)))
 by_cases h1:(i:Int)< (n:Int)
 ·refine tp rfl (aJ rfl rfl (decide_eq_true h1)) (td hK4 (aG rfl (dp hK3 (ai (fun _ hK5=>aH (av (fun _ hK6=>?_)))))))
  refine ag rfl (aA rfl (td hK6 (aH ?_)))
  refine cE (γ:=(Nat)×(List Ev)) (fun (j,zs)=>j≤i∧SameE xs zs) (fun (j,zs)=>[(0,(.slice bx n cx)),(1,(vI 0)),(2,(vN n)),(3,(.func (.func f) #[] caps.toArray)),(8,(vN i)),(9,(vN j)),(14,(.bool true))]) (fun (j,zs)=>(SlV 195 5 (.slice bx n cx) n (bJ gH zs))::R) (fun (j,zs)=>j) (i,ys) ⟨Nat.le_refl _,hys⟩ ⟨rfl,rfl,rfl,rfl,rfl,rfl,rfl,trivial⟩ (fun _ h=>h) ?_
  rintro ⟨j,zs⟩ K7 hF hK7
  try dsimp only at hF hK7⊢
  obtain ⟨hj,hzs⟩:=hF
  have hzl:=hzs.1
  refine ai (fun K8 hK8=>ai (fun _ hK9=>?_))
  by_cases h2:(j:Int)>0
  ·by_cases h3:(cf (zs.getD j Ev.z) (zs.getD (j-1) Ev.z))<0
   ·refine bz (γ:=Unit) (n:=17) Tryz.mixed rfl rfl (fun _ S=>True) (fun _=>[(0,18,(vN j)),(1,19,(vI 0)),(2,20,(.bool true)),(3,21,(.bool true)),(4,22,(.func (.func f) #[] caps.toArray)),(5,23,(.slice bx n cx)),(6,24,(vN j)),(7,25,(.pointer (some (ad bx (j*5))))),(8,26,(.agg #[(vI ((zs.getD j Ev.z).k)),(vI ((zs.getD j Ev.z).t)),(vI ((zs.getD j Ev.z).s)),(vI ((zs.getD j Ev.z).e)),(vI ((zs.getD j Ev.z).i))])),(9,27,(.slice bx n cx)),(10,28,(vN j)),(11,29,(vI ((j-1:Nat):Int))),(12,30,(.pointer (some (ad bx ((j-1)*5))))),(13,31,(.agg #[(vI ((zs.getD (j-1) Ev.z).k)),(vI ((zs.getD (j-1) Ev.z).t)),(vI ((zs.getD (j-1) Ev.z).s)),(vI ((zs.getD (j-1) Ev.z).e)),(vI ((zs.getD (j-1) Ev.z).i))])),(14,32,(vI (cf (zs.getD j Ev.z) (zs.getD (j-1) Ev.z)))),(15,33,(.bool true)),(16,34,(.bool true))]) (fun _ S=>(SlV 195 5 (.slice bx n cx) n (bJ gH zs))::R) (()) trivial (fun _ h=>h) (fun _ _ h=>h) ?_ ?_
    ·refine ⟨aU,aU,?_,aU,dd aU,dd aU,dd aU,dd (eJ Db CZ rr rr rr fun _=>⟨okx,by omega,by omega,by omega⟩),?_,dd aU,dd aU,?_,dd (eJ Db CZ rr rr rr fun _=>⟨okx,by omega,by omega,by omega⟩),?_,?_,?_,?_,trivial⟩
     ·intro _ S h s D p K k;exact bV (bE p 0 rfl rfl) (bE p 1 rfl rfl) (cu rfl rfl (decide_eq_true h2)) 2 rfl rfl s (k () h)
     ·rintro _ S hF hS D hp K hK;try dsimp only
      exact je (bE hp 3 rfl rfl) (bE hp 7 rfl rfl) rfl rfl (cU (cs:=[(vI ((zs.getD j Ev.z).k)),(vI ((zs.getD j Ev.z).t)),(vI ((zs.getD j Ev.z).s)),(vI ((zs.getD j Ev.z).e)),(vI ((zs.getD j Ev.z).i))]) DI CZ rfl (bh (aw (.head _) ((bc (k:=j) (j:=0) bA (d:=Ev.z) (by first|omega| (simp;omega)) (nB rfl)).trans rfl)) (aw (.head _) ((bc (k:=j) (j:=1) bA (d:=Ev.z) (by first|omega| (simp;omega)) (nB rfl)).trans rfl)) (aw (.head _) ((bc (k:=j) (j:=2) bA (d:=Ev.z) (by first|omega| (simp;omega)) (nB rfl)).trans rfl)) (aw (.head _) ((bc (k:=j) (j:=3) bA (d:=Ev.z) (by first|omega| (simp;omega)) (nB rfl)).trans rfl)) (aw (.head _) ((bc (k:=j) (j:=4) bA (d:=Ev.z) (by first|omega| (simp;omega)) (nB rfl)).trans rfl)))) 8 rfl rfl hS (hK () hF)
     ·intro _ S h s D p K k;exact je (bE p 3 rfl rfl) (bE p 10 rfl rfl) rfl rfl (eR (c:=((j-1:Nat):Int)) rfl rfl (by rw [cA (by omega) (by omega)];omega)) 11 rfl rfl s (k () h)
     ·rintro _ S hF hS D hp K hK;try dsimp only
      exact je (bE hp 3 rfl rfl) (bE hp 12 rfl rfl) rfl rfl (cU (cs:=[(vI ((zs.getD (j-1) Ev.z).k)),(vI ((zs.getD (j-1) Ev.z).t)),(vI ((zs.getD (j-1) Ev.z).s)),(vI ((zs.getD (j-1) Ev.z).e)),(vI ((zs.getD (j-1) Ev.z).i))]) DI CZ rfl (bh (aw (.head _) ((bc (k:=(j-1)) (j:=0) bA (d:=Ev.z) (by first|omega| (simp;omega)) (nB rfl)).trans rfl)) (aw (.head _) ((bc (k:=(j-1)) (j:=1) bA (d:=Ev.z) (by first|omega| (simp;omega)) (nB rfl)).trans rfl)) (aw (.head _) ((bc (k:=(j-1)) (j:=2) bA (d:=Ev.z) (by first|omega| (simp;omega)) (nB rfl)).trans rfl)) (aw (.head _) ((bc (k:=(j-1)) (j:=3) bA (d:=Ev.z) (by first|omega| (simp;omega)) (nB rfl)).trans rfl)) (aw (.head _) ((bc (k:=(j-1)) (j:=4) bA (d:=Ev.z) (by first|omega| (simp;omega)) (nB rfl)).trans rfl)))) 13 rfl rfl hS (hK () hF)
     ·rintro _ S hF hS D hp K hK
      try dsimp only at hF⊢
      refine bZ hp [21,22,26,31] rfl rfl ?_
      refine ae rfl rfl ?_
      refine tc rfl (lJ hcall rfl rfl) (hf _ (zs.getD j Ev.z) (zs.getD (j-1) Ev.z)) ?_
      rintro _ _ ⟨rfl,rfl⟩
      exact cK hp hS (ti (hK () trivial)) rfl rfl rfl
     ·intro _ S h s D p K k;exact je (bE p 3 rfl rfl) (bE p 14 rfl rfl) rfl rfl (aJ rfl rfl (decide_eq_true h3)) 15 rfl rfl s (k () h)
     ·intro _ S h s D p K k;exact bV (bE p 3 rfl rfl) (bE p 15 rfl rfl) (aL rfl rfl) 16 rfl rfl s (k () h)
    ·rintro _ hF
     try dsimp only at hF⊢
     refine az (E':=[(0,(.slice bx n cx)),(1,(vI 0)),(2,(vN n)),(3,(.func (.func f) #[] caps.toArray)),(8,(vN i)),(9,(vN j)),(14,(.bool true)),(34,(.bool true))]) ⟨rfl,rfl,rfl,rfl,rfl,rfl,rfl,rfl,trivial⟩ ?_
     refine qn hK9 (aG rfl (dp hK8 (ai (fun _ hK10=>aH ?_))))
     refine bz (γ:=Unit) (n:=18) Tryz.mixed rfl rfl (fun _ S=>True) (fun _=>[(0,37,(.slice bx n cx)),(1,38,(vN j)),(2,39,(.slice bx n cx)),(3,40,(vN j)),(4,41,(vI ((j-1:Nat):Int))),(5,42,(.slice bx n cx)),(6,43,(vN j)),(7,44,(vI ((j-1:Nat):Int))),(8,45,(.pointer (some (ad bx ((j-1)*5))))),(9,46,(.agg #[(vI ((zs.getD (j-1) Ev.z).k)),(vI ((zs.getD (j-1) Ev.z).t)),(vI ((zs.getD (j-1) Ev.z).s)),(vI ((zs.getD (j-1) Ev.z).e)),(vI ((zs.getD (j-1) Ev.z).i))])),(10,47,(.slice bx n cx)),(11,48,(vN j)),(12,49,(.pointer (some (ad bx (j*5))))),(13,50,(.agg #[(vI ((zs.getD j Ev.z).k)),(vI ((zs.getD j Ev.z).t)),(vI ((zs.getD j Ev.z).s)),(vI ((zs.getD j Ev.z).e)),(vI ((zs.getD j Ev.z).i))])),(14,51,(.pointer (some (ad bx (j*5))))),(16,52,(.pointer (some (ad bx ((j-1)*5)))))]) (fun _ S=>(bif S 17 then (SlV 195 5 (.slice bx n cx) n (bJ gH ((zs.set j (zs.getD (j-1) Ev.z)).set (j-1) (zs.getD j Ev.z)))) else (bif S 15 then (SlV 195 5 (.slice bx n cx) n (bJ gH (zs.set j (zs.getD (j-1) Ev.z)))) else (SlV 195 5 (.slice bx n cx) n (bJ gH zs))))::R) (()) trivial (fun _ h=>h) (fun _ _ h=>h) ?_ ?_
     ·refine ⟨aU,aU,aU,aU,?_,aU,aU,?_,eJ Db CZ rr rr rr fun _=>⟨okx,by omega,by omega,by omega⟩,?_,aU,aU,eJ Db CZ rr rr rr fun _=>⟨okx,by omega,by omega,by omega⟩,?_,eJ Db CZ rr rr rr fun _=>⟨okx,by omega,by omega,by omega⟩,?_,eJ Db CZ rr rr rr fun _=>⟨okx,by omega,by omega,by omega⟩,?_,trivial⟩
      ·intro _ S h s D p K k;exact bH (bE p 3 rfl rfl) (eR (c:=((j-1:Nat):Int)) rfl rfl (by rw [cA (by omega) (by omega)];omega)) 4 rfl rfl s (k () h)
      ·intro _ S h s D p K k;exact bH (bE p 6 rfl rfl) (eR (c:=((j-1:Nat):Int)) rfl rfl (by rw [cA (by omega) (by omega)];omega)) 7 rfl rfl s (k () h)
      ·rintro _ S hF hS D hp K hK;try dsimp only
       exact bH (bE hp 8 rfl rfl) (cU (cs:=[(vI ((zs.getD (j-1) Ev.z).k)),(vI ((zs.getD (j-1) Ev.z).t)),(vI ((zs.getD (j-1) Ev.z).s)),(vI ((zs.getD (j-1) Ev.z).e)),(vI ((zs.getD (j-1) Ev.z).i))]) DI CZ rfl (bh (aw (cF (nf hS D (k:=15) (i:=9) rfl) (cF (nf hS D (k:=17) (i:=9) rfl) (.head _))) ((bc (k:=(j-1)) (j:=0) bA (d:=Ev.z) (by first|omega| (simp;omega)) (nB rfl)).trans rfl)) (aw (cF (nf hS D (k:=15) (i:=9) rfl) (cF (nf hS D (k:=17) (i:=9) rfl) (.head _))) ((bc (k:=(j-1)) (j:=1) bA (d:=Ev.z) (by first|omega| (simp;omega)) (nB rfl)).trans rfl)) (aw (cF (nf hS D (k:=15) (i:=9) rfl) (cF (nf hS D (k:=17) (i:=9) rfl) (.head _))) ((bc (k:=(j-1)) (j:=2) bA (d:=Ev.z) (by first|omega| (simp;omega)) (nB rfl)).trans rfl)) (aw (cF (nf hS D (k:=15) (i:=9) rfl) (cF (nf hS D (k:=17) (i:=9) rfl) (.head _))) ((bc (k:=(j-1)) (j:=3) bA (d:=Ev.z) (by first|omega| (simp;omega)) (nB rfl)).trans rfl)) (aw (cF (nf hS D (k:=15) (i:=9) rfl) (cF (nf hS D (k:=17) (i:=9) rfl) (.head _))) ((bc (k:=(j-1)) (j:=4) bA (d:=Ev.z) (by first|omega| (simp;omega)) (nB rfl)).trans rfl)))) 9 rfl rfl hS (hK () hF)
      ·rintro _ S hF hS D hp K hK;try dsimp only
       exact bH (bE hp 12 rfl rfl) (cU (cs:=[(vI ((zs.getD j Ev.z).k)),(vI ((zs.getD j Ev.z).t)),(vI ((zs.getD j Ev.z).s)),(vI ((zs.getD j Ev.z).e)),(vI ((zs.getD j Ev.z).i))]) DI CZ rfl (bh (aw (cF (nf hS D (k:=15) (i:=13) rfl) (cF (nf hS D (k:=17) (i:=13) rfl) (.head _))) ((bc (k:=j) (j:=0) bA (d:=Ev.z) (by first|omega| (simp;omega)) (nB rfl)).trans rfl)) (aw (cF (nf hS D (k:=15) (i:=13) rfl) (cF (nf hS D (k:=17) (i:=13) rfl) (.head _))) ((bc (k:=j) (j:=1) bA (d:=Ev.z) (by first|omega| (simp;omega)) (nB rfl)).trans rfl)) (aw (cF (nf hS D (k:=15) (i:=13) rfl) (cF (nf hS D (k:=17) (i:=13) rfl) (.head _))) ((bc (k:=j) (j:=2) bA (d:=Ev.z) (by first|omega| (simp;omega)) (nB rfl)).trans rfl)) (aw (cF (nf hS D (k:=15) (i:=13) rfl) (cF (nf hS D (k:=17) (i:=13) rfl) (.head _))) ((bc (k:=j) (j:=3) bA (d:=Ev.z) (by first|omega| (simp;omega)) (nB rfl)).trans rfl)) (aw (cF (nf hS D (k:=15) (i:=13) rfl) (cF (nf hS D (k:=17) (i:=13) rfl) (.head _))) ((bc (k:=j) (j:=4) bA (d:=Ev.z) (by first|omega| (simp;omega)) (nB rfl)).trans rfl)))) 13 rfl rfl hS (hK () hF)
      ·rintro _ S hF hS D hp K hK
       try dsimp only at hF⊢
       refine bZ hp [46,51] rfl rfl ?_
       refine c9 (nf hS D (k:=17) (i:=15) rfl) ?_
       refine c9 hS ?_
       refine ts (oF (news:=[(vI ((zs.getD (j-1) Ev.z).k)),(vI ((zs.getD (j-1) Ev.z).t)),(vI ((zs.getD (j-1) Ev.z).s)),(vI ((zs.getD (j-1) Ev.z).e)),(vI ((zs.getD (j-1) Ev.z).i))]) CZ rfl rfl rfl rfl (Nat.zero_lt_succ _) (by rw [dQ bA];show j*5+5≤_;omega) (nL bA (by omega) rfl)) ?_
       refine fG (A:=(SlV 195 5 (.slice bx n cx) n (bJ gH ((zs.set j (zs.getD (j-1) Ev.z)).set (j-1) (zs.getD j Ev.z))))) (nf hS D (k:=17) (i:=15) rfl) ?_
       exact gE hp (ti (hK () trivial)) rfl rfl rfl
      ·rintro _ S hF hS D hp K hK
       try dsimp only at hF⊢
       refine bZ hp [50,52] rfl rfl ?_
       refine c9 hS ?_
       have s15:=hp 15 rfl
       refine jJ s15 ?_
       refine ts (oF (news:=[(vI ((zs.getD j Ev.z).k)),(vI ((zs.getD j Ev.z).t)),(vI ((zs.getD j Ev.z).s)),(vI ((zs.getD j Ev.z).e)),(vI ((zs.getD j Ev.z).i))]) CZ rfl rfl rfl rfl (Nat.zero_lt_succ _) (by rw [dQ bA];show (j-1)*5+5≤_;simp only [List.length_set];omega) (nL bA (by simp only [List.length_set];omega) rfl)) ?_
       exact gE hp (ti (hK () trivial)) rfl rfl rfl
     ·rintro _ hF
      try dsimp only at hF⊢
      refine az (E':=[(0,(.slice bx n cx)),(1,(vI 0)),(2,(vN n)),(3,(.func (.func f) #[] caps.toArray)),(8,(vN i)),(9,(vN j)),(14,(.bool true)),(34,(.bool true))]) ⟨rfl,rfl,rfl,rfl,rfl,rfl,rfl,rfl,trivial⟩ ?_
      refine aZ (qn hK10 (aj (ag rfl (tp rfl (eR (c:=((j-1:Nat):Int)) rfl rfl (by rw [cA (by omega) (by omega)];omega)) ?_))))
      refine aA rfl (aI (aN ?_))
      exact az (by exact ⟨rfl,rfl,rfl,rfl,rfl,rfl,rfl,trivial⟩) ((hK7 (j-1,(zs.set j (zs.getD (j-1) Ev.z)).set (j-1) (zs.getD j Ev.z)) ⟨by omega,hzs.swap (by omega)⟩ (by dsimp only;omega)))
   ·refine bz (γ:=Unit) (n:=17) Tryz.mixed rfl rfl (fun _ S=>True) (fun _=>[(0,18,(vN j)),(1,19,(vI 0)),(2,20,(.bool true)),(3,21,(.bool true)),(4,22,(.func (.func f) #[] caps.toArray)),(5,23,(.slice bx n cx)),(6,24,(vN j)),(7,25,(.pointer (some (ad bx (j*5))))),(8,26,(.agg #[(vI ((zs.getD j Ev.z).k)),(vI ((zs.getD j Ev.z).t)),(vI ((zs.getD j Ev.z).s)),(vI ((zs.getD j Ev.z).e)),(vI ((zs.getD j Ev.z).i))])),(9,27,(.slice bx n cx)),(10,28,(vN j)),(11,29,(vI ((j-1:Nat):Int))),(12,30,(.pointer (some (ad bx ((j-1)*5))))),(13,31,(.agg #[(vI ((zs.getD (j-1) Ev.z).k)),(vI ((zs.getD (j-1) Ev.z).t)),(vI ((zs.getD (j-1) Ev.z).s)),(vI ((zs.getD (j-1) Ev.z).e)),(vI ((zs.getD (j-1) Ev.z).i))])),(14,32,(vI (cf (zs.getD j Ev.z) (zs.getD (j-1) Ev.z)))),(15,33,(.bool false)),(16,34,(.bool false))]) (fun _ S=>(SlV 195 5 (.slice bx n cx) n (bJ gH zs))::R) (()) trivial (fun _ h=>h) (fun _ _ h=>h) ?_ ?_
    ·refine ⟨aU,aU,?_,aU,dd aU,dd aU,dd aU,dd (eJ Db CZ rr rr rr fun _=>⟨okx,by omega,by omega,by omega⟩),?_,dd aU,dd aU,?_,dd (eJ Db CZ rr rr rr fun _=>⟨okx,by omega,by omega,by omega⟩),?_,?_,?_,?_,trivial⟩
     ·intro _ S h s D p K k;exact bV (bE p 0 rfl rfl) (bE p 1 rfl rfl) (cu rfl rfl (decide_eq_true h2)) 2 rfl rfl s (k () h)
     ·rintro _ S hF hS D hp K hK;try dsimp only
      exact je (bE hp 3 rfl rfl) (bE hp 7 rfl rfl) rfl rfl (cU (cs:=[(vI ((zs.getD j Ev.z).k)),(vI ((zs.getD j Ev.z).t)),(vI ((zs.getD j Ev.z).s)),(vI ((zs.getD j Ev.z).e)),(vI ((zs.getD j Ev.z).i))]) DI CZ rfl (bh (aw (.head _) ((bc (k:=j) (j:=0) bA (d:=Ev.z) (by first|omega| (simp;omega)) (nB rfl)).trans rfl)) (aw (.head _) ((bc (k:=j) (j:=1) bA (d:=Ev.z) (by first|omega| (simp;omega)) (nB rfl)).trans rfl)) (aw (.head _) ((bc (k:=j) (j:=2) bA (d:=Ev.z) (by first|omega| (simp;omega)) (nB rfl)).trans rfl)) (aw (.head _) ((bc (k:=j) (j:=3) bA (d:=Ev.z) (by first|omega| (simp;omega)) (nB rfl)).trans rfl)) (aw (.head _) ((bc (k:=j) (j:=4) bA (d:=Ev.z) (by first|omega| (simp;omega)) (nB rfl)).trans rfl)))) 8 rfl rfl hS (hK () hF)
     ·intro _ S h s D p K k;exact je (bE p 3 rfl rfl) (bE p 10 rfl rfl) rfl rfl (eR (c:=((j-1:Nat):Int)) rfl rfl (by rw [cA (by omega) (by omega)];omega)) 11 rfl rfl s (k () h)
     ·rintro _ S hF hS D hp K hK;try dsimp only
      exact je (bE hp 3 rfl rfl) (bE hp 12 rfl rfl) rfl rfl (cU (cs:=[(vI ((zs.getD (j-1) Ev.z).k)),(vI ((zs.getD (j-1) Ev.z).t)),(vI ((zs.getD (j-1) Ev.z).s)),(vI ((zs.getD (j-1) Ev.z).e)),(vI ((zs.getD (j-1) Ev.z).i))]) DI CZ rfl (bh (aw (.head _) ((bc (k:=(j-1)) (j:=0) bA (d:=Ev.z) (by first|omega| (simp;omega)) (nB rfl)).trans rfl)) (aw (.head _) ((bc (k:=(j-1)) (j:=1) bA (d:=Ev.z) (by first|omega| (simp;omega)) (nB rfl)).trans rfl)) (aw (.head _) ((bc (k:=(j-1)) (j:=2) bA (d:=Ev.z) (by first|omega| (simp;omega)) (nB rfl)).trans rfl)) (aw (.head _) ((bc (k:=(j-1)) (j:=3) bA (d:=Ev.z) (by first|omega| (simp;omega)) (nB rfl)).trans rfl)) (aw (.head _) ((bc (k:=(j-1)) (j:=4) bA (d:=Ev.z) (by first|omega| (simp;omega)) (nB rfl)).trans rfl)))) 13 rfl rfl hS (hK () hF)
     ·rintro _ S hF hS D hp K hK
      try dsimp only at hF⊢
      refine bZ hp [21,22,26,31] rfl rfl ?_
      refine ae rfl rfl ?_
      refine tc rfl (lJ hcall rfl rfl) (hf _ (zs.getD j Ev.z) (zs.getD (j-1) Ev.z)) ?_
      rintro _ _ ⟨rfl,rfl⟩
      exact cK hp hS (ti (hK () trivial)) rfl rfl rfl
     ·intro _ S h s D p K k;exact je (bE p 3 rfl rfl) (bE p 14 rfl rfl) rfl rfl (aJ rfl rfl (decide_eq_false h3)) 15 rfl rfl s (k () h)
     ·intro _ S h s D p K k;exact bV (bE p 3 rfl rfl) (bE p 15 rfl rfl) (aL rfl rfl) 16 rfl rfl s (k () h)
    ·rintro _ hF
     try dsimp only at hF⊢
     refine az (E':=[(0,(.slice bx n cx)),(1,(vI 0)),(2,(vN n)),(3,(.func (.func f) #[] caps.toArray)),(8,(vN i)),(9,(vN j)),(14,(.bool true)),(34,(.bool false))]) ⟨rfl,rfl,rfl,rfl,rfl,rfl,rfl,rfl,trivial⟩ ?_
     refine qn hK9 (ar rfl (bT (au (au (bS (aZ (qn hK5 (aj (ag rfl ?_)))))))))
     refine tp rfl (aX (c:=((i+1:Nat):Int)) rfl rfl (aB (by omega))) ?_
     refine aA rfl (aI (aN ?_))
     exact az (by exact ⟨rfl,rfl,rfl,rfl,rfl,trivial⟩) ((hK2 (i+1,zs) ⟨by omega,by omega,hzs⟩ (by dsimp only;omega)))
  ·refine bz (γ:=Unit) (n:=17) Tryz.mixed rfl rfl (fun _ S=>True) (fun _=>[(0,18,(vN j)),(1,19,(vI 0)),(2,20,(.bool false)),(3,21,(.bool false)),(4,22,undef),(5,23,undef),(6,24,undef),(7,25,undef),(8,26,undef),(9,27,undef),(10,28,undef),(11,29,undef),(12,30,undef),(13,31,undef),(14,32,undef),(15,33,undef),(16,34,(.bool false))]) (fun _ S=>(SlV 195 5 (.slice bx n cx) n (bJ gH zs))::R) (()) trivial (fun _ h=>h) (fun _ _ h=>h) ?_ ?_
   ·refine ⟨aU,aU,?_,aU,c7,c7,c7,c7,c7,c7,c7,c7,c7,c7,c7,c7,?_,trivial⟩
    ·intro _ S h s D p K k;exact bV (bE p 0 rfl rfl) (bE p 1 rfl rfl) (cu rfl rfl (decide_eq_false h2)) 2 rfl rfl s (k () h)
    ·intro _ S h s D p K k;exact bV (bE p 3 rfl rfl) (bE p 15 rfl rfl) (aC rfl rfl) 16 rfl rfl s (k () h)
   ·rintro _ hF
    try dsimp only at hF⊢
    refine az (E':=[(0,(.slice bx n cx)),(1,(vI 0)),(2,(vN n)),(3,(.func (.func f) #[] caps.toArray)),(8,(vN i)),(9,(vN j)),(14,(.bool true)),(34,(.bool false))]) ⟨rfl,rfl,rfl,rfl,rfl,rfl,rfl,rfl,trivial⟩ ?_
    refine qn hK9 (ar rfl (bT (au (au (bS (aZ (qn hK5 (aj (ag rfl ?_)))))))))
    refine tp rfl (aX (c:=((i+1:Nat):Int)) rfl rfl (aB (by omega))) ?_
    refine aA rfl (aI (aN ?_))
    exact az (by exact ⟨rfl,rfl,rfl,rfl,rfl,trivial⟩) ((hK2 (i+1,zs) ⟨by omega,by omega,hzs⟩ (by dsimp only;omega)))
 ·refine tp rfl (aJ rfl rfl (decide_eq_false h1)) (td hK4 (ar rfl (bT (au (au (bS ?_))))))
  refine fC rfl ?_
  exact ⟨_,hys,rfl,rfl⟩
theorem y8{R:List HP}{cf:Ev→Ev→Int}{f n:Nat}{caps:List Value}{bx:Option Addr}{cx:Nat}(xs:List Ev)(hlx:xs.length=n)(hf:(∀args w,(callFunc f args).run Tryz.prog w=.ok (.enter f args) w)∧∀(R':List HP) (x y:Ev),Ok Tryz.prog f ([.agg #[.int .i64 x.k,.int .i64 x.t,.int .i64 x.s,.int .i64 x.e,.int .i64 x.i],.agg #[.int .i64 y.k,.int .i64 y.t,.int .i64 y.s,.int .i64 y.e,.int .i64 y.i]]++caps) R' (fun v M=>v=.int .i64 (cf x y)∧M=R'))(lx:n≤16):
 Ok Tryz.prog 166 [(.slice bx n cx),(vN n),(.func (.func f) #[] caps.toArray)] ((SlV 195 5 (.slice bx n cx) n (bJ gH xs))::R)
  (fun v M=> ∃zs,SameE xs zs∧v=.tuple #[]∧M=SlV 195 5 (.slice bx n cx) n (bJ gH zs)::R):=by
 refine aP (N:=63) Tryz.func166 rfl rfl rfl (fun W=>?_)
 refine aY (fun _ h=>fY h) (fun hbx=>?_)
 obtain ⟨okx,hcx,hmx⟩:=hbx
 unfold maxLen at hmx
 obtain ⟨hcall,hf⟩:=hf
 refine av (fun _ hK1=>aA rfl (td hK1 (av (fun K2 hK2=>ag rfl (aA rfl (aA rfl ?_))))))
 refine td hK2 (ai (fun _ hK3=>aH ?_))
 refine cE (γ:=(Unit)) (fun (u:Unit)=>True) (fun (u:Unit)=>[(0,(.slice bx n cx)),(1,(vN n)),(2,(.func (.func f) #[] caps.toArray)),(6,(vI 20)),(7,(vI 0)),(8,(vI 20))]) (fun (u:Unit)=>(SlV 195 5 (.slice bx n cx) n (bJ gH xs))::R) (fun (u:Unit)=>0) (()) trivial ⟨rfl,rfl,rfl,rfl,rfl,rfl,trivial⟩ (fun _ h=>h) ?_
 rintro u K4 hF hK4
 try dsimp only at hF hK4⊢
 obtain- :=hF
 refine ai (fun _ hK5=>av (fun _ hK6=>ag rfl (ag rfl (tp rfl (rl rfl rfl (decide_eq_false (by omega))) ?_))))
 refine td hK6 (ar rfl (bT (au (au (bS (qn hK3 (av (fun K7 hK7=>?_))))))))
 refine ag rfl (ag rfl (ag rfl (ag rfl ?_)))
 refine bN Tryz.call173 rfl (wO (cf:=cf) xs (by omega) ⟨hcall,hf⟩ (by omega)) ?_
 rintro _ _ ⟨ze1,hk2,rfl,rfl⟩
 refine td hK7 (aH ?_)
 refine cE (γ:=(Unit)) (fun (u:Unit)=>True) (fun (u:Unit)=>[(0,(.slice bx n cx)),(1,(vN n)),(2,(.func (.func f) #[] caps.toArray)),(6,(vI 20)),(7,(vI 0)),(8,(vI 20)),(13,(.bool false))]) (fun (u:Unit)=>(SlV 195 5 (.slice bx n cx) n (bJ gH ze1))::R) (fun (u:Unit)=>0) (()) trivial ⟨rfl,rfl,rfl,rfl,rfl,rfl,rfl,trivial⟩ (fun _ h=>h) ?_
 rintro u K8 hF hK8
 try dsimp only at hF hK8⊢
 obtain- :=hF
 refine ai (fun _ hK9=>av (fun _ hK10=>ag rfl (ag rfl (tp rfl (aJ rfl rfl (decide_eq_false (by omega))) ?_))))
 refine td hK10 (ar rfl (bT (au (au (bS ?_)))))
 refine fC rfl ?_
 exact ⟨_,hk2,rfl,rfl⟩
theorem qN{R:List HP}{cf:Ev→Ev→Int}{f n:Nat}{caps:List Value}{bx:Option Addr}{cx:Nat}(xs:List Ev)(hlx:xs.length=n)(hf:(∀args w,(callFunc f args).run Tryz.prog w=.ok (.enter f args) w)∧∀(R':List HP) (x y:Ev),Ok Tryz.prog f ([.agg #[.int .i64 x.k,.int .i64 x.t,.int .i64 x.s,.int .i64 x.e,.int .i64 x.i],.agg #[.int .i64 y.k,.int .i64 y.t,.int .i64 y.s,.int .i64 y.e,.int .i64 y.i]]++caps) R' (fun v M=>v=.int .i64 (cf x y)∧M=R'))(lx:n≤16):
 Ok Tryz.prog 142 [(.slice bx n cx),(.func (.func f) #[] caps.toArray)] ((SlV 195 5 (.slice bx n cx) n (bJ gH xs))::R)
  (fun v M=> ∃zs,SameE xs zs∧v=.tuple #[]∧M=SlV 195 5 (.slice bx n cx) n (bJ gH zs)::R):=by
 refine aP (N:=9) Tryz.func142 rfl rfl rfl (fun W=>?_)
 refine aY (fun _ h=>fY h) (fun hbx=>?_)
 obtain ⟨okx,hcx,hmx⟩:=hbx
 unfold maxLen at hmx
 obtain ⟨hcall,hf⟩:=hf
 refine aj (ag rfl (ag rfl (tp rfl (bC Db rfl rfl) (ag rfl ?_))))
 refine bN Tryz.call166 rfl (y8 (cf:=cf) xs (by omega) ⟨hcall,hf⟩ (by omega)) ?_
 rintro _ _ ⟨ze1,hk2,rfl,rfl⟩
 refine aI ?_
 refine fC rfl ?_
 exact ⟨_,hk2,rfl,rfl⟩
end Go.Proofs.YtanfdikglplkaaaGreatDoor
set_option maxRecDepth 100000
namespace Go.Proofs.YtanfdikglplkaaaGreatDoor
open Go Go.Proofs Sp
set_option maxHeartbeats 4000000 in
theorem wW{R:List HP}{bx:Option Addr}{cx n:Nat}(xs:List Ev)(prio mm free slots most:Int)(hlx:xs.length=n)(lx:n≤16)(hx:Rd R bx (bJ gH xs))(okx:bB bx n):
 Ok Tryz.prog 97 [(.slice bx n cx),(vI prio),(vI mm),(vI free),(vI slots),(vI most)] R
  (fun v M=> ∃vs bs cp zb,rV xs prio most vs∧vs.length≤n∧bB bs vs.length∧vs.length≤cp∧v=.tuple #[.slice bs vs.length cp,.bool zb]∧M=SlV 3 1 (.slice bs vs.length cp) vs.length (aF .i64 vs)::R):=by
 refine aP (N:=69) Tryz.func97 rfl rfl rfl (fun W=>?_)
 refine av (fun _ hK1=>aA rfl (aA rfl (td hK1 (av (fun _ hK2=>ag rfl (ag rfl ?_))))))
 refine bN Tryz.call138 rfl (mS mm) ?_
 rintro _ _ ⟨rfl,hMR⟩
 rw [hMR];clear hMR
 refine ag rfl (tp rfl (bG (cs:=[(vI prio),(vI (gx mm)),(vI most)]) (pl:=[(0,1),(1,1),(2,1)]) Eu Tryz.zeroValue190 (fun _=>by simp) rfl rfl) ?_)
 refine ag rfl ?_
 refine bN Tryz.call138 rfl (mS free) ?_
 rintro _ _ ⟨rfl,hMR⟩
 rw [hMR];clear hMR
 refine ag rfl (tp rfl (fm (c:=max slots 0) rfl rfl rfl) (tp rfl (hO (c:=min (max slots 0) 1) rfl rfl rfl) (tp rfl (bG (cs:=[(vI (gx free)),(vI (min (max slots 0) 1))]) (pl:=[(0,1),(1,1)]) D2 Tryz.zeroValue192 (fun _=>by simp) rfl rfl) ?_)))
 refine tm rfl (cD Tryz.zeroValue190 rfl) ?_
 rintro _ _ ⟨b1,rfl,rfl⟩
 refine tm rfl (cD Tryz.zeroValue192 rfl) ?_
 rintro _ _ ⟨b2,rfl,rfl⟩
 refine aE ?_
 refine ts (bn (news:=[(vI prio),(vI (gx mm)),(vI most)]) Ep rfl rfl rfl rfl (nB rfl) rfl) ?_
 refine aE ?_
 refine ts (bn (news:=[(vI (gx free)),(vI (min (max slots 0) 1))]) Tryz.sizeOf192 rfl rfl rfl rfl (nB rfl) rfl) ?_
 refine td hK2 (ai (fun _ hK3=>?_))
 refine bz (γ:=Option Addr×Nat×List Ev) (n:=6) Tryz.mixed rfl rfl (fun (bs3,cp4,ze7) S=>(S 1=true→bB bs3 n)∧(S 1=true→n≤cp4)∧(S 4=true→KeptE (jC prio most) xs ze7)) (fun (bs3,cp4,ze7)=>[(0,31,(.slice bx n cx)),(1,32,(.slice bs3 n cp4)),(2,33,(.agg #[(vI prio),(vI (gx mm)),(vI most)])),(3,34,(.func (.func 141) #[(.agg #[(vI prio),(vI (gx mm)),(vI most)])] #[])),(4,35,(.slice bs3 ze7.length cp4)),(5,16,(.slice bs3 ze7.length cp4))]) (fun (bs3,cp4,ze7) S=>(bI b2 [(vI (gx free)),(vI (min (max slots 0) 1))] 192)::(bI b1 [(vI prio),(vI (gx mm)),(vI most)] 190)::(bif S 4 then (SlV 195 5 (.slice bs3 ze7.length cp4) ze7.length (bJ gH ze7)) else (bif S 1 then (SlV 195 5 (.slice bs3 n cp4) n (bJ gH xs)) else ib))::R) (none,0,[]) (by simp [Nat.ble]) (fun _ h=>ef [_,_] 1 h) (fun _ _ h=>h) ?_ ?_
 ·refine ⟨ga fun ⟨_,_,_⟩=>da,?_,?_,?_,?_,ga fun ⟨_,_,_⟩=>kj,trivial⟩
  ·rintro ⟨bs3,cp4,ze7⟩ S hF hS D hp K hK
   try dsimp only at hF⊢
   obtain ⟨hf0,hf1,hf2⟩:=hF
   refine bZ hp [31] rfl rfl ?_
   refine aR ?_
   refine c9 (nf hS D (k:=4) (i:=1) rfl) ?_
   refine c9 hS ?_
   refine bN Tryz.call140 rfl (ve xs (by omega) (Rd.cons (Rd.cons (Rd.cons hx))) okx (by omega)) ?_
   rintro _ _ ⟨bs3,cp4,hok5,hle6,rfl,rfl⟩
   refine aE ?_
   refine fG (A:=(SlV 195 5 (.slice bs3 n cp4) n (bJ gH xs))) hS ?_
   refine fG (A:=(SlV 195 5 (.slice bs3 ze7.length cp4) ze7.length (bJ gH ze7))) (nf hS D (k:=4) (i:=1) rfl) ?_
   refine aE ?_
   refine fG (A:=(SlV 195 5 (.slice bs3 ze7.length cp4) ze7.length (bJ gH ze7))) (nf hS D (k:=4) (i:=1) rfl) ?_
   refine aE (aS (aS (aS ?_)))
   refine bO (fun _ h=>cX [_,_] h) ?_
   exact cK hp hS (ti (hK (bs3,cp4,ze7) ⟨(fun _=>hok5),(fun _=>hle6),hf2⟩)) rfl rfl rfl
  ·rintro ⟨bs3,cp4,ze7⟩ S hF hS D hp K hK;try dsimp only
   exact bH (qT (t:=14) rfl rfl) (cB (cs:=[(vI prio),(vI (gx mm)),(vI most)]) Tryz.isAgg190 Ep rfl (ej (aa (.tail _ (.head _)) rfl) (aa (.tail _ (.head _)) rfl) (aa (.tail _ (.head _)) rfl))) 2 rfl rfl hS (hK (bs3,cp4,ze7) hF)
  ·rintro ⟨bs3,cp4,ze7⟩ S hF hS D hp K hK;try dsimp only
   exact bH (bE hp 2 rfl rfl) (dH rfl) 3 rfl rfl hS (hK (bs3,cp4,ze7) hF)
  ·rintro ⟨bs3,cp4,ze7⟩ S hF hS D hp K hK
   try dsimp only at hF⊢
   obtain ⟨hf0,hf1,hf2⟩:=hF
   have s1:=hp 1 rfl
   have hok5:=hf0 s1
   have hle6:=hf1 s1
   refine bZ hp [32,34] rfl rfl ?_
   refine aR ?_
   refine c9 hS ?_
   refine jJ s1 ?_
   refine bN Tryz.call139 rfl (vf (p:=jC prio most) (first:=[(.agg #[(vI prio),(vI (gx mm)),(vI most)])]) xs (by omega) ⟨Tryz.call141,fun R' x=>vX _ _ _ x⟩ (by omega)) ?_
   rintro _ _ ⟨ze7,hk8,rfl,rfl⟩
   refine aR (aR ?_)
   exact cK hp hS (ti (hK (bs3,cp4,ze7) ⟨hf0,hf1,(fun _=>hk8)⟩)) rfl rfl rfl
 ·rintro ⟨bs3,cp4,ze7⟩ hF
  try dsimp only at hF⊢
  obtain ⟨hf0,hf1,hf2⟩:=hF
  have hok5:=hf0 rfl
  have hle6:=hf1 rfl
  have hk8:=hf2 rfl
  refine az (E':=[(0,(.slice bx n cx)),(1,(vI prio)),(2,(vI mm)),(3,(vI free)),(4,(vI slots)),(5,(vI most)),(12,(.slice none 0 0)),(13,(.bool false)),(14,(vP b1 0)),(15,(vP b2 0)),(16,(.slice bs3 ze7.length cp4))]) ⟨rfl,rfl,rfl,rfl,rfl,rfl,rfl,rfl,rfl,rfl,rfl,trivial⟩ ?_
  refine qn hK3 (av (fun _ hK4=>?_))
  have hkl:=hk8.1
  refine ag rfl (aR ?_)
  refine bN Tryz.call142 rfl (qN (cf:=Cs) (caps:=[]) ze7 (by omega) ⟨Tryz.call143,fun R' x y=>tF x y⟩ (by omega)) ?_
  rintro _ _ ⟨ze11,hk12,rfl,rfl⟩
  refine td hK4 (av (fun _ hK5=>aA rfl (td hK5 (ai (fun _ hK6=>av (fun _ hK7=>?_))))))
  refine ag rfl (tp rfl (bC Db rfl rfl) (ag rfl (td hK7 (aH ?_))))
  have hsl:=hk12.1
  have hml:=ui free
  refine bO (fun _ h=>cz 3 1 h) ?_
  refine cE (γ:=(Nat)×(Int)×(Int)×(Option Addr)×(Nat)) (fun (k,fr,so,bo,co)=>k≤ze11.length∧0≤fr∧fr≤1048576+1048576*k∧0≤so∧so≤1+k∧bB bo k∧k≤co) (fun (k,fr,so,bo,co)=>[(0,(.slice bx n cx)),(1,(vI prio)),(2,(vI mm)),(3,(vI free)),(4,(vI slots)),(5,(vI most)),(12,(.slice none 0 0)),(13,(.bool false)),(14,(vP b1 0)),(15,(vP b2 0)),(16,(.slice bs3 ze7.length cp4)),(17,(.slice bo k co)),(38,(.slice bs3 ze7.length cp4)),(39,(vN ze7.length)),(40,(vN k))]) (fun (k,fr,so,bo,co)=>(SlV 3 1 (.slice bo k co) k (aF .i64 ((ze11.map (·.k)).take k)))::(SlV 195 5 (.slice bs3 ze7.length cp4) ze7.length (bJ gH ze11))::(bI b2 [(vI fr),(vI so)] 192)::(bI b1 [(vI prio),(vI (gx mm)),(vI most)] 190)::R) (fun (k,fr,so,bo,co)=>ze11.length-k) (0,gx free,min (max slots 0) 1,none,0) ⟨Nat.zero_le _,by omega,by omega,by omega,by omega,cn,Nat.le_refl _⟩ ⟨rfl,rfl,rfl,rfl,rfl,rfl,rfl,rfl,rfl,rfl,rfl,rfl,rfl,rfl,rfl,trivial⟩ (fun _ h=>h) ?_
  rintro ⟨k,fr,so,bo,co⟩ K8 hF hK8
  try dsimp only at hF hK8⊢
  obtain ⟨hk,hf0,hf1,hs0,hs1,hok,hle⟩:=hF
  have hmm:=ui (ze11.getD k Ev.z).s
  refine av (fun _ hK9=>?_)
  by_cases h13:(k:Int)< (ze7.length:Int)
  ·refine tp rfl (aJ rfl rfl (decide_eq_true h13)) (td hK9 (ai (fun _ hK10=>aG rfl (dp hK10 (ai (fun _ hK11=>aH (ai (fun _ hK12=>?_))))))))
   refine aj (tp rfl (ah (k':=k*5) Db CZ rfl rfl (uX hok5 (by omega)) (by omega) (by omega) (by omega)) ?_)
   refine tp rfl (cU (cs:=[(vI ((ze11.getD k Ev.z).k)),(vI ((ze11.getD k Ev.z).t)),(vI ((ze11.getD k Ev.z).s)),(vI ((ze11.getD k Ev.z).e)),(vI ((ze11.getD k Ev.z).i))]) DI CZ rfl (bh (aw (.tail _ (.head _)) ((bc (k:=k) (j:=0) bA (d:=Ev.z) (by first|omega| (simp;omega)) (nB rfl)).trans rfl)) (aw (.tail _ (.head _)) ((bc (k:=k) (j:=1) bA (d:=Ev.z) (by first|omega| (simp;omega)) (nB rfl)).trans rfl)) (aw (.tail _ (.head _)) ((bc (k:=k) (j:=2) bA (d:=Ev.z) (by first|omega| (simp;omega)) (nB rfl)).trans rfl)) (aw (.tail _ (.head _)) ((bc (k:=k) (j:=3) bA (d:=Ev.z) (by first|omega| (simp;omega)) (nB rfl)).trans rfl)) (aw (.tail _ (.head _)) ((bc (k:=k) (j:=4) bA (d:=Ev.z) (by first|omega| (simp;omega)) (nB rfl)).trans rfl)))) ?_
   refine tm rfl (cD Ec rfl) ?_
   rintro _ _ ⟨b14,rfl,rfl⟩
   refine ts (bn (news:=[(vI ((ze11.getD k Ev.z).k)),(vI ((ze11.getD k Ev.z).t)),(vI ((ze11.getD k Ev.z).s)),(vI ((ze11.getD k Ev.z).e)),(vI ((ze11.getD k Ev.z).i))]) CZ rfl rfl rfl rfl (nB rfl) rfl) ?_
   refine td hK12 (ai (fun _ hK13=>av (fun _ hK14=>tp rfl (cB (cs:=[(vI fr),(vI so)]) Tryz.isAgg192 Tryz.sizeOf192 rfl (fW (aa (.tail _ (.tail _ (.tail _ (.head _)))) rfl) (aa (.tail _ (.tail _ (.tail _ (.head _)))) rfl))) (tp rfl (cB (cs:=[(vI prio),(vI (gx mm)),(vI most)]) Tryz.isAgg190 Ep rfl (ej (aa (.tail _ (.tail _ (.tail _ (.tail _ (.head _))))) rfl) (aa (.tail _ (.tail _ (.tail _ (.tail _ (.head _))))) rfl) (aa (.tail _ (.tail _ (.tail _ (.tail _ (.head _))))) rfl))) ?_))))
   refine bN Tryz.call144 rfl (n6 fr so prio (gx mm) most) ?_
   rintro _ _ ⟨rfl,rfl⟩
   refine td hK14 ?_
   refine cW rfl (fun c15=>?_) (fun c15=>?_)
   ·refine bT (au ?_)
    refine gh rfl ?_
    refine au (au (bS (qn hK6 (ai (fun _ hK15=>av (fun _ hK16=>tp rfl (cB (cs:=[(vI fr),(vI so)]) Tryz.isAgg192 Tryz.sizeOf192 rfl (fW (aa (.tail _ (.tail _ (.tail _ (.head _)))) rfl) (aa (.tail _ (.tail _ (.tail _ (.head _)))) rfl))) (tp rfl (cB (cs:=[(vI prio),(vI (gx mm)),(vI most)]) Tryz.isAgg190 Ep rfl (ej (aa (.tail _ (.tail _ (.tail _ (.tail _ (.head _))))) rfl) (aa (.tail _ (.tail _ (.tail _ (.tail _ (.head _))))) rfl) (aa (.tail _ (.tail _ (.tail _ (.tail _ (.head _))))) rfl))) ?_)))))))
    refine bN Tryz.call144 rfl (n6 fr so prio (gx mm) most) ?_
    rintro _ _ ⟨rfl,rfl⟩
    refine tp rfl (dy (c:= !(decide (so≥1) && decide (gx mm≤fr))) rfl rfl) (td hK16 ?_)
    refine cW rfl (fun c16=>?_) (fun c16=>?_)
    ·refine av (fun _ hK17=>aA rfl (aA rfl (td hK17 (ay ?_))))
     refine aK ?_
     refine bO (fun _ h=>cz 3 1 h) ?_
     refine aE (ak (aE (ak (aE (ak (aE (ak (aE (ak ?_)))))))))
     refine dc rfl rfl rfl ?_
     exact ⟨[],none,0,false,fun v hv=>(by cases hv),Nat.zero_le _,cn,Nat.le_refl _,rfl,rfl⟩
    ·refine dp hK15 (av (fun _ hK17=>ag rfl (aA rfl (aA rfl (td hK17 (ay ?_))))))
     refine ak (aE (ak (aE (ak (aE (ak ?_))))))
     refine dc rfl rfl rfl ?_
     exact ⟨(ze11.map (·.k)).take k,bo,co,true,r4 hk8 hk12,by rw [List.length_take,List.length_map];omega,by rw [List.length_take,List.length_map,Nat.min_eq_left (by omega)];exact hok,by rw [List.length_take,List.length_map,Nat.min_eq_left (by omega)];exact hle,by rw [List.length_take,List.length_map,Nat.min_eq_left (by omega)],by rw [List.length_take,List.length_map,Nat.min_eq_left (by omega)]⟩
   ·refine dp hK13 (ai (fun _ hK15=>?_))
    refine bz (γ:=Unit) (n:=8) Tryz.mixed rfl rfl (fun _ S=>True) (fun _=>[(0,47,(vP b2 0)),(1,48,(vI fr)),(2,49,(vP b14 2)),(3,50,(vI ((ze11.getD k Ev.z).s))),(4,51,(vI (gx ((ze11.getD k Ev.z).s)))),(5,52,(vI (fr+(gx ((ze11.getD k Ev.z).s))))),(6,53,(vP b2 0))]) (fun _ S=>(bI b14 [(vI ((ze11.getD k Ev.z).k)),(vI ((ze11.getD k Ev.z).t)),(vI ((ze11.getD k Ev.z).s)),(vI ((ze11.getD k Ev.z).e)),(vI ((ze11.getD k Ev.z).i))] 195)::(SlV 3 1 (.slice bo k co) k (aF .i64 ((ze11.map (·.k)).take k)))::(SlV 195 5 (.slice bs3 ze7.length cp4) ze7.length (bJ gH ze11))::(bif S 7 then (bI b2 [(vI (fr+(gx ((ze11.getD k Ev.z).s)))),(vI so)] 192) else (bI b2 [(vI fr),(vI so)] 192))::(bI b1 [(vI prio),(vI (gx mm)),(vI most)] 190)::R) (()) trivial (fun _ h=>h) (fun _ _ h=>h) ?_ ?_
    ·refine ⟨bL D2 rfl CG,?_,bL DH rfl CG,db CH fun _ _=>aa (.head _) rfl,?_,?_,bL D2 rfl CG,?_,trivial⟩
     ·rintro _ S hF hS D hp K hK;try dsimp only
      exact bH (bE hp 0 rfl rfl) (bP CH rfl (aa (cF (nf hS D (k:=7) (i:=1) rfl) (.tail _ (.tail _ (.tail _ (.head _))))) rfl)) 1 rfl rfl hS (hK () hF)
     ·rintro _ S hF hS D hp K hK
      try dsimp only at hF⊢
      refine bZ hp [50] rfl rfl ?_
      refine bN Tryz.call138 rfl (mS ((ze11.getD k Ev.z).s)) ?_
      rintro _ _ ⟨rfl,rfl⟩
      exact cK hp hS (ti (hK () trivial)) rfl rfl rfl
     ·rintro _ S hF hS D hp K hK;try dsimp only
      exact bV (bE hp 1 rfl rfl) (bE hp 4 rfl rfl) (aX (c:=fr+(gx ((ze11.getD k Ev.z).s))) rfl rfl (cA (by omega) (by omega))) 5 rfl rfl hS (hK () hF)
     ·rintro _ S hF hS D hp K hK
      try dsimp only at hF⊢
      refine bZ hp [52,53] rfl rfl ?_
      refine aS ?_
      refine c9 hS ?_
      refine ts (cM CG rfl rfl rfl (nB rfl) rfl) ?_
      refine aS (aS (aS ?_))
      exact gE hp (ti (hK () trivial)) rfl rfl rfl
    ·rintro _ hF
     try dsimp only at hF⊢
     refine az (E':=[(0,(.slice bx n cx)),(1,(vI prio)),(2,(vI mm)),(3,(vI free)),(4,(vI slots)),(5,(vI most)),(12,(.slice none 0 0)),(13,(.bool false)),(14,(vP b1 0)),(15,(vP b2 0)),(16,(.slice bs3 ze7.length cp4)),(17,(.slice bo k co)),(19,(vP b14 0)),(38,(.slice bs3 ze7.length cp4)),(39,(vN ze7.length)),(40,(vN k)),(41,(.bool true)),(46,(.bool (decide (so≥1) && decide (gx mm≤fr))))]) ⟨rfl,rfl,rfl,rfl,rfl,rfl,rfl,rfl,rfl,rfl,rfl,rfl,rfl,rfl,rfl,rfl,rfl,rfl,trivial⟩ ?_
     refine qn hK15 (av (fun _ hK16=>bU 1 D2 rfl CG rfl rfl (bK CH rfl (aa (.tail _ (.tail _ (.tail _ (.head _)))) rfl) (tp rfl (aX (c:=so+1) rfl rfl (cA (by omega) (by omega))) ?_))))
     refine bU 1 D2 rfl CG rfl rfl (aS ?_)
     refine ts (cM CG rfl rfl rfl (nB rfl) rfl) ?_
     refine td hK16 (aj (ag rfl (bU 0 DH rfl CG rfl rfl (bK CH rfl (aa (.tail _ (.head _)) rfl) ?_))))
     refine tm rfl (aD (cs:=[(vI ((ze11.getD k Ev.z).k))]) CI CG CN (by decide) rfl rfl rfl rfl) ?_
     rintro _ _ ⟨bs17,cp18,hok19,hle20,rfl,rfl⟩
     refine aS ?_
     refine tm rfl (cR (i:=Tryz.t3) CI C1 rfl rfl rfl (by decide) rfl rfl hok19 (by first| (simp;done)| (simp;omega)) (cj (.tail _ (.head _))) (by simp [Value.oneCell']) (by rw [show Tryz.t3.bytes=8 from rfl];omega)) ?_
     rintro _ _ ⟨bs21,cp22,hok23,hle24,rfl,rfl⟩
     rw [show aF .i64 ((ze11.map (·.k)).take k)++[(.int .i64 ((ze11.getD k Ev.z).k))]=aF .i64 (((ze11.map (·.k)).take k)++[(ze11.getD k Ev.z).k]) from dW _ _ _]
     refine aA rfl (aI (aZ (qn hK11 (aj ?_))))
     rw [show ((ze11.map (·.k)).take k)++[(ze11.getD k Ev.z).k]=(ze11.map (·.k)).take (k+1) from vu (by omega)]
     refine tp rfl (aX (c:=((k+1:Nat):Int)) rfl rfl (aB (by omega))) ?_
     refine ag rfl (aI (aN (aE (ak (aR (ak (aE (aR (aR ?_)))))))))
     exact az (by exact ⟨rfl,rfl,rfl,rfl,rfl,rfl,rfl,rfl,rfl,rfl,rfl,rfl,rfl,rfl,rfl,trivial⟩) ((hK8 (k+1,fr+(gx ((ze11.getD k Ev.z).s)),so+1,bs21,cp22) ⟨by omega,by dsimp only;omega,by dsimp only;omega,by dsimp only;omega,by dsimp only;omega,hok23,hle24⟩ (by dsimp only;omega)))
  ·refine tp rfl (aJ rfl rfl (decide_eq_false h13)) (td hK9 (ai (fun _ hK10=>ar rfl (bT (au (au (bS (qn hK6 ?_))))))))
   refine ai (fun _ hK11=>av (fun _ hK12=>tp rfl (cB (cs:=[(vI fr),(vI so)]) Tryz.isAgg192 Tryz.sizeOf192 rfl (fW (aa (.tail _ (.tail _ (.head _))) rfl) (aa (.tail _ (.tail _ (.head _))) rfl))) (tp rfl (cB (cs:=[(vI prio),(vI (gx mm)),(vI most)]) Tryz.isAgg190 Ep rfl (ej (aa (.tail _ (.tail _ (.tail _ (.head _)))) rfl) (aa (.tail _ (.tail _ (.tail _ (.head _)))) rfl) (aa (.tail _ (.tail _ (.tail _ (.head _)))) rfl))) ?_)))
   refine bN Tryz.call144 rfl (n6 fr so prio (gx mm) most) ?_
   rintro _ _ ⟨rfl,rfl⟩
   refine tp rfl (dy (c:= !(decide (so≥1) && decide (gx mm≤fr))) rfl rfl) (td hK12 ?_)
   refine cW rfl (fun c25=>?_) (fun c25=>?_)
   ·refine av (fun _ hK13=>aA rfl (aA rfl (td hK13 (ay ?_))))
    refine aK ?_
    refine bO (fun _ h=>cz 3 1 h) ?_
    refine aE (ak (aE (ak (aE (ak (aE (ak ?_)))))))
    refine dc rfl rfl rfl ?_
    exact ⟨[],none,0,false,fun v hv=>(by cases hv),Nat.zero_le _,cn,Nat.le_refl _,rfl,rfl⟩
   ·refine dp hK11 (av (fun _ hK13=>ag rfl (aA rfl (aA rfl (td hK13 (ay ?_))))))
    refine aE (ak (aE (ak (aE (ak ?_)))))
    refine dc rfl rfl rfl ?_
    exact ⟨(ze11.map (·.k)).take k,bo,co,true,r4 hk8 hk12,by rw [List.length_take,List.length_map];omega,by rw [List.length_take,List.length_map,Nat.min_eq_left (by omega)];exact hok,by rw [List.length_take,List.length_map,Nat.min_eq_left (by omega)];exact hle,by rw [List.length_take,List.length_map,Nat.min_eq_left (by omega)],by rw [List.length_take,List.length_map,Nat.min_eq_left (by omega)]⟩
end Go.Proofs.YtanfdikglplkaaaGreatDoor
