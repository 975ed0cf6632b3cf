/- Parts Fa, Pa, Pb, Pc: own lemmas and contracts of the code that the claim reaches. -/
import Derived.Test.YtanfdikglplkaaaGreatDoorM03
import Derived.Test.YtanfdikglplkaaaGreatDoorM04
import Derived.Test.YtanfdikglplkaaaGreatDoorM23
import Derived.Test.YtanfdikglplkaaaGreatDoorM12
import Derived.Test.YtanfdikglplkaaaGreatDoorM26
import Derived.Test.YtanfdikglplkaaaGreatDoorM20
import Derived.Test.YtanfdikglplkaaaGreatDoorM21
import Derived.Test.YtanfdikglplkaaaGreatDoorM05
set_option linter.unusedSimpArgs false
set_option linter.unusedVariables false
set_option maxRecDepth 100000
namespace Go.Proofs.YtanfdikglplkaaaGreatDoor
open Go Go.Proofs Sp
set_option maxHeartbeats 4000000 in
theorem vz{R:List HP}{e:Nat}{x:EP}{s:ES}:
 Ok Tryz.prog 145 [(vP e 0)] ((bQ e x s)::R)
  (dZ 3 1 (eF s x.n).length (aF .i64 (eF s x.n)) (bQ e x s::R)):=by
 refine aP (N:=27) Tryz.func145 rfl rfl rfl (fun W=>?_)
 refine aY (fun _ h=>dG h) (fun hE=>?_)
 have hE_nb:=hE.nb
 have hE_mb:=hE.mb
 have hE_tn:=hE.tn
 have hE_ln:=hE.ln
 have hE_mn:=hE.mn
 refine av (fun _ hK1=>aA rfl (td hK1 (ai (fun _ hK2=>av (fun _ hK3=>ag rfl (cV rfl ?_))))))
 refine bU 11 CJ rfl C9 rfl rfl (bK Dc rfl (bu (v:=(.slice x.bt x.n x.ct)) (.head _) (fun _ _=>rfl)) (tp rfl (bC C6 rfl rfl) (ag rfl (td hK3 (aH ?_)))))
 refine bO (fun _ h=>cz 3 1 h) ?_
 refine cE (γ:=(Nat)×(Option Addr)×(Nat)) (fun (k,bt,ct)=>k≤x.n∧bB bt (eF s k).length∧(eF s k).length≤ct) (fun (k,bt,ct)=>[(0,(vP e 0)),(2,(.slice bt ((eF s k).length) ct)),(8,(.slice x.bt x.n x.ct)),(9,(vN x.n)),(10,(vN k))]) (fun (k,bt,ct)=>(SlV 3 1 (.slice bt ((eF s k).length) ct) ((eF s k).length) (aF .i64 (eF s k)))::(bQ e x s)::R) (fun (k,bt,ct)=>x.n-k) (0,none,0) ⟨Nat.zero_le _,cn,Nat.le_refl _⟩ ⟨rfl,rfl,rfl,rfl,rfl,trivial⟩ (fun _ h=>h) ?_
 rintro ⟨k,bt,ct⟩ K4 hF hK4
 try dsimp only at hF hK4⊢
 obtain ⟨hk,hok,hle⟩:=hF
 have hrkl:=my s k
 refine av (fun _ hK5=>?_)
 by_cases h1:(k:Int)< (x.n:Int)
 ·refine tp rfl (aJ rfl rfl (decide_eq_true h1)) (td hK5 (ai (fun _ hK6=>aG rfl (dp hK6 (ai (fun _ hK7=>aH (ai (fun _ hK8=>?_))))))))
  refine aj (ag rfl (tp rfl (ah (k':=k) C6 De rfl rfl hE.okt (by omega) (by omega) (by omega)) ?_))
  refine bK Df rfl (dT (i:=k) (.tail _ (.head _)) (by omega)) ?_
  refine aA rfl (aA rfl (td hK8 (av (fun _ hK9=>ag rfl (cV rfl (bU 2 CP rfl CU rfl rfl (bK CV rfl (bY (i:=k) (v:=(.pointer (some ⟨(x.ks.getD k (0,0)).2,0,none⟩))) (.tail _ (.head _)) (by omega) rfl) ?_)))))))
  refine aE ?_
  refine bN DF rfl (dK (i:=k) (by omega) (fun _=>fc _)) ?_
  rintro _ _ ⟨rfl,rfl⟩
  by_cases h2:((s.lf.getD k Lf.z).st)=2
  ·refine tp rfl (aV rfl rfl (beq_iff_eq.2 h2)) (td hK9 (aG rfl (aj (ag rfl (ag rfl ?_)))))
   refine tm rfl (aD (cs:=[(vN k)]) CI CG CN (by decide) rfl rfl rfl rfl) ?_
   rintro _ _ ⟨bs3,cp4,hok5,hle6,rfl,rfl⟩
   refine aR ?_
   refine tm rfl (cR (i:=Tryz.t3) CI C1 rfl rfl rfl (by decide) rfl rfl hok5 (by first| (simp;done)| (simp;omega)) (cj (.tail _ (.head _))) (by simp [Value.oneCell']) (by rw [show Tryz.t3.bytes=8 from rfl];omega)) ?_
   rintro _ _ ⟨bs7,cp8,hok9,hle10,rfl,rfl⟩
   rw [show aF .i64 (eF s k)++[(.int .i64 (k:Int))]=aF .i64 ((eF s k)++[(k:Int)]) from dW _ _ _]
   refine aA rfl (aI (aZ (qn hK7 (aj (tp rfl (aX (c:=((k+1:Nat):Int)) rfl rfl (aB (by omega))) ?_)))))
   refine ag rfl (aI (aN ?_))
   have hrk:=oi (s:=s) (k:=k) ‹_›
   rw [hrk]
   have hrl:(eF s k).length+1=(eF s (k+1)).length:=by rw [←hrk,List.length_append];rfl
   rw [hrl]
   have hok11:bB bs7 (eF s (k+1)).length:=by rw [←hrl];exact hok9
   have hle12:(eF s (k+1)).length≤cp8:=by rw [←hrl];exact hle10
   refine aE (ak ?_)
   exact az (by exact ⟨rfl,rfl,rfl,rfl,rfl,trivial⟩) ((hK4 (k+1,bs7,cp8) ⟨by omega,hok11,hle12⟩ (by dsimp only;omega)))
  ·refine tp rfl (aV rfl rfl (beq_eq_false_iff_ne.2 h2)) (td hK9 (ar rfl (cS (aZ (qn hK7 (aj (tp rfl (aX (c:=((k+1:Nat):Int)) rfl rfl (aB (by omega))) ?_)))))))
   refine ag rfl (aI (aN ?_))
   have hrk:=qU (s:=s) (k:=k) ‹_›
   have hok13:bB bt (eF s (k+1)).length:=by rw [←hrk];exact hok
   have hle14:(eF s (k+1)).length≤ct:=by rw [←hrk];exact hle
   rw [hrk]
   refine aE ?_
   exact az (by exact ⟨rfl,rfl,rfl,rfl,rfl,trivial⟩) ((hK4 (k+1,bt,ct) ⟨by omega,hok13,hle14⟩ (by dsimp only;omega)))
 ·refine tp rfl (aJ rfl rfl (decide_eq_false h1)) (td hK5 (ai (fun _ hK6=>ar rfl (bT (au (au (bS (qn hK2 ?_))))))))
  refine av (fun _ hK7=>ag rfl (aA rfl (td hK7 (ay ?_))))
  refine aM rfl rfl ?_
  obtain rfl:k=x.n:=by omega
  exact ⟨bt,ct,hok,hle,rfl,rfl⟩
set_option maxHeartbeats 4000000 in
theorem A9{R:List HP}{e:Nat}{x:EP}{s:ES}{bp:Option Addr}{cp np:Nat}(pr:List Int)(hpl:x.n≤np∧pr.length=np)(hrp:Rd R bp (aF .i64 pr))(okp:bB bp np):
 Ok Tryz.prog 98 [(vP e 0),(.slice bp np cp)] ((bQ e x s)::R)
  (dZ 195 5 (eF s x.n).length (bJ gH (jn s pr x.n)) (bQ e x s::R)):=by
 refine aP (N:=47) Tryz.func98 rfl rfl rfl (fun W=>?_)
 refine aY (fun _ h=>dG h) (fun hE=>?_)
 have hE_nb:=hE.nb
 have hE_mb:=hE.mb
 have hE_tn:=hE.tn
 have hE_ln:=hE.ln
 have hE_mn:=hE.mn
 refine av (fun _ hK1=>aA rfl (td hK1 (ai (fun _ hK2=>av (fun _ hK3=>ag rfl ?_)))))
 refine bN Tryz.call145 rfl (vz (x:=x) (s:=s)) ?_
 rintro _ _ ⟨bs1,cp2,hok3,hle4,rfl,rfl⟩
 refine tp rfl (bC CI rfl rfl) (ag rfl (td hK3 (aH ?_)))
 refine bO (fun _ h=>cz 195 5 h) ?_
 have hrkl:=my s x.n
 refine cE (γ:=(Nat)×(Option Addr)×(Nat)) (fun (k,br,cr)=>k≤(eF s x.n).length∧bB br k∧k≤cr) (fun (k,br,cr)=>[(0,(vP e 0)),(1,(.slice bp np cp)),(4,(.slice br k cr)),(9,(.slice bs1 ((eF s x.n).length) cp2)),(10,(vI (((eF s x.n).length:Nat):Int))),(11,(vN k))]) (fun (k,br,cr)=>(SlV 195 5 (.slice br k cr) k (bJ gH ((jn s pr x.n).take k)))::(SlV 3 1 (.slice bs1 ((eF s x.n).length) cp2) ((eF s x.n).length) (aF .i64 (eF s x.n)))::(bQ e x s)::R) (fun (k,br,cr)=>(eF s x.n).length-k) (0,none,0) ⟨Nat.zero_le _,cn,Nat.le_refl _⟩ ⟨rfl,rfl,rfl,rfl,rfl,rfl,trivial⟩ (fun _ h=>h) ?_
 rintro ⟨k,br,cr⟩ K4 hF hK4
 try dsimp only at hF hK4⊢
 obtain ⟨hk,hok,hle⟩:=hF
 refine av (fun _ hK5=>?_)
 by_cases h5:(k:Int)< (((eF s x.n).length:Nat):Int)
 ·refine tp rfl (aJ rfl rfl (decide_eq_true h5)) (td hK5 (ai (fun _ hK6=>aG rfl (dp hK6 (ai (fun _ hK7=>aH (ai (fun _ hK8=>?_))))))))
  refine aj (tp rfl (ah (k':=k) CI CG rfl rfl hok3 (by omega) (by omega) (by omega)) ?_)
  refine bK CH rfl (aw (.tail _ (.head _)) (aQ (by first|omega| (simp;omega)))) ?_
  refine aA rfl (td hK8 (av (fun _ hK9=>?_)))
  obtain ⟨t,htt,htn,_⟩:=lO (s:=s) (k:=x.n) (dP (show k< (eF s x.n).length by omega))
  have hsn:=vk (s:=s) (pr:=pr) (n:=x.n) (k:=k) (by omega)
  rw [htt] at hsn⊢
  have hst:Ba s pr (t:Int)=⟨(t:Int),pr.getD t 0,(s.tk.getD t Tk.z).mem,(s.lf.getD t Lf.z).sp,(s.tk.getD t Tk.z).sn⟩:=rfl
  rw [hst] at hsn
  refine ag rfl (cV rfl (bU 11 CJ rfl C9 rfl rfl (bK Dc rfl (bu (v:=(.slice x.bt x.n x.ct)) (.tail _ (.tail _ (.head _))) (fun _ _=>rfl)) (ag rfl (tp rfl (ah (k':=t) C6 De rfl rfl hE.okt (by omega) (by omega) (by omega)) ?_)))))
  refine bK Df rfl (dT (i:=t) (.tail _ (.tail _ (.head _))) (by omega)) ?_
  refine aA rfl (td hK9 ?_)
  refine bz (γ:=Option Addr×Nat×Option Addr×Nat) (n:=24) Tryz.mixed rfl rfl (fun (bs6,cp7,bs10,cp11) S=>(S 21=true→bB bs6 1)∧(S 21=true→1≤cp7)∧(S 22=true→bB bs10 (k+1))∧(S 22=true→k+1≤cp11)) (fun (bs6,cp7,bs10,cp11)=>[(0,22,(.slice br k cr)),(1,23,(vN t)),(2,24,(.slice bp np cp)),(3,25,(vN t)),(4,26,(.pointer (some (ad bp t)))),(5,27,(vI ((pr).getD t 0))),(6,28,(.pointer (some ⟨(x.ks.getD t (0,0)).1,0,none⟩))),(7,29,(.pointer (some ⟨(x.ks.getD t (0,0)).1,0,none⟩))),(8,30,(.pointer (some ⟨(x.ks.getD t (0,0)).1,0,none⟩))),(9,31,(.pointer (some ⟨(x.ks.getD t (0,0)).1,0,none⟩))),(10,32,(vI ((s.tk.getD t Tk.z).mem))),(11,33,(.pointer (some ⟨(x.ks.getD t (0,0)).1,0,none⟩))),(12,34,(.pointer (some ⟨(x.ks.getD t (0,0)).1,0,none⟩))),(13,35,(.pointer (some ⟨(x.ks.getD t (0,0)).1,2,none⟩))),(14,36,(.pointer (some ⟨(x.ks.getD t (0,0)).2,0,none⟩))),(15,37,(vI ((s.lf.getD t Lf.z).sp))),(16,38,(.pointer (some ⟨(x.ks.getD t (0,0)).1,0,none⟩))),(17,39,(.pointer (some ⟨(x.ks.getD t (0,0)).1,0,none⟩))),(18,40,(.pointer (some ⟨(x.ks.getD t (0,0)).1,4,none⟩))),(19,41,(vI ((s.tk.getD t Tk.z).sn))),(20,42,(.agg #[(vN t),(vI ((pr).getD t 0)),(vI ((s.tk.getD t Tk.z).mem)),(vI ((s.lf.getD t Lf.z).sp)),(vI ((s.tk.getD t Tk.z).sn))])),(21,43,(.slice bs6 1 cp7)),(22,44,(.slice bs10 (k+1) cp11)),(23,4,(.slice bs10 (k+1) cp11))]) (fun (bs6,cp7,bs10,cp11) S=>(bif S 22 then (SlV 195 5 (.slice bs10 (k+1) cp11) (k+1) (bJ gH (((jn s pr x.n).take k)++[(⟨(t:Int),(pr).getD t 0,(s.tk.getD t Tk.z).mem,(s.lf.getD t Lf.z).sp,(s.tk.getD t Tk.z).sn⟩:Ev)]))) else (SlV 195 5 (.slice br k cr) k (bJ gH ((jn s pr x.n).take k))))::(SlV 3 1 (.slice bs1 ((eF s x.n).length) cp2) ((eF s x.n).length) (aF .i64 (eF s x.n)))::(bQ e x s)::(bif S 21 then (SlV 195 5 (.slice bs6 1 cp7) 1 [(vN t),(vI ((pr).getD t 0)),(vI ((s.tk.getD t Tk.z).mem)),(vI ((s.lf.getD t Lf.z).sp)),(vI ((s.tk.getD t Tk.z).sn))]) else ib)::R) (none,0,none,0) (by simp [Nat.ble]) (fun _ h=>ef [_,_,_] 1 h) (fun _ _ h=>h) ?_ ?_
  ·refine ⟨?_,ga fun ⟨_,_,_,_⟩=>da,ga fun ⟨_,_,_,_⟩=>da,ga fun ⟨_,_,_,_⟩=>da,ga fun ⟨_,_,_,_⟩=>nu CI CG rfl rfl rfl ⟨okp,by omega,by omega,by omega⟩,ga fun ⟨_,_,_,_⟩=>gI CH rfl rfl fun _=>Rd.gives (Rd.cons (Rd.cons (Rd.cons (Rd.cons hrp)))) (aQ (by first|omega| (simp;omega))),ga fun ⟨_,_,_,_⟩=>da,ga fun ⟨_,_,_,_⟩=>fx,ga fun ⟨_,_,_,_⟩=>dF CP rfl Dl,ga fun ⟨_,_,_,_⟩=>dF Dt rfl CG,?_,ga fun ⟨_,_,_,_⟩=>da,ga fun ⟨_,_,_,_⟩=>fx,ga fun ⟨_,_,_,_⟩=>dF CP rfl CU,ga fun ⟨_,_,_,_⟩=>gI CV rfl rfl fun _=>bY (i:=t) (v:=(.pointer (some ⟨(x.ks.getD t (0,0)).2,0,none⟩))) (.tail _ (.tail _ (.head _))) (by omega) rfl,?_,ga fun ⟨_,_,_,_⟩=>da,ga fun ⟨_,_,_,_⟩=>fx,ga fun ⟨_,_,_,_⟩=>dF CP rfl CG,?_,?_,?_,?_,ga fun ⟨_,_,_,_⟩=>kj,trivial⟩
   ·rintro ⟨bs6,cp7,bs10,cp11⟩ S hF hS D hp K hK;try dsimp only
    exact bH (fu (t:=4) 23 (nf hS D (k:=23) (i:=0) rfl) rfl rfl) (eX rfl) 0 rfl rfl hS (hK (bs6,cp7,bs10,cp11) hF)
   ·rintro ⟨bs6,cp7,bs10,cp11⟩ S hF hS D hp K hK;try dsimp only
    exact bH (bE hp 9 rfl rfl) (bP CH rfl (bY (i:=t) (v:=(vI ((s.tk.getD t Tk.z).mem))) (.tail _ (.tail _ (.head _))) (by omega) rfl)) 10 rfl rfl hS (hK (bs6,cp7,bs10,cp11) hF)
   ·rintro ⟨bs6,cp7,bs10,cp11⟩ S hF hS D hp K hK
    try dsimp only at hF⊢
    obtain ⟨hf0,hf1,hf2,hf3⟩:=hF
    refine bZ hp [36] rfl rfl ?_
    refine aR ?_
    refine bN Tryz.call146 rfl (dK (i:=t) (by omega) (fun _=>sL _)) ?_
    rintro _ _ ⟨rfl,rfl⟩
    refine aR (aR ?_)
    exact cK hp hS (ti (hK (bs6,cp7,bs10,cp11) ⟨hf0,hf1,hf2,hf3⟩)) rfl rfl rfl
   ·rintro ⟨bs6,cp7,bs10,cp11⟩ S hF hS D hp K hK;try dsimp only
    exact bH (bE hp 18 rfl rfl) (bP CH rfl (bY (i:=t) (v:=(vI ((s.tk.getD t Tk.z).sn))) (.tail _ (.tail _ (.head _))) (by omega) rfl)) 19 rfl rfl hS (hK (bs6,cp7,bs10,cp11) hF)
   ·rintro ⟨bs6,cp7,bs10,cp11⟩ S hF hS D hp K hK;try dsimp only
    exact AN (bE hp 1 rfl rfl) (bE hp 5 rfl rfl) (bE hp 10 rfl rfl) (bE hp 15 rfl rfl) (bE hp 19 rfl rfl) (bG (cs:=[(vN t),(vI ((pr).getD t 0)),(vI ((s.tk.getD t Tk.z).mem)),(vI ((s.lf.getD t Lf.z).sp)),(vI ((s.tk.getD t Tk.z).sn))]) (pl:=[(0,1),(1,1),(2,1),(3,1),(4,1)]) DH Ec (fun _=>by simp) rfl rfl) 20 rfl rfl hS (hK (bs6,cp7,bs10,cp11) hF)
   ·rintro ⟨bs6,cp7,bs10,cp11⟩ S hF hS D hp K hK
    try dsimp only at hF⊢
    obtain ⟨hf0,hf1,hf2,hf3⟩:=hF
    refine bZ hp [42] rfl rfl ?_
    refine tm rfl (aD (cs:=[(vN t),(vI ((pr).getD t 0)),(vI ((s.tk.getD t Tk.z).mem)),(vI ((s.lf.getD t Lf.z).sp)),(vI ((s.tk.getD t Tk.z).sn))]) Db CZ Ec (by decide) rfl rfl rfl rfl) ?_
    rintro _ _ ⟨bs6,cp7,hok8,hle9,rfl,rfl⟩
    refine bO (fun _ h=>cX [_,_,_] h) ?_
    exact cK hp hS (ti (hK (bs6,cp7,bs10,cp11) ⟨(fun _=>hok8),(fun _=>hle9),hf2,hf3⟩)) rfl rfl rfl
   ·rintro ⟨bs6,cp7,bs10,cp11⟩ S hF hS D hp K hK
    try dsimp only at hF⊢
    obtain ⟨hf0,hf1,hf2,hf3⟩:=hF
    have s21:=hp 21 rfl
    have hok8:=hf0 s21
    have hle9:=hf1 s21
    refine bZ hp [22,43] rfl rfl ?_
    refine c9 hS ?_
    refine aS ?_
    refine jJ s21 ?_
    refine aE ?_
    refine tm rfl (cR (i:=Tryz.t195) Db Tryz.type195 rfl rfl rfl (by decide) rfl rfl hok8 (by first| (simp;done)| (simp;omega)) (cj (.tail _ (.head _))) (by simp [Value.oneCell']) (by rw [show Tryz.t195.bytes=40 from rfl];omega)) ?_
    rintro _ _ ⟨bs10,cp11,hok12,hle13,rfl,rfl⟩
    rw [show bJ gH ((jn s pr x.n).take k)++[(.int .i64 (t:Int)),(.int .i64 ((pr).getD t 0)),(.int .i64 ((s.tk.getD t Tk.z).mem)),(.int .i64 ((s.lf.getD t Lf.z).sp)),(.int .i64 ((s.tk.getD t Tk.z).sn))]=bJ gH (((jn s pr x.n).take k)++[(⟨(t:Int),(pr).getD t 0,(s.tk.getD t Tk.z).mem,(s.lf.getD t Lf.z).sp,(s.tk.getD t Tk.z).sn⟩:Ev)]) from iG gH ((jn s pr x.n).take k) (⟨(t:Int),(pr).getD t 0,(s.tk.getD t Tk.z).mem,(s.lf.getD t Lf.z).sp,(s.tk.getD t Tk.z).sn⟩:Ev)]
    refine aE ?_
    refine lZ (B:=ib) s21 ?_
    refine aS (aS (aS ?_))
    exact cK hp hS (ti (hK (bs6,cp7,bs10,cp11) ⟨hf0,hf1,(fun _=>hok12),(fun _=>hle13)⟩)) rfl rfl rfl
  ·rintro ⟨bs6,cp7,bs10,cp11⟩ hF
   try dsimp only at hF⊢
   obtain ⟨hf0,hf1,hf2,hf3⟩:=hF
   have hok8:=hf0 rfl
   have hle9:=hf1 rfl
   have hok12:=hf2 rfl
   have hle13:=hf3 rfl
   refine az (E':=[(0,(vP e 0)),(1,(.slice bp np cp)),(4,(.slice bs10 (k+1) cp11)),(6,(vN t)),(7,(.pointer (some ⟨(x.ks.getD t (0,0)).1,0,none⟩))),(9,(.slice bs1 ((eF s x.n).length) cp2)),(10,(vI (((eF s x.n).length:Nat):Int))),(11,(vN k)),(12,(.bool true))]) ⟨rfl,rfl,rfl,rfl,rfl,rfl,rfl,rfl,rfl,trivial⟩ ?_
   refine aZ (qn hK7 (aj ?_))
   rw [show ((jn s pr x.n).take k)++[(⟨(t:Int),(pr).getD t 0,(s.tk.getD t Tk.z).mem,(s.lf.getD t Lf.z).sp,(s.tk.getD t Tk.z).sn⟩:Ev)]=(jn s pr x.n).take (k+1) from hsn]
   refine tp rfl (aX (c:=((k+1:Nat):Int)) rfl rfl (aB (by omega))) ?_
   refine ag rfl (aI (aN (aS (ak ?_))))
   exact az (by exact ⟨rfl,rfl,rfl,rfl,rfl,rfl,trivial⟩) ((hK4 (k+1,bs10,cp11) ⟨by omega,hok12,hle13⟩ (by dsimp only;omega)))
 ·refine tp rfl (aJ rfl rfl (decide_eq_false h5)) (td hK5 (ai (fun _ hK6=>ar rfl (bT (au (au (bS (qn hK2 ?_))))))))
  refine av (fun _ hK7=>ag rfl (aA rfl (td hK7 (ay (aE (ak ?_))))))
  refine aM rfl rfl ?_
  obtain rfl:k=(eF s x.n).length:=by omega
  rw [show (jn s pr x.n).take (eF s x.n).length=jn s pr x.n from List.take_of_length_le (by rw [r5];exact Nat.le_refl _)]
  exact ⟨br,cr,hok,hle,rfl,rfl⟩
end Go.Proofs.YtanfdikglplkaaaGreatDoor
set_option maxRecDepth 100000
namespace Go.Proofs.YtanfdikglplkaaaGreatDoor
open Go Go.Proofs Sp
set_option maxHeartbeats 4000000 in
theorem ze{R:List HP}{bx bb:Option Addr}{cx cy n1 n2 m:Nat}(xs ys:List Int)(h1:n1≤xs.length)(h2:n2≤ys.length)(hm:m=min n1 n2)(hx:Rd R bx (aF .i64 xs))(hy:Rd R bb (aF .i64 ys))(okx:bB bx n1)(oky:bB bb n2)(lx:n1≤1000000)(ly:n2≤1000000)(hcy:n2≤cy):
 Ok Tryz.prog 53 [(.slice bx n1 cx),(.slice bb n2 cy)] R
  (fun v M=> ∃bs cp,bB bs (dO xs ys m).2.length∧(dO xs ys m).2.length≤cp∧v=.tuple #[.int .i64 (dO xs ys m).1,.slice bs (dO xs ys m).2.length cp]∧M=SlV 3 1 (.slice bs (dO xs ys m).2.length cp) (dO xs ys m).2.length (aF .i64 (dO xs ys m).2)::R):=by
 refine aP (N:=45) Tryz.func53 rfl rfl rfl (fun W=>?_)
 refine av (fun _ hK1=>aA rfl (aA rfl (td hK1 (av (fun _ hK2=>aA rfl (aI ?_))))))
 refine qn hK2 (ai (fun _ hK3=>av (fun _ hK4=>ag rfl (ag rfl (tp rfl (bC CI rfl rfl) (ag rfl (tp rfl (bC CI rfl rfl) (tp rfl (hO (c:=(m:Int)) rfl rfl (by omega)) ?_))))))))
 refine tp rfl (ed (l:=0) (h:=m) (m:=cy) (v:=(.slice bb m cy)) CI CG rfl rfl rfl rfl (.inr ⟨rfl,rfl⟩) (.inl ⟨_,_,rfl,(by omega),(by omega),(by omega)⟩) (.inr ⟨rfl,rfl⟩) (by simp) (by rw [fI];rfl)) ?_
 refine tp rfl (bC CI rfl rfl) (ag rfl (td hK4 (aH ?_)))
 refine bO (fun _ h=>cz 3 1 h) ?_
 refine cE (γ:=(Nat)×(Int)×(List Int)×(Option Addr)×(Nat)) (fun (k,p,ts,bt,ct)=>k≤m∧dO xs ys k=(p,ts)∧bB bt ts.length∧ts.length≤ct) (fun (k,p,ts,bt,ct)=>[(0,(.slice bx n1 cx)),(1,(.slice bb n2 cy)),(4,(vI p)),(5,(.slice bt ts.length ct)),(14,(.slice bb m cy)),(15,(vN m)),(16,(vN k))]) (fun (k,p,ts,bt,ct)=>(SlV 3 1 (.slice bt ts.length ct) ts.length (aF .i64 ts))::R) (fun (k,p,ts,bt,ct)=>m-k) (0,(-1),[],none,0) ⟨by omega,rfl,cn,Nat.le_refl _⟩ ⟨rfl,rfl,rfl,rfl,rfl,rfl,rfl,trivial⟩ (fun _ h=>h) ?_
 rintro ⟨k,p,ts,bt,ct⟩ K5 hF hK5
 try dsimp only at hF hK5⊢
 obtain ⟨hk,hb,hok,hle⟩:=hF
 have htl:ts.length≤k:=by have:=mI xs ys k;rw [hb] at this;exact this
 refine av (fun _ hK6=>?_)
 by_cases h1:(k:Int)< (m:Int)
 ·refine tp rfl (aJ rfl rfl (decide_eq_true h1)) (td hK6 (ai (fun _ hK7=>aG rfl (dp hK7 (ai (fun _ hK8=>aH (ai (fun _ hK9=>?_))))))))
  refine aj (ag rfl (tp rfl (ah (k':=k) CI CG rfl rfl (fun hz=>oky (by omega)) (by omega) (by omega) (by omega)) ?_))
  refine bK CH rfl (Rd.gives (Rd.cons hy) (aQ (by first|omega| (simp;omega)))) ?_
  refine aA rfl (aA rfl (td hK9 (aH (ai (fun _ hK10=>aH (ai (fun _ hK11=>aH (ai (fun _ hK12=>?_)))))))))
  refine aH (ai (fun _ hK13=>ai (fun _ hK14=>av (fun _ hK15=>ag rfl (ag rfl (tp rfl (ah (k':=k) CI CG rfl rfl okx (by omega) (by omega) (by omega)) ?_))))))
  refine bK CH rfl (Rd.gives (Rd.cons hx) (aQ (by first|omega| (simp;omega)))) ?_
  by_cases hst:((xs).getD k 0)=1
  ·refine tp rfl (cG rfl rfl (bne_eq_false_iff_eq.2 hst)) (ag rfl ?_)
   refine ae rfl rfl ?_
   refine ag rfl ?_
   refine ae rfl rfl ?_
   refine ag rfl ?_
   refine ae rfl rfl ?_
   refine tp rfl (fm (c:=max p 0) rfl rfl rfl) ?_
   refine ae rfl rfl ?_
   by_cases hlt:((ys).getD k 0)< (max p 0)
   ·refine tp rfl (aJ rfl rfl (decide_eq_true hlt)) (tp rfl (aC rfl rfl) (aA rfl (td hK15 (aG rfl (bT (au (au (bS ?_))))))))
    refine qn hK12 (ai (fun _ hK16=>bT (au ?_)))
    refine gh rfl ?_
    refine au ?_
    refine gh rfl ?_
    refine au ?_
    refine gh rfl ?_
    refine bS (qn hK8 (aj (tp rfl (aX (c:=((k+1:Nat):Int)) rfl rfl (aB (by omega))) ?_)))
    refine ag rfl (aI (aN ?_))
    exact az (by exact ⟨rfl,rfl,rfl,rfl,rfl,rfl,rfl,trivial⟩) ((hK5 (k+1,p,ts,bt,ct) ⟨by omega,ud hb (fun hh=>by first|exact hst hh.1|exact hh.2 hlt),hok,hle⟩ (by omega)))
   ·refine tp rfl (aJ rfl rfl (decide_eq_false hlt)) (tp rfl (aC rfl rfl) (aA rfl (td hK15 (ar rfl (dp hK14 (av (fun _ hK16=>?_)))))))
    refine ag rfl (ag rfl ?_)
    by_cases hgt:((ys).getD k 0)>p
    ·refine tp rfl (cu rfl rfl (decide_eq_true hgt)) (aA rfl (td hK16 (aG rfl (bT (au ?_)))))
     refine gh rfl ?_
     refine au (bS (qn hK11 (aj (ag rfl (aA rfl (aA rfl (aI (aZ (qn hK10 ?_)))))))))
     refine av (fun _ hK17=>ag rfl (ag rfl ?_))
     refine tm rfl (aD (cs:=[(vN k)]) CI CG CN (by decide) rfl rfl rfl rfl) ?_
     rintro _ _ ⟨bs2,cp3,hok4,hle5,rfl,rfl⟩
     refine bO (fun _ h=>cz 3 1 h) ?_
     refine tm rfl (cR (i:=Tryz.t3) CI C1 rfl rfl rfl (by decide) rfl rfl hok4 (by first| (simp;done)| (simp;omega)) (cj (.tail _ (.head _))) (by simp [Value.oneCell']) (by rw [show Tryz.t3.bytes=8 from rfl];omega)) ?_
     rintro _ _ ⟨bs6,cp7,hok8,hle9,rfl,rfl⟩
     simp only [Nat.zero_add] at hok8 hle9⊢
     refine aA rfl (td hK17 (bT (bS (aZ (qn hK8 (aj (tp rfl (aX (c:=((k+1:Nat):Int)) rfl rfl (aB (by omega))) ?_)))))))
     refine ag rfl (aI (aN (aE (ak (aE (ak ?_))))))
     exact az (by exact ⟨rfl,rfl,rfl,rfl,rfl,rfl,rfl,trivial⟩) ((hK5 (k+1,(ys).getD k 0,[(k:Int)],bs6,cp7) ⟨by omega,yR hb hst hlt hgt,hok8,hle9⟩ (by omega)))
    ·refine tp rfl (cu rfl rfl (decide_eq_false hgt)) (aA rfl (td hK16 (ar rfl (dp hK13 (bT ?_)))))
     refine gh rfl ?_
     refine au ?_
     refine gh rfl ?_
     refine au (bS (qn hK10 (av (fun _ hK17=>ag rfl (ag rfl ?_)))))
     refine tm rfl (aD (cs:=[(vN k)]) CI CG CN (by decide) rfl rfl rfl rfl) ?_
     rintro _ _ ⟨bs10,cp11,hok12,hle13,rfl,rfl⟩
     refine aE ?_
     refine tm rfl (cR (i:=Tryz.t3) CI C1 rfl rfl rfl (by decide) rfl rfl hok12 (by first| (simp;done)| (simp;omega)) (cj (.tail _ (.head _))) (by simp [Value.oneCell']) (by rw [show Tryz.t3.bytes=8 from rfl];omega)) ?_
     rintro _ _ ⟨bs14,cp15,hok16,hle17,rfl,rfl⟩
     rw [show aF .i64 ts++[(.int .i64 (k:Int))]=aF .i64 (ts++[(k:Int)]) from dW _ _ _]
     rw [show ts.length+1=(ts++[(k:Int)]).length from by simp] at hok16 hle17⊢
     refine aA rfl (td hK17 (bT (bS (aZ (qn hK8 (aj (tp rfl (aX (c:=((k+1:Nat):Int)) rfl rfl (aB (by omega))) ?_)))))))
     refine ag rfl (aI (aN (aE (ak ?_))))
     exact az (by exact ⟨rfl,rfl,rfl,rfl,rfl,rfl,rfl,trivial⟩) ((hK5 (k+1,p,ts++[(k:Int)],bs14,cp15) ⟨by omega,yq hb hst hlt hgt,hok16,hle17⟩ (by omega)))
  ·refine tp rfl (cG rfl rfl (bne_iff_ne.2 hst)) (ag rfl ?_)
   refine aq rfl rfl rfl ?_
   refine aq rfl rfl rfl ?_
   refine aq rfl rfl rfl ?_
   refine aq rfl rfl rfl ?_
   refine tp rfl (aL rfl rfl) (aA rfl (td hK15 (aG rfl (bT (au (au (bS (qn hK12 ?_))))))))
   refine ai (fun _ hK16=>bT (au ?_))
   refine gh rfl ?_
   refine au ?_
   refine gh rfl ?_
   refine au ?_
   refine gh rfl ?_
   refine bS (qn hK8 (aj (tp rfl (aX (c:=((k+1:Nat):Int)) rfl rfl (aB (by omega))) ?_)))
   refine ag rfl (aI (aN ?_))
   exact az (by exact ⟨rfl,rfl,rfl,rfl,rfl,rfl,rfl,trivial⟩) ((hK5 (k+1,p,ts,bt,ct) ⟨by omega,ud hb (fun hh=>by first|exact hst hh.1|exact hh.2 hlt),hok,hle⟩ (by omega)))
 ·refine tp rfl (aJ rfl rfl (decide_eq_false h1)) (td hK6 (ai (fun _ hK7=>ar rfl (bT (au (au (bS (qn hK3 ?_))))))))
  refine av (fun _ hK8=>ag rfl (ag rfl (aA rfl (aA rfl (td hK8 (ay ?_))))))
  refine dc rfl rfl rfl ?_
  have e:k=m:=by omega
  subst e
  rw [hb]
  exact ⟨bt,ct,hok,hle,rfl,rfl⟩
end Go.Proofs.YtanfdikglplkaaaGreatDoor
set_option maxRecDepth 100000
namespace Go.Proofs.YtanfdikglplkaaaGreatDoor
open Go Go.Proofs Sp
set_option maxHeartbeats 4000000 in
theorem po{R:List HP}{p:Int→Bool}{f:Nat}{caps:List Value}{bx:Option Addr}{cx:Nat}(xs:List Int)(hf:(∀args w,(callFunc f args).run Tryz.prog w=.ok (.enter f args) w)∧∀x∈xs,∀ys:List Int,ys.length=xs.length→Ok Tryz.prog f ([.int .i64 x]++caps) (SlV 3 1 (.slice bx xs.length cx) xs.length (aF .i64 ys)::R) (fun v M=>v=.bool (p x)∧M=SlV 3 1 (.slice bx xs.length cx) xs.length (aF .i64 ys)::R))(lx:xs.length≤1000000):
 Ok Tryz.prog 137 [(.slice bx xs.length cx),(.func (.func f) #[] caps.toArray)] ((SlV 3 1 (.slice bx xs.length cx) xs.length (aF .i64 xs))::R)
  (fun v M=>v=.slice bx (xs.filter (fun x=> !p x)).length cx∧M=SlV 3 1 (.slice bx (xs.filter (fun x=> !p x)).length cx) (xs.filter (fun x=> !p x)).length (aF .i64 (xs.filter (fun x=> !p x)))::R):=by
 refine aP (N:=42) Tryz.func137 rfl rfl rfl (fun W=>?_)
 refine aY (fun _ h=>fY h) (fun hbx=>?_)
 obtain ⟨okx,hcx,hmx⟩:=hbx
 unfold maxLen at hmx
 obtain ⟨hcall,hf⟩:=hf
 refine av (fun _ hK1=>aA rfl (td hK1 (av (fun _ hK2=>ag rfl (ag rfl ?_)))))
 refine bN Tryz.call100 rfl (iz (p:=p) xs ⟨hcall,fun x hx=>hf x hx xs rfl⟩ (cj (.head _)) okx (by first|omega| (simp;omega)| (simp;done))) ?_
 rintro _ _ ⟨rfl,rfl⟩
 refine aA rfl (td hK2 (ai (fun _ hK3=>av (fun _ hK4=>ag rfl ?_))))
 by_cases hnone:(eU p xs)=(-1)
 ·refine tp rfl (aV rfl rfl (beq_iff_eq.2 hnone)) (td hK4 (aG rfl (av (fun _ hK5=>ag rfl (aA rfl (td hK5 ?_))))))
  refine ay ?_
  refine aK ?_
  rw [show aF .i64 xs=aF .i64 (xs.filter (fun x=> !p x)) from by rw [nh hnone]]
  refine aM rfl rfl ?_
  have e:xs.length=(xs.filter (fun x=> !p x)).length:=by rw [nh hnone]
  rw [←e]
  exact ⟨rfl,rfl⟩
 ·refine tp rfl (aV rfl rfl (beq_eq_false_iff_ne.2 hnone)) (td hK4 (ar rfl (dp hK3 (ai (fun _ hK5=>av (fun _ hK6=>?_))))))
  obtain ⟨k0,hk0,hk1,hk2,hk3⟩:=pH hnone
  rw [hk0]
  refine ag rfl (tp rfl (aX (c:=((k0+1:Nat):Int)) rfl rfl (aB (by omega))) ?_)
  refine aA rfl (td hK6 (aH ?_))
  refine cE (γ:=(Nat)×(Nat)×(List Int)) (fun (i,j,ys)=>DelI p xs i j ys) (fun (i,j,ys)=>[(0,(.slice bx xs.length cx)),(1,(.func (.func f) #[] caps.toArray)),(4,(.slice none 0 0)),(5,(vN i)),(6,(vN j)),(12,(.bool false))]) (fun (i,j,ys)=>(SlV 3 1 (.slice bx xs.length cx) xs.length (aF .i64 ys))::R) (fun (i,j,ys)=>xs.length-j) (k0,k0+1,xs) (DelI.start hk1 hk2 hk3) ⟨rfl,rfl,rfl,rfl,rfl,rfl,trivial⟩ (fun _ h=>h) ?_
  rintro ⟨i,j,ys⟩ K7 hF hK7
  try dsimp only at hF hK7⊢
  have hyl:=hF.len
  have hij:=hF.lt
  have hjl:=hF.le
  refine ai (fun _ hK8=>av (fun _ hK9=>ag rfl (ag rfl (tp rfl (bC CI rfl rfl) ?_))))
  by_cases h1:(j:Int)< (xs.length:Int)
  ·refine tp rfl (aJ rfl rfl (decide_eq_true h1)) (td hK9 (aG rfl (dp hK8 (ai (fun _ hK10=>aH (av (fun _ hK11=>?_)))))))
   refine ag rfl (ag rfl (tp rfl (ah (k':=j) CI CG rfl rfl okx (by omega) (by omega) (by omega)) ?_))
   refine bK CH rfl (aw (.head _) (aQ (by first|omega| (simp;omega)))) ?_
   refine aA rfl (td hK11 (av (fun _ hK12=>ag rfl (ag rfl ?_))))
   refine tc rfl (lJ hcall rfl rfl) (hf (ys.getD j 0) (by rw [hF.get (by omega)];exact dP (by omega)) ys hF.len) ?_
   rintro _ _ ⟨rfl,rfl⟩
   refine tp rfl (dy (c:= !(p (ys.getD j 0))) rfl rfl) (td hK12 ?_)
   refine cW rfl (fun c2=>?_) (fun c2=>?_)
   ·have hpj:=c2
    refine av (fun _ hK13=>ag rfl (ag rfl (ag rfl (tp rfl (ah (k':=i) CI CG rfl rfl okx (by omega) (by omega) (by omega)) ?_))))
    refine ts (gN CG rfl rfl rfl (by first| (rw [ints_length];omega)| (simp;omega)|omega) eD) ?_
    refine td hK13 (aj (ag rfl (tp rfl (aX (c:=((i+1:Nat):Int)) rfl rfl (aB (by omega))) ?_)))
    refine aA rfl (aI (aZ (qn hK10 (aj (ag rfl (tp rfl (aX (c:=((j+1:Nat):Int)) rfl rfl (aB (by omega))) ?_))))))
    refine aA rfl (aI (aN ?_))
    exact az (by exact ⟨rfl,rfl,rfl,rfl,rfl,rfl,trivial⟩) ((hK7 (i+1,j+1,(ys).set i ((ys).getD j 0)) (hF.keep (by omega) (by simpa using hpj)) (by dsimp only;omega)))
   ·have hpj:=c2
    refine cS (aZ (qn hK10 (aj (ag rfl (tp rfl (aX (c:=((j+1:Nat):Int)) rfl rfl (aB (by omega))) ?_)))))
    refine aA rfl (aI (aN ?_))
    exact az (by exact ⟨rfl,rfl,rfl,rfl,rfl,rfl,trivial⟩) ((hK7 (i,j+1,ys) (hF.skip (by omega) (by simpa using hpj)) (by dsimp only;omega)))
  ·refine tp rfl (aJ rfl rfl (decide_eq_false h1)) (td hK9 (ar rfl (bT (au (au (bS (qn hK5 (ai (fun _ hK10=>?_)))))))))
   refine aj (ag rfl (ag rfl (tp rfl (ed (l:=i) (h:=xs.length) (m:=cx) (v:=(.slice (eu bx i cx 1) (xs.length-i) (cx-i))) CI CG rfl rfl rfl rfl (.inr ⟨rfl,rfl⟩) (.inr ⟨rfl,rfl⟩) (.inl ⟨_,_,rfl,(by omega),(by omega),(by omega)⟩) (by simp) rfl) ?_)))
   refine Cw (mi (l:=i) (c:=cx) CI CN rfl rfl (by decide) rfl okx (by omega) (by omega) (by omega)) ?_
   rintro _ _ ⟨zs3,rfl⟩
   refine td hK10 (av (fun _ hK11=>ag rfl (ag rfl (tp rfl (ed (l:=0) (h:=i) (m:=cx) (v:=(.slice bx i cx)) CI CG rfl rfl rfl rfl (.inr ⟨rfl,rfl⟩) (.inl ⟨_,_,rfl,(by omega),(by omega),(by omega)⟩) (.inr ⟨rfl,rfl⟩) (by simp) (by rw [fI];rfl)) ?_))))
   refine aA rfl (td hK11 (ay ?_))
   refine bO (fun _ h=>mh (by omega) (by omega) hyl h) ?_
   have hdn:=hF.done (by omega)
   rw [hdn]
   have hi:i=(xs.filter (fun x=> !p x)).length:=by rw [←hdn];simp;omega
   subst hi
   refine aM rfl rfl ?_
   exact ⟨rfl,rfl⟩
theorem qw{R:List HP}{p:Int→Bool}{f n:Nat}{caps:List Value}{bx:Option Addr}{cx:Nat}(xs:List Int)(hn:xs.length=n)(hf:(∀args w,(callFunc f args).run Tryz.prog w=.ok (.enter f args) w)∧∀x∈xs,∀ys:List Int,ys.length=xs.length→Ok Tryz.prog f ([.int .i64 x]++caps) (SlV 3 1 (.slice bx n cx) n (aF .i64 ys)::R) (fun v M=>v=.bool (p x)∧M=SlV 3 1 (.slice bx n cx) n (aF .i64 ys)::R))(lx:n≤1000000):Ok Tryz.prog 137 [.slice bx n cx,.func (.func f) #[] caps.toArray] (SlV 3 1 (.slice bx n cx) n (aF .i64 xs)::R) (fun v M=>v=.slice bx (xs.filter (fun x=> !p x)).length cx∧M=SlV 3 1 (.slice bx (xs.filter (fun x=> !p x)).length cx) (xs.filter (fun x=> !p x)).length (aF .i64 (xs.filter (fun x=> !p x)))::R):=by subst hn;exact po xs hf lx
theorem kD{R:List HP}(x:Int){n cl:Nat}{bl:Option Addr}:
 Ok Tryz.prog 102 [(vI x),(.slice bl n cl)] R
  (fun v M=>v=.bool (oS x n)∧M=R):=by
 refine aP (N:=13) Tryz.func102 rfl rfl rfl (fun W=>?_)
 refine av (fun _ hK1=>aA rfl (td hK1 (av (fun _ hK2=>ag rfl ?_))))
 by_cases hge:x≥0
 ·refine tp rfl (cC rfl rfl (decide_eq_true hge)) (ag rfl ?_)
  refine ae rfl rfl ?_
  refine ag rfl ?_
  refine ae rfl rfl ?_
  refine ag rfl ?_
  refine ae rfl rfl ?_
  refine tp rfl (bC CY rfl rfl) ?_
  refine ae rfl rfl ?_
  refine tp rfl (aJ rfl rfl rfl) (tp rfl (aL rfl rfl) (aA rfl (td hK2 (ay ?_))))
  refine aM rfl rfl ?_
  exact ⟨by simp [oS,hge],rfl⟩
 ·refine tp rfl (cC rfl rfl (decide_eq_false hge)) (ag rfl ?_)
  refine aq rfl rfl rfl ?_
  refine aq rfl rfl rfl ?_
  refine aq rfl rfl rfl ?_
  refine aq rfl rfl rfl ?_
  refine tp rfl (aC rfl rfl) (aA rfl (td hK2 (ay ?_)))
  refine aM rfl rfl ?_
  exact ⟨by simp [oS,hge],rfl⟩
set_option maxHeartbeats 4000000 in
theorem xZ{R:List HP}(x room:Int){c1 c2 n cl:Nat}{bl:Option Addr}(es:List (Int×Int))(hn:n≤es.length)(hl:Rd R bl (df es))(okl:bB bl n)(h1:Gives R ⟨c1,0,none⟩ (.slice bl n cl))(h2:Gives R ⟨c2,0,none⟩ (.int .i64 room)):
 Ok Tryz.prog 136 [(vI x),(vP c1 0),(vP c2 0)] R
  (fun v M=>v=.bool (!fE n es room x)∧M=R):=by
 refine aP (N:=18) Tryz.func136 rfl rfl rfl (fun W=>?_)
 refine av (fun _ hK1=>aA rfl (td hK1 (ai (fun _ hK2=>?_))))
 rcases hh1:oS x n with _|_
 ·refine bz (γ:=Nat) (n:=14) Tryz.mixed rfl rfl (fun (hMR:Nat) S=>True) (fun (hMR:Nat)=>[(0,5,(vI x)),(1,6,(.slice bl n cl)),(2,7,(.bool false)),(3,8,(.bool true)),(4,9,(.bool true)),(5,10,undef),(6,11,undef),(7,12,undef),(8,13,undef),(9,14,undef),(10,15,undef),(11,16,undef),(12,17,(.bool true)),(13,4,(.bool true))]) (fun (hMR:Nat) S=>R) (0) trivial (fun _ h=>h) (fun _ _ h=>h) ?_ ?_
  ·refine ⟨ga fun _=>da,ga fun _=>gI DM rfl rfl fun _=>h1,?_,?_,ga fun _=>da,ga fun _=>rB,ga fun _=>rB,ga fun _=>rB,ga fun _=>rB,ga fun _=>rB,ga fun _=>rB,ga fun _=>rB,?_,ga fun _=>kj,trivial⟩
   ·rintro hMR S hF hS D hp K hK
    try dsimp only at hF⊢
    refine bZ hp [5,6] rfl rfl ?_
    refine bN Tryz.call102 rfl (kD x) ?_
    rintro _ _ ⟨rfl,hMR⟩
    rw [hMR];clear hMR
    rw [show oS x n=false from hh1]
    exact cK hp hS (ti (hK hMR trivial)) rfl rfl rfl
   ·rintro hMR S hF hS D hp K hK;try dsimp only
    exact bH (bE hp 2 rfl rfl) (dy (c:=true) rfl rfl) 3 rfl rfl hS (hK hMR hF)
   ·rintro hMR S hF hS D hp K hK;try dsimp only
    exact bV (bE hp 4 rfl rfl) (bE hp 11 rfl rfl) (aL rfl rfl) 12 rfl rfl hS (hK hMR hF)
  ·rintro hMR hF
   try dsimp only at hF⊢
   refine az (E':=[(0,(vI x)),(1,(vP c1 0)),(2,(vP c2 0)),(4,(.bool true))]) ⟨rfl,rfl,rfl,rfl,trivial⟩ ?_
   refine qn hK2 (ay ?_)
   refine aM rfl rfl ?_
   refine ⟨?_,rfl⟩
   congr 1
   unfold fE
   rw [Bool.eq_iff_iff]
   simp [*]
 ·refine bz (γ:=Nat) (n:=14) Tryz.mixed rfl rfl (fun (hMR:Nat) S=>True) (fun (hMR:Nat)=>[(0,5,(vI x)),(1,6,(.slice bl n cl)),(2,7,(.bool true)),(3,8,(.bool false)),(4,9,(.bool false)),(5,10,(.slice bl n cl)),(6,11,(vI x)),(7,12,(.pointer (some (ad bl (x.toNat*2))))),(8,13,(.pointer (some (ad bl (x.toNat*2))))),(9,14,(vI (((es).getD x.toNat (0,0)).1))),(10,15,(vI room)),(11,16,(.bool (decide ((((es).getD x.toNat (0,0)).1)>room)))),(12,17,(.bool (decide ((((es).getD x.toNat (0,0)).1)>room)))),(13,4,(.bool (decide ((((es).getD x.toNat (0,0)).1)>room))))]) (fun (hMR:Nat) S=>R) (0) trivial (fun _ h=>h) (fun _ _ h=>h) ?_ ?_
  ·refine ⟨ga fun _=>da,ga fun _=>gI DM rfl rfl fun _=>h1,?_,?_,ga fun _=>da,ga fun _=>wU (gI DM rfl rfl fun _=>h1),ga fun _=>wU da,ga fun _=>wU (nu CY Dl rfl rfl rfl ⟨okl,by have:=rO ‹_›;omega,by have:=rO ‹_›;omega,by have:=rO ‹_›;omega⟩),?_,ga fun _=>wU (gI CH rfl rfl fun _=>Rd.gives hl (gv (by have:=rO ‹_›;omega))),ga fun _=>wU (gI CH rfl rfl fun _=>h2),?_,?_,ga fun _=>kj,trivial⟩
   ·rintro hMR S hF hS D hp K hK
    try dsimp only at hF⊢
    refine bZ hp [5,6] rfl rfl ?_
    refine bN Tryz.call102 rfl (kD x) ?_
    rintro _ _ ⟨rfl,hMR⟩
    rw [hMR];clear hMR
    rw [show oS x n=true from hh1]
    exact cK hp hS (ti (hK hMR trivial)) rfl rfl rfl
   ·rintro hMR S hF hS D hp K hK;try dsimp only
    exact bH (bE hp 2 rfl rfl) (dy (c:=false) rfl rfl) 3 rfl rfl hS (hK hMR hF)
   ·rintro hMR S hF hS D hp K hK;try dsimp only
    exact je (bE hp 4 rfl rfl) (bE hp 7 rfl rfl) rfl rfl (bM (o':=x.toNat*2) Dt rfl CG rfl rfl) 8 rfl rfl hS (hK hMR hF)
   ·rintro hMR S hF hS D hp K hK;try dsimp only
    exact kf (bE hp 4 rfl rfl) (bE hp 9 rfl rfl) (bE hp 10 rfl rfl) rfl rfl (cu rfl rfl rfl) 11 rfl rfl hS (hK hMR hF)
   ·rintro hMR S hF hS D hp K hK;try dsimp only
    exact bV (bE hp 4 rfl rfl) (bE hp 11 rfl rfl) (aC rfl rfl) 12 rfl rfl hS (hK hMR hF)
  ·rintro hMR hF
   try dsimp only at hF⊢
   refine az (E':=[(0,(vI x)),(1,(vP c1 0)),(2,(vP c2 0)),(4,(.bool (decide ((((es).getD x.toNat (0,0)).1)>room))))]) ⟨rfl,rfl,rfl,rfl,trivial⟩ ?_
   refine qn hK2 (ay ?_)
   refine aM rfl rfl ?_
   refine ⟨?_,rfl⟩
   congr 1
   unfold fE
   rw [Bool.eq_iff_iff]
   simp [*]
end Go.Proofs.YtanfdikglplkaaaGreatDoor
set_option maxRecDepth 100000
namespace Go.Proofs.YtanfdikglplkaaaGreatDoor
open Go Go.Proofs Sp
theorem qO{R:List HP}{p q:Int→Bool}{f n:Nat}{caps:List Value}{bx:Option Addr}{cx:Nat}(hq:∀x,p x= !q x)(xs:List Int)(hn:xs.length=n)(hf:(∀args w,(callFunc f args).run Tryz.prog w=.ok (.enter f args) w)∧∀x∈xs,∀ys:List Int,ys.length=xs.length→Ok Tryz.prog f ([.int .i64 x]++caps) (SlV 3 1 (.slice bx n cx) n (aF .i64 ys)::R) (fun v M=>v=.bool (p x)∧M=SlV 3 1 (.slice bx n cx) n (aF .i64 ys)::R))(lx:n≤1000000):
 Ok Tryz.prog 137 [.slice bx n cx,.func (.func f) #[] caps.toArray] (SlV 3 1 (.slice bx n cx) n (aF .i64 xs)::R) (fun v M=>v=.slice bx (xs.filter q).length cx∧M=SlV 3 1 (.slice bx (xs.filter q).length cx) (xs.filter q).length (aF .i64 (xs.filter q))::R):=by
 have:=qw xs hn hf lx
 have e:(fun x=> !p x)=q:=funext fun x=>by rw [hq,Bool.not_not]
 rw [e] at this;exact this
theorem zA{R:List HP}{bx bl:Option Addr}{cx cl n:Nat}(xs:List Int)(es:List (Int×Int))(room:Int)(hn:n≤es.length)(hx:Rd R bx (aF .i64 xs))(hl:Rd R bl (df es))(okx:bB bx xs.length)(okl:bB bl n)(lx:xs.length≤1000000):
 Ok Tryz.prog 94 [(.slice bx xs.length cx),(.slice bl n cl),(vI room)] R
  (dZ 3 1 (xs.filter (fE n es room)).length (aF .i64 (xs.filter (fE n es room))) R):=by
 refine aP (N:=13) Tryz.func94 rfl rfl rfl (fun W=>?_)
 refine av (fun _ hK1=>?_)
 refine tm rfl (cZ rfl rfl) ?_
 rintro _ _ ⟨b1,rfl,rfl⟩
 refine tm rfl (cZ rfl rfl) ?_
 rintro _ _ ⟨b2,rfl,rfl⟩
 refine aA rfl (td hK1 (av (fun _ hK2=>tp rfl (fU rfl) (aA rfl (td hK2 (ai (fun _ hK3=>?_)))))))
 refine aj (ag rfl ?_)
 refine bN Tryz.call72 rfl (ky xs (Rd.cons (Rd.cons hx)) okx (by first|omega| (simp;omega))) ?_
 rintro _ _ ⟨bs3,cp4,hok5,hle6,rfl,rfl⟩
 refine ag rfl ?_
 refine bN Tryz.call137 rfl (qO (q:=fE n es room) (fun _=>rfl) xs (by first|rfl|omega| (simp;done)| (simp;omega)) ⟨Tryz.call136,fun x _ ys _=>xZ x room es hn (Rd.cons (Rd.cons (Rd.cons hl))) okl (aa (.tail _ (.tail _ (.head _))) rfl) (aa (.tail _ (.head _)) rfl)⟩ (by omega)) ?_
 rintro _ _ ⟨rfl,rfl⟩
 refine aA rfl (td hK3 (ay (aE (ak (aE (ak ?_))))))
 refine aM rfl rfl ?_
 have hfl:=List.length_filter_le (fE n es room) xs
 exact ⟨_,_,(fun hz=>hok5 (by omega)),(by omega),rfl,rfl⟩
theorem Bt{R:List HP}{bx bl:Option Addr}{cx cl n nx:Nat}(xs:List Int)(es:List (Int×Int))(room:Int)(hxn:xs.length=nx)(hn:n≤es.length)(hx:Rd R bx (aF .i64 xs))(hl:Rd R bl (df es))(okx:bB bx nx)(okl:bB bl n)(lx:nx≤1000000):
 Ok Tryz.prog 94 [.slice bx nx cx,.slice bl n cl,.int .i64 room] R (dZ 3 1 (xs.filter (fE n es room)).length (aF .i64 (xs.filter (fE n es room))) R):=by subst hxn;exact zA xs es room hn hx hl okx okl lx
end Go.Proofs.YtanfdikglplkaaaGreatDoor
