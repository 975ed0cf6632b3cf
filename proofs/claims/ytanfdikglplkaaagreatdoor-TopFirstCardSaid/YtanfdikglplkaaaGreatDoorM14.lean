/- Parts Wan, Yrd, Ygr, Ctf, Yts, Fir, Rc1, Lmp, Evr: own lemmas and contracts of the code that the claim reaches. -/
import Derived.Test.YtanfdikglplkaaaGreatDoorM12
import Derived.Test.YtanfdikglplkaaaGreatDoorM13
import Derived.Test.YtanfdikglplkaaaGreatDoorM02
import Derived.Laws.ResultCell
import Derived.WideKeyMaps
import Derived.Lib.SmallJoins
set_option linter.unusedSimpArgs false
set_option linter.unusedVariables false
namespace Go.Proofs.YtanfdikglplkaaaGreatDoor.Sp
open Go
theorem A7{n m:Nat}{A Q:Int}{y:OS}(h:OvOk n m A Q y){es:Es}(hta:y.ta<y.ms.length∨y.ms=[])(hm:∀t,t<n→1≤(y.s.al.getD t (0,0)).2∧(y.s.al.getD t (0,0)).2≤1048576)
 {p:Int} {ts l:List Int} (hpt:dO (y.s.lf.map (·.st)) (iE n es (e6 y.s y.as.a)) n=(p,ts)) (hne:l≠[]) (hl:∀t∈l,t∈ts):∃ps qs,WantI n y.s y.as.a es y.ms y.ta l ps qs:=by
 have hB:=kv (y.s.lf.map (·.st)) (iE n es (e6 y.s y.as.a)) n
 obtain ⟨ps,qs,hpq⟩:∃ps qs,dC n n es y.s.al l y.as.a (dE y.s y.as.a) y.as.a.length=(ps,qs):=⟨_,_,rfl⟩
 rw [hpt] at hB
 dsimp only at hB
 have hmem:∀x∈l,∃t:Nat,x=(t:Int)∧t<n∧∃r∈y.as.a,cQ n es (y.s.rq.getD r.toNat Rq.z).root (t:Int)=true:=fun x hx=>by
  obtain ⟨t,e,ht,hmt,hpe⟩:=(hB.mem x).1 (hl x hx)
  refine ⟨t,e,ht,?_⟩
  apply Classical.byContradiction
  intro hno
  have:gQ n es (e6 y.s y.as.a) (t:Int)= -1:=tD _ fun r hr=>by
   rw [Bool.eq_false_iff];intro hre
   obtain ⟨r',hr',e'⟩:=List.mem_map.1 hr
   subst e'
   exact hno ⟨r',hr',hre⟩
  have h0:=hmt.2
  rw [mo ht,this] at h0
  omega
 have hwl:=kU n n es y.s.al l y.as.a (dE y.s y.as.a) y.as.a.length
 have hwa:=wF (n:=n) (N:=n) (E:=es) (es:=y.s.al) (ts:=l) (ids:=y.as.a) (rs:=dE y.s y.as.a) y.as.a.length
 rw [hpq] at hwl hwa
 dsimp only at hwl hwa
 obtain ⟨x,hx⟩:=List.exists_mem_of_ne_nil _ hne
 obtain ⟨t,e,ht,r,hr,hroot⟩:=hmem x hx
 have hta':y.ta<y.ms.length:=by
  rcases hta with h1|h1
  ·exact h1
  ·have h2:=h.me;rw [h1] at h2;rw [←h2] at hr;cases hr
 have hps:0<ps.length:=by
  obtain ⟨i,hi,e2⟩:=List.getElem_of_mem hr
  have:0< (dC n n es y.s.al l y.as.a (dE y.s y.as.a) y.as.a.length).1.length:=by
   refine x6 hi ?_
   refine zR hx ?_
   rw [show (dE y.s y.as.a).getD i 0=(y.s.rq.getD r.toNat Rq.z).root from by unfold dE;simp [List.getD,hi,e2],e,hroot]
   unfold oS;simp;omega
  rw [hpq] at this;exact this
 have hcost:∀j,j<ps.length→1≤(ps.getD j (0,0)).2∧(ps.getD j (0,0)).2≤1048576:=fun j hj=>by
  obtain ⟨_,i,hi,e1,e2,e3⟩:=hwa j hj
  obtain ⟨t,e,ht,_⟩:=hmem _ e2
  rw [e3,e,Int.toNat_natCast];exact hm t ht
 refine ⟨ps,qs,hpq,hwl.1,hwl.2,?_,fun q tm tb hT=>?_⟩
 ·obtain ⟨_,i,hi,e1,_⟩:=hwa 0 hps
  have hin:(ps.getD 0 (0,0)).1∈y.ms.map (·.id):=by rw [h.me,e1];exact nN hi
  obtain ⟨mm,hmm,e⟩:=List.mem_map.1 hin
  obtain ⟨j,hj,e2⟩:=List.getElem_of_mem hmm
  refine anyPos_iff.2 ⟨j,by rw [g8];exact hj,?_⟩
  rw [eW hj,show y.ms.getD j M3.z=mm from by simp [List.getD,hj,e2],e]
  exact sU hps hcost
 ·obtain ⟨h6,h7,h8⟩:=y0 hta' hT
  refine ⟨h6,h7,?_⟩
  have hl2:tm.length=y.ms.length:=by have:=congrArg List.length h6;rwa [List.length_map,List.length_map] at this
  have hid:(tm.getD tb M3.z).id=(y.ms.getD tb M3.z).id:=by
   have:=congrArg (fun l:List Int=>l.getD tb 0) h6
   simpa [List.getD,h7,show tb<y.ms.length by omega] using this
  rw [eW (by omega),←hid] at h8
  obtain ⟨k0,hk0,e0⟩:=w3 h8
  obtain ⟨k,h9,h10,h11⟩:=Ak (p:=fun k=>decide ((ps.getD k (0,0)).1=(tm.getD tb M3.z).id)) hk0 (decide_eq_true e0)
  obtain ⟨_,i,hi,e1,e2,e3⟩:=hwa k h10
  obtain ⟨t,e,ht,_⟩:=hmem _ e2
  exact ⟨k,t,h10,h9,e,ht,by rw [←e];exact e2⟩
theorem Wk.unsnoc{es:Es}:∀{k:Nat} {a c:Int},Wk es (k+1) a c→∃b,Wk es k a b∧(b,c)∈es
 |0,a,c,h=>by obtain ⟨b,h1,h2⟩:=h.succ;have:=h2.zero;subst this;exact ⟨a,.nil,h1⟩
 |k+1,a,c,h=>by
  obtain ⟨b,h1,h2⟩:=h.succ
  obtain ⟨d,h3,h4⟩:=Wk.unsnoc h2
  exact ⟨d,.cons h1 h3,h4⟩
structure PrI(n:Nat)(es:Es)(rs:List R3)(k:Nat)(o:List Int):Prop where
 len:o.length=n
 ub:∀x,x<n→o.getD x 0≤gQ n es rs (x:Int)
 lb:∀x,x<n→∀r∈rs,(0≤r.x∧r.x<n)→∀j,j≤k→Wk es j r.x (x:Int)→r.z≤o.getD x 0
 l1:∀x,x<n→ -1≤o.getD x 0
structure PrM(n:Nat)(es:Es)(rs:List R3)(k t i:Nat)(o:List Int):Prop where
 io:PrI n es rs k o
 up:∀u:Nat,u<t→∀v:Nat,v<n→((u:Int),(v:Int))∈es→∀r∈rs,(0≤r.x∧r.x<n)→∀j,j≤k→Wk es j r.x (u:Int)→r.z≤o.getD v 0
 at_:∀j,j<i→∀r∈rs,(0≤r.x∧r.x<n)→∀h,h≤k→Wk es h r.x (t:Int)→r.z≤o.getD ((cP es (t:Int)).getD j 0).toNat 0
section
variable{n k t i:Nat}{es:Es}{rs:List R3}{o:List Int}
theorem PrI.begin(h:PrI n es rs k o):PrM n es rs k 0 0 o:=⟨h,fun u hu=>by omega,fun j hj=>by omega⟩
theorem outs_mem{a b:Int}:b∈cP es a↔(a,b)∈es:=by
 unfold cP;rw [List.mem_map]
 constructor
 ·rintro ⟨⟨p,q⟩,h,rfl⟩;rw [List.mem_filter] at h;have:=h.2;simp at this;subst this;exact h.1
 ·intro h;exact ⟨(a,b),List.mem_filter.2 ⟨h,by simp⟩,rfl⟩
theorem PrM.next(hg:GOk n es)(h:PrM n es rs k t i o)(hi:i=(cP es (t:Int)).length):PrM n es rs k (t+1) 0 o:=by
 refine ⟨h.io,fun u hu v hv he r hr hx j hj hw=>?_,fun j hj=>by omega⟩
 by_cases e:u=t
 ·subst e
  obtain ⟨q,hq,e2⟩:=List.getElem_of_mem (outs_mem.2 he)
  have:=h.at_ q (by omega) r hr hx j hj hw
  rwa [show (cP es (u:Int)).getD q 0=(v:Int) from by simp [List.getD,hq,e2],Int.toNat_natCast] at this
 ·exact h.up u (by omega) v hv he r hr hx j hj hw
theorem kK{d:Nat}{z:Int}(hd:d<o.length)(x:Nat):(o.set d (max (o.getD d 0) z)).getD x 0=if d=x then max (o.getD x 0) z else o.getD x 0:=by
 by_cases e:d=x
 ·subst e;rw [if_pos rfl];simp [List.getD,hd]
 ·rw [if_neg e];simp only [List.getD];rw [List.getElem?_set_ne e]
theorem PrM.step(hg:GOk n es)(h:PrM n es rs k t i o)(ht:t<n){d:Nat}(hd:d<n)(he:(cP es (t:Int)).getD i 0=(d:Int))(hi:i< (cP es (t:Int)).length):PrM n es rs k t (i+1) (o.set d (max (o.getD d 0) (o.getD t 0))):=by
 have hl:d<o.length:=by rw [h.io.len];exact hd
 have hge:∀x,o.getD x 0≤(o.set d (max (o.getD d 0) (o.getD t 0))).getD x 0:=fun x=>by rw [kK hl];split <;>omega
 have hed:((t:Int),(d:Int))∈es:=by rw [←he];exact outs_mem.1 (nN hi)
 refine ⟨⟨by rw [List.length_set];exact h.io.len,fun x hx=>?_,fun x hx r hr hb j hj hw=>Int.le_trans (h.io.lb x hx r hr hb j hj hw) (hge x),fun x hx=>Int.le_trans (h.io.l1 x hx) (hge x)⟩,
  fun u hu v hv h1 r hr hb j hj hw=>Int.le_trans (h.up u hu v hv h1 r hr hb j hj hw) (hge v),fun j hj r hr hb q hq hw=>?_⟩
 ·rw [kK hl];split
  ·rename_i e;subst e
   have h1:=h.io.ub d hd
   have h2:=h.io.ub t ht
   have h3:gQ n es rs (t:Int)≤gQ n es rs (d:Int):=tP fun a ha=>by
    have:=wG hg hi ha;rwa [he] at this
   omega
  ·exact h.io.ub x hx
 ·by_cases e:j=i
  ·subst e
   rw [he,Int.toNat_natCast,kK hl,if_pos rfl]
   have:=h.io.lb t ht r hr hb q hq hw
   omega
  ·exact Int.le_trans (h.at_ j (by omega) r hr hb q hq hw) (hge _)
theorem PrM.stop(h:PrM n es rs k n 0 o)(hg:GOk n es):PrI n es rs (k+1) o:=by
 refine ⟨h.io.len,h.io.ub,fun x hx r hr hb j hj hw=>?_,h.io.l1⟩
 rcases Nat.lt_or_ge k j with e|e
 ·obtain rfl:j=k+1:=by omega
  obtain ⟨b,h1,h2⟩:=hw.unsnoc
  have h3:=hg.inn _ h2
  have h4:(b.toNat:Int)=b:=by have:=h3.1;omega
  rw [←h4] at h1 h2
  exact h.up b.toNat (by have:=h3.1;omega) x hx h2 r hr hb k (Nat.le_refl _) h1
 ·exact h.io.lb x hx r hr hb j e hw
theorem PrI.all(h:PrI n es rs n o)(hg:GOk n es):o=iE n es rs:=by
 refine List.ext_getElem (by rw [h.len,iB]) fun x h1 h2=>?_
 have hx:x<n:=by rw [←h.len];exact h1
 have e1:o.getD x 0=o[x]:=by simp [List.getD,h1]
 have e2:(iE n es rs).getD x 0=(iE n es rs)[x]:=by simp [List.getD,h2]
 rw [←e1,←e2,mo hx]
 refine Int.le_antisymm (h.ub x hx) ?_
 have key:∀(qs:List R3),(∀r∈qs,r∈rs)→∀m:Int,m≤o.getD x 0→qs.foldl (fun m r=>if cQ n es r.x (x:Int)=true then max m r.z else m) m≤o.getD x 0:=by
  intro qs
  induction qs with
  |nil=>intro _ m hm;exact hm
  |cons r qs ih=>
   intro hq m hm
   rw [List.foldl_cons]
   refine ih (fun r hr=>hq r (.tail _ hr)) _ ?_
   split
   ·rename_i hre
    have hv:(0≤r.x∧r.x<n)∧rch es r.x (x:Int)=true:=by
     unfold cQ at hre;rw [Bool.and_eq_true,Bool.and_eq_true,valid_iff,valid_iff] at hre;exact ⟨hre.1.1,hre.2⟩
    have hf:0≤eb es (x:Int) r.x:=farF_rch.2 (rch_iff.1 hv.2)
    have hlt:=q6 (to:=(x:Int)) hg hv.1 ⟨by omega,by omega⟩
    rcases gw es (x:Int) r.x with ⟨h3,_⟩| ⟨d,h3,h4,_⟩
    ·omega
    ·have:=h.lb x hx r (hq r (.head _)) hv.1 d (by omega) h4
     omega
   ·exact hm
 exact key rs (fun r hr=>hr) _ (h.l1 x hx)
structure PrS(n:Nat)(es:Es)(rs:List R3)(k:Nat)(o:List Int):Prop where
 len:o.length=n
 ub:∀x,x<n→o.getD x 0≤gQ n es rs (x:Int)
 at_:∀j,j<k→(0≤(rs.getD j R3.d).x∧(rs.getD j R3.d).x<n)→(rs.getD j R3.d).z≤o.getD (rs.getD j R3.d).x.toNat 0
 l1:∀x,x<n→ -1≤o.getD x 0
theorem PrS.start(n:Nat)(es:Es)(rs:List R3):PrS n es rs 0 (List.replicate n (-1)):=by
 have e:∀x,x<n→(List.replicate n (-1:Int)).getD x 0= -1:=fun x hx=>by simp [List.getD,hx]
 exact ⟨List.length_replicate,fun x hx=>by rw [e x hx];exact vh,fun j hj=>by omega,fun x hx=>by rw [e x hx];omega⟩
theorem PrS.step(h:PrS n es rs k o){d:Nat}(hd:d<n)(hk:k<rs.length)(he:(rs.getD k R3.d).x=(d:Int)):PrS n es rs (k+1) (o.set d (max (o.getD d 0) (rs.getD k R3.d).z)):=by
 have hl:d<o.length:=by rw [h.len];exact hd
 have hge:∀x,o.getD x 0≤(o.set d (max (o.getD d 0) (rs.getD k R3.d).z)).getD x 0:=fun x=>by rw [kK hl];split <;>omega
 refine ⟨by rw [List.length_set];exact h.len,fun x hx=>?_,fun j hj hb=>?_,fun x hx=>Int.le_trans (h.l1 x hx) (hge x)⟩
 ·rw [kK hl];split
  ·rename_i e;subst e
   have h1:=h.ub d hd
   have h2:(rs.getD k R3.d).z≤gQ n es rs (d:Int):=rL (vb hk) (by rw [he];exact oQ ⟨by omega,by omega⟩)
   omega
  ·exact h.ub x hx
 ·by_cases e:j=k
  ·subst e
   rw [he,Int.toNat_natCast,kK hl,if_pos rfl];omega
  ·exact Int.le_trans (h.at_ j (by omega) hb) (hge _)
theorem PrS.stop(h:PrS n es rs rs.length o):PrI n es rs 0 o:=by
 refine ⟨h.len,h.ub,fun x hx r hr hb j hj hw=>?_,h.l1⟩
 obtain rfl:j=0:=by omega
 have e:=hw.zero
 obtain ⟨i,hi,e2⟩:=List.getElem_of_mem hr
 have e3:rs.getD i R3.d=r:=by simp [List.getD,hi,e2]
 have:=h.at_ i hi (by rw [e3];exact hb)
 rwa [e3,e,Int.toNat_natCast] at this
end
end Go.Proofs.YtanfdikglplkaaaGreatDoor.Sp
namespace Go.Proofs.YtanfdikglplkaaaGreatDoor.Sp
open Go
def lG(c:Cfg):Led:=⟨max c.bud 0,(min (max c.slots 0) 16).toNat,List.replicate 16 Pl.z,0⟩
theorem xN(i:Nat):(List.replicate 16 Pl.z).getD i Pl.z=Pl.z:=by
 rw [List.getD_eq_getElem?_getD,List.getElem?_replicate];split <;>rfl
theorem mf(c:Cfg)(i:Nat):(lG c).ps.getD i Pl.z=Pl.z:=xN i
section
variable{c:Cfg}{t:Nat}{mem:Int}(hs:1≤c.slots∧c.slots≤16)(hb:0≤mem∧mem≤c.bud)
include hs in
theorem oe:0< (lG c).many∧(lG c).many≤16:=by show 0< (min (max c.slots 0) 16).toNat∧(min (max c.slots 0) 16).toNat≤16;omega
theorem yS(id:Int):(lG c).slot id= -1:=by
 unfold Led.slot
 refine iL fun j hj=>?_
 rw [mf];rfl
include hs in
theorem om:(lG c).free=0:=by
 have h:=oe hs
 unfold Led.free
 rw [kP (k:=0) h.1 (by rw [mf];rfl) (fun j hj=>by omega)];rfl
include hs in
theorem Ae:0< (lG c).cnt (lG c).many:=by
 have h:=oe hs
 have key:∀k,(lG c).cnt k=k:=by
  intro k
  induction k with
  |zero=>rfl
  |succ k ih=>
   show _=k+1
   unfold Led.cnt
   rw [ih,mf];rfl
 rw [key];exact h.1
include hs hb in
theorem mO:(lG c).takeE (t:Int) mem=0:=by
 unfold Led.takeE
 have h1:=yS (c:=c) (t:Int)
 have h2:=om hs
 have h3:(lG c).bud=max c.bud 0:=rfl
 have h4:(lG c).used=0:=rfl
 rw [if_neg (by omega),if_neg (by omega),if_neg (by omega),if_neg (by omega)]
include hs hb in
theorem wR:(lG c).takeV (t:Int) mem=0:=by unfold Led.takeV;rw [if_pos (mO hs hb)];exact om hs
include hs hb in
theorem yA:(lG c).take (t:Int) mem=(lG c).put 0 ⟨true,t,mem⟩ mem:=by
 unfold Led.take;rw [if_pos (mO hs hb),om hs]
 show (lG c).put 0 ⟨true,t,mem⟩ (0+mem)=_
 rw [Int.zero_add]
theorem uL(x:Pl)(u:Int)(j:Nat):((lG c).put 0 x u).ps.getD j Pl.z=if j=0 then x else Pl.z:=by
 show ((List.replicate 16 Pl.z).set 0 x).getD j Pl.z=_
 rw [qo (by simp),xN]
include hs in
theorem BA:((lG c).put 0 ⟨true,t,mem⟩ mem).atB 0=true∧((lG c).put 0 ⟨true,t,mem⟩ mem).atI 0=(t:Int):=by
 have h:=oe hs
 have hm:((lG c).put 0 ⟨true,t,mem⟩ mem).many=(lG c).many:=rfl
 constructor
 ·unfold Led.atB;rw [hm,decide_eq_true (show (0:Int)≤0∧(0:Int)< ((lG c).many:Int) by omega),Bool.true_and,show (0:Int).toNat=0 from rfl,uL];rfl
 ·unfold Led.atI;rw [hm,if_pos (show (0:Int)≤0∧(0:Int)< ((lG c).many:Int) by omega),show (0:Int).toNat=0 from rfl,uL];rfl
end
structure Sml(c:Cfg)(al:List (Int×Int)):Prop where
 cf:CfgOk c
 n0:1≤al.length
 n:al.length≤8
 ts:∀i,i<al.length→(1≤(al.getD i (0,0)).1∧(al.getD i (0,0)).1≤c.bud)∧1≤(al.getD i (0,0)).2∧(al.getD i (0,0)).2≤1048576
 a4:c.act≤400
 q4:c.que≤400
structure YT where
 x:EP
 y:OS
 ld:Led
 ks:Ks
 hp:Nat
 n:Nat
 q:Int
 A:Int
 Q:Int
section
variable{c:Cfg}{al:List (Int×Int)}{m i:Nat}{W:Nat→Prop}{T:YT}
end
end Go.Proofs.YtanfdikglplkaaaGreatDoor.Sp
namespace Go.Proofs.YtanfdikglplkaaaGreatDoor.Sp
open Go
structure YG where
 x:EP
 y:OS
 ld:Led
 ks:Ks
 hp:Nat
 n:Nat
 q:Int
 A:Int
 Q:Int
 es:Es
def nT(e:Nat)(T:YG):List HP:=[bQ e T.x T.y.s,dz T.x.ld T.ld,bI T.x.tp [.pointer (some ⟨T.hp,0,none⟩)] 132,cL T.hp T.n T.ks,aT T.x.g T.x.n T.es,bF T.x.tn T.q T.y.ms T.y.ta,dv T.x.ad T.A T.Q T.y.as]
def cO(e:Nat)(T:YG):HP:=cI (nT e T)
structure YV where
 T:YG
 a:Int
 b:Int
 c:Int
 d:Int
 e:Int
 f:Int
def YV.v(i:YV):Value:=.tuple #[.agg #[.int .i64 i.a,.int .i64 i.b,.int .i64 i.c,.int .i64 i.d,.int .i64 i.e],.int .i64 i.f]
structure GR(c:Cfg)(al:List (Int×Int))(i:Nat)(T:YG):Prop where
 ov:OvOk T.x.n T.x.m T.A T.Q T.y
 xn:T.x.n=al.length
 nn:T.n≤T.x.n
 a4:T.A≤400
 q4:T.Q≤400
 hz:HzL T.ld
 hid:HidL T.x.n T.ld
 ec:T.y.s.c=c
 ea:T.y.s.al=al
 bg:0≤T.y.s.bg∧T.y.s.bg≤i
 lg:T.y.s.lg.length≤9*i
 ep:∀t,t<al.length→(T.y.s.lf.getD t Lf.z).ep≤i
noncomputable def mR(T:YG):List Int:=iE T.x.n T.es (e6 T.y.s T.y.as.a)
def vU(T:YG)(j:YV):Prop:=∃(p:Int) (tl:List Int) (a:SL) (tm:List M3) (tb:Nat),dO (T.y.s.lf.map (·.st)) (mR T) T.x.n=(p,tl)∧
 Cl ⟨T.y.s,T.ld,T.ks⟩ (mR T) tl T.x.n p T.y.ms T.y.ta (tl.filter (fE T.x.n T.y.s.al (T.ld.bud-T.ld.used))) j.f j.d j.e j.a j.c a tm tb∧j.T={T with y:=⟨a.s,tm,tb,T.y.as⟩,ld:=a.ld,ks:=a.ks}
def Ai(T:YG)(oa ob oc:Int)(j:YV):Prop:=∃(z:OS) (es':Es) (ld':Led) (ks':Ks),Cf T.x.n T.x.m T.A T.Q T.es T.y T.ld oa ob oc j.f z es' ld'∧j.T={T with y:=z,es:=es',ld:=ld',ks:=ks'}
def Cp(T:YG)(j:YV):Prop:=∃z,KpO T.x.n T.x.m T.A T.Q T.y z∧j.T={T with y:=z}
def B0(T:YG)(j:YV):Prop:=∃(z:OS) (ld':Led) (ks':Ks),(OvOk T.x.n T.x.m T.A T.Q z∧Kq T.x.n T.y.s z.s∧HzL ld'∧HidL T.x.n ld')∧j.T={T with y:=z,ld:=ld',ks:=ks'}
def zj(T:YG)(root:Nat)(ow op:Int)(j:YV):Prop:=(j.f=kW T.A T.Q T.y∧kW T.A T.Q T.y≠0∧j.T=T)∨
 (j.f=0∧kW T.A T.Q T.y=0∧∃b c p z,SubZ T.A T.Q T.y ⟨(root:Int),ow,op,eg T.A T.Q T.y.as (T.x.m:Int)⟩ z∧j.T={T with x:=T.x.addRq b c p,y:=z})
section
variable{c:Cfg}{al:List (Int×Int)}{i:Nat}{T:YG}
theorem GR.mono(h:GR c al i T):GR c al (i+1) T:=
 ⟨h.ov,h.xn,h.nn,h.a4,h.q4,h.hz,h.hid,h.ec,h.ea,by have:=h.bg;omega,by have:=h.lg;omega,fun t ht=>by have:=h.ep t ht;omega⟩
theorem GR.kq(h:GR c al i T){z:OS}{es':Es}{ld':Led}{ks':Ks}{k:Nat}(hv:OvOk T.x.n T.x.m T.A T.Q z)(hk:Kq k T.y.s z.s)(h9:k≤9)(hz:HzL ld')(hi:HidL T.x.n ld'):GR c al (i+1) {T with y:=z,es:=es',ld:=ld',ks:=ks'}:=
 ⟨hv,h.xn,h.nn,h.a4,h.q4,hz,hi,hk.c.trans h.ec,hk.al.trans h.ea,by show 0≤z.s.bg∧z.s.bg≤_;rw [hk.bg];have:=h.bg;omega,by show z.s.lg.length≤_;have:=hk.lg;have:=h.lg;omega,fun t ht=>by show (z.s.lf.getD t Lf.z).ep≤_;rw [hk.ep];have:=h.ep t ht;omega⟩
theorem GR.can(h:GR c al i T){j:YV}(hj:Cp T j):GR c al (i+1) j.T:=by
 obtain ⟨z,hk,e⟩:=hj
 rw [e];exact h.kq (es':=T.es) (ks':=T.ks) hk.1 hk.2.q (by omega) h.hz h.hid
theorem GR.tic(h:GR c al i T)(h8:al.length≤8){j:YV}(hj:B0 T j):GR c al (i+1) j.T:=by
 obtain ⟨z,ld',ks',hk,e⟩:=hj
 rw [e];exact h.kq (es':=T.es) hk.1 hk.2.1 (by rw [h.xn];omega) hk.2.2.1 hk.2.2.2
theorem GR.ans(h:GR c al i T){oa ob oc:Int}{j:YV}(hj:Ai T oa ob oc j):GR c al (i+1) j.T:=by
 obtain ⟨z,es',ld',ks',hk,e⟩:=hj
 rw [e]
 rcases hk with ⟨_,e1,e2,e3,_⟩| ⟨_,t,ev,h1,e3,hk,_⟩
 ·subst e1 e2 e3;exact h.kq h.ov (Kp.refl _).q (by omega) h.hz h.hid
 ·subst e3;exact h.kq hk.1 ((Kq.lg1 _ ev).trans hk.2.q) (by omega) (h.hz.drop _) (h.hid.drop _)
theorem SubZ.ok{n m:Nat}{A Q:Int}{y z:OS}{r:Rq}(h:OvOk n m A Q y)(hr:0≤r.root∧r.root<n∧1≤r.wt∧r.wt≤100∧0≤r.pr∧r.pr≤7)(he:kW A Q y=0)(hz:SubZ A Q y r z):OvOk n (m+1) A Q z∧Kp y.s z.s:=by
 have he':eE A Q y.as (y.s.rq.length:Int)=0:=by
  unfold kW at he;split at he
  ·cases he
  ·exact he
 rcases hz with ⟨h1,h2,_⟩| ⟨h1,rfl⟩
 ·have h3:Kp y.s ((y.added A Q r).come y.s.rq.length).s:=Kp.trans (b:=y.s.addRq r) ⟨rfl,rfl,rfl,rfl,rfl,rfl,fun _=>rfl,fun _=>rfl⟩ (Kp.beg _ _)
  exact ⟨h2.ok (h.addedA hr he' h1),h3.trans (Kp.ov h2)⟩
 ·exact ⟨h.addedQ hr he' h1,⟨rfl,rfl,rfl,rfl,rfl,rfl,fun _=>rfl,fun _=>rfl⟩⟩
theorem GR.sub(h:GR c al i T){root:Nat}{ow op:Int}(hr:root<al.length∧1≤ow∧ow≤100∧0≤op∧op≤7){j:YV}(hj:zj T root ow op j):GR c al (i+1) j.T:=by
 rcases hj with ⟨_,_,e⟩| ⟨_,h0,b,c',p,z,hz,e⟩
 ·rw [e];exact h.mono
 ·rw [e]
  have hx:=h.xn
  obtain ⟨h1,hk⟩:=SubZ.ok h.ov (r:=⟨(root:Int),ow,op,eg T.A T.Q T.y.as (T.x.m:Int)⟩) ⟨by dsimp only;omega,by dsimp only;omega,hr.2⟩ h0 hz
  exact ⟨h1,h.xn,h.nn,h.a4,h.q4,h.hz,h.hid,hk.c.trans h.ec,hk.al.trans h.ea,by show 0≤z.s.bg∧z.s.bg≤_;rw [hk.bg];have:=h.bg;omega,by show z.s.lg.length≤_;rw [hk.lg];have:=h.lg;omega,fun t ht=>by show (z.s.lf.getD t Lf.z).ep≤_;rw [hk.ep];have:=h.ep t ht;omega⟩
theorem uD{st pr:List Int}{n:Nat}{p:Int}{tl:List Int}(h:dO st pr n=(p,tl)):∀t∈tl,0≤t∧t<n:=fun t ht=>by
 have hB:=kv st pr n
 rw [h] at hB
 obtain ⟨k,e,hk,_⟩:=(hB.mem t).1 ht
 omega
theorem GR.want(h:GR c al i T)(hS:Sml c al)(hta:T.y.ta<T.y.ms.length∨T.y.ms=[]){p:Int}{tl:List Int}(hb:dO (T.y.s.lf.map (·.st)) (mR T) T.x.n=(p,tl)):∀l:List Int,l≠[]→(∀t∈l,t∈tl)→∃ps qs,WantI T.x.n T.y.s T.y.as.a T.es T.y.ms T.y.ta l ps qs:=
 fun l hne hl=>A7 h.ov hta (fun t ht=>by rw [h.ea];exact (hS.ts t (by rw [←h.xn];exact ht)).2) hb hne hl
theorem GR.dsp(h:GR c al i T)(h8:al.length≤8){j:YV}(hj:vU T j):GR c al (i+1) j.T:=by
 obtain ⟨p,tl,a,tm,tb,hb,hd,e⟩:=hj
 have hx:=h.xn
 have same:a=⟨T.y.s,T.ld,T.ks⟩→tm=T.y.ms→tb=T.y.ta→GR c al (i+1) j.T:=fun e1 e2 e3=>by subst e1 e2 e3;rw [e];exact h.mono
 rcases hd with ⟨_,_,e1,e2,e3⟩| ⟨_,_,_,e1,e2,e3⟩| ⟨_,l,vs,t,r,hf,_,htl,htn,hid,hs⟩
 ·exact same e1 e2 e3
 ·exact same e1 e2 e3
 ·obtain ⟨k1,k2,k3,k4,k5,k6,k7⟩:=lD ⟨T.y.s,T.ld,T.ks⟩ vs
  have k8:(stopN ⟨T.y.s,T.ld,T.ks⟩ vs).s.lg.length=T.y.s.lg.length+vs.length:=oO _
  have k9:=fun t=>rS ⟨T.y.s,T.ld,T.ks⟩ t vs
  have hvl:vs.length≤T.x.n:=by
   rcases hf with ⟨h4,_⟩| ⟨_,_,_,_,h5,_⟩
   ·cases h4
   ·exact h5
  have hzs:=HzL.stopN (a:=⟨T.y.s,T.ld,T.ks⟩) h.hz vs
  have his:=HidL.stopN (a:=⟨T.y.s,T.ld,T.ks⟩) h.hid vs
  have b:=h.bg;have l9:=h.lg
  dsimp only at k1 k2 k3 k4 k5 k6 k7 k9
  have hme:∀s':ES,s'.rq=T.y.s.rq→OvOk T.x.n T.x.m T.A T.Q ⟨s',tm,tb,T.y.as⟩:=fun s' hr=>by
   have:=h.ov.fol (s':=s') hr
   exact ⟨this.rq,this.lm,this.ids,this.ao,hid.trans h.ov.me⟩
  rcases hs with ⟨_,_,_,e1⟩| ⟨_,_,_,_,_,_,e1⟩
  ·subst e1;rw [e]
   exact ⟨hme _ k2,h.xn,h.nn,h.a4,h.q4,hzs,his,k4.trans h.ec,k1.trans h.ea,by show 0≤(stopN _ vs).s.bg∧(stopN _ vs).s.bg≤_;rw [k6];omega,by show (stopN _ vs).s.lg.length≤_;rw [k8];omega,fun u hu=>by show ((stopN _ vs).s.lf.getD u Lf.z).ep≤_;rw [k9];have:=h.ep u hu;omega⟩
  ·subst e1;rw [e]
   refine ⟨hme _ k2,h.xn,h.nn,h.a4,h.q4,hzs.take _ _,his.take htn _,k4.trans h.ec,k1.trans h.ea,by show 0≤(stopN _ vs).s.bg+1∧(stopN _ vs).s.bg+1≤_;rw [k6];omega,by show ((stopN _ vs).s.lg++[_]).length≤_;rw [List.length_append,k8];show _+1≤_;omega,fun u hu=>?_⟩
   show (((stopN ⟨T.y.s,T.ld,T.ks⟩ vs).s.lf.set t (fP ((stopN ⟨T.y.s,T.ld,T.ks⟩ vs).s.lf.getD t Lf.z))).getD u Lf.z).ep≤_
   have h5:=h.ep u hu
   have h6:=k9 u
   by_cases ht:t< (stopN ⟨T.y.s,T.ld,T.ks⟩ vs).s.lf.length
   ·rw [pc ht];split
    ·rename_i e2;subst e2
     unfold fP;split
     ·show _+1≤_;omega
     ·omega
    ·omega
   ·rw [List.set_eq_of_length_le (by omega)];omega
end
end Go.Proofs.YtanfdikglplkaaaGreatDoor.Sp
namespace Go.Proofs.YtanfdikglplkaaaGreatDoor.Sp
open Go
def bD(n l m:Int):Int:=l+n%1048576% (m-l+1)
theorem fw(n:Int){l m:Int}(h:l≤m):l≤bD n l m∧bD n l m≤m:=by
 unfold bD
 have h1:=Int.emod_nonneg (n%1048576) (show m-l+1≠0 by omega)
 have h2:=Int.emod_lt_of_pos (n%1048576) (show 0<m-l+1 by omega)
 omega
def sK(c:Cfg):Cfg:=⟨bD c.bud 12 40,bD c.slots 1 4,bD c.act 1 5,bD c.que 0 4,bD c.tries 1 3,bD c.pre 0 2,bD c.tmo 1 4,bD c.bak 1 3,bD c.most 1 6,bD c.qu 1 30⟩
def wb(c:Cfg):Cfg:={sK c with bud:=1000,act:=16}
def pq(c:Cfg)(wide:Bool):Cfg:=bif wide then wb c else sK c
abbrev rU:Cfg:=⟨0,0,0,0,0,0,0,0,0,0⟩
def kr(p:Int×Int):Int×Int:=(bD p.1 1 12,bD p.2 1 30)
def eS(al:List (Int×Int)):List (Int×Int):=if al.length=0 then [(1,1)] else (al.map kr).take 8
theorem uH(c:Cfg):CfgOk (sK c):=by
 have h1:=fw c.bud (show (12:Int)≤40 by decide);have h2:=fw c.slots (show (1:Int)≤4 by decide);have h3:=fw c.act (show (1:Int)≤5 by decide);have h4:=fw c.que (show (0:Int)≤4 by decide);have h5:=fw c.tries (show (1:Int)≤3 by decide)
 have h6:=fw c.pre (show (0:Int)≤2 by decide);have h7:=fw c.tmo (show (1:Int)≤4 by decide);have h8:=fw c.bak (show (1:Int)≤3 by decide);have h9:=fw c.most (show (1:Int)≤6 by decide);have h10:=fw c.qu (show (1:Int)≤30 by decide)
 unfold sK
 constructor <;>dsimp only <;>omega
theorem AB(c:Cfg):CfgOk (wb c):=by
 have h:=uH c
 exact ⟨by show (1:Int)≤1000∧(1000:Int)≤1048576;decide,by show (1:Int)≤16∧(16:Int)≤1048576;decide,h.tries,h.tmo,h.bak,h.most,h.qu,h.que,h.pre,h.slots⟩
theorem iW(al:List (Int×Int)):1≤(eS al).length∧(eS al).length≤8:=by
 unfold eS;split
 ·exact ⟨Nat.le_refl _,by decide⟩
 ·rw [List.length_take,List.length_map];omega
theorem oX(al:List (Int×Int)){i:Nat}(h:i< (eS al).length):(1≤((eS al).getD i (0,0)).1∧((eS al).getD i (0,0)).1≤12)∧1≤((eS al).getD i (0,0)).2∧((eS al).getD i (0,0)).2≤30:=by
 unfold eS at h⊢
 split at h
 ·rename_i h0
  rw [if_pos h0]
  have:i=0:=by simp at h;exact h
  subst this;decide
 ·rename_i h0
  rw [if_neg h0]
  rw [List.length_take,List.length_map] at h
  rw [show ((al.map kr).take 8).getD i (0,0)=kr (al.getD i (0,0)) from by simp only [List.getD];rw [List.getElem?_take_of_lt (by omega),List.getElem?_map,List.getElem?_eq_getElem (by omega)];rfl]
  have h1:=fw (al.getD i (0,0)).1 (show (1:Int)≤12 by decide);have h2:=fw (al.getD i (0,0)).2 (show (1:Int)≤30 by decide)
  exact ⟨h1,h2⟩
theorem xO(c:Cfg)(al:List (Int×Int)):Sml (sK c) (eS al):=by
 have h1:=fw c.bud (show (12:Int)≤40 by decide);have h3:=fw c.act (show (1:Int)≤5 by decide);have h4:=fw c.que (show (0:Int)≤4 by decide)
 refine ⟨uH c,(iW al).1,(iW al).2,fun i hi=>?_,by show bD c.act 1 5≤400;omega,by show bD c.que 0 4≤400;omega⟩
 have:=oX al hi
 have e:(sK c).bud=bD c.bud 12 40:=rfl
 omega
theorem rY(c:Cfg)(al:List (Int×Int)):Sml (wb c) (eS al):=by
 have h4:=fw c.que (show (0:Int)≤4 by decide)
 refine ⟨AB c,(iW al).1,(iW al).2,fun i hi=>?_,by show (16:Int)≤400;decide,by show bD c.que 0 4≤400;omega⟩
 have:=oX al hi
 have e:(wb c).bud=1000:=rfl
 omega
theorem vD{al:List (Int×Int)}{k:Nat}(h:k<al.length):(al.map kr).take k++[(bD (al.getD k (0,0)).1 1 12,bD (al.getD k (0,0)).2 1 30)]=(al.map kr).take (k+1):=by
 rw [List.take_add_one,List.getElem?_map];simp [List.getD,h,kr]
theorem vJ{l:List (Int×Int)}{k:Nat}(h:k=8∨(k=l.length∧k≤8)):l.take k=l.take 8:=by
 rcases h with h| ⟨h,h'⟩
 ·rw [h]
 ·rw [List.take_of_length_le (by omega),List.take_of_length_le (by omega)]
section
variable{c:Cfg}{al:List (Int×Int)}{m i:Nat}{W:Nat→Prop}{T:YT}
end
end Go.Proofs.YtanfdikglplkaaaGreatDoor.Sp
namespace Go.Proofs.YtanfdikglplkaaaGreatDoor.Sp
open Go
structure NewG(c:Cfg)(al:List (Int×Int))(T:YG):Prop where
 y:T.y=⟨wH c al,[],0,⟨[],[]⟩⟩
 ld:T.ld=lG c
 es:T.es=[]
 n:T.x.n=al.length
 m:T.x.m=0
 A:T.A=max c.act 1
 Q:T.Q=max c.que 0
 nn:T.n≤T.x.n
theorem NewG.gr{c:Cfg}{al:List (Int×Int)}{T:YG}(hS:Sml c al)(h:NewG c al T):GR c al 0 T:=by
 have h4:=hS.a4;have h5:=hS.q4
 refine ⟨?_,h.n,h.nn,by rw [h.A];omega,by rw [h.Q];omega,?_,?_,by rw [h.y];rfl,by rw [h.y];rfl,by rw [h.y];exact ⟨Int.le_refl _,Int.le_refl _⟩,by rw [h.y];exact Nat.le_refl _,fun t ht=>?_⟩
 ·rw [h.y,h.A,h.Q,h.m];exact ⟨fun r hr=>absurd hr (Nat.not_lt_zero _),rfl,fun i hi=>(by cases hi),AOk.new _ _,rfl⟩
 ·rw [h.ld];intro i _;rw [mf]
 ·rw [h.ld];intro i hi;rw [mf] at hi;cases hi
 ·rw [h.y];show ((List.replicate al.length (j5 c)).getD t Lf.z).ep≤_;rw [r9 ht];exact Int.le_refl _
theorem Ov.same{y z:OS}(h:Ov y z)(hc:y.calm):z=y:=by
 induction h with
 |refl=>rfl
 |step r h1 hr hf ih=>rw [ih] at hr hf;have:=hc r hr;omega
theorem wx(y:OS)(r v:Int):(y.leaves r v).as=eQ y.as r:=by unfold OS.leaves;split <;>rfl
theorem Ov.one{y z:OS}{r:Int}(h:Ov y z)(ha:y.as=⟨[r],[]⟩):z=y∨z=y.leaves r (jg (y.s.stt (y.s.rt r.toNat))):=by
 induction h with
 |refl=>exact .inl rfl
 |step r' h1 hr hf ih=>
  rcases ih with e|e
  ·subst e
   rw [ha] at hr
   have:r'=r:=by simpa using hr
   subst this;exact .inr rfl
  ·subst e
   rw [wx,ha] at hr
   have e2:(eQ (⟨[r],[]⟩:AS) r).a=[]:=by unfold eQ jW jY;simp
   rw [e2] at hr;cases hr
def wc:Cfg:=wb rU
def CE:List (Int×Int):=eS []
def wy0:OS:=⟨wH wc CE,[],0,⟨[],[]⟩⟩
def CF:Rq:=⟨0,2,3,1⟩
def wy1:OS:=(wy0.added 16 0 CF).come 0
theorem zc:wy1.calm:=by
 have h:wy1.as.a=[0]:=by decide
 intro r hr
 rw [h] at hr
 have:r=0:=by simpa using hr
 subst this;decide
structure W1(T:YG):Prop where
 y:T.y=wy1
 ld:T.ld=lG wc
 es:T.es=[]
 n:T.x.n=1
 m:T.x.m=1
theorem Cb{T:YG}(h:NewG wc CE T){j:YV}(hj:zj T 0 2 3 j):j.f=0∧W1 j.T:=by
 have hA:T.A=16:=by rw [h.A];decide
 have hQ:T.Q=0:=by rw [h.Q];decide
 have hn:T.x.n=1:=by rw [h.n];decide
 have h0:kW T.A T.Q T.y=0:=by rw [hA,hQ,h.y];decide
 rcases hj with ⟨_,hne,_⟩| ⟨hf,_,b,c,p,z,hz,e⟩
 ·exact absurd h0 hne
 ·have hm:T.x.m+1=1:=by rw [h.m]
  have ez:z=wy1:=by
   rw [hA,hQ,h.y,h.m] at hz
   rcases hz with ⟨_,h1,_⟩| ⟨h1,_⟩
   ·exact Ov.same (y:=wy1) h1 zc
   ·exact absurd (by decide) h1
  subst ez
  rw [e]
  exact ⟨hf,rfl,h.ld,h.es,hn,hm⟩
theorem rH:1≤wc.slots∧wc.slots≤16:=by decide
def CD:Led:=(lG wc).put 0 ⟨true,((0:Nat):Int),1⟩ 1
theorem Cg:(wy1.s.tk.getD 0 Tk.z).mem=1:=by decide
structure W2(T:YG)(ep:Int):Prop where
 s:T.y.s=jl wy1.s (lG wc) 0
 as:T.y.as=⟨[0],[]⟩
 ld:T.ld=CD
 ep:ep=((jl wy1.s (lG wc) 0).lf.getD 0 Lf.z).ep
 es:T.es=[]
 m:T.x.m=1
theorem Bn{T:YG}(h:W1 T){j:YV}(hj:vU T j):j.f=0∧j.d=0∧W2 j.T j.e:=by
 obtain ⟨p,tl,a,tm,tb,hb,hd,e⟩:=hj
 have hB:=kv (T.y.s.lf.map (·.st)) (mR T) T.x.n
 rw [hb] at hB
 dsimp only at hB
 have hpr:3≤(mR T).getD 0 0:=by
  unfold mR
  rw [mo (by rw [h.n];exact Nat.one_pos)]
  have hact:wL T.y.s 0∈e6 T.y.s T.y.as.a:=List.mem_map.2 ⟨0,by rw [h.y];decide,rfl⟩
  have h1:=rL (N:=T.x.n) (E:=T.es) (x:=0) hact (by rw [show (wL T.y.s 0).x=0 from by rw [h.y];decide];exact oQ ⟨by decide,by rw [h.n];decide⟩)
  rw [show (wL T.y.s 0).z=3 from by rw [h.y];decide] at h1
  exact h1
 have hmay:x7 (T.y.s.lf.map (·.st)) (mR T) 0:=⟨by rw [h.y];decide,by omega⟩
 have htop:=hB.top 0 (by rw [h.n];exact Nat.one_pos) hmay
 have hne:tl≠[]:=fun e=>by have:=hB.ne e;omega
 have hin:=uD hb
 have hroom:T.ld.bud-T.ld.used=1000:=by rw [h.ld];decide
 have hft:∀x∈tl,fE T.x.n T.y.s.al (T.ld.bud-T.ld.used) x=true:=fun x hx=>by
  have h1:=hin x hx
  rw [h.n] at h1
  obtain rfl:x=0:=by omega
  exact Cd (by decide) (by rw [h.n];decide) (by rw [hroom,h.y];decide)
 have hfl:tl.filter (fE T.x.n T.y.s.al (T.ld.bud-T.ld.used))≠[]:=by rw [List.filter_eq_self.2 hft];exact hne
 have hcnt:0<T.ld.cnt T.ld.many:=by rw [h.ld];exact Ae rH
 rcases hd with ⟨_,h1,_⟩| ⟨_,_,h1,_⟩| ⟨_,l,vs,t,r,hf,hlv,htl,htn,hid,hs⟩
 ·exact absurd h1 hne
 ·exact absurd ⟨hcnt,hfl⟩ h1
 ·obtain ⟨rfl,rfl⟩:=hlv ⟨hcnt,hfl⟩
  obtain rfl:t=0:=by have:=h.n;omega
  have hmem:(T.y.s.tk.getD 0 Tk.z).mem=1:=by rw [h.y];exact Cg
  have hE:T.ld.takeE ((0:Nat):Int) (T.y.s.tk.getD 0 Tk.z).mem=0:=by rw [hmem,h.ld];exact mO rH (by decide)
  rcases hs with ⟨h1,h2,_⟩| ⟨h1,_,_,_,h3,h4,h5⟩
  ·exact absurd (h1.trans hE) h2
  ·have hV:T.ld.takeV ((0:Nat):Int) (T.y.s.tk.getD 0 Tk.z).mem=0:=by rw [hmem,h.ld];exact wR rH (by decide)
   have hK:T.ld.take ((0:Nat):Int) (T.y.s.tk.getD 0 Tk.z).mem=CD:=by rw [hmem,h.ld];exact yA rH (by decide)
   subst h5
   rw [e]
   refine ⟨h1,h3.trans hV,?_,?_,hK,?_,h.es,h.m⟩
   ·show jl T.y.s T.ld 0=_;rw [h.y,h.ld]
   ·show T.y.as=_;rw [h.y];rfl
   ·rw [h4];show ((jl T.y.s T.ld 0).lf.getD 0 Lf.z).ep=_;rw [h.y,h.ld]
theorem Ck{T:YG}{ep:Int}(h:W2 T ep){j:YV}(hj:Ai T 0 ep 1 j):j.f=0∧(j.T.y.s.rq.getD 0 Rq.z).st=2∧j.T.x.m=1:=by
 obtain ⟨z,es',ld',ks',ha,e⟩:=hj
 obtain ⟨hab,hai⟩:=BA (c:=wc) (t:=0) (mem:=1) rH
 have hab':T.ld.atB 0=true:=by rw [h.ld];exact hab
 have hai':T.ld.atI 0=((0:Nat):Int):=by rw [h.ld];exact hai
 have hst:((jl wy1.s (lG wc) 0).lf.getD 0 Lf.z).st=2:=by decide
 rcases ha with ⟨_,_,_,_,hr⟩| ⟨h0,t,ev,h1,_,_,hd⟩
 ·refine absurd ?_ (hr hab' rfl)
  rw [hai',Int.toNat_natCast];unfold jP
  rw [h.s,if_pos ⟨hst,h.ep⟩]
 ·obtain rfl:t=0:=by omega
  obtain ⟨_,sf,hfo,hov,hc⟩:=hd rfl
  rw [h.es] at hfo
  have esf:=hfo.none
  subst esf
  have has:({T.y with s:=mU T.y.s T.ld 0}:OS).as=⟨[0],[]⟩:=h.as
  have hroot:(mU T.y.s T.ld 0).rt 0=0:=by rw [h.s];show (wy1.s.rq.getD 0 Rq.z).root.toNat=0;decide
  have h5:(mU T.y.s T.ld 0).stt 0=5:=by
   rw [h.s];show ((((jl wy1.s (lG wc) 0).lf.set 0 (pj ((jl wy1.s (lG wc) 0).lf.getD 0 Lf.z)))).getD 0 Lf.z).st=5;decide
  rw [e]
  refine ⟨h0,?_,h.m⟩
  rcases hov.one has with hz|hz
  ·refine absurd (hc 0 (by rw [hz];show (0:Int)∈T.y.as.a;rw [h.as];decide)) ?_
   rw [hz];show¬(mU T.y.s T.ld 0).stt ((mU T.y.s T.ld 0).rt 0)<5
   rw [hroot,h5];decide
  ·rw [hz]
   show ((({T.y with s:=mU T.y.s T.ld 0}:OS).leaves 0 (jg ((mU T.y.s T.ld 0).stt ((mU T.y.s T.ld 0).rt 0)))).s.rq.getD 0 Rq.z).st=2
   rw [hroot,h5]
   have hl:({T.y with s:=mU T.y.s T.ld 0}:OS).leaves 0 (jg 5)=({T.y with s:=mU T.y.s T.ld 0}:OS).left 0 (jg 5):=by
    unfold OS.leaves
    rw [if_neg]
    rintro ⟨_,hv⟩
    have:fq T.y.as 0= -1:=by rw [h.as];decide
    have hv':fq T.y.as 0≥0:=hv
    omega
   rw [hl]
   show (((mU T.y.s T.ld 0).setSt 0 (jg 5)).rq.getD 0 Rq.z).st=2
   rw [kR,if_pos ⟨rfl,by rw [h.s];show 0<wy1.s.rq.length;decide⟩]
   show jg 5=2;decide
end Go.Proofs.YtanfdikglplkaaaGreatDoor.Sp
namespace Go.Proofs.YtanfdikglplkaaaGreatDoor.Sp
open Go
def jT(st pr:List Int):Nat→Int
 |0=> -1
 |k+1=>if st.getD k 0=1 then max (jT st pr k) (pr.getD k 0) else jT st pr k
theorem sa(st pr:List Int):∀k,jT st pr k=(dO st pr k).1
 |0=>rfl
 |k+1=>by
  have h:=xD st pr k
  show (if st.getD k 0=1 then max (jT st pr k) (pr.getD k 0) else jT st pr k)=(jk st pr (dO st pr k) k).1
  rw [sa st pr k]
  unfold jk
  by_cases h1:st.getD k 0=1
  ·rw [if_pos h1]
   by_cases h2:pr.getD k 0<max (dO st pr k).1 0
   ·rw [if_neg (fun hh=>hh.2 h2)];omega
   ·rw [if_pos ⟨h1,h2⟩];split
    ·dsimp only;omega
    ·dsimp only;omega
  ·rw [if_neg h1,if_neg (fun hh=>h1 hh.1)]
theorem w8{t:Nat}(vs:List Int)(h:∀v∈vs,v.toNat≠t)(a:SL):(stopN a vs).s.lf.getD t Lf.z=a.s.lf.getD t Lf.z:=by
 unfold stopN
 induction vs generalizing a with
 |nil=>rfl
 |cons v vs ih=>
  rw [List.foldl_cons,ih (fun u hu=>h u (.tail _ hu))]
  show (a.s.lf.set v.toNat (gO (a.s.lf.getD v.toNat Lf.z))).getD t Lf.z=_
  simp only [List.getD];rw [List.getElem?_set_ne (h v (.head _))]
theorem wu(vs:List Int)(a:SL):∃evs,(stopN a vs).s.lg=a.s.lg++evs∧∀e∈evs,e.k=6∧e.t∈vs:=by
 unfold stopN
 induction vs generalizing a with
 |nil=>exact ⟨[],by simp,fun e he=>by cases he⟩
 |cons v vs ih=>
  obtain ⟨evs,h1,h2⟩:=ih (lS a v)
  refine ⟨g7 a.s a.ld 6 v::evs,?_,fun e he=>?_⟩
  ·rw [List.foldl_cons,h1];show (a.s.lg++[g7 a.s a.ld 6 v])++evs=_;simp
  ·rcases List.mem_cons.1 he with e2|he
   ·rw [e2];exact ⟨rfl,.head _⟩
   ·exact ⟨(h2 e he).1,.tail _ (h2 e he).2⟩
structure FstI(T:YG)(j:YV)(t:Nat)(b:Int):Prop where
 c:j.c=(t:Int)
 n:t<T.x.n
 was:(T.y.s.lf.map (·.st)).getD t 0=1
 pr:(mR T).getD t 0=b
 now:j.T.y.s.stt t=2
 log:∀k,T.y.s.lg.length≤k→k<j.T.y.s.lg.length→((j.T.y.s.lg.getD k Ev.z).k=6∧∃x:Nat,(j.T.y.s.lg.getD k Ev.z).t=(x:Int)∧x<T.x.n∧(mR T).getD x 0<b∧(T.y.s.lf.map (·.st)).getD x 0=2)∨((j.T.y.s.lg.getD k Ev.z).k=1∧(j.T.y.s.lg.getD k Ev.z).t=(t:Int))
theorem wB{T:YG}{j:YV}(hl:T.y.s.lf.length=T.x.n)(h:vU T j):(j.f=6→jT (T.y.s.lf.map (·.st)) (mR T) T.x.n<0)∧(j.f=0→0≤jT (T.y.s.lf.map (·.st)) (mR T) T.x.n∧∃t,FstI T j t (jT (T.y.s.lf.map (·.st)) (mR T) T.x.n)):=by
 obtain ⟨p,tl,a,tm,tb,hb,hd,e⟩:=h
 have hB:=kv (T.y.s.lf.map (·.st)) (mR T) T.x.n
 rw [hb] at hB
 dsimp only at hB
 have hbm:jT (T.y.s.lf.map (·.st)) (mR T) T.x.n=p:=by rw [sa,hb]
 rw [hbm]
 have hstt:∀t,t<T.x.n→(T.y.s.lf.map (·.st)).getD t 0=T.y.s.stt t:=fun t ht=>by
  unfold ES.stt;simp [List.getD,show t<T.y.s.lf.length by omega]
 rcases hd with ⟨h1,h2,_⟩| ⟨h1,_⟩| ⟨hne,l,vs,t,r,hf,_,htl,htn,hid,hs⟩
 ·exact ⟨fun _=>by have:=hB.ne h2;omega,fun h0=>by omega⟩
 ·exact ⟨fun h6=>by omega,fun h0=>by omega⟩
 ·rcases hf with ⟨h4,_⟩| ⟨_,hln,hsub,hvo,_,_⟩
  ·cases h4
  obtain ⟨t',e1,_,hmay,hpt⟩:=(hB.mem t).1 (hsub t htl)
  obtain rfl:t'=t:=by omega
  have hst1:T.y.s.stt t'=1:=by rw [←hstt t' htn];exact hmay.1
  have hvr:∀v∈vs,∃u:Nat,v=(u:Int)∧u<T.x.n∧T.y.s.stt u=2∧(mR T).getD u 0<p:=fun v hv=>uy hvo hv
  have hnv:∀v∈vs,v.toNat≠t':=fun v hv hh=>by
   obtain ⟨u,e2,_,h2,_⟩:=hvr v hv
   have:u=t':=by omega
   subst this;omega
  have hlt:=w8 vs hnv ⟨T.y.s,T.ld,T.ks⟩
  obtain ⟨evs,hlg,hev⟩:=wu vs ⟨T.y.s,T.ld,T.ks⟩
  obtain ⟨k1,k2,k3,k4,k5,k6,k7⟩:=lD ⟨T.y.s,T.ld,T.ks⟩ vs
  dsimp only at hlt hlg k7
  rcases hs with ⟨h1,h2,h3,_⟩| ⟨h1,_,_,htt,_,_,h5⟩
  ·exact ⟨fun h6=>absurd h6 h3,fun h0=>absurd h0 h2⟩
  ·refine ⟨fun h6=>by omega,fun _=>⟨by have:=hmay.2;omega,t',htt,htn,hmay.1,hpt,?_,?_⟩⟩
   ·rw [e];subst h5
    show (((stopN ⟨T.y.s,T.ld,T.ks⟩ vs).s.lf.set t' (fP ((stopN ⟨T.y.s,T.ld,T.ks⟩ vs).s.lf.getD t' Lf.z))).getD t' Lf.z).st=2
    rw [pc (by omega),if_pos rfl,hlt]
    have h6:(T.y.s.lf.getD t' Lf.z).st=1:=hst1
    unfold fP;rw [if_pos h6]
   ·intro k hk1 hk2
    rw [e] at hk2⊢
    subst h5
    have el:∃v:Ev,v.k=1∧v.t=(t':Int)∧(jl (stopN ⟨T.y.s,T.ld,T.ks⟩ vs).s (stopN ⟨T.y.s,T.ld,T.ks⟩ vs).ld t').lg=(T.y.s.lg++evs)++[v]:=⟨_,rfl,rfl,by rw [←hlg];rfl⟩
    obtain ⟨v,v1,v2,el⟩:=el
    dsimp only at hk2⊢
    rw [el] at hk2⊢
    rw [List.length_append] at hk2
    by_cases h9:k=(T.y.s.lg++evs).length
    ·right
     have:((T.y.s.lg++evs)++[v]).getD k Ev.z=v:=by rw [h9];simp [List.getD]
     rw [this];exact ⟨v1,v2⟩
    ·left
     have hk3:k< (T.y.s.lg++evs).length:=by have h8:[v].length=1:=rfl;omega
     have hk4:k-T.y.s.lg.length<evs.length:=by rw [List.length_append] at hk3;omega
     have:((T.y.s.lg++evs)++[v]).getD k Ev.z=evs[k-T.y.s.lg.length]:=by
      simp only [List.getD]
      rw [List.getElem?_append_left hk3,List.getElem?_append_right hk1,List.getElem?_eq_getElem hk4];rfl
     rw [this]
     obtain ⟨g1,g2⟩:=hev _ (List.getElem_mem hk4)
     obtain ⟨u,e2,hu,h2,h3⟩:=hvr _ g2
     exact ⟨g1,u,e2,hu,h3,by rw [hstt u hu];exact h2⟩
def q5(n k:Nat):List Int:=List.replicate k (-1)++List.replicate (n-k) 0
theorem xJ(n:Nat):q5 n n=List.replicate n (-1):=by simp [q5]
theorem nI{n k:Nat}(h:k≤n):(q5 n k).length=n:=by simp [q5];omega
theorem vC{n k:Nat}(h:k<n):(q5 n k).set k (-1)=q5 n (k+1):=by
 refine List.ext_getElem (by rw [List.length_set,nI (by omega),nI (by omega)]) fun i h1 h2=>?_
 simp only [q5,List.getElem_set,List.getElem_append,List.length_replicate,List.getElem_replicate]
 by_cases e:k=i
 ·subst e;rw [if_pos rfl,dif_pos (by omega)]
 ·rw [if_neg e]
  by_cases h3:i<k
  ·rw [dif_pos h3,dif_pos (by omega)]
  ·rw [dif_neg h3,dif_neg (by omega)]
end Go.Proofs.YtanfdikglplkaaaGreatDoor.Sp
namespace Go.Proofs.YtanfdikglplkaaaGreatDoor.Sp
open Go
section
variable{P:Program}{W:World}{N:Nat}{E:List (Nat×Value)}{L M:List HP}
theorem j7{fn:Func}{t T b:Nat}{cs:List Value}{Post:Value→List HP→Prop}(hr:fn.results=#[.cell t T])(hv:dI t E=some (.pointer (some ⟨b,0,none⟩)))
 (hag:∀w,(isAgg T).run P w=.ok true w) (hsz:∀w,(sizeOf T).run P w=.ok cs.length w) (hg:∀j v,cs[j]?=some v→Gives L ⟨b,0+j,none⟩ v) (hs:∀w,Sat L w→Sat M w) (hp:Post (.agg cs.toArray) M):
 cd (bodyPost P fn (qI W Post) .ret) W N E L:=fun a w s=>by
 have hp':a.tmps[t]?.getD undef=.pointer (some ⟨b,0,none⟩):=by simp [s.env t _ hv]
 have hl:=run_loadCells_list (P:=P) w ⟨b,0,none⟩ cs (fun j v hv=>by rw [du];exact hg j v hv w s.sat)
 refine bodyPost_ret (v:=.agg cs.toArray) ?_ s.defers ⟨_,_,hp,rfl,hs w s.sat,s.ext⟩
 simp [results,hr,hp',asAddr,loadVar,hag,hsz,hl]
end
end Go.Proofs.YtanfdikglplkaaaGreatDoor.Sp
namespace Go.Proofs.YtanfdikglplkaaaGreatDoor.Sp
open Go
variable{P:Program}{H:Type}{enc:TypeId×Value→H}
theorem BO{l:List Int}(h:l.length=10):∃a b c d e f g i j k,l=[a,b,c,d,e,f,g,i,j,k]:=by
 match l,h with
 | [a,b,c,d,e,f,g,i,j,k],_=>exact ⟨a,b,c,d,e,f,g,i,j,k,rfl⟩
def AR:Value→Int
 | .int _ z=>z
 |_=>0
theorem Co{W:World}{t ti:TypeId}{fs:Array Field}{v:Value}{d:DataW H}{p:List MemPlace}{base:Nat}(hs:P.underlying t=some (.struct fs))(hone:Go.Deep.oneCellFields P fs=true)(hC:P.cellsOf t=10)
 (hty:fs.toList.map (·.type)=List.replicate 10 ti) (hi:P.underlying ti=some (.int .i64)) (hok:Value.okWide P W .any base t v) (h:DataW.Trod enc P W 0 (fun _=>true) true t v d p):∃c:Cfg,v=.agg (Be c).toArray:=by
 obtain ⟨cs,rfl,hsz⟩:=WideShapes.okWide_struct hs hok
 obtain ⟨fuel,hf⟩:=h
 obtain ⟨xs,n,_,_,hl,hlen,hfi⟩:=DataW.trod_struct hs hf
 have hsz10:cs.toList.length=10:=by rw [Array.length_toList,hsz,hC]
 have hfl:fs.toList.length=10:=by have:=congrArg List.length hty;simpa using this
 have hfs:fs.size=10:=by rw [←Array.length_toList];exact hfl
 have key:∀i,i<10→∃z,cs.toList[i]?=some (.int .i64 z):=fun i h10=>by
  obtain ⟨f,hfe⟩:∃f,fs[i]?=some f:=⟨fs.toList[i],by rw [←Array.getElem?_toList];exact List.getElem?_eq_getElem (by omega)⟩
  have ht:f.type=ti:=by
   have h1:=congrArg (fun l:List TypeId=>l[i]?) hty
   simp only [List.getElem?_map,List.getElem?_replicate,if_pos h10] at h1
   rw [Array.getElem?_toList,hfe] at h1
   simpa using h1
  obtain ⟨o1,k1⟩:=Go.Deep.hone_of hone i f hfe
  have h2:=hfi i f hfe
  obtain ⟨x,hx⟩:∃x,xs[i]?=some x:=⟨xs[i]'(by omega),List.getElem?_eq_getElem _⟩
  rw [o1,k1,ht,hx] at h2
  obtain ⟨z,e1,_,_⟩:=DataW.trod_int hi h2
  refine ⟨z,?_⟩
  have e2:(cs.toList.drop i).take 1=[.int .i64 z]:=e1
  have e3:=congrArg (fun l:List Value=>l[0]?) e2
  simpa [List.getElem?_take,List.getElem?_drop] using e3
 have hcs:cs.toList=(cs.toList.map AR).map (fun z=>.int .i64 z):=by
  rw [List.map_map]
  refine List.ext_getElem (by simp) fun i h1 h2=>?_
  obtain ⟨z,hz⟩:=key i (by omega)
  rw [List.getElem?_eq_getElem h1] at hz
  rw [List.getElem_map,Option.some.inj hz];rfl
 obtain ⟨a,b,c,d,e,f,g,i,j,k,hl10⟩:=BO (l:=cs.toList.map AR) (by rw [List.length_map];exact hsz10)
 rw [hl10] at hcs
 exact ⟨⟨a,b,c,d,e,f,g,i,j,k⟩,by rw [←Array.toArray_toList (xs:=cs),hcs];rfl⟩
theorem zp{W:World}{b:Nat}{o:Obj}(h:W.heap[b]?=some o){w:World}(hs:Sat [w4 W] w):w.heap[b]?=some o:=by
 rw [ox (.head _) hs (Array.getElem?_eq_some_iff.1 h).1];exact h
theorem zW{W:World}{name:String}{tm kt et:TypeId}{cs:Array Value}{fuel:Nat}{p:List MemPlace}{sp:Nat→Bool}(hg:P.globalNamed name=some 0)(ht:P.underlying tm=some (.map kt et))(hk:P.underlying kt=some (.int .i64))(he:P.underlying et=some (.int .i64))
 (hv:W.var? P name=some cs) (hd:DataW.trod enc P W 0 sp false fuel tm cs.toList=some (.map [(.int .i64 5,.lit (.int .i64 2)),(.int .i64 6,.lit (.int .i64 3)),(.int .i64 7,.lit (.int .i64 4))],p)):∃vr,VTab vr [w4 W]:=by
 rcases WideMaps.open_map ht he hd with ⟨_,hx⟩| ⟨b,es,ck,hcs,hb,_,F,hx⟩
 ·simp at hx
 simp only [Prod.mk.injEq,DataW.map.injEq] at hx
 have hcell:W.cell? ⟨0,0,none⟩=some (.map (some b)):=by
  have:=World.var?_cell hg hv 0
  have e:cs=#[.map (some b)]:=by rw [←Array.toArray_toList (xs:=cs),hcs]
  rw [e] at this
  simpa using this
 have hkey:∀x∈es.toList,∀y:Lit×DataW H,WideMaps.rd P kt .i64 x=some y→∃z,x.key=.int .i64 z∧y.1=.int .i64 z:=fun x _ y hy=>by
  have h1:=WideMaps.rd_key hy
  unfold keyOf at h1
  rw [hk] at h1
  cases hkv:x.key with
  |int q z=>
   simp only [hkv,mapKey,hk] at h1
   by_cases hq:q=IntKind.i64∧(Lit.int IntKind.i64 z).wf=true
   ·rw [if_pos hq] at h1
    obtain ⟨hq1,_⟩:=hq
    subst hq1
    exact ⟨z,rfl,(Option.some.inj h1).symm⟩
   ·rw [if_neg hq] at h1;cases h1
  |_=>simp [hkv,mapKey,hk] at h1
 have hint:∀x∈es.toList,MapKept.IsKey (.int .i64) x.key:=fun x hx'=>by
  obtain ⟨y,hy⟩:=F.reads x hx'
  obtain ⟨z,e,_⟩:=hkey x hx' y hy
  rw [e];exact rfl
 have hin:∀y:Lit×DataW H,y∈es.toList.map (WideMaps.rg H P kt .i64)↔y∈[(Lit.int .i64 5,DataW.lit (.int .i64 2)),(.int .i64 6,.lit (.int .i64 3)),(.int .i64 7,.lit (.int .i64 4))]:=fun y=>by
  rw [hx.1];exact (WideShapes.sorted_perm _).mem_iff.symm
 refine ⟨b,kN hcell,fun w hs=>⟨es,ck,zp hb hs,fun k h5 h7=>?_⟩⟩
 rcases MapKept.findNow_spec (d:=.int .i64) (k:=.int .i64 k) rfl es.toList 0 hint with ⟨_,hno⟩| ⟨j,e,h1,h2,h3⟩
 ·exfalso
  have hmem:(Lit.int .i64 k,DataW.lit (H:=H) (.int .i64 (jg k)))∈es.toList.map (WideMaps.rg H P kt .i64):=by
   rw [hin]
   rcases (show k=5∨k=6∨k=7 by omega) with h|h|h <;>subst h <;>simp [jg]
  obtain ⟨x,hx1,hx2⟩:=List.mem_map.1 hmem
  obtain ⟨y,hy⟩:=F.reads x hx1
  rw [WideMaps.rg_of hy] at hx2
  subst hx2
  obtain ⟨z,e1,e2⟩:=hkey x hx1 _ hy
  have:k=z:=by simpa using e2
  subst this
  exact hno x hx1 e1
 ·have he1:e∈es.toList:=List.mem_of_getElem? h2
  obtain ⟨y,hy⟩:=F.reads e he1
  obtain ⟨z,e1,e2⟩:=hkey e he1 y hy
  have hz:z=k:=by rw [h3] at e1;simpa using e1.symm
  obtain ⟨n,hn1,hn2,_⟩:=WideMaps.rd_val hy
  have hm:=(hin y).1 (List.mem_map.2 ⟨e,he1,WideMaps.rg_of hy⟩)
  refine ⟨0+j,?_⟩
  rw [h1,hn1]
  have hnv:n=jg k:=by
   obtain ⟨y1,y2⟩:=y
   simp only at e2 hn2
   subst e2;subst hn2;subst hz
   simp only [List.mem_cons,List.not_mem_nil,or_false,Prod.mk.injEq,Lit.int.injEq,true_and,DataW.lit.injEq] at hm
   unfold jg
   rcases hm with ⟨h,h'⟩| ⟨h,h'⟩| ⟨h,h'⟩ <;>subst h <;>subst h' <;>simp
  rw [hnv]
end Go.Proofs.YtanfdikglplkaaaGreatDoor.Sp
namespace Go.Proofs.YtanfdikglplkaaaGreatDoor.Sp
open Go Go.Proofs Go.ChangeShapes Go.WideShapes Go.ChangeAt Go.RowKit
instance:Inhabited Ev:=⟨Ev.z⟩
section
variable{H:Type}{enc:TypeId×Value→H}{P:Program}
theorem Ab{W:World}{t ti:TypeId}{fs:Array Field}(hs:P.underlying t=some (.struct fs))(hone:Go.Deep.oneCellFields P fs=true)
 (hty:fs.toList.map (·.type)=List.replicate 5 ti) (hi:P.underlying ti=some (.int .i64))
 (fuel:Nat) (cs:List Value) (y:DataW H×List MemPlace) (hl:cs.length=5) (hf:DataW.trod enc P W 0 (fun _=>true) true fuel t cs=some y):∃z:Ev,gH z=cs∧True:=by
 obtain ⟨d,p⟩:=y
 obtain ⟨xs,n,_,_,hl2,hlen,hfi⟩:=DataW.trod_struct hs hf
 have hfl:fs.toList.length=5:=by have:=congrArg List.length hty;simpa using this
 have hfs:fs.size=5:=by rw [←Array.length_toList];exact hfl
 have key:∀i,i<5→∃z,cs[i]?=some (.int .i64 z):=fun i h5=>by
  obtain ⟨f,hfe⟩:∃f,fs[i]?=some f:=⟨fs.toList[i],by rw [←Array.getElem?_toList];exact List.getElem?_eq_getElem (by omega)⟩
  have ht:f.type=ti:=by
   have h1:=congrArg (fun l:List TypeId=>l[i]?) hty
   simp only [List.getElem?_map,List.getElem?_replicate,if_pos h5] at h1
   rw [Array.getElem?_toList,hfe] at h1
   simpa using h1
  obtain ⟨o1,k1⟩:=Go.Deep.hone_of hone i f hfe
  have h2:=hfi i f hfe
  obtain ⟨x,hx⟩:∃x,xs[i]?=some x:=⟨xs[i]'(by omega),List.getElem?_eq_getElem _⟩
  rw [o1,k1,ht,hx] at h2
  obtain ⟨z,e1,_,_⟩:=DataW.trod_int hi h2
  refine ⟨z,?_⟩
  have e2:(cs.drop i).take 1=[.int .i64 z]:=e1
  have e3:=congrArg (fun l:List Value=>l[0]?) e2
  simpa [List.getElem?_take,List.getElem?_drop] using e3
 obtain ⟨a,b,c,d,e,hc⟩:∃a b c d e,cs=[a,b,c,d,e]:=by
  match cs,hl with
  | [a,b,c,d,e],_=>exact ⟨a,b,c,d,e,rfl⟩
 obtain ⟨z0,h0⟩:=key 0 (by decide);obtain ⟨z1,h1⟩:=key 1 (by decide);obtain ⟨z2,h2⟩:=key 2 (by decide);obtain ⟨z3,h3⟩:=key 3 (by decide);obtain ⟨z4,h4⟩:=key 4 (by decide)
 rw [hc] at h0 h1 h2 h3 h4
 simp at h0 h1 h2 h3 h4
 exact ⟨⟨z0,z1,z2,z3,z4⟩,by rw [hc,h0,h1,h2,h3,h4];rfl,trivial⟩
end
end Go.Proofs.YtanfdikglplkaaaGreatDoor.Sp
