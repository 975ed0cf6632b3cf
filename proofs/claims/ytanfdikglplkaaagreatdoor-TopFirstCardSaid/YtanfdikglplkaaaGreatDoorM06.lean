/- Parts Trn, Rec: own lemmas and contracts of the code that the claim reaches. -/
import Derived.Test.YtanfdikglplkaaaGreatDoorM04
import Derived.Test.YtanfdikglplkaaaGreatDoorM05
set_option linter.unusedSimpArgs false
set_option linter.unusedVariables false
namespace Go.Proofs.YtanfdikglplkaaaGreatDoor.Sp
open Go
structure M3 where
 id:Int
 w:Int
 c:Int
abbrev M3.z:M3:=⟨0,0,0⟩
abbrev TS:=List M3×Nat
theorem ij{a b:List M3}(h:a.length=b.length)(hh:∀i,i<a.length→a.getD i M3.z=b.getD i M3.z):a=b:=by
 refine List.ext_getElem h fun i h1 h2=>?_
 have:=hh i h1
 simpa [List.getD,h1,h2] using this
def hU(ms:List M3)(i:Nat)(c:Int):List M3:=ms.set i ⟨(ms.getD i M3.z).id,(ms.getD i M3.z).w,c⟩
theorem gk(ms:List M3)(i:Nat)(c:Int):(hU ms i c).length=ms.length:=by simp [hU]
theorem gS{ms:List M3}{i:Nat}{c:Int}(h:i<ms.length)(j:Nat):(hU ms i c).getD j M3.z=if j=i then ⟨(ms.getD i M3.z).id,(ms.getD i M3.z).w,c⟩ else ms.getD j M3.z:=by
 unfold hU
 by_cases e:j=i
 ·subst e;rw [if_pos rfl];simp [List.getD,h]
 ·rw [if_neg e];simp only [List.getD];rw [List.getElem?_set_ne (fun h=>e h.symm)]
theorem pW{ms:List M3}{i:Nat}(h:i<ms.length):hU ms i (ms.getD i M3.z).c=ms:=by
 refine ij (gk _ _ _) fun j hj=>?_
 rw [gS h]
 by_cases e:j=i
 ·subst e;rw [if_pos rfl]
 ·rw [if_neg e]
def ch(i n:Nat):Nat:=if i+1=n then 0 else i+1
theorem jr{i n:Nat}(h:i<n):ch i n<n:=by unfold ch;split <;>omega
theorem nC{i n:Nat}(h:i<n):((i+1:Nat):Int).tmod (n:Int)=((ch i n:Nat):Int):=by
 rw [Int.tmod_eq_emod_of_nonneg (by omega)]
 unfold ch
 split
 ·rename_i e;rw [e];simp
 ·rw [Int.emod_eq_of_lt (by omega) (by omega)]
def iS(cs:List Int)(s:TS):Bool:=decide (0<cs.getD s.2 0∧cs.getD s.2 0≤(s.1.getD s.2 M3.z).c)
def aO(cs:List Int)(ms:List M3)(i:Nat):List M3:=if cs.getD i 0=0 then hU ms i 0 else ms
def ew(q:Int)(cs:List Int)(ms:List M3)(i:Nat):List M3:=if 0<cs.getD i 0 then hU ms i ((ms.getD i M3.z).c+q*(ms.getD i M3.z).w) else ms
def gY(q:Int)(cs:List Int)(s:TS):TS:=(ew q cs (aO cs s.1 s.2) (ch s.2 s.1.length),ch s.2 s.1.length)
theorem fB(cs:List Int)(ms:List M3)(i:Nat):(aO cs ms i).length=ms.length:=by unfold aO;split <;>simp [gk]
theorem kF(q:Int)(cs:List Int)(ms:List M3)(i:Nat):(ew q cs ms i).length=ms.length:=by unfold ew;split <;>simp [gk]
theorem pJ(q:Int)(cs:List Int)(s:TS):(gY q cs s).1.length=s.1.length:=by simp [gY,kF,fB]
theorem hZ{cs:List Int}{ms:List M3}{i:Nat}(h:i<ms.length)(j:Nat):(aO cs ms i).getD j M3.z=if j=i∧cs.getD j 0=0 then ⟨(ms.getD j M3.z).id,(ms.getD j M3.z).w,0⟩ else ms.getD j M3.z:=by
 unfold aO
 by_cases e2:j=i
 ·subst e2
  by_cases e:cs.getD j 0=0
  ·rw [if_pos e,if_pos ⟨rfl,e⟩,gS h,if_pos rfl]
  ·rw [if_neg e,if_neg (fun h=>e h.2)]
 ·have c:¬(j=i∧cs.getD j 0=0):=fun h=>e2 h.1
  simp only [if_neg c]
  by_cases e:cs.getD i 0=0
  ·rw [if_pos e,gS h,if_neg e2]
  ·rw [if_neg e]
theorem mT{q:Int}{cs:List Int}{ms:List M3}{i:Nat}(h:i<ms.length)(j:Nat):(ew q cs ms i).getD j M3.z=if j=i∧0<cs.getD j 0 then ⟨(ms.getD j M3.z).id,(ms.getD j M3.z).w,(ms.getD j M3.z).c+q*(ms.getD j M3.z).w⟩ else ms.getD j M3.z:=by
 unfold ew
 by_cases e2:j=i
 ·subst e2
  by_cases e:0<cs.getD j 0
  ·rw [if_pos e,if_pos ⟨rfl,e⟩,gS h,if_pos rfl]
  ·rw [if_neg e,if_neg (fun h=>e h.2)]
 ·have c:¬(j=i∧0<cs.getD j 0):=fun h=>e2 h.1
  simp only [if_neg c]
  by_cases e:0<cs.getD i 0
  ·rw [if_pos e,gS h,if_neg e2]
  ·rw [if_neg e]
def tJ(q:Int)(cs:List Int):Nat→TS→Option TS
 |0,_=>none
 |k+1,s=>bif iS cs s then some s else tJ q cs k (gY q cs s)
def TakeR(q:Int)(cs:List Int)(s t:TS):Prop:=∃k,tJ q cs k s=some t
theorem TakeR.here{q:Int}{cs:List Int}{s:TS}(h:iS cs s=true):TakeR q cs s s:=⟨1,by unfold tJ;rw [h];rfl⟩
theorem TakeR.next{q:Int}{cs:List Int}{s t:TS}(h:iS cs s=false)(k:TakeR q cs (gY q cs s) t):TakeR q cs s t:=by
 obtain ⟨k,hk⟩:=k;exact ⟨k+1,by unfold tJ;rw [h,cond_false];exact hk⟩
theorem xE{q:Int}{cs:List Int}{I:TS→Prop}(hs:∀s,I s→iS cs s=false→I (gY q cs s)):∀(k:Nat) (s t:TS),I s→tJ q cs k s=some t→I t∧iS cs t=true:=by
 intro k
 induction k with
 |zero=>intro s t h0 h;cases h
 |succ k ih=>
  intro s t h0 h
  unfold tJ at h
  cases hr:iS cs s with
  |true=>rw [hr,cond_true] at h;cases h;exact ⟨h0,hr⟩
  |false=>rw [hr,cond_false] at h;exact ih _ _ (hs s h0 hr) h
theorem TakeR.inv{q:Int}{cs:List Int}{I:TS→Prop}{s t:TS}(h:TakeR q cs s t)(h0:I s)(hs:∀s,I s→iS cs s=false→I (gY q cs s)):I t∧iS cs t=true:=by
 obtain ⟨k,h⟩:=h;exact xE hs k s t h0 h
theorem rdyT_false{cs:List Int}{s:TS}:iS cs s=false↔(0<cs.getD s.2 0→(s.1.getD s.2 M3.z).c<cs.getD s.2 0):=by
 unfold iS;rw [decide_eq_false_iff_not]
 constructor
 ·intro h h1;exact Int.lt_of_not_ge fun h2=>h ⟨h1,h2⟩
 ·intro h ⟨h1,h2⟩;have:=h h1;omega
theorem rdyT_true{cs:List Int}{s:TS}:iS cs s=true↔(0<cs.getD s.2 0∧cs.getD s.2 0≤(s.1.getD s.2 M3.z).c):=by
 unfold iS;rw [decide_eq_true_iff]
def yE(cs:List Int)(ms:List M3):Prop:=∀i,i<ms.length→(cs.getD i 0=0→(ms.getD i M3.z).c=0)∧(0<cs.getD i 0→(ms.getD i M3.z).c<cs.getD i 0)∧0≤cs.getD i 0
def bR(q:Int)(cs:List Int)(f:Nat→Int)(ms:List M3):List M3:=ms.mapIdx fun i m=>if 0<cs.getD i 0 then ⟨m.id,m.w,m.c+f i*(q*m.w)⟩ else m
theorem dg(q:Int)(cs:List Int)(f:Nat→Int)(ms:List M3):(bR q cs f ms).length=ms.length:=by simp [bR]
theorem cY{q:Int}{cs:List Int}{f:Nat→Int}{ms:List M3}{i:Nat}(h:i<ms.length):(bR q cs f ms).getD i M3.z=if 0<cs.getD i 0 then ⟨(ms.getD i M3.z).id,(ms.getD i M3.z).w,(ms.getD i M3.z).c+f i*(q*(ms.getD i M3.z).w)⟩ else ms.getD i M3.z:=by
 have e2:ms.getD i M3.z=ms[i]:=by simp [List.getD,h]
 have e:(bR q cs f ms)[i]?=some (if 0<cs.getD i 0 then ⟨ms[i].id,ms[i].w,ms[i].c+f i*(q*ms[i].w)⟩ else ms[i]):=by
  unfold bR;rw [List.getElem?_mapIdx,List.getElem?_eq_getElem h];rfl
 rw [e2];show ((bR q cs f ms)[i]?).getD M3.z=_;rw [e];rfl
def wA(a n i:Nat):Nat:=if a<i then i-a-1 else i+n-a-1
def iu(a n m:Nat):Nat→Int:=fun i=>if wA a n i<m then 1 else 0
def fS(a n m:Nat):Nat:=if a+m<n then a+m else a+m-n
theorem uF{a n m i:Nat}(ha:a<n)(hi:i<n)(hm:m<n):wA a n i=m↔i=ch (fS a n m) n:=by
 unfold wA ch fS
 split <;>split <;>split <;>omega
theorem y7{q:Int}{cs:List Int}{ms:List M3}{a m:Nat}(ha:a<ms.length)(hm:m<ms.length)(hl:yE cs ms):
 gY q cs (bR q cs (iu a ms.length m) ms,fS a ms.length m)=(bR q cs (iu a ms.length (m+1)) ms,fS a ms.length (m+1)):=by
 have hp:fS a ms.length m<ms.length:=by unfold fS;split <;>omega
 have hn:=jr hp
 have hpn:ch (fS a ms.length m) ms.length=fS a ms.length (m+1):=by unfold ch fS;split <;>split <;>split <;>omega
 unfold gY
 rw [dg]
 refine Prod.ext ?_ hpn
 show ew q cs (aO cs (bR q cs (iu a ms.length m) ms) (fS a ms.length m)) (ch (fS a ms.length m) ms.length)=_
 have hz:aO cs (bR q cs (iu a ms.length m) ms) (fS a ms.length m)=bR q cs (iu a ms.length m) ms:=by
  unfold aO
  split
  ·rename_i e
   have h0:=(hl _ hp).1 e
   have hc:((bR q cs (iu a ms.length m) ms).getD (fS a ms.length m) M3.z).c=0:=by rw [cY hp,if_neg (by omega),h0]
   have:=pW (ms:=bR q cs (iu a ms.length m) ms) (i:=fS a ms.length m) (by rw [dg];exact hp)
   rw [hc] at this;exact this
  ·rfl
 rw [hz]
 refine ij (by rw [kF,dg,dg]) fun j hj=>?_
 rw [kF,dg] at hj
 rw [mT (by rw [dg];exact hn),cY hj,cY hj]
 by_cases e:j=ch (fS a ms.length m) ms.length
 ·have e2:=(uF ha hj hm).2 e
  by_cases hw:0<cs.getD j 0
  ·rw [if_pos ⟨e,hw⟩,if_pos hw,if_pos hw]
   simp only [iu,e2,Nat.lt_irrefl,if_false,Nat.lt_succ_self,if_true]
   congr 1;omega
  ·rw [if_neg (fun h=>hw h.2),if_neg hw,if_neg hw]
 ·have e2:wA a ms.length j≠m:=fun h=>e ((uF ha hj hm).1 h)
  rw [if_neg (fun h=>e h.1)]
  have:iu a ms.length m j=iu a ms.length (m+1) j:=by
   unfold iu
   by_cases h:wA a ms.length j<m
   ·rw [if_pos h,if_pos (by omega)]
   ·rw [if_neg h,if_neg (by omega)]
  rw [this]
theorem vp{q:Int}{cs:List Int}{ms:List M3}{a m:Nat}(ha:a<ms.length)(hm:m≤ms.length)(hl:yE cs ms)
 (hf:∀i,i<ms.length→0<cs.getD i 0→(ms.getD i M3.z).c+q*(ms.getD i M3.z).w<cs.getD i 0) (hq:∀i,i<ms.length→0≤q*(ms.getD i M3.z).w):
 iS cs (bR q cs (iu a ms.length m) ms,fS a ms.length m)=false:=by
 have hp:fS a ms.length m<ms.length:=by unfold fS;split <;>omega
 rw [rdyT_false]
 intro hw
 show ((bR q cs (iu a ms.length m) ms).getD (fS a ms.length m) M3.z).c<_
 rw [cY hp,if_pos hw]
 have h1:=hf _ hp hw
 have h2:=hq _ hp
 show _+iu a ms.length m _*(q*_)<cs.getD (fS a ms.length m) 0
 have h3:iu a ms.length m (fS a ms.length m)=1∨iu a ms.length m (fS a ms.length m)=0:=by unfold iu;split <;>simp
 rcases h3 with h3|h3 <;>rw [h3] <;>omega
theorem Ao{q:Int}{cs:List Int}{ms:List M3}{a:Nat}(ha:a<ms.length)(hl:yE cs ms)
 (hf:∀i,i<ms.length→0<cs.getD i 0→(ms.getD i M3.z).c+q*(ms.getD i M3.z).w<cs.getD i 0) (hq:∀i,i<ms.length→0≤q*(ms.getD i M3.z).w) {t:TS}
 (h:TakeR q cs (bR q cs (fun _=>1) ms,a) t):TakeR q cs (ms,a) t:=by
 have key:∀d,d≤ms.length→TakeR q cs (bR q cs (iu a ms.length (ms.length-d)) ms,fS a ms.length (ms.length-d)) t:=by
  intro d
  induction d with
  |zero=>
   intro _
   have e1:fS a ms.length (ms.length-0)=a:=by unfold fS;split <;>omega
   have e2:bR q cs (iu a ms.length (ms.length-0)) ms=bR q cs (fun _=>1) ms:=by
    refine ij (by rw [dg,dg]) fun j hj=>?_
    rw [dg] at hj
    rw [cY hj,cY hj]
    have:iu a ms.length (ms.length-0) j=1:=by unfold iu wA;split <;>rw [if_pos (by omega)]
    rw [this]
   rw [e1,e2];exact h
  |succ d ih=>
   intro hd
   have:=ih (by omega)
   have e:ms.length-d=ms.length- (d+1)+1:=by omega
   rw [e,←y7 ha (by omega) hl] at this
   exact .next (vp ha (by omega) hl hf hq) this
 have h0:=key ms.length (Nat.le_refl _)
 rw [Nat.sub_self] at h0
 have e1:fS a ms.length 0=a:=by unfold fS;split <;>omega
 have e2:bR q cs (iu a ms.length 0) ms=ms:=by
  refine ij (by rw [dg]) fun j hj=>?_
  rw [dg] at hj
  rw [cY hj]
  have:iu a ms.length 0 j=0:=by unfold iu;rw [if_neg (by omega)]
  rw [this];split
  ·simp
  ·rfl
 rw [e1,e2] at h0;exact h0
theorem wV{q:Int}{cs:List Int}:∀(r:Nat) {ms:List M3} {a:Nat} (ha:a<ms.length) (hl:yE cs ms)
 (hf:∀i,i<ms.length→0<cs.getD i 0→(ms.getD i M3.z).c+(r:Int)*(q*(ms.getD i M3.z).w)<cs.getD i 0) (hq:∀i,i<ms.length→0≤q*(ms.getD i M3.z).w) {t:TS}
 (h:TakeR q cs (bR q cs (fun _=>(r:Int)) ms,a) t),TakeR q cs (ms,a) t:=by
 intro r
 induction r with
 |zero=>
  intro ms a ha hl hf hq t h
  have e2:bR q cs (fun _=>((0:Nat):Int)) ms=ms:=by
   refine ij (by rw [dg]) fun j hj=>?_
   rw [dg] at hj
   rw [cY hj];split
   ·simp
   ·rfl
  rw [e2] at h;exact h
 |succ r ih=>
  intro ms a ha hl hf hq t h
  have hr:∀i,0≤(r:Int)*(q*(ms.getD i M3.z).w)∨¬i<ms.length:=fun i=>by
   by_cases hi:i<ms.length
   ·exact .inl (Int.mul_nonneg (by omega) (hq i hi))
   ·exact .inr hi
  have hx:∀i,((r+1:Nat):Int)*(q*(ms.getD i M3.z).w)=(r:Int)*(q*(ms.getD i M3.z).w)+q*(ms.getD i M3.z).w:=fun i=>by
   rw [show ((r+1:Nat):Int)=(r:Int)+1 by omega,Int.add_mul,Int.one_mul]
  have hf1:∀i,i<ms.length→0<cs.getD i 0→(ms.getD i M3.z).c+q*(ms.getD i M3.z).w<cs.getD i 0:=fun i hi hw=>by
   have h1:=hf i hi hw;have h2:=hr i;rw [hx] at h1;omega
  refine Ao ha hl hf1 hq ?_
  have hlen:=dg q cs (fun _=>1) ms
  refine ih (by rw [hlen];exact ha) ?_ ?_ ?_ ?_
  ·intro i hi
   rw [hlen] at hi
   rw [cY hi]
   refine ⟨fun e=>by rw [if_neg (by omega)];exact (hl i hi).1 e,fun hw=>by rw [if_pos hw];have:=hf1 i hi hw;show _+1*_<_;omega,(hl i hi).2.2⟩
  ·intro i hi hw
   rw [hlen] at hi
   rw [cY hi,if_pos hw]
   have h1:=hf i hi hw;rw [hx] at h1
   show (ms.getD i M3.z).c+1*(q*(ms.getD i M3.z).w)+(r:Int)*(q*(ms.getD i M3.z).w)<_;omega
  ·intro i hi
   rw [hlen] at hi
   rw [cY hi];split
   ·exact hq i hi
   ·exact hq i hi
  ·have e2:bR q cs (fun _=>(r:Int)) (bR q cs (fun _=>1) ms)=bR q cs (fun _=>((r+1:Nat):Int)) ms:=by
    refine ij (by rw [dg,dg,dg]) fun j hj=>?_
    rw [dg,hlen] at hj
    rw [cY (by rw [hlen];exact hj),cY hj,cY hj]
    by_cases hw:0<cs.getD j 0
    ·rw [if_pos hw,if_pos hw,if_pos hw]
     congr 1
     rw [hx]
     show (ms.getD j M3.z).c+1*(q*(ms.getD j M3.z).w)+(r:Int)*(q*(ms.getD j M3.z).w)=_;omega
    ·rw [if_neg hw,if_neg hw,if_neg hw]
   rw [e2];exact h
def jF(c:Int):Bool:=decide (1≤c∧c≤1048576)
def gW(l:List (Int×Int))(id:Int):Int:=match l.find? (fun e=>e.1==id && jF e.2) with
 |some e=>e.2
 |none=>0
def c8(ms:List M3)(l:List (Int×Int)):List Int:=ms.map fun m=>gW l m.id
def il(cs:List Int):Bool:=cs.any fun c=>decide (0<c)
theorem g8(ms:List M3)(l:List (Int×Int)):(c8 ms l).length=ms.length:=by simp [c8]
theorem eW{ms:List M3}{l:List (Int×Int)}{i:Nat}(h:i<ms.length):(c8 ms l).getD i 0=gW l (ms.getD i M3.z).id:=by simp [c8,List.getD,h]
theorem vL(l:List (Int×Int))(id:Int):0≤gW l id∧gW l id≤1048576:=by
 unfold gW
 split
 ·rename_i e h
  have:=List.find?_some h
  simp only [Bool.and_eq_true,jF,decide_eq_true_eq] at this
  omega
 ·omega
theorem vy(ms:List M3)(l:List (Int×Int))(i:Nat):0≤(c8 ms l).getD i 0∧(c8 ms l).getD i 0≤1048576:=by
 rcases Nat.lt_or_ge i ms.length with h|h
 ·rw [eW h];exact vL _ _
 ·rw [show (c8 ms l).getD i 0=0 from by simp [List.getD,c8,List.getElem?_eq_none h]];omega
theorem kl(l:List (Int×Int))(e:Int×Int)(id:Int):gW (l++[e]) id=if gW l id=0 then (if e.1=id∧1≤e.2∧e.2≤1048576 then e.2 else 0) else gW l id:=by
 unfold gW
 rw [List.find?_append]
 cases hf:l.find? (fun e=>e.1==id && jF e.2) with
 |some x=>
  have:=List.find?_some hf
  simp only [Bool.and_eq_true,jF,decide_eq_true_eq] at this
  rw [Option.some_or]
  show x.2=if x.2=0 then _ else x.2
  rw [if_neg (by omega)]
 |none=>
  rw [Option.none_or]
  show _=if (0:Int)=0 then _ else _
  rw [if_pos rfl]
  by_cases hc:e.1=id∧1≤e.2∧e.2≤1048576
  ·rw [if_pos hc]
   have:(e.1==id && jF e.2)=true:=by simp [jF,hc]
   rw [List.find?_cons,this]
  ·rw [if_neg hc]
   have:(e.1==id && jF e.2)=false:=by
    rw [Bool.and_eq_false_iff]
    by_cases h1:e.1=id
    ·right;simp only [jF,decide_eq_false_iff_not];exact fun h=>hc ⟨h1,h⟩
    ·left;simp [h1]
   rw [List.find?_cons,this,List.find?_nil]
def dS(ms:List M3)(id:Int):Int:=if ms.findIdx (fun m=>decide (m.id=id))<ms.length then ((ms.findIdx (fun m=>decide (m.id=id)):Nat):Int) else -1
theorem iA(ms:List M3)(id:Int):(∃k:Nat,dS ms id=(k:Int)∧k<ms.length∧(ms.getD k M3.z).id=id)∨(dS ms id= -1∧∀m∈ms,m.id≠id):=by
 unfold dS
 by_cases h:ms.findIdx (fun m=>decide (m.id=id))<ms.length
 ·left
  rw [if_pos h]
  refine ⟨_,rfl,h,?_⟩
  have:=List.findIdx_getElem (w:=h)
  simp only [decide_eq_true_eq] at this
  simp only [List.getD,List.getElem?_eq_getElem h,Option.getD_some];exact this
 ·right
  rw [if_neg h]
  refine ⟨rfl,fun m hm e=>h (List.findIdx_lt_length.2 ⟨m,hm,by simpa using e⟩)⟩
theorem pT{ms:List M3}(h:(ms.map (·.id)).Nodup){i j:Nat}(hi:i<ms.length)(hj:j<ms.length)(e:(ms.getD i M3.z).id=(ms.getD j M3.z).id):i=j:=by
 have h1:(ms.map (·.id))[i]?=some (ms.getD i M3.z).id:=by simp [List.getD,hi]
 have h2:(ms.map (·.id))[j]?=some (ms.getD j M3.z).id:=by simp [List.getD,hj]
 have:=List.getElem?_inj (l:=ms.map (·.id)) (i:=i) (j:=j) (by simpa using hi) h
 exact this.1 (by rw [h1,h2,e])
theorem rZ{l:List Int}{i j:Nat}(v:Int)(h:i≠j):(l.set i v).getD j 0=l.getD j 0:=by simp only [List.getD];rw [List.getElem?_set_ne h]
theorem iR{ms:List M3}{l:List (Int×Int)}{e:Int×Int}(h:(ms.map (·.id)).Nodup):
 c8 ms (l++[e])=(if 0≤dS ms e.1∧(c8 ms l).getD (dS ms e.1).toNat 0=0∧1≤e.2∧e.2≤1048576 then (c8 ms l).set (dS ms e.1).toNat e.2 else c8 ms l):=by
 have ext:∀{a b:List Int},a.length=b.length→(∀i,i<a.length→a.getD i 0=b.getD i 0)→a=b:=fun {a b} h hh=>by
  refine List.ext_getElem h fun i h1 h2=>?_
  have:=hh i h1
  simpa [List.getD,h1,h2] using this
 rcases iA ms e.1 with ⟨k,hk,hkl,hid⟩| ⟨hn,hno⟩
 ·rw [hk,Int.toNat_natCast]
  by_cases hc:(c8 ms l).getD k 0=0∧1≤e.2∧e.2≤1048576
  ·rw [if_pos ⟨by omega,hc⟩]
   refine ext (by simp [c8]) fun i hi=>?_
   rw [g8] at hi
   rw [eW hi,kl]
   by_cases ei:i=k
   ·subst ei
    have h0:=hc.1;rw [eW hi] at h0
    rw [if_pos h0,if_pos ⟨hid.symm,hc.2⟩]
    simp [List.getD,c8,hi]
   ·have hne:¬e.1=(ms.getD i M3.z).id:=fun h'=>ei (pT h hi hkl (by rw [hid,h']))
    rw [rZ _ (fun h=>ei h.symm),eW hi];split
    ·rename_i h0;rw [if_neg (fun hh=>hne hh.1)];exact h0.symm
    ·rfl
  ·rw [if_neg (fun hh=>hc hh.2)]
   refine ext (by simp [c8]) fun i hi=>?_
   rw [g8] at hi
   rw [eW hi,eW hi,kl]
   split
   ·rename_i h0
    by_cases ei:i=k
    ·subst ei;rw [eW hi] at hc;rw [if_neg (fun hh=>hc ⟨h0,hh.2⟩)];exact h0.symm
    ·have hne:¬e.1=(ms.getD i M3.z).id:=fun h'=>ei (pT h hi hkl (by rw [hid,h']))
     rw [if_neg (fun hh=>hne hh.1)];exact h0.symm
   ·rfl
 ·rw [if_neg (by omega)]
  refine ext (by simp [c8]) fun i hi=>?_
  rw [g8] at hi
  rw [eW hi,eW hi,kl]
  split
  ·rename_i h0
   rw [if_neg (fun hh=>hno _ (show ms.getD i M3.z∈ms by simp [List.getD,hi]) hh.1.symm)];exact h0.symm
  ·rfl
theorem oK(ms:List M3):c8 ms []=List.replicate ms.length 0:=by
 unfold c8 gW;induction ms <;>simp_all [List.replicate]
theorem tg{cs:List Int}{i:Nat}{c:Int}(h:i<cs.length)(hc:1≤c):il (cs.set i c)=true:=by
 unfold il;rw [List.any_eq_true]
 refine ⟨c,?_,by simp;omega⟩
 have:=List.getElem_mem (l:=cs.set i c) (n:=i) (by simpa using h)
 simpa using this
theorem sY(n:Nat):il (List.replicate n 0)=false:=by
 unfold il;rw [List.any_eq_false];intro x hx
 rw [List.eq_of_mem_replicate hx];simp
theorem anyPos_iff{cs:List Int}:il cs=true↔∃i,i<cs.length∧0<cs.getD i 0:=by
 unfold il;rw [List.any_eq_true]
 constructor
 ·rintro ⟨x,hx,h⟩
  obtain ⟨i,hi,e⟩:=List.getElem_of_mem hx
  exact ⟨i,hi,by simp only [List.getD,List.getElem?_eq_getElem hi,Option.getD_some,e];simpa using h⟩
 ·rintro ⟨i,hi,h⟩
  exact ⟨cs[i],List.getElem_mem hi,by simp only [List.getD,List.getElem?_eq_getElem hi,Option.getD_some] at h;simpa using h⟩
theorem TakeR.unstep{q:Int}{cs:List Int}{s t:TS}(h:TakeR q cs s t)(hr:iS cs s=false):TakeR q cs (gY q cs s) t:=by
 obtain ⟨k,hk⟩:=h
 cases k with
 |zero=>cases hk
 |succ k=>unfold tJ at hk;rw [hr,cond_false] at hk;exact ⟨k,hk⟩
def gP(a n i:Nat):Nat:=if a≤i then i-a else i+n-a
def nm(a n k:Nat):Nat:=if k<n then fS a n k else fS a n (k-n)
structure TInv(q:Int)(cs:List Int)(ms0:List M3)(a0:Nat)(ms:List M3)(a k:Nat):Prop where
 len:ms.length=ms0.length
 a0l:a0<ms0.length
 pos:a=nm a0 ms0.length k
 k2:k<2*ms0.length
 red:∀t,TakeR q cs (ms,a) t→TakeR q cs (ms0,a0) t
 same:∀i,i<ms0.length→(ms.getD i M3.z).id=(ms0.getD i M3.z).id∧(ms.getD i M3.z).w=(ms0.getD i M3.z).w
 gn:∀i,i<ms0.length→1≤q*(ms0.getD i M3.z).w∧q*(ms0.getD i M3.z).w≤104857600
 csb:∀i,0≤cs.getD i 0∧cs.getD i 0≤1048576
 cr:∀i,i<ms0.length→0≤(ms.getD i M3.z).c∧(ms.getD i M3.z).c≤1048576+(if i=a then q*(ms0.getD i M3.z).w else 0)
 vis:k<ms0.length→∀i,i<ms0.length→gP a0 ms0.length i<k→(cs.getD i 0=0→(ms.getD i M3.z).c=0)∧(0<cs.getD i 0→(ms.getD i M3.z).c<cs.getD i 0)
 ph2:ms0.length≤k→∃j,j<ms0.length∧0<cs.getD j 0∧k≤ms0.length+gP a0 ms0.length j∧cs.getD j 0≤(ms.getD j M3.z).c+(if k=ms0.length+gP a0 ms0.length j then 0 else q*(ms0.getD j M3.z).w)
theorem TInv.al{q:Int}{cs:List Int}{ms0 ms:List M3}{a0 a k:Nat}(h:TInv q cs ms0 a0 ms a k):a<ms0.length:=by
 have h1:=h.a0l;have h2:=h.k2;rw [h.pos];unfold nm fS;split <;>split <;>omega
theorem TInv.off{q:Int}{cs:List Int}{ms0 ms:List M3}{a0 a k:Nat}(h:TInv q cs ms0 a0 ms a k):gP a0 ms0.length a=(if k<ms0.length then k else k-ms0.length):=by
 have h1:=h.a0l;have h2:=h.k2;rw [h.pos];unfold gP nm fS;split <;>split <;>split <;>omega
theorem ss{a n k:Nat}(ha:a<n)(hk:k+1<2*n):ch (nm a n k) n=nm a n (k+1):=by
 unfold ch nm fS;split <;>split <;>split <;>split <;>split <;>omega
theorem kJ{a n i j:Nat}(ha:a<n)(hi:i<n)(hj:j<n)(h:gP a n i=gP a n j):i=j:=by
 unfold gP at h;split at h <;>split at h <;>omega
theorem yt{q:Int}{cs:List Int}{ms:List M3}{a:Nat}(ha:a<ms.length){i:Nat}(hi:i<ms.length):(gY q cs (ms,a)).1.getD i M3.z=⟨(ms.getD i M3.z).id,(ms.getD i M3.z).w,
 (if i=a∧cs.getD i 0=0 then 0 else (ms.getD i M3.z).c)+(if i=ch a ms.length∧0<cs.getD i 0 then q*(ms.getD i M3.z).w else 0)⟩:=by
 have hn:=jr ha
 show (ew q cs (aO cs ms a) (ch a ms.length)).getD i M3.z=_
 rw [mT (by rw [fB];exact hn),hZ ha]
 by_cases c1:i=ch a ms.length∧0<cs.getD i 0
 ·by_cases c2:i=a∧cs.getD i 0=0
  ·simp only [if_pos c1,if_pos c2]
  ·simp only [if_pos c1,if_neg c2]
 ·by_cases c2:i=a∧cs.getD i 0=0
  ·simp only [if_neg c1,if_pos c2,Int.add_zero]
  ·simp only [if_neg c1,if_neg c2,Int.add_zero]
theorem TInv.init{q:Int}{cs:List Int}{ms:List M3}{a:Nat}(ha:a<ms.length)(gn:∀i,i<ms.length→1≤q*(ms.getD i M3.z).w∧q*(ms.getD i M3.z).w≤104857600)(csb:∀i,0≤cs.getD i 0∧cs.getD i 0≤1048576)
 (cr:∀i,i<ms.length→0≤(ms.getD i M3.z).c∧(ms.getD i M3.z).c≤1048576+(if i=a then q*(ms.getD i M3.z).w else 0)):TInv q cs ms a ms a 0:=
 ⟨rfl,ha,by unfold nm fS;split <;>split <;>omega,by omega,fun t h=>h,fun i _=>⟨rfl,rfl⟩,gn,csb,cr,fun _ i _ h=>by omega,fun h=>by omega⟩
theorem TInv.k_lt{q:Int}{cs:List Int}{ms0 ms:List M3}{a0 a k:Nat}(h:TInv q cs ms0 a0 ms a k)(hr:iS cs (ms,a)=false):k+1<2*ms0.length∧(ms0.length≤k→∃j,j<ms0.length∧0<cs.getD j 0∧k+1≤ms0.length+gP a0 ms0.length j∧cs.getD j 0≤(ms.getD j M3.z).c+q*(ms0.getD j M3.z).w):=by
 have hal:=h.al;have h0:=h.a0l;have hof:=h.off
 rcases Nat.lt_or_ge k ms0.length with hk|hk
 ·exact ⟨by omega,fun h'=>by omega⟩
 ·obtain ⟨j,h1,h2,h3,h4⟩:=h.ph2 hk
  have hjo:gP a0 ms0.length j<ms0.length:=by unfold gP;split <;>omega
  by_cases e:k=ms0.length+gP a0 ms0.length j
  ·exfalso
   rw [if_pos e] at h4
   rw [if_neg (by omega)] at hof
   have:j=a:=kJ h0 h1 hal (by omega)
   subst this
   have:=rdyT_false.1 hr h2;simp only at this;omega
  ·rw [if_neg e] at h4
   exact ⟨by omega,fun _=>⟨j,h1,h2,by omega,h4⟩⟩
theorem TInv.step{q:Int}{cs:List Int}{ms0 ms:List M3}{a0 a k:Nat}(h:TInv q cs ms0 a0 ms a k)(hr:iS cs (ms,a)=false)(hk:k+1≠ms0.length):TInv q cs ms0 a0 (gY q cs (ms,a)).1 (ch a ms0.length) (k+1):=by
 have hal:=h.al;have h0:=h.a0l;have hof:=h.off;have hk2:=(h.k_lt hr).1
 have hlen:=h.len
 have hpos:ch a ms0.length=nm a0 ms0.length (k+1):=by rw [h.pos];exact ss h0 hk2
 have hrd:=rdyT_false.1 hr;simp only at hrd
 have hg:∀i,i<ms0.length→(gY q cs (ms,a)).1.getD i M3.z=⟨(ms.getD i M3.z).id,(ms.getD i M3.z).w,
  (if i=a∧cs.getD i 0=0 then 0 else (ms.getD i M3.z).c)+(if i=ch a ms0.length∧0<cs.getD i 0 then q*(ms0.getD i M3.z).w else 0)⟩:=fun i hi=>by
   rw [yt (by omega) (by omega),hlen,(h.same i hi).2]
 refine ⟨by rw [pJ];exact hlen,h0,hpos,by omega,fun t ht=>h.red t (.next hr (by rw [←hlen] at ht;exact ht)),fun i hi=>by rw [hg i hi];exact h.same i hi,h.gn,h.csb,?_,?_,?_⟩
 ·intro i hi
  rw [hg i hi]
  have hc:=h.cr i hi;have hgn:=h.gn i hi;have hb:=h.csb a;have hb2:=h.csb i
  show 0≤(if i=a∧cs.getD i 0=0 then 0 else (ms.getD i M3.z).c)+(if i=ch a ms0.length∧0<cs.getD i 0 then q*(ms0.getD i M3.z).w else 0)∧(if i=a∧cs.getD i 0=0 then 0 else (ms.getD i M3.z).c)+(if i=ch a ms0.length∧0<cs.getD i 0 then q*(ms0.getD i M3.z).w else 0)≤1048576+(if i=ch a ms0.length then q*(ms0.getD i M3.z).w else 0)
  have hx:0≤(if i=a∧cs.getD i 0=0 then 0 else (ms.getD i M3.z).c)∧(if i=a∧cs.getD i 0=0 then 0 else (ms.getD i M3.z).c)≤1048576:=by
   by_cases e:i=a
   ·subst e
    by_cases e2:cs.getD i 0=0
    ·rw [if_pos ⟨rfl,e2⟩];omega
    ·rw [if_neg (fun h=>e2 h.2)];have:=hrd (by omega);omega
   ·rw [if_neg (fun h=>e h.1)];rw [if_neg e] at hc;omega
  generalize (if i=a∧cs.getD i 0=0 then 0 else (ms.getD i M3.z).c)=x at hx
  by_cases e:i=ch a ms0.length
  ·rw [if_pos e]
   by_cases e2:0<cs.getD i 0
   ·rw [if_pos ⟨e,e2⟩];omega
   ·rw [if_neg (fun h=>e2 h.2)];omega
  ·rw [if_neg e,if_neg (fun h=>e h.1)];omega
 ·intro hk1 i hi ho
  have hkl:k<ms0.length:=by omega
  rw [if_pos hkl] at hof
  rw [hg i hi]
  show (cs.getD i 0=0→(if i=a∧cs.getD i 0=0 then 0 else (ms.getD i M3.z).c)+(if i=ch a ms0.length∧0<cs.getD i 0 then q*(ms0.getD i M3.z).w else 0)=0)∧(0<cs.getD i 0→(if i=a∧cs.getD i 0=0 then 0 else (ms.getD i M3.z).c)+(if i=ch a ms0.length∧0<cs.getD i 0 then q*(ms0.getD i M3.z).w else 0)<cs.getD i 0)
  have hni:i≠ch a ms0.length:=fun e=>by
   have:gP a0 ms0.length (ch a ms0.length)=k+1:=by rw [hpos];unfold gP nm fS;split <;>split <;>split <;>omega
   rw [←e] at this;omega
  have c1:¬(i=ch a ms0.length∧0<cs.getD i 0):=fun h=>hni h.1
  simp only [if_neg c1,Int.add_zero]
  by_cases e:i=a
  ·subst e
   exact ⟨fun e2=>by rw [if_pos ⟨rfl,e2⟩],fun e2=>by rw [if_neg (fun h=>by omega)];exact hrd e2⟩
  ·have c2:¬(i=a∧cs.getD i 0=0):=fun h=>e h.1
   simp only [if_neg c2]
   have ho2:gP a0 ms0.length i≠k:=fun e2=>e (kJ h0 hi hal (by omega))
   exact h.vis hkl i hi (by omega)
 ·intro hk1
  obtain ⟨j,h1,h2,h3,h4⟩:=(h.k_lt hr).2 (by omega)
  refine ⟨j,h1,h2,h3,?_⟩
  rw [hg j h1]
  show _≤(if j=a∧cs.getD j 0=0 then 0 else (ms.getD j M3.z).c)+(if j=ch a ms0.length∧0<cs.getD j 0 then q*(ms0.getD j M3.z).w else 0)+_
  have c2:¬(j=a∧cs.getD j 0=0):=fun h=>by omega
  simp only [if_neg c2]
  have hgn:=h.gn j h1
  by_cases e:k+1=ms0.length+gP a0 ms0.length j
  ·have:j=ch a ms0.length:=by
    have hnl:=jr hal
    refine kJ h0 h1 hnl ?_
    have:gP a0 ms0.length (ch a ms0.length)=k+1-ms0.length:=by rw [hpos];unfold gP nm fS;split <;>split <;>split <;>omega
    omega
   rw [if_pos ⟨this,h2⟩,if_pos e];omega
  ·rw [if_neg e];split <;>omega
theorem TInv.low{q:Int}{cs:List Int}{ms0 ms:List M3}{a0 a k:Nat}(h:TInv q cs ms0 a0 ms a k)(hr:iS cs (ms,a)=false)(hk:k+1=ms0.length):yE cs (aO cs ms a):=by
 have hal:=h.al;have h0:=h.a0l;have hof:=h.off;have hlen:=h.len
 have hrd:=rdyT_false.1 hr;simp only at hrd
 intro i hi
 rw [fB] at hi
 rw [hZ (by omega)]
 refine ⟨fun e=>?_,fun e=>?_,(h.csb i).1⟩
 ·by_cases e2:i=a∧cs.getD i 0=0
  ·rw [if_pos e2]
  ·rw [if_neg e2]
   have:i≠a:=fun e3=>e2 ⟨e3,e⟩
   have ho2:gP a0 ms0.length i≠k:=fun e3=>this (kJ h0 (by omega) hal (by rw [if_pos (by omega)] at hof;omega))
   have hjo:gP a0 ms0.length i<ms0.length:=by unfold gP;split <;>omega
   exact (h.vis (by omega) i (by omega) (by omega)).1 e
 ·rw [if_neg (fun h=>by omega)]
  by_cases e3:i=a
  ·subst e3;exact hrd e
  ·have ho2:gP a0 ms0.length i≠k:=fun e4=>e3 (kJ h0 (by omega) hal (by rw [if_pos (by omega)] at hof;omega))
   have hjo:gP a0 ms0.length i<ms0.length:=by unfold gP;split <;>omega
   exact (h.vis (by omega) i (by omega) (by omega)).2 e
theorem TInv.skip{q:Int}{cs:List Int}{ms0 ms:List M3}{a0 a k:Nat}(h:TInv q cs ms0 a0 ms a k)(hr:iS cs (ms,a)=false)(hk:k+1=ms0.length)(r:Nat)
 (hub:∀i,i<ms0.length→0<cs.getD i 0→((aO cs ms a).getD i M3.z).c+(r:Int)*(q*((aO cs ms a).getD i M3.z).w)<cs.getD i 0)
 (hex:∃j,j<ms0.length∧0<cs.getD j 0∧cs.getD j 0≤((aO cs ms a).getD j M3.z).c+(r:Int)*(q*((aO cs ms a).getD j M3.z).w)+q*((aO cs ms a).getD j M3.z).w):
 TInv q cs ms0 a0 (ew q cs (bR q cs (fun _=>(r:Int)) (aO cs ms a)) (ch a ms0.length)) (ch a ms0.length) (k+1):=by
 have hal:=h.al;have h0:=h.a0l;have hof:=h.off;have hlen:=h.len;have hlow:=h.low hr hk
 have hnl:=jr hal
 have hzl:=fB cs ms a
 have hbl:=dg q cs (fun _=>(r:Int)) (aO cs ms a)
 have hz:∀i,i<ms0.length→((aO cs ms a).getD i M3.z).id=(ms0.getD i M3.z).id∧((aO cs ms a).getD i M3.z).w=(ms0.getD i M3.z).w∧0≤((aO cs ms a).getD i M3.z).c∧((aO cs ms a).getD i M3.z).c≤1048576:=fun i hi=>by
  have hs:=h.same i hi;have hc:=h.cr i hi;have hl:=hlow i (by omega)
  rw [hZ (by omega)] at hl⊢
  by_cases e:i=a∧cs.getD i 0=0
  ·rw [if_pos e];exact ⟨hs.1,hs.2,by show (0:Int)≤0;omega,by show (0:Int)≤1048576;omega⟩
  ·rw [if_neg e] at hl⊢
   refine ⟨hs.1,hs.2,hc.1,?_⟩
   have hb:=h.csb i
   by_cases e2:cs.getD i 0=0
   ·have:=hl.1 e2;omega
   ·have:=hl.2.1 (by omega);omega
 have hB:∀i,i<ms0.length→(bR q cs (fun _=>(r:Int)) (aO cs ms a)).getD i M3.z=if 0<cs.getD i 0 then ⟨((aO cs ms a).getD i M3.z).id,((aO cs ms a).getD i M3.z).w,((aO cs ms a).getD i M3.z).c+(r:Int)*(q*((aO cs ms a).getD i M3.z).w)⟩ else (aO cs ms a).getD i M3.z:=fun i hi=>cY (by omega)
 have hG:∀i,i<ms0.length→(ew q cs (bR q cs (fun _=>(r:Int)) (aO cs ms a)) (ch a ms0.length)).getD i M3.z=⟨(ms0.getD i M3.z).id,(ms0.getD i M3.z).w,
  (if 0<cs.getD i 0 then ((aO cs ms a).getD i M3.z).c+(r:Int)*(q*(ms0.getD i M3.z).w) else ((aO cs ms a).getD i M3.z).c)+(if i=ch a ms0.length∧0<cs.getD i 0 then q*(ms0.getD i M3.z).w else 0)⟩:=fun i hi=>by
  obtain ⟨z1,z2,_,_⟩:=hz i hi
  rw [mT (by omega)]
  rw [hB i hi]
  by_cases e:i=ch a ms0.length∧0<cs.getD i 0
  ·simp only [if_pos e,if_pos e.2,z1,z2]
  ·by_cases e2:0<cs.getD i 0
   ·simp only [if_neg e,if_pos e2,Int.add_zero,z1,z2]
   ·simp only [if_neg e,if_neg e2,Int.add_zero,←z1,←z2]
 have hpos:ch a ms0.length=nm a0 ms0.length (k+1):=by rw [h.pos];exact ss h0 (by omega)
 refine ⟨by rw [kF];omega,h0,hpos,by omega,?_,fun i hi=>by rw [hG i hi];exact ⟨rfl,rfl⟩,h.gn,h.csb,?_,fun hk1=>by omega,?_⟩
 ·intro t ht
  refine h.red t ?_
  have hnr1:iS cs (aO cs ms a,a)=false:=rdyT_false.2 (hlow a (by omega)).2.1
  have hzz:aO cs (aO cs ms a) a=aO cs ms a:=by
   refine ij (by rw [fB]) fun j hj=>?_
   rw [fB] at hj
   rw [hZ (by omega)]
   by_cases e:j=a∧cs.getD j 0=0
   ·rw [if_pos e,hZ (by omega),if_pos e]
   ·rw [if_neg e]
  have hst:gY q cs (aO cs ms a,a)=gY q cs (ms,a):=by
   unfold gY;simp only [hzz,hzl]
  refine .next hr ?_
  rw [←hst]
  refine TakeR.unstep ?_ hnr1
  refine wV r (by omega) hlow (fun i hi hw=>hub i (by omega) hw) (fun i hi=>by rw [(hz i (by omega)).2.1];have:=h.gn i (by omega);omega) ?_
  refine .next (rdyT_false.2 (fun hw=>by show ((bR q cs (fun _=>(r:Int)) (aO cs ms a)).getD a M3.z).c<_;rw [hB a hal,if_pos hw];exact hub a hal hw)) ?_
  have hz2:aO cs (bR q cs (fun _=>(r:Int)) (aO cs ms a)) a=bR q cs (fun _=>(r:Int)) (aO cs ms a):=by
   refine ij (by rw [fB]) fun j hj=>?_
   rw [fB] at hj
   rw [hZ (by omega)]
   by_cases e:j=a∧cs.getD j 0=0
   ·rw [if_pos e,hB j (by omega),if_neg (by omega)]
    have:=(hlow j (by omega)).1 e.2
    rw [←this]
   ·rw [if_neg e]
  unfold gY
  simp only [hz2,hbl,hzl,hlen]
  exact ht
 ·intro i hi
  rw [hG i hi]
  obtain ⟨z1,z2,z3,z4⟩:=hz i hi
  have hgn:=h.gn i hi;have hb:=h.csb i
  show 0≤(if 0<cs.getD i 0 then ((aO cs ms a).getD i M3.z).c+(r:Int)*(q*(ms0.getD i M3.z).w) else ((aO cs ms a).getD i M3.z).c)+(if i=ch a ms0.length∧0<cs.getD i 0 then q*(ms0.getD i M3.z).w else 0)∧_+(if i=ch a ms0.length∧0<cs.getD i 0 then q*(ms0.getD i M3.z).w else 0)≤_
  by_cases e2:0<cs.getD i 0
  ·have hu:=hub i hi e2
   rw [z2] at hu
   have hp:0≤(r:Int)*(q*(ms0.getD i M3.z).w):=Int.mul_nonneg (by omega) (by omega)
   rw [if_pos e2]
   by_cases e3:i=ch a ms0.length
   ·rw [if_pos e3,if_pos ⟨e3,e2⟩];omega
   ·rw [if_neg e3,if_neg (fun h=>e3 h.1)];omega
  ·rw [if_neg e2,if_neg (fun h=>e2 h.2)];split <;>omega
 ·intro _
  obtain ⟨j,h1,h2,h3⟩:=hex
  have hjo:gP a0 ms0.length j<ms0.length:=by unfold gP;split <;>omega
  have hgn:=h.gn j h1
  refine ⟨j,h1,h2,by omega,?_⟩
  rw [(hz j h1).2.1] at h3
  rw [hG j h1]
  show _≤(if 0<cs.getD j 0 then ((aO cs ms a).getD j M3.z).c+(r:Int)*(q*(ms0.getD j M3.z).w) else ((aO cs ms a).getD j M3.z).c)+(if j=ch a ms0.length∧0<cs.getD j 0 then q*(ms0.getD j M3.z).w else 0)+_
  rw [if_pos h2]
  by_cases e:k+1=ms0.length+gP a0 ms0.length j
  ·have:j=ch a ms0.length:=by
    refine kJ h0 h1 hnl ?_
    have:gP a0 ms0.length (ch a ms0.length)=k+1-ms0.length:=by rw [hpos];unfold gP nm fS;split <;>split <;>split <;>omega
    omega
   rw [if_pos ⟨this,h2⟩,if_pos e];omega
  ·rw [if_neg e];split <;>omega
theorem TInv.step'{q:Int}{cs:List Int}{ms0 ms:List M3}{a0 a k:Nat}(h:TInv q cs ms0 a0 ms a k)(hr:iS cs (ms,a)=false)(hk:k+1≠ms0.length):
 TInv q cs ms0 a0 (ew q cs (aO cs ms a) (ch a ms0.length)) (ch a ms0.length) (k+1):=by
 have:=h.step hr hk
 unfold gY at this;simp only [h.len] at this;exact this
theorem TInv.zfacts{q:Int}{cs:List Int}{ms0 ms:List M3}{a0 a k:Nat}(h:TInv q cs ms0 a0 ms a k)(i:Nat)(hi:i<ms0.length):
 1≤q*((aO cs ms a).getD i M3.z).w∧q*((aO cs ms a).getD i M3.z).w≤104857600∧0≤((aO cs ms a).getD i M3.z).c∧((aO cs ms a).getD i M3.z).c≤106000000:=by
 have hs:=h.same i hi;have hc:=h.cr i hi;have hg:=h.gn i hi;have hl:=h.len
 rw [hZ (by have:=h.al;omega)]
 by_cases e:i=a∧cs.getD i 0=0
 ·rw [if_pos e];show 1≤q*(ms.getD i M3.z).w∧q*(ms.getD i M3.z).w≤_∧(0:Int)≤0∧(0:Int)≤_
  rw [hs.2];omega
 ·rw [if_neg e,hs.2];split at hc <;>omega
def fZ(q:Int)(cs:List Int)(r i:Nat)(ms:List M3):List M3:=bR q cs (fun j=>if j<i then (r:Int) else 0) ms
theorem fa(q:Int)(cs:List Int)(r i:Nat)(ms:List M3):(fZ q cs r i ms).length=ms.length:=dg _ _ _ _
theorem sO(q:Int)(cs:List Int)(r:Nat)(ms:List M3):fZ q cs r 0 ms=ms:=by
 refine ij (fa _ _ _ _ _) fun j hj=>?_
 rw [fa] at hj
 unfold fZ;rw [cY hj];split
 ·simp
 ·rfl
theorem oV{q:Int}{cs:List Int}{r i:Nat}{ms:List M3}(h:i<ms.length):(fZ q cs r i ms).getD i M3.z=ms.getD i M3.z:=by
 unfold fZ;rw [cY h];split
 ·simp
 ·rfl
theorem vK{q:Int}{cs:List Int}{r i:Nat}{ms:List M3}(h:i<ms.length)(hw:cs.getD i 0>0):hU (fZ q cs r i ms) i ((ms.getD i M3.z).c+(r:Int)*(q*(ms.getD i M3.z).w))=fZ q cs r (i+1) ms:=by
 refine ij (by rw [gk,fa,fa]) fun j hj=>?_
 rw [gk,fa] at hj
 rw [gS (by rw [fa];exact h)]
 by_cases e:j=i
 ·subst e;rw [if_pos rfl,oV hj];unfold fZ;rw [cY hj,if_pos hw];simp
 ·rw [if_neg e];unfold fZ;rw [cY hj,cY hj]
  have:(if j<i then (r:Int) else 0)=(if j<i+1 then (r:Int) else 0):=by
   by_cases h1:j<i
   ·rw [if_pos h1,if_pos (by omega)]
   ·rw [if_neg h1,if_neg (by omega)]
  simp only [this]
theorem yH{q:Int}{cs:List Int}{r i:Nat}{ms:List M3}(hw:¬cs.getD i 0>0):fZ q cs r i ms=fZ q cs r (i+1) ms:=by
 refine ij (by rw [fa,fa]) fun j hj=>?_
 rw [fa] at hj
 unfold fZ;rw [cY hj,cY hj]
 by_cases e:j=i
 ·subst e;rw [if_neg hw,if_neg hw]
 ·have:(if j<i then (r:Int) else 0)=(if j<i+1 then (r:Int) else 0):=by
   by_cases h1:j<i
   ·rw [if_pos h1,if_pos (by omega)]
   ·rw [if_neg h1,if_neg (by omega)]
  simp only [this]
theorem vT{q:Int}{cs:List Int}{r i:Nat}{ms:List M3}(h:ms.length≤i):fZ q cs r i ms=bR q cs (fun _=>(r:Int)) ms:=by
 refine ij (by rw [fa,dg]) fun j hj=>?_
 rw [fa] at hj
 unfold fZ;rw [cY hj,cY hj]
 have:(if j<i then (r:Int) else 0)=(r:Int):=if_pos (by omega)
 simp only [this]
structure SkInv(q:Int)(cs:List Int)(ms:List M3)(i r:Nat):Prop where
 r2:r≤1048576
 ub:∀j,j<i→0<cs.getD j 0→(ms.getD j M3.z).c+(r:Int)*(q*(ms.getD j M3.z).w)<cs.getD j 0
 ex:(r=1048576∧∀j,j<i→¬0<cs.getD j 0)∨∃j,j<i∧0<cs.getD j 0∧cs.getD j 0≤(ms.getD j M3.z).c+(r:Int)*(q*(ms.getD j M3.z).w)+q*(ms.getD j M3.z).w
theorem SkInv.zero(q:Int)(cs:List Int)(ms:List M3):SkInv q cs ms 0 1048576:=⟨Nat.le_refl _,fun j h=>by omega,.inl ⟨rfl,fun j h=>by omega⟩⟩
theorem SkInv.no{q:Int}{cs:List Int}{ms:List M3}{i r:Nat}(h:SkInv q cs ms i r)(hw:¬cs.getD i 0>0):SkInv q cs ms (i+1) r:=by
 refine ⟨h.r2,fun j hj h0=>?_,?_⟩
 ·by_cases e:j=i
  ·subst e;exact absurd h0 hw
  ·exact h.ub j (by omega) h0
 ·rcases h.ex with ⟨h1,h2⟩| ⟨j,h1,h2⟩
  ·refine .inl ⟨h1,fun j hj=>?_⟩
   by_cases e:j=i
   ·subst e;exact hw
   ·exact h2 j (by omega)
  ·exact .inr ⟨j,by omega,h2⟩
theorem SkInv.yes{q:Int}{cs:List Int}{ms:List M3}{i r:Nat}(h:SkInv q cs ms i r)(hw:cs.getD i 0>0)(hc:(ms.getD i M3.z).c<cs.getD i 0)(hc0:0≤(ms.getD i M3.z).c)(hb:cs.getD i 0≤1048576)
 (hg:∀j,j<i+1→1≤q*(ms.getD j M3.z).w):SkInv q cs ms (i+1) (min r ((cs.getD i 0- (ms.getD i M3.z).c-1)/ (q*(ms.getD i M3.z).w)).toNat):=by
 have hgi:=hg i (by omega)
 obtain ⟨x,hx⟩:∃x:Nat,(cs.getD i 0- (ms.getD i M3.z).c-1)/ (q*(ms.getD i M3.z).w)=(x:Int):=⟨_,(Int.toNat_of_nonneg (Int.ediv_nonneg (by omega) (by omega))).symm⟩
 have h1:=Int.mul_ediv_add_emod (cs.getD i 0- (ms.getD i M3.z).c-1) (q*(ms.getD i M3.z).w)
 have h2:=Int.emod_nonneg (cs.getD i 0- (ms.getD i M3.z).c-1) (show q*(ms.getD i M3.z).w≠0 by omega)
 have h3:=Int.emod_lt_of_pos (cs.getD i 0- (ms.getD i M3.z).c-1) (show 0<q*(ms.getD i M3.z).w by omega)
 rw [hx] at h1⊢
 rw [Int.toNat_natCast]
 have h4:q*(ms.getD i M3.z).w*(x:Int)=(x:Int)*(q*(ms.getD i M3.z).w):=Int.mul_comm _ _
 rw [h4] at h1
 have mono:∀(y z:Nat) (g:Int),y≤z→1≤g→(y:Int)*g≤(z:Int)*g:=fun y z g hyz hg=>Int.mul_le_mul_of_nonneg_right (by omega) (by omega)
 have hxb:(x:Int)≤1048575:=by
  have:=mono 1 1 (q*(ms.getD i M3.z).w) (by omega) hgi
  have h5:(x:Int)*1≤(x:Int)*(q*(ms.getD i M3.z).w):=Int.mul_le_mul_of_nonneg_left (by omega) (by omega)
  omega
 refine ⟨by have:=h.r2;omega,fun j hj h0=>?_,?_⟩
 ·by_cases e:j=i
  ·subst e
   have:=mono (min r x) x _ (by omega) hgi;omega
  ·have h6:=h.ub j (by omega) h0
   have:=mono (min r x) r _ (by omega) (hg j (by omega));omega
 ·right
  by_cases hm:r≤x
  ·rw [Nat.min_eq_left hm]
   rcases h.ex with ⟨h6,h7⟩| ⟨j,h6,h7⟩
   ·omega
   ·exact ⟨j,by omega,h7⟩
  ·rw [Nat.min_eq_right (by omega)]
   exact ⟨i,by omega,hw,by omega⟩
theorem SkInv.done{q:Int}{cs:List Int}{ms:List M3}{i n r:Nat}(h:SkInv q cs ms i r)(hi:n≤i)(hany:∃j,j<n∧0<cs.getD j 0)(hin:i≤n):
 ∃j,j<n∧0<cs.getD j 0∧cs.getD j 0≤(ms.getD j M3.z).c+(r:Int)*(q*(ms.getD j M3.z).w)+q*(ms.getD j M3.z).w:=by
 rcases h.ex with ⟨_,h2⟩| ⟨j,h1,h2⟩
 ·obtain ⟨j,h3,h4⟩:=hany;exact absurd h4 (h2 j (by omega))
 ·exact ⟨j,by omega,h2⟩
def hX(ms:List M3)(id w:Int):Int:=if w<1∨w>100 then 1 else if dS ms id≥0 then 8 else 0
def ir(ms:List M3)(id w:Int):List M3:=if hX ms id w=0 then ms++[⟨id,w,0⟩] else ms
def kC(ms:List M3)(id:Int):Int:=if dS ms id<0 then 6 else 0
def fo(ms:List M3)(id:Int):List M3:=if dS ms id<0 then ms else ms.eraseIdx (dS ms id).toNat
def gd(ms:List M3)(a:Nat)(id:Int):Nat:=if dS ms id<0 then a else if (if (dS ms id).toNat<a then a-1 else a)=ms.length-1 then 0 else (if (dS ms id).toNat<a then a-1 else a)
theorem p5(ms:List M3)(id:Int):dS ms id≥ -1∧dS ms id<ms.length:=by
 rcases iA ms id with ⟨k,h1,h2,_⟩| ⟨h1,_⟩ <;>omega
def BX(n:Int):Int:=min (max n 1) 1048576
end Go.Proofs.YtanfdikglplkaaaGreatDoor.Sp
namespace Go.Proofs.YtanfdikglplkaaaGreatDoor.Sp
open Go
variable{L:List HP}
def bJ{α:Type}(F:α→List Value)(xs:List α):List Value:=xs.flatMap F
theorem dQ{α:Type}{F:α→List Value}{n:Nat}(hF:∀x,(F x).length=n)(xs:List α):(bJ F xs).length=xs.length*n:=by
 unfold bJ
 induction xs with
 |nil=>simp
 |cons x xs ih=>rw [List.flatMap_cons,List.length_append,ih,hF,List.length_cons,Nat.succ_mul,Nat.add_comm]
theorem ki{α:Type}(F:α→List Value)(xs ys:List α):bJ F (xs++ys)=bJ F xs++bJ F ys:=by simp [bJ]
theorem iG{α:Type}(F:α→List Value)(xs:List α)(y:α):bJ F xs++F y=bJ F (xs++[y]):=by simp [bJ]
theorem o6{α:Type}{F:α→List Value}{n:Nat}(hF:∀x,(F x).length=n)(xs:List α)(k:Nat):(bJ F xs).take (k*n)=bJ F (xs.take k)∧(bJ F xs).drop (k*n)=bJ F (xs.drop k):=by
 rcases Nat.lt_or_ge xs.length k with h|h
 ·have hl:=dQ hF xs
  have hle:xs.length*n≤k*n:=Nat.mul_le_mul_right n (by omega)
  rw [List.take_of_length_le (by omega),List.drop_of_length_le (by omega),List.take_of_length_le (by omega),List.drop_of_length_le (by omega)]
  exact ⟨rfl,rfl⟩
 ·have e:bJ F xs=bJ F (xs.take k)++bJ F (xs.drop k):=by rw [←ki,List.take_append_drop]
  have hl:(bJ F (xs.take k)).length=k*n:=by rw [dQ hF,List.length_take,Nat.min_eq_left h]
  rw [e,List.take_append_of_le_length (by omega),List.drop_append_of_le_length (by omega),←hl,List.take_length,List.drop_length,List.nil_append]
  exact ⟨rfl,rfl⟩
theorem pG{α:Type}{F:α→List Value}{n:Nat}(hF:∀x,(F x).length=n)(xs:List α)(k:Nat):(bJ F xs).take (k*n)=bJ F (xs.take k):=(o6 hF xs k).1
theorem mG{α:Type}{F:α→List Value}{n:Nat}(hF:∀x,(F x).length=n)(xs:List α)(k:Nat):(bJ F xs).drop (k*n)=bJ F (xs.drop k):=(o6 hF xs k).2
theorem bc{α:Type}{F:α→List Value}{n:Nat}(hF:∀x,(F x).length=n){xs:List α}{d:α}{k j:Nat}(h:k<xs.length)(hj:j<n):(bJ F xs)[k*n+j]?=(F (xs.getD k d))[j]?:=by
 have h1:(bJ F xs)[k*n+j]?=((bJ F xs).drop (k*n))[j]?:=by rw [List.getElem?_drop]
 rw [h1,mG hF,List.drop_eq_getElem_cons h]
 unfold bJ
 rw [List.flatMap_cons,List.getElem?_append_left (by rw [hF];exact hj)]
 simp [List.getD,h]
theorem ot{α:Type}{F:α→List Value}(h:∀x,∀u∈F x,u.oneCell'=true){xs:List α}:∀u∈bJ F xs,u.oneCell'=true:=by
 intro u hu
 obtain ⟨x,_,hx⟩:=List.mem_flatMap.1 hu
 exact h x u hx
theorem sT{α:Type}{F:α→List Value}{sz:Nat}(hF:∀x,(F x).length=sz){bs:Option Addr}{n l m:Nat}{xs:List α}(hrd:Rd L bs (bJ F xs))(h:bB bs n)(hl:xs.length=n)(hnm:n≤m):Rd L (eu bs l m sz) (bJ F (xs.drop l)):=by
 rw [←mG hF];exact rK hrd h (by rw [dQ hF,hl]) hnm
theorem j8{α:Type}{F:α→List Value}{sz:Nat}(hF:∀x,(F x).length=sz){xs ys:List α}{a b:Nat}:(bJ F xs).take (a*sz)++bJ F ys++(bJ F xs).drop (b*sz)=bJ F (xs.take a++ys++xs.drop b):=by
 rw [pG hF,mG hF,ki,ki]
def dJ(p:Nat):List Value:=[.pointer (some ⟨p,0,none⟩)]
theorem jw(p:Nat):(dJ p).length=1:=rfl
theorem x4(p:Nat):∀u∈dJ p,u.oneCell'=true:=by intro u hu;simp [dJ] at hu;subst hu;rfl
abbrev Cy(ps:List Nat):List Value:=bJ dJ ps
theorem eV{ps:List Nat}{k:Nat}(h:k<ps.length):(Cy ps)[k]?=some (.pointer (some ⟨ps.getD k 0,0,none⟩)):=by
 have:=bc jw (d:=0) h (show 0<1 by omega)
 rw [Nat.mul_one,Nat.add_zero] at this;exact this
theorem lW{α:Type}{F:α→List Value}{sz:Nat}(hF:∀x,(F x).length=sz){T cp n a b:Nat}{bs:Option Addr}{xs:List α}{zs:List Value}{w:World}(h0:0<n)(ha:a≤n)(hx:xs.length=n)(h:Sat (SlV T sz (.slice bs n cp) n ((bJ F xs).take (a*sz)++zs++(bJ F xs).drop (b*sz))::L) w):
 Sat (SlV T sz (.slice bs a cp) a (bJ F (xs.take a))::L) w:=by
 have:=mM (k:=a) ha h0 h
 rw [List.append_assoc,List.take_append_of_le_length (by rw [List.length_take,dQ hF,hx];exact Nat.le_min.2 ⟨Nat.le_refl _,Nat.mul_le_mul_right _ ha⟩),List.take_take,Nat.min_self,pG hF] at this
 exact this
theorem sr{α:Type}{xs:List α}{i:Nat}(h:i<xs.length)(n:Nat)(hn:n=xs.length-1)(zs:List α):(xs.take i++xs.drop (i+1)++zs).take n=xs.eraseIdx i:=by
 have hl:(xs.take i++xs.drop (i+1)).length=n:=by simp;omega
 rw [List.take_append_of_le_length (by omega),List.take_of_length_le (by omega),List.eraseIdx_eq_take_drop_succ]
end Go.Proofs.YtanfdikglplkaaaGreatDoor.Sp
