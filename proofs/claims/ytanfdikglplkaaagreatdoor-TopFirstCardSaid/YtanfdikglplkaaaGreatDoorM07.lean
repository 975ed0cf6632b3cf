/- Parts Trm, Led, Bks, Adm: own lemmas and contracts of the code that the claim reaches. -/
import Derived.Test.YtanfdikglplkaaaGreatDoorM06
import Derived.Test.YtanfdikglplkaaaGreatDoorM03
import Derived.Test.YtanfdikglplkaaaGreatDoorM05
import Derived.Test.YtanfdikglplkaaaGreatDoorM04
set_option linter.unusedSimpArgs false
set_option linter.unusedVariables false
namespace Go.Proofs.YtanfdikglplkaaaGreatDoor.Sp
open Go
def ey(ps:List Nat)(ms:List M3):List HP:=List.zipWith (fun p m=>bI p [.int .i64 m.id,.int .i64 m.w,.int .i64 m.c] 161) ps ms
theorem qc{ps:List Nat}{ms:List M3}:∀{i:Nat},ps.length=ms.length→i<ms.length→
 (ey ps ms).Perm (bI (ps.getD i 0) [.int .i64 (ms.getD i M3.z).id,.int .i64 (ms.getD i M3.z).w,.int .i64 (ms.getD i M3.z).c] 161::ey (ps.eraseIdx i) (ms.eraseIdx i)):=by
 induction ps generalizing ms with
 |nil=>intro i h hi;cases ms with
  |nil=>simp at hi
  |cons m ms=>simp at h
 |cons p ps ih=>
  intro i h hi
  cases ms with
  |nil=>simp at h
  |cons m ms=>
   cases i with
   |zero=>exact .refl _
   |succ i=>
    have:=ih (i:=i) (ms:=ms) (by simpa using h) (by simpa using hi)
    refine (List.Perm.cons (bI p [.int .i64 m.id,.int .i64 m.w,.int .i64 m.c] 161) this).trans ?_
    exact .swap _ _ _
structure TFacts(q:Int)(ms:List M3)(a:Nat)(ba:Option Addr)(ca:Nat)(ps:List Nat):Prop where
 q1:1≤q
 q2:q≤1048576
 nd:(ms.map (·.id)).Nodup
 wt:∀i,i<ms.length→1≤(ms.getD i M3.z).w∧(ms.getD i M3.z).w≤100
 cr:∀i,i<ms.length→0≤(ms.getD i M3.z).c∧(ms.getD i M3.z).c≤1048576+(if i=a then q*(ms.getD i M3.z).w else 0)
 at_:a<ms.length∨(a=0∧ms=[])
 lp:ps.length=ms.length
 ok:bB ba ms.length
 lc:ms.length≤ca
def bF(p:Nat)(q:Int)(ms:List M3)(a:Nat):HP:=
 Ex fun ba:Option Addr=>Ex fun ca:Nat=>Ex fun ps:List Nat=>sj (TFacts q ms a ba ca ps) (cI [bI p [.int .i64 q,.slice ba ms.length ca,.int .i64 (a:Int)] 139,SlV 159 1 (.slice ba ms.length ca) ms.length (bJ dJ ps),cI (ey ps ms)])
section
variable{K:Act→World→Prop}{W:World}{N':Nat}{E:List (Nat×Value)}{L:List HP}
theorem qL{p:Nat}{q:Int}{ms:List M3}{a:Nat}(k:∀ba ca ps,TFacts q ms a ba ca ps→cd K W N' E (bI p [.int .i64 q,.slice ba ms.length ca,.int .i64 (a:Int)] 139::SlV 159 1 (.slice ba ms.length ca) ms.length (bJ dJ ps)::cI (ey ps ms)::L)):
 cd K W N' E (bF p q ms a::L):=xX fun ba=>xX fun ca=>xX fun ps=>oo fun h=>w9 (k ba ca ps h)
theorem uS{p:Nat}{q:Int}{ms:List M3}{a:Nat}{ba:Option Addr}{ca:Nat}{ps:List Nat}(h:TFacts q ms a ba ca ps)(k:cd K W N' E (bF p q ms a::L)):
 cd K W N' E (bI p [.int .i64 q,.slice ba ms.length ca,.int .i64 (a:Int)] 139::SlV 159 1 (.slice ba ms.length ca) ms.length (bJ dJ ps)::cI (ey ps ms)::L):=
 yU (M:=[_,_,_]) (l7 h (tH ps (tH ca (tH ba k))))
theorem wh{p:Nat}{q:Int}{ms:List M3}{a:Nat}{w:World}(h:Sat (bF p q ms a::L) w):∃ba ca ps,TFacts q ms a ba ca ps:=by
 obtain ⟨ba,h⟩:=Sat.ex.1 h;obtain ⟨ca,h⟩:=Sat.ex.1 h;obtain ⟨ps,h⟩:=Sat.ex.1 h
 exact ⟨ba,ca,ps,(Sat.fact.1 h).1⟩
end
theorem wC{ps:List Nat}{ms:List M3}{i:Nat}{L:List HP}{w:World}(h:ps.length=ms.length)(hi:i<ms.length)(hs:Sat (cI (ey ps ms)::L) w):
 Sat (bI (ps.getD i 0) [.int .i64 (ms.getD i M3.z).id,.int .i64 (ms.getD i M3.z).w,.int .i64 (ms.getD i M3.z).c] 161::cI (ey (ps.eraseIdx i) (ms.eraseIdx i))::L) w:=by
 have h1:=(Sat.join.1 hs).perm ((qc h hi).append_right L)
 have h2:Sat (ey (ps.eraseIdx i) (ms.eraseIdx i)++bI (ps.getD i 0) [.int .i64 (ms.getD i M3.z).id,.int .i64 (ms.getD i M3.z).w,.int .i64 (ms.getD i M3.z).c] 161::L) w:=h1.perm List.perm_middle.symm
 exact (Sat.join.2 h2).perm (.swap _ _ _)
theorem yI{ps:List Nat}{ms:List M3}{i:Nat}{c:Int}{L:List HP}{w:World}(h:ps.length=ms.length)(hi:i<ms.length)
 (hs:Sat (bI (ps.getD i 0) [.int .i64 (ms.getD i M3.z).id,.int .i64 (ms.getD i M3.z).w,.int .i64 c] 161::cI (ey (ps.eraseIdx i) (ms.eraseIdx i))::L) w):Sat (cI (ey ps (hU ms i c))::L) w:=by
 have hl:i< (hU ms i c).length:=by rw [gk];exact hi
 have e:(hU ms i c).getD i M3.z=⟨(ms.getD i M3.z).id,(ms.getD i M3.z).w,c⟩:=by rw [gS hi,if_pos rfl]
 have e2:(hU ms i c).eraseIdx i=ms.eraseIdx i:=by unfold hU;rw [List.eraseIdx_set_eq]
 have hp:=qc (ps:=ps) (ms:=hU ms i c) (by rw [gk];exact h) hl
 rw [e,e2] at hp
 refine Sat.join.2 (Sat.perm (hp.append_right L).symm ?_)
 have h1:=Sat.join.1 (hs.perm (.swap _ _ _))
 exact h1.perm List.perm_middle
section
variable{K:Act→World→Prop}{W:World}{N':Nat}{E:List (Nat×Value)}{L:List HP}
theorem iD{ps:List Nat}{ms:List M3}{i:Nat}(h:ps.length=ms.length)(hi:i<ms.length)(k:cd K W N' E (bI (ps.getD i 0) [.int .i64 (ms.getD i M3.z).id,.int .i64 (ms.getD i M3.z).w,.int .i64 (ms.getD i M3.z).c] 161::cI (ey (ps.eraseIdx i) (ms.eraseIdx i))::L)):
 cd K W N' E (cI (ey ps ms)::L):=bO (fun w hs=>wC h hi hs) k
theorem ke{ps:List Nat}{ms:List M3}{i:Nat}{c:Int}(h:ps.length=ms.length)(hi:i<ms.length)(k:cd K W N' E (cI (ey ps (hU ms i c))::L)):
 cd K W N' E (bI (ps.getD i 0) [.int .i64 (ms.getD i M3.z).id,.int .i64 (ms.getD i M3.z).w,.int .i64 c] 161::cI (ey (ps.eraseIdx i) (ms.eraseIdx i))::L):=bO (fun w hs=>yI h hi hs) k
theorem qH{ps:List Nat}{ms:List M3}{i:Nat}(h:ps.length=ms.length)(hi:i<ms.length)(k:cd K W N' E (cI (ey ps ms)::L)):
 cd K W N' E (bI (ps.getD i 0) [.int .i64 (ms.getD i M3.z).id,.int .i64 (ms.getD i M3.z).w,.int .i64 (ms.getD i M3.z).c] 161::cI (ey (ps.eraseIdx i) (ms.eraseIdx i))::L):=ke h hi (by rw [pW hi];exact k)
theorem Bq{ps:List Nat}{ms:List M3}{p:Nat}(m:M3)(h:ps.length=ms.length)(k:cd K W N' E (cI (ey (ps++[p]) (ms++[m]))::L)):
 cd K W N' E (bI p [.int .i64 m.id,.int .i64 m.w,.int .i64 m.c] 161::cI (ey ps ms)::L):=bO (fun w hs=>by
 have e:ey (ps++[p]) (ms++[m])=ey ps ms++[bI p [.int .i64 m.id,.int .i64 m.w,.int .i64 m.c] 161]:=by
  unfold ey;rw [List.zipWith_append h];rfl
 refine Sat.join.2 ?_
 rw [e,List.append_assoc]
 exact (Sat.join.1 (hs.perm (.swap _ _ _))).perm (.refl _)) k
end
section
variable{K:Act→World→Prop}{W:World}{N':Nat}{E:List (Nat×Value)}{L:List HP}
theorem zd{ps:List Nat}{ms:List M3}{i:Nat}{c:Int}{m0:M3}(e:ms.getD i M3.z=m0)(h:ps.length=ms.length)(hi:i<ms.length)(k:cd K W N' E (cI (ey ps (hU ms i c))::L)):
 cd K W N' E (bI (ps.getD i 0) [.int .i64 m0.id,.int .i64 m0.w,.int .i64 c] 161::cI (ey (ps.eraseIdx i) (ms.eraseIdx i))::L):=by subst e;exact ke h hi k
theorem j6{p n:Nat}{q:Int}{ms:List M3}{a:Nat}{ba:Option Addr}{ca:Nat}{ps:List Nat}(hn:ms.length=n)(h:TFacts q ms a ba ca ps)(k:cd K W N' E (bF p q ms a::L)):
 cd K W N' E (bI p [.int .i64 q,.slice ba n ca,.int .i64 (a:Int)] 139::SlV 159 1 (.slice ba n ca) n (bJ dJ ps)::cI (ey ps ms)::L):=by subst hn;exact uS h k
theorem l4{p n:Nat}{q:Int}{ms:List M3}{a:Nat}{va:Value}{ba:Option Addr}{ca:Nat}{ps:List Nat}(hv:va=.int .i64 (a:Int))(hn:ms.length=n)(h:TFacts q ms a ba ca ps)(k:cd K W N' E (bF p q ms a::L)):
 cd K W N' E (bI p [.int .i64 q,.slice ba n ca,va] 139::SlV 159 1 (.slice ba n ca) n (bJ dJ ps)::cI (ey ps ms)::L):=by subst hv;exact j6 hn h k
theorem BF{p:Nat}{q:Int}(h1:1≤q)(h2:q≤1048576)(k:cd K W N' E (bF p q [] 0::L)):cd K W N' E (bI p [.int .i64 q,.slice none 0 0,.int .i64 0] 139::L):=
 bO (fun w hs=>by
  have h3:Sat (SlV 159 1 (.slice none 0 0) 0 []::bI p [.int .i64 q,.slice none 0 0,.int .i64 0] 139::L) w:=cz _ 1 hs
  have h4:=h3.perm (.swap _ _ _)
  have h5:Sat (cI (ey [] [])::bI p [.int .i64 q,.slice none 0 0,.int .i64 0] 139::SlV 159 1 (.slice none 0 0) 0 []::L) w:=Sat.join.2 h4
  exact h5.perm ((List.Perm.swap _ _ _).trans (.cons _ (.swap _ _ _))))
  (uS (ms:=[]) (ba:=none) (ca:=0) (ps:=[]) (a:=0) ⟨h1,h2,by simp,fun i h=>by simp at h,fun i h=>by simp at h,.inr ⟨rfl,rfl⟩,rfl,cn,Nat.le_refl _⟩ k)
end
theorem TFacts.gn{q:Int}{ms:List M3}{a:Nat}{ba:Option Addr}{ca:Nat}{ps:List Nat}(h:TFacts q ms a ba ca ps)(i:Nat)(hi:i<ms.length):1≤q*(ms.getD i M3.z).w∧q*(ms.getD i M3.z).w≤104857600:=by
 have h1:=h.q1;have h2:=h.q2;have h3:=h.wt i hi
 refine ⟨?_,?_⟩
 ·have:=Int.mul_le_mul (a:=1) (b:=1) (c:=q) (d:=(ms.getD i M3.z).w) h1 h3.1 (by omega) (by omega);omega
 ·have:=Int.mul_le_mul (a:=q) (b:=(ms.getD i M3.z).w) (c:=1048576) (d:=100) h2 h3.2 (by omega) (by omega);omega
theorem TFacts.inv0{q:Int}{ms:List M3}{a:Nat}{ba:Option Addr}{ca:Nat}{ps:List Nat}(h:TFacts q ms a ba ca ps)(ha:a<ms.length){cs:List Int}(csb:∀i,0≤cs.getD i 0∧cs.getD i 0≤1048576):TInv q cs ms a ms a 0:=
 TInv.init ha h.gn csb h.cr
theorem oI{ms ms0:List M3}(hl:ms.length=ms0.length)(h:∀i,i<ms0.length→(ms.getD i M3.z).id=(ms0.getD i M3.z).id):ms.map (·.id)=ms0.map (·.id):=by
 refine List.ext_getElem (by simp [hl]) fun i h1 h2=>?_
 have h3:i<ms0.length:=by simpa using h2
 have h4:i<ms.length:=by omega
 have:=h i h3
 simpa [List.getD,h3,h4] using this
theorem TFacts.of_inv{q:Int}{cs:List Int}{ms0 ms:List M3}{a0 a k:Nat}{ba:Option Addr}{ca:Nat}{ps:List Nat}(h:TFacts q ms0 a0 ba ca ps)(hi:TInv q cs ms0 a0 ms a k):TFacts q ms a ba ca ps:=by
 have hl:=hi.len
 refine ⟨h.q1,h.q2,by rw [oI hl (fun i h=>(hi.same i h).1)];exact h.nd,fun i h'=>by rw [(hi.same i (by omega)).2];exact h.wt i (by omega),fun i h'=>?_,.inl (by have:=hi.al;omega),by rw [hl];exact h.lp,by rw [hl];exact h.ok,by rw [hl];exact h.lc⟩
 rw [(hi.same i (by omega)).2];exact hi.cr i (by omega)
theorem TFacts.took{q:Int}{cs:List Int}{ms:List M3}{a:Nat}{ba:Option Addr}{ca:Nat}{ps:List Nat}(h:TFacts q ms a ba ca ps)(ha:a<ms.length)(hr:iS cs (ms,a)=true):TFacts q (hU ms a ((ms.getD a M3.z).c-cs.getD a 0)) a ba ca ps:=by
 have hr:=rdyT_true.1 hr;simp only at hr
 have hg:∀i,i<ms.length→(hU ms a ((ms.getD a M3.z).c-cs.getD a 0)).getD i M3.z=if i=a then ⟨(ms.getD a M3.z).id,(ms.getD a M3.z).w,(ms.getD a M3.z).c-cs.getD a 0⟩ else ms.getD i M3.z:=fun i hi=>gS ha i
 have hl:=gk ms a ((ms.getD a M3.z).c-cs.getD a 0)
 refine ⟨h.q1,h.q2,?_,fun i hi=>?_,fun i hi=>?_,.inl (by omega),by rw [hl];exact h.lp,by rw [hl];exact h.ok,by rw [hl];exact h.lc⟩
 ·rw [oI hl (fun i hi=>by rw [hg i hi];split <;>simp_all)];exact h.nd
 ·rw [hl] at hi;rw [hg i hi];split
  ·exact h.wt a ha
  ·exact h.wt i hi
 ·rw [hl] at hi;rw [hg i hi]
  have h1:=h.cr i hi
  by_cases e:i=a
  ·subst e;rw [if_pos rfl,if_pos rfl] at*
   show 0≤(ms.getD i M3.z).c-cs.getD i 0∧(ms.getD i M3.z).c-cs.getD i 0≤1048576+q*(ms.getD i M3.z).w
   omega
  ·rw [if_neg e,if_neg e] at*;exact h1
theorem TFacts.joined{q:Int}{ms:List M3}{a:Nat}{ba:Option Addr}{ca:Nat}{ps:List Nat}(h:TFacts q ms a ba ca ps){id w:Int}(hw:1≤w∧w≤100)(hp:¬dS ms id≥0){bb:Option Addr}{cb p:Nat}(ok:bB bb (ms.length+1))(lc:ms.length+1≤cb):TFacts q (ms++[⟨id,w,0⟩]) a bb cb (ps++[p]):=by
 have hg:∀i,i<ms.length+1→(ms++[(⟨id,w,0⟩:M3)]).getD i M3.z=if i=ms.length then ⟨id,w,0⟩ else ms.getD i M3.z:=fun i hi=>by
  by_cases e:i=ms.length
  ·subst e;rw [if_pos rfl];simp [List.getD]
  ·rw [if_neg e];simp only [List.getD];rw [List.getElem?_append_left (by omega)]
 have h1:=h.q1
 refine ⟨h.q1,h.q2,?_,fun i hi=>?_,fun i hi=>?_,?_,by simp [h.lp],by simpa using ok,by simpa using lc⟩
 ·rw [List.map_append,List.nodup_append]
  refine ⟨h.nd,by simp,fun x hx y hy=>?_⟩
  have hy':y=id:=by simpa using hy
  obtain ⟨m,hm,hmx⟩:=List.mem_map.1 hx
  rcases iA ms id with ⟨k,hk,_,_⟩| ⟨_,hno⟩
  ·omega
  ·rw [hy',←hmx];exact hno m hm
 ·rw [List.length_append] at hi
  rw [hg i (by simpa using hi)];split
  ·exact hw
  ·exact h.wt i (by simp at hi;omega)
 ·rw [List.length_append] at hi
  rw [hg i (by simpa using hi)];split
  ·have hwq:0≤q*w:=Int.mul_nonneg (by omega) (by omega)
   show (0:Int)≤0∧(0:Int)≤1048576+(if i=a then q*w else 0)
   split <;>omega
  ·exact h.cr i (by simp at hi;omega)
 ·left;rw [List.length_append];rcases h.at_ with h2| ⟨h2,_⟩ <;>simp <;>omega
theorem pF{ms:List M3}{i j:Nat}(hi:i<ms.length):(ms.eraseIdx i).getD j M3.z=if j<i then ms.getD j M3.z else ms.getD (j+1) M3.z:=by
 simp only [List.getD,List.getElem?_eraseIdx];split <;>rfl
theorem TFacts.left{q:Int}{ms:List M3}{a:Nat}{ba:Option Addr}{ca:Nat}{ps:List Nat}(h:TFacts q ms a ba ca ps){k:Nat}(hk:k<ms.length){b:Nat}(hb:b=if (if k<a then a-1 else a)=ms.length-1 then 0 else (if k<a then a-1 else a))(ok:bB ba (ms.eraseIdx k).length):
 TFacts q (ms.eraseIdx k) b ba ca (ps.eraseIdx k):=by
 have hl:(ms.eraseIdx k).length=ms.length-1:=by rw [List.length_eraseIdx,if_pos hk]
 have ha:a<ms.length:=by rcases h.at_ with h2| ⟨h2,h3⟩ <;>omega
 have hq:=h.q1
 have hb':(k<a→(a-1=ms.length-1→b=0)∧(a-1≠ms.length-1→b=a-1))∧(¬k<a→(a=ms.length-1→b=0)∧(a≠ms.length-1→b=a)):=by
  refine ⟨fun h1=>?_,fun h1=>?_⟩
  ·simp only [if_pos h1] at hb
   exact ⟨fun h2=>by rw [if_pos h2] at hb;exact hb,fun h2=>by rw [if_neg h2] at hb;exact hb⟩
  ·simp only [if_neg h1] at hb
   exact ⟨fun h2=>by rw [if_pos h2] at hb;exact hb,fun h2=>by rw [if_neg h2] at hb;exact hb⟩
 clear hb
 refine ⟨h.q1,h.q2,?_,fun i hi=>?_,fun i hi=>?_,?_,?_,ok,by have:=h.lc;omega⟩
 ·exact h.nd.sublist ((List.eraseIdx_sublist ms k).map _)
 ·rw [hl] at hi;rw [pF hk];split
  ·exact h.wt i (by omega)
  ·exact h.wt (i+1) (by omega)
 ·rw [hl] at hi;rw [pF hk]
  have g:∀j,j<ms.length→0≤q*(ms.getD j M3.z).w:=fun j hj=>by have:=h.gn j hj;omega
  split
  ·have h1:=h.cr i (by omega);have h2:=g i (by omega)
   by_cases e:i=a
   ·have:i=b:=by omega
    rw [if_pos e] at h1;rw [if_pos this];exact h1
   ·rw [if_neg e] at h1;split <;>omega
  ·have h1:=h.cr (i+1) (by omega);have h2:=g (i+1) (by omega)
   by_cases e:i+1=a
   ·have:i=b:=by omega
    rw [if_pos e] at h1;rw [if_pos this];exact h1
   ·rw [if_neg e] at h1;split <;>omega
 ·rcases Nat.eq_zero_or_pos (ms.length-1) with h0|h0
  ·right;exact ⟨by omega,List.eq_nil_of_length_eq_zero (by omega)⟩
  ·left;rw [hl];omega
 ·rw [List.length_eraseIdx,List.length_eraseIdx,h.lp]
theorem uX{bs:Option Addr}{n k:Nat}(h:bB bs n)(hk:k≤n):bB bs k:=fun h0=>h (by omega)
def gi(p:Nat→Bool)(n:Nat):Int:=match (List.range n).find? p with
 |some k=>(k:Int)
 |none=> -1
theorem kP{p:Nat→Bool}{n k:Nat}(hk:k<n)(hp:p k=true)(ha:∀j,j<k→p j=false):gi p n=(k:Int):=by
 unfold gi
 have:(List.range n).find? p=some k:=by
  rw [List.find?_range_eq_some]
  exact ⟨hp,List.mem_range.2 hk,fun j hj=>by simp [ha j hj]⟩
 rw [this]
theorem iL{p:Nat→Bool}{n:Nat}(ha:∀j,j<n→p j=false):gi p n= -1:=by
 unfold gi
 have:(List.range n).find? p=none:=by
  rw [List.find?_range_eq_none]
  exact fun j hj=>by simp [ha j hj]
 rw [this]
theorem rW(ms:List M3)(id:Int):gi (fun k=>decide ((ms.getD k M3.z).id=id)) ms.length=dS ms id:=by
 unfold dS
 by_cases h:ms.findIdx (fun m=>decide (m.id=id))<ms.length
 ·rw [if_pos h]
  refine kP h ?_ fun j hj=>?_
  ·have:=List.findIdx_getElem (w:=h)
   simpa [List.getD,h] using this
  ·have hj':j<ms.length:=by omega
   have:=List.not_of_lt_findIdx hj
   simpa [List.getD,hj'] using this
 ·rw [if_neg h]
  refine iL fun j hj=>?_
  have:=List.not_of_lt_findIdx (xs:=ms) (p:=fun m=>decide (m.id=id)) (i:=j) (by omega)
  simpa [List.getD,hj] using this
end Go.Proofs.YtanfdikglplkaaaGreatDoor.Sp
namespace Go.Proofs.YtanfdikglplkaaaGreatDoor.Sp
open Go
structure Pl where
 h:Bool
 id:Int
 mem:Int
abbrev Pl.z:Pl:=⟨false,0,0⟩
def se(p:Pl):List Value:=[.bool p.h,.int .i64 p.id,.int .i64 p.mem]
theorem gK(p:Pl):(se p).length=3:=rfl
structure Led where
 bud:Int
 many:Nat
 ps:List Pl
 used:Int
def ml:List Pl→Int
 | []=>0
 |p::ps=>p.mem+ml ps
theorem sy{x:Pl}:∀{ps:List Pl} {i:Nat},i<ps.length→ml (ps.set i x)=ml ps- (ps.getD i Pl.z).mem+x.mem
 | [],i,h=>by simp at h
 |p::ps,0,_=>by show x.mem+ml ps=p.mem+ml ps-p.mem+x.mem;omega
 |p::ps,i+1,h=>by
  have:=sy (x:=x) (ps:=ps) (i:=i) (by simpa using h)
  show p.mem+ml (ps.set i x)=p.mem+ml ps- (ps.getD i Pl.z).mem+x.mem;omega
theorem zY{ps:List Pl}(h:∀i,0≤(ps.getD i Pl.z).mem):∀i,(ps.getD i Pl.z).mem≤ml ps:=by
 have h0:∀{ps:List Pl},(∀i,0≤(ps.getD i Pl.z).mem)→0≤ml ps:=by
  intro ps
  induction ps with
  |nil=>intro _;exact Int.le_refl _
  |cons p ps ih=>intro h;have h1:=h 0;have h2:=ih fun i=>h (i+1);show 0≤p.mem+ml ps;simp at h1;omega
 induction ps with
 |nil=>intro i;exact Int.le_refl _
 |cons p ps ih=>
  intro i
  cases i with
  |zero=>have:=h0 (ps:=ps) fun i=>h (i+1);show p.mem≤p.mem+ml ps;omega
  |succ i=>have h1:=h 0;have:=ih (fun i=>h (i+1)) i;show (ps.getD i Pl.z).mem≤p.mem+ml ps;simp at h1;omega
structure LedOk(d:Led):Prop where
 lp:d.ps.length=16
 lm:d.many≤16
 b0:0≤d.bud
 b1:d.bud≤1099511627776
 m0:∀i,0≤(d.ps.getD i Pl.z).mem
 us:d.used=ml d.ps
 ub:d.used≤d.bud
theorem LedOk.mu{d:Led}(h:LedOk d)(i:Nat):(d.ps.getD i Pl.z).mem≤d.used:=by rw [h.us];exact zY h.m0 i
theorem LedOk.u0{d:Led}(h:LedOk d):0≤d.used:=by have:=h.mu 0;have:=h.m0 0;omega
def jf(d:Led):List Value:=.int .i64 d.bud:: .int .i64 (d.many:Int)::(bJ se d.ps++[.int .i64 d.used])
def gL(l:Nat)(d:Led):HP:=sj (d.ps.length=16) (bI l (jf d) 120)
def dz(l:Nat)(d:Led):HP:=sj (LedOk d) (bI l (jf d) 120)
def Led.slot(d:Led)(id:Int):Int:=gi (fun k=>(d.ps.getD k Pl.z).h && decide ((d.ps.getD k Pl.z).id=id)) d.many
def Led.free(d:Led):Int:=gi (fun k=> !(d.ps.getD k Pl.z).h) d.many
def Led.cnt(d:Led):Nat→Nat
 |0=>0
 |k+1=>Led.cnt d k+(if (d.ps.getD k Pl.z).h=false then 1 else 0)
theorem Led.cnt_le(d:Led):∀k,d.cnt k≤k
 |0=>Nat.le_refl _
 |k+1=>by have:=Led.cnt_le d k;show d.cnt k+(if (d.ps.getD k Pl.z).h=false then 1 else 0)≤k+1;split <;>omega
def Led.atB(d:Led)(s:Int):Bool:=decide (0≤s∧s<d.many) && (d.ps.getD s.toNat Pl.z).h
def Led.atI(d:Led)(s:Int):Int:=if 0≤s∧s<d.many then (d.ps.getD s.toNat Pl.z).id else 0
def Led.takeE(d:Led)(id mem:Int):Int:=if id<0∨mem<0 then 1 else if mem>d.bud then 5 else if d.slot id≥0 then 8 else if d.free<0∨mem>d.bud-d.used then 4 else 0
def Led.takeV(d:Led)(id mem:Int):Int:=if d.takeE id mem=0 then d.free else 0
def Led.put(d:Led)(i:Nat)(x:Pl)(u:Int):Led:={d with ps:=d.ps.set i x,used:=u}
def Led.setU(d:Led)(u:Int):Led:={d with used:=u}
def Led.take(d:Led)(id mem:Int):Led:=if d.takeE id mem=0 then d.put d.free.toNat ⟨true,id,mem⟩ (d.used+mem) else d
def Led.drop(d:Led)(id:Int):Led:=if d.slot id<0 then d else d.put (d.slot id).toNat Pl.z (d.used- (d.ps.getD (d.slot id).toNat Pl.z).mem)
theorem mr(p:Nat→Bool)(n:Nat):gi p n= -1∨(0≤gi p n∧gi p n<n∧p (gi p n).toNat=true):=by
 unfold gi
 cases h:(List.range n).find? p with
 |none=>exact .inl rfl
 |some k=>
  have h1:=List.find?_some h
  have h2:=List.mem_of_find?_eq_some h
  rw [List.mem_range] at h2
  exact .inr ⟨Int.natCast_nonneg _,Int.ofNat_lt.2 h2,by simpa using h1⟩
theorem Led.slot_rng(d:Led)(id:Int):d.slot id= -1∨(0≤d.slot id∧d.slot id<d.many):=by
 rcases mr (fun k=>(d.ps.getD k Pl.z).h && decide ((d.ps.getD k Pl.z).id=id)) d.many with h| ⟨h1,h2,_⟩
 ·exact .inl h
 ·exact .inr ⟨h1,h2⟩
theorem Led.free_rng(d:Led):d.free= -1∨(0≤d.free∧d.free<d.many):=by
 rcases mr (fun k=> !(d.ps.getD k Pl.z).h) d.many with h| ⟨h1,h2,_⟩
 ·exact .inl h
 ·exact .inr ⟨h1,h2⟩
theorem qo{ps:List Pl}{i:Nat}{x:Pl}(h:i<ps.length)(j:Nat):(ps.set i x).getD j Pl.z=if j=i then x else ps.getD j Pl.z:=by
 by_cases e:j=i
 ·subst e;rw [if_pos rfl];simp [List.getD,h]
 ·rw [if_neg e];simp only [List.getD];rw [List.getElem?_set_ne (fun h=>e h.symm)]
theorem LedOk.put{d:Led}(h:LedOk d){i:Nat}(hi:i<16){x:Pl}(hx:0≤x.mem){u:Int}(hu:u=d.used- (d.ps.getD i Pl.z).mem+x.mem)(hb:u≤d.bud):LedOk (d.put i x u):=by
 have hl:=h.lp
 refine ⟨by show (d.ps.set i x).length=16;simpa using hl,h.lm,h.b0,h.b1,fun j=>?_,?_,hb⟩
 ·show 0≤((d.ps.set i x).getD j Pl.z).mem
  rw [qo (by omega)];split
  ·exact hx
  ·exact h.m0 j
 ·show u=ml (d.ps.set i x)
  rw [sy (by omega),←h.us];exact hu
theorem LedOk.take{d:Led}(h:LedOk d)(hz:∀i,(d.ps.getD i Pl.z).h=false→(d.ps.getD i Pl.z).mem=0)(id mem:Int):LedOk (d.take id mem):=by
 unfold Led.take
 split
 ·rename_i e
  unfold Led.takeE at e
  by_cases h1:id<0∨mem<0
  ·rw [if_pos h1] at e;cases e
  rw [if_neg h1] at e
  by_cases h2:mem>d.bud
  ·rw [if_pos h2] at e;cases e
  rw [if_neg h2] at e
  by_cases h3:d.slot id≥0
  ·rw [if_pos h3] at e;cases e
  rw [if_neg h3] at e
  by_cases h4:d.free<0∨mem>d.bud-d.used
  ·rw [if_pos h4] at e;cases e
  have hlm:=h.lm
  rcases mr (fun k=> !(d.ps.getD k Pl.z).h) d.many with h5| ⟨h5,h6,h7⟩
  ·exact absurd (show d.free<0 by unfold Led.free;omega) (fun h=>h4 (.inl h))
  ·have h8:=hz _ (by simpa using h7)
   refine h.put (i:=d.free.toNat) ?_ ?_ ?_ ?_
   ·have:d.free<d.many:=h6
    omega
   ·show 0≤mem;omega
   ·have h8':(d.ps.getD d.free.toNat Pl.z).mem=0:=h8
    rw [h8'];show d.used+mem=d.used-0+mem;omega
   ·omega
 ·exact h
theorem LedOk.drop{d:Led}(h:LedOk d)(id:Int):LedOk (d.drop id):=by
 unfold Led.drop
 split
 ·exact h
 ·have hlm:=h.lm
  rcases d.slot_rng id with h5| ⟨h5,h6⟩
  ·omega
  ·have:=h.m0 (d.slot id).toNat;have:=h.ub
   exact h.put (by omega) (Int.le_refl _) (by show _=_-_+0;omega) (by omega)
section
variable{P:Program}{E:List (Nat×Value)}{L:List HP}{ty:TypeId}{l:Nat}{d:Led}
theorem kM{o:Nat}{v:Value}(hm:gL l d∈L)(hv:d.ps.length=16→(jf d)[o]?=some v):Gives L ⟨l,o,none⟩ v:=fun w hs=>by
 obtain ⟨f,hf,hh⟩:=hs.mem hm
 have h1:Sat [gL l d] w:=⟨f,⟨f,[],by simp,hf,rfl⟩,hh⟩
 obtain ⟨h2,h3⟩:=Sat.fact.1 h1
 exact aa (.head _) (hv h2) w h3
theorem xH{i j:Nat}(hl:d.ps.length=16)(hi:i<16)(hj:j<3):(jf d)[2+(i*3+j)]?=(se (d.ps.getD i Pl.z))[j]?:=by
 have h1:(jf d)[2+(i*3+j)]?=(bJ se d.ps++[.int .i64 d.used])[i*3+j]?:=by
  rw [show 2+(i*3+j)=(i*3+j)+1+1 by omega];rfl
 rw [h1,List.getElem?_append_left (by rw [dQ gK,hl];omega),bc gK (d:=Pl.z) (by omega) hj]
theorem fk{i j:Nat}{v:Value}(hm:gL l d∈L)(hi:i<16)(hj:j<3)(hv:(se (d.ps.getD i Pl.z))[j]?=some v):Gives L (ad (some ⟨l,2,none⟩) (i*3+j)) v:=
 kM hm fun hl=>(xH hl hi hj).trans hv
theorem wS(hl:d.ps.length=16):(jf d)[50]?=some (.int .i64 d.used):=by
 have h1:(jf d)[50]?=(bJ se d.ps++[.int .i64 d.used])[48]?:=rfl
 rw [h1,List.getElem?_append_right (by rw [dQ gK,hl];omega),dQ gK,hl];rfl
theorem jN(hm:gL l d∈L):Gives L ⟨l,50,none⟩ (.int .i64 d.used):=kM hm wS
theorem lH(hm:gL l d∈L):Gives L ⟨l,0,none⟩ (.int .i64 d.bud):=kM hm fun _=>rfl
theorem lF(hm:gL l d∈L):Gives L ⟨l,1,none⟩ (.int .i64 (d.many:Int)):=kM hm fun _=>rfl
theorem ym{d:Led}{i:Nat}(hl:d.ps.length=16)(hi:i<16)(x:Pl)(u:Int):(jf d).take (2+i*3)++se x++(jf d).drop (2+i*3+3)=jf (d.put i x d.used):=by
 have e:bJ se (d.ps.set i x)=(bJ se d.ps).take (i*3)++se x++(bJ se d.ps).drop (i*3+3):=by
  have e1:d.ps.set i x=d.ps.take i++[x]++d.ps.drop (i+1):=by rw [List.set_eq_take_append_cons_drop,if_pos (by omega)];simp
  rw [e1,←j8 gK,show (i+1)*3=i*3+3 by omega];simp [bJ]
 show (jf d).take (2+i*3)++se x++(jf d).drop (2+i*3+3)=.int .i64 d.bud:: .int .i64 (d.many:Int)::(bJ se (d.ps.set i x)++[.int .i64 d.used])
 have h1:(jf d).take (2+i*3)=.int .i64 d.bud:: .int .i64 (d.many:Int)::(bJ se d.ps).take (i*3):=by
  rw [show 2+i*3=i*3+1+1 by omega];unfold jf
  rw [List.take_succ_cons,List.take_succ_cons,List.take_append_of_le_length (by rw [dQ gK,hl];omega)]
 have h2:(jf d).drop (2+i*3+3)=(bJ se d.ps).drop (i*3+3)++[.int .i64 d.used]:=by
  rw [show 2+i*3+3=(i*3+3)+1+1 by omega];unfold jf
  rw [List.drop_succ_cons,List.drop_succ_cons,List.drop_append_of_le_length (by rw [dQ gK,hl];omega)]
 rw [h1,h2,e];simp
theorem uO{t:TypeId}{x y:Operand}{i:Nat}{q:Pl}(hi:i<16)(hsz:∀w,(sizeOf t).run P w=.ok 3 w)(hx:ev E x=some (.pointer (some (ad (some ⟨l,2,none⟩) (i*3)))))(hy:ev E y=some (.agg (se q).toArray)):
 SV P E (gL l d::L) (.store t x y) ty (gL l (d.put i q d.used)::L):=by
 intro ρ h w hs d' pos af g
 obtain ⟨hl,hs2⟩:=Sat.fact.1 hs
 obtain ⟨w',r1,r2,r3⟩:=bn (P:=P) (t:=t) (x:=x) (y:=y) (ty:=ty) (o:=2+i*3) (news:=se q) hsz hx hy rfl rfl (by
  show 2+i*3+3≤(jf d).length
  unfold jf;simp only [List.length_cons,List.length_append,dQ gK,hl];omega) (ym hl hi q d.used) ρ h w hs2 d' pos af g
 exact ⟨w',r1,Sat.fact.2 ⟨by show (d.ps.set i q).length=16;simpa using hl,r2⟩,r3⟩
theorem uv{t:TypeId}{x y:Operand}{u:Int}(hsz:∀w,(sizeOf t).run P w=.ok 1 w)(hx:ev E x=some (.pointer (some ⟨l,50,none⟩)))(hy:ev E y=some (.int .i64 u)):
 SV P E (gL l d::L) (.store t x y) ty (gL l (d.setU u)::L):=by
 intro ρ h w hs d' pos af g
 obtain ⟨hl,hs2⟩:=Sat.fact.1 hs
 obtain ⟨w',r1,r2,r3⟩:=cM (P:=P) (t:=t) (x:=x) (y:=y) (ty:=ty) (cs':=jf {d with used:=u}) hsz hx hy rfl (by unfold jf;simp only [List.length_cons,List.length_append,dQ gK,hl];decide) (by
  unfold jf
  rw [show (50:Nat)=48+1+1 from rfl,List.set_cons_succ,List.set_cons_succ,List.set_append,if_neg (by rw [dQ gK,hl];decide),dQ gK,hl];rfl) ρ h w hs2 d' pos af g
 exact ⟨w',r1,Sat.fact.2 ⟨hl,r2⟩,r3⟩
theorem gJ{t e:TypeId}{x y:Operand}{b o n sz k':Nat}{k:IntKind}{j:Int}(hu:P.underlying t=some (.array n e))(hsz:∀w,(sizeOf e).run P w=.ok sz w)
 (hx:ev E x=some (.pointer (some ⟨b,o,none⟩))) (hy:ev E y=some (.int k j)) (h0:0≤j) (hlt:j<n) (hk:j.toNat*sz=k'):
 LV P E L (.indexAddr t x y) ty (.pointer (some (ad (some ⟨b,o,none⟩) k'))):=by
 intro ρ h w _ d pos af g
 subst hk
 simp [execOp,h x _ hx,h y _ hy,Instr.indexAt,asIntOf,run_underlying hu,Instr.sureAddr,h0,hlt,hsz,ad,Addr.add]
theorem m3{t e:TypeId}{x hi:Operand}{b o n sz h:Nat}{k:IntKind}{j:Int}(hu:P.underlying t=some (.array n e))(hsz:∀w,(sizeOf e).run P w=.ok sz w)
 (hx:ev E x=some (.pointer (some ⟨b,o,none⟩))) (hh:ev E hi=some (.int k j)) (h0:0≤j) (hlt:j≤n) (hj:j.toNat=h):
 LV P E L (.slice t x none (some hi) none) ty (.slice (some ⟨b,o,none⟩) h n):=by
 intro ρ hρ w _ d pos af g
 subst hj
 have e1:=hρ x _ hx
 have e2:=hρ hi _ hh
 simp [execOp,e1,e2,Instr.sliceAt,Instr.sureAddr,Instr.sliceBounds,Instr.sliceBound,asIntOf,run_underlying hu,h0,hlt,hsz,Addr.add]
variable{K:Act→World→Prop}{W:World}{N':Nat}
theorem kB(k:LedOk d→cd K W N' E (gL l d::L)):cd K W N' E (dz l d::L):=oo fun h=>l7 h.lp (k h)
theorem fK(h:LedOk d)(k:cd K W N' E (dz l d::L)):cd K W N' E (gL l d::L):=oo fun _=>l7 h k
theorem BL{b m:Int}{cs:List Value}(hc:cs=jf ⟨b,m.toNat,List.replicate 16 Pl.z,0⟩)(h0:0≤b)(h1:b≤1099511627776)(h2:m.toNat≤16)(k:cd K W N' E (dz l ⟨b,m.toNat,List.replicate 16 Pl.z,0⟩::L)):cd K W N' E (bI l cs 120::L):=by
 subst hc
 exact l7 ⟨rfl,h2,h0,h1,fun i=>by
  show 0≤((List.replicate 16 Pl.z).getD i Pl.z).mem
  simp only [List.getD,List.getElem?_replicate];split <;>exact Int.le_refl _,rfl,h0⟩ k
end
end Go.Proofs.YtanfdikglplkaaaGreatDoor.Sp
namespace Go.Proofs.YtanfdikglplkaaaGreatDoor.Sp
open Go
section
variable{κ α:Type}{T:TypeId}{pk:κ→Nat}{F:κ→α→List Value}{ks:List κ}{xs:List α}{dk:κ}{dx:α}{i:Nat}
def e9(T:TypeId)(pk:κ→Nat)(F:κ→α→List Value)(ks:List κ)(xs:List α):List HP:=List.zipWith (fun k x=>bI (pk k) (F k x) T) ks xs
theorem mP(dk:κ)(dx:α):∀{ks:List κ} {xs:List α} {i:Nat},ks.length=xs.length→i<xs.length→
 (e9 T pk F ks xs).Perm (bI (pk (ks.getD i dk)) (F (ks.getD i dk) (xs.getD i dx)) T::e9 T pk F (ks.eraseIdx i) (xs.eraseIdx i))
 | [],[],i,_,hi=>by simp at hi
 | [],x::xs,i,h,_=>by simp at h
 |k::ks,[],i,h,_=>by simp at h
 |k::ks,x::xs,0,_,_=>.refl _
 |k::ks,x::xs,i+1,h,hi=>by
  have:=mP dk dx (ks:=ks) (xs:=xs) (i:=i) (by simpa using h) (by simpa using hi)
  exact (List.Perm.cons (bI (pk k) (F k x) T) this).trans (.swap _ _ _)
theorem jA(dk:κ)(dx:α){L:List HP}{w:World}(h:ks.length=xs.length)(hi:i<xs.length)(hs:Sat (cI (e9 T pk F ks xs)::L) w):
 Sat (bI (pk (ks.getD i dk)) (F (ks.getD i dk) (xs.getD i dx)) T::cI (e9 T pk F (ks.eraseIdx i) (xs.eraseIdx i))::L) w:=by
 have h1:=(Sat.join.1 hs).perm ((mP dk dx h hi).append_right L)
 have h2:Sat (e9 T pk F (ks.eraseIdx i) (xs.eraseIdx i)++bI (pk (ks.getD i dk)) (F (ks.getD i dk) (xs.getD i dx)) T::L) w:=h1.perm List.perm_middle.symm
 exact (Sat.join.2 h2).perm (.swap _ _ _)
theorem lT(dk:κ){y:α}{L:List HP}{w:World}(h:ks.length=xs.length)(hi:i<xs.length)
 (hs:Sat (bI (pk (ks.getD i dk)) (F (ks.getD i dk) y) T::cI (e9 T pk F (ks.eraseIdx i) (xs.eraseIdx i))::L) w):Sat (cI (e9 T pk F ks (xs.set i y))::L) w:=by
 have hl:i< (xs.set i y).length:=by simpa using hi
 have e:(xs.set i y).getD i y=y:=by simp [List.getD,hi]
 have e2:(xs.set i y).eraseIdx i=xs.eraseIdx i:=by rw [List.eraseIdx_set_eq]
 have hp:=mP (T:=T) (pk:=pk) (F:=F) dk y (ks:=ks) (xs:=xs.set i y) (by simpa using h) hl
 rw [e,e2] at hp
 refine Sat.join.2 (Sat.perm (hp.append_right L).symm ?_)
 have h1:=Sat.join.1 (hs.perm (.swap _ _ _))
 exact h1.perm List.perm_middle
theorem mX(dk:κ)(dx:α){L:List HP}{o:Nat}{v:Value}(hm:cI (e9 T pk F ks xs)∈L)(h:ks.length=xs.length)(hi:i<xs.length)(hv:(F (ks.getD i dk) (xs.getD i dx))[o]?=some v):
 Gives L ⟨pk (ks.getD i dk),o,none⟩ v:=fun w hs=>by
 obtain ⟨f,hf,hh⟩:=hs.mem hm
 have h1:Sat [cI (e9 T pk F ks xs)] w:=⟨f,⟨f,[],by simp,hf,rfl⟩,hh⟩
 exact aa (.head _) hv w (jA dk dx h hi h1)
variable{K:Act→World→Prop}{W:World}{N':Nat}{E:List (Nat×Value)}{L:List HP}
theorem m9{xs:List α}{i:Nat}(d:α)(h:i<xs.length):xs.set i (xs.getD i d)=xs:=by
 refine List.ext_getElem (by simp) fun j h1 h2=>?_
 rw [List.getElem_set];split
 ·rename_i e;subst e;simp [List.getD,h]
 ·rfl
theorem tw(q:κ)(y:α){p:Nat}{cs:List Value}(h:ks.length=xs.length)(hp:pk q=p)(hc:F q y=cs)(k:cd K W N' E (cI (e9 T pk F (ks++[q]) (xs++[y]))::L)):
 cd K W N' E (bI p cs T::cI (e9 T pk F ks xs)::L):=bO (fun w hs=>by
 subst hp;subst hc
 have e:e9 T pk F (ks++[q]) (xs++[y])=e9 T pk F ks xs++[bI (pk q) (F q y) T]:=by
  unfold e9;rw [List.zipWith_append h];rfl
 refine Sat.join.2 ?_
 rw [e,List.append_assoc]
 exact (Sat.join.1 (hs.perm (.swap _ _ _))).perm (.refl _)) k
theorem xh(T:TypeId)(pk:κ→Nat)(F:κ→α→List Value)(k:cd K W N' E (cI (e9 T pk F [] [])::L)):cd K W N' E L:=
 bO (fun w hs=>(Sat.join (M:=e9 T pk F [] [])).2 (show Sat ([]++L) w from hs)) k
end
end Go.Proofs.YtanfdikglplkaaaGreatDoor.Sp
namespace Go.Proofs.YtanfdikglplkaaaGreatDoor.Sp
open Go
structure AS where
 a:List Int
 q:List Int
def fp(A:Int)(s:AS):Bool:=decide ((s.a.length:Int)≥A)
def fz(Q:Int)(s:AS):Bool:=decide ((s.q.length:Int)≥Q)
def jW(s:AS)(x:Int):Bool:=s.a.contains x
def jY(s:AS)(x:Int):Bool:=s.q.contains x
def dV(s:AS)(x:Int):Bool:=jW s x ||jY s x
def Bd(s:AS)(x:Int):Int:=bif jW s x then 1 else 0
def fg(A Q:Int)(s:AS)(x:Int):AS:=bif dV s x then s else bif !fp A s then ⟨s.a++[x],s.q⟩ else bif !fz Q s then ⟨s.a,s.q++[x]⟩ else s
def eg(A Q:Int)(s:AS)(x:Int):Int:=bif dV s x then 0 else bif !fp A s then 1 else 0
def eE(A Q:Int)(s:AS)(x:Int):Int:=bif dV s x then 8 else bif !fp A s then 0 else bif !fz Q s then 0 else 4
def eQ(s:AS)(x:Int):AS:=bif jY s x then ⟨s.a,s.q.erase x⟩ else bif !jW s x then s else match s.q with
 | []=>⟨s.a.erase x,[]⟩
 |n::q=>⟨s.a.erase x++[n],q⟩
def fq(s:AS)(x:Int):Int:=bif jY s x then -1 else bif !jW s x then 0 else match s.q with
 | []=> -1
 |n::_=>n
def eG(s:AS)(x:Int):Int:=bif dV s x then 0 else 6
structure AOk(A Q:Int)(s:AS):Prop where
 A1:1≤A
 Q0:0≤Q
 la:(s.a.length:Int)≤A
 lq:(s.q.length:Int)≤Q
 nodup:(s.a++s.q).Nodup
 full:s.q≠[]→(s.a.length:Int)=A
theorem AOk.new(a q:Int):AOk (max a 1) (max q 0) ⟨[],[]⟩:=⟨by omega,by omega,by simp;omega,by simp;omega,by simp,fun h=>absurd rfl h⟩
theorem there_iff{s:AS}{x:Int}:dV s x=true↔x∈s.a++s.q:=by simp [dV,jW,jY]
theorem AOk.add{A Q:Int}{s:AS}(h:AOk A Q s)(x:Int):AOk A Q (fg A Q s x):=by
 unfold fg
 cases ht:dV s x with
 |true=>exact h
 |false=>
  have hn:x ∉ s.a++s.q:=fun hm=>by rw [there_iff.2 hm] at ht;cases ht
  rw [cond_false]
  cases ha:fp A s with
  |false=>
   rw [Bool.not_false,cond_true]
   have hl:¬(s.a.length:Int)≥A:=of_decide_eq_false ha
   have hq:s.q=[]:=by
    rcases Classical.em (s.q=[]) with e|e
    ·exact e
    ·exact absurd (h.full e) (by omega)
   refine ⟨h.A1,h.Q0,by simp;omega,h.lq,?_,fun e=>absurd hq e⟩
   have hnd:=h.nodup
   simp only [hq,List.append_nil] at hn hnd⊢
   rw [List.nodup_append]
   exact ⟨hnd,by simp,fun y hy z hz=>by simp at hz;subst hz;intro e;subst e;exact hn hy⟩
  |true=>
   rw [Bool.not_true,cond_false]
   have hl:(s.a.length:Int)≥A:=of_decide_eq_true ha
   cases hq:fz Q s with
   |true=>exact h
   |false=>
    rw [Bool.not_false,cond_true]
    have hlq:¬(s.q.length:Int)≥Q:=of_decide_eq_false hq
    refine ⟨h.A1,h.Q0,h.la,by simp;omega,?_,fun _=>by have:=h.la;show (s.a.length:Int)=A;omega⟩
    show (s.a++(s.q++[x])).Nodup
    rw [←List.append_assoc,List.nodup_append]
    exact ⟨h.nodup,by simp,fun y hy z hz=>by simp at hz;subst hz;intro e;subst e;exact hn hy⟩
theorem lu{a q:List Int}(h:(a++q).Nodup)(x:Int):(a.erase x++q).Nodup:=by
 rw [List.nodup_append] at h⊢
 exact ⟨h.1.sublist List.erase_sublist,h.2.1,fun y hy z hz=>h.2.2 y (List.mem_of_mem_erase hy) z hz⟩
theorem pf{a q:List Int}(h:(a++q).Nodup)(x:Int):(a++q.erase x).Nodup:=by
 rw [List.nodup_append] at h⊢
 exact ⟨h.1,h.2.1.sublist List.erase_sublist,fun y hy z hz=>h.2.2 y hy z (List.mem_of_mem_erase hz)⟩
theorem kS{l:List Int}{x:Int}(h:l.contains x=true):(l.erase x).length+1=l.length:=by
 have hm:x∈l:=by simpa using h
 have:=List.length_erase_of_mem hm
 have:=List.length_pos_of_mem hm
 omega
theorem AOk.ende{A Q:Int}{s:AS}(h:AOk A Q s)(x:Int):AOk A Q (eQ s x):=by
 unfold eQ
 cases hq:jY s x with
 |true=>
  rw [cond_true]
  have:=kS (l:=s.q) hq
  exact ⟨h.A1,h.Q0,h.la,by have:=h.lq;show ((s.q.erase x).length:Int)≤Q;omega,pf h.nodup x,fun e=>h.full (fun e'=>by rw [e'] at this;simp at this)⟩
 |false=>
  rw [cond_false]
  cases ha:jW s x with
  |false=>exact h
  |true=>
   rw [Bool.not_true,cond_false]
   have hl:=kS (l:=s.a) ha
   split
   ·rename_i e
    refine ⟨h.A1,h.Q0,by have:=h.la;show ((s.a.erase x).length:Int)≤A;omega,by simpa using h.Q0,?_,fun h=>absurd rfl h⟩
    have:=lu h.nodup x
    rw [e] at this;exact this
   ·rename_i n q e
    have hf:=h.full (by rw [e];simp)
    have hlq:=h.lq
    rw [e] at hlq
    refine ⟨h.A1,h.Q0,by show ((s.a.erase x++[n]).length:Int)≤A;simp;omega,by show (q.length:Int)≤Q;simp at hlq;omega,?_,fun _=>by show ((s.a.erase x++[n]).length:Int)=A;simp;omega⟩
    have:=lu h.nodup x
    rw [e] at this
    show (s.a.erase x++[n]++q).Nodup
    simpa [List.append_assoc] using this
theorem pS{v:Int}{xs:List Int}(h:eU (fun y=>decide (v=y)) xs≥0):xs.contains v=true∧(eU (fun y=>decide (v=y)) xs).toNat<xs.length∧xs.eraseIdx (eU (fun y=>decide (v=y)) xs).toNat=xs.erase v:=by
 unfold eU at h⊢
 by_cases hl:xs.findIdx (fun y=>decide (v=y))<xs.length
 ·rw [if_pos hl]
  refine ⟨?_,by simpa using hl,?_⟩
  ·rw [List.contains_iff_mem]
   obtain ⟨x,hx,e⟩:=List.findIdx_lt_length.1 hl
   have:=of_decide_eq_true e
   exact this▸hx
  ·rw [Int.toNat_natCast,List.erase_eq_eraseIdx]
   have hi:xs.idxOf? v=some (xs.findIdx fun y=>decide (v=y)):=by
    rw [List.idxOf?,List.findIdx?_eq_some_iff_findIdx_eq]
    refine ⟨hl,?_⟩
    congr 1;funext y;rw [Bool.eq_iff_iff,beq_iff_eq,decide_eq_true_iff];exact eq_comm
   rw [hi]
 ·rw [if_neg hl] at h;omega
theorem rG{v:Int}{xs:List Int}(h:eU (fun y=>decide (v=y)) xs<0):xs.contains v=false:=by
 cases hc:xs.contains v with
 |false=>rfl
 |true=>
  rw [List.contains_iff_mem] at hc
  unfold eU at h
  rw [if_pos (List.findIdx_lt_length.2 ⟨v,hc,by simp⟩)] at h;omega
theorem wy{A Q:Int}{s:AS}{x:Int}(h:AOk A Q s)(h1:s.q.contains x=false)(h2:s.a.contains x=true)(hne:¬s.q.length=0):
 (eQ s x).a=(bif !decide (((s.a.erase x).length:Int)≥A) then s.a.erase x++[s.q.getD 0 0] else s.a.erase x)∧(eQ s x).q=s.q.erase (s.q.getD 0 0)∧fq s x=s.q.getD 0 0∧eG s x=0:=by
 have hl:=kS h2
 have hla:=h.la
 have hd:decide (((s.a.erase x).length:Int)≥A)=false:=decide_eq_false (by omega)
 rw [hd]
 cases hq:s.q with
 |nil=>rw [hq] at hne;simp at hne
 |cons n q=>
  have hc:(n::q).contains x=false:=by rw [←hq];exact h1
  simp only [eQ,fq,eG,dV,jW,jY,h2,hq,hc,cond_false,Bool.not_true]
  simp
def Cx(p:Nat)(A Q:Int)(s:AS)(b1:Option Addr)(c1:Nat)(b2:Option Addr)(c2:Nat):List HP:=
 [bI p [.int .i64 A,.slice b1 s.a.length c1,.int .i64 Q,.slice b2 s.q.length c2] 136,SlV 3 1 (.slice b1 s.a.length c1) s.a.length (aF .i64 s.a),SlV 3 1 (.slice b2 s.q.length c2) s.q.length (aF .i64 s.q)]
structure AFacts(A Q:Int)(s:AS)(b1:Option Addr)(c1:Nat)(b2:Option Addr)(c2:Nat):Prop where
 ok:AOk A Q s
 k1:bB b1 s.a.length
 k2:bB b2 s.q.length
def dv(p:Nat)(A Q:Int)(s:AS):HP:=fun f=> ∃b1 c1 b2 c2,AFacts A Q s b1 c1 b2 c2∧Parts (Cx p A Q s b1 c1 b2 c2) f
theorem Sat.openA{p:Nat}{A Q:Int}{s:AS}{L:List HP}{w:World}(h:Sat (dv p A Q s::L) w):∃b1 c1 b2 c2,AFacts A Q s b1 c1 b2 c2∧
 Sat (bI p [.int .i64 A,.slice b1 s.a.length c1,.int .i64 Q,.slice b2 s.q.length c2] 136::SlV 3 1 (.slice b1 s.a.length c1) s.a.length (aF .i64 s.a)::SlV 3 1 (.slice b2 s.q.length c2) s.q.length (aF .i64 s.q)::L) w:=by
 obtain ⟨_,⟨f1,f2,rfl,⟨b1,c1,b2,c2,hk,g1,g2,rfl,hg1,g3,g4,rfl,hg3,g5,g6,rfl,hg5,hg6⟩,hp⟩,hh⟩:=h
 obtain rfl:=hg6
 refine ⟨b1,c1,b2,c2,hk,_,⟨g1,g3++(g5++f2),rfl,hg1,g3,g5++f2,rfl,hg3,g5,f2,rfl,hg5,hp⟩,?_⟩
 simpa [List.append_assoc] using hh
theorem Sat.shutA{p:Nat}{A Q:Int}{s:AS}{b1:Option Addr}{c1:Nat}{b2:Option Addr}{c2:Nat}{L:List HP}{w:World}(hk:AFacts A Q s b1 c1 b2 c2)
 (h:Sat (bI p [.int .i64 A,.slice b1 s.a.length c1,.int .i64 Q,.slice b2 s.q.length c2] 136::SlV 3 1 (.slice b1 s.a.length c1) s.a.length (aF .i64 s.a)::SlV 3 1 (.slice b2 s.q.length c2) s.q.length (aF .i64 s.q)::L) w):Sat (dv p A Q s::L) w:=by
 obtain ⟨_,⟨g1,_,rfl,hg1,g3,_,rfl,hg3,g5,f2,rfl,hg5,hp⟩,hh⟩:=h
 refine ⟨_,⟨g1++(g3++(g5++[])),f2,rfl,⟨b1,c1,b2,c2,hk,g1,g3++(g5++[]),rfl,hg1,g3,g5++[],rfl,hg3,g5,[],rfl,hg5,rfl⟩,hp⟩,?_⟩
 simpa [List.append_assoc] using hh
section
variable{K:Act→World→Prop}{W:World}{N':Nat}{E:List (Nat×Value)}{L:List HP}
theorem nG{p:Nat}{A Q:Int}{s:AS}(k:∀b1 c1 b2 c2,AFacts A Q s b1 c1 b2 c2→cd K W N' E (bI p [.int .i64 A,.slice b1 s.a.length c1,.int .i64 Q,.slice b2 s.q.length c2] 136::SlV 3 1 (.slice b1 s.a.length c1) s.a.length (aF .i64 s.a)::SlV 3 1 (.slice b2 s.q.length c2) s.q.length (aF .i64 s.q)::L)):
 cd K W N' E (dv p A Q s::L):=fun a w st=>by
 obtain ⟨b1,c1,b2,c2,h1,h2⟩:=st.sat.openA
 exact k b1 c1 b2 c2 h1 a w ⟨st.size,st.defers,st.env,h2,st.ext⟩
theorem gm{p:Nat}{A Q:Int}{a q:List Int}(s:AS){b1:Option Addr}{c1:Nat}{b2:Option Addr}{c2:Nat}(hk:AOk A Q s)(ha:s.a=a)(hq:s.q=q)(k1:bB b1 a.length)(k2:bB b2 q.length)(k:cd K W N' E (dv p A Q s::L)):
 cd K W N' E (bI p [.int .i64 A,.slice b1 a.length c1,.int .i64 Q,.slice b2 q.length c2] 136::SlV 3 1 (.slice b1 a.length c1) a.length (aF .i64 a)::SlV 3 1 (.slice b2 q.length c2) q.length (aF .i64 q)::L):=by
 subst ha;subst hq
 exact bO (fun _ hs=>hs.shutA ⟨hk,k1,k2⟩) k
end
end Go.Proofs.YtanfdikglplkaaaGreatDoor.Sp
