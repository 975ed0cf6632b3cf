/- Parts Eng3: own lemmas and contracts of the code that the claim reaches. -/
import Derived.Test.YtanfdikglplkaaaGreatDoorM09
set_option linter.unusedSimpArgs false
set_option linter.unusedVariables false
namespace Go.Proofs.YtanfdikglplkaaaGreatDoor.Sp
open Go
structure OS where
 s:ES
 ms:List M3
 ta:Nat
 as:AS
def jg(st:Int):Int:=if st=5 then 2 else if st=6 then 3 else if st=7 then 4 else 0
def OS.left(y:OS)(r:Int)(st:Int):OS:=⟨y.s.setSt r.toNat st,fo y.ms r,gd y.ms y.ta r,eQ y.as r⟩
def OS.come(y:OS)(r:Nat):OS:=⟨oA y.s r,vW y.s y.ms r,y.ta,y.as⟩
def OS.leaves(y:OS)(r:Int)(st:Int):OS:=if eG y.as r=0∧fq y.as r≥0 then (y.left r st).come (fq y.as r).toNat else y.left r st
structure OvOk(n m:Nat)(A Q:Int)(y:OS):Prop where
 rq:RqOk n y.s
 lm:y.s.rq.length=m
 ids:∀i∈y.as.a++y.as.q,0≤i∧i<m
 ao:AOk A Q y.as
 me:y.ms.map (·.id)=y.as.a
theorem RqOk.setSt{n:Nat}{s:ES}(h:RqOk n s)(r:Nat)(v:Int):RqOk n (s.setSt r v):=fun i hi=>by
 rw [oT,sq,yN]
 exact h i (by have:(s.setSt r v).rq.length=s.rq.length:=by show (s.rq.set _ _).length=_;rw [List.length_set]
               omega)
theorem iJ(s:ES)(r:Nat)(v:Int):(s.setSt r v).rq.length=s.rq.length:=by show (s.rq.set _ _).length=_;rw [List.length_set]
theorem qg(s:ES)(r:Nat):(oA s r).rq=(s.setSt r 1).rq:=by unfold oA;split <;>rfl
theorem RqOk.beg{n:Nat}{s:ES}(h:RqOk n s)(r:Nat):RqOk n (oA s r):=by
 have:=h.setSt r 1;unfold RqOk at*;rw [qg];exact this
theorem iN(ms:List M3)(r:Int):(fo ms r).map (·.id)=(ms.map (·.id)).erase r:=by
 have key:∀ms:List M3,(if ms.findIdx (fun m=>decide (m.id=r))<ms.length then ms.eraseIdx (ms.findIdx fun m=>decide (m.id=r)) else ms).map (·.id)=(ms.map (·.id)).erase r:=by
  intro ms
  induction ms with
  |nil=>rfl
  |cons m ms ih=>
   rw [List.findIdx_cons]
   by_cases e:m.id=r
   ·simp [e]
   ·have e2:(m.id==r)=false:=by simp [e]
    simp only [e,decide_false,cond_false,List.length_cons,Nat.add_lt_add_iff_right,List.eraseIdx_cons_succ,List.map_cons,List.erase_cons,e2]
    rw [←ih]
    split
    ·simp
    ·simp
 rw [←key]
 unfold fo dS
 by_cases h:ms.findIdx (fun m=>decide (m.id=r))<ms.length
 ·simp only [if_pos h];rw [if_neg (by omega),Int.toNat_natCast]
 ·simp only [if_neg h];rw [if_pos (by decide)]
theorem p4{ms:List M3}{r w:Int}(hw:1≤w∧w≤100)(hr:r ∉ ms.map (·.id)):(ir ms r w).map (·.id)=ms.map (·.id)++[r]:=by
 have h1:dS ms r= -1:=by
  rcases iA ms r with ⟨k,h1,h2,h3⟩| ⟨h1,_⟩
  ·refine absurd ?_ hr
   rw [List.mem_map];exact ⟨ms.getD k M3.z,by simp [List.getD,h2],h3⟩
  ·exact h1
 have h2:hX ms r w=0:=by unfold hX;rw [if_neg (by omega),h1];rfl
 unfold ir
 rw [h2,if_pos rfl,List.map_append];rfl
theorem sF{s:AS}{r:Int}(hn:(s.a++s.q).Nodup)(hr:r∈s.a):eG s r=0∧((s.q=[]∧fq s r= -1∧eQ s r=⟨s.a.erase r,[]⟩)∨∃n q,s.q=n::q∧fq s r=n∧eQ s r=⟨s.a.erase r++[n],q⟩):=by
 have hq:s.q.contains r=false:=by
  rw [Bool.eq_false_iff];intro h
  have h1:r∈s.q:=by simpa using h
  exact (List.nodup_append.1 hn).2.2 r hr r h1 rfl
 have ha:s.a.contains r=true:=by simpa using hr
 refine ⟨by unfold eG dV jW jY;rw [ha];rfl,?_⟩
 unfold fq eQ jW jY
 rw [hq,ha]
 cases h:s.q with
 |nil=>left;exact ⟨rfl,rfl,rfl⟩
 |cons n q=>right;exact ⟨n,q,rfl,rfl,rfl⟩
theorem uM{s:AS}{r:Int}(hr:r∈s.q):eG s r=0∧fq s r= -1∧eQ s r=⟨s.a,s.q.erase r⟩:=by
 have hq:s.q.contains r=true:=by simpa using hr
 unfold eG fq eQ dV jW jY
 rw [hq];simp
theorem vn{s:AS}{r:Int}(h:eG s r=0):r∈s.a++s.q:=by
 unfold eG at h
 cases ht:dV s r with
 |true=>exact there_iff.1 ht
 |false=>rw [ht] at h;exact absurd h (by decide)
theorem OvOk.left{n m:Nat}{A Q:Int}{y:OS}(h:OvOk n m A Q y){r:Int}(st:Int):RqOk n (y.left r st).s∧(y.left r st).s.rq.length=m:=
 ⟨h.rq.setSt _ _,by show (y.s.setSt _ _).rq.length=m;rw [iJ];exact h.lm⟩
theorem OvOk.next{n m:Nat}{A Q:Int}{y:OS}(h:OvOk n m A Q y){r:Int}(hr:r∈y.as.a++y.as.q)(hv:fq y.as r≥0):fq y.as r∈y.as.q:=by
 rcases List.mem_append.1 hr with h1|h1
 ·rcases (sF h.ao.nodup h1).2 with ⟨_,h3,_⟩| ⟨k,q,h2,h3,_⟩
  ·omega
  ·rw [h3,h2];exact .head _
 ·have:=(uM (s:=y.as) h1).2.1;omega
theorem OvOk.leaves{n m:Nat}{A Q:Int}{y:OS}(h:OvOk n m A Q y){r:Int}(hr:r∈y.as.a++y.as.q)(st:Int):OvOk n m A Q (y.leaves r st):=by
 have h0:=h.left (r:=r) st
 have hao:AOk A Q (eQ y.as r):=h.ao.ende r
 have hids:∀i∈(eQ y.as r).a++(eQ y.as r).q,0≤i∧i<m:=by
  intro i hi
  refine h.ids i ?_
  rcases List.mem_append.1 hr with h1|h1
  ·rcases (sF h.ao.nodup h1).2 with ⟨h2,_,h4⟩| ⟨k,q,h2,_,h4⟩
   ·rw [h4] at hi;simp at hi;exact List.mem_append_left _ (List.mem_of_mem_erase hi)
   ·rw [h4] at hi;rw [h2];simp at hi
    rcases hi with hi|hi|hi
    ·exact List.mem_append_left _ (List.mem_of_mem_erase hi)
    ·subst hi;exact List.mem_append_right _ (.head _)
    ·exact List.mem_append_right _ (.tail _ hi)
  ·rw [(uM (s:=y.as) h1).2.2] at hi
   rcases List.mem_append.1 hi with hi|hi
   ·exact List.mem_append_left _ hi
   ·exact List.mem_append_right _ (List.mem_of_mem_erase hi)
 unfold OS.leaves
 by_cases hc:eG y.as r=0∧fq y.as r≥0
 ·rw [if_pos hc]
  have hm:=h.next hr hc.2
  have hnx:=h.ids _ (List.mem_append_right _ hm)
  refine ⟨h0.1.beg _,?_,hids,hao,?_⟩
  ·show (oA _ _).rq.length=m;rw [qg,iJ];exact h0.2
  ·show (vW _ _ _).map (·.id)=(eQ y.as r).a
   have hw:=(h0.1.setSt (fq y.as r).toNat 1) (fq y.as r).toNat (by rw [iJ,h0.2];omega)
   rcases List.mem_append.1 hr with h1|h1
   ·rcases (sF h.ao.nodup h1).2 with ⟨_,h3,_⟩| ⟨k,q,h2,h3,h4⟩
    ·omega
    ·rw [h4];show _=y.as.a.erase r++[k]
     have hk:k ∉ ((fo y.ms r).map (·.id)):=by
      rw [iN,h.me];intro hh
      have h5:=List.mem_of_mem_erase hh
      exact (List.nodup_append.1 h.ao.nodup).2.2 k h5 k (by rw [h2];exact .head _) rfl
     have e:((fq y.as r).toNat:Int)=k:=by rw [h3] at hnx⊢;omega
     unfold vW
     rw [e]
     show (ir (fo y.ms r) k _).map (·.id)=_
     rw [p4 ⟨hw.2.2.1,hw.2.2.2.1⟩ hk,iN,h.me]
   ·have:=(uM (s:=y.as) h1).2.1;omega
 ·rw [if_neg hc]
  refine ⟨h0.1,h0.2,hids,hao,?_⟩
  show (fo y.ms r).map (·.id)=(eQ y.as r).a
  rw [iN,h.me]
  rcases List.mem_append.1 hr with h1|h1
  ·obtain ⟨h2,h3⟩:=sF h.ao.nodup h1
   rcases h3 with ⟨_,_,h4⟩| ⟨k,q,h5,h6,_⟩
   ·rw [h4]
   ·have:=h.ids k (List.mem_append_right _ (by rw [h5];exact .head _))
    exact absurd ⟨h2,by rw [h6];exact this.1⟩ hc
  ·rw [(uM (s:=y.as) h1).2.2]
   show y.as.a.erase r=y.as.a
   exact List.erase_of_not_mem fun hh=>(List.nodup_append.1 h.ao.nodup).2.2 r hh r h1 rfl
def OS.cnt(y:OS):Nat:=y.as.a.length+y.as.q.length
theorem OvOk.less{n m:Nat}{A Q:Int}{y:OS}(h:OvOk n m A Q y){r:Int}(hr:r∈y.as.a)(st:Int):(y.leaves r st).cnt<y.cnt:=by
 have e:(y.leaves r st).as=eQ y.as r:=by unfold OS.leaves;split <;>rfl
 unfold OS.cnt;rw [e]
 have hl:=List.length_pos_of_mem hr
 rcases (sF h.ao.nodup hr).2 with ⟨h2,_,h4⟩| ⟨k,q,h2,_,h4⟩
 ·rw [h4,h2];simp [List.length_erase_of_mem hr];omega
 ·rw [h4,h2];simp [List.length_erase_of_mem hr];omega
inductive Ov:OS→OS→Prop
 |refl (y:OS):Ov y y
 |step {y y1:OS} (r:Int) (h:Ov y y1) (hr:r∈y1.as.a) (hf:5≤y1.s.stt (y1.s.rt r.toNat)):Ov y (y1.leaves r (jg (y1.s.stt (y1.s.rt r.toNat))))
theorem Ov.ok{n m:Nat}{A Q:Int}{y y':OS}(h:Ov y y')(h0:OvOk n m A Q y):OvOk n m A Q y':=by
 induction h with
 |refl=>exact h0
 |step r _ hr _ ih=>exact ih.leaves (List.mem_append_left _ hr) _
def OS.calm(y:OS):Prop:=∀r∈y.as.a,y.s.stt (y.s.rt r.toNat)<5
def jc(s:ES)(u:Nat)(st:Int):ES:=if st=5 then (s.setTk u {(s.tk.getD u Tk.z) with wt:= -1}).lfu u lV else if st=6 then (s.setTk u {(s.tk.getD u Tk.z) with wt:= -1}).lfu u gz else (s.setTk u {(s.tk.getD u Tk.z) with wt:= -1}).lfu u gA
inductive Foll(es:Es):ES→ES→Prop
 |refl (s:ES):Foll es s s
 |step {s s1:ES} (u v:Int) (h:Foll es s s1) (hu:(u,v)∈es) (hw:(s1.tk.getD u.toNat Tk.z).wt=v) (h3:s1.stt u.toNat=3):Foll es s (jc s1 u.toNat (s1.stt v.toNat))
theorem zI(s:ES)(u:Nat)(st:Int):(jc s u st).rq=s.rq:=by unfold jc;split;· rfl
                                                        split <;>rfl
theorem Foll.rq{es:Es}{s s':ES}(h:Foll es s s'):s'.rq=s.rq:=by
 induction h with
 |refl=>rfl
 |step u v _ _ _ _ ih=>rw [zI,ih]
theorem Foll.none{s s':ES}(h:Foll [] s s'):s'=s:=by
 cases h with
 |refl=>rfl
 |step u v _ hu=>cases hu
def pz(s:ES):Nat:=s.lf.countP fun x=>decide (x.st=3)
theorem AA(s:ES):pz s≤s.lf.length:=List.countP_le_length
theorem nM{s:ES}{u:Nat}{f:Lf→Lf}(hu:u<s.lf.length)(h3:s.stt u=3)(hf:(f (s.lf.getD u Lf.z)).st≠3):pz (s.lfu u f)+1=pz s:=by
 have e:s.lf.getD u Lf.z=s.lf[u]:=by simp [List.getD,hu]
 unfold ES.stt at h3
 unfold pz ES.lfu ES.setLf
 have hp:0<s.lf.countP (fun x=>decide (x.st=3)):=List.countP_pos_iff.2 ⟨s.lf[u],List.getElem_mem hu,by rw [←e];exact decide_eq_true h3⟩
 show (s.lf.set u (f (s.lf.getD u Lf.z))).countP _+1=_
 rw [List.countP_set hu,←e]
 simp only [h3,decide_true,if_true,hf,decide_false]
 simp
 omega
theorem rP{s:ES}{u:Nat}(hu:u<s.lf.length)(h3:s.stt u=3)(st:Int):pz (jc s u st)+1=pz s:=by
 have h3':(s.lf.getD u Lf.z).st=3:=h3
 unfold jc
 split
 ·exact nM (s:=s.setTk u _) hu h3 (by show (lV (s.lf.getD u Lf.z)).st≠3;unfold lV o9;rw [if_pos h3'];dsimp only;decide)
 ·split
  ·exact nM (s:=s.setTk u _) hu h3 (by show (gz (s.lf.getD u Lf.z)).st≠3;unfold gz;rw [if_pos (.inl h3')];dsimp only;decide)
  ·exact nM (s:=s.setTk u _) hu h3 (by show (gA (s.lf.getD u Lf.z)).st≠3;unfold gA;rw [if_pos (by omega)];dsimp only;decide)
theorem OvOk.fol{n m:Nat}{A Q:Int}{y:OS}(h:OvOk n m A Q y){s':ES}(hr:s'.rq=y.s.rq):OvOk n m A Q {y with s:=s'}:=
 ⟨by have:=h.rq;unfold RqOk at*;show∀r,r<s'.rq.length→_;rw [hr];exact this,by show s'.rq.length=m;rw [hr];exact h.lm,h.ids,h.ao,h.me⟩
theorem inns_mem{es:Es}{a u:Int}:u∈cg es a↔(u,a)∈es:=by
 unfold cg;rw [List.mem_map]
 constructor
 ·rintro ⟨⟨p,q⟩,h,rfl⟩;rw [List.mem_filter] at h;have:=h.2;simp at this;subst this;exact h.1
 ·intro h;exact ⟨(u,a),List.mem_filter.2 ⟨h,by simp⟩,rfl⟩
def mU(s:ES)(ld:Led)(t:Nat):ES:=(s.addLg (g7 s ld 2 t)).lfu t pj
def ES.addRq(s:ES)(r:Rq):ES:={s with rq:=s.rq++[r]}
def EP.addRq(x:EP)(b:Option Addr)(c p:Nat):EP:={x with m:=x.m+1,br:=b,cr:=c,rs:=x.rs++[p]}
def OS.added(A Q:Int)(y:OS)(r:Rq):OS:=⟨y.s.addRq r,y.ms,y.ta,fg A Q y.as (y.s.rq.length:Int)⟩
def kW(A Q:Int)(y:OS):Int:=if 64≤y.s.rq.length then 4 else eE A Q y.as (y.s.rq.length:Int)
def SubZ(A Q:Int)(y:OS)(r:Rq)(z:OS):Prop:=
 (eg A Q y.as (y.s.rq.length:Int)=1∧Ov ((y.added A Q r).come y.s.rq.length) z∧z.calm)∨(eg A Q y.as (y.s.rq.length:Int)≠1∧z=y.added A Q r)
theorem EF.addRq{x:EP}{s:ES}(h:EF x s){b:Option Addr}{c p:Nat}{r:Rq}(hm:x.m<64)(ho:bB b (x.m+1))(hc:x.m+1≤c):EF (x.addRq b c p) (s.addRq r):=
 ⟨h.tn,h.ln,h.kn,h.an,by show (s.rq++[r]).length=x.m+1;rw [List.length_append,h.mn];rfl,by show (x.rs++[p]).length=x.m+1;rw [List.length_append,h.rn];rfl,h.oka,h.okt,ho,h.nb,by show x.m+1≤64;omega,h.ca,h.ct,hc,h.lo,h.n0⟩
theorem wY{s:ES}{r:Rq}(j:Nat):(s.addRq r).rq.getD j Rq.z=if j=s.rq.length then r else s.rq.getD j Rq.z:=by
 show (s.rq++[r]).getD j Rq.z=_
 by_cases e:j=s.rq.length
 ·subst e;rw [if_pos rfl];simp [List.getD]
 ·rw [if_neg e]
  simp only [List.getD]
  by_cases h:j<s.rq.length
  ·rw [List.getElem?_append_left h]
  ·rw [List.getElem?_append_right (by omega),List.getElem?_eq_none (by simp;omega),List.getElem?_eq_none (by omega)]
theorem RqOk.addRq{n:Nat}{s:ES}(h:RqOk n s){r:Rq}(hr:0≤r.root∧r.root<n∧1≤r.wt∧r.wt≤100∧0≤r.pr∧r.pr≤7):RqOk n (s.addRq r):=fun j hj=>by
 have hl:(s.addRq r).rq.length=s.rq.length+1:=by show (s.rq++[r]).length=_;rw [List.length_append];rfl
 rw [wY];split
 ·exact hr
 ·exact h j (by omega)
theorem uG{A Q:Int}{s:AS}{x:Int}(h:eE A Q s x=0):dV s x=false∧((eg A Q s x=1∧fg A Q s x=⟨s.a++[x],s.q⟩)∨(eg A Q s x=0∧fg A Q s x=⟨s.a,s.q++[x]⟩)):=by
 unfold eE at h
 unfold eg fg
 cases ht:dV s x with
 |true=>rw [ht] at h;exact absurd h (by show¬(8:Int)=0;decide)
 |false=>
  refine ⟨rfl,?_⟩
  rw [ht] at h;simp only [cond_false] at h⊢
  cases ha:fp A s with
  |false=>left;exact ⟨rfl,rfl⟩
  |true=>
   rw [ha] at h;simp only [Bool.not_true,cond_false] at h⊢
   cases hq:fz Q s with
   |false=>right;exact ⟨by first|rfl|trivial,rfl⟩
   |true=>rw [hq] at h;exact absurd h (by decide)
theorem B4{A Q:Int}{s:AS}{x:Int}(h:eE A Q s x≠0):fg A Q s x=s:=by
 unfold eE at h;unfold fg
 cases ht:dV s x with
 |true=>rfl
 |false=>
  rw [ht] at h;simp only [cond_false] at h⊢
  cases ha:fp A s with
  |false=>rw [ha] at h;exact absurd rfl h
  |true=>
   rw [ha] at h;simp only [Bool.not_true,cond_false] at h⊢
   cases hq:fz Q s with
   |false=>rw [hq] at h;exact absurd rfl h
   |true=>rfl
theorem OvOk.added0{n m:Nat}{A Q:Int}{y:OS}(h:OvOk n m A Q y){r:Rq}(hr:0≤r.root∧r.root<n∧1≤r.wt∧r.wt≤100∧0≤r.pr∧r.pr≤7)(he:eE A Q y.as (y.s.rq.length:Int)=0):
 RqOk n (y.added A Q r).s∧(y.added A Q r).s.rq.length=m+1∧(∀i∈(y.added A Q r).as.a++(y.added A Q r).as.q,0≤i∧i< ((m+1:Nat):Int))∧AOk A Q (y.added A Q r).as:=by
 have hl:(y.added A Q r).s.rq.length=m+1:=by show (y.s.rq++[r]).length=_;rw [List.length_append,h.lm];rfl
 refine ⟨h.rq.addRq hr,hl,fun i hi=>?_,h.ao.add _⟩
 have hk:∀i∈y.as.a++y.as.q,0≤i∧i< ((m+1:Nat):Int):=fun i hi=>by have:=h.ids i hi;omega
 have hm:=h.lm
 have hi':i∈(fg A Q y.as (y.s.rq.length:Int)).a++(fg A Q y.as (y.s.rq.length:Int)).q:=hi
 rcases (uG he).2 with ⟨_,e⟩| ⟨_,e⟩
 ·rw [e] at hi';simp only [List.mem_append,List.mem_singleton] at hi'
  rcases hi' with (hi|hi)|hi
  ·exact hk i (List.mem_append_left _ hi)
  ·subst hi;omega
  ·exact hk i (List.mem_append_right _ hi)
 ·rw [e] at hi';simp only [List.mem_append,List.mem_singleton] at hi'
  rcases hi' with hi|hi|hi
  ·exact hk i (List.mem_append_left _ hi)
  ·exact hk i (List.mem_append_right _ hi)
  ·subst hi;omega
theorem OvOk.addedQ{n m:Nat}{A Q:Int}{y:OS}(h:OvOk n m A Q y){r:Rq}(hr:0≤r.root∧r.root<n∧1≤r.wt∧r.wt≤100∧0≤r.pr∧r.pr≤7)(he:eE A Q y.as (y.s.rq.length:Int)=0)
 (hv:eg A Q y.as (y.s.rq.length:Int)≠1):OvOk n (m+1) A Q (y.added A Q r):=by
 obtain ⟨h1,h2,h3,h4⟩:=h.added0 hr he
 refine ⟨h1,h2,h3,h4,?_⟩
 rcases (uG he).2 with ⟨e1,_⟩| ⟨_,e⟩
 ·exact absurd e1 hv
 ·show y.ms.map (·.id)=(fg A Q y.as (y.s.rq.length:Int)).a;rw [e];exact h.me
theorem OvOk.addedA{n m:Nat}{A Q:Int}{y:OS}(h:OvOk n m A Q y){r:Rq}(hr:0≤r.root∧r.root<n∧1≤r.wt∧r.wt≤100∧0≤r.pr∧r.pr≤7)(he:eE A Q y.as (y.s.rq.length:Int)=0)
 (hv:eg A Q y.as (y.s.rq.length:Int)=1):OvOk n (m+1) A Q ((y.added A Q r).come y.s.rq.length):=by
 obtain ⟨h1,h2,h3,h4⟩:=h.added0 hr he
 have hm:=h.lm
 refine ⟨h1.beg _,by show (oA _ _).rq.length=_;rw [qg,iJ];exact h2,h3,h4,?_⟩
 rcases (uG he).2 with ⟨_,e⟩| ⟨e1,_⟩
 ·show (vW _ _ _).map (·.id)=(fg A Q y.as (y.s.rq.length:Int)).a
  rw [e]
  have hw:=(h1.setSt y.s.rq.length 1) y.s.rq.length (by rw [iJ];omega)
  have ht:=(uG he).1
  unfold vW
  show (ir y.ms _ _).map (·.id)=y.as.a++[(y.s.rq.length:Int)]
  rw [p4 ⟨hw.2.2.1,hw.2.2.2.1⟩ (by rw [h.me];intro hh;have:dV y.as (y.s.rq.length:Int)=true:=there_iff.2 (List.mem_append_left _ hh);rw [ht] at this;cases this),h.me]
 ·rw [e1] at hv;exact absurd hv (by decide)
def yi(s:ES)(t:Nat):ES:=((s.lfu t fP).setTk t {(s.tk.getD t Tk.z) with sn:=s.bg}).setBg (s.bg+1)
def jl(s:ES)(ld:Led)(t:Nat):ES:=(yi s t).addLg (g7 (yi s t) (ld.take t (s.tk.getD t Tk.z).mem) 1 t)
def BV(s:ES)(ks:Ks)(t:Nat):Ks:=jS (jq ks t) t (s.now+s.c.tmo)
theorem zi{K:Act→World→Prop}{W:World}{N':Nat}{E:List (Nat×Value)}{L:List HP}{e:Nat}{x:EP}{s:ES}{bl:Option Addr}{cl:Nat}{b:Option Addr}{c p:Nat}(r:Rq)(hE:EF x s)(hl:LgOk s bl cl)(hm:x.m<64)(ho:bB b (x.m+1))(hc:x.m+1≤c)
 (kk:cd K W N' E (bQ e (x.addRq b c p) (s.addRq r)::L)):
 cd K W N' E (bI e [.int .i64 s.c.bud,.int .i64 s.c.slots,.int .i64 s.c.act,.int .i64 s.c.que,.int .i64 s.c.tries,.int .i64 s.c.pre,.int .i64 s.c.tmo,.int .i64 s.c.bak,.int .i64 s.c.most,.int .i64 s.c.qu,
 .slice x.ba x.n x.ca,.slice x.bt x.n x.ct,.slice b (x.m+1) c,.pointer (some ⟨x.g,0,none⟩),.pointer (some ⟨x.tp,0,none⟩),.pointer (some ⟨x.ld,0,none⟩),.pointer (some ⟨x.ad,0,none⟩),.pointer (some ⟨x.tn,0,none⟩),
 .int .i64 s.now,.int .i64 s.bg,.slice bl s.lg.length cl] 73::SlV 57 2 (.slice x.ba x.n x.ca) x.n (df s.al)::SlV 64 1 (.slice x.bt x.n x.ct) x.n (bJ dJ (x.ks.map Prod.fst))::
 SlV 79 1 (.slice b (x.m+1) c) (x.m+1) (bJ dJ (x.rs++[p]))::SlV 45 5 (.slice bl s.lg.length cl) s.lg.length (bJ gH s.lg)::
 cI (e9 tf Prod.fst pd x.ks s.tk)::cI (e9 py Prod.snd (fun _=>fD) x.ks s.lf)::bI p (rv r) w5::cI (e9 w5 id (fun _=>rv) x.rs s.rq)::L):=by
 have h2:=qj (e:=e) (L:=L) (b:=bl) (c:=cl) (hE.addRq (b:=b) (c:=c) (p:=p) (r:=r) hm ho hc) ⟨hl.ok,hl.le⟩ kk
 refine eL (dR (fO (List.Perm.swap _ _ _) ?_))
 refine tw (pk:=id) (F:=fun _=>rv) p r (by rw [hE.rn,hE.mn]) rfl rfl ?_
 exact fO (bX [_,_,_,_,_,_,_] _).symm h2
theorem wZ{o:List Int}{a:Int}{i:Nat}(h:i<o.length):(o++[a]).getD i 0=o.getD i 0:=by
 simp only [List.getD];rw [List.getElem?_append_left h]
theorem sQ(ms:List M3)(r:Int):(fo ms r).length≤ms.length:=by
 have:=congrArg List.length (iN ms r);rw [List.length_map] at this
 rw [this];have h:=(List.erase_sublist (a:=r) (l:=ms.map (·.id))).length_le;rwa [List.length_map] at h
theorem vH{z:OS}{k:Nat}(h:∀j,j<k→z.s.stt (z.s.rt (z.as.a.getD j 0).toNat)<5)(hk:z.s.stt (z.s.rt (z.as.a.getD k 0).toNat)<5):∀j,j<k+1→z.s.stt (z.s.rt (z.as.a.getD j 0).toNat)<5:=fun j hj=>by
 rcases Nat.lt_succ_iff_lt_or_eq.1 hj with h1|h1
 ·exact h j h1
 ·subst h1;exact hk
theorem yM{z:OS}{k:Nat}(hk:z.as.a.length≤k)(h:∀j,j<k→z.s.stt (z.s.rt (z.as.a.getD j 0).toNat)<5):z.calm:=fun r hr=>by
 obtain ⟨j,hj,e⟩:=List.getElem_of_mem hr
 have:=h j (by omega)
 have e2:z.as.a.getD j 0=r:=by simp [List.getD,hj,e]
 rwa [e2] at this
end Go.Proofs.YtanfdikglplkaaaGreatDoor.Sp
