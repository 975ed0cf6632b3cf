/- Parts Drw, Law, Stp, Dsq: own lemmas and contracts of the code that the claim reaches. -/
import Derived.Test.YtanfdikglplkaaaGreatDoorM02
import Derived.ProofKit
import Derived.OpenShut
import Derived.Deep.DeepHandedRow
import Derived.Deep.SlicePairs
import Derived.Lib.LaidTab
set_option linter.unusedVariables false
namespace Go.Proofs.YtanfdikglplkaaaGreatDoor.Sp
open Go
def up(S:Nat→Bool)(i:Nat):Nat→Bool:=fun k=>bif Nat.beq k i then true else S k
def ny(l:List Oper)(j k:Nat):Bool:=match l[j]? with
 |some o=>o.after.toList.any fun e=>Region.binds .any e && Nat.beq e.on k
 |none=>false
def zQ:Nat→List Oper→Bool
 |_,[]=>true
 |i,o::r=>(o.after.toList.all fun e=> !Region.binds .any e ||Nat.blt e.on i) && zQ (i+1) r
theorem wv{l:List Oper}:∀{i:Nat},zQ i l=true→∀j o,l[j]?=some o→∀e∈o.after,Region.binds .any e=true→e.on<i+j:=by
 induction l with
 |nil=>intro i _ j o ho;simp at ho
 |cons x l ih=>
  intro i h j o ho e he hb
  simp only [zQ,Bool.and_eq_true] at h
  cases j with
  |zero=>
   simp only [List.getElem?_cons_zero,Option.some.injEq] at ho
   subst ho
   have h2:=(List.all_eq_true.1 h.1) e (Array.mem_toList_iff.2 he)
   rw [hb] at h2
   simp only [Bool.not_true,Bool.false_or] at h2
   exact Nat.le_of_ble_eq_true h2
  |succ j=>
   simp only [List.getElem?_cons_succ] at ho
   have:=ih h.2 j o ho e he hb
   omega
def dj(S:Nat→Bool):List (Nat×Nat×Value)→List (Nat×Value)→List (Nat×Value)
 | [],E=>E
 | (j,d,v)::r,E=>bif S j then (d,v)::dj S r E else dj S r E
section
variable{P:Program}{Q:Exit→Act→World→Prop}{W:World}{N:Nat}{E:List (Nat×Value)}{L:List HP}{γ:Type}
def gM(P:Program)(l:List Oper)(Q:Exit→Act→World→Prop)(W:World)(N:Nat)(E:List (Nat×Value))(F:γ→(Nat→Bool)→Prop)(rows:γ→List (Nat×Nat×Value))(H:γ→(Nat→Bool)→List HP)(i:Nat)(o:Oper):Prop:=
 ∀(g:γ) (S:Nat→Bool),F g S→S i=false→(∀j k,ny l j k=true→S j=true→S k=true)→(∀k,ny l i k=true→S k=true)→
  ∀K:Act→World→Prop,(∀g',F g' (up S i)→cd K W N (dj (up S i) (rows g') E) (H g' (up S i)))→cd (gF P l.toArray Q K [o]) W N (dj S (rows g) E) (H g S)
def mW(P:Program)(l:List Oper)(Q:Exit→Act→World→Prop)(W:World)(N:Nat)(E:List (Nat×Value))(F:γ→(Nat→Bool)→Prop)(rows:γ→List (Nat×Nat×Value))(H:γ→(Nat→Bool)→List HP):Nat→List Oper→Prop
 |_,[]=>True
 |i,o::r=>gM P l Q W N E F rows H i o∧mW P l Q W N E F rows H (i+1) r
theorem kZ{l:List Oper}{F:γ→(Nat→Bool)→Prop}{rows:γ→List (Nat×Nat×Value)}{H:γ→(Nat→Bool)→List HP}:∀{r:List Oper} {i:Nat},mW P l Q W N E F rows H i r→
 ∀j o,r[j]?=some o→gM P l Q W N E F rows H (i+j) o
 | [],_,_,j,o,ho=>by simp at ho
 |x::r,i,h,0,o,ho=>by simp only [List.getElem?_cons_zero,Option.some.injEq] at ho;subst ho;exact h.1
 |x::r,i,h,j+1,o,ho=>by
  simp only [List.getElem?_cons_succ] at ho
  have:=kZ h.2 j o ho
  rwa [show i+1+j=i+(j+1) by omega] at this
theorem bz{id:Nat}{l:List Oper}{n:Nat}(hm:P.follows .mixedOrders=true)(hn:l.length=n)(hac:zQ 0 l=true)
 (F:γ→(Nat→Bool)→Prop) (rows:γ→List (Nat×Nat×Value)) (H:γ→(Nat→Bool)→List HP) (g0:γ)
 (hF0:F g0 (fun i=>Nat.ble n i)) (hL:∀w,Sat L w→Sat (H g0 (fun i=>Nat.ble n i)) w) (hE:∀t v,dI t (dj (fun i=>Nat.ble n i) (rows g0) E)=some v→dI t E=some v)
 (steps:mW P l Q W N E F rows H 0 l)
 (hend:∀g,F g (fun _=>true)→cd (Q .normal) W N (dj (fun _=>true) (rows g) E) (H g (fun _=>true))):
 cd ((Code.region id l.toArray true).wp P Q) W N E L:=by
 subst hn
 intro a w s
 refine wp_region_any hm ?_
 have key:∀(fuel:Nat) (listed:Array Bool) (a:Act) (w:World),listed.size=l.length→(listed.toList.filter (fun b=> !b)).length≤fuel→
  (∀j k,ny l j k=true→listed.getD j true=true→listed.getD k true=true)→
  (∃g,F g (fun i=>listed.getD i true)∧St W N (dj (fun i=>listed.getD i true) (rows g) E) (H g (fun i=>listed.getD i true)) a w)→
  wpAny P .any l.toArray Q fuel listed a w:=by
  intro fuel
  have ready_iff:∀(listed:Array Bool) (i:Nat),i∈Region.ready .any l.toArray listed↔i<l.length∧listed.getD i true=false∧∀k,ny l i k=true→listed.getD k false=true:=by
   intro listed i
   simp only [Region.ready,List.mem_filter,List.mem_range,List.size_toArray,Bool.and_eq_true,Bool.not_eq_true',List.getElem?_toArray]
   constructor
   ·rintro ⟨h1,h2,h3⟩
    refine ⟨h1,h2,fun k hk=>?_⟩
    unfold ny at hk
    cases ho:l[i]? with
    |none=>rw [ho] at hk;cases hk
    |some o=>
     rw [ho] at hk h3
     simp only [Option.map_some,Option.getD_some] at h3
     obtain ⟨e,he,hb⟩:=List.any_eq_true.1 hk
     have he:=Array.mem_toList_iff.1 he
     simp only [Bool.and_eq_true] at hb
     have:=Array.all_eq_true'.1 h3 e he
     rw [hb.1] at this
     simp only [Bool.not_true,Bool.false_or] at this
     rwa [←Nat.eq_of_beq_eq_true hb.2]
   ·rintro ⟨h1,h2,h3⟩
    refine ⟨h1,h2,?_⟩
    have ho:l[i]?=some l[i]:=List.getElem?_eq_getElem h1
    rw [ho]
    simp only [Option.map_some,Option.getD_some]
    refine Array.all_eq_true'.2 fun e he=>?_
    cases hb:Region.binds .any e with
    |false=>rfl
    |true=>
     simp only [Bool.not_true,Bool.false_or]
     refine h3 e.on ?_
     unfold ny
     rw [ho]
     exact List.any_eq_true.2 ⟨e,Array.mem_toList_iff.2 he,by simp [hb]⟩
  have all_of_ready_nil:∀(listed:Array Bool),listed.size=l.length→Region.ready .any l.toArray listed=[]→∀i,i<l.length→listed.getD i true=true:=by
   intro listed hsz hr i
   induction i using Nat.strongRecOn with
   |_ i ih=>
    intro hi
    cases hb:listed.getD i true with
    |true=>rfl
    |false=>
     exfalso
     have:i∈Region.ready .any l.toArray listed:=(ready_iff listed i).2 ⟨hi,hb,fun k hk=>by
      have hlt:k<i:=by
       unfold ny at hk
       cases ho:l[i]? with
       |none=>rw [ho] at hk;cases hk
       |some o=>
        rw [ho] at hk
        obtain ⟨e,he,hbe⟩:=List.any_eq_true.1 hk
        have he:=Array.mem_toList_iff.1 he
        simp only [Bool.and_eq_true] at hbe
        have:=wv hac i o ho e he hbe.1
        rw [Nat.eq_of_beq_eq_true hbe.2] at this
        omega
      have h1:=ih k hlt (by omega)
      have hk':k<listed.size:=by omega
      simpa [Array.getD,hk'] using h1⟩
     rw [hr] at this
     cases this
  have finish:∀(listed:Array Bool) (a:Act) (w:World),listed.size=l.length→Region.ready .any l.toArray listed=[]→
   (∃g,F g (fun i=>listed.getD i true)∧St W N (dj (fun i=>listed.getD i true) (rows g) E) (H g (fun i=>listed.getD i true)) a w)→Q .normal a w:=by
   intro listed a w hsz hr ⟨g,hg,s⟩
   have hall:(fun i=>listed.getD i true)=(fun _=>true):=by
    funext i
    by_cases hi:i<l.length
    ·exact all_of_ready_nil listed hsz hr i hi
    ·have:¬i<listed.size:=by omega
     simp [Array.getD,this]
   rw [hall] at hg s
   exact hend g hg a w s
  induction fuel with
  |zero=>
   intro listed a w hsz hcnt hdown hI
   have hnil:Region.ready .any l.toArray listed=[]:=by
    cases hr:Region.ready .any l.toArray listed with
    |nil=>rfl
    |cons i r=>
     exfalso
     have hi:=(ready_iff listed i).1 (by rw [hr];exact List.mem_cons_self ..)
     have hlt:i<listed.size:=by omega
     have:listed[i]=false:=by simpa [Array.getD,hlt] using hi.2.1
     have hmem:false∈listed.toList.filter (fun b=> !b):=List.mem_filter.2 ⟨by rw [←this];simp,rfl⟩
     have:=List.length_pos_of_mem hmem
     omega
   exact ⟨hnil,finish listed a w hsz hnil hI⟩
  |succ fuel ih=>
   intro listed a w hsz hcnt hdown hI
   refine ⟨fun hr=>finish listed a w hsz hr hI,fun i hi=>?_⟩
   obtain ⟨g,hg,s⟩:=hI
   obtain ⟨hlt,hfalse,hpre⟩:=(ready_iff listed i).1 hi
   have hlt':i<listed.size:=by omega
   have ho:l[i]?=some l[i]:=List.getElem?_eq_getElem hlt
   have hpre':∀k,ny l i k=true→listed.getD k true=true:=fun k hk=>by
    have:=hpre k hk
    by_cases hk':k<listed.size
    ·simpa [Array.getD,hk'] using this
    ·simp [Array.getD,hk']
   have hst:=kZ steps i l[i] ho
   rw [Nat.zero_add] at hst
   have hup:(fun k=>(listed.setIfInBounds i true).getD k true)=up (fun k=>listed.getD k true) i:=by
    funext k
    unfold up
    cases hb:Nat.beq k i with
    |true=>
     have:=Nat.eq_of_beq_eq_true hb
     subst this
     simp [Array.getD,hlt']
    |false=>
     have hne:i≠k:=fun e=>by subst e;simp at hb
     simp only [cond_false,Array.getD,Array.size_setIfInBounds]
     split
     ·rename_i hk
      simp [hne,hk]
     ·rfl
   have:=hst g _ hg hfalse hdown hpre' (wpAny P .any l.toArray Q fuel (listed.setIfInBounds i true)) (fun g' hg' a' w' s'=>by
    refine ih _ a' w' (by simpa using hsz) ?_ ?_ ⟨g',by rw [hup];exact hg',by rw [hup];exact s'⟩
    ·have hcount:((listed.setIfInBounds i true).toList.filter (fun b=> !b)).length< (listed.toList.filter (fun b=> !b)).length:=by
      have hget:listed.toList[i]'(by simpa using hlt')=false:=by simpa [Array.getD,hlt'] using hfalse
      have hsplit:listed.toList=listed.toList.take i++listed.toList[i]'(by simpa using hlt')::listed.toList.drop (i+1):=by
       rw [←List.drop_eq_getElem_cons,List.take_append_drop]
      rw [Array.toList_setIfInBounds,List.set_eq_take_append_cons_drop,if_pos (by simpa using hlt')]
      conv=>rhs;rw [hsplit]
      simp [List.filter_append,hget]
     omega
    ·intro j k hjk hj
     have e1:(listed.setIfInBounds i true).getD j true=up (fun k=>listed.getD k true) i j:=congrFun hup j
     have e2:(listed.setIfInBounds i true).getD k true=up (fun k=>listed.getD k true) i k:=congrFun hup k
     rw [e1] at hj
     rw [e2]
     unfold up at hj⊢
     cases hb:Nat.beq k i with
     |true=>rfl
     |false=>
      simp only [cond_false]
      cases hb':Nat.beq j i with
      |true=>exact hpre' k (by rw [←Nat.eq_of_beq_eq_true hb'];exact hjk)
      |false=>rw [hb'] at hj;exact hdown j k hjk hj) a w s
   unfold wpOp
   simp only [List.getElem?_toArray,ho]
   simp only [gF] at this
   split
   ·rename_i hw;rw [if_pos hw] at this;exact .inl this
   ·rename_i hw;rw [if_neg hw] at this;exact this
 have hS0:(fun i=>(Array.replicate l.length false).getD i true)=(fun i=>Nat.ble l.length i):=by
  funext i
  by_cases hi:i<l.length
  ·have:Nat.ble l.length i=false:=by cases hb:Nat.ble l.length i with|false=>rfl|true=>have:=Nat.le_of_ble_eq_true hb;omega
   simp [Array.getD,hi,this]
  ·have:Nat.ble l.length i=true:=Nat.ble_eq_true_of_le (by omega)
   simp [Array.getD,hi,this]
 have hsz:l.toArray.size=l.length:=by simp
 rw [hsz]
 refine key _ _ a _ (by simp) (by simp) ?_ ⟨g0,by rw [hS0];exact hF0,?_⟩
 ·intro j k hjk hj
  have hjl:j<l.length:=by
   unfold ny at hjk
   cases ho:l[j]? with
   |none=>rw [ho] at hjk;cases hjk
   |some o=>exact (List.getElem?_eq_some_iff.1 ho).1
  simp [Array.getD,hjl] at hj
 ·rw [hS0]
  exact ⟨s.size,s.defers,fun t v hl=>s.env t v (hE t v hl),hL _ (s.sat.same rfl),s.ext.trans ⟨rfl,rfl,Nat.le_refl _,fun _=>rfl⟩⟩
def ik(rows:List (Nat×Nat×Value)):List Nat:=rows.map (·.2.1)
def dA:List Nat→Bool
 | []=>true
 |x::l=>(l.all fun y=> !Nat.beq y x) && dA l
theorem nk{x:Nat}{l:List Nat}(h:dA (x::l)=true):x ∉ l:=by
 simp only [dA,Bool.and_eq_true,List.all_eq_true,Bool.not_eq_true'] at h
 intro hm
 have:=h.1 x hm
 simp at this
theorem l8{S:Nat→Bool}{E:List (Nat×Value)}:∀{rows:List (Nat×Nat×Value)},dA (ik rows)=true→∀(k:Nat) {j d:Nat} {v:Value},rows[k]?=some (j,d,v)→S j=true→dI d (dj S rows E)=some v
 | [],_,k,_,_,_,h,_=>by simp at h
 | (j',d',v')::r,hn,0,j,d,v,h,hs=>by
  simp only [List.getElem?_cons_zero,Option.some.injEq,Prod.mk.injEq] at h
  obtain ⟨rfl,rfl,rfl⟩:=h
  simp only [dj,hs,cond_true,dI]
  have:Nat.beq d' d'=true:=Nat.beq_refl d'
  rw [this];rfl
 | (j',d',v')::r,hn,k+1,j,d,v,h,hs=>by
  simp only [List.getElem?_cons_succ] at h
  have hx:d' ∉ ik r:=nk hn
  have hn':dA (ik r)=true:=by simp only [ik,List.map_cons,dA,Bool.and_eq_true] at hn;exact hn.2
  have ih:=l8 (S:=S) (E:=E) hn' k h hs
  have hd:d≠d':=fun e=>hx (by rw [←e];exact List.mem_map.2 ⟨(j,d,v),List.mem_of_getElem? h,rfl⟩)
  simp only [dj]
  cases S j' with
  |false=>exact ih
  |true=>
   have hb:Nat.beq d d'=false:=by cases hb:Nat.beq d d' with|false=>rfl|true=>exact absurd (Nat.eq_of_beq_eq_true hb) hd
   simp only [cond_true,dI,hb,cond_false]
   exact ih
theorem kO{S:Nat→Bool}{t:Nat}{E:List (Nat×Value)}{v:Value}:∀{rows:List (Nat×Nat×Value)},(∀x∈rows,Nat.beq t x.2.1=true→S x.1=false)→dI t E=some v→dI t (dj S rows E)=some v
 | [],_,h=>h
 | (j,d,u)::r,hn,h=>by
  have ih:=kO (S:=S) (rows:=r) (fun x hx=>hn x (List.mem_cons_of_mem _ hx)) h
  simp only [dj]
  cases hs:S j with
  |false=>exact ih
  |true=>
   cases hb:Nat.beq t d with
   |false=>simp only [cond_true,dI,hb,cond_false];exact ih
   |true=>have:=hn (j,d,u) (List.mem_cons_self ..) hb;rw [hs] at this;cases this
def AgreeR(S:Nat→Bool):List (Nat×Nat×Value)→List (Nat×Nat×Value)→Prop
 | [],[]=>True
 |x::r,y::r'=>(x=y∨(x.1=y.1∧x.2.1=y.2.1∧S x.1=false))∧AgreeR S r r'
 |_,_=>False
theorem AgreeR.env{S:Nat→Bool}{E:List (Nat×Value)}:∀{r r':List (Nat×Nat×Value)},AgreeR S r r'→dj S r E=dj S r' E
 | [],[],_=>rfl
 |x::r,y::r',h=>by
  obtain ⟨h1,h2⟩:=h
  have ih:=AgreeR.env (E:=E) h2
  obtain ⟨j,d,v⟩:=x
  obtain ⟨j',d',v'⟩:=y
  rcases h1 with e| ⟨e1,e2,e3⟩
  ·cases e;simp only [dj,ih]
  ·simp only at e1 e2 e3
   subst e1;subst e2
   simp only [dj,e3,cond_false,ih]
 | [],_::_,h=>h.elim
 |_::_,[],h=>h.elim
theorem AgreeR.refl{S:Nat→Bool}:∀r:List (Nat×Nat×Value),AgreeR S r r
 | []=>trivial
 |_::r=>⟨.inl rfl,AgreeR.refl r⟩
theorem yl{S:Nat→Bool}{i d:Nat}{v:Value}{E:List (Nat×Value)}:∀{rows:List (Nat×Nat×Value)},dA (ik rows)=true→dA (rows.map (·.1))=true→∀(k:Nat),rows[k]?=some (i,d,v)→S i=false→
 ∀t u,dI t (dj (up S i) rows E)=some u→dI t ((d,v)::dj S rows E)=some u:=by
 intro rows hn hi k hk hs t u h
 by_cases ht:t=d
 ·subst ht
  have hup:up S i i=true:=by unfold up;rw [show Nat.beq i i=true from Nat.beq_refl i];rfl
  rw [l8 hn k hk hup] at h
  cases h
  simp only [dI,show Nat.beq t t=true from Nat.beq_refl t,cond_true]
 ·have hb:Nat.beq t d=false:=by cases hb:Nat.beq t d with|false=>rfl|true=>exact absurd (Nat.eq_of_beq_eq_true hb) ht
  simp only [dI,hb,cond_false]
  rw [←h]
  clear h hs
  induction rows generalizing k with
  |nil=>rfl
  |cons x r ih=>
   obtain ⟨j',d',v'⟩:=x
   have hn':dA (ik r)=true:=by simp only [ik,List.map_cons,dA,Bool.and_eq_true] at hn;exact hn.2
   have hi':dA (r.map (·.1))=true:=by simp only [List.map_cons,dA,Bool.and_eq_true] at hi;exact hi.2
   have hix:j' ∉ r.map (·.1):=nk hi
   cases k with
   |zero=>
    simp only [List.getElem?_cons_zero,Option.some.injEq,Prod.mk.injEq] at hk
    obtain ⟨rfl,rfl,rfl⟩:=hk
    have same:∀r':List (Nat×Nat×Value),j' ∉ r'.map (·.1)→dj (up S j') r' E=dj S r' E:=by
     intro r'
     induction r' with
     |nil=>intro _;rfl
     |cons y r' ih'=>
      intro hy
      obtain ⟨a,b,c⟩:=y
      simp only [List.map_cons,List.mem_cons,not_or] at hy
      have hb':Nat.beq a j'=false:=by cases hb':Nat.beq a j' with|false=>rfl|true=>exact absurd (Nat.eq_of_beq_eq_true hb').symm hy.1
      simp only [dj,up,hb',cond_false]
      rw [←ih' hy.2]
    simp only [dj]
    rw [same r hix]
    have hup:up S j' j'=true:=by unfold up;rw [show Nat.beq j' j'=true from Nat.beq_refl j'];rfl
    rw [hup]
    simp only [cond_true,dI,hb,cond_false]
    cases S j' with
    |false=>rfl
    |true=>simp only [cond_true,dI,hb,cond_false]
   |succ k=>
    simp only [List.getElem?_cons_succ] at hk
    have ih':=ih hn' hi' k hk
    have hj:j'≠i:=fun e=>hix (by rw [e];exact List.mem_map.2 ⟨(i,d,v),List.mem_of_getElem? hk,rfl⟩)
    have hb':Nat.beq j' i=false:=by cases hb':Nat.beq j' i with|false=>rfl|true=>exact absurd (Nat.eq_of_beq_eq_true hb') hj
    simp only [dj,up,hb',cond_false]
    cases S j' with
    |false=>exact ih'
    |true=>
     simp only [cond_true,dI]
     cases Nat.beq t d' with
     |true=>rfl
     |false=>exact ih'
theorem uK{K:Act→World→Prop}{E':List (Nat×Value)}(h:∀t u,dI t E'=some u→dI t E=some u)(k:cd K W N E' L):cd K W N E L:=fun a w s=>
 k a w ⟨s.size,s.defers,fun t v hl=>s.env t v (h t v hl),s.sat,s.ext⟩
theorem uN{S:Nat→Bool}{i d:Nat}{v:Value}{rows rows':List (Nat×Nat×Value)}{M:List HP}{ops:Array Oper}{K:Act→World→Prop}(k:Nat)(hn:dA (ik rows')=true)(hi:dA (rows'.map (·.1))=true)(hk:rows'[k]?=some (i,d,v))(hs:S i=false)
 (ha:AgreeR S rows rows') (h:cd K W N (dj (up S i) rows' E) M):cd (gF P ops Q K []) W N ((d,v)::dj S rows E) M:=by
 refine aI (uK ?_ h)
 rw [ha.env]
 exact yl hn hi k hk hs
theorem xb{S:Nat→Bool}{i:Nat}{rows:List (Nat×Nat×Value)}{M:List HP}{ops:Array Oper}{K:Act→World→Prop}(hi:(rows.all fun x=> !Nat.beq x.1 i)=true)
 (h:cd K W N (dj (up S i) rows E) M):cd (gF P ops Q K []) W N (dj S rows E) M:=by
 have e:dj (up S i) rows E=dj S rows E:=by
  clear h
  induction rows with
  |nil=>rfl
  |cons x r ih=>
   obtain ⟨j,d,v⟩:=x
   simp only [List.all_cons,Bool.and_eq_true,Bool.not_eq_true'] at hi
   simp only [dj,up,hi.1,cond_false]
   rw [←ih hi.2]
 rw [←e]
 exact aI h
theorem nZ{small:List (Nat×Value)}(h:Picks E small)(t:Nat)(u:Value):dI t (small++E)=some u↔dI t E=some u:=by
 induction small with
 |nil=>exact Iff.rfl
 |cons x r ih=>
  obtain ⟨s,v⟩:=x
  simp only [List.cons_append,dI]
  cases hb:Nat.beq t s with
  |true=>
   have:=Nat.eq_of_beq_eq_true hb
   subst this
   rw [h.1];rfl
  |false=>exact ih h.2
theorem lC{K:Act→World→Prop}{small:List (Nat×Value)}(h:Picks E small)(k:cd K W N (small++E) L):cd K W N E L:=
 uK (fun t u hl=>(nZ h t u).1 hl) k
theorem iY{S:Nat→Bool}{i d:Nat}{v:Value}{rows rows':List (Nat×Nat×Value)}{small:List (Nat×Value)}{M:List HP}{ops:Array Oper}{K:Act→World→Prop}(hsm:Picks (dj S rows E) small)(k:Nat)(hn:dA (ik rows')=true)(hi:dA (rows'.map (·.1))=true)(hk:rows'[k]?=some (i,d,v))(hs:S i=false)
 (ha:AgreeR S rows rows') (h:cd K W N (dj (up S i) rows' E) M):cd (gF P ops Q K []) W N ((d,v)::(small++dj S rows E)) M:=by
 refine aI (uK ?_ h)
 intro t u hl
 have:=yl hn hi k hk hs t u hl
 rw [←ha.env] at this
 simp only [dI] at this⊢
 cases hb:Nat.beq t d with
 |true=>rw [hb] at this;exact this
 |false=>rw [hb] at this;exact (nZ hsm t u).2 this
theorem wo{S:Nat→Bool}{i:Nat}{rows:List (Nat×Nat×Value)}{small:List (Nat×Value)}{M:List HP}{ops:Array Oper}{K:Act→World→Prop}(hsm:Picks (dj S rows E) small)(hi:(rows.all fun x=> !Nat.beq x.1 i)=true)
 (h:cd K W N (dj (up S i) rows E) M):cd (gF P ops Q K []) W N (small++dj S rows E) M:=
 uK (fun t u hl=>(nZ hsm t u).2 hl) (xb hi h)
theorem qT{S:Nat→Bool}{t:Nat}{v:Value}{rows:List (Nat×Nat×Value)}(h:(rows.all fun x=> !Nat.beq t x.2.1)=true)(hl:dI t E=some v):dI t (dj S rows E)=some v:=
 kO (fun x hx hb=>by have:=List.all_eq_true.1 h x hx;rw [hb] at this;cases this) hl
theorem fu{S:Nat→Bool}{t:Nat}{v:Value}{rows:List (Nat×Nat×Value)}(k:Nat)(hk:S k=false)(h:(rows.all fun x=> !Nat.beq t x.2.1 ||Nat.beq x.1 k)=true)(hl:dI t E=some v):dI t (dj S rows E)=some v:=
 kO (fun x hx hb=>by
  have:=List.all_eq_true.1 h x hx;rw [hb] at this
  simp only [Bool.not_true,Bool.false_or] at this
  rw [Nat.eq_of_beq_eq_true this];exact hk) hl
theorem nf{l:List Oper}{S:Nat→Bool}{i k:Nat}(hS:S i=false)(D:∀j k,ny l j k=true→S j=true→S k=true)(h:ny l k i=true):S k=false:=by
 cases hk:S k with
 |false=>rfl
 |true=>rw [D k i h hk] at hS;cases hS
def ib:HP:=fun f=>f=[]
theorem Sat.emp{L:List HP}{w:World}(h:Sat L w):Sat (ib::L) w:=by
 obtain ⟨f,hp,hh⟩:=h
 exact ⟨f,⟨[],f,rfl,rfl,hp⟩,hh⟩
theorem cX(M:List HP){A B:HP}{L:List HP}{w:World}(h:Sat (A::(M++B::L)) w):Sat (M++A::L) w:=by
 have h1:Sat (B::(A::(M++L))) w:=h.perm ((List.Perm.cons A List.perm_middle).trans (.swap B A _))
 exact h1.drop.perm List.perm_middle.symm
theorem ef(M:List HP)(k:Nat){R:List HP}{w:World}(h:Sat (M++R) w):Sat (M++(List.replicate k ib++R)) w:=by
 have h1:Sat (List.replicate k ib++(M++R)) w:=by
  induction k with
  |zero=>exact h
  |succ k ih=>rw [List.replicate_succ,List.cons_append];exact ih.emp
 refine h1.perm ?_
 rw [←List.append_assoc,←List.append_assoc]
 exact List.perm_append_comm.append_right _
theorem cF{S:Nat→Bool}{j:Nat}{A B:HP}(h:S j=false)(hm:(bif S j then A else B)∈L):B∈L:=by rw [h] at hm;exact hm
theorem jJ{K:Act→World→Prop}{S:Nat→Bool}{j:Nat}{A B:HP}(h:S j=true)(k:cd K W N E (A::L)):cd K W N E ((bif S j then A else B)::L):=by rw [h];exact k
theorem lZ{K:Act→World→Prop}{S:Nat→Bool}{j:Nat}{A B:HP}(h:S j=true)(k:cd K W N E ((bif S j then A else B)::L)):cd K W N E (A::L):=by rw [h] at k;exact k
theorem fG{K:Act→World→Prop}{S:Nat→Bool}{j:Nat}{A B:HP}(h:S j=false)(k:cd K W N E ((bif S j then A else B)::L)):cd K W N E (B::L):=by rw [h] at k;exact k
theorem c9{K:Act→World→Prop}{S:Nat→Bool}{j:Nat}{A B:HP}(h:S j=false)(k:cd K W N E (B::L)):cd K W N E ((bif S j then A else B)::L):=by rw [h];exact k
end
end Go.Proofs.YtanfdikglplkaaaGreatDoor.Sp
namespace Go.Proofs.YtanfdikglplkaaaGreatDoor.Sp
open Go Go.ChangeShapes Go.WideShapes Go.ChangeAt Go.RowKit
def w4(W:World):HP:=fun f=>f=(List.range W.heap.size).map fun i=>(i,W.heap[i]!)
theorem ux(W:World){i:Nat}(h:i<W.heap.size):W.heap[i]?=some W.heap[i]!:=by
 rw [Array.getElem?_eq_getElem h];simp [h]
theorem Am(W:World):Sat [w4 W] W:=by
 refine ⟨_,⟨_,[],rfl,rfl,rfl⟩,?_,?_⟩
 ·rw [List.append_nil,List.map_map]
  have:(Prod.fst∘fun i=>(i,W.heap[i]!))=(id:Nat→Nat):=rfl
  rw [this,List.map_id]
  exact List.nodup_range
 ·intro x hx
  rw [List.append_nil] at hx
  obtain ⟨i,hi,rfl⟩:=List.mem_map.1 hx
  exact ux W (List.mem_range.1 hi)
theorem ox{W w:World}{L:List HP}(hm:w4 W∈L)(h:Sat L w){i:Nat}(hi:i<W.heap.size):w.heap[i]?=W.heap[i]?:=by
 obtain ⟨f,hf,hh⟩:=h.mem hm
 subst hf
 rw [ux W hi]
 exact hh.2 (i,W.heap[i]!) (List.mem_map.2 ⟨i,List.mem_range.2 hi,rfl⟩)
theorem kN{W:World}{a:Addr}{v:Value}(h:W.cell? a=some v):Gives [w4 W] a v:=fun w hs=>by
 have hlt:a.block<W.heap.size:=World.block_lt_of_cell? W a h
 rw [←h]
 exact World.cell?_of_block (ox (List.mem_cons_self ..) hs hlt)
structure LawEnd(W w:World):Prop where
 ext:Ext W w
 same:∀i,i<W.heap.size→w.heap[i]?=W.heap[i]?
theorem vR{P:Program}{f:FuncId}{args:List Value}{W:World}(h:Ok P f args [w4 W] (fun v M=>v=.bool true∧M=[w4 W])):
 Calls P f args.toArray W fun e w'=>e=.returned (.bool true)∧LawEnd W w':=
 (h W (Am W)).mono fun _ _ ⟨_,_,⟨hv,hM⟩,he,hs,hx⟩=>by
  subst hv;subst hM
  exact ⟨he,hx,fun i hi=>ox (List.mem_cons_self ..) hs hi⟩
section
variable{H:Type}{enc:TypeId×Value→H}{P:Program}
theorem lj(hl:laidOutB P=true){W W':World}{sp:Nat→Bool}:∀{ts:List TypeId} {vs:List Value} {ds:List (DataW H)} {ps:List MemPlace},
 (ts.all fun t=>P.readableRec t && decide (t<P.types.size))=true→DataW.TrodAll enc P W 0 (fun _=>true) true ts vs ds ps→(∀p∈ps,W.sameAt W' p)→(∀p∈ps,sp p.block=true)→DataW.TrodAll enc P W' 0 sp true ts vs ds ps
 | [],[],[],_,_,h,_,_=>h
 |t::ts,v::vs,d::ds,ps,hr,h,hs,hsp=>by
  obtain ⟨p,q,h1,h2,rfl⟩:=h
  simp only [List.all_cons,Bool.and_eq_true,decide_eq_true_eq] at hr
  exact ⟨p,q,WideElems.Trod_stays hl hr.1.1 hr.1.2 h1 (fun x hx=>hs x (List.mem_append_left _ hx)) (fun x hx=>hsp x (List.mem_append_left _ hx)),
   lj hl hr.2 h2 (fun x hx=>hs x (List.mem_append_right _ hx)) (fun x hx=>hsp x (List.mem_append_right _ hx)),rfl⟩
 | [],[],_::_,_,_,h,_,_=>h.elim
 | [],_::_,_,_,_,h,_,_=>h.elim
 |_::_,[],_,_,_,h,_,_=>h.elim
 |_::_,_::_,[],_,_,h,_,_=>h.elim
theorem m5{W:World}{b:Nat}{sp:Nat→Bool}{hd:Bool}:∀{ts:List TypeId} {vs:List Value} {ds:List (DataW H)} {ps:List MemPlace},DataW.TrodAll enc P W b sp hd ts vs ds ps→ds.length=ts.length
 | [],[],[],_,_=>rfl
 |_::ts,_::vs,_::ds,_,h=>by
  obtain ⟨p,q,_,h2,_⟩:=h
  simp [m5 h2]
 | [],[],_::_,_,h=>h.elim
 | [],_::_,_,_,h=>h.elim
 |_::_,[],_,_,h=>h.elim
 |_::_,_::_,[],_,h=>h.elim
theorem xp{f:Func}{s:ChangeSpec}{W W':World}{args:Array Value}{ds gs:List (DataW H)}{before:List MemPlace}{B:TypeId}{a b c:Bool}(hl:laidOutB P=true)
 (hread:(f.params.toList.all fun t=>P.readableRec t && decide (t<P.types.size))=true) (hvars:s.vars=[]) (hres:f.resultTypes=#[B]) (hB:P.underlying B=some .bool)
 (hfn:∀ds:List (DataW H),ds.length=f.params.toList.length→s.fn H (ds++[])={results:=[.lit (.bool true)],args:=ds})
 (hW:DataW.Whole enc P f.params.toList s.vars a W args.toList ds gs before) (he:LawEnd W W'):s.post enc P f a b c false W args (.bool true) W':=by
 have hW':=hW
 have hlt:=fun p hp=>hW.lt (p:=p) hp
 obtain ⟨p,q,hA,hV,rfl,hfz,hnd⟩:=hW
 rw [hvars] at hV
 have hgs:gs=[]∧q=[]:=by
  cases gs with
  |nil=>exact ⟨rfl,hV⟩
  |cons g gs=>exact hV.elim
 obtain ⟨rfl,rfl⟩:=hgs
 have hf:=hfn ds (m5 hA)
 have hsame:∀x∈p,W.sameAt W' x:=fun x hx=>by
  have hb:=hlt x (List.mem_append_left _ hx)
  cases x with
  |cell b o=>exact World.cell?_of_block (w:=W) (he.same b hb)
  |map b=>exact he.same b hb
 refine post_of_same (pa:=p) (pv:=[]) hW' (fun _ _ _=>?_) (fun sp hsp=>?_) (fun _ _=>?_) rfl ?_ he.ext.frozen ?_
 ·rw [hf,hres]
  show DataW.TrodAll enc P W' _ _ _ [B] [.bool true] [.lit (.bool true)] []
  exact trodAll_mk1 (shut_bool hB _)
 ·rw [hf]
  exact lj hl hread hA hsame (fun x hx=>hsp x (List.mem_append_left _ hx))
 ·rw [hf,hvars];rfl
 ·refine ⟨he.ext.os,he.ext.output,fun i hi=>?_⟩
  rw [he.same i hi]
  split <;>simp_all
 ·exact ok_one hres rfl (okWide_bool_mk hB _)
theorem oE{W:World}{a:Addr}{n:Nat}(h:0<n→∃v,W.cell? (a.add 0)=some v):bB (some a) n:=fun hn=>by
 obtain ⟨v,hv⟩:=h hn
 obtain ⟨b,o,s⟩:=a
 have:(⟨b,o,s⟩:Addr).add 0=⟨b,o,s⟩:=by simp [Addr.add]
 rw [this] at hv
 cases s with
 |none=>exact ⟨b,o,rfl⟩
 |some x=>
  exfalso
  simp only [World.cell?] at hv
  split at hv
  ·simp at hv
  ·cases hv
theorem zP{W:World}{t e:TypeId}{f0 f1:Field}{v:Value}{d:DataW H}{p:List MemPlace}(ht:P.underlying t=some (.slice e))(he:P.underlying e=some (.struct #[f0,f1]))(ce:P.cellsOf e=2)(o0:f0.offset=0)(o1:f1.offset=1)
 (c0:P.cellsOf f0.type=1) (c1:P.cellsOf f1.type=1) (u0:P.underlying f0.type=some (.int .i64)) (u1:P.underlying f1.type=some (.int .i64)) {base:Nat} (hok:Value.okWide P W .any base t v)
 (h:DataW.Trod enc P W 0 (fun _=>true) true t v d p):∃bs cp,∃es:List (Int×Int),v=.slice bs es.length cp∧es.length≤9223372036854775807∧bB bs es.length∧Rd [w4 W] bs (df es)∧∀x∈es,(Lit.int .i64 x.1).wf=true∧(Lit.int .i64 x.2).wf=true:=by
 obtain ⟨a,len,cap,rfl⟩:=okWide_slice ht hok
 obtain ⟨fuel,hf⟩:=h
 rcases Deep.open_slice_pairs ht he ce o0 o1 c0 c1 hf with ⟨hcs,_⟩| ⟨a',len',cap',m,n,V0,V1,D0,D1,P0,P1,hcs,_,hl,hm,hmm,_,hx⟩
 ·simp [Value.cells] at hcs
  obtain ⟨rfl,rfl,rfl⟩:=hcs
  exact ⟨none,0,[],rfl,by simp,cn,fun _ _ j u hu=>by simp [df] at hu,fun x hx=>by cases hx⟩
 ·simp [Value.cells] at hcs
  obtain ⟨rfl,rfl,rfl⟩:=hcs
  simp only [if_true] at hmm
  rw [hmm] at hx
  have each:∀i,i<len→∃q:Int×Int,V0 i=.int .i64 q.1∧V1 i=.int .i64 q.2∧(Lit.int .i64 q.1).wf=true∧(Lit.int .i64 q.2).wf=true:=fun i hi=>by
   obtain ⟨_,_,h3,h4⟩:=hx i (by omega)
   obtain ⟨x,e1,_,w1⟩:=DataW.trod_int u0 h3
   obtain ⟨y,e2,_,w2⟩:=DataW.trod_int u1 h4
   exact ⟨(x,y),by simpa using e1,by simpa using e2,w1,w2⟩
  obtain ⟨q,hq⟩:=Deep.choose_lt each
  have hmax:cap≤9223372036854775807:=by simpa [maxLen] using hm
  have hsl:bB (some a') len:=oE (W:=W) fun hn=>⟨_,by have:=(hx 0 (by omega)).1;simpa using this⟩
  refine ⟨some a',cap,(List.range len).map q,by simp,by simp;omega,by simpa using hsl,?_,fun x hx'=>?_⟩
  ·intro w hs j u hu
   have hj:j<len*2:=by have:=(List.getElem?_eq_some_iff.1 hu).1;rw [mw] at this;simpa using this
   obtain ⟨b,o,hb⟩:=hsl (by omega)
   cases hb
   have hi:j/2<len:=by omega
   have h1:=hx (j/2) (by omega)
   rw [du,du] at h1
   have hget:((List.range len).map q).getD (j/2) (0,0)=q (j/2):=by simp [List.getD,hi]
   refine kN ?_ w hs
   rw [kI]
   rcases Nat.mod_two_eq_zero_or_one j with e|e
   ·have hj2:j=j/2*2:=by omega
    have g:=gv (es:=(List.range len).map q) (k:=j/2) (by simpa using hi)
    rw [←hj2,hget,hu] at g
    simp only [Option.some.injEq] at g
    rw [g,←(hq _ hi).1,←h1.1,←hj2]
   ·have hj2:j=j/2*2+1:=by omega
    have g:=hY (es:=(List.range len).map q) (k:=j/2) (by simpa using hi)
    rw [←hj2,hget,hu] at g
    simp only [Option.some.injEq] at g
    rw [g,←(hq _ hi).2.1,←h1.2.1]
    congr 2
    omega
  ·obtain ⟨i,hi,rfl⟩:=List.mem_map.1 hx'
   exact ⟨(hq i (List.mem_range.1 hi)).2.2.1,(hq i (List.mem_range.1 hi)).2.2.2⟩
end
end Go.Proofs.YtanfdikglplkaaaGreatDoor.Sp
namespace Go.Proofs.YtanfdikglplkaaaGreatDoor.Sp
open Go
section
variable{P:Program}{Q Q':Exit→Act→World→Prop}{W:World}{N:Nat}{E:List (Nat×Value)}{L:List HP}{ops:Array Oper}{d:Nat}{v:Value}{K K':Act→World→Prop}{op:Op}{ty:TypeId}{pos:String}{af:Array Edge}{rest:List Oper}{x:Operand}
def BB(d N:Nat)(E:List (Nat×Value))(x:Operand):Option Value:=bif Nat.blt d N then ev E x else none
theorem jo(h:BB d N E x=some v):Nat.blt d N=true∧ev E x=some v:=by
 unfold BB at h
 cases hb:Nat.blt d N with
 |true=>rw [hb] at h;exact ⟨rfl,h⟩
 |false=>rw [hb] at h;cases h
theorem ag(h0:BB d N E x=some v)(h:cd (gF P ops Q K rest) W N ((d,v)::E) L):cd (gF P ops Q K (⟨some d,.move x,ty,pos,af,none⟩::rest)) W N E L:=tp (jo h0).1 (eX (jo h0).2) h
theorem aA(h0:BB d N E x=some v)(h:cd (gF P ops Q K rest) W N ((d,v)::E) L):cd (gF P ops Q K (⟨some d,.assign x,ty,pos,af,none⟩::rest)) W N E L:=tp (jo h0).1 (pE (jo h0).2) h
theorem cV{q:Addr}(h0:BB d N E x=some (.pointer (some q)))(h:cd (gF P ops Q K rest) W N ((d,.pointer (some q))::E) L):cd (gF P ops Q K (⟨some d,.nilCheck x,ty,pos,af,none⟩::rest)) W N E L:=tp (jo h0).1 (nj (jo h0).2) h
theorem bK{t:TypeId}{a:Addr}(hag:∀w,(isAgg t).run P w=.ok false w)(h0:BB d N E x=some (.pointer (some a)))(hg:Gives L a v)(h:cd (gF P ops Q K rest) W N ((d,v)::E) L):cd (gF P ops Q K (⟨some d,.load t x,ty,pos,af,none⟩::rest)) W N E L:=tp (jo h0).1 (bP hag (jo h0).2 hg) h
theorem bU{s:TypeId}{f:Nat}{fs:Array Field}{fd:Field}{b o sz:Nat}(o':Nat)(hu:P.underlying s=some (.struct fs))(hf:fs[f]?=some fd)(hsz:∀w,(sizeOf fd.type).run P w=.ok (sz+1) w)(h0:BB d N E x=some (.pointer (some ⟨b,o,none⟩)))(ho:o+fd.offset=o')(h:cd (gF P ops Q K rest) W N ((d,.pointer (some ⟨b,o',none⟩))::E) L):cd (gF P ops Q K (⟨some d,.fieldAddr s x f,ty,pos,af,none⟩::rest)) W N E L:=tp (jo h0).1 (jQ hu hf hsz (jo h0).2 ho) h
theorem td(k:∀E M,cd K' W N E M→cd K W N E M)(h:cd K' W N E L):cd (gF P ops Q' (Exit.then K Q .normal) []) W N E L:=aI (aN (k _ _ h))
theorem qn(k:∀E M,cd K' W N E M→cd K W N E M)(h:cd K' W N E L):cd (Exit.then K Q .normal) W N E L:=aN (k _ _ h)
theorem dp(k:∀E M,cd K' W N E M→cd K W N E M)(h:cd K' W N E L):cd (Code.skip.wp P (Exit.then K Q)) W N E L:=cS (aN (k _ _ h))
theorem av{id:Nat}{l:List Oper}{y:Code}(h:∀K:Act→World→Prop,(∀E M,cd (y.wp P Q) W N E M→cd K W N E M)→cd (gF P l.toArray (Exit.then K Q) (Exit.then K Q .normal) l) W N E L):cd ((Code.seq (Code.region id l.toArray false) y).wp P Q) W N E L:=ai fun K hK=>aj (h K hK)
def Bs(d N:Nat)(E:List (Nat×Value))(xs:List Operand):Option (List Value):=bif Nat.blt d N then evs E xs else none
theorem uz{xs:List Operand}{vs:List Value}(h:Bs d N E xs=some vs):Nat.blt d N=true∧evs E xs=some vs:=by
 unfold Bs at h
 cases hb:Nat.blt d N with
 |true=>rw [hb] at h;exact ⟨rfl,h⟩
 |false=>rw [hb] at h;cases h
theorem bN{f:FuncId}{xs:List Operand}{vs:List Value}{ts:Array TypeId}{Post:Value→List HP→Prop}(hc:∀args w,(callFunc f args).run P w=.ok (.enter f args) w)(h0:Bs d N E xs=some vs)(hok:Ok P f vs L Post)
 (h:∀v M,Post v M→cd (gF P ops Q K rest) W N ((d,v)::E) M):cd (gF P ops Q K (⟨some d,.call {callee:=.value (.func f),args:=xs.toArray,argTypes:=ts},ty,pos,af,none⟩::rest)) W N E L:=tc (uz h0).1 (Ch hc (uz h0).2) hok h
theorem nB{a b:Nat}(h:Nat.ble a b=true):a≤b:=Nat.le_of_ble_eq_true h
end
end Go.Proofs.YtanfdikglplkaaaGreatDoor.Sp
namespace Go.Proofs.YtanfdikglplkaaaGreatDoor.Sp
open Go
section
variable{P:Program}{Q:Exit→Act→World→Prop}{W:World}{N:Nat}{E:List (Nat×Value)}{L:List HP}{l:List Oper}{ops:Array Oper}{S:Nat→Bool}{i d g:Nat}{b:Bool}{v:Value}{rows:List (Nat×Nat×Value)}{K:Act→World→Prop}{op:Op}{ty:TypeId}{pos:String}{af:Array Edge}
abbrev vP(b o:Nat):Value:=.pointer (some ⟨b,o,none⟩)
abbrev vI(x:Int):Value:=.int .i64 x
abbrev vN(k:Nat):Value:=.int .i64 ((k:Nat):Int)
theorem dL{x a0 a1 a2 a3 a4 a5 a6 a7 a8:HP}(h:cd K W N E (x::a0::a1::a2::a3::a4::a5::a6::a7::a8::L)):cd K W N E (a0::a1::a2::a3::a4::a5::a6::a7::a8::x::L):=fO (bX [a0,a1,a2,a3,a4,a5,a6,a7,a8] x) h
theorem eT{x a0 a1 a2 a3 a4 a5 a6 a7 a8 a9:HP}(h:cd K W N E (x::a0::a1::a2::a3::a4::a5::a6::a7::a8::a9::L)):cd K W N E (a0::a1::a2::a3::a4::a5::a6::a7::a8::a9::x::L):=fO (bX [a0,a1,a2,a3,a4,a5,a6,a7,a8,a9] x) h
theorem iQ{x a0 a1 a2 a3 a4 a5 a6 a7 a8 a9 a10:HP}(h:cd K W N E (x::a0::a1::a2::a3::a4::a5::a6::a7::a8::a9::a10::L)):cd K W N E (a0::a1::a2::a3::a4::a5::a6::a7::a8::a9::a10::x::L):=fO (bX [a0,a1,a2,a3,a4,a5,a6,a7,a8,a9,a10] x) h
theorem eH{x a0 a1 a2 a3 a4 a5 a6 a7 a8 a9 a10 a11:HP}(h:cd K W N E (x::a0::a1::a2::a3::a4::a5::a6::a7::a8::a9::a10::a11::L)):cd K W N E (a0::a1::a2::a3::a4::a5::a6::a7::a8::a9::a10::a11::x::L):=fO (bX [a0,a1,a2,a3,a4,a5,a6,a7,a8,a9,a10,a11] x) h
theorem rC{x a0 a1 a2 a3 a4 a5 a6 a7 a8 a9 a10 a11 a12:HP}(h:cd K W N E (x::a0::a1::a2::a3::a4::a5::a6::a7::a8::a9::a10::a11::a12::L)):cd K W N E (a0::a1::a2::a3::a4::a5::a6::a7::a8::a9::a10::a11::a12::x::L):=fO (bX [a0,a1,a2,a3,a4,a5,a6,a7,a8,a9,a10,a11,a12] x) h
theorem im{x a0 a1 a2 a3 a4 a5 a6 a7 a8 a9 a10 a11 a12 a13:HP}(h:cd K W N E (x::a0::a1::a2::a3::a4::a5::a6::a7::a8::a9::a10::a11::a12::a13::L)):cd K W N E (a0::a1::a2::a3::a4::a5::a6::a7::a8::a9::a10::a11::a12::a13::x::L):=fO (bX [a0,a1,a2,a3,a4,a5,a6,a7,a8,a9,a10,a11,a12,a13] x) h
theorem dN{x a0 a1 a2 a3 a4 a5 a6 a7 a8 a9 a10 a11 a12 a13 a14:HP}(h:cd K W N E (x::a0::a1::a2::a3::a4::a5::a6::a7::a8::a9::a10::a11::a12::a13::a14::L)):cd K W N E (a0::a1::a2::a3::a4::a5::a6::a7::a8::a9::a10::a11::a12::a13::a14::x::L):=fO (bX [a0,a1,a2,a3,a4,a5,a6,a7,a8,a9,a10,a11,a12,a13,a14] x) h
theorem iq{x a0 a1 a2 a3 a4 a5 a6 a7 a8 a9 a10 a11 a12 a13 a14 a15:HP}(h:cd K W N E (x::a0::a1::a2::a3::a4::a5::a6::a7::a8::a9::a10::a11::a12::a13::a14::a15::L)):cd K W N E (a0::a1::a2::a3::a4::a5::a6::a7::a8::a9::a10::a11::a12::a13::a14::a15::x::L):=fO (bX [a0,a1,a2,a3,a4,a5,a6,a7,a8,a9,a10,a11,a12,a13,a14,a15] x) h
theorem bE(hp:∀k,ny l i k=true→S k=true)(k:Nat){j d:Nat}{v:Value}(h:rows[k]?=some (j,d,v))(hz:(dA (ik rows) && ny l i j)=true):dI d (dj S rows E)=some v:=by
 rw [Bool.and_eq_true] at hz;exact l8 hz.1 k h (hp j hz.2)
theorem d3{a b c:Bool}(h:(a && (b && c))=true):a=true∧b=true∧c=true:=by rw [Bool.and_eq_true,Bool.and_eq_true] at h;exact h
theorem bH{t1:Nat}{u1:Value}(h1:dI t1 (dj S rows E)=some u1)(hv:LV P ((t1,u1)::dj S rows E) L op ty v)(k:Nat)(hk:rows[k]?=some (i,d,v))(hz:(dA (ik rows) && (dA (rows.map (·.1)) && Nat.blt d N))=true)(hs:S i=false)(h:cd K W N (dj (up S i) rows E) L):cd (gF P ops Q K [⟨some d,op,ty,pos,af,none⟩]) W N (dj S rows E) L:=
 lC (small:=[(t1,u1)]) ⟨h1,trivial⟩ (tp (d3 hz).2.2 hv (iY (small:=[(t1,u1)]) ⟨h1,trivial⟩ k (d3 hz).1 (d3 hz).2.1 hk hs (AgreeR.refl _) h))
theorem bV{t1 t2:Nat}{u1 u2:Value}(h1:dI t1 (dj S rows E)=some u1)(h2:dI t2 (dj S rows E)=some u2)(hv:LV P ((t1,u1)::(t2,u2)::dj S rows E) L op ty v)(k:Nat)(hk:rows[k]?=some (i,d,v))(hz:(dA (ik rows) && (dA (rows.map (·.1)) && Nat.blt d N))=true)(hs:S i=false)(h:cd K W N (dj (up S i) rows E) L):cd (gF P ops Q K [⟨some d,op,ty,pos,af,none⟩]) W N (dj S rows E) L:=
 lC (small:=[(t1,u1),(t2,u2)]) ⟨h1,h2,trivial⟩ (tp (d3 hz).2.2 hv (iY (small:=[(t1,u1),(t2,u2)]) ⟨h1,h2,trivial⟩ k (d3 hz).1 (d3 hz).2.1 hk hs (AgreeR.refl _) h))
theorem je{t:Nat}{t1 t2:Nat}{u1 u2:Value}(h1:dI t1 (dj S rows E)=some u1)(h2:dI t2 (dj S rows E)=some u2)(hg:(ops[g]?).bind (·.dst)=some t)(hl:dI t ((t1,u1)::(t2,u2)::dj S rows E)=some (.bool b))(hv:LV P ((t1,u1)::(t2,u2)::dj S rows E) L op ty v)(k:Nat)(hk:rows[k]?=some (i,d,v))(hz:(dA (ik rows) && (dA (rows.map (·.1)) && Nat.blt d N))=true)(hs:S i=false)(h:cd K W N (dj (up S i) rows E) L):cd (gF P ops Q K [⟨some d,op,ty,pos,af,some (g,b)⟩]) W N (dj S rows E) L:=
 lC (small:=[(t1,u1),(t2,u2)]) ⟨h1,h2,trivial⟩ (ae hg hl (tp (d3 hz).2.2 hv (iY (small:=[(t1,u1),(t2,u2)]) ⟨h1,h2,trivial⟩ k (d3 hz).1 (d3 hz).2.1 hk hs (AgreeR.refl _) h)))
theorem kf{t:Nat}{t1 t2 t3:Nat}{u1 u2 u3:Value}(h1:dI t1 (dj S rows E)=some u1)(h2:dI t2 (dj S rows E)=some u2)(h3:dI t3 (dj S rows E)=some u3)(hg:(ops[g]?).bind (·.dst)=some t)(hl:dI t ((t1,u1)::(t2,u2)::(t3,u3)::dj S rows E)=some (.bool b))(hv:LV P ((t1,u1)::(t2,u2)::(t3,u3)::dj S rows E) L op ty v)(k:Nat)(hk:rows[k]?=some (i,d,v))(hz:(dA (ik rows) && (dA (rows.map (·.1)) && Nat.blt d N))=true)(hs:S i=false)(h:cd K W N (dj (up S i) rows E) L):cd (gF P ops Q K [⟨some d,op,ty,pos,af,some (g,b)⟩]) W N (dj S rows E) L:=
 lC (small:=[(t1,u1),(t2,u2),(t3,u3)]) ⟨h1,h2,h3,trivial⟩ (ae hg hl (tp (d3 hz).2.2 hv (iY (small:=[(t1,u1),(t2,u2),(t3,u3)]) ⟨h1,h2,h3,trivial⟩ k (d3 hz).1 (d3 hz).2.1 hk hs (AgreeR.refl _) h)))
theorem AN{t1 t2 t3 t4 t5:Nat}{u1 u2 u3 u4 u5:Value}(h1:dI t1 (dj S rows E)=some u1)(h2:dI t2 (dj S rows E)=some u2)(h3:dI t3 (dj S rows E)=some u3)(h4:dI t4 (dj S rows E)=some u4)(h5:dI t5 (dj S rows E)=some u5)(hv:LV P ((t1,u1)::(t2,u2)::(t3,u3)::(t4,u4)::(t5,u5)::dj S rows E) L op ty v)(k:Nat)(hk:rows[k]?=some (i,d,v))(hz:(dA (ik rows) && (dA (rows.map (·.1)) && Nat.blt d N))=true)(hs:S i=false)(h:cd K W N (dj (up S i) rows E) L):cd (gF P ops Q K [⟨some d,op,ty,pos,af,none⟩]) W N (dj S rows E) L:=
 lC (small:=[(t1,u1),(t2,u2),(t3,u3),(t4,u4),(t5,u5)]) ⟨h1,h2,h3,h4,h5,trivial⟩ (tp (d3 hz).2.2 hv (iY (small:=[(t1,u1),(t2,u2),(t3,u3),(t4,u4),(t5,u5)]) ⟨h1,h2,h3,h4,h5,trivial⟩ k (d3 hz).1 (d3 hz).2.1 hk hs (AgreeR.refl _) h))
end
end Go.Proofs.YtanfdikglplkaaaGreatDoor.Sp
