/- Parts Hp, Hpm, Eng0: own lemmas and contracts of the code that the claim reaches. -/
import Derived.Test.YtanfdikglplkaaaGreatDoorM05
import Derived.Test.YtanfdikglplkaaaGreatDoorM03
import Derived.Test.YtanfdikglplkaaaGreatDoorM04
import Derived.Test.YtanfdikglplkaaaGreatDoorM07
set_option linter.unusedSimpArgs false
set_option linter.unusedVariables false
namespace Go.Proofs.YtanfdikglplkaaaGreatDoor.Sp
open Go
def LtK(K:List Int)(a b:Int):Prop:=K.getD a.toNat 0<K.getD b.toNat 0∨(K.getD a.toNat 0=K.getD b.toNat 0∧a<b)
instance(K:List Int)(a b:Int):Decidable (LtK K a b):=by unfold LtK;infer_instance
theorem LtK.irr{K:List Int}{a:Int}:¬LtK K a a:=by unfold LtK;omega
theorem LtK.asymm{K:List Int}{a b:Int}(h:LtK K a b):¬LtK K b a:=by unfold LtK at*;omega
theorem fJ{K:List Int}{a b c:Int}(h:¬LtK K b a)(k:¬LtK K c b):¬LtK K c a:=by unfold LtK at*;omega
def gg(K l:List Int)(i j:Nat):Prop:=¬LtK K (l.getD j 0) (l.getD i 0)
structure HI(n:Nat)(l:List Int):Prop where
 bd:∀i,i<l.length→0≤l.getD i 0∧l.getD i 0<n
 inj:∀i j,i<l.length→j<l.length→l.getD i 0=l.getD j 0→i=j
structure AtOk(n:Nat)(l at_:List Int):Prop where
 len:at_.length=n
 here:∀i,i<l.length→at_.getD (l.getD i 0).toNat 0=(i:Int)
 away:∀x:Nat,x<n→(∀i,i<l.length→l.getD i 0≠(x:Int))→at_.getD x 0= -1
def eo(l:List Int)(i k:Nat):List Int:=(l.set i (l.getD k 0)).set k (l.getD i 0)
theorem dt(l:List Int)(i k:Nat):(eo l i k).length=l.length:=by simp [eo]
theorem eM{l:List Int}{i j:Nat}{x d:Int}(h:i<l.length):(l.set i x).getD j d=if j=i then x else l.getD j d:=by
 simp only [List.getD_eq_getElem?_getD,List.getElem?_set]
 by_cases e:i=j
 ·subst e;simp [h]
 ·rw [if_neg e,if_neg (fun h=>e h.symm)]
theorem dU{l:List Int}{i k j:Nat}(hi:i<l.length)(hk:k<l.length):(eo l i k).getD j 0=if j=k then l.getD i 0 else if j=i then l.getD k 0 else l.getD j 0:=by
 unfold eo;rw [eM (by simpa using hk),eM hi]
theorem HI.swap{n:Nat}{l:List Int}(h:HI n l){i k:Nat}(hi:i<l.length)(hk:k<l.length):HI n (eo l i k):=by
 refine ⟨fun j hj=>?_,fun a b ha hb e=>?_⟩
 ·rw [dt] at hj;rw [dU hi hk]
  split
  ·exact h.bd i hi
  ·split
   ·exact h.bd k hk
   ·exact h.bd j hj
 ·rw [dt] at ha hb;rw [dU hi hk,dU hi hk] at e
  have q:=h.inj
  split at e <;>split at e <;>(try split at e) <;>(try split at e) <;>first|omega| (have:=h.inj _ _ (by assumption) (by assumption) e;omega)
structure Same(m:Nat)(l l':List Int):Prop where
 len:l'.length=l.length
 mem:∀x,x∈l'↔x∈l
 rest:∀j,m≤j→l'.getD j 0=l.getD j 0
theorem Same.refl(m:Nat)(l:List Int):Same m l l:=⟨rfl,fun _=>.rfl,fun _ _=>rfl⟩
theorem Same.trans{m:Nat}{a b c:List Int}(h:Same m a b)(k:Same m b c):Same m a c:=⟨k.len.trans h.len,fun x=>(k.mem x).trans (h.mem x),fun j hj=>(k.rest j hj).trans (h.rest j hj)⟩
theorem mem_iff_at{l:List Int}{x:Int}:x∈l↔∃i,i<l.length∧l.getD i 0=x:=by
 rw [List.mem_iff_getElem]
 constructor
 ·rintro ⟨i,hi,e⟩;exact ⟨i,hi,by simp [List.getD,hi,e]⟩
 ·rintro ⟨i,hi,e⟩;exact ⟨i,hi,by simpa [List.getD,hi] using e⟩
theorem km{l:List Int}{i k:Nat}(hi:i<l.length)(hk:k<l.length)(x:Int):x∈eo l i k↔x∈l:=by
 rw [mem_iff_at,mem_iff_at,dt]
 constructor
 ·rintro ⟨j,hj,e⟩
  rw [dU hi hk] at e
  split at e
  ·exact ⟨i,hi,e⟩
  ·split at e
   ·exact ⟨k,hk,e⟩
   ·exact ⟨j,hj,e⟩
 ·rintro ⟨j,hj,e⟩
  by_cases h1:j=i
  ·exact ⟨k,hk,by rw [dU hi hk,if_pos rfl,←h1,e]⟩
  ·by_cases h2:j=k
   ·refine ⟨i,hi,?_⟩
    rw [dU hi hk]
    split
    ·rename_i h3;rw [←e,h2,h3]
    ·rw [if_pos rfl,←h2,e]
   ·exact ⟨j,hj,by rw [dU hi hk,if_neg h2,if_neg h1,e]⟩
theorem Same.swap{m:Nat}{l:List Int}{i k:Nat}(hi:i<l.length)(hk:k<l.length)(h1:i<m)(h2:k<m):Same m l (eo l i k):=
 ⟨dt _ _ _,km hi hk,fun j hj=>by rw [dU hi hk,if_neg (by omega),if_neg (by omega)]⟩
theorem AtOk.swap{n:Nat}{l at_:List Int}(h:AtOk n l at_)(q:HI n l){i k:Nat}(hi:i<l.length)(hk:k<l.length):
 AtOk n (eo l i k) ((at_.set ((eo l i k).getD i 0).toNat (i:Int)).set ((eo l i k).getD k 0).toNat (k:Int)):=by
 have q':=q.swap hi hk
 have bi:=q'.bd i (by rw [dt];exact hi)
 have bk:=q'.bd k (by rw [dt];exact hk)
 have hl:=h.len
 refine ⟨by simp [hl],fun j hj=>?_,fun x hx hn=>?_⟩
 ·rw [eM (by rw [List.length_set];omega),eM (by omega)]
  have bj:=q'.bd j hj
  split
  ·rename_i e;have:=q'.inj j k hj (by rw [dt];exact hk) (by omega);omega
  ·rename_i e1;split
   ·rename_i e;have:=q'.inj j i hj (by rw [dt];exact hi) (by omega);omega
   ·rename_i e2
    have h1:j≠k:=fun e=>e1 (by rw [e])
    have h2:j≠i:=fun e=>e2 (by rw [e])
    rw [dU hi hk,if_neg h1,if_neg h2]
    exact h.here j (by rw [dt] at hj;exact hj)
 ·rw [eM (by rw [List.length_set];omega),eM (by omega)]
  have n1:=hn i (by rw [dt];exact hi)
  have n2:=hn k (by rw [dt];exact hk)
  rw [if_neg (by omega),if_neg (by omega)]
  refine h.away x hx fun j hj e=>?_
  have hm:(x:Int)∈eo l i k:=(km hi hk _).2 (mem_iff_at.2 ⟨j,hj,e⟩)
  obtain ⟨j',hj',e'⟩:=mem_iff_at.1 hm
  exact hn j' hj' e'
def HeapP(K l:List Int)(m:Nat):Prop:=∀k,0<k→k<m→gg K l ((k-1)/2) k
def HeapUp(K l:List Int)(m j:Nat):Prop:=(∀k,0<k→k<m→k≠j→gg K l ((k-1)/2) k)∧∀k,0<k→k<m→(k-1)/2=j→0<j→gg K l ((j-1)/2) k
def HeapX(K l:List Int)(m i0 i:Nat):Prop:=(∀k,0<k→k<m→(k≠i0∨i≠i0)→(k-1)/2≠i→gg K l ((k-1)/2) k)∧∀k,0<k→k<m→(k-1)/2=i→0<i→gg K l ((i-1)/2) k
theorem HeapUp.top{K l:List Int}{m:Nat}(h:HeapUp K l m 0):HeapP K l m:=fun k h0 h1=>h.1 k h0 h1 (by omega)
theorem HeapUp.done{K l:List Int}{m j:Nat}(h:HeapUp K l m j)(hle:gg K l ((j-1)/2) j):HeapP K l m:=fun k h0 h1=>by
 by_cases e:k=j
 ·subst e;exact hle
 ·exact h.1 k h0 h1 e
theorem HeapUp.next{K l:List Int}{m j:Nat}(h:HeapUp K l m j)(h0:0<j)(hj:j<m)(hm:m≤l.length)(hlt:LtK K (l.getD j 0) (l.getD ((j-1)/2) 0)):HeapUp K (eo l ((j-1)/2) j) m ((j-1)/2):=by
 obtain ⟨i,hi⟩:∃i,i=(j-1)/2:=⟨_,rfl⟩
 rw [←hi] at hlt⊢
 have g:∀x,(eo l i j).getD x 0=if x=j then l.getD i 0 else if x=i then l.getD j 0 else l.getD x 0:=fun x=>dU (by omega) (by omega)
 constructor
 ·intro k k0 k1 ne
  unfold gg;rw [g,g]
  by_cases e1:k=j
  ·subst e1;rw [if_pos rfl,←hi,if_neg (by omega),if_pos rfl];exact hlt.asymm
  ·rw [if_neg e1,if_neg ne]
   by_cases e2:(k-1)/2=j
   ·rw [if_pos e2];have:=h.2 k k0 k1 e2 h0;rw [←hi] at this;exact this
   ·rw [if_neg e2]
    by_cases e3:(k-1)/2=i
    ·rw [if_pos e3]
     have:=h.1 k k0 k1 e1
     unfold gg at this;rw [e3] at this
     exact fJ hlt.asymm this
    ·rw [if_neg e3];exact h.1 k k0 k1 e1
 ·intro k k0 k1 e i0
  unfold gg;rw [g,g]
  rw [if_neg (show (i-1)/2≠j by omega),if_neg (show (i-1)/2≠i by omega)]
  have hi':=h.1 i i0 (by omega) (by omega)
  by_cases e1:k=j
  ·rw [if_pos e1];exact hi'
  ·rw [if_neg e1,if_neg (by omega)]
   have:=h.1 k k0 k1 e1
   unfold gg at this;rw [e] at this
   exact fJ hi' this
theorem HeapP.x{K l:List Int}{m i:Nat}(h:HeapP K l m):HeapX K l m i i:=⟨fun k k0 k1 _ _=>h k k0 k1,fun k k0 k1 e i0=>by
 have h1:=h k k0 k1;have h2:=h i i0 (by omega)
 rw [e] at h1;exact fJ h2 h1⟩
theorem HeapP.xset{K l l':List Int}{m i:Nat}(h:HeapP K l m)(hi:i<m)(hs:∀j,j<m→j≠i→l'.getD j 0=l.getD j 0):HeapX K l' m i i:=by
 constructor
 ·intro k k0 k1 ne pe
  unfold gg;rw [hs k k1 (by omega),hs ((k-1)/2) (by omega) pe];exact h k k0 k1
 ·intro k k0 k1 e i0
  unfold gg;rw [hs k k1 (by omega),hs ((i-1)/2) (by omega) (by omega)]
  exact (HeapP.x h).2 k k0 k1 e i0
theorem HeapX.stop{K l:List Int}{m i0 i:Nat}(h:HeapX K l m i0 i)(hc:∀k,0<k→k<m→(k-1)/2=i→gg K l i k)(hne:i≠i0):HeapP K l m:=fun k k0 k1=>by
 by_cases e:(k-1)/2=i
 ·rw [e];exact hc k k0 k1 e
 ·exact h.1 k k0 k1 (.inr hne) e
theorem HeapX.stay{K l:List Int}{m i0:Nat}(h:HeapX K l m i0 i0)(hc:∀k,0<k→k<m→(k-1)/2=i0→gg K l i0 k):HeapUp K l m i0:=⟨fun k k0 k1 ne=>by
 by_cases e:(k-1)/2=i0
 ·rw [e];exact hc k k0 k1 e
 ·exact h.1 k k0 k1 (.inl ne) e,h.2⟩
theorem HeapX.next{K l:List Int}{m i0 i j:Nat}(h:HeapX K l m i0 i)(hi0:i0≤i)(hj:j<m)(hm:m≤l.length)(hp:(j-1)/2=i)(j0:0<j)(hlt:LtK K (l.getD j 0) (l.getD i 0))(hc:∀k,0<k→k<m→(k-1)/2=i→gg K l j k):HeapX K (eo l i j) m i0 j:=by
 have g:∀x,(eo l i j).getD x 0=if x=j then l.getD i 0 else if x=i then l.getD j 0 else l.getD x 0:=fun x=>dU (by omega) (by omega)
 constructor
 ·intro k k0 k1 ne pe
  unfold gg;rw [g,g,if_neg pe]
  by_cases e1:k=j
  ·subst e1;rw [if_pos rfl,if_pos hp];exact hlt.asymm
  ·rw [if_neg e1]
   by_cases e2:k=i
   ·rw [if_pos e2,if_neg (by omega)]
    have:=h.2 j j0 hj hp (by omega)
    rw [e2];exact this
   ·rw [if_neg e2]
    by_cases e3:(k-1)/2=i
    ·rw [if_pos e3];exact hc k k0 k1 e3
    ·rw [if_neg e3]
     by_cases e4:k=i0
     ·by_cases e5:i=i0
      ·omega
      ·exact h.1 k k0 k1 (.inr e5) e3
     ·exact h.1 k k0 k1 (.inl e4) e3
 ·intro k k0 k1 e _
  unfold gg;rw [g,g]
  rw [if_neg (show k≠j by omega),if_neg (show k≠i by omega),if_neg (show (j-1)/2≠j by omega),if_pos hp]
  have:=h.1 k k0 k1 (.inl (by omega)) (by omega)
  unfold gg at this;rw [e] at this;exact this
theorem HeapP.least{K l:List Int}{m:Nat}(h:HeapP K l m):∀k,k<m→gg K l 0 k:=by
 intro k
 induction k using Nat.strongRecOn with
 |_ k ih=>
  intro hk
  by_cases e:k=0
  ·subst e;exact LtK.irr
  ·exact fJ (ih ((k-1)/2) (by omega) (by omega)) (h k (by omega) hk)
abbrev Ks:=List (Option Int)
def jR:Ks→Nat→Option (Nat×Int)
 | [],_=>none
 |none::r,b=>jR r (b+1)
 |some k::r,b=>match jR r (b+1) with
  |none=>some (b,k)
  |some (j,k')=>if k'<k then some (j,k') else some (b,k)
def gf(ks:Ks):Nat:=(ks.filter Option.isSome).length
theorem mZ{ks:Ks}:∀{b:Nat},jR ks b=none→∀i:Nat,ks.getD i none=none:=by
 induction ks with
 |nil=>intro b _ i;simp
 |cons o r ih=>
  intro b h i
  cases o with
  |none=>
   cases i with
   |zero=>rfl
   |succ i=>simpa using ih (b:=b+1) h i
  |some k=>
   simp only [jR] at h
   split at h
   ·cases h
   ·split at h <;>cases h
theorem kE{ks:Ks}:∀{b i:Nat} {k:Int},jR ks b=some (i,k)→b≤i∧ks.getD (i-b) none=some k∧∀(j:Nat) (k':Int),ks.getD j none=some k'→k<k'∨(k=k'∧i≤b+j):=by
 induction ks with
 |nil=>intro b i k h;cases h
 |cons o r ih=>
  intro b i k h
  cases o with
  |none=>
   obtain ⟨h1,h2,h3⟩:=ih (b:=b+1) h
   refine ⟨by omega,?_,fun j k' e=>?_⟩
   ·rw [show i-b=(i- (b+1))+1 by omega];simpa using h2
   ·cases j with
    |zero=>simp at e
    |succ j=>have:=h3 j k' (by simpa using e);omega
  |some q=>
   simp only [jR] at h
   cases hm:jR r (b+1) with
   |none=>
    rw [hm] at h;simp only [Option.some.injEq,Prod.mk.injEq] at h
    obtain ⟨rfl,rfl⟩:=h
    refine ⟨Nat.le_refl _,by simp,fun j k' e=>?_⟩
    cases j with
    |zero=>simp at e;omega
    |succ j=>have:=mZ hm j;simp at e;rw [←List.getD_eq_getElem?_getD,this] at e;cases e
   |some x=>
    obtain ⟨j0,k0⟩:=x
    rw [hm] at h
    obtain ⟨h1,h2,h3⟩:=ih hm
    by_cases hlt:k0<q
    ·simp only [if_pos hlt,Option.some.injEq,Prod.mk.injEq] at h
     obtain ⟨rfl,rfl⟩:=h
     refine ⟨by omega,?_,fun j k' e=>?_⟩
     ·rw [show j0-b=(j0- (b+1))+1 by omega];simpa using h2
     ·cases j with
      |zero=>simp at e;omega
      |succ j=>have:=h3 j k' (by simpa using e);omega
    ·simp only [if_neg hlt,Option.some.injEq,Prod.mk.injEq] at h
     obtain ⟨rfl,rfl⟩:=h
     refine ⟨Nat.le_refl _,by simp,fun j k' e=>?_⟩
     cases j with
     |zero=>simp at e;omega
     |succ j=>have:=h3 j k' (by simpa using e);omega
theorem zD{ks:Ks}{i:Nat}{k:Int}(h:ks.getD i none=some k)(hl:∀(j:Nat) (k':Int),ks.getD j none=some k'→k<k'∨(k=k'∧i≤j)):jR ks 0=some (i,k):=by
 cases hm:jR ks 0 with
 |none=>have:=mZ hm i;rw [h] at this;cases this
 |some x=>
  obtain ⟨j,k'⟩:=x
  obtain ⟨_,h2,h3⟩:=kE hm
  have a1:=h3 i k h
  have a2:=hl j k' (by simpa using h2)
  simp only [Option.some.injEq,Prod.mk.injEq];omega
structure HpOk(n:Nat)(l K:List Int)(ks:Ks):Prop where
 hi:HI n l
 hp:HeapP K l l.length
 lk:K.length=n
 ln:ks.length=n
 says:∀x:Nat,x<n→ks.getD x none=if (x:Int)∈l then some (K.getD x 0) else none
theorem HpOk.min{n:Nat}{l K:List Int}{ks:Ks}(h:HpOk n l K ks)(h0:0<l.length):jR ks 0=some ((l.getD 0 0).toNat,K.getD (l.getD 0 0).toNat 0):=by
 have b:=h.hi.bd 0 h0
 refine zD ?_ fun j k' e=>?_
 ·rw [h.says _ (by omega),if_pos (by rw [Int.toNat_of_nonneg b.1];exact mem_iff_at.2 ⟨0,h0,rfl⟩)]
 ·have hj:j<n:=by
   by_cases hj:j<n
   ·exact hj
   ·rw [←h.ln] at hj;simp [List.getD,show ks.length≤j by omega] at e
  rw [h.says j hj] at e
  split at e
  ·rename_i hm
   obtain ⟨i,hi,e2⟩:=mem_iff_at.1 hm
   have:=h.hp.least i hi
   simp only [Option.some.injEq] at e
   unfold gg LtK at this;rw [e2] at this
   simp only [Int.toNat_natCast] at this;rw [e] at this;omega
  ·cases e
theorem Bx(ks:Ks):gf ks=((List.range ks.length).filter fun i=>(ks.getD i none).isSome).length:=by
 unfold gf
 induction ks with
 |nil=>rfl
 |cons o r ih=>
  rw [List.length_cons,List.range_succ_eq_map,List.filter_cons,List.filter_cons]
  have:((List.range r.length).map Nat.succ).filter (fun i=>((o::r).getD i none).isSome)=((List.range r.length).filter fun i=>(r.getD i none).isSome).map Nat.succ:=by
   rw [List.filter_map];rfl
  rw [this]
  cases o with
  |none=>simpa using ih
  |some k=>simpa using ih
theorem HpOk.count{n:Nat}{l K:List Int}{ks:Ks}(h:HpOk n l K ks):gf ks=l.length:=by
 rw [Bx,h.ln]
 have hd:(l.map Int.toNat).Nodup:=by
  rw [List.nodup_iff_pairwise_ne,List.pairwise_iff_getElem]
  intro i j hi hj hlt e
  simp only [List.length_map] at hi hj
  have b1:=h.hi.bd i hi;have b2:=h.hi.bd j hj
  have:=h.hi.inj i j hi hj (by simp [List.getD,hi,hj] at*;omega)
  omega
 have:((List.range n).filter fun i=>(ks.getD i none).isSome).Perm (l.map Int.toNat):=(List.perm_ext_iff_of_nodup (List.nodup_range.filter _) hd).2 fun x=>by
  simp only [List.mem_filter,List.mem_range,List.mem_map]
  constructor
  ·rintro ⟨hx,hs⟩
   rw [h.says x hx] at hs
   split at hs
   ·exact ⟨_,by assumption,by omega⟩
   ·cases hs
  ·rintro ⟨y,hy,rfl⟩
   obtain ⟨i,hi,e⟩:=mem_iff_at.1 hy
   have b:=h.hi.bd i hi
   refine ⟨by omega,?_⟩
   rw [h.says _ (by omega),if_pos (by rw [Int.toNat_of_nonneg (by omega)];exact hy)];rfl
 rw [this.length_eq,List.length_map]
theorem HpOk.le{n:Nat}{l K:List Int}{ks:Ks}(h:HpOk n l K ks):l.length≤n:=by
 rw [←h.count,←h.ln];exact List.length_filter_le _ _
end Go.Proofs.YtanfdikglplkaaaGreatDoor.Sp
namespace Go.Proofs.YtanfdikglplkaaaGreatDoor.Sp
open Go
section
variable{P:Program}{E:List (Nat×Value)}{L:List HP}{ty:TypeId}{K:Act→World→Prop}{W:World}{N:Nat}
theorem gU{t:TypeId}{x:Operand}{v:Value}(hr:∀w x,(Instr.makeInterface t x).run P w=.ok (.iface t x) w)(hx:ev E x=some v):LV P E L (.makeInterface t x) ty (.iface t v):=by
 intro ρ h w _ d pos af g;simp [execOp,h x _ hx,hr]
theorem kY{t xT:TypeId}{x:Operand}{v:Value}(hr:∀w v,(Instr.typeAssert (.iface t v) xT t false).run P w=.ok v w)(hx:ev E x=some (.iface t v)):LV P E L (.typeAssert x xT t false) ty v:=by
 intro ρ h w _ d pos af g;simp [execOp,h x _ hx,hr]
theorem eO{f:FuncId}{T:TypeId}{name:String}{y:Operand}{u:Value}{xs:List Operand}{vs:List Value}{ts:Array TypeId}(hc:∀v args w,(callMethod (.iface T v) name args).run P w=.ok (.enter f (#[v]++args)) w)
 (hy:ev E y=some (.iface T u)) (hx:evs E xs=some vs):n7 P E (.call {callee:=.invoke y name,args:=xs.toArray,argTypes:=ts}) ty f (u::vs):=by
 intro ρ h w d pos af g
 simp [execOp,resolve,h.evs hx,h y _ hy,invoke,hc]
structure RFacts(n:Nat)(l at_ K:List Int)(bl:Option Addr)(cl:Nat)(ba bk:Option Addr):Prop where
 hi:HI n l
 ato:AtOk n l at_
 lk:K.length=n
 big:n≤65536
 okl:bB bl l.length
 cpl:l.length≤cl
 oka:bB ba n
 okk:bB bk n
def lM(p n:Nat)(l at_ K:List Int)(bl:Option Addr)(cl:Nat)(ba:Option Addr)(ca:Nat)(bk:Option Addr)(ck:Nat):List HP:=
 [bI p [.slice bl l.length cl,.slice ba n ca,.slice bk n ck] 173,SlV 3 1 (.slice bl l.length cl) l.length (aF .i64 l),SlV 3 1 (.slice ba n ca) n (aF .i64 at_),SlV 3 1 (.slice bk n ck) n (aF .i64 K)]
def eK(p n:Nat)(l K:List Int):HP:=fun f=> ∃at_ bl cl ba ca bk ck,RFacts n l at_ K bl cl ba bk∧Parts (lM p n l at_ K bl cl ba ca bk ck) f
theorem Sat.openW{p n:Nat}{l Ks:List Int}{w:World}(h:Sat (eK p n l Ks::L) w):∃at_ bl cl ba ca bk ck,RFacts n l at_ Ks bl cl ba bk∧Sat (lM p n l at_ Ks bl cl ba ca bk ck++L) w:=by
 obtain ⟨_,⟨f1,f2,rfl,⟨at_,bl,cl,ba,ca,bk,ck,h1,h2⟩,hl⟩,hh⟩:=h
 exact ⟨at_,bl,cl,ba,ca,bk,ck,h1,_,Parts.append h2 hl,hh⟩
theorem Sat.shutW{p n:Nat}{l Ks at_:List Int}{w:World}{bl:Option Addr}{cl:Nat}{ba:Option Addr}{ca:Nat}{bk:Option Addr}{ck:Nat}(h:RFacts n l at_ Ks bl cl ba bk)(hs:Sat (lM p n l at_ Ks bl cl ba ca bk ck++L) w):Sat (eK p n l Ks::L) w:=by
 obtain ⟨f,hp,hh⟩:=hs
 obtain ⟨f1,f2,rfl,h1,h2⟩:=Parts.split hp
 exact ⟨_,⟨f1,f2,rfl,⟨at_,bl,cl,ba,ca,bk,ck,h,h1⟩,h2⟩,hh⟩
theorem gp{p n:Nat}{l Ks:List Int}(k:∀at_ bl cl ba ca bk ck,RFacts n l at_ Ks bl cl ba bk→cd K W N E (bI p [.slice bl l.length cl,.slice ba n ca,.slice bk n ck] 173::SlV 3 1 (.slice bl l.length cl) l.length (aF .i64 l)::SlV 3 1 (.slice ba n ca) n (aF .i64 at_)::SlV 3 1 (.slice bk n ck) n (aF .i64 Ks)::L)):cd K W N E (eK p n l Ks::L):=fun a w s=>by
 obtain ⟨at_,bl,cl,ba,ca,bk,ck,h1,h2⟩:=s.sat.openW
 exact k at_ bl cl ba ca bk ck h1 a w ⟨s.size,s.defers,s.env,h2,s.ext⟩
theorem eZ{p n m:Nat}{l Ks at_:List Int}{bl:Option Addr}{cl:Nat}{ba:Option Addr}{ca:Nat}{bk:Option Addr}{ck:Nat}(hm:l.length=m)(h:RFacts n l at_ Ks bl cl ba bk)(k:cd K W N E (eK p n l Ks::L)):cd K W N E (bI p [.slice bl m cl,.slice ba n ca,.slice bk n ck] 173::SlV 3 1 (.slice bl m cl) m (aF .i64 l)::SlV 3 1 (.slice ba n ca) n (aF .i64 at_)::SlV 3 1 (.slice bk n ck) n (aF .i64 Ks)::L):=by
 subst hm;exact bO (fun _ hs=>hs.shutW h) k
theorem eh{p n:Nat}{l Ks:List Int}{w:World}(h:Sat (eK p n l Ks::L) w):HI n l∧Ks.length=n∧n≤65536:=by
 obtain ⟨_,_,_,_,_,_,_,h1,_⟩:=h.openW;exact ⟨h1.hi,h1.lk,h1.big⟩
def cL(p n:Nat)(ks:Ks):HP:=fun f=> ∃l Kk,HpOk n l Kk ks∧eK p n l Kk f
theorem kH{p n:Nat}{ks:Ks}(k:∀l Kk,HpOk n l Kk ks→cd K W N E (eK p n l Kk::L)):cd K W N E (cL p n ks::L):=fun a w s=>by
 obtain ⟨_,⟨f1,f2,rfl,⟨l,Kk,h1,h2⟩,hl⟩,hh⟩:=s.sat
 exact k l Kk h1 a w ⟨s.size,s.defers,s.env,⟨_,⟨f1,f2,rfl,h2,hl⟩,hh⟩,s.ext⟩
theorem ia{p n:Nat}{ks:Ks}{l Kk:List Int}(h:HpOk n l Kk ks)(k:cd K W N E (cL p n ks::L)):cd K W N E (eK p n l Kk::L):=fun a w s=>by
 obtain ⟨_,⟨f1,f2,rfl,h2,hl⟩,hh⟩:=s.sat
 exact k a w ⟨s.size,s.defers,s.env,⟨_,⟨f1,f2,rfl,⟨l,Kk,h,h2⟩,hl⟩,hh⟩,s.ext⟩
theorem gB{p n:Nat}{ks:Ks}{w:World}(h:Sat (cL p n ks::L) w):ks.length=n∧n≤65536∧gf ks≤n:=by
 obtain ⟨_,⟨f1,f2,rfl,⟨l,Kk,h1,h2⟩,hl⟩,hh⟩:=h
 have:=eh (L:=L) (w:=w) ⟨_,⟨f1,f2,rfl,h2,hl⟩,hh⟩
 exact ⟨h1.ln,this.2.2,by rw [h1.count];exact h1.le⟩
end
theorem zL(j:Nat)(hj:j≤100000):IntKind.i64.wrap (((j:Int)-1).tdiv 2)=(((j-1)/2:Nat):Int):=by
 cases j with
 |zero=>decide
 |succ j=>
  have e:(((j+1:Nat):Int)-1).tdiv 2=((j/2:Nat):Int):=by
   rw [show ((j+1:Nat):Int)-1=(j:Int) by omega];rfl
  rw [e,show j+1-1=j by omega];exact cA (by omega) (by omega)
theorem th{K:List Int}{a b:Int}(h:K.getD a.toNat 0<K.getD b.toNat 0):true=decide (LtK K a b):=by
 symm;rw [decide_eq_true_iff];exact .inl h
theorem sX{K:List Int}{a b:Int}(h:¬K.getD a.toNat 0<K.getD b.toNat 0)(h2:K.getD a.toNat 0=K.getD b.toNat 0):decide (a<b)=decide (LtK K a b):=by
 rw [decide_eq_decide];exact ⟨fun h3=>.inr ⟨h2,h3⟩,fun h3=>by rcases h3 with h3|h3;exact absurd h3 h;exact h3.2⟩
theorem tL{K:List Int}{a b:Int}(h:¬K.getD a.toNat 0<K.getD b.toNat 0)(h2:¬K.getD a.toNat 0=K.getD b.toNat 0):false=decide (LtK K a b):=by
 symm;rw [decide_eq_false_iff_not];rintro (h3|h3);exact h h3;exact h2 h3.1
structure DownOk(K l l':List Int)(m i0:Nat)(b:Bool):Prop where
 same:Same m l l'
 yes:b=true→HeapP K l' m
 no:b=false→l'=l∧HeapUp K l m i0
theorem HI.le{n:Nat}{l:List Int}(h:HI n l):l.length≤n:=by
 have hd:(l.map Int.toNat).Nodup:=by
  rw [List.nodup_iff_pairwise_ne,List.pairwise_iff_getElem]
  intro i j hi hj hlt e
  simp only [List.length_map] at hi hj
  have b1:=h.bd i hi;have b2:=h.bd j hj
  have:=h.inj i j hi hj (by simp [List.getD,hi,hj] at*;omega)
  omega
 have key:∀(N:Nat) (l:List Nat),l.Nodup→(∀x∈l,x<N)→l.length≤N:=by
  intro N
  induction N with
  |zero=>intro l _ h;cases l with|nil=>simp|cons x l=>exact absurd (h x (List.mem_cons_self ..)) (by omega)
  |succ N ih=>
   intro l hn h
   have:=ih (l.erase N) (hn.erase N) (fun x hx=>by have h1:=(hn.mem_erase_iff).1 hx;have:=h x h1.2;omega)
   have h2:l.length≤(l.erase N).length+1:=by rw [List.length_erase];split <;>omega
   omega
 have:=key n _ hd fun x hx=>by
  obtain ⟨y,hy,rfl⟩:=List.mem_map.1 hx
  obtain ⟨i,hi,e⟩:=mem_iff_at.1 hy
  have:=h.bd i hi;omega
 simpa using this
theorem HI.push{n:Nat}{l:List Int}(h:HI n l){x:Int}(hx:0≤x∧x<n)(hn:x ∉ l):HI n (l++[x]):=by
 have g1:∀i,i<l.length→(l++[x]).getD i 0=l.getD i 0:=fun i hi=>by simp only [List.getD_eq_getElem?_getD,List.getElem?_append_left hi]
 have g2:(l++[x]).getD l.length 0=x:=by simp [List.getD]
 have hne:∀i,i<l.length→l.getD i 0≠x:=fun i hi e=>hn (mem_iff_at.2 ⟨i,hi,e⟩)
 refine ⟨fun i hi=>?_,fun i j hi hj e=>?_⟩
 ·rw [List.length_append,List.length_singleton] at hi
  by_cases e:i<l.length
  ·rw [g1 i e];exact h.bd i e
  ·rw [show i=l.length by omega,g2];exact hx
 ·rw [List.length_append,List.length_singleton] at hi hj
  by_cases e1:i<l.length <;>by_cases e2:j<l.length
  ·rw [g1 i e1,g1 j e2] at e;exact h.inj i j e1 e2 e
  ·rw [g1 i e1,show j=l.length by omega,g2] at e;exact absurd e (hne i e1)
  ·rw [g1 j e2,show i=l.length by omega,g2] at e;exact absurd e.symm (hne j e2)
  ·omega
theorem AtOk.push{n:Nat}{l at_:List Int}(h:AtOk n l at_)(q:HI n l){x:Int}(hx:0≤x∧x<n)(hn:x ∉ l):AtOk n (l++[x]) (at_.set x.toNat (l.length:Int)):=by
 have g1:∀i,i<l.length→(l++[x]).getD i 0=l.getD i 0:=fun i hi=>by simp only [List.getD_eq_getElem?_getD,List.getElem?_append_left hi]
 have g2:(l++[x]).getD l.length 0=x:=by simp [List.getD]
 have hl:=h.len
 have hne:∀i,i<l.length→l.getD i 0≠x:=fun i hi e=>hn (mem_iff_at.2 ⟨i,hi,e⟩)
 refine ⟨by rw [List.length_set];exact hl,fun i hi=>?_,fun y hy hf=>?_⟩
 ·rw [List.length_append,List.length_singleton] at hi
  rw [eM (by omega)]
  by_cases e:i<l.length
  ·rw [g1 i e,if_neg (by have:=q.bd i e;have:=hne i e;omega)];exact h.here i e
  ·rw [show i=l.length by omega,g2,if_pos rfl]
 ·have:=hf l.length (by simp)
  rw [g2] at this
  rw [eM (by omega),if_neg (by omega)]
  refine h.away y hy fun i hi=>?_
  have:=hf i (by simp;omega)
  rw [g1 i hi] at this;exact this
theorem eA{l:List Int}{i:Nat}(h:i<l.length-1):l.dropLast.getD i 0=l.getD i 0:=by
 simp only [List.getD_eq_getElem?_getD,List.getElem?_dropLast,if_pos h]
theorem HI.pop{n:Nat}{l:List Int}(h:HI n l):HI n l.dropLast:=by
 refine ⟨fun i hi=>?_,fun i j hi hj e=>?_⟩
 ·rw [List.length_dropLast] at hi;rw [eA hi];exact h.bd i (by omega)
 ·rw [List.length_dropLast] at hi hj;rw [eA hi,eA hj] at e;exact h.inj i j (by omega) (by omega) e
theorem AtOk.pop{n:Nat}{l at_:List Int}(h:AtOk n l at_)(q:HI n l)(h0:0<l.length):AtOk n l.dropLast (at_.set (l.getD (l.length-1) 0).toNat (-1)):=by
 have hb:=q.bd (l.length-1) (by omega)
 have hl:=h.len
 refine ⟨by rw [List.length_set];exact hl,fun i hi=>?_,fun y hy hf=>?_⟩
 ·rw [List.length_dropLast] at hi
  rw [eA hi,eM (by omega),if_neg]
  ·exact h.here i (by omega)
  ·intro e
   have:=q.bd i (by omega)
   have:=q.inj i (l.length-1) (by omega) (by omega) (by omega);omega
 ·rw [eM (by omega)]
  split
  ·rfl
  ·rename_i hne
   refine h.away y hy fun i hi e=>?_
   by_cases e2:i<l.length-1
   ·exact hf i (by rw [List.length_dropLast];exact e2) (by rw [eA e2];exact e)
   ·rw [show i=l.length-1 by omega] at e;omega
theorem AtOk.at_ge{n:Nat}{l at_:List Int}(h:AtOk n l at_)(q:HI n l){x:Int}(hx:0≤x∧x<n):decide (at_.getD x.toNat 0≥0)=decide (x∈l):=by
 rw [decide_eq_decide]
 constructor
 ·intro h0
  refine Classical.byContradiction fun hn=>?_
  have:=h.away x.toNat (by omega) fun i hi e=>hn (mem_iff_at.2 ⟨i,hi,by omega⟩)
  omega
 ·intro hm
  obtain ⟨i,hi,e⟩:=mem_iff_at.1 hm
  have:=h.here i hi
  rw [e] at this;omega
theorem AtOk.at_is{n:Nat}{l at_:List Int}(h:AtOk n l at_){x:Int}(hm:x∈l):∃i:Nat,i<l.length∧l.getD i 0=x∧at_.getD x.toNat 0=(i:Int):=by
 obtain ⟨i,hi,e⟩:=mem_iff_at.1 hm
 exact ⟨i,hi,e,by rw [←e];exact h.here i hi⟩
theorem HeapP.pushUp{K l:List Int}{x:Int}(h:HeapP K l l.length):HeapUp K (l++[x]) (l++[x]).length l.length:=by
 have g1:∀i,i<l.length→(l++[x]).getD i 0=l.getD i 0:=fun i hi=>by simp only [List.getD_eq_getElem?_getD,List.getElem?_append_left hi]
 constructor
 ·intro k k0 k1 ne
  rw [List.length_append,List.length_singleton] at k1
  unfold gg;rw [g1 k (by omega),g1 _ (by omega)];exact h k k0 (by omega)
 ·intro k k0 k1 e _
  rw [List.length_append,List.length_singleton] at k1;omega
theorem HeapP.swapX{K l:List Int}{m i k:Nat}(h:HeapP K l m)(hi:i<l.length)(hk:k<l.length)(hik:i≤k)(hm:m≤k):HeapX K (eo l i k) m i i:=by
 by_cases him:i<m
 ·exact h.xset him fun j hj hne=>by rw [dU hi hk,if_neg (by omega),if_neg hne]
 ·refine ⟨fun j j0 j1 _ _=>?_,fun j j0 j1 e _=>by omega⟩
  unfold gg;rw [dU hi hk,dU hi hk,if_neg (by omega),if_neg (by omega),if_neg (by omega),if_neg (by omega)];exact h j j0 j1
theorem DownOk.heap0{K l l':List Int}{m:Nat}{b:Bool}(h:DownOk K l l' m 0 b):HeapP K l' m:=by
 cases b with
 |true=>exact h.yes rfl
 |false=>obtain ⟨e,hu⟩:=h.no rfl;rw [e];exact hu.top
def gZ(n:Nat)(x:Int):Bool:=decide (0≤x) && decide (x< (n:Int))
theorem known_iff{n:Nat}{x:Int}:gZ n x=true↔0≤x∧x<n:=by simp [gZ]
def kg(ks:Ks)(x:Int):Bool:=decide (0≤x) && (ks.getD x.toNat none).isSome
def w7(ks:Ks)(x:Int):Int:=bif kg ks x then (ks.getD x.toNat none).getD 0 else 0
def kb(ks:Ks)(x:Int):Int:=bif gZ ks.length x then (bif kg ks x then 8 else 0) else 1
def jS(ks:Ks)(x k:Int):Ks:=bif kb ks x==0 then ks.set x.toNat (some k) else ks
def mJ(ks:Ks)(x:Int):Int:=bif gZ ks.length x then (bif kg ks x then 0 else 6) else 1
def jq(ks:Ks)(x:Int):Ks:=bif kg ks x then ks.set x.toNat none else ks
def jI(ks:Ks):Int:=match jR ks 0 with|none=>0|some (i,_)=>(i:Int)
def jd(ks:Ks):Int:=match jR ks 0 with|none=>0|some (_,k)=>k
def gT(ks:Ks):Bool:=(jR ks 0).isSome
def jt(ks:Ks):Ks:=match jR ks 0 with|none=>ks|some (i,_)=>ks.set i none
theorem HpOk.has{n:Nat}{l K:List Int}{ks:Ks}(h:HpOk n l K ks){x:Int}(hx:0≤x∧x<n):kg ks x=decide (x∈l):=by
 unfold kg
 rw [h.says x.toNat (by omega),Int.toNat_of_nonneg hx.1,decide_eq_true hx.1,Bool.true_and]
 by_cases hm:x∈l
 ·rw [if_pos hm,decide_eq_true hm];rfl
 ·rw [if_neg hm,decide_eq_false hm];rfl
theorem ua{n:Nat}{ks:Ks}(hl:ks.length=n){x:Int}(hx:¬(0≤x∧x<n)):kg ks x=false:=by
 unfold kg
 by_cases h0:0≤x
 ·have:ks.getD x.toNat none=none:=by simp [List.getD,show ks.length≤x.toNat by omega]
  rw [this,Option.isSome_none,Bool.and_false]
 ·rw [decide_eq_false h0,Bool.false_and]
theorem HpOk.key{n:Nat}{l K:List Int}{ks:Ks}(h:HpOk n l K ks){x:Int}(hm:x∈l):kg ks x=true∧w7 ks x=K.getD x.toNat 0∧(0≤x∧x<n):=by
 obtain ⟨i,hi,e⟩:=mem_iff_at.1 hm
 have hb:=h.hi.bd i hi
 rw [e] at hb
 have h1:kg ks x=true:=by rw [h.has hb,decide_eq_true hm]
 refine ⟨h1,?_,hb⟩
 unfold w7
 rw [h1,cond_true,h.says x.toNat (by omega),Int.toNat_of_nonneg hb.1,if_pos hm];rfl
theorem xB{n:Nat}{a b:Ks}(ha:a.length=n)(hb:b.length=n)(h:∀x:Nat,x<n→a.getD x none=b.getD x none):a=b:=by
 refine List.ext_getElem (by omega) fun i h1 h2=>?_
 have:=h i (by omega)
 simpa [List.getD,h1,h2] using this
theorem zB{ks:Ks}{i j:Nat}{x:Option Int}(h:i<ks.length):(ks.set i x).getD j none=if j=i then x else ks.getD j none:=by
 simp only [List.getD_eq_getElem?_getD,List.getElem?_set]
 by_cases e:i=j
 ·subst e;simp [h]
 ·rw [if_neg e,if_neg (fun h=>e h.symm)]
theorem HpOk.push{n:Nat}{l l' K:List Int}{ks:Ks}(h:HpOk n l K ks){x k:Int}(hx:0≤x∧x<n)(hn:x ∉ l)(hi:HI n l')(hm:∀y,y∈l'↔y∈l++[x])(hp:HeapP (K.set x.toNat k) l' l'.length):HpOk n l' (K.set x.toNat k) (ks.set x.toNat (some k)):=by
 have h1:=h.lk;have h2:=h.ln
 refine ⟨hi,hp,by rw [List.length_set];exact h1,by rw [List.length_set];exact h2,fun y hy=>?_⟩
 rw [zB (by omega),eM (by omega),h.says y hy]
 by_cases e:y=x.toNat
 ·rw [if_pos e,if_pos e,if_pos ((hm _).2 (List.mem_append_right _ (by rw [List.mem_singleton];omega)))]
 ·rw [if_neg e,if_neg e]
  have:((y:Int)∈l')↔((y:Int)∈l):=by
   rw [hm,List.mem_append,List.mem_singleton]
   exact ⟨fun h=>by rcases h with h|h;exact h;omega,.inl⟩
  simp only [this]
theorem HpOk.rem{n:Nat}{l l' K:List Int}{ks:Ks}(h:HpOk n l K ks){x:Int}(hx:0≤x∧x<n)(hi:HI n l')(hm:∀y,y∈l'↔y∈l∧y≠x)(hp:HeapP K l' l'.length):HpOk n l' K (ks.set x.toNat none):=by
 have h1:=h.lk;have h2:=h.ln
 refine ⟨hi,hp,h1,by rw [List.length_set];exact h2,fun y hy=>?_⟩
 rw [zB (by omega),h.says y hy]
 by_cases e:y=x.toNat
 ·rw [if_pos e,if_neg (fun hh=>((hm _).1 hh).2 (by omega))]
 ·rw [if_neg e]
  have:((y:Int)∈l')↔((y:Int)∈l):=by rw [hm];exact ⟨fun h=>h.1,fun h=>⟨h,by omega⟩⟩
  simp only [this]
theorem iC{n:Nat}{l:List Int}(h:HI n l)(h0:0<l.length)(y:Int):y∈l.dropLast↔y∈l∧y≠l.getD (l.length-1) 0:=by
 rw [mem_iff_at,mem_iff_at]
 constructor
 ·rintro ⟨i,hi,e⟩
  rw [List.length_dropLast] at hi
  rw [eA hi] at e
  exact ⟨⟨i,by omega,e⟩,fun e2=>by have:=h.inj i (l.length-1) (by omega) (by omega) (by omega);omega⟩
 ·rintro ⟨⟨i,hi,e⟩,hne⟩
  have:i≠l.length-1:=fun e2=>by subst e2;exact hne e.symm
  exact ⟨i,by rw [List.length_dropLast];omega,by rw [eA (by omega)];exact e⟩
theorem HeapP.dropLast{K l:List Int}{m:Nat}(h:HeapP K l m)(hm:m=l.length-1):HeapP K l.dropLast l.dropLast.length:=by
 intro k k0 k1
 rw [List.length_dropLast] at k1
 unfold gg;rw [eA (by omega),eA (by omega)]
 exact h k k0 (by omega)
theorem HeapP.less{K l:List Int}{m m':Nat}(h:HeapP K l m)(hm:m'≤m):HeapP K l m':=fun k k0 k1=>h k k0 (by omega)
theorem HpOk.minNone{n:Nat}{l K:List Int}{ks:Ks}(h:HpOk n l K ks)(h0:l.length=0):jR ks 0=none:=by
 cases hm:jR ks 0 with
 |none=>rfl
 |some x=>
  obtain ⟨i,k⟩:=x
  obtain ⟨_,h2,_⟩:=kE hm
  rw [Nat.sub_zero] at h2
  have hi:i<n:=by
   by_cases hi:i<n
   ·exact hi
   ·rw [←h.ln] at hi;simp [List.getD,show ks.length≤i by omega] at h2
  rw [h.says i hi,if_neg (by rw [List.eq_nil_of_length_eq_zero h0];simp)] at h2;cases h2
theorem HpOk.fst{n:Nat}{l K:List Int}{ks:Ks}(h:HpOk n l K ks)(h0:0<l.length):jI ks=l.getD 0 0∧jd ks=K.getD (l.getD 0 0).toNat 0∧gT ks=true∧jt ks=ks.set (l.getD 0 0).toNat none:=by
 have hm:=h.min h0
 have hb:=h.hi.bd 0 h0
 unfold jI jd gT jt
 rw [hm]
 exact ⟨by dsimp only;omega,rfl,rfl,rfl⟩
theorem HpOk.fstNone{n:Nat}{l K:List Int}{ks:Ks}(h:HpOk n l K ks)(h0:l.length=0):jI ks=0∧jd ks=0∧gT ks=false∧jt ks=ks:=by
 have hm:=h.minNone h0
 unfold jI jd gT jt
 rw [hm];exact ⟨rfl,rfl,rfl,rfl⟩
theorem HeapP.kset{n:Nat}{K l:List Int}(h:HeapP K l l.length)(q:HI n l)(hl:K.length=n){x k:Int}(hx:0≤x∧x<n)(hn:x ∉ l):HeapP (K.set x.toNat k) l l.length:=by
 intro j j0 j1
 have g:∀i,i<l.length→(K.set x.toNat k).getD (l.getD i 0).toNat 0=K.getD (l.getD i 0).toNat 0:=fun i hi=>by
  have:=q.bd i hi
  rw [eM (by omega),if_neg]
  intro e;exact hn (mem_iff_at.2 ⟨i,hi,by omega⟩)
 have:=h j j0 j1
 unfold gg LtK at this⊢;rw [g j j1,g _ (by omega)];exact this
def b8(n:Int):Nat:=(min (max n 0) 65536).toNat
theorem pI(n:Int):b8 n≤65536:=by unfold b8;omega
def jU(N i:Nat):List Int:=List.replicate i (-1)++List.replicate (N-i) 0
theorem u6{N i:Nat}(h:i≤N):(jU N i).length=N:=by unfold jU;simp;omega
theorem sS{N i:Nat}(h:i<N):(jU N i).set i (-1)=jU N (i+1):=by
 unfold jU
 rw [List.set_append,if_neg (by simp),List.length_replicate,Nat.sub_self,show N-i=(N- (i+1))+1 by omega,List.replicate_succ,List.set_cons_zero,List.replicate_succ']
 simp
theorem rN(N:Nat):List.replicate N (0:Int)=jU N 0:=by unfold jU;simp
theorem wN(N:Nat):jU N N=List.replicate N (-1):=by unfold jU;simp
theorem yB{α:Type}{n i:Nat}{x d:α}(h:i<n):(List.replicate n x).getD i d=x:=by simp [List.getD,h]
theorem vZ{n:Nat}(hn:n≤65536){ba bk:Option Addr}(oka:bB ba n)(okk:bB bk n):RFacts n [] (List.replicate n (-1)) (List.replicate n 0) none 0 ba bk:=
 ⟨⟨fun i hi=>by simp at hi,fun i j hi=>by simp at hi⟩,⟨List.length_replicate,fun i hi=>by simp at hi,fun x hx _=>yB hx⟩,List.length_replicate,hn,cn,Nat.le_refl _,oka,okk⟩
theorem new_ok(n:Nat):HpOk n [] (List.replicate n 0) (List.replicate n none):=
 ⟨⟨fun i hi=>by simp at hi,fun i j hi=>by simp at hi⟩,fun k _ h=>by simp at h,List.length_replicate,List.length_replicate,fun x hx=>by rw [yB hx];simp⟩
theorem vj{ks:Ks}{x:Int}(h:mJ ks x=0):gZ ks.length x=true∧kg ks x=true:=by
 unfold mJ at h
 cases h1:gZ ks.length x <;>cases h2:kg ks x <;>rw [h1,h2] at h <;>first|exact ⟨rfl,rfl⟩| (simp at h;done)
theorem Au{n:Nat}{ks:Ks}{x:Int}(hl:ks.length=n)(h:¬mJ ks x=0):w7 ks x=0∧jq ks x=ks:=by
 have h2:kg ks x=false:=by
  cases h2:kg ks x with
  |false=>rfl
  |true=>
   exfalso;apply h
   unfold mJ
   have:gZ ks.length x=true:=by
    refine known_iff.2 (Classical.byContradiction fun hn=>?_)
    rw [ua rfl hn] at h2;cases h2
   rw [this,h2];rfl
 unfold w7 jq;rw [h2];exact ⟨rfl,rfl⟩
def p8(p n:Nat)(l Kk at_:List Int)(bl:Option Addr)(cl:Nat)(ba:Option Addr)(ca:Nat)(bk:Option Addr)(ck:Nat):HP:=fun f=>RFacts n l at_ Kk bl cl ba bk∧Parts (lM p n l at_ Kk bl cl ba ca bk ck) f
section
variable{E:List (Nat×Value)}{L:List HP}{K:Act→World→Prop}{W:World}{N:Nat}{p n cl ca ck:Nat}{l Kk at_:List Int}{bl ba bk:Option Addr}
theorem BS{w:World}(h:Sat (p8 p n l Kk at_ bl cl ba ca bk ck::L) w):Sat (eK p n l Kk::L) w:=h.imp fun f hf=>⟨at_,bl,cl,ba,ca,bk,ck,hf⟩
theorem xj{w:World}(h:Sat (p8 p n l Kk at_ bl cl ba ca bk ck::L) w):Sat (lM p n l at_ Kk bl cl ba ca bk ck++L) w:=by
 obtain ⟨_,⟨f1,f2,rfl,⟨_,h2⟩,hl⟩,hh⟩:=h
 exact ⟨_,Parts.append h2 hl,hh⟩
theorem Az(k:∀at_ bl cl ba ca bk ck,RFacts n l at_ Kk bl cl ba bk→cd K W N E (p8 p n l Kk at_ bl cl ba ca bk ck::L)):cd K W N E (eK p n l Kk::L):=fun a w s=>by
 obtain ⟨_,⟨f1,f2,rfl,⟨at_,bl,cl,ba,ca,bk,ck,h1,h2⟩,hl⟩,hh⟩:=s.sat
 exact k at_ bl cl ba ca bk ck h1 a w ⟨s.size,s.defers,s.env,⟨_,⟨f1,f2,rfl,⟨h1,h2⟩,hl⟩,hh⟩,s.ext⟩
theorem m4{A:HP}{M:List HP}(hm:A∈L)(hA:∀w L',Sat (A::L') w→Sat (M++L') w){a:Addr}{v:Value}(h:∀L',Gives (M++L') a v):Gives L a v:=by
 obtain ⟨L1,L2,rfl⟩:=List.append_of_mem hm
 exact fun w hs=>h _ w (hA w _ (hs.perm List.perm_middle))
theorem y4{k:Nat}{v:Value}(hm:p8 p n l Kk at_ bl cl ba ca bk ck∈L)(hv:([.slice bl l.length cl,.slice ba n ca,.slice bk n ck]:List Value)[k]?=some v):Gives L ⟨p,k,none⟩ v:=
 m4 (M:=lM p n l at_ Kk bl cl ba ca bk ck) hm (fun _ _ h=>xj h) (fun _=>aa (List.mem_cons_self ..) hv)
theorem xV{k:Nat}{v:Value}(hm:p8 p n l Kk at_ bl cl ba ca bk ck∈L)(hv:(aF .i64 at_)[k]?=some v):Gives L (ad ba k) v:=
 m4 (M:=lM p n l at_ Kk bl cl ba ca bk ck) hm (fun _ _ h=>xj h) (fun _=>aw (by exact .tail _ (.tail _ (.head _))) hv)
end
end Go.Proofs.YtanfdikglplkaaaGreatDoor.Sp
namespace Go.Proofs.YtanfdikglplkaaaGreatDoor.Sp
open Go
structure Cfg where
 bud:Int
 slots:Int
 act:Int
 que:Int
 tries:Int
 pre:Int
 tmo:Int
 bak:Int
 most:Int
 qu:Int
def Be(c:Cfg):List Value:=[.int .i64 c.bud,.int .i64 c.slots,.int .i64 c.act,.int .i64 c.que,.int .i64 c.tries,.int .i64 c.pre,.int .i64 c.tmo,.int .i64 c.bak,.int .i64 c.most,.int .i64 c.qu]
structure CfgOk(c:Cfg):Prop where
 bud:1≤c.bud∧c.bud≤1048576
 act:1≤c.act∧c.act≤1048576
 tries:1≤c.tries∧c.tries≤1048576
 tmo:1≤c.tmo∧c.tmo≤1048576
 bak:1≤c.bak∧c.bak≤1048576
 most:1≤c.most∧c.most≤1048576
 qu:1≤c.qu∧c.qu≤1048576
 que:0≤c.que∧c.que≤1048576
 pre:0≤c.pre∧c.pre≤1048576
 slots:1≤c.slots∧c.slots≤16
structure Tk where
 mem:Int
 cost:Int
 wt:Int
 sn:Int
 cv:Value
abbrev Tk.z:Tk:=⟨0,0,0,0,.slice none 0 0⟩
structure Rq where
 root:Int
 wt:Int
 pr:Int
 st:Int
abbrev Rq.z:Rq:=⟨0,0,0,0⟩
structure Ev where
 k:Int
 t:Int
 s:Int
 e:Int
 i:Int
abbrev Ev.z:Ev:=⟨0,0,0,0,0⟩
def gH(x:Ev):List Value:=[.int .i64 x.k,.int .i64 x.t,.int .i64 x.s,.int .i64 x.e,.int .i64 x.i]
theorem bA(x:Ev):(gH x).length=5:=rfl
theorem uU(x:Ev):∀u∈gH x,u.oneCell'=true:=by intro u hu;simp [gH] at hu;rcases hu with h|h|h|h|h <;>subst h <;>rfl
def rv(x:Rq):List Value:=[.int .i64 x.root,.int .i64 x.wt,.int .i64 x.pr,.int .i64 x.st]
def pd(k:Nat×Nat)(x:Tk):List Value:=[.int .i64 x.mem,.int .i64 x.cost,.pointer (some ⟨k.2,0,none⟩),.int .i64 x.wt,.int .i64 x.sn,x.cv]
end Go.Proofs.YtanfdikglplkaaaGreatDoor.Sp
