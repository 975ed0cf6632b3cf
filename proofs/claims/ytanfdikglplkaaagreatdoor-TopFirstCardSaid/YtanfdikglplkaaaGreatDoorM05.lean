/- Parts Opm2, Val2, Lif, Pln: own lemmas and contracts of the code that the claim reaches. -/
import Derived.Test.YtanfdikglplkaaaGreatDoorM04
import Derived.Test.YtanfdikglplkaaaGreatDoorM02
set_option linter.unusedSimpArgs false
set_option linter.unusedVariables false
namespace Go.Proofs.YtanfdikglplkaaaGreatDoor.Sp
open Go
section
variable{P:Program}{E:List (Nat×Value)}{L:List HP}{ty:TypeId}
def eu(bs:Option Addr)(l m sz:Nat):Option Addr:=bif Nat.beq m l then bs else bs.map (·.add (l*sz))
def evo(E:List (Nat×Value)):Option Operand→Option (Option Value)
 |none=>some none
 |some x=>(ev E x).map some
theorem Agr.evo{ρ:Operand→Value}(h:Agr E ρ){o:Option Operand}{v:Option Value}(e:Sp.evo E o=some v):o.map ρ=v:=by
 cases o with
 |none=>simp [Sp.evo] at e;simp [←e]
 |some x=>
  simp only [Sp.evo,Option.map_eq_some_iff] at e
  obtain ⟨u,hu,rfl⟩:=e
  simp [h x u hu]
def CB(v:Option Value)(y d:Nat)(r:Nat):Prop:=(∃k i,v=some (.int k i)∧0≤i∧i≤(y:Int)∧i.toNat=r)∨(v=none∧d=r)
theorem ed{t e:TypeId}{x:Operand}{lo hi mx:Option Operand}{lov hiv mxv:Option Value}{bs:Option Addr}{n cp l h m sz:Nat}{v:Value}(hu:P.underlying t=some (.slice e))(hsz:∀w,(sizeOf e).run P w=.ok sz w)
 (hx:ev E x=some (.slice bs n cp)) (hlo:evo E lo=some lov) (hhi:evo E hi=some hiv) (hmx:evo E mx=some mxv) (hm:CB mxv cp cp m) (hh:CB hiv m n h) (hl:CB lov h 0 l)
 (hn:(mxv.isSome=true→hiv.isSome=true)) (hv: .slice (eu bs l m sz) (h-l) (m-l)=v):LV P E L (.slice t x lo hi mx) ty v:=by
 intro ρ hρ w _ d pos af g
 subst hv
 have e1:=hρ.evo hlo
 have e2:=hρ.evo hhi
 have e3:=hρ.evo hmx
 simp only [execOp,hρ x _ hx,e1,e2,e3]
 have hb:∀(y r:Nat) (k:IntKind) (i:Int) (c:BoundsCode),0≤i∧i≤y∧i.toNat=r→(Instr.sliceBound (.int k i) y c).run P w=.ok r w:=by
  intro y r k i c ⟨h0,h1,h2⟩
  simp [Instr.sliceBound,asIntOf,h0,h1,h2]
 have hsb:(Instr.sliceBounds true n cp lov hiv mxv).run P w=.ok (l,h,m) w:=by
  clear e1 e2 e3 hlo hhi hmx
  rcases hm with ⟨k,i,rfl,hm⟩| ⟨rfl,rfl⟩ <;>rcases hh with ⟨k',i',rfl,hh⟩| ⟨rfl,rfl⟩ <;>rcases hl with ⟨k'',i'',rfl,hl⟩| ⟨rfl,rfl⟩
  ·simp [Instr.sliceBounds,hb _ _ _ _ _ hm,hb _ _ _ _ _ hh,hb _ _ _ _ _ hl]
  ·simp [Instr.sliceBounds,hb _ _ _ _ _ hm,hb _ _ _ _ _ hh]
  ·exact absurd (hn rfl) (by simp)
  ·exact absurd (hn rfl) (by simp)
  ·simp [Instr.sliceBounds,hb _ _ _ _ _ hh,hb _ _ _ _ _ hl]
  ·simp [Instr.sliceBounds,hb _ _ _ _ _ hh]
  ·simp [Instr.sliceBounds,hb _ _ _ _ _ hl]
  ·simp [Instr.sliceBounds]
 have hif:(if m=l then bs else bs.map (·.add (l*sz)))=eu bs l m sz:=by
  unfold eu
  by_cases e:m=l
  ·subst e;simp
  ·rw [if_neg e]
   have:Nat.beq m l=false:=by cases hbq:Nat.beq m l with|false=>rfl|true=>exact absurd (Nat.eq_of_beq_eq_true hbq) e
   rw [this,cond_false]
 simp [Instr.sliceAt,Instr.slice,run_underlying hu,hsb,hsz,hif]
theorem fI{bs:Option Addr}{m sz:Nat}:eu bs 0 m sz=bs:=by
 unfold eu
 cases Nat.beq m 0 with
 |true=>rfl
 |false=>cases bs <;>simp [Addr.add]
theorem nS{bs:Option Addr}{n l m sz k:Nat}(h:bB bs n)(hn:0<n):bB (eu bs l m sz) k:=by
 obtain ⟨b,o,rfl⟩:=h hn
 intro _
 unfold eu
 cases Nat.beq m l with
 |true=>exact ⟨b,o,rfl⟩
 |false=>exact ⟨b,o+l*sz,by rw [cond_false];simp [du]⟩
theorem xM{bs:Option Addr}{n l m sz:Nat}(h:bB bs n)(hn:0<n)(hlm:l<m)(k:Nat):ad (eu bs l m sz) k=ad bs (l*sz+k):=by
 obtain ⟨b,o,rfl⟩:=h hn
 have:Nat.beq m l=false:=by cases hbq:Nat.beq m l with|false=>rfl|true=>exact absurd (Nat.eq_of_beq_eq_true hbq) (by omega)
 unfold eu;rw [this,cond_false]
 simp [du,ad,Nat.add_assoc]
theorem rK{bs:Option Addr}{n l m sz:Nat}{cs:List Value}(hrd:Rd L bs cs)(h:bB bs n)(hl:cs.length=n*sz)(hnm:n≤m):Rd L (eu bs l m sz) (cs.drop (l*sz)):=by
 intro w hs j u hu
 rw [List.getElem?_drop] at hu
 have hj:=(List.getElem?_eq_some_iff.1 hu).1
 have hn:0<n:=by
  rcases Nat.eq_zero_or_pos n with h0|h0
  ·subst h0;rw [Nat.zero_mul] at hl;omega
  ·exact h0
 have hlm:l<m:=by
  rcases Nat.lt_or_ge l m with h0|h0
  ·exact h0
  ·have:n*sz≤l*sz:=Nat.mul_le_mul_right _ (by omega)
   omega
 rw [xM h hn hlm]
 exact hrd w hs _ _ hu
theorem z5{bs:Option Addr}{cs:List Value}(hrd:Rd L bs cs)(k:Nat):Rd L bs (cs.take k):=by
 intro w hs j u hu
 rw [List.getElem?_take] at hu
 split at hu
 ·exact hrd w hs j u hu
 ·cases hu
theorem mM{T sz n k cp:Nat}{bs:Option Addr}{cs:List Value}{w:World}(hk:k≤n)(h0:0<n)(h:Sat (SlV T sz (.slice bs n cp) n cs::L) w):Sat (SlV T sz (.slice bs k cp) k (cs.take (k*sz))::L) w:=by
 refine h.imp fun f hf=>?_
 obtain ⟨hl,hf⟩:=hf
 have hks:k*sz≤n*sz:=Nat.mul_le_mul_right _ hk
 refine ⟨by rw [List.length_take];omega,?_⟩
 rcases hf with ⟨_,hn,_⟩| ⟨g,cap,cur,hv,rfl,h1,h2,h3,h4⟩
 ·omega
 ·simp only [Value.slice.injEq,true_and] at hv
  obtain ⟨rfl,rfl⟩:=hv
  exact .inr ⟨g,cp,cur,rfl,rfl,by omega,h2,h3,by rw [←h4,List.take_take,Nat.min_eq_left hks]⟩
theorem fY{T sz n cp:Nat}{bs:Option Addr}{cs:List Value}{w:World}(h:Sat (SlV T sz (.slice bs n cp) n cs::L) w):bB bs n∧n≤cp∧cp≤maxLen:=by
 obtain ⟨fall,⟨f1,f2,rfl,⟨hcl,hf⟩,hp⟩,hh⟩:=h
 rcases hf with ⟨hv,hn,_⟩| ⟨gb,cap,cur,hv,rfl,h2,h3,h4,h5⟩
 ·simp only [Value.slice.injEq] at hv
  obtain ⟨rfl,rfl,rfl⟩:=hv
  exact ⟨fun h=>absurd h (by omega),Nat.le_refl _,Nat.zero_le _⟩
 ·simp only [Value.slice.injEq,true_and] at hv
  obtain ⟨rfl,rfl⟩:=hv
  exact ⟨fX _ _,h2,h3⟩
theorem l5{t e:TypeId}{i:TypeInfo}{sz:Nat}{s x:Operand}{bs bx:Option Addr}{n cp k m c:Nat}{cs cs' news:List Value}(hu:P.underlying t=some (.slice e))(hi:P.info? e=some i)
 (hsz:i.size=sz) (hs':ev E s=some (.slice bs k cp)) (hx:ev E x=some (.slice bx m c)) (hok:bB bx 1) (h0:0<n) (hl:news.length=m*sz) (hrd:Rd (SlV e sz (.slice bs n cp) n cs::L) bx news)
 (h1:∀u∈news,u.oneCell'=true) (hkm:k+m≤n) (hc:cs.take (k*sz)++news++cs.drop ((k+m)*sz)=cs'):
 MV P E (SlV e sz (.slice bs n cp) n cs::L) (.call {callee:=.builtin .append,args:=#[s,x],argTypes:=#[t,t]}) ty (fun v M=>v=.slice bs (k+m) cp∧M=SlV e sz (.slice bs n cp) n cs'::L):=by
 intro ρ h w hs d pos af g
 subst hsz;subst hc
 obtain ⟨ab,ao,rfl⟩:=hok (by omega)
 obtain ⟨fall,⟨f1,f2,rfl,⟨hcl,hf⟩,hp⟩,hh⟩:=id hs
 rcases hf with ⟨_,hn,_⟩| ⟨gb,cap,cur,hv,rfl,h2,h3,h4,h5⟩
 ·omega
 simp only [Value.slice.injEq,true_and] at hv
 obtain ⟨rfl,rfl⟩:=hv
 have hb:=hh.2 (gb,.cells cur e (0,0)) (by simp)
 have hnews':∀j u,news[j]?=some u→w.cell? ((⟨ab,ao,none⟩:Addr).add j)=some u:=by
  intro j u hu'
  have:=hrd w hs j u hu'
  rwa [du]
 have hkn:(k+m)*i.size≤n*i.size:=Nat.mul_le_mul_right _ hkm
 have hnc:n*i.size≤cp*i.size:=Nat.mul_le_mul_right _ h2
 have hkm':(k+m)*i.size=k*i.size+news.length:=by rw [hl,Nat.add_mul]
 have hr:=run_append_room (P:=P) w t ty e i hu hi gb k cp cur hb ⟨ab,ao,none⟩ m c news hl hnews' h1 (by omega) (by omega)
 have u:=gu hb (cur.toList.take (k*i.size)++news++cur.toList.drop (k*i.size+news.length)).toArray
 have hs2:Sat (one gb (.cells cur e (0,0))::L) w:=⟨_,⟨_,f2,rfl,rfl,hp⟩,hh⟩
 have hcl':cur.toList.length=cur.size:=Array.length_toList
 refine ⟨_,_,_,?_,⟨rfl,rfl⟩,(hs2.upd u).imp fun f hf=>⟨?_,.inr ⟨gb,cp,_,rfl,hf,h2,h3,?_,?_⟩⟩,u.ext (.inr ⟨_,_,hb⟩)⟩
 ·simp [execOp,resolve,h s _ hs',h x _ hx,invoke,builtin,hr]
 ·simp;omega
 ·simp;omega
 ·have:=jh cur.toList news (k*i.size) (n*i.size) (by omega) (by omega)
  rw [h5] at this
  simpa [hkm'] using this
theorem mi{t e:TypeId}{z:Value}{sz:Nat}{x:Operand}{bs:Option Addr}{n cp l m c:Nat}{cs:List Value}(hu:P.underlying t=some (.slice e))(hz:∀w,(zeroValue e).run P w=.ok z w)
 (hzs:z.cells.size=sz) (hz1:(z.cells.toList.all fun u=>u.oneCell')=true) (hpos:0<sz) (hx:ev E x=some (.slice (eu bs l c sz) m (c-l))) (hok:bB bs n) (hm:0<m) (hlc:l<c) (hlm:l+m≤n):
 MV P E (SlV e sz (.slice bs n cp) n cs::L) (.call {callee:=.builtin .clear,args:=#[x],argTypes:=#[t]}) ty (fun _ M=> ∃zs:List Value,M=SlV e sz (.slice bs n cp) n (cs.take (l*sz)++zs++cs.drop ((l+m)*sz))::L):=by
 intro ρ h w hs d pos af g
 obtain ⟨fall,⟨f1,f2,rfl,⟨hcl,hf⟩,hp⟩,hh⟩:=id hs
 rcases hf with ⟨_,hn,_⟩| ⟨gb,cap,cur,hv,rfl,h2,h3,h4,h5⟩
 ·omega
 simp only [Value.slice.injEq,true_and] at hv
 obtain ⟨rfl,rfl⟩:=hv
 have hb:=hh.2 (gb,.cells cur e (0,0)) (by simp)
 have hsb:eu (some ⟨gb,0,none⟩) l c sz=some ⟨gb,l*sz,none⟩:=by
  have:Nat.beq c l=false:=by cases hbq:Nat.beq c l with|false=>rfl|true=>exact absurd (Nat.eq_of_beq_eq_true hbq) (by omega)
  unfold eu;rw [this,cond_false];simp [du]
 rw [hsb] at hx
 obtain ⟨zs,hzs'⟩:∃zs,(Builtin.zeroCells z.cells m).toList=zs:=⟨_,rfl⟩
 have hzl:zs.length=m*sz:=by rw [←hzs',Array.length_toList,size_zeroCells,hzs]
 have h1:∀u∈zs,u.oneCell'=true:=by
  intro u hu'
  rw [←hzs'] at hu'
  simp only [Builtin.zeroCells,Array.toList_map,List.mem_map] at hu'
  obtain ⟨j,_,rfl⟩:=hu'
  have hlt:j%z.cells.size<z.cells.size:=Nat.mod_lt _ (by omega)
  rw [getElem!_pos z.cells _ hlt]
  exact List.all_eq_true.1 hz1 _ (by rw [Array.mem_toList_iff];exact Array.getElem_mem hlt)
 have hkn:(l+m)*sz≤n*sz:=Nat.mul_le_mul_right _ hlm
 have hnc:n*sz≤cp*sz:=Nat.mul_le_mul_right _ h2
 have hkm':(l+m)*sz=l*sz+zs.length:=by rw [hzl,Nat.add_mul]
 have hr:=run_storeCells_at P gb (l*sz) e zs 0 cur w hb (by omega) h1
 simp only [Nat.add_zero] at hr
 have u:=gu hb (cur.toList.take (l*sz)++zs++cur.toList.drop (l*sz+zs.length)).toArray
 have hs2:Sat (one gb (.cells cur e (0,0))::L) w:=⟨_,⟨_,f2,rfl,rfl,hp⟩,hh⟩
 have hcl':cur.toList.length=cur.size:=Array.length_toList
 refine ⟨.tuple #[],_,_,?_,⟨zs,rfl⟩,(hs2.upd u).imp fun f hf=>⟨?_,.inr ⟨gb,cp,_,rfl,hf,h2,h3,?_,?_⟩⟩,u.ext (.inr ⟨_,_,hb⟩)⟩
 ·obtain ⟨m',rfl⟩:∃m',m=m'+1:=⟨m-1,by omega⟩
  simp [execOp,resolve,h x _ hx,invoke,builtin,Builtin.clear_,run_underlying hu,hz,hzs',hr]
 ·simp;omega
 ·simp;omega
 ·have:=jh cur.toList zs (l*sz) (n*sz) (by omega) (by omega)
  rw [h5] at this
  simpa [hkm'] using this
end
end Go.Proofs.YtanfdikglplkaaaGreatDoor.Sp
namespace Go.Proofs.YtanfdikglplkaaaGreatDoor.Sp
open Go
variable{L:List HP}
theorem kL(k:IntKind)(xs:List Int)(n:Nat):(aF k xs).take n=aF k (xs.take n):=by unfold aF;rw [List.map_take]
theorem kV(k:IntKind)(xs:List Int)(n:Nat):(aF k xs).drop n=aF k (xs.drop n):=by unfold aF;rw [List.map_drop]
theorem tu{k:IntKind}{bs:Option Addr}{n l m:Nat}{xs:List Int}(hrd:Rd L bs (aF k xs))(h:bB bs n)(hl:xs.length=n)(hnm:n≤m):Rd L (eu bs l m 1) (aF k (xs.drop l)):=by
 have:=rK (sz:=1) (l:=l) (m:=m) hrd h (by rw [ints_length];omega) hnm
 rwa [Nat.mul_one,kV] at this
theorem oJ{k:IntKind}{bs:Option Addr}{xs:List Int}(n:Nat)(hrd:Rd L bs (aF k xs)):Rd L bs (aF k (xs.take n)):=by
 have:=z5 hrd n;rwa [kL] at this
theorem ints_splice{k:IntKind}{xs ys:List Int}{a b:Nat}:(aF k xs).take (a*1)++aF k ys++(aF k xs).drop (b*1)=aF k (xs.take a++ys++xs.drop b):=by
 rw [Nat.mul_one,Nat.mul_one,kL,kV];unfold aF;simp
theorem mh{T cp n a b:Nat}{bs:Option Addr}{xs:List Int}{zs:List Value}{w:World}(h0:0<n)(ha:a≤n)(hx:xs.length=n)(h:Sat (SlV T 1 (.slice bs n cp) n ((aF .i64 xs).take (a*1)++zs++(aF .i64 xs).drop (b*1))::L) w):
 Sat (SlV T 1 (.slice bs a cp) a (aF .i64 (xs.take a))::L) w:=by
 have:=mM ha h0 h
 have e:((aF .i64 xs).take (a*1)++zs++(aF .i64 xs).drop (b*1)).take (a*1)=aF .i64 (xs.take a):=by
  have hl:((aF .i64 xs).take (a*1)).length=a*1:=by rw [List.length_take,ints_length];omega
  rw [List.append_assoc,List.take_append_of_le_length (by omega),List.take_take,Nat.min_self,Nat.mul_one,kL]
 rw [e] at this;exact this
end Go.Proofs.YtanfdikglplkaaaGreatDoor.Sp
namespace Go.Proofs.YtanfdikglplkaaaGreatDoor.Sp
open Go
structure Lf where
 st:Int
 ep:Int
 ms:Int
 sp:Int
 tr:Int
 pr:Int
abbrev Lf.z:Lf:=⟨0,0,0,0,1,0⟩
def fD(x:Lf):List Value:=[.int .i64 x.st,.int .i64 x.ep,.int .i64 x.ms,.int .i64 x.sp,.int .i64 x.tr,.int .i64 x.pr]
structure LfOk(x:Lf):Prop where
 s0:0≤x.st
 s7:x.st≤7
 e0:0≤x.ep
 m0:0≤x.ms
 m1:x.ms≤x.tr
 m2:x.st≠6→x.ms<x.tr
 p0:0≤x.sp
 p1:x.sp≤x.pr
 t1:1≤x.tr
 t2:x.tr≤1048576
 r1:x.pr≤1048576
theorem iZ{st:Int}(h0:0≤st)(h7:st≤7):st=0∨st=1∨st=2∨st=3∨st=4∨st=5∨st=6∨st=7:=by omega
def q7(l:List Int):Int:=l.foldl (fun s x=>AO .u8 s (pt .u8 1 x)) 0
theorem yL(l:List Int)(x:Int):q7 (l++[x])=AO .u8 (q7 l) (pt .u8 1 x):=by unfold q7;rw [List.foldl_append];rfl
def ry(m st:Int):Int:=if j2 .u8 (mY .u8 m st) 1=0 then 8 else 0
section
variable{st:Int}(h0:0≤st)(h7:st≤7)
include h0 h7
theorem Cj:ry 1 st=if st=0 then 0 else 8:=by rcases iZ h0 h7 with h|h|h|h|h|h|h|h <;>subst h <;>decide
theorem BZ:ry 2 st=if st=1 then 0 else 8:=by rcases iZ h0 h7 with h|h|h|h|h|h|h|h <;>subst h <;>decide
theorem sA:ry 4 st=if st=2 then 0 else 8:=by rcases iZ h0 h7 with h|h|h|h|h|h|h|h <;>subst h <;>decide
theorem Ci:ry 8 st=if st=3 then 0 else 8:=by rcases iZ h0 h7 with h|h|h|h|h|h|h|h <;>subst h <;>decide
theorem BD:ry 16 st=if st=4 then 0 else 8:=by rcases iZ h0 h7 with h|h|h|h|h|h|h|h <;>subst h <;>decide
theorem B2:ry 9 st=if st=3∨st=0 then 0 else 8:=by rcases iZ h0 h7 with h|h|h|h|h|h|h|h <;>subst h <;>decide
theorem BK:ry 31 st=if st≤4 then 0 else 8:=by rcases iZ h0 h7 with h|h|h|h|h|h|h|h <;>subst h <;>decide
end
def o9(a b:Int)(x:Lf):Lf:=if x.st=a then {x with st:=b} else x
def mj:Lf→Lf:=o9 0 1
def lV:Lf→Lf:=o9 3 1
def pN:Lf→Lf:=o9 4 1
def lK:Lf→Lf:=o9 2 1
def eN:Lf→Lf:=o9 2 3
def pj:Lf→Lf:=o9 2 5
def fP(x:Lf):Lf:=if x.st=1 then {x with st:=2,ep:=x.ep+1} else x
def gO(x:Lf):Lf:=if x.st=2∧x.sp<x.pr then {x with st:=1,sp:=x.sp+1} else x
def ff(x:Lf):Lf:=if x.st=2 then {x with st:=if x.ms+1≥x.tr then 6 else 4,ms:=x.ms+1} else x
def gz(x:Lf):Lf:=if x.st=3∨x.st=0 then {x with st:=6} else x
def gA(x:Lf):Lf:=if x.st≤4 then {x with st:=7} else x
def jP(x:Lf)(e:Int):Int:=if x.st=2∧e=x.ep then 0 else 7
theorem LfOk.go{x:Lf}(h:LfOk x){a b:Int}(ha:a≠6)(h0:0≤b)(h7:b≤7):LfOk (o9 a b x):=by
 have:=h.m2;unfold o9
 by_cases e:x.st=a
 ·rw [if_pos e];exact ⟨h0,h7,h.e0,h.m0,h.m1,fun _=>this (by rw [e];exact ha),h.p0,h.p1,h.t1,h.t2,h.r1⟩
 ·rw [if_neg e];exact h
theorem LfOk.want{x:Lf}(h:LfOk x):LfOk (mj x):=h.go (by decide) (by decide) (by decide)
theorem LfOk.wake{x:Lf}(h:LfOk x):LfOk (lV x):=h.go (by decide) (by decide) (by decide)
theorem LfOk.rest{x:Lf}(h:LfOk x):LfOk (pN x):=h.go (by decide) (by decide) (by decide)
theorem LfOk.again{x:Lf}(h:LfOk x):LfOk (lK x):=h.go (by decide) (by decide) (by decide)
theorem LfOk.wait{x:Lf}(h:LfOk x):LfOk (eN x):=h.go (by decide) (by decide) (by decide)
theorem LfOk.end_{x:Lf}(h:LfOk x):LfOk (pj x):=h.go (by decide) (by decide) (by decide)
theorem LfOk.start{x:Lf}(h:LfOk x):LfOk (fP x):=by
 have h1:=h.e0;have h2:=h.m2;unfold fP
 by_cases e:x.st=1
 ·rw [if_pos e];exact ⟨by dsimp only;decide,by dsimp only;decide,by show 0≤x.ep+1;omega,h.m0,h.m1,fun _=>h2 (by omega),h.p0,h.p1,h.t1,h.t2,h.r1⟩
 ·rw [if_neg e];exact h
theorem LfOk.stop{x:Lf}(h:LfOk x):LfOk (gO x):=by
 have h1:=h.p0;have h2:=h.m2;unfold gO
 by_cases e:x.st=2∧x.sp<x.pr
 ·rw [if_pos e];exact ⟨by dsimp only;decide,by dsimp only;decide,h.e0,h.m0,h.m1,fun _=>h2 (by omega),by show 0≤x.sp+1;omega,by show x.sp+1≤x.pr;omega,h.t1,h.t2,h.r1⟩
 ·rw [if_neg e];exact h
theorem LfOk.miss{x:Lf}(h:LfOk x):LfOk (ff x):=by
 have h1:=h.m0;have h2:=h.m2;unfold ff
 by_cases e:x.st=2
 ·rw [if_pos e];have:=h2 (by omega)
  refine ⟨?_,?_,h.e0,by show 0≤x.ms+1;omega,by show x.ms+1≤x.tr;omega,?_,h.p0,h.p1,h.t1,h.t2,h.r1⟩
  ·show 0≤(if x.ms+1≥x.tr then (6:Int) else 4);split <;>decide
  ·show (if x.ms+1≥x.tr then (6:Int) else 4)≤7;split <;>decide
  ·show (if x.ms+1≥x.tr then (6:Int) else 4)≠6→x.ms+1<x.tr;split
   ·intro h;exact absurd rfl h
   ·intro _;omega
 ·rw [if_neg e];exact h
theorem LfOk.fall{x:Lf}(h:LfOk x):LfOk (gz x):=by
 unfold gz
 by_cases e:x.st=3∨x.st=0
 ·rw [if_pos e];exact ⟨by dsimp only;decide,by dsimp only;decide,h.e0,h.m0,h.m1,fun h=>absurd rfl h,h.p0,h.p1,h.t1,h.t2,h.r1⟩
 ·rw [if_neg e];exact h
theorem LfOk.turn{x:Lf}(h:LfOk x):LfOk (gA x):=by
 have h2:=h.m2;unfold gA
 by_cases e:x.st≤4
 ·rw [if_pos e];exact ⟨by dsimp only;decide,by dsimp only;decide,h.e0,h.m0,h.m1,fun _=>h2 (by omega),h.p0,h.p1,h.t1,h.t2,h.r1⟩
 ·rw [if_neg e];exact h
end Go.Proofs.YtanfdikglplkaaaGreatDoor.Sp
namespace Go.Proofs.YtanfdikglplkaaaGreatDoor.Sp
open Go
theorem di{α:Type}{l:List α}{k:Nat}(h:k<l.length)(d:α):l.take (k+1)=l.take k++[l.getD k d]:=by
 rw [List.take_succ_eq_append_getElem h];simp [List.getD,h]
theorem zk(k:Nat)(hk:k≤62)(n:Int):j2 .i64 n ((2^k-1:Nat):Int)=n% (2^k:Nat):=by
 unfold j2
 have hp:2^k≤2^62:=Nat.pow_le_pow_right (by omega) hk
 have h0:0<2^k:=Nat.two_pow_pos k
 have h2:(BitVec.ofInt 64 ((2^k-1:Nat):Int)).toNat=2^k-1:=eI _ (by omega)
 show IntKind.i64.wrap ((BitVec.ofInt 64 n &&& BitVec.ofInt 64 ((2^k-1:Nat):Int)).toNat:Int)=_
 rw [BitVec.toNat_and,h2,Nat.and_two_pow_sub_one_eq_mod,BitVec.toNat_ofInt]
 have e:(((n% (2^64:Nat)).toNat%2^k:Nat):Int)=n% (2^k:Nat):=by
  rw [Int.natCast_emod,Int.toNat_of_nonneg (Int.emod_nonneg _ (by decide))]
  refine Int.emod_emod_of_dvd n ?_
  exact_mod_cast Nat.pow_dvd_pow 2 (by omega:k≤64)
 rw [e]
 have h3:0≤n% (2^k:Nat):=Int.emod_nonneg _ (by omega)
 have h4:n% (2^k:Nat)< (2^k:Nat):=Int.emod_lt_of_pos _ (by omega)
 refine cA (by omega) (by omega)
end Go.Proofs.YtanfdikglplkaaaGreatDoor.Sp
