/- Parts Sep: own lemmas and contracts of the code that the claim reaches. -/
import Derived.Laws.AppendOwn
import Derived.Laws.MakeOwn
import Derived.Laws.CopyRow
import Derived.Orders
import Derived.RowKit3
import Derived.Tactics
import Derived.ScopeJumps
set_option linter.unusedSimpArgs false
set_option linter.unusedVariables false
namespace Go.Proofs.YtanfdikglplkaaaGreatDoor.Sp
open Go
abbrev lB:=List (Nat×Obj)
abbrev HP:=lB→Prop
def Has(w:World)(f:lB):Prop:=(f.map Prod.fst).Nodup∧∀x∈f,w.heap[x.1]?=some x.2
def Parts:List HP→lB→Prop
 | [],f=>f=[]
 |A::L,f=> ∃f1 f2,f=f1++f2∧A f1∧Parts L f2
def Sat(L:List HP)(w:World):Prop:=∃f,Parts L f∧Has w f
theorem Has.perm{w:World}{f g:lB}(h:Has w f)(p:f.Perm g):Has w g:=
 ⟨(p.map Prod.fst).nodup_iff.1 h.1,fun x hx=>h.2 x (p.mem_iff.2 hx)⟩
theorem Has.left{w:World}{f g:lB}(h:Has w (f++g)):Has w f:=
 ⟨by have:=h.1;rw [List.map_append] at this;exact (List.nodup_append.1 this).1,fun x hx=>h.2 x (List.mem_append_left _ hx)⟩
theorem Has.right{w:World}{f g:lB}(h:Has w (f++g)):Has w g:=
 ⟨by have:=h.1;rw [List.map_append] at this;exact (List.nodup_append.1 this).2.1,fun x hx=>h.2 x (List.mem_append_right _ hx)⟩
theorem Parts.append{L M:List HP}{f g:lB}(h:Parts L f)(k:Parts M g):Parts (L++M) (f++g):=by
 induction L generalizing f with
 |nil=>simp only [Parts] at h;subst h;simpa using k
 |cons A L ih=>
  obtain ⟨f1,f2,rfl,ha,hl⟩:=h
  exact ⟨f1,f2++g,by simp,ha,ih hl⟩
theorem Parts.split{L M:List HP}{f:lB}(h:Parts (L++M) f):∃f1 f2,f=f1++f2∧Parts L f1∧Parts M f2:=by
 induction L generalizing f with
 |nil=>exact ⟨[],f,rfl,rfl,h⟩
 |cons A L ih=>
  obtain ⟨f1,f2,rfl,ha,hl⟩:=h
  obtain ⟨g1,g2,rfl,h1,h2⟩:=ih hl
  exact ⟨f1++g1,g2,by simp,⟨f1,g1,rfl,ha,h1⟩,h2⟩
theorem Parts.perm{L M:List HP}(p:L.Perm M):∀{f:lB},Parts L f→∃g,f.Perm g∧Parts M g:=by
 induction p with
 |nil=>exact fun h=>⟨_,.refl _,h⟩
 |cons A _ ih=>
  rintro f ⟨f1,f2,rfl,ha,hl⟩
  obtain ⟨g,hg,hm⟩:=ih hl
  exact ⟨f1++g,.append_left _ hg,f1,g,rfl,ha,hm⟩
 |swap A B L=>
  rintro f ⟨f1,f2,rfl,ha,f3,f4,rfl,hb,hl⟩
  exact ⟨f3++(f1++f4),by rw [←List.append_assoc,←List.append_assoc];exact List.perm_append_comm.append_right _,f3,f1++f4,rfl,hb,f1,f4,rfl,ha,hl⟩
 |trans _ _ ih1 ih2=>
  intro f h
  obtain ⟨g,hg,hm⟩:=ih1 h
  obtain ⟨k,hk,hn⟩:=ih2 hm
  exact ⟨k,hg.trans hk,hn⟩
theorem Sat.perm{L M:List HP}{w:World}(p:L.Perm M)(h:Sat L w):Sat M w:=by
 obtain ⟨f,hp,hh⟩:=h
 obtain ⟨g,hg,hm⟩:=Parts.perm p hp
 exact ⟨g,hm,hh.perm hg⟩
theorem Sat.drop{A:HP}{L:List HP}{w:World}(h:Sat (A::L) w):Sat L w:=by
 obtain ⟨_,⟨f1,f2,rfl,_,hl⟩,hh⟩:=h
 exact ⟨f2,hl,hh.right⟩
theorem Sat.mem{A:HP}{L:List HP}{w:World}(hm:A∈L)(h:Sat L w):∃f,A f∧Has w f:=by
 induction L with
 |nil=>cases hm
 |cons B L ih=>
  cases List.mem_cons.1 hm with
  |inl e=>obtain ⟨_,⟨f1,f2,rfl,ha,_⟩,hh⟩:=h;exact ⟨f1,e▸ha,hh.left⟩
  |inr e=>exact ih e h.drop
theorem Sat.imp{A B:HP}{L:List HP}{w:World}(hi:∀f,A f→B f)(h:Sat (A::L) w):Sat (B::L) w:=by
 obtain ⟨_,⟨f1,f2,rfl,ha,hl⟩,hh⟩:=h
 exact ⟨_,⟨f1,f2,rfl,hi _ ha,hl⟩,hh⟩
def cI(M:List HP):HP:=Parts M
theorem Sat.join{M L:List HP}{w:World}:Sat (cI M::L) w↔Sat (M++L) w:=by
 constructor
 ·rintro ⟨_,⟨f1,f2,rfl,ha,hl⟩,hh⟩
  exact ⟨_,Parts.append ha hl,hh⟩
 ·rintro ⟨f,hp,hh⟩
  obtain ⟨f1,f2,rfl,h1,h2⟩:=Parts.split hp
  exact ⟨_,⟨f1,f2,rfl,h1,h2⟩,hh⟩
def Ex{α:Type}(A:α→HP):HP:=fun f=> ∃x,A x f
theorem Sat.ex{α:Type}{A:α→HP}{L:List HP}{w:World}:Sat (Ex A::L) w↔∃x,Sat (A x::L) w:=by
 constructor
 ·rintro ⟨_,⟨f1,f2,rfl,⟨x,ha⟩,hl⟩,hh⟩
  exact ⟨x,_,⟨f1,f2,rfl,ha,hl⟩,hh⟩
 ·rintro ⟨x,_,⟨f1,f2,rfl,ha,hl⟩,hh⟩
  exact ⟨_,⟨f1,f2,rfl,⟨x,ha⟩,hl⟩,hh⟩
def sj(p:Prop)(A:HP):HP:=fun f=>p∧A f
theorem Sat.fact{p:Prop}{A:HP}{L:List HP}{w:World}:Sat (sj p A::L) w↔p∧Sat (A::L) w:=by
 constructor
 ·rintro ⟨_,⟨f1,f2,rfl,⟨x,ha⟩,hl⟩,hh⟩
  exact ⟨x,_,⟨f1,f2,rfl,ha,hl⟩,hh⟩
 ·rintro ⟨x,_,⟨f1,f2,rfl,ha,hl⟩,hh⟩
  exact ⟨_,⟨f1,f2,rfl,⟨x,ha⟩,hl⟩,hh⟩
def one(b:Nat)(o:Obj):HP:=fun f=>f=[(b,o)]
def bI(b:Nat)(cs:List Value)(T:TypeId):HP:=one b (.cells cs.toArray T (0,0))
def SlV(T sz:Nat)(v:Value)(n:Nat)(cs:List Value):HP:=fun f=>cs.length=n*sz∧
 ((v=.slice none 0 0∧n=0∧f=[])∨
  ∃g cap cur,v=.slice (some ⟨g,0,none⟩) n cap∧f=[(g,.cells cur T (0,0))]∧n≤cap∧cap≤maxLen∧cur.size=cap*sz∧cur.toList.take (n*sz)=cs)
structure Ext(W w:World):Prop where
 os:w.os=W.os
 output:w.output=W.output
 size:W.heap.size≤w.heap.size
 frozen:∀a,w.frozen? a=W.frozen? a
theorem Ext.refl(w:World):Ext w w:=⟨rfl,rfl,Nat.le_refl _,fun _=>rfl⟩
theorem Ext.trans{a b c:World}(h:Ext a b)(k:Ext b c):Ext a c:=
 ⟨k.os.trans h.os,k.output.trans h.output,Nat.le_trans h.size k.size,fun x=>(k.frozen x).trans (h.frozen x)⟩
structure Upd(w w':World)(b:Nat)(o:Obj):Prop where
 os:w'.os=w.os
 output:w'.output=w.output
 size:w.heap.size≤w'.heap.size
 here:w'.heap[b]?=some o
 other:∀c,c≠b→w'.heap[c]?=w.heap[c]?
theorem Has.keep{w w':World}{f:lB}(h:Has w f)(k:∀x∈f,w'.heap[x.1]?=w.heap[x.1]?):Has w' f:=
 ⟨h.1,fun x hx=>(k x hx).trans (h.2 x hx)⟩
theorem Sat.upd{w w':World}{b:Nat}{o o':Obj}{L:List HP}(h:Sat (one b o::L) w)(u:Upd w w' b o'):Sat (one b o'::L) w':=by
 obtain ⟨_,⟨f1,f2,rfl,rfl,hl⟩,hh⟩:=h
 refine ⟨_,⟨[(b,o')],f2,rfl,rfl,hl⟩,?_,?_⟩
 ·simpa using hh.1
 ·intro x hx
  have hn:b ∉ f2.map Prod.fst:=by have:=hh.1;simp only [List.map_cons,List.cons_append,List.nil_append] at this;exact (List.nodup_cons.1 this).1
  simp only [List.cons_append,List.nil_append,List.mem_cons] at hx
  rcases hx with rfl|hx
  ·exact u.here
  ·rw [u.other x.1 (fun e=>hn (e▸List.mem_map_of_mem hx))]
   exact hh.right.2 x hx
theorem Sat.new{w w':World}{b:Nat}{o:Obj}{L:List HP}(h:Sat L w)(hb:w.heap[b]?=none)(u:Upd w w' b o):Sat (one b o::L) w':=by
 obtain ⟨f,hl,hh⟩:=h
 have hn:b ∉ f.map Prod.fst:=fun hm=>by
  obtain ⟨x,hx,rfl⟩:=List.mem_map.1 hm
  have:=hh.2 x hx
  rw [hb] at this
  cases this
 refine ⟨_,⟨[(b,o)],f,rfl,rfl,hl⟩,?_,?_⟩
 ·simpa using ⟨by simpa using hn,hh.1⟩
 ·intro x hx
  simp only [List.cons_append,List.nil_append,List.mem_cons] at hx
  rcases hx with rfl|hx
  ·exact u.here
  ·rw [u.other x.1 (fun e=>hn (e▸List.mem_map_of_mem hx))]
   exact hh.2 x hx
theorem Sat.same{w w':World}{L:List HP}(h:Sat L w)(e:w'.heap=w.heap):Sat L w':=by
 obtain ⟨f,hl,hh⟩:=h
 exact ⟨f,hl,hh.keep fun x _=>by rw [e]⟩
theorem iF{w:World}{a:Addr}{cs:Array Value}{T:TypeId}(h:w.heap[a.block]?=some (.cells cs T (0,0))):w.frozen? a=false:=by
 simp [World.frozen?,h]
theorem m7{w:World}{a:Addr}(h:w.heap[a.block]?=none):w.frozen? a=false:=by
 simp [World.frozen?,h]
theorem Upd.ext{w w':World}{b:Nat}{cs:Array Value}{T:TypeId}(u:Upd w w' b (.cells cs T (0,0)))
 (h:w.heap[b]?=none∨∃cs' T',w.heap[b]?=some (.cells cs' T' (0,0))):Ext w w':=by
 refine ⟨u.os,u.output,u.size,fun a=>?_⟩
 by_cases e:a.block=b
 ·rw [iF (by rw [e];exact u.here)]
  rcases h with h| ⟨cs',T',h⟩
  ·rw [m7 (by rw [e];exact h)]
  ·rw [iF (by rw [e];exact h)]
 ·simp [World.frozen?,u.other a.block e]
theorem iH(w:World)(o:Obj):Upd w (w.alloc o) w.heap.size o:=
 ⟨rfl,rfl,by show w.heap.size≤(w.heap.push o).size;simp,by show (w.heap.push o)[w.heap.size]?=some o;simp,fun c hc=>by
  show (w.heap.push o)[c]?=w.heap[c]?;rw [Array.getElem?_push,if_neg hc]⟩
theorem gV(w:World)(o:Obj):Upd w (w.drew.alloc o) w.heap.size o:=by
 have u:=iH w.drew o
 exact ⟨u.os,u.output,u.size,u.here,u.other⟩
theorem cJ(w:World):w.heap[w.heap.size]?=none:=by simp
theorem ng{w:World}{b o:Nat}{cs:Array Value}{T:TypeId}(h:w.heap[b]?=some (.cells cs T (0,0)))(v:Value):
 Upd w (w.setCell ⟨b,o,none⟩ v) b (.cells (cs.setIfInBounds o v) T (0,0)):=by
 refine ⟨rfl,rfl,by simp [World.setCell],?_,fun c hc=>?_⟩
 ·simp [World.setCell,Array.getElem?_modify,h]
 ·simp only [World.setCell,Array.getElem?_modify]
  rw [if_neg (fun e=>hc e.symm)]
theorem gu{w:World}{g:Nat}{cs:Array Value}{T:TypeId}(h:w.heap[g]?=some (.cells cs T (0,0)))(cs':Array Value):
 Upd w (w.setRow g cs') g (.cells cs' T (0,0)):=by
 refine ⟨rfl,rfl,by simp [World.setRow],setRow_heap w g cs cs' T _ h,fun c hc=>setRow_other w g c _ hc⟩
def dI(t:Nat):List (Nat×Value)→Option Value
 | []=>none
 | (s,v)::E=>bif Nat.beq t s then some v else dI t E
def Picks(E:List (Nat×Value)):List (Nat×Value)→Prop
 | []=>True
 | (t,v)::E'=>dI t E=some v∧Picks E E'
theorem Picks.spec{E E':List (Nat×Value)}(h:Picks E E'){t:Nat}{v:Value}(hl:dI t E'=some v):dI t E=some v:=by
 induction E' with
 |nil=>cases hl
 |cons x E' ih=>
  obtain ⟨s,u⟩:=x
  simp only [dI] at hl
  cases hb:Nat.beq t s with
  |true=>
   rw [hb] at hl
   simp only [cond_true,Option.some.injEq] at hl
   have:=Nat.eq_of_beq_eq_true hb
   subst this
   subst hl
   exact h.1
  |false=>rw [hb] at hl;exact ih h.2 hl
structure St(W:World)(N:Nat)(E:List (Nat×Value))(L:List HP)(a:Act)(w:World):Prop where
 size:a.tmps.size=N
 defers:a.defers=[]
 env:∀t v,dI t E=some v→a.tmps[t]?=some v
 sat:Sat L w
 ext:Ext W w
def cd(K:Act→World→Prop)(W:World)(N:Nat)(E:List (Nat×Value))(L:List HP):Prop:=∀a w,St W N E L a w→K a w
section tri
variable{K:Act→World→Prop}{W:World}{N:Nat}{E E':List (Nat×Value)}{L M:List HP}
theorem az(h:Picks E E')(k:cd K W N E' L):cd K W N E L:=fun a w s=>
 k a w ⟨s.size,s.defers,fun t v hl=>s.env t v (h.spec hl),s.sat,s.ext⟩
theorem bO(h:∀w,Sat L w→Sat M w)(k:cd K W N E M):cd K W N E L:=fun a w s=>
 k a w ⟨s.size,s.defers,s.env,h w s.sat,s.ext⟩
theorem fO(h:L.Perm M)(k:cd K W N E M):cd K W N E L:=bO (fun _ hs=>hs.perm h) k
theorem ak{A:HP}(k:cd K W N E L):cd K W N E (A::L):=bO (fun _ hs=>hs.drop) k
theorem xX{α:Type}{A:α→HP}(k:∀x,cd K W N E (A x::L)):cd K W N E (Ex A::L):=fun a w s=>by
 obtain ⟨x,hx⟩:=Sat.ex.1 s.sat
 exact k x a w ⟨s.size,s.defers,s.env,hx,s.ext⟩
theorem oo{p:Prop}{A:HP}(k:p→cd K W N E (A::L)):cd K W N E (sj p A::L):=fun a w s=>by
 obtain ⟨x,hx⟩:=Sat.fact.1 s.sat
 exact k x a w ⟨s.size,s.defers,s.env,hx,s.ext⟩
theorem w9{M:List HP}(k:cd K W N E (M++L)):cd K W N E (cI M::L):=bO (fun _ hs=>Sat.join.1 hs) k
theorem yU{M:List HP}(k:cd K W N E (cI M::L)):cd K W N E (M++L):=bO (fun _ hs=>Sat.join.2 hs) k
theorem tH{α:Type}{A:α→HP}(x:α)(k:cd K W N E (Ex A::L)):cd K W N E (A x::L):=bO (fun _ hs=>Sat.ex.2 ⟨x,hs⟩) k
theorem l7{p:Prop}{A:HP}(hp:p)(k:cd K W N E (sj p A::L)):cd K W N E (A::L):=bO (fun _ hs=>Sat.fact.2 ⟨hp,hs⟩) k
theorem aY{p:Prop}(h:∀w,Sat L w→p)(k:p→cd K W N E L):cd K W N E L:=fun a w s=>k (h w s.sat) a w s
theorem aE{A B:HP}(k:cd K W N E (B::A::L)):cd K W N E (A::B::L):=fO (.swap B A L) k
theorem aR{A B C:HP}(k:cd K W N E (C::A::B::L)):cd K W N E (A::B::C::L):=
 fO ((List.Perm.cons A (.swap C B L)).trans (.swap C A _)) k
theorem bX(M:List HP)(A:HP):(M++A::L).Perm (A::(M++L)):=List.perm_middle
theorem aS{A B C D:HP}(k:cd K W N E (D::A::B::C::L)):cd K W N E (A::B::C::D::L):=fO (bX [A,B,C] D) k
theorem de{A B C D F:HP}(k:cd K W N E (F::A::B::C::D::L)):cd K W N E (A::B::C::D::F::L):=fO (bX [A,B,C,D] F) k
theorem cN{A B C D F G:HP}(k:cd K W N E (G::A::B::C::D::F::L)):cd K W N E (A::B::C::D::F::G::L):=fO (bX [A,B,C,D,F] G) k
theorem dM{A B C D F G H:HP}(k:cd K W N E (H::A::B::C::D::F::G::L)):cd K W N E (A::B::C::D::F::G::H::L):=fO (bX [A,B,C,D,F,G] H) k
theorem eL{A B C D F G H I:HP}(k:cd K W N E (I::A::B::C::D::F::G::H::L)):cd K W N E (A::B::C::D::F::G::H::I::L):=fO (bX [A,B,C,D,F,G,H] I) k
theorem dR{A B C D F G H I J:HP}(k:cd K W N E (J::A::B::C::D::F::G::H::I::L)):cd K W N E (A::B::C::D::F::G::H::I::J::L):=fO (bX [A,B,C,D,F,G,H,I] J) k
end tri
def ev(E:List (Nat×Value)):Operand→Option Value
 | .tmp t=>dI t E
 | .const v=>some v
 | .global g=>some (.pointer (some ⟨g,0,none⟩))
 | .func f=>some (.func (.func f) #[] #[])
def evs(E:List (Nat×Value)):List Operand→Option (List Value)
 | []=>some []
 |x::xs=>match ev E x,evs E xs with
  |some v,some vs=>some (v::vs)
  |_,_=>none
def Agr(E:List (Nat×Value))(ρ:Operand→Value):Prop:=∀x v,ev E x=some v→ρ x=v
theorem St.agr{W:World}{N:Nat}{E:List (Nat×Value)}{L:List HP}{a:Act}{w:World}(s:St W N E L a w):Agr E a.eval:=by
 intro x v h
 cases x with
 |tmp t=>simp [Act.eval,s.env t v h]
 |const u=>simp only [ev,Option.some.injEq] at h;exact h
 |global g=>simp only [ev,Option.some.injEq] at h;exact h
 |func f=>simp only [ev,Option.some.injEq] at h;exact h
theorem Agr.evs{E:List (Nat×Value)}{ρ:Operand→Value}(h:Agr E ρ):∀{xs vs},evs E xs=some vs→xs.map ρ=vs
 | [],vs,e=>by simp only [Sp.evs,Option.some.injEq] at e;subst e;rfl
 |x::xs,vs,e=>by
  simp only [Sp.evs] at e
  split at e
  ·rename_i v vs' hv hvs
   simp only [Option.some.injEq] at e
   subst e
   simp [h x v hv,h.evs hvs]
  ·cases e
theorem St.put{W:World}{N:Nat}{E:List (Nat×Value)}{L M:List HP}{a:Act}{w w':World}(s:St W N E L a w){d:Nat}(hd:Nat.blt d N=true)(v:Value)
 (hs:Sat M w') (he:Ext w w'):St W N ((d,v)::E) M (a.put (some d) v) w':=by
 have hd':d<N:=Nat.le_of_ble_eq_true hd
 refine ⟨by simp [Act.put,s.size],by simp [Act.put,s.defers],fun t u hl=>?_,hs,s.ext.trans he⟩
 simp only [dI] at hl
 cases hb:Nat.beq t d with
 |true=>
  rw [hb] at hl
  have:=Nat.eq_of_beq_eq_true hb
  subst this
  simp only [cond_true,Option.some.injEq] at hl
  subst hl
  simp [Act.put,s.size,hd']
 |false=>
  rw [hb] at hl
  have hne:d≠t:=fun e=>by subst e;simp at hb
  simp only [Act.put,Array.getElem?_setIfInBounds_ne hne]
  exact s.env t u hl
theorem St.world{W:World}{N:Nat}{E:List (Nat×Value)}{L M:List HP}{a:Act}{w w':World}(s:St W N E L a w)(hs:Sat M w')(he:Ext w w'):St W N E M a w':=
 ⟨s.size,s.defers,s.env,hs,s.ext.trans he⟩
section ops
variable{P:Program}{ops:Array Oper}{Q:Exit→Act→World→Prop}{K:Act→World→Prop}
def gF(P:Program)(ops:Array Oper)(Q:Exit→Act→World→Prop)(K:Act→World→Prop):List Oper→Act→World→Prop
 | [],a,w=>K a w
 |o::rest,a,w=>
  if Region.wanted o (yielded ops a.tmps) then o.wp P a w (gF P ops Q K rest) Q else gF P ops Q K rest (a.put o.dst undef) w
theorem xK(l:List Oper):∀a w,gF P ops Q (Q .normal) l a w→wpList P ops Q l a w:=by
 induction l with
 |nil=>exact fun a w h=>h
 |cons o l ih=>
  intro a w h
  simp only [gF] at h
  simp only [wpList]
  split
  ·rename_i hw;rw [if_pos hw] at h;exact .inl (Oper.wp_mono ih h)
  ·rename_i hw;rw [if_neg hw] at h;exact ih _ _ h
variable{W:World}{N:Nat}{E:List (Nat×Value)}{L M:List HP}{rest:List Oper}{d:Nat}{op:Op}{ty:TypeId}{pos:String}{af:Array Edge}
def LV(P:Program)(E:List (Nat×Value))(L:List HP)(op:Op)(ty:TypeId)(v:Value):Prop:=
 ∀ρ,Agr E ρ→∀w,Sat L w→∀d pos af g,(execOp ρ ⟨d,op,ty,pos,af,g⟩).run P w=.ok (.value v) w
theorem tp{v:Value}(hd:Nat.blt d N=true)(hv:LV P E L op ty v)(h:cd (gF P ops Q K rest) W N ((d,v)::E) L):
 cd (gF P ops Q K (⟨some d,op,ty,pos,af,none⟩::rest)) W N E L:=fun a w s=>by
 simp only [gF,Region.wanted,if_true,Oper.wp,hv a.eval s.agr w s.sat,Oper.upon]
 exact h _ _ (s.put hd v s.sat (.refl _))
theorem ae{g:Nat}{b:Bool}{t:Nat}{dst:Option Tmp}(hg:(ops[g]?).bind (·.dst)=some t)(hl:dI t E=some (.bool b))
 (h:cd (gF P ops Q K (⟨dst,op,ty,pos,af,none⟩::rest)) W N E L):
 cd (gF P ops Q K (⟨dst,op,ty,pos,af,some (g,b)⟩::rest)) W N E L:=fun a w s=>by
 have hy:yielded ops a.tmps g=some b:=by simp [yielded,hg,s.env t _ hl]
 have hw:Region.wanted ⟨dst,op,ty,pos,af,some (g,b)⟩ (yielded ops a.tmps)=true:=by simp [Region.wanted,hy]
 have:=h a w s
 simp only [gF,Region.wanted,if_true] at this
 simp only [gF,hw,if_true]
 exact this
theorem aq{g:Nat}{b:Bool}{t:Nat}(hd:Nat.blt d N=true)(hg:(ops[g]?).bind (·.dst)=some t)(hl:dI t E=some (.bool (!b)))
 (h:cd (gF P ops Q K rest) W N ((d,undef)::E) L):
 cd (gF P ops Q K (⟨some d,op,ty,pos,af,some (g,b)⟩::rest)) W N E L:=fun a w s=>by
 have hy:yielded ops a.tmps g=some (!b):=by simp [yielded,hg,s.env t _ hl]
 have hw:Region.wanted ⟨some d,op,ty,pos,af,some (g,b)⟩ (yielded ops a.tmps)=false:=by cases b <;>simp [Region.wanted,hy]
 simp only [gF,hw,Bool.false_eq_true,if_false]
 exact h _ _ (s.put hd undef s.sat (.refl _))
theorem dw{g:Nat}{b:Bool}{t:Nat}(hd:Nat.blt d N=true)(hg:(ops[g]?).bind (·.dst)=some t)(hl:dI t E=some undef)
 (h:cd (gF P ops Q K rest) W N ((d,undef)::E) L):
 cd (gF P ops Q K (⟨some d,op,ty,pos,af,some (g,b)⟩::rest)) W N E L:=fun a w s=>by
 have hy:yielded ops a.tmps g=none:=by simp [yielded,hg,s.env t _ hl,undef]
 have hw:Region.wanted ⟨some d,op,ty,pos,af,some (g,b)⟩ (yielded ops a.tmps)=false:=by cases b <;>simp [Region.wanted,hy]
 simp only [gF,hw,Bool.false_eq_true,if_false]
 exact h _ _ (s.put hd undef s.sat (.refl _))
def MV(P:Program)(E:List (Nat×Value))(L:List HP)(op:Op)(ty:TypeId)(Post:Value→List HP→Prop):Prop:=
 ∀ρ,Agr E ρ→∀w,Sat L w→∀d pos af g,∃v w' M,(execOp ρ ⟨d,op,ty,pos,af,g⟩).run P w=.ok (.value v) w'∧Post v M∧Sat M w'∧Ext w w'
theorem tm{Post:Value→List HP→Prop}(hd:Nat.blt d N=true)(hv:MV P E L op ty Post)(h:∀v M,Post v M→cd (gF P ops Q K rest) W N ((d,v)::E) M):
 cd (gF P ops Q K (⟨some d,op,ty,pos,af,none⟩::rest)) W N E L:=fun a w s=>by
 obtain ⟨v,w',M,hr,hp,hs,he⟩:=hv a.eval s.agr w s.sat (some d) pos af none
 simp only [gF,Region.wanted,if_true,Oper.wp,hr,Oper.upon]
 exact h v M hp _ _ (s.put hd v hs he)
theorem Cw{Post:Value→List HP→Prop}(hv:MV P E L op ty Post)(h:∀v M,Post v M→cd (gF P ops Q K rest) W N E M):
 cd (gF P ops Q K (⟨none,op,ty,pos,af,none⟩::rest)) W N E L:=fun a w s=>by
 obtain ⟨v,w',M,hr,hp,hs,he⟩:=hv a.eval s.agr w s.sat none pos af none
 simp only [gF,Region.wanted,if_true,Oper.wp,hr,Oper.upon]
 exact h v M hp _ _ (s.world hs he)
def SV(P:Program)(E:List (Nat×Value))(L:List HP)(op:Op)(ty:TypeId)(M:List HP):Prop:=
 ∀ρ,Agr E ρ→∀w,Sat L w→∀d pos af g,∃w',(execOp ρ ⟨d,op,ty,pos,af,g⟩).run P w=.ok .skip w'∧Sat M w'∧Ext w w'
theorem ts(hv:SV P E L op ty M)(h:cd (gF P ops Q K rest) W N E M):
 cd (gF P ops Q K (⟨none,op,ty,pos,af,none⟩::rest)) W N E L:=fun a w s=>by
 obtain ⟨w',hr,hs,he⟩:=hv a.eval s.agr w s.sat none pos af none
 simp only [gF,Region.wanted,if_true,Oper.wp,hr,Oper.upon]
 exact h _ _ (s.world hs he)
def Ok(P:Program)(f:FuncId)(args:List Value)(L:List HP)(Post:Value→List HP→Prop):Prop:=
 ∀w,Sat L w→Calls P f args.toArray w fun e w'=> ∃v M,Post v M∧e=.returned v∧Sat M w'∧Ext w w'
def n7(P:Program)(E:List (Nat×Value))(op:Op)(ty:TypeId)(f:FuncId)(args:List Value):Prop:=
 ∀ρ,Agr E ρ→∀w d pos af g,(execOp ρ ⟨d,op,ty,pos,af,g⟩).run P w=.ok (.enter f args.toArray) w
theorem tc{f:FuncId}{args:List Value}{Post:Value→List HP→Prop}(hd:Nat.blt d N=true)(he:n7 P E op ty f args)(hok:Ok P f args L Post)
 (h:∀v M,Post v M→cd (gF P ops Q K rest) W N ((d,v)::E) M):
 cd (gF P ops Q K (⟨some d,op,ty,pos,af,none⟩::rest)) W N E L:=fun a w s=>by
 simp only [gF,Region.wanted,if_true,Oper.wp,he a.eval s.agr w (some d) pos af none,Oper.upon]
 refine (hok w s.sat).mono ?_
 rintro e w' ⟨v,M,hp,rfl,hs,hx⟩
 exact h v M hp _ _ (s.put hd v hs hx)
theorem aI(h:cd K W N E L):cd (gF P ops Q K []) W N E L:=fun a w s=>h a w s
theorem mK{l:List Oper}{E':List (Nat×Value)}(h2:cd K W N E' L)(h1:∀K':Act→World→Prop,cd K' W N E' L→cd (gF P ops Q K' l) W N E L):cd (gF P ops Q K l) W N E L:=h1 _ h2
theorem aj{id:Nat}{l:List Oper}(h:cd (gF P l.toArray Q (Q .normal) l) W N E L):cd ((Code.region id l.toArray false).wp P Q) W N E L:=fun a w s=>
 wp_region_lit (xK l a w (h a w s))
theorem ai{x y:Code}(h:∀K:Act→World→Prop,(∀E M,cd (y.wp P Q) W N E M→cd K W N E M)→cd (x.wp P (Exit.then K Q)) W N E L):
 cd ((Code.seq x y).wp P Q) W N E L:=fun a w s=>wp_seq (h _ (fun _ _ k=>k) a w s)
theorem cS(h:cd (Q .normal) W N E L):cd (Code.skip.wp P Q) W N E L:=fun a w s=>wp_skip (h a w s)
theorem uA{l:Nat}(h:cd (Q .normal) W N E L):cd ((Code.label l).wp P Q) W N E L:=fun a w s=>wp_label (h a w s)
theorem bT{id:Nat}(h:cd (Q (.exit id)) W N E L):cd ((Code.exit id).wp P Q) W N E L:=fun a w s=>wp_exit (h a w s)
theorem ay(h:cd (Q .ret) W N E L):cd (Code.ret.wp P Q) W N E L:=fun a w s=>wp_ret (h a w s)
theorem aG{c:Operand}{x y:Code}(hc:ev E c=some (.bool true))(h:cd (x.wp P Q) W N E L):cd ((Code.cond c x y).wp P Q) W N E L:=fun a w s=>
 wp_cond_true (s.agr c _ hc) (h a w s)
theorem ar{c:Operand}{x y:Code}(hc:ev E c=some (.bool false))(h:cd (y.wp P Q) W N E L):cd ((Code.cond c x y).wp P Q) W N E L:=fun a w s=>
 wp_cond_false (s.agr c _ hc) (h a w s)
theorem cW{c:Operand}{x y:Code}{t:Bool}(hc:ev E c=some (.bool t))(h1:t=true→cd (x.wp P Q) W N E L)(h2:t=false→cd (y.wp P Q) W N E L):
 cd ((Code.cond c x y).wp P Q) W N E L:=fun a w s=>wp_cond_split (s.agr c _ hc) (fun e=>h1 e a w s) (fun e=>h2 e a w s)
theorem aH{id:Nat}{c:Code}(h:cd (c.wp P (Exit.inBlock id Q)) W N E L):cd ((Code.block id c).wp P Q) W N E L:=fun a w s=>wp_block (h a w s)
theorem aN(h:cd K W N E L):cd (Exit.then K Q .normal) W N E L:=h
theorem aK(h:cd (Q .ret) W N E L):cd (Exit.then K Q .ret) W N E L:=h
theorem au{id:Nat}(h:cd (Q (.exit id)) W N E L):cd (Exit.then K Q (.exit id)) W N E L:=h
theorem rX{l:Nat}(h:cd (Q (.goto l)) W N E L):cd (Exit.then K Q (.goto l)) W N E L:=h
theorem aZ{id:Nat}(h:cd (Q .normal) W N E L):cd (Exit.inBlock id Q .normal) W N E L:=h
theorem cH{id:Nat}(h:cd (Q .ret) W N E L):cd (Exit.inBlock id Q .ret) W N E L:=h
theorem bS{id:Nat}(h:cd (Q .normal) W N E L):cd (Exit.inBlock id Q (.exit id)) W N E L:=fun a w s=>by
 simp only [Exit.inBlock,if_true];exact h a w s
theorem gh{id id':Nat}(hne:Nat.beq id' id=false)(h:cd (Q (.exit id')) W N E L):cd (Exit.inBlock id Q (.exit id')) W N E L:=fun a w s=>by
 have:id'≠id:=fun e=>by subst e;simp at hne
 simp only [Exit.inBlock,if_neg this];exact h a w s
theorem xQ{id l:Nat}(h:cd (Q (.goto l)) W N E L):cd (Exit.inBlock id Q (.goto l)) W N E L:=h
theorem iU{p:Nat→Prop}(h:∃n,p n):∃n,p n∧∀m,p m→n≤m:=by
 classical
 obtain ⟨n,hn⟩:=h
 induction n using Nat.strongRecOn with
 |_ n ih=>
  by_cases hm:∃m,m<n∧p m
  ·obtain ⟨m,hlt,hp⟩:=hm;exact ih m hlt hp
  ·exact ⟨n,hn,fun m hp=>Nat.le_of_not_lt fun hlt=>hm ⟨m,hlt,hp⟩⟩
theorem sZ{c:Code}(I:Nat→Act→World→Prop){n0:Nat}{a:Act}{w:World}(h0:I n0 a w)
 (round:∀n a w,I n a w→c.wp P (Exit.then (fun a' w'=> ∃m,m<n∧I m a' w') Q) a w):(Code.loop c).wp P Q a w:=by
 classical
 let least (a:Act) (w:World):Nat:=if h:∃n,I n a w then (iU h).choose else 0
 have hl:∀a w (h:∃n,I n a w),I (least a w) a w∧∀m,I m a w→least a w≤m:=fun a w h=>by
  simp only [least,dif_pos h];exact (iU h).choose_spec
 refine wp_loop (fun a w=> ∃n,I n a w) least ⟨n0,h0⟩ fun a w hex=>?_
 refine Code.wp_mono ?_ (round _ a w (hl a w hex).1)
 intro e a' w' q
 cases e with
 |normal=>
  obtain ⟨m,hm,hi⟩:=q
  exact ⟨⟨m,hi⟩,Nat.lt_of_le_of_lt ((hl a' w' ⟨m,hi⟩).2 m hi) hm⟩
 |_=>exact q
theorem cE{γ:Type}{c:Code}(F:γ→Prop)(Eg:γ→List (Nat×Value))(Lg:γ→List HP)(μ:γ→Nat)(g0:γ)(hF:F g0)(hE:Picks E (Eg g0))
 (hL:∀w,Sat L w→Sat (Lg g0) w)
 (round:∀g (K:Act→World→Prop),F g→(∀g',F g'→μ g'<μ g→cd K W N (Eg g') (Lg g'))→cd (c.wp P (Exit.then K Q)) W N (Eg g) (Lg g)):
 cd ((Code.loop c).wp P Q) W N E L:=fun a w s=>by
 refine sZ (fun n a w=> ∃g,F g∧μ g=n∧St W N (Eg g) (Lg g) a w) (n0:=μ g0)
  ⟨g0,hF,rfl,s.size,s.defers,fun t v hl=>s.env t v (hE.spec hl),hL w s.sat,s.ext⟩ ?_
 rintro n a w ⟨g,hg,rfl,s⟩
 exact round g _ hg (fun g' hg' hlt a w s'=>⟨μ g',hlt,g',hg',rfl,s'⟩) a w s
theorem nV{c rest:Code}(l:Nat)(I:Nat→Act→World→Prop){a:Act}{w:World}(hf:findLabel c l=some rest)
 (first:c.wp P (Exit.jump l (fun a w=> ∃n,I n a w) Q) a w)
 (pass:∀n a w,I n a w→rest.wp P (Exit.jump l (fun a' w'=> ∃m,m<n∧I m a' w') Q) a w):(Code.scope c).wp P Q a w:=by
 classical
 let least (a:Act) (w:World):Nat:=if h:∃n,I n a w then (iU h).choose else 0
 have hl:∀a w (h:∃n,I n a w),I (least a w) a w∧∀m,I m a w→least a w≤m:=fun a w h=>by
  simp only [least,dif_pos h];exact (iU h).choose_spec
 refine wp_scope_jumps l (fun a w=> ∃n,I n a w) least hf first fun a w hex=>?_
 refine Code.wp_mono ?_ (pass _ a w (hl a w hex).1)
 intro e a' w' q
 cases e with
 |goto l'=>
  obtain ⟨e,m,hm,hi⟩:=q
  exact ⟨e,⟨m,hi⟩,Nat.lt_of_le_of_lt ((hl a' w' ⟨m,hi⟩).2 m hi) hm⟩
 |_=>exact q
theorem um{γ:Type}{c rest:Code}(l:Nat)(F:γ→Prop)(Eg:γ→List (Nat×Value))(Lg:γ→List HP)(μ:γ→Nat)(hf:findLabel c l=some (.seq .skip rest))
 (pass:∀g (K:Act→World→Prop),F g→(∀g',F g'→μ g'<μ g→cd K W N (Eg g') (Lg g'))→cd (rest.wp P (Exit.jump l K Q)) W N (Eg g) (Lg g))
 (first:∀{K:Act→World→Prop},(∀g,F g→cd (rest.wp P (Exit.jump l K Q)) W N (Eg g) (Lg g))→cd (c.wp P (Exit.jump l K Q)) W N E L):cd ((Code.scope c).wp P Q) W N E L:=fun a w s=>by
 refine nV l (fun n a w=> ∃g,F g∧μ g=n∧St W N (Eg g) (Lg g) a w) hf ?_ ?_
 ·refine first ?_ a w s
  intro g hg a w s'
  refine Code.wp_mono ?_ (pass g (fun a w=> ∃g',F g'∧μ g'<μ g∧St W N (Eg g') (Lg g') a w) hg (fun g' hg' hlt a w s'=>⟨g',hg',hlt,s'⟩) a w s')
  intro e a' w' q
  cases e with
  |goto l'=>obtain ⟨e,g',h1,h2,h3⟩:=q;exact ⟨e,_,g',h1,rfl,h3⟩
  |_=>exact q
 ·rintro n a w ⟨g,hg,rfl,s'⟩
  refine wp_seq (wp_skip ?_)
  exact pass g _ hg (fun g' hg' hlt a w s'=>⟨μ g',hlt,g',hg',rfl,s'⟩) a w s'
theorem jD{l:Nat}(h:cd (Q (.goto l)) W N E L):cd ((Code.goto l).wp P Q) W N E L:=fun a w s=>wp_goto (h a w s)
theorem gR{l:Nat}{J:Act→World→Prop}(h:cd J W N E L):cd (Exit.jump l J Q (.goto l)) W N E L:=fun a w s=>⟨rfl,h a w s⟩
theorem xt{l:Nat}{J:Act→World→Prop}(h:cd (Q .ret) W N E L):cd (Exit.jump l J Q .ret) W N E L:=h
theorem xv{l:Nat}{J:Act→World→Prop}(h:cd (Q .normal) W N E L):cd (Exit.jump l J Q .normal) W N E L:=h
def qI(W:World)(Post:Value→List HP→Prop):Ending→World→Prop:=fun e w'=> ∃v M,Post v M∧e=.returned v∧Sat M w'∧Ext W w'
theorem aM{fn:Func}{t:Nat}{v:Value}{Post:Value→List HP→Prop}(hr:fn.results=#[.tmp t])(hv:dI t E=some v)(hp:Post v L):
 cd (bodyPost P fn (qI W Post) .ret) W N E L:=fun a w s=>
 bodyPost_ret (results_tmp hr _ _ _) s.defers ⟨_,_,by simpa [s.env t v hv] using hp,rfl,s.sat,s.ext⟩
theorem dc{fn:Func}{t u:Nat}{v x:Value}{Post:Value→List HP→Prop}(hr:fn.results=#[.tmp t,.tmp u])(hv:dI t E=some v)(hx:dI u E=some x)(hp:Post (.tuple #[v,x]) L):
 cd (bodyPost P fn (qI W Post) .ret) W N E L:=fun a w s=>
 bodyPost_ret (results_tmp2 hr _ _ _) s.defers ⟨_,_,by simpa [s.env t v hv,s.env u x hx] using hp,rfl,s.sat,s.ext⟩
theorem qm{fn:Func}{t u x:Tmp}(h:fn.results=#[.tmp t,.tmp u,.tmp x])(tmps:Array Value)(P:Program)(w:World):
 (results fn tmps).run P w=.ok (.tuple #[tmps.getD t undef,tmps.getD u undef,tmps.getD x undef]) w:=by
 simp [results,h]
theorem qZ{fn:Func}{t u z:Nat}{v x y:Value}{Post:Value→List HP→Prop}(hr:fn.results=#[.tmp t,.tmp u,.tmp z])(hv:dI t E=some v)(hx:dI u E=some x)(hy:dI z E=some y)
 (hp:Post (.tuple #[v,x,y]) L):cd (bodyPost P fn (qI W Post) .ret) W N E L:=fun a w s=>
 bodyPost_ret (qm hr _ _ _) s.defers ⟨_,_,by simpa [s.env t v hv,s.env u x hx,s.env z y hy] using hp,rfl,s.sat,s.ext⟩
theorem fC{fn:Func}{Post:Value→List HP→Prop}(hr:fn.results=#[])(hp:Post (.tuple #[]) L):
 cd (bodyPost P fn (qI W Post) .normal) W N E L:=fun a w s=>
 bodyPost_end (results_none hr _ _ _) s.defers ⟨_,_,hp,rfl,s.sat,s.ext⟩
theorem jO{fn:Func}{Post:Value→List HP→Prop}(hr:fn.results=#[])(hp:Post (.tuple #[]) L):
 cd (bodyPost P fn (qI W Post) .ret) W N E L:=fun a w s=>
 bodyPost_ret (results_none hr _ _ _) s.defers ⟨_,_,hp,rfl,s.sat,s.ext⟩
def ur:Nat→List Value→List (Nat×Value)
 |_,[]=>[]
 |i,v::vs=>(i,v)::ur (i+1) vs
theorem tQ(vs:List Value):∀(i t:Nat) (v:Value),dI t (ur i vs)=some v→i≤t∧vs[t-i]?=some v:=by
 induction vs with
 |nil=>intro i t v h;cases h
 |cons u vs ih=>
  intro i t v h
  simp only [ur,dI] at h
  cases hb:Nat.beq t i with
  |true=>
   rw [hb] at h
   have:=Nat.eq_of_beq_eq_true hb
   subst this
   simpa using h
  |false=>
   rw [hb] at h
   obtain ⟨h1,h2⟩:=ih (i+1) t v h
   refine ⟨by omega,?_⟩
   rw [show t-i=(t- (i+1))+1 by omega]
   simpa using h2
theorem aP{f:FuncId}{fn:Func}{c:Code}{args:List Value}{Post:Value→List HP→Prop}(hf:P.funcs[f]?=some fn)(hb:fn.body=some c)
 (hN:fn.ntmps=N) (hn:Nat.ble args.length N=true)
 (h:∀W,cd (c.wp P (bodyPost P fn (qI W Post))) W N (ur 0 args) L):Ok P f args L Post:=by
 subst hN
 intro w hs
 have hn':args.length≤fn.ntmps:=Nat.le_of_ble_eq_true hn
 refine calls_of_wp hf hb (h w _ w ⟨?_,rfl,fun t v hl=>?_,hs,.refl _⟩)
 ·simp;omega
 ·obtain ⟨_,h2⟩:=tQ args 0 t v hl
  have hlt:t<args.length:=by
   have:=List.getElem?_eq_some_iff.1 h2
   simpa using this.1
  rw [Array.getElem?_append_left (by simpa using hlt)]
  simpa using h2
end ops
end Go.Proofs.YtanfdikglplkaaaGreatDoor.Sp
