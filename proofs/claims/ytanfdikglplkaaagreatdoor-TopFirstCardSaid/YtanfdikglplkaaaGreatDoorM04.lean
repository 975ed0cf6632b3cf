/- Parts Dsr, Bit, Idx, Gra, Opm: own lemmas and contracts of the code that the claim reaches. -/
import Derived.Test.YtanfdikglplkaaaGreatDoorM03
import Derived.Test.YtanfdikglplkaaaGreatDoorM02
set_option linter.unusedSimpArgs false
set_option linter.unusedVariables false
namespace Go.Proofs.YtanfdikglplkaaaGreatDoor.Sp
open Go
def atI(i:Nat):List (Nat×Nat×Value)→Option (Nat×Value)
 | []=>none
 | (j,d,v)::r=>bif Nat.beq j i then some (d,v) else atI i r
def AM(t:Nat):List (Nat×Nat×Value)→Option (Nat×Value)
 | []=>none
 | (j,d,v)::r=>bif Nat.beq t d then some (j,v) else AM t r
def AJ(l:List Oper)(i:Nat)(rows:List (Nat×Nat×Value))(E:List (Nat×Value))(t:Nat):Option Value:=match AM t rows with
 |some (j,v)=>bif ny l i j then some v else none
 |none=>dI t E
def qq(l:List Oper)(i:Nat)(rows:List (Nat×Nat×Value))(E:List (Nat×Value)):Operand→Option Value
 | .tmp t=>AJ l i rows E t
 | .const v=>some v
 | .global g=>some (.pointer (some ⟨g,0,none⟩))
 | .func f=>some (.func (.func f) #[] #[])
def ue(k:Nat):Option Value→Option Value
 |some (.pointer (some ⟨b,o,none⟩))=>some (.pointer (some ⟨b,o+k,none⟩))
 |_=>none
theorem mD{i d:Nat}{v:Value}:∀{rows:List (Nat×Nat×Value)},atI i rows=some (d,v)→∃k:Nat,rows[k]?=some (i,d,v)
 | [],h=>by cases h
 | (j,d',v')::r,h=>by
  unfold atI at h
  cases hb:Nat.beq j i with
  |true=>rw [hb] at h;obtain ⟨rfl,rfl⟩:=Prod.mk.inj (Option.some.inj h);rw [Nat.eq_of_beq_eq_true hb];exact ⟨0,rfl⟩
  |false=>rw [hb] at h;obtain ⟨k,hk⟩:=mD (rows:=r) h;exact ⟨k+1,by rw [List.getElem?_cons_succ];exact hk⟩
theorem r7{t j:Nat}{v:Value}:∀{rows:List (Nat×Nat×Value)},AM t rows=some (j,v)→∃k:Nat,rows[k]?=some (j,t,v)
 | [],h=>by cases h
 | (j',d',v')::r,h=>by
  unfold AM at h
  cases hb:Nat.beq t d' with
  |true=>rw [hb] at h;obtain ⟨rfl,rfl⟩:=Prod.mk.inj (Option.some.inj h);rw [Nat.eq_of_beq_eq_true hb];exact ⟨0,rfl⟩
  |false=>rw [hb] at h;obtain ⟨k,hk⟩:=r7 (rows:=r) h;exact ⟨k+1,by rw [List.getElem?_cons_succ];exact hk⟩
theorem sx{t:Nat}:∀{rows:List (Nat×Nat×Value)},AM t rows=none→∀x∈rows,Nat.beq t x.2.1=false
 | [],_,x,hx=>by cases hx
 | (j',d',v')::r,h,x,hx=>by
  unfold AM at h
  cases hb:Nat.beq t d' with
  |true=>rw [hb] at h;cases h
  |false=>
   rw [hb] at h
   rcases List.mem_cons.1 hx with rfl|hx
   ·exact hb
   ·exact sx (rows:=r) h x hx
section
variable{P:Program}{Q:Exit→Act→World→Prop}{W:World}{N:Nat}{E:List (Nat×Value)}{l:List Oper}{γ:Type}{F:γ→(Nat→Bool)→Prop}{rows:γ→List (Nat×Nat×Value)}{H:γ→(Nat→Bool)→List HP}{i d:Nat}{op:Op}{ty:TypeId}{pos:String}{af:Array Edge}
theorem jm{S:Nat→Bool}{rows:List (Nat×Nat×Value)}{x:Operand}{v:Value}(hn:dA (ik rows)=true)(p:∀k,ny l i k=true→S k=true)(h:qq l i rows E x=some v):ev (dj S rows E) x=some v:=by
 cases x with
 |tmp t=>
  show dI t _=_
  have h:AJ l i rows E t=some v:=h
  unfold AJ at h
  cases ha:AM t rows with
  |none=>rw [ha] at h;exact kO (fun x hx hb=>by rw [sx ha x hx] at hb;cases hb) h
  |some y=>
   rw [ha] at h
   dsimp only at h
   cases hb:ny l i y.1 with
   |false=>rw [hb] at h;cases h
   |true=>rw [hb] at h;obtain ⟨k,hk⟩:=r7 (show AM t rows=some (y.1,v) by rw [ha,←Option.some.inj h]);exact l8 hn k hk (p _ hb)
 |const _=>exact h
 |global _=>exact h
 |func _=>exact h
def rz(rows:List (Nat×Nat×Value))(d N:Nat):Bool:=dA (ik rows) && (dA (rows.map (·.1)) && Nat.blt d N)
def g9(P:Program)(l:List Oper)(Q:Exit→Act→World→Prop)(W:World)(N:Nat)(E:List (Nat×Value))(F:γ→(Nat→Bool)→Prop)(rows:γ→List (Nat×Nat×Value))(H:γ→(Nat→Bool)→List HP)(g:γ)(i:Nat)(o:Oper):Prop:=
 ∀(S:Nat→Bool),F g S→S i=false→(∀j k,ny l j k=true→S j=true→S k=true)→(∀k,ny l i k=true→S k=true)→
  ∀K:Act→World→Prop,(∀g',F g' (up S i)→cd K W N (dj (up S i) (rows g') E) (H g' (up S i)))→cd (gF P l.toArray Q K [o]) W N (dj S (rows g) E) (H g S)
variable{g:γ}
theorem tB{S:Nat→Bool}{rows:List (Nat×Nat×Value)}{t:Nat}{v:Value}(hn:dA (ik rows)=true)(p:∀k,ny l i k=true→S k=true)(h:AJ l i rows E t=some v):dI t (dj S rows E)=some v:=
 jm (x:=.tmp t) hn p h
theorem sw{v:Value}(hk:atI i (rows g)=some (d,v))(hz:rz (rows g) d N=true)(hF:∀S,F g S→F g (up S i))(hH:∀S,H g (up S i)=H g S)
 (hv:∀S,F g S→dA (ik (rows g))=true→(∀k,ny l i k=true→S k=true)→LV P (dj S (rows g) E) (H g S) op ty v):
 g9 P l Q W N E F rows H g i ⟨some d,op,ty,pos,af,none⟩:=by
 intro S h s D p K k
 have z:=hz
 unfold rz at z
 rw [Bool.and_eq_true,Bool.and_eq_true] at z
 obtain ⟨n,hn⟩:=mD hk
 have k':=k g (hF S h)
 rw [hH] at k'
 exact tp z.2.2 (hv S h z.1 p) (uN n z.1 z.2.1 hn s (AgreeR.refl _) k')
theorem tC{k:Nat}{x:Option Value}{v:Value}(h:ue k x=some v):∃b o,x=some (.pointer (some ⟨b,o,none⟩))∧v=.pointer (some ⟨b,o+k,none⟩):=by
 unfold ue at h
 split at h
 ·exact ⟨_,_,rfl,(Option.some.inj h).symm⟩
 ·cases h
theorem rB{q t:Nat}{b:Bool}(hg:(l.toArray[q]?).bind (·.dst)=some t:=by exact rfl)(hl:AJ l i (rows g) E t=some (.bool (!b)):=by exact rfl)
 (hk:atI i (rows g)=some (d,undef):=by exact rfl) (hz:rz (rows g) d N=true:=by exact rfl) (hF:∀S,F g S→F g (up S i):=by exact fun _ h=>h) (hH:∀S,H g (up S i)=H g S:=by exact fun _=>rfl):
 g9 P l Q W N E F rows H g i ⟨some d,op,ty,pos,af,some (q,b)⟩:=by
 intro S h s D p K k
 have z:=hz
 unfold rz at z
 rw [Bool.and_eq_true,Bool.and_eq_true] at z
 obtain ⟨n,hn⟩:=mD hk
 have k':=k g (hF S h)
 rw [hH] at k'
 exact aq z.2.2 hg (tB z.1 p hl) (uN n z.1 z.2.1 hn s (AgreeR.refl _) k')
theorem wU{q t:Nat}{b:Bool}{dst:Option Tmp}(h:g9 P l Q W N E F rows H g i ⟨dst,op,ty,pos,af,none⟩)(hg:(l.toArray[q]?).bind (·.dst)=some t:=by exact rfl)(hl:AJ l i (rows g) E t=some (.bool b):=by exact rfl)
 (hz:dA (ik (rows g))=true:=by exact rfl):g9 P l Q W N E F rows H g i ⟨dst,op,ty,pos,af,some (q,b)⟩:=
 fun S f s D p K k=>ae hg (tB hz p hl) (h S f s D p K k)
theorem c7{q t:Nat}{b:Bool}(hg:(l.toArray[q]?).bind (·.dst)=some t:=by exact rfl)(hl:∀g,AJ l i (rows g) E t=some (.bool (!b)):=by exact fun _=>rfl)
 (hk:∀g,atI i (rows g)=some (d,undef):=by exact fun _=>rfl) (hz:∀g,rz (rows g) d N=true:=by exact fun _=>rfl) (hF:∀g S,F g S→F g (up S i):=by exact fun _ _ h=>h) (hH:∀g S,H g (up S i)=H g S:=by exact fun _ _=>rfl):
 gM P l Q W N E F rows H i ⟨some d,op,ty,pos,af,some (q,b)⟩:=fun g=>rB hg (hl g) (hk g) (hz g) (hF g) (hH g)
theorem dd{q t:Nat}{b:Bool}{dst:Option Tmp}(h:gM P l Q W N E F rows H i ⟨dst,op,ty,pos,af,none⟩)(hg:(l.toArray[q]?).bind (·.dst)=some t:=by exact rfl)(hl:∀g,AJ l i (rows g) E t=some (.bool b):=by exact fun _=>rfl)
 (hz:∀g,dA (ik (rows g))=true:=by exact fun _=>rfl):gM P l Q W N E F rows H i ⟨dst,op,ty,pos,af,some (q,b)⟩:=
 fun g=>wU (h g) hg (hl g) (hz g)
theorem da{x:Operand}{v:Value}(hk:atI i (rows g)=some (d,v):=by exact rfl)(hx:qq l i (rows g) E x=some (v):=by exact rfl)(hz:rz (rows g) d N=true:=by exact rfl)(hF:∀S,F g S→F g (up S i):=by exact fun _ h=>h)(hH:∀S,H g (up S i)=H g S:=by exact fun _=>rfl):g9 P l Q W N E F rows H g i ⟨some d,.move x,ty,pos,af,none⟩:=
 sw hk hz hF hH fun S h n p=>eX (jm n p hx)
theorem aU{x:Operand}{v:γ→Value}(hk:∀g,atI i (rows g)=some (d,v g):=by exact fun _=>rfl)(hx:∀g,qq l i (rows g) E x=some (v g):=by exact fun _=>rfl)(hz:∀g,rz (rows g) d N=true:=by exact fun _=>rfl)(hF:∀g S,F g S→F g (up S i):=by exact fun _ _ h=>h)(hH:∀g S,H g (up S i)=H g S:=by exact fun _ _=>rfl):gM P l Q W N E F rows H i ⟨some d,.move x,ty,pos,af,none⟩:=
 fun g=>da (hk g) (hx g) (hz g) (hF g) (hH g)
theorem kj{x:Operand}{v:Value}(hk:atI i (rows g)=some (d,v):=by exact rfl)(hx:qq l i (rows g) E x=some (v):=by exact rfl)(hz:rz (rows g) d N=true:=by exact rfl)(hF:∀S,F g S→F g (up S i):=by exact fun _ h=>h)(hH:∀S,H g (up S i)=H g S:=by exact fun _=>rfl):g9 P l Q W N E F rows H g i ⟨some d,.assign x,ty,pos,af,none⟩:=
 sw hk hz hF hH fun S h n p=>pE (jm n p hx)
theorem fh{x:Operand}{v:γ→Value}(hk:∀g,atI i (rows g)=some (d,v g):=by exact fun _=>rfl)(hx:∀g,qq l i (rows g) E x=some (v g):=by exact fun _=>rfl)(hz:∀g,rz (rows g) d N=true:=by exact fun _=>rfl)(hF:∀g S,F g S→F g (up S i):=by exact fun _ _ h=>h)(hH:∀g S,H g (up S i)=H g S:=by exact fun _ _=>rfl):gM P l Q W N E F rows H i ⟨some d,.assign x,ty,pos,af,none⟩:=
 fun g=>kj (hk g) (hx g) (hz g) (hF g) (hH g)
theorem fx{x:Operand}{q:Addr}(hk:atI i (rows g)=some (d,.pointer (some (q))):=by exact rfl)(hx:qq l i (rows g) E x=some (.pointer (some (q))):=by exact rfl)(hz:rz (rows g) d N=true:=by exact rfl)(hF:∀S,F g S→F g (up S i):=by exact fun _ h=>h)(hH:∀S,H g (up S i)=H g S:=by exact fun _=>rfl):g9 P l Q W N E F rows H g i ⟨some d,.nilCheck x,ty,pos,af,none⟩:=
 sw hk hz hF hH fun S h n p=>nj (jm n p hx)
theorem bW{x:Operand}{q:γ→Addr}(hk:∀g,atI i (rows g)=some (d,.pointer (some (q g))):=by exact fun _=>rfl)(hx:∀g,qq l i (rows g) E x=some (.pointer (some (q g))):=by exact fun _=>rfl)(hz:∀g,rz (rows g) d N=true:=by exact fun _=>rfl)(hF:∀g S,F g S→F g (up S i):=by exact fun _ _ h=>h)(hH:∀g S,H g (up S i)=H g S:=by exact fun _ _=>rfl):gM P l Q W N E F rows H i ⟨some d,.nilCheck x,ty,pos,af,none⟩:=
 fun g=>fx (hk g) (hx g) (hz g) (hF g) (hH g)
theorem dF{s:TypeId}{x:Operand}{f sz:Nat}{fs:Array Field}{fd:Field}{v:Value}(hu:P.underlying s=some (.struct fs))(hf:fs[f]?=some fd)(hsz:∀w,(sizeOf fd.type).run P w=.ok (sz+1) w)(hk:atI i (rows g)=some (d,v):=by exact rfl)(hx:ue fd.offset (qq l i (rows g) E x)=some (v):=by exact rfl)(hz:rz (rows g) d N=true:=by exact rfl)(hF:∀S,F g S→F g (up S i):=by exact fun _ h=>h)(hH:∀S,H g (up S i)=H g S:=by exact fun _=>rfl):g9 P l Q W N E F rows H g i ⟨some d,.fieldAddr s x f,ty,pos,af,none⟩:=
 sw hk hz hF hH fun S h n p=>by
 obtain ⟨b,o,h1,h2⟩:=tC hx
 rw [h2];exact jQ hu hf hsz (jm n p h1) rfl
theorem bL{s:TypeId}{x:Operand}{f sz:Nat}{fs:Array Field}{fd:Field}{v:γ→Value}(hu:P.underlying s=some (.struct fs))(hf:fs[f]?=some fd)(hsz:∀w,(sizeOf fd.type).run P w=.ok (sz+1) w)(hk:∀g,atI i (rows g)=some (d,v g):=by exact fun _=>rfl)(hx:∀g,ue fd.offset (qq l i (rows g) E x)=some (v g):=by exact fun _=>rfl)(hz:∀g,rz (rows g) d N=true:=by exact fun _=>rfl)(hF:∀g S,F g S→F g (up S i):=by exact fun _ _ h=>h)(hH:∀g S,H g (up S i)=H g S:=by exact fun _ _=>rfl):gM P l Q W N E F rows H i ⟨some d,.fieldAddr s x f,ty,pos,af,none⟩:=
 fun g=>dF hu hf hsz (hk g) (hx g) (hz g) (hF g) (hH g)
theorem gG{t:TypeId}{x:Operand}{a:Addr}{v:Value}(hag:∀w,(isAgg t).run P w=.ok false w)(hg:∀S,Gives (H g S) (a) (v))(hk:atI i (rows g)=some (d,v):=by exact rfl)(hx:qq l i (rows g) E x=some (.pointer (some (a))):=by exact rfl)(hz:rz (rows g) d N=true:=by exact rfl)(hF:∀S,F g S→F g (up S i):=by exact fun _ h=>h)(hH:∀S,H g (up S i)=H g S:=by exact fun _=>rfl):g9 P l Q W N E F rows H g i ⟨some d,.load t x,ty,pos,af,none⟩:=
 sw hk hz hF hH fun S h n p=>bP hag (jm n p hx) (hg S)
theorem db{t:TypeId}{x:Operand}{a:γ→Addr}{v:γ→Value}(hag:∀w,(isAgg t).run P w=.ok false w)(hg:∀g,∀S,Gives (H g S) (a g) (v g))(hk:∀g,atI i (rows g)=some (d,v g):=by exact fun _=>rfl)(hx:∀g,qq l i (rows g) E x=some (.pointer (some (a g))):=by exact fun _=>rfl)(hz:∀g,rz (rows g) d N=true:=by exact fun _=>rfl)(hF:∀g S,F g S→F g (up S i):=by exact fun _ _ h=>h)(hH:∀g S,H g (up S i)=H g S:=by exact fun _ _=>rfl):gM P l Q W N E F rows H i ⟨some d,.load t x,ty,pos,af,none⟩:=
 fun g=>gG hag (hg g) (hk g) (hx g) (hz g) (hF g) (hH g)
theorem gI{t:TypeId}{x:Operand}{a:Addr}{v:Value}(hag:∀w,(isAgg t).run P w=.ok false w)(hk:atI i (rows g)=some (d,v))(hx:qq l i (rows g) E x=some (.pointer (some (a))))(hg:∀S,Gives (H g S) (a) (v))(hz:rz (rows g) d N=true:=by exact rfl)(hF:∀S,F g S→F g (up S i):=by exact fun _ h=>h)(hH:∀S,H g (up S i)=H g S:=by exact fun _=>rfl):g9 P l Q W N E F rows H g i ⟨some d,.load t x,ty,pos,af,none⟩:=
 sw hk hz hF hH fun S h n p=>bP hag (jm n p hx) (hg S)
theorem dB{t:TypeId}{x:Operand}{a:γ→Addr}{v:γ→Value}(hag:∀w,(isAgg t).run P w=.ok false w)(hk:∀g,atI i (rows g)=some (d,v g))(hx:∀g,qq l i (rows g) E x=some (.pointer (some (a g))))(hg:∀g,∀S,Gives (H g S) (a g) (v g))(hz:∀g,rz (rows g) d N=true:=by exact fun _=>rfl)(hF:∀g S,F g S→F g (up S i):=by exact fun _ _ h=>h)(hH:∀g S,H g (up S i)=H g S:=by exact fun _ _=>rfl):gM P l Q W N E F rows H i ⟨some d,.load t x,ty,pos,af,none⟩:=
 fun g=>gI hag (hk g) (hx g) (hg g) (hz g) (hF g) (hH g)
theorem x5{t e:TypeId}{ts:Array TypeId}{x:Operand}{bs:Option Addr}{m cp:Nat}(hu:P.underlying t=some (.slice e))(ht:ts[0]?=some t)(hk:atI i (rows g)=some (d,.int .i64 (m)):=by exact rfl)(hx:qq l i (rows g) E x=some (.slice (bs) (m) (cp)):=by exact rfl)(hz:rz (rows g) d N=true:=by exact rfl)(hF:∀S,F g S→F g (up S i):=by exact fun _ h=>h)(hH:∀S,H g (up S i)=H g S:=by exact fun _=>rfl):g9 P l Q W N E F rows H g i ⟨some d,.call {callee:=.builtin .len,args:=#[x],argTypes:=ts},ty,pos,af,none⟩:=
 sw hk hz hF hH fun S h n p=>bC hu ht (jm n p hx)
theorem iT{t e:TypeId}{ts:Array TypeId}{x:Operand}{bs:γ→Option Addr}{m cp:γ→Nat}(hu:P.underlying t=some (.slice e))(ht:ts[0]?=some t)(hk:∀g,atI i (rows g)=some (d,.int .i64 (m g)):=by exact fun _=>rfl)(hx:∀g,qq l i (rows g) E x=some (.slice (bs g) (m g) (cp g)):=by exact fun _=>rfl)(hz:∀g,rz (rows g) d N=true:=by exact fun _=>rfl)(hF:∀g S,F g S→F g (up S i):=by exact fun _ _ h=>h)(hH:∀g S,H g (up S i)=H g S:=by exact fun _ _=>rfl):gM P l Q W N E F rows H i ⟨some d,.call {callee:=.builtin .len,args:=#[x],argTypes:=ts},ty,pos,af,none⟩:=
 fun g=>x5 hu ht (hk g) (hx g) (hz g) (hF g) (hH g)
theorem nu{t e:TypeId}{x y:Operand}{bs:Option Addr}{m cp c sz:Nat}{k:IntKind}{j:Int}(hu:P.underlying t=some (.slice e))(hsz:∀w,(sizeOf e).run P w=.ok sz w)(hk:atI i (rows g)=some (d,.pointer (some (ad (bs) (c)))))(hx:qq l i (rows g) E x=some (.slice (bs) (m) (cp)))(hy:qq l i (rows g) E y=some (.int k (j)))(hq:bB (bs) (m)∧0≤j∧j<m∧(j).toNat*sz=c)(hz:rz (rows g) d N=true:=by exact rfl)(hF:∀S,F g S→F g (up S i):=by exact fun _ h=>h)(hH:∀S,H g (up S i)=H g S:=by exact fun _=>rfl):g9 P l Q W N E F rows H g i ⟨some d,.indexAddr t x y,ty,pos,af,none⟩:=
 sw hk hz hF hH fun S h n p=>ah hu hsz (jm n p hx) (jm n p hy) hq.1 hq.2.1 hq.2.2.1 hq.2.2.2
theorem eJ{t e:TypeId}{x y:Operand}{bs:γ→Option Addr}{m cp c:γ→Nat}{sz:Nat}{k:IntKind}{j:γ→Int}(hu:P.underlying t=some (.slice e))(hsz:∀w,(sizeOf e).run P w=.ok sz w)(hk:∀g,atI i (rows g)=some (d,.pointer (some (ad (bs g) (c g)))))(hx:∀g,qq l i (rows g) E x=some (.slice (bs g) (m g) (cp g)))(hy:∀g,qq l i (rows g) E y=some (.int k (j g)))(hq:∀g,bB (bs g) (m g)∧0≤j g∧j g<m g∧(j g).toNat*sz=c g)(hz:∀g,rz (rows g) d N=true:=by exact fun _=>rfl)(hF:∀g S,F g S→F g (up S i):=by exact fun _ _ h=>h)(hH:∀g S,H g (up S i)=H g S:=by exact fun _ _=>rfl):gM P l Q W N E F rows H i ⟨some d,.indexAddr t x y,ty,pos,af,none⟩:=
 fun g=>nu hu hsz (hk g) (hx g) (hy g) (hq g) (hz g) (hF g) (hH g)
def BY(l:List Oper)(i:Nat)(rows:List (Nat×Nat×Value))(E:List (Nat×Value)):List Nat→Option (List (Nat×Value))
 | []=>some []
 |t::r=>match AJ l i rows E t,BY l i rows E r with
  |some v,some s=>some ((t,v)::s)
  |_,_=>none
theorem rk{S:Nat→Bool}{rows:List (Nat×Nat×Value)}(hn:dA (ik rows)=true)(p:∀k,ny l i k=true→S k=true):∀{ts:List Nat} {small:List (Nat×Value)},BY l i rows E ts=some small→Picks (dj S rows E) small
 | [],small,h=>by obtain rfl:=Option.some.inj h;exact trivial
 |t::r,small,h=>by
  unfold BY at h
  split at h
  ·next v s hv hs=>obtain rfl:=Option.some.inj h;exact ⟨tB hn p hv,rk hn p hs⟩
  ·cases h
section
variable{S:Nat→Bool}{rows rows':List (Nat×Nat×Value)}{small:List (Nat×Value)}{M L:List HP}{ops:Array Oper}{K:Act→World→Prop}{v:Value}
theorem bZ(p:∀k,ny l i k=true→S k=true)(ts:List Nat)(h:BY l i rows E ts=some small)(hn:dA (ik rows)=true)(k:cd K W N (small++dj S rows E) L):cd K W N (dj S rows E) L:=lC (rk hn p h) k
theorem cK(p:∀k,ny l i k=true→S k=true)(hs:S i=false)(k:cd K W N (dj (up S i) rows' E) M)(h:BY l i rows E (small.map (·.1))=some small)(hz:(dA (ik rows) && rz rows' d N)=true)(hk:atI i rows'=some (d,v))
 (ha:AgreeR S rows rows':=by first|exact AgreeR.refl _|repeat (first|exact trivial|refine ⟨.inl rfl,?_⟩|refine ⟨.inr ⟨rfl,rfl,by assumption⟩,?_⟩|refine ⟨.inr ⟨rfl,rfl,nf (by assumption) (by assumption) rfl⟩,?_⟩)):
 cd (gF P ops Q K []) W N ((d,v)::(small++dj S rows E)) M:=by
 unfold rz at hz
 rw [Bool.and_eq_true,Bool.and_eq_true,Bool.and_eq_true] at hz
 obtain ⟨n,hn⟩:=mD hk
 exact iY (rk hz.1 p h) n hz.2.1 hz.2.2.1 hn hs ha k
theorem gE(p:∀k,ny l i k=true→S k=true)(k:cd K W N (dj (up S i) rows E) M)(h:BY l i rows E (small.map (·.1))=some small)(hn:dA (ik rows)=true)(hi:(rows.all fun x=> !Nat.beq x.1 i)=true):
 cd (gF P ops Q K []) W N (small++dj S rows E) M:=wo (rk hn p h) hi k
theorem ti(h:cd K W N E M)(e:∀w,Sat L w→Sat M w:=by exact fun _ h=>h):cd K W N E L:=bO e h
end
theorem ga{o:Oper}(h:∀g,g9 P l Q W N E F rows H g i o):gM P l Q W N E F rows H i o:=h
theorem rr{α β:Type}{f:α→β}:∀g,f g=f g:=fun _=>rfl
end
end Go.Proofs.YtanfdikglplkaaaGreatDoor.Sp
namespace Go.Proofs.YtanfdikglplkaaaGreatDoor.Sp
open Go
theorem eI(m:Nat)(h:m<2^64):(BitVec.ofInt 64 (m:Int)).toNat=m:=by
 simp only [BitVec.toNat_ofInt]
 omega
theorem sd(m a:Nat)(ha:a<64):mY .u64 (m:Int) (a:Int)=((m/2^a:Nat):Int):=by
 unfold mY
 have:min (a:Int).toNat (IntKind.bits .u64)=a:=by simp [IntKind.bits];omega
 rw [this]
 rw [Int.fdiv_eq_ediv_of_nonneg _ (by exact_mod_cast Nat.zero_le _)]
 norm_cast
theorem iy(m:Nat)(h:m<2^64):IntKind.u64.wrap (m:Int)=(m:Int):=nW (by omega) (by omega)
theorem n9(m k:Nat)(hm:m<2^64)(hk:k<2^64):j2 .u64 (m:Int) (k:Int)=((m &&& k:Nat):Int):=by
 unfold j2
 have h1:=eI m hm
 have h2:=eI k hk
 show IntKind.u64.wrap ((BitVec.ofInt 64 (m:Int) &&& BitVec.ofInt 64 (k:Int)).toNat:Int)=_
 rw [BitVec.toNat_and,h1,h2]
 exact iy _ (Nat.lt_of_le_of_lt Nat.and_le_left hm)
theorem uq(m k:Nat)(hm:m<2^64)(hk:k<2^64):AO .u64 (m:Int) (k:Int)=((m |||k:Nat):Int):=by
 unfold AO
 have h1:=eI m hm
 have h2:=eI k hk
 show IntKind.u64.wrap ((BitVec.ofInt 64 (m:Int) |||BitVec.ofInt 64 (k:Int)).toNat:Int)=_
 rw [BitVec.toNat_or,h1,h2]
 exact iy _ (Nat.or_lt_two_pow hm hk)
theorem r8(a:Nat)(ha:a<64):pt .u64 1 (a:Int)=((2^a:Nat):Int):=by
 unfold pt
 have:min (a:Int).toNat (IntKind.bits .u64)=a:=by simp [IntKind.bits];omega
 rw [this,Int.one_mul]
 have h:2^a<2^64:=Nat.pow_lt_pow_right (by omega) ha
 have:=iy (2^a) h
 push_cast at this⊢
 exact this
theorem sM(m k:Nat)(hm:m<2^64)(hk:k<2^64):∃r:Nat,nF .u64 (m:Int) (k:Int)=(r:Int)∧r<2^64∧∀i,r.testBit i=(m.testBit i && !k.testBit i):=by
 have h1:=eI m hm
 have h2:=eI k hk
 have hlt:(BitVec.ofInt 64 (m:Int) &&& ~~~(BitVec.ofInt 64 (k:Int))).toNat<2^64:=BitVec.isLt _
 refine ⟨(BitVec.ofInt 64 (m:Int) &&& ~~~(BitVec.ofInt 64 (k:Int))).toNat,?_,hlt,fun i=>?_⟩
 ·unfold nF
  exact iy _ hlt
 ·simp only [BitVec.toNat_and,BitVec.toNat_not,h1,h2,Nat.testBit_and]
  by_cases hi:i<64
  ·rw [show (2:Nat)^64-1-k=2^64- (k+1) from by omega,Nat.testBit_two_pow_sub_succ hk]
   simp [hi]
  ·have:m.testBit i=false:=Nat.testBit_lt_two_pow (Nat.lt_of_lt_of_le hm (Nat.pow_le_pow_right (by omega) (by omega)))
   simp [this]
theorem Af(m a:Nat)(ha:a<64)(hm:m<2^64):(j2 .u64 (mY .u64 (m:Int) (a:Int)) 1==1)=m.testBit a:=by
 rw [sd m a ha]
 have h1:=n9 (m/2^a) 1 (Nat.lt_of_le_of_lt (Nat.div_le_self _ _) hm) (by decide)
 have h1':j2 .u64 ((m/2^a:Nat):Int) 1=((m/2^a &&& 1:Nat):Int):=h1
 rw [h1']
 rw [Nat.testBit_eq_decide_div_mod_eq,Nat.and_one_is_mod]
 generalize m/2^a%2=r
 rcases Decidable.em (r=1) with e|e
 ·simp [e]
 ·have:((r:Int)==1)=false:=by rw [beq_eq_false_iff_ne];omega
  simp [this,e]
theorem yJ(m a:Nat)(ha:a<64)(hm:m<2^64):AO .u64 (m:Int) (pt .u64 1 (a:Int))=((m |||2^a:Nat):Int):=by
 rw [r8 a ha]
 exact uq m (2^a) hm (Nat.pow_lt_pow_right (by omega) ha)
theorem uj(m a:Nat)(ha:a<64)(hm:m<2^64):m |||2^a<2^64:=Nat.or_lt_two_pow hm (Nat.pow_lt_pow_right (by omega) ha)
theorem vB(m a i:Nat):(m |||2^a).testBit i=(m.testBit i ||decide (i=a)):=by
 rw [Nat.testBit_or,Nat.testBit_two_pow]
 congr 1
 rw [decide_eq_decide];exact eq_comm
end Go.Proofs.YtanfdikglplkaaaGreatDoor.Sp
namespace Go.Proofs.YtanfdikglplkaaaGreatDoor.Sp
open Go
def eU(p:Int→Bool)(xs:List Int):Int:=if xs.findIdx p<xs.length then ((xs.findIdx p:Nat):Int) else -1
theorem uB{p:Int→Bool}{xs:List Int}{k:Nat}(hk:k<xs.length)(hp:p (xs.getD k 0)=true)(ha:∀j,j<k→p (xs.getD j 0)=false):eU p xs=(k:Int):=by
 have e:xs.findIdx p=k:=by
  rw [List.findIdx_eq hk]
  refine ⟨by simpa [List.getD,hk] using hp,fun j hj=>?_⟩
  have:=ha j hj
  have hj':j<xs.length:=by omega
  simpa [List.getD,hj'] using this
 unfold eU
 rw [e,if_pos hk]
theorem qb{p:Int→Bool}{xs:List Int}(ha:∀j,j<xs.length→p (xs.getD j 0)=false):eU p xs= -1:=by
 unfold eU
 rw [if_neg]
 intro h
 have h1:=List.findIdx_getElem (w:=h)
 have h2:=ha _ h
 simp [List.getD,h] at h2
 rw [h1] at h2;cases h2
theorem oN(p:Int→Bool)(xs:List Int):decide (eU p xs≥0)=xs.any p:=by
 unfold eU
 by_cases h:xs.findIdx p<xs.length
 ·rw [if_pos h]
  have h1:=List.findIdx_getElem (w:=h)
  have:xs.any p=true:=List.any_eq_true.2 ⟨_,List.getElem_mem h,h1⟩
  rw [this];simp
 ·rw [if_neg h]
  have:xs.any p=false:=by
   rw [List.any_eq_false]
   intro x hx hp
   exact h (List.findIdx_lt_length.2 ⟨x,hx,hp⟩)
  rw [this];rfl
end Go.Proofs.YtanfdikglplkaaaGreatDoor.Sp
namespace Go.Proofs.YtanfdikglplkaaaGreatDoor.Sp
open Go
abbrev Es:=List (Int×Int)
def cP(es:Es)(a:Int):List Int:=(es.filter fun e=>e.1==a).map (·.2)
def cg(es:Es)(b:Int):List Int:=(es.filter fun e=>e.2==b).map (·.1)
def fL(l:List Int):Nat:=l.foldl (fun m b=>m |||2^b.toNat) 0
structure GOk(N:Nat)(es:Es):Prop where
 small:N≤64
 nodup:es.Nodup
 inn:∀e∈es,0≤e.1∧e.1<N∧0≤e.2∧e.2<N
inductive Rch(es:Es)(a:Int):Int→Prop
 |refl:Rch es a a
 |step {b c:Int}:Rch es a b→(b,c)∈es→Rch es a c
open Classical in
noncomputable def rch(es:Es)(a b:Int):Bool:=decide (Rch es a b)
theorem rch_iff{es:Es}{a b:Int}:rch es a b=true↔Rch es a b:=by unfold rch;simp
theorem Rch.trans{es:Es}{a b c:Int}(h:Rch es a b)(k:Rch es b c):Rch es a c:=by
 induction k with
 |refl=>exact h
 |step _ he ih=>exact ih.step he
theorem Rch.inn{N:Nat}{es:Es}(h:GOk N es){a b:Int}(ha:0≤a∧a<N)(k:Rch es a b):0≤b∧b<N:=by
 cases k with
 |refl=>exact ha
 |step _ he=>exact ⟨(h.inn _ he).2.2.1,(h.inn _ he).2.2.2⟩
theorem mem_outs{es:Es}{a b:Int}:b∈cP es a↔(a,b)∈es:=by
 simp only [cP,List.mem_map,List.mem_filter,beq_iff_eq]
 constructor
 ·rintro ⟨⟨x,y⟩,⟨h,rfl⟩,rfl⟩;exact h
 ·intro h;exact ⟨(a,b),⟨h,rfl⟩,rfl⟩
theorem mem_inns{es:Es}{a b:Int}:a∈cg es b↔(a,b)∈es:=by
 simp only [cg,List.mem_map,List.mem_filter,beq_iff_eq]
 constructor
 ·rintro ⟨⟨x,y⟩,⟨h,rfl⟩,rfl⟩;exact h
 ·intro h;exact ⟨(a,b),⟨h,rfl⟩,rfl⟩
theorem mQ(es:Es)(a b c:Int):cP (es++[(a,b)]) c=if a=c then cP es c++[b] else cP es c:=by
 unfold cP
 rw [List.filter_append,List.map_append]
 split
 ·rename_i h;subst h;simp
 ·rename_i h;simp [h]
theorem pX(es:Es)(a b c:Int):cg (es++[(a,b)]) c=if b=c then cg es c++[a] else cg es c:=by
 unfold cg
 rw [List.filter_append,List.map_append]
 split
 ·rename_i h;subst h;simp
 ·rename_i h;simp [h]
theorem tS(l:List Int)(b:Int):fL (l++[b])=fL l |||2^b.toNat:=by simp [fL]
theorem we(l:List Int)(hl:∀x∈l,0≤x)(i:Nat):(fL l).testBit i=true↔(i:Int)∈l:=by
 unfold fL
 have key:∀(l:List Int) (m:Nat),(∀x∈l,0≤x)→((l.foldl (fun m b=>m |||2^b.toNat) m).testBit i=true↔m.testBit i=true∨(i:Int)∈l):=by
  intro l
  induction l with
  |nil=>intro m _;simp
  |cons x l ih=>
   intro m h
   rw [List.foldl_cons,ih _ (fun y hy=>h y (List.mem_cons_of_mem _ hy)),Nat.testBit_or,Nat.testBit_two_pow,List.mem_cons]
   have h0:=h x (List.mem_cons_self ..)
   simp only [Bool.or_eq_true,decide_eq_true_eq]
   constructor
   ·rintro ((h1|h1)|h1)
    ·exact .inl h1
    ·exact .inr (.inl (by omega))
    ·exact .inr (.inr h1)
   ·rintro (h1|h1|h1)
    ·exact .inl (.inl h1)
    ·exact .inl (.inr (by omega))
    ·exact .inr h1
 rw [key l 0 hl]
 simp
theorem xw(l:List Int)(hl:∀x∈l,0≤x∧x<64):fL l<2^64:=by
 unfold fL
 have key:∀(l:List Int) (m:Nat),m<2^64→(∀x∈l,0≤x∧x<64)→l.foldl (fun m b=>m |||2^b.toNat) m<2^64:=by
  intro l
  induction l with
  |nil=>exact fun m hm _=>hm
  |cons x l ih=>
   intro m hm h
   have h0:=h x (List.mem_cons_self ..)
   exact ih _ (Nat.or_lt_two_pow hm (Nat.pow_lt_pow_right (by omega) (by omega))) (fun y hy=>h y (List.mem_cons_of_mem _ hy))
 exact key l 0 (by omega) hl
theorem GOk.outs_inn{N:Nat}{es:Es}(h:GOk N es){a x:Int}(hx:x∈cP es a):0≤x∧x<N:=by
 have:=h.inn _ (mem_outs.1 hx);exact ⟨this.2.2.1,this.2.2.2⟩
theorem GOk.inns_inn{N:Nat}{es:Es}(h:GOk N es){a x:Int}(hx:x∈cg es a):0≤x∧x<N:=by
 have:=h.inn _ (mem_inns.1 hx);exact ⟨this.1,this.2.1⟩
theorem GOk.mask_lt{N:Nat}{es:Es}(h:GOk N es)(a:Int):fL (cP es a)<2^64:=
 xw _ fun x hx=>by have:=h.outs_inn hx;have:=h.small;omega
theorem GOk.mask_bit{N:Nat}{es:Es}(h:GOk N es)(a:Int)(i:Nat):(fL (cP es a)).testBit i=true↔(a,(i:Int))∈es:=by
 rw [we _ (fun x hx=>(h.outs_inn hx).1),mem_outs]
theorem GOk.snoc{N:Nat}{es:Es}(h:GOk N es){a b:Int}(ha:0≤a∧a<N)(hb:0≤b∧b<N)(hn:(a,b) ∉ es):GOk N (es++[(a,b)]):=by
 refine ⟨h.small,?_,fun e he=>?_⟩
 ·rw [List.nodup_append]
  exact ⟨h.nodup,by simp,fun x hx y hy=>by simp at hy;subst hy;intro e;subst e;exact hn hx⟩
 ·rcases List.mem_append.1 he with he|he
  ·exact h.inn e he
  ·simp at he;subst he;exact ⟨ha.1,ha.2,hb.1,hb.2⟩
theorem tI{es:Es}(h:es.Nodup)(a:Int):(cP es a).Nodup:=by
 unfold cP
 induction es with
 |nil=>simp
 |cons e es ih=>
  have hn:=List.nodup_cons.1 h
  rw [List.filter_cons]
  split
  ·rename_i he
   rw [List.map_cons,List.nodup_cons]
   refine ⟨fun hm=>?_,ih hn.2⟩
   obtain ⟨x,hx,hxe⟩:=List.mem_map.1 hm
   obtain ⟨hx1,hx2⟩:=List.mem_filter.1 hx
   have:x=e:=by
    obtain ⟨x1,x2⟩:=x;obtain ⟨e1,e2⟩:=e
    simp only [beq_iff_eq] at he hx2
    simp only at hxe
    subst hxe;rw [hx2,he]
   exact hn.1 (this▸hx1)
  ·exact ih hn.2
theorem tN{es:Es}(h:es.Nodup)(a:Int):(cg es a).Nodup:=by
 unfold cg
 induction es with
 |nil=>simp
 |cons e es ih=>
  have hn:=List.nodup_cons.1 h
  rw [List.filter_cons]
  split
  ·rename_i he
   rw [List.map_cons,List.nodup_cons]
   refine ⟨fun hm=>?_,ih hn.2⟩
   obtain ⟨x,hx,hxe⟩:=List.mem_map.1 hm
   obtain ⟨hx1,hx2⟩:=List.mem_filter.1 hx
   have:x=e:=by
    obtain ⟨x1,x2⟩:=x;obtain ⟨e1,e2⟩:=e
    simp only [beq_iff_eq] at he hx2
    simp only at hxe
    subst hxe;rw [hx2,he]
   exact hn.1 (this▸hx1)
  ·exact ih hn.2
theorem lY:∀(N:Nat) (l:List Nat),l.Nodup→(∀x∈l,x<N)→l.length≤N
 |0,l,_,h=>by
  cases l with
  |nil=>simp
  |cons x l=>exact absurd (h x (List.mem_cons_self ..)) (by omega)
 |N+1,l,hn,h=>by
  have ih:=lY N (l.erase N) (hn.erase N) (fun x hx=>by
   have h1:=(hn.mem_erase_iff).1 hx
   have:=h x h1.2
   omega)
  have:=List.length_erase_le (a:=N) (l:=l)
  have h2:l.length≤(l.erase N).length+1:=by rw [List.length_erase];split <;>omega
  omega
theorem ma{l:List Int}(h:l.Nodup){N:Nat}(hi:∀x∈l,0≤x∧x<N):l.length≤N:=by
 have h1:(l.map Int.toNat).Nodup:=by
  rw [List.nodup_iff_pairwise_ne,List.pairwise_map]
  refine List.Pairwise.imp_of_mem ?_ (List.nodup_iff_pairwise_ne.1 h)
  intro x y hx hy hne e
  have:=hi x hx;have:=hi y hy
  omega
 have:=lY N (l.map Int.toNat) h1 (fun x hx=>by
  obtain ⟨y,hy,rfl⟩:=List.mem_map.1 hx
  have:=hi y hy
  omega)
 simpa using this
theorem GOk.outs_le{N:Nat}{es:Es}(h:GOk N es)(a:Int):(cP es a).length≤64:=
 Nat.le_trans (ma (tI h.nodup a) (fun _ hx=>h.outs_inn hx)) h.small
theorem GOk.inns_le{N:Nat}{es:Es}(h:GOk N es)(a:Int):(cg es a).length≤64:=
 Nat.le_trans (ma (tN h.nodup a) (fun _ hx=>h.inns_inn hx)) h.small
def lA(v:Value)(xs:List Int):HP:=fun f=> ∃bs cp,(bB bs xs.length∧xs.length≤cp∧v=.slice bs xs.length cp)∧SlV 3 1 (.slice bs xs.length cp) xs.length (aF .i64 xs) f
def fV(vs:List Value)(xss:List (List Int)):List HP:=List.zipWith lA vs xss
section
variable{K:Act→World→Prop}{W:World}{N:Nat}{E:List (Nat×Value)}{L:List HP}
theorem Sat.openI{v:Value}{xs:List Int}{w:World}(h:Sat (lA v xs::L) w):∃bs cp,bB bs xs.length∧xs.length≤cp∧v=.slice bs xs.length cp∧Sat (SlV 3 1 (.slice bs xs.length cp) xs.length (aF .i64 xs)::L) w:=by
 obtain ⟨_,⟨f1,f2,rfl,⟨bs,cp,⟨h1,h2,h3⟩,h4⟩,hl⟩,hh⟩:=h
 exact ⟨bs,cp,h1,h2,h3,_,⟨f1,f2,rfl,h4,hl⟩,hh⟩
theorem Sat.shutI{bs:Option Addr}{cp:Nat}{xs:List Int}{w:World}(h1:bB bs xs.length)(h2:xs.length≤cp)(h:Sat (SlV 3 1 (.slice bs xs.length cp) xs.length (aF .i64 xs)::L) w):Sat (lA (.slice bs xs.length cp) xs::L) w:=
 h.imp fun _ hf=>⟨bs,cp,⟨h1,h2,rfl⟩,hf⟩
theorem Sat.shutIn{bs:Option Addr}{cp n:Nat}{xs:List Int}{w:World}(hn:xs.length=n)(h1:bB bs n)(h2:n≤cp)(h:Sat (SlV 3 1 (.slice bs n cp) n (aF .i64 xs)::L) w):Sat (lA (.slice bs n cp) xs::L) w:=by
 subst hn;exact h.shutI h1 h2
theorem o8{vs:List Value}{xss:List (List Int)}(h:vs.length=xss.length){a:Nat}(ha:a<vs.length):
 (fV vs xss).Perm (lA (vs.getD a undef) (xss.getD a [])::fV (vs.eraseIdx a) (xss.eraseIdx a)):=by
 induction vs generalizing xss a with
 |nil=>simp at ha
 |cons v vs ih=>
  cases xss with
  |nil=>simp at h
  |cons xs xss=>
   cases a with
   |zero=>simp [fV]
   |succ a=>
    have:=ih (xss:=xss) (by simpa using h) (a:=a) (by simpa using ha)
    simp only [fV,List.zipWith_cons_cons,List.getD_cons_succ,List.eraseIdx_cons_succ] at this⊢
    exact (List.Perm.cons _ this).trans (.swap _ _ _)
theorem Sat.takeRow{vs:List Value}{xss:List (List Int)}{w:World}(h:vs.length=xss.length){a:Nat}(ha:a<vs.length)(hs:Sat (cI (fV vs xss)::L) w):
 Sat (lA (vs.getD a undef) (xss.getD a [])::cI (fV (vs.eraseIdx a) (xss.eraseIdx a))::L) w:=by
 have h1:=(Sat.join.1 hs).perm ((o8 h ha).append_right L)
 rw [List.cons_append] at h1
 have h2:Sat (fV (vs.eraseIdx a) (xss.eraseIdx a)++(lA (vs.getD a undef) (xss.getD a [])::L)) w:=h1.perm List.perm_middle.symm
 exact (Sat.join.2 h2).perm (.swap _ _ _)
theorem Sat.putRow{vs:List Value}{xss:List (List Int)}{w:World}(h:vs.length=xss.length){a:Nat}(ha:a<vs.length){v:Value}{xs:List Int}
 (hs:Sat (lA v xs::cI (fV (vs.eraseIdx a) (xss.eraseIdx a))::L) w):Sat (cI (fV (vs.set a v) (xss.set a xs))::L) w:=by
 have h1:=Sat.join.1 (hs.perm (.swap _ _ _))
 have h2:=h1.perm List.perm_middle
 have hp:=o8 (vs:=vs.set a v) (xss:=xss.set a xs) (by simpa using h) (a:=a) (by simpa using ha)
 have e1:(vs.set a v).getD a undef=v:=by simp [List.getD,ha]
 have e2:(xss.set a xs).getD a []=xs:=by simp [List.getD,←h,ha]
 rw [e1,e2,List.eraseIdx_set_eq,List.eraseIdx_set_eq] at hp
 rw [←List.cons_append] at h2
 exact Sat.join.2 (h2.perm (hp.symm.append_right L))
def dX(N:Nat)(f:Int→List Int):List (List Int):=(List.range N).map fun i:Nat=>f (i:Int)
theorem fM(N:Nat)(f:Int→List Int):(dX N f).length=N:=by simp [dX]
theorem jE{N:Nat}{f:Int→List Int}{a:Nat}(h:a<N):(dX N f).getD a []=f (a:Int):=by simp [dX,List.getD,h]
theorem oY{N:Nat}{f g:Int→List Int}{a:Nat}(hg:∀i:Nat,i≠a→g (i:Int)=f (i:Int)):dX N g=(dX N f).set a (g (a:Int)):=by
 apply List.ext_getElem
 ·simp [dX]
 ·intro i h1 h2
  simp only [dX,List.getElem_map,List.getElem_range,List.getElem_set]
  split
  ·rename_i e;rw [←e]
  ·rename_i e;exact hg i (fun h=>e h.symm)
def eY(N:Nat)(es:Es):List Int:=(List.range N).map fun i:Nat=>((fL (cP es (i:Int)):Nat):Int)
theorem eC(N:Nat)(es:Es):(eY N es).length=N:=by simp [eY]
theorem ic{N:Nat}{es:Es}{a:Nat}(h:a<N):(eY N es).getD a 0=((fL (cP es (a:Int)):Nat):Int):=by simp [eY,List.getD,h]
theorem qD{N:Nat}{es:Es}{a:Nat}{b:Int}:eY N (es++[((a:Int),b)])=(eY N es).set a (((fL (cP es (a:Int)) |||2^b.toNat:Nat):Nat):Int):=by
 apply List.ext_getElem
 ·simp [eY]
 ·intro i h1 h2
  simp only [eY,List.getElem_map,List.getElem_range,List.getElem_set,mQ]
  split
  ·rename_i e;rw [if_pos (by omega),tS]
   have:(a:Int)=(i:Int):=e
   rw [this]
  ·rename_i e;rw [if_neg (by omega)]
def ri(p N:Nat)(es:Es)(bo:Option Addr)(co:Nat)(bi:Option Addr)(ci:Nat)(bt:Option Addr)(ct:Nat)(vo vi:List Value):List HP:=
 [bI p [.slice bo N co,.slice bi N ci,.slice bt N ct,.int .i64 (es.length:Int)] 126,
  SlV 34 1 (.slice bo N co) N vo,SlV 34 1 (.slice bi N ci) N vi,SlV 166 1 (.slice bt N ct) N (aF .u64 (eY N es)),
  cI (fV vo (dX N (cP es))),cI (fV vi (dX N (cg es)))]
structure GFacts(N:Nat)(es:Es)(bo bi bt:Option Addr)(vo vi:List Value):Prop where
 ok:GOk N es
 oko:bB bo N
 oki:bB bi N
 okt:bB bt N
 lo:vo.length=N
 li:vi.length=N
def aT(p N:Nat)(es:Es):HP:=fun f=> ∃bo co bi ci bt ct vo vi,GFacts N es bo bi bt vo vi∧Parts (ri p N es bo co bi ci bt ct vo vi) f
theorem Sat.openG{p n:Nat}{es:Es}{w:World}(h:Sat (aT p n es::L) w):∃bo co bi ci bt ct vo vi,GFacts n es bo bi bt vo vi∧Sat (ri p n es bo co bi ci bt ct vo vi++L) w:=by
 obtain ⟨_,⟨f1,f2,rfl,⟨bo,co,bi,ci,bt,ct,vo,vi,h1,h2⟩,hl⟩,hh⟩:=h
 exact ⟨bo,co,bi,ci,bt,ct,vo,vi,h1,_,Parts.append h2 hl,hh⟩
theorem Sat.shutG{p n:Nat}{es:Es}{w:World}{bo:Option Addr}{co:Nat}{bi:Option Addr}{ci:Nat}{bt:Option Addr}{ct:Nat}{vo vi:List Value}(h:GFacts n es bo bi bt vo vi)(hs:Sat (ri p n es bo co bi ci bt ct vo vi++L) w):Sat (aT p n es::L) w:=by
 obtain ⟨f,hp,hh⟩:=hs
 obtain ⟨f1,f2,rfl,h1,h2⟩:=Parts.split hp
 exact ⟨_,⟨f1,f2,rfl,⟨bo,co,bi,ci,bt,ct,vo,vi,h,h1⟩,h2⟩,hh⟩
theorem jj{p n:Nat}{es:Es}(k:∀bo co bi ci bt ct vo vi,GFacts n es bo bi bt vo vi→cd K W N E (bI p [.slice bo n co,.slice bi n ci,.slice bt n ct,.int .i64 (es.length:Int)] 126::SlV 34 1 (.slice bo n co) n vo::SlV 34 1 (.slice bi n ci) n vi::SlV 166 1 (.slice bt n ct) n (aF .u64 (eY n es))::cI (fV vo (dX n (cP es)))::cI (fV vi (dX n (cg es)))::L)):cd K W N E (aT p n es::L):=fun a w s=>by
 obtain ⟨bo,co,bi,ci,bt,ct,vo,vi,h1,h2⟩:=s.sat.openG
 exact k bo co bi ci bt ct vo vi h1 a w ⟨s.size,s.defers,s.env,h2,s.ext⟩
theorem iw{p n:Nat}{es:Es}{bo:Option Addr}{co:Nat}{bi:Option Addr}{ci:Nat}{bt:Option Addr}{ct:Nat}{vo vi:List Value}(h:GFacts n es bo bi bt vo vi)(k:cd K W N E (aT p n es::L)):cd K W N E (bI p [.slice bo n co,.slice bi n ci,.slice bt n ct,.int .i64 (es.length:Int)] 126::SlV 34 1 (.slice bo n co) n vo::SlV 34 1 (.slice bi n ci) n vi::SlV 166 1 (.slice bt n ct) n (aF .u64 (eY n es))::cI (fV vo (dX n (cP es)))::cI (fV vi (dX n (cg es)))::L):=
 bO (fun _ hs=>hs.shutG h) k
theorem uZ{v:Value}{xs:List Int}(k:∀bs cp,bB bs xs.length→xs.length≤cp→v=.slice bs xs.length cp→cd K W N E (SlV 3 1 (.slice bs xs.length cp) xs.length (aF .i64 xs)::L)):cd K W N E (lA v xs::L):=fun a w s=>by
 obtain ⟨bs,cp,h1,h2,h3,h4⟩:=s.sat.openI
 exact k bs cp h1 h2 h3 a w ⟨s.size,s.defers,s.env,h4,s.ext⟩
theorem A8{vs:List Value}{xss:List (List Int)}(hm:cI (fV vs xss)∈L)(h:vs.length=xss.length){a:Nat}(ha:a<vs.length){w0:World}(hs0:Sat L w0):
 ∃bs cp,bB bs (xss.getD a []).length∧(xss.getD a []).length≤cp∧vs.getD a undef=.slice bs (xss.getD a []).length cp∧Rd L bs (aF .i64 (xss.getD a [])):=by
 obtain ⟨L1,L2,rfl⟩:=List.append_of_mem hm
 have front:∀w,Sat (L1++cI (fV vs xss)::L2) w→Sat (lA (vs.getD a undef) (xss.getD a [])::cI (fV (vs.eraseIdx a) (xss.eraseIdx a))::(L1++L2)) w:=fun w hs=>
  (hs.perm List.perm_middle).takeRow h ha
 obtain ⟨bs,cp,h1,h2,h3,_⟩:=(front w0 hs0).openI
 refine ⟨bs,cp,h1,h2,h3,fun w hs=>?_⟩
 obtain ⟨bs',cp',_,_,h3',h4'⟩:=(front w hs).openI
 rw [h3] at h3'
 cases h3'
 exact cj (List.mem_cons_self ..) w h4'
theorem uf{vs:List Value}{xss:List (List Int)}(hm:cI (fV vs xss)∈L)(h:vs.length=xss.length){a:Nat}(ha:a<vs.length)
 (k:∀bs cp,bB bs (xss.getD a []).length→(xss.getD a []).length≤cp→vs.getD a undef=.slice bs (xss.getD a []).length cp→Rd L bs (aF .i64 (xss.getD a []))→cd K W N E L):cd K W N E L:=fun c w s=>by
 obtain ⟨bs,cp,h1,h2,h3,h4⟩:=A8 hm h ha s.sat
 exact k bs cp h1 h2 h3 h4 c w s
def fN(N:Nat)(ts:List Int):Bool:= !ts.any fun a=>decide (a<0) ||decide (a≥(N:Int))
theorem fH{p n:Nat}{es:Es}{w:World}(h:Sat (aT p n es::L) w):GOk n es:=by
 obtain ⟨_,_,_,_,_,_,_,_,h1,_⟩:=h.openG;exact h1.ok
end
def valid(N:Nat)(a:Int):Bool:=decide (0≤a) && decide (a< (N:Int))
def iv(es:Es)(e:Int×Int):Bool:=es.contains e
def iM(N:Nat)(es:Es)(a b:Int):Bool:=valid N a && valid N b && !es.contains (a,b)
def mC(N:Nat)(es:Es)(a b:Int):Es:=bif iM N es a b then es++[(a,b)] else es
def jb(N:Nat)(a b:Int):Int:=bif valid N a && valid N b then 0 else 1
def cT(n:Int):Nat:=(min (max n 0) 64).toNat
noncomputable def cQ(N:Nat)(es:Es)(a b:Int):Bool:=valid N a && valid N b && rch es a b
noncomputable def cw(N:Nat)(es:Es)(a:Int):List Int:=bif valid N a then ((List.range N).filter fun i:Nat=>rch es a (i:Int)).map fun i:Nat=>(i:Int) else []
theorem valid_iff{N:Nat}{a:Int}:valid N a=true↔0≤a∧a<N:=by simp [valid]
theorem ek{N a:Nat}(h:a<N):valid N (a:Int)=true:=valid_iff.2 ⟨by omega,by omega⟩
theorem m8(N:Nat)(a:Int)(l:List Int):fN N (a::l)=(valid N a && fN N l):=by
 unfold fN valid
 rw [List.any_cons,Bool.not_or]
 congr 1
 rw [Bool.eq_iff_iff];simp
theorem tq(N:Nat):fN N []=true:=rfl
theorem nY(N:Nat)(a:Int):fN N [a]=valid N a:=by rw [m8,tq,Bool.and_true]
theorem sE(N:Nat)(a b:Int):fN N [a,b]=(valid N a && valid N b):=by rw [m8,nY]
theorem nR{N a:Nat}(h:a<N):fN N [(a:Int)]=true:=by rw [nY];exact ek h
theorem lP{N a b:Nat}(h:a<N)(k:b<N):fN N [(a:Int),(b:Int)]=true:=by rw [sE,ek h,ek k];rfl
theorem ku(N:Nat)(a:Int):(∃k:Nat,k<N∧a=(k:Int))∨valid N a=false:=by
 cases h:valid N a with
 |false=>exact .inr rfl
 |true=>obtain ⟨h1,h2⟩:=valid_iff.1 h;exact .inl ⟨a.toNat,by omega,by omega⟩
theorem jL(N:Nat)(a b:Int):(∃k m:Nat,k<N∧m<N∧a=(k:Int)∧b=(m:Int))∨(fN N [a,b]=false∧(valid N a && valid N b)=false):=by
 rw [sE]
 rcases ku N a with ⟨k,hk,rfl⟩|h
 ·rcases ku N b with ⟨m,hm,rfl⟩|h'
  ·exact .inl ⟨k,m,hk,hm,rfl,rfl⟩
  ·exact .inr (by simp [h'])
 ·exact .inr (by simp [h])
theorem jK(N:Nat)(a:Int):(∃k:Nat,k<N∧a=(k:Int))∨(fN N [a]=false∧valid N a=false):=by
 rw [nY]
 rcases ku N a with h|h
 ·exact .inl h
 ·exact .inr ⟨h,h⟩
theorem GOk.valid{N:Nat}{es:Es}(h:GOk N es){a b:Int}(he:(a,b)∈es):Sp.valid N a=true∧Sp.valid N b=true:=by
 have:=h.inn _ he
 exact ⟨valid_iff.2 ⟨this.1,this.2.1⟩,valid_iff.2 ⟨this.2.2.1,this.2.2.2⟩⟩
theorem GOk.hasE_bit{N:Nat}{es:Es}(h:GOk N es)(a b:Nat):(fL (cP es (a:Int))).testBit b=iv es ((a:Int),(b:Int)):=by
 rw [Bool.eq_iff_iff,h.mask_bit];simp [iv]
theorem GOk.hasE_f{N:Nat}{es:Es}(h:GOk N es){a b:Int}(hv:(Sp.valid N a && Sp.valid N b)=false):iv es (a,b)=false:=by
 cases hb:iv es (a,b) with
 |false=>rfl
 |true=>
  have:=h.valid (a:=a) (b:=b) (by simpa [iv] using hb)
  rw [this.1,this.2] at hv;cases hv
theorem Bl{N:Nat}{es:Es}(h:GOk N es){a:Int}(hv:valid N a=false):cP es a=[]:=by
 unfold cP
 rw [List.map_eq_nil_iff,List.filter_eq_nil_iff]
 intro e he hc
 have:=(h.valid (a:=e.1) (b:=e.2) he).1
 simp only [beq_iff_eq] at hc
 rw [hc,hv] at this;cases this
theorem Bu{N:Nat}{es:Es}(h:GOk N es){a:Int}(hv:valid N a=false):cg es a=[]:=by
 unfold cg
 rw [List.map_eq_nil_iff,List.filter_eq_nil_iff]
 intro e he hc
 have:=(h.valid (a:=e.1) (b:=e.2) he).2
 simp only [beq_iff_eq] at hc
 rw [hc,hv] at this;cases this
theorem GOk.len_le{N:Nat}{es:Es}(h:GOk N es):es.length≤4096:=by
 have h1:(es.map fun e=>e.1*64+e.2).Nodup:=by
  rw [List.nodup_iff_pairwise_ne,List.pairwise_map]
  refine List.Pairwise.imp_of_mem ?_ (List.nodup_iff_pairwise_ne.1 h.nodup)
  intro x y hx hy hne e
  have:=h.inn x hx;have:=h.inn y hy;have:=h.small
  apply hne
  obtain ⟨x1,x2⟩:=x;obtain ⟨y1,y2⟩:=y
  simp only at*
  have:x1=y1:=by omega
  have:x2=y2:=by omega
  subst_vars;rfl
 have:=ma h1 (N:=4096) (fun x hx=>by
  obtain ⟨e,he,rfl⟩:=List.mem_map.1 hx
  have:=h.inn e he;have:=h.small
  omega)
 simpa using this
theorem yv{N:Nat}{es:Es}{a b:Nat}(ha:a<N)(hb:b<N)(h:iv es ((a:Int),(b:Int))=false):mC N es a b=es++[((a:Int),(b:Int))]∧iM N es a b=true∧jb N a b=0:=by
 have h1:iM N es a b=true:=by
  unfold iM;rw [ek ha,ek hb]
  simpa [iv] using h
 refine ⟨by unfold mC;rw [h1];rfl,h1,?_⟩
 unfold jb;rw [ek ha,ek hb];rfl
theorem xi{N:Nat}{es:Es}{a b:Nat}(ha:a<N)(hb:b<N)(h:iv es ((a:Int),(b:Int))=true):mC N es a b=es∧iM N es a b=false∧jb N a b=0:=by
 have h1:iM N es a b=false:=by
  unfold iM;rw [ek ha,ek hb]
  simpa [iv] using h
 refine ⟨by unfold mC;rw [h1];rfl,h1,?_⟩
 unfold jb;rw [ek ha,ek hb];rfl
theorem yr{N:Nat}{es:Es}{a b:Int}(h:(valid N a && valid N b)=false):mC N es a b=es∧iM N es a b=false∧jb N a b=1:=by
 have h1:iM N es a b=false:=by unfold iM;rw [h];rfl
 refine ⟨by unfold mC;rw [h1];rfl,h1,?_⟩
 unfold jb;rw [h];rfl
theorem oy(N:Nat)(es:Es)(a:Nat)(b:Int):(dX N (cP es)).set a (cP es (a:Int)++[b])=dX N (cP (es++[((a:Int),b)])):=by
 have:=oY (N:=N) (f:=cP es) (g:=cP (es++[((a:Int),b)])) (a:=a) (fun i hi=>by rw [mQ,if_neg (by omega)])
 rw [this,mQ,if_pos rfl]
theorem oW(N:Nat)(es:Es)(a:Int)(b:Nat):(dX N (cg es)).set b (cg es (b:Int)++[a])=dX N (cg (es++[(a,(b:Int))])):=by
 have:=oY (N:=N) (f:=cg es) (g:=cg (es++[(a,(b:Int))])) (a:=b) (fun i hi=>by rw [pX,if_neg (by omega)])
 rw [this,pX,if_pos rfl]
end Go.Proofs.YtanfdikglplkaaaGreatDoor.Sp
namespace Go.Proofs.YtanfdikglplkaaaGreatDoor.Sp
open Go
section
variable{P:Program}{E:List (Nat×Value)}{L:List HP}{ty:TypeId}
theorem jh{α:Type}(A new:List α)(k N:Nat)(h:k+new.length≤N)(hN:N≤A.length):
 (A.take k++new++A.drop (k+new.length)).take N=(A.take N).take k++new++(A.take N).drop (k+new.length):=by
 have h1:(A.take k).length=k:=by rw [List.length_take];omega
 rw [List.append_assoc,List.append_assoc,List.take_append,List.take_append,List.take_take,List.take_take,List.drop_take,h1]
 rw [Nat.min_eq_right (by omega:k≤N),Nat.min_eq_left (by omega:k≤N),List.take_of_length_le (by omega:new.length≤N-k),Nat.sub_sub]
theorem jV{t:TypeId}{g o:Nat}{v:Value}{news:List Value}{cur:Array Value}{T:TypeId}{w:World}(hsz:∀w,(sizeOf t).run P w=.ok news.length w)(hv:v.cells.toList=news)(hg:w.heap[g]?=some (.cells cur T (0,0)))
 (hl:o+news.length≤cur.size) (h1:∀u∈news,u.oneCell'=true):(storeVar t ⟨g,o,none⟩ v).run P w=.ok () (w.setRow g (cur.toList.take o++news++cur.toList.drop (o+news.length)).toArray):=by
 have hs:v.cells.size=news.length:=by rw [←hv,Array.length_toList]
 have:=run_storeCells_at (P:=P) g o T news 0 cur w hg (by simpa using hl) h1
 simp [storeVar,hsz,hs,hv]
 simpa using this
theorem bn{t:TypeId}{x y:Operand}{b o:Nat}{cs cs' news:List Value}{T:TypeId}{v:Value}(hsz:∀w,(sizeOf t).run P w=.ok news.length w)(hx:ev E x=some (.pointer (some ⟨b,o,none⟩)))(hy:ev E y=some v)(hv:v.cells.toList=news)
 (h1:(news.all fun u=>u.oneCell')=true) (ho:o+news.length≤cs.length) (hc:cs.take o++news++cs.drop (o+news.length)=cs'):SV P E (bI b cs T::L) (.store t x y) ty (bI b cs' T::L):=by
 intro ρ h w hs d pos af g
 subst hc
 obtain ⟨f,hf,hh⟩:=hs.mem (List.mem_cons_self ..)
 subst hf
 have hb:=hh.2 _ (List.mem_singleton.2 rfl)
 have r:=jV (P:=P) hsz hv hb (by simpa using ho) (by simpa using h1)
 have u:=gu hb (cs.take o++news++cs.drop (o+news.length)).toArray
 refine ⟨_,?_,hs.upd u,u.ext (.inr ⟨_,_,hb⟩)⟩
 simp [execOp,h x _ hx,h y _ hy,Instr.storeAt,Instr.sureAddr] at r⊢
 rw [r];rfl
theorem oF{t:TypeId}{x y:Operand}{bs:Option Addr}{n cp sz k:Nat}{cs cs' news:List Value}{T:TypeId}{v:Value}(hsz:∀w,(sizeOf t).run P w=.ok news.length w)(hx:ev E x=some (.pointer (some (ad bs k))))(hy:ev E y=some v)(hv:v.cells.toList=news)
 (h1:(news.all fun u=>u.oneCell')=true) (h0:0<news.length) (hk:k+news.length≤cs.length) (hc:cs.take k++news++cs.drop (k+news.length)=cs'):
 SV P E (SlV T sz (.slice bs n cp) n cs::L) (.store t x y) ty (SlV T sz (.slice bs n cp) n cs'::L):=by
 intro ρ h w hs d pos af g
 subst hc
 obtain ⟨fall,⟨f1,f2,rfl,⟨hl,hf⟩,hp⟩,hh⟩:=hs
 rcases hf with ⟨_,hn0,_⟩| ⟨gb,cap,cur,hvv,rfl,h2,h3,h4,h5⟩
 ·subst hn0;simp at hl;rw [hl] at hk;simp at hk;rw [hk.2] at h0;simp at h0
 simp only [Value.slice.injEq,true_and] at hvv
 obtain ⟨rfl,rfl⟩:=hvv
 have hb:=hh.2 (gb,.cells cur T (0,0)) (by simp)
 have hcs:cs.length≤cur.size:=by rw [h4,hl];exact Nat.mul_le_mul_right _ h2
 have r:=jV (P:=P) (o:=k) hsz hv hb (by omega) (by simpa using h1)
 have u:=gu hb (cur.toList.take k++news++cur.toList.drop (k+news.length)).toArray
 have hs':Sat (one gb (.cells cur T (0,0))::L) w:=⟨_,⟨_,f2,rfl,rfl,hp⟩,hh⟩
 obtain ⟨_,⟨f3,f4,rfl,rfl,hp'⟩,hh'⟩:=hs'.upd u
 have hcl:cur.toList.length=cur.size:=Array.length_toList
 have e1:(cs.take k++news++cs.drop (k+news.length)).length=n*sz:=by simp;omega
 have e2:(cur.toList.take k++news++cur.toList.drop (k+news.length)).length=cp*sz:=by simp;omega
 refine ⟨_,?_,⟨_,⟨_,f4,rfl,⟨e1,.inr ⟨gb,cp,_,rfl,rfl,h2,h3,by simpa using e2,?_⟩⟩,hp'⟩,hh'⟩,u.ext (.inr ⟨_,_,hb⟩)⟩
 ·simp [execOp,h x _ hx,h y _ hy,Instr.storeAt,Instr.sureAddr,ad] at r⊢
  rw [r];rfl
 ·subst h5
  have hk2:k+news.length≤n*sz:=by rw [hl] at hk;exact hk
  have:=jh cur.toList news k (n*sz) hk2 (by rw [hcl,h4];exact Nat.mul_le_mul_right _ h2)
  simpa using this
end
end Go.Proofs.YtanfdikglplkaaaGreatDoor.Sp
