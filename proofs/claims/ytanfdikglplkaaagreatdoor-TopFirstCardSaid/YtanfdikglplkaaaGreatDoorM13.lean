/- Parts Idn, Cpy, Rpt, Kp, Tls, Cyc, Nil, Ans: own lemmas and contracts of the code that the claim reaches. -/
import Derived.Test.YtanfdikglplkaaaGreatDoorM07
import Derived.Test.YtanfdikglplkaaaGreatDoorM05
import Derived.Laws.CopyRow
import Derived.Test.YtanfdikglplkaaaGreatDoorM12
import Derived.Test.YtanfdikglplkaaaGreatDoorM02
import Derived.ArgAppend
set_option linter.unusedSimpArgs false
set_option linter.unusedVariables false
namespace Go.Proofs.YtanfdikglplkaaaGreatDoor.Sp
open Go
theorem w6{p:Nat→Bool}{n:Nat}(h:¬gi p n= -1):∃k:Nat,gi p n=(k:Int)∧k<n∧∀j,j<k→p j=false:=by
 unfold gi at h⊢
 split at h
 ·rename_i k hk
  have h1:=List.mem_range.1 (List.mem_of_find?_eq_some hk)
  refine ⟨k,rfl,h1,fun j hj=>?_⟩
  rw [List.find?_range_eq_some] at hk
  simpa using hk.2.2 j hj
 ·exact absurd rfl h
theorem yC{p:Nat→Bool}{n:Nat}(h:gi p n= -1)(j:Nat)(hj:j<n):p j=false:=by
 unfold gi at h
 split at h
 ·rename_i k hk;omega
 ·rename_i hk
  have:=List.find?_eq_none.1 hk j (List.mem_range.2 hj)
  simpa using this
theorem nL{α:Type}{F:α→List Value}{sz:Nat}(hF:∀x,(F x).length=sz){xs:List α}{i:Nat}{y:α}{news:List Value}(h:i<xs.length)(hn:F y=news):
 (bJ F xs).take (i*sz)++news++(bJ F xs).drop (i*sz+news.length)=bJ F (xs.set i y):=by
 have h1:=j8 hF (xs:=xs) (ys:=[y]) (a:=i) (b:=i+1)
 have h2:bJ F [y]=news:=by unfold bJ;rw [List.flatMap_cons,List.flatMap_nil,List.append_nil];exact hn
 have h3:news.length=sz:=by rw [←hn];exact hF y
 rw [h2] at h1
 rw [h3,show i*sz+sz=(i+1)*sz by rw [Nat.succ_mul],h1,List.set_eq_take_append_cons_drop,if_pos h]
 congr 1;rw [List.append_assoc];rfl
end Go.Proofs.YtanfdikglplkaaaGreatDoor.Sp
namespace Go.Proofs.YtanfdikglplkaaaGreatDoor.Sp
open Go
variable{P:Program}{L:List HP}{E:List (Nat×Value)}{ty:TypeId}
theorem uW{t e:TypeId}{i:TypeInfo}{sz:Nat}{d s:Operand}{bs bx:Option Addr}{n cp l m c c2 k cx q:Nat}{cs cs' news:List Value}(hu:P.underlying t=some (.slice e))(hi:P.info? e=some i)
 (hsz:i.size=sz) (hd:ev E d=some (.slice (eu bs l c sz) m c2)) (hs':ev E s=some (.slice bx k cx)) (hq:min k m=q) (hq0:0<q) (hlc:l<c) (hlm:l+m≤n) (hok:bB bx 1) (hl:news.length=q*sz)
 (hrd:Rd (SlV e sz (.slice bs n cp) n cs::L) bx news) (h1:∀u∈news,u.oneCell'=true) (hc:cs.take (l*sz)++news++cs.drop ((l+q)*sz)=cs'):
 MV P E (SlV e sz (.slice bs n cp) n cs::L) (.call {callee:=.builtin .copy,args:=#[d,s],argTypes:=#[t,t]}) ty (fun v M=>v=.int .i64 (q:Int)∧M=SlV e sz (.slice bs n cp) n cs'::L):=by
 intro ρ h w hs d' pos af g
 subst hsz;subst hc
 obtain ⟨ab,ao,rfl⟩:=hok (by omega)
 obtain ⟨fall,⟨f1,f2,rfl,⟨hcl,hf⟩,hp⟩,hh⟩:=id hs
 rcases hf with ⟨_,hn,_⟩| ⟨gb,cap,cur,hv,rfl,h2,h3,h4,h5⟩
 ·omega
 simp only [Value.slice.injEq,true_and] at hv
 obtain ⟨rfl,rfl⟩:=hv
 have hb:=hh.2 (gb,.cells cur e (0,0)) (by simp)
 have hsb:eu (some ⟨gb,0,none⟩) l c i.size=some ⟨gb,l*i.size,none⟩:=by
  have:Nat.beq c l=false:=by cases hbq:Nat.beq c l with|false=>rfl|true=>exact absurd (Nat.eq_of_beq_eq_true hbq) (by omega)
  unfold eu;rw [this,cond_false];simp [du]
 rw [hsb] at hd
 have hnews':∀j u,news[j]?=some u→w.cell? ((⟨ab,ao,none⟩:Addr).add j)=some u:=by
  intro j u hu'
  have:=hrd w hs j u hu'
  rwa [du]
 have hqm:q≤m:=by omega
 have hkn:(l+q)*i.size≤n*i.size:=Nat.mul_le_mul_right _ (by omega)
 have hnc:n*i.size≤cp*i.size:=Nat.mul_le_mul_right _ h2
 have hkm':(l+q)*i.size=l*i.size+news.length:=by rw [hl,Nat.add_mul]
 have hfc:=run_firstCells_some (P:=P) w i.size q ⟨ab,ao,none⟩ k cx news hl hnews'
 have hr:=run_storeCells_at P gb (l*i.size) e news 0 cur w hb (by omega) h1
 simp only [Nat.add_zero] at hr
 have u:=gu hb (cur.toList.take (l*i.size)++news++cur.toList.drop (l*i.size+news.length)).toArray
 have hs2:Sat (one gb (.cells cur e (0,0))::L) w:=⟨_,⟨_,f2,rfl,rfl,hp⟩,hh⟩
 have hcl':cur.toList.length=cur.size:=Array.length_toList
 have hmin:Nat.min k m=q:=hq
 refine ⟨_,_,_,?_,⟨rfl,rfl⟩,(hs2.upd u).imp fun f hf=>⟨?_,.inr ⟨gb,cp,_,rfl,hf,h2,h3,?_,?_⟩⟩,u.ext (.inr ⟨_,_,hb⟩)⟩
 ·simp [execOp,resolve,h s _ hs',h d _ hd,invoke,builtin,Builtin.copy_,run_underlying hu,sizeOf,typeInfo,hi,Builtin.lenOf,hmin,hfc,hr,goInt]
 ·simp;omega
 ·simp;omega
 ·have:=jh cur.toList news (l*i.size) (n*i.size) (by omega) (by omega)
  rw [h5] at this
  simpa [hkm'] using this
theorem xy{t e:TypeId}{i:TypeInfo}{d s:Operand}{bs bx:Option Addr}{m c2 k cx:Nat}(hu:P.underlying t=some (.slice e))(hi:P.info? e=some i)
 (hd:ev E d=some (.slice bs m c2)) (hs':ev E s=some (.slice bx k cx)) (hq:min k m=0):LV P E L (.call {callee:=.builtin .copy,args:=#[d,s],argTypes:=#[t,t]}) ty (.int .i64 0):=by
 intro ρ h w _ d' pos af g
 have hmin:Nat.min k m=0:=hq
 have hfc:∀bx:Option Addr,(Builtin.firstCells i.size 0 (.slice bx k cx)).run P w=.ok #[] w:=by
  intro bx;cases bx <;>simp [Builtin.firstCells,loadCells,loadCellsFrom]
 cases bs <;>simp [execOp,resolve,h s _ hs',h d _ hd,invoke,builtin,Builtin.copy_,run_underlying hu,sizeOf,typeInfo,hi,Builtin.lenOf,hmin,hfc,storeCells,goInt]
end Go.Proofs.YtanfdikglplkaaaGreatDoor.Sp
namespace Go.Proofs.YtanfdikglplkaaaGreatDoor.Sp
open Go
theorem A2:∀N:Nat,N<65→j2 .u64 (N:Int) 4294967295=(N:Int):=by decide
theorem yz:∀N:Nat,N<65→mY .u64 (N:Int) 32=0:=by decide
def jZ(a:Int)(n N:Nat):List Int:=List.replicate n a++List.replicate (N-n) 0
theorem yD{a:Int}{n N:Nat}(h:n≤N):(jZ a n N).length=N:=by unfold jZ;simp;omega
theorem yW(a:Int)(N:Nat):(List.replicate N (0:Int)).take 0++([a]:List Int)++(List.replicate N (0:Int)).drop (0+1)=jZ a 1 N:=by
 unfold jZ;simp
theorem vv{a:Int}{n N q:Nat}(h:n+q≤N)(hq:q≤n):(jZ a n N).take n++((jZ a n N).take n).take q++(jZ a n N).drop (n+q)=jZ a (n+q) N:=by
 have e:(jZ a n N).take n=List.replicate n a:=by unfold jZ;rw [List.take_append_of_le_length (by simp)];simp
 rw [e,List.take_replicate,Nat.min_eq_left hq,List.replicate_append_replicate]
 unfold jZ
 rw [List.drop_append,List.drop_replicate,List.drop_replicate,List.length_replicate]
 have e1:n- (n+q)=0:=by omega
 have e2:N-n- (n+q-n)=N- (n+q):=by omega
 rw [e1,e2];simp
theorem y6(a:Int)(N:Nat):jZ a N N=List.replicate N a:=by unfold jZ;simp
end Go.Proofs.YtanfdikglplkaaaGreatDoor.Sp
namespace Go.Proofs.YtanfdikglplkaaaGreatDoor.Sp
open Go
structure Kp(s s':ES):Prop where
 c:s'.c=s.c
 al:s'.al=s.al
 now:s'.now=s.now
 bg:s'.bg=s.bg
 lg:s'.lg=s.lg
 len:s'.lf.length=s.lf.length
 ep:∀t,(s'.lf.getD t Lf.z).ep=(s.lf.getD t Lf.z).ep
 mem:∀t,(s'.tk.getD t Tk.z).mem=(s.tk.getD t Tk.z).mem
theorem Kp.refl(s:ES):Kp s s:=⟨rfl,rfl,rfl,rfl,rfl,rfl,fun _=>rfl,fun _=>rfl⟩
theorem Kp.trans{a b c:ES}(h:Kp a b)(k:Kp b c):Kp a c:=⟨k.c.trans h.c,k.al.trans h.al,k.now.trans h.now,k.bg.trans h.bg,k.lg.trans h.lg,k.len.trans h.len,fun t=>(k.ep t).trans (h.ep t),fun t=>(k.mem t).trans (h.mem t)⟩
theorem Kp.lfu(s:ES)(t:Nat){f:Lf→Lf}(hf:∀x,(f x).ep=x.ep):Kp s (s.lfu t f):=
 ⟨rfl,rfl,rfl,rfl,rfl,by show (s.lf.set _ _).length=_;rw [List.length_set],fun u=>by
  show ((s.lf.set t (f (s.lf.getD t Lf.z))).getD u Lf.z).ep=_
  by_cases h:t<s.lf.length
  ·rw [pc h];split
   ·rename_i e;subst e;exact hf _
   ·rfl
  ·rw [List.set_eq_of_length_le (by omega)],fun _=>rfl⟩
theorem Kp.setTk(s:ES)(t:Nat){y:Tk}(hy:y.mem=(s.tk.getD t Tk.z).mem):Kp s (s.setTk t y):=
 ⟨rfl,rfl,rfl,rfl,rfl,rfl,fun _=>rfl,fun u=>by
  show ((s.tk.set t y).getD u Tk.z).mem=_
  by_cases h:t<s.tk.length
  ·by_cases e:u=t
   ·subst e;rw [show (s.tk.set u y).getD u Tk.z=y from by simp [List.getD,h]];exact hy
   ·simp only [List.getD];rw [List.getElem?_set_ne (fun h=>e h.symm)]
  ·rw [List.set_eq_of_length_le (by omega)]⟩
theorem Kp.setSt(s:ES)(r:Nat)(v:Int):Kp s (s.setSt r v):=⟨rfl,rfl,rfl,rfl,rfl,rfl,fun _=>rfl,fun _=>rfl⟩
theorem lh(a b:Int)(x:Lf):(o9 a b x).ep=x.ep:=by unfold o9;split <;>rfl
theorem uR(x:Lf):(ff x).ep=x.ep:=by unfold ff;split <;>rfl
theorem qV(x:Lf):(gz x).ep=x.ep:=by unfold gz;split <;>rfl
theorem qt(x:Lf):(gA x).ep=x.ep:=by unfold gA;split <;>rfl
theorem Kp.beg(s:ES)(r:Nat):Kp s (oA s r):=by
 unfold oA;split
 ·exact (Kp.setSt s r 1).trans (Kp.lfu _ _ (lh 0 1))
 ·exact Kp.setSt s r 1
theorem Kp.leaves(y:OS)(r v:Int):Kp y.s (y.leaves r v).s:=by
 unfold OS.leaves;split
 ·exact (Kp.setSt y.s r.toNat v).trans (Kp.beg _ _)
 ·exact Kp.setSt y.s r.toNat v
theorem Kp.ov{y z:OS}(h:Ov y z):Kp y.s z.s:=by
 induction h with
 |refl=>exact .refl _
 |step r _ _ _ ih=>exact ih.trans (Kp.leaves _ _ _)
theorem Kp.fol1(s:ES)(u:Nat)(st:Int):Kp s (jc s u st):=by
 unfold jc
 have h:=Kp.setTk s u (y:={(s.tk.getD u Tk.z) with wt:= -1}) rfl
 split
 ·exact h.trans (Kp.lfu _ _ (lh 3 1))
 ·split
  ·exact h.trans (Kp.lfu _ _ qV)
  ·exact h.trans (Kp.lfu _ _ qt)
theorem Kp.fol{es:Es}{s s':ES}(h:Foll es s s'):Kp s s':=by
 induction h with
 |refl=>exact .refl _
 |step u v _ _ _ _ ih=>exact ih.trans (Kp.fol1 _ _ _)
def KpO(n m:Nat)(A Q:Int)(y z:OS):Prop:=OvOk n m A Q z∧Kp y.s z.s
section
variable{n m:Nat}{A Q:Int}{y:OS}
theorem KpO.refl(h:OvOk n m A Q y):KpO n m A Q y y:=⟨h,.refl _⟩
theorem KpO.trans{a b c:OS}(h:KpO n m A Q a b)(k:KpO n m A Q b c):KpO n m A Q a c:=⟨k.1,h.2.trans k.2⟩
theorem KpO.of{s':ES}(h:OvOk n m A Q y)(hr:s'.rq=y.s.rq)(hk:Kp y.s s'):KpO n m A Q y {y with s:=s'}:=⟨h.fol hr,hk⟩
theorem KpO.set{es:Es}{sf:ES}{z:OS}(h:OvOk n m A Q y)(hf:Foll es y.s sf)(hv:Ov {y with s:=sf} z):KpO n m A Q y z:=⟨hv.ok (h.fol hf.rq),(Kp.fol hf).trans (Kp.ov hv)⟩
end
end Go.Proofs.YtanfdikglplkaaaGreatDoor.Sp
namespace Go.Proofs.YtanfdikglplkaaaGreatDoor.Sp
open Go
section
variable{P:Program}{L:List HP}{E:List (Nat×Value)}{ty:TypeId}{K:Act→World→Prop}{W:World}{N:Nat}
def rA(T sz:Nat)(v:Value)(n:Nat)(cs:List Value):HP:=fun f=>cs.length=n*sz∧
 ((v=.slice none 0 0∧n=0∧f=[])∨
  ∃g o cap cur,v=.slice (some ⟨g,o,none⟩) n cap∧f=[(g,.cells cur T (0,0))]∧n≤cap∧cap≤maxLen∧o+cap*sz≤cur.size∧(cur.toList.drop o).take (n*sz)=cs)
theorem nE{T sz n:Nat}{v:Value}{cs:List Value}{w:World}(h:Sat (SlV T sz v n cs::L) w):Sat (rA T sz v n cs::L) w:=h.imp fun f hf=>by
 obtain ⟨hl,hf⟩:=hf
 refine ⟨hl,?_⟩
 rcases hf with hf| ⟨g,cap,cur,h1,h2,h3,h4,h5,h6⟩
 ·exact .inl hf
 ·exact .inr ⟨g,0,cap,cur,h1,h2,h3,h4,by omega,by simpa using h6⟩
theorem mN{T sz n cp:Nat}{bs:Option Addr}{cs:List Value}{w:World}(h:Sat (rA T sz (.slice bs n cp) n cs::L) w):bB bs n∧n≤cp:=by
 obtain ⟨_,⟨f1,f2,rfl,⟨hl,hf⟩,hp⟩,hh⟩:=h
 rcases hf with ⟨hv,h0,_⟩| ⟨g,o,cap,cur,hv,_,h2,_⟩
 ·simp only [Value.slice.injEq] at hv;obtain ⟨rfl,rfl,rfl⟩:=hv;exact ⟨fun hz=>by omega,Nat.le_refl _⟩
 ·simp only [Value.slice.injEq,true_and] at hv;obtain ⟨rfl,rfl⟩:=hv;exact ⟨fun _=>⟨g,o,rfl⟩,h2⟩
theorem gD{T sz n k:Nat}{cs:List Value}{bs:Option Addr}{cp:Nat}{u:Value}(hm:rA T sz (.slice bs n cp) n cs∈L)(hu:cs[k]?=some u):Gives L (ad bs k) u:=by
 intro w hs
 obtain ⟨f,⟨hl,hf⟩,hh⟩:=hs.mem hm
 have hk:k<cs.length:=(List.getElem?_eq_some_iff.1 hu).1
 rcases hf with ⟨_,h0,_⟩| ⟨g,o,cap,cur,hv,rfl,h2,h3,h4,h5⟩
 ·subst h0;simp at hl;rw [hl] at hk;simp at hk
 simp only [Value.slice.injEq,true_and] at hv
 obtain ⟨rfl,rfl⟩:=hv
 have hb:=hh.2 (g,.cells cur T (0,0)) (by simp)
 rw [kI,cell_of_row w g (o+k) _ _ _ hb]
 rw [←h5,List.getElem?_take,List.getElem?_drop] at hu
 split at hu
 ·simpa using hu
 ·cases hu
theorem sg{T sz n cp l n' c':Nat}{bs:Option Addr}{cs:List Value}{w:World}(hl:l≤n)(h0:0<n)(hn:n-l=n')(hc:cp-l=c')(h:Sat (rA T sz (.slice bs n cp) n cs::L) w):Sat (rA T sz (.slice (eu bs l cp sz) n' c') n' (cs.drop (l*sz))::L) w:=h.imp fun f hf=>by
 subst hn;subst hc
 obtain ⟨hcl,hf⟩:=hf
 refine ⟨by rw [List.length_drop,hcl,Nat.sub_mul],?_⟩
 rcases hf with ⟨hv,h1,_⟩| ⟨g,o,cap,cur,hv,rfl,h2,h3,h4,h5⟩
 ·omega
 simp only [Value.slice.injEq,true_and] at hv
 obtain ⟨rfl,rfl⟩:=hv
 unfold eu
 cases he:Nat.beq cp l with
 |true=>
  have:=Nat.eq_of_beq_eq_true he
  have e0:n-l=0:=by omega
  have e1:cs.drop (l*sz)=[]:=List.drop_eq_nil_of_le (by rw [hcl];exact Nat.mul_le_mul_right _ (by omega))
  refine .inr ⟨g,o,cp-l,cur,rfl,rfl,by omega,by omega,?_,?_⟩
  ·have:(cp-l)*sz≤cp*sz:=Nat.mul_le_mul_right _ (by omega)
   omega
  ·rw [e1,e0];simp
 |false=>
  refine .inr ⟨g,o+l*sz,cp-l,cur,by simp [du],rfl,by omega,by omega,?_,?_⟩
  ·have:l*sz+(cp-l)*sz=cp*sz:=by rw [←Nat.add_mul];congr 1;omega
   omega
  ·rw [←h5,List.drop_take,List.drop_drop,←Nat.sub_mul]
def B7(T sz n:Nat)(cs:List Value)(L:List HP):Value→List HP→Prop:=fun v M=>
 ∃bs cp,bB bs n∧n≤cp∧v=.slice bs n cp∧M=rA T sz (.slice bs n cp) n cs::L
theorem oq{t e:TypeId}{i:TypeInfo}{z:Value}{sz:Nat}{s x:Operand}{bs bx:Option Addr}{n cp m c:Nat}{cs news:List Value}(hu:P.underlying t=some (.slice e))(hi:P.info? e=some i)(hz:i.zero=some z)
 (hsz:i.size=sz) (hzs:z.cells.size=sz) (hpos:0<sz) (hs':ev E s=some (.slice bs n cp)) (hx:ev E x=some (.slice bx m c)) (hok:bB bx m) (hl:news.length=m*sz) (hrd:Rd (rA e sz (.slice bs n cp) n cs::L) bx news)
 (h1:∀u∈news,u.oneCell'=true) (hmax:(n+m)*(i.bytes+1)≤140737488355328):
 MV P E (rA e sz (.slice bs n cp) n cs::L) (.call {callee:=.builtin .append,args:=#[s,x],argTypes:=#[t,t]}) ty (B7 e sz (n+m) (cs++news) L):=by
 intro ρ h w hs d pos af g
 subst hsz
 have hnm:n+m≤140737488355328:=Nat.le_trans (Nat.le_mul_of_pos_right _ (by omega)) hmax
 have hbytes:(n+m)*i.bytes≤140737488355328:=Nat.le_trans (Nat.mul_le_mul_left _ (by omega)) hmax
 have run:∀v w',(Builtin.append_ #[t,t] ty #[.slice bs n cp,.slice bx m c]).run P w=.ok v w'→
  (execOp ρ ⟨d,.call {callee:=.builtin .append,args:=#[s,x],argTypes:=#[t,t]},ty,pos,af,g⟩).run P w=.ok (.value v) w':=by
  intro v w' e
  simp [execOp,resolve,h s _ hs',h x _ hx,invoke,builtin,e]
 obtain ⟨fall,⟨f1,f2,rfl,⟨hcl,hf⟩,hp⟩,hh⟩:=id hs
 have hrest:Sat L w:=hs.drop
 by_cases hm0:m=0
 ·subst hm0
  have hn0:news=[]:=List.eq_nil_of_length_eq_zero (by simpa using hl)
  subst hn0
  have hfc:∀bx:Option Addr,(Builtin.firstCells i.size 0 (.slice bx 0 c)).run P w=.ok #[] w:=by
   intro bx;cases bx <;>simp [Builtin.firstCells,loadCells,loadCellsFrom]
  obtain ⟨hok',hle⟩:=mN hs
  refine ⟨_,w,_,run _ _ ?_,⟨bs,cp,hok',hle,rfl,rfl⟩,by simpa using hs,.refl _⟩
  cases bs <;>simp [Builtin.append_,run_underlying hu,sizeOf,typeInfo,hi,Builtin.lenOf,hle,hfc,storeCells]
 ·obtain ⟨ab,ao,rfl⟩:=hok (by omega)
  have hnews':∀j u,news[j]?=some u→w.cell? ((⟨ab,ao,none⟩:Addr).add j)=some u:=by
   intro j u hu'
   have:=hrd w hs j u hu'
   rwa [du]
  rcases hf with ⟨hv,h0,rfl⟩| ⟨gb,o,cap,cur,hv,rfl,h2,h3,h4,h5⟩
  ·simp only [Value.slice.injEq] at hv
   obtain ⟨rfl,rfl,rfl⟩:=hv
   have hcs:cs=[]:=List.eq_nil_of_length_eq_zero (by simpa using hcl)
   subst hcs
   simp only [Nat.zero_add] at hbytes hnm
   have hr:=run_append_nil (P:=P) w t ty e i z hu hi hz ⟨ab,ao,none⟩ m c news hl hnews' (by omega) (by omega) (by omega)
   have u:=gV w (.cells (news.toArray++Builtin.zeroCells z.cells (grownCap w m 0 e-m)) e)
   have hge:=grownCap_ge w m 0 e
   have hle:=grownCap_le_maxLen w m 0 e (by unfold maxLen;omega)
   refine ⟨_,_,_,run _ _ hr,⟨_,_,fX w.heap.size _,?_,by rw [Nat.zero_add],rfl⟩,?_,u.ext (.inl (cJ w))⟩
   ·simpa using hge
   ·simp only [Nat.zero_add,List.nil_append]
    refine nE (kT hl hge hle ?_ ?_ hrest (cJ w) u)
    ·simp only [Array.size_append,List.size_toArray,size_zeroCells,hzs,hl,←Nat.add_mul];congr 1;omega
    ·simp only [Array.toList_append];rw [←hl];exact List.take_left
  ·simp only [Value.slice.injEq,true_and] at hv
   obtain ⟨rfl,rfl⟩:=hv
   have hb:=hh.2 (gb,.cells cur e (0,0)) (by simp)
   have hlen:(cs++news).length=(n+m)*i.size:=by rw [List.length_append,hcl,hl,Nat.add_mul]
   have hcl':cur.toList.length=cur.size:=Array.length_toList
   by_cases hroom:n+m≤cp
   ·have hmul:(n+m)*i.size≤cp*i.size:=Nat.mul_le_mul_right _ hroom
    have hmul2:(n+m)*i.size=n*i.size+news.length:=by rw [hl,Nat.add_mul]
    have hfc:=run_firstCells_some (P:=P) w i.size m ⟨ab,ao,none⟩ m c news hl hnews'
    have hst:=run_storeCells_at P gb (o+n*i.size) e news 0 cur w hb (by omega) h1
    simp only [Nat.add_zero] at hst
    have u:=gu hb (cur.toList.take (o+n*i.size)++news++cur.toList.drop (o+n*i.size+news.length)).toArray
    have hs2:Sat (one gb (.cells cur e (0,0))::L) w:=⟨_,⟨_,f2,rfl,rfl,hp⟩,hh⟩
    refine ⟨_,_,_,run _ _ ?_,⟨_,_,fun _=>⟨gb,o,rfl⟩,hroom,rfl,rfl⟩,(hs2.upd u).imp fun f hf=>⟨hlen,.inr ⟨gb,o,cp,_,rfl,hf,hroom,h3,?_,?_⟩⟩,u.ext (.inr ⟨_,_,hb⟩)⟩
    ·simp [Builtin.append_,run_underlying hu,sizeOf,typeInfo,hi,Builtin.lenOf,hroom,hfc,Addr.add_lit,hst]
    ·simp only [List.size_toArray,List.length_append,List.length_take,List.length_drop,Array.length_toList];omega
    ·have e1:(cur.toList.take (o+n*i.size)++news++cur.toList.drop (o+n*i.size+news.length)).drop o=(cur.toList.drop o).take (n*i.size)++news++cur.toList.drop (o+n*i.size+news.length):=by
      rw [List.append_assoc,List.drop_append_of_le_length (by rw [List.length_take];omega),List.drop_take,show o+n*i.size-o=n*i.size by omega,List.append_assoc]
     rw [e1,h5,←hlen];exact List.take_left
   ·have holds:∀j u,cs[j]?=some u→w.cell? ((⟨gb,o,none⟩:Addr).add j)=some u:=by
     intro j u hu'
     have:=gD (L:=rA e i.size (.slice (some ⟨gb,o,none⟩) n cp) n cs::L) (List.mem_cons_self ..) hu' w hs
     rwa [du]
    have hr:=run_append_grow (P:=P) w t ty e i z hu hi hz ⟨gb,o,none⟩ n cp cs hcl holds ⟨ab,ao,none⟩ m c news hl hnews' (by omega) (by omega) (growslice_fits (by omega) hbytes)
    have u:=gV w (.cells (cs.toArray++news.toArray++Builtin.zeroCells z.cells (grownCap w (n+m) cp e- (n+m))) e)
    have hge:=grownCap_ge w (n+m) cp e
    have hle:=grownCap_le_maxLen w (n+m) cp e (by unfold maxLen;omega)
    refine ⟨_,_,_,run _ _ hr,⟨_,_,fX w.heap.size _,hge,rfl,rfl⟩,nE (kT hlen hge hle ?_ ?_ hrest (cJ w) u),u.ext (.inl (cJ w))⟩
    ·simp only [Array.size_append,List.size_toArray,size_zeroCells,hzs,hcl,hl,←Nat.add_mul];congr 1;omega
    ·simp only [Array.toList_append,List.append_assoc]
     rw [←List.append_assoc,←hlen]
     exact List.take_left
end
end Go.Proofs.YtanfdikglplkaaaGreatDoor.Sp
namespace Go.Proofs.YtanfdikglplkaaaGreatDoor.Sp
open Go
inductive Wk(es:Es):Nat→Int→Int→Prop
 |nil {a:Int}:Wk es 0 a a
 |cons {a b c:Int} {k:Nat}:(a,b)∈es→Wk es k b c→Wk es (k+1) a c
theorem Wk.zero{es:Es}{a b:Int}(h:Wk es 0 a b):a=b:=by cases h;rfl
theorem Wk.succ{es:Es}{a c:Int}{k:Nat}(h:Wk es (k+1) a c):∃b,(a,b)∈es∧Wk es k b c:=by cases h with|cons h1 h2=>exact ⟨_,h1,h2⟩
theorem Wk.rch{es:Es}{k:Nat}{a b:Int}(h:Wk es k a b):Rch es a b:=by
 induction h with
 |nil=>exact .refl
 |cons he _ ih=>exact (Rch.refl.step he).trans ih
theorem Wk.snoc{es:Es}{k:Nat}{a b c:Int}(h:Wk es k a b)(he:(b,c)∈es):Wk es (k+1) a c:=by
 induction h with
 |nil=>exact .cons he .nil
 |cons h1 _ ih=>exact .cons h1 (ih he)
theorem Rch.wk{es:Es}{a b:Int}(h:Rch es a b):∃k,Wk es k a b:=by
 induction h with
 |refl=>exact ⟨0,.nil⟩
 |step _ he ih=>obtain ⟨k,hk⟩:=ih;exact ⟨k+1,hk.snoc he⟩
open Classical in
noncomputable def eb(es:Es)(to a:Int):Int:=if h:∃k,Wk es k a to then (((iU h).choose:Nat):Int) else -1
theorem gw(es:Es)(to a:Int):(eb es to a= -1∧∀k,¬Wk es k a to)∨∃d:Nat,eb es to a=(d:Int)∧Wk es d a to∧∀k,Wk es k a to→d≤k:=by
 unfold eb
 by_cases h:∃k,Wk es k a to
 ·rw [dif_pos h];exact .inr ⟨_,rfl,(iU h).choose_spec.1,(iU h).choose_spec.2⟩
 ·rw [dif_neg h];exact .inl ⟨rfl,fun k hk=>h ⟨k,hk⟩⟩
theorem rh{es:Es}{to a:Int}{d:Nat}(h:Wk es d a to)(hl:∀k,Wk es k a to→d≤k):eb es to a=(d:Int):=by
 rcases gw es to a with ⟨_,h2⟩| ⟨e,h1,h2,h3⟩
 ·exact absurd h (h2 d)
 ·have:=h3 d h;have:=hl e h2;omega
theorem AG(es:Es)(to a:Int): -1≤eb es to a:=by
 rcases gw es to a with ⟨h,_⟩| ⟨d,h,_⟩ <;>omega
theorem farF_rch{es:Es}{to a:Int}:0≤eb es to a↔Rch es a to:=by
 rcases gw es to a with ⟨h,h2⟩| ⟨d,h,h2,_⟩
 ·constructor
  ·intro;omega
  ·intro hr;obtain ⟨k,hk⟩:=hr.wk;exact absurd hk (h2 k)
 ·exact ⟨fun _=>h2.rch,fun _=>by omega⟩
theorem wT(es:Es)(to:Int):eb es to to=0:=rh (d:=0) .nil (fun _ _=>Nat.zero_le _)
theorem vQ{es:Es}{to a:Int}(h:eb es to a=0):a=to:=by
 rcases gw es to a with ⟨h1,_⟩| ⟨d,h1,h2,_⟩
 ·omega
 ·have:d=0:=by omega
  subst this;exact h2.zero
theorem wX{es:Es}{to a:Int}{d:Nat}(h:eb es to a=((d+1:Nat):Int)):∃b,(a,b)∈es∧eb es to b=(d:Int):=by
 rcases gw es to a with ⟨h1,_⟩| ⟨e,h1,h2,h3⟩
 ·omega
 ·have:e=d+1:=by omega
  subst this
  obtain ⟨b,hb,hw⟩:=h2.succ
  exact ⟨b,hb,rh hw fun k hk=>by have:=h3 _ (Wk.cons hb hk);omega⟩
noncomputable def oU(N:Nat)(es:Es)(to:Int):List Int:=(List.range N).map fun i:Nat=>eb es to (i:Int)
theorem oH(N:Nat)(es:Es)(to:Int):(oU N es to).length=N:=by simp [oU]
theorem sk{N:Nat}{es:Es}{to:Int}{i:Nat}(h:i<N):(oU N es to).getD i 0=eb es to (i:Int):=by simp [oU,List.getD,h]
theorem rj{N:Nat}{es:Es}{to x:Int}(h:0≤x∧x<N):(oU N es to).getD x.toNat 0=eb es to x:=by rw [sk (by omega)];congr 1;omega
def relax(h:Int)(s:List Int×List Int)(b:Int):List Int×List Int:=if s.1.getD b.toNat 0<0 then (s.1.set b.toNat (s.1.getD h.toNat 0+1),s.2++[b]) else s
def dm(h:Int)(bs:List Int)(s:List Int×List Int):List Int×List Int:=bs.foldl (relax h) s
theorem ig{h:Int}{bs:List Int}{j:Nat}(hj:j<bs.length)(s:List Int×List Int):dm h (bs.take (j+1)) s=relax h (dm h (bs.take j) s) (bs.getD j 0):=by
 unfold dm;rw [di hj 0,List.foldl_append];rfl
structure Mid(N:Nat)(es:Es)(to h:Int)(bs:List Int)(far l:List Int):Prop where
 len:far.length=N
 hd:∃r,l=h::r
 inn:∀q∈l,0≤q∧q<N∧0≤far.getD q.toNat 0
 val:∀a:Nat,a<N→far.getD a 0= -1∨∃d:Nat,far.getD a 0=(d:Int)∧Wk es d a to
 closed:∀a:Nat,a<N→0≤far.getD a 0→(a:Int) ∉ l→∀b∈cg es a,0≤far.getD b.toNat 0∧far.getD b.toNat 0≤far.getD a 0+1
 srt:l.Pairwise fun x y=>far.getD x.toNat 0≤far.getD y.toNat 0
 top:∀a:Nat,a<N→far.getD a 0≤far.getD h.toNat 0+1
 goal:far.getD to.toNat 0=0
 done:∀b∈bs,0≤far.getD b.toNat 0
structure Bfs(N:Nat)(es:Es)(to:Int)(far l:List Int):Prop where
 len:far.length=N
 inn:∀q∈l,0≤q∧q<N∧0≤far.getD q.toNat 0
 val:∀a:Nat,a<N→far.getD a 0= -1∨∃d:Nat,far.getD a 0=(d:Int)∧Wk es d a to
 closed:∀a:Nat,a<N→0≤far.getD a 0→(a:Int) ∉ l→∀b∈cg es a,0≤far.getD b.toNat 0∧far.getD b.toNat 0≤far.getD a 0+1
 srt:l.Pairwise fun x y=>far.getD x.toNat 0≤far.getD y.toNat 0
 top:∀q∈l,∀a:Nat,a<N→far.getD a 0≤far.getD q.toNat 0+1
 goal:far.getD to.toNat 0=0
theorem zu{l:List Int}{i j:Nat}{x d:Int}(h:i<l.length):(l.set i x).getD j d=if j=i then x else l.getD j d:=by
 simp only [List.getD_eq_getElem?_getD,List.getElem?_set]
 by_cases e:i=j
 ·subst e;simp [h]
 ·rw [if_neg e,if_neg (fun h=>e h.symm)]
theorem B9{n i:Nat}{x d:Int}(h:i<n):(List.replicate n x).getD i d=x:=by simp [List.getD,h]
theorem Bfs.start{N:Nat}{es:Es}{to:Int}(hg:GOk N es)(ht:0≤to∧to<N):Bfs N es to ((List.replicate N (-1)).set to.toNat 0) [to]:=by
 have hl:(List.replicate N (-1:Int)).length=N:=List.length_replicate
 have g:∀a:Nat,a<N→((List.replicate N (-1:Int)).set to.toNat 0).getD a 0=if a=to.toNat then 0 else -1:=fun a ha=>by rw [zu (by omega),B9 ha]
 refine ⟨by simp,fun q hq=>?_,fun a ha=>?_,fun a ha h0 hn=>?_,by simp,fun q hq a ha=>?_,by rw [g _ (by omega),if_pos rfl]⟩
 ·simp only [List.mem_singleton] at hq;subst hq;rw [g _ (by omega),if_pos rfl];omega
 ·rw [g a ha]
  split
  ·rename_i e;refine .inr ⟨0,rfl,?_⟩;rw [show (a:Int)=to by omega];exact .nil
  ·exact .inl rfl
 ·rw [g a ha] at h0
  split at h0
  ·exact absurd (List.mem_singleton.2 (show (a:Int)=to by omega)) hn
  ·omega
 ·simp only [List.mem_singleton] at hq;subst hq;rw [g a ha,g _ (by omega),if_pos rfl];split <;>omega
theorem Bfs.mid{N:Nat}{es:Es}{to h:Int}{far r:List Int}(q:Bfs N es to far (h::r)):Mid N es to h [] far (h::r):=
 ⟨q.len,⟨r,rfl⟩,q.inn,q.val,q.closed,q.srt,q.top h (List.mem_cons_self ..),q.goal,fun b hb=>by cases hb⟩
theorem Mid.next{N:Nat}{es:Es}{to h:Int}{bs far l:List Int}(q:Mid N es to h bs far l)(hg:GOk N es)(ht:0≤to∧to<N){b:Int}(hb:b∈cg es h):
 Mid N es to h (bs++[b]) (relax h (far,l) b).1 (relax h (far,l) b).2:=by
 have bb:=hg.inns_inn hb
 have hl:=q.len
 unfold relax
 dsimp only
 by_cases hn:far.getD b.toNat 0<0
 ·rw [if_pos hn]
  dsimp only
  obtain ⟨r,hr⟩:=q.hd
  have hh:=q.inn h (by rw [hr];exact List.mem_cons_self ..)
  have g:∀a:Nat,(far.set b.toNat (far.getD h.toNat 0+1)).getD a 0=if a=b.toNat then far.getD h.toNat 0+1 else far.getD a 0:=fun a=>zu (by omega)
  have gl:∀x:Int,0≤far.getD x.toNat 0→(far.set b.toNat (far.getD h.toNat 0+1)).getD x.toNat 0=far.getD x.toNat 0:=fun x hx=>by
   rw [g];split
   ·rename_i e;rw [←e] at hn;omega
   ·rfl
  refine ⟨by simp [hl],⟨r++[b],by rw [hr];rfl⟩,fun x hx=>?_,fun a ha=>?_,fun a ha h0 hx c hc=>?_,?_,fun a ha=>?_,?_,fun c hc=>?_⟩
  ·rcases List.mem_append.1 hx with hx|hx
   ·have:=q.inn x hx;rw [gl x this.2.2];exact this
   ·simp only [List.mem_singleton] at hx;subst hx;rw [g,if_pos rfl];omega
  ·rw [g];split
   ·rename_i e
    obtain ⟨d,h1,h2⟩:∃d:Nat,far.getD h.toNat 0=(d:Int)∧Wk es d h to:=by
     rcases q.val h.toNat (by omega) with h1| ⟨d,h1,h2⟩
     ·omega
     ·rw [Int.toNat_of_nonneg hh.1] at h2;exact ⟨d,h1,h2⟩
    refine .inr ⟨d+1,by omega,?_⟩
    rw [e,Int.toNat_of_nonneg bb.1];exact .cons (mem_inns.1 hb) h2
   ·exact q.val a ha
  ·have hne:a≠b.toNat:=fun e=>hx (List.mem_append_right _ (List.mem_singleton.2 (by omega)))
   rw [g,if_neg hne] at h0
   have:=q.closed a ha h0 (fun hm=>hx (List.mem_append_left _ hm)) c hc
   rw [gl c this.1,g a,if_neg hne];exact this
  ·rw [List.pairwise_append]
   refine ⟨q.srt.imp_of_mem ?_,by simp,fun x hx y hy=>?_⟩
   ·intro x y hx hy hxy
    rw [gl x (q.inn x hx).2.2,gl y (q.inn y hy).2.2];exact hxy
   ·simp only [List.mem_singleton] at hy;subst hy
    have hi:=q.inn x hx
    rw [gl x hi.2.2,g,if_pos rfl]
    exact q.top x.toNat (by omega)
  ·rw [gl h hh.2.2,g];split
   ·omega
   ·exact q.top a ha
  ·rw [gl to (by rw [q.goal];omega)];exact q.goal
  ·rcases List.mem_append.1 hc with hc|hc
   ·rw [gl c (q.done c hc)];exact q.done c hc
   ·simp only [List.mem_singleton] at hc;subst hc;rw [g,if_pos rfl];omega
 ·rw [if_neg hn]
  refine ⟨q.len,q.hd,q.inn,q.val,q.closed,q.srt,q.top,q.goal,fun c hc=>?_⟩
  rcases List.mem_append.1 hc with hc|hc
  ·exact q.done c hc
  ·simp only [List.mem_singleton] at hc;subst hc;dsimp only;omega
theorem Bfs.mids{N:Nat}{es:Es}{to h:Int}{far r:List Int}(q:Bfs N es to far (h::r))(hg:GOk N es)(ht:0≤to∧to<N)(j:Nat):
 Mid N es to h ((cg es h).take j) (dm h ((cg es h).take j) (far,h::r)).1 (dm h ((cg es h).take j) (far,h::r)).2:=by
 induction j with
 |zero=>exact q.mid
 |succ j ih=>
  by_cases hj:j< (cg es h).length
  ·rw [ig hj,di hj 0]
   exact ih.next hg ht (by simp [List.getD,hj])
  ·rw [List.take_of_length_le (by omega)];rw [List.take_of_length_le (by omega)] at ih;exact ih
theorem Mid.bfs{N:Nat}{es:Es}{to h:Int}{far l:List Int}(hg:GOk N es)(q:Mid N es to h (cg es h) far l):Bfs N es to far l.tail:=by
 obtain ⟨r,rfl⟩:=q.hd
 rw [List.tail_cons]
 have hh:=q.inn h (List.mem_cons_self ..)
 have hs:=List.pairwise_cons.1 q.srt
 refine ⟨q.len,fun x hx=>q.inn x (List.mem_cons_of_mem _ hx),q.val,fun a ha h0 hn b hb=>?_,hs.2,fun x hx a ha=>?_,q.goal⟩
 ·by_cases e:(a:Int)=h
  ·subst e
   refine ⟨q.done b hb,?_⟩
   have hv:=q.done b hb
   have hbn:b.toNat<N:=by have:=hg.inns_inn hb;omega
   have:=q.top b.toNat hbn
   simpa using this
  ·exact q.closed a ha h0 (fun hm=>by rcases List.mem_cons.1 hm with h1|h1;exact e h1;exact hn h1) b hb
 ·have:=q.top a ha;have:=hs.1 x hx;omega
theorem Bfs.end_{N:Nat}{es:Es}{to:Int}{far:List Int}(hg:GOk N es)(ht:0≤to∧to<N)(q:Bfs N es to far []):far=oU N es to:=by
 have key:∀(k:Nat) (a c:Int),Wk es k a c→c=to→0≤a→a<N→0≤far.getD a.toNat 0∧far.getD a.toNat 0≤(k:Int):=by
  intro k a c hw
  induction hw with
  |nil=>intro e h0 h1;rw [e,q.goal];omega
  | @cons a b c k he hw ih=>
   intro e h0 h1
   have hb:=hg.inn _ he
   obtain ⟨i1,i2⟩:=ih e hb.2.2.1 hb.2.2.2
   have:=q.closed b.toNat (by omega) i1 (by simp) a (by rw [Int.toNat_of_nonneg hb.2.2.1];exact mem_inns.2 he)
   omega
 refine List.ext_getElem (by rw [q.len,oH]) fun i h1 h2=>?_
 have hi:i<N:=by rw [←q.len];exact h1
 have e1:far[i]=far.getD i 0:=by simp [List.getD,h1]
 have e2:(oU N es to)[i]=(oU N es to).getD i 0:=by simp [List.getD,h2]
 rw [e1,e2,sk hi]
 rcases q.val i hi with h| ⟨d,h,hw⟩
 ·rcases gw es to (i:Int) with ⟨k1,_⟩| ⟨e,k1,k2,_⟩
  ·rw [h,k1]
  ·have:=key _ _ _ k2 rfl (by omega) (by omega);rw [Int.toNat_natCast] at this;omega
 ·rw [h];symm
  refine rh hw fun k hk=>?_
  have:=key _ _ _ hk rfl (by omega) (by omega);rw [Int.toNat_natCast] at this;omega
def iV(far:List Int):Nat:=far.countP fun x=>decide (x<0)
theorem wq{h b:Int}{s:List Int×List Int}(hb:b.toNat<s.1.length)(h0:0≤s.1.getD h.toNat 0):iV (relax h s b).1+(relax h s b).2.length=iV s.1+s.2.length:=by
 unfold relax iV
 split
 ·rename_i hn
  have e:s.1[b.toNat]=s.1.getD b.toNat 0:=by simp [List.getD,hb]
  have h1:0<s.1.countP fun x=>decide (x<0):=List.countP_pos_iff.2 ⟨s.1[b.toNat],List.getElem_mem hb,by rw [e];exact decide_eq_true hn⟩
  dsimp only
  rw [List.countP_set hb,List.length_append,e,if_pos (decide_eq_true hn),if_neg (by rw [decide_eq_true_iff];omega)]
  simp;omega
 ·rfl
theorem oG{N:Nat}{es:Es}{to h:Int}{far r:List Int}(q:Bfs N es to far (h::r))(hg:GOk N es)(ht:0≤to∧to<N)(j:Nat):
 iV (dm h ((cg es h).take j) (far,h::r)).1+(dm h ((cg es h).take j) (far,h::r)).2.length=iV far+(h::r).length:=by
 induction j with
 |zero=>rfl
 |succ j ih=>
  by_cases hj:j< (cg es h).length
  ·rw [ig hj,←ih]
   have hm:=q.mids hg ht j
   refine wq ?_ ?_
   ·rw [hm.len];have:=hg.inns_inn (a:=h) (x:=(cg es h).getD j 0) (by simp [List.getD,hj]);omega
   ·obtain ⟨r',e⟩:=hm.hd;exact (hm.inn h (by rw [e];exact List.mem_cons_self ..)).2.2
  ·rw [List.take_of_length_le (by omega)];rw [List.take_of_length_le (by omega)] at ih;exact ih
theorem zh{h:Int}{bs far l:List Int}{j:Nat}(hj:j<bs.length)(hn:(dm h (bs.take j) (far,l)).1.getD (bs.getD j 0).toNat 0<0):
 (dm h (bs.take (j+1)) (far,l)).1=(dm h (bs.take j) (far,l)).1.set (bs.getD j 0).toNat ((dm h (bs.take j) (far,l)).1.getD h.toNat 0+1)∧(dm h (bs.take (j+1)) (far,l)).2=(dm h (bs.take j) (far,l)).2++[bs.getD j 0]:=by
 rw [ig hj];unfold relax;rw [if_pos hn];exact ⟨rfl,rfl⟩
theorem zt{h:Int}{bs far l:List Int}{j:Nat}(hj:j<bs.length)(hn:¬(dm h (bs.take j) (far,l)).1.getD (bs.getD j 0).toNat 0<0):dm h (bs.take (j+1)) (far,l)=dm h (bs.take j) (far,l):=by
 rw [ig hj];unfold relax;rw [if_neg hn]
def BLt(N:Nat)(far:List Int):Prop:=∀a:Nat,a<N→far.getD a 0+iV far<N
theorem tA{N:Nat}{to:Int}(ht:0≤to∧to<N):iV ((List.replicate N (-1)).set to.toNat 0)=N-1:=by
 have hl:(List.replicate N (-1:Int)).length=N:=List.length_replicate
 unfold iV
 rw [List.countP_set (by omega),List.getElem_replicate,List.countP_replicate];simp
theorem BLt.start{N:Nat}{to:Int}(ht:0≤to∧to<N):BLt N ((List.replicate N (-1)).set to.toNat 0):=by
 intro a ha
 have hl:(List.replicate N (-1:Int)).length=N:=List.length_replicate
 have hn:iV ((List.replicate N (-1:Int)).set to.toNat 0)=N-1:=by
  unfold iV
  rw [List.countP_set (by omega),List.getElem_replicate,List.countP_replicate];simp
 rw [zu (by omega),B9 ha,hn];split <;>omega
theorem BLt.relax{N:Nat}{h b:Int}{s:List Int×List Int}(q:BLt N s.1)(hl:s.1.length=N)(hb:b.toNat<N)(hh:h.toNat<N):BLt N (relax h s b).1:=by
 unfold Sp.relax
 split
 ·rename_i hn
  have e:s.1[b.toNat]'(by omega)=s.1.getD b.toNat 0:=by rw [List.getD_eq_getElem?_getD,List.getElem?_eq_getElem (by omega)];rfl
  intro a ha
  dsimp only
  have h1:0<s.1.countP fun x=>decide (x<0):=List.countP_pos_iff.2 ⟨s.1[b.toNat]'(by omega),List.getElem_mem _,by rw [e];exact decide_eq_true hn⟩
  have qh:=q h.toNat hh
  have qa:=q a ha
  have h0:iV (s.1.set b.toNat (s.1.getD h.toNat 0+1))≤iV s.1∧(0≤s.1.getD h.toNat 0+1→iV (s.1.set b.toNat (s.1.getD h.toNat 0+1))+1=iV s.1):=by
   unfold iV
   rw [List.countP_set (by omega),e,if_pos (decide_eq_true hn)]
   constructor
   ·split <;>omega
   ·intro h0;rw [if_neg (by rw [decide_eq_true_iff];omega)];omega
  rw [zu (by omega)]
  split
  ·by_cases hp:0≤s.1.getD h.toNat 0+1
   ·have:=h0.2 hp;omega
   ·have h3:iV s.1≤N:=by unfold iV;rw [←hl];exact List.countP_le_length
    have h4:iV (s.1.set b.toNat (s.1.getD h.toNat 0+1))≤N:=by unfold iV;rw [←hl,←List.length_set (as:=s.1) (i:=b.toNat) (a:=s.1.getD h.toNat 0+1)];exact List.countP_le_length
    omega
  ·omega
 ·exact q
theorem BLt.mids{N:Nat}{es:Es}{to h:Int}{far r:List Int}(p:BLt N far)(q:Bfs N es to far (h::r))(hg:GOk N es)(ht:0≤to∧to<N)(j:Nat):BLt N (dm h ((cg es h).take j) (far,h::r)).1:=by
 induction j with
 |zero=>exact p
 |succ j ih=>
  by_cases hj:j< (cg es h).length
  ·rw [ig hj]
   have hm:=q.mids hg ht j
   have hb:=hg.inns_inn (a:=h) (x:=(cg es h).getD j 0) (by simp [List.getD,hj])
   have hh:=q.inn h (List.mem_cons_self ..)
   exact ih.relax hm.len (by omega) (by omega)
  ·rw [List.take_of_length_le (by omega)];rw [List.take_of_length_le (by omega)] at ih;exact ih
noncomputable def pw(es:Es)(to a:Int):Int:=(cP es a).getD (eU (fun b=>eb es to b==eb es to a-1) (cP es a)).toNat 0
theorem sG{p:Int→Bool}{xs:List Int}(h:xs.any p=true):0≤eU p xs∧eU p xs<xs.length∧p (xs.getD (eU p xs).toNat 0)=true∧xs.getD (eU p xs).toNat 0∈xs:=by
 have h0:xs.findIdx p<xs.length:=List.findIdx_lt_length.2 (by simpa using h)
 unfold eU
 rw [if_pos h0]
 refine ⟨by omega,by omega,?_,?_⟩
 ·have:=List.findIdx_getElem (w:=h0);simpa [List.getD,h0] using this
 ·simp [List.getD,h0]
theorem uP{es:Es}{to a:Int}{d:Nat}(h:eb es to a=((d+1:Nat):Int)):((cP es a).any fun b=>eb es to b==eb es to a-1)=true:=by
 obtain ⟨b,hb,he⟩:=wX h
 exact List.any_eq_true.2 ⟨b,mem_outs.2 hb,by rw [he,h,beq_iff_eq];omega⟩
theorem nK{es:Es}{to a:Int}{d:Nat}(h:eb es to a=((d+1:Nat):Int)):(a,pw es to a)∈es∧eb es to (pw es to a)=(d:Int):=by
 obtain ⟨_,_,h3,h4⟩:=sG (uP h)
 refine ⟨mem_outs.1 h4,?_⟩
 have:=beq_iff_eq.1 h3
 unfold pw;rw [this,h];omega
noncomputable def gj(es:Es)(to:Int):Nat→Int→List Int
 |0,a=>[a]
 |d+1,a=>a::gj es to d (pw es to a)
noncomputable def ee(N:Nat)(es:Es)(a to:Int):List Int:=if valid N a=true∧valid N to=true∧0≤eb es to a then gj es to (eb es to a).toNat a else []
theorem ju(es:Es)(to:Int):∀(d:Nat) (a:Int),(gj es to d a).length=d+1
 |0,a=>rfl
 |d+1,a=>by rw [gj,List.length_cons,ju es to d]
theorem nQ(es:Es)(to:Int)(d:Nat)(a:Int):(gj es to d a).getD 0 0=a:=by cases d <;>rfl
theorem mV{es:Es}{to:Int}:∀(d:Nat) (a:Int),eb es to a=(d:Int)→∀i,i≤d→eb es to ((gj es to d a).getD i 0)=((d-i:Nat):Int)
 |0,a,h,i,hi=>by
  have:i=0:=by omega
  subst this;exact h
 |d+1,a,h,i,hi=>by
  cases i with
  |zero=>exact h
  |succ i=>
   have:=mV d _ (nK h).2 i (by omega)
   rw [gj,List.getD_cons_succ,this];congr 1;omega
theorem oC{es:Es}{to:Int}:∀(d:Nat) (a:Int),eb es to a=(d:Int)→∀i,i<d→((gj es to d a).getD i 0,(gj es to d a).getD (i+1) 0)∈es
 |0,a,h,i,hi=>by omega
 |d+1,a,h,i,hi=>by
  cases i with
  |zero=>rw [gj,List.getD_cons_succ,List.getD_cons_zero,nQ];exact (nK h).1
  |succ i=>rw [gj,List.getD_cons_succ,List.getD_cons_succ];exact oC d _ (nK h).2 i (by omega)
noncomputable def atN(es:Es)(to:Int):Nat→Int→Int
 |0,a=>a
 |k+1,a=>pw es to (atN es to k a)
theorem pV(es:Es)(to:Int):∀(k:Nat) (a:Int),atN es to (k+1) a=atN es to k (pw es to a)
 |0,a=>rfl
 |k+1,a=>by
  have:=pV es to k a
  show pw es to (atN es to (k+1) a)=pw es to (atN es to k (pw es to a))
  rw [this]
theorem m6(es:Es)(to:Int):∀(d:Nat) (a:Int),gj es to (d+1) a=gj es to d a++[atN es to (d+1) a]
 |0,a=>rfl
 |d+1,a=>by
  rw [gj,m6 es to d,gj,List.cons_append,←pV es to (d+1)]
theorem qp{es:Es}{to a:Int}{d:Nat}(h:eb es to a=(d:Int)):∀k,k≤d→eb es to (atN es to k a)=((d-k:Nat):Int)
 |0,_=>h
 |k+1,hk=>by
  have ih:=qp h k (by omega)
  rw [show d-k=(d- (k+1))+1 by omega] at ih
  exact (nK ih).2
theorem GOk.atN{N:Nat}{es:Es}(hg:GOk N es){to a:Int}{d:Nat}(h:eb es to a=(d:Int))(ha:0≤a∧a<N):∀k,k≤d→0≤Sp.atN es to k a∧Sp.atN es to k a<N
 |0,_=>ha
 |k+1,hk=>by
  have ih:=qp h k (by omega)
  rw [show d-k=(d- (k+1))+1 by omega] at ih
  have:=hg.inn _ (nK ih).1
  exact ⟨this.2.2.1,this.2.2.2⟩
theorem p3{N:Nat}{es:Es}{a to:Int}{i:Nat}(h:i< (ee N es a to).length):valid N a=true∧valid N to=true∧∃d:Nat,eb es to a=(d:Int)∧ee N es a to=gj es to d a∧i≤d:=by
 unfold ee at h⊢
 by_cases hc:valid N a=true∧valid N to=true∧0≤eb es to a
 ·rw [if_pos hc,ju] at h
  rw [if_pos hc]
  exact ⟨hc.1,hc.2.1,(eb es to a).toNat,by have:=hc.2.2;omega,rfl,by omega⟩
 ·rw [if_neg hc] at h;simp at h
theorem ug{N:Nat}{es:Es}(hg:GOk N es){a to:Int}{i:Nat}(h:i< (ee N es a to).length):0≤(ee N es a to).getD i 0∧(ee N es a to).getD i 0<N:=by
 obtain ⟨h1,h2,d,h3,h4,h5⟩:=p3 h
 rw [h4]
 cases i with
 |zero=>rw [nQ];exact valid_iff.1 h1
 |succ i=>have:=hg.inn _ (oC d a h3 i (by omega));exact ⟨this.2.2.1,this.2.2.2⟩
theorem zV{N:Nat}{es:Es}{a to:Int}{i k:Nat}(hk:k<i)(h:i< (ee N es a to).length):¬(ee N es a to).getD k 0=(ee N es a to).getD i 0:=by
 obtain ⟨h1,h2,d,h3,h4,h5⟩:=p3 h
 rw [h4];intro e
 have e1:=mV d a h3 i h5
 have e2:=mV d a h3 k (by omega)
 rw [e] at e2;omega
theorem tv{N:Nat}{es:Es}{a to:Int}:(ee N es a to).Nodup:=by
 rw [List.nodup_iff_pairwise_ne,List.pairwise_iff_getElem]
 intro i j hi hj hlt e
 exact zV hlt hj (by simpa [List.getD,hi,hj] using e)
theorem uE{N:Nat}{es:Es}(hg:GOk N es){a to:Int}:(ee N es a to).length≤N:=by
 refine ma tv fun x hx=>?_
 obtain ⟨i,hi,e⟩:=List.mem_iff_getElem.1 hx
 have:=ug hg hi
 rw [←e];simpa [List.getD,hi] using this
theorem q6{N:Nat}{es:Es}(hg:GOk N es){a to:Int}(ha:0≤a∧a<N)(ht:0≤to∧to<N):eb es to a<N:=by
 by_cases h0:0≤eb es to a
 ·have h1:=uE hg (a:=a) (to:=to)
  unfold ee at h1
  rw [if_pos ⟨valid_iff.2 ha,valid_iff.2 ht,h0⟩,ju] at h1;omega
 ·omega
structure OrdOk(N:Nat)(es:Es)(o:List Int):Prop where
 nodup:o.Nodup
 inn:∀x∈o,0≤x∧x<N
 closed:∀i,i<o.length→∀b∈cP es (o.getD i 0),∃j,j<i∧o.getD j 0=b
theorem mem_at{o:List Int}{x:Int}:x∈o↔∃i,i<o.length∧o.getD i 0=x:=by
 rw [List.mem_iff_getElem]
 constructor
 ·rintro ⟨i,hi,e⟩;exact ⟨i,hi,by simp [List.getD,hi,e]⟩
 ·rintro ⟨i,hi,e⟩;exact ⟨i,hi,by simpa [List.getD,hi] using e⟩
theorem OrdOk.inj{N:Nat}{es:Es}{o:List Int}(h:OrdOk N es o){i j:Nat}(hi:i<o.length)(hj:j<o.length)(e:o.getD i 0=o.getD j 0):i=j:=by
 have:=List.getElem_inj (h₀:=hi) (h₁:=hj) h.nodup
 exact this.1 (by simpa [List.getD,hi,hj] using e)
end Go.Proofs.YtanfdikglplkaaaGreatDoor.Sp
namespace Go.Proofs.YtanfdikglplkaaaGreatDoor.Sp
open Go
section
variable{P:Program}{E:List (Nat×Value)}{L:List HP}{ty t t':TypeId}{x y:Operand}
theorem oR{P:Program}{w:World}{t e:TypeId}(hu:P.underlying t=some (.pointer e)):(Op.equal t (.pointer none) (.pointer none)).run P w=.ok true w:=by
 show (Op.equalIn (9999+1) t _ _).run P w=_
 unfold Op.equalIn;simp [run_underlying hu]
theorem qe{e:TypeId}(hu:P.underlying t=some (.pointer e))(hx:ev E x=some (.pointer none))(hy:ev E y=some (.pointer none)):LV P E L (.binOp .eql t x y t') ty (.bool true):=by
 intro ρ h w _ d pos af g;simp [execOp,h x _ hx,h y _ hy,eqGuard,binOp,oR hu]
theorem pA{P:Program}{w:World}{t:TypeId}{ps rs:Array TypeId}{v:Bool}(hu:P.underlying t=some (.func ps rs v)):(Op.equal t .nilFunc .nilFunc).run P w=.ok true w:=by
 show (Op.equalIn 10000 t .nilFunc .nilFunc).run P w=_
 unfold Op.equalIn;simp [run_underlying hu]
theorem xA{ps rs:Array TypeId}{v:Bool}(hu:P.underlying t=some (.func ps rs v))(hx:ev E x=some .nilFunc)(hy:ev E y=some .nilFunc):LV P E L (.binOp .eql t x y t') ty (.bool true):=by
 intro ρ h w _ d pos af g
 simp [execOp,h x _ hx,h y _ hy,eqGuard,binOp,pA hu]
end
end Go.Proofs.YtanfdikglplkaaaGreatDoor.Sp
namespace Go.Proofs.YtanfdikglplkaaaGreatDoor.Sp
open Go
def HidL(n:Nat)(d:Led):Prop:=∀i,(d.ps.getD i Pl.z).h=true→0≤(d.ps.getD i Pl.z).id∧(d.ps.getD i Pl.z).id<n
section
variable{n:Nat}{d:Led}
theorem HidL.put(h:HidL n d)(i:Nat){x:Pl}{u:Int}(hx:x.h=true→0≤x.id∧x.id<n):HidL n (d.put i x u):=fun j hj=>by
 have e:(d.put i x u).ps=d.ps.set i x:=rfl
 rw [e] at hj⊢
 by_cases hi:i<d.ps.length
 ·rw [qo hi] at hj⊢
  by_cases e2:j=i
  ·rw [if_pos e2] at hj⊢;exact hx hj
  ·rw [if_neg e2] at hj⊢;exact h j hj
 ·rw [List.set_eq_of_length_le (by omega)] at hj⊢;exact h j hj
theorem HidL.drop(h:HidL n d)(v:Int):HidL n (d.drop v):=by
 unfold Led.drop;split
 ·exact h
 ·exact h.put _ fun hh=>by cases hh
theorem HidL.take(h:HidL n d){t:Nat}(ht:t<n)(m:Int):HidL n (d.take t m):=by
 unfold Led.take;split
 ·exact h.put _ fun _=>⟨by show (0:Int)≤(t:Int);omega,by show (t:Int)<n;omega⟩
 ·exact h
theorem HidL.stopN{a:SL}(h:HidL n a.ld):∀vs:List Int,HidL n (stopN a vs).ld:=fun vs=>by
 unfold Sp.stopN
 induction vs generalizing a with
 |nil=>exact h
 |cons v vs ih=>rw [List.foldl_cons];exact ih (a:=lS a v) (h.drop v)
theorem HidL.at_(h:HidL n d){s:Int}(hb:d.atB s=true):∃t:Nat,d.atI s=(t:Int)∧t<n:=by
 unfold Led.atB at hb
 obtain ⟨h1,h2⟩:=Bool.and_eq_true_iff.1 hb
 have h3:=h _ h2
 refine ⟨(d.ps.getD s.toNat Pl.z).id.toNat,?_,by omega⟩
 unfold Led.atI;rw [if_pos (of_decide_eq_true h1)];omega
end
theorem OvOk.lv{n m:Nat}{A Q:Int}{y:OS}(h:OvOk n m A Q y)(r v:Int):OvOk n m A Q (y.leaves r v):=by
 by_cases hr:r∈y.as.a++y.as.q
 ·exact h.leaves hr v
 ·have ht:dV y.as r=false:=by
   rw [Bool.eq_false_iff];exact fun hh=>hr (there_iff.1 hh)
  have he:eG y.as r=6:=by unfold eG;rw [ht];rfl
  obtain ⟨hi,hq⟩:jW y.as r=false∧jY y.as r=false:=by
   constructor <;>rw [Bool.eq_false_iff] <;>intro hh <;>exact hr (by simp [jW,jY] at hh;simp [hh])
  have hs:eQ y.as r=y.as:=by unfold eQ;rw [hi,hq];rfl
  have e:y.leaves r v=y.left r v:=if_neg (fun hh=>by rw [he] at hh;exact absurd hh.1 (by decide))
  rw [e]
  refine ⟨h.rq.setSt _ _,by show (y.s.setSt _ _).rq.length=m;rw [iJ];exact h.lm,?_,?_,?_⟩
  ·show∀i∈(eQ y.as r).a++(eQ y.as r).q,_;rw [hs];exact h.ids
  ·show AOk A Q (eQ y.as r);rw [hs];exact h.ao
  ·show (fo y.ms r).map (·.id)=(eQ y.as r).a
   rw [iN,h.me,hs];exact List.erase_of_not_mem fun hh=>hr (List.mem_append_left _ hh)
theorem KpO.lv{n m:Nat}{A Q:Int}{y:OS}(h:OvOk n m A Q y)(r v:Int):KpO n m A Q y (y.leaves r v):=⟨h.lv r v,Kp.leaves y r v⟩
theorem KpO.ov{n m:Nat}{A Q:Int}{y z:OS}(h:OvOk n m A Q y)(hv:Ov y z):KpO n m A Q y z:=⟨hv.ok h,Kp.ov hv⟩
theorem BQ(ks:Ks)(t:Int):∀i∈fT ks t,0≤i∧i<ks.length:=by
 refine uo (P:=fun ks=> ∀i∈fT ks t,0≤i∧i<ks.length) t (fun ks h=>?_) (fun ks h ih=>?_) ks
 ·rw [(og h).1];intro i hi;cases hi
 ·rw [(nA h).1];intro i hi
  rcases List.mem_cons.1 hi with e|hi
  ·obtain ⟨j,k,hm⟩:=ko (fstB_pos.1 h.1)
   rw [e,hm.fi]
   have:j<ks.length:=by
    rcases Nat.lt_or_ge j ks.length with hh|hh
    ·exact hh
    ·have h1:=hm.at_;rw [List.getD_eq_getElem?_getD,List.getElem?_eq_none hh] at h1;cases h1
   omega
  ·have:=ih i hi;rw [zG] at this;exact this
structure Kq(k:Nat)(s s':ES):Prop where
 c:s'.c=s.c
 al:s'.al=s.al
 bg:s'.bg=s.bg
 lg:s'.lg.length≤s.lg.length+k
 ep:∀t,(s'.lf.getD t Lf.z).ep=(s.lf.getD t Lf.z).ep
 mem:∀t,(s'.tk.getD t Tk.z).mem=(s.tk.getD t Tk.z).mem
theorem Kp.q{s s':ES}(h:Kp s s'):Kq 0 s s':=⟨h.c,h.al,h.bg,by rw [h.lg];exact Nat.le_refl _,h.ep,h.mem⟩
theorem Kq.trans{i j:Nat}{a b c:ES}(h:Kq i a b)(k:Kq j b c):Kq (i+j) a c:=⟨k.c.trans h.c,k.al.trans h.al,k.bg.trans h.bg,by have:=h.lg;have:=k.lg;omega,fun t=>(k.ep t).trans (h.ep t),fun t=>(k.mem t).trans (h.mem t)⟩
theorem Kq.lg1(s:ES)(v:Ev):Kq 1 s (s.addLg v):=⟨rfl,rfl,rfl,by show (s.lg++[v]).length≤_;rw [List.length_append];exact Nat.le_refl _,fun _=>rfl,fun _=>rfl⟩
theorem Kq.mono{i j:Nat}{a b:ES}(h:Kq i a b)(hij:i≤j):Kq j a b:=⟨h.c,h.al,h.bg,by have:=h.lg;omega,h.ep,h.mem⟩
theorem Kq.now(s:ES)(v:Int):Kq 0 s (s.setNow v):=⟨rfl,rfl,rfl,Nat.le_refl _,fun _=>rfl,fun _=>rfl⟩
def Cf(n m:Nat)(A Q:Int)(es:Es)(y:OS)(ld:Led)(a b c er:Int)(z:OS)(es':Es)(ld':Led):Prop:=
 (er≠0∧z=y∧es'=es∧ld'=ld∧(ld.atB a=true→c=1→jP (y.s.lf.getD (ld.atI a).toNat Lf.z) b≠0))∨
 (er=0∧∃(t:Nat) (ev:Ev),ld.atI a=t∧ld'=ld.drop t∧KpO n m A Q ⟨y.s.addLg ev,y.ms,y.ta,y.as⟩ z∧(c=1→es'=es∧∃sf,Foll es (mU y.s ld t) sf∧Ov {y with s:=sf} z∧z.calm))
end Go.Proofs.YtanfdikglplkaaaGreatDoor.Sp
