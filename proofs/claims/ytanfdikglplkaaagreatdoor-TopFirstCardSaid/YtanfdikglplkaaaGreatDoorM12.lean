/- Parts Vtb, Nw, Vic, Edn, LawB, LawR, Pur, Apa, Bot, Rea, Pik, Pib, Pro, Dsp, Fst, Mth: own lemmas and contracts of the code that the claim reaches. -/
import Derived.Test.YtanfdikglplkaaaGreatDoorM10
import Derived.Test.YtanfdikglplkaaaGreatDoorM11
import Derived.Test.YtanfdikglplkaaaGreatDoorM08
import Derived.Test.YtanfdikglplkaaaGreatDoorM03
import Derived.Deep.Grids
import Derived.Test.YtanfdikglplkaaaGreatDoorM06
import Derived.Deep.Strs
import Derived.Lib.SmallJoins
import Derived.Test.YtanfdikglplkaaaGreatDoorM09
import Derived.Test.YtanfdikglplkaaaGreatDoorM05
import Derived.Test.YtanfdikglplkaaaGreatDoorM04
import Derived.Test.YtanfdikglplkaaaGreatDoorM02
set_option linter.unusedSimpArgs false
set_option linter.unusedVariables false
namespace Go.Proofs.YtanfdikglplkaaaGreatDoor.Sp
open Go
def VTab(r:Nat)(L:List HP):Prop:=Gives L ⟨0,0,none⟩ (.map (some r))∧∀w,Sat L w→∃es ck,w.heap[r]?=some (.map es ck)∧
 ∀k:Int,5≤k→k≤7→∃n,Instr.findNow (.int .i64) (.int .i64 k) es.toList 0=some (some (n,.int .i64 (jg k)))
theorem VTab.cons{r:Nat}{A:HP}{L:List HP}(h:VTab r L):VTab r (A::L):=⟨.cons h.1,fun w hs=>h.2 w hs.drop⟩
section
variable{P:Program}{E:List (Nat×Value)}{L:List HP}{ty:TypeId}
theorem xY{t kt et:TypeId}{m ix:Operand}{r:Nat}{x:Int}(hV:VTab r L)(hu:P.underlying t=some (.map kt et))(hk:P.underlying kt=some (.int .i64))
 (hm:ev E m=some (.map (some r))) (hx:ev E ix=some (.int .i64 x)) (h5:5≤x) (h7:x≤7):LV P E L (.lookup t m ix false) ty (.int .i64 (jg x)):=by
 intro ρ h w hs d pos af g
 obtain ⟨es,ck,hb,hf⟩:=hV.2 w hs
 obtain ⟨n,hn⟩:=hf x h5 h7
 have e1:∀e,(Instr.checkKey e 10000 kt (.int .i64 x)).run P w=.ok () w:=fun e=>MapKept.run_checkKey hk (show MapKept.IsKey (.int .i64) (.int .i64 x) from rfl) e 9999
 have e2:(Instr.findKey kt (.int .i64 x) es.toList).run P w=.ok (some (n,.int .i64 (jg x))) w:=MapKept.run_findKey hk hn
 simp [execOp,h m _ hm,h ix _ hx,Instr.lookup,run_underlying hu,MapKept.run_getObj_map hb,e1,e2,Result.andThen]
theorem dH{f:Fn}{xs:List Operand}{vs:List Value}(hx:evs E xs=some vs):LV P E L (.makeFunc f xs.toArray #[]) ty (.func f vs.toArray #[]):=by
 intro ρ h w _ d pos af g
 simp [execOp,Instr.makeFunc,h.evs hx]
end
end Go.Proofs.YtanfdikglplkaaaGreatDoor.Sp
namespace Go.Proofs.YtanfdikglplkaaaGreatDoor.Sp
open Go
def kc(p:Int×Int):Tk:=⟨p.1,p.2,-1,0,.slice none 0 0⟩
def j5(c:Cfg):Lf:=⟨0,0,0,0,max c.tries 1,max c.pre 0⟩
def wH(c:Cfg)(al:List (Int×Int)):ES:=⟨c,al,al.map kc,List.replicate al.length (j5 c),[],0,0,[]⟩
theorem tO{al:List (Int×Int)}{k:Nat}(h:k<al.length):(al.map kc).take k++[kc (al.getD k (0,0))]=(al.map kc).take (k+1):=by
 rw [List.take_add_one,List.getElem?_map];simp [List.getD,h]
theorem tU(c:Cfg)(k:Nat):List.replicate k (j5 c)++[j5 c]=List.replicate (k+1) (j5 c):=by rw [List.replicate_succ']
theorem r9{c:Lf}{n i:Nat}(h:i<n):(List.replicate n c).getD i Lf.z=c:=by simp [List.getD,h]
theorem Br{c:Cfg}{al:List (Int×Int)}{g tp ld ad tn n ca ct:Nat}{ba bt:Option Addr}{ks:List (Nat×Nat)}(hc:CfgOk c)(hl:al.length=n)(hn:n≤64)(hk:ks.length=n)(oka:bB ba n)(la:n≤ca)(okt:bB bt n)(lt:n≤ct):
 EF ⟨g,tp,ld,ad,tn,n,0,ba,ca,bt,ct,none,0,ks,[]⟩ (wH c al):=
 ⟨by show (al.map kc).length=n;rw [List.length_map];exact hl,by show (List.replicate al.length (j5 c)).length=n;rw [List.length_replicate];exact hl,hk,hl,rfl,rfl,oka,okt,cn,hn,Nat.zero_le 64,la,lt,Nat.le_refl _,
  fun i hi=>by
   have h1:=hc.tries;have h2:=hc.pre
   show LfOk ((List.replicate al.length (j5 c)).getD i Lf.z)
   rw [r9 (by rw [hl];exact hi)]
   exact ⟨Int.le_refl _,by show (0:Int)≤7;decide,Int.le_refl _,Int.le_refl _,by show (0:Int)≤max c.tries 1;omega,fun _=>by show (0:Int)<max c.tries 1;omega,Int.le_refl _,by show (0:Int)≤max c.pre 0;omega,by show 1≤max c.tries 1;omega,by show max c.tries 1≤1048576;omega,by show max c.pre 0≤1048576;omega⟩,
  by show (0:Int)≤0∧(0:Int)≤1099511627776;decide⟩
theorem xg{K:Act→World→Prop}{W:World}{N':Nat}{E:List (Nat×Value)}{L:List HP}{e:Nat}{c:Cfg}{al:List (Int×Int)}{g tp ld ad tn n ca ct:Nat}{ba bt:Option Addr}{ks:List (Nat×Nat)}(hc:CfgOk c)(hl:al.length=n)(hn:n≤64)(hk:ks.length=n)(oka:bB ba n)(la:n≤ca)(okt:bB bt n)(lt:n≤ct)
 (kk:cd K W N' E (bQ e ⟨g,tp,ld,ad,tn,n,0,ba,ca,bt,ct,none,0,ks,[]⟩ (wH c al)::L)):
 cd K W N' E (bI e [.int .i64 c.bud,.int .i64 c.slots,.int .i64 c.act,.int .i64 c.que,.int .i64 c.tries,.int .i64 c.pre,.int .i64 c.tmo,.int .i64 c.bak,.int .i64 c.most,.int .i64 c.qu,
 .slice ba n ca,.slice bt n ct,.slice none 0 0,.pointer (some ⟨g,0,none⟩),.pointer (some ⟨tp,0,none⟩),.pointer (some ⟨ld,0,none⟩),.pointer (some ⟨ad,0,none⟩),.pointer (some ⟨tn,0,none⟩),
 .int .i64 0,.int .i64 0,.slice none 0 0] 73::SlV 57 2 (.slice ba n ca) n (df al)::SlV 64 1 (.slice bt n ct) n (bJ dJ (ks.map Prod.fst))::
 cI (e9 tf Prod.fst pd ks (al.map kc))::cI (e9 py Prod.snd (fun _=>fD) ks (List.replicate n (j5 c)))::L):=by
 have h2:=qj (e:=e) (L:=L) (b:=none) (c:=0) (Br (g:=g) (tp:=tp) (ld:=ld) (ad:=ad) (tn:=tn) hc hl hn hk oka la okt lt) ⟨cn,Nat.le_refl _⟩ kk
 refine bO (fun _ h=>cz 45 5 h) ?_
 refine bO (fun _ h=>cz 79 1 h) ?_
 refine xh w5 id (fun _=>rv) ?_
 subst hl
 refine eL (eL (de (de (eL (eL (eL ?_))))))
 exact h2
end Go.Proofs.YtanfdikglplkaaaGreatDoor.Sp
namespace Go.Proofs.YtanfdikglplkaaaGreatDoor.Sp
open Go
theorem mv{xs:List Ev}{k:Nat}(h:k<xs.length):xs.getD k Ev.z∈xs:=by simp [List.getD,h]
theorem rI{xs:List Ev}{i:Nat}{y:Ev}(h:i<xs.length)(j:Nat):(xs.set i y).getD j Ev.z=if j=i then y else xs.getD j Ev.z:=by
 by_cases e:j=i
 ·subst e;rw [if_pos rfl];simp [List.getD,h]
 ·rw [if_neg e];simp only [List.getD];rw [List.getElem?_set_ne (fun h=>e h.symm)]
structure DelE(p:Ev→Bool)(xs:List Ev)(i j:Nat)(ys:List Ev):Prop where
 lt:i<j
 le:j≤xs.length
 len:ys.length=xs.length
 ft:∀q,q<i→p (ys.getD q Ev.z)=false∧ys.getD q Ev.z∈xs
 bk:∀q,j≤q→ys.getD q Ev.z=xs.getD q Ev.z
section
variable{p:Ev→Bool}{xs ys:List Ev}{i j:Nat}
theorem DelE.start{k:Nat}(hk:k<xs.length)(ha:∀j,j<k→p (xs.getD j Ev.z)=false):DelE p xs k (k+1) xs:=⟨by omega,hk,rfl,fun q hq=>⟨ha q hq,mv (by omega)⟩,fun _ _=>rfl⟩
theorem DelE.keep(h:DelE p xs i j ys)(hj:j<xs.length)(hp:p (ys.getD j Ev.z)=false):DelE p xs (i+1) (j+1) (ys.set i (ys.getD j Ev.z)):=by
 have h1:=h.lt;have h2:=h.len
 refine ⟨by omega,hj,by rw [List.length_set];exact h2,fun q hq=>?_,fun q hq=>?_⟩
 ·rw [rI (by omega)];split
  ·exact ⟨hp,by rw [h.bk j (Nat.le_refl _)];exact mv hj⟩
  ·exact h.ft q (by omega)
 ·rw [rI (by omega),if_neg (by omega)];exact h.bk q (by omega)
theorem DelE.skip(h:DelE p xs i j ys)(hj:j<xs.length):DelE p xs i (j+1) ys:=⟨by have:=h.lt;omega,hj,h.len,h.ft,fun q hq=>h.bk q (by omega)⟩
def KeptE(p:Ev→Bool)(xs zs:List Ev):Prop:=zs.length≤xs.length∧∀x∈zs,p x=false∧x∈xs
theorem DelE.done(h:DelE p xs i j ys):KeptE p xs (ys.take i):=by
 have h1:=h.lt;have h2:=h.len;have h3:=h.le
 refine ⟨by rw [List.length_take];omega,fun x hx=>?_⟩
 obtain ⟨q,hq,e⟩:=List.getElem_of_mem hx
 rw [List.length_take] at hq
 have:=h.ft q (by omega)
 rw [List.getElem_take] at e
 rw [show ys.getD q Ev.z=x from by simp [List.getD,show q<ys.length by omega,e]] at this
 exact this
theorem KeptE.all(ha:∀j,j<xs.length→p (xs.getD j Ev.z)=false):KeptE p xs xs:=by
 refine ⟨Nat.le_refl _,fun x hx=>?_⟩
 obtain ⟨q,hq,e⟩:=List.getElem_of_mem hx
 have:=ha q hq
 rw [show xs.getD q Ev.z=x from by simp [List.getD,hq,e]] at this
 exact ⟨this,hx⟩
end
def SameE(xs ys:List Ev):Prop:=ys.length=xs.length∧∀x∈ys,x∈xs
theorem SameE.refl(xs:List Ev):SameE xs xs:=⟨rfl,fun _ h=>h⟩
theorem SameE.set{xs ys:List Ev}(h:SameE xs ys){i:Nat}{y:Ev}(hy:y∈ys):SameE xs (ys.set i y):=
 ⟨by rw [List.length_set];exact h.1,fun x hx=>by
  rcases List.mem_or_eq_of_mem_set hx with h1|h1
  ·exact h.2 x h1
  ·subst h1;exact h.2 _ hy⟩
theorem SameE.swap{xs ys:List Ev}(h:SameE xs ys){j:Nat}(hj:j<ys.length):SameE xs ((ys.set j (ys.getD (j-1) Ev.z)).set (j-1) (ys.getD j Ev.z)):=by
 refine ⟨by rw [List.length_set,List.length_set];exact h.1,fun x hx=>?_⟩
 rcases List.mem_or_eq_of_mem_set hx with h1|h1
 ·exact (h.set (mv (by omega))).2 x h1
 ·subst h1;exact h.2 _ (mv hj)
def gX(a b:Int):Int:=if a<b then -1 else if a>b then 1 else 0
def By(a b c:Int):Int:=if a≠0 then a else if b≠0 then b else c
def Cs(x y:Ev):Int:=By (gX x.t y.t) (gX y.i x.i) (gX y.k x.k)
def gx(n:Int):Int:=min (max n 0) 1048576
theorem ui(n:Int):0≤gx n∧gx n≤1048576:=by unfold gx;omega
def jC(prio most:Int)(x:Ev):Bool:=decide (x.t≥prio) ||decide (x.e≥most)
def rV(l:List Ev)(prio most:Int)(vs:List Int):Prop:=∀v∈vs,∃x∈l,x.k=v∧x.t<prio∧x.e<most
theorem vu{zs:List Ev}{k:Nat}(h:k<zs.length):(zs.map (·.k)).take k++[(zs.getD k Ev.z).k]=(zs.map (·.k)).take (k+1):=by
 rw [List.take_add_one,List.getElem?_map];simp [List.getD,h]
theorem r4{xs ys zs:List Ev}{prio most:Int}{k:Nat}(h1:KeptE (jC prio most) xs ys)(h2:SameE ys zs):rV xs prio most ((zs.map (·.k)).take k):=fun v hv=>by
 obtain ⟨x,hx,e⟩:=List.mem_map.1 (List.mem_of_mem_take hv)
 obtain ⟨h3,h4⟩:=h1.2 x (h2.2 x hx)
 unfold jC at h3
 rw [Bool.or_eq_false_iff,decide_eq_false_iff_not,decide_eq_false_iff_not] at h3
 exact ⟨x,h4,e,by omega,by omega⟩
end Go.Proofs.YtanfdikglplkaaaGreatDoor.Sp
namespace Go.Proofs.YtanfdikglplkaaaGreatDoor.Sp
open Go
structure Sm(s s':ES):Prop where
 c:s'.c=s.c
 al:s'.al=s.al
 tk:s'.tk=s.tk
 now:s'.now=s.now
 bg:s'.bg=s.bg
 lg:s'.lg=s.lg
 len:s'.lf.length=s.lf.length
 ep:∀t,(s'.lf.getD t Lf.z).ep=(s.lf.getD t Lf.z).ep
 dn:∀t,s'.stt t=5↔s.stt t=5
theorem Sm.refl(s:ES):Sm s s:=⟨rfl,rfl,rfl,rfl,rfl,rfl,rfl,fun _=>rfl,fun _=>.rfl⟩
structure DQ(n m:Nat)(W:Nat→Prop)(s:ES)(ac ids:List Int):Prop where
 ln:s.lf.length=n
 lm:s.rq.length=m
 rr:∀r,r<m→s.rt r<n
 st:∀t,t<n→s.stt t=0∨s.stt t=1∨s.stt t=5
 wa:∀t,t<n→s.stt t≠0→W t
 ac:∀r∈ac,s.stt (s.rt r.toNat)≠0
 ou:∀r:Nat,r<m→(r:Int) ∉ ids→(s.rq.getD r Rq.z).st=2∧s.stt (s.rt r)=5
 ro:∀t,W t↔∃r,r<m∧s.rt r=t
section
variable{n m:Nat}{W:Nat→Prop}{s:ES}{ac ids:List Int}
end
structure DR(n m:Nat)(A Q:Int)(W:Nat→Prop)(y:OS):Prop where
 ov:OvOk n m A Q y
 dq:DQ n m W y.s y.as.a (y.as.a++y.as.q)
 ne:y.as.a=[]→y.as.q=[]
section
variable{n m:Nat}{A Q:Int}{W:Nat→Prop}{y:OS}
theorem DR.none(h:DR n m A Q W y)(ha:y.as.a=[]):(∀t,t<n→(y.s.stt t=5↔W t))∧∀r,r<m→(y.s.rq.getD r Rq.z).st=2:=by
 have hq:=h.ne ha
 have ho:∀r:Nat,r<m→(y.s.rq.getD r Rq.z).st=2∧y.s.stt (y.s.rt r)=5:=fun r hr=>h.dq.ou r hr (by rw [ha,hq];simp)
 refine ⟨fun t ht=>⟨fun h5=>h.dq.wa t ht (by rw [h5];decide),fun hw=>?_⟩,fun r hr=>(ho r hr).1⟩
 obtain ⟨r,hr,e⟩:=(h.dq.ro t).1 hw
 rw [←e];exact (ho r hr).2
end
end Go.Proofs.YtanfdikglplkaaaGreatDoor.Sp
namespace Go.Proofs.YtanfdikglplkaaaGreatDoor.Sp
open Go Go.ChangeShapes Go.WideShapes Go.ChangeAt Go.RowKit
variable{P:Program}{H:Type}{enc:TypeId×Value→H}
end Go.Proofs.YtanfdikglplkaaaGreatDoor.Sp
namespace Go.Proofs.YtanfdikglplkaaaGreatDoor.Sp
open Go Go.ChangeShapes Go.WideShapes Go.ChangeAt Go.RowKit
variable{P:Program}{H:Type}{enc:TypeId×Value→H}
theorem Bm{α:Type}[Inhabited α]{F:α→List Value}{n:Nat}(hF:∀x,(F x).length=n)(hn:0<n){good:α→Prop}{W:World}{t e:TypeId}{cs:List Value}{fuel:Nat}{x:DataW H×List MemPlace}
 (ht:P.underlying t=some (.slice e)) (ce:P.cellsOf e=n) (each:∀(fuel:Nat) (cs:List Value) (y:DataW H×List MemPlace),cs.length=n→DataW.trod enc P W 0 (fun _=>true) true fuel e cs=some y→∃z,F z=cs∧good z)
 (h:DataW.trod enc P W 0 (fun _=>true) true fuel t cs=some x):
 ∃bs cp,∃xs:List α,cs=[.slice bs xs.length cp]∧xs.length≤9223372036854775807∧bB bs xs.length∧Rd [w4 W] bs (bJ F xs)∧∀x∈xs,good x:=by
 rcases Deep.open_slice ht h with ⟨hcs,_⟩| ⟨a,len,cap,m,k,D,Pl,hcs,_,hl,hm,hmm,_,hx⟩
 ·exact ⟨none,0,[],hcs,by simp,cn,fun _ _ j u hu=>by simp [bJ] at hu,fun x hx=>by cases hx⟩
 ·simp only [if_true] at hmm
  subst hmm
  have hmax:m≤9223372036854775807:=by simpa [maxLen] using hm
  have hq:∀i,i<len→∃z:α,good z∧∀j,j<n→W.cell? ((a.add (i*n)).add j)=(F z)[j]?:=fun i hi=>by
   obtain ⟨cs',h1,h2⟩:=hx i (by omega)
   rw [ce] at h1
   obtain ⟨_,hlen,hcell⟩:=World.cells?_some h1
   obtain ⟨z,hz,hg⟩:=each _ _ _ hlen h2
   refine ⟨z,hg,fun j hj=>?_⟩
   rw [hz];exact hcell j hj
  obtain ⟨q,hq⟩:=Deep.choose_lt hq
  have hsl:bB (some a) len:=oE (W:=W) fun h0=>by
   have h1:=(hq 0 h0).2 0 hn
   have h2:0< (F (q 0)).length:=by rw [hF];exact hn
   refine ⟨(F (q 0))[0],?_⟩
   rw [List.getElem?_eq_getElem h2] at h1
   simpa [Addr.add] using h1
  have hlr:((List.range len).map q).length=len:=by simp
  refine ⟨some a,m,(List.range len).map q,by rw [hlr];exact hcs,by rw [hlr];omega,by rw [hlr];exact hsl,?_,fun x hx'=>?_⟩
  ·intro w hs j u hu
   have hj:j<len*n:=by have:=(List.getElem?_eq_some_iff.1 hu).1;rw [dQ hF,hlr] at this;exact this
   have hdm:=Nat.div_add_mod j n
   have hmod:=Nat.mod_lt j hn
   have hdiv:j/n<len:=Nat.div_lt_of_lt_mul (by rw [Nat.mul_comm];exact hj)
   obtain ⟨b,o,hb⟩:=hsl (Nat.lt_of_le_of_lt (Nat.zero_le _) hdiv)
   cases hb
   have h1:=(hq (j/n) hdiv).2 (j%n) hmod
   rw [du,du] at h1
   have h2:=bc hF (xs:=(List.range len).map q) (d:=default) (k:=j/n) (j:=j%n) (by rw [hlr];exact hdiv) hmod
   rw [show j/n*n+j%n=j by rw [Nat.mul_comm];exact hdm,hu] at h2
   have hget:((List.range len).map q).getD (j/n) default=q (j/n):=by simp [List.getD,hdiv]
   rw [hget] at h2
   refine kN ?_ w hs
   rw [kI,show o+j=o+j/n*n+j%n by rw [Nat.add_assoc,show j/n*n+j%n=j by rw [Nat.mul_comm];exact hdm],h1,←h2]
  ·obtain ⟨i,hi,rfl⟩:=List.mem_map.1 hx'
   exact (hq i (List.mem_range.1 hi)).1
theorem Ap{α:Type}[Inhabited α]{F:α→List Value}{n:Nat}(hF:∀x,(F x).length=n)(hn:0<n){good:α→Prop}{W:World}{t e:TypeId}{v:Value}{d:DataW H}{p:List MemPlace}
 (ht:P.underlying t=some (.slice e)) (ce:P.cellsOf e=n) (each:∀(fuel:Nat) (cs:List Value) (y:DataW H×List MemPlace),cs.length=n→DataW.trod enc P W 0 (fun _=>true) true fuel e cs=some y→∃z,F z=cs∧good z)
 {base:Nat} (hok:Value.okWide P W .any base t v) (h:DataW.Trod enc P W 0 (fun _=>true) true t v d p):
 ∃bs cp,∃xs:List α,v=.slice bs xs.length cp∧xs.length≤9223372036854775807∧bB bs xs.length∧Rd [w4 W] bs (bJ F xs)∧∀x∈xs,good x:=by
 obtain ⟨a,len,cap,rfl⟩:=okWide_slice ht hok
 obtain ⟨fuel,hf⟩:=h
 obtain ⟨bs,cp,xs,h1,h2,h3,h4,h5⟩:=Bm hF hn ht ce each hf
 exact ⟨bs,cp,xs,by simpa [Value.cells] using h1,h2,h3,h4,h5⟩
structure R3 where
 x:Int
 y:Int
 z:Int
abbrev R3.d:R3:=⟨0,0,0⟩
instance:Inhabited R3:=⟨R3.d⟩
def qx(e:R3):List Value:=[.int .i64 e.x,.int .i64 e.y,.int .i64 e.z]
theorem oZ(e:R3):(qx e).length=3:=rfl
end Go.Proofs.YtanfdikglplkaaaGreatDoor.Sp
namespace Go.Proofs.YtanfdikglplkaaaGreatDoor.Sp
open Go
theorem qF{N:Nat}{es:Es}{a b c:Int}(h:cQ N es a b=true)(k:cQ N es b c=true):cQ N es a c=true:=by
 simp only [cQ,Bool.and_eq_true] at h k⊢
 exact ⟨⟨h.1.1,k.1.2⟩,rch_iff.2 ((rch_iff.1 h.2).trans (rch_iff.1 k.2))⟩
theorem sv{N:Nat}{es:Es}{a b:Int}(hg:GOk N es)(h:iv es (a,b)=true):cQ N es a b=true:=by
 have hm:(a,b)∈es:=by simpa [iv] using h
 have:=hg.valid hm
 simp only [cQ,Bool.and_eq_true]
 exact ⟨this,rch_iff.2 (Rch.refl.step hm)⟩
end Go.Proofs.YtanfdikglplkaaaGreatDoor.Sp
namespace Go.Proofs.YtanfdikglplkaaaGreatDoor.Sp
open Go
end Go.Proofs.YtanfdikglplkaaaGreatDoor.Sp
namespace Go.Proofs.YtanfdikglplkaaaGreatDoor.Sp
open Go
theorem vm(N:Nat)(es:Es)(a:Int):(cw N es a).length≤N:=by
 unfold cw
 cases valid N a with
 |false=>exact Nat.zero_le _
 |true=>rw [cond_true,List.length_map];exact Nat.le_trans (List.length_filter_le ..) (by simp)
theorem nc{es:Es}{x:Int}{i:Nat}(h:i< (cP es x).length):(x,(cP es x).getD i 0)∈es:=by
 rw [←mem_outs];simp [List.getD,h]
theorem Bb{es:Es}{x:Int}{i:Nat}(h:i< (cP es x).length):iv es (x,(cP es x).getD i 0)=true:=by
 unfold iv;rw [List.contains_iff_mem];exact nc h
end Go.Proofs.YtanfdikglplkaaaGreatDoor.Sp
namespace Go.Proofs.YtanfdikglplkaaaGreatDoor.Sp
open Go
theorem mem_reachL{N:Nat}{es:Es}{a b:Int}:b∈cw N es a↔cQ N es a b=true:=by
 unfold cw cQ
 cases hv:valid N a with
 |false=>simp
 |true=>
  rw [cond_true]
  simp only [List.mem_map,List.mem_filter,List.mem_range,Bool.true_and,Bool.and_eq_true]
  constructor
  ·rintro ⟨i,⟨hi,hr⟩,rfl⟩;exact ⟨ek hi,hr⟩
  ·rintro ⟨h1,h2⟩
   have:=valid_iff.1 h1
   exact ⟨b.toNat,⟨by omega,by rw [Int.toNat_of_nonneg this.1];exact h2⟩,Int.toNat_of_nonneg this.1⟩
theorem vt{N:Nat}{es:Es}{a:Int}{k:Nat}(h:k< (cw N es a).length):0≤(cw N es a).getD k 0∧(cw N es a).getD k 0<N:=by
 have hm:(cw N es a).getD k 0∈cw N es a:=by simp [List.getD,h]
 have:=mem_reachL.1 hm
 simp only [cQ,Bool.and_eq_true] at this
 exact valid_iff.1 this.1.2
theorem uh{N:Nat}{es:Es}(hg:GOk N es){x:Int}{i:Nat}(h:i< (cP es x).length):0≤(cP es x).getD i 0∧(cP es x).getD i 0<N:=by
 have:=hg.inn _ (nc h);exact ⟨this.2.2.1,this.2.2.2⟩
theorem wG{N:Nat}{es:Es}(hg:GOk N es){a x:Int}{i:Nat}(h:i< (cP es x).length)(hr:cQ N es a x=true):cQ N es a ((cP es x).getD i 0)=true:=
 qF hr (sv hg (Bb h))
theorem oQ{N:Nat}{es:Es}{a:Int}(h:0≤a∧a<N):cQ N es a a=true:=by
 unfold cQ;rw [valid_iff.2 h,rch_iff.2 .refl];rfl
end Go.Proofs.YtanfdikglplkaaaGreatDoor.Sp
namespace Go.Proofs.YtanfdikglplkaaaGreatDoor.Sp
open Go
def jk(st pr:List Int)(s:Int×List Int)(t:Nat):Int×List Int:=
 if st.getD t 0=1∧¬pr.getD t 0<max s.1 0 then (if pr.getD t 0>s.1 then (pr.getD t 0,[(t:Int)]) else (s.1,s.2++[(t:Int)])) else s
def dO(st pr:List Int):Nat→Int×List Int
 |0=>(-1,[])
 |k+1=>jk st pr (dO st pr k) k
def x7(st pr:List Int)(t:Nat):Prop:=st.getD t 0=1∧0≤pr.getD t 0
structure BestI(st pr:List Int)(k:Nat)(p:Int)(l:List Int):Prop where
 ge: -1≤p
 top:∀t,t<k→x7 st pr t→pr.getD t 0≤p
 mem:∀x,x∈l↔∃t:Nat,x=(t:Int)∧t<k∧x7 st pr t∧pr.getD t 0=p
 up:l.Pairwise (· < ·)
 ne:l=[]→p= -1
theorem kv(st pr:List Int):∀k,BestI st pr k (dO st pr k).1 (dO st pr k).2:=by
 intro k
 induction k with
 |zero=>exact ⟨Int.le_refl (-1),fun t h=>by omega,fun x=>⟨fun h=>(by cases h),fun ⟨t,_,h,_⟩=>(by omega)⟩,List.Pairwise.nil,fun _=>rfl⟩
 |succ k ih=>
  obtain ⟨p,l,hpl⟩:∃p l,dO st pr k=(p,l):=⟨_,_,rfl⟩
  rw [hpl] at ih
  show BestI st pr (k+1) (jk st pr (dO st pr k) k).1 (jk st pr (dO st pr k) k).2
  rw [hpl];unfold jk
  have hge: -1≤p:=ih.ge
  by_cases h1:st.getD k 0=1∧¬pr.getD k 0<max p 0
  ·rw [if_pos h1]
   have hm:x7 st pr k:=⟨h1.1,by have:=h1.2;omega⟩
   by_cases h2:pr.getD k 0>p
   ·rw [if_pos h2]
    refine ⟨by show -1≤pr.getD k 0;omega,fun t ht hmt=>?_,fun x=>?_,by simp,fun h=>by cases h⟩
    ·by_cases e:t=k
     ·subst e;exact Int.le_refl _
     ·have:=ih.top t (by omega) hmt;show _≤pr.getD k 0;have:(p,l).1=p:=rfl;omega
    ·rw [List.mem_singleton]
     constructor
     ·intro e;exact ⟨k,e,by omega,hm,rfl⟩
     ·rintro ⟨t,e,ht,hmt,hp⟩
      by_cases e2:t=k
      ·subst e2;exact e
      ·have h3:=ih.top t (by omega) hmt;have h4:pr.getD t 0=pr.getD k 0:=hp;have:(p,l).1=p:=rfl;omega
   ·rw [if_neg h2]
    have hpk:pr.getD k 0=p:=by have:=h1.2;omega
    refine ⟨ih.ge,fun t ht hmt=>?_,fun x=>?_,?_,fun h=>by simp at h⟩
    ·by_cases e:t=k
     ·subst e;show _≤p;omega
     ·exact ih.top t (by omega) hmt
    ·show x∈l++[(k:Int)]↔_
     rw [List.mem_append,List.mem_singleton]
     constructor
     ·rintro (h|h)
      ·obtain ⟨t,e,ht,h3⟩:=(ih.mem x).1 h;exact ⟨t,e,by omega,h3⟩
      ·exact ⟨k,h,by omega,hm,hpk⟩
     ·rintro ⟨t,e,ht,h3⟩
      by_cases e2:t=k
      ·subst e2;exact .inr e
      ·exact .inl ((ih.mem x).2 ⟨t,e,by omega,h3⟩)
    ·show (l++[(k:Int)]).Pairwise (· < ·)
     rw [List.pairwise_append]
     refine ⟨ih.up,by simp,fun x hx y hy=>?_⟩
     rw [List.mem_singleton] at hy;subst hy
     obtain ⟨t,e,ht,_⟩:=(ih.mem x).1 hx;omega
  ·rw [if_neg h1]
   refine ⟨ih.ge,fun t ht hmt=>?_,fun x=>?_,ih.up,ih.ne⟩
   ·by_cases e:t=k
    ·subst e
     have h3:=hmt.1;have h4:=hmt.2
     have h5:pr.getD t 0<max p 0:=by
      by_cases h6:pr.getD t 0<max p 0
      ·exact h6
      ·exact absurd ⟨h3,h6⟩ h1
     show _≤p;omega
    ·exact ih.top t (by omega) hmt
   ·show x∈l↔∃t:Nat,x=(t:Int)∧t<k+1∧x7 st pr t∧pr.getD t 0=p
    constructor
    ·intro h;obtain ⟨t,e,ht,h3⟩:=(ih.mem x).1 h;exact ⟨t,e,by omega,h3⟩
    ·rintro ⟨t,e,ht,hm,hp⟩
     by_cases e2:t=k
     ·subst e2
      exact absurd ⟨hm.1,by have:=hm.2;omega⟩ h1
     ·exact (ih.mem x).2 ⟨t,e,by omega,hm,hp⟩
theorem xD(st pr:List Int)(k:Nat): -1≤(dO st pr k).1:=(kv st pr k).ge
theorem mI(st pr:List Int):∀k,(dO st pr k).2.length≤k
 |0=>Nat.le_refl _
 |k+1=>by
  have:=mI st pr k
  show (jk st pr (dO st pr k) k).2.length≤k+1
  unfold jk;split
  ·split <;>simp <;>omega
  ·omega
theorem ud{st pr:List Int}{p:Int}{ts:List Int}{k:Nat}(h:dO st pr k=(p,ts))(hn:¬(st.getD k 0=1∧¬pr.getD k 0<max p 0)):dO st pr (k+1)=(p,ts):=by
 show jk st pr (dO st pr k) k=_
 rw [h];unfold jk;rw [if_neg hn]
theorem yq{st pr:List Int}{p:Int}{ts:List Int}{k:Nat}(h:dO st pr k=(p,ts))(h1:st.getD k 0=1)(h2:¬pr.getD k 0<max p 0)(h3:¬pr.getD k 0>p):dO st pr (k+1)=(p,ts++[(k:Int)]):=by
 show jk st pr (dO st pr k) k=_
 rw [h];unfold jk;rw [if_pos ⟨h1,h2⟩,if_neg h3]
theorem yR{st pr:List Int}{p:Int}{ts:List Int}{k:Nat}(h:dO st pr k=(p,ts))(h1:st.getD k 0=1)(h2:¬pr.getD k 0<max p 0)(h3:pr.getD k 0>p):dO st pr (k+1)=(pr.getD k 0,[(k:Int)]):=by
 show jk st pr (dO st pr k) k=_
 rw [h];unfold jk;rw [if_pos ⟨h1,h2⟩,if_pos h3]
def oS(x:Int)(n:Nat):Bool:=decide (x≥0) && decide (x< (n:Int))
theorem rO{x:Int}{n:Nat}(h:oS x n=true):0≤x∧x< (n:Int):=by
 unfold oS at h;rw [Bool.and_eq_true] at h;exact ⟨of_decide_eq_true h.1,of_decide_eq_true h.2⟩
def fE(n:Nat)(es:List (Int×Int))(room x:Int):Bool:=oS x n && decide ((es.getD x.toNat (0,0)).1≤room)
structure DelI(p:Int→Bool)(xs:List Int)(i j:Nat)(ys:List Int):Prop where
 lt:i<j
 le:j≤xs.length
 len:ys.length=xs.length
 ft:ys.take i=(xs.take j).filter (fun x=> !p x)
 bk:ys.drop j=xs.drop j
theorem DelI.get{p:Int→Bool}{xs ys:List Int}{i j:Nat}(h:DelI p xs i j ys)(hj:j<xs.length):ys.getD j 0=xs.getD j 0:=by
 have h1:(ys.drop j)[0]?=(xs.drop j)[0]?:=by rw [h.bk]
 rw [List.getElem?_drop,List.getElem?_drop] at h1
 simp only [Nat.add_zero] at h1
 simp [List.getD,h1]
theorem pM{xs ys:List Int}{j:Nat}(h:ys.drop j=xs.drop j):ys.drop (j+1)=xs.drop (j+1):=by
 have:=congrArg (List.drop 1) h
 simpa [List.drop_drop,Nat.add_comm] using this
theorem DelI.keep{p:Int→Bool}{xs ys:List Int}{i j:Nat}(h:DelI p xs i j ys)(hj:j<xs.length)(hp:p (ys.getD j 0)=false):DelI p xs (i+1) (j+1) (ys.set i (ys.getD j 0)):=by
 have hi:i<ys.length:=by have:=h.lt;have:=h.len;omega
 refine ⟨by have:=h.lt;omega,hj,by rw [List.length_set];exact h.len,?_,?_⟩
 ·rw [List.take_succ_eq_append_getElem (by rw [List.length_set];exact hi),List.take_set_of_le (Nat.le_refl _),h.ft,di hj 0,List.filter_append]
  rw [h.get hj] at hp⊢
  rw [List.getElem_set_self,List.filter_cons,hp];rfl
 ·rw [List.drop_set_of_lt (by have:=h.lt;omega)];exact pM h.bk
theorem DelI.skip{p:Int→Bool}{xs ys:List Int}{i j:Nat}(h:DelI p xs i j ys)(hj:j<xs.length)(hp:p (ys.getD j 0)=true):DelI p xs i (j+1) ys:=by
 refine ⟨by have:=h.lt;omega,hj,h.len,?_,pM h.bk⟩
 rw [h.ft,di hj 0,List.filter_append]
 rw [h.get hj] at hp
 rw [List.filter_cons,hp];simp
theorem DelI.done{p:Int→Bool}{xs ys:List Int}{i j:Nat}(h:DelI p xs i j ys)(hj:¬j<xs.length):ys.take i=xs.filter (fun x=> !p x):=by
 rw [h.ft,List.take_of_length_le (by omega)]
theorem pH{p:Int→Bool}{xs:List Int}(h:¬eU p xs= -1):∃k:Nat,eU p xs=(k:Int)∧k<xs.length∧p (xs.getD k 0)=true∧∀j,j<k→p (xs.getD j 0)=false:=by
 unfold eU at h⊢
 by_cases h1:xs.findIdx p<xs.length
 ·rw [if_pos h1]
  refine ⟨_,rfl,h1,?_,fun j hj=>?_⟩
  ·have:=List.findIdx_getElem (w:=h1);simpa [List.getD,h1] using this
  ·have hjl:j<xs.length:=by omega
   have:=List.not_of_lt_findIdx hj;simpa [List.getD,hjl] using this
 ·rw [if_neg h1] at h;exact absurd rfl h
theorem nJ{p:Int→Bool}{xs:List Int}(h:eU p xs= -1):∀x∈xs,p x=false:=by
 intro x hx
 have h1:=oN p xs
 rw [h] at h1
 have h2:xs.any p=false:=h1.symm.trans (by decide)
 rw [List.any_eq_false] at h2
 simpa using h2 x hx
theorem DelI.start{p:Int→Bool}{xs:List Int}{k:Nat}(hk:k<xs.length)(hp:p (xs.getD k 0)=true)(ha:∀j,j<k→p (xs.getD j 0)=false):DelI p xs k (k+1) xs:=by
 refine ⟨by omega,hk,rfl,?_,rfl⟩
 rw [di hk 0,List.filter_append]
 simp only [List.filter_cons,hp,Bool.not_true,Bool.false_eq_true,if_false,List.filter_nil,List.append_nil]
 refine (List.filter_eq_self.2 fun x hx=>?_).symm
 obtain ⟨j,hj,rfl⟩:=List.mem_iff_getElem.1 hx
 simp only [List.length_take] at hj
 have:=ha j (by omega)
 simp only [List.getElem_take]
 rw [List.getD_eq_getElem?_getD,List.getElem?_eq_getElem (by omega)] at this
 simpa using this
theorem nh{p:Int→Bool}{xs:List Int}(h:eU p xs= -1):xs.filter (fun x=> !p x)=xs:=
 List.filter_eq_self.2 fun x hx=>by rw [nJ h x hx];rfl
noncomputable def dY(n:Nat)(N:Nat)(E:Es)(ts:List Int)(r:Int):Int:=eU (fun x=>oS x n && cQ N E r x) ts
noncomputable def mz(n:Nat)(N:Nat)(E:Es)(es:List (Int×Int))(ts ids rs:List Int)(s:List (Int×Int)×List Int)(i:Nat):List (Int×Int)×List Int:=
 if dY n N E ts (rs.getD i 0)≥0 then
  (s.1++[(ids.getD i 0,(es.getD (ts.getD (dY n N E ts (rs.getD i 0)).toNat 0).toNat (0,0)).2)],s.2++[ts.getD (dY n N E ts (rs.getD i 0)).toNat 0]) else s
noncomputable def dC(n:Nat)(N:Nat)(E:Es)(es:List (Int×Int))(ts ids rs:List Int):Nat→List (Int×Int)×List Int
 |0=>([],[])
 |k+1=>mz n N E es ts ids rs (dC n N E es ts ids rs k) k
theorem uQ(p:Int→Bool)(xs:List Int):eU p xs< (xs.length:Int)∧ -1≤eU p xs:=by unfold eU;split <;>omega
theorem rJ(n:Nat)(N:Nat)(E:Es)(ts:List Int)(r:Int):dY n N E ts r< (ts.length:Int):=(uQ _ ts).1
theorem yp{n:Nat}{N:Nat}{E:Es}{ts:List Int}{r:Int}(h:dY n N E ts r≥0):(oS (ts.getD (dY n N E ts r).toNat 0) n && cQ N E r (ts.getD (dY n N E ts r).toNat 0))=true:=by
 obtain ⟨k,hk,_,hp,_⟩:=pH (p:=fun x=>oS x n && cQ N E r x) (xs:=ts) (by have:dY n N E ts r=eU (fun x=>oS x n && cQ N E r x) ts:=rfl;omega)
 have e:dY n N E ts r=(k:Int):=hk
 rw [e,Int.toNat_natCast];exact hp
theorem xe{n:Nat}{N:Nat}{E:Es}{ts:List Int}{r:Int}(h:dY n N E ts r≥0):oS (ts.getD (dY n N E ts r).toNat 0) n=true:=(Bool.and_eq_true _ _▸yp h).1
theorem qX{n N:Nat}{E:Es}{es ps:List (Int×Int)}{ts ids rs qs:List Int}{k:Nat}(hb:dC n N E es ts ids rs k=(ps,qs))(hj:¬dY n N E ts (rs.getD k 0)≥0):dC n N E es ts ids rs (k+1)=(ps,qs):=by
 show mz n N E es ts ids rs (dC n N E es ts ids rs k) k=_
 rw [hb];unfold mz;rw [if_neg hj]
theorem o7{n N:Nat}{E:Es}{es ps:List (Int×Int)}{ts ids rs qs:List Int}{k:Nat}(hb:dC n N E es ts ids rs k=(ps,qs))(hj:dY n N E ts (rs.getD k 0)≥0):
 dC n N E es ts ids rs (k+1)=(ps++[(ids.getD k 0,(es.getD (ts.getD (dY n N E ts (rs.getD k 0)).toNat 0).toNat (0,0)).2)],qs++[ts.getD (dY n N E ts (rs.getD k 0)).toNat 0]):=by
 show mz n N E es ts ids rs (dC n N E es ts ids rs k) k=_
 rw [hb];unfold mz;rw [if_pos hj]
theorem kU(n:Nat)(N:Nat)(E:Es)(es:List (Int×Int))(ts ids rs:List Int):∀k,(dC n N E es ts ids rs k).1.length=(dC n N E es ts ids rs k).2.length∧(dC n N E es ts ids rs k).2.length≤k
 |0=>⟨rfl,Nat.le_refl _⟩
 |k+1=>by
  have:=kU n N E es ts ids rs k
  show (mz _ _ _ _ _ _ _ _ k).1.length=(mz _ _ _ _ _ _ _ _ k).2.length∧(mz _ _ _ _ _ _ _ _ k).2.length≤k+1
  unfold mz
  split
  ·simp;omega
  ·omega
end Go.Proofs.YtanfdikglplkaaaGreatDoor.Sp
namespace Go.Proofs.YtanfdikglplkaaaGreatDoor.Sp
open Go
theorem nN{l:List Int}{i:Nat}(h:i<l.length):l.getD i 0∈l:=by simp [List.getD,h]
structure Mk(L:List Int)(i:Nat)(bs:List Bool):Prop where
 len:bs.length=60
 at_:∀t:Nat,bs.getD t false=true↔∃j,j<i∧L.getD j 0=(t:Int)∧t<60
theorem Mk.next{L:List Int}{i:Nat}{bs:List Bool}(h:Mk L i bs)(h0:0≤L.getD i 0)(h1:L.getD i 0<60):Mk L (i+1) (bs.set (L.getD i 0).toNat true):=by
 have hl:=h.len
 refine ⟨by rw [List.length_set];exact hl,fun t=>?_⟩
 by_cases e:(L.getD i 0).toNat=t
 ·constructor
  ·intro _;exact ⟨i,by omega,by omega,by omega⟩
  ·intro _;rw [List.getD_eq_getElem?_getD,List.getElem?_set,if_pos e,if_pos (by omega)];rfl
 ·rw [List.getD_eq_getElem?_getD,List.getElem?_set,if_neg e,←List.getD_eq_getElem?_getD,h.at_]
  constructor
  ·rintro ⟨j,hj,h2⟩;exact ⟨j,by omega,h2⟩
  ·rintro ⟨j,hj,h2,h3⟩
   by_cases e2:j=i
   ·subst e2;omega
   ·exact ⟨j,by omega,h2,h3⟩
noncomputable def wp(n N:Nat)(E:Es)(r:Int)(x:Int):Bool:=oS x n && cQ N E r x
theorem Cd{n:Nat}{es:List (Int×Int)}{room x:Int}(h1:x≥0)(h2:x< (n:Int))(h3:(es.getD x.toNat (0,0)).1≤room):fE n es room x=true:=by
 unfold fE oS;rw [decide_eq_true h1,decide_eq_true h2,decide_eq_true h3];rfl
end Go.Proofs.YtanfdikglplkaaaGreatDoor.Sp
namespace Go.Proofs.YtanfdikglplkaaaGreatDoor.Sp
open Go
noncomputable def gQ(N:Nat)(E:Es)(rs:List R3)(x:Int):Int:=rs.foldl (fun m r=>if cQ N E r.x x=true then max m r.z else m) (-1)
noncomputable def iE(N:Nat)(E:Es)(rs:List R3):List Int:=(List.range N).map fun x:Nat=>gQ N E rs (x:Int)
theorem iB(N:Nat)(E:Es)(rs:List R3):(iE N E rs).length=N:=by unfold iE;simp
theorem mo{N:Nat}{E:Es}{rs:List R3}{x:Nat}(h:x<N):(iE N E rs).getD x 0=gQ N E rs (x:Int):=by
 unfold iE;rw [List.getD_eq_getElem?_getD,List.getElem?_map,List.getElem?_range h];rfl
theorem zm(N:Nat)(E:Es):iE N E []=List.replicate N (-1):=by
 refine List.ext_getElem (by rw [iB,List.length_replicate]) fun i h1 h2=>?_
 simp [iE,gQ]
theorem tT(N:Nat)(E:Es)(rs:List R3)(r:R3)(x:Int):gQ N E (rs++[r]) x=if cQ N E r.x x=true then max (gQ N E rs x) r.z else gQ N E rs x:=by
 unfold gQ;rw [List.foldl_append];rfl
def iO(l:List Int)(pr:Int)(p:List Int):List Int:=l.foldl (fun p t=>p.set t.toNat (max (p.getD t.toNat 0) pr)) p
theorem wE{l:List Int}{j:Nat}(h:j<l.length)(pr:Int)(p:List Int):iO (l.take (j+1)) pr p=(iO (l.take j) pr p).set (l.getD j 0).toNat (max ((iO (l.take j) pr p).getD (l.getD j 0).toNat 0) pr):=by
 unfold iO;rw [di h 0,List.foldl_append];rfl
theorem rM(l:List Int)(pr:Int)(p:List Int):(iO l pr p).length=p.length:=by
 unfold iO
 induction l generalizing p with
 |nil=>rfl
 |cons t l ih=>rw [List.foldl_cons,ih,List.length_set]
theorem wm(p:List Int)(i x:Nat)(v:Int)(h:i<p.length):(p.set i v).getD x 0=if i=x then v else p.getD x 0:=by
 rw [List.getD_eq_getElem?_getD,List.getElem?_set]
 by_cases e:i=x
 ·subst e;rw [if_pos rfl,if_pos h,if_pos rfl];rfl
 ·rw [if_neg e,if_neg e,List.getD_eq_getElem?_getD]
theorem sD(pr:Int)(x:Nat):∀(l:List Int) (p:List Int),(∀t∈l,0≤t∧t< (p.length:Int))→(iO l pr p).getD x 0=if (x:Int)∈l then max (p.getD x 0) pr else p.getD x 0
 | [],p,_=>by simp [iO]
 |t::l,p,hl=>by
  have ht:=hl t (by simp)
  have ih:=sD pr x l (p.set t.toNat (max (p.getD t.toNat 0) pr)) (fun u hu=>by rw [List.length_set];exact hl u (List.mem_cons_of_mem _ hu))
  show (iO l pr (p.set t.toNat (max (p.getD t.toNat 0) pr))).getD x 0=_
  rw [ih,wm _ _ _ _ (by omega)]
  by_cases e:t.toNat=x
  ·subst e
   rw [if_pos rfl,if_pos (show (t.toNat:Int)∈t::l by rw [Int.toNat_of_nonneg ht.1];simp)]
   split <;>omega
  ·rw [if_neg e]
   have e2:¬(x:Int)=t:=by omega
   simp only [List.mem_cons,e2,false_or]
theorem zg(N:Nat)(E:Es)(rs:List R3)(r:R3):iO (cw N E r.x) r.z (iE N E rs)=iE N E (rs++[r]):=by
 have hl:∀t∈cw N E r.x,0≤t∧t< ((iE N E rs).length:Int):=fun t ht=>by
  have:=mem_reachL.1 ht
  simp only [cQ,Bool.and_eq_true] at this
  rw [iB];exact valid_iff.1 this.1.2
 refine List.ext_getElem (by rw [rM,iB,iB]) fun i h1 h2=>?_
 have hi:i<N:=by rw [iB] at h2;exact h2
 have g1:=sD r.z i (cw N E r.x) (iE N E rs) hl
 have g2:=mo (N:=N) (E:=E) (rs:=rs++[r]) hi
 rw [List.getD_eq_getElem?_getD,List.getElem?_eq_getElem h1,Option.getD_some] at g1
 rw [List.getD_eq_getElem?_getD,List.getElem?_eq_getElem h2,Option.getD_some] at g2
 rw [g1,g2,tT,mo hi]
 simp only [mem_reachL]
theorem zX{N:Nat}{E:Es}{rs:List R3}{k:Nat}(h:k<rs.length):iO (cw N E (rs.getD k R3.d).x) (rs.getD k R3.d).z (iE N E (rs.take k))=iE N E (rs.take (k+1)):=by
 rw [di h R3.d,zg]
theorem pQ{N:Nat}{E:Es}{x y:Int}(h:∀a,cQ N E a x=true→cQ N E a y=true):∀(rs:List R3) (m m':Int),m≤m'→
 rs.foldl (fun m r=>if cQ N E r.x x=true then max m r.z else m) m≤rs.foldl (fun m r=>if cQ N E r.x y=true then max m r.z else m) m'
 | [],_,_,hm=>hm
 |r::rs,m,m',hm=>by
  rw [List.foldl_cons,List.foldl_cons]
  refine pQ h rs _ _ ?_
  by_cases h1:cQ N E r.x x=true
  ·rw [if_pos h1,if_pos (h _ h1)];omega
  ·rw [if_neg h1];split <;>omega
theorem tP{N:Nat}{E:Es}{x y:Int}{rs:List R3}(h:∀a,cQ N E a x=true→cQ N E a y=true):gQ N E rs x≤gQ N E rs y:=pQ h rs _ _ (Int.le_refl _)
theorem qz{N:Nat}{E:Es}{x:Int}:∀(rs:List R3) (m:Int),m≤rs.foldl (fun m r=>if cQ N E r.x x=true then max m r.z else m) m
 | [],_=>Int.le_refl _
 |r::rs,m=>by
  rw [List.foldl_cons]
  refine Int.le_trans ?_ (qz rs _)
  split <;>omega
theorem uI{N:Nat}{E:Es}{x:Int}:∀(rs:List R3) (m:Int) (r:R3),r∈rs→cQ N E r.x x=true→r.z≤rs.foldl (fun m r=>if cQ N E r.x x=true then max m r.z else m) m
 |q::rs,m,r,hm,hr=>by
  rw [List.foldl_cons]
  rcases List.mem_cons.1 hm with rfl|hm
  ·rw [if_pos hr];exact Int.le_trans (by omega) (qz rs _)
  ·exact uI rs _ r hm hr
theorem rL{N:Nat}{E:Es}{x:Int}{rs:List R3}{r:R3}(h:r∈rs)(hr:cQ N E r.x x=true):r.z≤gQ N E rs x:=uI rs _ r h hr
theorem vh{N:Nat}{E:Es}{x:Int}{rs:List R3}: -1≤gQ N E rs x:=qz rs _
theorem vb{rs:List R3}{k:Nat}(h:k<rs.length):rs.getD k R3.d∈rs:=by simp [List.getD,h]
end Go.Proofs.YtanfdikglplkaaaGreatDoor.Sp
namespace Go.Proofs.YtanfdikglplkaaaGreatDoor.Sp
open Go
def wL(s:ES)(r:Int):R3:=⟨(s.rq.getD r.toNat Rq.z).root,(s.rq.getD r.toNat Rq.z).wt,(s.rq.getD r.toNat Rq.z).pr⟩
def e6(s:ES)(ids:List Int):List R3:=ids.map (wL s)
def dE(s:ES)(ids:List Int):List Int:=ids.map fun r=>(s.rq.getD r.toNat Rq.z).root
theorem ru(s:ES)(ids:List Int):(e6 s ids).length=ids.length:=by unfold e6;rw [List.length_map]
theorem pK(s:ES)(ids:List Int):(dE s ids).length=ids.length:=by unfold dE;rw [List.length_map]
theorem yk(s:ES){ids:List Int}{k:Nat}(h:k<ids.length):(e6 s ids).take k++[wL s (ids.getD k 0)]=(e6 s ids).take (k+1):=by
 unfold e6;rw [List.take_add_one,List.getElem?_map];simp [List.getD,h]
theorem tz(s:ES){ids:List Int}{k:Nat}(h:k<ids.length):(dE s ids).take k++[(s.rq.getD (ids.getD k 0).toNat Rq.z).root]=(dE s ids).take (k+1):=by
 unfold dE;rw [List.take_add_one,List.getElem?_map];simp [List.getD,h]
theorem tD{N:Nat}{E:Es}{x:Int}:∀(rs:List R3),(∀r∈rs,cQ N E r.x x=false)→gQ N E rs x= -1:=by
 intro rs h
 unfold gQ
 suffices∀(rs:List R3) (m:Int),(∀r∈rs,cQ N E r.x x=false)→rs.foldl (fun m r=>if cQ N E r.x x=true then max m r.z else m) m=m from this rs _ h
 intro rs
 induction rs with
 |nil=>intro m _;rfl
 |cons r rs ih=>intro m h;rw [List.foldl_cons,if_neg (by rw [h r (.head _)];decide)];exact ih m fun q hq=>h q (.tail _ hq)
theorem zR{p:Int→Bool}{xs:List Int}{x:Int}(hx:x∈xs)(hp:p x=true):eU p xs≥0:=by
 have h1:=(uQ p xs).2
 by_cases h:eU p xs= -1
 ·have:=nJ h x hx;rw [hp] at this;cases this
 ·omega
theorem wF{n N:Nat}{E:Es}{es:List (Int×Int)}{ts ids rs:List Int}:∀k,∀i,i< (dC n N E es ts ids rs k).1.length→(dC n N E es ts ids rs k).1.length=(dC n N E es ts ids rs k).2.length∧
 ∃j,j<k∧((dC n N E es ts ids rs k).1.getD i (0,0)).1=ids.getD j 0∧(dC n N E es ts ids rs k).2.getD i 0∈ts∧((dC n N E es ts ids rs k).1.getD i (0,0)).2=(es.getD ((dC n N E es ts ids rs k).2.getD i 0).toNat (0,0)).2:=by
 intro k
 induction k with
 |zero=>intro i hi;simp [dC] at hi
 |succ k ih=>
  obtain ⟨ps,qs,hb⟩:∃ps qs,dC n N E es ts ids rs k=(ps,qs):=⟨_,_,rfl⟩
  rw [hb] at ih
  have hlen:=(kU n N E es ts ids rs k).1
  rw [hb] at hlen
  by_cases hj:dY n N E ts (rs.getD k 0)≥0
  ·rw [o7 hb hj]
   intro i hi
   dsimp only at hlen ih hi⊢
   refine ⟨by simp [hlen],?_⟩
   by_cases e:i<ps.length
   ·obtain ⟨_,j,h1,h2,h3,h4⟩:=ih i e
    refine ⟨j,by omega,?_⟩
    rw [show (ps++[(ids.getD k 0,(es.getD (ts.getD (dY n N E ts (rs.getD k 0)).toNat 0).toNat (0,0)).2)]).getD i (0,0)=ps.getD i (0,0) from by simp only [List.getD];rw [List.getElem?_append_left e],show (qs++[ts.getD (dY n N E ts (rs.getD k 0)).toNat 0]).getD i 0=qs.getD i 0 from by simp only [List.getD];rw [List.getElem?_append_left (by omega)]]
    exact ⟨h2,h3,h4⟩
   ·have e2:i=ps.length:=by simp at hi;omega
    have hlt:=rJ n N E ts (rs.getD k 0)
    refine ⟨k,by omega,?_⟩
    rw [show (ps++[(ids.getD k 0,(es.getD (ts.getD (dY n N E ts (rs.getD k 0)).toNat 0).toNat (0,0)).2)]).getD i (0,0)=(ids.getD k 0,(es.getD (ts.getD (dY n N E ts (rs.getD k 0)).toNat 0).toNat (0,0)).2) from by subst e2;simp [List.getD],show (qs++[ts.getD (dY n N E ts (rs.getD k 0)).toNat 0]).getD i 0=ts.getD (dY n N E ts (rs.getD k 0)).toNat 0 from by rw [e2,hlen];simp [List.getD]]
    exact ⟨rfl,nN (by omega),rfl⟩
  ·rw [qX hb hj]
   intro i hi
   obtain ⟨h0,j,h1,h2⟩:=ih i hi
   exact ⟨h0,j,by omega,h2⟩
theorem x6{n N:Nat}{E:Es}{es:List (Int×Int)}{ts ids rs:List Int}{i k:Nat}(hi:i<k)(hj:dY n N E ts (rs.getD i 0)≥0):0< (dC n N E es ts ids rs k).1.length:=by
 induction k with
 |zero=>omega
 |succ k ih=>
  obtain ⟨ps,qs,hb⟩:∃ps qs,dC n N E es ts ids rs k=(ps,qs):=⟨_,_,rfl⟩
  by_cases hk:dY n N E ts (rs.getD k 0)≥0
  ·rw [o7 hb hk];simp
  ·rw [qX hb hk]
   have e:i≠k:=fun e=>hk (by rw [←e];exact hj)
   have:=ih (by omega);rw [hb] at this;exact this
theorem nP{ms:List M3}{i:Nat}{c:Int}(hi:i<ms.length):(hU ms i c).map (·.id)=ms.map (·.id):=by
 refine oI (gk _ _ _) fun j hj=>?_
 rw [gS hi];split
 ·rename_i e;subst e;rfl
 ·rfl
theorem x0{q:Int}{cs:List Int}{ms:List M3}{a:Nat}(ha:a<ms.length):(gY q cs (ms,a)).1.map (·.id)=ms.map (·.id):=by
 have hz:(aO cs ms a).map (·.id)=ms.map (·.id):=(by
  unfold aO;split
  ·exact nP ha
  ·rfl)
 have hn:ch a ms.length< (aO cs ms a).length:=by rw [fB];exact jr ha
 show (ew q cs (aO cs ms a) (ch a ms.length)).map (·.id)=_
 unfold ew;split
 ·rw [nP hn,hz]
 ·exact hz
theorem y0{q:Int}{cs:List Int}{ms tm:List M3}{a ta:Nat}(ha:a<ms.length)(h:TakeR q cs (ms,a) (tm,ta)):tm.map (·.id)=ms.map (·.id)∧ta<tm.length∧0<cs.getD ta 0:=by
 have:=h.inv (I:=fun s=>s.1.map (·.id)=ms.map (·.id)∧s.2<s.1.length) ⟨rfl,ha⟩ fun s hs _=>?_
 ·exact ⟨this.1.1,this.1.2,(rdyT_true.1 this.2).1⟩
 ·obtain ⟨ms1,a1⟩:=s
  refine ⟨(x0 hs.2).trans hs.1,?_⟩
  rw [pJ];exact jr hs.2
theorem w3{l:List (Int×Int)}{id:Int}(h:0<gW l id):∃k,k<l.length∧(l.getD k (0,0)).1=id:=by
 unfold gW at h
 split at h
 ·rename_i e he
  have h1:=List.find?_some he
  have h2:=List.mem_of_find?_eq_some he
  obtain ⟨k,hk,e2⟩:=List.getElem_of_mem h2
  refine ⟨k,hk,?_⟩
  simp only [Bool.and_eq_true,beq_iff_eq] at h1
  rw [show l.getD k (0,0)=e from by simp [List.getD,hk,e2]];exact h1.1
 ·omega
theorem sU{l:List (Int×Int)}{k:Nat}(hk:k<l.length)(hc:∀j,j<l.length→1≤(l.getD j (0,0)).2∧(l.getD j (0,0)).2≤1048576):0<gW l (l.getD k (0,0)).1:=by
 unfold gW
 split
 ·rename_i e he
  have h1:=List.find?_some he
  simp only [Bool.and_eq_true,jF,decide_eq_true_eq] at h1
  omega
 ·rename_i he
  have hm:l.getD k (0,0)∈l:=by simp [List.getD,hk]
  have:=List.find?_eq_none.1 he _ hm
  have h2:=hc k hk
  refine absurd ?_ this
  rw [Bool.and_eq_true];exact ⟨beq_self_eq_true _,decide_eq_true h2⟩
theorem Ak{p:Nat→Bool}{n k:Nat}(hk:k<n)(hp:p k=true):∃j:Nat,gi p n=(j:Int)∧j<n∧p j=true:=by
 rcases mr p n with h| ⟨h1,h2,h3⟩
 ·unfold gi at h
  split at h
  ·omega
  ·rename_i hn
   have:=List.find?_eq_none.1 hn k (List.mem_range.2 hk)
   exact absurd hp (by simpa using this)
 ·exact ⟨(gi p n).toNat,by omega,by omega,h3⟩
end Go.Proofs.YtanfdikglplkaaaGreatDoor.Sp
namespace Go.Proofs.YtanfdikglplkaaaGreatDoor.Sp
open Go
def eF(s:ES):Nat→List Int
 |0=>[]
 |k+1=>if s.stt k=2 then eF s k++[(k:Int)] else eF s k
theorem oi{s:ES}{k:Nat}(h:s.stt k=2):eF s k++[(k:Int)]=eF s (k+1):=(if_pos h).symm
theorem qU{s:ES}{k:Nat}(h:¬s.stt k=2):eF s k=eF s (k+1):=(if_neg h).symm
theorem my(s:ES):∀k,(eF s k).length≤k
 |0=>Nat.le_refl _
 |k+1=>by
  have:=my s k
  by_cases h:s.stt k=2
  ·rw [←oi h,List.length_append];show _+1≤_;omega
  ·rw [←qU h];omega
theorem lO{s:ES}:∀{k:Nat} {x:Int},x∈eF s k→∃t:Nat,x=(t:Int)∧t<k∧s.stt t=2
 |0,_,h=>by cases h
 |k+1,x,h=>by
  by_cases hk:s.stt k=2
  ·rw [←oi hk] at h
   rcases List.mem_append.1 h with h|h
   ·obtain ⟨t,e,ht,h2⟩:=lO h;exact ⟨t,e,by omega,h2⟩
   ·simp at h;exact ⟨k,h,by omega,hk⟩
  ·rw [←qU hk] at h
   obtain ⟨t,e,ht,h2⟩:=lO h;exact ⟨t,e,by omega,h2⟩
def Ba(s:ES)(pr:List Int)(x:Int):Ev:=⟨x,pr.getD x.toNat 0,(s.tk.getD x.toNat Tk.z).mem,(s.lf.getD x.toNat Lf.z).sp,(s.tk.getD x.toNat Tk.z).sn⟩
def jn(s:ES)(pr:List Int)(n:Nat):List Ev:=(eF s n).map (Ba s pr)
theorem r5(s:ES)(pr:List Int)(n:Nat):(jn s pr n).length=(eF s n).length:=by unfold jn;rw [List.length_map]
theorem vk{s:ES}{pr:List Int}{n k:Nat}(h:k< (eF s n).length):(jn s pr n).take k++[Ba s pr ((eF s n).getD k 0)]=(jn s pr n).take (k+1):=by
 unfold jn;rw [List.take_add_one,List.getElem?_map];simp [List.getD,h]
structure SL where
 s:ES
 ld:Led
 ks:Ks
def lS(a:SL)(v:Int):SL:=⟨(a.s.addLg (g7 a.s a.ld 6 v)).lfu v.toNat gO,a.ld.drop v,jq a.ks v⟩
def stopN(a:SL)(vs:List Int):SL:=vs.foldl lS a
theorem sR{a:SL}{vs:List Int}{k:Nat}(h:k<vs.length):lS (stopN a (vs.take k)) (vs.getD k 0)=stopN a (vs.take (k+1)):=by
 unfold stopN;rw [List.take_add_one,List.foldl_append];simp [List.getD,h]
def Bg(s:ES)(pr ts:List Int)(n:Nat)(p er:Int)(l vs:List Int):Prop:=(er=4∧vs=[]∧l=[])∨(er=0∧l≠[]∧(∀t∈l,t∈ts)∧rV (jn s pr n) p s.c.pre vs∧vs.length≤n∧l.length≤ts.length)
theorem zZ{ts:List Int}{f:Int→Bool}:∀t∈ts.filter f,t∈ts:=fun t ht=>(List.mem_filter.1 ht).1
theorem uy{s:ES}{pr vs:List Int}{n:Nat}{p q v:Int}(h:rV (jn s pr n) p q vs)(hv:v∈vs):∃t:Nat,v=(t:Int)∧t<n∧s.stt t=2∧pr.getD t 0<p:=by
 obtain ⟨x,hx,e1,h1,_⟩:=h v hv
 obtain ⟨y,hy,e2⟩:=List.mem_map.1 hx
 obtain ⟨t,e3,ht,h2⟩:=lO hy
 subst e2;subst e3
 exact ⟨t,e1.symm,ht,h2,h1⟩
theorem oO{a:SL}:∀(vs:List Int),(stopN a vs).s.lg.length=a.s.lg.length+vs.length:=fun vs=>by
 unfold stopN
 induction vs generalizing a with
 |nil=>rfl
 |cons v vs ih=>rw [List.foldl_cons,ih];show (a.s.lg++[_]).length+_=_;simp;omega
def yc(a:SL)(r:Int)(t:Nat)(er sl ep rr tt:Int)(b:SL):Prop:=
 (er=a.ld.takeE t (a.s.tk.getD t Tk.z).mem∧er≠0∧er≠6∧b=a)∨
 (er=0∧a.ld.takeE t (a.s.tk.getD t Tk.z).mem=0∧rr=r∧tt=t∧sl=a.ld.takeV t (a.s.tk.getD t Tk.z).mem∧ep=((jl a.s a.ld t).lf.getD t Lf.z).ep∧b=⟨jl a.s a.ld t,a.ld.take t (a.s.tk.getD t Tk.z).mem,BV a.s a.ks t⟩)
theorem zo(d:Led)(id mem:Int):d.takeE id mem≠6:=by
 unfold Led.takeE
 split
 ·decide
 ·split
  ·decide
  ·split
   ·decide
   ·split <;>decide
theorem lD(a:SL):∀vs:List Int,(stopN a vs).s.al=a.s.al∧(stopN a vs).s.rq=a.s.rq∧(stopN a vs).s.tk=a.s.tk∧(stopN a vs).s.c=a.s.c∧(stopN a vs).s.now=a.s.now∧(stopN a vs).s.bg=a.s.bg∧(stopN a vs).s.lf.length=a.s.lf.length:=fun vs=>by
 unfold stopN
 induction vs generalizing a with
 |nil=>exact ⟨rfl,rfl,rfl,rfl,rfl,rfl,rfl⟩
 |cons v vs ih=>
  rw [List.foldl_cons]
  obtain ⟨h1,h2,h3,h4,h5,h6,h7⟩:=ih (lS a v)
  exact ⟨h1,h2,h3,h4,h5,h6,h7.trans (by show (a.s.lf.set _ _).length=_;rw [List.length_set])⟩
theorem yF(x:Lf):(gO x).ep=x.ep:=by unfold gO;split <;>rfl
theorem rS(a:SL)(t:Nat):∀vs:List Int,((stopN a vs).s.lf.getD t Lf.z).ep=(a.s.lf.getD t Lf.z).ep:=fun vs=>by
 unfold stopN
 induction vs generalizing a with
 |nil=>rfl
 |cons v vs ih=>
  rw [List.foldl_cons,ih]
  show (((a.s.lf.set v.toNat (gO (a.s.lf.getD v.toNat Lf.z)))).getD t Lf.z).ep=_
  by_cases h:v.toNat<a.s.lf.length
  ·rw [pc h];split
   ·rename_i e;subst e;exact yF _
   ·rfl
  ·rw [List.set_eq_of_length_le (by omega)]
def HzL(d:Led):Prop:=∀i,(d.ps.getD i Pl.z).h=false→(d.ps.getD i Pl.z).mem=0
theorem HzL.put{d:Led}(h:HzL d)(i:Nat){x:Pl}{u:Int}(hx:x.h=false→x.mem=0):HzL (d.put i x u):=fun j hj=>by
 have e:(d.put i x u).ps=d.ps.set i x:=rfl
 rw [e] at hj⊢
 by_cases hi:i<d.ps.length
 ·rw [qo hi] at hj⊢
  by_cases e2:j=i
  ·rw [if_pos e2] at hj⊢;exact hx hj
  ·rw [if_neg e2] at hj⊢;exact h j hj
 ·rw [List.set_eq_of_length_le (by omega)] at hj⊢;exact h j hj
theorem HzL.drop{d:Led}(h:HzL d)(v:Int):HzL (d.drop v):=by
 unfold Led.drop;split
 ·exact h
 ·exact h.put _ fun _=>rfl
theorem HzL.take{d:Led}(h:HzL d)(v m:Int):HzL (d.take v m):=by
 unfold Led.take;split
 ·exact h.put _ fun hh=>by cases hh
 ·exact h
theorem HzL.stopN{a:SL}(h:HzL a.ld):∀vs:List Int,HzL (stopN a vs).ld:=fun vs=>by
 unfold Sp.stopN
 induction vs generalizing a with
 |nil=>exact h
 |cons v vs ih=>rw [List.foldl_cons];exact ih (a:=lS a v) (h.drop v)
structure WantI(n:Nat)(s:ES)(ids:List Int)(es:Es)(ms:List M3)(ta:Nat)(l:List Int)(ps:List (Int×Int))(qs:List Int):Prop where
 hw:dC n n es s.al l ids (dE s ids) ids.length=(ps,qs)
 pl:ps.length=qs.length
 ql:qs.length≤ids.length
 any:il (c8 ms ps)=true
 tk:∀q tm tb,TakeR q (c8 ms ps) (ms,ta) (tm,tb)→tm.map (·.id)=ms.map (·.id)∧tb<tm.length∧∃(k t:Nat),k<ps.length∧gi (fun k=>decide ((ps.getD k (0,0)).1=(tm.getD tb M3.z).id)) ps.length=(k:Int)∧qs.getD k 0=(t:Int)∧t<n∧(t:Int)∈l
def Cl(a0:SL)(pr ts:List Int)(n:Nat)(p:Int)(ms:List M3)(ta:Nat)(fl:List Int)(er sl ep rr tt:Int)(a:SL)(tm:List M3)(tb:Nat):Prop:=
 (er=6∧ts=[]∧a=a0∧tm=ms∧tb=ta)∨(er=4∧ts≠[]∧¬(0<a0.ld.cnt a0.ld.many∧fl≠[])∧a=a0∧tm=ms∧tb=ta)∨
 (ts≠[]∧∃(l vs:List Int) (t:Nat) (r:Int),Bg a0.s pr ts n p 0 l vs∧(0<a0.ld.cnt a0.ld.many∧fl≠[]→l=fl∧vs=[])∧(t:Int)∈l∧t<n∧tm.map (·.id)=ms.map (·.id)∧yc (stopN a0 vs) r t er sl ep rr tt a)
end Go.Proofs.YtanfdikglplkaaaGreatDoor.Sp
namespace Go.Proofs.YtanfdikglplkaaaGreatDoor.Sp
open Go
section
variable{P:Program}{E:List (Nat×Value)}{L:List HP}{ty t t':TypeId}{x y:Operand}
theorem qC{P:Program}{w:World}{t:TypeId}{ps rs:Array TypeId}{v:Bool}{f:Fn}{a b:Array Value}(hu:P.underlying t=some (.func ps rs v)):(Op.equal t (.func f a b) .nilFunc).run P w=.ok false w:=by
 show (Op.equalIn 10000 t (.func f a b) .nilFunc).run P w=_
 unfold Op.equalIn;simp [run_underlying hu]
theorem AF{ps rs:Array TypeId}{v:Bool}{f:Fn}{a b:Array Value}(hu:P.underlying t=some (.func ps rs v))(hx:ev E x=some (.func f a b))(hy:ev E y=some .nilFunc):LV P E L (.binOp .eql t x y t') ty (.bool false):=by
 intro ρ h w _ d pos af g
 simp [execOp,h x _ hx,h y _ hy,eqGuard,binOp,qC hu]
theorem qB{f:FuncId}{y:Operand}{xs:List Operand}{vs first:List Value}{ts:Array TypeId}(hc:∀args w,(callFunc f args).run P w=.ok (.enter f args) w)(hy:ev E y=some (.func (.func f) first.toArray #[]))
 (hx:evs E xs=some vs):n7 P E (.call {callee:=.value y,args:=xs.toArray,argTypes:=ts}) ty f (first++vs):=by
 intro ρ h w d pos af g
 simp [execOp,resolve,h.evs hx,h y _ hy,Deferred.ofValue,invoke,hc]
end
end Go.Proofs.YtanfdikglplkaaaGreatDoor.Sp
