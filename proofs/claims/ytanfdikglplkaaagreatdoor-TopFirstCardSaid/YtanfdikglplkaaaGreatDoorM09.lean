/- Parts Eng1, Hpl, Hpl2, Hpl3, Tm, Eng2, Rc2, Rc3, Tzn: own lemmas and contracts of the code that the claim reaches. -/
import Derived.Test.YtanfdikglplkaaaGreatDoorM08
import Derived.Test.YtanfdikglplkaaaGreatDoorM05
import Derived.Test.YtanfdikglplkaaaGreatDoorM04
import Derived.Test.YtanfdikglplkaaaGreatDoorM07
import Derived.Test.YtanfdikglplkaaaGreatDoorM02
import Derived.Laws.ResultCell
import Derived.Lib.TrailingZeros
set_option linter.unusedSimpArgs false
set_option linter.unusedVariables false
namespace Go.Proofs.YtanfdikglplkaaaGreatDoor.Sp
open Go
structure ES where
 c:Cfg
 al:List (Int×Int)
 tk:List Tk
 lf:List Lf
 rq:List Rq
 now:Int
 bg:Int
 lg:List Ev
structure EP where
 g:Nat
 tp:Nat
 ld:Nat
 ad:Nat
 tn:Nat
 n:Nat
 m:Nat
 ba:Option Addr
 ca:Nat
 bt:Option Addr
 ct:Nat
 br:Option Addr
 cr:Nat
 ks:List (Nat×Nat)
 rs:List Nat
def sI(x:EP)(s:ES)(b:Option Addr)(c:Nat):List Value:=
 [.int .i64 s.c.bud,.int .i64 s.c.slots,.int .i64 s.c.act,.int .i64 s.c.que,.int .i64 s.c.tries,.int .i64 s.c.pre,.int .i64 s.c.tmo,.int .i64 s.c.bak,.int .i64 s.c.most,.int .i64 s.c.qu,
  .slice x.ba x.n x.ca,.slice x.bt x.n x.ct,.slice x.br x.m x.cr,.pointer (some ⟨x.g,0,none⟩),.pointer (some ⟨x.tp,0,none⟩),.pointer (some ⟨x.ld,0,none⟩),.pointer (some ⟨x.ad,0,none⟩),.pointer (some ⟨x.tn,0,none⟩),
  .int .i64 s.now,.int .i64 s.bg,.slice b s.lg.length c]
structure EF(x:EP)(s:ES):Prop where
 tn:s.tk.length=x.n
 ln:s.lf.length=x.n
 kn:x.ks.length=x.n
 an:s.al.length=x.n
 mn:s.rq.length=x.m
 rn:x.rs.length=x.m
 oka:bB x.ba x.n
 okt:bB x.bt x.n
 okr:bB x.br x.m
 nb:x.n≤64
 mb:x.m≤64
 ca:x.n≤x.ca
 ct:x.n≤x.ct
 cr:x.m≤x.cr
 lo:∀i,i<x.n→LfOk (s.lf.getD i Lf.z)
 n0:0≤s.now∧s.now≤1099511627776
abbrev tf:Nat:=76
abbrev py:Nat:=92
abbrev w5:Nat:=82
def jX(e:Nat)(x:EP)(s:ES)(b:Option Addr)(c:Nat):List HP:=
 [bI e (sI x s b c) 73,SlV 57 2 (.slice x.ba x.n x.ca) x.n (df s.al),SlV 64 1 (.slice x.bt x.n x.ct) x.n (bJ dJ (x.ks.map Prod.fst)),
  SlV 79 1 (.slice x.br x.m x.cr) x.m (bJ dJ x.rs),SlV 45 5 (.slice b s.lg.length c) s.lg.length (bJ gH s.lg),
  cI (e9 tf Prod.fst pd x.ks s.tk),cI (e9 py Prod.snd (fun _=>fD) x.ks s.lf),cI (e9 w5 id (fun _=>rv) x.rs s.rq)]
structure LgOk(s:ES)(b:Option Addr)(c:Nat):Prop where
 ok:bB b s.lg.length
 le:s.lg.length≤c
def bQ(e:Nat)(x:EP)(s:ES):HP:=sj (EF x s) (Ex fun b:Option Addr=>Ex fun c:Nat=>sj (LgOk s b c) (cI (jX e x s b c)))
section
variable{P:Program}{E:List (Nat×Value)}{L:List HP}{ty:TypeId}{e:Nat}{x:EP}{s:ES}{b:Option Addr}{c:Nat}
theorem dG{w:World}(h:Sat (bQ e x s::L) w):EF x s:=(Sat.fact.1 h).1
theorem mF{w:World}(h:Sat (bQ e x s::L) w):∃b c,LgOk s b c∧Sat (jX e x s b c++L) w:=by
 obtain ⟨b,h1⟩:=Sat.ex.1 (Sat.fact.1 h).2
 obtain ⟨c,h2⟩:=Sat.ex.1 h1
 obtain ⟨h3,h4⟩:=Sat.fact.1 h2
 exact ⟨b,c,h3,Sat.join.1 h4⟩
theorem hP{w:World}(hE:EF x s)(hl:LgOk s b c)(h:Sat (jX e x s b c++L) w):Sat (bQ e x s::L) w:=
 Sat.fact.2 ⟨hE,Sat.ex.2 ⟨b,Sat.ex.2 ⟨c,Sat.fact.2 ⟨hl,Sat.join.2 h⟩⟩⟩⟩
theorem hR{a:Addr}{v:Value}(hm:bQ e x s∈L)(h:EF x s→∀b c,Gives (jX e x s b c) a v):Gives L a v:=fun w hs=>by
 obtain ⟨f,hf,hh⟩:=hs.mem hm
 have h1:Sat [bQ e x s] w:=⟨f,⟨f,[],by simp,hf,rfl⟩,hh⟩
 obtain ⟨b,c,_,h2⟩:=mF h1
 rw [List.append_nil] at h2
 exact h (dG h1) b c w h2
theorem bu{o:Nat}{v:Value}(hm:bQ e x s∈L)(hv:∀b c,(sI x s b c)[o]?=some v):Gives L ⟨e,o,none⟩ v:=hR hm fun _ b c=>aa (.head _) (hv b c)
theorem pY{i:Nat}(hm:bQ e x s∈L)(hi:i<x.n):Gives L (ad x.ba (i*2)) (.int .i64 (s.al.getD i (0,0)).1):=hR hm fun h b c=>aw (.tail _ (.head _)) (gv (by rw [h.an];exact hi))
theorem dT{i:Nat}(hm:bQ e x s∈L)(hi:i<x.n):Gives L (ad x.bt i) (.pointer (some ⟨(x.ks.getD i (0,0)).1,0,none⟩)):=hR hm fun h b c=>by
 have h1:i< (x.ks.map Prod.fst).length:=by rw [List.length_map,h.kn];exact hi
 have h3:i<x.ks.length:=by rw [h.kn];exact hi
 have h2:(x.ks.map Prod.fst).getD i 0=(x.ks.getD i (0,0)).1:=by simp [List.getD,h3]
 rw [←h2];exact aw (.tail _ (.tail _ (.head _))) (eV h1)
theorem ie{i:Nat}(hm:bQ e x s∈L)(hi:i<x.m):Gives L (ad x.br i) (.pointer (some ⟨x.rs.getD i 0,0,none⟩)):=hR hm fun h b c=>
 aw (.tail _ (.tail _ (.tail _ (.head _)))) (eV (by rw [h.rn];exact hi))
theorem bY{i o:Nat}{v:Value}(hm:bQ e x s∈L)(hi:i<x.n)(hv:(pd (x.ks.getD i (0,0)) (s.tk.getD i Tk.z))[o]?=some v):Gives L ⟨(x.ks.getD i (0,0)).1,o,none⟩ v:=hR hm fun h b c=>
 mX (T:=tf) (pk:=Prod.fst) (F:=pd) (0,0) Tk.z (.tail _ (.tail _ (.tail _ (.tail _ (.tail _ (.head _)))))) (by rw [h.kn,h.tn]) (by rw [h.tn];exact hi) hv
theorem eB{i o:Nat}{v:Value}(hm:bQ e x s∈L)(hi:i<x.m)(hv:(rv (s.rq.getD i Rq.z))[o]?=some v):Gives L ⟨x.rs.getD i 0,o,none⟩ v:=hR hm fun h b c=>
 mX (T:=w5) (pk:=id) (F:=fun _=>rv) 0 Rq.z (.tail _ (.tail _ (.tail _ (.tail _ (.tail _ (.tail _ (.tail _ (.head _)))))))) (by rw [h.rn,h.mn]) (by rw [h.mn];exact hi) hv
theorem zC{bs:Option Addr}{cs:List Value}(hm:bQ e x s∈L)(h:∀b c,Rd (jX e x s b c) bs cs):Rd L bs cs:=fun w hs=>by
 obtain ⟨f,hf,hh⟩:=hs.mem hm
 have h1:Sat [bQ e x s] w:=⟨f,⟨f,[],by simp,hf,rfl⟩,hh⟩
 obtain ⟨b,c,_,h2⟩:=mF h1
 rw [List.append_nil] at h2
 exact h b c w h2
theorem AX(hm:bQ e x s∈L):Rd L x.ba (df s.al):=zC hm fun _ _=>cj (.tail _ (.head _))
def ES.setTk(s:ES)(i:Nat)(y:Tk):ES:={s with tk:=s.tk.set i y}
def ES.setLf(s:ES)(i:Nat)(y:Lf):ES:={s with lf:=s.lf.set i y}
def ES.setRq(s:ES)(i:Nat)(y:Rq):ES:={s with rq:=s.rq.set i y}
def ES.setNow(s:ES)(v:Int):ES:={s with now:=v}
def ES.setBg(s:ES)(v:Int):ES:={s with bg:=v}
theorem EF.setTk(h:EF x s)(i:Nat)(y:Tk):EF x (s.setTk i y):=⟨by show (s.tk.set i y).length=_;rw [List.length_set];exact h.tn,h.ln,h.kn,h.an,h.mn,h.rn,h.oka,h.okt,h.okr,h.nb,h.mb,h.ca,h.ct,h.cr,h.lo,h.n0⟩
theorem EF.setRq(h:EF x s)(i:Nat)(y:Rq):EF x (s.setRq i y):=⟨h.tn,h.ln,h.kn,h.an,by show (s.rq.set i y).length=_;rw [List.length_set];exact h.mn,h.rn,h.oka,h.okt,h.okr,h.nb,h.mb,h.ca,h.ct,h.cr,h.lo,h.n0⟩
theorem EF.setNow(h:EF x s){v:Int}(hv:0≤v∧v≤1099511627776):EF x (s.setNow v):=⟨h.tn,h.ln,h.kn,h.an,h.mn,h.rn,h.oka,h.okt,h.okr,h.nb,h.mb,h.ca,h.ct,h.cr,h.lo,hv⟩
theorem pc{l:List Lf}{i:Nat}{y:Lf}(h:i<l.length)(j:Nat):(l.set i y).getD j Lf.z=if j=i then y else l.getD j Lf.z:=by
 by_cases e:j=i
 ·subst e;rw [if_pos rfl];simp [List.getD,h]
 ·rw [if_neg e];simp only [List.getD];rw [List.getElem?_set_ne (fun h=>e h.symm)]
theorem EF.setBg(h:EF x s)(v:Int):EF x (s.setBg v):=⟨h.tn,h.ln,h.kn,h.an,h.mn,h.rn,h.oka,h.okt,h.okr,h.nb,h.mb,h.ca,h.ct,h.cr,h.lo,h.n0⟩
theorem EF.setLf(h:EF x s){i:Nat}(hi:i<x.n){y:Lf}(hy:LfOk y):EF x (s.setLf i y):=by
 refine ⟨h.tn,by show (s.lf.set i y).length=_;rw [List.length_set];exact h.ln,h.kn,h.an,h.mn,h.rn,h.oka,h.okt,h.okr,h.nb,h.mb,h.ca,h.ct,h.cr,fun j hj=>?_,h.n0⟩
 show LfOk ((s.lf.set i y).getD j Lf.z)
 rw [pc (by rw [h.ln];exact hi)];split
 ·exact hy
 ·exact h.lo j hj
theorem SV.via{ι:Type}{p:ι→Prop}{L' M':ι→List HP}{M:List HP}{op:Op}(h1:∀w,Sat L w→∃i,p i∧Sat (L' i) w)(h:∀i,SV P E (L' i) op ty (M' i))(h2:∀i,p i→∀w,Sat (M' i) w→Sat M w):SV P E L op ty M:=by
 intro ρ hρ w hs d pos af g
 obtain ⟨i,hp,hs1⟩:=h1 w hs
 obtain ⟨w',r1,r2,r3⟩:=h i ρ hρ w hs1 d pos af g
 exact ⟨w',r1,h2 i hp w' r2,r3⟩
theorem SV.of{M:List HP}{op:Op}{p:Prop}(h:∀w,Sat L w→p)(k:p→SV P E L op ty M):SV P E L op ty M:=fun ρ hρ w hs=>k (h w hs) ρ hρ w hs
abbrev BC:=Option Addr×Nat
theorem iP{w:World}(h:Sat (bQ e x s::L) w):∃i:BC,LgOk s i.1 i.2∧Sat (jX e x s i.1 i.2++L) w:=by
 obtain ⟨b,c,h1,h2⟩:=mF h;exact ⟨(b,c),h1,h2⟩
theorem BI{i:Nat}{w:World}(hE:EF x s)(hi:i<x.n)(h:Sat (bQ e x s::L) w):∃j:BC,LgOk s j.1 j.2∧
 Sat (bI (x.ks.getD i (0,0)).1 (pd (x.ks.getD i (0,0)) (s.tk.getD i Tk.z)) tf::cI (e9 tf Prod.fst pd (x.ks.eraseIdx i) (s.tk.eraseIdx i))::((jX e x s j.1 j.2).eraseIdx 5++L)) w:=by
 obtain ⟨j,h1,h2⟩:=iP h
 exact ⟨j,h1,jA (pk:=Prod.fst) (F:=pd) (0,0) Tk.z (by rw [hE.kn,hE.tn]) (by rw [hE.tn];exact hi) (h2.perm (bX [_,_,_,_,_] _))⟩
theorem zF{i:Nat}{y:Tk}{w:World}(hE:EF x s)(hi:i<x.n)(hl:LgOk s b c)
 (h:Sat (bI (x.ks.getD i (0,0)).1 (pd (x.ks.getD i (0,0)) y) tf::cI (e9 tf Prod.fst pd (x.ks.eraseIdx i) (s.tk.eraseIdx i))::((jX e x s b c).eraseIdx 5++L)) w):Sat (bQ e x (s.setTk i y)::L) w:=
 hP (b:=b) (c:=c) (hE.setTk i y) ⟨hl.ok,hl.le⟩ ((lT (pk:=Prod.fst) (F:=pd) (0,0) (by rw [hE.kn,hE.tn]) (by rw [hE.tn];exact hi) h).perm (bX [_,_,_,_,_] _).symm)
theorem BG{i:Nat}{w:World}(hE:EF x s)(hi:i<x.m)(h:Sat (bQ e x s::L) w):∃j:BC,LgOk s j.1 j.2∧
 Sat (bI (x.rs.getD i 0) (rv (s.rq.getD i Rq.z)) w5::cI (e9 w5 id (fun _=>rv) (x.rs.eraseIdx i) (s.rq.eraseIdx i))::((jX e x s j.1 j.2).eraseIdx 7++L)) w:=by
 obtain ⟨j,h1,h2⟩:=iP h
 exact ⟨j,h1,jA (pk:=id) (F:=fun _=>rv) 0 Rq.z (by rw [hE.rn,hE.mn]) (by rw [hE.mn];exact hi) (h2.perm (bX [_,_,_,_,_,_,_] _))⟩
theorem Av{i:Nat}{y:Rq}{w:World}(hE:EF x s)(hi:i<x.m)(hl:LgOk s b c)
 (h:Sat (bI (x.rs.getD i 0) (rv y) w5::cI (e9 w5 id (fun _=>rv) (x.rs.eraseIdx i) (s.rq.eraseIdx i))::((jX e x s b c).eraseIdx 7++L)) w):Sat (bQ e x (s.setRq i y)::L) w:=
 hP (b:=b) (c:=c) (hE.setRq i y) ⟨hl.ok,hl.le⟩ ((lT (pk:=id) (F:=fun _=>rv) 0 (by rw [hE.rn,hE.mn]) (by rw [hE.mn];exact hi) h).perm (bX [_,_,_,_,_,_,_] _).symm)
theorem xk{i:Nat}{w:World}(hE:EF x s)(hi:i<x.n)(h:Sat (bQ e x s::L) w):∃j:BC,LgOk s j.1 j.2∧
 Sat (bI (x.ks.getD i (0,0)).2 (fD (s.lf.getD i Lf.z)) py::cI (e9 py Prod.snd (fun _=>fD) (x.ks.eraseIdx i) (s.lf.eraseIdx i))::((jX e x s j.1 j.2).eraseIdx 6++L)) w:=by
 obtain ⟨j,h1,h2⟩:=iP h
 exact ⟨j,h1,jA (pk:=Prod.snd) (F:=fun _=>fD) (0,0) Lf.z (by rw [hE.kn,hE.ln]) (by rw [hE.ln];exact hi) (h2.perm (bX [_,_,_,_,_,_] _))⟩
theorem tW{i:Nat}{y:Lf}{w:World}(hE:EF x s)(hi:i<x.n)(hy:LfOk y)(hl:LgOk s b c)
 (h:Sat (bI (x.ks.getD i (0,0)).2 (fD y) py::cI (e9 py Prod.snd (fun _=>fD) (x.ks.eraseIdx i) (s.lf.eraseIdx i))::((jX e x s b c).eraseIdx 6++L)) w):Sat (bQ e x (s.setLf i y)::L) w:=
 hP (b:=b) (c:=c) (hE.setLf hi hy) ⟨hl.ok,hl.le⟩ ((lT (pk:=Prod.snd) (F:=fun _=>fD) (0,0) (by rw [hE.kn,hE.ln]) (by rw [hE.ln];exact hi) h).perm (bX [_,_,_,_,_,_] _).symm)
theorem su{t:TypeId}{a y:Operand}{i o:Nat}{v:Value}{z:Tk}(hi:i<x.n)(hz:(pd (x.ks.getD i (0,0)) (s.tk.getD i Tk.z)).set o v=pd (x.ks.getD i (0,0)) z)(ho:o<6)(h1:v.oneCell'=true)
 (hsz:∀w,(sizeOf t).run P w=.ok 1 w) (hx:ev E a=some (.pointer (some ⟨(x.ks.getD i (0,0)).1,o,none⟩))) (hy:ev E y=some v):
 SV P E (bQ e x s::L) (.store t a y) ty (bQ e x (s.setTk i z)::L):=
 SV.of (fun _ h=>dG h) fun hE=>SV.via (fun _ h=>BI hE hi h) (fun _=>cM hsz hx hy h1 ho hz) (fun _ hl _ h=>zF hE hi hl h)
theorem AV{t:TypeId}{a y:Operand}{i o:Nat}{v:Value}{z:Rq}(hi:i<x.m)(hz:(rv (s.rq.getD i Rq.z)).set o v=rv z)(ho:o<4)(h1:v.oneCell'=true)
 (hsz:∀w,(sizeOf t).run P w=.ok 1 w) (hx:ev E a=some (.pointer (some ⟨x.rs.getD i 0,o,none⟩))) (hy:ev E y=some v):
 SV P E (bQ e x s::L) (.store t a y) ty (bQ e x (s.setRq i z)::L):=
 SV.of (fun _ h=>dG h) fun hE=>SV.via (fun _ h=>BG hE hi h) (fun _=>cM hsz hx hy h1 ho hz) (fun _ hl _ h=>Av hE hi hl h)
theorem Bj{t:TypeId}{a y:Operand}{v:Int}(hv:0≤v∧v≤1099511627776)(hsz:∀w,(sizeOf t).run P w=.ok 1 w)(hx:ev E a=some (.pointer (some ⟨e,18,none⟩)))(hy:ev E y=some (.int .i64 v)):
 SV P E (bQ e x s::L) (.store t a y) ty (bQ e x (s.setNow v)::L):=
 SV.of (fun _ h=>dG h) fun hE=>SV.via (fun _ h=>iP h) (fun i=>cM (cs':=sI x (s.setNow v) i.1 i.2) hsz hx hy rfl (Nat.le_of_ble_eq_true rfl) rfl) (fun _ hl _ h=>hP (hE.setNow hv) ⟨hl.ok,hl.le⟩ h)
theorem Ct{t:TypeId}{a y:Operand}{v:Int}(hsz:∀w,(sizeOf t).run P w=.ok 1 w)(hx:ev E a=some (.pointer (some ⟨e,19,none⟩)))(hy:ev E y=some (.int .i64 v)):
 SV P E (bQ e x s::L) (.store t a y) ty (bQ e x (s.setBg v)::L):=
 SV.of (fun _ h=>dG h) fun hE=>SV.via (fun _ h=>iP h) (fun i=>cM (cs':=sI x (s.setBg v) i.1 i.2) hsz hx hy rfl (Nat.le_of_ble_eq_true rfl) rfl) (fun _ hl _ h=>hP (hE.setBg v) ⟨hl.ok,hl.le⟩ h)
theorem fj{f:FuncId}{args:List Value}{i:Nat}{v:Value}{y:Lf}(hi:i<x.n)(hy:LfOk (s.lf.getD i Lf.z)→LfOk y)
 (h:LfOk (s.lf.getD i Lf.z)→∀R:List HP,Ok P f (.pointer (some ⟨(x.ks.getD i (0,0)).2,0,none⟩)::args) (bI (x.ks.getD i (0,0)).2 (fD (s.lf.getD i Lf.z)) py::R) (fun u M=>u=v∧M=bI (x.ks.getD i (0,0)).2 (fD y) py::R)):
 Ok P f (.pointer (some ⟨(x.ks.getD i (0,0)).2,0,none⟩)::args) (bQ e x s::L) (fun u M=>u=v∧M=bQ e x (s.setLf i y)::L):=fun w hs=>by
 have hE:=dG hs
 obtain ⟨j,hl,hs1⟩:=xk hE hi hs
 refine (h (hE.lo i hi) _ w hs1).mono ?_
 rintro en w' ⟨u,M,⟨rfl,rfl⟩,h1,h2,h3⟩
 exact ⟨_,_,⟨rfl,rfl⟩,h1,tW hE hi (hy (hE.lo i hi)) hl h2,h3⟩
theorem dK{f:FuncId}{args:List Value}{i:Nat}{v:Value}(hi:i<x.n)
 (h:∀R:List HP,Ok P f (.pointer (some ⟨(x.ks.getD i (0,0)).2,0,none⟩)::args) (bI (x.ks.getD i (0,0)).2 (fD (s.lf.getD i Lf.z)) py::R) (fun u M=>u=v∧M=bI (x.ks.getD i (0,0)).2 (fD (s.lf.getD i Lf.z)) py::R)):
 Ok P f (.pointer (some ⟨(x.ks.getD i (0,0)).2,0,none⟩)::args) (bQ e x s::L) (fun u M=>u=v∧M=bQ e x s::L):=fun w hs=>by
 have hE:=dG hs
 obtain ⟨j,hl,hs1⟩:=xk hE hi hs
 refine (h _ w hs1).mono ?_
 rintro en w' ⟨u,M,⟨rfl,rfl⟩,h1,h2,h3⟩
 have h4:=tW hE hi (hE.lo i hi) hl h2
 have h5:s.setLf i (s.lf.getD i Lf.z)=s:=by unfold ES.setLf;rw [m9 Lf.z (by rw [hE.ln];exact hi)]
 rw [h5] at h4
 exact ⟨_,_,⟨rfl,rfl⟩,h1,h4,h3⟩
variable{K:Act→World→Prop}{W:World}{N':Nat}
theorem qk(k:∀b c,EF x s→LgOk s b c→cd K W N' E (jX e x s b c++L)):cd K W N' E (bQ e x s::L):=oo fun hE=>xX fun b=>xX fun c=>oo fun hl=>w9 (k b c hE hl)
theorem qj(hE:EF x s)(hl:LgOk s b c)(k:cd K W N' E (bQ e x s::L)):cd K W N' E (jX e x s b c++L):=bO (fun _ h=>hP hE hl h) k
end
end Go.Proofs.YtanfdikglplkaaaGreatDoor.Sp
namespace Go.Proofs.YtanfdikglplkaaaGreatDoor.Sp
open Go
theorem lI(ks:Ks):gf ks=ks.countP Option.isSome:=by unfold gf;rw [List.countP_eq_length_filter]
theorem jG{ks:Ks}{i:Nat}{k:Int}(h:ks.getD i none=some k):i<ks.length:=by
 by_cases hi:i<ks.length
 ·exact hi
 ·simp [List.getD,show ks.length≤i by omega] at h
theorem Bi{ks:Ks}{i:Nat}(h:i<ks.length):ks[i]=ks.getD i none:=by simp [List.getD,h]
theorem mE{ks:Ks}{i:Nat}{k:Int}(h:ks.getD i none=some k):gf (ks.set i none)+1=gf ks:=by
 have hi:=jG h
 have h1:0<ks.countP Option.isSome:=List.countP_pos_iff.2 ⟨ks[i],List.getElem_mem hi,by rw [Bi hi,h];rfl⟩
 rw [lI,lI,List.countP_set hi,Bi hi,h];simp;omega
theorem yb{ks:Ks}(h:gf ks=0)(i:Nat):ks.getD i none=none:=by
 cases hi:ks.getD i none with
 |none=>rfl
 |some k=>have:=mE hi;omega
theorem cnt_none_iff{ks:Ks}:jR ks 0=none↔gf ks=0:=by
 constructor
 ·intro h
  rw [lI]
  refine List.countP_eq_zero.2 fun o ho=>?_
  obtain ⟨i,hi,rfl⟩:=List.mem_iff_getElem.1 ho
  rw [Bi hi,mZ h];simp
 ·intro h
  cases hm:jR ks 0 with
  |none=>rfl
  |some x=>obtain ⟨i,k⟩:=x;have:=(kE hm).2.1;rw [yb h] at this;cases this
theorem xl{ks:Ks}(h:gf ks=0):jI ks=0∧jd ks=0∧gT ks=false∧jt ks=ks:=by
 have:=cnt_none_iff.2 h
 unfold jI jd gT jt;rw [this];exact ⟨rfl,rfl,rfl,rfl⟩
structure IsMin(ks:Ks)(i:Nat)(k:Int):Prop where
 at_:ks.getD i none=some k
 le:∀(j:Nat) (k':Int),ks.getD j none=some k'→k<k'∨(k=k'∧i≤j)
 fi:jI ks=(i:Int)
 fv:jd ks=k
 fb:gT ks=true
 pop:jt ks=ks.set i none
theorem ko{ks:Ks}(h:0<gf ks):∃i k,IsMin ks i k:=by
 cases hm:jR ks 0 with
 |none=>have:=cnt_none_iff.1 hm;omega
 |some x=>
  obtain ⟨i,k⟩:=x
  obtain ⟨_,h2,h3⟩:=kE hm
  refine ⟨i,k,⟨by simpa using h2,fun j k' e=>by have:=h3 j k' e;omega,?_,?_,?_,?_⟩⟩
  ·unfold jI;rw [hm]
  ·unfold jd;rw [hm]
  ·unfold gT;rw [hm];rfl
  ·unfold jt;rw [hm]
theorem Ah(ks:Ks):gT ks=decide (((gf ks:Nat):Int)>0):=by
 rcases Nat.eq_zero_or_pos (gf ks) with h|h
 ·rw [(xl h).2.2.1,h];rfl
 ·obtain ⟨i,k,hm⟩:=ko h
  rw [hm.fb];symm;rw [decide_eq_true_iff];omega
theorem zG(ks:Ks):(jt ks).length=ks.length:=by unfold jt;split <;>simp
def mc(keys:List Int)(gone:List Bool)(n:Nat):Ks:=(List.range n).map fun x=>if gone.getD x false then none else some (keys.getD x 0)
theorem lQ(keys:List Int)(gone:List Bool)(n:Nat):(mc keys gone n).length=n:=by simp [mc]
theorem mA{keys:List Int}{gone:List Bool}{n x:Nat}(h:x<n):(mc keys gone n).getD x none=if gone.getD x false then none else some (keys.getD x 0):=by
 unfold mc;rw [List.getD_eq_getElem?_getD,List.getElem?_map,List.getElem?_range h];rfl
theorem z7{l:List Bool}{i j:Nat}{x:Bool}(h:i<l.length):(l.set i x).getD j false=if j=i then x else l.getD j false:=by
 simp only [List.getD_eq_getElem?_getD,List.getElem?_set]
 by_cases e:i=j
 ·subst e;simp [h]
 ·rw [if_neg e,if_neg (fun h=>e h.symm)]
theorem xF{keys:List Int}{gone:List Bool}{n x:Nat}(hl:gone.length=n)(h:x<n):(mc keys gone n).set x none=mc keys (gone.set x true) n:=by
 refine xB (n:=n) (by rw [List.length_set];exact lQ ..) (lQ ..) fun y hy=>?_
 rw [zB (by rw [lQ];exact h),mA hy,mA hy,z7 (by omega)]
 by_cases e:y=x
 ·rw [if_pos e,if_pos e,if_pos rfl]
 ·rw [if_neg e,if_neg e]
structure PopOk(keys:List Int)(n:Nat)(seen:List Bool)(last:Int)(j:Nat):Prop where
 len:seen.length=n
 cnt:gf (mc keys seen n)+j=n
 last_:(last= -1∧j=0)∨((0≤last∧last<n)∧∀x:Nat,x<n→seen.getD x false=false→keys.getD last.toNat 0<keys.getD x 0∨(keys.getD last.toNat 0=keys.getD x 0∧last<x))
theorem As{keys:List Int}{seen:List Bool}{n i:Nat}{k:Int}(h:IsMin (mc keys seen n) i k):i<n∧seen.getD i false=false∧k=keys.getD i 0:=by
 have hi:=jG h.at_
 rw [lQ] at hi
 have:=h.at_
 rw [mA hi] at this
 cases hs:seen.getD i false with
 |true=>rw [hs] at this;cases this
 |false=>rw [hs] at this;simp only [Bool.false_eq_true,if_false,Option.some.injEq] at this;exact ⟨hi,rfl,this.symm⟩
theorem PopOk.next{keys:List Int}{n:Nat}{seen:List Bool}{last:Int}{j:Nat}(h:PopOk keys n seen last j)(hj:j<n):∃i:Nat,i<n∧jI (mc keys seen n)=(i:Int)∧jd (mc keys seen n)=keys.getD i 0∧gT (mc keys seen n)=true∧seen.getD i false=false∧
 jt (mc keys seen n)=mc keys (seen.set i true) n∧(last<0∨((0≤last∧last<n)∧(keys.getD last.toNat 0<keys.getD i 0∨(keys.getD last.toNat 0=keys.getD i 0∧last<i))))∧PopOk keys n (seen.set i true) (i:Int) (j+1):=by
 obtain ⟨i,k,hm⟩:=ko (ks:=mc keys seen n) (by have:=h.cnt;omega)
 obtain ⟨hi,hs,hk⟩:=As hm
 have hl:=h.len
 have hset:=xF (keys:=keys) hl hi
 refine ⟨i,hi,hm.fi,by rw [hm.fv,hk],hm.fb,hs,by rw [hm.pop];exact hset,?_,⟨by rw [List.length_set];exact hl,?_,.inr ⟨⟨by omega,by omega⟩,fun x hx hx2=>?_⟩⟩⟩
 ·rcases h.last_ with ⟨h1,_⟩| ⟨h1,h2⟩
  ·exact .inl (by omega)
  ·exact .inr ⟨h1,h2 i hi hs⟩
 ·have:=mE hm.at_
  rw [hset] at this;have:=h.cnt;omega
 ·rw [z7 (by omega)] at hx2
  by_cases e:x=i
  ·rw [if_pos e] at hx2;cases hx2
  ·rw [if_neg e] at hx2
   have:=hm.le x (keys.getD x 0) (by rw [mA hx,hx2];rfl)
   rw [Int.toNat_natCast];omega
end Go.Proofs.YtanfdikglplkaaaGreatDoor.Sp
namespace Go.Proofs.YtanfdikglplkaaaGreatDoor.Sp
open Go
theorem nz{ks:Ks}(h:0<gf ks):gT ks=true∧gf (jt ks)+1=gf ks:=by
 obtain ⟨i,k,hm⟩:=ko h
 exact ⟨hm.fb,by rw [hm.pop];exact mE hm.at_⟩
structure AtN(n:Nat)(at_:List Int)(t:Nat):Prop where
 len:at_.length=n
 bd:∀x:Nat,x<n→0≤at_.getD x 0∧at_.getD x 0≤t
 inj:∀x y:Nat,x<n→y<n→at_.getD x 0=at_.getD y 0→0<at_.getD x 0→x=y
theorem AtN.next{n t:Nat}{at_:List Int}(h:AtN n at_ t){i:Nat}(hi:i<n):AtN n (at_.set i ((t:Int)+1)) (t+1):=by
 have hl:=h.len
 refine ⟨by rw [List.length_set];exact hl,fun x hx=>?_,fun x y hx hy e h0=>?_⟩
 ·rw [eM (by omega)];have:=h.bd x hx;split <;>omega
 ·rw [eM (by omega),eM (by omega)] at e
  rw [eM (by omega)] at h0
  have b1:=h.bd x hx;have b2:=h.bd y hy
  by_cases e1:x=i <;>by_cases e2:y=i
  ·omega
  ·rw [if_pos e1,if_neg e2] at e;omega
  ·rw [if_neg e1,if_pos e2] at e;omega
  ·rw [if_neg e1,if_neg e2] at e;rw [if_neg e1] at h0;exact h.inj x y hx hy e h0
def nv(keys at_:List Int)(seen:List Bool)(n:Nat):Ks:=(List.range n).map fun x=>if seen.getD x false then none else some (if at_.getD x 0>0 then -4611686018427387904-at_.getD x 0 else keys.getD x 0/2)
theorem l0(keys at_:List Int)(seen:List Bool)(n:Nat):(nv keys at_ seen n).length=n:=by simp [nv]
theorem j9{keys at_:List Int}{seen:List Bool}{n x:Nat}(h:x<n):(nv keys at_ seen n).getD x none=if seen.getD x false then none else some (if at_.getD x 0>0 then -4611686018427387904-at_.getD x 0 else keys.getD x 0/2):=by
 unfold nv;rw [List.getD_eq_getElem?_getD,List.getElem?_map,List.getElem?_range h];rfl
structure LesOk(keys at_:List Int)(n t:Nat)(seen:List Bool)(last:Int)(j:Nat):Prop where
 atn:AtN n at_ t
 len:seen.length=n
 cnt:gf (nv keys at_ seen n)+j=n
 last_:(0<last∧∀x:Nat,x<n→seen.getD x false=false→at_.getD x 0<last)∨(last=0∧∀x:Nat,x<n→seen.getD x false=false→at_.getD x 0=0)
theorem LesOk.next{keys at_:List Int}{n t:Nat}{seen:List Bool}{last:Int}{j:Nat}(h:LesOk keys at_ n t seen last j)(hb:∀x:Nat,x<n→ -9223372036854775808≤keys.getD x 0)(hj:j<n):
 ∃i:Nat,i<n∧jI (nv keys at_ seen n)=(i:Int)∧gT (nv keys at_ seen n)=true∧jt (nv keys at_ seen n)=nv keys at_ (seen.set i true) n∧
  ¬(at_.getD i 0≥last∧last>0)∧¬(last=0∧at_.getD i 0≠0)∧LesOk keys at_ n t (seen.set i true) (at_.getD i 0) (j+1):=by
 obtain ⟨i,k,hm⟩:=ko (ks:=nv keys at_ seen n) (by have:=h.cnt;omega)
 have hi:=jG hm.at_
 rw [l0] at hi
 have hk:=hm.at_
 rw [j9 hi] at hk
 have hs:seen.getD i false=false:=by
  cases hs:seen.getD i false with
  |false=>rfl
  |true=>rw [hs] at hk;cases hk
 rw [hs] at hk
 simp only [Bool.false_eq_true,if_false,Option.some.injEq] at hk
 have hl:=h.len
 have hset:(nv keys at_ seen n).set i none=nv keys at_ (seen.set i true) n:=by
  refine xB (n:=n) (by rw [List.length_set];exact l0 ..) (l0 ..) fun y hy=>?_
  rw [zB (by rw [l0];exact hi),j9 hy,j9 hy,z7 (by omega)]
  by_cases e:y=i
  ·rw [if_pos e,if_pos e,if_pos rfl]
  ·rw [if_neg e,if_neg e]
 have hai:=h.atn.bd i hi
 refine ⟨i,hi,hm.fi,hm.fb,by rw [hm.pop];exact hset,?_,?_,⟨h.atn,by rw [List.length_set];exact hl,?_,?_⟩⟩
 ·rintro ⟨h1,h2⟩
  rcases h.last_ with ⟨_,h3⟩| ⟨h3,_⟩
  ·have:=h3 i hi hs;omega
  ·omega
 ·rintro ⟨h1,h2⟩
  rcases h.last_ with ⟨h3,_⟩| ⟨_,h3⟩
  ·omega
  ·exact h2 (h3 i hi hs)
 ·have:=mE hm.at_
  rw [hset] at this;have:=h.cnt;omega
 ·have key:∀x:Nat,x<n→(seen.set i true).getD x false=false→x≠i∧seen.getD x false=false:=fun x hx h2=>by
   rw [z7 (by omega)] at h2
   by_cases e:x=i
   ·rw [if_pos e] at h2;cases h2
   ·rw [if_neg e] at h2;exact ⟨e,h2⟩
  by_cases h0:at_.getD i 0>0
  ·refine .inl ⟨h0,fun x hx h2=>?_⟩
   obtain ⟨hne,h3⟩:=key x hx h2
   have h4:=hm.le x _ (by rw [j9 hx,h3];rfl)
   rw [if_pos h0] at hk
   have hax:=h.atn.bd x hx
   have hinj:=h.atn.inj i x hi hx
   by_cases h5:at_.getD x 0>0
   ·rw [if_pos h5] at h4
    by_cases h6:at_.getD i 0=at_.getD x 0
    ·exact absurd (hinj h6 h0).symm hne
    ·omega
   ·omega
  ·refine .inr ⟨by omega,fun x hx h2=>?_⟩
   obtain ⟨hne,h3⟩:=key x hx h2
   have h4:=hm.le x _ (by rw [j9 hx,h3];rfl)
   rw [if_neg h0] at hk
   have hax:=h.atn.bd x hx
   have:=hb i hi
   by_cases h5:at_.getD x 0>0
   ·rw [if_pos h5] at h4;omega
   ·omega
end Go.Proofs.YtanfdikglplkaaaGreatDoor.Sp
namespace Go.Proofs.YtanfdikglplkaaaGreatDoor.Sp
open Go
end Go.Proofs.YtanfdikglplkaaaGreatDoor.Sp
namespace Go.Proofs.YtanfdikglplkaaaGreatDoor.Sp
open Go
def Cn:Nat→Ks→Int→List Int
 |0,_,_=>[]
 |f+1,ks,t=>bif gT ks && decide (jd ks≤t) then jI ks::Cn f (jt ks) t else []
def Ce:Nat→Ks→Int→Ks
 |0,ks,_=>ks
 |f+1,ks,t=>bif gT ks && decide (jd ks≤t) then Ce f (jt ks) t else ks
def fT(ks:Ks)(t:Int):List Int:=Cn (gf ks) ks t
def uV(ks:Ks)(t:Int):Ks:=Ce (gf ks) ks t
theorem fstB_pos{ks:Ks}:gT ks=true↔0<gf ks:=by rw [Ah];constructor <;>intro h <;>simp_all
theorem og{ks:Ks}{t:Int}(h:¬(gT ks=true∧jd ks≤t)):fT ks t=[]∧uV ks t=ks:=by
 have e:(gT ks && decide (jd ks≤t))=false:=by
  cases h1:gT ks with
  |false=>rfl
  |true=>exact decide_eq_false fun h2=>h ⟨h1,h2⟩
 unfold fT uV
 cases gf ks with
 |zero=>exact ⟨rfl,rfl⟩
 |succ f=>exact ⟨by show (bif _ then _ else _)=_;rw [e];rfl,by show (bif _ then _ else _)=_;rw [e];rfl⟩
theorem nA{ks:Ks}{t:Int}(h:gT ks=true∧jd ks≤t):fT ks t=jI ks::fT (jt ks) t∧uV ks t=uV (jt ks) t:=by
 have e:(gT ks && decide (jd ks≤t))=true:=by rw [h.1,decide_eq_true h.2];rfl
 have hc:=nz (fstB_pos.1 h.1)
 unfold fT uV
 rw [show gf ks=gf (jt ks)+1 by omega]
 exact ⟨by show (bif _ then _ else _)=_;rw [e];rfl,by show (bif _ then _ else _)=_;rw [e];rfl⟩
theorem uo{P:Ks→Prop}(t:Int)(h0:∀ks,¬(gT ks=true∧jd ks≤t)→P ks)(h1:∀ks,gT ks=true∧jd ks≤t→P (jt ks)→P ks)(ks:Ks):P ks:=by
 obtain ⟨m,hm⟩:∃m,gf ks=m:=⟨_,rfl⟩
 induction m generalizing ks with
 |zero=>exact h0 ks fun h=>by have:=fstB_pos.1 h.1;omega
 |succ m ih=>
  by_cases h:gT ks=true∧jd ks≤t
  ·exact h1 ks h (ih _ (by have:=(nz (fstB_pos.1 h.1)).2;omega))
  ·exact h0 ks h
theorem zl(ks:Ks)(t:Int):(fT ks t).length+gf (uV ks t)=gf ks:=by
 refine uo (P:=fun ks=>(fT ks t).length+gf (uV ks t)=gf ks) t (fun ks h=>?_) (fun ks h ih=>?_) ks
 ·rw [(og h).1,(og h).2];simp
 ·rw [(nA h).1,(nA h).2,List.length_cons]
  have:=(nz (fstB_pos.1 h.1)).2;omega
def B8(ks:Ks)(x:Int):Bool:=mJ ks x==0
end Go.Proofs.YtanfdikglplkaaaGreatDoor.Sp
namespace Go.Proofs.YtanfdikglplkaaaGreatDoor.Sp
open Go
def ES.setSt(s:ES)(r:Nat)(v:Int):ES:=s.setRq r {s.rq.getD r Rq.z with st:=v}
def ES.lfu(s:ES)(t:Nat)(f:Lf→Lf):ES:=s.setLf t (f (s.lf.getD t Lf.z))
def ES.rt(s:ES)(r:Nat):Nat:=(s.rq.getD r Rq.z).root.toNat
def ES.stt(s:ES)(t:Nat):Int:=(s.lf.getD t Lf.z).st
def ES.addLg(s:ES)(v:Ev):ES:={s with lg:=s.lg++[v]}
theorem BE{l:List Rq}{i:Nat}{y:Rq}(h:i<l.length)(j:Nat):(l.set i y).getD j Rq.z=if j=i then y else l.getD j Rq.z:=by
 by_cases e:j=i
 ·subst e;rw [if_pos rfl];simp [List.getD,h]
 ·rw [if_neg e];simp only [List.getD];rw [List.getElem?_set_ne (fun h=>e h.symm)]
theorem kR(s:ES)(r:Nat)(v:Int)(j:Nat):(s.setSt r v).rq.getD j Rq.z=if j=r∧r<s.rq.length then {s.rq.getD j Rq.z with st:=v} else s.rq.getD j Rq.z:=by
 show (s.rq.set r {s.rq.getD r Rq.z with st:=v}).getD j Rq.z=_
 by_cases h:r<s.rq.length
 ·rw [BE h]
  by_cases e:j=r
  ·subst e;rw [if_pos rfl,if_pos ⟨rfl,h⟩]
  ·rw [if_neg e,if_neg (fun hh=>e hh.1)]
 ·rw [if_neg (fun hh=>h hh.2),List.set_eq_of_length_le (by omega)]
theorem oT(s:ES)(r:Nat)(v:Int)(j:Nat):((s.setSt r v).rq.getD j Rq.z).root=(s.rq.getD j Rq.z).root:=by rw [kR];split <;>rfl
theorem sq(s:ES)(r:Nat)(v:Int)(j:Nat):((s.setSt r v).rq.getD j Rq.z).wt=(s.rq.getD j Rq.z).wt:=by rw [kR];split <;>rfl
theorem yN(s:ES)(r:Nat)(v:Int)(j:Nat):((s.setSt r v).rq.getD j Rq.z).pr=(s.rq.getD j Rq.z).pr:=by rw [kR];split <;>rfl
def g7(s:ES)(ld:Led)(kind t:Int):Ev:=⟨kind,t,max (ld.slot t) 0,(s.lf.getD t.toNat Lf.z).ep,s.now⟩
def oA(s:ES)(r:Nat):ES:=if (s.setSt r 1).stt ((s.setSt r 1).rt r)=0 then (s.setSt r 1).lfu ((s.setSt r 1).rt r) mj else s.setSt r 1
def vW(s:ES)(ms:List M3)(r:Nat):List M3:=ir ms r ((s.setSt r 1).rq.getD r Rq.z).wt
theorem na{l:List Lf}{k:Nat}(h:k<l.length):(l.map (·.st)).take k++[(l.getD k Lf.z).st]=(l.map (·.st)).take (k+1):=by
 rw [List.take_add_one,List.getElem?_map];simp [List.getD,h]
theorem Bh{x:EP}{s:ES}(h:EF x s){i:Nat}(hi:i<x.n):(bJ dJ (x.ks.map Prod.fst))[i]?=some (.pointer (some ⟨(x.ks.getD i (0,0)).1,0,none⟩)):=by
 have h3:i<x.ks.length:=by rw [h.kn];exact hi
 have h2:(x.ks.map Prod.fst).getD i 0=(x.ks.getD i (0,0)).1:=by simp [List.getD,h3]
 rw [←h2];exact eV (by rw [List.length_map];exact h3)
theorem A4{P:Program}{L:List HP}{ks:List (Nat×Nat)}{lf:List Lf}{f:FuncId}{args:List Value}{i:Nat}{v:Value}(hk:ks.length=lf.length)(hi:i<lf.length)
 (h:∀R:List HP,Ok P f (.pointer (some ⟨(ks.getD i (0,0)).2,0,none⟩)::args) (bI (ks.getD i (0,0)).2 (fD (lf.getD i Lf.z)) py::R) (fun u M=>u=v∧M=bI (ks.getD i (0,0)).2 (fD (lf.getD i Lf.z)) py::R)):
 Ok P f (.pointer (some ⟨(ks.getD i (0,0)).2,0,none⟩)::args) (cI (e9 py Prod.snd (fun _=>fD) ks lf)::L) (fun u M=>u=v∧M=cI (e9 py Prod.snd (fun _=>fD) ks lf)::L):=fun w hs=>by
 refine (h _ w (jA (pk:=Prod.snd) (F:=fun _=>fD) (0,0) Lf.z hk hi hs)).mono ?_
 rintro en w' ⟨u,M,⟨rfl,rfl⟩,h1,h2,h3⟩
 have h4:=lT (pk:=Prod.snd) (F:=fun _=>fD) (0,0) hk hi h2
 rw [m9 Lf.z hi] at h4
 exact ⟨_,_,⟨rfl,rfl⟩,h1,h4,h3⟩
theorem EF.addLg{x:EP}{s:ES}(h:EF x s)(v:Ev):EF x (s.addLg v):=⟨h.tn,h.ln,h.kn,h.an,h.mn,h.rn,h.oka,h.okt,h.okr,h.nb,h.mb,h.ca,h.ct,h.cr,h.lo,h.n0⟩
theorem zw{K:Act→World→Prop}{W:World}{N':Nat}{E:List (Nat×Value)}{L:List HP}{e:Nat}{x:EP}{s:ES}{v:Ev}{b:Option Addr}{c k:Nat}(hk:s.lg.length=k)(hE:EF x s)(ho:bB b (k+1))(hc:k+1≤c)
 (kk:cd K W N' E (bQ e x (s.addLg v)::L)):
 cd K W N' E (bI e [.int .i64 s.c.bud,.int .i64 s.c.slots,.int .i64 s.c.act,.int .i64 s.c.que,.int .i64 s.c.tries,.int .i64 s.c.pre,.int .i64 s.c.tmo,.int .i64 s.c.bak,.int .i64 s.c.most,.int .i64 s.c.qu,
 .slice x.ba x.n x.ca,.slice x.bt x.n x.ct,.slice x.br x.m x.cr,.pointer (some ⟨x.g,0,none⟩),.pointer (some ⟨x.tp,0,none⟩),.pointer (some ⟨x.ld,0,none⟩),.pointer (some ⟨x.ad,0,none⟩),.pointer (some ⟨x.tn,0,none⟩),
 .int .i64 s.now,.int .i64 s.bg,.slice b (k+1) c] 73::SlV 57 2 (.slice x.ba x.n x.ca) x.n (df s.al)::SlV 64 1 (.slice x.bt x.n x.ct) x.n (bJ dJ (x.ks.map Prod.fst))::
 SlV 79 1 (.slice x.br x.m x.cr) x.m (bJ dJ x.rs)::SlV 45 5 (.slice b (k+1) c) (k+1) (bJ gH (s.lg++[v]))::
 cI (e9 tf Prod.fst pd x.ks s.tk)::cI (e9 py Prod.snd (fun _=>fD) x.ks s.lf)::cI (e9 w5 id (fun _=>rv) x.rs s.rq)::L):=by
 have h1:(s.addLg v).lg.length=k+1:=by show (s.lg++[v]).length=k+1;rw [List.length_append,hk];rfl
 have h2:=qj (e:=e) (L:=L) (b:=b) (c:=c) (hE.addLg v) ⟨by rw [h1];exact ho,by rw [h1];exact hc⟩ kk
 unfold jX sI at h2
 rw [h1] at h2
 exact h2
def RqOk(n:Nat)(s:ES):Prop:=∀r,r<s.rq.length→0≤(s.rq.getD r Rq.z).root∧(s.rq.getD r Rq.z).root<n∧1≤(s.rq.getD r Rq.z).wt∧(s.rq.getD r Rq.z).wt≤100∧0≤(s.rq.getD r Rq.z).pr∧(s.rq.getD r Rq.z).pr≤7
end Go.Proofs.YtanfdikglplkaaaGreatDoor.Sp
namespace Go.Proofs.YtanfdikglplkaaaGreatDoor.Sp
open Go
section
variable{P:Program}{W:World}{N:Nat}{E:List (Nat×Value)}{L M:List HP}
theorem dD{fn:Func}{t T b u:Nat}{x:Value}{cs:List Value}{Post:Value→List HP→Prop}(hr:fn.results=#[.cell t T,.tmp u])(hv:dI t E=some (.pointer (some ⟨b,0,none⟩)))(hx:dI u E=some x)
 (hag:∀w,(isAgg T).run P w=.ok true w) (hsz:∀w,(sizeOf T).run P w=.ok cs.length w) (hg:∀j v,cs[j]?=some v→Gives L ⟨b,0+j,none⟩ v) (hs:∀w,Sat L w→Sat M w) (hp:Post (.tuple #[.agg cs.toArray,x]) M):
 cd (bodyPost P fn (qI W Post) .ret) W N E L:=fun a w s=>by
 have hp':a.tmps[t]?.getD undef=.pointer (some ⟨b,0,none⟩):=by simp [s.env t _ hv]
 have hx':a.tmps[u]?.getD undef=x:=by simp [s.env u _ hx]
 have hl:=run_loadCells_list (P:=P) w ⟨b,0,none⟩ cs (fun j v hv=>by rw [du];exact hg j v hv w s.sat)
 refine bodyPost_ret (v:=.tuple #[.agg cs.toArray,x]) ?_ s.defers ⟨_,_,hp,rfl,hs w s.sat,s.ext⟩
 rw [results_cell_tmp hr]
 simp [hp',hx',asAddr,loadVar,hag,hsz,hl,Result.andThen]
end
end Go.Proofs.YtanfdikglplkaaaGreatDoor.Sp
namespace Go.Proofs.YtanfdikglplkaaaGreatDoor.Sp
open Go
section
variable{P:Program}{W:World}{N:Nat}{E:List (Nat×Value)}{L M:List HP}
theorem AE{fn:Func}{t T b u q:Nat}{x y:Value}{cs:List Value}{Post:Value→List HP→Prop}(hr:fn.results=#[.cell t T,.tmp u,.tmp q])(hv:dI t E=some (.pointer (some ⟨b,0,none⟩)))(hx:dI u E=some x)(hy:dI q E=some y)
 (hag:∀w,(isAgg T).run P w=.ok true w) (hsz:∀w,(sizeOf T).run P w=.ok cs.length w) (hg:∀j v,cs[j]?=some v→Gives L ⟨b,0+j,none⟩ v) (hs:∀w,Sat L w→Sat M w) (hp:Post (.tuple #[.agg cs.toArray,x,y]) M):
 cd (bodyPost P fn (qI W Post) .ret) W N E L:=fun a w s=>by
 have hp':a.tmps[t]?.getD undef=.pointer (some ⟨b,0,none⟩):=by simp [s.env t _ hv]
 have hx':a.tmps[u]?.getD undef=x:=by simp [s.env u _ hx]
 have hy':a.tmps[q]?.getD undef=y:=by simp [s.env q _ hy]
 have hl:=run_loadCells_list (P:=P) w ⟨b,0,none⟩ cs (fun j v hv=>by rw [du];exact hg j v hv w s.sat)
 refine bodyPost_ret (v:=.tuple #[.agg cs.toArray,x,y]) ?_ s.defers ⟨_,_,hp,rfl,hs w s.sat,s.ext⟩
 simp [results,hr,hp',hx',hy',asAddr,loadVar,hag,hsz,hl,Result.andThen]
theorem fF{L:List HP}{F:Nat→Addr}{v0 v1 v2 v3 v4 v5 v6 v7 v8 v9:Value}(h0:Gives L (F 0) v0)(h1:Gives L (F 1) v1)(h2:Gives L (F 2) v2)(h3:Gives L (F 3) v3)(h4:Gives L (F 4) v4)(h5:Gives L (F 5) v5)(h6:Gives L (F 6) v6)(h7:Gives L (F 7) v7)(h8:Gives L (F 8) v8)(h9:Gives L (F 9) v9):
 ∀j u,[v0,v1,v2,v3,v4,v5,v6,v7,v8,v9][j]?=some u→Gives L (F j) u:=by
 intro j u hu
 match j with
 |0=>cases hu;exact h0
 |1=>cases hu;exact h1
 |2=>cases hu;exact h2
 |3=>cases hu;exact h3
 |4=>cases hu;exact h4
 |5=>cases hu;exact h5
 |6=>cases hu;exact h6
 |7=>cases hu;exact h7
 |8=>cases hu;exact h8
 |9=>cases hu;exact h9
 |j+10=>simp at hu
end
end Go.Proofs.YtanfdikglplkaaaGreatDoor.Sp
namespace Go.Proofs.YtanfdikglplkaaaGreatDoor.Sp
open Go
def Tab(L:List HP):Prop:=∀j,j<64→Gives L ⟨1,j,none⟩ (.int .u8 ((Lib.deBruijn64tab.getD j 0:Nat):Int))
theorem Tab.cons{A:HP}{L:List HP}(h:Tab L):Tab (A::L):=fun j hj=>(h j hj).cons
theorem oB(x:Int):IntKind.u64.wrap x=x%18446744073709551616:=by simp [IntKind.wrap,IntKind.bits,IntKind.signed]
theorem Ay{m:Nat}(h0:m≠0)(hm:m<2^64):IntKind.u64.wrap (0- (m:Int))=((2^64-m:Nat):Int):=by
 rw [oB];omega
theorem zz{m:Nat}(h0:m≠0)(hm:m<2^64):j2 .u64 (m:Int) ((2^64-m:Nat):Int)=((2^Lib.ctz 64 m:Nat):Int):=by
 rw [n9 m _ hm (by omega),(Lib.lowest_bit 64 m h0 hm).1]
theorem Ax(k:Nat):IntKind.u64.wrap (((2^k:Nat):Int)*285870213051353865)=((2^k*285870213051353865%18446744073709551616:Nat):Int):=by
 rw [oB];generalize 2^k=t;omega
theorem A5(m:Nat):mY .u64 (m:Int) 58=((m/288230376151711744:Nat):Int):=by
 have:=sd m 58 (by omega)
 exact this
theorem qy{m:Nat}(h0:m≠0)(hm:m<2^64):Lib.ctz 64 m<64:=(Lib.lowest_bit 64 m h0 hm).2
theorem qG{m:Nat}(h0:m≠0)(hm:m<2^64):m.testBit (Lib.ctz 64 m)=true:=by
 have h:=(Lib.lowest_bit 64 m h0 hm).1
 have h1:(m &&& (2^64-m)).testBit (Lib.ctz 64 m)=true:=by rw [h];simp
 rw [Nat.testBit_and] at h1
 simp only [Bool.and_eq_true] at h1
 exact h1.1
theorem u7{m:Nat}(h0:m≠0)(hm:m<2^64){i:Nat}(hi:m.testBit i=true):Lib.ctz 64 m≤i:=by
 obtain ⟨q,hq,_⟩:=Lib.ctzFrom_spec 64 m (by omega) hm
 have e:Lib.ctz 64 m=Lib.ctzFrom 64 m:=by simp [Lib.ctz,h0]
 rw [e]
 apply Nat.le_of_not_lt
 intro hlt
 rw [hq,Nat.mul_comm,Nat.testBit_mul_two_pow] at hi
 simp only [Bool.and_eq_true,decide_eq_true_eq] at hi
 omega
theorem zv{m:Nat}(h0:m≠0)(hm:m<2^64):∃r:Nat,j2 .u64 (m:Int) (IntKind.u64.wrap ((m:Int)-1))=(r:Int)∧r<m∧∀i,r.testBit i=(m.testBit i && decide (i≠Lib.ctz 64 m)):=by
 have e1:IntKind.u64.wrap ((m:Int)-1)=((m-1:Nat):Int):=by rw [oB];omega
 rw [e1]
 refine ⟨m &&& (m-1),n9 m (m-1) hm (by omega),?_,fun i=>?_⟩
 ·have:=Nat.and_le_right (n:=m) (m:=m-1);omega
 ·obtain ⟨q,hq,hk⟩:=Lib.ctzFrom_spec 64 m (by omega) hm
  have e:Lib.ctz 64 m=Lib.ctzFrom 64 m:=by simp [Lib.ctz,h0]
  rw [←e] at hq hk
  generalize Lib.ctz 64 m=k at*
  have hm1:m-1=2^k*(2*q)+(2^k-1):=by
   have:0<2^k:=Nat.two_pow_pos k
   rw [hq,Nat.mul_add,Nat.mul_one];omega
  rw [Nat.testBit_and,hm1,Nat.testBit_two_pow_mul_add _ (by have:0<2^k:=Nat.two_pow_pos k;omega),hq]
  rw [Nat.mul_comm (2^k),Nat.testBit_mul_two_pow]
  by_cases hik:i<k
  ·have h1:¬k≤i:=by omega
   simp [h1]
  ·have h1:k≤i:=by omega
   simp only [hik,if_false,h1,decide_true,Bool.true_and]
   by_cases he:i=k
   ·subst he;simp
   ·obtain ⟨j,rfl⟩:∃j,i=k+(j+1):=⟨i-k-1,by omega⟩
    have e3:k+(j+1)-k=j+1:=by omega
    rw [e3,Nat.testBit_succ,Nat.testBit_succ]
    have d1:(2*q+1)/2=q:=by omega
    have d2:2*q/2=q:=by omega
    rw [d1,d2];simp
def ja(m:Nat):List Int:=((List.range 64).filter fun i=>m.testBit i).map fun i:Nat=>(i:Int)
theorem zH{m:Nat}(h:∀i,m.testBit i=true→i<64):m<2^64:=by
 refine Nat.lt_pow_two_of_testBit m fun i hi=>?_
 cases hb:m.testBit i with
 |false=>rfl
 |true=>have:=h i hb;omega
theorem qW{p:Nat→Bool}{n k:Nat}(hk:k<n)(hp:p k=true)(hl:∀i,p i=true→k≤i):(List.range n).filter p=k::(List.range n).filter fun i=>p i && decide (i≠k):=by
 have h1:List.range n=List.range' 0 k++k::List.range' (k+1) (n-k-1):=by
  rw [List.range_eq_range']
  have:List.range' 0 n=List.range' 0 k++List.range' k (n-k):=by
   have:=List.range'_append_1 (s:=0) (m:=k) (n:=n-k)
   rw [Nat.zero_add] at this
   rw [this];congr 1;omega
  rw [this]
  congr 1
  obtain ⟨d,hd⟩:∃d,n-k=d+1:=⟨n-k-1,by omega⟩
  rw [hd,List.range'_succ];congr 1
 rw [h1,List.filter_append,List.filter_append,List.filter_cons,List.filter_cons]
 have e1:(List.range' 0 k).filter p=[]:=by
  rw [List.filter_eq_nil_iff]
  intro i hi h
  have:=hl i h
  have:=(List.mem_range'_1.1 hi)
  omega
 have e2:(List.range' 0 k).filter (fun i=>p i && decide (i≠k))=[]:=by
  rw [List.filter_eq_nil_iff]
  intro i hi h
  simp only [Bool.and_eq_true] at h
  have:=hl i h.1
  have:=(List.mem_range'_1.1 hi)
  omega
 rw [e1,e2,hp]
 simp only [if_true,List.nil_append,ne_eq,not_true_eq_false,decide_false,Bool.and_false,Bool.false_eq_true,if_false]
 congr 1
 apply List.filter_congr
 intro i hi
 have:=(List.mem_range'_1.1 hi)
 have:i≠k:=by omega
 simp [this]
theorem rQ{m r:Nat}(h0:m≠0)(hm:m<2^64)(hr:∀i,r.testBit i=(m.testBit i && decide (i≠Lib.ctz 64 m))):ja m=((Lib.ctz 64 m:Nat):Int)::ja r:=by
 unfold ja
 rw [qW (p:=fun i=>m.testBit i) (qy h0 hm) (qG h0 hm) (fun i hi=>u7 h0 hm hi),List.map_cons]
 congr 2
 apply List.filter_congr
 intro i _
 rw [hr]
theorem sB:ja 0=[]:=by simp [ja]
theorem sP(m:Nat):(ja m).length≤64:=by
 unfold ja
 rw [List.length_map]
 exact Nat.le_trans (List.length_filter_le _ _) (by simp)
theorem lN(p:Nat→Bool)(n N:Nat)(h:N≤n)(hp:∀i,p i=true→i<N):(List.range n).filter p=(List.range N).filter p:=by
 induction n with
 |zero=>have:N=0:=by omega
        subst this;rfl
 |succ n ih=>
  by_cases e:N=n+1
  ·subst e;rfl
  ·have hn:p n=false:=by cases hb:p n with|false=>rfl|true=>have:=hp n hb;omega
   rw [List.range_succ,List.filter_append,ih (by omega)]
   simp [hn]
theorem qK{N:Nat}{es:Es}{m a:Nat}(hg:GOk N es)(ha:a<N)(h:∀i:Nat,m.testBit i=true↔Rch es (a:Int) (i:Int)):ja m=cw N es (a:Int):=by
 have hin:∀i:Nat,Rch es (a:Int) (i:Int)→i<N:=fun i hi=>by have:=hi.inn hg ⟨by omega,by omega⟩;omega
 unfold ja cw
 rw [ek ha,cond_true]
 congr 1
 have e:∀i:Nat,m.testBit i=rch es (a:Int) (i:Int):=fun i=>by
  rw [Bool.eq_iff_iff,h,rch_iff]
 rw [lN (fun i=>m.testBit i) 64 N hg.small (fun i hi=>hin i ((h i).1 hi))]
 exact List.filter_congr fun i _=>e i
structure RInv(N:Nat)(es:Es)(a:Nat)(seen opn:Nat):Prop where
 sl:seen<2^64
 ol:opn<2^64
 reach:∀i:Nat,(seen.testBit i=true∨opn.testBit i=true)→Rch es (a:Int) (i:Int)
 start:seen.testBit a=true∨opn.testBit a=true
 apart:∀i:Nat,opn.testBit i=true→seen.testBit i=false
 closed:∀i j:Nat,seen.testBit i=true→((i:Int),(j:Int))∈es→seen.testBit j=true∨opn.testBit j=true
def qE(seen:Nat):Nat:=((List.range 64).filter fun i=> !seen.testBit i).length
theorem RInv.init{N:Nat}{es:Es}(a:Nat)(ha:a<64):RInv N es a 0 (2^a):=by
 refine ⟨by omega,Nat.pow_lt_pow_right (by omega) ha,fun i hi=>?_,.inr (by simp),fun i _=>by simp,fun i j hi=>by simp at hi⟩
 rcases hi with h|h
 ·simp at h
 ·simp [Nat.testBit_two_pow] at h;subst h;exact .refl
theorem RInv.step{N:Nat}{es:Es}{a seen opn:Nat}(hg:GOk N es)(h:RInv N es a seen opn)(h0:opn≠0){o2:Nat}
 (ho2:∀i,o2.testBit i=((opn |||fL (cP es ((Lib.ctz 64 opn:Nat):Int))).testBit i && !(seen |||2^Lib.ctz 64 opn).testBit i)):
 RInv N es a (seen |||2^Lib.ctz 64 opn) o2∧qE (seen |||2^Lib.ctz 64 opn)<qE seen:=by
 have hx:=qG h0 h.ol
 have hxl:=qy h0 h.ol
 generalize Lib.ctz 64 opn=x at*
 have hxs:=h.apart x hx
 have hxr:=h.reach x (.inr hx)
 have hs2:=fun i=>vB seen x i
 have hsl2:=uj seen x hxl h.sl
 refine ⟨⟨hsl2,?_,fun i hi=>?_,?_,fun i hi=>?_,fun i j hi hij=>?_⟩,?_⟩
 ·apply zH
  intro i hi
  rw [ho2,Nat.testBit_or] at hi
  simp only [Bool.and_eq_true,Bool.or_eq_true] at hi
  rcases hi.1 with h1|h1
  ·apply Nat.lt_of_not_le;intro hle
   rw [Nat.testBit_lt_two_pow (Nat.lt_of_lt_of_le h.ol (Nat.pow_le_pow_right (by omega) hle))] at h1;cases h1
  ·apply Nat.lt_of_not_le;intro hle
   rw [Nat.testBit_lt_two_pow (Nat.lt_of_lt_of_le (hg.mask_lt _) (Nat.pow_le_pow_right (by omega) hle))] at h1;cases h1
 ·rw [hs2,ho2,Nat.testBit_or] at hi
  simp only [Bool.or_eq_true,Bool.and_eq_true,decide_eq_true_eq] at hi
  rcases hi with (h1|h1)| ⟨h1|h1,_⟩
  ·exact h.reach i (.inl h1)
  ·subst h1;exact hxr
  ·exact h.reach i (.inr h1)
  ·exact hxr.step ((hg.mask_bit _ _).1 h1)
 ·rw [hs2,ho2,Nat.testBit_or,hs2]
  rcases h.start with h1|h1
  ·exact .inl (by simp [h1])
  ·by_cases e:a=x
   ·exact .inl (by simp [e])
   ·by_cases hs:seen.testBit a=true
    ·exact .inl (by simp [hs])
    ·exact .inr (by simp [h1,hs,e])
 ·rw [ho2] at hi
  simp only [Bool.and_eq_true,Bool.not_eq_true'] at hi
  exact hi.2
 ·rw [hs2] at hi
  simp only [Bool.or_eq_true,decide_eq_true_eq] at hi
  rw [hs2,ho2,Nat.testBit_or,hs2]
  by_cases hj:(seen.testBit j ||decide (j=x))=true
  ·exact .inl hj
  ·refine .inr ?_
   simp only [Bool.not_eq_true] at hj
   rw [hj]
   simp only [Bool.not_false,Bool.and_true,Bool.or_eq_true]
   rcases hi with h1|h1
   ·rcases h.closed i j h1 hij with h2|h2
    ·rw [h2] at hj;cases hj
    ·exact .inl h2
   ·subst h1;exact .inr ((hg.mask_bit _ _).2 hij)
 ·unfold qE
  have hsub:((List.range 64).filter fun i=> !(seen |||2^x).testBit i)=((List.range 64).filter fun i=> !seen.testBit i).filter fun i=>decide (i≠x):=by
   rw [List.filter_filter]
   apply List.filter_congr
   intro i _
   rw [hs2];cases seen.testBit i <;>simp
  rw [hsub]
  have hmem:x∈(List.range 64).filter fun i=> !seen.testBit i:=List.mem_filter.2 ⟨List.mem_range.2 hxl,by simp [hxs]⟩
  exact List.length_filter_lt_length_iff_exists.2 ⟨x,hmem,by simp⟩
theorem RInv.done{N:Nat}{es:Es}{a seen:Nat}(hg:GOk N es)(h:RInv N es a seen 0):∀i:Nat,seen.testBit i=true↔Rch es (a:Int) (i:Int):=by
 intro i
 refine ⟨fun hi=>h.reach i (.inl hi),fun hr=>?_⟩
 have key:∀j:Int,Rch es (a:Int) j→∃k:Nat,j=(k:Int)∧seen.testBit k=true:=by
  intro j hj
  induction hj with
  |refl=>rcases h.start with h1|h1
         ·exact ⟨a,rfl,h1⟩
         ·simp at h1
  |step _ he ih=>
   obtain ⟨k,rfl,hk⟩:=ih
   have hin:=hg.inn _ he
   simp only at hin
   rename_i c _
   obtain ⟨c,rfl⟩:=Int.eq_ofNat_of_zero_le hin.2.2.1
   rcases h.closed k c hk he with h1|h1
   ·exact ⟨c,rfl,h1⟩
   ·simp at h1
 obtain ⟨k,hk,hb⟩:=key _ hr
 have:i=k:=by omega
 rw [this];exact hb
theorem oh(n:Nat){L:List HP}{w:World}(h:Sat L w):Sat (cI (fV (List.replicate n (.slice none 0 0)) (dX n fun _=>[]))::L) w:=by
 refine Sat.join.2 ?_
 have e:dX n (fun _=>[])=List.replicate n []:=by
  apply List.ext_getElem
  ·simp [dX]
  ·intro i h1 h2;simp [dX]
 rw [e]
 unfold fV
 rw [List.zipWith_replicate,Nat.min_self]
 induction n with
 |zero=>exact h
 |succ n ih=>rw [List.replicate_succ,List.cons_append];exact Sat.shutI cn (Nat.le_refl _) (cz 3 1 (ih (by
  apply List.ext_getElem
  ·simp [dX]
  ·intro i h1 h2;simp [dX])))
theorem sJ(n:Nat):eY n ([]:Es)=List.replicate n 0:=by
 apply List.ext_getElem
 ·simp [eY]
 ·intro i h1 h2;simp [eY,cP,fL]
theorem xf{b n:Nat}{bo bi bt:Option Addr}{co ci ct:Nat}{L:List HP}{w:World}(hn:n≤64)(ho:bB bo n)(hi:bB bi n)(ht:bB bt n)
 (h:Sat (bI b [.slice bo n co,.slice bi n ci,.slice bt n ct,.int .i64 0] 126::SlV 34 1 (.slice bo n co) n (List.replicate n (.slice none 0 0))::SlV 34 1 (.slice bi n ci) n (List.replicate n (.slice none 0 0))::SlV 166 1 (.slice bt n ct) n (aF .u64 (List.replicate n 0))::L) w):
 Sat (aT b n ([]:Es)::L) w:=by
 refine Sat.shutG (bo:=bo) (co:=co) (bi:=bi) (ci:=ci) (bt:=bt) (ct:=ct) (vo:=List.replicate n (.slice none 0 0)) (vi:=List.replicate n (.slice none 0 0)) ⟨⟨hn,List.nodup_nil,fun e he=>by cases he⟩,ho,hi,ht,by simp,by simp⟩ ?_
 have h1:=oh n (oh n h)
 have e1:dX n (cP [])=dX n fun _=>[]:=rfl
 have e2:dX n (cg [])=dX n fun _=>[]:=rfl
 unfold ri
 rw [e1,e2,sJ]
 exact h1.perm (List.perm_append_comm (l₁:=[_,_]) (l₂:=[_,_,_,_]) |>.append_right L)
end Go.Proofs.YtanfdikglplkaaaGreatDoor.Sp
