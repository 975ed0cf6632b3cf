/- Parts Opl, Val: own lemmas and contracts of the code that the claim reaches. -/
import Derived.Test.YtanfdikglplkaaaGreatDoorM01
namespace Go.Proofs.YtanfdikglplkaaaGreatDoor.Sp
open Go
section
variable{P:Program}{E:List (Nat×Value)}{L:List HP}{ty:TypeId}
theorem eX{x:Operand}{v:Value}(hx:ev E x=some v):LV P E L (.move x) ty v:=by
 intro ρ h w _ d pos af g;simp [execOp,h x v hx]
theorem pE{x:Operand}{v:Value}(hx:ev E x=some v):LV P E L (.assign x) ty v:=by
 intro ρ h w _ d pos af g;simp [execOp,h x v hx]
theorem aL{c x y:Operand}{v:Value}(hc:ev E c=some (.bool true))(hx:ev E x=some v):LV P E L (.pick c x y) ty v:=by
 intro ρ h w _ d pos af g;simp [execOp,h c _ hc,h x v hx,asBool]
theorem aC{c x y:Operand}{v:Value}(hc:ev E c=some (.bool false))(hx:ev E y=some v):LV P E L (.pick c x y) ty v:=by
 intro ρ h w _ d pos af g;simp [execOp,h c _ hc,h y v hx,asBool]
theorem aW{x:Operand}{i:Nat}{vs:Array Value}{v:Value}(hx:ev E x=some (.tuple vs))(hv:vs[i]?=some v):LV P E L (.extract x i) ty v:=by
 intro ρ h w _ d pos af g;simp [execOp,h x _ hx,Instr.extract,hv]
theorem dy{t:TypeId}{x:Operand}{b c:Bool}(hx:ev E x=some (.bool b))(hb:(!b)=c):LV P E L (.unOp .not t x) ty (.bool c):=by
 intro ρ h w _ d pos af g;subst hb;simp [execOp,h x _ hx,Op.unary]
theorem Bc{t:TypeId}{x:Operand}{k:IntKind}{a c:Int}(hx:ev E x=some (.int k a))(hb:k.wrap (0-a)=c):LV P E L (.unOp .neg t x) ty (.int k c):=by
 intro ρ h w _ d pos af g;subst hb;simp [execOp,h x _ hx,Op.unary,Op.intArith]
section bin
variable{t t':TypeId}{x y:Operand}{k k':IntKind}{a b c:Int}
theorem aX(hx:ev E x=some (.int k a))(hy:ev E y=some (.int k b))(hc:k.wrap (a+b)=c):LV P E L (.binOp .add t x y t') ty (.int k c):=by
 intro ρ h w _ d pos af g;subst hc;simp [execOp,h x _ hx,h y _ hy,eqGuard,binOp,Op.intArith]
theorem eR(hx:ev E x=some (.int k a))(hy:ev E y=some (.int k b))(hc:k.wrap (a-b)=c):LV P E L (.binOp .sub t x y t') ty (.int k c):=by
 intro ρ h w _ d pos af g;subst hc;simp [execOp,h x _ hx,h y _ hy,eqGuard,binOp,Op.intArith]
theorem jB(hx:ev E x=some (.int k a))(hy:ev E y=some (.int k b))(hc:k.wrap (a*b)=c):LV P E L (.binOp .mul t x y t') ty (.int k c):=by
 intro ρ h w _ d pos af g;subst hc;simp [execOp,h x _ hx,h y _ hy,eqGuard,binOp,Op.intArith]
theorem xG(hx:ev E x=some (.int k a))(hy:ev E y=some (.int k b))(h0:b≠0)(hc:k.wrap (a.tdiv b)=c):LV P E L (.binOp .quo t x y t') ty (.int k c):=by
 intro ρ h w _ d pos af g;subst hc;simp [execOp,h x _ hx,h y _ hy,eqGuard,binOp,Op.intDiv,h0]
theorem oz(hx:ev E x=some (.int k a))(hy:ev E y=some (.int k b))(h0:b≠0)(hc:a.tmod b=c):LV P E L (.binOp .rem t x y t') ty (.int k c):=by
 intro ρ h w _ d pos af g;subst hc;simp [execOp,h x _ hx,h y _ hy,eqGuard,binOp,Op.intDiv,h0]
def j2(k:IntKind)(a b:Int):Int:=k.wrap (BitVec.ofInt k.bits a &&& BitVec.ofInt k.bits b).toNat
def AO(k:IntKind)(a b:Int):Int:=k.wrap (BitVec.ofInt k.bits a |||BitVec.ofInt k.bits b).toNat
def nF(k:IntKind)(a b:Int):Int:=k.wrap (BitVec.ofInt k.bits a &&& ~~~(BitVec.ofInt k.bits b)).toNat
def pt(k:IntKind)(a b:Int):Int:=k.wrap (a*2^ (min b.toNat k.bits))
def mY(k:IntKind)(a b:Int):Int:=a.fdiv (2^ (min b.toNat k.bits))
theorem jM(hx:ev E x=some (.int k a))(hy:ev E y=some (.int k b))(hc:j2 k a b=c):LV P E L (.binOp .and t x y t') ty (.int k c):=by
 intro ρ h w _ d pos af g;subst hc;simp [execOp,h x _ hx,h y _ hy,eqGuard,binOp,Op.intBits,j2]
theorem yd(hx:ev E x=some (.int k a))(hy:ev E y=some (.int k b))(hc:AO k a b=c):LV P E L (.binOp .or t x y t') ty (.int k c):=by
 intro ρ h w _ d pos af g;subst hc;simp [execOp,h x _ hx,h y _ hy,eqGuard,binOp,Op.intBits,AO]
theorem wM(hx:ev E x=some (.int k a))(hy:ev E y=some (.int k b))(hc:nF k a b=c):LV P E L (.binOp .andNot t x y t') ty (.int k c):=by
 intro ρ h w _ d pos af g;subst hc;simp [execOp,h x _ hx,h y _ hy,eqGuard,binOp,Op.intBits,nF]
theorem tj(hx:ev E x=some (.int k a))(hy:ev E y=some (.int k' b))(h0:0≤b)(hc:pt k a b=c):LV P E L (.binOp .shl t x y t') ty (.int k c):=by
 intro ρ h w _ d pos af g;subst hc
 have:¬b<0:=by omega
 simp [execOp,h x _ hx,h y _ hy,eqGuard,binOp,Op.shift,pt,this]
theorem j4(hx:ev E x=some (.int k a))(hy:ev E y=some (.int k' b))(h0:0≤b)(hc:mY k a b=c):LV P E L (.binOp .shr t x y t') ty (.int k c):=by
 intro ρ h w _ d pos af g;subst hc
 have:¬b<0:=by omega
 simp [execOp,h x _ hx,h y _ hy,eqGuard,binOp,Op.shift,mY,this]
variable{r:Bool}
theorem aV(hx:ev E x=some (.int k a))(hy:ev E y=some (.int k b))(hc:(a==b)=r):LV P E L (.binOp .eql t x y t') ty (.bool r):=by
 intro ρ h w _ d pos af g;subst hc;simp [execOp,h x _ hx,h y _ hy,eqGuard,binOp,Op.intCmp]
theorem cG(hx:ev E x=some (.int k a))(hy:ev E y=some (.int k b))(hc:(a !=b)=r):LV P E L (.binOp .neq t x y t') ty (.bool r):=by
 intro ρ h w _ d pos af g;subst hc;simp [execOp,h x _ hx,h y _ hy,eqGuard,binOp,Op.intCmp]
theorem aJ(hx:ev E x=some (.int k a))(hy:ev E y=some (.int k b))(hc:decide (a<b)=r):LV P E L (.binOp .lss t x y t') ty (.bool r):=by
 intro ρ h w _ d pos af g;subst hc;simp [execOp,h x _ hx,h y _ hy,eqGuard,binOp,Op.intCmp]
theorem rl(hx:ev E x=some (.int k a))(hy:ev E y=some (.int k b))(hc:decide (a≤b)=r):LV P E L (.binOp .leq t x y t') ty (.bool r):=by
 intro ρ h w _ d pos af g;subst hc;simp [execOp,h x _ hx,h y _ hy,eqGuard,binOp,Op.intCmp]
theorem cu(hx:ev E x=some (.int k a))(hy:ev E y=some (.int k b))(hc:decide (a>b)=r):LV P E L (.binOp .gtr t x y t') ty (.bool r):=by
 intro ρ h w _ d pos af g;subst hc;simp [execOp,h x _ hx,h y _ hy,eqGuard,binOp,Op.intCmp]
theorem cC(hx:ev E x=some (.int k a))(hy:ev E y=some (.int k b))(hc:decide (a≥b)=r):LV P E L (.binOp .geq t x y t') ty (.bool r):=by
 intro ρ h w _ d pos af g;subst hc;simp [execOp,h x _ hx,h y _ hy,eqGuard,binOp,Op.intCmp]
theorem ph{e:TypeId}{q:Addr}(hu:P.underlying t=some (.pointer e))(w:World):(Op.equal t (.pointer (some q)) (.pointer none)).run P w=.ok false w:=by
 show (Op.equalIn (9999+1) t _ _).run P w=_
 unfold Op.equalIn;simp [run_underlying hu]
theorem qi{e:TypeId}{bs:Option Addr}{n cp:Nat}(hu:P.underlying t=some (.slice e))(w:World):(Op.equal t (.slice bs n cp) (.slice none 0 0)).run P w=.ok bs.isNone w:=by
 show (Op.equalIn (9999+1) t _ _).run P w=_
 unfold Op.equalIn;cases bs <;>simp [run_underlying hu]
theorem j3{e:TypeId}{q:Addr}(hu:P.underlying t=some (.pointer e))(hx:ev E x=some (.pointer (some q)))(hy:ev E y=some (.pointer none)):LV P E L (.binOp .eql t x y t') ty (.bool false):=by
 intro ρ h w _ d pos af g;simp [execOp,h x _ hx,h y _ hy,eqGuard,binOp,ph hu]
theorem gC{e:TypeId}{bs:Option Addr}{n cp:Nat}(hu:P.underlying t=some (.slice e))(hx:ev E x=some (.slice bs n cp))(hy:ev E y=some (.slice none 0 0))(hc:bs.isNone=r):
 LV P E L (.binOp .eql t x y t') ty (.bool r):=by
 intro ρ h w _ d pos af g;subst hc
 simp [execOp,h x _ hx,h y _ hy,eqGuard,binOp,qi hu]
end bin
theorem nj{x:Operand}{q:Addr}(hx:ev E x=some (.pointer (some q))):LV P E L (.nilCheck x) ty (.pointer (some q)):=by
 intro ρ h w _ d pos af g;simp [execOp,h x _ hx]
theorem du(b o n:Nat):(⟨b,o,none⟩:Addr).add n=⟨b,o+n,none⟩:=by
 unfold Addr.add;split
 ·subst_vars;rfl
 ·rfl
theorem jQ{s:TypeId}{x:Operand}{f:Nat}{fs:Array Field}{fd:Field}{b o o' sz:Nat}(hu:P.underlying s=some (.struct fs))(hf:fs[f]?=some fd)
 (hsz:∀w,(sizeOf fd.type).run P w=.ok (sz+1) w) (hx:ev E x=some (.pointer (some ⟨b,o,none⟩))) (ho:o+fd.offset=o'):LV P E L (.fieldAddr s x f) ty (.pointer (some ⟨b,o',none⟩)):=by
 intro ρ h w _ d pos af g
 simp [execOp,h x _ hx,Instr.fieldAt,run_underlying hu,hf,Instr.sureAddr,fieldPlace,hsz,du,ho]
def ad(bs:Option Addr)(k:Nat):Addr:=⟨(bs.getD ⟨0,0,none⟩).block,(bs.getD ⟨0,0,none⟩).off+k,none⟩
def bB(bs:Option Addr)(n:Nat):Prop:=0<n→∃b o,bs=some ⟨b,o,none⟩
theorem kI(b o k:Nat):ad (some ⟨b,o,none⟩) k=⟨b,o+k,none⟩:=rfl
theorem ah{t e:TypeId}{x y:Operand}{bs:Option Addr}{n cp sz k':Nat}{k:IntKind}{j:Int}(hu:P.underlying t=some (.slice e))(hsz:∀w,(sizeOf e).run P w=.ok sz w)
 (hx:ev E x=some (.slice bs n cp)) (hy:ev E y=some (.int k j)) (hok:bB bs n) (h0:0≤j) (hlt:j<n) (hk:j.toNat*sz=k'):
 LV P E L (.indexAddr t x y) ty (.pointer (some (ad bs k'))):=by
 intro ρ h w _ d pos af g
 obtain ⟨b,o,rfl⟩:=hok (by omega)
 simp [execOp,h x _ hx,h y _ hy,Instr.indexAt,asIntOf,run_underlying hu,h0,hlt,hsz,du,hk,kI]
theorem bM{s:TypeId}{x:Operand}{f:Nat}{fs:Array Field}{fd:Field}{bs:Option Addr}{o o' sz:Nat}(hu:P.underlying s=some (.struct fs))(hf:fs[f]?=some fd)
 (hsz:∀w,(sizeOf fd.type).run P w=.ok (sz+1) w) (hx:ev E x=some (.pointer (some (ad bs o)))) (ho:o+fd.offset=o'):LV P E L (.fieldAddr s x f) ty (.pointer (some (ad bs o'))):=by
 intro ρ h w _ d pos af g
 simp only [ad] at hx⊢
 have:=jQ (L:=[]) (ty:=ty) (P:=P) hu hf hsz hx (o':=(bs.getD ⟨0,0,none⟩).off+o') (by omega) ρ h w ⟨[],rfl,by simp [Has]⟩ d pos af g
 exact this
theorem rF{t e:TypeId}{x y:Operand}{b n sz k':Nat}{k:IntKind}{j:Int}(hu:P.underlying t=some (.array n e))(hsz:∀w,(sizeOf e).run P w=.ok sz w)
 (hx:ev E x=some (.pointer (some ⟨b,0,none⟩))) (hy:ev E y=some (.int k j)) (h0:0≤j) (hlt:j<n) (hk:j.toNat*sz=k'):
 LV P E L (.indexAddr t x y) ty (.pointer (some ⟨b,k',none⟩)):=by
 intro ρ h w _ d pos af g
 simp [execOp,h x _ hx,h y _ hy,Instr.indexAt,asIntOf,run_underlying hu,Instr.sureAddr,h0,hlt,hsz,du,hk]
theorem bC{t e:TypeId}{ts:Array TypeId}{x:Operand}{bs:Option Addr}{n cp:Nat}(hu:P.underlying t=some (.slice e))(ht:ts[0]?=some t)(hx:ev E x=some (.slice bs n cp)):
 LV P E L (.call {callee:=.builtin .len,args:=#[x],argTypes:=ts}) ty (.int .i64 n):=by
 intro ρ h w _ d pos af g
 simp [execOp,resolve,h x _ hx,invoke,builtin,Builtin.len_,ht,run_underlying hu,goInt]
theorem fm{ts:Array TypeId}{x y:Operand}{k:IntKind}{a b c:Int}(hx:ev E x=some (.int k a))(hy:ev E y=some (.int k b))(hc:max a b=c):
 LV P E L (.call {callee:=.builtin .max,args:=#[x,y],argTypes:=ts}) ty (.int k c):=by
 intro ρ h w _ d pos af g;subst hc
 have:max a b=if b>a then b else a:=by omega
 simp [execOp,resolve,h x _ hx,h y _ hy,invoke,builtin,Builtin.max_,Builtin.max2,this]
theorem hO{ts:Array TypeId}{x y:Operand}{k:IntKind}{a b c:Int}(hx:ev E x=some (.int k a))(hy:ev E y=some (.int k b))(hc:min a b=c):
 LV P E L (.call {callee:=.builtin .min,args:=#[x,y],argTypes:=ts}) ty (.int k c):=by
 intro ρ h w _ d pos af g;subst hc
 have:min a b=if b<a then b else a:=by omega
 simp [execOp,resolve,h x _ hx,h y _ hy,invoke,builtin,Builtin.min_,Builtin.min2,this]
theorem gy{s t:TypeId}{x:Operand}{k k':IntKind}{a c:Int}(hs:P.underlying s=some (.int k))(ht:P.underlying t=some (.int k'))(hx:ev E x=some (.int k a))(hc:k'.wrap a=c):
 LV P E L (.convert s t x) ty (.int k' c):=by
 intro ρ h w _ d pos af g;subst hc
 simp [execOp,h x _ hx,convert,run_underlying hs,run_underlying ht,Conv.intToInt]
theorem fU{f:Fn}{xs:List Operand}{vs:List Value}(hx:evs E xs=some vs):LV P E L (.makeFunc f #[] xs.toArray) ty (.func f #[] vs.toArray):=by
 intro ρ h w _ d pos af g
 simp [execOp,Instr.makeFunc,h.evs hx]
def oP:List Value→Nat→List Value→List Value
 |cs,_,[]=>cs
 |cs,o,v::l=>oP (cs.set o v) (o+1) l
def pL(place:Nat→Option (Nat×Nat)):List Value→List (Nat×Value)→Option (List Value)
 |cs,[]=>some cs
 |cs,(i,v)::r=>match place i with
  |none=>none
  |some (o,size)=>bif Nat.beq v.cells.toList.length size && Nat.ble (o+v.cells.toList.length) cs.length then pL place (oP cs o v.cells.toList) r else none
theorem pZ:∀(l:List Value) (cs:Array Value) (o k:Nat),((l.zipIdx k).foldl (fun cs (x:Value×Nat)=>cs.setIfInBounds (o+x.2) x.1) cs).toList=oP cs.toList (o+k) l
 | [],cs,o,k=>rfl
 |v::l,cs,o,k=>by
  simp only [List.zipIdx_cons,List.foldl_cons,oP]
  rw [pZ l _ o (k+1),Array.toList_setIfInBounds]
  rfl
theorem rp(place:Nat→Option (Nat×Nat)):∀(ps:List (Nat×Value)) (cells:Array Value) (cs:List Value),pL place cells.toList ps=some cs→Instr.fill place cells ps=some cs.toArray
 | [],cells,cs,h=>by simp only [pL,Option.some.injEq] at h;subst h;simp [Instr.fill]
 | (i,v)::r,cells,cs,h=>by
  simp only [pL] at h
  simp only [Instr.fill]
  split at h
  ·cases h
  ·rename_i o size hp
   cases hb:(Nat.beq v.cells.toList.length size && Nat.ble (o+v.cells.toList.length) cells.toList.length) with
   |false=>rw [hb] at h;cases h
   |true=>
    rw [hb,cond_true] at h
    simp only [Bool.and_eq_true] at hb
    have h1:=Nat.eq_of_beq_eq_true hb.1
    have h2:=Nat.le_of_ble_eq_true hb.2
    simp only [Array.length_toList] at h1 h2
    have hn:¬(v.cells.size≠size∨o+v.cells.size>cells.size):=by omega
    have e:(v.cells.zipIdx.foldl (fun cs (x:Value×Nat)=>cs.setIfInBounds (o+x.2) x.1) cells).toList=oP cells.toList o v.cells.toList:=by
     rw [←Array.foldl_toList,Array.toList_zipIdx,pZ];rfl
    rw [←e] at h
    have ih:=rp place r _ cs h
    simp only [hp]
    split
    ·rename_i hc;exact absurd hc (by simp;omega)
    ·exact ih
theorem bG{t:TypeId}{fs:Array Field}{ps:List (Nat×Operand)}{vs:List Value}{z:Value}{cs:List Value}{pl:List (Nat×Nat)}(hu:P.underlying t=some (.struct fs))(hz:∀w,(zeroValue t).run P w=.ok z w)
 (hpl:∀w,(fs.mapM (m:=Sem) fun f=>do pure (f.offset,←sizeOf f.type)).run P w=.ok pl.toArray w)
 (hx:evs E (ps.map (·.2))=some vs) (hc:pL (pl.toArray[·]?) z.cells.toList ((ps.map (·.1)).zip vs)=some cs):LV P E L (.build t ps.toArray) ty (.agg cs.toArray):=by
 intro ρ h w _ d pos af g
 have hc':=rp _ _ _ _ hc
 have e:=h.evs hx
 have e2:(ps.map fun x=>(x.1,ρ x.2))=(ps.map (·.1)).zip vs:=by
  rw [←e,List.map_map]
  clear hx hc hc' e
  induction ps with
  |nil=>rfl
  |cons p ps ih=>simp [ih]
 simp only [execOp,Instr.build,Sem.run_bind,hz,Result.andThen_ok,run_underlying hu,hpl,List.map_toArray]
 simp only [e2,hc']
 rfl
def Gives(L:List HP)(a:Addr)(v:Value):Prop:=∀w,Sat L w→w.cell? a=some v
theorem aa{b o:Nat}{cs:List Value}{T:TypeId}{v:Value}(hm:bI b cs T∈L)(hv:cs[o]?=some v):Gives L ⟨b,o,none⟩ v:=by
 intro w hs
 obtain ⟨f,hf,hh⟩:=hs.mem hm
 subst hf
 have:=hh.2 _ (List.mem_singleton.2 rfl)
 rw [cell_of_row w b o _ _ _ this]
 simpa using hv
theorem SlV.row{T sz n:Nat}{cs:List Value}{bs:Option Addr}{cp:Nat}{w:World}(hm:SlV T sz (.slice bs n cp) n cs∈L)(hs:Sat L w)(hn:0<cs.length):
 ∃g cur,bs=some ⟨g,0,none⟩∧w.heap[g]?=some (.cells cur T (0,0))∧n≤cp∧cp≤maxLen∧cur.size=cp*sz∧cur.toList.take (n*sz)=cs:=by
 obtain ⟨f,⟨hl,hf⟩,hh⟩:=hs.mem hm
 rcases hf with ⟨_,h0,_⟩| ⟨g,cap,cur,hv,rfl,h1,h2,h3,h4⟩
 ·subst h0;rw [Nat.zero_mul] at hl;omega
 ·simp only [Value.slice.injEq,true_and] at hv
  obtain ⟨rfl,rfl⟩:=hv
  exact ⟨g,cur,rfl,hh.2 _ (List.mem_singleton.2 rfl),h1,h2,h3,h4⟩
theorem aw{T sz n k:Nat}{cs:List Value}{bs:Option Addr}{cp:Nat}{v:Value}(hm:SlV T sz (.slice bs n cp) n cs∈L)(hv:cs[k]?=some v):Gives L (ad bs k) v:=by
 intro w hs
 have hk:k<cs.length:=(List.getElem?_eq_some_iff.1 hv).1
 obtain ⟨g,cur,rfl,hg,_,_,_,h4⟩:=SlV.row hm hs (by omega)
 rw [kI,Nat.zero_add,cell_of_row w g k _ _ _ hg]
 rw [←h4,List.getElem?_take] at hv
 split at hv
 ·simpa using hv
 ·cases hv
theorem bP{t:TypeId}{x:Operand}{a:Addr}{v:Value}(hag:∀w,(isAgg t).run P w=.ok false w)(hx:ev E x=some (.pointer (some a)))(hg:Gives L a v):LV P E L (.load t x) ty v:=by
 intro ρ h w hs d pos af g
 simp [execOp,h x _ hx,Instr.loadAt,Instr.sureAddr,loadVar,hag,hg w hs]
theorem cB{t:TypeId}{x:Operand}{b o:Nat}{cs:List Value}(hag:∀w,(isAgg t).run P w=.ok true w)(hsz:∀w,(sizeOf t).run P w=.ok cs.length w)
 (hx:ev E x=some (.pointer (some ⟨b,o,none⟩))) (hg:∀j v,cs[j]?=some v→Gives L ⟨b,o+j,none⟩ v):LV P E L (.load t x) ty (.agg cs.toArray):=by
 intro ρ h w hs d pos af g
 have:=run_loadCells_list (P:=P) w ⟨b,o,none⟩ cs (fun j v hv=>by rw [du];exact hg j v hv w hs)
 simp [execOp,h x _ hx,Instr.loadAt,Instr.sureAddr,loadVar,hag,hsz,this]
theorem cU{t:TypeId}{x:Operand}{bs:Option Addr}{o:Nat}{cs:List Value}(hag:∀w,(isAgg t).run P w=.ok true w)(hsz:∀w,(sizeOf t).run P w=.ok cs.length w)
 (hx:ev E x=some (.pointer (some (ad bs o)))) (hg:∀j v,cs[j]?=some v→Gives L (ad bs (o+j)) v):LV P E L (.load t x) ty (.agg cs.toArray):=by
 refine cB (b:=(bs.getD ⟨0,0,none⟩).block) (o:=(bs.getD ⟨0,0,none⟩).off+o) hag hsz hx fun j v hv=>?_
 have:=hg j v hv
 simpa [ad,Nat.add_assoc] using this
theorem Gives.cons{A:HP}{a:Addr}{v:Value}(h:Gives L a v):Gives (A::L) a v:=fun w hs=>h w hs.drop
theorem dh{a:Addr}{u v:Value}(e:u=v)(h:Gives L a u):Gives L a v:=e▸h
theorem pB{v:Value}(h:v.oneCell'=true):v.cells=#[v]:=by cases v <;>first|rfl| (simp [Value.oneCell'] at h)
theorem lz{t:TypeId}{a:Addr}{v u:Value}{w:World}(hsz:∀w,(sizeOf t).run P w=.ok 1 w)(h1:v.oneCell'=true)(hc:w.cell? a=some u)(hf:w.frozen? a=false)(_:a.spot=none):
 (storeVar t a v).run P w=.ok () (w.setCell a v):=by
 have hs:=run_store P w (a.add 0) v .plain h1
 have ha0:a.add 0=a:=by simp [Addr.add]
 rw [ha0,hc] at hs
 simp only [hf,Bool.false_eq_true,if_false] at hs
 simp [storeVar,pB h1,hsz,storeCells,ha0,hs]
theorem cM{t:TypeId}{x y:Operand}{b o:Nat}{cs cs':List Value}{T:TypeId}{v:Value}(hsz:∀w,(sizeOf t).run P w=.ok 1 w)(hx:ev E x=some (.pointer (some ⟨b,o,none⟩)))(hy:ev E y=some v)
 (h1:v.oneCell'=true) (ho:o<cs.length) (hc:cs.set o v=cs'):SV P E (bI b cs T::L) (.store t x y) ty (bI b cs' T::L):=by
 intro ρ h w hs d pos af g
 subst hc
 obtain ⟨f,hf,hh⟩:=hs.mem (List.mem_cons_self ..)
 subst hf
 have hb:=hh.2 _ (List.mem_singleton.2 rfl)
 have hcell:w.cell? ⟨b,o,none⟩=some cs[o]:=by rw [cell_of_row w b o _ _ _ hb];simp [ho]
 have hfr:w.frozen? ⟨b,o,none⟩=false:=iF hb
 have u:=ng (o:=o) hb v
 have e:cs.toArray.setIfInBounds o v=(cs.set o v).toArray:=by simp
 rw [e] at u
 refine ⟨w.setCell ⟨b,o,none⟩ v,?_,hs.upd u,u.ext (.inr ⟨_,_,hb⟩)⟩
 simp [execOp,h x _ hx,h y _ hy,Instr.storeAt,Instr.sureAddr,lz hsz h1 hcell hfr rfl]
theorem gN{t:TypeId}{x y:Operand}{bs:Option Addr}{n cp sz k:Nat}{cs cs':List Value}{T:TypeId}{v:Value}(hsz:∀w,(sizeOf t).run P w=.ok 1 w)(hx:ev E x=some (.pointer (some (ad bs k))))(hy:ev E y=some v)
 (h1:v.oneCell'=true) (hk:k<cs.length) (hc:cs.set k v=cs'):SV P E (SlV T sz (.slice bs n cp) n cs::L) (.store t x y) ty (SlV T sz (.slice bs n cp) n cs'::L):=by
 intro ρ h w hs d pos af g
 subst hc
 obtain ⟨fall,⟨f1,f2,rfl,⟨hl,hf⟩,hp⟩,hh⟩:=hs
 rcases hf with ⟨_,h0,_⟩| ⟨gb,cap,cur,hv,rfl,h2,h3,h4,h5⟩
 ·subst h0;simp at hl;rw [hl] at hk;simp at hk
 simp only [Value.slice.injEq,true_and] at hv
 obtain ⟨rfl,rfl⟩:=hv
 have hb:=hh.2 (gb,.cells cur T (0,0)) (by simp)
 have hk':k<cur.size:=by rw [h4];rw [hl] at hk;exact Nat.lt_of_lt_of_le hk (Nat.mul_le_mul_right _ h2)
 have hcell:w.cell? ⟨gb,k,none⟩=some cur[k]:=by rw [cell_of_row w gb k _ _ _ hb];simp [hk']
 have hfr:w.frozen? ⟨gb,k,none⟩=false:=iF hb
 have u:=ng (o:=k) hb v
 have hs':Sat (one gb (.cells cur T (0,0))::L) w:=⟨_,⟨_,f2,rfl,rfl,hp⟩,hh⟩
 obtain ⟨_,⟨f3,f4,rfl,rfl,hp'⟩,hh'⟩:=hs'.upd u
 refine ⟨w.setCell ⟨gb,k,none⟩ v,?_,⟨_,⟨_,f4,rfl,⟨by simpa using hl,.inr ⟨gb,cp,_,rfl,rfl,h2,h3,by simpa using h4,?_⟩⟩,hp'⟩,hh'⟩,u.ext (.inr ⟨_,_,hb⟩)⟩
 ·rw [kI,Nat.zero_add] at hx
  simp [execOp,h x _ hx,h y _ hy,Instr.storeAt,Instr.sureAddr,lz hsz h1 hcell hfr rfl]
 ·rw [Array.toList_setIfInBounds,List.take_set,h5]
theorem cZ{e:TypeId}{x:Operand}{v:Value}{cs:List Value}(hx:ev E x=some v)(hc:v.cells.toList=cs):
 MV P E L (.box e x) ty (fun u M=> ∃b,u=.pointer (some ⟨b,0,none⟩)∧M=bI b cs e::L):=by
 intro ρ h w hs d pos af g
 subst hc
 have u:=iH w (.cells v.cells e)
 refine ⟨_,_,_,?_,⟨w.heap.size,rfl,rfl⟩,hs.new (cJ w) (by simpa [Array.toArray_toList] using u),u.ext (.inl (cJ w))⟩
 simp [execOp,h x _ hx,Instr.box,newVar,newRow]
theorem cD{e:TypeId}{z:Value}{cs:List Value}(hz:∀w,(zeroValue e).run P w=.ok z w)(hc:z.cells.toList=cs):
 MV P E L (.alloc e) ty (fun u M=> ∃b,u=.pointer (some ⟨b,0,none⟩)∧M=bI b cs e::L):=by
 intro ρ h w hs d pos af g
 subst hc
 have u:=iH w (.cells z.cells e)
 refine ⟨_,_,_,?_,⟨w.heap.size,rfl,rfl⟩,hs.new (cJ w) (by simpa [Array.toArray_toList] using u),u.ext (.inl (cJ w))⟩
 simp [execOp,Instr.alloc,hz,newVar,newRow]
theorem pg(z:Value)(n:Nat):(madeCells #[z] n).toList=List.replicate n z:=by
 apply List.ext_getElem
 ·simp [madeCells]
 ·intro i h1 h2
  simp [madeCells,Nat.mod_one]
theorem kT{T sz n cap:Nat}{cur:Array Value}{cs:List Value}{w w':World}{g:Nat}(hl:cs.length=n*sz)(hn:n≤cap)(hm:cap≤maxLen)(hz:cur.size=cap*sz)(ht:cur.toList.take (n*sz)=cs)
 (hs:Sat L w) (hg:w.heap[g]?=none) (u:Upd w w' g (.cells cur T (0,0))):Sat (SlV T sz (.slice (some ⟨g,0,none⟩) n cap) n cs::L) w':=
 (hs.new hg u).imp fun _ hf=>⟨hl,.inr ⟨g,cap,cur,rfl,hf,hn,hm,hz,ht⟩⟩
theorem fX(g n:Nat):bB (some ⟨g,0,none⟩) n:=fun _=>⟨g,0,rfl⟩
def dZ(T sz n:Nat)(cs:List Value)(L:List HP):Value→List HP→Prop:=fun v M=>
 ∃bs cp,bB bs n∧n≤cp∧v=.slice bs n cp∧M=SlV T sz (.slice bs n cp) n cs::L
theorem eP{t e:TypeId}{i:TypeInfo}{z:Value}{x y:Operand}{k k':IntKind}{n:Int}(hu:P.underlying t=some (.slice e))(hi:P.info? e=some i)(hz:i.zero=some z)(hzc:z.cells=#[z])(hsz:i.size=1)
 (hx:ev E x=some (.int k n)) (hy:ev E y=some (.int k' n)) (h0:0≤n) (hb:(i.bytes:Int)*n≤281474976710656) (h63:n≤9223372036854775807):
 MV P E L (.makeSlice t x y) ty (dZ e 1 n.toNat (List.replicate n.toNat z) L):=by
 intro ρ h w hs d pos af g
 have hr:=run_make (P:=P) w t e i z hu hi hz k k' n n h0 (Int.le_refl _) hb h63
 have u:=iH w (.cells (madeCells z.cells (n.toNat*i.size)) e)
 refine ⟨_,_,_,?_,⟨_,_,fX w.heap.size _,Nat.le_refl _,rfl,rfl⟩,kT (cur:=madeCells z.cells (n.toNat*i.size)) (by simp) (Nat.le_refl _) (by unfold maxLen;omega) (by simp [size_madeCells,hsz]) ?_ hs (cJ w) u,u.ext (.inl (cJ w))⟩
 ·simp [execOp,h x _ hx,h y _ hy,hr]
 ·rw [hsz,Nat.mul_one,hzc,pg,List.take_of_length_le (by simp)]
def AK(z:List Value)(n:Nat):List Value:=(List.range n).map fun i=>z.toArray[i%z.length]!
theorem aD{t e:TypeId}{n sz:Nat}{ps:List (Nat×Operand)}{vs cs:List Value}{z:Value}(hu:P.underlying t=some (.slice e))(hsz:∀w,(sizeOf e).run P w=.ok sz w)
 (hz:∀w,(zeroValue e).run P w=.ok z w) (hzc:0<sz) (hx:evs E (ps.map (·.2))=some vs) (hbig:Nat.ble (n*sz) 16777216=true) (hl:cs.length=n*sz)
 (hc:pL (fun i=>some (i*sz,sz)) (AK z.cells.toList (n*sz)) ((ps.map (·.1)).zip vs)=some cs):
 MV P E L (.buildSlice t n ps.toArray) ty (dZ e sz n cs L):=by
 have hc0:=hc
 clear hc
 have hc:Instr.fill (fun i=>some (i*sz,sz)) ((Array.range (n*sz)).map (z.cells[· %z.cells.size]!)) ((ps.map (·.1)).zip vs)=some cs.toArray:=by
  refine rp _ _ _ _ ?_
  rw [←hc0]
  congr 1
  simp [AK,Array.toList_map]
 intro ρ h w hs d pos af g
 have e1:=h.evs hx
 have e2:(ps.map fun x=>(x.1,ρ x.2))=(ps.map (·.1)).zip vs:=by
  rw [←e1,List.map_map]
  clear hx hc hc0 e1
  induction ps with
  |nil=>rfl
  |cons p ps ih=>simp [ih]
 have u:=iH w (.cells cs.toArray e)
 have hbig':n*sz≤16777216:=Nat.le_of_ble_eq_true hbig
 have hmax:n≤maxLen:=by
  have:n*1≤n*sz:=Nat.mul_le_mul_left _ hzc
  unfold maxLen;omega
 refine ⟨_,_,_,?_,⟨_,n,fX w.heap.size _,Nat.le_refl _,rfl,rfl⟩,kT (cur:=cs.toArray) hl (Nat.le_refl _) hmax (by simpa using hl) (by rw [←hl];simp) hs (cJ w) u,u.ext (.inl (cJ w))⟩
 have hb':¬(16777216<n*sz):=by omega
 by_cases h0:n*sz=0
 ·have hc':=hc
  simp only [h0] at hc'
  simp only [execOp,Instr.buildSlice,Sem.run_bind,run_underlying hu,Result.andThen_ok,hsz,List.map_toArray]
  simp only [e2]
  have hn0:n=0:=by cases Nat.mul_eq_zero.1 h0 with|inl e=>exact e|inr e=>omega
  subst hn0
  have hcs:cs=[]:=List.eq_nil_of_length_eq_zero (by simpa using hl)
  subst hcs
  have hr0:Array.range 0=#[]:=rfl
  simp only [hr0,List.map_toArray,List.map_nil] at hc'
  simp [hr0,hc',newRow]
 ·simp only [execOp,Instr.buildSlice,Sem.run_bind,run_underlying hu,Result.andThen_ok,hsz,List.map_toArray]
  simp only [e2]
  simp [h0,hb',hz,newRow]
  have hc':Instr.fill (fun i=>some (i*sz,sz)) ((Array.range (n*sz)).map (z.cells[· %z.cells.size]!)) ((ps.map (·.1)).zip vs)=some cs.toArray:=hc
  simp [hc']
def Rd(L:List HP)(bs:Option Addr)(cs:List Value):Prop:=∀w,Sat L w→∀j u,cs[j]?=some u→w.cell? (ad bs j)=some u
theorem cj{T sz n:Nat}{cs:List Value}{bs:Option Addr}{cp:Nat}(hm:SlV T sz (.slice bs n cp) n cs∈L):Rd L bs cs:=fun w hs _ _ hu=>aw hm hu w hs
theorem Rd.cons{A:HP}{bs:Option Addr}{cs:List Value}(h:Rd L bs cs):Rd (A::L) bs cs:=fun w hs=>h w hs.drop
theorem Rd.gives{bs:Option Addr}{cs:List Value}(h:Rd L bs cs){k:Nat}{v:Value}(hv:cs[k]?=some v):Gives L (ad bs k) v:=fun w hs=>h w hs k v hv
theorem cR{t e:TypeId}{i:TypeInfo}{z:Value}{sz:Nat}{s x:Operand}{bs bx:Option Addr}{n cp m c:Nat}{cs news:List Value}(hu:P.underlying t=some (.slice e))(hi:P.info? e=some i)(hz:i.zero=some z)
 (hsz:i.size=sz) (hzs:z.cells.size=sz) (hpos:0<sz) (hs':ev E s=some (.slice bs n cp)) (hx:ev E x=some (.slice bx m c)) (hok:bB bx m) (hl:news.length=m*sz) (hrd:Rd (SlV e sz (.slice bs n cp) n cs::L) bx news)
 (h1:∀u∈news,u.oneCell'=true) (hmax:(n+m)*(i.bytes+1)≤140737488355328):
 MV P E (SlV e sz (.slice bs n cp) n cs::L) (.call {callee:=.builtin .append,args:=#[s,x],argTypes:=#[t,t]}) ty (dZ e sz (n+m) (cs++news) L):=by
 intro ρ h w hs d pos af g
 subst hsz
 have hnm:n+m≤140737488355328:=Nat.le_trans (Nat.le_mul_of_pos_right _ (by omega)) hmax
 have hbytes:(n+m)*i.bytes≤140737488355328:=Nat.le_trans (Nat.mul_le_mul_left _ (by omega)) hmax
 have run:∀v w',(Builtin.append_ #[t,t] ty #[.slice bs n cp,.slice bx m c]).run P w=.ok v w'→
  (execOp ρ ⟨d,.call {callee:=.builtin .append,args:=#[s,x],argTypes:=#[t,t]},ty,pos,af,g⟩).run P w=.ok (.value v) w':=by
  intro v w' e
  simp [execOp,resolve,h s _ hs',h x _ hx,invoke,builtin,e]
 obtain ⟨fall,⟨f1,f2,rfl,⟨hcl,hf⟩,hp⟩,hh⟩:=id hs
 have hrest:Sat L w:=hs.drop
 have hnews:∀a,bx=some a→a.spot=none→∀j u,news[j]?=some u→w.cell? (a.add j)=some u:=by
  intro a ha hsp j u hu
  have:=hrd w hs j u hu
  subst ha
  obtain ⟨ab,ao,as⟩:=a
  simp only at hsp
  subst hsp
  rwa [du]
 by_cases hm0:m=0
 ·subst hm0
  have hn0:news=[]:=List.eq_nil_of_length_eq_zero (by simpa using hl)
  subst hn0
  have hfc:∀bx:Option Addr,(Builtin.firstCells i.size 0 (.slice bx 0 c)).run P w=.ok #[] w:=by
   intro bx;cases bx <;>simp [Builtin.firstCells,loadCells,loadCellsFrom]
  have hle:n≤cp:=by
   rcases hf with ⟨hv,h0,_⟩| ⟨_,cap,_,hv,_,h2,_⟩
   ·simp only [Value.slice.injEq] at hv;omega
   ·simp only [Value.slice.injEq,true_and] at hv;omega
  refine ⟨_,w,_,run _ _ ?_,⟨bs,cp,?_,?_,rfl,rfl⟩,by simpa using hs,.refl _⟩
  ·cases bs <;>simp [Builtin.append_,run_underlying hu,sizeOf,typeInfo,hi,Builtin.lenOf,hle,hfc,storeCells]
  ·rcases hf with ⟨hv,h0,_⟩| ⟨gb,cap,_,hv,_,h2,_⟩
   ·intro hlt;omega
   ·simp only [Value.slice.injEq,true_and] at hv;obtain ⟨rfl,rfl⟩:=hv;exact fX _ _
  ·simpa using hle
 ·obtain ⟨ab,ao,rfl⟩:=hok (by omega)
  have hnews':=hnews _ rfl rfl
  rcases hf with ⟨hv,h0,rfl⟩| ⟨gb,cap,cur,hv,rfl,h2,h3,h4,h5⟩
  ·simp only [Value.slice.injEq] at hv
   obtain ⟨rfl,rfl,rfl⟩:=hv
   have hcs:cs=[]:=List.eq_nil_of_length_eq_zero (by simpa using hcl)
   subst hcs
   simp only [Nat.zero_add] at hbytes hnm
   have hr:=run_append_nil (P:=P) w t ty e i z hu hi hz ⟨ab,ao,none⟩ m c news hl hnews' (by omega) (by omega) (by omega)
   have u:=gV w (.cells (news.toArray++Builtin.zeroCells z.cells (grownCap w m 0 e-m)) e)
   have hge:=grownCap_ge w m 0 e
   have hle:=grownCap_le_maxLen w m 0 e (by unfold maxLen;omega)
   refine ⟨_,_,_,run _ _ hr,⟨_,_,fX w.heap.size _,?_,by rw [Nat.zero_add],rfl⟩,?_,u.ext (.inl (cJ w))⟩
   ·simpa using hge
   ·simp only [Nat.zero_add,List.nil_append]
    refine kT hl hge hle ?_ ?_ hrest (cJ w) u
    ·simp only [Array.size_append,List.size_toArray,size_zeroCells,hzs,hl,←Nat.add_mul];congr 1;omega
    ·simp only [Array.toList_append];rw [←hl];exact List.take_left
  ·simp only [Value.slice.injEq,true_and] at hv
   obtain ⟨rfl,rfl⟩:=hv
   have hb:=hh.2 (gb,.cells cur e (0,0)) (by simp)
   have hlen:(cs++news).length=(n+m)*i.size:=by rw [List.length_append,hcl,hl,Nat.add_mul]
   by_cases hroom:n+m≤cp
   ·have hfit:n*i.size+news.length≤cur.size:=by rw [hl,h4,←Nat.add_mul];exact Nat.mul_le_mul_right _ hroom
    have hr:=run_append_room (P:=P) w t ty e i hu hi gb n cp cur hb ⟨ab,ao,none⟩ m c news hl hnews' h1 hroom hfit
    have u:=gu hb (cur.toList.take (n*i.size)++news++cur.toList.drop (n*i.size+news.length)).toArray
    have hs2:Sat (one gb (.cells cur e (0,0))::L) w:=⟨_,⟨_,f2,rfl,rfl,hp⟩,hh⟩
    refine ⟨_,_,_,run _ _ hr,⟨_,_,fX gb _,hroom,rfl,rfl⟩,(hs2.upd u).imp fun f hf=>⟨hlen,.inr ⟨gb,cp,_,rfl,hf,hroom,h3,?_,?_⟩⟩,u.ext (.inr ⟨_,_,hb⟩)⟩
    ·simp only [List.size_toArray,List.length_append,List.length_take,List.length_drop,Array.length_toList];omega
    ·rw [h5,←hlen];exact List.take_left
   ·have holds:∀j u,cs[j]?=some u→w.cell? ((⟨gb,0,none⟩:Addr).add j)=some u:=by
     intro j u hu'
     have:=aw (L:=SlV e i.size (.slice (some ⟨gb,0,none⟩) n cp) n cs::L) (List.mem_cons_self ..) hu' w hs
     rwa [du]
    have hr:=run_append_grow (P:=P) w t ty e i z hu hi hz ⟨gb,0,none⟩ n cp cs hcl holds ⟨ab,ao,none⟩ m c news hl hnews' (by omega) (by omega) (growslice_fits (by omega) hbytes)
    have u:=gV w (.cells (cs.toArray++news.toArray++Builtin.zeroCells z.cells (grownCap w (n+m) cp e- (n+m))) e)
    have hge:=grownCap_ge w (n+m) cp e
    have hle:=grownCap_le_maxLen w (n+m) cp e (by unfold maxLen;omega)
    refine ⟨_,_,_,run _ _ hr,⟨_,_,fX w.heap.size _,hge,rfl,rfl⟩,kT hlen hge hle ?_ ?_ hrest (cJ w) u,u.ext (.inl (cJ w))⟩
    ·simp only [Array.size_append,List.size_toArray,size_zeroCells,hzs,hcl,hl,←Nat.add_mul];congr 1;omega
    ·simp only [Array.toList_append,List.append_assoc]
     rw [←List.append_assoc,←hlen]
     exact List.take_left
theorem Ch{f:FuncId}{xs:List Operand}{vs:List Value}{ts:Array TypeId}(hc:∀args w,(callFunc f args).run P w=.ok (.enter f args) w)(hx:evs E xs=some vs):
 n7 P E (.call {callee:=.value (.func f),args:=xs.toArray,argTypes:=ts}) ty f vs:=by
 intro ρ h w d pos af g
 have hf:ρ (.func f)=.func (.func f) #[] #[]:=h _ _ rfl
 simp [execOp,resolve,h.evs hx,hf,Deferred.ofValue,invoke,hc]
theorem lJ{f:FuncId}{y:Operand}{xs:List Operand}{vs caps:List Value}{ts:Array TypeId}(hc:∀args w,(callFunc f args).run P w=.ok (.enter f args) w)(hy:ev E y=some (.func (.func f) #[] caps.toArray))
 (hx:evs E xs=some vs):n7 P E (.call {callee:=.value y,args:=xs.toArray,argTypes:=ts}) ty f (vs++caps):=by
 intro ρ h w d pos af g
 simp [execOp,resolve,h.evs hx,h y _ hy,Deferred.ofValue,invoke,hc]
end
end Go.Proofs.YtanfdikglplkaaaGreatDoor.Sp
namespace Go.Proofs.YtanfdikglplkaaaGreatDoor.Sp
open Go
def aF(k:IntKind)(xs:List Int):List Value:=xs.map (Value.int k)
def AL(xs:List Bool):List Value:=xs.map Value.bool
@[simp] theorem ints_length (k:IntKind) (xs:List Int):(aF k xs).length=xs.length:=by simp [aF]
@[simp] theorem bools_length (xs:List Bool):(AL xs).length=xs.length:=by simp [AL]
theorem aQ{k:IntKind}{xs:List Int}{i:Nat}(h:i<xs.length):(aF k xs)[i]?=some (.int k (xs.getD i 0)):=by
 simp [aF,List.getD,h]
theorem mB{xs:List Value}{i:Nat}(h:i<xs.length):xs[i]?=some (xs.getD i undef):=by
 simp [List.getD,h]
theorem eD{k:IntKind}{xs:List Int}{i:Nat}{v:Int}:(aF k xs).set i (.int k v)=aF k (xs.set i v):=by simp [aF,List.map_set]
theorem lU{k:IntKind}{xs:List Int}:∀u∈aF k xs,u.oneCell'=true:=by
 intro u hu;obtain ⟨x,_,rfl⟩:=List.mem_map.1 hu;rfl
theorem iX(k:IntKind)(n:Nat)(v:Int):List.replicate n (Value.int k v)=aF k (List.replicate n v):=by simp [aF]
theorem dW(k:IntKind)(xs:List Int)(v:Int):aF k xs++[.int k v]=aF k (xs++[v]):=by simp [aF]
theorem cA{x:Int}(h: -9223372036854775808≤x)(h':x≤9223372036854775807):IntKind.i64.wrap x=x:=by rw [IntKind.wrap_i64];omega
theorem aB{n:Nat}(h:n<9223372036854775807):IntKind.i64.wrap ((n:Int)+1)=((n+1:Nat):Int):=by rw [cA (by omega) (by omega)];rfl
theorem Bz{x y:Int}(h:0≤x)(h':x≤9223372036854775807)(hy:1≤y):IntKind.i64.wrap (x.tdiv y)=x/y:=by
 have e:x.tdiv y=x/y:=Int.tdiv_eq_ediv_of_nonneg h
 have h1:0≤x/y:=Int.ediv_nonneg h (by omega)
 have h2:x/y≤x:=Int.ediv_le_self _ h
 rw [e]
 exact cA (by omega) (by omega)
theorem nW{x:Int}(h:0≤x)(h':x≤18446744073709551615):IntKind.u64.wrap x=x:=by
 have e:IntKind.u64.wrap x=x%18446744073709551616:=by simp [IntKind.wrap,IntKind.bits,IntKind.signed]
 rw [e];omega
theorem Bw{L:List HP}:Rd L none []:=fun _ _ j u hu=>by simp at hu
theorem cn:bB none 0:=fun h=>absurd h (by omega)
theorem cz(T sz:Nat){L:List HP}{w:World}(h:Sat L w):Sat (SlV T sz (.slice none 0 0) 0 []::L) w:=by
 obtain ⟨f,hp,hh⟩:=h
 exact ⟨f,⟨[],f,rfl,⟨by simp,.inl ⟨rfl,rfl,rfl⟩⟩,hp⟩,hh⟩
def df(es:List (Int×Int)):List Value:=es.flatMap fun e=>[.int .i64 e.1,.int .i64 e.2]
theorem mw(es:List (Int×Int)):(df es).length=es.length*2:=by
 induction es with
 |nil=>rfl
 |cons e es ih=>simp only [df,List.flatMap_cons,List.length_append,List.length_cons,List.length_nil] at ih⊢;omega
theorem gv{es:List (Int×Int)}{k:Nat}(h:k<es.length):(df es)[k*2]?=some (.int .i64 (es.getD k (0,0)).1):=by
 induction es generalizing k with
 |nil=>simp at h
 |cons e es ih=>
  cases k with
  |zero=>rfl
  |succ k=>
   have:=ih (k:=k) (by simpa using h)
   rw [show (k+1)*2=k*2+2 by omega]
   simpa [df] using this
theorem hY{es:List (Int×Int)}{k:Nat}(h:k<es.length):(df es)[k*2+1]?=some (.int .i64 (es.getD k (0,0)).2):=by
 induction es generalizing k with
 |nil=>simp at h
 |cons e es ih=>
  cases k with
  |zero=>rfl
  |succ k=>
   have:=ih (k:=k) (by simpa using h)
   rw [show (k+1)*2+1=k*2+1+2 by omega]
   simpa [df] using this
theorem wg{es:List (Int×Int)}:∀u∈df es,u.oneCell'=true:=by
 intro u hu;unfold df at hu;rw [List.mem_flatMap] at hu
 obtain ⟨e,_,he⟩:=hu
 simp only [List.mem_cons,List.not_mem_nil,or_false] at he
 rcases he with rfl|rfl <;>rfl
theorem lL(es:List (Int×Int))(a b:Int):df es++[.int .i64 a,.int .i64 b]=df (es++[(a,b)]):=by unfold df;rw [List.flatMap_append];rfl
theorem jx{p:Nat→Prop}{k:Nat}(h:∀j,j<k→p j)(hk:p k):∀j,j<k+1→p j:=fun j hj=>by
 rcases Nat.lt_succ_iff_lt_or_eq.1 hj with h'|h'
 ·exact h j h'
 ·exact h'▸hk
theorem ji{bs:Option Addr}{n:Nat}(h:bB bs n)(hb:bs.isNone=true):n=0:=by
 rcases Nat.eq_zero_or_pos n with e|e
 ·exact e
 ·obtain ⟨b,o,rfl⟩:=h e;cases hb
theorem fW{L:List HP}{F:Nat→Addr}{v0 v1:Value}(h0:Gives L (F 0) v0)(h1:Gives L (F 1) v1):∀j u,[v0,v1][j]?=some u→Gives L (F j) u:=by
 intro j u hu
 match j,hu with
 |0,hu=>simp at hu;subst hu;exact h0
 |1,hu=>simp at hu;subst hu;exact h1
theorem ej{L:List HP}{F:Nat→Addr}{v0 v1 v2:Value}(h0:Gives L (F 0) v0)(h1:Gives L (F 1) v1)(h2:Gives L (F 2) v2):∀j u,[v0,v1,v2][j]?=some u→Gives L (F j) u:=by
 intro j u hu
 match j,hu with
 |0,hu=>simp at hu;subst hu;exact h0
 |1,hu=>simp at hu;subst hu;exact h1
 |2,hu=>simp at hu;subst hu;exact h2
theorem bh{L:List HP}{F:Nat→Addr}{v0 v1 v2 v3 v4:Value}(h0:Gives L (F 0) v0)(h1:Gives L (F 1) v1)(h2:Gives L (F 2) v2)(h3:Gives L (F 3) v3)(h4:Gives L (F 4) v4):∀j u,[v0,v1,v2,v3,v4][j]?=some u→Gives L (F j) u:=by
 intro j u hu
 match j,hu with
 |0,hu=>simp at hu;subst hu;exact h0
 |1,hu=>simp at hu;subst hu;exact h1
 |2,hu=>simp at hu;subst hu;exact h2
 |3,hu=>simp at hu;subst hu;exact h3
 |4,hu=>simp at hu;subst hu;exact h4
end Go.Proofs.YtanfdikglplkaaaGreatDoor.Sp
