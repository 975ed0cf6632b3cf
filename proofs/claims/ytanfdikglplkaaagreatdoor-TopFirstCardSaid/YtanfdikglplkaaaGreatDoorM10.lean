/- Parts Mp: own lemmas and contracts of the code that the claim reaches. -/
import Derived.MapKept
import Derived.Test.YtanfdikglplkaaaGreatDoorM02
namespace Go.Proofs.YtanfdikglplkaaaGreatDoor.Sp
open Go
def qS(k:IntKind):Nat→List (Int×Value)→List MapEntry
 |_,[]=>[]
 |i,(x,v)::es=>⟨.int k x,v,i⟩::qS k (i+1) es
def xS(b:Nat)(k:IntKind)(es:List (Int×Value)):HP:=one b (.map (qS k 0 es).toArray es.length)
def mL(x:Int):List (Int×Value)→Option Value
 | []=>none
 | (y,v)::es=>if x=y then some v else mL x es
theorem r6(k:IntKind)(x:Int)(v:Value):∀(es:List (Int×Value)) (i:Nat),qS k i (es++[(x,v)])=qS k i es++[⟨.int k x,v,i+es.length⟩]
 | [],i=>rfl
 | (y,u)::es,i=>by
  show _::qS k (i+1) (es++[(x,v)])=_::(qS k (i+1) es++_)
  rw [r6 k x v es (i+1),List.length_cons,show i+1+es.length=i+(es.length+1) by omega]
theorem jH{k:IntKind}{x:Int}:∀{es:List (Int×Value)} {j:Nat} (i:Nat),mL x es=none→Instr.findNow (.int k) (.int k x) (qS k j es) i=some none
 | [],_,_,_=>rfl
 | (y,v)::es,j,i,h=>by
  unfold mL at h
  by_cases e:x=y
  ·rw [if_pos e] at h;cases h
  ·rw [if_neg e] at h
   have hs:Instr.sameNow (.int k) (.int k x) (.int k y)=some false:=by simp [Instr.sameNow,e]
   show (match Instr.sameNow (.int k) (.int k x) (.int k y) with|some true=>some (some (i,v))|some false=>Instr.findNow (.int k) (.int k x) (qS k (j+1) es) (i+1)|none=>none)=_
   rw [hs];exact jH (i+1) h
theorem mq{k:IntKind}{x:Int}{u:Value}:∀{es:List (Int×Value)} {j:Nat} (i:Nat),mL x es=some u→∃n,Instr.findNow (.int k) (.int k x) (qS k j es) i=some (some (n,u))
 | [],_,_,h=>by cases h
 | (y,v)::es,j,i,h=>by
  unfold mL at h
  show∃n,(match Instr.sameNow (.int k) (.int k x) (.int k y) with|some true=>some (some (i,v))|some false=>Instr.findNow (.int k) (.int k x) (qS k (j+1) es) (i+1)|none=>none)=_
  by_cases e:x=y
  ·rw [if_pos e] at h;cases h
   have hs:Instr.sameNow (.int k) (.int k x) (.int k y)=some true:=by simp [Instr.sameNow,e]
   exact ⟨i,by rw [hs]⟩
  ·rw [if_neg e] at h
   have hs:Instr.sameNow (.int k) (.int k x) (.int k y)=some false:=by simp [Instr.sameNow,e]
   rw [hs];exact mq (i+1) h
theorem oj{w:World}{a:Addr}{es:Array MapEntry}{ck:Nat}(h:w.heap[a.block]?=some (.map es ck)):w.frozen? a=false:=by
 simp [World.frozen?,h]
theorem Upd.ext_map{w w':World}{b:Nat}{es:Array MapEntry}{ck:Nat}(u:Upd w w' b (.map es ck))
 (h:w.heap[b]?=none∨∃es' ck',w.heap[b]?=some (.map es' ck')):Ext w w':=by
 refine ⟨u.os,u.output,u.size,fun a=>?_⟩
 by_cases e:a.block=b
 ·rw [oj (by rw [e];exact u.here)]
  rcases h with h| ⟨cs',T',h⟩
  ·rw [m7 (by rw [e];exact h)]
  ·rw [oj (by rw [e];exact h)]
 ·simp [World.frozen?,u.other a.block e]
section
variable{P:Program}{E:List (Nat×Value)}{L:List HP}{ty:TypeId}
theorem nX{t:TypeId}(k:IntKind):MV P E L (.makeMap t none) ty (fun u M=> ∃b,u=.map (some b)∧M=xS b k []::L):=by
 intro ρ h w hs d pos af g
 have u:=iH w (.map #[] 0)
 refine ⟨_,_,_,?_,⟨w.heap.size,rfl,rfl⟩,hs.new (cJ w) u,u.ext_map (.inl (cJ w))⟩
 simp [execOp,Instr.makeMap,newObj,Sem.run]
theorem uC{b:Nat}{k:IntKind}{es:List (Int×Value)}{w:World}(hL:xS b k es∈L)(hs:Sat L w):w.heap[b]?=some (.map (qS k 0 es).toArray es.length):=by
 obtain ⟨f,rfl,hh⟩:=hs.mem hL
 exact hh.2 _ (.head _)
theorem sV{t kt et:TypeId}{b:Nat}{x:Int}{k:IntKind}{es:List (Int×Value)}{v:Value}{w:World}(hu:P.underlying t=some (.map kt et))(hk:P.underlying kt=some (.int k))(hb:w.heap[b]?=some (.map (qS k 0 es).toArray es.length))(hn:mL x es=none):
 (Instr.mapUpdate t (.map (some b)) (.int k x) v).run P w=.ok () {w with heap:=w.heap.setIfInBounds b (.map (qS k 0 (es++[(x,v)])).toArray (es++[(x,v)]).length)}:=by
 have e1:(Instr.checkKey false 10000 kt (.int k x)).run P w=.ok () w:=MapKept.run_checkKey hk (show MapKept.IsKey (.int k) (.int k x) from rfl) false 9999
 have e2:(Instr.findKey kt (.int k x) (qS k 0 es).toArray.toList).run P w=.ok none w:=MapKept.run_findKey hk (jH 0 hn)
 have e3:(qS k 0 es).toArray.push ⟨.int k x,v,es.length⟩=(qS k 0 (es++[(x,v)])).toArray:=by rw [r6];simp
 simp [Instr.mapUpdate,run_underlying hu,MapKept.run_getObj_map hb,e1,MapKept.run_setObj_map _ hb,Result.andThen]
 simp at e2
 simp [e2,MapKept.run_setObj_map _ hb,Result.andThen,←e3]
theorem tE{w:World}{b:Nat}{o o':Obj}(hb:w.heap[b]?=some o):Upd w {w with heap:=w.heap.setIfInBounds b o'} b o':=by
 obtain ⟨h1,h2⟩:=MapKept.heap_set (o':=o') hb
 exact ⟨rfl,rfl,by simp,h1,h2⟩
theorem fe{t kt et:TypeId}{m kx vx:Operand}{b:Nat}{x:Int}{k:IntKind}{es:List (Int×Value)}{v:Value}(hu:P.underlying t=some (.map kt et))(hk:P.underlying kt=some (.int k))
 (hm:ev E m=some (.map (some b))) (hx:ev E kx=some (.int k x)) (hv:ev E vx=some v) (hn:mL x es=none):SV P E (xS b k es::L) (.insert t m kx vx) ty (xS b k (es++[(x,v)])::L):=by
 intro ρ h w hs d pos af g
 have hb:=uC (.head _) hs
 have u:=tE (o':=.map (qS k 0 (es++[(x,v)])).toArray (es++[(x,v)]).length) hb
 refine ⟨_,?_,hs.upd u,u.ext_map (.inr ⟨_,_,hb⟩)⟩
 simp [execOp,h m _ hm,h kx _ hx,h vx _ hv,sV hu hk hb hn]
theorem pO{t kt et:TypeId}{m ix:Operand}{b:Nat}{x:Int}{k:IntKind}{es:List (Int×Value)}{v z:Value}(hu:P.underlying t=some (.map kt et))(hk:P.underlying kt=some (.int k))(hz:∀w,(zeroValue et).run P w=.ok z w)
 (hm:ev E m=some (.map (some b))) (hx:ev E ix=some (.int k x)) (hL:xS b k es∈L) (hv:(mL x es).getD z=v):LV P E L (.lookup t m ix false) ty v:=by
 intro ρ h w hs d pos af g
 have hb:=uC hL hs
 have e1:∀e,(Instr.checkKey e 10000 kt (.int k x)).run P w=.ok () w:=fun e=>MapKept.run_checkKey hk (show MapKept.IsKey (.int k) (.int k x) from rfl) e 9999
 subst hv
 cases hf:mL x es with
 |none=>
  have e2:(Instr.findKey kt (.int k x) (qS k 0 es).toArray.toList).run P w=.ok none w:=MapKept.run_findKey hk (jH 0 hf)
  simp at e2
  simp [execOp,h m _ hm,h ix _ hx,Instr.lookup,run_underlying hu,MapKept.run_getObj_map hb,e1,e2,hz,Result.andThen]
 |some u=>
  obtain ⟨n,hn⟩:=mq (k:=k) (j:=0) 0 hf
  have e2:(Instr.findKey kt (.int k x) (qS k 0 es).toArray.toList).run P w=.ok (some (n,u)) w:=MapKept.run_findKey hk hn
  simp at e2
  simp [execOp,h m _ hm,h ix _ hx,Instr.lookup,run_underlying hu,MapKept.run_getObj_map hb,e1,e2,Result.andThen]
end
end Go.Proofs.YtanfdikglplkaaaGreatDoor.Sp
