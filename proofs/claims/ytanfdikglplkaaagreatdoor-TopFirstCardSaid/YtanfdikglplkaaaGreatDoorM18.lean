/- Parts Aa, Ab: own lemmas and contracts of the code that the claim reaches. -/
import Derived.Test.YtanfdikglplkaaaGreatDoorM03
import Derived.Test.YtanfdikglplkaaaGreatDoorM04
import Derived.Test.YtanfdikglplkaaaGreatDoorM15
import Derived.Test.YtanfdikglplkaaaGreatDoorM07
set_option linter.unusedSimpArgs false
set_option linter.unusedVariables false
set_option maxRecDepth 100000
namespace Go.Proofs.YtanfdikglplkaaaGreatDoor
open Go Go.Proofs Sp
set_option maxHeartbeats 4000000 in
theorem si{R:List HP}{p:Nat}{A:Int}{bl:Option Addr}{cl:Nat}{u1 u2:Value}{l:List Int}(x:Int)(okl:bB bl l.length)(hl:l.length≤1000000):
 Ok Tryz.prog 74 [(vP p 0),(vI x)] ((bI p [(vI A),(.slice bl l.length cl),u1,u2] 136)::(SlV 3 1 (.slice bl l.length cl) l.length (aF .i64 l))::R)
  (fun v M=> ∃bs cp,bB bs (bif !decide ((l.length:Int)≥A) then l++[x] else l).length∧(bif !decide ((l.length:Int)≥A) then l++[x] else l).length≤cp∧v=.bool (!decide ((l.length:Int)≥A))∧M=bI p [.int .i64 A,.slice bs (bif !decide ((l.length:Int)≥A) then l++[x] else l).length cp,u1,u2] 136::SlV 3 1 (.slice bs (bif !decide ((l.length:Int)≥A) then l++[x] else l).length cp) (bif !decide ((l.length:Int)≥A) then l++[x] else l).length (aF .i64 (bif !decide ((l.length:Int)≥A) then l++[x] else l))::R):=by
 refine aP (N:=25) Tryz.func74 rfl rfl rfl (fun W=>?_)
 refine aE ?_
 refine aY (fun _ h=>(fY h).2.1) (fun hcl=>?_)
 refine aE (av (fun _ hK1=>aA rfl (td hK1 (ai (fun _ hK2=>ai (fun _ hK3=>?_))))))
 by_cases h1:(l.length:Int)≥A
 ·refine bz (γ:=Unit) (n:=10) Tryz.mixed rfl rfl (fun _ S=>True) (fun _=>[(0,5,(vP p 0)),(1,6,(vP p 0)),(2,7,(vP p 1)),(3,8,(.slice bl l.length cl)),(4,9,(vN l.length)),(5,10,(vP p 0)),(6,11,(vP p 0)),(7,12,(vP p 0)),(8,13,(vI A)),(9,14,(.bool true))]) (fun _ S=>(bI p [(vI A),(.slice bl l.length cl),u1,u2] 136)::(SlV 3 1 (.slice bl l.length cl) l.length (aF .i64 l))::R) (()) trivial (fun _ h=>h) (fun _ _ h=>h) ?_ ?_
  ·refine ⟨aU,bW,bL C7 rfl CK,db CL fun _ _=>aa (.head _) rfl,iT CI rfl,aU,bW,bL C7 rfl CG,db CH fun _ _=>aa (.head _) rfl,?_,trivial⟩
   ·intro _ S h s D p K k;exact bV (bE p 4 rfl rfl) (bE p 8 rfl rfl) (cC rfl rfl (decide_eq_true h1)) 9 rfl rfl s (k () h)
  ·rintro _ hF
   try dsimp only at hF⊢
   refine az (E':=[(0,(vP p 0)),(1,(vI x)),(4,(.bool false)),(14,(.bool true))]) ⟨rfl,rfl,rfl,rfl,trivial⟩ ?_
   refine qn hK3 (aG rfl (av (fun _ hK4=>aA rfl (td hK4 (ay ?_)))))
   refine aK ?_
   refine aM rfl rfl ?_
   rw [show decide ((l.length:Int)≥A)=true from (decide_eq_true h1)]
   exact ⟨_,_,okl,hcl,rfl,rfl⟩
 ·refine bz (γ:=Unit) (n:=10) Tryz.mixed rfl rfl (fun _ S=>True) (fun _=>[(0,5,(vP p 0)),(1,6,(vP p 0)),(2,7,(vP p 1)),(3,8,(.slice bl l.length cl)),(4,9,(vN l.length)),(5,10,(vP p 0)),(6,11,(vP p 0)),(7,12,(vP p 0)),(8,13,(vI A)),(9,14,(.bool false))]) (fun _ S=>(bI p [(vI A),(.slice bl l.length cl),u1,u2] 136)::(SlV 3 1 (.slice bl l.length cl) l.length (aF .i64 l))::R) (()) trivial (fun _ h=>h) (fun _ _ h=>h) ?_ ?_
  ·refine ⟨aU,bW,bL C7 rfl CK,db CL fun _ _=>aa (.head _) rfl,iT CI rfl,aU,bW,bL C7 rfl CG,db CH fun _ _=>aa (.head _) rfl,?_,trivial⟩
   ·intro _ S h s D p K k;exact bV (bE p 4 rfl rfl) (bE p 8 rfl rfl) (cC rfl rfl (decide_eq_false h1)) 9 rfl rfl s (k () h)
  ·rintro _ hF
   try dsimp only at hF⊢
   refine az (E':=[(0,(vP p 0)),(1,(vI x)),(4,(.bool false)),(14,(.bool false))]) ⟨rfl,rfl,rfl,rfl,trivial⟩ ?_
   refine qn hK3 (ar rfl (dp hK2 (av (fun _ hK4=>ag rfl (ag rfl (cV rfl (bU 1 C7 rfl CK rfl rfl ?_)))))))
   refine bK CL rfl (aa (.head _) rfl) (ag rfl ?_)
   refine tm rfl (aD (cs:=[(vI x)]) CI CG CN (by decide) rfl rfl rfl rfl) ?_
   rintro _ _ ⟨bs2,cp3,hok4,hle5,rfl,rfl⟩
   refine aR ?_
   refine tm rfl (cR (i:=Tryz.t3) CI C1 rfl rfl rfl (by decide) rfl rfl hok4 (by first| (simp;done)| (simp;omega)) (cj (.tail _ (.head _))) (by simp [Value.oneCell']) (by rw [show Tryz.t3.bytes=8 from rfl];omega)) ?_
   rintro _ _ ⟨bs6,cp7,hok8,hle9,rfl,rfl⟩
   rw [show aF .i64 l++[(.int .i64 x)]=aF .i64 (l++[x]) from dW _ _ _]
   rw [show l.length+1=(l++[x]).length from by simp] at hok8 hle9⊢
   refine cV rfl (bU 1 C7 rfl CK rfl rfl (aR ?_))
   refine ts (cM CK rfl rfl rfl (nB rfl) rfl) ?_
   refine td hK4 (av (fun _ hK5=>aA rfl (td hK5 (ay (aR (ak ?_))))))
   refine aM rfl rfl ?_
   rw [show decide ((l.length:Int)≥A)=false from (decide_eq_false h1)]
   exact ⟨_,_,hok8,hle9,rfl,rfl⟩
theorem wI{R:List HP}{p:Nat}{A:Int}{bl:Option Addr}{cl:Nat}{u1 u2:Value}{l:List Int}(x:Int)(okl:bB bl l.length)(hl:l.length≤1000000):
 Ok Tryz.prog 125 [(vP p 0),(vI x)] ((bI p [(vI A),(.slice bl l.length cl),u1,u2] 136)::(SlV 3 1 (.slice bl l.length cl) l.length (aF .i64 l))::R)
  (fun v M=>bB bl (l.erase x).length∧v=.bool (l.contains x)∧M=bI p [.int .i64 A,.slice bl (l.erase x).length cl,u1,u2] 136::SlV 3 1 (.slice bl (l.erase x).length cl) (l.erase x).length (aF .i64 (l.erase x))::R):=by
 refine aP (N:=25) Tryz.func125 rfl rfl rfl (fun W=>?_)
 refine av (fun _ hK1=>aA rfl (td hK1 (av (fun _ hK2=>ag rfl (cV rfl (bU 1 C7 rfl CK rfl rfl ?_))))))
 refine bK CL rfl (aa (.head _) rfl) (ag rfl ?_)
 refine bN Tryz.call154 rfl (mH l x (cj (.tail _ (.head _))) okl (by first|omega| (simp;omega)| (simp;done))) ?_
 rintro _ _ ⟨rfl,rfl⟩
 refine aA rfl (td hK2 (ai (fun _ hK3=>av (fun _ hK4=>ag rfl ?_))))
 by_cases h1:(eU (fun y=>decide (x=y)) l)<0
 ·refine tp rfl (aJ rfl rfl (decide_eq_true h1)) (td hK4 (aG rfl (av (fun _ hK5=>aA rfl (td hK5 (ay ?_))))))
  refine aK ?_
  refine aM rfl rfl ?_
  have hc:=rG (v:=x) (xs:=l) ‹_›
  rw [hc,List.erase_of_not_mem (by simpa using hc)]
  exact ⟨okl,rfl,rfl⟩
 ·refine tp rfl (aJ rfl rfl (decide_eq_false h1)) (td hK4 (ar rfl (dp hK3 (av (fun _ hK5=>?_)))))
  have hi:=pS (v:=x) (xs:=l) (by omega)
  rw [show eU (fun y=>decide (x=y)) l=((eU (fun y=>decide (x=y)) l).toNat:Int) by omega]
  refine ag rfl (ag rfl (cV rfl (bU 1 C7 rfl CK rfl rfl (bK CL rfl (aa (.head _) rfl) (ag rfl (ag rfl (tp rfl (aX (c:=(((eU (fun y=>decide (x=y)) l).toNat+1:Nat):Int)) rfl rfl (aB (by omega))) ?_)))))))
  refine aE ?_
  refine bN Tryz.call155 rfl (pb (cx:=cl) l ((eU (fun y=>decide (x=y)) l).toNat) hi.2.1) ?_
  rintro _ _ ⟨rfl,rfl⟩
  refine cV rfl (bU 1 C7 rfl CK rfl rfl (aE ?_))
  refine ts (cM CK rfl rfl rfl (nB rfl) rfl) ?_
  refine td hK5 (av (fun _ hK6=>aA rfl (td hK6 (ay ?_))))
  rw [hi.2.2]
  refine aM rfl rfl ?_
  rw [hi.1]
  exact ⟨fun _=>okl (by omega),rfl,rfl⟩
theorem yg{R:List HP}{p:Nat}{A:Int}{bl:Option Addr}{cl:Nat}{u1 u2:Value}{l:List Int}(x:Int)(okl:bB bl l.length)(hl:l.length≤1000000):
 Ok Tryz.prog 122 [(vP p 0),(vI x)] ((bI p [(vI A),(.slice bl l.length cl),u1,u2] 136)::(SlV 3 1 (.slice bl l.length cl) l.length (aF .i64 l))::R)
  (fun v M=>v=.bool (l.contains x)∧M=bI p [.int .i64 A,.slice bl l.length cl,u1,u2] 136::SlV 3 1 (.slice bl l.length cl) l.length (aF .i64 l)::R):=by
 refine aP (N:=11) Tryz.func122 rfl rfl rfl (fun W=>?_)
 refine av (fun _ hK1=>aA rfl (td hK1 (av (fun _ hK2=>ag rfl (cV rfl (bU 1 C7 rfl CK rfl rfl ?_))))))
 refine bK CL rfl (aa (.head _) rfl) (ag rfl ?_)
 refine bN Tryz.call151 rfl (mg l x (cj (.tail _ (.head _))) okl (by first|omega| (simp;omega)| (simp;done))) ?_
 rintro _ _ ⟨rfl,rfl⟩
 refine aA rfl (td hK2 (ay ?_))
 refine aM rfl rfl ?_
 exact ⟨rfl,rfl⟩
theorem yQ{R:List HP}{p:Nat}{A:Int}{bl:Option Addr}{cl:Nat}{u1 u2:Value}{l:List Int}(okl:bB bl l.length)(hl:l.length≤1000000):
 Ok Tryz.prog 70 [(vP p 0)] ((bI p [(vI A),(.slice bl l.length cl),u1,u2] 136)::(SlV 3 1 (.slice bl l.length cl) l.length (aF .i64 l))::R)
  (dZ 3 1 l.length (aF .i64 l) (bI p [.int .i64 A,.slice bl l.length cl,u1,u2] 136::SlV 3 1 (.slice bl l.length cl) l.length (aF .i64 l)::R)):=by
 refine aP (N:=8) Tryz.func70 rfl rfl rfl (fun W=>?_)
 refine av (fun _ hK1=>aA rfl (td hK1 (av (fun _ hK2=>ag rfl (cV rfl (bU 1 C7 rfl CK rfl rfl ?_))))))
 refine bK CL rfl (aa (.head _) rfl) ?_
 refine bN Tryz.call72 rfl (ky l (cj (.tail _ (.head _))) okl (by first|omega| (simp;omega)| (simp;done))) ?_
 rintro _ _ ⟨bs1,cp2,hok3,hle4,rfl,rfl⟩
 refine aA rfl (td hK2 (ay ?_))
 refine aM rfl rfl ?_
 exact ⟨_,_,hok3,hle4,rfl,rfl⟩
set_option maxHeartbeats 4000000 in
theorem xI{R:List HP}{p:Nat}{A:Int}{bl:Option Addr}{cl:Nat}{u1 u2:Value}{l:List Int}(x:Int)(okl:bB bl l.length)(hl:l.length≤1000000):
 Ok Tryz.prog 74 [(vP p 2),(vI x)] ((bI p [u1,u2,(vI A),(.slice bl l.length cl)] 136)::(SlV 3 1 (.slice bl l.length cl) l.length (aF .i64 l))::R)
  (fun v M=> ∃bs cp,bB bs (bif !decide ((l.length:Int)≥A) then l++[x] else l).length∧(bif !decide ((l.length:Int)≥A) then l++[x] else l).length≤cp∧v=.bool (!decide ((l.length:Int)≥A))∧M=bI p [u1,u2,.int .i64 A,.slice bs (bif !decide ((l.length:Int)≥A) then l++[x] else l).length cp] 136::SlV 3 1 (.slice bs (bif !decide ((l.length:Int)≥A) then l++[x] else l).length cp) (bif !decide ((l.length:Int)≥A) then l++[x] else l).length (aF .i64 (bif !decide ((l.length:Int)≥A) then l++[x] else l))::R):=by
 refine aP (N:=25) Tryz.func74 rfl rfl rfl (fun W=>?_)
 refine aE ?_
 refine aY (fun _ h=>(fY h).2.1) (fun hcl=>?_)
 refine aE (av (fun _ hK1=>aA rfl (td hK1 (ai (fun _ hK2=>ai (fun _ hK3=>?_))))))
 by_cases h1:(l.length:Int)≥A
 ·refine bz (γ:=Unit) (n:=10) Tryz.mixed rfl rfl (fun _ S=>True) (fun _=>[(0,5,(vP p 2)),(1,6,(vP p 2)),(2,7,(vP p 3)),(3,8,(.slice bl l.length cl)),(4,9,(vN l.length)),(5,10,(vP p 2)),(6,11,(vP p 2)),(7,12,(vP p 2)),(8,13,(vI A)),(9,14,(.bool true))]) (fun _ S=>(bI p [u1,u2,(vI A),(.slice bl l.length cl)] 136)::(SlV 3 1 (.slice bl l.length cl) l.length (aF .i64 l))::R) (()) trivial (fun _ h=>h) (fun _ _ h=>h) ?_ ?_
  ·refine ⟨aU,bW,bL C7 rfl CK,db CL fun _ _=>aa (.head _) rfl,iT CI rfl,aU,bW,bL C7 rfl CG,db CH fun _ _=>aa (.head _) rfl,?_,trivial⟩
   ·intro _ S h s D p K k;exact bV (bE p 4 rfl rfl) (bE p 8 rfl rfl) (cC rfl rfl (decide_eq_true h1)) 9 rfl rfl s (k () h)
  ·rintro _ hF
   try dsimp only at hF⊢
   refine az (E':=[(0,(vP p 2)),(1,(vI x)),(4,(.bool false)),(14,(.bool true))]) ⟨rfl,rfl,rfl,rfl,trivial⟩ ?_
   refine qn hK3 (aG rfl (av (fun _ hK4=>aA rfl (td hK4 (ay ?_)))))
   refine aK ?_
   refine aM rfl rfl ?_
   rw [show decide ((l.length:Int)≥A)=true from (decide_eq_true h1)]
   exact ⟨_,_,okl,hcl,rfl,rfl⟩
 ·refine bz (γ:=Unit) (n:=10) Tryz.mixed rfl rfl (fun _ S=>True) (fun _=>[(0,5,(vP p 2)),(1,6,(vP p 2)),(2,7,(vP p 3)),(3,8,(.slice bl l.length cl)),(4,9,(vN l.length)),(5,10,(vP p 2)),(6,11,(vP p 2)),(7,12,(vP p 2)),(8,13,(vI A)),(9,14,(.bool false))]) (fun _ S=>(bI p [u1,u2,(vI A),(.slice bl l.length cl)] 136)::(SlV 3 1 (.slice bl l.length cl) l.length (aF .i64 l))::R) (()) trivial (fun _ h=>h) (fun _ _ h=>h) ?_ ?_
  ·refine ⟨aU,bW,bL C7 rfl CK,db CL fun _ _=>aa (.head _) rfl,iT CI rfl,aU,bW,bL C7 rfl CG,db CH fun _ _=>aa (.head _) rfl,?_,trivial⟩
   ·intro _ S h s D p K k;exact bV (bE p 4 rfl rfl) (bE p 8 rfl rfl) (cC rfl rfl (decide_eq_false h1)) 9 rfl rfl s (k () h)
  ·rintro _ hF
   try dsimp only at hF⊢
   refine az (E':=[(0,(vP p 2)),(1,(vI x)),(4,(.bool false)),(14,(.bool false))]) ⟨rfl,rfl,rfl,rfl,trivial⟩ ?_
   refine qn hK3 (ar rfl (dp hK2 (av (fun _ hK4=>ag rfl (ag rfl (cV rfl (bU 3 C7 rfl CK rfl rfl ?_)))))))
   refine bK CL rfl (aa (.head _) rfl) (ag rfl ?_)
   refine tm rfl (aD (cs:=[(vI x)]) CI CG CN (by decide) rfl rfl rfl rfl) ?_
   rintro _ _ ⟨bs2,cp3,hok4,hle5,rfl,rfl⟩
   refine aR ?_
   refine tm rfl (cR (i:=Tryz.t3) CI C1 rfl rfl rfl (by decide) rfl rfl hok4 (by first| (simp;done)| (simp;omega)) (cj (.tail _ (.head _))) (by simp [Value.oneCell']) (by rw [show Tryz.t3.bytes=8 from rfl];omega)) ?_
   rintro _ _ ⟨bs6,cp7,hok8,hle9,rfl,rfl⟩
   rw [show aF .i64 l++[(.int .i64 x)]=aF .i64 (l++[x]) from dW _ _ _]
   rw [show l.length+1=(l++[x]).length from by simp] at hok8 hle9⊢
   refine cV rfl (bU 3 C7 rfl CK rfl rfl (aR ?_))
   refine ts (cM CK rfl rfl rfl (nB rfl) rfl) ?_
   refine td hK4 (av (fun _ hK5=>aA rfl (td hK5 (ay (aR (ak ?_))))))
   refine aM rfl rfl ?_
   rw [show decide ((l.length:Int)≥A)=false from (decide_eq_false h1)]
   exact ⟨_,_,hok8,hle9,rfl,rfl⟩
theorem qd{R:List HP}{p:Nat}{A:Int}{bl:Option Addr}{cl:Nat}{u1 u2:Value}{l:List Int}(x:Int)(okl:bB bl l.length)(hl:l.length≤1000000):
 Ok Tryz.prog 125 [(vP p 2),(vI x)] ((bI p [u1,u2,(vI A),(.slice bl l.length cl)] 136)::(SlV 3 1 (.slice bl l.length cl) l.length (aF .i64 l))::R)
  (fun v M=>bB bl (l.erase x).length∧v=.bool (l.contains x)∧M=bI p [u1,u2,.int .i64 A,.slice bl (l.erase x).length cl] 136::SlV 3 1 (.slice bl (l.erase x).length cl) (l.erase x).length (aF .i64 (l.erase x))::R):=by
 refine aP (N:=25) Tryz.func125 rfl rfl rfl (fun W=>?_)
 refine av (fun _ hK1=>aA rfl (td hK1 (av (fun _ hK2=>ag rfl (cV rfl (bU 3 C7 rfl CK rfl rfl ?_))))))
 refine bK CL rfl (aa (.head _) rfl) (ag rfl ?_)
 refine bN Tryz.call154 rfl (mH l x (cj (.tail _ (.head _))) okl (by first|omega| (simp;omega)| (simp;done))) ?_
 rintro _ _ ⟨rfl,rfl⟩
 refine aA rfl (td hK2 (ai (fun _ hK3=>av (fun _ hK4=>ag rfl ?_))))
 by_cases h1:(eU (fun y=>decide (x=y)) l)<0
 ·refine tp rfl (aJ rfl rfl (decide_eq_true h1)) (td hK4 (aG rfl (av (fun _ hK5=>aA rfl (td hK5 (ay ?_))))))
  refine aK ?_
  refine aM rfl rfl ?_
  have hc:=rG (v:=x) (xs:=l) ‹_›
  rw [hc,List.erase_of_not_mem (by simpa using hc)]
  exact ⟨okl,rfl,rfl⟩
 ·refine tp rfl (aJ rfl rfl (decide_eq_false h1)) (td hK4 (ar rfl (dp hK3 (av (fun _ hK5=>?_)))))
  have hi:=pS (v:=x) (xs:=l) (by omega)
  rw [show eU (fun y=>decide (x=y)) l=((eU (fun y=>decide (x=y)) l).toNat:Int) by omega]
  refine ag rfl (ag rfl (cV rfl (bU 3 C7 rfl CK rfl rfl (bK CL rfl (aa (.head _) rfl) (ag rfl (ag rfl (tp rfl (aX (c:=(((eU (fun y=>decide (x=y)) l).toNat+1:Nat):Int)) rfl rfl (aB (by omega))) ?_)))))))
  refine aE ?_
  refine bN Tryz.call155 rfl (pb (cx:=cl) l ((eU (fun y=>decide (x=y)) l).toNat) hi.2.1) ?_
  rintro _ _ ⟨rfl,rfl⟩
  refine cV rfl (bU 3 C7 rfl CK rfl rfl (aE ?_))
  refine ts (cM CK rfl rfl rfl (nB rfl) rfl) ?_
  refine td hK5 (av (fun _ hK6=>aA rfl (td hK6 (ay ?_))))
  rw [hi.2.2]
  refine aM rfl rfl ?_
  rw [hi.1]
  exact ⟨fun _=>okl (by omega),rfl,rfl⟩
theorem xR{R:List HP}{p:Nat}{A:Int}{bl:Option Addr}{cl:Nat}{u1 u2:Value}{l:List Int}(x:Int)(okl:bB bl l.length)(hl:l.length≤1000000):
 Ok Tryz.prog 122 [(vP p 2),(vI x)] ((bI p [u1,u2,(vI A),(.slice bl l.length cl)] 136)::(SlV 3 1 (.slice bl l.length cl) l.length (aF .i64 l))::R)
  (fun v M=>v=.bool (l.contains x)∧M=bI p [u1,u2,.int .i64 A,.slice bl l.length cl] 136::SlV 3 1 (.slice bl l.length cl) l.length (aF .i64 l)::R):=by
 refine aP (N:=11) Tryz.func122 rfl rfl rfl (fun W=>?_)
 refine av (fun _ hK1=>aA rfl (td hK1 (av (fun _ hK2=>ag rfl (cV rfl (bU 3 C7 rfl CK rfl rfl ?_))))))
 refine bK CL rfl (aa (.head _) rfl) (ag rfl ?_)
 refine bN Tryz.call151 rfl (mg l x (cj (.tail _ (.head _))) okl (by first|omega| (simp;omega)| (simp;done))) ?_
 rintro _ _ ⟨rfl,rfl⟩
 refine aA rfl (td hK2 (ay ?_))
 refine aM rfl rfl ?_
 exact ⟨rfl,rfl⟩
end Go.Proofs.YtanfdikglplkaaaGreatDoor
set_option maxRecDepth 100000
namespace Go.Proofs.YtanfdikglplkaaaGreatDoor
open Go Go.Proofs Sp
theorem Al{R:List HP}(x y:Int):
 Ok Tryz.prog 38 [(vI x),(vI y)] R
  (fun v M=> ∃p,v=.pointer (some ⟨p,0,none⟩)∧M=dv p (max x 1) (max y 0) ⟨[],[]⟩::R):=by
 refine aP (N:=13) Tryz.func38 rfl rfl rfl (fun W=>?_)
 refine av (fun _ hK1=>aA rfl (td hK1 (av (fun _ hK2=>ag rfl (tp rfl (fm (c:=max x 1) rfl rfl rfl) (tp rfl (bG (cs:=[(vI (max x 1)),(.slice none 0 0)]) (pl:=[(0,1),(1,1)]) C7 Tryz.zeroValue134 (fun _=>by simp) rfl rfl) ?_))))))
 refine ag rfl (tp rfl (fm (c:=max y 0) rfl rfl rfl) (tp rfl (bG (cs:=[(vI (max y 0)),(.slice none 0 0)]) (pl:=[(0,1),(1,1)]) C7 Tryz.zeroValue134 (fun _=>by simp) rfl rfl) ?_))
 refine tp rfl (bG (cs:=[(vI (max x 1)),(.slice none 0 0),(vI (max y 0)),(.slice none 0 0)]) (pl:=[(0,2),(2,2)]) DD Tryz.zeroValue136 (fun _=>by simp) rfl rfl) ?_
 refine tm rfl (cZ rfl rfl) ?_
 rintro _ _ ⟨b1,rfl,rfl⟩
 refine aA rfl (td hK2 (ay ?_))
 refine bO (fun _ h=>cz 3 1 h) ?_
 refine bO (fun _ h=>cz 3 1 h) ?_
 refine aR ?_
 refine gm (a:=[]) (q:=[]) ⟨[],[]⟩ (AOk.new _ _) rfl rfl cn cn ?_
 refine aM rfl rfl ?_
 exact ⟨_,rfl,rfl⟩
theorem lE{R:List HP}{p:Nat}{A Q:Int}{s:AS}(hb:s.a.length+s.q.length≤100000):
 Ok Tryz.prog 42 [(vP p 0)] ((dv p A Q s)::R)
  (dZ 3 1 s.a.length (aF .i64 s.a) (dv p A Q s::R)):=by
 refine aP (N:=7) Tryz.func42 rfl rfl rfl (fun W=>?_)
 refine nG (fun ba ka bq kq hF=>?_)
 have hA1:=hF.ok.A1
 have hla:=hF.ok.la
 have hlq:=hF.ok.lq
 refine av (fun _ hK1=>aA rfl (td hK1 (av (fun _ hK2=>ag rfl (cV rfl (bU 0 DD rfl DG rfl rfl ?_))))))
 refine aE (aE ?_)
 refine bN Tryz.call70 rfl (yQ (l:=s.a) hF.k1 (by omega)) ?_
 rintro _ _ ⟨bs1,cp2,hok3,hle4,rfl,rfl⟩
 refine aA rfl (td hK2 (ay (aS (aS (aS ?_)))))
 refine gm s hF.ok rfl rfl hF.k1 hF.k2 ?_
 refine aE ?_
 refine aM rfl rfl ?_
 exact ⟨_,_,hok3,hle4,rfl,rfl⟩
set_option maxHeartbeats 4000000 in
theorem x3{R:List HP}{p:Nat}{A Q:Int}{s:AS}(x:Int)(hb:s.a.length+s.q.length≤100000):
 Ok Tryz.prog 73 [(vP p 0),(vI x)] ((dv p A Q s)::R)
  (fun v M=>v=.tuple #[.int .i64 (Bd s x),.bool (dV s x)]∧M=dv p A Q s::R):=by
 refine aP (N:=18) Tryz.func73 rfl rfl rfl (fun W=>?_)
 refine nG (fun ba ka bq kq hF=>?_)
 have hA1:=hF.ok.A1
 have hla:=hF.ok.la
 have hlq:=hF.ok.lq
 refine av (fun _ hK1=>aA rfl (aA rfl (td hK1 (ai (fun _ hK2=>aH (av (fun _ hK3=>?_)))))))
 refine ag rfl (cV rfl (bU 0 DD rfl DG rfl rfl (ag rfl (aE (aE ?_)))))
 refine bN Tryz.call122 rfl (yg (l:=s.a) x hF.k1 (by omega)) ?_
 rintro _ _ ⟨rfl,rfl⟩
 refine aA rfl (td hK3 ?_)
 refine cW rfl (fun c1=>?_) (fun c1=>?_)
 ·refine av (fun _ hK4=>aA rfl (aA rfl (td hK4 (ay ?_))))
  refine cH ?_
  refine aK ?_
  refine aR (aR (aR ?_))
  refine gm s hF.ok rfl rfl hF.k1 hF.k2 ?_
  refine dc rfl rfl rfl ?_
  exact ⟨by first| (simp only [Bd,dV,jW,jY,c1];done)| (simp only [Bd,dV,jW,jY,c1];rfl),rfl⟩
 ·refine av (fun _ hK4=>ag rfl (cV rfl (bU 2 DD rfl DG rfl rfl (ag rfl (aR (aE ?_))))))
  refine bN Tryz.call122 rfl (xR (l:=s.q) x hF.k2 (by omega)) ?_
  rintro _ _ ⟨rfl,rfl⟩
  refine aA rfl (td hK4 ?_)
  refine cW rfl (fun c2=>?_) (fun c2=>?_)
  ·refine av (fun _ hK5=>aA rfl (aA rfl (td hK5 (ay ?_))))
   refine cH ?_
   refine aK ?_
   refine aE (aR (aR ?_))
   refine gm s hF.ok rfl rfl hF.k1 hF.k2 ?_
   refine dc rfl rfl rfl ?_
   exact ⟨by first| (simp only [Bd,dV,jW,jY,c1,c2];done)| (simp only [Bd,dV,jW,jY,c1,c2];rfl),rfl⟩
  ·refine cS (aZ (qn hK2 (av (fun _ hK5=>aA rfl (aA rfl (td hK5 (ay ?_)))))))
   refine aE (aR (aR ?_))
   refine gm s hF.ok rfl rfl hF.k1 hF.k2 ?_
   refine dc rfl rfl rfl ?_
   exact ⟨by first| (simp only [Bd,dV,jW,jY,c1,c2];done)| (simp only [Bd,dV,jW,jY,c1,c2];rfl),rfl⟩
set_option maxHeartbeats 4000000 in
theorem AH{R:List HP}{p:Nat}{A Q:Int}{s:AS}(x:Int)(hb:s.a.length+s.q.length≤100000):
 Ok Tryz.prog 44 [(vP p 0),(vI x)] ((dv p A Q s)::R)
  (fun v M=>v=.tuple #[.int .i64 (eg A Q s x),.int .i64 (eE A Q s x)]∧M=dv p A Q (fg A Q s x)::R):=by
 refine aP (N:=28) Tryz.func44 rfl rfl rfl (fun W=>?_)
 refine av (fun _ hK1=>aA rfl (aA rfl (td hK1 (av (fun _ hK2=>ag rfl (ag rfl ?_))))))
 refine bN Tryz.call73 rfl (x3 (A:=A) (Q:=Q) (s:=s) x (by omega)) ?_
 rintro _ _ ⟨rfl,rfl⟩
 refine ag rfl (tp rfl (aW rfl rfl) (tp rfl (aW rfl rfl) (aA rfl (aA rfl (td hK2 (ai (fun _ hK3=>aH (ai (fun _ hK4=>?_)))))))))
 refine aj (ag rfl (aA rfl (td hK4 ?_)))
 refine cW rfl (fun c1=>?_) (fun c1=>?_)
 ·refine av (fun _ hK5=>aA rfl (aA rfl (td hK5 (ay ?_))))
  refine cH ?_
  refine aK ?_
  rw [show dv p A Q s=dv p A Q (fg A Q s x) from by rw [show fg A Q s x=s from (by first| (simp only [fg,eg,eE,fp,fz,c1];done)| (simp only [fg,eg,eE,fp,fz,c1];rfl))]]
  refine dc rfl rfl rfl ?_
  exact ⟨(by first| (simp only [fg,eg,eE,fp,fz,c1];done)| (simp only [fg,eg,eE,fp,fz,c1];rfl)),rfl⟩
 ·refine av (fun _ hK5=>?_)
  refine nG (fun ba ka bq kq hF=>?_)
  have hA1:=hF.ok.A1
  have hla:=hF.ok.la
  have hlq:=hF.ok.lq
  refine ag rfl (cV rfl (bU 0 DD rfl DG rfl rfl (ag rfl (aE (aE ?_)))))
  refine bN Tryz.call74 rfl (si (A:=A) (l:=s.a) x hF.k1 (by omega)) ?_
  rintro _ _ ⟨bs2,cp3,hok4,hle5,rfl,rfl⟩
  refine aA rfl (td hK5 ?_)
  refine cW rfl (fun c6=>?_) (fun c6=>?_)
  ·refine av (fun _ hK6=>aA rfl (aA rfl (td hK6 (ay ?_))))
   refine cH ?_
   refine aK ?_
   refine aR (aR (aR ?_))
   refine gm (fg A Q s x) (hF.ok.add x) (by first| (simp only [fg,eg,eE,fp,fz,c1,c6];done)| (simp only [fg,eg,eE,fp,fz,c1,c6];rfl)) (by first| (simp only [fg,eg,eE,fp,fz,c1,c6];done)| (simp only [fg,eg,eE,fp,fz,c1,c6];rfl)) hok4 hF.k2 ?_
   refine dc rfl rfl rfl ?_
   exact ⟨(by first| (simp only [fg,eg,eE,fp,fz,c1,c6];done)| (simp only [fg,eg,eE,fp,fz,c1,c6];rfl)),rfl⟩
  ·refine av (fun _ hK6=>ag rfl (cV rfl (bU 2 DD rfl DG rfl rfl (ag rfl (aR (aE ?_))))))
   refine bN Tryz.call74 rfl (xI (A:=Q) (l:=s.q) x hF.k2 (by omega)) ?_
   rintro _ _ ⟨bs7,cp8,hok9,hle10,rfl,rfl⟩
   refine aA rfl (td hK6 ?_)
   refine cW rfl (fun c11=>?_) (fun c11=>?_)
   ·refine av (fun _ hK7=>aA rfl (aA rfl (td hK7 (ay ?_))))
    refine cH ?_
    refine aK ?_
    refine aE (aR (aR ?_))
    refine gm (fg A Q s x) (hF.ok.add x) (by first| (simp only [fg,eg,eE,fp,fz,c1,c6,c11];done)| (simp only [fg,eg,eE,fp,fz,c1,c6,c11];rfl)) (by first| (simp only [fg,eg,eE,fp,fz,c1,c6,c11];done)| (simp only [fg,eg,eE,fp,fz,c1,c6,c11];rfl)) hok4 hok9 ?_
    refine dc rfl rfl rfl ?_
    exact ⟨(by first| (simp only [fg,eg,eE,fp,fz,c1,c6,c11];done)| (simp only [fg,eg,eE,fp,fz,c1,c6,c11];rfl)),rfl⟩
   ·refine cS (aZ (qn hK3 (av (fun _ hK7=>aA rfl (aA rfl (td hK7 (ay ?_)))))))
    refine aE (aR (aR ?_))
    refine gm (fg A Q s x) (hF.ok.add x) (by first| (simp only [fg,eg,eE,fp,fz,c1,c6,c11];done)| (simp only [fg,eg,eE,fp,fz,c1,c6,c11];rfl)) (by first| (simp only [fg,eg,eE,fp,fz,c1,c6,c11];done)| (simp only [fg,eg,eE,fp,fz,c1,c6,c11];rfl)) hok4 hok9 ?_
    refine dc rfl rfl rfl ?_
    exact ⟨(by first| (simp only [fg,eg,eE,fp,fz,c1,c6,c11];done)| (simp only [fg,eg,eE,fp,fz,c1,c6,c11];rfl)),rfl⟩
set_option maxHeartbeats 4000000 in
theorem zx{R:List HP}{p:Nat}{A Q:Int}{s:AS}(x:Int)(hb:s.a.length+s.q.length≤100000):
 Ok Tryz.prog 79 [(vP p 0),(vI x)] ((dv p A Q s)::R)
  (fun v M=>v=.tuple #[.int .i64 (fq s x),.int .i64 (eG s x)]∧M=dv p A Q (eQ s x)::R):=by
 refine aP (N:=46) Tryz.func79 rfl rfl rfl (fun W=>?_)
 refine nG (fun ba ka bq kq hF=>?_)
 have hA1:=hF.ok.A1
 have hla:=hF.ok.la
 have hlq:=hF.ok.lq
 refine av (fun _ hK1=>aA rfl (aA rfl (td hK1 (ai (fun _ hK2=>aH (av (fun _ hK3=>?_)))))))
 refine ag rfl (cV rfl (bU 2 DD rfl DG rfl rfl (ag rfl (aR (aE ?_)))))
 refine bN Tryz.call125 rfl (qd (l:=s.q) x hF.k2 (by omega)) ?_
 rintro _ _ ⟨hok1,rfl,rfl⟩
 refine aA rfl (td hK3 ?_)
 refine cW rfl (fun c2=>?_) (fun c2=>?_)
 ·refine av (fun _ hK4=>aA rfl (aA rfl (td hK4 (ay ?_))))
  refine cH ?_
  refine aK ?_
  have hnx:=c2
  refine aE (aR (aR ?_))
  refine gm (eQ s x) (hF.ok.ende x) (by first| (simp only [eQ,fq,eG,dV,jW,jY,c2,cond_true,cond_false,Bool.not_true,Bool.not_false,Bool.true_or,Bool.or_true,Bool.false_or,Bool.or_false];done)| (simp only [eQ,fq,eG,dV,jW,jY,c2,cond_true,cond_false,Bool.not_true,Bool.not_false,Bool.true_or,Bool.or_true,Bool.false_or,Bool.or_false];rfl)) (by first| (simp only [eQ,fq,eG,dV,jW,jY,c2,cond_true,cond_false,Bool.not_true,Bool.not_false,Bool.true_or,Bool.or_true,Bool.false_or,Bool.or_false];done)| (simp only [eQ,fq,eG,dV,jW,jY,c2,cond_true,cond_false,Bool.not_true,Bool.not_false,Bool.true_or,Bool.or_true,Bool.false_or,Bool.or_false];rfl)) hF.k1 hok1 ?_
  refine dc rfl rfl rfl ?_
  exact ⟨(by first| (simp only [eQ,fq,eG,dV,jW,jY,c2,cond_true,cond_false,Bool.not_true,Bool.not_false,Bool.true_or,Bool.or_true,Bool.false_or,Bool.or_false];done)| (simp only [eQ,fq,eG,dV,jW,jY,c2,cond_true,cond_false,Bool.not_true,Bool.not_false,Bool.true_or,Bool.or_true,Bool.false_or,Bool.or_false];rfl)),rfl⟩
 ·refine av (fun _ hK4=>?_)
  rw [show (s.q.erase x)=s.q from List.erase_of_not_mem (by have:=c2;simpa using this)] at hok1⊢
  refine ag rfl (cV rfl (bU 0 DD rfl DG rfl rfl (ag rfl (aR (aE ?_)))))
  refine bN Tryz.call125 rfl (wI (l:=s.a) x hF.k1 (by omega)) ?_
  rintro _ _ ⟨hok3,rfl,rfl⟩
  refine tp rfl (dy (c:= !(s.a.contains x)) rfl rfl) (aA rfl (td hK4 ?_))
  refine cW rfl (fun c4=>?_) (fun c4=>?_)
  ·refine av (fun _ hK5=>?_)
   rw [show (s.a.erase x)=s.a from List.erase_of_not_mem (by have:=c4;simpa using this)] at hok3⊢
   refine aA rfl (aA rfl (td hK5 (ay ?_)))
   refine cH ?_
   refine aK ?_
   have hnx:=c4
   refine aR (aR (aR ?_))
   refine gm (eQ s x) (hF.ok.ende x) (by first| (simp only [eQ,fq,eG,dV,jW,jY,c2,(show (s.a.contains x)=false from by have:=c4;simpa using this),cond_true,cond_false,Bool.not_true,Bool.not_false,Bool.true_or,Bool.or_true,Bool.false_or,Bool.or_false];done)| (simp only [eQ,fq,eG,dV,jW,jY,c2,(show (s.a.contains x)=false from by have:=c4;simpa using this),cond_true,cond_false,Bool.not_true,Bool.not_false,Bool.true_or,Bool.or_true,Bool.false_or,Bool.or_false];rfl)) (by first| (simp only [eQ,fq,eG,dV,jW,jY,c2,(show (s.a.contains x)=false from by have:=c4;simpa using this),cond_true,cond_false,Bool.not_true,Bool.not_false,Bool.true_or,Bool.or_true,Bool.false_or,Bool.or_false];done)| (simp only [eQ,fq,eG,dV,jW,jY,c2,(show (s.a.contains x)=false from by have:=c4;simpa using this),cond_true,cond_false,Bool.not_true,Bool.not_false,Bool.true_or,Bool.or_true,Bool.false_or,Bool.or_false];rfl)) hok3 hok1 ?_
   refine dc rfl rfl rfl ?_
   exact ⟨(by first| (simp only [eQ,fq,eG,dV,jW,jY,c2,(show (s.a.contains x)=false from by have:=c4;simpa using this),cond_true,cond_false,Bool.not_true,Bool.not_false,Bool.true_or,Bool.or_true,Bool.false_or,Bool.or_false];done)| (simp only [eQ,fq,eG,dV,jW,jY,c2,(show (s.a.contains x)=false from by have:=c4;simpa using this),cond_true,cond_false,Bool.not_true,Bool.not_false,Bool.true_or,Bool.or_true,Bool.false_or,Bool.or_false];rfl)),rfl⟩
  ·refine av (fun _ hK5=>?_)
   have hel:=kS (l:=s.a) (x:=x) (by have:=c4;simpa using this)
   refine ag rfl (cV rfl (bU 2 DD rfl DG rfl rfl (bU 3 C7 rfl CK rfl rfl (bK CL rfl (aa (.head _) rfl) (tp rfl (bC CI rfl rfl) ?_)))))
   by_cases h5:(s.q.length:Int)=0
   ·refine tp rfl (aV rfl rfl (beq_iff_eq.2 h5)) (aA rfl (td hK5 (aG rfl (av (fun _ hK6=>aA rfl (aA rfl (aI ?_)))))))
    refine qn hK6 (ay ?_)
    refine cH ?_
    refine aK ?_
    have hq0:s.q=[]:=List.eq_nil_of_length_eq_zero (by omega)
    have hnx:=c4
    refine aR (aR (aR ?_))
    refine gm (eQ s x) (hF.ok.ende x) (by first| (simp only [eQ,fq,eG,dV,jW,jY,hq0,c2,(show (s.a.contains x)=true from by have:=c4;simpa using this),cond_true,cond_false,Bool.not_true,Bool.not_false,Bool.true_or,Bool.or_true,Bool.false_or,Bool.or_false];done)| (simp only [eQ,fq,eG,dV,jW,jY,hq0,c2,(show (s.a.contains x)=true from by have:=c4;simpa using this),cond_true,cond_false,Bool.not_true,Bool.not_false,Bool.true_or,Bool.or_true,Bool.false_or,Bool.or_false];rfl)) (by first| (simp only [eQ,fq,eG,dV,jW,jY,hq0,c2,(show (s.a.contains x)=true from by have:=c4;simpa using this),cond_true,cond_false,Bool.not_true,Bool.not_false,Bool.true_or,Bool.or_true,Bool.false_or,Bool.or_false];done)| (simp only [eQ,fq,eG,dV,jW,jY,hq0,c2,(show (s.a.contains x)=true from by have:=c4;simpa using this),cond_true,cond_false,Bool.not_true,Bool.not_false,Bool.true_or,Bool.or_true,Bool.false_or,Bool.or_false];rfl)) hok3 hok1 ?_
    refine dc rfl rfl rfl ?_
    exact ⟨(by first| (simp only [eQ,fq,eG,dV,jW,jY,hq0,c2,(show (s.a.contains x)=true from by have:=c4;simpa using this),cond_true,cond_false,Bool.not_true,Bool.not_false,Bool.true_or,Bool.or_true,Bool.false_or,Bool.or_false];done)| (simp only [eQ,fq,eG,dV,jW,jY,hq0,c2,(show (s.a.contains x)=true from by have:=c4;simpa using this),cond_true,cond_false,Bool.not_true,Bool.not_false,Bool.true_or,Bool.or_true,Bool.false_or,Bool.or_false];rfl)),rfl⟩
   ·refine tp rfl (aV rfl rfl (beq_eq_false_iff_ne.2 h5)) (aA rfl (td hK5 (ar rfl (cS (aZ (qn hK2 (av (fun _ hK6=>?_))))))))
    refine ag rfl (cV rfl (bU 2 DD rfl DG rfl rfl (bU 3 C7 rfl CK rfl rfl (bK CL rfl (aa (.head _) rfl) (tp rfl (ah (k':=0) CI CG rfl rfl hok1 (by omega) (by omega) (by omega)) ?_)))))
    refine bK CH rfl (aw (.tail _ (.tail _ (.head _))) (aQ (by omega))) ?_
    refine aA rfl (td hK6 (av (fun _ hK7=>ag rfl (cV rfl (bU 2 DD rfl DG rfl rfl (ag rfl (aR ?_)))))))
    refine aE ?_
    refine bN Tryz.call125 rfl (qd (l:=s.q) ((s.q).getD 0 0) hok1 (by omega)) ?_
    rintro _ _ ⟨hok6,rfl,rfl⟩
    refine td hK7 (av (fun _ hK8=>ag rfl (cV rfl (bU 0 DD rfl DG rfl rfl (ag rfl (aR (aE ?_)))))))
    refine bN Tryz.call74 rfl (si (A:=A) (l:=(s.a.erase x)) ((s.q).getD 0 0) hok3 (by omega)) ?_
    rintro _ _ ⟨bs7,cp8,hok9,hle10,rfl,rfl⟩
    refine td hK8 (av (fun _ hK9=>ag rfl (aA rfl (aA rfl (td hK9 (ay ?_))))))
    have hen:=wy (x:=x) hF.ok c2 (by have:=c4;simpa using this) (by omega)
    refine aR (aR (aR ?_))
    refine gm (eQ s x) (hF.ok.ende x) hen.1 hen.2.1 hok9 hok6 ?_
    refine dc rfl rfl rfl ?_
    exact ⟨by rw [hen.2.2.1,hen.2.2.2],rfl⟩
end Go.Proofs.YtanfdikglplkaaaGreatDoor
