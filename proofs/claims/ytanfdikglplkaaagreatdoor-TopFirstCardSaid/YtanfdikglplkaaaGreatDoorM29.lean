/- Parts Ra0, Oa: own lemmas and contracts of the code that the claim reaches. -/
import Derived.Test.YtanfdikglplkaaaGreatDoorM03
import Derived.Test.YtanfdikglplkaaaGreatDoorM04
import Derived.Test.YtanfdikglplkaaaGreatDoorM20
import Derived.Test.YtanfdikglplkaaaGreatDoorM21
import Derived.Test.YtanfdikglplkaaaGreatDoorM13
import Derived.Test.YtanfdikglplkaaaGreatDoorM12
import Derived.Test.YtanfdikglplkaaaGreatDoorM05
set_option linter.unusedSimpArgs false
set_option linter.unusedVariables false
set_option maxRecDepth 100000
namespace Go.Proofs.YtanfdikglplkaaaGreatDoor
open Go Go.Proofs Sp
set_option maxHeartbeats 4000000 in
theorem y9{R:List HP}(N:Nat)(hN:N≤64):
 Ok Tryz.prog 164 [(.int .u64 1),(.int .u64 (N:Int))] R
  (fun v M=>v=.tuple #[.int .u64 0,.int .u64 (N:Int)]∧M=R):=by
 refine aP (N:=51) Tryz.func164 rfl rfl rfl (fun W=>?_)
 refine av (fun _ hK1=>aA rfl (aA rfl (td hK1 (av (fun _ hK2=>ag rfl (tp rfl (jM (c:=1) rfl rfl rfl) ?_))))))
 refine aA rfl (td hK2 (av (fun _ hK3=>ag rfl (tp rfl (j4 (c:=0) rfl rfl (by decide) rfl) ?_))))
 refine aA rfl (td hK3 (av (fun _ hK4=>ag rfl (tp rfl (jM (c:=(N:Int)) rfl rfl (A2 N (by omega))) ?_))))
 refine aA rfl (td hK4 (av (fun _ hK5=>ag rfl (tp rfl (j4 (c:=0) rfl rfl (by decide) (yz N (by omega))) ?_))))
 refine aA rfl (td hK5 (av (fun _ hK6=>ag rfl (ag rfl (tp rfl (jB (c:=(N:Int)) rfl rfl (by rw [Int.one_mul];exact nW (by omega) (by omega))) ?_)))))
 refine aA rfl (td hK6 (av (fun _ hK7=>ag rfl (ag rfl (tp rfl (jB (c:=0) rfl rfl (by rw [Int.zero_mul];decide)) ?_)))))
 refine ag rfl (tp rfl (j4 (c:=0) rfl rfl (by decide) (yz N (by omega))) ?_)
 refine tp rfl (aX (c:=0) rfl rfl (by decide)) ?_
 refine aA rfl (td hK7 (av (fun _ hK8=>ag rfl (tp rfl (jM (c:=0) rfl rfl rfl) (aA rfl (td hK8 ?_))))))
 refine av (fun _ hK9=>ag rfl (tp rfl (j4 (c:=0) rfl rfl (by decide) rfl) ?_))
 refine aA rfl (td hK9 (av (fun K10 hK10=>ag rfl (ag rfl (ag rfl (tp rfl (jB (c:=0) rfl rfl (by decide)) ?_))))))
 refine tp rfl (aX (c:=0) rfl rfl (by decide)) ?_
 refine aA rfl (td hK10 (av (fun _ hK11=>ag rfl (ag rfl (tp rfl (jB (c:=0) rfl rfl (by decide)) ?_)))))
 refine ag rfl (tp rfl (aX (c:=0) rfl rfl (by decide)) ?_)
 refine ag rfl (tp rfl (j4 (c:=0) rfl rfl (by decide) rfl) ?_)
 refine tp rfl (aX (c:=0) rfl rfl (by decide)) ?_
 refine aA rfl (td hK11 (av (fun _ hK12=>ag rfl (ag rfl (tp rfl (jB (c:=(N:Int)) rfl rfl (by rw [Int.one_mul];exact nW (by omega) (by omega))) ?_)))))
 refine aA rfl (td hK12 (ay ?_))
 refine dc rfl rfl rfl ?_
 exact ⟨rfl,rfl⟩
theorem yY{R:List HP}(N:Nat)(hN:N≤64):
 Ok Tryz.prog 133 [(.int .u64 1),(.int .u64 (N:Int))] R
  (fun v M=>v=.tuple #[.int .u64 0,.int .u64 (N:Int)]∧M=R):=by
 refine aP (N:=30) Tryz.func133 rfl rfl rfl (fun W=>?_)
 refine av (fun _ hK1=>aA rfl (aA rfl (td hK1 (ai (fun _ hK2=>ar rfl (dp hK2 ?_))))))
 refine av (fun _ hK3=>ag rfl (ag rfl ?_))
 refine bN Tryz.call164 rfl (y9 N (by omega)) ?_
 rintro _ _ ⟨rfl,hMR⟩
 rw [hMR];clear hMR
 refine ag rfl (tp rfl (aW rfl rfl) (tp rfl (aW rfl rfl) (aA rfl (aA rfl (td hK3 (av (fun _ hK4=>ag rfl ?_)))))))
 refine ag rfl (aA rfl (aA rfl (td hK4 (ay ?_))))
 refine dc rfl rfl rfl ?_
 exact ⟨rfl,rfl⟩
set_option maxHeartbeats 4000000 in
theorem x8{R:List HP}{bx:Option Addr}{cx:Nat}(a:Int)(N:Nat)(hN:N≤64)(h0:0<N)(hx:Rd R bx (aF .i64 [a]))(okx:bB bx 1):
 Ok Tryz.prog 91 [(.slice bx 1 cx),(vN N)] R
  (dZ 3 1 N (aF .i64 (List.replicate N a)) R):=by
 refine aP (N:=48) Tryz.func91 rfl rfl rfl (fun W=>?_)
 refine av (fun _ hK1=>aA rfl (td hK1 (ai (fun _ hK2=>av (fun _ hK3=>ag rfl (tp rfl (aJ rfl rfl (decide_eq_false (by omega))) ?_))))))
 refine td hK3 (ar rfl (dp hK2 (av (fun _ hK4=>ag rfl (tp rfl (bC CI rfl rfl) (tp rfl (gy (c:=1) C4 Ed rfl (by decide)) ?_))))))
 refine ag rfl (tp rfl (gy (c:=(N:Int)) C4 Ed rfl (nW (by omega) (by omega))) ?_)
 refine bN Tryz.call133 rfl (yY N (by omega)) ?_
 rintro _ _ ⟨rfl,hMR⟩
 rw [hMR];clear hMR
 refine ag rfl (tp rfl (aW rfl rfl) (tp rfl (aW rfl rfl) (aA rfl (aA rfl (td hK4 (ai (fun _ hK5=>av (fun _ hK6=>?_))))))))
 refine ag rfl (tp rfl (cu (r:=false) rfl rfl (by decide)) ?_)
 refine ag rfl ?_
 refine ae rfl rfl ?_
 refine ag rfl ?_
 refine ae rfl rfl ?_
 refine tp rfl (cu rfl rfl (decide_eq_false (by omega))) ?_
 refine tp rfl (aC rfl rfl) (td hK6 (ar rfl (dp hK5 (av (fun _ hK7=>ag rfl (tp rfl (gy (c:=(N:Int)) Ed C4 rfl (cA (by omega) (by omega))) ?_))))))
 refine tm rfl (eP (i:=Tryz.t3) CI C1 rfl rfl rfl rfl rfl (by omega) (by rw [show Tryz.t3.bytes=8 from rfl];omega) (by omega)) ?_
 rintro _ _ ⟨bs1,cp2,hok3,hle4,rfl,rfl⟩
 rw [iX]
 refine aA rfl (td hK7 (av (fun _ hK8=>ag rfl (ag rfl ?_))))
 refine tm rfl (uW (i:=Tryz.t3) (l:=0) (c:=cp2) (q:=1) (news:=(aF .i64 [a])) CI C1 rfl (by rw [fI];rfl) rfl (by omega) (by omega) (by omega) (by omega) (fun _=>okx (by first|omega| (simp;omega))) rfl (Rd.cons hx) lU (ints_splice.trans (congrArg (aF .i64) (yW a N)))) ?_
 rintro _ _ ⟨rfl,rfl⟩
 refine aA rfl (td hK8 (ai (fun _ hK9=>aH ?_)))
 refine cE (γ:=(Nat)) (fun (n:Nat)=>1≤n∧n≤N) (fun (n:Nat)=>[(0,(.slice bx 1 cx)),(1,(vN N)),(4,(.slice none 0 0)),(5,(.int .u64 0)),(6,(.int .u64 (N:Int))),(7,(.slice bs1 N cp2)),(8,(vN n)),(10,(.bool false)),(26,(.bool false))]) (fun (n:Nat)=>(SlV 3 1 (.slice bs1 N cp2) N (aF .i64 (jZ a n N)))::R) (fun (n:Nat)=>N-n) (1) ⟨by omega,by omega⟩ ⟨rfl,rfl,rfl,rfl,rfl,rfl,rfl,rfl,rfl,trivial⟩ (fun _ h=>h) ?_
 rintro n K10 hF hK10
 try dsimp only at hF hK10⊢
 obtain ⟨h1n,hnN⟩:=hF
 have hrl:=yD (a:=a) hnN
 refine ai (fun _ hK11=>av (fun _ hK12=>ag rfl (ag rfl (tp rfl (bC CI rfl rfl) ?_))))
 by_cases h5:(n:Int)< (N:Int)
 ·refine tp rfl (aJ rfl rfl (decide_eq_true h5)) (td hK12 (aG rfl (dp hK11 (aH ?_))))
  refine bz (γ:=Unit) (n:=10) Tryz.mixed rfl rfl (fun _ S=>True) (fun _=>[(0,38,(vN n)),(1,39,(.slice bs1 N cp2)),(2,40,(vN n)),(3,41,(.slice (eu bs1 n cp2 1) (N-n) (cp2-n))),(4,42,(.slice bs1 N cp2)),(5,43,(vN n)),(6,44,(.slice bs1 n cp2)),(7,45,(vI ((min n (N-n):Nat):Int))),(8,46,(vI ((n+min n (N-n):Nat):Int))),(9,8,(vI ((n+min n (N-n):Nat):Int)))]) (fun _ S=>(bif S 7 then (SlV 3 1 (.slice bs1 N cp2) N (aF .i64 (jZ a (n+min n (N-n)) N))) else (SlV 3 1 (.slice bs1 N cp2) N (aF .i64 (jZ a n N))))::R) (()) trivial (fun _ h=>h) (fun _ _ h=>h) ?_ ?_
  ·refine ⟨?_,aU,?_,?_,aU,?_,?_,?_,?_,fh,trivial⟩
   ·intro _ S h s D p K k;exact bH (fu (t:=8) 9 (nf s D (k:=9) (i:=0) rfl) rfl rfl) (eX rfl) 0 rfl rfl s (k () h)
   ·intro _ S h s D p K k;exact bH (fu (t:=8) 9 (nf s D (k:=9) (i:=2) rfl) rfl rfl) (eX rfl) 2 rfl rfl s (k () h)
   ·rintro _ S hF hS D hp K hK;try dsimp only
    exact bV (bE hp 1 rfl rfl) (bE hp 2 rfl rfl) (ed (l:=n) (h:=N) (m:=cp2) (v:=(.slice (eu bs1 n cp2 1) (N-n) (cp2-n))) CI CG rfl rfl rfl rfl (.inr ⟨rfl,rfl⟩) (.inr ⟨rfl,rfl⟩) (.inl ⟨_,_,rfl,(by omega),(by omega),(by omega)⟩) (by simp) rfl) 3 rfl rfl hS (hK () hF)
   ·intro _ S h s D p K k;exact bH (fu (t:=8) 9 (nf s D (k:=9) (i:=5) rfl) rfl rfl) (eX rfl) 5 rfl rfl s (k () h)
   ·rintro _ S hF hS D hp K hK;try dsimp only
    exact bV (bE hp 4 rfl rfl) (bE hp 5 rfl rfl) (ed (l:=0) (h:=n) (m:=cp2) (v:=(.slice bs1 n cp2)) CI CG rfl rfl rfl rfl (.inr ⟨rfl,rfl⟩) (.inl ⟨_,_,rfl,(by omega),(by omega),(by omega)⟩) (.inr ⟨rfl,rfl⟩) (by simp) (by rw [fI];rfl)) 6 rfl rfl hS (hK () hF)
   ·rintro _ S hF hS D hp K hK
    try dsimp only at hF⊢
    refine bZ hp [41,44] rfl rfl ?_
    refine c9 hS ?_
    refine tm rfl (uW (i:=Tryz.t3) (l:=n) (c:=cp2) (q:=min n (N-n)) (news:=(aF .i64 (((jZ a n N).take n).take (min n (N-n))))) CI C1 rfl rfl rfl rfl (by omega) (by omega) (by omega) (fun _=>hok3 (by first|omega| (simp;omega))) (by simp;omega) (oJ (min n (N-n)) (oJ n (cj (.head _)))) lU (ints_splice.trans (congrArg (aF .i64) (vv (by omega) (by omega))))) ?_
    rintro _ _ ⟨rfl,rfl⟩
    exact cK hp hS (ti (hK () trivial)) rfl rfl rfl
   ·intro _ S h s D p K k;exact bV (bE p 0 rfl rfl) (bE p 7 rfl rfl) (aX (c:=((n+min n (N-n):Nat):Int)) rfl rfl ((cA (by omega) (by omega)).trans (by omega))) 8 rfl rfl s (k () h)
  ·rintro _ hF
   try dsimp only at hF⊢
   refine az (E':=[(0,(.slice bx 1 cx)),(1,(vN N)),(4,(.slice none 0 0)),(5,(.int .u64 0)),(6,(.int .u64 (N:Int))),(7,(.slice bs1 N cp2)),(8,(vI ((n+min n (N-n):Nat):Int))),(10,(.bool false)),(26,(.bool false)),(37,(.bool true))]) ⟨rfl,rfl,rfl,rfl,rfl,rfl,rfl,rfl,rfl,rfl,trivial⟩ ?_
   refine aZ (aN ?_)
   exact az (by exact ⟨rfl,rfl,rfl,rfl,rfl,rfl,rfl,rfl,rfl,trivial⟩) ((hK10 (n+min n (N-n)) ⟨by omega,by omega⟩ (by omega)))
 ·refine tp rfl (aJ rfl rfl (decide_eq_false h5)) (td hK12 (ar rfl (bT (au (au (bS (qn hK9 (ai (fun _ hK13=>?_)))))))))
  refine aj (ag rfl (aA rfl (td hK13 (ay ?_))))
  refine aM rfl rfl ?_
  have e:n=N:=by omega
  subst e
  rw [y6]
  exact ⟨_,_,hok3,hle4,rfl,rfl⟩
set_option maxHeartbeats 4000000 in
theorem yP{R:List HP}{bx:Option Addr}{cx:Nat}(a:Int)(N:Nat)(hN:N≤64)(h0:N=0)(hx:Rd R bx (aF .i64 [a]))(okx:bB bx 1):
 Ok Tryz.prog 91 [(.slice bx 1 cx),(vN N)] R
  (dZ 3 1 N (aF .i64 (List.replicate N a)) R):=by
 refine aP (N:=48) Tryz.func91 rfl rfl rfl (fun W=>?_)
 refine av (fun _ hK1=>aA rfl (td hK1 (ai (fun _ hK2=>av (fun _ hK3=>ag rfl (tp rfl (aJ rfl rfl (decide_eq_false (by omega))) ?_))))))
 refine td hK3 (ar rfl (dp hK2 (av (fun _ hK4=>ag rfl (tp rfl (bC CI rfl rfl) (tp rfl (gy (c:=1) C4 Ed rfl (by decide)) ?_))))))
 refine ag rfl (tp rfl (gy (c:=(N:Int)) C4 Ed rfl (nW (by omega) (by omega))) ?_)
 refine bN Tryz.call133 rfl (yY N (by omega)) ?_
 rintro _ _ ⟨rfl,hMR⟩
 rw [hMR];clear hMR
 refine ag rfl (tp rfl (aW rfl rfl) (tp rfl (aW rfl rfl) (aA rfl (aA rfl (td hK4 (ai (fun _ hK5=>av (fun _ hK6=>?_))))))))
 refine ag rfl (tp rfl (cu (r:=false) rfl rfl (by decide)) ?_)
 refine ag rfl ?_
 refine ae rfl rfl ?_
 refine ag rfl ?_
 refine ae rfl rfl ?_
 refine tp rfl (cu rfl rfl (decide_eq_false (by omega))) ?_
 refine tp rfl (aC rfl rfl) (td hK6 (ar rfl (dp hK5 (av (fun _ hK7=>ag rfl (tp rfl (gy (c:=(N:Int)) Ed C4 rfl (cA (by omega) (by omega))) ?_))))))
 refine tm rfl (eP (i:=Tryz.t3) CI C1 rfl rfl rfl rfl rfl (by omega) (by rw [show Tryz.t3.bytes=8 from rfl];omega) (by omega)) ?_
 rintro _ _ ⟨bs1,cp2,hok3,hle4,rfl,rfl⟩
 rw [iX]
 refine aA rfl (td hK7 (av (fun _ hK8=>ag rfl (ag rfl (tp rfl (xy (i:=Tryz.t3) CI C1 rfl rfl (by omega)) ?_)))))
 refine aA rfl (td hK8 (ai (fun _ hK9=>aH ?_)))
 refine cE (γ:=Unit) (fun _=>True) (fun _=>[(0,(.slice bx 1 cx)),(1,(vN N)),(4,(.slice none 0 0)),(5,(.int .u64 0)),(6,(.int .u64 (N:Int))),(7,(.slice bs1 N cp2)),(8,(vI 0)),(9,(vN N)),(10,(.bool false)),(12,(.tuple #[(.int .u64 0),(.int .u64 (N:Int))])),(13,(.slice bx 1 cx)),(14,(vI 1)),(15,(.int .u64 1)),(16,(vN N)),(17,(.int .u64 (N:Int))),(18,(.tuple #[(.int .u64 0),(.int .u64 (N:Int))])),(19,(.int .u64 0)),(20,(.int .u64 (N:Int))),(21,(.int .u64 0)),(22,(.bool false)),(23,(.bool false)),(24,(.int .u64 (N:Int))),(25,(.bool false)),(26,(.bool false)),(28,(.int .u64 (N:Int))),(29,(vN N)),(30,(.slice bs1 N cp2)),(31,(.slice bs1 N cp2)),(32,(.slice bx 1 cx)),(33,(vI 0))]) (fun _=>(SlV 3 1 (.slice bs1 N cp2) N (aF .i64 (List.replicate N 0)))::R) (fun _=>0) (()) trivial ⟨rfl,rfl,rfl,rfl,rfl,rfl,rfl,rfl,rfl,rfl,rfl,rfl,rfl,rfl,rfl,rfl,rfl,rfl,rfl,rfl,rfl,rfl,rfl,rfl,rfl,rfl,rfl,rfl,rfl,rfl,trivial⟩ (fun _ h=>h) ?_
 rintro ⟨⟩ K10 hF hK10
 try dsimp only at hF hK10⊢
 refine ai (fun _ hK11=>av (fun _ hK12=>ag rfl (ag rfl (tp rfl (bC CI rfl rfl) (tp rfl (aJ rfl rfl (decide_eq_false (by omega))) ?_)))))
 refine td hK12 (ar rfl (bT (au (au (bS (qn hK9 (av (fun _ hK13=>?_))))))))
 refine ag rfl (aA rfl (td hK13 (ay ?_)))
 refine aM rfl rfl ?_
 subst h0
 exact ⟨_,_,hok3,hle4,rfl,rfl⟩
theorem pD{R:List HP}{bx:Option Addr}{cx:Nat}(a:Int)(N:Nat)(hN:N≤64)(hx:Rd R bx (aF .i64 [a]))(okx:bB bx 1):Ok Tryz.prog 91 [.slice bx 1 cx,.int .i64 (N:Int)] R (dZ 3 1 N (aF .i64 (List.replicate N a)) R):=by
 rcases Nat.eq_zero_or_pos N with h|h
 ·exact yP a N hN h hx okx
 ·exact x8 a N hN h hx okx
end Go.Proofs.YtanfdikglplkaaaGreatDoor
set_option maxRecDepth 100000
namespace Go.Proofs.YtanfdikglplkaaaGreatDoor
open Go Go.Proofs Sp
set_option maxHeartbeats 4000000 in
theorem Cc{R:List HP}{g N nr cl:Nat}{E:Es}{bl:Option Addr}(rs:List R3)(hn:rs.length=nr)(hl:Rd R bl (bJ qx rs))(okl:bB bl nr)(lr:nr≤1000000)(hT:Tab R):
 Ok Tryz.prog 52 [(vP g 0),(.slice bl nr cl)] ((aT g N E)::R)
  (dZ 3 1 N (aF .i64 (iE N E rs)) (aT g N E::R)):=by
 refine aP (N:=42) Tryz.func52 rfl rfl rfl (fun W=>?_)
 refine aY (fun _ h=>fH h) (fun hgok=>?_)
 have hsmall:=hgok.small
 refine av (fun _ hK1=>aA rfl (td hK1 (av (fun _ hK2=>?_))))
 refine tm rfl (aD (cs:=[(vI (-1))]) CI CG CN (by decide) rfl rfl rfl rfl) ?_
 rintro _ _ ⟨bs1,cp2,hok3,hle4,rfl,rfl⟩
 refine ag rfl (aE ?_)
 refine bN Tryz.call92 rfl (BM) ?_
 rintro _ _ ⟨rfl,rfl⟩
 refine bN Tryz.call91 rfl (pD (-1) N (by omega) (cj (.tail _ (.head _))) (fun _=>(fun hz=>hok3 (by first|exact hz|omega)) (by omega))) ?_
 rintro _ _ ⟨bs5,cp6,hok7,hle8,rfl,rfl⟩
 refine aA rfl (td hK2 (ai (fun _ hK3=>av (fun _ hK4=>ag rfl (tp rfl (bC Ew rfl rfl) (ag rfl (aI ?_)))))))
 refine qn hK4 (aH ?_)
 rw [show List.replicate N (-1)=iE N E (rs.take 0) from by rw [List.take_zero,zm]]
 refine aR (ak ?_)
 refine cE (γ:=(Nat)) (fun (k:Nat)=>k≤nr) (fun (k:Nat)=>[(0,(vP g 0)),(1,(.slice bl nr cl)),(4,(.slice none 0 0)),(5,(.slice bs5 N cp6)),(14,(.slice bl nr cl)),(15,(vN nr)),(16,(vN k))]) (fun (k:Nat)=>(SlV 3 1 (.slice bs5 N cp6) N (aF .i64 (iE N E (rs.take k))))::(aT g N E)::R) (fun (k:Nat)=>nr-k) (0) (by omega) ⟨rfl,rfl,rfl,rfl,rfl,rfl,rfl,trivial⟩ (fun _ h=>h) ?_
 rintro k K5 hF hK5
 try dsimp only at hF hK5⊢
 have hrl:=vm N E (rs.getD k R3.d).x
 refine av (fun _ hK6=>?_)
 by_cases h9:(k:Int)< (nr:Int)
 ·refine tp rfl (aJ rfl rfl (decide_eq_true h9)) (td hK6 (ai (fun _ hK7=>aG rfl (dp hK7 (ai (fun _ hK8=>aH (ai (fun _ hK9=>?_))))))))
  refine aj (tp rfl (ah (k':=k*3) Ew Dj rfl rfl okl (by omega) (by omega) (by omega)) ?_)
  refine tp rfl (cU (cs:=[(vI ((rs.getD k R3.d).x)),(vI ((rs.getD k R3.d).y)),(vI ((rs.getD k R3.d).z))]) Em Dj rfl (ej (Rd.gives (Rd.cons (Rd.cons hl)) ((bc (k:=k) (j:=0) oZ (d:=R3.d) (by first|omega| (simp;omega)) (nB rfl)).trans rfl)) (Rd.gives (Rd.cons (Rd.cons hl)) ((bc (k:=k) (j:=1) oZ (d:=R3.d) (by first|omega| (simp;omega)) (nB rfl)).trans rfl)) (Rd.gives (Rd.cons (Rd.cons hl)) ((bc (k:=k) (j:=2) oZ (d:=R3.d) (by first|omega| (simp;omega)) (nB rfl)).trans rfl)))) ?_
  refine tm rfl (cD DV rfl) ?_
  rintro _ _ ⟨b10,rfl,rfl⟩
  refine ts (bn (news:=[(vI ((rs.getD k R3.d).x)),(vI ((rs.getD k R3.d).y)),(vI ((rs.getD k R3.d).z))]) Dj rfl rfl rfl rfl (nB rfl) rfl) ?_
  refine td hK9 (av (fun _ hK10=>ag rfl (bU 0 Da rfl CG rfl rfl (bK CH rfl (aa (.head _) rfl) (aR ?_)))))
  refine bN Tryz.call93 rfl (za (N:=N) (es:=E) ((rs.getD k R3.d).x) (Tab.cons (Tab.cons hT))) ?_
  rintro _ _ ⟨bs11,cp12,hok13,hle14,rfl,rfl⟩
  refine tp rfl (bC CI rfl rfl) (ag rfl (td hK10 (aH ?_)))
  refine cE (γ:=(Nat)) (fun (j:Nat)=>j≤(cw N E (rs.getD k R3.d).x).length) (fun (j:Nat)=>[(0,(vP g 0)),(1,(.slice bl nr cl)),(4,(.slice none 0 0)),(5,(.slice bs5 N cp6)),(7,(vP b10 0)),(14,(.slice bl nr cl)),(15,(vN nr)),(16,(vN k)),(17,(.bool true)),(23,(.slice bs11 ((cw N E ((rs.getD k R3.d).x)).length) cp12)),(24,(vI (((cw N E ((rs.getD k R3.d).x)).length:Nat):Int))),(25,(vN j))]) (fun (j:Nat)=>(SlV 3 1 (.slice bs11 ((cw N E ((rs.getD k R3.d).x)).length) cp12) ((cw N E ((rs.getD k R3.d).x)).length) (aF .i64 (cw N E ((rs.getD k R3.d).x))))::(aT g N E)::(bI b10 [(vI ((rs.getD k R3.d).x)),(vI ((rs.getD k R3.d).y)),(vI ((rs.getD k R3.d).z))] 51)::(SlV 3 1 (.slice bs5 N cp6) N (aF .i64 (iO ((cw N E (rs.getD k R3.d).x).take j) (rs.getD k R3.d).z (iE N E (rs.take k)))))::R) (fun (j:Nat)=>(cw N E (rs.getD k R3.d).x).length-j) (0) (by omega) ⟨rfl,rfl,rfl,rfl,rfl,rfl,rfl,rfl,rfl,rfl,rfl,rfl,trivial⟩ (fun _ h=>h) ?_
  rintro j K11 hF hK11
  try dsimp only at hF hK11⊢
  have hil:(iO ((cw N E (rs.getD k R3.d).x).take j) (rs.getD k R3.d).z (iE N E (rs.take k))).length=N:=by rw [rM,iB]
  refine av (fun _ hK12=>?_)
  by_cases h15:(j:Int)< (((cw N E ((rs.getD k R3.d).x)).length:Nat):Int)
  ·refine tp rfl (aJ rfl rfl (decide_eq_true h15)) (td hK12 (ai (fun _ hK13=>aG rfl (dp hK13 (ai (fun _ hK14=>aH (ai (fun _ hK15=>?_))))))))
   refine aj (tp rfl (ah (k':=j) CI CG rfl rfl hok13 (by omega) (by omega) (by omega)) ?_)
   refine bK CH rfl (aw (.head _) (aQ (by first|omega| (simp;omega)))) ?_
   refine aA rfl (td hK15 ?_)
   have hat:=vt (k:=j) (show j< (cw N E (rs.getD k R3.d).x).length by omega)
   refine bz (γ:=Unit) (n:=11) Tryz.mixed rfl rfl (fun _ S=>True) (fun _=>[(0,29,(.slice bs5 N cp6)),(1,30,(vI ((cw N E ((rs.getD k R3.d).x)).getD j 0))),(2,31,(.slice bs5 N cp6)),(3,32,(vI ((cw N E ((rs.getD k R3.d).x)).getD j 0))),(4,33,(.pointer (some (ad bs5 (((cw N E ((rs.getD k R3.d).x)).getD j 0).toNat))))),(5,34,(vI ((iO ((cw N E (rs.getD k R3.d).x).take j) (rs.getD k R3.d).z (iE N E (rs.take k))).getD (((cw N E ((rs.getD k R3.d).x)).getD j 0).toNat) 0))),(6,35,(vP b10 2)),(7,36,(vI ((rs.getD k R3.d).z))),(8,37,(vI (max ((iO ((cw N E (rs.getD k R3.d).x).take j) (rs.getD k R3.d).z (iE N E (rs.take k))).getD (((cw N E ((rs.getD k R3.d).x)).getD j 0).toNat) 0) ((rs.getD k R3.d).z)))),(9,38,(.pointer (some (ad bs5 (((cw N E ((rs.getD k R3.d).x)).getD j 0).toNat)))))]) (fun _ S=>(SlV 3 1 (.slice bs11 ((cw N E ((rs.getD k R3.d).x)).length) cp12) ((cw N E ((rs.getD k R3.d).x)).length) (aF .i64 (cw N E ((rs.getD k R3.d).x))))::(aT g N E)::(bI b10 [(vI ((rs.getD k R3.d).x)),(vI ((rs.getD k R3.d).y)),(vI ((rs.getD k R3.d).z))] 51)::(bif S 10 then (SlV 3 1 (.slice bs5 N cp6) N (aF .i64 (((iO ((cw N E (rs.getD k R3.d).x).take j) (rs.getD k R3.d).z (iE N E (rs.take k)))).set (((cw N E ((rs.getD k R3.d).x)).getD j 0).toNat) (max ((iO ((cw N E (rs.getD k R3.d).x).take j) (rs.getD k R3.d).z (iE N E (rs.take k))).getD (((cw N E ((rs.getD k R3.d).x)).getD j 0).toNat) 0) ((rs.getD k R3.d).z))))) else (SlV 3 1 (.slice bs5 N cp6) N (aF .i64 (iO ((cw N E (rs.getD k R3.d).x).take j) (rs.getD k R3.d).z (iE N E (rs.take k))))))::R) (()) trivial (fun _ h=>h) (fun _ _ h=>h) ?_ ?_
   ·refine ⟨aU,aU,aU,aU,?_,?_,bL Da rfl CG,db CH fun _ _=>aa (.tail _ (.tail _ (.head _))) rfl,?_,?_,?_,trivial⟩
    ·rintro _ S hF hS D hp K hK;try dsimp only
     exact bV (bE hp 2 rfl rfl) (bE hp 3 rfl rfl) (ah (k':=((cw N E ((rs.getD k R3.d).x)).getD j 0).toNat) CI CG rfl rfl hok7 (by omega) (by omega) (by omega)) 4 rfl rfl hS (hK () hF)
    ·rintro _ S hF hS D hp K hK;try dsimp only
     exact bH (bE hp 4 rfl rfl) (bP CH rfl (aw (cF (nf hS D (k:=10) (i:=5) rfl) (.tail _ (.tail _ (.tail _ (.head _))))) (aQ (by omega)))) 5 rfl rfl hS (hK () hF)
    ·rintro _ S hF hS D hp K hK;try dsimp only
     exact bV (bE hp 5 rfl rfl) (bE hp 7 rfl rfl) (fm (c:=max ((iO ((cw N E (rs.getD k R3.d).x).take j) (rs.getD k R3.d).z (iE N E (rs.take k))).getD (((cw N E ((rs.getD k R3.d).x)).getD j 0).toNat) 0) ((rs.getD k R3.d).z)) rfl rfl rfl) 8 rfl rfl hS (hK () hF)
    ·rintro _ S hF hS D hp K hK;try dsimp only
     exact bV (bE hp 0 rfl rfl) (bE hp 1 rfl rfl) (ah (k':=((cw N E ((rs.getD k R3.d).x)).getD j 0).toNat) CI CG rfl rfl hok7 (by omega) (by omega) (by omega)) 9 rfl rfl hS (hK () hF)
    ·rintro _ S hF hS D hp K hK
     try dsimp only at hF⊢
     refine bZ hp [37,38] rfl rfl ?_
     refine aS ?_
     refine c9 hS ?_
     refine ts (gN CG rfl rfl rfl (by rw [ints_length];omega) eD) ?_
     refine aS (aS (aS ?_))
     exact gE hp (ti (hK () trivial)) rfl rfl rfl
   ·rintro _ hF
    try dsimp only at hF⊢
    refine az (E':=[(0,(vP g 0)),(1,(.slice bl nr cl)),(4,(.slice none 0 0)),(5,(.slice bs5 N cp6)),(7,(vP b10 0)),(9,(vI ((cw N E ((rs.getD k R3.d).x)).getD j 0))),(14,(.slice bl nr cl)),(15,(vN nr)),(16,(vN k)),(17,(.bool true)),(23,(.slice bs11 ((cw N E ((rs.getD k R3.d).x)).length) cp12)),(24,(vI (((cw N E ((rs.getD k R3.d).x)).length:Nat):Int))),(25,(vN j)),(26,(.bool true))]) ⟨rfl,rfl,rfl,rfl,rfl,rfl,rfl,rfl,rfl,rfl,rfl,rfl,rfl,rfl,trivial⟩ ?_
    refine aZ (qn hK14 (aj (tp rfl (aX (c:=((j+1:Nat):Int)) rfl rfl (aB (by omega))) ?_)))
    refine ag rfl (aI (aN ?_))
    rw [show ((iO ((cw N E (rs.getD k R3.d).x).take j) (rs.getD k R3.d).z (iE N E (rs.take k)))).set (((cw N E ((rs.getD k R3.d).x)).getD j 0).toNat) (max ((iO ((cw N E (rs.getD k R3.d).x).take j) (rs.getD k R3.d).z (iE N E (rs.take k))).getD (((cw N E ((rs.getD k R3.d).x)).getD j 0).toNat) 0) ((rs.getD k R3.d).z))=iO ((cw N E (rs.getD k R3.d).x).take (j+1)) (rs.getD k R3.d).z (iE N E (rs.take k)) from (wE (by omega) _ _).symm]
    exact az (by exact ⟨rfl,rfl,rfl,rfl,rfl,rfl,rfl,rfl,rfl,rfl,rfl,rfl,trivial⟩) ((hK11 (j+1) (by omega) (by omega)))
  ·refine tp rfl (aJ rfl rfl (decide_eq_false h15)) (td hK12 (ai (fun _ hK13=>ar rfl (bT (au (au (bS (aZ ?_))))))))
   refine qn hK8 (aj (tp rfl (aX (c:=((k+1:Nat):Int)) rfl rfl (aB (by omega))) ?_))
   refine ag rfl (aI (aN (ak (aE (ak (aE ?_))))))
   rw [show (cw N E (rs.getD k R3.d).x).take j=cw N E (rs.getD k R3.d).x from List.take_of_length_le (by omega),show iO (cw N E (rs.getD k R3.d).x) (rs.getD k R3.d).z (iE N E (rs.take k))=iE N E (rs.take (k+1)) from zX (by omega)]
   exact az (by exact ⟨rfl,rfl,rfl,rfl,rfl,rfl,rfl,trivial⟩) ((hK5 (k+1) (by omega) (by omega)))
 ·refine tp rfl (aJ rfl rfl (decide_eq_false h9)) (td hK6 (ai (fun _ hK7=>ar rfl (bT (au (au (bS (qn hK3 ?_))))))))
  refine av (fun _ hK8=>ag rfl (aA rfl (td hK8 (ay ?_))))
  refine aM rfl rfl ?_
  rw [show rs.take k=rs from List.take_of_length_le (by omega)]
  exact ⟨_,_,hok7,hle8,rfl,rfl⟩
end Go.Proofs.YtanfdikglplkaaaGreatDoor
