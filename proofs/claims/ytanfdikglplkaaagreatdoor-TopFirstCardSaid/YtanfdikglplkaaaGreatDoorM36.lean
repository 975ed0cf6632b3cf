/- Parts Fn: own lemmas and contracts of the code that the claim reaches. -/
import Derived.Test.YtanfdikglplkaaaGreatDoorM03
import Derived.Test.YtanfdikglplkaaaGreatDoorM04
import Derived.Test.YtanfdikglplkaaaGreatDoorM35
import Derived.Test.YtanfdikglplkaaaGreatDoorM14
set_option linter.unusedSimpArgs false
set_option linter.unusedVariables false
set_option maxRecDepth 100000
namespace Go.Proofs.YtanfdikglplkaaaGreatDoor
open Go Go.Proofs Sp
theorem fQ{R:List HP}(n l m:Int)(h:0≤l∧l≤m∧m≤1000):
 Ok Tryz.prog 14 [(vI n),(vI l),(vI m)] R
  (fun v M=>v=.int .i64 (bD n l m)∧M=R):=by
 refine aP (N:=16) Tryz.func14 rfl rfl rfl (fun W=>?_)
 have h1:=Int.emod_nonneg (n%1048576) (show m-l+1≠0 by omega)
 have h2:=Int.emod_lt_of_pos (n%1048576) (show 0<m-l+1 by omega)
 have h3:0≤n%1048576:=Int.emod_nonneg _ (by decide)
 refine av (fun _ hK1=>aA rfl (td hK1 (av (fun _ hK2=>ag rfl (ag rfl (tp rfl (jM (c:=n%1048576) rfl rfl (zk 20 (by decide) n)) ?_))))))
 refine ag rfl (ag rfl (tp rfl (eR (c:=m-l) rfl rfl (cA (by omega) (by omega))) ?_))
 refine tp rfl (aX (c:=(m-l)+1) rfl rfl (cA (by omega) (by omega))) ?_
 refine tp rfl (oz (c:=(n%1048576)% ((m-l)+1)) rfl rfl (by omega) (Int.tmod_eq_emod_of_nonneg (by omega))) ?_
 refine tp rfl (aX (c:=l+((n%1048576)% ((m-l)+1))) rfl rfl (cA (by omega) (by omega))) ?_
 refine aA rfl (td hK2 (ay ?_))
 refine aM rfl rfl ?_
 exact ⟨rfl,rfl⟩
set_option maxHeartbeats 4000000 in
theorem rR{R:List HP}{c:Cfg}{wide:Bool}:
 Ok Tryz.prog 8 [(.agg #[(vI c.bud),(vI c.slots),(vI c.act),(vI c.que),(vI c.tries),(vI c.pre),(vI c.tmo),(vI c.bak),(vI c.most),(vI c.qu)]),(.bool wide)] R
  (fun v M=>v=.agg #[.int .i64 (pq c wide).bud,.int .i64 (pq c wide).slots,.int .i64 (pq c wide).act,.int .i64 (pq c wide).que,.int .i64 (pq c wide).tries,.int .i64 (pq c wide).pre,.int .i64 (pq c wide).tmo,.int .i64 (pq c wide).bak,.int .i64 (pq c wide).most,.int .i64 (pq c wide).qu]∧M=R):=by
 refine aP (N:=41) Tryz.func8 rfl rfl rfl (fun W=>?_)
 refine av (fun _ hK1=>?_)
 refine tm rfl (cZ rfl rfl) ?_
 rintro _ _ ⟨b1,rfl,rfl⟩
 refine tm rfl (cD Ey rfl) ?_
 rintro _ _ ⟨b2,rfl,rfl⟩
 refine td hK1 (ai (fun _ hK2=>?_))
 refine bz (γ:=Nat) (n:=33) Tryz.mixed rfl rfl (fun (b3:Nat) S=>True) (fun (b3:Nat)=>[(0,6,(vP b1 0)),(1,7,(vI c.bud)),(2,8,(vI (bD c.bud 12 40))),(3,9,(vP b1 1)),(4,10,(vI c.slots)),(5,11,(vI (bD c.slots 1 4))),(6,12,(vP b1 2)),(7,13,(vI c.act)),(8,14,(vI (bD c.act 1 5))),(9,15,(vP b1 3)),(10,16,(vI c.que)),(11,17,(vI (bD c.que 0 4))),(12,18,(vP b1 4)),(13,19,(vI c.tries)),(14,20,(vI (bD c.tries 1 3))),(15,21,(vP b1 5)),(16,22,(vI c.pre)),(17,23,(vI (bD c.pre 0 2))),(18,24,(vP b1 6)),(19,25,(vI c.tmo)),(20,26,(vI (bD c.tmo 1 4))),(21,27,(vP b1 7)),(22,28,(vI c.bak)),(23,29,(vI (bD c.bak 1 3))),(24,30,(vP b1 8)),(25,31,(vI c.most)),(26,32,(vI (bD c.most 1 6))),(27,33,(vP b1 9)),(28,34,(vI c.qu)),(29,35,(vI (bD c.qu 1 30))),(30,36,(.agg #[(vI (bD c.bud 12 40)),(vI (bD c.slots 1 4)),(vI (bD c.act 1 5)),(vI (bD c.que 0 4)),(vI (bD c.tries 1 3)),(vI (bD c.pre 0 2)),(vI (bD c.tmo 1 4)),(vI (bD c.bak 1 3)),(vI (bD c.most 1 6)),(vI (bD c.qu 1 30))])),(31,5,(vP b3 0))]) (fun (b3:Nat) S=>(bI b2 [(vI 0),(vI 0),(vI 0),(vI 0),(vI 0),(vI 0),(vI 0),(vI 0),(vI 0),(vI 0)] 23)::(bI b1 [(vI c.bud),(vI c.slots),(vI c.act),(vI c.que),(vI c.tries),(vI c.pre),(vI c.tmo),(vI c.bak),(vI c.most),(vI c.qu)] 23)::(bif S 32 then (bI b3 [(vI (bD c.bud 12 40)),(vI (bD c.slots 1 4)),(vI (bD c.act 1 5)),(vI (bD c.que 0 4)),(vI (bD c.tries 1 3)),(vI (bD c.pre 0 2)),(vI (bD c.tmo 1 4)),(vI (bD c.bak 1 3)),(vI (bD c.most 1 6)),(vI (bD c.qu 1 30))] 23) else (bif S 31 then (bI b3 [(vI 0),(vI 0),(vI 0),(vI 0),(vI 0),(vI 0),(vI 0),(vI 0),(vI 0),(vI 0)] 23) else ib))::R) (0) trivial (fun _ h=>ef [_,_] 1 h) (fun _ _ h=>h) ?_ ?_
 ·refine ⟨ga fun _=>dF CW rfl CG,ga fun _=>gG CH fun _=>aa (.tail _ (.head _)) rfl,?_,ga fun _=>dF CW rfl CG,ga fun _=>gG CH fun _=>aa (.tail _ (.head _)) rfl,?_,ga fun _=>dF CW rfl CG,ga fun _=>gG CH fun _=>aa (.tail _ (.head _)) rfl,?_,ga fun _=>dF CW rfl CG,ga fun _=>gG CH fun _=>aa (.tail _ (.head _)) rfl,?_,ga fun _=>dF CW rfl CG,ga fun _=>gG CH fun _=>aa (.tail _ (.head _)) rfl,?_,ga fun _=>dF CW rfl CG,ga fun _=>gG CH fun _=>aa (.tail _ (.head _)) rfl,?_,ga fun _=>dF CW rfl CG,ga fun _=>gG CH fun _=>aa (.tail _ (.head _)) rfl,?_,ga fun _=>dF CW rfl CG,ga fun _=>gG CH fun _=>aa (.tail _ (.head _)) rfl,?_,ga fun _=>dF CW rfl CG,ga fun _=>gG CH fun _=>aa (.tail _ (.head _)) rfl,?_,ga fun _=>dF CW rfl CG,ga fun _=>gG CH fun _=>aa (.tail _ (.head _)) rfl,?_,?_,?_,?_,trivial⟩
  ·rintro b3 S hF hS D hp K hK
   try dsimp only at hF⊢
   refine bZ hp [7] rfl rfl ?_
   refine bN Dn rfl (fQ c.bud 12 40 (by omega)) ?_
   rintro _ _ ⟨rfl,rfl⟩
   exact cK hp hS (ti (hK b3 trivial)) rfl rfl rfl
  ·rintro b3 S hF hS D hp K hK
   try dsimp only at hF⊢
   refine bZ hp [10] rfl rfl ?_
   refine bN Dn rfl (fQ c.slots 1 4 (by omega)) ?_
   rintro _ _ ⟨rfl,rfl⟩
   exact cK hp hS (ti (hK b3 trivial)) rfl rfl rfl
  ·rintro b3 S hF hS D hp K hK
   try dsimp only at hF⊢
   refine bZ hp [13] rfl rfl ?_
   refine bN Dn rfl (fQ c.act 1 5 (by omega)) ?_
   rintro _ _ ⟨rfl,rfl⟩
   exact cK hp hS (ti (hK b3 trivial)) rfl rfl rfl
  ·rintro b3 S hF hS D hp K hK
   try dsimp only at hF⊢
   refine bZ hp [16] rfl rfl ?_
   refine bN Dn rfl (fQ c.que 0 4 (by omega)) ?_
   rintro _ _ ⟨rfl,rfl⟩
   exact cK hp hS (ti (hK b3 trivial)) rfl rfl rfl
  ·rintro b3 S hF hS D hp K hK
   try dsimp only at hF⊢
   refine bZ hp [19] rfl rfl ?_
   refine bN Dn rfl (fQ c.tries 1 3 (by omega)) ?_
   rintro _ _ ⟨rfl,rfl⟩
   exact cK hp hS (ti (hK b3 trivial)) rfl rfl rfl
  ·rintro b3 S hF hS D hp K hK
   try dsimp only at hF⊢
   refine bZ hp [22] rfl rfl ?_
   refine bN Dn rfl (fQ c.pre 0 2 (by omega)) ?_
   rintro _ _ ⟨rfl,rfl⟩
   exact cK hp hS (ti (hK b3 trivial)) rfl rfl rfl
  ·rintro b3 S hF hS D hp K hK
   try dsimp only at hF⊢
   refine bZ hp [25] rfl rfl ?_
   refine bN Dn rfl (fQ c.tmo 1 4 (by omega)) ?_
   rintro _ _ ⟨rfl,rfl⟩
   exact cK hp hS (ti (hK b3 trivial)) rfl rfl rfl
  ·rintro b3 S hF hS D hp K hK
   try dsimp only at hF⊢
   refine bZ hp [28] rfl rfl ?_
   refine bN Dn rfl (fQ c.bak 1 3 (by omega)) ?_
   rintro _ _ ⟨rfl,rfl⟩
   exact cK hp hS (ti (hK b3 trivial)) rfl rfl rfl
  ·rintro b3 S hF hS D hp K hK
   try dsimp only at hF⊢
   refine bZ hp [31] rfl rfl ?_
   refine bN Dn rfl (fQ c.most 1 6 (by omega)) ?_
   rintro _ _ ⟨rfl,rfl⟩
   exact cK hp hS (ti (hK b3 trivial)) rfl rfl rfl
  ·rintro b3 S hF hS D hp K hK
   try dsimp only at hF⊢
   refine bZ hp [34] rfl rfl ?_
   refine bN Dn rfl (fQ c.qu 1 30 (by omega)) ?_
   rintro _ _ ⟨rfl,rfl⟩
   exact cK hp hS (ti (hK b3 trivial)) rfl rfl rfl
  ·rintro b3 S hF hS D hp K hK
   try dsimp only at hF⊢
   refine bZ hp [8,11,14,17,20,23,26,29,32,35] rfl rfl ?_
   refine tp rfl (bG (cs:=[(vI (bD c.bud 12 40)),(vI (bD c.slots 1 4)),(vI (bD c.act 1 5)),(vI (bD c.que 0 4)),(vI (bD c.tries 1 3)),(vI (bD c.pre 0 2)),(vI (bD c.tmo 1 4)),(vI (bD c.bak 1 3)),(vI (bD c.most 1 6)),(vI (bD c.qu 1 30))]) (pl:=[(0,1),(1,1),(2,1),(3,1),(4,1),(5,1),(6,1),(7,1),(8,1),(9,1)]) CW Ey (fun _=>by simp) rfl rfl) ?_
   exact cK hp hS (ti (hK b3 trivial)) rfl rfl rfl
  ·rintro b3 S hF hS D hp K hK
   try dsimp only at hF⊢
   refine lC (small:=[]) trivial ?_
   refine aR ?_
   refine c9 (nf hS D (k:=32) (i:=31) rfl) ?_
   refine c9 hS ?_
   refine tm rfl (cD Ey rfl) ?_
   rintro _ _ ⟨b3,rfl,rfl⟩
   refine aE ?_
   refine fG (A:=(bI b3 [(vI 0),(vI 0),(vI 0),(vI 0),(vI 0),(vI 0),(vI 0),(vI 0),(vI 0),(vI 0)] 23)) hS ?_
   refine fG (A:=(bI b3 [(vI (bD c.bud 12 40)),(vI (bD c.slots 1 4)),(vI (bD c.act 1 5)),(vI (bD c.que 0 4)),(vI (bD c.tries 1 3)),(vI (bD c.pre 0 2)),(vI (bD c.tmo 1 4)),(vI (bD c.bak 1 3)),(vI (bD c.most 1 6)),(vI (bD c.qu 1 30))] 23)) (nf hS D (k:=32) (i:=31) rfl) ?_
   refine aE ?_
   refine fG (A:=(bI b3 [(vI (bD c.bud 12 40)),(vI (bD c.slots 1 4)),(vI (bD c.act 1 5)),(vI (bD c.que 0 4)),(vI (bD c.tries 1 3)),(vI (bD c.pre 0 2)),(vI (bD c.tmo 1 4)),(vI (bD c.bak 1 3)),(vI (bD c.most 1 6)),(vI (bD c.qu 1 30))] 23)) (nf hS D (k:=32) (i:=31) rfl) ?_
   refine aE (aS (aS (aS ?_)))
   refine bO (fun _ h=>cX [_,_] h) ?_
   exact iY trivial 31 rfl rfl rfl hS (by exact ⟨.inl rfl,.inl rfl,.inl rfl,.inl rfl,.inl rfl,.inl rfl,.inl rfl,.inl rfl,.inl rfl,.inl rfl,.inl rfl,.inl rfl,.inl rfl,.inl rfl,.inl rfl,.inl rfl,.inl rfl,.inl rfl,.inl rfl,.inl rfl,.inl rfl,.inl rfl,.inl rfl,.inl rfl,.inl rfl,.inl rfl,.inl rfl,.inl rfl,.inl rfl,.inl rfl,.inl rfl,.inr ⟨rfl,rfl,hS⟩,trivial⟩) (bO (fun _ h=>h) (hK b3 trivial))
  ·rintro b3 S hF hS D hp K hK
   try dsimp only at hF⊢
   have s31:=hp 31 rfl
   refine bZ hp [5,36] rfl rfl ?_
   refine aR ?_
   refine c9 hS ?_
   refine jJ s31 ?_
   refine ts (bn (news:=[(vI (bD c.bud 12 40)),(vI (bD c.slots 1 4)),(vI (bD c.act 1 5)),(vI (bD c.que 0 4)),(vI (bD c.tries 1 3)),(vI (bD c.pre 0 2)),(vI (bD c.tmo 1 4)),(vI (bD c.bak 1 3)),(vI (bD c.most 1 6)),(vI (bD c.qu 1 30))]) Dm rfl rfl rfl rfl (nB rfl) rfl) ?_
   refine aR (aR ?_)
   exact gE hp (ti (hK b3 trivial)) rfl rfl rfl
 ·rintro b3 hF
  try dsimp only at hF⊢
  refine az (E':=[(0,(.agg #[(vI c.bud),(vI c.slots),(vI c.act),(vI c.que),(vI c.tries),(vI c.pre),(vI c.tmo),(vI c.bak),(vI c.most),(vI c.qu)])),(1,(.bool wide)),(2,(vP b1 0)),(4,(vP b2 0)),(5,(vP b3 0))]) ⟨rfl,rfl,rfl,rfl,rfl,trivial⟩ ?_
  refine qn hK2 (ai (fun _ hK3=>av (fun _ hK4=>ag rfl (td hK4 ?_))))
  refine cW rfl (fun c4=>?_) (fun c4=>?_)
  ·refine av (fun K5 hK5=>bU 0 CW rfl CG rfl rfl (aR ?_))
   refine ts (cM CG rfl rfl rfl (nB rfl) rfl) ?_
   refine td hK5 (aj (bU 2 CW rfl CG rfl rfl ?_))
   refine ts (cM CG rfl rfl rfl (nB rfl) rfl) ?_
   refine td hK3 (av (fun K6 hK6=>tp rfl (cB (cs:=[(vI 1000),(vI (bD c.slots 1 4)),(vI 16),(vI (bD c.que 0 4)),(vI (bD c.tries 1 3)),(vI (bD c.pre 0 2)),(vI (bD c.tmo 1 4)),(vI (bD c.bak 1 3)),(vI (bD c.most 1 6)),(vI (bD c.qu 1 30))]) DW Dm rfl (fF (aa (.head _) rfl) (aa (.head _) rfl) (aa (.head _) rfl) (aa (.head _) rfl) (aa (.head _) rfl) (aa (.head _) rfl) (aa (.head _) rfl) (aa (.head _) rfl) (aa (.head _) rfl) (aa (.head _) rfl))) (aE ?_)))
   refine ts (bn (news:=[(vI 1000),(vI (bD c.slots 1 4)),(vI 16),(vI (bD c.que 0 4)),(vI (bD c.tries 1 3)),(vI (bD c.pre 0 2)),(vI (bD c.tmo 1 4)),(vI (bD c.bak 1 3)),(vI (bD c.most 1 6)),(vI (bD c.qu 1 30))]) Dm rfl rfl rfl rfl (nB rfl) rfl) ?_
   refine td hK6 (ay (aE (ak (aE (ak ?_)))))
   refine j7 (cs:=[(vI 1000),(vI (bD c.slots 1 4)),(vI 16),(vI (bD c.que 0 4)),(vI (bD c.tries 1 3)),(vI (bD c.pre 0 2)),(vI (bD c.tmo 1 4)),(vI (bD c.bak 1 3)),(vI (bD c.most 1 6)),(vI (bD c.qu 1 30))]) rfl rfl DW Dm (fF (aa (.head _) rfl) (aa (.head _) rfl) (aa (.head _) rfl) (aa (.head _) rfl) (aa (.head _) rfl) (aa (.head _) rfl) (aa (.head _) rfl) (aa (.head _) rfl) (aa (.head _) rfl) (aa (.head _) rfl)) (fun _ h=>h.drop) ?_
   exact ⟨by rw [show wide=true from by assumption];rfl,rfl⟩
  ·refine dp hK3 (av (fun K5 hK5=>tp rfl (cB (cs:=[(vI (bD c.bud 12 40)),(vI (bD c.slots 1 4)),(vI (bD c.act 1 5)),(vI (bD c.que 0 4)),(vI (bD c.tries 1 3)),(vI (bD c.pre 0 2)),(vI (bD c.tmo 1 4)),(vI (bD c.bak 1 3)),(vI (bD c.most 1 6)),(vI (bD c.qu 1 30))]) DW Dm rfl (fF (aa (.tail _ (.tail _ (.head _))) rfl) (aa (.tail _ (.tail _ (.head _))) rfl) (aa (.tail _ (.tail _ (.head _))) rfl) (aa (.tail _ (.tail _ (.head _))) rfl) (aa (.tail _ (.tail _ (.head _))) rfl) (aa (.tail _ (.tail _ (.head _))) rfl) (aa (.tail _ (.tail _ (.head _))) rfl) (aa (.tail _ (.tail _ (.head _))) rfl) (aa (.tail _ (.tail _ (.head _))) rfl) (aa (.tail _ (.tail _ (.head _))) rfl))) ?_))
   refine ts (bn (news:=[(vI (bD c.bud 12 40)),(vI (bD c.slots 1 4)),(vI (bD c.act 1 5)),(vI (bD c.que 0 4)),(vI (bD c.tries 1 3)),(vI (bD c.pre 0 2)),(vI (bD c.tmo 1 4)),(vI (bD c.bak 1 3)),(vI (bD c.most 1 6)),(vI (bD c.qu 1 30))]) Dm rfl rfl rfl rfl (nB rfl) rfl) ?_
   refine td hK5 (ay (aE (ak (aE (ak ?_)))))
   refine j7 (cs:=[(vI (bD c.bud 12 40)),(vI (bD c.slots 1 4)),(vI (bD c.act 1 5)),(vI (bD c.que 0 4)),(vI (bD c.tries 1 3)),(vI (bD c.pre 0 2)),(vI (bD c.tmo 1 4)),(vI (bD c.bak 1 3)),(vI (bD c.most 1 6)),(vI (bD c.qu 1 30))]) rfl rfl DW Dm (fF (aa (.head _) rfl) (aa (.head _) rfl) (aa (.head _) rfl) (aa (.head _) rfl) (aa (.head _) rfl) (aa (.head _) rfl) (aa (.head _) rfl) (aa (.head _) rfl) (aa (.head _) rfl) (aa (.head _) rfl)) (fun _ h=>h.drop) ?_
   exact ⟨by rw [show wide=false from by assumption];rfl,rfl⟩
set_option maxHeartbeats 4000000 in
theorem sc{R:List HP}{bb:Option Addr}{n cb:Nat}(al:List (Int×Int))(hn:al.length=n)(hb:Rd R bb (df al))(okb:bB bb n):
 Ok Tryz.prog 6 [(.slice bb n cb)] R
  (fun v M=> ∃bs cp n',(eS al).length=n'∧bB bs n'∧n'≤cp∧v=.slice bs n' cp∧M=SlV 57 2 (.slice bs n' cp) n' (df (eS al))::R):=by
 refine aP (N:=39) Tryz.func6 rfl rfl rfl (fun W=>?_)
 refine av (fun _ hK1=>aA rfl (td hK1 (av (fun _ hK2=>aA rfl (td hK2 ?_)))))
 refine ai (fun _ hK3=>av (fun _ hK4=>aA rfl (td hK4 (aH ?_))))
 refine bO (fun _ h=>cz 57 2 h) ?_
 refine cE (γ:=(Nat)×(Option Addr)×(Nat)) (fun (k,bt,ct)=>k≤n∧k≤8∧bB bt k∧k≤ct) (fun (k,bt,ct)=>[(0,(.slice bb n cb)),(2,(.slice none 0 0)),(3,(.slice bt k ct)),(4,(vN k))]) (fun (k,bt,ct)=>(SlV 57 2 (.slice bt k ct) k (df ((al.map kr).take k)))::R) (fun (k,bt,ct)=>n-k) (0,none,0) ⟨Nat.zero_le _,Nat.zero_le _,cn,Nat.le_refl _⟩ ⟨rfl,rfl,rfl,rfl,trivial⟩ (fun _ h=>h) ?_
 rintro ⟨k,bt,ct⟩ K5 hF hK5
 try dsimp only at hF hK5⊢
 obtain ⟨hk,hk8,hok,hle⟩:=hF
 refine ai (fun K6 hK6=>av (fun _ hK7=>?_))
 by_cases hc1:(k:Int)< (n:Int)∧(k:Int)<8
 ·have hc1a:=hc1.1
  have hc1b:=hc1.2
  refine ag rfl (ag rfl (tp rfl (bC CY rfl rfl) (tp rfl (aJ rfl rfl (decide_eq_true hc1.1)) (ag rfl ?_))))
  refine ae rfl rfl ?_
  refine ag rfl ?_
  refine ae rfl rfl ?_
  refine tp rfl (aJ rfl rfl (decide_eq_true hc1.2)) (tp rfl (aL rfl rfl) (td hK7 (aG rfl (dp hK6 (ai (fun _ hK8=>aH ?_))))))
  refine bz (γ:=Option Addr×Nat×Option Addr×Nat) (n:=17) Tryz.mixed rfl rfl (fun (bs2,cp3,bs6,cp7) S=>(S 14=true→bB bs2 1)∧(S 14=true→1≤cp3)∧(S 15=true→bB bs6 (k+1))∧(S 15=true→k+1≤cp7)) (fun (bs2,cp3,bs6,cp7)=>[(0,15,(.slice bt k ct)),(1,16,(.slice bb n cb)),(2,17,(vN k)),(3,18,(.pointer (some (ad bb (k*2))))),(4,19,(.pointer (some (ad bb (k*2))))),(5,20,(vI (((al).getD k (0,0)).1))),(6,21,(vI (bD (((al).getD k (0,0)).1) 1 12))),(7,22,(.slice bb n cb)),(8,23,(vN k)),(9,24,(.pointer (some (ad bb (k*2))))),(10,25,(.pointer (some (ad bb (k*2+1))))),(11,26,(vI (((al).getD k (0,0)).2))),(12,27,(vI (bD (((al).getD k (0,0)).2) 1 30))),(13,28,(.agg #[(vI (bD (((al).getD k (0,0)).1) 1 12)),(vI (bD (((al).getD k (0,0)).2) 1 30))])),(14,29,(.slice bs2 1 cp3)),(15,30,(.slice bs6 (k+1) cp7)),(16,3,(.slice bs6 (k+1) cp7))]) (fun (bs2,cp3,bs6,cp7) S=>(bif S 15 then (SlV 57 2 (.slice bs6 (k+1) cp7) (k+1) (df (((al.map kr).take k)++[(bD (((al).getD k (0,0)).1) 1 12,bD (((al).getD k (0,0)).2) 1 30)]))) else (SlV 57 2 (.slice bt k ct) k (df ((al.map kr).take k))))::(bif S 14 then (SlV 57 2 (.slice bs2 1 cp3) 1 [(vI (bD (((al).getD k (0,0)).1) 1 12)),(vI (bD (((al).getD k (0,0)).2) 1 30))]) else ib)::R) (none,0,none,0) (by simp [Nat.ble]) (fun _ h=>ef [_] 1 h) (fun _ _ h=>h) ?_ ?_
  ·refine ⟨?_,ga fun ⟨_,_,_,_⟩=>da,ga fun ⟨_,_,_,_⟩=>da,?_,?_,ga fun ⟨_,_,_,_⟩=>gI CH rfl rfl fun _=>Rd.gives (Rd.cons (Rd.cons hb)) (gv (by first|omega| (simp;omega))),?_,ga fun ⟨_,_,_,_⟩=>da,ga fun ⟨_,_,_,_⟩=>da,?_,?_,ga fun ⟨_,_,_,_⟩=>gI CH rfl rfl fun _=>Rd.gives (Rd.cons (Rd.cons hb)) (hY (by first|omega| (simp;omega))),?_,?_,?_,?_,ga fun ⟨_,_,_,_⟩=>kj,trivial⟩
   ·rintro ⟨bs2,cp3,bs6,cp7⟩ S hF hS D hp K hK;try dsimp only
    exact bH (fu (t:=3) 16 (nf hS D (k:=16) (i:=0) rfl) rfl rfl) (eX rfl) 0 rfl rfl hS (hK (bs2,cp3,bs6,cp7) hF)
   ·rintro ⟨bs2,cp3,bs6,cp7⟩ S hF hS D hp K hK;try dsimp only
    exact bV (bE hp 1 rfl rfl) (bE hp 2 rfl rfl) (ah (k':=k*2) CY Dl rfl rfl okb (by omega) (by omega) (by omega)) 3 rfl rfl hS (hK (bs2,cp3,bs6,cp7) hF)
   ·rintro ⟨bs2,cp3,bs6,cp7⟩ S hF hS D hp K hK;try dsimp only
    exact bH (bE hp 3 rfl rfl) (bM (o':=k*2) Dt rfl CG rfl rfl) 4 rfl rfl hS (hK (bs2,cp3,bs6,cp7) hF)
   ·rintro ⟨bs2,cp3,bs6,cp7⟩ S hF hS D hp K hK
    try dsimp only at hF⊢
    obtain ⟨hf0,hf1,hf2,hf3⟩:=hF
    refine bZ hp [20] rfl rfl ?_
    refine bN Dn rfl (fQ (((al).getD k (0,0)).1) 1 12 (by omega)) ?_
    rintro _ _ ⟨rfl,rfl⟩
    exact cK hp hS (ti (hK (bs2,cp3,bs6,cp7) ⟨hf0,hf1,hf2,hf3⟩)) rfl rfl rfl
   ·rintro ⟨bs2,cp3,bs6,cp7⟩ S hF hS D hp K hK;try dsimp only
    exact bV (bE hp 7 rfl rfl) (bE hp 8 rfl rfl) (ah (k':=k*2) CY Dl rfl rfl okb (by omega) (by omega) (by omega)) 9 rfl rfl hS (hK (bs2,cp3,bs6,cp7) hF)
   ·rintro ⟨bs2,cp3,bs6,cp7⟩ S hF hS D hp K hK;try dsimp only
    exact bH (bE hp 9 rfl rfl) (bM (o':=k*2+1) Dt rfl CG rfl rfl) 10 rfl rfl hS (hK (bs2,cp3,bs6,cp7) hF)
   ·rintro ⟨bs2,cp3,bs6,cp7⟩ S hF hS D hp K hK
    try dsimp only at hF⊢
    obtain ⟨hf0,hf1,hf2,hf3⟩:=hF
    refine bZ hp [26] rfl rfl ?_
    refine bN Dn rfl (fQ (((al).getD k (0,0)).2) 1 30 (by omega)) ?_
    rintro _ _ ⟨rfl,rfl⟩
    exact cK hp hS (ti (hK (bs2,cp3,bs6,cp7) ⟨hf0,hf1,hf2,hf3⟩)) rfl rfl rfl
   ·rintro ⟨bs2,cp3,bs6,cp7⟩ S hF hS D hp K hK;try dsimp only
    exact bV (bE hp 6 rfl rfl) (bE hp 12 rfl rfl) (bG (cs:=[(vI (bD (((al).getD k (0,0)).1) 1 12)),(vI (bD (((al).getD k (0,0)).2) 1 30))]) (pl:=[(0,1),(1,1)]) Dt Eb (fun _=>by simp) rfl rfl) 13 rfl rfl hS (hK (bs2,cp3,bs6,cp7) hF)
   ·rintro ⟨bs2,cp3,bs6,cp7⟩ S hF hS D hp K hK
    try dsimp only at hF⊢
    obtain ⟨hf0,hf1,hf2,hf3⟩:=hF
    refine bZ hp [28] rfl rfl ?_
    refine tm rfl (aD (cs:=[(vI (bD (((al).getD k (0,0)).1) 1 12)),(vI (bD (((al).getD k (0,0)).2) 1 30))]) CY Dl Eb (by decide) rfl rfl rfl rfl) ?_
    rintro _ _ ⟨bs2,cp3,hok4,hle5,rfl,rfl⟩
    refine bO (fun _ h=>cX [_] h) ?_
    exact cK hp hS (ti (hK (bs2,cp3,bs6,cp7) ⟨(fun _=>hok4),(fun _=>hle5),hf2,hf3⟩)) rfl rfl rfl
   ·rintro ⟨bs2,cp3,bs6,cp7⟩ S hF hS D hp K hK
    try dsimp only at hF⊢
    obtain ⟨hf0,hf1,hf2,hf3⟩:=hF
    have s14:=hp 14 rfl
    have hok4:=hf0 s14
    have hle5:=hf1 s14
    refine bZ hp [15,29] rfl rfl ?_
    refine c9 hS ?_
    refine aE ?_
    refine jJ s14 ?_
    refine aE ?_
    refine tm rfl (cR (i:=Tryz.t57) CY Tryz.type57 rfl rfl rfl (by decide) rfl rfl hok4 (by first| (simp;done)| (simp;omega)) (cj (.tail _ (.head _))) (by simp [Value.oneCell']) (by rw [show Tryz.t57.bytes=16 from rfl];omega)) ?_
    rintro _ _ ⟨bs6,cp7,hok8,hle9,rfl,rfl⟩
    rw [show df ((al.map kr).take k)++[(.int .i64 (bD (((al).getD k (0,0)).1) 1 12)),(.int .i64 (bD (((al).getD k (0,0)).2) 1 30))]=df (((al.map kr).take k)++[(bD (((al).getD k (0,0)).1) 1 12,bD (((al).getD k (0,0)).2) 1 30)]) from lL _ _ _]
    refine aE ?_
    refine lZ (B:=ib) s14 ?_
    refine aE ?_
    exact cK hp hS (ti (hK (bs2,cp3,bs6,cp7) ⟨hf0,hf1,(fun _=>hok8),(fun _=>hle9)⟩)) rfl rfl rfl
  ·rintro ⟨bs2,cp3,bs6,cp7⟩ hF
   try dsimp only at hF⊢
   obtain ⟨hf0,hf1,hf2,hf3⟩:=hF
   have hok4:=hf0 rfl
   have hle5:=hf1 rfl
   have hok8:=hf2 rfl
   have hle9:=hf3 rfl
   refine az (E':=[(0,(.slice bb n cb)),(2,(.slice none 0 0)),(3,(.slice bs6 (k+1) cp7)),(4,(vN k)),(12,(.bool true))]) ⟨rfl,rfl,rfl,rfl,rfl,trivial⟩ ?_
   refine aZ (qn hK8 (aj ?_))
   rw [show ((al.map kr).take k)++[(bD (((al).getD k (0,0)).1) 1 12,bD (((al).getD k (0,0)).2) 1 30)]=(al.map kr).take (k+1) from vD (by omega)]
   refine ag rfl (tp rfl (aX (c:=((k+1:Nat):Int)) rfl rfl (aB (by omega))) ?_)
   refine aA rfl (aI (aN (aE (ak ?_))))
   exact az (by exact ⟨rfl,rfl,rfl,rfl,trivial⟩) ((hK5 (k+1,bs6,cp7) ⟨by omega,by omega,hok8,hle9⟩ (by dsimp only;omega)))
 ·refine mK (E':=[(0,(.slice bb n cb)),(2,(.slice none 0 0)),(3,(.slice bt k ct)),(4,(vN k)),(12,(.bool false))]) ?_ (fun KK hKK=>?_)
  ·
   refine qn hK7 (ar rfl (bT (au (au (bS (qn hK3 (ai (fun _ hK8=>av (fun _ hK9=>?_)))))))))
   refine ag rfl (tp rfl (bC CY rfl rfl) ?_)
   by_cases h10:(k:Int)=0
   ·refine tp rfl (aV rfl rfl (beq_iff_eq.2 h10)) (td hK9 (aG rfl (aj (ag rfl (tp rfl (bG (cs:=[(vI 1),(vI 1)]) (pl:=[(0,1),(1,1)]) Dt Eb (fun _=>by simp) rfl rfl) ?_)))))
    refine tm rfl (aD (cs:=[(vI 1),(vI 1)]) CY Dl Eb (by decide) rfl rfl rfl rfl) ?_
    rintro _ _ ⟨bs11,cp12,hok13,hle14,rfl,rfl⟩
    refine aE ?_
    refine tm rfl (cR (i:=Tryz.t57) CY Tryz.type57 rfl rfl rfl (by decide) rfl rfl hok13 (by first| (simp;done)| (simp;omega)) (cj (.tail _ (.head _))) (by simp [Value.oneCell']) (by rw [show Tryz.t57.bytes=16 from rfl];omega)) ?_
    rintro _ _ ⟨bs15,cp16,hok17,hle18,rfl,rfl⟩
    rw [show df ((al.map kr).take k)++[(.int .i64 1),(.int .i64 1)]=df (((al.map kr).take k)++[(1,1)]) from lL _ _ _]
    refine aA rfl (td hK8 (av (fun _ hK10=>ag rfl (aA rfl (td hK10 (ay ?_))))))
    have htf:((al.map kr).take k)++[(1,1)]=eS al:=by
     unfold eS;rw [if_pos (by omega),show k=0 by omega];rfl
    rw [htf]
    refine aE (ak ?_)
    refine aM rfl rfl ?_
    exact ⟨_,_,_,(by rw [←htf];simp;omega),hok17,hle18,rfl,rfl⟩
   ·refine tp rfl (aV rfl rfl (beq_eq_false_iff_ne.2 h10)) (td hK9 (ar rfl (dp hK8 (av (fun _ hK10=>ag rfl (aA rfl ?_))))))
    refine td hK10 (ay ?_)
    have htf:(al.map kr).take k=eS al:=by
     unfold eS;rw [if_neg (by omega)];exact vJ (by rw [List.length_map];omega)
    rw [htf]
    refine aM rfl rfl ?_
    exact ⟨_,_,_,(by rw [←htf];simp;omega),hok,hle,rfl,rfl⟩
  ·by_cases hc1A:(k:Int)< (n:Int)
   ·
    have hc1B:¬((k:Int)<8):=fun hh=>hc1 ⟨hc1A,hh⟩
    refine ag rfl (ag rfl (tp rfl (bC CY rfl rfl) (tp rfl (aJ rfl rfl (decide_eq_true hc1A)) (ag rfl ?_))))
    refine ae rfl rfl ?_
    refine ag rfl ?_
    refine ae rfl rfl ?_
    refine tp rfl (aJ rfl rfl (decide_eq_false hc1B)) (tp rfl (aL rfl rfl) ?_)
    exact aI (az (by exact ⟨rfl,rfl,rfl,rfl,rfl,trivial⟩) hKK)
   ·
    refine ag rfl (ag rfl (tp rfl (bC CY rfl rfl) (tp rfl (aJ rfl rfl (decide_eq_false hc1A)) (ag rfl ?_))))
    refine aq rfl rfl rfl ?_
    refine aq rfl rfl rfl ?_
    refine tp rfl (aC rfl rfl) ?_
    exact aI (az (by exact ⟨rfl,rfl,rfl,rfl,rfl,trivial⟩) hKK)
theorem uJ{R:List HP}{c:Cfg}{al:List (Int×Int)}{bb:Option Addr}{n cb:Nat}(hS:Sml c al)(hln:al.length=n)(hb:Rd R bb (df al))(okb:bB bb n):
 Ok Tryz.prog 7 [(.agg #[(vI c.bud),(vI c.slots),(vI c.act),(vI c.que),(vI c.tries),(vI c.pre),(vI c.tmo),(vI c.bak),(vI c.most),(vI c.qu)]),(.slice bb n cb)] R
  (fun v M=> ∃(e:Nat) (T:YG),NewG c al T∧v=.pointer (some ⟨e,0,none⟩)∧M=cO e T::R):=by
 refine aP (N:=16) Tryz.func7 rfl rfl rfl (fun W=>?_)
 refine av (fun _ hK1=>?_)
 refine tm rfl (cZ rfl rfl) ?_
 rintro _ _ ⟨b1,rfl,rfl⟩
 refine aA rfl (td hK1 (av (fun _ hK2=>tp rfl (cB (cs:=[(vI c.bud),(vI c.slots),(vI c.act),(vI c.que),(vI c.tries),(vI c.pre),(vI c.tmo),(vI c.bak),(vI c.most),(vI c.qu)]) DW Dm rfl (fF (aa (.head _) rfl) (aa (.head _) rfl) (aa (.head _) rfl) (aa (.head _) rfl) (aa (.head _) rfl) (aa (.head _) rfl) (aa (.head _) rfl) (aa (.head _) rfl) (aa (.head _) rfl) (aa (.head _) rfl))) (ag rfl ?_))))
 refine bN Tryz.call18 rfl (B6 hS hln (Rd.cons hb) okb) ?_
 rintro _ _ ⟨e2,yt3,hng4,rfl,rfl⟩
 refine ag rfl (tp rfl (aW rfl rfl) (tp rfl (aW rfl rfl) (aA rfl (aA rfl (td hK2 (ai (fun _ hK3=>av (fun _ hK4=>?_))))))))
 refine ag rfl (tp rfl (cG (r:=false) rfl rfl (by decide)) ?_)
 refine td hK4 (ar rfl (dp hK3 (av (fun K5 hK5=>ag rfl (aA rfl (aI ?_))))))
 refine qn hK5 (ay (aE (ak ?_)))
 refine aM rfl rfl ?_
 exact ⟨_,_,hng4,rfl,rfl⟩
set_option maxHeartbeats 4000000 in
theorem xu{R:List HP}{e:Nat}{c:Cfg}{al:List (Int×Int)}{i:Nat}{T:YG}(hG:GR c al i T)(hi:i≤1000)(slot:Int):
 Ok Tryz.prog 19 [(vP e 0),(vI slot)] ((cO e T)::R)
  (fun v M=> ∃n:Int,v=.int .i64 n∧M=cO e T::R):=by
 refine aP (N:=37) Tryz.func19 rfl rfl rfl (fun W=>?_)
 have hlg:=hG.lg
 refine av (fun _ hK1=>aA rfl (td hK1 (av (fun _ hK2=>ag rfl ?_))))
 refine bN Tryz.call12 rfl (uw (T:=T) hG (by omega)) ?_
 rintro _ _ ⟨bs1,cp2,hok3,hle4,rfl,rfl⟩
 refine aA rfl (td hK2 (av (fun _ hK3=>aA rfl (td hK3 (ai (fun _ hK4=>ai (fun K5 hK5=>?_)))))))
 refine aj (aA rfl (td hK5 (aH ?_)))
 refine cE (γ:=(Nat)×(Int)) (fun (k,zn)=>k≤T.y.s.lg.length∧True) (fun (k,zn)=>[(0,(vP e 0)),(1,(vI slot)),(4,(vI 0)),(5,(.slice bs1 T.y.s.lg.length cp2)),(6,(vI zn)),(7,(vN k))]) (fun (k,zn)=>(SlV 45 5 (.slice bs1 T.y.s.lg.length cp2) T.y.s.lg.length (bJ gH T.y.s.lg))::(cO e T)::R) (fun (k,zn)=>T.y.s.lg.length-k) (0,0) ⟨Nat.zero_le _,trivial⟩ ⟨rfl,rfl,rfl,rfl,rfl,rfl,trivial⟩ (fun _ h=>h) ?_
 rintro ⟨k,zn⟩ K6 hF hK6
 try dsimp only at hF hK6⊢
 obtain ⟨hk,_⟩:=hF
 refine ai (fun _ hK7=>av (fun _ hK8=>ag rfl (ag rfl (tp rfl (bC C5 rfl rfl) ?_))))
 by_cases h5:(k:Int)< (T.y.s.lg.length:Int)
 ·refine tp rfl (aJ rfl rfl (decide_eq_true h5)) (td hK8 (aG rfl (dp hK7 (ai (fun _ hK9=>aH (av (fun _ hK10=>?_)))))))
  by_cases hc6:((T.y.s.lg.getD k Ev.z).s)=slot∧((T.y.s.lg.getD k Ev.z).k)=1
  ·have hc6a:=hc6.1
   have hc6b:=hc6.2
   refine ag rfl (ag rfl (tp rfl (ah (k':=k*5) C5 Dh rfl rfl hok3 (by omega) (by omega) (by omega)) ?_))
   refine tp rfl (bM (o':=k*5+2) Dk rfl CG rfl rfl) (bK CH rfl (aw (.head _) ((bc (k:=k) (j:=2) bA (d:=Ev.z) (by first|omega| (simp;omega)) (nB rfl)).trans rfl)) ?_)
   refine ag rfl (tp rfl (aV rfl rfl (beq_iff_eq.2 hc6.1)) (ag rfl ?_))
   refine ae rfl rfl ?_
   refine ag rfl ?_
   refine ae rfl rfl ?_
   refine ag rfl ?_
   refine ae rfl rfl ?_
   refine tp rfl (ah (k':=k*5) C5 Dh rfl rfl hok3 (by omega) (by omega) (by omega)) ?_
   refine ae rfl rfl ?_
   refine tp rfl (bM (o':=k*5) Dk rfl CG rfl rfl) ?_
   refine ae rfl rfl ?_
   refine bK CH rfl (aw (.head _) ((bc (k:=k) (j:=0) bA (d:=Ev.z) (by first|omega| (simp;omega)) (nB rfl)).trans rfl)) ?_
   refine ae rfl rfl ?_
   refine tp rfl (aV rfl rfl (beq_iff_eq.2 hc6.2)) (tp rfl (aL rfl rfl) (td hK10 (aG rfl (aj (ag rfl (ag rfl (tp rfl (ah (k':=k*5) C5 Dh rfl rfl hok3 (by omega) (by omega) (by omega)) ?_)))))))
   refine tp rfl (bM (o':=k*5+3) Dk rfl CG rfl rfl) (bK CH rfl (aw (.head _) ((bc (k:=k) (j:=3) bA (d:=Ev.z) (by first|omega| (simp;omega)) (nB rfl)).trans rfl)) ?_)
   refine aA rfl (aI (aZ (qn hK9 (aj (ag rfl (tp rfl (aX (c:=((k+1:Nat):Int)) rfl rfl (aB (by omega))) ?_))))))
   refine aA rfl (aI (aN ?_))
   exact az (by exact ⟨rfl,rfl,rfl,rfl,rfl,rfl,trivial⟩) ((hK6 (k+1,(T.y.s.lg.getD k Ev.z).e) ⟨by omega,trivial⟩ (by dsimp only;omega)))
  ·refine mK (E':=[(0,(vP e 0)),(1,(vI slot)),(4,(vI 0)),(5,(.slice bs1 T.y.s.lg.length cp2)),(6,(vI zn)),(7,(vN k)),(13,(.bool true)),(30,(.bool false))]) ?_ (fun KK hKK=>?_)
   ·
    refine qn hK10 (ar rfl (cS (aZ (qn hK9 (aj (ag rfl (tp rfl (aX (c:=((k+1:Nat):Int)) rfl rfl (aB (by omega))) ?_)))))))
    refine aA rfl (aI (aN ?_))
    exact az (by exact ⟨rfl,rfl,rfl,rfl,rfl,rfl,trivial⟩) ((hK6 (k+1,zn) ⟨by omega,trivial⟩ (by dsimp only;omega)))
   ·by_cases hc6A:((T.y.s.lg.getD k Ev.z).s)=slot
    ·
     have hc6B:¬(((T.y.s.lg.getD k Ev.z).k)=1):=fun hh=>hc6 ⟨hc6A,hh⟩
     refine ag rfl (ag rfl (tp rfl (ah (k':=k*5) C5 Dh rfl rfl hok3 (by omega) (by omega) (by omega)) ?_))
     refine tp rfl (bM (o':=k*5+2) Dk rfl CG rfl rfl) (bK CH rfl (aw (.head _) ((bc (k:=k) (j:=2) bA (d:=Ev.z) (by first|omega| (simp;omega)) (nB rfl)).trans rfl)) ?_)
     refine ag rfl (tp rfl (aV rfl rfl (beq_iff_eq.2 hc6A)) (ag rfl ?_))
     refine ae rfl rfl ?_
     refine ag rfl ?_
     refine ae rfl rfl ?_
     refine ag rfl ?_
     refine ae rfl rfl ?_
     refine tp rfl (ah (k':=k*5) C5 Dh rfl rfl hok3 (by omega) (by omega) (by omega)) ?_
     refine ae rfl rfl ?_
     refine tp rfl (bM (o':=k*5) Dk rfl CG rfl rfl) ?_
     refine ae rfl rfl ?_
     refine bK CH rfl (aw (.head _) ((bc (k:=k) (j:=0) bA (d:=Ev.z) (by first|omega| (simp;omega)) (nB rfl)).trans rfl)) ?_
     refine ae rfl rfl ?_
     refine tp rfl (aV rfl rfl (beq_eq_false_iff_ne.2 hc6B)) (tp rfl (aL rfl rfl) ?_)
     exact aI (az (by exact ⟨rfl,rfl,rfl,rfl,rfl,rfl,rfl,rfl,trivial⟩) hKK)
    ·
     refine ag rfl (ag rfl (tp rfl (ah (k':=k*5) C5 Dh rfl rfl hok3 (by omega) (by omega) (by omega)) ?_))
     refine tp rfl (bM (o':=k*5+2) Dk rfl CG rfl rfl) (bK CH rfl (aw (.head _) ((bc (k:=k) (j:=2) bA (d:=Ev.z) (by first|omega| (simp;omega)) (nB rfl)).trans rfl)) ?_)
     refine ag rfl (tp rfl (aV rfl rfl (beq_eq_false_iff_ne.2 hc6A)) (ag rfl ?_))
     refine aq rfl rfl rfl ?_
     refine aq rfl rfl rfl ?_
     refine aq rfl rfl rfl ?_
     refine aq rfl rfl rfl ?_
     refine aq rfl rfl rfl ?_
     refine aq rfl rfl rfl ?_
     refine tp rfl (aC rfl rfl) ?_
     exact aI (az (by exact ⟨rfl,rfl,rfl,rfl,rfl,rfl,rfl,rfl,trivial⟩) hKK)
 ·refine tp rfl (aJ rfl rfl (decide_eq_false h5)) (td hK8 (ar rfl (bT (au (au (bS (qn hK4 (ai (fun _ hK9=>?_)))))))))
  refine aj (ag rfl (aA rfl (td hK9 (ay (ak ?_)))))
  refine aM rfl rfl ?_
  exact ⟨zn,rfl,rfl⟩
set_option maxHeartbeats 4000000 in
theorem Ca{R:List HP}{e:Nat}{c:Cfg}{al:List (Int×Int)}{i:Nat}{T:YG}(hG:GR c al i T)(hi:i≤1000)(kd oa ob oc od:Int):
 Ok Tryz.prog 9 [(.agg #[(vI kd),(vI oa),(vI ob),(vI oc),(vI od)]),(vP e 0)] ((cO e T)::R)
  (fun v M=> ∃a b c d:Int,v=.agg #[.int .i64 kd,.int .i64 a,.int .i64 b,.int .i64 c,.int .i64 d]∧M=cO e T::R):=by
 refine aP (N:=40) Tryz.func9 rfl rfl rfl (fun W=>?_)
 refine av (fun _ hK1=>?_)
 refine tm rfl (cZ rfl rfl) ?_
 rintro _ _ ⟨b1,rfl,rfl⟩
 refine tm rfl (cD Ef rfl) ?_
 rintro _ _ ⟨b2,rfl,rfl⟩
 refine td hK1 (ai (fun _ hK2=>av (fun _ hK3=>bU 0 CQ rfl CG rfl rfl (bK CH rfl (aa (.tail _ (.head _)) rfl) (td hK3 (aH ?_))))))
 refine av (fun _ hK4=>?_)
 by_cases h3:kd=1
 ·refine tp rfl (aV rfl rfl (beq_iff_eq.2 h3)) (aA rfl (td hK4 (aG rfl (aj (bU 1 CQ rfl CG rfl rfl (bK CH rfl (aa (.tail _ (.head _)) rfl) ?_))))))
  refine bN Dn rfl (fQ oa 0 8 (by omega)) ?_
  rintro _ _ ⟨rfl,rfl⟩
  refine bU 1 CQ rfl CG rfl rfl (aE ?_)
  refine ts (cM CG rfl rfl rfl (nB rfl) rfl) ?_
  refine aI (aZ (qn hK2 (av (fun K5 hK5=>tp rfl (cB (cs:=[(vI kd),(vI (bD oa 0 8)),(vI ob),(vI oc),(vI od)]) Dw Dd rfl (bh (aa (.head _) rfl) (aa (.head _) rfl) (aa (.head _) rfl) (aa (.head _) rfl) (aa (.head _) rfl))) (aE ?_)))))
  refine ts (bn (news:=[(vI kd),(vI (bD oa 0 8)),(vI ob),(vI oc),(vI od)]) Dd rfl rfl rfl rfl (nB rfl) rfl) ?_
  refine td hK5 (ay (aE (ak ?_)))
  refine j7 (cs:=[(vI kd),(vI (bD oa 0 8)),(vI ob),(vI oc),(vI od)]) rfl rfl Dw Dd (bh (aa (.head _) rfl) (aa (.head _) rfl) (aa (.head _) rfl) (aa (.head _) rfl) (aa (.head _) rfl)) (fun _ h=>h.drop) ?_
  exact ⟨_,_,_,_,rfl,rfl⟩
 ·refine tp rfl (aV rfl rfl (beq_eq_false_iff_ne.2 h3)) (aA rfl (td hK4 (ar rfl (ai (fun K5 hK5=>av (fun K6 hK6=>?_))))))
  by_cases h4:kd=2
  ·refine tp rfl (aV rfl rfl (beq_iff_eq.2 h4)) (aA rfl (td hK6 (aG rfl (dp hK5 (aG rfl (aj (bU 1 CQ rfl CG rfl rfl ?_)))))))
   refine bK CH rfl (aa (.tail _ (.head _)) rfl) ?_
   refine bN Dn rfl (fQ oa 0 20 (by omega)) ?_
   rintro _ _ ⟨rfl,rfl⟩
   refine bU 1 CQ rfl CG rfl rfl (aE ?_)
   refine ts (cM CG rfl rfl rfl (nB rfl) rfl) ?_
   refine aI (aZ (qn hK2 (av (fun _ hK7=>tp rfl (cB (cs:=[(vI kd),(vI (bD oa 0 20)),(vI ob),(vI oc),(vI od)]) Dw Dd rfl (bh (aa (.head _) rfl) (aa (.head _) rfl) (aa (.head _) rfl) (aa (.head _) rfl) (aa (.head _) rfl))) (aE ?_)))))
   refine ts (bn (news:=[(vI kd),(vI (bD oa 0 20)),(vI ob),(vI oc),(vI od)]) Dd rfl rfl rfl rfl (nB rfl) rfl) ?_
   refine td hK7 (ay (aE (ak ?_)))
   refine j7 (cs:=[(vI kd),(vI (bD oa 0 20)),(vI ob),(vI oc),(vI od)]) rfl rfl Dw Dd (bh (aa (.head _) rfl) (aa (.head _) rfl) (aa (.head _) rfl) (aa (.head _) rfl) (aa (.head _) rfl)) (fun _ h=>h.drop) ?_
   exact ⟨_,_,_,_,rfl,rfl⟩
  ·refine tp rfl (aV rfl rfl (beq_eq_false_iff_ne.2 h4)) (aA rfl (td hK6 (ar rfl (aj ?_))))
   by_cases h5:kd=6
   ·refine tp rfl (aV rfl rfl (beq_iff_eq.2 h5)) (aA rfl (td hK5 (aG rfl (aj (bU 1 CQ rfl CG rfl rfl (bK CH rfl (aa (.tail _ (.head _)) rfl) ?_))))))
    refine bN Dn rfl (fQ oa 0 20 (by omega)) ?_
    rintro _ _ ⟨rfl,rfl⟩
    refine bU 1 CQ rfl CG rfl rfl (aE ?_)
    refine ts (cM CG rfl rfl rfl (nB rfl) rfl) ?_
    refine aI (aZ (qn hK2 (av (fun _ hK7=>tp rfl (cB (cs:=[(vI kd),(vI (bD oa 0 20)),(vI ob),(vI oc),(vI od)]) Dw Dd rfl (bh (aa (.head _) rfl) (aa (.head _) rfl) (aa (.head _) rfl) (aa (.head _) rfl) (aa (.head _) rfl))) (aE ?_)))))
    refine ts (bn (news:=[(vI kd),(vI (bD oa 0 20)),(vI ob),(vI oc),(vI od)]) Dd rfl rfl rfl rfl (nB rfl) rfl) ?_
    refine td hK7 (ay (aE (ak ?_)))
    refine j7 (cs:=[(vI kd),(vI (bD oa 0 20)),(vI ob),(vI oc),(vI od)]) rfl rfl Dw Dd (bh (aa (.head _) rfl) (aa (.head _) rfl) (aa (.head _) rfl) (aa (.head _) rfl) (aa (.head _) rfl)) (fun _ h=>h.drop) ?_
    exact ⟨_,_,_,_,rfl,rfl⟩
   ·refine tp rfl (aV rfl rfl (beq_eq_false_iff_ne.2 h5)) (aA rfl (td hK5 (ar rfl (av (fun _ hK7=>?_)))))
    by_cases h6:kd=5
    ·refine tp rfl (aV rfl rfl (beq_iff_eq.2 h6)) (aA rfl (td hK7 (aG rfl (av (fun _ hK8=>bU 1 CQ rfl CG rfl rfl (bK CH rfl (aa (.tail _ (.head _)) rfl) ?_))))))
     refine bN Dn rfl (fQ oa 0 4 (by omega)) ?_
     rintro _ _ ⟨rfl,rfl⟩
     refine bU 1 CQ rfl CG rfl rfl (aE ?_)
     refine ts (cM CG rfl rfl rfl (nB rfl) rfl) ?_
     refine td hK8 (ai (fun _ hK9=>av (fun _ hK10=>bU 2 CQ rfl CG rfl rfl (bK CH rfl (aa (.head _) rfl) (tp rfl (jM (c:=j2 .i64 ob 1) rfl rfl rfl) ?_)))))
     by_cases h7:(j2 .i64 ob 1)=0
     ·refine tp rfl (aV rfl rfl (beq_iff_eq.2 h7)) (td hK10 (aG rfl (aj (ag rfl (bU 1 CQ rfl CG rfl rfl (bK CH rfl (aa (.head _) rfl) (aR ?_)))))))
      refine bN Tryz.call19 rfl (xu (T:=T) hG (by omega) (bD oa 0 4)) ?_
      rintro _ _ ⟨zn8,rfl,rfl⟩
      refine bU 2 CQ rfl CG rfl rfl (aE ?_)
      refine ts (cM CG rfl rfl rfl (nB rfl) rfl) ?_
      refine td hK9 (aj (bU 4 CQ rfl CG rfl rfl (bK CH rfl (aa (.head _) rfl) ?_)))
      refine bN Dn rfl (fQ od 0 8 (by omega)) ?_
      rintro _ _ ⟨rfl,rfl⟩
      refine bU 4 CQ rfl CG rfl rfl ?_
      refine ts (cM CG rfl rfl rfl (nB rfl) rfl) ?_
      refine aI (aZ (qn hK2 (av (fun _ hK11=>tp rfl (cB (cs:=[(vI kd),(vI (bD oa 0 4)),(vI zn8),(vI oc),(vI (bD od 0 8))]) Dw Dd rfl (bh (aa (.head _) rfl) (aa (.head _) rfl) (aa (.head _) rfl) (aa (.head _) rfl) (aa (.head _) rfl))) (aR ?_)))))
      refine ts (bn (news:=[(vI kd),(vI (bD oa 0 4)),(vI zn8),(vI oc),(vI (bD od 0 8))]) Dd rfl rfl rfl rfl (nB rfl) rfl) ?_
      refine td hK11 (ay (aE (ak ?_)))
      refine j7 (cs:=[(vI kd),(vI (bD oa 0 4)),(vI zn8),(vI oc),(vI (bD od 0 8))]) rfl rfl Dw Dd (bh (aa (.head _) rfl) (aa (.head _) rfl) (aa (.head _) rfl) (aa (.head _) rfl) (aa (.head _) rfl)) (fun _ h=>h.drop) ?_
      exact ⟨_,_,_,_,rfl,rfl⟩
     ·refine tp rfl (aV rfl rfl (beq_eq_false_iff_ne.2 h7)) (td hK10 (ar rfl (dp hK9 (aj (bU 4 CQ rfl CG rfl rfl (bK CH rfl (aa (.head _) rfl) ?_))))))
      refine bN Dn rfl (fQ od 0 8 (by omega)) ?_
      rintro _ _ ⟨rfl,rfl⟩
      refine bU 4 CQ rfl CG rfl rfl ?_
      refine ts (cM CG rfl rfl rfl (nB rfl) rfl) ?_
      refine aI (aZ (qn hK2 (av (fun _ hK11=>tp rfl (cB (cs:=[(vI kd),(vI (bD oa 0 4)),(vI ob),(vI oc),(vI (bD od 0 8))]) Dw Dd rfl (bh (aa (.head _) rfl) (aa (.head _) rfl) (aa (.head _) rfl) (aa (.head _) rfl) (aa (.head _) rfl))) (aE ?_)))))
      refine ts (bn (news:=[(vI kd),(vI (bD oa 0 4)),(vI ob),(vI oc),(vI (bD od 0 8))]) Dd rfl rfl rfl rfl (nB rfl) rfl) ?_
      refine td hK11 (ay (aE (ak ?_)))
      refine j7 (cs:=[(vI kd),(vI (bD oa 0 4)),(vI ob),(vI oc),(vI (bD od 0 8))]) rfl rfl Dw Dd (bh (aa (.head _) rfl) (aa (.head _) rfl) (aa (.head _) rfl) (aa (.head _) rfl) (aa (.head _) rfl)) (fun _ h=>h.drop) ?_
      exact ⟨_,_,_,_,rfl,rfl⟩
    ·refine tp rfl (aV rfl rfl (beq_eq_false_iff_ne.2 h6)) (aA rfl (td hK7 (ar rfl (cS (aZ (qn hK2 (av (fun _ hK8=>?_))))))))
     refine tp rfl (cB (cs:=[(vI kd),(vI oa),(vI ob),(vI oc),(vI od)]) Dw Dd rfl (bh (aa (.tail _ (.head _)) rfl) (aa (.tail _ (.head _)) rfl) (aa (.tail _ (.head _)) rfl) (aa (.tail _ (.head _)) rfl) (aa (.tail _ (.head _)) rfl))) ?_
     refine ts (bn (news:=[(vI kd),(vI oa),(vI ob),(vI oc),(vI od)]) Dd rfl rfl rfl rfl (nB rfl) rfl) ?_
     refine td hK8 (ay (aE (ak ?_)))
     refine j7 (cs:=[(vI kd),(vI oa),(vI ob),(vI oc),(vI od)]) rfl rfl Dw Dd (bh (aa (.head _) rfl) (aa (.head _) rfl) (aa (.head _) rfl) (aa (.head _) rfl) (aa (.head _) rfl)) (fun _ h=>h.drop) ?_
     exact ⟨_,_,_,_,rfl,rfl⟩
end Go.Proofs.YtanfdikglplkaaaGreatDoor
