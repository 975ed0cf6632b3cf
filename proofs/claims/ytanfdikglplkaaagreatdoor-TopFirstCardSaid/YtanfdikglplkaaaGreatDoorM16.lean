/- Parts Ea: own lemmas and contracts of the code that the claim reaches. -/
import Derived.Test.YtanfdikglplkaaaGreatDoorM03
import Derived.Test.YtanfdikglplkaaaGreatDoorM04
import Derived.Test.YtanfdikglplkaaaGreatDoorM15
import Derived.Test.YtanfdikglplkaaaGreatDoorM05
set_option linter.unusedSimpArgs false
set_option linter.unusedVariables false
set_option maxRecDepth 100000
namespace Go.Proofs.YtanfdikglplkaaaGreatDoor
open Go Go.Proofs Sp
theorem hJ{R:List HP}{bx:Option Addr}{cx:Nat}(xs:List Int)(hx:(∀x∈xs,0≤x)∧xs.length≤100)(hr:Rd R bx (aF .i64 xs))(okx:bB bx xs.length):
 Ok Tryz.prog 90 [(.slice bx xs.length cx)] R
  (fun v M=>v=.int .u8 (q7 xs)∧M=R):=by
 refine aP (N:=17) Tryz.func90 rfl rfl rfl (fun W=>?_)
 have hx2:=hx.2
 refine av (fun _ hK1=>aA rfl (td hK1 (ai (fun _ hK2=>av (fun _ hK3=>ag rfl (tp rfl (bC CI rfl rfl) ?_))))))
 refine ag rfl (td hK3 (aH ?_))
 refine cE (γ:=(Nat)) (fun (k:Nat)=>k≤xs.length) (fun (k:Nat)=>[(0,(.slice bx xs.length cx)),(2,(.int .u8 (q7 (xs.take k)))),(5,(.slice bx xs.length cx)),(6,(vN xs.length)),(7,(vN k))]) (fun (k:Nat)=>R) (fun (k:Nat)=>xs.length-k) (0) (Nat.zero_le _) ⟨rfl,rfl,rfl,rfl,rfl,trivial⟩ (fun _ h=>h) ?_
 rintro k K4 hF hK4
 try dsimp only at hF hK4⊢
 refine av (fun _ hK5=>?_)
 by_cases h1:(k:Int)< (xs.length:Int)
 ·refine tp rfl (aJ rfl rfl (decide_eq_true h1)) (td hK5 (ai (fun _ hK6=>aG rfl (dp hK6 (ai (fun _ hK7=>aH (ai (fun _ hK8=>?_))))))))
  refine aj (tp rfl (ah (k':=k) CI CG rfl rfl okx (by omega) (by omega) (by omega)) ?_)
  refine bK CH rfl (Rd.gives hr (aQ (by first|omega| (simp;omega)))) ?_
  refine aA rfl (td hK8 (aj (ag rfl (ag rfl (tp rfl (tj (c:=pt .u8 1 ((xs).getD k 0)) rfl rfl (hx.1 _ (dP (by omega))) rfl) ?_)))))
  refine tp rfl (yd (c:=AO .u8 (q7 (xs.take k)) (pt .u8 1 ((xs).getD k 0))) rfl rfl rfl) (aA rfl (aI (aZ (qn hK7 (aj (tp rfl (aX (c:=((k+1:Nat):Int)) rfl rfl (aB (by omega))) ?_))))))
  refine ag rfl (aI (aN ?_))
  exact az (by exact ⟨rfl,(by rw [di (by omega) 0,yL];rfl),rfl,rfl,rfl,trivial⟩) ((hK4 (k+1) (by omega) (by omega)))
 ·refine tp rfl (aJ rfl rfl (decide_eq_false h1)) (td hK5 (ai (fun _ hK6=>ar rfl (bT (au (au (bS (qn hK2 ?_))))))))
  refine av (fun _ hK7=>ag rfl (aA rfl (td hK7 (ay ?_))))
  rw [show xs.take k=xs from List.take_of_length_le (by omega)]
  refine aM rfl rfl ?_
  exact ⟨rfl,rfl⟩
theorem fA{R:List HP}{p:Nat}{v1 v2 v3 v4 v5:Value}(m to st:Int)(h0:0≤st):
 Ok Tryz.prog 89 [(vP p 0),(.int .u8 m),(vI to)] ((bI p [(vI st),v1,v2,v3,v4,v5] 92)::R)
  (fun v M=>v=.int .i64 (ry m st)∧M=bI p [.int .i64 (if ry m st=0 then to else st),v1,v2,v3,v4,v5] 92::R):=by
 refine aP (N:=19) Tryz.func89 rfl rfl rfl (fun W=>?_)
 refine av (fun _ hK1=>aA rfl (td hK1 (ai (fun _ hK2=>av (fun _ hK3=>ag rfl (ag rfl ?_))))))
 refine cV rfl (bU 0 C0 rfl CG rfl rfl (bK CH rfl (aa (.head _) rfl) (tp rfl (j4 (c:=mY .u8 m st) rfl rfl (by omega) rfl) ?_)))
 refine tp rfl (jM (c:=j2 .u8 (mY .u8 m st) 1) rfl rfl rfl) ?_
 by_cases h1:(j2 .u8 (mY .u8 m st) 1)=0
 ·refine tp rfl (aV rfl rfl (beq_iff_eq.2 h1)) (td hK3 (aG rfl (av (fun K4 hK4=>aA rfl (td hK4 (ay ?_))))))
  refine aK ?_
  refine aM rfl rfl ?_
  have hs:ry m st=8:=by unfold ry;first|rw [if_pos ‹_›]|rw [if_neg ‹_›]
  rw [hs]
  exact ⟨rfl,rfl⟩
 ·refine tp rfl (aV rfl rfl (beq_eq_false_iff_ne.2 h1)) (td hK3 (ar rfl (dp hK2 (av (fun K4 hK4=>ag rfl (ag rfl ?_))))))
  refine cV rfl (bU 0 C0 rfl CG rfl rfl ?_)
  refine ts (cM CG rfl rfl rfl (nB rfl) rfl) ?_
  refine td hK4 (av (fun _ hK5=>aA rfl (td hK5 (ay ?_))))
  refine aM rfl rfl ?_
  have hs:ry m st=0:=by unfold ry;first|rw [if_pos ‹_›]|rw [if_neg ‹_›]
  rw [hs]
  exact ⟨rfl,rfl⟩
theorem fc{R:List HP}{p:Nat}(x:Lf):
 Ok Tryz.prog 23 [(vP p 0)] ((bI p [(vI x.st),(vI x.ep),(vI x.ms),(vI x.sp),(vI x.tr),(vI x.pr)] 92)::R)
  (fun v M=>v=.int .i64 x.st∧M=bI p (fD x) 92::R):=by
 refine aP (N:=7) Tryz.func23 rfl rfl rfl (fun W=>?_)
 refine av (fun _ hK1=>aA rfl (td hK1 (av (fun _ hK2=>ag rfl (cV rfl (bU 0 C0 rfl CG rfl rfl ?_))))))
 refine bK CH rfl (aa (.head _) rfl) (aA rfl (td hK2 (ay ?_)))
 refine aM rfl rfl ?_
 exact ⟨rfl,rfl⟩
theorem qf{R:List HP}{p:Nat}(x:Lf):
 Ok Tryz.prog 109 [(vP p 0)] ((bI p [(vI x.st),(vI x.ep),(vI x.ms),(vI x.sp),(vI x.tr),(vI x.pr)] 92)::R)
  (fun v M=>v=.int .i64 x.ep∧M=bI p (fD x) 92::R):=by
 refine aP (N:=7) Tryz.func109 rfl rfl rfl (fun W=>?_)
 refine av (fun _ hK1=>aA rfl (td hK1 (av (fun _ hK2=>ag rfl (cV rfl (bU 1 C0 rfl CG rfl rfl ?_))))))
 refine bK CH rfl (aa (.head _) rfl) (aA rfl (td hK2 (ay ?_)))
 refine aM rfl rfl ?_
 exact ⟨rfl,rfl⟩
theorem tx{R:List HP}{p:Nat}(x:Lf):
 Ok Tryz.prog 88 [(vP p 0)] ((bI p [(vI x.st),(vI x.ep),(vI x.ms),(vI x.sp),(vI x.tr),(vI x.pr)] 92)::R)
  (fun v M=>v=.int .i64 x.ms∧M=bI p (fD x) 92::R):=by
 refine aP (N:=7) Tryz.func88 rfl rfl rfl (fun W=>?_)
 refine av (fun _ hK1=>aA rfl (td hK1 (av (fun _ hK2=>ag rfl (cV rfl (bU 2 C0 rfl CG rfl rfl ?_))))))
 refine bK CH rfl (aa (.head _) rfl) (aA rfl (td hK2 (ay ?_)))
 refine aM rfl rfl ?_
 exact ⟨rfl,rfl⟩
theorem sL{R:List HP}{p:Nat}(x:Lf):
 Ok Tryz.prog 146 [(vP p 0)] ((bI p [(vI x.st),(vI x.ep),(vI x.ms),(vI x.sp),(vI x.tr),(vI x.pr)] 92)::R)
  (fun v M=>v=.int .i64 x.sp∧M=bI p (fD x) 92::R):=by
 refine aP (N:=7) Tryz.func146 rfl rfl rfl (fun W=>?_)
 refine av (fun _ hK1=>aA rfl (td hK1 (av (fun _ hK2=>ag rfl (cV rfl (bU 3 C0 rfl CG rfl rfl ?_))))))
 refine bK CH rfl (aa (.head _) rfl) (aA rfl (td hK2 (ay ?_)))
 refine aM rfl rfl ?_
 exact ⟨rfl,rfl⟩
theorem jy{R:List HP}{p:Nat}(x:Lf):
 Ok Tryz.prog 77 [(vP p 0)] ((bI p [(vI x.st),(vI x.ep),(vI x.ms),(vI x.sp),(vI x.tr),(vI x.pr)] 92)::R)
  (fun v M=>v=.bool (decide (x.st≥5))∧M=bI p (fD x) 92::R):=by
 refine aP (N:=8) Tryz.func77 rfl rfl rfl (fun W=>?_)
 refine av (fun _ hK1=>aA rfl (td hK1 (av (fun _ hK2=>ag rfl (cV rfl (bU 0 C0 rfl CG rfl rfl ?_))))))
 refine bK CH rfl (aa (.head _) rfl) (tp rfl (cC rfl rfl rfl) (aA rfl (td hK2 (ay ?_))))
 refine aM rfl rfl ?_
 exact ⟨rfl,rfl⟩
set_option maxHeartbeats 4000000 in
theorem pP{R:List HP}{p:Nat}(x:Lf)(e:Int):
 Ok Tryz.prog 62 [(vP p 0),(vI e)] ((bI p [(vI x.st),(vI x.ep),(vI x.ms),(vI x.sp),(vI x.tr),(vI x.pr)] 92)::R)
  (fun v M=>v=.int .i64 (jP x e)∧M=bI p (fD x) 92::R):=by
 refine aP (N:=18) Tryz.func62 rfl rfl rfl (fun W=>?_)
 refine av (fun _ hK1=>aA rfl (td hK1 (ai (fun _ hK2=>av (fun _ hK3=>ag rfl (cV rfl ?_))))))
 refine bU 0 C0 rfl CG rfl rfl (bK CH rfl (aa (.head _) rfl) ?_)
 by_cases h1:x.st=2
 ·refine tp rfl (cG rfl rfl (bne_eq_false_iff_eq.2 h1)) (ag rfl ?_)
  refine ae rfl rfl ?_
  refine ag rfl ?_
  refine ae rfl rfl ?_
  refine ag rfl ?_
  refine ae rfl rfl ?_
  refine cV rfl ?_
  refine ae rfl rfl ?_
  refine bU 1 C0 rfl CG rfl rfl ?_
  refine ae rfl rfl ?_
  refine bK CH rfl (aa (.head _) rfl) ?_
  refine ae rfl rfl ?_
  by_cases h2:e=x.ep
  ·refine tp rfl (cG rfl rfl (bne_eq_false_iff_eq.2 h2)) (tp rfl (aC rfl rfl) (td hK3 (ar rfl (dp hK2 (av (fun K4 hK4=>aA rfl ?_))))))
   refine td hK4 (ay ?_)
   refine aM rfl rfl ?_
   exact ⟨by unfold jP;first|rw [if_pos (by omega)]|rw [if_neg (by omega)],rfl⟩
  ·refine tp rfl (cG rfl rfl (bne_iff_ne.2 h2)) (tp rfl (aC rfl rfl) (td hK3 (aG rfl (av (fun K4 hK4=>aA rfl (td hK4 ?_))))))
   refine ay ?_
   refine aK ?_
   refine aM rfl rfl ?_
   exact ⟨by unfold jP;first|rw [if_pos (by omega)]|rw [if_neg (by omega)],rfl⟩
 ·refine tp rfl (cG rfl rfl (bne_iff_ne.2 h1)) (ag rfl ?_)
  refine aq rfl rfl rfl ?_
  refine aq rfl rfl rfl ?_
  refine aq rfl rfl rfl ?_
  refine aq rfl rfl rfl ?_
  refine aq rfl rfl rfl ?_
  refine aq rfl rfl rfl ?_
  refine tp rfl (aL rfl rfl) (td hK3 (aG rfl (av (fun K4 hK4=>aA rfl (td hK4 (ay ?_))))))
  refine aK ?_
  refine aM rfl rfl ?_
  exact ⟨by unfold jP;first|rw [if_pos (by omega)]|rw [if_neg (by omega)],rfl⟩
theorem sm{R:List HP}{p:Nat}(x:Lf)(hx:LfOk x):
 Ok Tryz.prog 76 [(vP p 0)] ((bI p [(vI x.st),(vI x.ep),(vI x.ms),(vI x.sp),(vI x.tr),(vI x.pr)] 92)::R)
  (fun v M=>v=.int .i64 (if x.st=0 then 0 else 8)∧M=bI p (fD (mj x)) 92::R):=by
 refine aP (N:=7) Tryz.func76 rfl rfl rfl (fun W=>?_)
 refine av (fun _ hK1=>aA rfl (td hK1 (av (fun _ hK2=>ag rfl ?_))))
 refine tm rfl (aD (cs:=[(vI 0)]) CI CG CN (by decide) rfl rfl rfl rfl) ?_
 rintro _ _ ⟨bs1,cp2,hok3,hle4,rfl,rfl⟩
 refine bN Dz rfl (hJ [0] (by decide) (cj (.head _)) hok3) ?_
 rintro _ _ ⟨rfl,rfl⟩
 rw [show q7 [0]=1 from by decide]
 refine aE ?_
 refine bN DA rfl (fA (v1:=(vI x.ep)) (v2:=(vI x.ms)) (v3:=(vI x.sp)) (v4:=(vI x.tr)) (v5:=(vI x.pr)) 1 1 x.st hx.s0) ?_
 rintro _ _ ⟨rfl,rfl⟩
 refine aA rfl (td hK2 (ay (aE (ak ?_))))
 refine aM rfl rfl ?_
 rw [Cj hx.s0 hx.s7]
 by_cases e:x.st=0
 ·simp [mj,o9,e,fD]
 ·simp [mj,o9,e,fD]
theorem yO{R:List HP}{p:Nat}(x:Lf)(hx:LfOk x):
 Ok Tryz.prog 148 [(vP p 0)] ((bI p [(vI x.st),(vI x.ep),(vI x.ms),(vI x.sp),(vI x.tr),(vI x.pr)] 92)::R)
  (fun v M=>v=.int .i64 (if x.st=3 then 0 else 8)∧M=bI p (fD (lV x)) 92::R):=by
 refine aP (N:=7) Tryz.func148 rfl rfl rfl (fun W=>?_)
 refine av (fun _ hK1=>aA rfl (td hK1 (av (fun _ hK2=>ag rfl ?_))))
 refine tm rfl (aD (cs:=[(vI 3)]) CI CG CN (by decide) rfl rfl rfl rfl) ?_
 rintro _ _ ⟨bs1,cp2,hok3,hle4,rfl,rfl⟩
 refine bN Dz rfl (hJ [3] (by decide) (cj (.head _)) hok3) ?_
 rintro _ _ ⟨rfl,rfl⟩
 rw [show q7 [3]=8 from by decide]
 refine aE ?_
 refine bN DA rfl (fA (v1:=(vI x.ep)) (v2:=(vI x.ms)) (v3:=(vI x.sp)) (v4:=(vI x.tr)) (v5:=(vI x.pr)) 8 1 x.st hx.s0) ?_
 rintro _ _ ⟨rfl,rfl⟩
 refine aA rfl (td hK2 (ay (aE (ak ?_))))
 refine aM rfl rfl ?_
 rw [Ci hx.s0 hx.s7]
 by_cases e:x.st=3
 ·simp [lV,o9,e,fD]
 ·simp [lV,o9,e,fD]
theorem sW{R:List HP}{p:Nat}(x:Lf)(hx:LfOk x):
 Ok Tryz.prog 51 [(vP p 0)] ((bI p [(vI x.st),(vI x.ep),(vI x.ms),(vI x.sp),(vI x.tr),(vI x.pr)] 92)::R)
  (fun v M=>v=.int .i64 (if x.st=4 then 0 else 8)∧M=bI p (fD (pN x)) 92::R):=by
 refine aP (N:=7) Tryz.func51 rfl rfl rfl (fun W=>?_)
 refine av (fun _ hK1=>aA rfl (td hK1 (av (fun _ hK2=>ag rfl ?_))))
 refine tm rfl (aD (cs:=[(vI 4)]) CI CG CN (by decide) rfl rfl rfl rfl) ?_
 rintro _ _ ⟨bs1,cp2,hok3,hle4,rfl,rfl⟩
 refine bN Dz rfl (hJ [4] (by decide) (cj (.head _)) hok3) ?_
 rintro _ _ ⟨rfl,rfl⟩
 rw [show q7 [4]=16 from by decide]
 refine aE ?_
 refine bN DA rfl (fA (v1:=(vI x.ep)) (v2:=(vI x.ms)) (v3:=(vI x.sp)) (v4:=(vI x.tr)) (v5:=(vI x.pr)) 16 1 x.st hx.s0) ?_
 rintro _ _ ⟨rfl,rfl⟩
 refine aA rfl (td hK2 (ay (aE (ak ?_))))
 refine aM rfl rfl ?_
 rw [BD hx.s0 hx.s7]
 by_cases e:x.st=4
 ·simp [pN,o9,e,fD]
 ·simp [pN,o9,e,fD]
theorem vg{R:List HP}{p:Nat}(x:Lf)(hx:LfOk x):
 Ok Tryz.prog 116 [(vP p 0)] ((bI p [(vI x.st),(vI x.ep),(vI x.ms),(vI x.sp),(vI x.tr),(vI x.pr)] 92)::R)
  (fun v M=>v=.int .i64 (if x.st=2 then 0 else 8)∧M=bI p (fD (lK x)) 92::R):=by
 refine aP (N:=7) Tryz.func116 rfl rfl rfl (fun W=>?_)
 refine av (fun _ hK1=>aA rfl (td hK1 (av (fun _ hK2=>ag rfl ?_))))
 refine tm rfl (aD (cs:=[(vI 2)]) CI CG CN (by decide) rfl rfl rfl rfl) ?_
 rintro _ _ ⟨bs1,cp2,hok3,hle4,rfl,rfl⟩
 refine bN Dz rfl (hJ [2] (by decide) (cj (.head _)) hok3) ?_
 rintro _ _ ⟨rfl,rfl⟩
 rw [show q7 [2]=4 from by decide]
 refine aE ?_
 refine bN DA rfl (fA (v1:=(vI x.ep)) (v2:=(vI x.ms)) (v3:=(vI x.sp)) (v4:=(vI x.tr)) (v5:=(vI x.pr)) 4 1 x.st hx.s0) ?_
 rintro _ _ ⟨rfl,rfl⟩
 refine aA rfl (td hK2 (ay (aE (ak ?_))))
 refine aM rfl rfl ?_
 rw [sA hx.s0 hx.s7]
 by_cases e:x.st=2
 ·simp [lK,o9,e,fD]
 ·simp [lK,o9,e,fD]
theorem rD{R:List HP}{p:Nat}(x:Lf)(hx:LfOk x):
 Ok Tryz.prog 117 [(vP p 0)] ((bI p [(vI x.st),(vI x.ep),(vI x.ms),(vI x.sp),(vI x.tr),(vI x.pr)] 92)::R)
  (fun v M=>v=.int .i64 (if x.st=2 then 0 else 8)∧M=bI p (fD (eN x)) 92::R):=by
 refine aP (N:=7) Tryz.func117 rfl rfl rfl (fun W=>?_)
 refine av (fun _ hK1=>aA rfl (td hK1 (av (fun _ hK2=>ag rfl ?_))))
 refine tm rfl (aD (cs:=[(vI 2)]) CI CG CN (by decide) rfl rfl rfl rfl) ?_
 rintro _ _ ⟨bs1,cp2,hok3,hle4,rfl,rfl⟩
 refine bN Dz rfl (hJ [2] (by decide) (cj (.head _)) hok3) ?_
 rintro _ _ ⟨rfl,rfl⟩
 rw [show q7 [2]=4 from by decide]
 refine aE ?_
 refine bN DA rfl (fA (v1:=(vI x.ep)) (v2:=(vI x.ms)) (v3:=(vI x.sp)) (v4:=(vI x.tr)) (v5:=(vI x.pr)) 4 3 x.st hx.s0) ?_
 rintro _ _ ⟨rfl,rfl⟩
 refine aA rfl (td hK2 (ay (aE (ak ?_))))
 refine aM rfl rfl ?_
 rw [sA hx.s0 hx.s7]
 by_cases e:x.st=2
 ·simp [eN,o9,e,fD]
 ·simp [eN,o9,e,fD]
theorem z9{R:List HP}{p:Nat}(x:Lf)(hx:LfOk x):
 Ok Tryz.prog 63 [(vP p 0)] ((bI p [(vI x.st),(vI x.ep),(vI x.ms),(vI x.sp),(vI x.tr),(vI x.pr)] 92)::R)
  (fun v M=>v=.int .i64 (if x.st=2 then 0 else 8)∧M=bI p (fD (pj x)) 92::R):=by
 refine aP (N:=7) Tryz.func63 rfl rfl rfl (fun W=>?_)
 refine av (fun _ hK1=>aA rfl (td hK1 (av (fun _ hK2=>ag rfl ?_))))
 refine tm rfl (aD (cs:=[(vI 2)]) CI CG CN (by decide) rfl rfl rfl rfl) ?_
 rintro _ _ ⟨bs1,cp2,hok3,hle4,rfl,rfl⟩
 refine bN Dz rfl (hJ [2] (by decide) (cj (.head _)) hok3) ?_
 rintro _ _ ⟨rfl,rfl⟩
 rw [show q7 [2]=4 from by decide]
 refine aE ?_
 refine bN DA rfl (fA (v1:=(vI x.ep)) (v2:=(vI x.ms)) (v3:=(vI x.sp)) (v4:=(vI x.tr)) (v5:=(vI x.pr)) 4 5 x.st hx.s0) ?_
 rintro _ _ ⟨rfl,rfl⟩
 refine aA rfl (td hK2 (ay (aE (ak ?_))))
 refine aM rfl rfl ?_
 rw [sA hx.s0 hx.s7]
 by_cases e:x.st=2
 ·simp [pj,o9,e,fD]
 ·simp [pj,o9,e,fD]
theorem oL{R:List HP}{p:Nat}(x:Lf)(hx:LfOk x):
 Ok Tryz.prog 118 [(vP p 0)] ((bI p [(vI x.st),(vI x.ep),(vI x.ms),(vI x.sp),(vI x.tr),(vI x.pr)] 92)::R)
  (fun v M=>v=.int .i64 (if x.st=3∨x.st=0 then 0 else 8)∧M=bI p (fD (gz x)) 92::R):=by
 refine aP (N:=7) Tryz.func118 rfl rfl rfl (fun W=>?_)
 refine av (fun _ hK1=>aA rfl (td hK1 (av (fun _ hK2=>ag rfl ?_))))
 refine tm rfl (aD (cs:=[(vI 3),(vI 0)]) CI CG CN (by decide) rfl rfl rfl rfl) ?_
 rintro _ _ ⟨bs1,cp2,hok3,hle4,rfl,rfl⟩
 refine bN Dz rfl (hJ [3,0] (by decide) (cj (.head _)) hok3) ?_
 rintro _ _ ⟨rfl,rfl⟩
 rw [show q7 [3,0]=9 from by decide]
 refine aE ?_
 refine bN DA rfl (fA (v1:=(vI x.ep)) (v2:=(vI x.ms)) (v3:=(vI x.sp)) (v4:=(vI x.tr)) (v5:=(vI x.pr)) 9 6 x.st hx.s0) ?_
 rintro _ _ ⟨rfl,rfl⟩
 refine aA rfl (td hK2 (ay (aE (ak ?_))))
 refine aM rfl rfl ?_
 rw [B2 hx.s0 hx.s7]
 by_cases e:x.st=3∨x.st=0
 ·simp only [gz,if_pos e,fD,if_true,true_and]
 ·simp only [gz,if_neg e,fD,show ((8:Int)=0)↔False from by decide,if_false,true_and]
theorem nO{R:List HP}{p:Nat}(x:Lf)(hx:LfOk x):
 Ok Tryz.prog 119 [(vP p 0)] ((bI p [(vI x.st),(vI x.ep),(vI x.ms),(vI x.sp),(vI x.tr),(vI x.pr)] 92)::R)
  (fun v M=>v=.int .i64 (if x.st≤4 then 0 else 8)∧M=bI p (fD (gA x)) 92::R):=by
 refine aP (N:=7) Tryz.func119 rfl rfl rfl (fun W=>?_)
 refine av (fun _ hK1=>aA rfl (td hK1 (av (fun _ hK2=>ag rfl ?_))))
 refine tm rfl (aD (cs:=[(vI 0),(vI 1),(vI 2),(vI 3),(vI 4)]) CI CG CN (by decide) rfl rfl rfl rfl) ?_
 rintro _ _ ⟨bs1,cp2,hok3,hle4,rfl,rfl⟩
 refine bN Dz rfl (hJ [0,1,2,3,4] (by decide) (cj (.head _)) hok3) ?_
 rintro _ _ ⟨rfl,rfl⟩
 rw [show q7 [0,1,2,3,4]=31 from by decide]
 refine aE ?_
 refine bN DA rfl (fA (v1:=(vI x.ep)) (v2:=(vI x.ms)) (v3:=(vI x.sp)) (v4:=(vI x.tr)) (v5:=(vI x.pr)) 31 7 x.st hx.s0) ?_
 rintro _ _ ⟨rfl,rfl⟩
 refine aA rfl (td hK2 (ay (aE (ak ?_))))
 refine aM rfl rfl ?_
 rw [BK hx.s0 hx.s7]
 by_cases e:x.st≤4
 ·simp only [gA,if_pos e,fD,if_true,true_and]
 ·simp only [gA,if_neg e,fD,show ((8:Int)=0)↔False from by decide,if_false,true_and]
set_option maxHeartbeats 4000000 in
theorem vV{R:List HP}{p:Nat}(x:Lf)(hx:LfOk x)(he:x.ep≤4611686018427387904):
 Ok Tryz.prog 108 [(vP p 0)] ((bI p [(vI x.st),(vI x.ep),(vI x.ms),(vI x.sp),(vI x.tr),(vI x.pr)] 92)::R)
  (fun v M=>v=.int .i64 (if x.st=1 then 0 else 8)∧M=bI p (fD (fP x)) 92::R):=by
 refine aP (N:=18) Tryz.func108 rfl rfl rfl (fun W=>?_)
 have hse:=BZ hx.s0 hx.s7
 have hm1:=hx.m1
 have hp1:=hx.p1
 have hs0:=hx.s0
 have ht2:=hx.t2
 have hr1:=hx.r1
 have hm0:=hx.m0
 have hp0:=hx.p0
 have he0:=hx.e0
 refine av (fun _ hK1=>aA rfl (td hK1 (av (fun _ hK2=>ag rfl ?_))))
 refine tm rfl (aD (cs:=[(vI 1)]) CI CG CN (by decide) rfl rfl rfl rfl) ?_
 rintro _ _ ⟨bs1,cp2,hok3,hle4,rfl,rfl⟩
 refine bN Dz rfl (hJ [1] (by decide) (cj (.head _)) hok3) ?_
 rintro _ _ ⟨rfl,rfl⟩
 rw [show q7 [1]=2 from by decide]
 refine aE ?_
 refine bN DA rfl (fA (v1:=(vI x.ep)) (v2:=(vI x.ms)) (v3:=(vI x.sp)) (v4:=(vI x.tr)) (v5:=(vI x.pr)) 2 2 x.st hx.s0) ?_
 rintro _ _ ⟨rfl,rfl⟩
 refine aA rfl (td hK2 (ai (fun _ hK3=>av (fun K4 hK4=>ag rfl ?_))))
 by_cases h5:(ry 2 x.st)=0
 ·refine tp rfl (aV rfl rfl (beq_iff_eq.2 h5)) (td hK4 (aG rfl (aj (ag rfl (cV rfl (bU 1 C0 rfl CG rfl rfl (bK CH rfl (aa (.head _) rfl) (tp rfl (aX (c:=x.ep+1) rfl rfl (cA (by omega) (by omega))) ?_))))))))
  refine cV rfl (bU 1 C0 rfl CG rfl rfl ?_)
  refine ts (cM CG rfl rfl rfl (nB rfl) rfl) ?_
  refine td hK3 (av (fun _ hK5=>ag rfl (aA rfl (td hK5 (ay (aE ?_))))))
  refine ak ?_
  refine aM rfl rfl ?_
  rw [hse] at*
  rcases (show x.st=1∨x.st≠1 by omega) with e|e <;>rcases (show x.st<1∨1≤x.st by omega) with e2|e2 <;>first| (exfalso;omega)| (have e3:=Int.not_le.2 e2;simp [fP,fD,e,e2,e3];done)| (have e3:=Int.not_lt.2 e2;simp [fP,fD,e,e2,e3];done)| (exfalso;simp_all;done)
 ·refine tp rfl (aV rfl rfl (beq_eq_false_iff_ne.2 h5)) (td hK4 (ar rfl (dp hK3 (av (fun _ hK5=>ag rfl (aA rfl ?_))))))
  refine td hK5 (ay (aE (ak ?_)))
  refine aM rfl rfl ?_
  rw [hse] at*
  rcases (show x.st=1∨x.st≠1 by omega) with e|e <;>rcases (show x.st<1∨1≤x.st by omega) with e2|e2 <;>first| (exfalso;omega)| (have e3:=Int.not_le.2 e2;simp [fP,fD,e,e2,e3];done)| (have e3:=Int.not_lt.2 e2;simp [fP,fD,e,e2,e3];done)| (exfalso;simp_all;done)
set_option maxHeartbeats 4000000 in
theorem xq{R:List HP}{p:Nat}(x:Lf)(hx:LfOk x):
 Ok Tryz.prog 99 [(vP p 0)] ((bI p [(vI x.st),(vI x.ep),(vI x.ms),(vI x.sp),(vI x.tr),(vI x.pr)] 92)::R)
  (fun v M=>v=.int .i64 (if x.st=2 then (if x.sp≥x.pr then 4 else 0) else 8)∧M=bI p (fD (gO x)) 92::R):=by
 refine aP (N:=34) Tryz.func99 rfl rfl rfl (fun W=>?_)
 have hse:=sA hx.s0 hx.s7
 have hm1:=hx.m1
 have hp1:=hx.p1
 have hs0:=hx.s0
 have ht2:=hx.t2
 have hr1:=hx.r1
 have hm0:=hx.m0
 have hp0:=hx.p0
 have he0:=hx.e0
 refine av (fun _ hK1=>aA rfl (td hK1 (ai (fun _ hK2=>ai (fun _ hK3=>?_)))))
 by_cases h1:x.st=2
 ·by_cases h2:x.sp≥x.pr
  ·refine bz (γ:=Unit) (n:=16) Tryz.mixed rfl rfl (fun _ S=>True) (fun _=>[(0,4,(vP p 0)),(1,5,(vP p 0)),(2,6,(vP p 0)),(3,7,(vI x.st)),(4,8,(.bool true)),(5,9,(.bool true)),(6,10,(vP p 0)),(7,11,(vP p 0)),(8,12,(vP p 3)),(9,13,(vI x.sp)),(10,14,(vP p 0)),(11,15,(vP p 0)),(12,16,(vP p 5)),(13,17,(vI x.pr)),(14,18,(.bool true)),(15,19,(.bool true))]) (fun _ S=>(bI p [(vI x.st),(vI x.ep),(vI x.ms),(vI x.sp),(vI x.tr),(vI x.pr)] 92)::R) (()) trivial (fun _ h=>h) (fun _ _ h=>h) ?_ ?_
   ·refine ⟨aU,bW,bL C0 rfl CG,db CH fun _ _=>aa (.head _) rfl,?_,aU,dd aU,dd bW,dd (bL C0 rfl CG),dd (db CH fun _ _=>aa (.head _) rfl),dd aU,dd bW,dd (bL C0 rfl CG),dd (db CH fun _ _=>aa (.head _) rfl),?_,?_,trivial⟩
    ·intro _ S h s D p K k;exact bH (bE p 3 rfl rfl) (aV rfl rfl (beq_iff_eq.2 h1)) 4 rfl rfl s (k () h)
    ·intro _ S h s D p K k;exact kf (bE p 5 rfl rfl) (bE p 9 rfl rfl) (bE p 13 rfl rfl) rfl rfl (cC rfl rfl (decide_eq_true h2)) 14 rfl rfl s (k () h)
    ·intro _ S h s D p K k;exact bV (bE p 5 rfl rfl) (bE p 14 rfl rfl) (aL rfl rfl) 15 rfl rfl s (k () h)
   ·rintro _ hF
    try dsimp only at hF⊢
    refine az (E':=[(0,(vP p 0)),(2,(vI 0)),(19,(.bool true))]) ⟨rfl,rfl,rfl,trivial⟩ ?_
    refine qn hK3 (aG rfl (av (fun K4 hK4=>aA rfl (td hK4 (ay ?_)))))
    refine aK ?_
    refine aM rfl rfl ?_
    rw [hse] at*
    rcases (show x.st=2∨x.st≠2 by omega) with e|e <;>rcases (show x.sp<x.pr∨x.pr≤x.sp by omega) with e2|e2 <;>first| (exfalso;omega)| (have e3:=Int.not_le.2 e2;simp [gO,fD,e,e2,e3];done)| (have e3:=Int.not_lt.2 e2;simp [gO,fD,e,e2,e3];done)| (exfalso;simp_all;done)
  ·refine bz (γ:=Unit) (n:=16) Tryz.mixed rfl rfl (fun _ S=>True) (fun _=>[(0,4,(vP p 0)),(1,5,(vP p 0)),(2,6,(vP p 0)),(3,7,(vI x.st)),(4,8,(.bool true)),(5,9,(.bool true)),(6,10,(vP p 0)),(7,11,(vP p 0)),(8,12,(vP p 3)),(9,13,(vI x.sp)),(10,14,(vP p 0)),(11,15,(vP p 0)),(12,16,(vP p 5)),(13,17,(vI x.pr)),(14,18,(.bool false)),(15,19,(.bool false))]) (fun _ S=>(bI p [(vI x.st),(vI x.ep),(vI x.ms),(vI x.sp),(vI x.tr),(vI x.pr)] 92)::R) (()) trivial (fun _ h=>h) (fun _ _ h=>h) ?_ ?_
   ·refine ⟨aU,bW,bL C0 rfl CG,db CH fun _ _=>aa (.head _) rfl,?_,aU,dd aU,dd bW,dd (bL C0 rfl CG),dd (db CH fun _ _=>aa (.head _) rfl),dd aU,dd bW,dd (bL C0 rfl CG),dd (db CH fun _ _=>aa (.head _) rfl),?_,?_,trivial⟩
    ·intro _ S h s D p K k;exact bH (bE p 3 rfl rfl) (aV rfl rfl (beq_iff_eq.2 h1)) 4 rfl rfl s (k () h)
    ·intro _ S h s D p K k;exact kf (bE p 5 rfl rfl) (bE p 9 rfl rfl) (bE p 13 rfl rfl) rfl rfl (cC rfl rfl (decide_eq_false h2)) 14 rfl rfl s (k () h)
    ·intro _ S h s D p K k;exact bV (bE p 5 rfl rfl) (bE p 14 rfl rfl) (aL rfl rfl) 15 rfl rfl s (k () h)
   ·rintro _ hF
    try dsimp only at hF⊢
    refine az (E':=[(0,(vP p 0)),(2,(vI 0)),(19,(.bool false))]) ⟨rfl,rfl,rfl,trivial⟩ ?_
    refine qn hK3 (ar rfl (dp hK2 (av (fun K4 hK4=>ag rfl ?_))))
    refine tm rfl (aD (cs:=[(vI 2)]) CI CG CN (by decide) rfl rfl rfl rfl) ?_
    rintro _ _ ⟨bs3,cp4,hok5,hle6,rfl,rfl⟩
    refine bN Dz rfl (hJ [2] (by decide) (cj (.head _)) hok5) ?_
    rintro _ _ ⟨rfl,rfl⟩
    rw [show q7 [2]=4 from by decide]
    refine aE ?_
    refine bN DA rfl (fA (v1:=(vI x.ep)) (v2:=(vI x.ms)) (v3:=(vI x.sp)) (v4:=(vI x.tr)) (v5:=(vI x.pr)) 4 1 x.st hx.s0) ?_
    rintro _ _ ⟨rfl,rfl⟩
    refine aA rfl (td hK4 (ai (fun _ hK5=>av (fun _ hK6=>ag rfl ?_))))
    by_cases h7:(ry 4 x.st)=0
    ·refine tp rfl (aV rfl rfl (beq_iff_eq.2 h7)) (td hK6 (aG rfl (aj (ag rfl (cV rfl (bU 3 C0 rfl CG rfl rfl (bK CH rfl (aa (.head _) rfl) (tp rfl (aX (c:=x.sp+1) rfl rfl (cA (by omega) (by omega))) ?_))))))))
     refine cV rfl (bU 3 C0 rfl CG rfl rfl ?_)
     refine ts (cM CG rfl rfl rfl (nB rfl) rfl) ?_
     refine td hK5 (av (fun _ hK7=>ag rfl (aA rfl (td hK7 (ay (aE ?_))))))
     refine ak ?_
     refine aM rfl rfl ?_
     rw [hse] at*
     rcases (show x.st=2∨x.st≠2 by omega) with e|e <;>rcases (show x.sp<x.pr∨x.pr≤x.sp by omega) with e2|e2 <;>first| (exfalso;omega)| (have e3:=Int.not_le.2 e2;simp [gO,fD,e,e2,e3];done)| (have e3:=Int.not_lt.2 e2;simp [gO,fD,e,e2,e3];done)| (exfalso;simp_all;done)
    ·refine tp rfl (aV rfl rfl (beq_eq_false_iff_ne.2 h7)) (td hK6 (ar rfl (dp hK5 (av (fun _ hK7=>ag rfl (aA rfl ?_))))))
     refine td hK7 (ay (aE (ak ?_)))
     refine aM rfl rfl ?_
     rw [hse] at*
     rcases (show x.st=2∨x.st≠2 by omega) with e|e <;>rcases (show x.sp<x.pr∨x.pr≤x.sp by omega) with e2|e2 <;>first| (exfalso;omega)| (have e3:=Int.not_le.2 e2;simp [gO,fD,e,e2,e3];done)| (have e3:=Int.not_lt.2 e2;simp [gO,fD,e,e2,e3];done)| (exfalso;simp_all;done)
 ·refine bz (γ:=Unit) (n:=16) Tryz.mixed rfl rfl (fun _ S=>True) (fun _=>[(0,4,(vP p 0)),(1,5,(vP p 0)),(2,6,(vP p 0)),(3,7,(vI x.st)),(4,8,(.bool false)),(5,9,(.bool false)),(6,10,undef),(7,11,undef),(8,12,undef),(9,13,undef),(10,14,undef),(11,15,undef),(12,16,undef),(13,17,undef),(14,18,undef),(15,19,(.bool false))]) (fun _ S=>(bI p [(vI x.st),(vI x.ep),(vI x.ms),(vI x.sp),(vI x.tr),(vI x.pr)] 92)::R) (()) trivial (fun _ h=>h) (fun _ _ h=>h) ?_ ?_
  ·refine ⟨aU,bW,bL C0 rfl CG,db CH fun _ _=>aa (.head _) rfl,?_,aU,c7,c7,c7,c7,c7,c7,c7,c7,c7,?_,trivial⟩
   ·intro _ S h s D p K k;exact bH (bE p 3 rfl rfl) (aV rfl rfl (beq_eq_false_iff_ne.2 h1)) 4 rfl rfl s (k () h)
   ·intro _ S h s D p K k;exact bV (bE p 5 rfl rfl) (bE p 14 rfl rfl) (aC rfl rfl) 15 rfl rfl s (k () h)
  ·rintro _ hF
   try dsimp only at hF⊢
   refine az (E':=[(0,(vP p 0)),(2,(vI 0)),(19,(.bool false))]) ⟨rfl,rfl,rfl,trivial⟩ ?_
   refine qn hK3 (ar rfl (dp hK2 (av (fun K4 hK4=>ag rfl ?_))))
   refine tm rfl (aD (cs:=[(vI 2)]) CI CG CN (by decide) rfl rfl rfl rfl) ?_
   rintro _ _ ⟨bs8,cp9,hok10,hle11,rfl,rfl⟩
   refine bN Dz rfl (hJ [2] (by decide) (cj (.head _)) hok10) ?_
   rintro _ _ ⟨rfl,rfl⟩
   rw [show q7 [2]=4 from by decide]
   refine aE ?_
   refine bN DA rfl (fA (v1:=(vI x.ep)) (v2:=(vI x.ms)) (v3:=(vI x.sp)) (v4:=(vI x.tr)) (v5:=(vI x.pr)) 4 1 x.st hx.s0) ?_
   rintro _ _ ⟨rfl,rfl⟩
   refine aA rfl (td hK4 (ai (fun _ hK5=>av (fun _ hK6=>ag rfl ?_))))
   by_cases h12:(ry 4 x.st)=0
   ·refine tp rfl (aV rfl rfl (beq_iff_eq.2 h12)) (td hK6 (aG rfl (aj (ag rfl (cV rfl (bU 3 C0 rfl CG rfl rfl (bK CH rfl (aa (.head _) rfl) (tp rfl (aX (c:=x.sp+1) rfl rfl (cA (by omega) (by omega))) ?_))))))))
    refine cV rfl (bU 3 C0 rfl CG rfl rfl ?_)
    refine ts (cM CG rfl rfl rfl (nB rfl) rfl) ?_
    refine td hK5 (av (fun _ hK7=>ag rfl (aA rfl (td hK7 (ay (aE ?_))))))
    refine ak ?_
    refine aM rfl rfl ?_
    rw [hse] at*
    rcases (show x.st=2∨x.st≠2 by omega) with e|e <;>rcases (show x.sp<x.pr∨x.pr≤x.sp by omega) with e2|e2 <;>first| (exfalso;omega)| (have e3:=Int.not_le.2 e2;simp [gO,fD,e,e2,e3];done)| (have e3:=Int.not_lt.2 e2;simp [gO,fD,e,e2,e3];done)| (exfalso;simp_all;done)
   ·refine tp rfl (aV rfl rfl (beq_eq_false_iff_ne.2 h12)) (td hK6 (ar rfl (dp hK5 (av (fun _ hK7=>ag rfl (aA rfl ?_))))))
    refine td hK7 (ay (aE (ak ?_)))
    refine aM rfl rfl ?_
    rw [hse] at*
    rcases (show x.st=2∨x.st≠2 by omega) with e|e <;>rcases (show x.sp<x.pr∨x.pr≤x.sp by omega) with e2|e2 <;>first| (exfalso;omega)| (have e3:=Int.not_le.2 e2;simp [gO,fD,e,e2,e3];done)| (have e3:=Int.not_lt.2 e2;simp [gO,fD,e,e2,e3];done)| (exfalso;simp_all;done)
set_option maxHeartbeats 4000000 in
theorem y3{R:List HP}{p:Nat}(x:Lf)(hx:LfOk x):
 Ok Tryz.prog 85 [(vP p 0)] ((bI p [(vI x.st),(vI x.ep),(vI x.ms),(vI x.sp),(vI x.tr),(vI x.pr)] 92)::R)
  (fun v M=>v=.int .i64 (if x.st=2 then 0 else 8)∧M=bI p (fD (ff x)) 92::R):=by
 refine aP (N:=30) Tryz.func85 rfl rfl rfl (fun W=>?_)
 have hse:=sA hx.s0 hx.s7
 have hm1:=hx.m1
 have hp1:=hx.p1
 have hs0:=hx.s0
 have ht2:=hx.t2
 have hr1:=hx.r1
 have hm0:=hx.m0
 have hp0:=hx.p0
 have he0:=hx.e0
 refine av (fun _ hK1=>aA rfl (td hK1 (av (fun _ hK2=>aA rfl (td hK2 ?_)))))
 refine ai (fun _ hK3=>ai (fun K4 hK4=>?_))
 by_cases h1:(x.ms+1)≥x.tr
 ·refine bz (γ:=Unit) (n:=10) Tryz.mixed rfl rfl (fun _ S=>True) (fun _=>[(0,5,(vP p 0)),(1,6,(vP p 0)),(2,7,(vP p 2)),(3,8,(vI x.ms)),(4,9,(vI (x.ms+1))),(5,10,(vP p 0)),(6,11,(vP p 0)),(7,12,(vP p 4)),(8,13,(vI x.tr)),(9,14,(.bool true))]) (fun _ S=>(bI p [(vI x.st),(vI x.ep),(vI x.ms),(vI x.sp),(vI x.tr),(vI x.pr)] 92)::R) (()) trivial (fun _ h=>h) (fun _ _ h=>h) ?_ ?_
  ·refine ⟨aU,bW,bL C0 rfl CG,db CH fun _ _=>aa (.head _) rfl,?_,aU,bW,bL C0 rfl CG,db CH fun _ _=>aa (.head _) rfl,?_,trivial⟩
   ·intro _ S h s D p K k;exact bH (bE p 3 rfl rfl) (aX (c:=x.ms+1) rfl rfl (cA (by omega) (by omega))) 4 rfl rfl s (k () h)
   ·intro _ S h s D p K k;exact bV (bE p 4 rfl rfl) (bE p 8 rfl rfl) (cC rfl rfl (decide_eq_true h1)) 9 rfl rfl s (k () h)
  ·rintro _ hF
   try dsimp only at hF⊢
   refine az (E':=[(0,(vP p 0)),(2,(vI 0)),(3,(vI 4)),(14,(.bool true))]) ⟨rfl,rfl,rfl,rfl,trivial⟩ ?_
   refine qn hK4 (aG rfl (aj (aA rfl (td hK3 (av (fun _ hK5=>ag rfl ?_))))))
   refine tm rfl (aD (cs:=[(vI 2)]) CI CG CN (by decide) rfl rfl rfl rfl) ?_
   rintro _ _ ⟨bs2,cp3,hok4,hle5,rfl,rfl⟩
   refine bN Dz rfl (hJ [2] (by decide) (cj (.head _)) hok4) ?_
   rintro _ _ ⟨rfl,rfl⟩
   rw [show q7 [2]=4 from by decide]
   refine ag rfl (aE ?_)
   refine bN DA rfl (fA (v1:=(vI x.ep)) (v2:=(vI x.ms)) (v3:=(vI x.sp)) (v4:=(vI x.tr)) (v5:=(vI x.pr)) 4 6 x.st hx.s0) ?_
   rintro _ _ ⟨rfl,rfl⟩
   refine aA rfl (td hK5 (ai (fun _ hK6=>av (fun _ hK7=>ag rfl ?_))))
   by_cases h6:(ry 4 x.st)=0
   ·refine tp rfl (aV rfl rfl (beq_iff_eq.2 h6)) (td hK7 (aG rfl (aj (ag rfl (cV rfl (bU 2 C0 rfl CG rfl rfl (bK CH rfl (aa (.head _) rfl) (tp rfl (aX (c:=x.ms+1) rfl rfl (cA (by omega) (by omega))) ?_))))))))
    refine cV rfl (bU 2 C0 rfl CG rfl rfl ?_)
    refine ts (cM CG rfl rfl rfl (nB rfl) rfl) ?_
    refine td hK6 (av (fun _ hK8=>ag rfl (aA rfl (td hK8 (ay (aE ?_))))))
    refine ak ?_
    refine aM rfl rfl ?_
    rw [hse] at*
    rcases (show x.st=2∨x.st≠2 by omega) with e|e <;>rcases (show x.ms+1<x.tr∨x.tr≤x.ms+1 by omega) with e2|e2 <;>first| (exfalso;omega)| (have e3:=Int.not_le.2 e2;simp [ff,fD,e,e2,e3];done)| (have e3:=Int.not_lt.2 e2;simp [ff,fD,e,e2,e3];done)| (exfalso;simp_all;done)
   ·refine tp rfl (aV rfl rfl (beq_eq_false_iff_ne.2 h6)) (td hK7 (ar rfl (dp hK6 (av (fun _ hK8=>ag rfl (aA rfl ?_))))))
    refine td hK8 (ay (aE (ak ?_)))
    refine aM rfl rfl ?_
    rw [hse] at*
    rcases (show x.st=2∨x.st≠2 by omega) with e|e <;>rcases (show x.ms+1<x.tr∨x.tr≤x.ms+1 by omega) with e2|e2 <;>first| (exfalso;omega)| (have e3:=Int.not_le.2 e2;simp [ff,fD,e,e2,e3];done)| (have e3:=Int.not_lt.2 e2;simp [ff,fD,e,e2,e3];done)| (exfalso;simp_all;done)
 ·refine bz (γ:=Unit) (n:=10) Tryz.mixed rfl rfl (fun _ S=>True) (fun _=>[(0,5,(vP p 0)),(1,6,(vP p 0)),(2,7,(vP p 2)),(3,8,(vI x.ms)),(4,9,(vI (x.ms+1))),(5,10,(vP p 0)),(6,11,(vP p 0)),(7,12,(vP p 4)),(8,13,(vI x.tr)),(9,14,(.bool false))]) (fun _ S=>(bI p [(vI x.st),(vI x.ep),(vI x.ms),(vI x.sp),(vI x.tr),(vI x.pr)] 92)::R) (()) trivial (fun _ h=>h) (fun _ _ h=>h) ?_ ?_
  ·refine ⟨aU,bW,bL C0 rfl CG,db CH fun _ _=>aa (.head _) rfl,?_,aU,bW,bL C0 rfl CG,db CH fun _ _=>aa (.head _) rfl,?_,trivial⟩
   ·intro _ S h s D p K k;exact bH (bE p 3 rfl rfl) (aX (c:=x.ms+1) rfl rfl (cA (by omega) (by omega))) 4 rfl rfl s (k () h)
   ·intro _ S h s D p K k;exact bV (bE p 4 rfl rfl) (bE p 8 rfl rfl) (cC rfl rfl (decide_eq_false h1)) 9 rfl rfl s (k () h)
  ·rintro _ hF
   try dsimp only at hF⊢
   refine az (E':=[(0,(vP p 0)),(2,(vI 0)),(3,(vI 4)),(14,(.bool false))]) ⟨rfl,rfl,rfl,rfl,trivial⟩ ?_
   refine qn hK4 (ar rfl (dp hK3 (av (fun _ hK5=>ag rfl ?_))))
   refine tm rfl (aD (cs:=[(vI 2)]) CI CG CN (by decide) rfl rfl rfl rfl) ?_
   rintro _ _ ⟨bs7,cp8,hok9,hle10,rfl,rfl⟩
   refine bN Dz rfl (hJ [2] (by decide) (cj (.head _)) hok9) ?_
   rintro _ _ ⟨rfl,rfl⟩
   rw [show q7 [2]=4 from by decide]
   refine ag rfl (aE ?_)
   refine bN DA rfl (fA (v1:=(vI x.ep)) (v2:=(vI x.ms)) (v3:=(vI x.sp)) (v4:=(vI x.tr)) (v5:=(vI x.pr)) 4 4 x.st hx.s0) ?_
   rintro _ _ ⟨rfl,rfl⟩
   refine aA rfl (td hK5 (ai (fun _ hK6=>av (fun _ hK7=>ag rfl ?_))))
   by_cases h11:(ry 4 x.st)=0
   ·refine tp rfl (aV rfl rfl (beq_iff_eq.2 h11)) (td hK7 (aG rfl (aj (ag rfl (cV rfl (bU 2 C0 rfl CG rfl rfl (bK CH rfl (aa (.head _) rfl) (tp rfl (aX (c:=x.ms+1) rfl rfl (cA (by omega) (by omega))) ?_))))))))
    refine cV rfl (bU 2 C0 rfl CG rfl rfl ?_)
    refine ts (cM CG rfl rfl rfl (nB rfl) rfl) ?_
    refine td hK6 (av (fun _ hK8=>ag rfl (aA rfl (td hK8 (ay (aE ?_))))))
    refine ak ?_
    refine aM rfl rfl ?_
    rw [hse] at*
    rcases (show x.st=2∨x.st≠2 by omega) with e|e <;>rcases (show x.ms+1<x.tr∨x.tr≤x.ms+1 by omega) with e2|e2 <;>first| (exfalso;omega)| (have e3:=Int.not_le.2 e2;simp [ff,fD,e,e2,e3];done)| (have e3:=Int.not_lt.2 e2;simp [ff,fD,e,e2,e3];done)| (exfalso;simp_all;done)
   ·refine tp rfl (aV rfl rfl (beq_eq_false_iff_ne.2 h11)) (td hK7 (ar rfl (dp hK6 (av (fun _ hK8=>ag rfl (aA rfl ?_))))))
    refine td hK8 (ay (aE (ak ?_)))
    refine aM rfl rfl ?_
    rw [hse] at*
    rcases (show x.st=2∨x.st≠2 by omega) with e|e <;>rcases (show x.ms+1<x.tr∨x.tr≤x.ms+1 by omega) with e2|e2 <;>first| (exfalso;omega)| (have e3:=Int.not_le.2 e2;simp [ff,fD,e,e2,e3];done)| (have e3:=Int.not_lt.2 e2;simp [ff,fD,e,e2,e3];done)| (exfalso;simp_all;done)
theorem zE{R:List HP}(t q:Int):
 Ok Tryz.prog 41 [(vI t),(vI q)] R
  (fun v M=> ∃p,v=.pointer (some ⟨p,0,none⟩)∧M=bI p (fD ⟨0,0,0,0,max t 1,max q 0⟩) 92::R):=by
 refine aP (N:=11) Tryz.func41 rfl rfl rfl (fun W=>?_)
 refine av (fun _ hK1=>aA rfl (td hK1 (av (fun _ hK2=>ag rfl (tp rfl (fm (c:=max t 1) rfl rfl rfl) (ag rfl ?_))))))
 refine tp rfl (fm (c:=max q 0) rfl rfl rfl) (tp rfl (bG (cs:=[(vI 0),(vI 0),(vI 0),(vI 0),(vI (max t 1)),(vI (max q 0))]) (pl:=[(0,1),(1,1),(2,1),(3,1),(4,1),(5,1)]) C0 Tryz.zeroValue92 (fun _=>by simp) rfl rfl) ?_)
 refine tm rfl (cZ rfl rfl) ?_
 rintro _ _ ⟨b1,rfl,rfl⟩
 refine aA rfl (td hK2 (ay ?_))
 refine aM rfl rfl ?_
 exact ⟨_,rfl,rfl⟩
end Go.Proofs.YtanfdikglplkaaaGreatDoor
