/- Parts Ga, Sa: own lemmas and contracts of the code that the claim reaches. -/
import Derived.KernelRfl
import Derived.Test.YtanfdikglplkaaaGreatDoorM03
import Derived.Test.YtanfdikglplkaaaGreatDoorProg
import Derived.Test.YtanfdikglplkaaaGreatDoorM04
import Derived.Test.YtanfdikglplkaaaGreatDoorM05
set_option linter.unusedSimpArgs false
set_option linter.unusedVariables false
set_option maxRecDepth 100000
namespace Go.Proofs.YtanfdikglplkaaaGreatDoor
open Go Go.Proofs Sp
abbrev CG:=@Tryz.sizeOf3
abbrev CH:=@Tryz.isAgg3
abbrev CI:=@Tryz.underlying34
abbrev CJ:=@Tryz.underlying73
abbrev CK:=@Tryz.sizeOf34
abbrev CL:=@Tryz.isAgg34
abbrev CM:=@Tryz.sizeOf40
abbrev CN:=@Tryz.zeroValue3
abbrev CO:=@Tryz.underlying139
abbrev CP:=@Tryz.underlying76
abbrev CQ:=@Tryz.underlying32
abbrev CR:=@Tryz.zeroValue40
abbrev CS:=@Tryz.underlying171
abbrev CT:=@Tryz.underlying40
abbrev CU:=@Tryz.sizeOf74
abbrev CV:=@Tryz.isAgg74
abbrev CW:=@Tryz.underlying23
abbrev CX:=@Tryz.underlying137
abbrev CY:=@Tryz.underlying24
abbrev CZ:=@Tryz.sizeOf195
abbrev C0:=@Tryz.underlying92
abbrev C1:=@Tryz.type3
abbrev C2:=@Tryz.sizeOf137
abbrev C3:=@Tryz.isAgg40
abbrev C4:=@Tryz.underlying3
abbrev C5:=@Tryz.underlying37
abbrev C6:=@Tryz.underlying65
abbrev C7:=@Tryz.underlying134
abbrev C8:=@Tryz.isAgg137
abbrev C9:=@Tryz.sizeOf65
abbrev Da:=@Tryz.underlying51
abbrev Db:=@Tryz.underlying154
abbrev Dc:=@Tryz.isAgg65
abbrev Dd:=@Tryz.sizeOf32
abbrev De:=@Tryz.sizeOf64
abbrev Df:=@Tryz.isAgg64
abbrev Dg:=@Tryz.underlying161
abbrev Dh:=@Tryz.sizeOf45
abbrev Di:=@Tryz.underlying120
abbrev Dj:=@Tryz.sizeOf51
abbrev Dk:=@Tryz.underlying45
abbrev Dl:=@Tryz.sizeOf57
abbrev Dm:=@Tryz.sizeOf23
abbrev Dn:=@Tryz.call14
abbrev Do:=@Tryz.underlying126
abbrev Dp:=@Tryz.sizeOf117
abbrev Dq:=@Tryz.sizeOf159
abbrev Dr:=@Tryz.underlying173
abbrev Ds:=@Tryz.underlying82
abbrev Dt:=@Tryz.underlying57
abbrev Du:=@Tryz.sizeOf171
abbrev Dv:=@Tryz.sizeOf66
abbrev Dw:=@Tryz.isAgg32
abbrev Dx:=@Tryz.underlying66
abbrev Dy:=@Tryz.underlying78
abbrev Dz:=@Tryz.call90
abbrev DA:=@Tryz.call89
abbrev DB:=@Tryz.call71
abbrev DC:=@Tryz.isAgg66
abbrev DD:=@Tryz.underlying136
abbrev DE:=@Tryz.isAgg159
abbrev DF:=@Tryz.call23
abbrev DG:=@Tryz.sizeOf134
abbrev DH:=@Tryz.underlying195
abbrev DI:=@Tryz.isAgg195
abbrev DJ:=@Tryz.underlying123
abbrev DK:=@Tryz.sizeOf69
abbrev DL:=@Tryz.isAgg69
abbrev DM:=@Tryz.isAgg24
abbrev DN:=@Tryz.isAgg67
abbrev DO:=@Tryz.underlying117
abbrev DP:=@Tryz.sizeOf79
abbrev DS:=@Tryz.sizeOf123
abbrev DT:=@Tryz.isAgg123
abbrev DU:=@Tryz.isAgg79
abbrev DV:=@Tryz.zeroValue51
abbrev DW:=@Tryz.isAgg23
abbrev DX:=@Tryz.underlying124
abbrev DY:=@Tryz.sizeOf166
abbrev DZ:=@Tryz.sizeOf67
abbrev D2:=@Tryz.underlying192
abbrev D3:=@Tryz.sizeOf118
abbrev D4:=@Tryz.underlying118
abbrev D5:=@Tryz.underlying103
abbrev D6:=@Tryz.sizeOf110
abbrev D7:=@Tryz.underlying110
abbrev D8:=@Tryz.call106
abbrev D9:=@Tryz.sizeOf124
abbrev Ea:=@Tryz.isAgg124
abbrev Eb:=@Tryz.zeroValue57
abbrev Ec:=@Tryz.zeroValue195
abbrev Ed:=@Tryz.underlying182
abbrev Ee:=@Tryz.call64
abbrev Ef:=@Tryz.zeroValue32
abbrev Eh:=@Tryz.zeroValue117
abbrev Ei:=@Tryz.isAgg166
abbrev Ej:=@Tryz.underlying130
abbrev Ek:=@Tryz.underlying132
abbrev El:=@Tryz.underlying79
abbrev Em:=@Tryz.isAgg51
abbrev En:=@Tryz.sizeOf70
abbrev Eo:=@Tryz.isAgg70
abbrev Ep:=@Tryz.sizeOf190
abbrev Er:=@Tryz.underlying25
abbrev Et:=@Tryz.underlying188
abbrev Eu:=@Tryz.underlying190
abbrev Ew:=@Tryz.underlying47
abbrev Ey:=@Tryz.zeroValue23
theorem Tryz.mixed:Tryz.prog.follows .mixedOrders=true:=by kernel_rfl
theorem dP{xs:List Int}{k:Nat}(h:k<xs.length):xs.getD k 0∈xs:=by simp [List.getD,h]
set_option maxHeartbeats 4000000 in
theorem iz{R:List HP}{p:Int→Bool}{f:Nat}{caps:List Value}{bx:Option Addr}{cx:Nat}(xs:List Int)(hf:(∀args w,(callFunc f args).run Tryz.prog w=.ok (.enter f args) w)∧∀x∈xs,Ok Tryz.prog f ([.int .i64 x]++caps) R (fun v M=>v=.bool (p x)∧M=R))(hx:Rd R bx (aF .i64 xs))(okx:bB bx xs.length)(lx:xs.length≤4611686018427387904):
 Ok Tryz.prog 100 [(.slice bx xs.length cx),(.func (.func f) #[] caps.toArray)] R
  (fun v M=>v=.int .i64 (eU p xs)∧M=R):=by
 obtain ⟨hcall,hf⟩:=hf
 refine aP (N:=19) Tryz.func100 rfl rfl rfl (fun W=>?_)
 refine av (fun _ hK1=>aA rfl (td hK1 (ai (fun _ hK2=>av (fun _ hK3=>ag rfl (tp rfl (bC CI rfl rfl) ?_))))))
 refine ag rfl (td hK3 (aH ?_))
 refine cE (γ:=(Nat)) (fun (k:Nat)=>k≤xs.length∧(∀j,j<k→p (xs.getD j 0)=false)) (fun (k:Nat)=>[(0,(.slice bx xs.length cx)),(1,(.func (.func f) #[] caps.toArray)),(7,(vN xs.length)),(8,(vN k))]) (fun (k:Nat)=>R) (fun (k:Nat)=>xs.length-k) (0) ⟨by omega,fun j hj=>by omega⟩ ⟨rfl,rfl,rfl,rfl,trivial⟩ (fun _ h=>h) ?_
 rintro k K4 hF hK4
 try dsimp only at hF hK4⊢
 obtain ⟨hk,hall⟩:=hF
 refine av (fun _ hK5=>?_)
 by_cases h1:(k:Int)< (xs.length:Int)
 ·refine tp rfl (aJ rfl rfl (decide_eq_true h1)) (td hK5 (ai (fun _ hK6=>aG rfl (dp hK6 (ai (fun _ hK7=>aH (ai (fun _ hK8=>?_))))))))
  refine aj (ag rfl (aA rfl (td hK8 (av (fun _ hK9=>ag rfl (ag rfl (ag rfl ?_)))))))
  refine tp rfl (ah (k':=k) CI CG rfl rfl okx (by omega) (by omega) (by omega)) ?_
  refine bK CH rfl (Rd.gives hx (aQ (by first|omega| (simp;omega)))) ?_
  refine tc rfl (lJ hcall rfl rfl) (hf _ (dP (by omega))) ?_
  rintro _ _ ⟨rfl,hMR⟩
  rw [hMR];clear hMR
  refine td hK9 ?_
  refine cW rfl (fun c2=>?_) (fun c2=>?_)
  ·skip
   refine av (fun _ hK10=>ag rfl (aA rfl (td hK10 (ay ?_))))
   refine cH ?_
   refine aK ?_
   refine aK ?_
   refine cH ?_
   refine aK ?_
   refine aM rfl rfl ?_
   exact ⟨by rw [uB (k:=k) (by omega) ‹_› hall],rfl⟩
  ·skip
   refine cS (aZ (qn hK7 (aj (tp rfl (aX (c:=((k+1:Nat):Int)) rfl rfl (aB (by omega))) ?_))))
   refine ag rfl (aI (aN ?_))
   exact az (by exact ⟨rfl,rfl,rfl,rfl,trivial⟩) ((hK4 (k+1) ⟨by omega,jx hall ‹_›⟩ (by omega)))
 ·refine tp rfl (aJ rfl rfl (decide_eq_false h1)) (td hK5 (ai (fun _ hK6=>ar rfl (bT (au (au (bS (qn hK2 ?_))))))))
  refine av (fun _ hK7=>aA rfl (td hK7 (ay ?_)))
  refine aM rfl rfl ?_
  exact ⟨by rw [qb (fun j hj=>hall j (by omega))],rfl⟩
theorem ns{R:List HP}{p:Int→Bool}{f:Nat}{caps:List Value}{bx:Option Addr}{cx:Nat}(xs:List Int)(hf:(∀args w,(callFunc f args).run Tryz.prog w=.ok (.enter f args) w)∧∀x∈xs,Ok Tryz.prog f ([.int .i64 x]++caps) R (fun v M=>v=.bool (p x)∧M=R))(hx:Rd R bx (aF .i64 xs))(okx:bB bx xs.length)(lx:xs.length≤4611686018427387904):
 Ok Tryz.prog 120 [(.slice bx xs.length cx),(.func (.func f) #[] caps.toArray)] R
  (fun v M=>v=.bool (xs.any p)∧M=R):=by
 refine aP (N:=9) Tryz.func120 rfl rfl rfl (fun W=>?_)
 refine av (fun _ hK1=>aA rfl (td hK1 (av (fun _ hK2=>ag rfl (ag rfl ?_)))))
 refine bN Tryz.call100 rfl (iz (p:=p) xs hf hx okx (by first|omega| (simp;omega)| (simp;done))) ?_
 rintro _ _ ⟨rfl,hMR⟩
 rw [hMR];clear hMR
 refine tp rfl (cC rfl rfl (oN p xs)) (aA rfl (td hK2 (ay ?_)))
 refine aM rfl rfl ?_
 exact ⟨rfl,rfl⟩
theorem ky{R:List HP}{bx:Option Addr}{cx:Nat}(xs:List Int)(hx:Rd R bx (aF .i64 xs))(okx:bB bx xs.length)(lx:xs.length≤1099511627776):
 Ok Tryz.prog 72 [(.slice bx xs.length cx)] R
  (dZ 3 1 xs.length (aF .i64 xs) R):=by
 refine aP (N:=8) Tryz.func72 rfl rfl rfl (fun W=>?_)
 refine av (fun _ hK1=>aA rfl (td hK1 (ai (fun _ hK2=>av (fun _ hK3=>ag rfl ?_)))))
 rcases hnhnil1:(bx).isNone with _|_
 ·refine tp rfl (gC CI rfl rfl hnhnil1) (td hK3 (ar rfl (dp hK2 (av (fun K4 hK4=>?_)))))
  refine tm rfl (aD (cs:=[]) CI CG CN (by decide) rfl rfl rfl rfl) ?_
  rintro _ _ ⟨bs2,cp3,hok4,hle5,rfl,rfl⟩
  refine ag rfl ?_
  refine tm rfl (cR (i:=Tryz.t3) CI C1 rfl rfl rfl (by decide) rfl rfl okx (by first| (simp;done)| (simp;omega)) (Rd.cons hx) lU (by rw [show Tryz.t3.bytes=8 from rfl];omega)) ?_
  rintro _ _ ⟨bs6,cp7,hok8,hle9,rfl,rfl⟩
  simp only [Nat.zero_add] at hok8 hle9⊢
  rw [List.nil_append]
  refine aA rfl (td hK4 (ay ?_))
  refine aM rfl rfl ?_
  exact ⟨_,_,hok8,hle9,rfl,rfl⟩
 ·refine tp rfl (gC CI rfl rfl hnhnil1) (td hK3 (aG rfl (av (fun K4 hK4=>aA rfl (td hK4 (ay ?_))))))
  refine aK ?_
  refine bO (fun _ h=>cz 3 1 h) ?_
  refine aM rfl rfl ?_
  obtain rfl:xs=[]:=List.eq_nil_of_length_eq_zero (ji okx ‹_›)
  exact ⟨none,0,cn,Nat.le_refl _,rfl,rfl⟩
theorem q9{R:List HP}(m a:Nat)(ha:a<64)(hm:m<2^64):
 Ok Tryz.prog 112 [(.int .u64 (m:Int)),(vN a)] R
  (fun v M=>v=.bool (m.testBit a)∧M=R):=by
 refine aP (N:=10) Tryz.func112 rfl rfl rfl (fun W=>?_)
 refine av (fun _ hK1=>aA rfl (td hK1 (av (fun _ hK2=>ag rfl (ag rfl (tp rfl (j4 (c:=mY .u64 (m:Int) (a:Int)) rfl rfl (by omega) rfl) ?_))))))
 refine tp rfl (jM (c:=j2 .u64 (mY .u64 (m:Int) (a:Int)) 1) rfl rfl rfl) (tp rfl (aV rfl rfl (Af m a ha hm)) (aA rfl (td hK2 (ay ?_))))
 refine aM rfl rfl ?_
 exact ⟨rfl,rfl⟩
theorem tX{R:List HP}(m a:Nat)(ha:a<64)(hm:m<2^64):
 Ok Tryz.prog 150 [(.int .u64 (m:Int)),(vN a)] R
  (fun v M=>v=.int .u64 ((m |||2^a:Nat):Int)∧M=R):=by
 refine aP (N:=9) Tryz.func150 rfl rfl rfl (fun W=>?_)
 refine av (fun _ hK1=>aA rfl (td hK1 (av (fun _ hK2=>ag rfl (ag rfl (tp rfl (tj (c:=pt .u64 1 (a:Int)) rfl rfl (by omega) rfl) ?_))))))
 refine tp rfl (yd (c:=((m |||2^a:Nat):Int)) rfl rfl (yJ m a ha hm)) (aA rfl (td hK2 (ay ?_)))
 refine aM rfl rfl ?_
 exact ⟨rfl,rfl⟩
theorem BM{R:List HP}{p N:Nat}{es:Es}:
 Ok Tryz.prog 92 [(vP p 0)] ((aT p N es)::R)
  (fun v M=>v=.int .i64 (N:Int)∧M=aT p N es::R):=by
 refine aP (N:=8) Tryz.func92 rfl rfl rfl (fun W=>?_)
 refine jj (fun bo co bi ci bt ct vo vi hG=>?_)
 have gsm:=hG.ok.small
 have glo:=hG.lo
 have gli:=hG.li
 have gml:=eC N es
 refine av (fun _ hK1=>aA rfl (td hK1 (av (fun _ hK2=>ag rfl (cV rfl (bU 0 Do rfl DS rfl rfl ?_))))))
 refine bK DT rfl (aa (.head _) rfl) (tp rfl (bC DJ rfl rfl) (aA rfl (td hK2 (ay (cN (cN (cN (cN ?_))))))))
 refine cN (cN ?_)
 refine iw hG ?_
 refine aM rfl rfl ?_
 exact ⟨rfl,rfl⟩
theorem wj{R:List HP}{p N:Nat}{es:Es}{c:Nat}(a:Int):
 Ok Tryz.prog 121 [(vI a),(vP c 0)] ((aT p N es)::(bI c [(vP p 0)] 67)::R)
  (fun v M=>v=.bool (decide (a<0) ||decide (a≥(N:Int)))∧M=aT p N es::bI c [.pointer (some ⟨p,0,none⟩)] 67::R):=by
 refine aP (N:=15) Tryz.func121 rfl rfl rfl (fun W=>?_)
 refine jj (fun bo co bi ci bt ct vo vi hG=>?_)
 have gsm:=hG.ok.small
 have glo:=hG.lo
 have gli:=hG.li
 have gml:=eC N es
 refine av (fun _ hK1=>aA rfl (td hK1 (av (fun _ hK2=>ag rfl ?_))))
 by_cases h1:a<0
 ·refine tp rfl (aJ rfl rfl (decide_eq_true h1)) (ag rfl ?_)
  refine aq rfl rfl rfl ?_
  refine aq rfl rfl rfl ?_
  refine aq rfl rfl rfl ?_
  refine aq rfl rfl rfl ?_
  refine aq rfl rfl rfl ?_
  refine aq rfl rfl rfl ?_
  refine aq rfl rfl rfl ?_
  refine tp rfl (aL rfl rfl) (aA rfl (td hK2 (ay (cN (cN (cN (cN (cN ?_))))))))
  refine cN ?_
  refine iw hG ?_
  refine aM rfl rfl ?_
  exact ⟨by simp [*],rfl⟩
 ·refine tp rfl (aJ rfl rfl (decide_eq_false h1)) (ag rfl ?_)
  refine ae rfl rfl ?_
  refine ag rfl ?_
  refine ae rfl rfl ?_
  refine bK DN rfl (aa (.tail _ (.tail _ (.tail _ (.tail _ (.tail _ (.tail _ (.head _))))))) rfl) ?_
  refine ae rfl rfl ?_
  refine cV rfl ?_
  refine ae rfl rfl ?_
  refine bU 0 Do rfl DS rfl rfl ?_
  refine ae rfl rfl ?_
  refine bK DT rfl (aa (.head _) rfl) ?_
  refine ae rfl rfl ?_
  refine tp rfl (bC DJ rfl rfl) ?_
  refine ae rfl rfl ?_
  refine tp rfl (cC rfl rfl rfl) (tp rfl (aC rfl rfl) (aA rfl (td hK2 (ay (cN (cN (cN (cN ?_))))))))
  refine cN (cN ?_)
  refine iw hG ?_
  refine aM rfl rfl ?_
  exact ⟨by simp [*],rfl⟩
theorem xd{R:List HP}{p N:Nat}{es:Es}{bs:Option Addr}{cp:Nat}(ts:List Int)(hx:Rd R bs (aF .i64 ts))(okx:bB bs ts.length)(lx:ts.length≤4611686018427387904):
 Ok Tryz.prog 71 [(vP p 0),(.slice bs ts.length cp)] ((aT p N es)::R)
  (fun v M=>v=.bool (fN N ts)∧M=aT p N es::R):=by
 refine aP (N:=9) Tryz.func71 rfl rfl rfl (fun W=>?_)
 refine av (fun _ hK1=>?_)
 refine tm rfl (cZ rfl rfl) ?_
 rintro _ _ ⟨b1,rfl,rfl⟩
 refine aA rfl (td hK1 (av (fun _ hK2=>ag rfl (tp rfl (fU rfl) (aE ?_)))))
 refine bN Tryz.call120 rfl (ns (p:=fun a=>decide (a<0) ||decide (a≥(N:Int))) ts ⟨Tryz.call121,fun x _=>wj x⟩ (Rd.cons (Rd.cons hx)) okx (by first|omega| (simp;omega)| (simp;done))) ?_
 rintro _ _ ⟨rfl,rfl⟩
 refine tp rfl (dy (c:= !((ts).any (fun a=>decide (a<0) ||decide (a≥(N:Int))))) rfl rfl) (aA rfl (td hK2 (ay (aE (ak ?_)))))
 refine aM rfl rfl ?_
 exact ⟨rfl,rfl⟩
theorem fy{R:List HP}{p N:Nat}{es:Es}{bs:Option Addr}{cp:Nat}(ts:List Int){b:Bool}(hb:fN N ts=b)(hx:Rd R bs (aF .i64 ts))(okx:bB bs ts.length)(lx:ts.length≤4611686018427387904):
 Ok Tryz.prog 71 [(vP p 0),(.slice bs ts.length cp)] (aT p N es::R) (fun v M=>v=.bool b∧M=aT p N es::R):=hb▸xd ts hx okx lx
end Go.Proofs.YtanfdikglplkaaaGreatDoor
set_option maxRecDepth 100000
namespace Go.Proofs.YtanfdikglplkaaaGreatDoor
open Go Go.Proofs Sp
set_option maxHeartbeats 4000000 in
theorem mH{R:List HP}{bx:Option Addr}{cx:Nat}(xs:List Int)(v:Int)(hx:Rd R bx (aF .i64 xs))(okx:bB bx xs.length)(lx:xs.length≤4611686018427387904):
 Ok Tryz.prog 154 [(.slice bx xs.length cx),(vI v)] R
  (fun u M=>u=.int .i64 (eU (fun y=>decide (v=y)) xs)∧M=R):=by
 refine aP (N:=19) Tryz.func154 rfl rfl rfl (fun W=>?_)
 refine av (fun _ hK1=>aA rfl (td hK1 (ai (fun _ hK2=>av (fun _ hK3=>ag rfl (tp rfl (bC CI rfl rfl) ?_))))))
 refine ag rfl (td hK3 (aH ?_))
 refine cE (γ:=(Nat)) (fun (k:Nat)=>k≤xs.length∧(∀j,j<k→decide (v=xs.getD j 0)=false)) (fun (k:Nat)=>[(0,(.slice bx xs.length cx)),(1,(vI v)),(7,(vN xs.length)),(8,(vN k))]) (fun (k:Nat)=>R) (fun (k:Nat)=>xs.length-k) (0) ⟨by omega,fun j hj=>by omega⟩ ⟨rfl,rfl,rfl,rfl,trivial⟩ (fun _ h=>h) ?_
 rintro k K4 hF hK4
 try dsimp only at hF hK4⊢
 obtain ⟨hk,hall⟩:=hF
 refine av (fun _ hK5=>?_)
 by_cases h1:(k:Int)< (xs.length:Int)
 ·refine tp rfl (aJ rfl rfl (decide_eq_true h1)) (td hK5 (ai (fun _ hK6=>aG rfl (dp hK6 (ai (fun _ hK7=>aH (ai (fun _ hK8=>?_))))))))
  refine aj (ag rfl (aA rfl (td hK8 (av (fun _ hK9=>ag rfl (ag rfl (ag rfl ?_)))))))
  refine tp rfl (ah (k':=k) CI CG rfl rfl okx (by omega) (by omega) (by omega)) ?_
  refine bK CH rfl (Rd.gives hx (aQ (by first|omega| (simp;omega)))) ?_
  by_cases heq:v=((xs).getD k 0)
  ·refine tp rfl (aV rfl rfl (beq_iff_eq.2 heq)) (td hK9 (aG rfl (av (fun _ hK10=>ag rfl (aA rfl (td hK10 ?_))))))
   refine ay ?_
   refine cH ?_
   refine aK ?_
   refine aK ?_
   refine cH ?_
   refine aK ?_
   refine aM rfl rfl ?_
   exact ⟨by rw [uB (p:=fun y=>decide (v=y)) (k:=k) (by omega) (decide_eq_true ‹_›) hall],rfl⟩
  ·refine tp rfl (aV rfl rfl (beq_eq_false_iff_ne.2 heq)) (td hK9 (ar rfl (cS (aZ (qn hK7 (aj (tp rfl (aX (c:=((k+1:Nat):Int)) rfl rfl (aB (by omega))) ?_)))))))
   refine ag rfl (aI (aN ?_))
   exact az (by exact ⟨rfl,rfl,rfl,rfl,trivial⟩) ((hK4 (k+1) ⟨by omega,jx hall (decide_eq_false ‹_›)⟩ (by omega)))
 ·refine tp rfl (aJ rfl rfl (decide_eq_false h1)) (td hK5 (ai (fun _ hK6=>ar rfl (bT (au (au (bS (qn hK2 ?_))))))))
  refine av (fun _ hK7=>aA rfl (td hK7 (ay ?_)))
  refine aM rfl rfl ?_
  exact ⟨by rw [qb (p:=fun y=>decide (v=y)) (fun j hj=>hall j (by omega))],rfl⟩
theorem rm(v:Int)(xs:List Int):decide (eU (fun y=>decide (v=y)) xs≥0)=xs.contains v:=by
 have:=oN (fun y=>decide (v=y)) xs
 rw [this,Bool.eq_iff_iff,List.any_eq_true,List.contains_iff_mem]
 exact ⟨fun ⟨x,hx,e⟩=>by have:=of_decide_eq_true e;exact this▸hx,fun h=>⟨v,h,by simp⟩⟩
theorem mg{R:List HP}{bx:Option Addr}{cx:Nat}(xs:List Int)(v:Int)(hx:Rd R bx (aF .i64 xs))(okx:bB bx xs.length)(lx:xs.length≤4611686018427387904):
 Ok Tryz.prog 151 [(.slice bx xs.length cx),(vI v)] R
  (fun u M=>u=.bool (xs.contains v)∧M=R):=by
 refine aP (N:=9) Tryz.func151 rfl rfl rfl (fun W=>?_)
 refine av (fun _ hK1=>aA rfl (td hK1 (av (fun _ hK2=>ag rfl (ag rfl ?_)))))
 refine bN Tryz.call154 rfl (mH xs v hx okx (by first|omega| (simp;omega)| (simp;done))) ?_
 rintro _ _ ⟨rfl,hMR⟩
 rw [hMR];clear hMR
 refine tp rfl (cC rfl rfl (rm v xs)) (aA rfl (td hK2 (ay ?_)))
 refine aM rfl rfl ?_
 exact ⟨rfl,rfl⟩
theorem tG{xs:List Int}{i:Nat}(h:i<xs.length)(n:Nat)(hn:n=xs.length-1)(zs:List Int):(xs.take i++xs.drop (i+1)++zs).take n=xs.eraseIdx i:=by
 have hl:(xs.take i++xs.drop (i+1)).length=n:=by simp;omega
 rw [List.take_append_of_le_length (by omega),List.take_of_length_le (by omega),List.eraseIdx_eq_take_drop_succ]
set_option maxHeartbeats 4000000 in
theorem pb{R:List HP}{bx:Option Addr}{cx:Nat}(xs:List Int)(i:Nat)(hi:i<xs.length):
 Ok Tryz.prog 155 [(.slice bx xs.length cx),(vN i),(vI ((i+1:Nat):Int))] ((SlV 3 1 (.slice bx xs.length cx) xs.length (aF .i64 xs))::R)
  (fun v M=>v=.slice bx (xs.eraseIdx i).length cx∧M=SlV 3 1 (.slice bx (xs.eraseIdx i).length cx) (xs.eraseIdx i).length (aF .i64 (xs.eraseIdx i))::R):=by
 refine aP (N:=33) Tryz.func155 rfl rfl rfl (fun W=>?_)
 refine aY (fun _ h=>fY h) (fun hbx=>?_)
 obtain ⟨okx,hcx,hmx⟩:=hbx
 unfold maxLen at hmx
 refine av (fun _ hK1=>aA rfl (td hK1 (av (fun _ hK2=>ag rfl (ag rfl (ag rfl ?_))))))
 refine ag rfl (tp rfl (bC CI rfl rfl) (tp rfl (ed (l:=i) (h:=i+1) (m:=xs.length) (v:=(.slice (eu bx i xs.length 1) ((i+1)-i) (xs.length-i))) CI CG rfl rfl rfl rfl (.inl ⟨_,_,rfl,(by omega),(by omega),(by omega)⟩) (.inl ⟨_,_,rfl,(by omega),(by omega),(by omega)⟩) (.inl ⟨_,_,rfl,(by omega),(by omega),(by omega)⟩) (by simp) rfl) ?_))
 refine td hK2 (ai (fun _ hK3=>av (fun K4 hK4=>ag rfl (ag rfl (tp rfl (aV rfl rfl (beq_eq_false_iff_ne.2 (by omega))) ?_)))))
 refine td hK4 (ar rfl (dp hK3 (av (fun _ hK5=>ag rfl (tp rfl (bC CI rfl rfl) (aA rfl ?_))))))
 refine td hK5 (ai (fun _ hK6=>?_))
 refine bz (γ:=Unit) (n:=8) Tryz.mixed rfl rfl (fun _ S=>True) (fun _=>[(0,20,(.slice bx xs.length cx)),(1,21,(vN i)),(2,22,(.slice bx i cx)),(3,23,(.slice bx xs.length cx)),(4,24,(vI ((i+1:Nat):Int))),(5,25,(.slice (eu bx (i+1) cx 1) (xs.length- (i+1)) (cx- (i+1)))),(6,26,(.slice bx (i+(xs.length- (i+1))) cx)),(7,0,(.slice bx (i+(xs.length- (i+1))) cx))]) (fun _ S=>(bif S 6 then (SlV 3 1 (.slice bx xs.length cx) xs.length (aF .i64 (xs.take i++((xs).drop (i+1))++xs.drop (i+(xs.length- (i+1)))))) else (SlV 3 1 (.slice bx xs.length cx) xs.length (aF .i64 xs)))::R) (()) trivial (fun _ h=>h) (fun _ _ h=>h) ?_ ?_
 ·refine ⟨?_,aU,?_,?_,aU,?_,?_,fh,trivial⟩
  ·intro _ S h s D p K k;exact bH (fu (t:=0) 7 (nf s D (k:=7) (i:=0) rfl) rfl rfl) (eX rfl) 0 rfl rfl s (k () h)
  ·rintro _ S hF hS D hp K hK;try dsimp only
   exact bV (bE hp 0 rfl rfl) (bE hp 1 rfl rfl) (ed (l:=0) (h:=i) (m:=cx) (v:=(.slice bx i cx)) CI CG rfl rfl rfl rfl (.inr ⟨rfl,rfl⟩) (.inl ⟨_,_,rfl,(by omega),(by omega),(by omega)⟩) (.inr ⟨rfl,rfl⟩) (by simp) (by rw [fI];rfl)) 2 rfl rfl hS (hK () hF)
  ·intro _ S h s D p K k;exact bH (fu (t:=0) 7 (nf s D (k:=7) (i:=3) rfl) rfl rfl) (eX rfl) 3 rfl rfl s (k () h)
  ·rintro _ S hF hS D hp K hK;try dsimp only
   exact bV (bE hp 3 rfl rfl) (bE hp 4 rfl rfl) (ed (l:=i+1) (h:=xs.length) (m:=cx) (v:=(.slice (eu bx (i+1) cx 1) (xs.length- (i+1)) (cx- (i+1)))) CI CG rfl rfl rfl rfl (.inr ⟨rfl,rfl⟩) (.inr ⟨rfl,rfl⟩) (.inl ⟨_,_,rfl,(by omega),(by omega),(by omega)⟩) (by simp) rfl) 5 rfl rfl hS (hK () hF)
  ·rintro _ S hF hS D hp K hK
   try dsimp only at hF⊢
   refine bZ hp [22,25] rfl rfl ?_
   refine c9 hS ?_
   refine tm rfl (l5 (i:=Tryz.t3) (k:=i) CI C1 rfl rfl rfl (fun hz=>nS okx (by omega) hz) (by omega) (by first| (simp;done)| (simp;omega)) (tu (l:=i+1) (m:=cx) (cj (.head _)) okx rfl hcx) lU (by omega) ints_splice) ?_
   rintro _ _ ⟨rfl,rfl⟩
   exact cK hp hS (ti (hK () trivial)) rfl rfl rfl
 ·rintro _ hF
  try dsimp only at hF⊢
  refine az (E':=[(0,(.slice bx (i+(xs.length- (i+1))) cx)),(1,(vN i)),(2,(vI ((i+1:Nat):Int))),(6,(.slice none 0 0)),(7,(vN xs.length)),(16,(.bool false))]) ⟨rfl,rfl,rfl,rfl,rfl,rfl,trivial⟩ ?_
  refine qn hK6 (av (fun _ hK7=>ag rfl (ag rfl (tp rfl (bC CI rfl rfl) (ag rfl (tp rfl (ed (l:=i+(xs.length- (i+1))) (h:=xs.length) (m:=cx) (v:=(.slice (eu bx (i+(xs.length- (i+1))) cx 1) (xs.length- (i+(xs.length- (i+1)))) (cx- (i+(xs.length- (i+1)))))) CI CG rfl rfl rfl rfl (.inr ⟨rfl,rfl⟩) (.inl ⟨_,_,rfl,(by omega),(by omega),(by omega)⟩) (.inl ⟨_,_,rfl,(by omega),(by omega),(by omega)⟩) (by simp) rfl) ?_))))))
  refine Cw (mi (l:=i+(xs.length- (i+1))) (c:=cx) CI CN rfl rfl (by decide) rfl okx (by omega) (by omega) (by omega)) ?_
  rintro _ _ ⟨zs1,rfl⟩
  refine td hK7 (av (fun _ hK8=>ag rfl (aA rfl (td hK8 (ay ?_)))))
  refine bO (fun _ h=>mh (by omega) (by omega) (by simp;omega) h) ?_
  rw [tG hi _ (by omega)]
  rw [show i+(xs.length- (i+1))=(xs.eraseIdx i).length by rw [List.length_eraseIdx,if_pos hi];omega]
  refine aM rfl rfl ?_
  exact ⟨rfl,rfl⟩
end Go.Proofs.YtanfdikglplkaaaGreatDoor
