/- Parts Eq: own lemmas and contracts of the code that the claim reaches. -/
import Derived.Test.YtanfdikglplkaaaGreatDoorM21
import Derived.Test.YtanfdikglplkaaaGreatDoorM23
import Derived.Test.YtanfdikglplkaaaGreatDoorM26
import Derived.Test.YtanfdikglplkaaaGreatDoorM27
import Derived.Test.YtanfdikglplkaaaGreatDoorM28
import Derived.Test.YtanfdikglplkaaaGreatDoorM11
set_option linter.unusedSimpArgs false
set_option linter.unusedVariables false
set_option maxRecDepth 100000
namespace Go.Proofs.YtanfdikglplkaaaGreatDoor
open Go Go.Proofs Sp
theorem ok_conv {f : FuncId} {args : List Value} {L L' : List HP} {Post Post' : Value → List HP → Prop} (h1 : ∀ w, Sat L w → Sat L' w) (h : Ok Tryz.prog f args L' Post') (h2 : ∀ u M, Post' u M → ∃ M', Post u M' ∧ ∀ w, Sat M w → Sat M' w) : Ok Tryz.prog f args L Post := fun w hs => by
  refine (h w (h1 w hs)).mono ?_
  rintro en w' ⟨u, M, hp, h3, h4, h5⟩
  obtain ⟨M', hp', h6⟩ := h2 u M hp
  exact ⟨u, M', hp', h3, h6 _ h4, h5⟩
def DispQ (c : Cfg) (al : List (Int × Int)) (m : Nat) (W : Nat → Prop) (i : Nat) (T : YT) (j : YI) : Prop := (j.f = 6 ∧ j.T = T ∧ T.y.as.a = []) ∨ (j.f = 0 ∧ T.y.as.a ≠ [] ∧ YMid c al m W i j.T j.d j.e)
def SubQ (c : Cfg) (al : List (Int × Int)) (m : Nat) (W : Nat → Prop) (i : Nat) (T : YT) (root : Nat) (j : YI) : Prop := (j.f = 4 ∧ j.T = T ∧ subE T.A T.Q T.y ≠ 0) ∨ (j.f = 0 ∧ YRest c al (m + 1) (fun t => W t ∨ t = root) i j.T)
def DidQ (c : Cfg) (al : List (Int × Int)) (m : Nat) (W : Nat → Prop) (i : Nat) (j : YI) : Prop := j.f = 0 ∧ YRest c al m W (i + 1) j.T
def QryQ (T : YT) (r : Nat) (j : YI) : Prop := j.f = 0 ∧ j.T = T ∧ j.b = (T.y.s.rq.getD r Rq.z).st
section
variable {R : List HP} {e vr : Nat} {c : Cfg} {al : List (Int × Int)} {m i : Nat} {W : Nat → Prop} {T : YT} {oa ob oc od : Int}
theorem y_disp (hS : Sml c al) (hR : YRest c al m W i T) (hT : Tab R) : Ok Tryz.prog 28 [.pointer (some ⟨e, 0, none⟩), .agg #[.int .i64 4, .int .i64 oa, .int .i64 ob, .int .i64 oc, .int .i64 od]] (YardO e T :: R) (fun u M => ∃ j : YI, DispQ c al m W i T j ∧ u = j.v ∧ M = YardO e j.T :: R) := fun w hs => by
  have hs1 : Sat (yardL e T ++ R) w := Sat.join.1 hs
  have hcf := hS.cf
  have h3 := hR.i8; have h4 := hS.n; have h5 := hR.lg; have h6 := hR.bg
  have key : ∀ (p : Int) (tl9 : List Int), bestN (T.y.s.lf.map (·.st)) (ofL T.x.n [] (actR T.y.s T.y.as.a)) T.x.n = (p, tl9) → (tl9 = [] ∨ ∃ ps qs, DispI T.x.n T.y.s T.y.as.a (T.ld.bud - T.ld.used) T.y.ms T.y.ta p tl9 ps qs) → (tl9 = [] ↔ T.y.as.a = []) →
      Calls Tryz.prog 28 #[.pointer (some ⟨e, 0, none⟩), .agg #[.int .i64 4, .int .i64 oa, .int .i64 ob, .int .i64 oc, .int .i64 od]] w fun en w' => ∃ u M, (∃ j : YI, DispQ c al m W i T j ∧ u = j.v ∧ M = YardO e j.T :: R) ∧ en = .returned u ∧ Sat M w' ∧ Ext w w' := fun p tl9 hb hcs hiff => by
    refine (disp_ok (x := T.x) (y := T.y) hb hcs hR.ov ⟨hR.a4, hR.q4⟩ (by rw [hR.ld]; exact ld0_cnt hcf.slots) (fun t ht => by rw [hR.ld]; exact ld0_takeE hcf.slots (hR.mem hS (by rw [← hR.xn]; exact ht))) (fun k _ => by rw [hR.ld, ld0_get]) (by omega) (by omega) (fun t ht => by have := hR.ep t (by rw [← hR.xn]; exact ht); omega) hT (by rw [hR.ec]; have := hcf.tmo; omega) w hs1).mono ?_
    rintro en w' ⟨u, M, ⟨hn, rfl, rfl⟩ | ⟨hn, t, r, tmq, ta, ht, hst, hid, rfl, rfl⟩, h1, h2, h3⟩
    · exact ⟨_, _, ⟨⟨T, 0, 0, 0, 0, 0, 6⟩, .inl ⟨rfl, rfl, hiff.1 hn⟩, rfl, rfl⟩, h1, Sat.join.2 h2, h3⟩
    · exact ⟨_, _, ⟨⟨T.went t tmq ta, r, 0, t, T.ld.takeV t (T.y.s.tk.getD t Tk.z).mem, ((startS T.y.s T.ld t).lf.getD t Lf.z).ep, 0⟩, .inr ⟨rfl, fun ha => hn (hiff.2 ha), T, t, tmq, ta, hR, by rw [← hR.xn]; exact ht, hst, hid, rfl, rfl, rfl⟩, rfl, rfl⟩, h1, Sat.join.2 h2, h3⟩
  by_cases ha : T.y.as.a = []
  · exact key _ [] (Prod.ext rfl (by rw [ha]; exact best_nil _ _)) (.inl rfl) ⟨fun _ => ha, fun _ => rfl⟩
  · obtain ⟨ba, ca, ps, hF⟩ := tfacts_of (hs1.perm (perm_front [_, _, _, _, _] _))
    have hta : T.y.ta < T.y.ms.length := by
      rcases hF.at_ with h | ⟨_, h⟩
      · exact h
      · exact absurd (by rw [← hR.dr.ov.me, h]; rfl) ha
    obtain ⟨p, tl9, pz, qs, hD⟩ := hR.disp hS ha hta
    exact key p tl9 hD.hb (.inr ⟨_, _, hD⟩) ⟨fun h => absurd h hD.tn, fun h => absurd h ha⟩
theorem y_sub (hS : Sml c al) (hR : YRest c al m W i T) (root : Nat) (hr : root < al.length) (hw : 1 ≤ ob ∧ ob ≤ 100) (hp : 0 ≤ oc ∧ oc ≤ 7) (hV : VTab vr R) : Ok Tryz.prog 25 [.pointer (some ⟨e, 0, none⟩), .agg #[.int .i64 1, .int .i64 ((root : Nat) : Int), .int .i64 ob, .int .i64 oc, .int .i64 od]] (YardO e T :: R) (fun u M => ∃ j : YI, SubQ c al m W i T root j ∧ u = j.v ∧ M = YardO e j.T :: R) := by
  have hm := hS.ts root hr
  refine ok_conv (L' := EngC e T.x T.y.s :: TurnsO T.x.tn T.q T.y.ms T.y.ta :: AdmO T.x.ad T.A T.Q T.y.as :: LedO T.x.ld T.ld :: Blk T.x.tp [.pointer (some ⟨T.hp, 0, none⟩)] 132 :: HeapO T.hp T.n T.ks :: GraphO T.x.g T.x.n [] :: R) (fun w hs => ?_)
    (submit_ok (x := T.x) (y := T.y) root ob oc (by rw [hR.xn]; omega) (by rw [hR.ea, hR.ec]; omega) hR.ov ⟨hR.a4, hR.q4⟩ hV.cons.cons.cons.cons) ?_
  · have hs1 : Sat (yardL e T ++ R) w := Sat.join.1 hs
    exact (((hs1.perm (perm_front [_, _, _, _, _, _] _)).perm (perm_front [_, _, _, _, _, _] _)).perm (perm_front [_, _] _))
  · have back : ∀ T' : YT, ∀ w, Sat (EngC e T'.x T'.y.s :: TurnsO T'.x.tn T'.q T'.y.ms T'.y.ta :: AdmO T'.x.ad T'.A T'.Q T'.y.as :: LedO T'.x.ld T'.ld :: Blk T'.x.tp [.pointer (some ⟨T'.hp, 0, none⟩)] 132 :: HeapO T'.hp T'.n T'.ks :: GraphO T'.x.g T'.x.n [] :: R) w → Sat (YardO e T' :: R) w := fun T' w h =>
      Sat.join.2 (((((h.perm (perm_front [_, _, _, _, _, _] _)).perm (perm_front [_, _, _, _, _, _] _)).perm (perm_front [_, _, _, _, _, _] _)).perm (perm_front [_, _, _, _, _, _] _)).perm (perm_front [_, _, _, _] _))
    rintro u M (⟨rfl, hne, rfl⟩ | ⟨h0, b, c', p, z, hz, rfl, rfl⟩)
    · rcases sub_cases hR.dr with h | h
      · exact absurd h hne
      · exact ⟨_, ⟨⟨T, 0, 0, 0, 0, 0, subE T.A T.Q T.y⟩, .inl ⟨h, rfl, hne⟩, rfl, rfl⟩, back T⟩
    · exact ⟨_, ⟨⟨{ T with x := T.x.addRq b c' p, y := z }, ((T.x.m : Nat) : Int), (z.s.rq.getD T.x.m Rq.z).st, 0, 0, 0, 0⟩, .inr ⟨rfl, hR.sub (r := ⟨((root : Nat) : Int), ob, oc, addV T.A T.Q T.y.as ((T.x.m : Nat) : Int)⟩) (by dsimp only; omega) h0 hz rfl rfl⟩, rfl, rfl⟩, back { T with x := T.x.addRq b c' p, y := z }⟩
theorem y_did {sl ep : Int} (hS : Sml c al) (hM : YMid c al m W i T sl ep) (hV : VTab vr R) : Ok Tryz.prog 29 [.pointer (some ⟨e, 0, none⟩), .agg #[.int .i64 5, .int .i64 sl, .int .i64 ep, .int .i64 1, .int .i64 od]] (YardO e T :: R) (fun u M => ∃ j : YI, DidQ c al m W i j ∧ u = j.v ∧ M = YardO e j.T :: R) := fun w hs => by
  have hs1 : Sat (yardL e T ++ R) w := Sat.join.1 hs
  obtain ⟨T0, t, ms, ta, hR, ht, h1, hm, rfl, rfl, rfl⟩ := hM
  have hcf := hS.cf
  have h3 := hR.i8; have h4 := hS.n; have h5 := hR.lg; have h6 := hR.bg
  have hmem := hR.mem hS ht
  have hld : T0.ld.take t (T0.y.s.tk.getD t Tk.z).mem = (ld0 c).put 0 ⟨true, t, (T0.y.s.tk.getD t Tk.z).mem⟩ (T0.y.s.tk.getD t Tk.z).mem := by rw [hR.ld]; exact ld0_take hcf.slots hmem
  have hsl : T0.ld.takeV t (T0.y.s.tk.getD t Tk.z).mem = 0 := by rw [hR.ld]; exact ld0_takeV hcf.slots hmem
  obtain ⟨hab, hai⟩ := ld1_at (c := c) (t := t) (mem := (T0.y.s.tk.getD t Tk.z).mem) hcf.slots
  have hl : t < T0.y.s.lf.length := by rw [hR.dr.dq.ln]; exact ht
  have hst : ((startS T0.y.s T0.ld t).lf.getD t Lf.z).st = 2 := by rw [start_lf hl, if_pos rfl]; have h1' : (T0.y.s.lf.getD t Lf.z).st = 1 := h1; unfold startL; rw [if_pos h1']
  have hov : OvOk T0.x.n T0.x.m T0.A T0.Q ⟨startS T0.y.s T0.ld t, ms, ta, T0.y.as⟩ := by
    have := (hR.dr.turn (ta := ta) hm).ov.fol (s' := startS T0.y.s T0.ld t) rfl
    rw [hR.xn, hR.xm]; exact this
  rw [hsl]
  have hlg : (startS T0.y.s T0.ld t).lg.length = T0.y.s.lg.length + 1 := by show (T0.y.s.lg ++ [_]).length = _; simp
  refine (did_ok (x := T0.x) (y := ⟨startS T0.y.s T0.ld t, ms, ta, T0.y.as⟩) (ld := T0.ld.take t (T0.y.s.tk.getD t Tk.z).mem) 0 _ (by rw [hld]; exact hab) (by rw [hld, hai, hR.xn]; omega) (by rw [hld, hai, Int.toNat_natCast]; exact hst) (by rw [hld, hai, Int.toNat_natCast]) (by show (startS T0.y.s T0.ld t).lg.length ≤ _; omega) hov ⟨hR.a4, hR.q4⟩ hV w hs1).mono ?_
  rintro en w' ⟨u, M, ⟨t', sf, z, hat, hfo, hz, hc, rfl, rfl⟩, h7, h8, h9⟩
  have et : t' = t := by rw [hld, hai] at hat; omega
  subst et
  have esf := hfo.none
  subst esf
  have hd := YMid.done hS hR ht h1 hm (ta := ta) (ld' := T0.ld.take t' (T0.y.s.tk.getD t' Tk.z).mem) hz hc (ks := remK (startK T0.y.s T0.ks t') t')
  have hdr : (T0.ld.take t' (T0.y.s.tk.getD t' Tk.z).mem).drop (t' : Int) = T0.ld := by rw [hld, hR.ld]; exact ld1_drop hcf.slots
  rw [hdr] at h8
  exact ⟨_, _, ⟨⟨{ T0 with y := z, ks := remK (startK T0.y.s T0.ks t') t' }, 0, (z.s.lf.getD t' Lf.z).st, t', 0, 0, 0⟩, ⟨rfl, hd⟩, rfl, rfl⟩, h7, Sat.join.2 h8, h9⟩
theorem y_qry (r : Nat) (hr : r < T.x.m) : Ok Tryz.prog 30 [.pointer (some ⟨e, 0, none⟩), .agg #[.int .i64 6, .int .i64 ((r : Nat) : Int), .int .i64 ob, .int .i64 oc, .int .i64 od]] (YardO e T :: R) (fun u M => ∃ j : YI, QryQ T r j ∧ u = j.v ∧ M = YardO e j.T :: R) := fun w hs => by
  have hs1 : Sat (yardL e T ++ R) w := Sat.join.1 hs
  refine (query_ok (x := T.x) (s := T.y.s) r hr w hs1).mono ?_
  rintro en w' ⟨u, M, ⟨rfl, rfl⟩, h1, h2, h3⟩
  exact ⟨_, _, ⟨⟨T, 0, (T.y.s.rq.getD r Rq.z).st, (T.y.s.rq.getD r Rq.z).root, 0, 0, 0⟩, ⟨rfl, rfl, rfl⟩, rfl, rfl⟩, h1, Sat.join.2 h2, h3⟩
theorem yd_disp (hS : Sml c al) (hR : YRest c al m W i T) (hT : Tab R) : Ok Tryz.prog 13 [.pointer (some ⟨e, 0, none⟩), .agg #[.int .i64 4, .int .i64 oa, .int .i64 ob, .int .i64 oc, .int .i64 od]] (YardO e T :: R) (fun u M => ∃ j : YI, DispQ c al m W i T j ∧ u = j.v ∧ M = YardO e j.T :: R) :=
  do_dispatch (ι := YI) (A1 := yardL e T) (B1 := fun j => yardL e j.T) (q1 := DispQ c al m W i T) (ra := YI.a) (rb := YI.b) (rc := YI.c) (rd := YI.d) (re := YI.e) (rf := YI.f) fun X Y Z => y_disp hS hR hT.cons.cons.cons
theorem yd_sub (hS : Sml c al) (hR : YRest c al m W i T) (root : Nat) (hr : root < al.length) (hw : 1 ≤ ob ∧ ob ≤ 100) (hp : 0 ≤ oc ∧ oc ≤ 7) (hV : VTab vr R) : Ok Tryz.prog 13 [.pointer (some ⟨e, 0, none⟩), .agg #[.int .i64 1, .int .i64 ((root : Nat) : Int), .int .i64 ob, .int .i64 oc, .int .i64 od]] (YardO e T :: R) (fun u M => ∃ j : YI, SubQ c al m W i T root j ∧ u = j.v ∧ M = YardO e j.T :: R) :=
  do_submit (ι := YI) (A1 := yardL e T) (B1 := fun j => yardL e j.T) (q1 := SubQ c al m W i T root) (ra := YI.a) (rb := YI.b) (rc := YI.c) (rd := YI.d) (re := YI.e) (rf := YI.f) fun X Y Z => y_sub hS hR root hr hw hp hV.cons.cons.cons
theorem yd_did {sl ep : Int} (hS : Sml c al) (hM : YMid c al m W i T sl ep) (hV : VTab vr R) : Ok Tryz.prog 13 [.pointer (some ⟨e, 0, none⟩), .agg #[.int .i64 5, .int .i64 sl, .int .i64 ep, .int .i64 1, .int .i64 od]] (YardO e T :: R) (fun u M => ∃ j : YI, DidQ c al m W i j ∧ u = j.v ∧ M = YardO e j.T :: R) :=
  do_answer (ι := YI) (A1 := yardL e T) (B1 := fun j => yardL e j.T) (q1 := DidQ c al m W i) (ra := YI.a) (rb := YI.b) (rc := YI.c) (rd := YI.d) (re := YI.e) (rf := YI.f) fun X Y Z => y_did hS hM hV.cons.cons.cons
theorem yd_qry (r : Nat) (hr : r < T.x.m) : Ok Tryz.prog 13 [.pointer (some ⟨e, 0, none⟩), .agg #[.int .i64 6, .int .i64 ((r : Nat) : Int), .int .i64 ob, .int .i64 oc, .int .i64 od]] (YardO e T :: R) (fun u M => ∃ j : YI, QryQ T r j ∧ u = j.v ∧ M = YardO e j.T :: R) :=
  do_query (ι := YI) (A1 := yardL e T) (B1 := fun j => yardL e j.T) (q1 := QryQ T r) (ra := YI.a) (rb := YI.b) (rc := YI.c) (rd := YI.d) (re := YI.e) (rf := YI.f) fun X Y Z => y_qry r hr
theorem yd_state (t : Nat) (ht : t < T.x.n) : Ok Tryz.prog 11 [.pointer (some ⟨e, 0, none⟩), .int .i64 ((t : Nat) : Int)] (YardO e T :: R) (fun u M => u = .int .i64 (T.y.s.stt t) ∧ M = YardO e T :: R) :=
  ok_conv (fun w hs => (Sat.join.1 hs : Sat (yardL e T ++ R) w)) (state_e (x := T.x) (s := T.y.s) t ht) (by rintro u M ⟨rfl, rfl⟩; exact ⟨_, ⟨rfl, rfl⟩, fun w h => Sat.join.2 h⟩)
theorem yd_requests : Ok Tryz.prog 15 [.pointer (some ⟨e, 0, none⟩)] (YardO e T :: R) (fun u M => u = .int .i64 ((T.x.m : Nat) : Int) ∧ M = YardO e T :: R) :=
  ok_conv (fun w hs => (Sat.join.1 hs : Sat (yardL e T ++ R) w)) (requests_e (x := T.x) (s := T.y.s)) (by rintro u M ⟨rfl, rfl⟩; exact ⟨_, ⟨rfl, rfl⟩, fun w h => Sat.join.2 h⟩)
theorem yd_used : Ok Tryz.prog 17 [.pointer (some ⟨e, 0, none⟩)] (YardO e T :: R) (fun u M => u = .int .i64 T.ld.used ∧ M = YardO e T :: R) :=
  ok_conv (fun w hs => (Sat.join.1 hs : Sat (yardL e T ++ R) w)) (used_e (x := T.x) (s := T.y.s) (d := T.ld)) (by rintro u M ⟨rfl, rfl⟩; exact ⟨_, ⟨rfl, rfl⟩, fun w h => Sat.join.2 h⟩)
theorem yd_request (r : Nat) (hr : r < T.x.m) : Ok Tryz.prog 16 [.pointer (some ⟨e, 0, none⟩), .int .i64 ((r : Nat) : Int)] (YardO e T :: R) (fun u M => u = .tuple #[.agg #[.int .i64 (T.y.s.rq.getD r Rq.z).root, .int .i64 (T.y.s.rq.getD r Rq.z).wt, .int .i64 (T.y.s.rq.getD r Rq.z).pr], .int .i64 (T.y.s.rq.getD r Rq.z).st, .bool true] ∧ M = YardO e T :: R) :=
  ok_conv (fun w hs => (Sat.join.1 hs : Sat (yardL e T ++ R) w)) (request_e (x := T.x) (s := T.y.s) r hr) (by rintro u M ⟨rfl, rfl⟩; exact ⟨_, ⟨rfl, rfl⟩, fun w h => Sat.join.2 h⟩)
theorem yd_new {n cb : Nat} {bb : Option Addr} (hS : Sml c al) (hln : al.length = n) (hb : Rd R bb (pairs al)) (okb : SlOk bb n) : Ok Tryz.prog 18 [.agg (cfgC c).toArray, .slice bb n cb] R (fun u M => ∃ (e : Nat) (T : YT), YRest c al 0 (fun _ => False) 0 T ∧ u = .tuple #[.pointer (some ⟨e, 0, none⟩), .int .i64 0] ∧ M = YardO e T :: R) :=
  ok_conv (fun w hs => hs) (enew_ok al hS.cf hln (by have := hS.n; omega) (fun k hk => by have := hS.ts k (by omega); have := hS.cf.bud; omega) hb okb) (by
    rintro u M ⟨e, x, hp, hxn, hxm, rfl, rfl⟩
    exact ⟨_, ⟨e, ⟨x, ⟨newS c al, [], 0, ⟨[], []⟩⟩, ld0 c, _, hp, _, qOf c.qu, max c.act 1, max c.que 0⟩, rest_new hS (by rw [hxn, hln]) hxm, rfl, rfl⟩, fun w h => Sat.join.2 h⟩)
end
end Go.Proofs.YtanfdikglplkaaaGreatDoor
