/- Parts Eng3: own lemmas and contracts of the code that the claim reaches. -/
import Derived.Test.YtanfdikglplkaaaGreatDoorM08
set_option linter.unusedSimpArgs false
set_option linter.unusedVariables false
namespace Go.Proofs.YtanfdikglplkaaaGreatDoor.Sp
open Go
structure OS where
  s : ES
  ms : List M3
  ta : Nat
  as : AS
def verd (st : Int) : Int := if st = 5 then 2 else if st = 6 then 3 else if st = 7 then 4 else 0
def OS.left (y : OS) (r : Int) (st : Int) : OS := ⟨y.s.setSt r.toNat st, leaveM y.ms r, leaveA y.ms y.ta r, endS y.as r⟩
def OS.come (y : OS) (r : Nat) : OS := ⟨begS y.s r, begM y.s y.ms r, y.ta, y.as⟩
def OS.leaves (y : OS) (r : Int) (st : Int) : OS := if endEr y.as r = 0 ∧ endV y.as r ≥ 0 then (y.left r st).come (endV y.as r).toNat else y.left r st
structure OvOk (n m : Nat) (A Q : Int) (y : OS) : Prop where
  rq : RqOk n y.s
  lm : y.s.rq.length = m
  ids : ∀ i ∈ y.as.a ++ y.as.q, 0 ≤ i ∧ i < m
  ao : AOk A Q y.as
  me : y.ms.map (·.id) = y.as.a
theorem RqOk.setSt {n : Nat} {s : ES} (h : RqOk n s) (r : Nat) (v : Int) : RqOk n (s.setSt r v) := fun i hi => by
  rw [setSt_root, setSt_wt, setSt_pr]
  exact h i (by have : (s.setSt r v).rq.length = s.rq.length := by show (s.rq.set _ _).length = _; rw [List.length_set]
                omega)
theorem setSt_len (s : ES) (r : Nat) (v : Int) : (s.setSt r v).rq.length = s.rq.length := by show (s.rq.set _ _).length = _; rw [List.length_set]
theorem begS_rq (s : ES) (r : Nat) : (begS s r).rq = (s.setSt r 1).rq := by unfold begS; split <;> rfl
theorem RqOk.beg {n : Nat} {s : ES} (h : RqOk n s) (r : Nat) : RqOk n (begS s r) := by
  have := h.setSt r 1; unfold RqOk at *; rw [begS_rq]; exact this
theorem leaveM_ids (ms : List M3) (r : Int) : (leaveM ms r).map (·.id) = (ms.map (·.id)).erase r := by
  have key : ∀ ms : List M3, (if ms.findIdx (fun m => decide (m.id = r)) < ms.length then ms.eraseIdx (ms.findIdx fun m => decide (m.id = r)) else ms).map (·.id) = (ms.map (·.id)).erase r := by
    intro ms
    induction ms with
    | nil => rfl
    | cons m ms ih =>
      rw [List.findIdx_cons]
      by_cases e : m.id = r
      · simp [e]
      · have e2 : (m.id == r) = false := by simp [e]
        simp only [e, decide_false, cond_false, List.length_cons, Nat.add_lt_add_iff_right, List.eraseIdx_cons_succ, List.map_cons, List.erase_cons, e2]
        rw [← ih]
        split
        · simp
        · simp
  rw [← key]
  unfold leaveM placeM
  by_cases h : ms.findIdx (fun m => decide (m.id = r)) < ms.length
  · simp only [if_pos h]; rw [if_neg (by omega), Int.toNat_natCast]
  · simp only [if_neg h]; rw [if_pos (by decide)]
theorem joinM_ids {ms : List M3} {r w : Int} (hw : 1 ≤ w ∧ w ≤ 100) (hr : r ∉ ms.map (·.id)) : (joinM ms r w).map (·.id) = ms.map (·.id) ++ [r] := by
  have h1 : placeM ms r = -1 := by
    rcases placeM_cases ms r with ⟨k, h1, h2, h3⟩ | ⟨h1, _⟩
    · refine absurd ?_ hr
      rw [List.mem_map]; exact ⟨ms.getD k M3.z, by simp [List.getD, h2], h3⟩
    · exact h1
  have h2 : joinEr ms r w = 0 := by unfold joinEr; rw [if_neg (by omega), h1]; rfl
  unfold joinM
  rw [h2, if_pos rfl, List.map_append]; rfl
theorem end_a {s : AS} {r : Int} (hn : (s.a ++ s.q).Nodup) (hr : r ∈ s.a) : endEr s r = 0 ∧ ((s.q = [] ∧ endV s r = -1 ∧ endS s r = ⟨s.a.erase r, []⟩) ∨ ∃ n q, s.q = n :: q ∧ endV s r = n ∧ endS s r = ⟨s.a.erase r ++ [n], q⟩) := by
  have hq : s.q.contains r = false := by
    rw [Bool.eq_false_iff]; intro h
    have h1 : r ∈ s.q := by simpa using h
    exact (List.nodup_append.1 hn).2.2 r hr r h1 rfl
  have ha : s.a.contains r = true := by simpa using hr
  refine ⟨by unfold endEr there inA inQ; rw [ha]; rfl, ?_⟩
  unfold endV endS inA inQ
  rw [hq, ha]
  cases h : s.q with
  | nil => left; exact ⟨rfl, rfl, rfl⟩
  | cons n q => right; exact ⟨n, q, rfl, rfl, rfl⟩
theorem end_q {s : AS} {r : Int} (hr : r ∈ s.q) : endEr s r = 0 ∧ endV s r = -1 ∧ endS s r = ⟨s.a, s.q.erase r⟩ := by
  have hq : s.q.contains r = true := by simpa using hr
  unfold endEr endV endS there inA inQ
  rw [hq]; simp
theorem OvOk.left {n m : Nat} {A Q : Int} {y : OS} (h : OvOk n m A Q y) {r : Int} (st : Int) : RqOk n (y.left r st).s ∧ (y.left r st).s.rq.length = m :=
  ⟨h.rq.setSt _ _, by show (y.s.setSt _ _).rq.length = m; rw [setSt_len]; exact h.lm⟩
theorem OvOk.next {n m : Nat} {A Q : Int} {y : OS} (h : OvOk n m A Q y) {r : Int} (hr : r ∈ y.as.a ++ y.as.q) (hv : endV y.as r ≥ 0) : endV y.as r ∈ y.as.q := by
  rcases List.mem_append.1 hr with h1 | h1
  · rcases (end_a h.ao.nodup h1).2 with ⟨_, h3, _⟩ | ⟨k, q, h2, h3, _⟩
    · omega
    · rw [h3, h2]; exact .head _
  · have := (end_q (s := y.as) h1).2.1; omega
theorem OvOk.leaves {n m : Nat} {A Q : Int} {y : OS} (h : OvOk n m A Q y) {r : Int} (hr : r ∈ y.as.a ++ y.as.q) (st : Int) : OvOk n m A Q (y.leaves r st) := by
  have h0 := h.left (r := r) st
  have hao : AOk A Q (endS y.as r) := h.ao.ende r
  have hids : ∀ i ∈ (endS y.as r).a ++ (endS y.as r).q, 0 ≤ i ∧ i < m := by
    intro i hi
    refine h.ids i ?_
    rcases List.mem_append.1 hr with h1 | h1
    · rcases (end_a h.ao.nodup h1).2 with ⟨h2, _, h4⟩ | ⟨k, q, h2, _, h4⟩
      · rw [h4] at hi; simp at hi; exact List.mem_append_left _ (List.mem_of_mem_erase hi)
      · rw [h4] at hi; rw [h2]; simp at hi
        rcases hi with hi | hi | hi
        · exact List.mem_append_left _ (List.mem_of_mem_erase hi)
        · subst hi; exact List.mem_append_right _ (.head _)
        · exact List.mem_append_right _ (.tail _ hi)
    · rw [(end_q (s := y.as) h1).2.2] at hi
      rcases List.mem_append.1 hi with hi | hi
      · exact List.mem_append_left _ hi
      · exact List.mem_append_right _ (List.mem_of_mem_erase hi)
  unfold OS.leaves
  by_cases hc : endEr y.as r = 0 ∧ endV y.as r ≥ 0
  · rw [if_pos hc]
    have hm := h.next hr hc.2
    have hnx := h.ids _ (List.mem_append_right _ hm)
    refine ⟨h0.1.beg _, ?_, hids, hao, ?_⟩
    · show (begS _ _).rq.length = m; rw [begS_rq, setSt_len]; exact h0.2
    · show (begM _ _ _).map (·.id) = (endS y.as r).a
      have hw := (h0.1.setSt (endV y.as r).toNat 1) (endV y.as r).toNat (by rw [setSt_len, h0.2]; omega)
      rcases List.mem_append.1 hr with h1 | h1
      · rcases (end_a h.ao.nodup h1).2 with ⟨_, h3, _⟩ | ⟨k, q, h2, h3, h4⟩
        · omega
        · rw [h4]; show _ = y.as.a.erase r ++ [k]
          have hk : k ∉ ((leaveM y.ms r).map (·.id)) := by
            rw [leaveM_ids, h.me]; intro hh
            have h5 := List.mem_of_mem_erase hh
            exact (List.nodup_append.1 h.ao.nodup).2.2 k h5 k (by rw [h2]; exact .head _) rfl
          have e : ((endV y.as r).toNat : Int) = k := by rw [h3] at hnx ⊢; omega
          unfold begM
          rw [e]
          show (joinM (leaveM y.ms r) k _).map (·.id) = _
          rw [joinM_ids ⟨hw.2.2.1, hw.2.2.2.1⟩ hk, leaveM_ids, h.me]
      · have := (end_q (s := y.as) h1).2.1; omega
  · rw [if_neg hc]
    refine ⟨h0.1, h0.2, hids, hao, ?_⟩
    show (leaveM y.ms r).map (·.id) = (endS y.as r).a
    rw [leaveM_ids, h.me]
    rcases List.mem_append.1 hr with h1 | h1
    · obtain ⟨h2, h3⟩ := end_a h.ao.nodup h1
      rcases h3 with ⟨_, _, h4⟩ | ⟨k, q, h5, h6, _⟩
      · rw [h4]
      · have := h.ids k (List.mem_append_right _ (by rw [h5]; exact .head _))
        exact absurd ⟨h2, by rw [h6]; exact this.1⟩ hc
    · rw [(end_q (s := y.as) h1).2.2]
      show y.as.a.erase r = y.as.a
      exact List.erase_of_not_mem fun hh => (List.nodup_append.1 h.ao.nodup).2.2 r hh r h1 rfl
def OS.cnt (y : OS) : Nat := y.as.a.length + y.as.q.length
theorem OvOk.less {n m : Nat} {A Q : Int} {y : OS} (h : OvOk n m A Q y) {r : Int} (hr : r ∈ y.as.a) (st : Int) : (y.leaves r st).cnt < y.cnt := by
  have e : (y.leaves r st).as = endS y.as r := by unfold OS.leaves; split <;> rfl
  unfold OS.cnt; rw [e]
  have hl := List.length_pos_of_mem hr
  rcases (end_a h.ao.nodup hr).2 with ⟨h2, _, h4⟩ | ⟨k, q, h2, _, h4⟩
  · rw [h4, h2]; simp [List.length_erase_of_mem hr]; omega
  · rw [h4, h2]; simp [List.length_erase_of_mem hr]; omega
inductive Ov : OS → OS → Prop
  | refl (y : OS) : Ov y y
  | step {y y1 : OS} (r : Int) (h : Ov y y1) (hr : r ∈ y1.as.a) (hf : 5 ≤ y1.s.stt (y1.s.rt r.toNat)) : Ov y (y1.leaves r (verd (y1.s.stt (y1.s.rt r.toNat))))
def OS.calm (y : OS) : Prop := ∀ r ∈ y.as.a, y.s.stt (y.s.rt r.toNat) < 5
def folS (s : ES) (u : Nat) (st : Int) : ES := if st = 5 then (s.setTk u { (s.tk.getD u Tk.z) with wt := -1 }).lfu u wakeL else if st = 6 then (s.setTk u { (s.tk.getD u Tk.z) with wt := -1 }).lfu u fallL else (s.setTk u { (s.tk.getD u Tk.z) with wt := -1 }).lfu u turnL
inductive Foll (es : Es) : ES → ES → Prop
  | refl (s : ES) : Foll es s s
  | step {s s1 : ES} (u v : Int) (h : Foll es s s1) (hu : (u, v) ∈ es) (hw : (s1.tk.getD u.toNat Tk.z).wt = v) (h3 : s1.stt u.toNat = 3) : Foll es s (folS s1 u.toNat (s1.stt v.toNat))
theorem folS_rq (s : ES) (u : Nat) (st : Int) : (folS s u st).rq = s.rq := by unfold folS; split; · rfl
                                                                              split <;> rfl
theorem Foll.rq {es : Es} {s s' : ES} (h : Foll es s s') : s'.rq = s.rq := by
  induction h with
  | refl => rfl
  | step u v _ _ _ _ ih => rw [folS_rq, ih]
theorem Foll.none {s s' : ES} (h : Foll [] s s') : s' = s := by
  cases h with
  | refl => rfl
  | step u v _ hu => cases hu
def cntW (s : ES) : Nat := s.lf.countP fun x => decide (x.st = 3)
theorem cntW_le (s : ES) : cntW s ≤ s.lf.length := List.countP_le_length
theorem cntW_set {s : ES} {u : Nat} {f : Lf → Lf} (hu : u < s.lf.length) (h3 : s.stt u = 3) (hf : (f (s.lf.getD u Lf.z)).st ≠ 3) : cntW (s.lfu u f) + 1 = cntW s := by
  have e : s.lf.getD u Lf.z = s.lf[u] := by simp [List.getD, hu]
  unfold ES.stt at h3
  unfold cntW ES.lfu ES.setLf
  have hp : 0 < s.lf.countP (fun x => decide (x.st = 3)) := List.countP_pos_iff.2 ⟨s.lf[u], List.getElem_mem hu, by rw [← e]; exact decide_eq_true h3⟩
  show (s.lf.set u (f (s.lf.getD u Lf.z))).countP _ + 1 = _
  rw [List.countP_set hu, ← e]
  simp only [h3, decide_true, if_true, hf, decide_false]
  simp
  omega
theorem folS_cnt {s : ES} {u : Nat} (hu : u < s.lf.length) (h3 : s.stt u = 3) (st : Int) : cntW (folS s u st) + 1 = cntW s := by
  have h3' : (s.lf.getD u Lf.z).st = 3 := h3
  unfold folS
  split
  · exact cntW_set (s := s.setTk u _) hu h3 (by show (wakeL (s.lf.getD u Lf.z)).st ≠ 3; unfold wakeL goL; rw [if_pos h3']; dsimp only; decide)
  · split
    · exact cntW_set (s := s.setTk u _) hu h3 (by show (fallL (s.lf.getD u Lf.z)).st ≠ 3; unfold fallL; rw [if_pos (.inl h3')]; dsimp only; decide)
    · exact cntW_set (s := s.setTk u _) hu h3 (by show (turnL (s.lf.getD u Lf.z)).st ≠ 3; unfold turnL; rw [if_pos (by omega)]; dsimp only; decide)
theorem OvOk.fol {n m : Nat} {A Q : Int} {y : OS} (h : OvOk n m A Q y) {s' : ES} (hr : s'.rq = y.s.rq) : OvOk n m A Q { y with s := s' } :=
  ⟨by have := h.rq; unfold RqOk at *; show ∀ r, r < s'.rq.length → _; rw [hr]; exact this, by show s'.rq.length = m; rw [hr]; exact h.lm, h.ids, h.ao, h.me⟩
theorem inns_mem {es : Es} {a u : Int} : u ∈ inns es a ↔ (u, a) ∈ es := by
  unfold inns; rw [List.mem_map]
  constructor
  · rintro ⟨⟨p, q⟩, h, rfl⟩; rw [List.mem_filter] at h; have := h.2; simp at this; subst this; exact h.1
  · intro h; exact ⟨(u, a), List.mem_filter.2 ⟨h, by simp⟩, rfl⟩
def didS (s : ES) (ld : Led) (t : Nat) : ES := (s.addLg (noteV s ld 2 t)).lfu t endL
def ES.addRq (s : ES) (r : Rq) : ES := { s with rq := s.rq ++ [r] }
def EP.addRq (x : EP) (b : Option Addr) (c p : Nat) : EP := { x with m := x.m + 1, br := b, cr := c, rs := x.rs ++ [p] }
def OS.added (A Q : Int) (y : OS) (r : Rq) : OS := ⟨y.s.addRq r, y.ms, y.ta, addS A Q y.as ((y.s.rq.length : Nat) : Int)⟩
def subE (A Q : Int) (y : OS) : Int := if 64 ≤ y.s.rq.length then 4 else addEr A Q y.as ((y.s.rq.length : Nat) : Int)
def SubZ (A Q : Int) (y : OS) (r : Rq) (z : OS) : Prop :=
  (addV A Q y.as ((y.s.rq.length : Nat) : Int) = 1 ∧ Ov ((y.added A Q r).come y.s.rq.length) z ∧ z.calm) ∨ (addV A Q y.as ((y.s.rq.length : Nat) : Int) ≠ 1 ∧ z = y.added A Q r)
theorem EF.addRq {x : EP} {s : ES} (h : EF x s) {b : Option Addr} {c p : Nat} {r : Rq} (hm : x.m < 64) (ho : SlOk b (x.m + 1)) (hc : x.m + 1 ≤ c) : EF (x.addRq b c p) (s.addRq r) :=
  ⟨h.tn, h.ln, h.kn, h.an, by show (s.rq ++ [r]).length = x.m + 1; rw [List.length_append, h.mn]; rfl, by show (x.rs ++ [p]).length = x.m + 1; rw [List.length_append, h.rn]; rfl, h.oka, h.okt, ho, h.nb, by show x.m + 1 ≤ 64; omega, h.ca, h.ct, hc, h.lo, h.n0⟩
theorem addRq_get {s : ES} {r : Rq} (j : Nat) : (s.addRq r).rq.getD j Rq.z = if j = s.rq.length then r else s.rq.getD j Rq.z := by
  show (s.rq ++ [r]).getD j Rq.z = _
  by_cases e : j = s.rq.length
  · subst e; rw [if_pos rfl]; simp [List.getD]
  · rw [if_neg e]
    simp only [List.getD]
    by_cases h : j < s.rq.length
    · rw [List.getElem?_append_left h]
    · rw [List.getElem?_append_right (by omega), List.getElem?_eq_none (by simp; omega), List.getElem?_eq_none (by omega)]
theorem RqOk.addRq {n : Nat} {s : ES} (h : RqOk n s) {r : Rq} (hr : 0 ≤ r.root ∧ r.root < n ∧ 1 ≤ r.wt ∧ r.wt ≤ 100 ∧ 0 ≤ r.pr ∧ r.pr ≤ 7) : RqOk n (s.addRq r) := fun j hj => by
  have hl : (s.addRq r).rq.length = s.rq.length + 1 := by show (s.rq ++ [r]).length = _; rw [List.length_append]; rfl
  rw [addRq_get]; split
  · exact hr
  · exact h j (by omega)
theorem add_0 {A Q : Int} {s : AS} {x : Int} (h : addEr A Q s x = 0) : there s x = false ∧ ((addV A Q s x = 1 ∧ addS A Q s x = ⟨s.a ++ [x], s.q⟩) ∨ (addV A Q s x = 0 ∧ addS A Q s x = ⟨s.a, s.q ++ [x]⟩)) := by
  unfold addEr at h
  unfold addV addS
  cases ht : there s x with
  | true => rw [ht] at h; exact absurd h (by show ¬ (8 : Int) = 0; decide)
  | false =>
    refine ⟨rfl, ?_⟩
    rw [ht] at h; simp only [cond_false] at h ⊢
    cases ha : aFull A s with
    | false => left; exact ⟨rfl, rfl⟩
    | true =>
      rw [ha] at h; simp only [Bool.not_true, cond_false] at h ⊢
      cases hq : qFull Q s with
      | false => right; exact ⟨by first | rfl | trivial, rfl⟩
      | true => rw [hq] at h; exact absurd h (by decide)
theorem add_e {A Q : Int} {s : AS} {x : Int} (h : addEr A Q s x ≠ 0) : addS A Q s x = s := by
  unfold addEr at h; unfold addS
  cases ht : there s x with
  | true => rfl
  | false =>
    rw [ht] at h; simp only [cond_false] at h ⊢
    cases ha : aFull A s with
    | false => rw [ha] at h; exact absurd rfl h
    | true =>
      rw [ha] at h; simp only [Bool.not_true, cond_false] at h ⊢
      cases hq : qFull Q s with
      | false => rw [hq] at h; exact absurd rfl h
      | true => rfl
theorem OvOk.added0 {n m : Nat} {A Q : Int} {y : OS} (h : OvOk n m A Q y) {r : Rq} (hr : 0 ≤ r.root ∧ r.root < n ∧ 1 ≤ r.wt ∧ r.wt ≤ 100 ∧ 0 ≤ r.pr ∧ r.pr ≤ 7) (he : addEr A Q y.as ((y.s.rq.length : Nat) : Int) = 0) :
    RqOk n (y.added A Q r).s ∧ (y.added A Q r).s.rq.length = m + 1 ∧ (∀ i ∈ (y.added A Q r).as.a ++ (y.added A Q r).as.q, 0 ≤ i ∧ i < ((m + 1 : Nat) : Int)) ∧ AOk A Q (y.added A Q r).as := by
  have hl : (y.added A Q r).s.rq.length = m + 1 := by show (y.s.rq ++ [r]).length = _; rw [List.length_append, h.lm]; rfl
  refine ⟨h.rq.addRq hr, hl, fun i hi => ?_, h.ao.add _⟩
  have hk : ∀ i ∈ y.as.a ++ y.as.q, 0 ≤ i ∧ i < ((m + 1 : Nat) : Int) := fun i hi => by have := h.ids i hi; omega
  have hm := h.lm
  have hi' : i ∈ (addS A Q y.as ((y.s.rq.length : Nat) : Int)).a ++ (addS A Q y.as ((y.s.rq.length : Nat) : Int)).q := hi
  rcases (add_0 he).2 with ⟨_, e⟩ | ⟨_, e⟩
  · rw [e] at hi'; simp only [List.mem_append, List.mem_singleton] at hi'
    rcases hi' with (hi | hi) | hi
    · exact hk i (List.mem_append_left _ hi)
    · subst hi; omega
    · exact hk i (List.mem_append_right _ hi)
  · rw [e] at hi'; simp only [List.mem_append, List.mem_singleton] at hi'
    rcases hi' with hi | hi | hi
    · exact hk i (List.mem_append_left _ hi)
    · exact hk i (List.mem_append_right _ hi)
    · subst hi; omega
theorem OvOk.addedQ {n m : Nat} {A Q : Int} {y : OS} (h : OvOk n m A Q y) {r : Rq} (hr : 0 ≤ r.root ∧ r.root < n ∧ 1 ≤ r.wt ∧ r.wt ≤ 100 ∧ 0 ≤ r.pr ∧ r.pr ≤ 7) (he : addEr A Q y.as ((y.s.rq.length : Nat) : Int) = 0)
    (hv : addV A Q y.as ((y.s.rq.length : Nat) : Int) ≠ 1) : OvOk n (m + 1) A Q (y.added A Q r) := by
  obtain ⟨h1, h2, h3, h4⟩ := h.added0 hr he
  refine ⟨h1, h2, h3, h4, ?_⟩
  rcases (add_0 he).2 with ⟨e1, _⟩ | ⟨_, e⟩
  · exact absurd e1 hv
  · show y.ms.map (·.id) = (addS A Q y.as ((y.s.rq.length : Nat) : Int)).a; rw [e]; exact h.me
theorem OvOk.addedA {n m : Nat} {A Q : Int} {y : OS} (h : OvOk n m A Q y) {r : Rq} (hr : 0 ≤ r.root ∧ r.root < n ∧ 1 ≤ r.wt ∧ r.wt ≤ 100 ∧ 0 ≤ r.pr ∧ r.pr ≤ 7) (he : addEr A Q y.as ((y.s.rq.length : Nat) : Int) = 0)
    (hv : addV A Q y.as ((y.s.rq.length : Nat) : Int) = 1) : OvOk n (m + 1) A Q ((y.added A Q r).come y.s.rq.length) := by
  obtain ⟨h1, h2, h3, h4⟩ := h.added0 hr he
  have hm := h.lm
  refine ⟨h1.beg _, by show (begS _ _).rq.length = _; rw [begS_rq, setSt_len]; exact h2, h3, h4, ?_⟩
  rcases (add_0 he).2 with ⟨_, e⟩ | ⟨e1, _⟩
  · show (begM _ _ _).map (·.id) = (addS A Q y.as ((y.s.rq.length : Nat) : Int)).a
    rw [e]
    have hw := (h1.setSt y.s.rq.length 1) y.s.rq.length (by rw [setSt_len]; omega)
    have ht := (add_0 he).1
    unfold begM
    show (joinM y.ms _ _).map (·.id) = y.as.a ++ [((y.s.rq.length : Nat) : Int)]
    rw [joinM_ids ⟨hw.2.2.1, hw.2.2.2.1⟩ (by rw [h.me]; intro hh; have : there y.as ((y.s.rq.length : Nat) : Int) = true := there_iff.2 (List.mem_append_left _ hh); rw [ht] at this; cases this), h.me]
  · rw [e1] at hv; exact absurd hv (by decide)
def begun1 (s : ES) (t : Nat) : ES := ((s.lfu t startL).setTk t { (s.tk.getD t Tk.z) with sn := s.bg }).setBg (s.bg + 1)
def startS (s : ES) (ld : Led) (t : Nat) : ES := (begun1 s t).addLg (noteV (begun1 s t) (ld.take t (s.tk.getD t Tk.z).mem) 1 t)
def startK (s : ES) (ks : Ks) (t : Nat) : Ks := pushK (remK ks t) t (s.now + s.c.tmo)
theorem t_shutR {K : Act → World → Prop} {W : World} {N' : Nat} {E : List (Nat × Value)} {L : List HP} {e : Nat} {x : EP} {s : ES} {bl : Option Addr} {cl : Nat} {b : Option Addr} {c p : Nat} (r : Rq) (hE : EF x s) (hl : LgOk s bl cl) (hm : x.m < 64) (ho : SlOk b (x.m + 1)) (hc : x.m + 1 ≤ c)
    (kk : Tri K W N' E (EngC e (x.addRq b c p) (s.addRq r) :: L)) :
    Tri K W N' E (Blk e [.int .i64 s.c.bud, .int .i64 s.c.slots, .int .i64 s.c.act, .int .i64 s.c.que, .int .i64 s.c.tries, .int .i64 s.c.pre, .int .i64 s.c.tmo, .int .i64 s.c.bak, .int .i64 s.c.most, .int .i64 s.c.qu,
   .slice x.ba x.n x.ca, .slice x.bt x.n x.ct, .slice b (x.m + 1) c, .pointer (some ⟨x.g, 0, none⟩), .pointer (some ⟨x.tp, 0, none⟩), .pointer (some ⟨x.ld, 0, none⟩), .pointer (some ⟨x.ad, 0, none⟩), .pointer (some ⟨x.tn, 0, none⟩),
   .int .i64 s.now, .int .i64 s.bg, .slice bl s.lg.length cl] 73 :: SlV 57 2 (.slice x.ba x.n x.ca) x.n (pairs s.al) :: SlV 64 1 (.slice x.bt x.n x.ct) x.n (recs ptrF (x.ks.map Prod.fst)) ::
   SlV 79 1 (.slice b (x.m + 1) c) (x.m + 1) (recs ptrF (x.rs ++ [p])) :: SlV 45 5 (.slice bl s.lg.length cl) s.lg.length (recs evC s.lg) ::
   Join (blks TTk Prod.fst tkC x.ks s.tk) :: Join (blks TLf Prod.snd (fun _ => lfC) x.ks s.lf) :: Blk p (rqC r) TRq :: Join (blks TRq id (fun _ => rqC) x.rs s.rq) :: L) := by
  have h2 := t_shutC (e := e) (L := L) (b := bl) (c := cl) (hE.addRq (b := b) (c := c) (p := p) (r := r) hm ho hc) ⟨hl.ok, hl.le⟩ kk
  refine t_f7 (t_f8 (t_perm (List.Perm.swap _ _ _) ?_))
  refine t_addB (pk := id) (F := fun _ => rqC) p r (by rw [hE.rn, hE.mn]) rfl rfl ?_
  exact t_perm (perm_front [_, _, _, _, _, _, _] _).symm h2
theorem getD_snoc {o : List Int} {a : Int} {i : Nat} (h : i < o.length) : (o ++ [a]).getD i 0 = o.getD i 0 := by
  simp only [List.getD]; rw [List.getElem?_append_left h]
theorem leaveM_len (ms : List M3) (r : Int) : (leaveM ms r).length ≤ ms.length := by
  have := congrArg List.length (leaveM_ids ms r); rw [List.length_map] at this
  rw [this]; have h := (List.erase_sublist (a := r) (l := ms.map (·.id))).length_le; rwa [List.length_map] at h
theorem calm_succ {z : OS} {k : Nat} (h : ∀ j, j < k → z.s.stt (z.s.rt (z.as.a.getD j 0).toNat) < 5) (hk : z.s.stt (z.s.rt (z.as.a.getD k 0).toNat) < 5) : ∀ j, j < k + 1 → z.s.stt (z.s.rt (z.as.a.getD j 0).toNat) < 5 := fun j hj => by
  rcases Nat.lt_succ_iff_lt_or_eq.1 hj with h1 | h1
  · exact h j h1
  · subst h1; exact hk
theorem calm_all {z : OS} {k : Nat} (hk : z.as.a.length ≤ k) (h : ∀ j, j < k → z.s.stt (z.s.rt (z.as.a.getD j 0).toNat) < 5) : z.calm := fun r hr => by
  obtain ⟨j, hj, e⟩ := List.getElem_of_mem hr
  have := h j (by omega)
  have e2 : z.as.a.getD j 0 = r := by simp [List.getD, hj, e]
  rwa [e2] at this
end Go.Proofs.YtanfdikglplkaaaGreatDoor.Sp
