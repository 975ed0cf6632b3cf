/- Parts Edn, Dsp, Mth, Nw, Yrd, Ctf: own lemmas and contracts of the code that the claim reaches. -/
import Derived.Test.YtanfdikglplkaaaGreatDoorM09
import Derived.Test.YtanfdikglplkaaaGreatDoorM10
import Derived.Test.YtanfdikglplkaaaGreatDoorM02
set_option linter.unusedSimpArgs false
set_option linter.unusedVariables false
namespace Go.Proofs.YtanfdikglplkaaaGreatDoor.Sp
open Go
structure Sm (s s' : ES) : Prop where
  c : s'.c = s.c
  al : s'.al = s.al
  tk : s'.tk = s.tk
  now : s'.now = s.now
  bg : s'.bg = s.bg
  lg : s'.lg = s.lg
  len : s'.lf.length = s.lf.length
  ep : ∀ t, (s'.lf.getD t Lf.z).ep = (s.lf.getD t Lf.z).ep
  dn : ∀ t, s'.stt t = 5 ↔ s.stt t = 5
theorem Sm.refl (s : ES) : Sm s s := ⟨rfl, rfl, rfl, rfl, rfl, rfl, rfl, fun _ => rfl, fun _ => .rfl⟩
theorem Sm.trans {a b c : ES} (h : Sm a b) (k : Sm b c) : Sm a c := ⟨k.c.trans h.c, k.al.trans h.al, k.tk.trans h.tk, k.now.trans h.now, k.bg.trans h.bg, k.lg.trans h.lg, k.len.trans h.len, fun t => (k.ep t).trans (h.ep t), fun t => (k.dn t).trans (h.dn t)⟩
theorem Sm.setSt (s : ES) (r : Nat) (v : Int) : Sm s (s.setSt r v) := ⟨rfl, rfl, rfl, rfl, rfl, rfl, rfl, fun _ => rfl, fun _ => .rfl⟩
theorem Sm.addRq (s : ES) (r : Rq) : Sm s (s.addRq r) := ⟨rfl, rfl, rfl, rfl, rfl, rfl, rfl, fun _ => rfl, fun _ => .rfl⟩
theorem lfu_get {s : ES} {t : Nat} {f : Lf → Lf} (ht : t < s.lf.length) (u : Nat) : ((s.lfu t f).lf.getD u Lf.z) = if u = t then f (s.lf.getD t Lf.z) else s.lf.getD u Lf.z := lf_set ht u
theorem Sm.want {s : ES} {t : Nat} (ht : t < s.lf.length) (h0 : s.stt t = 0) : Sm s (s.lfu t wantF) := by
  have hw : wantF (s.lf.getD t Lf.z) = { s.lf.getD t Lf.z with st := 1 } := by unfold wantF goL; exact if_pos h0
  refine ⟨rfl, rfl, rfl, rfl, rfl, rfl, by show (s.lf.set _ _).length = _; rw [List.length_set], fun u => ?_, fun u => ?_⟩
  · rw [lfu_get ht]; split
    · rename_i e; subst e; rw [hw]
    · rfl
  · unfold ES.stt at *; rw [lfu_get ht]; split
    · rename_i e; subst e; rw [hw, h0]; exact ⟨fun h => absurd (show (1 : Int) = 5 from h) (by decide), fun h => absurd h (by decide)⟩
    · exact .rfl
theorem Sm.beg {s : ES} {r : Nat} (ht : s.rt r < s.lf.length) : Sm s (begS s r) := by
  have e : (s.setSt r 1).rt r = s.rt r := by unfold ES.rt; rw [setSt_root]
  unfold begS; rw [e]; split
  · exact (Sm.setSt s r 1).trans (Sm.want ht ‹_›)
  · exact Sm.setSt s r 1
structure DQ (n m : Nat) (W : Nat → Prop) (s : ES) (ac ids : List Int) : Prop where
  ln : s.lf.length = n
  lm : s.rq.length = m
  rr : ∀ r, r < m → s.rt r < n
  st : ∀ t, t < n → s.stt t = 0 ∨ s.stt t = 1 ∨ s.stt t = 5
  wa : ∀ t, t < n → s.stt t ≠ 0 → W t
  ac : ∀ r ∈ ac, s.stt (s.rt r.toNat) ≠ 0
  ou : ∀ r : Nat, r < m → (r : Int) ∉ ids → (s.rq.getD r Rq.z).st = 2 ∧ s.stt (s.rt r) = 5
  ro : ∀ t, W t ↔ ∃ r, r < m ∧ s.rt r = t
section
variable {n m : Nat} {W : Nat → Prop} {s : ES} {ac ids : List Int}
theorem stt_beg (h : DQ n m W s ac ids) {k : Nat} (hk : k < m) (u : Nat) : (begS s k).stt u = if u = s.rt k ∧ s.stt u = 0 then 1 else s.stt u := by
  have e : (s.setSt k 1).rt k = s.rt k := by unfold ES.rt; rw [setSt_root]
  have hl : s.rt k < (s.setSt k 1).lf.length := by show _ < s.lf.length; rw [h.ln]; exact h.rr k hk
  have e2 : ∀ u, (s.setSt k 1).stt u = s.stt u := fun _ => rfl
  unfold begS; rw [e, e2]
  by_cases h0 : s.stt (s.rt k) = 0
  · rw [if_pos h0]
    show (((s.setSt k 1).lfu (s.rt k) wantF).lf.getD u Lf.z).st = _
    rw [lfu_get hl]
    by_cases hu : u = s.rt k
    · rw [if_pos hu, if_pos ⟨hu, by rw [hu]; exact h0⟩]
      show (wantF (s.lf.getD (s.rt k) Lf.z)).st = 1
      unfold wantF goL; rw [if_pos (show (s.lf.getD (s.rt k) Lf.z).st = 0 from h0)]
    · rw [if_neg hu, if_neg (fun hh => hu hh.1)]; rfl
  · rw [if_neg h0, if_neg (fun hh => h0 (by rw [← hh.1]; exact hh.2))]; rfl
theorem rt_beg (s : ES) (k r : Nat) : (begS s k).rt r = s.rt r := by unfold ES.rt; rw [begS_rq, setSt_root]
theorem DQ.beg (h : DQ n m W s ac ids) {k : Nat} (hk : k < m) (hi : (k : Int) ∈ ids) : DQ n m W (begS s k) (ac ++ [(k : Int)]) ids := by
  have hst := stt_beg h hk
  have hrk := h.rr k hk
  refine ⟨(Sm.beg (by rw [h.ln]; exact hrk)).len.trans h.ln, by rw [begS_rq, setSt_len]; exact h.lm, fun r hr => by rw [rt_beg]; exact h.rr r hr, fun t ht => ?_, fun t ht hne => ?_, fun r hr => ?_, fun r hr hn => ?_, fun t => ?_⟩
  · rw [hst]; split
    · exact .inr (.inl rfl)
    · exact h.st t ht
  · rw [hst] at hne
    by_cases hc : t = s.rt k ∧ s.stt t = 0
    · exact (h.ro t).2 ⟨k, hk, hc.1.symm⟩
    · rw [if_neg hc] at hne; exact h.wa t ht hne
  · rw [rt_beg, hst]; split
    · decide
    · rename_i hc
      rcases List.mem_append.1 hr with h1 | h1
      · exact h.ac r h1
      · simp at h1; subst h1
        intro h0; exact hc ⟨by simp, h0⟩
  · obtain ⟨h1, h2⟩ := h.ou r hr hn
    rw [begS_rq, setSt_get, if_neg (fun hh => hn (by rw [hh.1]; exact hi)), rt_beg, hst, if_neg (fun hh => by rw [h2] at hh; exact absurd hh.2 (by decide))]
    exact ⟨h1, h2⟩
  · rw [h.ro]; simp only [rt_beg]
theorem DQ.left (h : DQ n m W s ac ids) {r : Nat} (hr : r < m) (h5 : s.stt (s.rt r) = 5) {ac' ids' : List Int} (ha : ∀ i ∈ ac', i ∈ ac) (hi : ∀ i ∈ ids, i ∉ ids' → i = (r : Int)) : DQ n m W (s.setSt r 2) ac' ids' := by
  have hrt : ∀ u, (s.setSt r 2).rt u = s.rt u := fun u => by unfold ES.rt; rw [setSt_root]
  refine ⟨h.ln, by rw [setSt_len]; exact h.lm, fun u hu => by rw [hrt]; exact h.rr u hu, h.st, h.wa, fun i hi' => by rw [hrt]; exact h.ac i (ha i hi'), fun u hu hn => ?_, fun t => by rw [h.ro]; simp only [hrt]⟩
  rw [hrt, setSt_get]
  by_cases e : u = r
  · rw [if_pos ⟨e, by rw [h.lm]; exact hr⟩]; subst e; exact ⟨rfl, h5⟩
  · rw [if_neg (fun hh => e hh.1)]
    refine h.ou u hu fun hin => ?_
    have := hi _ hin hn; omega
theorem DQ.add (h : DQ n m W s ac ids) (hac : ∀ i ∈ ac, 0 ≤ i ∧ i < m) {r : Rq} (hr : 0 ≤ r.root ∧ r.root < n) {ids' : List Int} (hi : ∀ i ∈ ids, i ∈ ids') (hm : (m : Int) ∈ ids') : DQ n (m + 1) (fun t => W t ∨ t = r.root.toNat) (s.addRq r) ac ids' := by
  have hrt : ∀ u, (s.addRq r).rt u = if u = m then r.root.toNat else s.rt u := fun u => by
    unfold ES.rt; rw [addRq_get, h.lm]; split <;> rfl
  have hl : (s.addRq r).rq.length = m + 1 := by show (s.rq ++ [r]).length = _; rw [List.length_append, h.lm]; rfl
  refine ⟨h.ln, hl, fun u hu => ?_, h.st, fun t ht hne => .inl (h.wa t ht hne), fun i hi' => ?_, fun u hu hn => ?_, fun t => ?_⟩
  · rw [hrt]; split
    · omega
    · exact h.rr u (by omega)
  · have := hac i hi'
    rw [hrt, if_neg (by omega)]; exact h.ac i hi'
  · have e : u ≠ m := fun e => hn (by rw [e]; exact hm)
    rw [hrt, if_neg e, addRq_get, h.lm, if_neg e]
    exact h.ou u (by omega) fun hh => hn (hi _ hh)
  · rw [h.ro]
    constructor
    · rintro (⟨u, hu, e⟩ | e)
      · exact ⟨u, by omega, by rw [hrt, if_neg (by omega)]; exact e⟩
      · exact ⟨m, by omega, by rw [hrt, if_pos rfl]; exact e.symm⟩
    · rintro ⟨u, hu, e⟩
      rw [hrt] at e
      by_cases hm' : u = m
      · rw [if_pos hm'] at e; exact .inr e.symm
      · rw [if_neg hm'] at e; exact .inl ⟨u, by omega, e⟩
end
structure DR (n m : Nat) (A Q : Int) (W : Nat → Prop) (y : OS) : Prop where
  ov : OvOk n m A Q y
  dq : DQ n m W y.s y.as.a (y.as.a ++ y.as.q)
  ne : y.as.a = [] → y.as.q = []
section
variable {n m : Nat} {A Q : Int} {W : Nat → Prop} {y : OS}
theorem DR.leaves (h : DR n m A Q W y) {r : Int} (hr : r ∈ y.as.a) (hf : 5 ≤ y.s.stt (y.s.rt r.toNat)) : DR n m A Q W (y.leaves r (verd (y.s.stt (y.s.rt r.toNat)))) ∧ Sm y.s (y.leaves r (verd (y.s.stt (y.s.rt r.toNat)))).s := by
  have hb := h.ov.ids r (List.mem_append_left _ hr)
  obtain ⟨k0, rfl⟩ : ∃ k : Nat, r = (k : Int) := ⟨r.toNat, by omega⟩
  rw [Int.toNat_natCast] at hf ⊢
  have hk0 : k0 < m := by omega
  have h5 : y.s.stt (y.s.rt k0) = 5 := by have := h.dq.st _ (h.dq.rr k0 hk0); omega
  rw [h5]; show DR n m A Q W (y.leaves k0 2) ∧ Sm y.s (y.leaves k0 2).s
  have hov := h.ov.leaves (List.mem_append_left _ hr) 2
  have hend := end_a h.ov.ao.nodup hr
  have hnd := h.ov.ao.nodup
  have key : DQ n m W (y.leaves k0 2).s (y.leaves k0 2).as.a ((y.leaves k0 2).as.a ++ (y.leaves k0 2).as.q) ∧ ((y.leaves k0 2).as.a = [] → (y.leaves k0 2).as.q = []) ∧ Sm y.s (y.leaves k0 2).s := by
    rcases hend with ⟨he, ⟨hq, hv, hs⟩ | ⟨k, q, hq, hv, hs⟩⟩
    · have e : y.leaves k0 2 = y.left k0 2 := by unfold OS.leaves; rw [if_neg (by omega)]
      rw [e]
      have e2 : (y.left k0 2).as = ⟨y.as.a.erase (k0 : Int), []⟩ := hs
      rw [e2]
      refine ⟨?_, fun _ => rfl, Sm.setSt _ _ _⟩
      show DQ n m W (y.s.setSt ((k0 : Int).toNat) 2) (y.as.a.erase (k0 : Int)) (y.as.a.erase (k0 : Int) ++ [])
      rw [Int.toNat_natCast]
      refine h.dq.left hk0 h5 (fun i hi => List.mem_of_mem_erase hi) fun i hi hn => ?_
      rw [hq] at hi; simp at hi hn
      rcases Classical.em (i = (k0 : Int)) with e | e
      · exact e
      · exact absurd ((List.mem_erase_of_ne e).2 hi) hn
    · have hkq : k ∈ y.as.q := by rw [hq]; exact .head _
      have hkb := h.ov.ids k (List.mem_append_right _ hkq)
      obtain ⟨k1, rfl⟩ : ∃ j : Nat, k = (j : Int) := ⟨k.toNat, by omega⟩
      have e : y.leaves k0 2 = (y.left k0 2).come k1 := by unfold OS.leaves; rw [if_pos ⟨he, by omega⟩, hv, Int.toNat_natCast]
      rw [e]
      have e2 : ((y.left k0 2).come k1).as = ⟨y.as.a.erase (k0 : Int) ++ [(k1 : Int)], q⟩ := hs
      rw [e2]
      have e3 : ((y.left k0 2).come k1).s = begS (y.s.setSt k0 2) k1 := by show begS (y.s.setSt ((k0 : Int).toNat) 2) k1 = _; rw [Int.toNat_natCast]
      rw [e3]
      have d1 : DQ n m W (y.s.setSt k0 2) (y.as.a.erase (k0 : Int)) (y.as.a.erase (k0 : Int) ++ [(k1 : Int)] ++ q) := by
        refine h.dq.left hk0 h5 (fun i hi => List.mem_of_mem_erase hi) fun i hi hn => ?_
        rw [hq] at hi; simp at hi hn
        rcases Classical.em (i = (k0 : Int)) with e | e
        · exact e
        · rcases hi with h1 | h1 | h1
          · exact absurd ((List.mem_erase_of_ne e).2 h1) hn.1
          · exact absurd h1 hn.2.1
          · exact absurd h1 hn.2.2
      have hk1 : k1 < m := by omega
      have hin : (k1 : Int) ∈ y.as.a.erase (k0 : Int) ++ [(k1 : Int)] ++ q := by simp
      refine ⟨d1.beg hk1 hin, fun hh => by simp at hh, (Sm.setSt y.s k0 2).trans (Sm.beg ?_)⟩
      rw [d1.ln]; exact d1.rr k1 hk1
  exact ⟨⟨hov, key.1, key.2.1⟩, key.2.2⟩
theorem DR.ov' (h : DR n m A Q W y) {z : OS} (hz : Ov y z) : DR n m A Q W z ∧ Sm y.s z.s := by
  induction hz with
  | refl => exact ⟨h, .refl _⟩
  | step r _ hr hf ih => obtain ⟨h1, h2⟩ := ih; obtain ⟨h3, h4⟩ := h1.leaves hr hf; exact ⟨h3, h2.trans h4⟩
theorem DR.sub (h : DR n m A Q W y) (hA : 1 ≤ A) {r : Rq} (hr : 0 ≤ r.root ∧ r.root < n ∧ 1 ≤ r.wt ∧ r.wt ≤ 100 ∧ 0 ≤ r.pr ∧ r.pr ≤ 7) (he : subE A Q y = 0) {z : OS} (hz : SubZ A Q y r z) (hc : y.calm) :
    DR n (m + 1) A Q (fun t => W t ∨ t = r.root.toNat) z ∧ Sm y.s z.s ∧ z.calm := by
  have hlm := h.ov.lm
  have he' : addEr A Q y.as ((y.s.rq.length : Nat) : Int) = 0 := (by
    unfold subE at he; by_cases h64 : 64 ≤ y.s.rq.length
    · rw [if_pos h64] at he; exact absurd he (by decide)
    · rwa [if_neg h64] at he)
  have hac : ∀ i ∈ y.as.a, 0 ≤ i ∧ i < (m : Int) := fun i hi => h.ov.ids i (List.mem_append_left _ hi)
  rcases hz with ⟨hv, hov, hcz⟩ | ⟨hv, rfl⟩
  · have h1 := h.ov.addedA hr he' hv
    obtain ⟨_, e⟩ := (add_0 he').2.resolve_right fun hh => by rw [hh.1] at hv; exact absurd hv (by decide)
    have eas : ((y.added A Q r).come y.s.rq.length).as = ⟨y.as.a ++ [(m : Int)], y.as.q⟩ := by show addS A Q y.as _ = _; rw [e, hlm]
    have d0 : DQ n (m + 1) (fun t => W t ∨ t = r.root.toNat) (y.s.addRq r) y.as.a (y.as.a ++ [(m : Int)] ++ y.as.q) := by
      refine h.dq.add hac ⟨hr.1, hr.2.1⟩ (fun i hi => ?_) (by simp)
      simp at hi ⊢; rcases hi with hi | hi
      · exact .inl hi
      · exact .inr (.inr hi)
    have hd : DR n (m + 1) A Q (fun t => W t ∨ t = r.root.toNat) ((y.added A Q r).come y.s.rq.length) := by
      refine ⟨h1, ?_, fun hh => by rw [eas] at hh; simp at hh⟩
      rw [eas]
      show DQ n (m + 1) _ (begS (y.s.addRq r) y.s.rq.length) (y.as.a ++ [(m : Int)]) _
      rw [hlm]
      exact d0.beg (by omega) (by simp)
    obtain ⟨h2, h3⟩ := hd.ov' hov
    refine ⟨h2, Sm.trans ?_ h3, hcz⟩
    show Sm y.s (begS (y.s.addRq r) y.s.rq.length)
    refine (Sm.addRq y.s r).trans (Sm.beg ?_)
    rw [hlm, d0.ln]; exact d0.rr m (by omega)
  · have h1 := h.ov.addedQ hr he' hv
    obtain ⟨e0, e⟩ := (add_0 he').2.resolve_left fun hh => hv hh.1
    have eas : (y.added A Q r).as = ⟨y.as.a, y.as.q ++ [(m : Int)]⟩ := by show addS A Q y.as _ = _; rw [e, hlm]
    have hne : y.as.a ≠ [] := fun ha => by
      have : aFull A y.as = false := by unfold aFull; rw [ha]; simp; omega
      unfold addV at e0; rw [(add_0 he').1, this] at e0; exact absurd e0 (by decide)
    refine ⟨⟨h1, ?_, fun hh => by rw [eas] at hh; exact absurd hh hne⟩, Sm.addRq _ _, fun i hi => ?_⟩
    · rw [eas]
      refine h.dq.add hac ⟨hr.1, hr.2.1⟩ (fun i hi => ?_) (by simp)
      simp at hi ⊢; rcases hi with hi | hi
      · exact .inl hi
      · exact .inr (.inl hi)
    · rw [eas] at hi
      have hb := hac i hi
      have : (y.added A Q r).s.rt i.toNat = y.s.rt i.toNat := by show ((y.s.addRq r).rq.getD _ _).root.toNat = _; rw [addRq_get, hlm, if_neg (by omega)]; rfl
      rw [this]; exact hc i hi
theorem DR.done (h : DR n m A Q W y) {t : Nat} (ht : t < n) (h1 : y.s.stt t = 1) {s' : ES} (hrq : s'.rq = y.s.rq) (hl : s'.lf.length = n) (hs : ∀ u, s'.stt u = if u = t then 5 else y.s.stt u) : DR n m A Q W { y with s := s' } := by
  have hrt : ∀ r, s'.rt r = y.s.rt r := fun r => by unfold ES.rt; rw [hrq]
  refine ⟨h.ov.fol hrq, ⟨hl, by rw [hrq]; exact h.dq.lm, fun r hr => by rw [hrt]; exact h.dq.rr r hr, fun u hu => ?_, fun u hu hne => ?_, fun r hr => ?_, fun r hr hn => ?_, fun u => ?_⟩, h.ne⟩
  · show s'.stt u = 0 ∨ s'.stt u = 1 ∨ s'.stt u = 5
    rw [hs]; split
    · exact .inr (.inr rfl)
    · exact h.dq.st u hu
  · have hne' : s'.stt u ≠ 0 := hne
    rw [hs] at hne'
    by_cases e : u = t
    · subst e; exact h.dq.wa u hu (by rw [h1]; decide)
    · rw [if_neg e] at hne'; exact h.dq.wa u hu hne'
  · show s'.stt (s'.rt r.toNat) ≠ 0
    rw [hrt, hs]; split
    · decide
    · exact h.dq.ac r hr
  · show (s'.rq.getD r Rq.z).st = 2 ∧ s'.stt (s'.rt r) = 5
    have := h.dq.ou r hr hn
    rw [hrq, hrt, hs]; refine ⟨this.1, ?_⟩; split
    · rfl
    · exact this.2
  · rw [h.dq.ro]; show _ ↔ ∃ r, r < m ∧ s'.rt r = u
    simp only [hrt]
theorem DR.none (h : DR n m A Q W y) (ha : y.as.a = []) : (∀ t, t < n → (y.s.stt t = 5 ↔ W t)) ∧ ∀ r, r < m → (y.s.rq.getD r Rq.z).st = 2 := by
  have hq := h.ne ha
  have ho : ∀ r : Nat, r < m → (y.s.rq.getD r Rq.z).st = 2 ∧ y.s.stt (y.s.rt r) = 5 := fun r hr => h.dq.ou r hr (by rw [ha, hq]; simp)
  refine ⟨fun t ht => ⟨fun h5 => h.dq.wa t ht (by rw [h5]; decide), fun hw => ?_⟩, fun r hr => (ho r hr).1⟩
  obtain ⟨r, hr, e⟩ := (h.dq.ro t).1 hw
  rw [← e]; exact (ho r hr).2
theorem DR.root1 (h : DR n m A Q W y) (hc : y.calm) {r : Int} (hr : r ∈ y.as.a) : y.s.rt r.toNat < n ∧ y.s.stt (y.s.rt r.toNat) = 1 := by
  have hb := h.ov.ids r (List.mem_append_left _ hr)
  have h1 := h.dq.rr r.toNat (by omega)
  refine ⟨h1, ?_⟩
  have := h.dq.st _ h1; have := h.dq.ac r hr; have := hc r hr; omega
end
end Go.Proofs.YtanfdikglplkaaaGreatDoor.Sp
namespace Go.Proofs.YtanfdikglplkaaaGreatDoor.Sp
open Go
def actF (s : ES) (r : Int) : R3 := ⟨(s.rq.getD r.toNat Rq.z).root, (s.rq.getD r.toNat Rq.z).wt, (s.rq.getD r.toNat Rq.z).pr⟩
def actR (s : ES) (ids : List Int) : List R3 := ids.map (actF s)
def rootsL (s : ES) (ids : List Int) : List Int := ids.map fun r => (s.rq.getD r.toNat Rq.z).root
theorem act_len (s : ES) (ids : List Int) : (actR s ids).length = ids.length := by unfold actR; rw [List.length_map]
theorem roots_len (s : ES) (ids : List Int) : (rootsL s ids).length = ids.length := by unfold rootsL; rw [List.length_map]
theorem act_snoc (s : ES) {ids : List Int} {k : Nat} (h : k < ids.length) : (actR s ids).take k ++ [actF s (ids.getD k 0)] = (actR s ids).take (k + 1) := by
  unfold actR; rw [List.take_add_one, List.getElem?_map]; simp [List.getD, h]
theorem roots_snoc (s : ES) {ids : List Int} {k : Nat} (h : k < ids.length) : (rootsL s ids).take k ++ [(s.rq.getD (ids.getD k 0).toNat Rq.z).root] = (rootsL s ids).take (k + 1) := by
  unfold rootsL; rw [List.take_add_one, List.getElem?_map]; simp [List.getD, h]
theorem reach_nil {N : Nat} {a b : Int} : reachB N [] a b = true ↔ (0 ≤ a ∧ a < N) ∧ a = b := by
  unfold reachB
  rw [Bool.and_eq_true, Bool.and_eq_true, valid_iff, valid_iff, rch_iff]
  constructor
  · rintro ⟨⟨h1, _⟩, h⟩
    refine ⟨h1, ?_⟩
    cases h with
    | refl => rfl
    | step _ hh => cases hh
  · rintro ⟨h1, rfl⟩; exact ⟨⟨h1, h1⟩, .refl⟩
theorem prioX_none {N : Nat} {E : Es} {x : Int} : ∀ (rs : List R3), (∀ r ∈ rs, reachB N E r.x x = false) → prioX N E rs x = -1 := by
  intro rs h
  unfold prioX
  suffices ∀ (rs : List R3) (m : Int), (∀ r ∈ rs, reachB N E r.x x = false) → rs.foldl (fun m r => if reachB N E r.x x = true then max m r.z else m) m = m from this rs _ h
  intro rs
  induction rs with
  | nil => intro m _; rfl
  | cons r rs ih => intro m h; rw [List.foldl_cons, if_neg (by rw [h r (.head _)]; decide)]; exact ih m fun q hq => h q (.tail _ hq)
theorem idxF_ex {p : Int → Bool} {xs : List Int} {x : Int} (hx : x ∈ xs) (hp : p x = true) : idxF p xs ≥ 0 := by
  have h1 := (idxF_lt p xs).2
  by_cases h : idxF p xs = -1
  · have := idxF_noneI h x hx; rw [hp] at this; cases this
  · omega
theorem wantN_all {n N : Nat} {E : Es} {es : List (Int × Int)} {ts ids rs : List Int} : ∀ k, ∀ i, i < (wantN n N E es ts ids rs k).1.length → (wantN n N E es ts ids rs k).1.length = (wantN n N E es ts ids rs k).2.length ∧
    ∃ j, j < k ∧ ((wantN n N E es ts ids rs k).1.getD i (0, 0)).1 = ids.getD j 0 ∧ (wantN n N E es ts ids rs k).2.getD i 0 ∈ ts ∧ ((wantN n N E es ts ids rs k).1.getD i (0, 0)).2 = (es.getD ((wantN n N E es ts ids rs k).2.getD i 0).toNat (0, 0)).2 := by
  intro k
  induction k with
  | zero => intro i hi; simp [wantN] at hi
  | succ k ih =>
    obtain ⟨ps, qs, hb⟩ : ∃ ps qs, wantN n N E es ts ids rs k = (ps, qs) := ⟨_, _, rfl⟩
    rw [hb] at ih
    have hlen := (wantN_len n N E es ts ids rs k).1
    rw [hb] at hlen
    by_cases hj : wantJ n N E ts (rs.getD k 0) ≥ 0
    · rw [want_add hb hj]
      intro i hi
      dsimp only at hlen ih hi ⊢
      refine ⟨by simp [hlen], ?_⟩
      by_cases e : i < ps.length
      · obtain ⟨_, j, h1, h2, h3, h4⟩ := ih i e
        refine ⟨j, by omega, ?_⟩
        rw [show (ps ++ [(ids.getD k 0, (es.getD (ts.getD (wantJ n N E ts (rs.getD k 0)).toNat 0).toNat (0, 0)).2)]).getD i (0, 0) = ps.getD i (0, 0) from by simp only [List.getD]; rw [List.getElem?_append_left e], show (qs ++ [ts.getD (wantJ n N E ts (rs.getD k 0)).toNat 0]).getD i 0 = qs.getD i 0 from by simp only [List.getD]; rw [List.getElem?_append_left (by omega)]]
        exact ⟨h2, h3, h4⟩
      · have e2 : i = ps.length := by simp at hi; omega
        have hlt := wantJ_lt n N E ts (rs.getD k 0)
        refine ⟨k, by omega, ?_⟩
        rw [show (ps ++ [(ids.getD k 0, (es.getD (ts.getD (wantJ n N E ts (rs.getD k 0)).toNat 0).toNat (0, 0)).2)]).getD i (0, 0) = (ids.getD k 0, (es.getD (ts.getD (wantJ n N E ts (rs.getD k 0)).toNat 0).toNat (0, 0)).2) from by subst e2; simp [List.getD], show (qs ++ [ts.getD (wantJ n N E ts (rs.getD k 0)).toNat 0]).getD i 0 = ts.getD (wantJ n N E ts (rs.getD k 0)).toNat 0 from by rw [e2, hlen]; simp [List.getD]]
        exact ⟨rfl, getD_mem (by omega), rfl⟩
    · rw [want_no hb hj]
      intro i hi
      obtain ⟨h0, j, h1, h2⟩ := ih i hi
      exact ⟨h0, j, by omega, h2⟩
theorem wantN_ex {n N : Nat} {E : Es} {es : List (Int × Int)} {ts ids rs : List Int} {i k : Nat} (hi : i < k) (hj : wantJ n N E ts (rs.getD i 0) ≥ 0) : 0 < (wantN n N E es ts ids rs k).1.length := by
  induction k with
  | zero => omega
  | succ k ih =>
    obtain ⟨ps, qs, hb⟩ : ∃ ps qs, wantN n N E es ts ids rs k = (ps, qs) := ⟨_, _, rfl⟩
    by_cases hk : wantJ n N E ts (rs.getD k 0) ≥ 0
    · rw [want_add hb hk]; simp
    · rw [want_no hb hk]
      have e : i ≠ k := fun e => hk (by rw [← e]; exact hj)
      have := ih (by omega); rw [hb] at this; exact this
theorem setC_ids {ms : List M3} {i : Nat} {c : Int} (hi : i < ms.length) : (setC ms i c).map (·.id) = ms.map (·.id) := by
  refine ids_same (setC_len _ _ _) fun j hj => ?_
  rw [setC_get hi]; split
  · rename_i e; subst e; rfl
  · rfl
theorem step_ids {q : Int} {cs : List Int} {ms : List M3} {a : Nat} (ha : a < ms.length) : (stepT q cs (ms, a)).1.map (·.id) = ms.map (·.id) := by
  have hz : (zeroT cs ms a).map (·.id) = ms.map (·.id) := (by
    unfold zeroT; split
    · exact setC_ids ha
    · rfl)
  have hn : nxt a ms.length < (zeroT cs ms a).length := by rw [zeroT_len]; exact nxt_lt ha
  show (gainT q cs (zeroT cs ms a) (nxt a ms.length)).map (·.id) = _
  unfold gainT; split
  · rw [setC_ids hn, hz]
  · exact hz
theorem take_ids {q : Int} {cs : List Int} {ms tm : List M3} {a ta : Nat} (ha : a < ms.length) (h : TakeR q cs (ms, a) (tm, ta)) : tm.map (·.id) = ms.map (·.id) ∧ ta < tm.length ∧ 0 < cs.getD ta 0 := by
  have := h.inv (I := fun s => s.1.map (·.id) = ms.map (·.id) ∧ s.2 < s.1.length) ⟨rfl, ha⟩ fun s hs _ => ?_
  · exact ⟨this.1.1, this.1.2, (rdyT_true.1 this.2).1⟩
  · obtain ⟨ms1, a1⟩ := s
    refine ⟨(step_ids hs.2).trans hs.1, ?_⟩
    rw [stepT_len]; exact nxt_lt hs.2
theorem costOf_ex {l : List (Int × Int)} {id : Int} (h : 0 < costOf l id) : ∃ k, k < l.length ∧ (l.getD k (0, 0)).1 = id := by
  unfold costOf at h
  split at h
  · rename_i e he
    have h1 := List.find?_some he
    have h2 := List.mem_of_find?_eq_some he
    obtain ⟨k, hk, e2⟩ := List.getElem_of_mem h2
    refine ⟨k, hk, ?_⟩
    simp only [Bool.and_eq_true, beq_iff_eq] at h1
    rw [show l.getD k (0, 0) = e from by simp [List.getD, hk, e2]]; exact h1.1
  · omega
theorem costOf_pos {l : List (Int × Int)} {k : Nat} (hk : k < l.length) (hc : ∀ j, j < l.length → 1 ≤ (l.getD j (0, 0)).2 ∧ (l.getD j (0, 0)).2 ≤ 1048576) : 0 < costOf l (l.getD k (0, 0)).1 := by
  unfold costOf
  split
  · rename_i e he
    have h1 := List.find?_some he
    simp only [Bool.and_eq_true, okCost, decide_eq_true_eq] at h1
    omega
  · rename_i he
    have hm : l.getD k (0, 0) ∈ l := by simp [List.getD, hk]
    have := List.find?_eq_none.1 he _ hm
    have h2 := hc k hk
    refine absurd ?_ this
    rw [Bool.and_eq_true]; exact ⟨beq_self_eq_true _, decide_eq_true h2⟩
theorem idxN_ex {p : Nat → Bool} {n k : Nat} (hk : k < n) (hp : p k = true) : ∃ j : Nat, idxN p n = (j : Int) ∧ j < n ∧ p j = true := by
  rcases idxN_rng p n with h | ⟨h1, h2, h3⟩
  · unfold idxN at h
    split at h
    · omega
    · rename_i hn
      have := List.find?_eq_none.1 hn k (List.mem_range.2 hk)
      exact absurd hp (by simpa using this)
  · exact ⟨(idxN p n).toNat, by omega, by omega, h3⟩
structure DispI (n : Nat) (s : ES) (ids : List Int) (room : Int) (ms : List M3) (ta : Nat) (p : Int) (ts : List Int) (ps : List (Int × Int)) (qs : List Int) : Prop where
  hb : bestN (s.lf.map (·.st)) (ofL n [] (actR s ids)) n = (p, ts)
  hw : wantN n n [] s.al ts ids (rootsL s ids) ids.length = (ps, qs)
  tl : ts.length ≤ n
  tn : ts ≠ []
  ft : ts.filter (fitB n s.al room) = ts
  pl : ps.length = qs.length
  ql : qs.length ≤ ids.length
  any : anyPos (costsL ms ps) = true
  tk : ∀ q tm tb, TakeR q (costsL ms ps) (ms, ta) (tm, tb) → tm.map (·.id) = ms.map (·.id) ∧ tb < tm.length ∧ ∃ (k t : Nat), k < ps.length ∧ idxN (fun k => decide ((ps.getD k (0, 0)).1 = (tm.getD tb M3.z).id)) ps.length = (k : Int) ∧ qs.getD k 0 = (t : Int) ∧ t < n ∧ s.stt t = 1
theorem disp_facts {n m : Nat} {A Q : Int} {W : Nat → Prop} {y : OS} (h : DR n m A Q W y) (hc : y.calm) (ha : y.as.a ≠ []) {room : Int} (hta : y.ta < y.ms.length)
    (hm : ∀ t, t < n → (y.s.al.getD t (0, 0)).1 ≤ room ∧ 1 ≤ (y.s.al.getD t (0, 0)).2 ∧ (y.s.al.getD t (0, 0)).2 ≤ 1048576) :
    ∃ p ts ps qs, DispI n y.s y.as.a room y.ms y.ta p ts ps qs := by
  have hB := best_inv (y.s.lf.map (·.st)) (ofL n [] (actR y.s y.as.a)) n
  obtain ⟨p, ts, hpt⟩ : ∃ p ts, bestN (y.s.lf.map (·.st)) (ofL n [] (actR y.s y.as.a)) n = (p, ts) := ⟨_, _, rfl⟩
  obtain ⟨ps, qs, hpq⟩ : ∃ ps qs, wantN n n [] y.s.al ts y.as.a (rootsL y.s y.as.a) y.as.a.length = (ps, qs) := ⟨_, _, rfl⟩
  have hlen := bestN_len (y.s.lf.map (·.st)) (ofL n [] (actR y.s y.as.a)) n
  rw [hpt] at hB hlen
  dsimp only at hB hlen
  have hstt : ∀ t, t < n → (y.s.lf.map (·.st)).getD t 0 = y.s.stt t := fun t ht => by
    have := h.dq.ln; unfold ES.stt; simp [List.getD, show t < y.s.lf.length by omega]
  -- who is active
  have hact : ∀ r ∈ y.as.a, ∃ t0 : Nat, t0 < n ∧ (y.s.rq.getD r.toNat Rq.z).root = (t0 : Int) ∧ y.s.stt t0 = 1 ∧ 0 ≤ (y.s.rq.getD r.toNat Rq.z).pr := fun r hr => by
    have hb := h.ov.ids r (List.mem_append_left _ hr)
    obtain ⟨h1, h2⟩ := h.root1 hc hr
    have h3 := h.ov.rq r.toNat (by rw [h.ov.lm]; omega)
    exact ⟨y.s.rt r.toNat, h1, by unfold ES.rt; omega, h2, h3.2.2.2.2.1⟩
  have hpr : ∀ r ∈ y.as.a, ∀ t0 : Nat, t0 < n → (y.s.rq.getD r.toNat Rq.z).root = (t0 : Int) → (y.s.rq.getD r.toNat Rq.z).pr ≤ (ofL n [] (actR y.s y.as.a)).getD t0 0 := fun r hr t0 h0 e => by
    rw [ofL_get h0]
    exact prioX_ge (r := actF y.s r) (List.mem_map.2 ⟨r, hr, rfl⟩) (reach_nil.2 ⟨⟨by show 0 ≤ (y.s.rq.getD r.toNat Rq.z).root; omega, by show (y.s.rq.getD r.toNat Rq.z).root < (n : Int); omega⟩, e⟩)
  obtain ⟨r0, hr0⟩ := List.exists_mem_of_ne_nil _ ha
  obtain ⟨t0, h1, h2, h3, h4⟩ := hact r0 hr0
  have h5 := hpr r0 hr0 t0 h1 h2
  have hmay : mayB (y.s.lf.map (·.st)) (ofL n [] (actR y.s y.as.a)) t0 := ⟨by rw [hstt t0 h1]; exact h3, by omega⟩
  have hp0 : 0 ≤ p := by have := hB.top t0 h1 hmay; omega
  have htn : ts ≠ [] := fun e => by have := hB.ne e; omega
  have hmem : ∀ x ∈ ts, ∃ t : Nat, x = (t : Int) ∧ t < n ∧ y.s.stt t = 1 ∧ ∃ r ∈ y.as.a, (y.s.rq.getD r.toNat Rq.z).root = (t : Int) := fun x hx => by
    obtain ⟨t, e, ht, hmt, hpe⟩ := (hB.mem x).1 hx
    refine ⟨t, e, ht, by rw [← hstt t ht]; exact hmt.1, ?_⟩
    apply Classical.byContradiction
    intro hno
    have : prioX n [] (actR y.s y.as.a) (t : Int) = -1 := prioX_none _ fun r hr => by
      rw [Bool.eq_false_iff]; intro hre
      obtain ⟨r', hr', e'⟩ := List.mem_map.1 hr
      subst e'
      exact hno ⟨r', hr', (reach_nil.1 hre).2⟩
    have h0 := hmt.2
    rw [ofL_get ht, this] at h0
    omega
  have hft : ts.filter (fitB n y.s.al room) = ts := by
    rw [List.filter_eq_self]
    intro x hx
    obtain ⟨t, rfl, ht, _⟩ := hmem x hx
    exact fit_t (by omega) (by omega) (by rw [Int.toNat_natCast]; exact (hm t ht).1)
  have hwl := wantN_len n n [] y.s.al ts y.as.a (rootsL y.s y.as.a) y.as.a.length
  have hwa := wantN_all (n := n) (N := n) (E := []) (es := y.s.al) (ts := ts) (ids := y.as.a) (rs := rootsL y.s y.as.a) y.as.a.length
  rw [hpq] at hwl hwa
  dsimp only at hwl hwa
  have hps : 0 < ps.length := by
    obtain ⟨x, hx⟩ := List.exists_mem_of_ne_nil _ htn
    obtain ⟨t, e, ht, _, r, hr, hroot⟩ := hmem x hx
    obtain ⟨i, hi, e2⟩ := List.getElem_of_mem hr
    have : 0 < (wantN n n [] y.s.al ts y.as.a (rootsL y.s y.as.a) y.as.a.length).1.length := by
      refine wantN_ex hi ?_
      rw [show (rootsL y.s y.as.a).getD i 0 = (t : Int) from by unfold rootsL; simp [List.getD, hi, e2]; simpa [List.getD] using hroot]
      refine idxF_ex hx ?_
      rw [e, Bool.and_eq_true, reach_nil]
      exact ⟨by unfold thB; simp; omega, by omega, rfl⟩
    rw [hpq] at this; exact this
  have hcost : ∀ j, j < ps.length → 1 ≤ (ps.getD j (0, 0)).2 ∧ (ps.getD j (0, 0)).2 ≤ 1048576 := fun j hj => by
    obtain ⟨_, i, hi, e1, e2, e3⟩ := hwa j hj
    obtain ⟨t, e, ht, _⟩ := hmem _ e2
    rw [e3, e, Int.toNat_natCast]; exact (hm t ht).2
  refine ⟨p, ts, ps, qs, hpt, hpq, hlen, htn, hft, hwl.1, hwl.2, ?_, fun q tm tb hT => ?_⟩
  · obtain ⟨_, i, hi, e1, _⟩ := hwa 0 hps
    have hin : (ps.getD 0 (0, 0)).1 ∈ y.ms.map (·.id) := by rw [h.ov.me, e1]; exact getD_mem hi
    obtain ⟨mm, hmm, e⟩ := List.mem_map.1 hin
    obtain ⟨j, hj, e2⟩ := List.getElem_of_mem hmm
    refine anyPos_iff.2 ⟨j, by rw [costsL_len]; exact hj, ?_⟩
    rw [costsL_get hj, show y.ms.getD j M3.z = mm from by simp [List.getD, hj, e2], e]
    exact costOf_pos hps hcost
  · obtain ⟨h6, h7, h8⟩ := take_ids hta hT
    refine ⟨h6, h7, ?_⟩
    have hl : tm.length = y.ms.length := by have := congrArg List.length h6; rwa [List.length_map, List.length_map] at this
    have hid : (tm.getD tb M3.z).id = (y.ms.getD tb M3.z).id := by
      have := congrArg (fun l : List Int => l.getD tb 0) h6
      simpa [List.getD, h7, show tb < y.ms.length by omega] using this
    rw [costsL_get (by omega), ← hid] at h8
    obtain ⟨k0, hk0, e0⟩ := costOf_ex h8
    obtain ⟨k, h9, h10, h11⟩ := idxN_ex (p := fun k => decide ((ps.getD k (0, 0)).1 = (tm.getD tb M3.z).id)) hk0 (decide_eq_true e0)
    obtain ⟨_, i, hi, e1, e2, e3⟩ := hwa k h10
    obtain ⟨t, e, ht, hs1, _⟩ := hmem _ e2
    exact ⟨k, t, h10, h9, e, ht, hs1⟩
theorem best_nil (s : ES) (N : Nat) : (bestN (s.lf.map (·.st)) (ofL N [] (actR s [])) N).2 = [] := by
  have hB := best_inv (s.lf.map (·.st)) (ofL N [] (actR s [])) N
  apply Classical.byContradiction
  intro h
  obtain ⟨x, hx⟩ := List.exists_mem_of_ne_nil _ h
  obtain ⟨t, _, ht, hm, _⟩ := (hB.mem x).1 hx
  have := hm.2
  rw [show actR s [] = [] from rfl, of_none ht] at this; omega
end Go.Proofs.YtanfdikglplkaaaGreatDoor.Sp
namespace Go.Proofs.YtanfdikglplkaaaGreatDoor.Sp
open Go
section
variable {P : Program} {E : List (Nat × Value)} {L : List HP} {ty t t' : TypeId} {x y : Operand}
theorem run_equal_fn {P : Program} {w : World} {t : TypeId} {ps rs : Array TypeId} {v : Bool} {f : Fn} {a b : Array Value} (hu : P.underlying t = some (.func ps rs v)) : (Op.equal t (.func f a b) .nilFunc).run P w = .ok false w := by
  show (Op.equalIn 10000 t (.func f a b) .nilFunc).run P w = _
  unfold Op.equalIn; simp [run_underlying hu]
theorem lv_eqfn {ps rs : Array TypeId} {v : Bool} {f : Fn} {a b : Array Value} (hu : P.underlying t = some (.func ps rs v)) (hx : ev E x = some (.func f a b)) (hy : ev E y = some .nilFunc) : LV P E L (.binOp .eql t x y t') ty (.bool false) := by
  intro ρ h w _ d pos af g
  simp [execOp, h x _ hx, h y _ hy, eqGuard, binOp, run_equal_fn hu]
theorem en_mval {f : FuncId} {y : Operand} {xs : List Operand} {vs first : List Value} {ts : Array TypeId} (hc : ∀ args w, (callFunc f args).run P w = .ok (.enter f args) w) (hy : ev E y = some (.func (.func f) first.toArray #[]))
    (hx : evs E xs = some vs) : EnterV P E (.call { callee := .value y, args := xs.toArray, argTypes := ts }) ty f (first ++ vs) := by
  intro ρ h w d pos af g
  simp [execOp, resolve, h.evs hx, h y _ hy, Deferred.ofValue, invoke, hc]
end
end Go.Proofs.YtanfdikglplkaaaGreatDoor.Sp
namespace Go.Proofs.YtanfdikglplkaaaGreatDoor.Sp
open Go
def newTk (p : Int × Int) : Tk := ⟨p.1, p.2, -1, 0, .slice none 0 0⟩
def newLf (c : Cfg) : Lf := ⟨0, 0, 0, 0, max c.tries 1, max c.pre 0⟩
def newS (c : Cfg) (al : List (Int × Int)) : ES := ⟨c, al, al.map newTk, List.replicate al.length (newLf c), [], 0, 0, []⟩
theorem newTk_snoc {al : List (Int × Int)} {k : Nat} (h : k < al.length) : (al.map newTk).take k ++ [newTk (al.getD k (0, 0))] = (al.map newTk).take (k + 1) := by
  rw [List.take_add_one, List.getElem?_map]; simp [List.getD, h]
theorem newLf_snoc (c : Cfg) (k : Nat) : List.replicate k (newLf c) ++ [newLf c] = List.replicate (k + 1) (newLf c) := by rw [List.replicate_succ']
theorem getD_rep {c : Lf} {n i : Nat} (h : i < n) : (List.replicate n c).getD i Lf.z = c := by simp [List.getD, h]
theorem ef_new {c : Cfg} {al : List (Int × Int)} {g tp ld ad tn n ca ct : Nat} {ba bt : Option Addr} {ks : List (Nat × Nat)} (hc : CfgOk c) (hl : al.length = n) (hn : n ≤ 64) (hk : ks.length = n) (oka : SlOk ba n) (la : n ≤ ca) (okt : SlOk bt n) (lt : n ≤ ct) :
    EF ⟨g, tp, ld, ad, tn, n, 0, ba, ca, bt, ct, none, 0, ks, []⟩ (newS c al) :=
  ⟨by show (al.map newTk).length = n; rw [List.length_map]; exact hl, by show (List.replicate al.length (newLf c)).length = n; rw [List.length_replicate]; exact hl, hk, hl, rfl, rfl, oka, okt, slok_none, hn, Nat.zero_le 64, la, lt, Nat.le_refl _,
    fun i hi => by
      have h1 := hc.tries; have h2 := hc.pre
      show LfOk ((List.replicate al.length (newLf c)).getD i Lf.z)
      rw [getD_rep (by rw [hl]; exact hi)]
      exact ⟨Int.le_refl _, by show (0 : Int) ≤ 7; decide, Int.le_refl _, Int.le_refl _, by show (0 : Int) ≤ max c.tries 1; omega, fun _ => by show (0 : Int) < max c.tries 1; omega, Int.le_refl _, by show (0 : Int) ≤ max c.pre 0; omega, by show 1 ≤ max c.tries 1; omega, by show max c.tries 1 ≤ 1048576; omega, by show max c.pre 0 ≤ 1048576; omega⟩,
    by show (0 : Int) ≤ 0 ∧ (0 : Int) ≤ 1099511627776; decide⟩
theorem t_shutNw {K : Act → World → Prop} {W : World} {N' : Nat} {E : List (Nat × Value)} {L : List HP} {e : Nat} {c : Cfg} {al : List (Int × Int)} {g tp ld ad tn n ca ct : Nat} {ba bt : Option Addr} {ks : List (Nat × Nat)} (hc : CfgOk c) (hl : al.length = n) (hn : n ≤ 64) (hk : ks.length = n) (oka : SlOk ba n) (la : n ≤ ca) (okt : SlOk bt n) (lt : n ≤ ct)
    (kk : Tri K W N' E (EngC e ⟨g, tp, ld, ad, tn, n, 0, ba, ca, bt, ct, none, 0, ks, []⟩ (newS c al) :: L)) :
    Tri K W N' E (Blk e [.int .i64 c.bud, .int .i64 c.slots, .int .i64 c.act, .int .i64 c.que, .int .i64 c.tries, .int .i64 c.pre, .int .i64 c.tmo, .int .i64 c.bak, .int .i64 c.most, .int .i64 c.qu,
   .slice ba n ca, .slice bt n ct, .slice none 0 0, .pointer (some ⟨g, 0, none⟩), .pointer (some ⟨tp, 0, none⟩), .pointer (some ⟨ld, 0, none⟩), .pointer (some ⟨ad, 0, none⟩), .pointer (some ⟨tn, 0, none⟩),
   .int .i64 0, .int .i64 0, .slice none 0 0] 73 :: SlV 57 2 (.slice ba n ca) n (pairs al) :: SlV 64 1 (.slice bt n ct) n (recs ptrF (ks.map Prod.fst)) ::
   Join (blks TTk Prod.fst tkC ks (al.map newTk)) :: Join (blks TLf Prod.snd (fun _ => lfC) ks (List.replicate n (newLf c))) :: L) := by
  have h2 := t_shutC (e := e) (L := L) (b := none) (c := 0) (ef_new (g := g) (tp := tp) (ld := ld) (ad := ad) (tn := tn) hc hl hn hk oka la okt lt) ⟨slok_none, Nat.le_refl _⟩ kk
  refine t_sat (fun _ h => sat_nilsl 45 5 h) ?_
  refine t_sat (fun _ h => sat_nilsl 79 1 h) ?_
  refine t_noB TRq id (fun _ => rqC) ?_
  subst hl
  refine t_f7 (t_f7 (t_f4 (t_f4 (t_f7 (t_f7 (t_f7 ?_))))))
  exact h2
end Go.Proofs.YtanfdikglplkaaaGreatDoor.Sp
namespace Go.Proofs.YtanfdikglplkaaaGreatDoor.Sp
open Go
def cntB (p : Nat → Bool) : Nat → Nat
  | 0 => 0
  | k + 1 => cntB p k + (if p k = true then 1 else 0)
theorem cntB_congr {p p' : Nat → Bool} : ∀ {n : Nat}, (∀ t, t < n → p t = p' t) → cntB p n = cntB p' n
  | 0, _ => rfl
  | n + 1, h => by show cntB p n + _ = cntB p' n + _; rw [cntB_congr (fun t ht => h t (by omega)), h n (by omega)]
theorem cntB_le (p : Nat → Bool) : ∀ n, cntB p n ≤ n
  | 0 => Nat.le_refl _
  | n + 1 => by have := cntB_le p n; show cntB p n + _ ≤ n + 1; split <;> omega
theorem cntB_add {p p' : Nat → Bool} {t : Nat} (h0 : p t = false) (h1 : p' t = true) (hu : ∀ u, u ≠ t → p' u = p u) : ∀ {n : Nat}, t < n → cntB p' n = cntB p n + 1
  | 0, h => by omega
  | n + 1, h => by
    show cntB p' n + _ = cntB p n + _ + 1
    by_cases e : t = n
    · subst e
      rw [cntB_congr (p := p') (p' := p) (fun u hu' => hu u (by omega)), h0, h1]; simp
    · rw [cntB_add h0 h1 hu (by omega), hu n (fun h => e h.symm)]; omega
def ld0 (c : Cfg) : Led := ⟨max c.bud 0, (min (max c.slots 0) 16).toNat, List.replicate 16 Pl.z, 0⟩
theorem rep_pl (i : Nat) : (List.replicate 16 Pl.z).getD i Pl.z = Pl.z := by
  rw [List.getD_eq_getElem?_getD, List.getElem?_replicate]; split <;> rfl
theorem ld0_get (c : Cfg) (i : Nat) : (ld0 c).ps.getD i Pl.z = Pl.z := rep_pl i
section
variable {c : Cfg} {t : Nat} {mem : Int} (hs : 1 ≤ c.slots ∧ c.slots ≤ 16) (hb : 0 ≤ mem ∧ mem ≤ c.bud)
include hs in
theorem ld0_many : 0 < (ld0 c).many ∧ (ld0 c).many ≤ 16 := by show 0 < (min (max c.slots 0) 16).toNat ∧ (min (max c.slots 0) 16).toNat ≤ 16; omega
theorem ld0_slot (id : Int) : (ld0 c).slot id = -1 := by
  unfold Led.slot
  refine idxN_none fun j hj => ?_
  rw [ld0_get]; rfl
include hs in
theorem ld0_free : (ld0 c).free = 0 := by
  have h := ld0_many hs
  unfold Led.free
  rw [idxN_at (k := 0) h.1 (by rw [ld0_get]; rfl) (fun j hj => by omega)]; rfl
include hs in
theorem ld0_cnt : 0 < (ld0 c).cnt (ld0 c).many := by
  have h := ld0_many hs
  have key : ∀ k, (ld0 c).cnt k = k := by
    intro k
    induction k with
    | zero => rfl
    | succ k ih =>
      show _ = k + 1
      unfold Led.cnt
      rw [ih, ld0_get]; rfl
  rw [key]; exact h.1
include hs hb in
theorem ld0_takeE : (ld0 c).takeE (t : Int) mem = 0 := by
  unfold Led.takeE
  have h1 := ld0_slot (c := c) (t : Int)
  have h2 := ld0_free hs
  have h3 : (ld0 c).bud = max c.bud 0 := rfl
  have h4 : (ld0 c).used = 0 := rfl
  rw [if_neg (by omega), if_neg (by omega), if_neg (by omega), if_neg (by omega)]
include hs hb in
theorem ld0_takeV : (ld0 c).takeV (t : Int) mem = 0 := by unfold Led.takeV; rw [if_pos (ld0_takeE hs hb)]; exact ld0_free hs
include hs hb in
theorem ld0_take : (ld0 c).take (t : Int) mem = (ld0 c).put 0 ⟨true, t, mem⟩ mem := by
  unfold Led.take; rw [if_pos (ld0_takeE hs hb), ld0_free hs]
  show (ld0 c).put 0 ⟨true, t, mem⟩ (0 + mem) = _
  rw [Int.zero_add]
theorem put_get (x : Pl) (u : Int) (j : Nat) : ((ld0 c).put 0 x u).ps.getD j Pl.z = if j = 0 then x else Pl.z := by
  show ((List.replicate 16 Pl.z).set 0 x).getD j Pl.z = _
  rw [pl_set (by simp), rep_pl]
include hs in
theorem ld1_at : ((ld0 c).put 0 ⟨true, t, mem⟩ mem).atB 0 = true ∧ ((ld0 c).put 0 ⟨true, t, mem⟩ mem).atI 0 = (t : Int) := by
  have h := ld0_many hs
  have hm : ((ld0 c).put 0 ⟨true, t, mem⟩ mem).many = (ld0 c).many := rfl
  constructor
  · unfold Led.atB; rw [hm, decide_eq_true (show (0 : Int) ≤ 0 ∧ (0 : Int) < ((ld0 c).many : Int) by omega), Bool.true_and, show (0 : Int).toNat = 0 from rfl, put_get]; rfl
  · unfold Led.atI; rw [hm, if_pos (show (0 : Int) ≤ 0 ∧ (0 : Int) < ((ld0 c).many : Int) by omega), show (0 : Int).toNat = 0 from rfl, put_get]; rfl
include hs in
theorem ld1_drop : ((ld0 c).put 0 ⟨true, t, mem⟩ mem).drop (t : Int) = ld0 c := by
  have h := ld0_many hs
  have hsl : ((ld0 c).put 0 ⟨true, t, mem⟩ mem).slot (t : Int) = 0 := by
    exact idxN_at (p := fun k => (((ld0 c).put 0 ⟨true, t, mem⟩ mem).ps.getD k Pl.z).h && decide ((((ld0 c).put 0 ⟨true, t, mem⟩ mem).ps.getD k Pl.z).id = (t : Int))) (n := (ld0 c).many) (k := 0) h.1 (by rw [put_get, if_pos rfl]; simp) (fun j hj => by omega)
  unfold Led.drop
  rw [hsl, if_neg (by decide), show (0 : Int).toNat = 0 from rfl, put_get]
  show (⟨(ld0 c).bud, (ld0 c).many, (((List.replicate 16 Pl.z).set 0 ⟨true, (t : Int), mem⟩).set 0 Pl.z), mem - mem⟩ : Led) = ld0 c
  rw [Int.sub_self]; rfl
end
structure Sml (c : Cfg) (al : List (Int × Int)) : Prop where
  cf : CfgOk c
  n0 : 1 ≤ al.length
  n : al.length ≤ 8
  ts : ∀ i, i < al.length → (1 ≤ (al.getD i (0, 0)).1 ∧ (al.getD i (0, 0)).1 ≤ c.bud) ∧ 1 ≤ (al.getD i (0, 0)).2 ∧ (al.getD i (0, 0)).2 ≤ 1048576
  a4 : c.act ≤ 400
  q4 : c.que ≤ 400
structure YT where
  x : EP
  y : OS
  ld : Led
  ks : Ks
  hp : Nat
  n : Nat
  q : Int
  A : Int
  Q : Int
def yardL (e : Nat) (T : YT) : List HP := [EngC e T.x T.y.s, LedO T.x.ld T.ld, Blk T.x.tp [.pointer (some ⟨T.hp, 0, none⟩)] 132, HeapO T.hp T.n T.ks, GraphO T.x.g T.x.n [], TurnsO T.x.tn T.q T.y.ms T.y.ta, AdmO T.x.ad T.A T.Q T.y.as]
def YardO (e : Nat) (T : YT) : HP := Join (yardL e T)
structure YI where
  T : YT
  a : Int
  b : Int
  c : Int
  d : Int
  e : Int
  f : Int
abbrev yi0 : YI := ⟨⟨⟨0, 0, 0, 0, 0, 0, 0, none, 0, none, 0, none, 0, [], []⟩, ⟨⟨⟨0, 0, 0, 0, 0, 0, 0, 0, 0, 0⟩, [], [], [], [], 0, 0, []⟩, [], 0, ⟨[], []⟩⟩, ⟨0, 0, [], 0⟩, [], 0, 0, 0, 0, 0⟩, 0, 0, 0, 0, 0, 0⟩
def YI.v (i : YI) : Value := .tuple #[.agg #[.int .i64 i.a, .int .i64 i.b, .int .i64 i.c, .int .i64 i.d, .int .i64 i.e], .int .i64 i.f]
def ES.n5 (s : ES) (n : Nat) : Nat := cntB (fun t => decide (s.stt t = 5)) n
structure YRest (c : Cfg) (al : List (Int × Int)) (m : Nat) (W : Nat → Prop) (i : Nat) (T : YT) : Prop where
  dr : DR al.length m T.A T.Q W T.y
  cm : T.y.calm
  xn : T.x.n = al.length
  xm : T.x.m = m
  a1 : 1 ≤ T.A
  a4 : T.A ≤ 400
  q4 : T.Q ≤ 400
  ec : T.y.s.c = c
  ea : T.y.s.al = al
  tk : ∀ t, t < al.length → (T.y.s.tk.getD t Tk.z).mem = (al.getD t (0, 0)).1
  ld : T.ld = ld0 c
  bg : 0 ≤ T.y.s.bg ∧ T.y.s.bg ≤ i
  lg : T.y.s.lg.length ≤ 2 * i
  ep : ∀ t, t < al.length → (T.y.s.lf.getD t Lf.z).ep ≤ i
  cnt : T.y.s.n5 al.length = i
def YT.went (T : YT) (t : Nat) (ms : List M3) (ta : Nat) : YT := { T with y := ⟨startS T.y.s T.ld t, ms, ta, T.y.as⟩, ld := T.ld.take t (T.y.s.tk.getD t Tk.z).mem, ks := startK T.y.s T.ks t }
def YMid (c : Cfg) (al : List (Int × Int)) (m : Nat) (W : Nat → Prop) (i : Nat) (T : YT) (sl ep : Int) : Prop :=
  ∃ (T0 : YT) (t : Nat) (ms : List M3) (ta : Nat), YRest c al m W i T0 ∧ t < al.length ∧ T0.y.s.stt t = 1 ∧ ms.map (·.id) = T0.y.ms.map (·.id) ∧ T = T0.went t ms ta ∧ sl = T0.ld.takeV t (T0.y.s.tk.getD t Tk.z).mem ∧ ep = ((startS T0.y.s T0.ld t).lf.getD t Lf.z).ep
section
variable {c : Cfg} {al : List (Int × Int)} {m i : Nat} {W : Nat → Prop} {T : YT}
theorem YRest.i8 (h : YRest c al m W i T) : i ≤ al.length := by rw [← h.cnt]; exact cntB_le _ _
theorem YRest.congr (h : YRest c al m W i T) {W' : Nat → Prop} (hw : ∀ t, W t ↔ W' t) : YRest c al m W' i T := by
  have e : W = W' := funext fun t => propext (hw t)
  rw [← e]; exact h
theorem n5_sm {s s' : ES} (h : Sm s s') (n : Nat) : s'.n5 n = s.n5 n := cntB_congr fun t _ => by rw [decide_eq_decide]; exact h.dn t
theorem rest_new (hS : Sml c al) {x : EP} {hp n : Nat} {ks : Ks} (hn : x.n = al.length) (hm : x.m = 0) :
    YRest c al 0 (fun _ => False) 0 ⟨x, ⟨newS c al, [], 0, ⟨[], []⟩⟩, ld0 c, ks, hp, n, qOf c.qu, max c.act 1, max c.que 0⟩ := by
  have hst : ∀ t, (newS c al).stt t = 0 := fun t => by
    show ((List.replicate al.length (newLf c)).getD t Lf.z).st = 0
    rcases Nat.lt_or_ge t al.length with h | h
    · rw [getD_rep h]; rfl
    · rw [show (List.replicate al.length (newLf c)).getD t Lf.z = Lf.z from by simp [List.getD, List.getElem?_eq_none, h]]
  have h4 := hS.a4; have h5 := hS.q4
  refine ⟨⟨⟨fun r hr => absurd hr (Nat.not_lt_zero _), rfl, fun i hi => (by cases hi), AOk.new _ _, rfl⟩, ⟨List.length_replicate, rfl, fun r hr => by omega, fun t _ => .inl (hst t), fun t _ hne => absurd (hst t) hne, fun r hr => (by cases hr), fun r hr => by omega, fun t => ⟨fun h => h.elim, fun ⟨r, hr, _⟩ => by omega⟩⟩, fun _ => rfl⟩, fun r hr => (by cases hr), hn, hm, by show 1 ≤ max c.act 1; omega, by show max c.act 1 ≤ 400; omega, by show max c.que 0 ≤ 400; omega, rfl, rfl, fun t ht => ?_, rfl, by show (0 : Int) ≤ 0 ∧ (0 : Int) ≤ ((0 : Nat) : Int); omega, Nat.le_refl _, fun t ht => ?_, ?_⟩
  · show ((al.map newTk).getD t Tk.z).mem = _; simp [List.getD, ht, newTk]
  · show ((List.replicate al.length (newLf c)).getD t Lf.z).ep ≤ _; rw [getD_rep ht]; show (0 : Int) ≤ ((0 : Nat) : Int); omega
  · have key : ∀ n, (newS c al).n5 n = 0 := fun n => by
      induction n with
      | zero => rfl
      | succ n ih => show cntB _ n + _ = 0; rw [show cntB _ n = 0 from ih, if_neg (by simp [hst])]
    exact key _
theorem YRest.disp (hS : Sml c al) (h : YRest c al m W i T) (ha : T.y.as.a ≠ []) (hta : T.y.ta < T.y.ms.length) :
    ∃ p ts ps qs, DispI T.x.n T.y.s T.y.as.a (T.ld.bud - T.ld.used) T.y.ms T.y.ta p ts ps qs := by
  rw [h.xn]
  refine disp_facts h.dr h.cm ha hta fun t ht => ?_
  rw [h.ea, h.ld]
  have := hS.ts t ht
  have e : (ld0 c).bud - (ld0 c).used = max c.bud 0 - 0 := rfl
  omega
theorem YRest.mem (hS : Sml c al) (h : YRest c al m W i T) {t : Nat} (ht : t < al.length) : 0 ≤ (T.y.s.tk.getD t Tk.z).mem ∧ (T.y.s.tk.getD t Tk.z).mem ≤ c.bud := by
  rw [h.tk t ht]; have := hS.ts t ht; omega
theorem start_lf {s : ES} {ld : Led} {t : Nat} (ht : t < s.lf.length) (u : Nat) : (startS s ld t).lf.getD u Lf.z = if u = t then startL (s.lf.getD t Lf.z) else s.lf.getD u Lf.z := lf_set ht u
theorem did_lf {s : ES} {ld ld' : Led} {t : Nat} (ht : t < s.lf.length) (h1 : s.stt t = 1) (u : Nat) :
    (didS (startS s ld t) ld' t).lf.getD u Lf.z = if u = t then { s.lf.getD t Lf.z with st := 5, ep := (s.lf.getD t Lf.z).ep + 1 } else s.lf.getD u Lf.z := by
  have hl : t < (startS s ld t).lf.length := by show t < (s.lf.set t _).length; rw [List.length_set]; exact ht
  have h2 : (didS (startS s ld t) ld' t).lf.getD u Lf.z = if u = t then endL ((startS s ld t).lf.getD t Lf.z) else (startS s ld t).lf.getD u Lf.z := lf_set hl u
  rw [h2]
  by_cases e : u = t
  · rw [if_pos e, if_pos e, start_lf ht, if_pos rfl]
    have h1' : (s.lf.getD t Lf.z).st = 1 := h1
    unfold startL; rw [if_pos h1']; unfold endL goL; rw [if_pos rfl]
  · rw [if_neg e, if_neg e, start_lf ht, if_neg e]
theorem DR.turn {n : Nat} {A Q : Int} {y : OS} (h : DR n m A Q W y) {ms : List M3} {ta : Nat} (hm : ms.map (·.id) = y.ms.map (·.id)) : DR n m A Q W { y with ms := ms, ta := ta } :=
  ⟨⟨h.ov.rq, h.ov.lm, h.ov.ids, h.ov.ao, hm.trans h.ov.me⟩, h.dq, h.ne⟩
theorem YMid.done (hS : Sml c al) {T0 : YT} (h : YRest c al m W i T0) {t : Nat} (ht : t < al.length) (h1 : T0.y.s.stt t = 1) {ms : List M3} (hm : ms.map (·.id) = T0.y.ms.map (·.id)) {ta : Nat} {ld' : Led} {z : OS}
    (hz : Ov ⟨didS (startS T0.y.s T0.ld t) ld' t, ms, ta, T0.y.as⟩ z) (hc : z.calm) {ks : Ks} : YRest c al m W (i + 1) { T0 with y := z, ks := ks } := by
  have hl : t < T0.y.s.lf.length := by rw [h.dr.dq.ln]; exact ht
  have hlf := did_lf (s := T0.y.s) (ld := T0.ld) (ld' := ld') hl h1
  have hd := (h.dr.turn (ta := ta) hm).done (s' := didS (startS T0.y.s T0.ld t) ld' t) ht h1 rfl (by show ((T0.y.s.lf.set t _).set t _).length = _; rw [List.length_set, List.length_set]; exact h.dr.dq.ln) fun u => by
    show ((didS (startS T0.y.s T0.ld t) ld' t).lf.getD u Lf.z).st = _
    rw [hlf]; split <;> rfl
  obtain ⟨hd2, hs⟩ := hd.ov' hz
  have hep : ∀ u, (z.s.lf.getD u Lf.z).ep = ((didS (startS T0.y.s T0.ld t) ld' t).lf.getD u Lf.z).ep := hs.ep
  have hbg : z.s.bg = T0.y.s.bg + 1 := hs.bg
  have hlg : z.s.lg.length = T0.y.s.lg.length + 2 := by rw [hs.lg]; show ((T0.y.s.lg ++ [_]) ++ [_]).length = _; simp
  have b := h.bg; have l := h.lg
  refine ⟨hd2, hc, h.xn, h.xm, h.a1, h.a4, h.q4, hs.c.trans h.ec, hs.al.trans h.ea, fun u hu => ?_, h.ld, by show 0 ≤ z.s.bg ∧ z.s.bg ≤ ((i + 1 : Nat) : Int); omega, by show z.s.lg.length ≤ _; omega, fun u hu => ?_, ?_⟩
  · have e : z.s.tk = T0.y.s.tk.set t { (T0.y.s.tk.getD t Tk.z) with sn := T0.y.s.bg } := hs.tk
    show (z.s.tk.getD u Tk.z).mem = _
    rw [e, ← h.tk u hu]
    by_cases e2 : u = t
    · subst e2
      rcases Nat.lt_or_ge u T0.y.s.tk.length with h3 | h3
      · simp [List.getD, h3]
      · rw [List.set_eq_of_length_le h3]
    · simp only [List.getD]; rw [List.getElem?_set_ne (fun h => e2 h.symm)]
  · show (z.s.lf.getD u Lf.z).ep ≤ _
    rw [hep, hlf]
    have h2 := h.ep u hu
    have h3 := h.ep t ht
    split
    · show (T0.y.s.lf.getD t Lf.z).ep + 1 ≤ _; omega
    · omega
  · show z.s.n5 al.length = i + 1
    rw [n5_sm hs, ← h.cnt]
    refine cntB_add (t := t) (by rw [h1]; decide) ?_ (fun u hu => ?_) ht
    · show decide (((didS (startS T0.y.s T0.ld t) ld' t).lf.getD t Lf.z).st = 5) = true
      rw [hlf, if_pos rfl]; rfl
    · show decide (((didS (startS T0.y.s T0.ld t) ld' t).lf.getD u Lf.z).st = 5) = _
      rw [hlf, if_neg hu]; rfl
theorem YRest.sub (h : YRest c al m W i T) {r : Rq} (hr : 0 ≤ r.root ∧ r.root < al.length ∧ 1 ≤ r.wt ∧ r.wt ≤ 100 ∧ 0 ≤ r.pr ∧ r.pr ≤ 7) (he : subE T.A T.Q T.y = 0) {z : OS} (hz : SubZ T.A T.Q T.y r z) {x : EP} (hxn : x.n = T.x.n) (hxm : x.m = T.x.m + 1) :
    YRest c al (m + 1) (fun t => W t ∨ t = r.root.toNat) i { T with x := x, y := z } := by
  obtain ⟨h1, hs, h3⟩ := h.dr.sub h.a1 hr he hz h.cm
  exact ⟨h1, h3, hxn.trans h.xn, by rw [hxm, h.xm], h.a1, h.a4, h.q4, hs.c.trans h.ec, hs.al.trans h.ea, fun t ht => by rw [show z.s.tk = T.y.s.tk from hs.tk]; exact h.tk t ht, h.ld, by show 0 ≤ z.s.bg ∧ z.s.bg ≤ _; rw [hs.bg]; exact h.bg, by show z.s.lg.length ≤ _; rw [hs.lg]; exact h.lg, fun t ht => by show (z.s.lf.getD t Lf.z).ep ≤ _; rw [hs.ep]; exact h.ep t ht, (n5_sm hs _).trans h.cnt⟩
end
theorem sub_cases {n m : Nat} {A Q : Int} {W : Nat → Prop} {y : OS} (h : DR n m A Q W y) : subE A Q y = 0 ∨ subE A Q y = 4 := by
  unfold subE
  by_cases h64 : 64 ≤ y.s.rq.length
  · rw [if_pos h64]; exact .inr rfl
  · rw [if_neg h64]
    have ht : there y.as ((y.s.rq.length : Nat) : Int) = false := by
      rw [Bool.eq_false_iff]; intro hh
      have := h.ov.ids _ (there_iff.1 hh)
      have := h.ov.lm; omega
    unfold addEr; rw [ht]
    cases aFull A y.as <;> cases qFull Q y.as <;> simp
theorem YRest.ov {c : Cfg} {al : List (Int × Int)} {m i : Nat} {W : Nat → Prop} {T : YT} (h : YRest c al m W i T) : OvOk T.x.n T.x.m T.A T.Q T.y := by rw [h.xn, h.xm]; exact h.dr.ov
end Go.Proofs.YtanfdikglplkaaaGreatDoor.Sp
namespace Go.Proofs.YtanfdikglplkaaaGreatDoor.Sp
open Go
def cutF (n l m : Int) : Int := l + n % 1048576 % (m - l + 1)
theorem cutF_bd (n : Int) {l m : Int} (h : l ≤ m) : l ≤ cutF n l m ∧ cutF n l m ≤ m := by
  unfold cutF
  have h1 := Int.emod_nonneg (n % 1048576) (show m - l + 1 ≠ 0 by omega)
  have h2 := Int.emod_lt_of_pos (n % 1048576) (show 0 < m - l + 1 by omega)
  omega
def cfgN (c : Cfg) : Cfg := ⟨cutF c.bud 12 40, cutF c.slots 1 4, cutF c.act 1 5, cutF c.que 0 4, cutF c.tries 1 3, cutF c.pre 0 2, cutF c.tmo 1 4, cutF c.bak 1 3, cutF c.most 1 6, cutF c.qu 1 30⟩
def cfgW (c : Cfg) : Cfg := { cfgN c with bud := 1000, act := 16 }
def cfgX (c : Cfg) (wide : Bool) : Cfg := bif wide then cfgW c else cfgN c
abbrev cfg0 : Cfg := ⟨0, 0, 0, 0, 0, 0, 0, 0, 0, 0⟩
def tskF (p : Int × Int) : Int × Int := (cutF p.1 1 12, cutF p.2 1 30)
def tasksF (al : List (Int × Int)) : List (Int × Int) := if al.length = 0 then [(1, 1)] else (al.map tskF).take 8
theorem cfgN_ok (c : Cfg) : CfgOk (cfgN c) := by
  have h1 := cutF_bd c.bud (show (12 : Int) ≤ 40 by decide); have h2 := cutF_bd c.slots (show (1 : Int) ≤ 4 by decide); have h3 := cutF_bd c.act (show (1 : Int) ≤ 5 by decide); have h4 := cutF_bd c.que (show (0 : Int) ≤ 4 by decide); have h5 := cutF_bd c.tries (show (1 : Int) ≤ 3 by decide)
  have h6 := cutF_bd c.pre (show (0 : Int) ≤ 2 by decide); have h7 := cutF_bd c.tmo (show (1 : Int) ≤ 4 by decide); have h8 := cutF_bd c.bak (show (1 : Int) ≤ 3 by decide); have h9 := cutF_bd c.most (show (1 : Int) ≤ 6 by decide); have h10 := cutF_bd c.qu (show (1 : Int) ≤ 30 by decide)
  unfold cfgN
  constructor <;> dsimp only <;> omega
theorem cfgW_ok (c : Cfg) : CfgOk (cfgW c) := by
  have h := cfgN_ok c
  exact ⟨by show (1 : Int) ≤ 1000 ∧ (1000 : Int) ≤ 1048576; decide, by show (1 : Int) ≤ 16 ∧ (16 : Int) ≤ 1048576; decide, h.tries, h.tmo, h.bak, h.most, h.qu, h.que, h.pre, h.slots⟩
theorem tasksF_len (al : List (Int × Int)) : 1 ≤ (tasksF al).length ∧ (tasksF al).length ≤ 8 := by
  unfold tasksF; split
  · exact ⟨Nat.le_refl _, by decide⟩
  · rw [List.length_take, List.length_map]; omega
theorem tasksF_get (al : List (Int × Int)) {i : Nat} (h : i < (tasksF al).length) : (1 ≤ ((tasksF al).getD i (0, 0)).1 ∧ ((tasksF al).getD i (0, 0)).1 ≤ 12) ∧ 1 ≤ ((tasksF al).getD i (0, 0)).2 ∧ ((tasksF al).getD i (0, 0)).2 ≤ 30 := by
  unfold tasksF at h ⊢
  split at h
  · rename_i h0
    rw [if_pos h0]
    have : i = 0 := by simp at h; exact h
    subst this; decide
  · rename_i h0
    rw [if_neg h0]
    rw [List.length_take, List.length_map] at h
    rw [show ((al.map tskF).take 8).getD i (0, 0) = tskF (al.getD i (0, 0)) from by simp only [List.getD]; rw [List.getElem?_take_of_lt (by omega), List.getElem?_map, List.getElem?_eq_getElem (by omega)]; rfl]
    have h1 := cutF_bd (al.getD i (0, 0)).1 (show (1 : Int) ≤ 12 by decide); have h2 := cutF_bd (al.getD i (0, 0)).2 (show (1 : Int) ≤ 30 by decide)
    exact ⟨h1, h2⟩
theorem sml_N (c : Cfg) (al : List (Int × Int)) : Sml (cfgN c) (tasksF al) := by
  have h1 := cutF_bd c.bud (show (12 : Int) ≤ 40 by decide); have h3 := cutF_bd c.act (show (1 : Int) ≤ 5 by decide); have h4 := cutF_bd c.que (show (0 : Int) ≤ 4 by decide)
  refine ⟨cfgN_ok c, (tasksF_len al).1, (tasksF_len al).2, fun i hi => ?_, by show cutF c.act 1 5 ≤ 400; omega, by show cutF c.que 0 4 ≤ 400; omega⟩
  have := tasksF_get al hi
  have e : (cfgN c).bud = cutF c.bud 12 40 := rfl
  omega
theorem sml_W (c : Cfg) (al : List (Int × Int)) : Sml (cfgW c) (tasksF al) := by
  have h4 := cutF_bd c.que (show (0 : Int) ≤ 4 by decide)
  refine ⟨cfgW_ok c, (tasksF_len al).1, (tasksF_len al).2, fun i hi => ?_, by show (16 : Int) ≤ 400; decide, by show cutF c.que 0 4 ≤ 400; omega⟩
  have := tasksF_get al hi
  have e : (cfgW c).bud = 1000 := rfl
  omega
theorem tskF_snoc {al : List (Int × Int)} {k : Nat} (h : k < al.length) : (al.map tskF).take k ++ [(cutF (al.getD k (0, 0)).1 1 12, cutF (al.getD k (0, 0)).2 1 30)] = (al.map tskF).take (k + 1) := by
  rw [List.take_add_one, List.getElem?_map]; simp [List.getD, h, tskF]
theorem take_end8 {l : List (Int × Int)} {k : Nat} (h : k = 8 ∨ (k = l.length ∧ k ≤ 8)) : l.take k = l.take 8 := by
  rcases h with h | ⟨h, h'⟩
  · rw [h]
  · rw [List.take_of_length_le (by omega), List.take_of_length_le (by omega)]
section
variable {c : Cfg} {al : List (Int × Int)} {m i : Nat} {W : Nat → Prop} {T : YT}
theorem first_sub (h : YRest c al 0 W i T) : subE T.A T.Q T.y = 0 := by
  have hids := h.dr.ov.ids
  have ha : T.y.as.a = [] := by
    rcases hh : T.y.as.a with _ | ⟨x, xs⟩
    · rfl
    · have := hids x (by rw [hh]; exact .head _); omega
  have hlm := h.dr.ov.lm
  have ht : there T.y.as ((T.y.s.rq.length : Nat) : Int) = false := by
    rw [Bool.eq_false_iff]; intro hh
    have := hids _ (there_iff.1 hh); omega
  have hf : aFull T.A T.y.as = false := by unfold aFull; rw [ha]; have := h.a1; simp; omega
  unfold subE; rw [if_neg (by omega)]; unfold addEr; rw [ht, hf]; rfl
theorem some_act (h : YRest c al m W i T) {t : Nat} (ht : t < al.length) (hw : W t) (hi : i = 0) : T.y.as.a ≠ [] := fun ha => by
  have h5 := ((h.dr.none ha).1 t ht).2 hw
  have h6 := h.cnt
  have : cntB (fun t => decide (T.y.s.stt t = 5)) al.length ≠ 0 := by
    have key : ∀ n, t < n → cntB (fun t => decide (T.y.s.stt t = 5)) n ≠ 0 := by
      intro n
      induction n with
      | zero => intro h; omega
      | succ n ih =>
        intro hn
        show cntB _ n + _ ≠ 0
        by_cases e : t = n
        · subst e; rw [if_pos (decide_eq_true h5)]; omega
        · have := ih (by omega); omega
    exact key _ ht
  have h7 : T.y.s.n5 al.length = cntB (fun t => decide (T.y.s.stt t = 5)) al.length := rfl
  omega
theorem cntB_full {p : Nat → Bool} : ∀ {n : Nat}, cntB p n = n → ∀ t, t < n → p t = true
  | 0, _, t, h => by omega
  | n + 1, h, t, ht => by
    have h1 := cntB_le p n
    have h2 : cntB p n + (if p n = true then 1 else 0) = n + 1 := h
    by_cases hn : p n = true
    · rw [if_pos hn] at h2
      by_cases e : t = n
      · subst e; exact hn
      · exact cntB_full (show cntB p n = n by omega) t (by omega)
    · rw [if_neg hn] at h2; omega
theorem all_done (h : YRest c al m W i T) (hi : i = al.length) : T.y.as.a = [] := by
  have hall := cntB_full (p := fun t => decide (T.y.s.stt t = 5)) (n := al.length) (h.cnt.trans hi)
  rcases hh : T.y.as.a with _ | ⟨x, xs⟩
  · rfl
  · have hx : x ∈ T.y.as.a := by rw [hh]; exact .head _
    obtain ⟨h1, h2⟩ := h.dr.root1 h.cm hx
    have := of_decide_eq_true (hall _ h1)
    omega
theorem works_end (h : YRest c al 1 W i T) (hi : i = al.length) : (T.y.s.rq.getD 0 Rq.z).st = 2 := (h.dr.none (all_done h hi)).2 0 (by decide)
theorem want_set {wl : List Bool} {root : Nat} (hl : root < wl.length) (t : Nat) : (wl.getD t false = true ∨ t = root) ↔ (wl.set root true).getD t false = true := by
  simp only [List.getD]
  by_cases e : t = root
  · subst e; simp [hl]
  · rw [List.getElem?_set_ne (fun h => e h.symm)]; simp [e]
theorem want_none (t : Nat) : (List.replicate 8 false).getD t false = true ↔ False := by
  rw [List.getD_eq_getElem?_getD, List.getElem?_replicate]; split <;> simp
theorem want_cnt {wl : List Bool} (h : YRest c al m (fun t => wl.getD t false = true) i T) (ha : T.y.as.a = []) : cntB (fun t => wl.getD t false) al.length = i := by
  rw [← h.cnt]
  refine cntB_congr fun t ht => ?_
  have := (h.dr.none ha).1 t ht
  show wl.getD t false = decide (T.y.s.stt t = 5)
  by_cases e : T.y.s.stt t = 5
  · rw [decide_eq_true e]; exact this.1 e
  · rw [decide_eq_false e, Bool.eq_false_iff]; exact fun hh => e (this.2 hh)
theorem want_st {wl : List Bool} (h : YRest c al m (fun t => wl.getD t false = true) i T) (ha : T.y.as.a = []) {t : Nat} (ht : t < al.length) : decide (T.y.s.stt t = 5) = wl.getD t false := by
  have := (h.dr.none ha).1 t ht
  by_cases e : T.y.s.stt t = 5
  · rw [decide_eq_true e]; exact (this.1 e).symm
  · rw [decide_eq_false e, eq_comm, Bool.eq_false_iff]; exact fun hh => e (this.2 hh)
end
end Go.Proofs.YtanfdikglplkaaaGreatDoor.Sp
