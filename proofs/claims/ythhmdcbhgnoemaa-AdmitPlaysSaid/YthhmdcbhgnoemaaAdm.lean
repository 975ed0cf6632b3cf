/- Who is active and who waits: what the document's answer is, plainly, and how it lies in memory. No program in it but for the numbers of its types. -/
import Derived.Test.YthhmdcbhgnoemaaVal2
import Derived.Test.YthhmdcbhgnoemaaIdx
import Derived.Test.YthhmdcbhgnoemaaDrw
set_option linter.unusedVariables false
set_option linter.unusedSimpArgs false
namespace Go.Proofs.Ythhmdcbhgnoemaa.Sp
open Go
/-- those that are active, those that wait -/
structure AS where
  a : List Int
  q : List Int
def aFull (A : Int) (s : AS) : Bool := decide ((s.a.length : Int) ≥ A)
def qFull (Q : Int) (s : AS) : Bool := decide ((s.q.length : Int) ≥ Q)
def inA (s : AS) (x : Int) : Bool := s.a.contains x
def inQ (s : AS) (x : Int) : Bool := s.q.contains x
def there (s : AS) (x : Int) : Bool := inA s x || inQ s x
def stV (s : AS) (x : Int) : Int := bif inA s x then 1 else 0
def addS (A Q : Int) (s : AS) (x : Int) : AS := bif there s x then s else bif !aFull A s then ⟨s.a ++ [x], s.q⟩ else bif !qFull Q s then ⟨s.a, s.q ++ [x]⟩ else s
def addV (A Q : Int) (s : AS) (x : Int) : Int := bif there s x then 0 else bif !aFull A s then 1 else 0
def addEr (A Q : Int) (s : AS) (x : Int) : Int := bif there s x then 8 else bif !aFull A s then 0 else bif !qFull Q s then 0 else 4
def endS (s : AS) (x : Int) : AS := bif inQ s x then ⟨s.a, s.q.erase x⟩ else bif !inA s x then s else match s.q with
  | [] => ⟨s.a.erase x, []⟩
  | n :: q => ⟨s.a.erase x ++ [n], q⟩
def endV (s : AS) (x : Int) : Int := bif inQ s x then -1 else bif !inA s x then 0 else match s.q with
  | [] => -1
  | n :: _ => n
def endEr (s : AS) (x : Int) : Int := bif there s x then 0 else 6
structure AOk (A Q : Int) (s : AS) : Prop where
  A1 : 1 ≤ A
  Q0 : 0 ≤ Q
  la : (s.a.length : Int) ≤ A
  lq : (s.q.length : Int) ≤ Q
  nodup : (s.a ++ s.q).Nodup
  full : s.q ≠ [] → (s.a.length : Int) = A
theorem AOk.new (a q : Int) : AOk (max a 1) (max q 0) ⟨[], []⟩ := ⟨by omega, by omega, by simp; omega, by simp; omega, by simp, fun h => absurd rfl h⟩
theorem there_iff {s : AS} {x : Int} : there s x = true ↔ x ∈ s.a ++ s.q := by simp [there, inA, inQ]
theorem AOk.add {A Q : Int} {s : AS} (h : AOk A Q s) (x : Int) : AOk A Q (addS A Q s x) := by
  unfold addS
  cases ht : there s x with
  | true => exact h
  | false =>
    have hn : x ∉ s.a ++ s.q := fun hm => by rw [there_iff.2 hm] at ht; cases ht
    rw [cond_false]
    cases ha : aFull A s with
    | false =>
      rw [Bool.not_false, cond_true]
      have hl : ¬ (s.a.length : Int) ≥ A := of_decide_eq_false ha
      have hq : s.q = [] := by
        rcases Classical.em (s.q = []) with e | e
        · exact e
        · exact absurd (h.full e) (by omega)
      refine ⟨h.A1, h.Q0, by simp; omega, h.lq, ?_, fun e => absurd hq e⟩
      have hnd := h.nodup
      simp only [hq, List.append_nil] at hn hnd ⊢
      rw [List.nodup_append]
      exact ⟨hnd, by simp, fun y hy z hz => by simp at hz; subst hz; intro e; subst e; exact hn hy⟩
    | true =>
      rw [Bool.not_true, cond_false]
      have hl : (s.a.length : Int) ≥ A := of_decide_eq_true ha
      cases hq : qFull Q s with
      | true => exact h
      | false =>
        rw [Bool.not_false, cond_true]
        have hlq : ¬ (s.q.length : Int) ≥ Q := of_decide_eq_false hq
        refine ⟨h.A1, h.Q0, h.la, by simp; omega, ?_, fun _ => by have := h.la; show (s.a.length : Int) = A; omega⟩
        show (s.a ++ (s.q ++ [x])).Nodup
        rw [← List.append_assoc, List.nodup_append]
        exact ⟨h.nodup, by simp, fun y hy z hz => by simp at hz; subst hz; intro e; subst e; exact hn hy⟩
theorem nodup_erase_l {a q : List Int} (h : (a ++ q).Nodup) (x : Int) : (a.erase x ++ q).Nodup := by
  rw [List.nodup_append] at h ⊢
  exact ⟨h.1.sublist List.erase_sublist, h.2.1, fun y hy z hz => h.2.2 y (List.mem_of_mem_erase hy) z hz⟩
theorem nodup_erase_r {a q : List Int} (h : (a ++ q).Nodup) (x : Int) : (a ++ q.erase x).Nodup := by
  rw [List.nodup_append] at h ⊢
  exact ⟨h.1, h.2.1.sublist List.erase_sublist, fun y hy z hz => h.2.2 y hy z (List.mem_of_mem_erase hz)⟩
theorem erase_len {l : List Int} {x : Int} (h : l.contains x = true) : (l.erase x).length + 1 = l.length := by
  have hm : x ∈ l := by simpa using h
  have := List.length_erase_of_mem hm
  have := List.length_pos_of_mem hm
  omega
theorem AOk.ende {A Q : Int} {s : AS} (h : AOk A Q s) (x : Int) : AOk A Q (endS s x) := by
  unfold endS
  cases hq : inQ s x with
  | true =>
    rw [cond_true]
    have := erase_len (l := s.q) hq
    exact ⟨h.A1, h.Q0, h.la, by have := h.lq; show ((s.q.erase x).length : Int) ≤ Q; omega, nodup_erase_r h.nodup x, fun e => h.full (fun e' => by rw [e'] at this; simp at this)⟩
  | false =>
    rw [cond_false]
    cases ha : inA s x with
    | false => exact h
    | true =>
      rw [Bool.not_true, cond_false]
      have hl := erase_len (l := s.a) ha
      split
      · rename_i e
        refine ⟨h.A1, h.Q0, by have := h.la; show ((s.a.erase x).length : Int) ≤ A; omega, by simpa using h.Q0, ?_, fun h => absurd rfl h⟩
        have := nodup_erase_l h.nodup x
        rw [e] at this; exact this
      · rename_i n q e
        have hf := h.full (by rw [e]; simp)
        have hlq := h.lq
        rw [e] at hlq
        refine ⟨h.A1, h.Q0, by show ((s.a.erase x ++ [n]).length : Int) ≤ A; simp; omega, by show (q.length : Int) ≤ Q; simp at hlq; omega, ?_, fun _ => by show ((s.a.erase x ++ [n]).length : Int) = A; simp; omega⟩
        have := nodup_erase_l h.nodup x
        rw [e] at this
        show (s.a.erase x ++ [n] ++ q).Nodup
        simpa [List.append_assoc] using this
theorem idx_erase {v : Int} {xs : List Int} (h : idxF (fun y => decide (v = y)) xs ≥ 0) : xs.contains v = true ∧ (idxF (fun y => decide (v = y)) xs).toNat < xs.length ∧ xs.eraseIdx (idxF (fun y => decide (v = y)) xs).toNat = xs.erase v := by
  unfold idxF at h ⊢
  by_cases hl : xs.findIdx (fun y => decide (v = y)) < xs.length
  · rw [if_pos hl]
    refine ⟨?_, by simpa using hl, ?_⟩
    · rw [List.contains_iff_mem]
      obtain ⟨x, hx, e⟩ := List.findIdx_lt_length.1 hl
      have := of_decide_eq_true e
      exact this ▸ hx
    · rw [Int.toNat_natCast, List.erase_eq_eraseIdx]
      have hi : xs.idxOf? v = some (xs.findIdx fun y => decide (v = y)) := by
        rw [List.idxOf?, List.findIdx?_eq_some_iff_findIdx_eq]
        refine ⟨hl, ?_⟩
        congr 1; funext y; rw [Bool.eq_iff_iff, beq_iff_eq, decide_eq_true_iff]; exact eq_comm
      rw [hi]
  · rw [if_neg hl] at h; omega
theorem idx_none {v : Int} {xs : List Int} (h : idxF (fun y => decide (v = y)) xs < 0) : xs.contains v = false := by
  cases hc : xs.contains v with
  | false => rfl
  | true =>
    rw [List.contains_iff_mem] at hc
    unfold idxF at h
    rw [if_pos (List.findIdx_lt_length.2 ⟨v, hc, by simp⟩)] at h; omega
theorem endS_next {A Q : Int} {s : AS} {x : Int} (h : AOk A Q s) (h1 : s.q.contains x = false) (h2 : s.a.contains x = true) (hne : ¬ s.q.length = 0) :
    (endS s x).a = (bif !decide (((s.a.erase x).length : Int) ≥ A) then s.a.erase x ++ [s.q.getD 0 0] else s.a.erase x) ∧ (endS s x).q = s.q.erase (s.q.getD 0 0) ∧ endV s x = s.q.getD 0 0 ∧ endEr s x = 0 := by
  have hl := erase_len h2
  have hla := h.la
  have hd : decide (((s.a.erase x).length : Int) ≥ A) = false := decide_eq_false (by omega)
  rw [hd]
  cases hq : s.q with
  | nil => rw [hq] at hne; simp at hne
  | cons n q =>
    have hc : (n :: q).contains x = false := by rw [← hq]; exact h1
    simp only [endS, endV, endEr, there, inA, inQ, h2, hq, hc, cond_false, Bool.not_true]
    simp
/-- in memory -/
def AdmP (p : Nat) (A Q : Int) (s : AS) (b1 : Option Addr) (c1 : Nat) (b2 : Option Addr) (c2 : Nat) : List HP :=
  [Blk p [.int .i64 A, .slice b1 s.a.length c1, .int .i64 Q, .slice b2 s.q.length c2] 49, SlV 3 1 (.slice b1 s.a.length c1) s.a.length (ints .i64 s.a), SlV 3 1 (.slice b2 s.q.length c2) s.q.length (ints .i64 s.q)]
structure AFacts (A Q : Int) (s : AS) (b1 : Option Addr) (c1 : Nat) (b2 : Option Addr) (c2 : Nat) : Prop where
  ok : AOk A Q s
  k1 : SlOk b1 s.a.length
  k2 : SlOk b2 s.q.length
def AdmO (p : Nat) (A Q : Int) (s : AS) : HP := fun f => ∃ b1 c1 b2 c2, AFacts A Q s b1 c1 b2 c2 ∧ Parts (AdmP p A Q s b1 c1 b2 c2) f
theorem Sat.openA {p : Nat} {A Q : Int} {s : AS} {L : List HP} {w : World} (h : Sat (AdmO p A Q s :: L) w) : ∃ b1 c1 b2 c2, AFacts A Q s b1 c1 b2 c2 ∧
    Sat (Blk p [.int .i64 A, .slice b1 s.a.length c1, .int .i64 Q, .slice b2 s.q.length c2] 49 :: SlV 3 1 (.slice b1 s.a.length c1) s.a.length (ints .i64 s.a) :: SlV 3 1 (.slice b2 s.q.length c2) s.q.length (ints .i64 s.q) :: L) w := by
  obtain ⟨_, ⟨f1, f2, rfl, ⟨b1, c1, b2, c2, hk, g1, g2, rfl, hg1, g3, g4, rfl, hg3, g5, g6, rfl, hg5, hg6⟩, hp⟩, hh⟩ := h
  obtain rfl := hg6
  refine ⟨b1, c1, b2, c2, hk, _, ⟨g1, g3 ++ (g5 ++ f2), rfl, hg1, g3, g5 ++ f2, rfl, hg3, g5, f2, rfl, hg5, hp⟩, ?_⟩
  simpa [List.append_assoc] using hh
theorem Sat.shutA {p : Nat} {A Q : Int} {s : AS} {b1 : Option Addr} {c1 : Nat} {b2 : Option Addr} {c2 : Nat} {L : List HP} {w : World} (hk : AFacts A Q s b1 c1 b2 c2)
    (h : Sat (Blk p [.int .i64 A, .slice b1 s.a.length c1, .int .i64 Q, .slice b2 s.q.length c2] 49 :: SlV 3 1 (.slice b1 s.a.length c1) s.a.length (ints .i64 s.a) :: SlV 3 1 (.slice b2 s.q.length c2) s.q.length (ints .i64 s.q) :: L) w) : Sat (AdmO p A Q s :: L) w := by
  obtain ⟨_, ⟨g1, _, rfl, hg1, g3, _, rfl, hg3, g5, f2, rfl, hg5, hp⟩, hh⟩ := h
  refine ⟨_, ⟨g1 ++ (g3 ++ (g5 ++ [])), f2, rfl, ⟨b1, c1, b2, c2, hk, g1, g3 ++ (g5 ++ []), rfl, hg1, g3, g5 ++ [], rfl, hg3, g5, [], rfl, hg5, rfl⟩, hp⟩, ?_⟩
  simpa [List.append_assoc] using hh
section
variable {K : Act → World → Prop} {W : World} {N' : Nat} {E : List (Nat × Value)} {L : List HP}
theorem t_openA {p : Nat} {A Q : Int} {s : AS} (k : ∀ b1 c1 b2 c2, AFacts A Q s b1 c1 b2 c2 → Tri K W N' E (Blk p [.int .i64 A, .slice b1 s.a.length c1, .int .i64 Q, .slice b2 s.q.length c2] 49 :: SlV 3 1 (.slice b1 s.a.length c1) s.a.length (ints .i64 s.a) :: SlV 3 1 (.slice b2 s.q.length c2) s.q.length (ints .i64 s.q) :: L)) :
    Tri K W N' E (AdmO p A Q s :: L) := fun a w st => by
  obtain ⟨b1, c1, b2, c2, h1, h2⟩ := st.sat.openA
  exact k b1 c1 b2 c2 h1 a w ⟨st.size, st.defers, st.env, h2, st.ext⟩
theorem t_shutA {p : Nat} {A Q : Int} {a q : List Int} (s : AS) {b1 : Option Addr} {c1 : Nat} {b2 : Option Addr} {c2 : Nat} (hk : AOk A Q s) (ha : s.a = a) (hq : s.q = q) (k1 : SlOk b1 a.length) (k2 : SlOk b2 q.length) (k : Tri K W N' E (AdmO p A Q s :: L)) :
    Tri K W N' E (Blk p [.int .i64 A, .slice b1 a.length c1, .int .i64 Q, .slice b2 q.length c2] 49 :: SlV 3 1 (.slice b1 a.length c1) a.length (ints .i64 a) :: SlV 3 1 (.slice b2 q.length c2) q.length (ints .i64 q) :: L) := by
  subst ha; subst hq
  exact t_sat (fun _ hs => hs.shutA ⟨hk, k1, k2⟩) k
end
theorem aok_of {p : Nat} {A Q : Int} {s : AS} {L : List HP} {w : World} (h : Sat (AdmO p A Q s :: L) w) : AOk A Q s := by obtain ⟨_, _, _, _, h1, _⟩ := h.openA; exact h1.ok
end Go.Proofs.Ythhmdcbhgnoemaa.Sp
