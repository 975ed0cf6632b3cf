/- More of what the laws of admit want: plain facts. No program in it. -/
import Derived.Test.YthhmdcbhgnoemaaAdl
set_option linter.unusedVariables false
set_option linter.unusedSimpArgs false
namespace Go.Proofs.Ythhmdcbhgnoemaa.Sp
open Go
def pushA (s : AS) (x : Int) : AS := ⟨s.a ++ [x], s.q⟩
def pushQ (s : AS) (x : Int) : AS := ⟨s.a, s.q ++ [x]⟩
theorem pushA_len (s : AS) (x : Int) : (pushA s x).a.length = s.a.length + 1 := by simp [pushA]
theorem pushQ_len (s : AS) (x : Int) : (pushQ s x).q.length = s.q.length + 1 := by simp [pushQ]
theorem not_there {s : AS} {x : Int} (h : x ∉ s.a ++ s.q) : there s x = false := by
  cases ht : there s x with
  | false => rfl
  | true => exact absurd (there_iff.1 ht) h
theorem add_room {A Q : Int} {s : AS} {x : Int} (h : x ∉ s.a ++ s.q) (hr : (s.a.length : Int) < A) : addS A Q s x = pushA s x ∧ addV A Q s x = 1 ∧ addEr A Q s x = 0 := by
  have h1 := not_there h
  have h2 : aFull A s = false := decide_eq_false (by omega)
  unfold addS addV addEr; rw [h1, h2]; exact ⟨rfl, rfl, rfl⟩
theorem add_queue {A Q : Int} {s : AS} {x : Int} (h : x ∉ s.a ++ s.q) (hr : ¬ (s.a.length : Int) < A) (hq : (s.q.length : Int) < Q) : addS A Q s x = pushQ s x ∧ addV A Q s x = 0 ∧ addEr A Q s x = 0 := by
  have h1 := not_there h
  have h2 : aFull A s = true := decide_eq_true (by omega)
  have h3 : qFull Q s = false := decide_eq_false (by omega)
  unfold addS addV addEr; rw [h1, h2, h3]; exact ⟨rfl, rfl, rfl⟩
theorem add_full {A Q : Int} {s : AS} {x : Int} (h : x ∉ s.a ++ s.q) (hr : ¬ (s.a.length : Int) < A) (hq : ¬ (s.q.length : Int) < Q) : addS A Q s x = s ∧ addV A Q s x = 0 ∧ addEr A Q s x = 4 := by
  have h1 := not_there h
  have h2 : aFull A s = true := decide_eq_true (by omega)
  have h3 : qFull Q s = true := decide_eq_true (by omega)
  unfold addS addV addEr; rw [h1, h2, h3]; exact ⟨rfl, rfl, rfl⟩
theorem end_alone {s : AS} {x : Int} (hq : s.q = []) (hx : x ∈ s.a) : endS s x = ⟨s.a.erase x, []⟩ ∧ endV s x = -1 ∧ endEr s x = 0 := by
  have h1 : inQ s x = false := by simp [inQ, hq]
  have h2 : inA s x = true := by simpa [inA] using hx
  unfold endS endV endEr there; rw [h1, h2, hq]; exact ⟨rfl, rfl, rfl⟩
theorem end_waits {s : AS} {x : Int} (hx : x ∈ s.q) : endS s x = ⟨s.a, s.q.erase x⟩ ∧ endV s x = -1 ∧ endEr s x = 0 := by
  have h1 : inQ s x = true := by simpa [inQ] using hx
  unfold endS endV endEr there; rw [h1, Bool.or_true]; exact ⟨rfl, rfl, rfl⟩
theorem end_moves {s : AS} {x n : Int} {q : List Int} (hq : s.q = n :: q) (hx : x ∈ s.a) (hn : x ∉ s.q) : endS s x = ⟨s.a.erase x ++ [n], q⟩ ∧ endV s x = n ∧ endEr s x = 0 := by
  have h1 : inQ s x = false := by cases hb : inQ s x with | false => rfl | true => exact absurd (by simpa [inQ] using hb) hn
  have h2 : inA s x = true := by simpa [inA] using hx
  unfold endS endV endEr there; rw [h1, h2, hq]; exact ⟨rfl, rfl, rfl⟩
theorem getD_mem {l : List Int} {k : Nat} (h : k < l.length) : l.getD k 0 ∈ l := by simp [List.getD, h]
/-- ids so much larger -/
def shS (c : Int) (s : AS) : AS := ⟨s.a.map (· + c), s.q.map (· + c)⟩
theorem contains_sh (l : List Int) (x c : Int) : (l.map (· + c)).contains (x + c) = l.contains x := by
  rw [Bool.eq_iff_iff]; simp only [List.contains_iff_mem, List.mem_map]
  constructor
  · rintro ⟨y, hy, e⟩; have : y = x := by omega
    exact this ▸ hy
  · intro h; exact ⟨x, h, rfl⟩
theorem erase_sh (l : List Int) (x c : Int) : (l.map (· + c)).erase (x + c) = (l.erase x).map (· + c) := by
  induction l with
  | nil => rfl
  | cons y l ih =>
    rw [List.map_cons, List.erase_cons, List.erase_cons]
    by_cases e : y = x
    · subst e; simp
    · have e2 : ¬ (y + c = x + c) := by omega
      have b1 : (y == x) = false := by simpa using e
      have b2 : (y + c == x + c) = false := by simpa using e2
      rw [b1, b2]; simp [ih]
theorem inA_sh (c : Int) (s : AS) (x : Int) : inA (shS c s) (x + c) = inA s x := contains_sh _ _ _
theorem inQ_sh (c : Int) (s : AS) (x : Int) : inQ (shS c s) (x + c) = inQ s x := contains_sh _ _ _
theorem there_sh (c : Int) (s : AS) (x : Int) : there (shS c s) (x + c) = there s x := by unfold there; rw [inA_sh, inQ_sh]
theorem aFull_sh (A c : Int) (s : AS) : aFull A (shS c s) = aFull A s := by simp [aFull, shS]
theorem qFull_sh (Q c : Int) (s : AS) : qFull Q (shS c s) = qFull Q s := by simp [qFull, shS]
theorem addS_sh (A Q c : Int) (s : AS) (x : Int) : addS A Q (shS c s) (x + c) = shS c (addS A Q s x) := by
  unfold addS; rw [there_sh, aFull_sh, qFull_sh]
  cases there s x <;> cases aFull A s <;> cases qFull Q s <;> simp [shS]
theorem addV_sh (A Q c : Int) (s : AS) (x : Int) : addV A Q (shS c s) (x + c) = addV A Q s x := by unfold addV; rw [there_sh, aFull_sh]
theorem addEr_sh (A Q c : Int) (s : AS) (x : Int) : addEr A Q (shS c s) (x + c) = addEr A Q s x := by unfold addEr; rw [there_sh, aFull_sh, qFull_sh]
theorem endEr_sh (c : Int) (s : AS) (x : Int) : endEr (shS c s) (x + c) = endEr s x := by unfold endEr; rw [there_sh]
theorem endS_sh (c : Int) (s : AS) (x : Int) : endS (shS c s) (x + c) = shS c (endS s x) := by
  unfold endS; rw [inA_sh, inQ_sh]
  cases inQ s x with
  | true => simp only [cond_true]; unfold shS; simp only [erase_sh]
  | false =>
    cases inA s x with
    | false => rfl
    | true =>
      simp only [cond_false, Bool.not_true]
      cases hq : s.q with
      | nil => simp only [shS, hq, List.map_nil, erase_sh]
      | cons n q => simp only [shS, hq, List.map_cons, erase_sh, List.map_append, List.map_nil]
theorem end_cases (c : Int) {s : AS} (h0 : ∀ y ∈ s.a ++ s.q, 0 ≤ y) (x : Int) : (endEr s x = 6 ∧ endV s x = 0 ∧ endV (shS c s) (x + c) = 0) ∨ (endEr s x = 0 ∧ endV s x = -1 ∧ endV (shS c s) (x + c) = -1) ∨
    (∃ n, 0 ≤ n ∧ n ∈ s.q ∧ endEr s x = 0 ∧ endV s x = n ∧ endV (shS c s) (x + c) = n + c) := by
  unfold endV endEr there; rw [inA_sh, inQ_sh]
  cases hiq : inQ s x with
  | true => right; left; cases inA s x <;> exact ⟨rfl, rfl, rfl⟩
  | false =>
    cases hia : inA s x with
    | false => left; exact ⟨rfl, rfl, rfl⟩
    | true =>
      right
      cases hq : s.q with
      | nil => left; simp [shS, hq]
      | cons n q => right; exact ⟨n, h0 n (by rw [hq]; simp), by simp, rfl, rfl, by simp [shS, hq]⟩
theorem addS_all {p : Int → Prop} {A Q : Int} {s : AS} {x : Int} (h : ∀ y ∈ s.a ++ s.q, p y) (hx : p x) : ∀ y ∈ (addS A Q s x).a ++ (addS A Q s x).q, p y := by
  unfold addS
  cases there s x <;> cases aFull A s <;> cases qFull Q s <;> intro y hy <;> simp at hy h ⊢ <;> first | exact h y hy | (rcases hy with hy | hy | hy <;> first | exact h y (.inl hy) | exact h y (.inr hy) | exact hy ▸ hx)
theorem endS_all {p : Int → Prop} {s : AS} {x : Int} (h : ∀ y ∈ s.a ++ s.q, p y) : ∀ y ∈ (endS s x).a ++ (endS s x).q, p y := by
  intro y hy
  refine h y ?_
  revert hy
  unfold endS
  cases inQ s x with
  | true =>
    simp only [cond_true, List.mem_append]
    rintro (hy | hy)
    · exact .inl hy
    · exact .inr (List.mem_of_mem_erase hy)
  | false =>
    cases inA s x with
    | false => exact fun hy => hy
    | true =>
      simp only [cond_false, Bool.not_true]
      cases hq : s.q with
      | nil =>
        simp only [List.mem_append]
        rintro (hy | hy)
        · exact .inl (List.mem_of_mem_erase hy)
        · exact .inr hy
      | cons n q =>
        simp only [List.mem_append, List.mem_singleton, List.mem_cons]
        rintro ((hy | hy | hy) | hy)
        · exact .inl (List.mem_of_mem_erase hy)
        · exact .inr (.inl hy)
        · cases hy
        · exact .inr (.inr hy)
theorem sh_get (l : List Int) (c : Int) {k : Nat} (h : k < l.length) : (l.map (· + c)).getD k 0 = l.getD k 0 + c := by simp [List.getD, h]
theorem shS_la (c : Int) (s : AS) : (shS c s).a.length = s.a.length := by simp [shS]
theorem shS_lq (c : Int) (s : AS) : (shS c s).q.length = s.q.length := by simp [shS]
end Go.Proofs.Ythhmdcbhgnoemaa.Sp
