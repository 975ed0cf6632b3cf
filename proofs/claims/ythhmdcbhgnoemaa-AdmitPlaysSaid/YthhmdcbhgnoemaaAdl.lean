/- What the laws of admit want: plain facts. No program in it. -/
import Derived.Test.YthhmdcbhgnoemaaAdm
import Derived.Test.YthhmdcbhgnoemaaPln
set_option linter.unusedVariables false
set_option linter.unusedSimpArgs false
namespace Go.Proofs.Ythhmdcbhgnoemaa.Sp
open Go
theorem addS_len (A Q : Int) (s : AS) (x : Int) : (addS A Q s x).a.length + (addS A Q s x).q.length ≤ s.a.length + s.q.length + 1 := by
  unfold addS
  cases there s x with
  | true => rw [cond_true]; omega
  | false =>
    rw [cond_false]
    cases aFull A s with
    | false => simp; omega
    | true =>
      rw [Bool.not_true, cond_false]
      cases qFull Q s with
      | false => simp; omega
      | true => rw [Bool.not_true, cond_false]; omega
theorem erase_le (l : List Int) (x : Int) : (l.erase x).length ≤ l.length := List.length_erase_le ..
theorem endS_len (s : AS) (x : Int) : (endS s x).a.length + (endS s x).q.length ≤ s.a.length + s.q.length := by
  unfold endS
  have h1 := erase_le s.a x
  have h2 := erase_le s.q x
  cases inQ s x with
  | true => rw [cond_true]; show s.a.length + (s.q.erase x).length ≤ _; omega
  | false =>
    rw [cond_false]
    cases ha : inA s x with
    | false => rw [Bool.not_false, cond_true]; omega
    | true =>
      rw [Bool.not_true, cond_false]
      split
      · rename_i e; show (s.a.erase x).length + 0 ≤ _; omega
      · rename_i n q e; rw [e]; show (s.a.erase x ++ [n]).length + q.length ≤ s.a.length + (q.length + 1); simp; omega
theorem nodup_not_erase {l : List Int} (h : l.Nodup) (x : Int) : x ∉ l.erase x := fun hm => by
  have := (List.Nodup.mem_erase_iff h).1 hm
  exact this.1 rfl
theorem there_end {A Q : Int} {s : AS} (h : AOk A Q s) (x : Int) : there (endS s x) x = false := by
  have key : x ∉ (endS s x).a ++ (endS s x).q := by
    have hnd := h.nodup
    rw [List.nodup_append] at hnd
    unfold endS
    cases hq : inQ s x with
    | true =>
      rw [cond_true]
      have hm : x ∈ s.q := by simpa [inQ] using hq
      simp only [List.mem_append, not_or]
      exact ⟨fun ha => hnd.2.2 x ha x hm rfl, nodup_not_erase hnd.2.1 x⟩
    | false =>
      rw [cond_false]
      have hm : x ∉ s.q := by simpa [inQ] using hq
      cases ha : inA s x with
      | false =>
        rw [Bool.not_false, cond_true]
        simp only [List.mem_append, not_or]
        exact ⟨by simpa [inA] using ha, hm⟩
      | true =>
        rw [Bool.not_true, cond_false]
        have hna := nodup_not_erase hnd.1 x
        split
        · rename_i e; simpa using hna
        · rename_i n q e
          rw [e] at hm
          simp only [List.mem_cons, not_or] at hm
          simp only [List.mem_append, List.mem_singleton, not_or]
          exact ⟨⟨hna, hm.1⟩, hm.2⟩
  cases ht : there (endS s x) x with
  | false => rfl
  | true => exact absurd (there_iff.1 ht) key
theorem endEr_ok (s : AS) (x : Int) : ((endEr s x == 0) != there s x) = false := by
  unfold endEr; cases there s x <;> rfl
theorem endEr_zero {s : AS} {x : Int} : endEr s x = 0 ↔ there s x = true := by unfold endEr; cases there s x <;> simp
theorem addEr_there {A Q : Int} {s : AS} {x : Int} (h : there s x = true) : addEr A Q s x = 8 := by unfold addEr; rw [h]; rfl
theorem add_there {A Q : Int} {s : AS} {x : Int} (h : there s x = false) : (there (addS A Q s x) x != (addEr A Q s x == 0)) = false := by
  unfold addS addEr
  rw [h]
  simp only [cond_false]
  cases aFull A s with
  | false => simp [there, inA, inQ]
  | true =>
    simp only [Bool.not_true, cond_false]
    cases qFull Q s with
    | false => simp [there, inA, inQ]
    | true => simp only [Bool.not_true, cond_false]; rw [h]; rfl
theorem addS_same {A Q : Int} {s : AS} {x : Int} (h : ¬ addEr A Q s x = 0) : addS A Q s x = s := by
  unfold addEr at h; unfold addS
  revert h
  cases there s x <;> cases aFull A s <;> cases qFull Q s <;> intro h <;> first | rfl | exact absurd rfl h
theorem endS_same {s : AS} {x : Int} (h : ¬ endEr s x = 0) : endS s x = s := by
  have ht : there s x = false := by cases hb : there s x with | false => rfl | true => exact absurd (endEr_zero.2 hb) h
  simp only [there, Bool.or_eq_false_iff] at ht
  unfold endS; rw [ht.1, ht.2]; rfl
theorem AOk.full' {A Q : Int} {s : AS} (h : AOk A Q s) (hq : 0 < s.q.length) : (s.a.length : Int) = A := h.full fun e => by rw [e] at hq; simp at hq
theorem nodup_at {l : List Int} (h : l.Nodup) {i j : Nat} (hi : i < l.length) (hj : j < i) : ¬ l.getD i 0 = l.getD j 0 := by
  have hj' : j < l.length := by omega
  intro e
  have e' : l[i] = l[j] := by simpa [List.getD, hi, hj'] using e
  have := List.pairwise_iff_getElem.1 h j i hj' hi hj
  exact this e'.symm
end Go.Proofs.Ythhmdcbhgnoemaa.Sp
