/- The document's row, of which the first ones are active: plain facts, and how it lies in memory. No program in it but for the numbers of its types. -/
import Derived.Test.YthhmdcbhgnoemaaAdm2
set_option linter.unusedVariables false
set_option linter.unusedSimpArgs false
namespace Go.Proofs.Ythhmdcbhgnoemaa.Sp
open Go
def rowOf (s : AS) : List Int := s.a ++ s.q
theorem split_len {A Q : Int} {s : AS} (h : AOk (max A 1) Q s) : min ((rowOf s).length : Int) (max A 1) = s.a.length := by
  have h1 := h.la
  unfold rowOf; rw [List.length_append]
  rcases Nat.eq_zero_or_pos s.q.length with h0 | h0
  · omega
  · have := h.full' h0; omega
theorem idx_in {x : Int} {l : List Int} (h : x ∈ l) : 0 ≤ idxF (fun y => decide (x = y)) l ∧ idxF (fun y => decide (x = y)) l < l.length ∧ l.getD (idxF (fun y => decide (x = y)) l).toNat 0 = x := by
  have hl : l.findIdx (fun y => decide (x = y)) < l.length := List.findIdx_lt_length.2 ⟨x, h, by simp⟩
  unfold idxF; rw [if_pos hl]
  refine ⟨by omega, by omega, ?_⟩
  have := of_decide_eq_true (List.findIdx_getElem (w := hl))
  rw [Int.toNat_natCast]; simp only [List.getD, List.getElem?_eq_getElem hl, Option.getD_some]
  exact this.symm
theorem idx_out {x : Int} {l : List Int} (h : x ∉ l) : idxF (fun y => decide (x = y)) l = -1 := by
  refine idxF_none fun j hj => decide_eq_false fun e => h ?_
  rw [e]; exact getD_mem hj
theorem idx_left {x : Int} {a q : List Int} (h : x ∈ a) : idxF (fun y => decide (x = y)) (a ++ q) = idxF (fun y => decide (x = y)) a := by
  have hl : a.findIdx (fun y => decide (x = y)) < a.length := List.findIdx_lt_length.2 ⟨x, h, by simp⟩
  have e : (a ++ q).findIdx (fun y => decide (x = y)) = a.findIdx (fun y => decide (x = y)) := by rw [List.findIdx_append, if_pos hl]
  unfold idxF; rw [e, if_pos hl, if_pos (by rw [List.length_append]; omega)]
theorem idx_right {x : Int} {a q : List Int} (h : x ∉ a) (hq : x ∈ q) : (a.length : Int) ≤ idxF (fun y => decide (x = y)) (a ++ q) := by
  have hl : ¬ a.findIdx (fun y => decide (x = y)) < a.length := fun hh => h (by
    obtain ⟨y, hy, e⟩ := List.findIdx_lt_length.1 hh
    have := of_decide_eq_true e; exact this ▸ hy)
  have hl2 : q.findIdx (fun y => decide (x = y)) < q.length := List.findIdx_lt_length.2 ⟨x, hq, by simp⟩
  have e : (a ++ q).findIdx (fun y => decide (x = y)) = q.findIdx (fun y => decide (x = y)) + a.length := by rw [List.findIdx_append, if_neg hl]
  unfold idxF; rw [e, if_pos (by rw [List.length_append]; omega)]; omega
theorem mem_rowOf {s : AS} {x : Int} : x ∈ rowOf s ↔ there s x = true := there_iff.symm
theorem find_there {s : AS} {x : Int} : decide (idxF (fun y => decide (x = y)) (rowOf s) ≥ 0) = there s x := by
  cases ht : there s x with
  | true => exact decide_eq_true (idx_in (mem_rowOf.2 ht)).1
  | false => rw [idx_out (fun h => by rw [mem_rowOf.1 h] at ht; cases ht)]; rfl
/-- whether the place found is among the active ones -/
theorem find_active {s : AS} {x : Int} (ht : there s x = true) (hn : (s.a ++ s.q).Nodup) : decide (idxF (fun y => decide (x = y)) (rowOf s) ≥ (s.a.length : Int)) = !inA s x := by
  cases ha : inA s x with
  | true =>
    have hm : x ∈ s.a := by simpa [inA] using ha
    unfold rowOf; rw [idx_left hm]
    exact decide_eq_false (by have := (idx_in hm).2.1; omega)
  | false =>
    have hm : x ∉ s.a := by simpa [inA] using ha
    have hq : x ∈ s.q := by simpa [there, inA, inQ, hm] using ht
    unfold rowOf; exact decide_eq_true (idx_right hm hq)
theorem row_waits {A Q : Int} {s : AS} (h : AOk (max A 1) (max Q 0) s) : (((rowOf s).length : Int) - max A 1 ≥ 0 ∧ ((rowOf s).length : Int) - max A 1 ≥ max Q 0) ↔ (aFull (max A 1) s = true ∧ qFull (max Q 0) s = true) := by
  unfold aFull qFull rowOf
  rw [decide_eq_true_iff, decide_eq_true_iff, List.length_append]
  have h1 := h.la
  rcases Nat.eq_zero_or_pos s.q.length with h0 | h0
  · constructor
    · intro ⟨a, b⟩; exact ⟨by omega, by omega⟩
    · intro ⟨a, b⟩; exact ⟨by omega, by omega⟩
  · have := h.full' h0
    constructor
    · intro ⟨a, b⟩; exact ⟨by omega, by omega⟩
    · intro ⟨a, b⟩; exact ⟨by omega, by omega⟩
theorem row_full {A Q : Int} {s : AS} {x : Int} (ht : there s x = false) (hf : aFull A s = true ∧ qFull Q s = true) : addS A Q s x = s ∧ addV A Q s x = 0 ∧ addEr A Q s x = 4 := by
  unfold addS addV addEr; rw [ht, hf.1, hf.2]; exact ⟨rfl, rfl, rfl⟩
theorem row_add {A Q : Int} {s : AS} {x : Int} (h : AOk A Q s) (ht : there s x = false) (hf : ¬ (aFull A s = true ∧ qFull Q s = true)) :
    rowOf (addS A Q s x) = rowOf s ++ [x] ∧ addV A Q s x = stV (addS A Q s x) x ∧ addEr A Q s x = 0 := by
  have hia : inA s x = false := by simp only [there, Bool.or_eq_false_iff] at ht; exact ht.1
  unfold addS addV addEr
  rw [ht]
  cases ha : aFull A s with
  | false =>
    have hq : s.q = [] := by
      rcases Classical.em (s.q = []) with e | e
      · exact e
      · have := h.full e; have := of_decide_eq_false ha; omega
    refine ⟨?_, ?_, rfl⟩
    · simp [rowOf, hq]
    · simp [stV, inA]
  | true =>
    cases hb : qFull Q s with
    | true => exact absurd ⟨ha, hb⟩ hf
    | false =>
      refine ⟨?_, ?_, rfl⟩
      · simp [rowOf]
      · simp only [cond_false, Bool.not_true, Bool.not_false, cond_true, stV, inA] at hia ⊢; rw [hia]; rfl
/-- one goes out of the row -/
theorem row_end {A Q : Int} {s : AS} {x : Int} (h : AOk A Q s) (ht : there s x = true) {k : Nat} (hk : idxF (fun y => decide (x = y)) (rowOf s) = (k : Int)) :
    (rowOf s).take k ++ (rowOf s).drop (k + 1) = rowOf (endS s x) ∧ endEr s x = 0 ∧ endV s x = (if (k : Int) < s.a.length ∧ s.q ≠ [] then (rowOf (endS s x)).getD (s.a.length - 1) 0 else -1) := by
  have hge : idxF (fun y => decide (x = y)) (rowOf s) ≥ 0 := (idx_in (mem_rowOf.2 ht)).1
  have he := (idx_erase hge).2.2
  rw [hk, Int.toNat_natCast, List.eraseIdx_eq_take_drop_succ] at he
  have hact := find_active ht h.nodup
  rw [hk] at hact
  have hdis := h.nodup
  rw [List.nodup_append] at hdis
  rw [he]
  cases ha : inA s x with
  | true =>
    have hm : x ∈ s.a := by simpa [inA] using ha
    have hn : x ∉ s.q := fun hq => hdis.2.2 _ hm _ hq rfl
    rw [ha] at hact
    have hlt := of_decide_eq_false hact
    have hl := List.length_erase_of_mem hm
    have hp := List.length_pos_of_mem hm
    cases hq : s.q with
    | nil =>
      obtain ⟨e1, e2, e3⟩ := end_alone hq hm
      rw [e1, e2, e3, if_neg (fun h => h.2 rfl)]
      refine ⟨?_, rfl, rfl⟩
      unfold rowOf; rw [hq, List.append_nil]; simp
    | cons m q =>
      obtain ⟨e1, e2, e3⟩ := end_moves hq hm hn
      rw [e1, e2, e3, if_pos ⟨by omega, by simp⟩]
      refine ⟨?_, rfl, ?_⟩
      · unfold rowOf; rw [List.erase_append_left _ hm, hq]; simp
      · have e : (rowOf ⟨s.a.erase x ++ [m], q⟩) = s.a.erase x ++ m :: q := by simp [rowOf]
        rw [e, ← hl]
        simp [List.getD]
  | false =>
    have hm : x ∉ s.a := by simpa [inA] using ha
    have hq : x ∈ s.q := by simpa [there, inA, inQ, hm] using ht
    rw [ha] at hact
    have hge2 := of_decide_eq_true hact
    obtain ⟨e1, e2, e3⟩ := end_waits hq
    rw [e1, e2, e3, if_neg (fun h => by omega)]
    refine ⟨?_, rfl, rfl⟩
    unfold rowOf; rw [List.erase_append_right _ hm]
/-- how many are active behind it -/
theorem row_split {A Q : Int} {s : AS} {x : Int} (h : AOk (max A 1) Q s) (hm : inA s x = true) (hn : (s.a ++ s.q).Nodup) : (min ((rowOf (endS s x)).length : Int) (max A 1) = s.a.length) ↔ s.q ≠ [] := by
  have hma : x ∈ s.a := by simpa [inA] using hm
  have hl := List.length_erase_of_mem hma
  have hp := List.length_pos_of_mem hma
  rw [split_len (h.ende x)]
  rw [List.nodup_append] at hn
  have hnq : x ∉ s.q := fun hq => hn.2.2 _ hma _ hq rfl
  cases hq : s.q with
  | nil => obtain ⟨e1, _, _⟩ := end_alone hq hma; rw [e1]; simp; omega
  | cons m q => obtain ⟨e1, _, _⟩ := end_moves hq hma hnq; rw [e1]; simp; omega
/-- the document's row in memory -/
def RowO (p : Nat) (A Q : Int) (L : List Int) : HP := fun f => ∃ bl cl, (SlOk bl L.length ∧ L.length ≤ cl) ∧ Parts [Blk p [.int .i64 A, .int .i64 Q, .slice bl L.length cl] 29, SlV 3 1 (.slice bl L.length cl) L.length (ints .i64 L)] f
theorem Sat.openRow {p : Nat} {A Q : Int} {l : List Int} {L : List HP} {w : World} (h : Sat (RowO p A Q l :: L) w) :
    ∃ bl cl, (SlOk bl l.length ∧ l.length ≤ cl) ∧ Sat (Blk p [.int .i64 A, .int .i64 Q, .slice bl l.length cl] 29 :: SlV 3 1 (.slice bl l.length cl) l.length (ints .i64 l) :: L) w := by
  obtain ⟨_, ⟨f1, f2, rfl, ⟨bl, cl, hk, g1, g2, rfl, hg1, g3, g4, rfl, hg3, hg4⟩, hp⟩, hh⟩ := h
  obtain rfl := hg4
  refine ⟨bl, cl, hk, _, ⟨g1, g3 ++ f2, rfl, hg1, g3, f2, rfl, hg3, hp⟩, ?_⟩
  simpa [List.append_assoc] using hh
theorem Sat.shutRow {p : Nat} {A Q : Int} {l : List Int} {bl : Option Addr} {cl : Nat} {L : List HP} {w : World} (hk : SlOk bl l.length ∧ l.length ≤ cl)
    (h : Sat (Blk p [.int .i64 A, .int .i64 Q, .slice bl l.length cl] 29 :: SlV 3 1 (.slice bl l.length cl) l.length (ints .i64 l) :: L) w) : Sat (RowO p A Q l :: L) w := by
  obtain ⟨_, ⟨g1, _, rfl, hg1, g3, f2, rfl, hg3, hp⟩, hh⟩ := h
  refine ⟨_, ⟨g1 ++ (g3 ++ []), f2, rfl, ⟨bl, cl, hk, g1, g3 ++ [], rfl, hg1, g3, [], rfl, hg3, rfl⟩, hp⟩, ?_⟩
  simpa [List.append_assoc] using hh
section
variable {K : Act → World → Prop} {W : World} {N' : Nat} {E : List (Nat × Value)} {L : List HP}
theorem t_openRow {p : Nat} {A Q : Int} {l : List Int} (k : ∀ bl cl, SlOk bl l.length → l.length ≤ cl → Tri K W N' E (Blk p [.int .i64 A, .int .i64 Q, .slice bl l.length cl] 29 :: SlV 3 1 (.slice bl l.length cl) l.length (ints .i64 l) :: L)) : Tri K W N' E (RowO p A Q l :: L) := fun a w s => by
  obtain ⟨bl, cl, h1, h2⟩ := s.sat.openRow
  exact k bl cl h1.1 h1.2 a w ⟨s.size, s.defers, s.env, h2, s.ext⟩
theorem t_shutRow {p : Nat} {A Q : Int} {l : List Int} {bl : Option Addr} {cl : Nat} (h1 : SlOk bl l.length) (h2 : l.length ≤ cl) (k : Tri K W N' E (RowO p A Q l :: L)) :
    Tri K W N' E (Blk p [.int .i64 A, .int .i64 Q, .slice bl l.length cl] 29 :: SlV 3 1 (.slice bl l.length cl) l.length (ints .i64 l) :: L) :=
  t_sat (fun _ hs => hs.shutRow ⟨h1, h2⟩) k
end
end Go.Proofs.Ythhmdcbhgnoemaa.Sp
