/- Priorities, with one more edge: plain facts. No program in it. -/
import Derived.Test.YtlkcgpcgnhdnmaaDoorPrp
set_option linter.unusedVariables false
set_option linter.unusedSimpArgs false
namespace Go.Proofs.YtlkcgpcgnhdnmaaDoor.Sp
open Go
theorem rch_edge {E : Es} {a b c x : Int} (h : Rch (E ++ [(a, b)]) c x) : Rch E c x ∨ (Rch E c a ∧ Rch E b x) := by
  induction h with
  | refl => exact .inl .refl
  | step _ he ih =>
    rcases List.mem_append.1 he with he | he
    · rcases ih with ih | ⟨i1, i2⟩
      · exact .inl (ih.step he)
      · exact .inr ⟨i1, i2.step he⟩
    · have e := List.mem_singleton.1 he
      simp only [Prod.mk.injEq] at e
      obtain ⟨rfl, rfl⟩ := e
      rcases ih with ih | ⟨i1, i2⟩
      · exact .inr ⟨ih, .refl⟩
      · exact .inr ⟨i1, .refl⟩
theorem reachB_edgeI {N : Nat} {E : Es} {a b c x : Int} (hg : GOk N E) (ha : valid N a = true) (hb : valid N b = true) : reachB N (addE N E a b) c x = true ↔ (reachB N E c x = true ∨ (reachB N E c a = true ∧ reachB N E b x = true)) := by
  constructor
  · intro h
    unfold addE at h
    cases hn : isNew N E a b with
    | false => rw [hn] at h; exact .inl h
    | true =>
      rw [hn, cond_true] at h
      simp only [reachB, Bool.and_eq_true] at h ⊢
      rcases rch_edge (rch_iff.1 h.2) with h1 | ⟨h1, h2⟩
      · exact .inl ⟨h.1, rch_iff.2 h1⟩
      · exact .inr ⟨⟨⟨h.1.1, ha⟩, rch_iff.2 h1⟩, ⟨hb, h.1.2⟩, rch_iff.2 h2⟩
  · rintro (h | ⟨h1, h2⟩)
    · exact reachB_add h
    · refine reachB_trans (reachB_add h1) (reachB_trans ?_ (reachB_add h2))
      refine reachB_edge (hg.add a b) ?_
      unfold hasE addE isNew
      rw [ha, hb]
      cases hc : E.contains (a, b) with
      | true => simpa using hc
      | false => simp
theorem fold_in {N : Nat} {E : Es} {a b x : Int} (hg : GOk N E) (ha : valid N a = true) (hb : valid N b = true) (hx : reachB N E b x = true) : ∀ (rs : List R3) (m1 m2 : Int),
    rs.foldl (fun m r => if reachB N (addE N E a b) r.x x = true then max m r.z else m) (max m1 m2) =
      max (rs.foldl (fun m r => if reachB N E r.x x = true then max m r.z else m) m1) (rs.foldl (fun m r => if reachB N E r.x a = true then max m r.z else m) m2)
  | [], _, _ => rfl
  | r :: rs, m1, m2 => by
    rw [List.foldl_cons, List.foldl_cons, List.foldl_cons, ← fold_in hg ha hb hx rs]
    congr 1
    have hi := reachB_edgeI (c := r.x) (x := x) hg ha hb
    by_cases h1 : reachB N E r.x x = true
    · rw [if_pos h1, if_pos (hi.2 (.inl h1))]; split <;> omega
    · rw [if_neg h1]
      by_cases h2 : reachB N E r.x a = true
      · rw [if_pos h2, if_pos (hi.2 (.inr ⟨h2, hx⟩))]; omega
      · rw [if_neg h2, if_neg (fun h => by rcases hi.1 h with h | h; exact h1 h; exact h2 h.1)]
theorem fold_out {N : Nat} {E : Es} {a b x : Int} (hg : GOk N E) (ha : valid N a = true) (hb : valid N b = true) (hx : ¬ reachB N E b x = true) : ∀ (rs : List R3) (m : Int),
    rs.foldl (fun m r => if reachB N (addE N E a b) r.x x = true then max m r.z else m) m = rs.foldl (fun m r => if reachB N E r.x x = true then max m r.z else m) m
  | [], _ => rfl
  | r :: rs, m => by
    rw [List.foldl_cons, List.foldl_cons, fold_out hg ha hb hx rs]
    congr 1
    have hi := reachB_edgeI (c := r.x) (x := x) hg ha hb
    by_cases h1 : reachB N E r.x x = true
    · rw [if_pos h1, if_pos (hi.2 (.inl h1))]
    · rw [if_neg h1, if_neg (fun h => by rcases hi.1 h with h | h; exact h1 h; exact hx h.2)]
theorem prio_in {N : Nat} {E : Es} {a b x : Int} {rs : List R3} (hg : GOk N E) (ha : valid N a = true) (hb : valid N b = true) (hx : reachB N E b x = true) : prioX N (addE N E a b) rs x = max (prioX N E rs x) (prioX N E rs a) := by
  have := fold_in (a := a) hg ha hb hx rs (-1) (-1)
  rw [show max (-1 : Int) (-1) = -1 from rfl] at this; exact this
theorem prio_out {N : Nat} {E : Es} {a b x : Int} {rs : List R3} (hg : GOk N E) (ha : valid N a = true) (hb : valid N b = true) (hx : ¬ reachB N E b x = true) : prioX N (addE N E a b) rs x = prioX N E rs x := fold_out hg ha hb hx rs _
theorem addE_badv {N : Nat} {E : Es} {a b : Int} (h : ¬ (valid N a = true ∧ valid N b = true)) : addE N E a b = E := by
  unfold addE isNew
  cases h1 : valid N a with
  | false => simp
  | true => cases h2 : valid N b with
    | false => simp
    | true => exact absurd ⟨h1, h2⟩ h
end Go.Proofs.YtlkcgpcgnhdnmaaDoor.Sp
