/- Contracts of the document's heap over what the keys say. -/
import Derived.Test.YtchnphachgcjmaaRr
import Derived.Test.YtchnphachgcjmaaHq
set_option maxRecDepth 100000
set_option linter.unusedVariables false
set_option linter.unusedSimpArgs false
namespace Go.Proofs.Ytchnphachgcjmaa
open Go Go.Proofs Sp
theorem rfirst_all {R : List HP} {p : Nat} {N : Int} {es : List (Int × Int)} {ks : Ks} (hes : es.length ≤ 65536) (h : PRow es ks) : Ok Try.prog 24 [.pointer (some ⟨p, 0, none⟩)] (RowQ 52 54 p N es :: R) (fun v M => v = .tuple #[.agg #[.int .i64 (fstI ks), .int .i64 (fstV ks)], .bool (fstB ks)] ∧ M = RowQ 52 54 p N es :: R) := by
  rcases Nat.eq_zero_or_pos es.length with h0 | h0
  · have he := h.empty h0
    rw [he.1, he.2.1, he.2.2.1]; exact rfirst_n hes h0
  · refine (rfirst_s hes h0).mono ?_
    rintro v M ⟨c, k, hk, hkc, hmin, rfl, rfl⟩
    have hf := h.first hk (fun j hj => by have := hmin j hj; unfold LeQ at this; rw [hkc]; exact this)
    rw [hkc] at hf
    rw [hf.1, hf.2.1, hf.2.2.1]; exact ⟨rfl, rfl⟩
theorem rpop_all {R : List HP} {p : Nat} {N : Int} {es : List (Int × Int)} {ks : Ks} (hes : es.length ≤ 65536) (h : PRow es ks) : Ok Try.prog 23 [.pointer (some ⟨p, 0, none⟩)] (RowQ 52 54 p N es :: R) (fun v M => v = .tuple #[.agg #[.int .i64 (fstI ks), .int .i64 (fstV ks)], .bool (fstB ks)] ∧ ∃ es' : List (Int × Int), PRow es' (popK ks) ∧ M = RowQ 52 54 p N es' :: R) := by
  rcases Nat.eq_zero_or_pos es.length with h0 | h0
  · have he := h.empty h0
    rw [he.1, he.2.1, he.2.2.1, he.2.2.2]; exact (rpop_n hes h0).mono fun v M ⟨a, b⟩ => ⟨a, es, h, b⟩
  · refine (rpop_s hes h0 (idx_inj h.nd)).mono ?_
    rintro v M ⟨c, k, hk, hkc, hmin, rfl, rfl⟩
    have hf := h.first hk (fun j hj => by have := hmin j hj; unfold LeQ at this; rw [hkc]; exact this)
    rw [hkc] at hf
    rw [hf.1, hf.2.1, hf.2.2.1, hf.2.2.2]
    have hq := h.erase hk
    rw [hkc] at hq
    exact ⟨rfl, _, hq, rfl⟩

theorem rkey_all {R : List HP} {p : Nat} {N : Int} {es : List (Int × Int)} {ks : Ks} (hes : es.length ≤ 65536) (h : PRow es ks) (x : Int) : Ok Try.prog 26 [.pointer (some ⟨p, 0, none⟩), .int .i64 x] (RowQ 52 54 p N es :: R) (fun v M => v = .tuple #[.int .i64 (keyK ks x), .bool (hasK ks x)] ∧ M = RowQ 52 54 p N es :: R) := by
  cases hh : hasK ks x with
  | true =>
    obtain ⟨k, hk, hkx, hall, hkv⟩ := h.has hh
    rw [← hkv]; exact rkey_ok hes hk hkx hall
  | false => rw [(not_has hh).1]; exact rkey_none hes (h.hasnt hh)
theorem rpush_all {R : List HP} {p : Nat} {N : Int} {es : List (Int × Int)} {ks : Ks} (hes : es.length ≤ 65536) (h : PRow es ks) (hkl : ks.length = hclamp N) (x t : Int) : Ok Try.prog 20 [.pointer (some ⟨p, 0, none⟩), .int .i64 x, .int .i64 t] (RowQ 52 54 p N es :: R) (fun v M => v = .int .i64 (pushE ks x) ∧ ∃ es' : List (Int × Int), PRow es' (pushK ks x t) ∧ M = RowQ 52 54 p N es' :: R) := by
  by_cases hr : 0 ≤ x ∧ x < min N 65536
  · have hin : 0 ≤ x ∧ x < ((ks.length : Nat) : Int) := by rw [hkl]; exact clamp_in.1 hr
    cases hh : hasK ks x with
    | true =>
      obtain ⟨k, hk, hkx, hall, hkv⟩ := h.has hh
      rw [(push8 hin hh t).1, (push8 hin hh t).2]; exact (rpush_state hes t hr hk hkx hall).mono fun v M ⟨a, b⟩ => ⟨a, es, h, b⟩
    | false => rw [(push0 hin hh t).1, (push0 hin hh t).2]; exact (rpush_new hes t hr (h.hasnt hh)).mono fun v M ⟨a, b⟩ => ⟨a, _, h.push hin hh t, b⟩
  · have hin : ¬ (0 ≤ x ∧ x < ((ks.length : Nat) : Int)) := by rw [hkl]; exact fun q => hr (clamp_in.2 q)
    rw [(push1 hin t).1, (push1 hin t).2.1]; exact (rpush_arg hes t hr).mono fun v M ⟨a, b⟩ => ⟨a, es, h, b⟩
theorem rlow_all {R : List HP} {p : Nat} {N : Int} {es : List (Int × Int)} {ks : Ks} (hes : es.length ≤ 65536) (h : PRow es ks) (hkl : ks.length = hclamp N) (x t : Int) : Ok Try.prog 21 [.pointer (some ⟨p, 0, none⟩), .int .i64 x, .int .i64 t] (RowQ 52 54 p N es :: R) (fun v M => v = .int .i64 (lowE ks x t) ∧ ∃ es' : List (Int × Int), PRow es' (lowK ks x t) ∧ M = RowQ 52 54 p N es' :: R) := by
  by_cases hr : 0 ≤ x ∧ x < min N 65536
  · have hin : 0 ≤ x ∧ x < ((ks.length : Nat) : Int) := by rw [hkl]; exact clamp_in.1 hr
    cases hh : hasK ks x with
    | true =>
      obtain ⟨k, hk, hkx, hall, hkv⟩ := h.has hh
      by_cases ht : t > keyK ks x
      · rw [(low3 hin hh ht).1, (low3 hin hh ht).2]; exact (rlow_rng hes t hr hk hkx hall (by rw [hkv]; exact ht)).mono fun v M ⟨a, b⟩ => ⟨a, es, h, b⟩
      · rw [(low0 hin hh ht).1, (low0 hin hh ht).2]
        have hq := h.low hk t
        refine (rlow_ok hes t hr hk hkx hall (by rw [hkv]; exact ht)).mono fun v M ⟨a, b⟩ => ⟨a, _, ?_, b⟩
        exact (show ks.set x.toNat (some t) = ks.set (es.getD k (0, 0)).1.toNat (some t) from by rw [hkx]) ▸ hq
    | false => rw [(low6 hin hh t).1, (low6 hin hh t).2.1]; exact (rlow_none hes t hr (h.hasnt hh)).mono fun v M ⟨a, b⟩ => ⟨a, es, h, b⟩
  · have hin : ¬ (0 ≤ x ∧ x < ((ks.length : Nat) : Int)) := by rw [hkl]; exact fun q => hr (clamp_in.2 q)
    rw [(push1 hin t).2.2.1, (push1 hin t).2.2.2.1]; exact (rlow_arg hes t hr).mono fun v M ⟨a, b⟩ => ⟨a, es, h, b⟩
theorem rrem_all {R : List HP} {p : Nat} {N : Int} {es : List (Int × Int)} {ks : Ks} (hes : es.length ≤ 65536) (h : PRow es ks) (hkl : ks.length = hclamp N) (x : Int) : Ok Try.prog 22 [.pointer (some ⟨p, 0, none⟩), .int .i64 x] (RowQ 52 54 p N es :: R) (fun v M => v = .tuple #[.int .i64 (keyK ks x), .int .i64 (remE ks x)] ∧ ∃ es' : List (Int × Int), PRow es' (remK ks x) ∧ M = RowQ 52 54 p N es' :: R) := by
  by_cases hr : 0 ≤ x ∧ x < min N 65536
  · have hin : 0 ≤ x ∧ x < ((ks.length : Nat) : Int) := by rw [hkl]; exact clamp_in.1 hr
    cases hh : hasK ks x with
    | true =>
      obtain ⟨k, hk, hkx, hall, hkv⟩ := h.has hh
      rw [(rem0 hin hh).1, (rem0 hin hh).2, ← hkv]
      have hq := h.erase hk
      refine (rrem_ok hes hr hk hkx hall).mono fun v M ⟨a, b⟩ => ⟨a, _, ?_, b⟩
      exact (show ks.set x.toNat none = ks.set (es.getD k (0, 0)).1.toNat none from by rw [hkx]) ▸ hq
    | false => rw [(not_has hh).1, (not_has hh).2, (low6 hin hh 0).2.2]; exact (rrem_none hes hr (h.hasnt hh)).mono fun v M ⟨a, b⟩ => ⟨a, es, h, b⟩
  · have hin : ¬ (0 ≤ x ∧ x < ((ks.length : Nat) : Int)) := by rw [hkl]; exact fun q => hr (clamp_in.2 q)
    rw [(not_known hin).2.2.1, (not_known hin).2.2.2, (push1 hin 0).2.2.2.2]; exact (rrem_arg hes hr).mono fun v M ⟨a, b⟩ => ⟨a, es, h, b⟩
end Go.Proofs.Ytchnphachgcjmaa
