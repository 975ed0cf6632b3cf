/- append, after which the first operand is read again. No program in it. -/
import Derived.Test.YtlkcgpcgnhdnmaaDoorDrw
set_option linter.unusedVariables false
set_option linter.unusedSimpArgs false
namespace Go.Proofs.YtlkcgpcgnhdnmaaDoor.Sp
open Go
variable {P : Program} {L : List HP} {E : List (Nat × Value)} {ty : TypeId}
theorem mv_appendKeep {t e : TypeId} {i : TypeInfo} {z : Value} {sz : Nat} {s x : Operand} {bs bx : Option Addr} {n cp m c : Nat} {cs news : List Value} (hu : P.underlying t = some (.slice e)) (hi : P.info? e = some i) (hz : i.zero = some z)
    (hsz : i.size = sz) (hzs : z.cells.size = sz) (hpos : 0 < sz) (hs' : ev E s = some (.slice bs n cp)) (hx : ev E x = some (.slice bx m c)) (hok : SlOk bx m) (hm0 : 0 < m) (hl : news.length = m * sz) (hrd : Rd (SlV e sz (.slice bs n cp) n cs :: L) bx news)
    (h1 : ∀ u ∈ news, u.oneCell' = true) (hmax : (n + m) * (i.bytes + 1) ≤ 140737488355328) :
    MV P E (SlV e sz (.slice bs n cp) n cs :: L) (.call { callee := .builtin .append, args := #[s, x], argTypes := #[t, t] }) ty
      (fun v M => (SlOk bs (n + m) ∧ n + m ≤ cp ∧ v = .slice bs (n + m) cp ∧ M = SlV e sz (.slice bs (n + m) cp) (n + m) (cs ++ news) :: L) ∨
        (∃ bs' cp', SlOk bs' (n + m) ∧ n + m ≤ cp' ∧ v = .slice bs' (n + m) cp' ∧ M = SlV e sz (.slice bs' (n + m) cp') (n + m) (cs ++ news) :: SlV e sz (.slice bs n cp) n cs :: L)) := by
  intro ρ h w hs d pos af g
  subst hsz
  have hnm : n + m ≤ 140737488355328 := Nat.le_trans (Nat.le_mul_of_pos_right _ (by omega)) hmax
  have hbytes : (n + m) * i.bytes ≤ 140737488355328 := Nat.le_trans (Nat.mul_le_mul_left _ (by omega)) hmax
  have run : ∀ v w', (Builtin.append_ #[t, t] ty #[.slice bs n cp, .slice bx m c]).run P w = .ok v w' →
      (execOp ρ ⟨d, .call { callee := .builtin .append, args := #[s, x], argTypes := #[t, t] }, ty, pos, af, g⟩).run P w = .ok (.value v) w' := by
    intro v w' e
    simp [execOp, resolve, h s _ hs', h x _ hx, invoke, builtin, e]
  obtain ⟨fall, ⟨f1, f2, rfl, ⟨hcl, hf⟩, hp⟩, hh⟩ := id hs
  have hrest : Sat L w := hs.drop
  obtain ⟨ab, ao, rfl⟩ := hok (by omega)
  have hnews' : ∀ j u, news[j]? = some u → w.cell? ((⟨ab, ao, none⟩ : Addr).add j) = some u := by
    intro j u hu'
    have := hrd w hs j u hu'
    rwa [add_plain]
  rcases hf with ⟨hv, h0, rfl⟩ | ⟨gb, cap, cur, hv, rfl, h2, h3, h4, h5⟩
  · -- the nil slice
    simp only [Value.slice.injEq] at hv
    obtain ⟨rfl, rfl, rfl⟩ := hv
    have hcs : cs = [] := List.eq_nil_of_length_eq_zero (by simpa using hcl)
    subst hcs
    simp only [Nat.zero_add] at hbytes hnm
    have hr := run_append_nil (P := P) w t ty e i z hu hi hz ⟨ab, ao, none⟩ m c news hl hnews' (by omega) (by omega) (by omega)
    have u := upd_drew_alloc w (.cells (news.toArray ++ Builtin.zeroCells z.cells (grownCap w m 0 e - m)) e)
    have hge := grownCap_ge w m 0 e
    have hle := grownCap_le_maxLen w m 0 e (by unfold maxLen; omega)
    refine ⟨_, _, _, run _ _ hr, .inr ⟨_, _, slok_some w.heap.size _, ?_, by rw [Nat.zero_add], rfl⟩, ?_, u.ext (.inl (heap_size_none w))⟩
    · simpa using hge
    · simp only [Nat.zero_add, List.nil_append]
      refine slv_new hl hge hle ?_ ?_ hs (heap_size_none w) u
      · simp only [Array.size_append, List.size_toArray, size_zeroCells, hzs, hl, ← Nat.add_mul]; congr 1; omega
      · simp only [Array.toList_append]; rw [← hl]; exact List.take_left
  · simp only [Value.slice.injEq, true_and] at hv
    obtain ⟨rfl, rfl⟩ := hv
    have hb := hh.2 (gb, .cells cur e (0, 0)) (by simp)
    have hlen : (cs ++ news).length = (n + m) * i.size := by rw [List.length_append, hcl, hl, Nat.add_mul]
    by_cases hroom : n + m ≤ cp
    · have hfit : n * i.size + news.length ≤ cur.size := by rw [hl, h4, ← Nat.add_mul]; exact Nat.mul_le_mul_right _ hroom
      have hr := run_append_room (P := P) w t ty e i hu hi gb n cp cur hb ⟨ab, ao, none⟩ m c news hl hnews' h1 hroom hfit
      have u := upd_setRow hb (cur.toList.take (n * i.size) ++ news ++ cur.toList.drop (n * i.size + news.length)).toArray
      have hs2 : Sat (one gb (.cells cur e (0, 0)) :: L) w := ⟨_, ⟨_, f2, rfl, rfl, hp⟩, hh⟩
      refine ⟨_, _, _, run _ _ hr, .inl ⟨slok_some gb _, hroom, rfl, rfl⟩, (hs2.upd u).imp fun f hf => ⟨hlen, .inr ⟨gb, cp, _, rfl, hf, hroom, h3, ?_, ?_⟩⟩, u.ext (.inr ⟨_, _, hb⟩)⟩
      · simp only [List.size_toArray, List.length_append, List.length_take, List.length_drop, Array.length_toList]; omega
      · rw [h5, ← hlen]; exact List.take_left
    · have holds : ∀ j u, cs[j]? = some u → w.cell? ((⟨gb, 0, none⟩ : Addr).add j) = some u := by
        intro j u hu'
        have := gives_sl (L := SlV e i.size (.slice (some ⟨gb, 0, none⟩) n cp) n cs :: L) (List.mem_cons_self ..) hu' w hs
        rwa [add_plain]
      have hr := run_append_grow (P := P) w t ty e i z hu hi hz ⟨gb, 0, none⟩ n cp cs hcl holds ⟨ab, ao, none⟩ m c news hl hnews' (by omega) (by omega) (growslice_fits (by omega) hbytes)
      have u := upd_drew_alloc w (.cells (cs.toArray ++ news.toArray ++ Builtin.zeroCells z.cells (grownCap w (n + m) cp e - (n + m))) e)
      have hge := grownCap_ge w (n + m) cp e
      have hle := grownCap_le_maxLen w (n + m) cp e (by unfold maxLen; omega)
      refine ⟨_, _, _, run _ _ hr, .inr ⟨_, _, slok_some w.heap.size _, hge, rfl, rfl⟩, slv_new hlen hge hle ?_ ?_ hs (heap_size_none w) u, u.ext (.inl (heap_size_none w))⟩
      · simp only [Array.size_append, List.size_toArray, size_zeroCells, hzs, hcl, hl, ← Nat.add_mul]; congr 1; omega
      · simp only [Array.toList_append, List.append_assoc]
        rw [← List.append_assoc, ← hlen]
        exact List.take_left
end Go.Proofs.YtlkcgpcgnhdnmaaDoor.Sp
