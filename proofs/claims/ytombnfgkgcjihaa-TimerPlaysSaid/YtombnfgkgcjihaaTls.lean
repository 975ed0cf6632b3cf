/- Slices that begin somewhere within their block: what stands behind a cut in front. No program in it. -/
import Derived.Test.YtombnfgkgcjihaaOpm2
import Derived.Test.YtombnfgkgcjihaaVal
import Derived.ArgAppend
set_option linter.unusedVariables false
set_option linter.unusedSimpArgs false
namespace Go.Proofs.Ytombnfgkgcjihaa.Sp
open Go
section
variable {P : Program} {L : List HP} {E : List (Nat × Value)} {ty : TypeId} {K : Act → World → Prop} {W : World} {N : Nat}
def SlT (T sz : Nat) (v : Value) (n : Nat) (cs : List Value) : HP := fun f => cs.length = n * sz ∧
  ((v = .slice none 0 0 ∧ n = 0 ∧ f = []) ∨
   ∃ g o cap cur, v = .slice (some ⟨g, o, none⟩) n cap ∧ f = [(g, .cells cur T (0, 0))] ∧ n ≤ cap ∧ cap ≤ maxLen ∧ o + cap * sz ≤ cur.size ∧ (cur.toList.drop o).take (n * sz) = cs)
theorem slv_slt {T sz n : Nat} {v : Value} {cs : List Value} {w : World} (h : Sat (SlV T sz v n cs :: L) w) : Sat (SlT T sz v n cs :: L) w := h.imp fun f hf => by
  obtain ⟨hl, hf⟩ := hf
  refine ⟨hl, ?_⟩
  rcases hf with hf | ⟨g, cap, cur, h1, h2, h3, h4, h5, h6⟩
  · exact .inl hf
  · exact .inr ⟨g, 0, cap, cur, h1, h2, h3, h4, by omega, by simpa using h6⟩
theorem slt_facts {T sz n cp : Nat} {bs : Option Addr} {cs : List Value} {w : World} (h : Sat (SlT T sz (.slice bs n cp) n cs :: L) w) : SlOk bs n ∧ n ≤ cp := by
  obtain ⟨_, ⟨f1, f2, rfl, ⟨hl, hf⟩, hp⟩, hh⟩ := h
  rcases hf with ⟨hv, h0, _⟩ | ⟨g, o, cap, cur, hv, _, h2, _⟩
  · simp only [Value.slice.injEq] at hv; obtain ⟨rfl, rfl, rfl⟩ := hv; exact ⟨fun hz => by omega, Nat.le_refl _⟩
  · simp only [Value.slice.injEq, true_and] at hv; obtain ⟨rfl, rfl⟩ := hv; exact ⟨fun _ => ⟨g, o, rfl⟩, h2⟩
theorem gives_slt {T sz n k : Nat} {cs : List Value} {bs : Option Addr} {cp : Nat} {u : Value} (hm : SlT T sz (.slice bs n cp) n cs ∈ L) (hu : cs[k]? = some u) : Gives L (ad bs k) u := by
  intro w hs
  obtain ⟨f, ⟨hl, hf⟩, hh⟩ := hs.mem hm
  have hk : k < cs.length := (List.getElem?_eq_some_iff.1 hu).1
  rcases hf with ⟨_, h0, _⟩ | ⟨g, o, cap, cur, hv, rfl, h2, h3, h4, h5⟩
  · subst h0; simp at hl; rw [hl] at hk; simp at hk
  simp only [Value.slice.injEq, true_and] at hv
  obtain ⟨rfl, rfl⟩ := hv
  have hb := hh.2 (g, .cells cur T (0, 0)) (by simp)
  rw [ad_some, cell_of_row w g (o + k) _ _ _ hb]
  rw [← h5, List.getElem?_take, List.getElem?_drop] at hu
  split at hu
  · simpa using hu
  · cases hu
theorem rd_slt {T sz n : Nat} {cs : List Value} {bs : Option Addr} {cp : Nat} (hm : SlT T sz (.slice bs n cp) n cs ∈ L) : Rd L bs cs := fun w hs _ _ hu => gives_slt hm hu w hs
theorem slt_tail {T sz n cp l n' c' : Nat} {bs : Option Addr} {cs : List Value} {w : World} (hl : l ≤ n) (h0 : 0 < n) (hn : n - l = n') (hc : cp - l = c') (h : Sat (SlT T sz (.slice bs n cp) n cs :: L) w) : Sat (SlT T sz (.slice (sbase bs l cp sz) n' c') n' (cs.drop (l * sz)) :: L) w := h.imp fun f hf => by
  subst hn; subst hc
  obtain ⟨hcl, hf⟩ := hf
  refine ⟨by rw [List.length_drop, hcl, Nat.sub_mul], ?_⟩
  rcases hf with ⟨hv, h1, _⟩ | ⟨g, o, cap, cur, hv, rfl, h2, h3, h4, h5⟩
  · omega
  simp only [Value.slice.injEq, true_and] at hv
  obtain ⟨rfl, rfl⟩ := hv
  unfold sbase
  cases he : Nat.beq cp l with
  | true =>
    have := Nat.eq_of_beq_eq_true he
    have e0 : n - l = 0 := by omega
    have e1 : cs.drop (l * sz) = [] := List.drop_eq_nil_of_le (by rw [hcl]; exact Nat.mul_le_mul_right _ (by omega))
    refine .inr ⟨g, o, cp - l, cur, rfl, rfl, by omega, by omega, ?_, ?_⟩
    · have : (cp - l) * sz ≤ cp * sz := Nat.mul_le_mul_right _ (by omega)
      omega
    · rw [e1, e0]; simp
  | false =>
    refine .inr ⟨g, o + l * sz, cp - l, cur, by simp [add_plain], rfl, by omega, by omega, ?_, ?_⟩
    · have : l * sz + (cp - l) * sz = cp * sz := by rw [← Nat.add_mul]; congr 1; omega
      omega
    · rw [← h5, List.drop_take, List.drop_drop, ← Nat.sub_mul]
/-- a slice of this sort is handed out -/
def OutSt (T sz n : Nat) (cs : List Value) (L : List HP) : Value → List HP → Prop := fun v M =>
  ∃ bs cp, SlOk bs n ∧ n ≤ cp ∧ v = .slice bs n cp ∧ M = SlT T sz (.slice bs n cp) n cs :: L
theorem mv_appendT {t e : TypeId} {i : TypeInfo} {z : Value} {sz : Nat} {s x : Operand} {bs bx : Option Addr} {n cp m c : Nat} {cs news : List Value} (hu : P.underlying t = some (.slice e)) (hi : P.info? e = some i) (hz : i.zero = some z)
    (hsz : i.size = sz) (hzs : z.cells.size = sz) (hpos : 0 < sz) (hs' : ev E s = some (.slice bs n cp)) (hx : ev E x = some (.slice bx m c)) (hok : SlOk bx m) (hl : news.length = m * sz) (hrd : Rd (SlT e sz (.slice bs n cp) n cs :: L) bx news)
    (h1 : ∀ u ∈ news, u.oneCell' = true) (hmax : (n + m) * (i.bytes + 1) ≤ 140737488355328) :
    MV P E (SlT e sz (.slice bs n cp) n cs :: L) (.call { callee := .builtin .append, args := #[s, x], argTypes := #[t, t] }) ty (OutSt e sz (n + m) (cs ++ news) L) := by
  intro ρ h w hs d pos af g
  subst hsz
  have hnm : n + m ≤ 140737488355328 := Nat.le_trans (Nat.le_mul_of_pos_right _ (by omega)) hmax
  have hbytes : (n + m) * i.bytes ≤ 140737488355328 := Nat.le_trans (Nat.mul_le_mul_left _ (by omega)) hmax
  have run : ∀ v w', (Builtin.append_ #[t, t] ty #[.slice bs n cp, .slice bx m c]).run P w = .ok v w' →
      (execOp ρ ⟨d, .call { callee := .builtin .append, args := #[s, x], argTypes := #[t, t] }, ty, pos, af, g⟩).run P w = .ok (.value v) w' := by
    intro v w' e
    simp [execOp, resolve, h s _ hs', h x _ hx, invoke, builtin, e]
  obtain ⟨fall, ⟨f1, f2, rfl, ⟨hcl, hf⟩, hp⟩, hh⟩ := id hs
  have hrest : Sat L w := hs.drop
  by_cases hm0 : m = 0
  · subst hm0
    have hn0 : news = [] := List.eq_nil_of_length_eq_zero (by simpa using hl)
    subst hn0
    have hfc : ∀ bx : Option Addr, (Builtin.firstCells i.size 0 (.slice bx 0 c)).run P w = .ok #[] w := by
      intro bx; cases bx <;> simp [Builtin.firstCells, loadCells, loadCellsFrom]
    obtain ⟨hok', hle⟩ := slt_facts hs
    refine ⟨_, w, _, run _ _ ?_, ⟨bs, cp, hok', hle, rfl, rfl⟩, by simpa using hs, .refl _⟩
    cases bs <;> simp [Builtin.append_, run_underlying hu, sizeOf, typeInfo, hi, Builtin.lenOf, hle, hfc, storeCells]
  · obtain ⟨ab, ao, rfl⟩ := hok (by omega)
    have hnews' : ∀ j u, news[j]? = some u → w.cell? ((⟨ab, ao, none⟩ : Addr).add j) = some u := by
      intro j u hu'
      have := hrd w hs j u hu'
      rwa [add_plain]
    rcases hf with ⟨hv, h0, rfl⟩ | ⟨gb, o, cap, cur, hv, rfl, h2, h3, h4, h5⟩
    · simp only [Value.slice.injEq] at hv
      obtain ⟨rfl, rfl, rfl⟩ := hv
      have hcs : cs = [] := List.eq_nil_of_length_eq_zero (by simpa using hcl)
      subst hcs
      simp only [Nat.zero_add] at hbytes hnm
      have hr := run_append_nil (P := P) w t ty e i z hu hi hz ⟨ab, ao, none⟩ m c news hl hnews' (by omega) (by omega) (by omega)
      have u := upd_drew_alloc w (.cells (news.toArray ++ Builtin.zeroCells z.cells (grownCap w m 0 e - m)) e)
      have hge := grownCap_ge w m 0 e
      have hle := grownCap_le_maxLen w m 0 e (by unfold maxLen; omega)
      refine ⟨_, _, _, run _ _ hr, ⟨_, _, slok_some w.heap.size _, ?_, by rw [Nat.zero_add], rfl⟩, ?_, u.ext (.inl (heap_size_none w))⟩
      · simpa using hge
      · simp only [Nat.zero_add, List.nil_append]
        refine slv_slt (slv_new hl hge hle ?_ ?_ hrest (heap_size_none w) u)
        · simp only [Array.size_append, List.size_toArray, size_zeroCells, hzs, hl, ← Nat.add_mul]; congr 1; omega
        · simp only [Array.toList_append]; rw [← hl]; exact List.take_left
    · simp only [Value.slice.injEq, true_and] at hv
      obtain ⟨rfl, rfl⟩ := hv
      have hb := hh.2 (gb, .cells cur e (0, 0)) (by simp)
      have hlen : (cs ++ news).length = (n + m) * i.size := by rw [List.length_append, hcl, hl, Nat.add_mul]
      have hcl' : cur.toList.length = cur.size := Array.length_toList
      by_cases hroom : n + m ≤ cp
      · have hmul : (n + m) * i.size ≤ cp * i.size := Nat.mul_le_mul_right _ hroom
        have hmul2 : (n + m) * i.size = n * i.size + news.length := by rw [hl, Nat.add_mul]
        have hfc := run_firstCells_some (P := P) w i.size m ⟨ab, ao, none⟩ m c news hl hnews'
        have hst := run_storeCells_at P gb (o + n * i.size) e news 0 cur w hb (by omega) h1
        simp only [Nat.add_zero] at hst
        have u := upd_setRow hb (cur.toList.take (o + n * i.size) ++ news ++ cur.toList.drop (o + n * i.size + news.length)).toArray
        have hs2 : Sat (one gb (.cells cur e (0, 0)) :: L) w := ⟨_, ⟨_, f2, rfl, rfl, hp⟩, hh⟩
        refine ⟨_, _, _, run _ _ ?_, ⟨_, _, fun _ => ⟨gb, o, rfl⟩, hroom, rfl, rfl⟩, (hs2.upd u).imp fun f hf => ⟨hlen, .inr ⟨gb, o, cp, _, rfl, hf, hroom, h3, ?_, ?_⟩⟩, u.ext (.inr ⟨_, _, hb⟩)⟩
        · simp [Builtin.append_, run_underlying hu, sizeOf, typeInfo, hi, Builtin.lenOf, hroom, hfc, Addr.add_lit, hst]
        · simp only [List.size_toArray, List.length_append, List.length_take, List.length_drop, Array.length_toList]; omega
        · have e1 : (cur.toList.take (o + n * i.size) ++ news ++ cur.toList.drop (o + n * i.size + news.length)).drop o = (cur.toList.drop o).take (n * i.size) ++ news ++ cur.toList.drop (o + n * i.size + news.length) := by
            rw [List.append_assoc, List.drop_append_of_le_length (by rw [List.length_take]; omega), List.drop_take, show o + n * i.size - o = n * i.size by omega, List.append_assoc]
          rw [e1, h5, ← hlen]; exact List.take_left
      · have holds : ∀ j u, cs[j]? = some u → w.cell? ((⟨gb, o, none⟩ : Addr).add j) = some u := by
          intro j u hu'
          have := gives_slt (L := SlT e i.size (.slice (some ⟨gb, o, none⟩) n cp) n cs :: L) (List.mem_cons_self ..) hu' w hs
          rwa [add_plain]
        have hr := run_append_grow (P := P) w t ty e i z hu hi hz ⟨gb, o, none⟩ n cp cs hcl holds ⟨ab, ao, none⟩ m c news hl hnews' (by omega) (by omega) (growslice_fits (by omega) hbytes)
        have u := upd_drew_alloc w (.cells (cs.toArray ++ news.toArray ++ Builtin.zeroCells z.cells (grownCap w (n + m) cp e - (n + m))) e)
        have hge := grownCap_ge w (n + m) cp e
        have hle := grownCap_le_maxLen w (n + m) cp e (by unfold maxLen; omega)
        refine ⟨_, _, _, run _ _ hr, ⟨_, _, slok_some w.heap.size _, hge, rfl, rfl⟩, slv_slt (slv_new hlen hge hle ?_ ?_ hrest (heap_size_none w) u), u.ext (.inl (heap_size_none w))⟩
        · simp only [Array.size_append, List.size_toArray, size_zeroCells, hzs, hcl, hl, ← Nat.add_mul]; congr 1; omega
        · simp only [Array.toList_append, List.append_assoc]
          rw [← List.append_assoc, ← hlen]
          exact List.take_left
end
end Go.Proofs.Ytombnfgkgcjihaa.Sp
