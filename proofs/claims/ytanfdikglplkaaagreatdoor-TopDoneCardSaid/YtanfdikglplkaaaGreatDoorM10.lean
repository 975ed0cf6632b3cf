/- Parts Vtb, Tls, Pur, Pik, Cpy, Rpt, Pib, LawB, LawR, Apa, Bot, Rea, Pro: own lemmas and contracts of the code that the claim reaches. -/
import Derived.Test.YtanfdikglplkaaaGreatDoorM08
import Derived.Test.YtanfdikglplkaaaGreatDoorM09
import Derived.Test.YtanfdikglplkaaaGreatDoorM04
import Derived.Test.YtanfdikglplkaaaGreatDoorM02
import Derived.ArgAppend
import Derived.Test.YtanfdikglplkaaaGreatDoorM03
import Derived.Laws.CopyRow
import Derived.Deep.Grids
import Derived.Test.YtanfdikglplkaaaGreatDoorM05
import Derived.Deep.Strs
import Derived.Lib.SmallJoins
set_option linter.unusedSimpArgs false
set_option linter.unusedVariables false
namespace Go.Proofs.YtanfdikglplkaaaGreatDoor.Sp
open Go
def VTab (r : Nat) (L : List HP) : Prop := Gives L ⟨0, 0, none⟩ (.map (some r)) ∧ ∀ w, Sat L w → ∃ es ck, w.heap[r]? = some (.map es ck) ∧
  ∀ k : Int, 5 ≤ k → k ≤ 7 → ∃ n, Instr.findNow (.int .i64) (.int .i64 k) es.toList 0 = some (some (n, .int .i64 (verd k)))
theorem VTab.cons {r : Nat} {A : HP} {L : List HP} (h : VTab r L) : VTab r (A :: L) := ⟨.cons h.1, fun w hs => h.2 w hs.drop⟩
section
variable {P : Program} {E : List (Nat × Value)} {L : List HP} {ty : TypeId}
theorem lv_vlook {t kt et : TypeId} {m ix : Operand} {r : Nat} {x : Int} (hV : VTab r L) (hu : P.underlying t = some (.map kt et)) (hk : P.underlying kt = some (.int .i64))
    (hm : ev E m = some (.map (some r))) (hx : ev E ix = some (.int .i64 x)) (h5 : 5 ≤ x) (h7 : x ≤ 7) : LV P E L (.lookup t m ix false) ty (.int .i64 (verd x)) := by
  intro ρ h w hs d pos af g
  obtain ⟨es, ck, hb, hf⟩ := hV.2 w hs
  obtain ⟨n, hn⟩ := hf x h5 h7
  have e1 : ∀ e, (Instr.checkKey e 10000 kt (.int .i64 x)).run P w = .ok () w := fun e => MapKept.run_checkKey hk (show MapKept.IsKey (.int .i64) (.int .i64 x) from rfl) e 9999
  have e2 : (Instr.findKey kt (.int .i64 x) es.toList).run P w = .ok (some (n, .int .i64 (verd x))) w := MapKept.run_findKey hk hn
  simp [execOp, h m _ hm, h ix _ hx, Instr.lookup, run_underlying hu, MapKept.run_getObj_map hb, e1, e2, Result.andThen]
theorem lv_makeFuncM {f : Fn} {xs : List Operand} {vs : List Value} (hx : evs E xs = some vs) : LV P E L (.makeFunc f xs.toArray #[]) ty (.func f vs.toArray #[]) := by
  intro ρ h w _ d pos af g
  simp [execOp, Instr.makeFunc, h.evs hx]
end
end Go.Proofs.YtanfdikglplkaaaGreatDoor.Sp
namespace Go.Proofs.YtanfdikglplkaaaGreatDoor.Sp
open Go
section
variable {P : Program} {L : List HP} {E : List (Nat × Value)} {ty : TypeId} {K : Act → World → Prop} {W : World} {N : Nat}
def SlT (T sz : Nat) (v : Value) (n : Nat) (cs : List Value) : HP := fun f => cs.length = n * sz ∧
  ((v = .slice none 0 0 ∧ n = 0 ∧ f = []) ∨
   ∃ g o cap cur, v = .slice (some ⟨g, o, none⟩) n cap ∧ f = [(g, .cells cur T (0, 0))] ∧ n ≤ cap ∧ cap ≤ maxLen ∧ o + cap * sz ≤ cur.size ∧ (cur.toList.drop o).take (n * sz) = cs)
theorem slv_slt {T sz n : Nat} {v : Value} {cs : List Value} {w : World} (h : Sat (SlV T sz v n cs :: L) w) : Sat (SlT T sz v n cs :: L) w := h.imp fun f hf => by
  obtain ⟨hl, hf⟩ := hf
  refine ⟨hl, ?_⟩
  rcases hf with hf | ⟨g, cap, cur, h1, h2, h3, h4, h5, h6⟩
  · exact .inl hf
  · exact .inr ⟨g, 0, cap, cur, h1, h2, h3, h4, by omega, by simpa using h6⟩
theorem slt_facts {T sz n cp : Nat} {bs : Option Addr} {cs : List Value} {w : World} (h : Sat (SlT T sz (.slice bs n cp) n cs :: L) w) : SlOk bs n ∧ n ≤ cp := by
  obtain ⟨_, ⟨f1, f2, rfl, ⟨hl, hf⟩, hp⟩, hh⟩ := h
  rcases hf with ⟨hv, h0, _⟩ | ⟨g, o, cap, cur, hv, _, h2, _⟩
  · simp only [Value.slice.injEq] at hv; obtain ⟨rfl, rfl, rfl⟩ := hv; exact ⟨fun hz => by omega, Nat.le_refl _⟩
  · simp only [Value.slice.injEq, true_and] at hv; obtain ⟨rfl, rfl⟩ := hv; exact ⟨fun _ => ⟨g, o, rfl⟩, h2⟩
theorem gives_slt {T sz n k : Nat} {cs : List Value} {bs : Option Addr} {cp : Nat} {u : Value} (hm : SlT T sz (.slice bs n cp) n cs ∈ L) (hu : cs[k]? = some u) : Gives L (ad bs k) u := by
  intro w hs
  obtain ⟨f, ⟨hl, hf⟩, hh⟩ := hs.mem hm
  have hk : k < cs.length := (List.getElem?_eq_some_iff.1 hu).1
  rcases hf with ⟨_, h0, _⟩ | ⟨g, o, cap, cur, hv, rfl, h2, h3, h4, h5⟩
  · subst h0; simp at hl; rw [hl] at hk; simp at hk
  simp only [Value.slice.injEq, true_and] at hv
  obtain ⟨rfl, rfl⟩ := hv
  have hb := hh.2 (g, .cells cur T (0, 0)) (by simp)
  rw [ad_some, cell_of_row w g (o + k) _ _ _ hb]
  rw [← h5, List.getElem?_take, List.getElem?_drop] at hu
  split at hu
  · simpa using hu
  · cases hu
theorem slt_tail {T sz n cp l n' c' : Nat} {bs : Option Addr} {cs : List Value} {w : World} (hl : l ≤ n) (h0 : 0 < n) (hn : n - l = n') (hc : cp - l = c') (h : Sat (SlT T sz (.slice bs n cp) n cs :: L) w) : Sat (SlT T sz (.slice (sbase bs l cp sz) n' c') n' (cs.drop (l * sz)) :: L) w := h.imp fun f hf => by
  subst hn; subst hc
  obtain ⟨hcl, hf⟩ := hf
  refine ⟨by rw [List.length_drop, hcl, Nat.sub_mul], ?_⟩
  rcases hf with ⟨hv, h1, _⟩ | ⟨g, o, cap, cur, hv, rfl, h2, h3, h4, h5⟩
  · omega
  simp only [Value.slice.injEq, true_and] at hv
  obtain ⟨rfl, rfl⟩ := hv
  unfold sbase
  cases he : Nat.beq cp l with
  | true =>
    have := Nat.eq_of_beq_eq_true he
    have e0 : n - l = 0 := by omega
    have e1 : cs.drop (l * sz) = [] := List.drop_eq_nil_of_le (by rw [hcl]; exact Nat.mul_le_mul_right _ (by omega))
    refine .inr ⟨g, o, cp - l, cur, rfl, rfl, by omega, by omega, ?_, ?_⟩
    · have : (cp - l) * sz ≤ cp * sz := Nat.mul_le_mul_right _ (by omega)
      omega
    · rw [e1, e0]; simp
  | false =>
    refine .inr ⟨g, o + l * sz, cp - l, cur, by simp [add_plain], rfl, by omega, by omega, ?_, ?_⟩
    · have : l * sz + (cp - l) * sz = cp * sz := by rw [← Nat.add_mul]; congr 1; omega
      omega
    · rw [← h5, List.drop_take, List.drop_drop, ← Nat.sub_mul]
def OutSt (T sz n : Nat) (cs : List Value) (L : List HP) : Value → List HP → Prop := fun v M =>
  ∃ bs cp, SlOk bs n ∧ n ≤ cp ∧ v = .slice bs n cp ∧ M = SlT T sz (.slice bs n cp) n cs :: L
theorem mv_appendT {t e : TypeId} {i : TypeInfo} {z : Value} {sz : Nat} {s x : Operand} {bs bx : Option Addr} {n cp m c : Nat} {cs news : List Value} (hu : P.underlying t = some (.slice e)) (hi : P.info? e = some i) (hz : i.zero = some z)
    (hsz : i.size = sz) (hzs : z.cells.size = sz) (hpos : 0 < sz) (hs' : ev E s = some (.slice bs n cp)) (hx : ev E x = some (.slice bx m c)) (hok : SlOk bx m) (hl : news.length = m * sz) (hrd : Rd (SlT e sz (.slice bs n cp) n cs :: L) bx news)
    (h1 : ∀ u ∈ news, u.oneCell' = true) (hmax : (n + m) * (i.bytes + 1) ≤ 140737488355328) :
    MV P E (SlT e sz (.slice bs n cp) n cs :: L) (.call { callee := .builtin .append, args := #[s, x], argTypes := #[t, t] }) ty (OutSt e sz (n + m) (cs ++ news) L) := by
  intro ρ h w hs d pos af g
  subst hsz
  have hnm : n + m ≤ 140737488355328 := Nat.le_trans (Nat.le_mul_of_pos_right _ (by omega)) hmax
  have hbytes : (n + m) * i.bytes ≤ 140737488355328 := Nat.le_trans (Nat.mul_le_mul_left _ (by omega)) hmax
  have run : ∀ v w', (Builtin.append_ #[t, t] ty #[.slice bs n cp, .slice bx m c]).run P w = .ok v w' →
      (execOp ρ ⟨d, .call { callee := .builtin .append, args := #[s, x], argTypes := #[t, t] }, ty, pos, af, g⟩).run P w = .ok (.value v) w' := by
    intro v w' e
    simp [execOp, resolve, h s _ hs', h x _ hx, invoke, builtin, e]
  obtain ⟨fall, ⟨f1, f2, rfl, ⟨hcl, hf⟩, hp⟩, hh⟩ := id hs
  have hrest : Sat L w := hs.drop
  by_cases hm0 : m = 0
  · subst hm0
    have hn0 : news = [] := List.eq_nil_of_length_eq_zero (by simpa using hl)
    subst hn0
    have hfc : ∀ bx : Option Addr, (Builtin.firstCells i.size 0 (.slice bx 0 c)).run P w = .ok #[] w := by
      intro bx; cases bx <;> simp [Builtin.firstCells, loadCells, loadCellsFrom]
    obtain ⟨hok', hle⟩ := slt_facts hs
    refine ⟨_, w, _, run _ _ ?_, ⟨bs, cp, hok', hle, rfl, rfl⟩, by simpa using hs, .refl _⟩
    cases bs <;> simp [Builtin.append_, run_underlying hu, sizeOf, typeInfo, hi, Builtin.lenOf, hle, hfc, storeCells]
  · obtain ⟨ab, ao, rfl⟩ := hok (by omega)
    have hnews' : ∀ j u, news[j]? = some u → w.cell? ((⟨ab, ao, none⟩ : Addr).add j) = some u := by
      intro j u hu'
      have := hrd w hs j u hu'
      rwa [add_plain]
    rcases hf with ⟨hv, h0, rfl⟩ | ⟨gb, o, cap, cur, hv, rfl, h2, h3, h4, h5⟩
    · simp only [Value.slice.injEq] at hv
      obtain ⟨rfl, rfl, rfl⟩ := hv
      have hcs : cs = [] := List.eq_nil_of_length_eq_zero (by simpa using hcl)
      subst hcs
      simp only [Nat.zero_add] at hbytes hnm
      have hr := run_append_nil (P := P) w t ty e i z hu hi hz ⟨ab, ao, none⟩ m c news hl hnews' (by omega) (by omega) (by omega)
      have u := upd_drew_alloc w (.cells (news.toArray ++ Builtin.zeroCells z.cells (grownCap w m 0 e - m)) e)
      have hge := grownCap_ge w m 0 e
      have hle := grownCap_le_maxLen w m 0 e (by unfold maxLen; omega)
      refine ⟨_, _, _, run _ _ hr, ⟨_, _, slok_some w.heap.size _, ?_, by rw [Nat.zero_add], rfl⟩, ?_, u.ext (.inl (heap_size_none w))⟩
      · simpa using hge
      · simp only [Nat.zero_add, List.nil_append]
        refine slv_slt (slv_new hl hge hle ?_ ?_ hrest (heap_size_none w) u)
        · simp only [Array.size_append, List.size_toArray, size_zeroCells, hzs, hl, ← Nat.add_mul]; congr 1; omega
        · simp only [Array.toList_append]; rw [← hl]; exact List.take_left
    · simp only [Value.slice.injEq, true_and] at hv
      obtain ⟨rfl, rfl⟩ := hv
      have hb := hh.2 (gb, .cells cur e (0, 0)) (by simp)
      have hlen : (cs ++ news).length = (n + m) * i.size := by rw [List.length_append, hcl, hl, Nat.add_mul]
      have hcl' : cur.toList.length = cur.size := Array.length_toList
      by_cases hroom : n + m ≤ cp
      · have hmul : (n + m) * i.size ≤ cp * i.size := Nat.mul_le_mul_right _ hroom
        have hmul2 : (n + m) * i.size = n * i.size + news.length := by rw [hl, Nat.add_mul]
        have hfc := run_firstCells_some (P := P) w i.size m ⟨ab, ao, none⟩ m c news hl hnews'
        have hst := run_storeCells_at P gb (o + n * i.size) e news 0 cur w hb (by omega) h1
        simp only [Nat.add_zero] at hst
        have u := upd_setRow hb (cur.toList.take (o + n * i.size) ++ news ++ cur.toList.drop (o + n * i.size + news.length)).toArray
        have hs2 : Sat (one gb (.cells cur e (0, 0)) :: L) w := ⟨_, ⟨_, f2, rfl, rfl, hp⟩, hh⟩
        refine ⟨_, _, _, run _ _ ?_, ⟨_, _, fun _ => ⟨gb, o, rfl⟩, hroom, rfl, rfl⟩, (hs2.upd u).imp fun f hf => ⟨hlen, .inr ⟨gb, o, cp, _, rfl, hf, hroom, h3, ?_, ?_⟩⟩, u.ext (.inr ⟨_, _, hb⟩)⟩
        · simp [Builtin.append_, run_underlying hu, sizeOf, typeInfo, hi, Builtin.lenOf, hroom, hfc, Addr.add_lit, hst]
        · simp only [List.size_toArray, List.length_append, List.length_take, List.length_drop, Array.length_toList]; omega
        · have e1 : (cur.toList.take (o + n * i.size) ++ news ++ cur.toList.drop (o + n * i.size + news.length)).drop o = (cur.toList.drop o).take (n * i.size) ++ news ++ cur.toList.drop (o + n * i.size + news.length) := by
            rw [List.append_assoc, List.drop_append_of_le_length (by rw [List.length_take]; omega), List.drop_take, show o + n * i.size - o = n * i.size by omega, List.append_assoc]
          rw [e1, h5, ← hlen]; exact List.take_left
      · have holds : ∀ j u, cs[j]? = some u → w.cell? ((⟨gb, o, none⟩ : Addr).add j) = some u := by
          intro j u hu'
          have := gives_slt (L := SlT e i.size (.slice (some ⟨gb, o, none⟩) n cp) n cs :: L) (List.mem_cons_self ..) hu' w hs
          rwa [add_plain]
        have hr := run_append_grow (P := P) w t ty e i z hu hi hz ⟨gb, o, none⟩ n cp cs hcl holds ⟨ab, ao, none⟩ m c news hl hnews' (by omega) (by omega) (growslice_fits (by omega) hbytes)
        have u := upd_drew_alloc w (.cells (cs.toArray ++ news.toArray ++ Builtin.zeroCells z.cells (grownCap w (n + m) cp e - (n + m))) e)
        have hge := grownCap_ge w (n + m) cp e
        have hle := grownCap_le_maxLen w (n + m) cp e (by unfold maxLen; omega)
        refine ⟨_, _, _, run _ _ hr, ⟨_, _, slok_some w.heap.size _, hge, rfl, rfl⟩, slv_slt (slv_new hlen hge hle ?_ ?_ hrest (heap_size_none w) u), u.ext (.inl (heap_size_none w))⟩
        · simp only [Array.size_append, List.size_toArray, size_zeroCells, hzs, hcl, hl, ← Nat.add_mul]; congr 1; omega
        · simp only [Array.toList_append, List.append_assoc]
          rw [← List.append_assoc, ← hlen]
          exact List.take_left
end
end Go.Proofs.YtanfdikglplkaaaGreatDoor.Sp
namespace Go.Proofs.YtanfdikglplkaaaGreatDoor.Sp
open Go
end Go.Proofs.YtanfdikglplkaaaGreatDoor.Sp
namespace Go.Proofs.YtanfdikglplkaaaGreatDoor.Sp
open Go
def bestS (st pr : List Int) (s : Int × List Int) (t : Nat) : Int × List Int :=
  if st.getD t 0 = 1 ∧ ¬ pr.getD t 0 < max s.1 0 then (if pr.getD t 0 > s.1 then (pr.getD t 0, [(t : Int)]) else (s.1, s.2 ++ [(t : Int)])) else s
def bestN (st pr : List Int) : Nat → Int × List Int
  | 0 => (-1, [])
  | k + 1 => bestS st pr (bestN st pr k) k
def mayB (st pr : List Int) (t : Nat) : Prop := st.getD t 0 = 1 ∧ 0 ≤ pr.getD t 0
structure BestI (st pr : List Int) (k : Nat) (p : Int) (l : List Int) : Prop where
  ge : -1 ≤ p
  top : ∀ t, t < k → mayB st pr t → pr.getD t 0 ≤ p
  mem : ∀ x, x ∈ l ↔ ∃ t : Nat, x = (t : Int) ∧ t < k ∧ mayB st pr t ∧ pr.getD t 0 = p
  up : l.Pairwise (· < ·)
  ne : l = [] → p = -1
theorem best_inv (st pr : List Int) : ∀ k, BestI st pr k (bestN st pr k).1 (bestN st pr k).2 := by
  intro k
  induction k with
  | zero => exact ⟨Int.le_refl (-1), fun t h => by omega, fun x => ⟨fun h => (by cases h), fun ⟨t, _, h, _⟩ => (by omega)⟩, List.Pairwise.nil, fun _ => rfl⟩
  | succ k ih =>
    obtain ⟨p, l, hpl⟩ : ∃ p l, bestN st pr k = (p, l) := ⟨_, _, rfl⟩
    rw [hpl] at ih
    show BestI st pr (k + 1) (bestS st pr (bestN st pr k) k).1 (bestS st pr (bestN st pr k) k).2
    rw [hpl]; unfold bestS
    have hge : -1 ≤ p := ih.ge
    by_cases h1 : st.getD k 0 = 1 ∧ ¬ pr.getD k 0 < max p 0
    · rw [if_pos h1]
      have hm : mayB st pr k := ⟨h1.1, by have := h1.2; omega⟩
      by_cases h2 : pr.getD k 0 > p
      · rw [if_pos h2]
        refine ⟨by show -1 ≤ pr.getD k 0; omega, fun t ht hmt => ?_, fun x => ?_, by simp, fun h => by cases h⟩
        · by_cases e : t = k
          · subst e; exact Int.le_refl _
          · have := ih.top t (by omega) hmt; show _ ≤ pr.getD k 0; have : (p, l).1 = p := rfl; omega
        · rw [List.mem_singleton]
          constructor
          · intro e; exact ⟨k, e, by omega, hm, rfl⟩
          · rintro ⟨t, e, ht, hmt, hp⟩
            by_cases e2 : t = k
            · subst e2; exact e
            · have h3 := ih.top t (by omega) hmt; have h4 : pr.getD t 0 = pr.getD k 0 := hp; have : (p, l).1 = p := rfl; omega
      · rw [if_neg h2]
        have hpk : pr.getD k 0 = p := by have := h1.2; omega
        refine ⟨ih.ge, fun t ht hmt => ?_, fun x => ?_, ?_, fun h => by simp at h⟩
        · by_cases e : t = k
          · subst e; show _ ≤ p; omega
          · exact ih.top t (by omega) hmt
        · show x ∈ l ++ [(k : Int)] ↔ _
          rw [List.mem_append, List.mem_singleton]
          constructor
          · rintro (h | h)
            · obtain ⟨t, e, ht, h3⟩ := (ih.mem x).1 h; exact ⟨t, e, by omega, h3⟩
            · exact ⟨k, h, by omega, hm, hpk⟩
          · rintro ⟨t, e, ht, h3⟩
            by_cases e2 : t = k
            · subst e2; exact .inr e
            · exact .inl ((ih.mem x).2 ⟨t, e, by omega, h3⟩)
        · show (l ++ [(k : Int)]).Pairwise (· < ·)
          rw [List.pairwise_append]
          refine ⟨ih.up, by simp, fun x hx y hy => ?_⟩
          rw [List.mem_singleton] at hy; subst hy
          obtain ⟨t, e, ht, _⟩ := (ih.mem x).1 hx; omega
    · rw [if_neg h1]
      refine ⟨ih.ge, fun t ht hmt => ?_, fun x => ?_, ih.up, ih.ne⟩
      · by_cases e : t = k
        · subst e
          have h3 := hmt.1; have h4 := hmt.2
          have h5 : pr.getD t 0 < max p 0 := by
            by_cases h6 : pr.getD t 0 < max p 0
            · exact h6
            · exact absurd ⟨h3, h6⟩ h1
          show _ ≤ p; omega
        · exact ih.top t (by omega) hmt
      · show x ∈ l ↔ ∃ t : Nat, x = (t : Int) ∧ t < k + 1 ∧ mayB st pr t ∧ pr.getD t 0 = p
        constructor
        · intro h; obtain ⟨t, e, ht, h3⟩ := (ih.mem x).1 h; exact ⟨t, e, by omega, h3⟩
        · rintro ⟨t, e, ht, hm, hp⟩
          by_cases e2 : t = k
          · subst e2
            exact absurd ⟨hm.1, by have := hm.2; omega⟩ h1
          · exact (ih.mem x).2 ⟨t, e, by omega, hm, hp⟩
theorem bestN_len (st pr : List Int) : ∀ k, (bestN st pr k).2.length ≤ k
  | 0 => Nat.le_refl _
  | k + 1 => by
    have := bestN_len st pr k
    show (bestS st pr (bestN st pr k) k).2.length ≤ k + 1
    unfold bestS; split
    · split <;> simp <;> omega
    · omega
theorem best_no {st pr : List Int} {p : Int} {ts : List Int} {k : Nat} (h : bestN st pr k = (p, ts)) (hn : ¬ (st.getD k 0 = 1 ∧ ¬ pr.getD k 0 < max p 0)) : bestN st pr (k + 1) = (p, ts) := by
  show bestS st pr (bestN st pr k) k = _
  rw [h]; unfold bestS; rw [if_neg hn]
theorem best_add {st pr : List Int} {p : Int} {ts : List Int} {k : Nat} (h : bestN st pr k = (p, ts)) (h1 : st.getD k 0 = 1) (h2 : ¬ pr.getD k 0 < max p 0) (h3 : ¬ pr.getD k 0 > p) : bestN st pr (k + 1) = (p, ts ++ [(k : Int)]) := by
  show bestS st pr (bestN st pr k) k = _
  rw [h]; unfold bestS; rw [if_pos ⟨h1, h2⟩, if_neg h3]
theorem best_new {st pr : List Int} {p : Int} {ts : List Int} {k : Nat} (h : bestN st pr k = (p, ts)) (h1 : st.getD k 0 = 1) (h2 : ¬ pr.getD k 0 < max p 0) (h3 : pr.getD k 0 > p) : bestN st pr (k + 1) = (pr.getD k 0, [(k : Int)]) := by
  show bestS st pr (bestN st pr k) k = _
  rw [h]; unfold bestS; rw [if_pos ⟨h1, h2⟩, if_pos h3]
def thB (x : Int) (n : Nat) : Bool := decide (x ≥ 0) && decide (x < (n : Int))
theorem thB_t {x : Int} {n : Nat} (h : thB x n = true) : 0 ≤ x ∧ x < (n : Int) := by
  unfold thB at h; rw [Bool.and_eq_true] at h; exact ⟨of_decide_eq_true h.1, of_decide_eq_true h.2⟩
def fitB (n : Nat) (es : List (Int × Int)) (room x : Int) : Bool := thB x n && decide ((es.getD x.toNat (0, 0)).1 ≤ room)
structure DelI (p : Int → Bool) (xs : List Int) (i j : Nat) (ys : List Int) : Prop where
  lt : i < j
  le : j ≤ xs.length
  len : ys.length = xs.length
  ft : ys.take i = (xs.take j).filter (fun x => !p x)
  bk : ys.drop j = xs.drop j
theorem DelI.get {p : Int → Bool} {xs ys : List Int} {i j : Nat} (h : DelI p xs i j ys) (hj : j < xs.length) : ys.getD j 0 = xs.getD j 0 := by
  have h1 : (ys.drop j)[0]? = (xs.drop j)[0]? := by rw [h.bk]
  rw [List.getElem?_drop, List.getElem?_drop] at h1
  simp only [Nat.add_zero] at h1
  simp [List.getD, h1]
theorem drop_next {xs ys : List Int} {j : Nat} (h : ys.drop j = xs.drop j) : ys.drop (j + 1) = xs.drop (j + 1) := by
  have := congrArg (List.drop 1) h
  simpa [List.drop_drop, Nat.add_comm] using this
theorem DelI.keep {p : Int → Bool} {xs ys : List Int} {i j : Nat} (h : DelI p xs i j ys) (hj : j < xs.length) (hp : p (ys.getD j 0) = false) : DelI p xs (i + 1) (j + 1) (ys.set i (ys.getD j 0)) := by
  have hi : i < ys.length := by have := h.lt; have := h.len; omega
  refine ⟨by have := h.lt; omega, hj, by rw [List.length_set]; exact h.len, ?_, ?_⟩
  · rw [List.take_succ_eq_append_getElem (by rw [List.length_set]; exact hi), List.take_set_of_le (Nat.le_refl _), h.ft, take_succ_getD hj 0, List.filter_append]
    rw [h.get hj] at hp ⊢
    rw [List.getElem_set_self, List.filter_cons, hp]; rfl
  · rw [List.drop_set_of_lt (by have := h.lt; omega)]; exact drop_next h.bk
theorem DelI.skip {p : Int → Bool} {xs ys : List Int} {i j : Nat} (h : DelI p xs i j ys) (hj : j < xs.length) (hp : p (ys.getD j 0) = true) : DelI p xs i (j + 1) ys := by
  refine ⟨by have := h.lt; omega, hj, h.len, ?_, drop_next h.bk⟩
  rw [h.ft, take_succ_getD hj 0, List.filter_append]
  rw [h.get hj] at hp
  rw [List.filter_cons, hp]; simp
theorem DelI.done {p : Int → Bool} {xs ys : List Int} {i j : Nat} (h : DelI p xs i j ys) (hj : ¬ j < xs.length) : ys.take i = xs.filter (fun x => !p x) := by
  rw [h.ft, List.take_of_length_le (by omega)]
theorem idxF_some {p : Int → Bool} {xs : List Int} (h : ¬ idxF p xs = -1) : ∃ k : Nat, idxF p xs = (k : Int) ∧ k < xs.length ∧ p (xs.getD k 0) = true ∧ ∀ j, j < k → p (xs.getD j 0) = false := by
  unfold idxF at h ⊢
  by_cases h1 : xs.findIdx p < xs.length
  · rw [if_pos h1]
    refine ⟨_, rfl, h1, ?_, fun j hj => ?_⟩
    · have := List.findIdx_getElem (w := h1); simpa [List.getD, h1] using this
    · have hjl : j < xs.length := by omega
      have := List.not_of_lt_findIdx hj; simpa [List.getD, hjl] using this
  · rw [if_neg h1] at h; exact absurd rfl h
theorem idxF_noneI {p : Int → Bool} {xs : List Int} (h : idxF p xs = -1) : ∀ x ∈ xs, p x = false := by
  intro x hx
  have h1 := idxF_any p xs
  rw [h] at h1
  have h2 : xs.any p = false := h1.symm.trans (by decide)
  rw [List.any_eq_false] at h2
  simpa using h2 x hx
theorem DelI.start {p : Int → Bool} {xs : List Int} {k : Nat} (hk : k < xs.length) (hp : p (xs.getD k 0) = true) (ha : ∀ j, j < k → p (xs.getD j 0) = false) : DelI p xs k (k + 1) xs := by
  refine ⟨by omega, hk, rfl, ?_, rfl⟩
  rw [take_succ_getD hk 0, List.filter_append]
  simp only [List.filter_cons, hp, Bool.not_true, Bool.false_eq_true, if_false, List.filter_nil, List.append_nil]
  refine (List.filter_eq_self.2 fun x hx => ?_).symm
  obtain ⟨j, hj, rfl⟩ := List.mem_iff_getElem.1 hx
  simp only [List.length_take] at hj
  have := ha j (by omega)
  simp only [List.getElem_take]
  rw [List.getD_eq_getElem?_getD, List.getElem?_eq_getElem (by omega)] at this
  simpa using this
theorem filter_none {p : Int → Bool} {xs : List Int} (h : idxF p xs = -1) : xs.filter (fun x => !p x) = xs :=
  List.filter_eq_self.2 fun x hx => by rw [idxF_noneI h x hx]; rfl
noncomputable def wantJ (n : Nat) (N : Nat) (E : Es) (ts : List Int) (r : Int) : Int := idxF (fun x => thB x n && reachB N E r x) ts
noncomputable def wantS (n : Nat) (N : Nat) (E : Es) (es : List (Int × Int)) (ts ids rs : List Int) (s : List (Int × Int) × List Int) (i : Nat) : List (Int × Int) × List Int :=
  if wantJ n N E ts (rs.getD i 0) ≥ 0 then
    (s.1 ++ [(ids.getD i 0, (es.getD (ts.getD (wantJ n N E ts (rs.getD i 0)).toNat 0).toNat (0, 0)).2)], s.2 ++ [ts.getD (wantJ n N E ts (rs.getD i 0)).toNat 0]) else s
noncomputable def wantN (n : Nat) (N : Nat) (E : Es) (es : List (Int × Int)) (ts ids rs : List Int) : Nat → List (Int × Int) × List Int
  | 0 => ([], [])
  | k + 1 => wantS n N E es ts ids rs (wantN n N E es ts ids rs k) k
theorem idxF_lt (p : Int → Bool) (xs : List Int) : idxF p xs < (xs.length : Int) ∧ -1 ≤ idxF p xs := by unfold idxF; split <;> omega
theorem wantJ_lt (n : Nat) (N : Nat) (E : Es) (ts : List Int) (r : Int) : wantJ n N E ts r < (ts.length : Int) := (idxF_lt _ ts).1
theorem wantJ_at {n : Nat} {N : Nat} {E : Es} {ts : List Int} {r : Int} (h : wantJ n N E ts r ≥ 0) : (thB (ts.getD (wantJ n N E ts r).toNat 0) n && reachB N E r (ts.getD (wantJ n N E ts r).toNat 0)) = true := by
  obtain ⟨k, hk, _, hp, _⟩ := idxF_some (p := fun x => thB x n && reachB N E r x) (xs := ts) (by have : wantJ n N E ts r = idxF (fun x => thB x n && reachB N E r x) ts := rfl; omega)
  have e : wantJ n N E ts r = (k : Int) := hk
  rw [e, Int.toNat_natCast]; exact hp
theorem wantJ_th {n : Nat} {N : Nat} {E : Es} {ts : List Int} {r : Int} (h : wantJ n N E ts r ≥ 0) : thB (ts.getD (wantJ n N E ts r).toNat 0) n = true := (Bool.and_eq_true _ _ ▸ wantJ_at h).1
theorem want_no {n N : Nat} {E : Es} {es ps : List (Int × Int)} {ts ids rs qs : List Int} {k : Nat} (hb : wantN n N E es ts ids rs k = (ps, qs)) (hj : ¬ wantJ n N E ts (rs.getD k 0) ≥ 0) : wantN n N E es ts ids rs (k + 1) = (ps, qs) := by
  show wantS n N E es ts ids rs (wantN n N E es ts ids rs k) k = _
  rw [hb]; unfold wantS; rw [if_neg hj]
theorem want_add {n N : Nat} {E : Es} {es ps : List (Int × Int)} {ts ids rs qs : List Int} {k : Nat} (hb : wantN n N E es ts ids rs k = (ps, qs)) (hj : wantJ n N E ts (rs.getD k 0) ≥ 0) :
    wantN n N E es ts ids rs (k + 1) = (ps ++ [(ids.getD k 0, (es.getD (ts.getD (wantJ n N E ts (rs.getD k 0)).toNat 0).toNat (0, 0)).2)], qs ++ [ts.getD (wantJ n N E ts (rs.getD k 0)).toNat 0]) := by
  show wantS n N E es ts ids rs (wantN n N E es ts ids rs k) k = _
  rw [hb]; unfold wantS; rw [if_pos hj]
theorem wantN_len (n : Nat) (N : Nat) (E : Es) (es : List (Int × Int)) (ts ids rs : List Int) : ∀ k, (wantN n N E es ts ids rs k).1.length = (wantN n N E es ts ids rs k).2.length ∧ (wantN n N E es ts ids rs k).2.length ≤ k
  | 0 => ⟨rfl, Nat.le_refl _⟩
  | k + 1 => by
    have := wantN_len n N E es ts ids rs k
    show (wantS _ _ _ _ _ _ _ _ k).1.length = (wantS _ _ _ _ _ _ _ _ k).2.length ∧ (wantS _ _ _ _ _ _ _ _ k).2.length ≤ k + 1
    unfold wantS
    split
    · simp; omega
    · omega
end Go.Proofs.YtanfdikglplkaaaGreatDoor.Sp
namespace Go.Proofs.YtanfdikglplkaaaGreatDoor.Sp
open Go
variable {P : Program} {L : List HP} {E : List (Nat × Value)} {ty : TypeId}
theorem mv_copy {t e : TypeId} {i : TypeInfo} {sz : Nat} {d s : Operand} {bs bx : Option Addr} {n cp l m c c2 k cx q : Nat} {cs cs' news : List Value} (hu : P.underlying t = some (.slice e)) (hi : P.info? e = some i)
    (hsz : i.size = sz) (hd : ev E d = some (.slice (sbase bs l c sz) m c2)) (hs' : ev E s = some (.slice bx k cx)) (hq : min k m = q) (hq0 : 0 < q) (hlc : l < c) (hlm : l + m ≤ n) (hok : SlOk bx 1) (hl : news.length = q * sz)
    (hrd : Rd (SlV e sz (.slice bs n cp) n cs :: L) bx news) (h1 : ∀ u ∈ news, u.oneCell' = true) (hc : cs.take (l * sz) ++ news ++ cs.drop ((l + q) * sz) = cs') :
    MV P E (SlV e sz (.slice bs n cp) n cs :: L) (.call { callee := .builtin .copy, args := #[d, s], argTypes := #[t, t] }) ty (fun v M => v = .int .i64 ((q : Nat) : Int) ∧ M = SlV e sz (.slice bs n cp) n cs' :: L) := by
  intro ρ h w hs d' pos af g
  subst hsz; subst hc
  obtain ⟨ab, ao, rfl⟩ := hok (by omega)
  obtain ⟨fall, ⟨f1, f2, rfl, ⟨hcl, hf⟩, hp⟩, hh⟩ := id hs
  rcases hf with ⟨_, hn, _⟩ | ⟨gb, cap, cur, hv, rfl, h2, h3, h4, h5⟩
  · omega
  simp only [Value.slice.injEq, true_and] at hv
  obtain ⟨rfl, rfl⟩ := hv
  have hb := hh.2 (gb, .cells cur e (0, 0)) (by simp)
  have hsb : sbase (some ⟨gb, 0, none⟩) l c i.size = some ⟨gb, l * i.size, none⟩ := by
    have : Nat.beq c l = false := by cases hbq : Nat.beq c l with | false => rfl | true => exact absurd (Nat.eq_of_beq_eq_true hbq) (by omega)
    unfold sbase; rw [this, cond_false]; simp [add_plain]
  rw [hsb] at hd
  have hnews' : ∀ j u, news[j]? = some u → w.cell? ((⟨ab, ao, none⟩ : Addr).add j) = some u := by
    intro j u hu'
    have := hrd w hs j u hu'
    rwa [add_plain]
  have hqm : q ≤ m := by omega
  have hkn : (l + q) * i.size ≤ n * i.size := Nat.mul_le_mul_right _ (by omega)
  have hnc : n * i.size ≤ cp * i.size := Nat.mul_le_mul_right _ h2
  have hkm' : (l + q) * i.size = l * i.size + news.length := by rw [hl, Nat.add_mul]
  have hfc := run_firstCells_some (P := P) w i.size q ⟨ab, ao, none⟩ k cx news hl hnews'
  have hr := run_storeCells_at P gb (l * i.size) e news 0 cur w hb (by omega) h1
  simp only [Nat.add_zero] at hr
  have u := upd_setRow hb (cur.toList.take (l * i.size) ++ news ++ cur.toList.drop (l * i.size + news.length)).toArray
  have hs2 : Sat (one gb (.cells cur e (0, 0)) :: L) w := ⟨_, ⟨_, f2, rfl, rfl, hp⟩, hh⟩
  have hcl' : cur.toList.length = cur.size := Array.length_toList
  have hmin : Nat.min k m = q := hq
  refine ⟨_, _, _, ?_, ⟨rfl, rfl⟩, (hs2.upd u).imp fun f hf => ⟨?_, .inr ⟨gb, cp, _, rfl, hf, h2, h3, ?_, ?_⟩⟩, u.ext (.inr ⟨_, _, hb⟩)⟩
  · simp [execOp, resolve, h s _ hs', h d _ hd, invoke, builtin, Builtin.copy_, run_underlying hu, sizeOf, typeInfo, hi, Builtin.lenOf, hmin, hfc, hr, goInt]
  · simp; omega
  · simp; omega
  · have := splice_take cur.toList news (l * i.size) (n * i.size) (by omega) (by omega)
    rw [h5] at this
    simpa [hkm'] using this
theorem lv_copy0 {t e : TypeId} {i : TypeInfo} {d s : Operand} {bs bx : Option Addr} {m c2 k cx : Nat} (hu : P.underlying t = some (.slice e)) (hi : P.info? e = some i)
    (hd : ev E d = some (.slice bs m c2)) (hs' : ev E s = some (.slice bx k cx)) (hq : min k m = 0) : LV P E L (.call { callee := .builtin .copy, args := #[d, s], argTypes := #[t, t] }) ty (.int .i64 0) := by
  intro ρ h w _ d' pos af g
  have hmin : Nat.min k m = 0 := hq
  have hfc : ∀ bx : Option Addr, (Builtin.firstCells i.size 0 (.slice bx k cx)).run P w = .ok #[] w := by
    intro bx; cases bx <;> simp [Builtin.firstCells, loadCells, loadCellsFrom]
  cases bs <;> simp [execOp, resolve, h s _ hs', h d _ hd, invoke, builtin, Builtin.copy_, run_underlying hu, sizeOf, typeInfo, hi, Builtin.lenOf, hmin, hfc, storeCells, goInt]
end Go.Proofs.YtanfdikglplkaaaGreatDoor.Sp
namespace Go.Proofs.YtanfdikglplkaaaGreatDoor.Sp
open Go
theorem and_lo : ∀ N : Nat, N < 65 → bAnd .u64 (N : Int) 4294967295 = (N : Int) := by decide
theorem shr_lo : ∀ N : Nat, N < 65 → bShr .u64 (N : Int) 32 = 0 := by decide
def repX (a : Int) (n N : Nat) : List Int := List.replicate n a ++ List.replicate (N - n) 0
theorem repX_len {a : Int} {n N : Nat} (h : n ≤ N) : (repX a n N).length = N := by unfold repX; simp; omega
theorem repX_one (a : Int) (N : Nat) : (List.replicate N (0 : Int)).take 0 ++ ([a] : List Int) ++ (List.replicate N (0 : Int)).drop (0 + 1) = repX a 1 N := by
  unfold repX; simp
theorem repX_copy {a : Int} {n N q : Nat} (h : n + q ≤ N) (hq : q ≤ n) : (repX a n N).take n ++ ((repX a n N).take n).take q ++ (repX a n N).drop (n + q) = repX a (n + q) N := by
  have e : (repX a n N).take n = List.replicate n a := by unfold repX; rw [List.take_append_of_le_length (by simp)]; simp
  rw [e, List.take_replicate, Nat.min_eq_left hq, List.replicate_append_replicate]
  unfold repX
  rw [List.drop_append, List.drop_replicate, List.drop_replicate, List.length_replicate]
  have e1 : n - (n + q) = 0 := by omega
  have e2 : N - n - (n + q - n) = N - (n + q) := by omega
  rw [e1, e2]; simp
theorem repX_end (a : Int) (N : Nat) : repX a N N = List.replicate N a := by unfold repX; simp
end Go.Proofs.YtanfdikglplkaaaGreatDoor.Sp
namespace Go.Proofs.YtanfdikglplkaaaGreatDoor.Sp
open Go
theorem getD_mem {l : List Int} {i : Nat} (h : i < l.length) : l.getD i 0 ∈ l := by simp [List.getD, h]
noncomputable def wp (n N : Nat) (E : Es) (r : Int) (x : Int) : Bool := thB x n && reachB N E r x
theorem fit_t {n : Nat} {es : List (Int × Int)} {room x : Int} (h1 : x ≥ 0) (h2 : x < (n : Int)) (h3 : (es.getD x.toNat (0, 0)).1 ≤ room) : fitB n es room x = true := by
  unfold fitB thB; rw [decide_eq_true h1, decide_eq_true h2, decide_eq_true h3]; rfl
end Go.Proofs.YtanfdikglplkaaaGreatDoor.Sp
namespace Go.Proofs.YtanfdikglplkaaaGreatDoor.Sp
open Go Go.ChangeShapes Go.WideShapes Go.ChangeAt Go.RowKit
variable {P : Program} {H : Type} {enc : TypeId × Value → H}
end Go.Proofs.YtanfdikglplkaaaGreatDoor.Sp
namespace Go.Proofs.YtanfdikglplkaaaGreatDoor.Sp
open Go Go.ChangeShapes Go.WideShapes Go.ChangeAt Go.RowKit
variable {P : Program} {H : Type} {enc : TypeId × Value → H}
theorem o_recs {α : Type} [Inhabited α] {F : α → List Value} {n : Nat} (hF : ∀ x, (F x).length = n) (hn : 0 < n) {good : α → Prop} {W : World} {t e : TypeId} {cs : List Value} {fuel : Nat} {x : DataW H × List MemPlace}
    (ht : P.underlying t = some (.slice e)) (ce : P.cellsOf e = n) (each : ∀ (fuel : Nat) (cs : List Value) (y : DataW H × List MemPlace), cs.length = n → DataW.trod enc P W 0 (fun _ => true) true fuel e cs = some y → ∃ z, F z = cs ∧ good z)
    (h : DataW.trod enc P W 0 (fun _ => true) true fuel t cs = some x) :
    ∃ bs cp, ∃ xs : List α, cs = [.slice bs xs.length cp] ∧ xs.length ≤ 9223372036854775807 ∧ SlOk bs xs.length ∧ Rd [Old W] bs (recs F xs) ∧ ∀ x ∈ xs, good x := by
  rcases Deep.open_slice ht h with ⟨hcs, _⟩ | ⟨a, len, cap, m, k, D, Pl, hcs, _, hl, hm, hmm, _, hx⟩
  · exact ⟨none, 0, [], hcs, by simp, slok_none, fun _ _ j u hu => by simp [recs] at hu, fun x hx => by cases hx⟩
  · simp only [if_true] at hmm
    subst hmm
    have hmax : m ≤ 9223372036854775807 := by simpa [maxLen] using hm
    have hq : ∀ i, i < len → ∃ z : α, good z ∧ ∀ j, j < n → W.cell? ((a.add (i * n)).add j) = (F z)[j]? := fun i hi => by
      obtain ⟨cs', h1, h2⟩ := hx i (by omega)
      rw [ce] at h1
      obtain ⟨_, hlen, hcell⟩ := World.cells?_some h1
      obtain ⟨z, hz, hg⟩ := each _ _ _ hlen h2
      refine ⟨z, hg, fun j hj => ?_⟩
      rw [hz]; exact hcell j hj
    obtain ⟨q, hq⟩ := Deep.choose_lt hq
    have hsl : SlOk (some a) len := slok_cells (W := W) fun h0 => by
      have h1 := (hq 0 h0).2 0 hn
      have h2 : 0 < (F (q 0)).length := by rw [hF]; exact hn
      refine ⟨(F (q 0))[0], ?_⟩
      rw [List.getElem?_eq_getElem h2] at h1
      simpa [Addr.add] using h1
    have hlr : ((List.range len).map q).length = len := by simp
    refine ⟨some a, m, (List.range len).map q, by rw [hlr]; exact hcs, by rw [hlr]; omega, by rw [hlr]; exact hsl, ?_, fun x hx' => ?_⟩
    · intro w hs j u hu
      have hj : j < len * n := by have := (List.getElem?_eq_some_iff.1 hu).1; rw [recs_len hF, hlr] at this; exact this
      have hdm := Nat.div_add_mod j n
      have hmod := Nat.mod_lt j hn
      have hdiv : j / n < len := Nat.div_lt_of_lt_mul (by rw [Nat.mul_comm]; exact hj)
      obtain ⟨b, o, hb⟩ := hsl (Nat.lt_of_le_of_lt (Nat.zero_le _) hdiv)
      cases hb
      have h1 := (hq (j / n) hdiv).2 (j % n) hmod
      rw [add_plain, add_plain] at h1
      have h2 := recs_get hF (xs := (List.range len).map q) (d := default) (k := j / n) (j := j % n) (by rw [hlr]; exact hdiv) hmod
      rw [show j / n * n + j % n = j by rw [Nat.mul_comm]; exact hdm, hu] at h2
      have hget : ((List.range len).map q).getD (j / n) default = q (j / n) := by simp [List.getD, hdiv]
      rw [hget] at h2
      refine gives_old ?_ w hs
      rw [ad_some, show o + j = o + j / n * n + j % n by rw [Nat.add_assoc, show j / n * n + j % n = j by rw [Nat.mul_comm]; exact hdm], h1, ← h2]
    · obtain ⟨i, hi, rfl⟩ := List.mem_map.1 hx'
      exact (hq i (List.mem_range.1 hi)).1
theorem o_recsT {α : Type} [Inhabited α] {F : α → List Value} {n : Nat} (hF : ∀ x, (F x).length = n) (hn : 0 < n) {good : α → Prop} {W : World} {t e : TypeId} {v : Value} {d : DataW H} {p : List MemPlace}
    (ht : P.underlying t = some (.slice e)) (ce : P.cellsOf e = n) (each : ∀ (fuel : Nat) (cs : List Value) (y : DataW H × List MemPlace), cs.length = n → DataW.trod enc P W 0 (fun _ => true) true fuel e cs = some y → ∃ z, F z = cs ∧ good z)
    {base : Nat} (hok : Value.okWide P W .any base t v) (h : DataW.Trod enc P W 0 (fun _ => true) true t v d p) :
    ∃ bs cp, ∃ xs : List α, v = .slice bs xs.length cp ∧ xs.length ≤ 9223372036854775807 ∧ SlOk bs xs.length ∧ Rd [Old W] bs (recs F xs) ∧ ∀ x ∈ xs, good x := by
  obtain ⟨a, len, cap, rfl⟩ := okWide_slice ht hok
  obtain ⟨fuel, hf⟩ := h
  obtain ⟨bs, cp, xs, h1, h2, h3, h4, h5⟩ := o_recs hF hn ht ce each hf
  exact ⟨bs, cp, xs, by simpa [Value.cells] using h1, h2, h3, h4, h5⟩
structure R3 where
  x : Int
  y : Int
  z : Int
abbrev R3.d : R3 := ⟨0, 0, 0⟩
instance : Inhabited R3 := ⟨R3.d⟩
def triF (e : R3) : List Value := [.int .i64 e.x, .int .i64 e.y, .int .i64 e.z]
theorem triF_len (e : R3) : (triF e).length = 3 := rfl
def GoodI (x : Int) : Prop := -9223372036854775808 ≤ x ∧ x ≤ 9223372036854775807
theorem each_int {W : World} {t : TypeId} {k : IntKind} {fuel : Nat} {c : Value} {y : DataW H × List MemPlace} (u : P.underlying t = some (.int k)) (h : DataW.trod enc P W 0 (fun _ => true) true fuel t [c] = some y) : ∃ x, c = .int k x ∧ (Lit.int k x).wf = true := by
  obtain ⟨x, e, _, w⟩ := DataW.trod_int u h
  exact ⟨x, by simpa using e, w⟩
theorem each_tri {W : World} {e : TypeId} {f0 f1 f2 : Field} (he : P.underlying e = some (.struct #[f0, f1, f2])) (o0 : f0.offset = 0) (o1 : f1.offset = 1) (o2 : f2.offset = 2) (c0 : P.cellsOf f0.type = 1) (c1 : P.cellsOf f1.type = 1) (c2 : P.cellsOf f2.type = 1)
    (u0 : P.underlying f0.type = some (.int .i64)) (u1 : P.underlying f1.type = some (.int .i64)) (u2 : P.underlying f2.type = some (.int .i64))
    (fuel : Nat) (cs : List Value) (y : DataW H × List MemPlace) (hl : cs.length = 3) (h : DataW.trod enc P W 0 (fun _ => true) true fuel e cs = some y) : ∃ z, triF z = cs ∧ GoodI z.x ∧ GoodI z.y ∧ GoodI z.z := by
  obtain ⟨y0, y1, y2, n, _, _, h0, h1, h2⟩ := Deep.trod_struct3 he h
  match cs, hl with
  | [a, b, c], _ =>
    rw [o0, c0] at h0; rw [o1, c1] at h1; rw [o2, c2] at h2
    obtain ⟨x0, rfl, w0⟩ := each_int u0 h0
    obtain ⟨x1, rfl, w1⟩ := each_int u1 h1
    obtain ⟨x2, rfl, w2⟩ := each_int u2 h2
    exact ⟨⟨x0, x1, x2⟩, rfl, wf_i64 w0, wf_i64 w1, wf_i64 w2⟩
end Go.Proofs.YtanfdikglplkaaaGreatDoor.Sp
namespace Go.Proofs.YtanfdikglplkaaaGreatDoor.Sp
open Go
end Go.Proofs.YtanfdikglplkaaaGreatDoor.Sp
namespace Go.Proofs.YtanfdikglplkaaaGreatDoor.Sp
open Go
theorem reachL_le (N : Nat) (es : Es) (a : Int) : (reachL N es a).length ≤ N := by
  unfold reachL
  cases valid N a with
  | false => exact Nat.zero_le _
  | true => rw [cond_true, List.length_map]; exact Nat.le_trans (List.length_filter_le ..) (by simp)
end Go.Proofs.YtanfdikglplkaaaGreatDoor.Sp
namespace Go.Proofs.YtanfdikglplkaaaGreatDoor.Sp
open Go
theorem mem_reachL {N : Nat} {es : Es} {a b : Int} : b ∈ reachL N es a ↔ reachB N es a b = true := by
  unfold reachL reachB
  cases hv : valid N a with
  | false => simp
  | true =>
    rw [cond_true]
    simp only [List.mem_map, List.mem_filter, List.mem_range, Bool.true_and, Bool.and_eq_true]
    constructor
    · rintro ⟨i, ⟨hi, hr⟩, rfl⟩; exact ⟨valid_nat hi, hr⟩
    · rintro ⟨h1, h2⟩
      have := valid_iff.1 h1
      exact ⟨b.toNat, ⟨by omega, by rw [Int.toNat_of_nonneg this.1]; exact h2⟩, Int.toNat_of_nonneg this.1⟩
theorem reachL_at {N : Nat} {es : Es} {a : Int} {k : Nat} (h : k < (reachL N es a).length) : 0 ≤ (reachL N es a).getD k 0 ∧ (reachL N es a).getD k 0 < N := by
  have hm : (reachL N es a).getD k 0 ∈ reachL N es a := by simp [List.getD, h]
  have := mem_reachL.1 hm
  simp only [reachB, Bool.and_eq_true] at this
  exact valid_iff.1 this.1.2
end Go.Proofs.YtanfdikglplkaaaGreatDoor.Sp
namespace Go.Proofs.YtanfdikglplkaaaGreatDoor.Sp
open Go
noncomputable def prioX (N : Nat) (E : Es) (rs : List R3) (x : Int) : Int := rs.foldl (fun m r => if reachB N E r.x x = true then max m r.z else m) (-1)
noncomputable def ofL (N : Nat) (E : Es) (rs : List R3) : List Int := (List.range N).map fun x : Nat => prioX N E rs (x : Int)
theorem ofL_len (N : Nat) (E : Es) (rs : List R3) : (ofL N E rs).length = N := by unfold ofL; simp
theorem ofL_get {N : Nat} {E : Es} {rs : List R3} {x : Nat} (h : x < N) : (ofL N E rs).getD x 0 = prioX N E rs (x : Int) := by
  unfold ofL; rw [List.getD_eq_getElem?_getD, List.getElem?_map, List.getElem?_range h]; rfl
theorem ofL_nil (N : Nat) (E : Es) : ofL N E [] = List.replicate N (-1) := by
  refine List.ext_getElem (by rw [ofL_len, List.length_replicate]) fun i h1 h2 => ?_
  simp [ofL, prioX]
theorem prioX_snoc (N : Nat) (E : Es) (rs : List R3) (r : R3) (x : Int) : prioX N E (rs ++ [r]) x = if reachB N E r.x x = true then max (prioX N E rs x) r.z else prioX N E rs x := by
  unfold prioX; rw [List.foldl_append]; rfl
def innP (l : List Int) (pr : Int) (p : List Int) : List Int := l.foldl (fun p t => p.set t.toNat (max (p.getD t.toNat 0) pr)) p
theorem innP_succ {l : List Int} {j : Nat} (h : j < l.length) (pr : Int) (p : List Int) : innP (l.take (j + 1)) pr p = (innP (l.take j) pr p).set (l.getD j 0).toNat (max ((innP (l.take j) pr p).getD (l.getD j 0).toNat 0) pr) := by
  unfold innP; rw [take_succ_getD h 0, List.foldl_append]; rfl
theorem innP_len (l : List Int) (pr : Int) (p : List Int) : (innP l pr p).length = p.length := by
  unfold innP
  induction l generalizing p with
  | nil => rfl
  | cons t l ih => rw [List.foldl_cons, ih, List.length_set]
theorem getD_setP (p : List Int) (i x : Nat) (v : Int) (h : i < p.length) : (p.set i v).getD x 0 = if i = x then v else p.getD x 0 := by
  rw [List.getD_eq_getElem?_getD, List.getElem?_set]
  by_cases e : i = x
  · subst e; rw [if_pos rfl, if_pos h, if_pos rfl]; rfl
  · rw [if_neg e, if_neg e, List.getD_eq_getElem?_getD]
theorem innP_get (pr : Int) (x : Nat) : ∀ (l : List Int) (p : List Int), (∀ t ∈ l, 0 ≤ t ∧ t < (p.length : Int)) → (innP l pr p).getD x 0 = if (x : Int) ∈ l then max (p.getD x 0) pr else p.getD x 0
  | [], p, _ => by simp [innP]
  | t :: l, p, hl => by
    have ht := hl t (by simp)
    have ih := innP_get pr x l (p.set t.toNat (max (p.getD t.toNat 0) pr)) (fun u hu => by rw [List.length_set]; exact hl u (List.mem_cons_of_mem _ hu))
    show (innP l pr (p.set t.toNat (max (p.getD t.toNat 0) pr))).getD x 0 = _
    rw [ih, getD_setP _ _ _ _ (by omega)]
    by_cases e : t.toNat = x
    · subst e
      rw [if_pos rfl, if_pos (show ((t.toNat : Nat) : Int) ∈ t :: l by rw [Int.toNat_of_nonneg ht.1]; simp)]
      split <;> omega
    · rw [if_neg e]
      have e2 : ¬ (x : Int) = t := by omega
      simp only [List.mem_cons, e2, false_or]
theorem of_step (N : Nat) (E : Es) (rs : List R3) (r : R3) : innP (reachL N E r.x) r.z (ofL N E rs) = ofL N E (rs ++ [r]) := by
  have hl : ∀ t ∈ reachL N E r.x, 0 ≤ t ∧ t < ((ofL N E rs).length : Int) := fun t ht => by
    have := mem_reachL.1 ht
    simp only [reachB, Bool.and_eq_true] at this
    rw [ofL_len]; exact valid_iff.1 this.1.2
  refine List.ext_getElem (by rw [innP_len, ofL_len, ofL_len]) fun i h1 h2 => ?_
  have hi : i < N := by rw [ofL_len] at h2; exact h2
  have g1 := innP_get r.z i (reachL N E r.x) (ofL N E rs) hl
  have g2 := ofL_get (N := N) (E := E) (rs := rs ++ [r]) hi
  rw [List.getD_eq_getElem?_getD, List.getElem?_eq_getElem h1, Option.getD_some] at g1
  rw [List.getD_eq_getElem?_getD, List.getElem?_eq_getElem h2, Option.getD_some] at g2
  rw [g1, g2, prioX_snoc, ofL_get hi]
  simp only [mem_reachL]
theorem of_next {N : Nat} {E : Es} {rs : List R3} {k : Nat} (h : k < rs.length) : innP (reachL N E (rs.getD k R3.d).x) (rs.getD k R3.d).z (ofL N E (rs.take k)) = ofL N E (rs.take (k + 1)) := by
  rw [take_succ_getD h R3.d, of_step]
theorem of_none {N : Nat} {E : Es} {i : Nat} (h : i < N) : (ofL N E []).getD i 0 = -1 := by rw [ofL_get h]; rfl
theorem fold_le {N : Nat} {E : Es} {x : Int} : ∀ (rs : List R3) (m : Int), m ≤ rs.foldl (fun m r => if reachB N E r.x x = true then max m r.z else m) m
  | [], _ => Int.le_refl _
  | r :: rs, m => by
    rw [List.foldl_cons]
    refine Int.le_trans ?_ (fold_le rs _)
    split <;> omega
theorem fold_ge {N : Nat} {E : Es} {x : Int} : ∀ (rs : List R3) (m : Int) (r : R3), r ∈ rs → reachB N E r.x x = true → r.z ≤ rs.foldl (fun m r => if reachB N E r.x x = true then max m r.z else m) m
  | q :: rs, m, r, hm, hr => by
    rw [List.foldl_cons]
    rcases List.mem_cons.1 hm with rfl | hm
    · rw [if_pos hr]; exact Int.le_trans (by omega) (fold_le rs _)
    · exact fold_ge rs _ r hm hr
theorem prioX_ge {N : Nat} {E : Es} {x : Int} {rs : List R3} {r : R3} (h : r ∈ rs) (hr : reachB N E r.x x = true) : r.z ≤ prioX N E rs x := fold_ge rs _ r h hr
end Go.Proofs.YtanfdikglplkaaaGreatDoor.Sp
