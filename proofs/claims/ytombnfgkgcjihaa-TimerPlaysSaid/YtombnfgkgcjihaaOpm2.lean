/- Slices of slices, and what is done within a slice's own row. No program in it. -/
import Derived.Test.YtombnfgkgcjihaaOpm
set_option linter.unusedVariables false
set_option linter.unusedSimpArgs false
namespace Go.Proofs.Ytombnfgkgcjihaa.Sp
open Go
section
variable {P : Program} {E : List (Nat × Value)} {L : List HP} {ty : TypeId}
/-! slices of slices -/
def sbase (bs : Option Addr) (l m sz : Nat) : Option Addr := bif Nat.beq m l then bs else bs.map (·.add (l * sz))
def evo (E : List (Nat × Value)) : Option Operand → Option (Option Value)
  | none => some none
  | some x => (ev E x).map some
theorem Agr.evo {ρ : Operand → Value} (h : Agr E ρ) {o : Option Operand} {v : Option Value} (e : Sp.evo E o = some v) : o.map ρ = v := by
  cases o with
  | none => simp [Sp.evo] at e; simp [← e]
  | some x =>
    simp only [Sp.evo, Option.map_eq_some_iff] at e
    obtain ⟨u, hu, rfl⟩ := e
    simp [h x u hu]
def SBo (v : Option Value) (y d : Nat) (r : Nat) : Prop := (∃ k i, v = some (.int k i) ∧ 0 ≤ i ∧ i ≤ (y : Int) ∧ i.toNat = r) ∨ (v = none ∧ d = r)
theorem lv_slice {t e : TypeId} {x : Operand} {lo hi mx : Option Operand} {lov hiv mxv : Option Value} {bs : Option Addr} {n cp l h m sz : Nat} {v : Value} (hu : P.underlying t = some (.slice e)) (hsz : ∀ w, (sizeOf e).run P w = .ok sz w)
    (hx : ev E x = some (.slice bs n cp)) (hlo : evo E lo = some lov) (hhi : evo E hi = some hiv) (hmx : evo E mx = some mxv) (hm : SBo mxv cp cp m) (hh : SBo hiv m n h) (hl : SBo lov h 0 l)
    (hn : (mxv.isSome = true → hiv.isSome = true)) (hv : .slice (sbase bs l m sz) (h - l) (m - l) = v) : LV P E L (.slice t x lo hi mx) ty v := by
  intro ρ hρ w _ d pos af g
  subst hv
  have e1 := hρ.evo hlo
  have e2 := hρ.evo hhi
  have e3 := hρ.evo hmx
  simp only [execOp, hρ x _ hx, e1, e2, e3]
  have hb : ∀ (y r : Nat) (k : IntKind) (i : Int) (c : BoundsCode), 0 ≤ i ∧ i ≤ y ∧ i.toNat = r → (Instr.sliceBound (.int k i) y c).run P w = .ok r w := by
    intro y r k i c ⟨h0, h1, h2⟩
    simp [Instr.sliceBound, asIntOf, h0, h1, h2]
  have hsb : (Instr.sliceBounds true n cp lov hiv mxv).run P w = .ok (l, h, m) w := by
    clear e1 e2 e3 hlo hhi hmx
    rcases hm with ⟨k, i, rfl, hm⟩ | ⟨rfl, rfl⟩ <;> rcases hh with ⟨k', i', rfl, hh⟩ | ⟨rfl, rfl⟩ <;> rcases hl with ⟨k'', i'', rfl, hl⟩ | ⟨rfl, rfl⟩
    · simp [Instr.sliceBounds, hb _ _ _ _ _ hm, hb _ _ _ _ _ hh, hb _ _ _ _ _ hl]
    · simp [Instr.sliceBounds, hb _ _ _ _ _ hm, hb _ _ _ _ _ hh]
    · exact absurd (hn rfl) (by simp)
    · exact absurd (hn rfl) (by simp)
    · simp [Instr.sliceBounds, hb _ _ _ _ _ hh, hb _ _ _ _ _ hl]
    · simp [Instr.sliceBounds, hb _ _ _ _ _ hh]
    · simp [Instr.sliceBounds, hb _ _ _ _ _ hl]
    · simp [Instr.sliceBounds]
  have hif : (if m = l then bs else bs.map (·.add (l * sz))) = sbase bs l m sz := by
    unfold sbase
    by_cases e : m = l
    · subst e; simp
    · rw [if_neg e]
      have : Nat.beq m l = false := by cases hbq : Nat.beq m l with | false => rfl | true => exact absurd (Nat.eq_of_beq_eq_true hbq) e
      rw [this, cond_false]
  simp [Instr.sliceAt, Instr.slice, run_underlying hu, hsb, hsz, hif]
theorem sbase_zero {bs : Option Addr} {m sz : Nat} : sbase bs 0 m sz = bs := by
  unfold sbase
  cases Nat.beq m 0 with
  | true => rfl
  | false => cases bs <;> simp [Addr.add]
theorem slok_sbase {bs : Option Addr} {n l m sz k : Nat} (h : SlOk bs n) (hn : 0 < n) : SlOk (sbase bs l m sz) k := by
  obtain ⟨b, o, rfl⟩ := h hn
  intro _
  unfold sbase
  cases Nat.beq m l with
  | true => exact ⟨b, o, rfl⟩
  | false => exact ⟨b, o + l * sz, by rw [cond_false]; simp [add_plain]⟩
theorem ad_sbase {bs : Option Addr} {n l m sz : Nat} (h : SlOk bs n) (hn : 0 < n) (hlm : l < m) (k : Nat) : ad (sbase bs l m sz) k = ad bs (l * sz + k) := by
  obtain ⟨b, o, rfl⟩ := h hn
  have : Nat.beq m l = false := by cases hbq : Nat.beq m l with | false => rfl | true => exact absurd (Nat.eq_of_beq_eq_true hbq) (by omega)
  unfold sbase; rw [this, cond_false]
  simp [add_plain, ad, Nat.add_assoc]
/-- what lies behind a place can be read at the slice that begins there -/
theorem rd_sbase {bs : Option Addr} {n l m sz : Nat} {cs : List Value} (hrd : Rd L bs cs) (h : SlOk bs n) (hl : cs.length = n * sz) (hnm : n ≤ m) : Rd L (sbase bs l m sz) (cs.drop (l * sz)) := by
  intro w hs j u hu
  rw [List.getElem?_drop] at hu
  have hj := (List.getElem?_eq_some_iff.1 hu).1
  have hn : 0 < n := by
    rcases Nat.eq_zero_or_pos n with h0 | h0
    · subst h0; rw [Nat.zero_mul] at hl; omega
    · exact h0
  have hlm : l < m := by
    rcases Nat.lt_or_ge l m with h0 | h0
    · exact h0
    · have : n * sz ≤ l * sz := Nat.mul_le_mul_right _ (by omega)
      omega
  rw [ad_sbase h hn hlm]
  exact hrd w hs _ _ hu
theorem rd_take {bs : Option Addr} {cs : List Value} (hrd : Rd L bs cs) (k : Nat) : Rd L bs (cs.take k) := by
  intro w hs j u hu
  rw [List.getElem?_take] at hu
  split at hu
  · exact hrd w hs j u hu
  · cases hu
/-- the first part of a slice of one's own, forgetting the rest -/
theorem sat_short {T sz n k cp : Nat} {bs : Option Addr} {cs : List Value} {w : World} (hk : k ≤ n) (h0 : 0 < n) (h : Sat (SlV T sz (.slice bs n cp) n cs :: L) w) : Sat (SlV T sz (.slice bs k cp) k (cs.take (k * sz)) :: L) w := by
  refine h.imp fun f hf => ?_
  obtain ⟨hl, hf⟩ := hf
  have hks : k * sz ≤ n * sz := Nat.mul_le_mul_right _ hk
  refine ⟨by rw [List.length_take]; omega, ?_⟩
  rcases hf with ⟨_, hn, _⟩ | ⟨g, cap, cur, hv, rfl, h1, h2, h3, h4⟩
  · omega
  · simp only [Value.slice.injEq, true_and] at hv
    obtain ⟨rfl, rfl⟩ := hv
    exact .inr ⟨g, cp, cur, rfl, rfl, by omega, h2, h3, by rw [← h4, List.take_take, Nat.min_eq_left hks]⟩
theorem slv_facts {T sz n cp : Nat} {bs : Option Addr} {cs : List Value} {w : World} (h : Sat (SlV T sz (.slice bs n cp) n cs :: L) w) : SlOk bs n ∧ n ≤ cp ∧ cp ≤ maxLen := by
  obtain ⟨fall, ⟨f1, f2, rfl, ⟨hcl, hf⟩, hp⟩, hh⟩ := h
  rcases hf with ⟨hv, hn, _⟩ | ⟨gb, cap, cur, hv, rfl, h2, h3, h4, h5⟩
  · simp only [Value.slice.injEq] at hv
    obtain ⟨rfl, rfl, rfl⟩ := hv
    exact ⟨fun h => absurd h (by omega), Nat.le_refl _, Nat.zero_le _⟩
  · simp only [Value.slice.injEq, true_and] at hv
    obtain ⟨rfl, rfl⟩ := hv
    exact ⟨slok_some _ _, h2, h3⟩
/-- what is added lies in the slice's own row: nothing moves but the cells -/
theorem mv_appendOwn {t e : TypeId} {i : TypeInfo} {sz : Nat} {s x : Operand} {bs bx : Option Addr} {n cp k m c : Nat} {cs cs' news : List Value} (hu : P.underlying t = some (.slice e)) (hi : P.info? e = some i)
    (hsz : i.size = sz) (hs' : ev E s = some (.slice bs k cp)) (hx : ev E x = some (.slice bx m c)) (hok : SlOk bx 1) (h0 : 0 < n) (hl : news.length = m * sz) (hrd : Rd (SlV e sz (.slice bs n cp) n cs :: L) bx news)
    (h1 : ∀ u ∈ news, u.oneCell' = true) (hkm : k + m ≤ n) (hc : cs.take (k * sz) ++ news ++ cs.drop ((k + m) * sz) = cs') :
    MV P E (SlV e sz (.slice bs n cp) n cs :: L) (.call { callee := .builtin .append, args := #[s, x], argTypes := #[t, t] }) ty (fun v M => v = .slice bs (k + m) cp ∧ M = SlV e sz (.slice bs n cp) n cs' :: L) := by
  intro ρ h w hs d pos af g
  subst hsz; subst hc
  obtain ⟨ab, ao, rfl⟩ := hok (by omega)
  obtain ⟨fall, ⟨f1, f2, rfl, ⟨hcl, hf⟩, hp⟩, hh⟩ := id hs
  rcases hf with ⟨_, hn, _⟩ | ⟨gb, cap, cur, hv, rfl, h2, h3, h4, h5⟩
  · omega
  simp only [Value.slice.injEq, true_and] at hv
  obtain ⟨rfl, rfl⟩ := hv
  have hb := hh.2 (gb, .cells cur e (0, 0)) (by simp)
  have hnews' : ∀ j u, news[j]? = some u → w.cell? ((⟨ab, ao, none⟩ : Addr).add j) = some u := by
    intro j u hu'
    have := hrd w hs j u hu'
    rwa [add_plain]
  have hkn : (k + m) * i.size ≤ n * i.size := Nat.mul_le_mul_right _ hkm
  have hnc : n * i.size ≤ cp * i.size := Nat.mul_le_mul_right _ h2
  have hkm' : (k + m) * i.size = k * i.size + news.length := by rw [hl, Nat.add_mul]
  have hr := run_append_room (P := P) w t ty e i hu hi gb k cp cur hb ⟨ab, ao, none⟩ m c news hl hnews' h1 (by omega) (by omega)
  have u := upd_setRow hb (cur.toList.take (k * i.size) ++ news ++ cur.toList.drop (k * i.size + news.length)).toArray
  have hs2 : Sat (one gb (.cells cur e (0, 0)) :: L) w := ⟨_, ⟨_, f2, rfl, rfl, hp⟩, hh⟩
  have hcl' : cur.toList.length = cur.size := Array.length_toList
  refine ⟨_, _, _, ?_, ⟨rfl, rfl⟩, (hs2.upd u).imp fun f hf => ⟨?_, .inr ⟨gb, cp, _, rfl, hf, h2, h3, ?_, ?_⟩⟩, u.ext (.inr ⟨_, _, hb⟩)⟩
  · simp [execOp, resolve, h s _ hs', h x _ hx, invoke, builtin, hr]
  · simp; omega
  · simp; omega
  · have := splice_take cur.toList news (k * i.size) (n * i.size) (by omega) (by omega)
    rw [h5] at this
    simpa [hkm'] using this
/-- zeros over a part of a slice of one's own -/
theorem mv_clear {t e : TypeId} {z : Value} {sz : Nat} {x : Operand} {bs : Option Addr} {n cp l m c : Nat} {cs : List Value} (hu : P.underlying t = some (.slice e)) (hz : ∀ w, (zeroValue e).run P w = .ok z w)
    (hzs : z.cells.size = sz) (hz1 : (z.cells.toList.all fun u => u.oneCell') = true) (hpos : 0 < sz) (hx : ev E x = some (.slice (sbase bs l c sz) m (c - l))) (hok : SlOk bs n) (hm : 0 < m) (hlc : l < c) (hlm : l + m ≤ n) :
    MV P E (SlV e sz (.slice bs n cp) n cs :: L) (.call { callee := .builtin .clear, args := #[x], argTypes := #[t] }) ty (fun _ M => ∃ zs : List Value, M = SlV e sz (.slice bs n cp) n (cs.take (l * sz) ++ zs ++ cs.drop ((l + m) * sz)) :: L) := by
  intro ρ h w hs d pos af g
  obtain ⟨fall, ⟨f1, f2, rfl, ⟨hcl, hf⟩, hp⟩, hh⟩ := id hs
  rcases hf with ⟨_, hn, _⟩ | ⟨gb, cap, cur, hv, rfl, h2, h3, h4, h5⟩
  · omega
  simp only [Value.slice.injEq, true_and] at hv
  obtain ⟨rfl, rfl⟩ := hv
  have hb := hh.2 (gb, .cells cur e (0, 0)) (by simp)
  have hsb : sbase (some ⟨gb, 0, none⟩) l c sz = some ⟨gb, l * sz, none⟩ := by
    have : Nat.beq c l = false := by cases hbq : Nat.beq c l with | false => rfl | true => exact absurd (Nat.eq_of_beq_eq_true hbq) (by omega)
    unfold sbase; rw [this, cond_false]; simp [add_plain]
  rw [hsb] at hx
  obtain ⟨zs, hzs'⟩ : ∃ zs, (Builtin.zeroCells z.cells m).toList = zs := ⟨_, rfl⟩
  have hzl : zs.length = m * sz := by rw [← hzs', Array.length_toList, size_zeroCells, hzs]
  have h1 : ∀ u ∈ zs, u.oneCell' = true := by
    intro u hu'
    rw [← hzs'] at hu'
    simp only [Builtin.zeroCells, Array.toList_map, List.mem_map] at hu'
    obtain ⟨j, _, rfl⟩ := hu'
    have hlt : j % z.cells.size < z.cells.size := Nat.mod_lt _ (by omega)
    rw [getElem!_pos z.cells _ hlt]
    exact List.all_eq_true.1 hz1 _ (by rw [Array.mem_toList_iff]; exact Array.getElem_mem hlt)
  have hkn : (l + m) * sz ≤ n * sz := Nat.mul_le_mul_right _ hlm
  have hnc : n * sz ≤ cp * sz := Nat.mul_le_mul_right _ h2
  have hkm' : (l + m) * sz = l * sz + zs.length := by rw [hzl, Nat.add_mul]
  have hr := run_storeCells_at P gb (l * sz) e zs 0 cur w hb (by omega) h1
  simp only [Nat.add_zero] at hr
  have u := upd_setRow hb (cur.toList.take (l * sz) ++ zs ++ cur.toList.drop (l * sz + zs.length)).toArray
  have hs2 : Sat (one gb (.cells cur e (0, 0)) :: L) w := ⟨_, ⟨_, f2, rfl, rfl, hp⟩, hh⟩
  have hcl' : cur.toList.length = cur.size := Array.length_toList
  refine ⟨.tuple #[], _, _, ?_, ⟨zs, rfl⟩, (hs2.upd u).imp fun f hf => ⟨?_, .inr ⟨gb, cp, _, rfl, hf, h2, h3, ?_, ?_⟩⟩, u.ext (.inr ⟨_, _, hb⟩)⟩
  · obtain ⟨m', rfl⟩ : ∃ m', m = m' + 1 := ⟨m - 1, by omega⟩
    simp [execOp, resolve, h x _ hx, invoke, builtin, Builtin.clear_, run_underlying hu, hz, hzs', hr]
  · simp; omega
  · simp; omega
  · have := splice_take cur.toList zs (l * sz) (n * sz) (by omega) (by omega)
    rw [h5] at this
    simpa [hkm'] using this
end
end Go.Proofs.Ytombnfgkgcjihaa.Sp
