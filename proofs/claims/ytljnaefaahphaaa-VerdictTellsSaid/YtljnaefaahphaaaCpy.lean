/- copy: over a part of a slice of one's own. No program in it. -/
import Derived.Test.YtljnaefaahphaaaOpm2
import Derived.Test.YtljnaefaahphaaaVal2
import Derived.Laws.CopyRow
set_option linter.unusedVariables false
set_option linter.unusedSimpArgs false
namespace Go.Proofs.Ytljnaefaahphaaa.Sp
open Go
variable {P : Program} {L : List HP} {E : List (Nat × Value)} {ty : TypeId}
theorem mv_copy {t e : TypeId} {i : TypeInfo} {sz : Nat} {d s : Operand} {bs bx : Option Addr} {n cp l m c c2 k cx q : Nat} {cs cs' news : List Value} (hu : P.underlying t = some (.slice e)) (hi : P.info? e = some i)
    (hsz : i.size = sz) (hd : ev E d = some (.slice (sbase bs l c sz) m c2)) (hs' : ev E s = some (.slice bx k cx)) (hq : min k m = q) (hq0 : 0 < q) (hlc : l < c) (hlm : l + m ≤ n) (hok : SlOk bx 1) (hl : news.length = q * sz)
    (hrd : Rd (SlV e sz (.slice bs n cp) n cs :: L) bx news) (h1 : ∀ u ∈ news, u.oneCell' = true) (hc : cs.take (l * sz) ++ news ++ cs.drop ((l + q) * sz) = cs') :
    MV P E (SlV e sz (.slice bs n cp) n cs :: L) (.call { callee := .builtin .copy, args := #[d, s], argTypes := #[t, t] }) ty (fun v M => v = .int .i64 ((q : Nat) : Int) ∧ M = SlV e sz (.slice bs n cp) n cs' :: L) := by
  intro ρ h w hs d' pos af g
  subst hsz; subst hc
  obtain ⟨ab, ao, rfl⟩ := hok (by omega)
  obtain ⟨fall, ⟨f1, f2, rfl, ⟨hcl, hf⟩, hp⟩, hh⟩ := id hs
  rcases hf with ⟨_, hn, _⟩ | ⟨gb, cap, cur, hv, rfl, h2, h3, h4, h5⟩
  · omega
  simp only [Value.slice.injEq, true_and] at hv
  obtain ⟨rfl, rfl⟩ := hv
  have hb := hh.2 (gb, .cells cur e (0, 0)) (by simp)
  have hsb : sbase (some ⟨gb, 0, none⟩) l c i.size = some ⟨gb, l * i.size, none⟩ := by
    have : Nat.beq c l = false := by cases hbq : Nat.beq c l with | false => rfl | true => exact absurd (Nat.eq_of_beq_eq_true hbq) (by omega)
    unfold sbase; rw [this, cond_false]; simp [add_plain]
  rw [hsb] at hd
  have hnews' : ∀ j u, news[j]? = some u → w.cell? ((⟨ab, ao, none⟩ : Addr).add j) = some u := by
    intro j u hu'
    have := hrd w hs j u hu'
    rwa [add_plain]
  have hqm : q ≤ m := by omega
  have hkn : (l + q) * i.size ≤ n * i.size := Nat.mul_le_mul_right _ (by omega)
  have hnc : n * i.size ≤ cp * i.size := Nat.mul_le_mul_right _ h2
  have hkm' : (l + q) * i.size = l * i.size + news.length := by rw [hl, Nat.add_mul]
  have hfc := run_firstCells_some (P := P) w i.size q ⟨ab, ao, none⟩ k cx news hl hnews'
  have hr := run_storeCells_at P gb (l * i.size) e news 0 cur w hb (by omega) h1
  simp only [Nat.add_zero] at hr
  have u := upd_setRow hb (cur.toList.take (l * i.size) ++ news ++ cur.toList.drop (l * i.size + news.length)).toArray
  have hs2 : Sat (one gb (.cells cur e (0, 0)) :: L) w := ⟨_, ⟨_, f2, rfl, rfl, hp⟩, hh⟩
  have hcl' : cur.toList.length = cur.size := Array.length_toList
  have hmin : Nat.min k m = q := hq
  refine ⟨_, _, _, ?_, ⟨rfl, rfl⟩, (hs2.upd u).imp fun f hf => ⟨?_, .inr ⟨gb, cp, _, rfl, hf, h2, h3, ?_, ?_⟩⟩, u.ext (.inr ⟨_, _, hb⟩)⟩
  · simp [execOp, resolve, h s _ hs', h d _ hd, invoke, builtin, Builtin.copy_, run_underlying hu, sizeOf, typeInfo, hi, Builtin.lenOf, hmin, hfc, hr, goInt]
  · simp; omega
  · simp; omega
  · have := splice_take cur.toList news (l * i.size) (n * i.size) (by omega) (by omega)
    rw [h5] at this
    simpa [hkm'] using this
/-- nothing is copied -/
theorem lv_copy0 {t e : TypeId} {i : TypeInfo} {d s : Operand} {bs bx : Option Addr} {m c2 k cx : Nat} (hu : P.underlying t = some (.slice e)) (hi : P.info? e = some i)
    (hd : ev E d = some (.slice bs m c2)) (hs' : ev E s = some (.slice bx k cx)) (hq : min k m = 0) : LV P E L (.call { callee := .builtin .copy, args := #[d, s], argTypes := #[t, t] }) ty (.int .i64 0) := by
  intro ρ h w _ d' pos af g
  have hmin : Nat.min k m = 0 := hq
  have hfc : ∀ bx : Option Addr, (Builtin.firstCells i.size 0 (.slice bx k cx)).run P w = .ok #[] w := by
    intro bx; cases bx <;> simp [Builtin.firstCells, loadCells, loadCellsFrom]
  cases bs <;> simp [execOp, resolve, h s _ hs', h d _ hd, invoke, builtin, Builtin.copy_, run_underlying hu, sizeOf, typeInfo, hi, Builtin.lenOf, hmin, hfc, storeCells, goInt]
end Go.Proofs.Ytljnaefaahphaaa.Sp
