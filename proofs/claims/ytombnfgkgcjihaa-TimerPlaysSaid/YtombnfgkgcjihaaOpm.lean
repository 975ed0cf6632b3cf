/- More operations over Sep: aggregates built and stored. No program in it. -/
import Derived.Test.YtombnfgkgcjihaaOpl
set_option linter.unusedVariables false
set_option linter.unusedSimpArgs false
namespace Go.Proofs.Ytombnfgkgcjihaa.Sp
open Go
section
variable {P : Program} {E : List (Nat × Value)} {L : List HP} {ty : TypeId}
theorem lv_buildArr0 {t e : TypeId} {n s : Nat} {z : Value} {cs : List Value} (hu : P.underlying t = some (.array n e)) (hz : ∀ w, (zeroValue t).run P w = .ok z w) (hsz : ∀ w, (sizeOf e).run P w = .ok s w) (hc : z.cells = cs.toArray) :
    LV P E L (.build t #[]) ty (.agg cs.toArray) := by
  intro ρ h w _ d pos af g
  simp [execOp, Instr.build, hz, run_underlying hu, hsz, Instr.fill, hc]
theorem splice_take {α : Type} (A new : List α) (k N : Nat) (h : k + new.length ≤ N) (hN : N ≤ A.length) :
    (A.take k ++ new ++ A.drop (k + new.length)).take N = (A.take N).take k ++ new ++ (A.take N).drop (k + new.length) := by
  have h1 : (A.take k).length = k := by rw [List.length_take]; omega
  rw [List.append_assoc, List.append_assoc, List.take_append, List.take_append, List.take_take, List.take_take, List.drop_take, h1]
  rw [Nat.min_eq_right (by omega : k ≤ N), Nat.min_eq_left (by omega : k ≤ N), List.take_of_length_le (by omega : new.length ≤ N - k), Nat.sub_sub]
theorem run_storeVarAgg {t : TypeId} {g o : Nat} {v : Value} {news : List Value} {cur : Array Value} {T : TypeId} {w : World} (hsz : ∀ w, (sizeOf t).run P w = .ok news.length w) (hv : v.cells.toList = news) (hg : w.heap[g]? = some (.cells cur T (0, 0)))
    (hl : o + news.length ≤ cur.size) (h1 : ∀ u ∈ news, u.oneCell' = true) : (storeVar t ⟨g, o, none⟩ v).run P w = .ok () (w.setRow g (cur.toList.take o ++ news ++ cur.toList.drop (o + news.length)).toArray) := by
  have hs : v.cells.size = news.length := by rw [← hv, Array.length_toList]
  have := run_storeCells_at (P := P) g o T news 0 cur w hg (by simpa using hl) h1
  simp [storeVar, hsz, hs, hv]
  simpa using this
theorem sv_blkAgg {t : TypeId} {x y : Operand} {b o : Nat} {cs cs' news : List Value} {T : TypeId} {v : Value} (hsz : ∀ w, (sizeOf t).run P w = .ok news.length w) (hx : ev E x = some (.pointer (some ⟨b, o, none⟩))) (hy : ev E y = some v) (hv : v.cells.toList = news)
    (h1 : (news.all fun u => u.oneCell') = true) (ho : o + news.length ≤ cs.length) (hc : cs.take o ++ news ++ cs.drop (o + news.length) = cs') : SV P E (Blk b cs T :: L) (.store t x y) ty (Blk b cs' T :: L) := by
  intro ρ h w hs d pos af g
  subst hc
  obtain ⟨f, hf, hh⟩ := hs.mem (List.mem_cons_self ..)
  subst hf
  have hb := hh.2 _ (List.mem_singleton.2 rfl)
  have r := run_storeVarAgg (P := P) hsz hv hb (by simpa using ho) (by simpa using h1)
  have u := upd_setRow hb (cs.take o ++ news ++ cs.drop (o + news.length)).toArray
  refine ⟨_, ?_, hs.upd u, u.ext (.inr ⟨_, _, hb⟩)⟩
  simp [execOp, h x _ hx, h y _ hy, Instr.storeAt, Instr.sureAddr] at r ⊢
  rw [r]; rfl
theorem sv_slAgg {t : TypeId} {x y : Operand} {bs : Option Addr} {n cp sz k : Nat} {cs cs' news : List Value} {T : TypeId} {v : Value} (hsz : ∀ w, (sizeOf t).run P w = .ok news.length w) (hx : ev E x = some (.pointer (some (ad bs k)))) (hy : ev E y = some v) (hv : v.cells.toList = news)
    (h1 : (news.all fun u => u.oneCell') = true) (h0 : 0 < news.length) (hk : k + news.length ≤ cs.length) (hc : cs.take k ++ news ++ cs.drop (k + news.length) = cs') :
    SV P E (SlV T sz (.slice bs n cp) n cs :: L) (.store t x y) ty (SlV T sz (.slice bs n cp) n cs' :: L) := by
  intro ρ h w hs d pos af g
  subst hc
  obtain ⟨fall, ⟨f1, f2, rfl, ⟨hl, hf⟩, hp⟩, hh⟩ := hs
  rcases hf with ⟨_, hn0, _⟩ | ⟨gb, cap, cur, hvv, rfl, h2, h3, h4, h5⟩
  · subst hn0; simp at hl; rw [hl] at hk; simp at hk; rw [hk.2] at h0; simp at h0
  simp only [Value.slice.injEq, true_and] at hvv
  obtain ⟨rfl, rfl⟩ := hvv
  have hb := hh.2 (gb, .cells cur T (0, 0)) (by simp)
  have hcs : cs.length ≤ cur.size := by rw [h4, hl]; exact Nat.mul_le_mul_right _ h2
  have r := run_storeVarAgg (P := P) (o := k) hsz hv hb (by omega) (by simpa using h1)
  have u := upd_setRow hb (cur.toList.take k ++ news ++ cur.toList.drop (k + news.length)).toArray
  have hs' : Sat (one gb (.cells cur T (0, 0)) :: L) w := ⟨_, ⟨_, f2, rfl, rfl, hp⟩, hh⟩
  obtain ⟨_, ⟨f3, f4, rfl, rfl, hp'⟩, hh'⟩ := hs'.upd u
  have hcl : cur.toList.length = cur.size := Array.length_toList
  have e1 : (cs.take k ++ news ++ cs.drop (k + news.length)).length = n * sz := by simp; omega
  have e2 : (cur.toList.take k ++ news ++ cur.toList.drop (k + news.length)).length = cp * sz := by simp; omega
  refine ⟨_, ?_, ⟨_, ⟨_, f4, rfl, ⟨e1, .inr ⟨gb, cp, _, rfl, rfl, h2, h3, by simpa using e2, ?_⟩⟩, hp'⟩, hh'⟩, u.ext (.inr ⟨_, _, hb⟩)⟩
  · simp [execOp, h x _ hx, h y _ hy, Instr.storeAt, Instr.sureAddr, ad] at r ⊢
    rw [r]; rfl
  · subst h5
    have hk2 : k + news.length ≤ n * sz := by rw [hl] at hk; exact hk
    have := splice_take cur.toList news k (n * sz) hk2 (by rw [hcl, h4]; exact Nat.mul_le_mul_right _ h2)
    simpa using this
end
end Go.Proofs.Ytombnfgkgcjihaa.Sp
