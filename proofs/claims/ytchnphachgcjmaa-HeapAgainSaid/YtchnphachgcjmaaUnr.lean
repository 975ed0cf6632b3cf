/- Loops that go round so many times, arrays within a block, and arrays of three numbers compared. No program in it. -/
import Derived.Test.YtchnphachgcjmaaOpl
import Derived.LoopN
import Derived.ChangeKeysEq
set_option linter.unusedVariables false
set_option linter.unusedSimpArgs false
namespace Go.Proofs.Ytchnphachgcjmaa.Sp
open Go
section
variable {P : Program} {W : World} {N : Nat} {E : List (Nat × Value)} {L : List HP} {Q : Exit → Act → World → Prop} {c : Code}
theorem c_rounds (n : Nat) (h : Tri (Code.rounds P c Q n) W N E L) : Tri ((Code.loop c).wp P Q) W N E L := fun a w s => wp_loop_rounds n (h a w s)
theorem c_round {n : Nat} (h : Tri (c.wp P (Exit.then (Code.rounds P c Q n) Q)) W N E L) : Tri (Code.rounds P c Q (n + 1)) W N E L := h
variable {ty t' : TypeId}
theorem lv_indexArr_at {t e : TypeId} {x y : Operand} {b o n sz k' : Nat} {k : IntKind} {j : Int} (hu : P.underlying t = some (.array n e)) (hsz : ∀ w, (sizeOf e).run P w = .ok sz w)
    (hx : ev E x = some (.pointer (some ⟨b, o, none⟩))) (hy : ev E y = some (.int k j)) (h0 : 0 ≤ j) (hlt : j < n) (hk : o + j.toNat * sz = k') :
    LV P E L (.indexAddr t x y) ty (.pointer (some ⟨b, k', none⟩)) := by
  intro ρ h w _ d pos af g
  subst hk
  simp [execOp, h x _ hx, h y _ hy, Instr.indexAt, asIntOf, run_underlying hu, Instr.sureAddr, h0, hlt, hsz, Addr.add]
theorem lv_buildArr {t e : TypeId} {n s : Nat} {ps : List (Nat × Operand)} {vs : List Value} {z : Value} {cs : List Value} (hu : P.underlying t = some (.array n e)) (hz : ∀ w, (zeroValue t).run P w = .ok z w) (hsz : ∀ w, (sizeOf e).run P w = .ok s w)
    (hx : evs E (ps.map (·.2)) = some vs) (hc : fillL (fun i => some (i * s, s)) z.cells.toList ((ps.map (·.1)).zip vs) = some cs) : LV P E L (.build t ps.toArray) ty (.agg cs.toArray) := by
  intro ρ h w _ d pos af g
  have hc' := fill_eq _ _ _ _ hc
  have e := h.evs hx
  have e2 : (ps.map fun x => (x.1, ρ x.2)) = (ps.map (·.1)).zip vs := by
    rw [← e, List.map_map]
    clear hx hc hc' e
    induction ps with
    | nil => rfl
    | cons p ps ih => simp [ih]
  simp only [execOp, Instr.build, Sem.run_bind, hz, Result.andThen_ok, run_underlying hu, hsz, List.map_toArray]
  simp only [e2, hc']
  rfl
theorem run_equalIn_int {e : TypeId} {k : IntKind} (he : P.underlying e = some (.int k)) (d : Nat) (a : Int) (w : World) : (Op.equalIn (d + 1) e (.int k a) (.int k a)).run P w = .ok true w := by
  simp [Op.equalIn, run_underlying he]
theorem run_equalA3 {t e : TypeId} {k : IntKind} {a b c : Int} {i : TypeInfo} (hu : P.underlying t = some (.array 3 e)) (he : P.underlying e = some (.int k)) (hi : P.info? e = some i) (hc : P.cellsOf e = 1) (hag : ∀ w, (isAgg e).run P w = .ok false w) (w : World) :
    (Op.equal t (.agg #[.int k a, .int k b, .int k c]) (.agg #[.int k a, .int k b, .int k c])).run P w = .ok true w := by
  show (Op.equalIn (9999 + 1) t _ _).run P w = _
  rw [run_equalIn_array w 9999 _ _ hu hi, hc]
  have hr : List.range 3 = [0, 1, 2] := rfl
  have hq : ∀ (z : Int) (w : World), (Op.equalIn 9999 e (.int k z) (.int k z)).run P w = .ok true w := fun z w => run_equalIn_int he 9998 z w
  rw [hr]
  simp [Op.eqItems, part, hag, hq]
theorem lv_neqA3 {t e : TypeId} {x y : Operand} {k : IntKind} {a b c : Int} {i : TypeInfo} (hu : P.underlying t = some (.array 3 e)) (he : P.underlying e = some (.int k)) (hi : P.info? e = some i) (hc : P.cellsOf e = 1) (hag : ∀ w, (isAgg e).run P w = .ok false w)
    (hg : P.eqGuardType P.depth t = false) (hx : ev E x = some (.agg #[.int k a, .int k b, .int k c])) (hy : ev E y = some (.agg #[.int k a, .int k b, .int k c])) : LV P E L (.binOp .neq t x y t') ty (.bool false) := by
  intro ρ h w _ d pos af g
  simp [execOp, h x _ hx, h y _ hy, eqGuard, hg, binOp, run_equalA3 hu he hi hc hag]
end
end Go.Proofs.Ytchnphachgcjmaa.Sp
