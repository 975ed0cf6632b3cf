/- Rows of numbers, told to be the same; the low bits of a number. No program in it. -/
import Derived.Test.YtombnfgkgcjihaaBit
namespace Go.Proofs.Ytombnfgkgcjihaa.Sp
open Go
def eqI (xs ys : List Int) : Bool := xs == ys
theorem eqI_true {xs ys : List Int} (h : xs.length = ys.length) (ha : ∀ j, j < xs.length → xs.getD j 0 = ys.getD j 0) : eqI xs ys = true := by
  unfold eqI; rw [beq_iff_eq]
  refine List.ext_getElem h fun i h1 h2 => ?_
  have := ha i h1
  simpa [List.getD, h1, h2] using this
theorem eqI_len {xs ys : List Int} (h : ¬ xs.length = ys.length) : eqI xs ys = false := by
  unfold eqI; rw [beq_eq_false_iff_ne]; intro e; subst e; exact h rfl
theorem eqI_at {xs ys : List Int} {j : Nat} (_ : j < xs.length) (_ : j < ys.length) (h : ¬ xs.getD j 0 = ys.getD j 0) : eqI xs ys = false := by
  unfold eqI; rw [beq_eq_false_iff_ne]; intro e; subst e; exact h rfl
theorem eqI_refl (xs : List Int) : eqI xs xs = true := by simp [eqI]
theorem take_succ_getD {α : Type} {l : List α} {k : Nat} (h : k < l.length) (d : α) : l.take (k + 1) = l.take k ++ [l.getD k d] := by
  rw [List.take_succ_eq_append_getElem h]; simp [List.getD, h]
theorem take_end {α : Type} {l : List α} {k n : Nat} (h : k = n ∨ (k = l.length ∧ k ≤ n)) : l.take k = l.take n := by
  rcases h with h | ⟨h, h'⟩
  · rw [h]
  · rw [List.take_of_length_le (by omega), List.take_of_length_le (by omega)]
theorem and_pow (k : Nat) (hk : k ≤ 62) (n : Int) : bAnd .i64 n ((2 ^ k - 1 : Nat) : Int) = n % (2 ^ k : Nat) := by
  unfold bAnd
  have hp : 2 ^ k ≤ 2 ^ 62 := Nat.pow_le_pow_right (by omega) hk
  have h0 : 0 < 2 ^ k := Nat.two_pow_pos k
  have h2 : (BitVec.ofInt 64 ((2 ^ k - 1 : Nat) : Int)).toNat = 2 ^ k - 1 := ofInt_natCast64 _ (by omega)
  show IntKind.i64.wrap ((BitVec.ofInt 64 n &&& BitVec.ofInt 64 ((2 ^ k - 1 : Nat) : Int)).toNat : Int) = _
  rw [BitVec.toNat_and, h2, Nat.and_two_pow_sub_one_eq_mod, BitVec.toNat_ofInt]
  have e : (((n % (2 ^ 64 : Nat)).toNat % 2 ^ k : Nat) : Int) = n % (2 ^ k : Nat) := by
    rw [Int.natCast_emod, Int.toNat_of_nonneg (Int.emod_nonneg _ (by decide))]
    refine Int.emod_emod_of_dvd n ?_
    exact_mod_cast Nat.pow_dvd_pow 2 (by omega : k ≤ 64)
  rw [e]
  have h3 : 0 ≤ n % (2 ^ k : Nat) := Int.emod_nonneg _ (by omega)
  have h4 : n % (2 ^ k : Nat) < (2 ^ k : Nat) := Int.emod_lt_of_pos _ (by omega)
  refine wr_i64 (by omega) (by omega)
theorem and_ffff (n : Int) : bAnd .i64 n 65535 = n % 65536 := and_pow 16 (by omega) n
theorem and_3f (n : Int) : bAnd .i64 n 63 = n % 64 := and_pow 6 (by omega) n
end Go.Proofs.Ytombnfgkgcjihaa.Sp
