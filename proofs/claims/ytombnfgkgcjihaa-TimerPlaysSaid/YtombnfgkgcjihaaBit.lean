/- Sets of up to 64 tasks as bits of a number. No program in it. -/
import Derived.Test.YtombnfgkgcjihaaVal
namespace Go.Proofs.Ytombnfgkgcjihaa.Sp
open Go
theorem ofInt_natCast64 (m : Nat) (h : m < 2 ^ 64) : (BitVec.ofInt 64 (m : Int)).toNat = m := by
  simp only [BitVec.toNat_ofInt]
  omega
theorem bShr_nat (m a : Nat) (ha : a < 64) : bShr .u64 (m : Int) (a : Int) = ((m / 2 ^ a : Nat) : Int) := by
  unfold bShr
  have : min (a : Int).toNat (IntKind.bits .u64) = a := by simp [IntKind.bits]; omega
  rw [this]
  rw [Int.fdiv_eq_ediv_of_nonneg _ (by exact_mod_cast Nat.zero_le _)]
  norm_cast
theorem wrap_u64_nat (m : Nat) (h : m < 2 ^ 64) : IntKind.u64.wrap (m : Int) = (m : Int) := wr_u64 (by omega) (by omega)
theorem bAnd_nat (m k : Nat) (hm : m < 2 ^ 64) (hk : k < 2 ^ 64) : bAnd .u64 (m : Int) (k : Int) = ((m &&& k : Nat) : Int) := by
  unfold bAnd
  have h1 := ofInt_natCast64 m hm
  have h2 := ofInt_natCast64 k hk
  show IntKind.u64.wrap ((BitVec.ofInt 64 (m : Int) &&& BitVec.ofInt 64 (k : Int)).toNat : Int) = _
  rw [BitVec.toNat_and, h1, h2]
  exact wrap_u64_nat _ (Nat.lt_of_le_of_lt Nat.and_le_left hm)
theorem bOr_nat (m k : Nat) (hm : m < 2 ^ 64) (hk : k < 2 ^ 64) : bOr .u64 (m : Int) (k : Int) = ((m ||| k : Nat) : Int) := by
  unfold bOr
  have h1 := ofInt_natCast64 m hm
  have h2 := ofInt_natCast64 k hk
  show IntKind.u64.wrap ((BitVec.ofInt 64 (m : Int) ||| BitVec.ofInt 64 (k : Int)).toNat : Int) = _
  rw [BitVec.toNat_or, h1, h2]
  exact wrap_u64_nat _ (Nat.or_lt_two_pow hm hk)
theorem bShl_one (a : Nat) (ha : a < 64) : bShl .u64 1 (a : Int) = ((2 ^ a : Nat) : Int) := by
  unfold bShl
  have : min (a : Int).toNat (IntKind.bits .u64) = a := by simp [IntKind.bits]; omega
  rw [this, Int.one_mul]
  have h : 2 ^ a < 2 ^ 64 := Nat.pow_lt_pow_right (by omega) ha
  have := wrap_u64_nat (2 ^ a) h
  push_cast at this ⊢
  exact this
theorem bAndNot_nat (m k : Nat) (hm : m < 2 ^ 64) (hk : k < 2 ^ 64) : ∃ r : Nat, bAndNot .u64 (m : Int) (k : Int) = (r : Int) ∧ r < 2 ^ 64 ∧ ∀ i, r.testBit i = (m.testBit i && !k.testBit i) := by
  have h1 := ofInt_natCast64 m hm
  have h2 := ofInt_natCast64 k hk
  have hlt : (BitVec.ofInt 64 (m : Int) &&& ~~~(BitVec.ofInt 64 (k : Int))).toNat < 2 ^ 64 := BitVec.isLt _
  refine ⟨(BitVec.ofInt 64 (m : Int) &&& ~~~(BitVec.ofInt 64 (k : Int))).toNat, ?_, hlt, fun i => ?_⟩
  · unfold bAndNot
    exact wrap_u64_nat _ hlt
  · simp only [BitVec.toNat_and, BitVec.toNat_not, h1, h2, Nat.testBit_and]
    by_cases hi : i < 64
    · rw [show (2 : Nat) ^ 64 - 1 - k = 2 ^ 64 - (k + 1) from by omega, Nat.testBit_two_pow_sub_succ hk]
      simp [hi]
    · have : m.testBit i = false := Nat.testBit_lt_two_pow (Nat.lt_of_lt_of_le hm (Nat.pow_le_pow_right (by omega) (by omega)))
      simp [this]
/-- is bit a set, as the program asks -/
theorem has_bit (m a : Nat) (ha : a < 64) (hm : m < 2 ^ 64) : (bAnd .u64 (bShr .u64 (m : Int) (a : Int)) 1 == 1) = m.testBit a := by
  rw [bShr_nat m a ha]
  have h1 := bAnd_nat (m / 2 ^ a) 1 (Nat.lt_of_le_of_lt (Nat.div_le_self _ _) hm) (by decide)
  have h1' : bAnd .u64 ((m / 2 ^ a : Nat) : Int) 1 = ((m / 2 ^ a &&& 1 : Nat) : Int) := h1
  rw [h1']
  rw [Nat.testBit_eq_decide_div_mod_eq, Nat.and_one_is_mod]
  generalize m / 2 ^ a % 2 = r
  rcases Decidable.em (r = 1) with e | e
  · simp [e]
  · have : ((r : Int) == 1) = false := by rw [beq_eq_false_iff_ne]; omega
    simp [this, e]
theorem with_bit (m a : Nat) (ha : a < 64) (hm : m < 2 ^ 64) : bOr .u64 (m : Int) (bShl .u64 1 (a : Int)) = ((m ||| 2 ^ a : Nat) : Int) := by
  rw [bShl_one a ha]
  exact bOr_nat m (2 ^ a) hm (Nat.pow_lt_pow_right (by omega) ha)
theorem with_lt (m a : Nat) (ha : a < 64) (hm : m < 2 ^ 64) : m ||| 2 ^ a < 2 ^ 64 := Nat.or_lt_two_pow hm (Nat.pow_lt_pow_right (by omega) ha)
theorem with_test (m a i : Nat) : (m ||| 2 ^ a).testBit i = (m.testBit i || decide (i = a)) := by
  rw [Nat.testBit_or, Nat.testBit_two_pow]
  congr 1
  rw [decide_eq_decide]; exact eq_comm
end Go.Proofs.Ytombnfgkgcjihaa.Sp
