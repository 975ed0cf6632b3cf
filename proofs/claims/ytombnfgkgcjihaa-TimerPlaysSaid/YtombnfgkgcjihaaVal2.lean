/- Parts of rows of ints, bools and pairs. No program in it. -/
import Derived.Test.YtombnfgkgcjihaaVal
import Derived.Test.YtombnfgkgcjihaaOpm2
set_option linter.unusedVariables false
set_option linter.unusedSimpArgs false
namespace Go.Proofs.Ytombnfgkgcjihaa.Sp
open Go
variable {L : List HP}
theorem ints_take (k : IntKind) (xs : List Int) (n : Nat) : (ints k xs).take n = ints k (xs.take n) := by unfold ints; rw [List.map_take]
theorem ints_drop (k : IntKind) (xs : List Int) (n : Nat) : (ints k xs).drop n = ints k (xs.drop n) := by unfold ints; rw [List.map_drop]
theorem bools_take (xs : List Bool) (n : Nat) : (bools xs).take n = bools (xs.take n) := by unfold bools; rw [List.map_take]
theorem bools_drop (xs : List Bool) (n : Nat) : (bools xs).drop n = bools (xs.drop n) := by unfold bools; rw [List.map_drop]
theorem rd_sb_ints {k : IntKind} {bs : Option Addr} {n l m : Nat} {xs : List Int} (hrd : Rd L bs (ints k xs)) (h : SlOk bs n) (hl : xs.length = n) (hnm : n ≤ m) : Rd L (sbase bs l m 1) (ints k (xs.drop l)) := by
  have := rd_sbase (sz := 1) (l := l) (m := m) hrd h (by rw [ints_length]; omega) hnm
  rwa [Nat.mul_one, ints_drop] at this
theorem rd_tk_ints {k : IntKind} {bs : Option Addr} {xs : List Int} (n : Nat) (hrd : Rd L bs (ints k xs)) : Rd L bs (ints k (xs.take n)) := by
  have := rd_take hrd n; rwa [ints_take] at this
theorem ints_splice {k : IntKind} {xs ys : List Int} {a b : Nat} : (ints k xs).take (a * 1) ++ ints k ys ++ (ints k xs).drop (b * 1) = ints k (xs.take a ++ ys ++ xs.drop b) := by
  rw [Nat.mul_one, Nat.mul_one, ints_take, ints_drop]; unfold ints; simp
/-- the front of a slice, whose rest has been cleared -/
theorem sat_cut_ints {T cp n a b : Nat} {bs : Option Addr} {xs : List Int} {zs : List Value} {w : World} (h0 : 0 < n) (ha : a ≤ n) (hx : xs.length = n) (h : Sat (SlV T 1 (.slice bs n cp) n ((ints .i64 xs).take (a * 1) ++ zs ++ (ints .i64 xs).drop (b * 1)) :: L) w) :
    Sat (SlV T 1 (.slice bs a cp) a (ints .i64 (xs.take a)) :: L) w := by
  have := sat_short ha h0 h
  have e : ((ints .i64 xs).take (a * 1) ++ zs ++ (ints .i64 xs).drop (b * 1)).take (a * 1) = ints .i64 (xs.take a) := by
    have hl : ((ints .i64 xs).take (a * 1)).length = a * 1 := by rw [List.length_take, ints_length]; omega
    rw [List.append_assoc, List.take_append_of_le_length (by omega), List.take_take, Nat.min_self, Nat.mul_one, ints_take]
  rw [e] at this; exact this
end Go.Proofs.Ytombnfgkgcjihaa.Sp
