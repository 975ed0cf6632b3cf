/- A row of one number, doubled until it is long enough. No program in it. -/
import Derived.Test.YtljnaefaahphaaaCpy
import Derived.Test.YtljnaefaahphaaaPln
set_option linter.unusedVariables false
namespace Go.Proofs.Ytljnaefaahphaaa.Sp
open Go
theorem and_lo : ∀ N : Nat, N < 65 → bAnd .u64 (N : Int) 4294967295 = (N : Int) := by decide
theorem shr_lo : ∀ N : Nat, N < 65 → bShr .u64 (N : Int) 32 = 0 := by decide
def repX (a : Int) (n N : Nat) : List Int := List.replicate n a ++ List.replicate (N - n) 0
theorem repX_len {a : Int} {n N : Nat} (h : n ≤ N) : (repX a n N).length = N := by unfold repX; simp; omega
theorem repX_one (a : Int) (N : Nat) : (List.replicate N (0 : Int)).take 0 ++ ([a] : List Int) ++ (List.replicate N (0 : Int)).drop (0 + 1) = repX a 1 N := by
  unfold repX; simp
theorem repX_copy {a : Int} {n N q : Nat} (h : n + q ≤ N) (hq : q ≤ n) : (repX a n N).take n ++ ((repX a n N).take n).take q ++ (repX a n N).drop (n + q) = repX a (n + q) N := by
  have e : (repX a n N).take n = List.replicate n a := by unfold repX; rw [List.take_append_of_le_length (by simp)]; simp
  rw [e, List.take_replicate, Nat.min_eq_left hq, List.replicate_append_replicate]
  unfold repX
  rw [List.drop_append, List.drop_replicate, List.drop_replicate, List.length_replicate]
  have e1 : n - (n + q) = 0 := by omega
  have e2 : N - n - (n + q - n) = N - (n + q) := by omega
  rw [e1, e2]; simp
theorem repX_end (a : Int) (N : Nat) : repX a N N = List.replicate N a := by unfold repX; simp
end Go.Proofs.Ytljnaefaahphaaa.Sp
