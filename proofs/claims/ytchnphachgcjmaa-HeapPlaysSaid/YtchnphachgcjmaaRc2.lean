/- A function that hands back what a cell holds, and a value. No program in it. -/
import Derived.Test.YtchnphachgcjmaaOpl
import Derived.Laws.ResultCell
set_option linter.unusedVariables false
namespace Go.Proofs.Ytchnphachgcjmaa.Sp
open Go
section
variable {P : Program} {W : World} {N : Nat} {E : List (Nat × Value)} {L M : List HP}
theorem q_retc2 {fn : Func} {t T b u : Nat} {x : Value} {cs : List Value} {Post : Value → List HP → Prop} (hr : fn.results = #[.cell t T, .tmp u]) (hv : look t E = some (.pointer (some ⟨b, 0, none⟩))) (hx : look u E = some x)
    (hag : ∀ w, (isAgg T).run P w = .ok true w) (hsz : ∀ w, (sizeOf T).run P w = .ok cs.length w) (hg : ∀ j v, cs[j]? = some v → Gives L ⟨b, 0 + j, none⟩ v) (hs : ∀ w, Sat L w → Sat M w) (hp : Post (.tuple #[.agg cs.toArray, x]) M) :
    Tri (bodyPost P fn (retR W Post) .ret) W N E L := fun a w s => by
  have hp' : a.tmps[t]?.getD undef = .pointer (some ⟨b, 0, none⟩) := by simp [s.env t _ hv]
  have hx' : a.tmps[u]?.getD undef = x := by simp [s.env u _ hx]
  have hl := run_loadCells_list (P := P) w ⟨b, 0, none⟩ cs (fun j v hv => by rw [add_plain]; exact hg j v hv w s.sat)
  refine bodyPost_ret (v := .tuple #[.agg cs.toArray, x]) ?_ s.defers ⟨_, _, hp, rfl, hs w s.sat, s.ext⟩
  rw [results_cell_tmp hr]
  simp [hp', hx', asAddr, loadVar, hag, hsz, hl, Result.andThen]
end
end Go.Proofs.Ytchnphachgcjmaa.Sp
