/- A block of a number and a row of pairs, as one object. No program in it. -/
import Derived.Test.YtombnfgkgcjihaaOpl
import Derived.Test.YtombnfgkgcjihaaOpm
import Derived.Test.YtombnfgkgcjihaaVal
import Derived.Test.YtombnfgkgcjihaaTls
set_option linter.unusedVariables false
set_option linter.unusedSimpArgs false
namespace Go.Proofs.Ytombnfgkgcjihaa.Sp
open Go
/-- a block {N, L} and its row of pairs; T, e: the numbers of the two types -/
def RowP (T e p : Nat) (N : Int) (es : List (Int × Int)) : HP := fun f => ∃ bl cl, (SlOk bl es.length ∧ es.length ≤ cl) ∧ Parts [Blk p [.int .i64 N, .slice bl es.length cl] T, SlT e 2 (.slice bl es.length cl) es.length (pairs es)] f
theorem Sat.openP {T e p : Nat} {N : Int} {es : List (Int × Int)} {L : List HP} {w : World} (h : Sat (RowP T e p N es :: L) w) :
    ∃ bl cl, (SlOk bl es.length ∧ es.length ≤ cl) ∧ Sat (Blk p [.int .i64 N, .slice bl es.length cl] T :: SlT e 2 (.slice bl es.length cl) es.length (pairs es) :: L) w := by
  obtain ⟨_, ⟨f1, f2, rfl, ⟨bl, cl, hk, g1, g2, rfl, hg1, g3, g4, rfl, hg3, hg4⟩, hp⟩, hh⟩ := h
  obtain rfl := hg4
  refine ⟨bl, cl, hk, _, ⟨g1, g3 ++ f2, rfl, hg1, g3, f2, rfl, hg3, hp⟩, ?_⟩
  simpa [List.append_assoc] using hh
theorem Sat.shutP {T e p : Nat} {N : Int} {es : List (Int × Int)} {bl : Option Addr} {cl : Nat} {L : List HP} {w : World} (hk : SlOk bl es.length ∧ es.length ≤ cl)
    (h : Sat (Blk p [.int .i64 N, .slice bl es.length cl] T :: SlT e 2 (.slice bl es.length cl) es.length (pairs es) :: L) w) : Sat (RowP T e p N es :: L) w := by
  obtain ⟨_, ⟨g1, _, rfl, hg1, g3, f2, rfl, hg3, hp⟩, hh⟩ := h
  refine ⟨_, ⟨g1 ++ (g3 ++ []), f2, rfl, ⟨bl, cl, hk, g1, g3 ++ [], rfl, hg1, g3, [], rfl, hg3, rfl⟩, hp⟩, ?_⟩
  simpa [List.append_assoc] using hh
section
variable {K : Act → World → Prop} {W : World} {N' : Nat} {E : List (Nat × Value)} {L : List HP}
theorem t_openP {T e p : Nat} {N : Int} {es : List (Int × Int)} (k : ∀ bl cl, SlOk bl es.length → es.length ≤ cl → Tri K W N' E (Blk p [.int .i64 N, .slice bl es.length cl] T :: SlT e 2 (.slice bl es.length cl) es.length (pairs es) :: L)) : Tri K W N' E (RowP T e p N es :: L) := fun a w s => by
  obtain ⟨bl, cl, h1, h2⟩ := s.sat.openP
  exact k bl cl h1.1 h1.2 a w ⟨s.size, s.defers, s.env, h2, s.ext⟩
theorem t_shutP {T e p : Nat} {N : Int} {es : List (Int × Int)} {bl : Option Addr} {cl : Nat} (h1 : SlOk bl es.length) (h2 : es.length ≤ cl) (k : Tri K W N' E (RowP T e p N es :: L)) :
    Tri K W N' E (Blk p [.int .i64 N, .slice bl es.length cl] T :: SlT e 2 (.slice bl es.length cl) es.length (pairs es) :: L) :=
  t_sat (fun _ hs => hs.shutP ⟨h1, h2⟩) k
theorem t_shutPV {T e p : Nat} {N : Int} {es : List (Int × Int)} {bl : Option Addr} {cl : Nat} (h1 : SlOk bl es.length) (h2 : es.length ≤ cl) (k : Tri K W N' E (RowP T e p N es :: L)) :
    Tri K W N' E (SlV e 2 (.slice bl es.length cl) es.length (pairs es) :: Blk p [.int .i64 N, .slice bl es.length cl] T :: L) :=
  t_sat (fun _ hs => slv_slt hs) (t_f1 (t_shutP h1 h2 k))
end
end Go.Proofs.Ytombnfgkgcjihaa.Sp
