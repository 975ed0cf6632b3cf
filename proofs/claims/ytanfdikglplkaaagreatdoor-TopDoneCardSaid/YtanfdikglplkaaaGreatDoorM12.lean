/- Parts Rc1, Lmp: own lemmas and contracts of the code that the claim reaches. -/
import Derived.Test.YtanfdikglplkaaaGreatDoorM02
import Derived.Laws.ResultCell
import Derived.Test.YtanfdikglplkaaaGreatDoorM10
import Derived.WideKeyMaps
import Derived.Lib.SmallJoins
set_option linter.unusedSimpArgs false
set_option linter.unusedVariables false
namespace Go.Proofs.YtanfdikglplkaaaGreatDoor.Sp
open Go
section
variable {P : Program} {W : World} {N : Nat} {E : List (Nat × Value)} {L M : List HP}
theorem q_retc {fn : Func} {t T b : Nat} {cs : List Value} {Post : Value → List HP → Prop} (hr : fn.results = #[.cell t T]) (hv : look t E = some (.pointer (some ⟨b, 0, none⟩)))
    (hag : ∀ w, (isAgg T).run P w = .ok true w) (hsz : ∀ w, (sizeOf T).run P w = .ok cs.length w) (hg : ∀ j v, cs[j]? = some v → Gives L ⟨b, 0 + j, none⟩ v) (hs : ∀ w, Sat L w → Sat M w) (hp : Post (.agg cs.toArray) M) :
    Tri (bodyPost P fn (retR W Post) .ret) W N E L := fun a w s => by
  have hp' : a.tmps[t]?.getD undef = .pointer (some ⟨b, 0, none⟩) := by simp [s.env t _ hv]
  have hl := run_loadCells_list (P := P) w ⟨b, 0, none⟩ cs (fun j v hv => by rw [add_plain]; exact hg j v hv w s.sat)
  refine bodyPost_ret (v := .agg cs.toArray) ?_ s.defers ⟨_, _, hp, rfl, hs w s.sat, s.ext⟩
  simp [results, hr, hp', asAddr, loadVar, hag, hsz, hl]
end
end Go.Proofs.YtanfdikglplkaaaGreatDoor.Sp
namespace Go.Proofs.YtanfdikglplkaaaGreatDoor.Sp
open Go
variable {P : Program} {H : Type} {enc : TypeId × Value → H}
theorem list10 {l : List Int} (h : l.length = 10) : ∃ a b c d e f g i j k, l = [a, b, c, d, e, f, g, i, j, k] := by
  match l, h with
  | [a, b, c, d, e, f, g, i, j, k], _ => exact ⟨a, b, c, d, e, f, g, i, j, k, rfl⟩
def intOf : Value → Int
  | .int _ z => z
  | _ => 0
theorem o_cfg {W : World} {t ti : TypeId} {fs : Array Field} {v : Value} {d : DataW H} {p : List MemPlace} {base : Nat} (hs : P.underlying t = some (.struct fs)) (hone : Go.Deep.oneCellFields P fs = true) (hC : P.cellsOf t = 10)
    (hty : fs.toList.map (·.type) = List.replicate 10 ti) (hi : P.underlying ti = some (.int .i64)) (hok : Value.okWide P W .any base t v) (h : DataW.Trod enc P W 0 (fun _ => true) true t v d p) : ∃ c : Cfg, v = .agg (cfgC c).toArray := by
  obtain ⟨cs, rfl, hsz⟩ := WideShapes.okWide_struct hs hok
  obtain ⟨fuel, hf⟩ := h
  obtain ⟨xs, n, _, _, hl, hlen, hfi⟩ := DataW.trod_struct hs hf
  have hsz10 : cs.toList.length = 10 := by rw [Array.length_toList, hsz, hC]
  have hfl : fs.toList.length = 10 := by have := congrArg List.length hty; simpa using this
  have hfs : fs.size = 10 := by rw [← Array.length_toList]; exact hfl
  have key : ∀ i, i < 10 → ∃ z, cs.toList[i]? = some (.int .i64 z) := fun i h10 => by
    obtain ⟨f, hfe⟩ : ∃ f, fs[i]? = some f := ⟨fs.toList[i], by rw [← Array.getElem?_toList]; exact List.getElem?_eq_getElem (by omega)⟩
    have ht : f.type = ti := by
      have h1 := congrArg (fun l : List TypeId => l[i]?) hty
      simp only [List.getElem?_map, List.getElem?_replicate, if_pos h10] at h1
      rw [Array.getElem?_toList, hfe] at h1
      simpa using h1
    obtain ⟨o1, k1⟩ := Go.Deep.hone_of hone i f hfe
    have h2 := hfi i f hfe
    obtain ⟨x, hx⟩ : ∃ x, xs[i]? = some x := ⟨xs[i]'(by omega), List.getElem?_eq_getElem _⟩
    rw [o1, k1, ht, hx] at h2
    obtain ⟨z, e1, _, _⟩ := DataW.trod_int hi h2
    refine ⟨z, ?_⟩
    have e2 : (cs.toList.drop i).take 1 = [.int .i64 z] := e1
    have e3 := congrArg (fun l : List Value => l[0]?) e2
    simpa [List.getElem?_take, List.getElem?_drop] using e3
  have hcs : cs.toList = (cs.toList.map intOf).map (fun z => .int .i64 z) := by
    rw [List.map_map]
    refine List.ext_getElem (by simp) fun i h1 h2 => ?_
    obtain ⟨z, hz⟩ := key i (by omega)
    rw [List.getElem?_eq_getElem h1] at hz
    rw [List.getElem_map, Option.some.inj hz]; rfl
  obtain ⟨a, b, c, d, e, f, g, i, j, k, hl10⟩ := list10 (l := cs.toList.map intOf) (by rw [List.length_map]; exact hsz10)
  rw [hl10] at hcs
  exact ⟨⟨a, b, c, d, e, f, g, i, j, k⟩, by rw [← Array.toArray_toList (xs := cs), hcs]; rfl⟩
theorem old_map {W : World} {b : Nat} {o : Obj} (h : W.heap[b]? = some o) {w : World} (hs : Sat [Old W] w) : w.heap[b]? = some o := by
  rw [old_same (.head _) hs (Array.getElem?_eq_some_iff.1 h).1]; exact h
theorem vtab_of {W : World} {name : String} {tm kt et : TypeId} {cs : Array Value} {fuel : Nat} {p : List MemPlace} {sp : Nat → Bool} (hg : P.globalNamed name = some 0) (ht : P.underlying tm = some (.map kt et)) (hk : P.underlying kt = some (.int .i64)) (he : P.underlying et = some (.int .i64))
    (hv : W.var? P name = some cs) (hd : DataW.trod enc P W 0 sp false fuel tm cs.toList = some (.map [(.int .i64 5, .lit (.int .i64 2)), (.int .i64 6, .lit (.int .i64 3)), (.int .i64 7, .lit (.int .i64 4))], p)) : ∃ vr, VTab vr [Old W] := by
  rcases WideMaps.open_map ht he hd with ⟨_, hx⟩ | ⟨b, es, ck, hcs, hb, _, F, hx⟩
  · simp at hx
  simp only [Prod.mk.injEq, DataW.map.injEq] at hx
  have hcell : W.cell? ⟨0, 0, none⟩ = some (.map (some b)) := by
    have := World.var?_cell hg hv 0
    have e : cs = #[.map (some b)] := by rw [← Array.toArray_toList (xs := cs), hcs]
    rw [e] at this
    simpa using this
  have hkey : ∀ x ∈ es.toList, ∀ y : Lit × DataW H, WideMaps.rd P kt .i64 x = some y → ∃ z, x.key = .int .i64 z ∧ y.1 = .int .i64 z := fun x _ y hy => by
    have h1 := WideMaps.rd_key hy
    unfold keyOf at h1
    rw [hk] at h1
    cases hkv : x.key with
    | int q z =>
      simp only [hkv, mapKey, hk] at h1
      by_cases hq : q = IntKind.i64 ∧ (Lit.int IntKind.i64 z).wf = true
      · rw [if_pos hq] at h1
        obtain ⟨hq1, _⟩ := hq
        subst hq1
        exact ⟨z, rfl, (Option.some.inj h1).symm⟩
      · rw [if_neg hq] at h1; cases h1
    | _ => simp [hkv, mapKey, hk] at h1
  have hint : ∀ x ∈ es.toList, MapKept.IsKey (.int .i64) x.key := fun x hx' => by
    obtain ⟨y, hy⟩ := F.reads x hx'
    obtain ⟨z, e, _⟩ := hkey x hx' y hy
    rw [e]; exact rfl
  have hin : ∀ y : Lit × DataW H, y ∈ es.toList.map (WideMaps.rg H P kt .i64) ↔ y ∈ [(Lit.int .i64 5, DataW.lit (.int .i64 2)), (.int .i64 6, .lit (.int .i64 3)), (.int .i64 7, .lit (.int .i64 4))] := fun y => by
    rw [hx.1]; exact (WideShapes.sorted_perm _).mem_iff.symm
  refine ⟨b, gives_old hcell, fun w hs => ⟨es, ck, old_map hb hs, fun k h5 h7 => ?_⟩⟩
  rcases MapKept.findNow_spec (d := .int .i64) (k := .int .i64 k) rfl es.toList 0 hint with ⟨_, hno⟩ | ⟨j, e, h1, h2, h3⟩
  · exfalso
    have hmem : (Lit.int .i64 k, DataW.lit (H := H) (.int .i64 (verd k))) ∈ es.toList.map (WideMaps.rg H P kt .i64) := by
      rw [hin]
      rcases (show k = 5 ∨ k = 6 ∨ k = 7 by omega) with h | h | h <;> subst h <;> simp [verd]
    obtain ⟨x, hx1, hx2⟩ := List.mem_map.1 hmem
    obtain ⟨y, hy⟩ := F.reads x hx1
    rw [WideMaps.rg_of hy] at hx2
    subst hx2
    obtain ⟨z, e1, e2⟩ := hkey x hx1 _ hy
    have : k = z := by simpa using e2
    subst this
    exact hno x hx1 e1
  · have he1 : e ∈ es.toList := List.mem_of_getElem? h2
    obtain ⟨y, hy⟩ := F.reads e he1
    obtain ⟨z, e1, e2⟩ := hkey e he1 y hy
    have hz : z = k := by rw [h3] at e1; simpa using e1.symm
    obtain ⟨n, hn1, hn2, _⟩ := WideMaps.rd_val hy
    have hm := (hin y).1 (List.mem_map.2 ⟨e, he1, WideMaps.rg_of hy⟩)
    refine ⟨0 + j, ?_⟩
    rw [h1, hn1]
    have hnv : n = verd k := by
      obtain ⟨y1, y2⟩ := y
      simp only at e2 hn2
      subst e2; subst hn2; subst hz
      simp only [List.mem_cons, List.not_mem_nil, or_false, Prod.mk.injEq, Lit.int.injEq, true_and, DataW.lit.injEq] at hm
      unfold verd
      rcases hm with ⟨h, h'⟩ | ⟨h, h'⟩ | ⟨h, h'⟩ <;> subst h <;> subst h' <;> simp
    rw [hnv]
end Go.Proofs.YtanfdikglplkaaaGreatDoor.Sp
