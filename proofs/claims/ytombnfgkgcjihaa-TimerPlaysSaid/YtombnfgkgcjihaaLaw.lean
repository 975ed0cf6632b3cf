/- From a law's contract over what was there to its statement: what was there reads as before. No program in it. -/
import Derived.Test.YtombnfgkgcjihaaDrw
import Derived.ProofKit
import Derived.OpenShut
import Derived.Deep.DeepHandedRow
import Derived.Deep.SlicePairs
import Derived.Lib.LaidTab
namespace Go.Proofs.Ytombnfgkgcjihaa.Sp
open Go Go.ChangeShapes Go.WideShapes Go.ChangeAt Go.RowKit
/-- all that was there -/
def Old (W : World) : HP := fun f => f = (List.range W.heap.size).map fun i => (i, W.heap[i]!)
theorem old_get (W : World) {i : Nat} (h : i < W.heap.size) : W.heap[i]? = some W.heap[i]! := by
  rw [Array.getElem?_eq_getElem h]; simp [h]
theorem sat_old (W : World) : Sat [Old W] W := by
  refine ⟨_, ⟨_, [], rfl, rfl, rfl⟩, ?_, ?_⟩
  · rw [List.append_nil, List.map_map]
    have : (Prod.fst ∘ fun i => (i, W.heap[i]!)) = (id : Nat → Nat) := rfl
    rw [this, List.map_id]
    exact List.nodup_range
  · intro x hx
    rw [List.append_nil] at hx
    obtain ⟨i, hi, rfl⟩ := List.mem_map.1 hx
    exact old_get W (List.mem_range.1 hi)
theorem old_same {W w : World} {L : List HP} (hm : Old W ∈ L) (h : Sat L w) {i : Nat} (hi : i < W.heap.size) : w.heap[i]? = W.heap[i]? := by
  obtain ⟨f, hf, hh⟩ := h.mem hm
  subst hf
  rw [old_get W hi]
  exact hh.2 (i, W.heap[i]!) (List.mem_map.2 ⟨i, List.mem_range.2 hi, rfl⟩)
theorem gives_old {W : World} {a : Addr} {v : Value} (h : W.cell? a = some v) : Gives [Old W] a v := fun w hs => by
  have hlt : a.block < W.heap.size := World.block_lt_of_cell? W a h
  rw [← h]
  exact World.cell?_of_block (old_same (List.mem_cons_self ..) hs hlt)
structure LawEnd (W w : World) : Prop where
  ext : Ext W w
  same : ∀ i, i < W.heap.size → w.heap[i]? = W.heap[i]?
theorem law_calls {P : Program} {f : FuncId} {args : List Value} {W : World} (h : Ok P f args [Old W] (fun v M => v = .bool true ∧ M = [Old W])) :
    Calls P f args.toArray W fun e w' => e = .returned (.bool true) ∧ LawEnd W w' :=
  (h W (sat_old W)).mono fun _ _ ⟨_, _, ⟨hv, hM⟩, he, hs, hx⟩ => by
    subst hv; subst hM
    exact ⟨he, hx, fun i hi => old_same (List.mem_cons_self ..) hs hi⟩
section
variable {H : Type} {enc : TypeId × Value → H} {P : Program}
theorem trodAll_stays (hl : laidOutB P = true) {W W' : World} {sp : Nat → Bool} : ∀ {ts : List TypeId} {vs : List Value} {ds : List (DataW H)} {ps : List MemPlace},
    (ts.all fun t => P.readableRec t && decide (t < P.types.size)) = true → DataW.TrodAll enc P W 0 (fun _ => true) true ts vs ds ps → (∀ p ∈ ps, W.sameAt W' p) → (∀ p ∈ ps, sp p.block = true) → DataW.TrodAll enc P W' 0 sp true ts vs ds ps
  | [], [], [], _, _, h, _, _ => h
  | t :: ts, v :: vs, d :: ds, ps, hr, h, hs, hsp => by
    obtain ⟨p, q, h1, h2, rfl⟩ := h
    simp only [List.all_cons, Bool.and_eq_true, decide_eq_true_eq] at hr
    exact ⟨p, q, WideElems.Trod_stays hl hr.1.1 hr.1.2 h1 (fun x hx => hs x (List.mem_append_left _ hx)) (fun x hx => hsp x (List.mem_append_left _ hx)),
      trodAll_stays hl hr.2 h2 (fun x hx => hs x (List.mem_append_right _ hx)) (fun x hx => hsp x (List.mem_append_right _ hx)), rfl⟩
  | [], [], _ :: _, _, _, h, _, _ => h.elim
  | [], _ :: _, _, _, _, h, _, _ => h.elim
  | _ :: _, [], _, _, _, h, _, _ => h.elim
  | _ :: _, _ :: _, [], _, _, h, _, _ => h.elim
theorem trodAll_len {W : World} {b : Nat} {sp : Nat → Bool} {hd : Bool} : ∀ {ts : List TypeId} {vs : List Value} {ds : List (DataW H)} {ps : List MemPlace}, DataW.TrodAll enc P W b sp hd ts vs ds ps → ds.length = ts.length
  | [], [], [], _, _ => rfl
  | _ :: ts, _ :: vs, _ :: ds, _, h => by
    obtain ⟨p, q, _, h2, _⟩ := h
    simp [trodAll_len h2]
  | [], [], _ :: _, _, h => h.elim
  | [], _ :: _, _, _, h => h.elim
  | _ :: _, [], _, _, h => h.elim
  | _ :: _, _ :: _, [], _, h => h.elim
theorem law_post {f : Func} {s : ChangeSpec} {W W' : World} {args : Array Value} {ds gs : List (DataW H)} {before : List MemPlace} {B : TypeId} {a b c : Bool} (hl : laidOutB P = true)
    (hread : (f.params.toList.all fun t => P.readableRec t && decide (t < P.types.size)) = true) (hvars : s.vars = []) (hres : f.resultTypes = #[B]) (hB : P.underlying B = some .bool)
    (hfn : ∀ ds : List (DataW H), ds.length = f.params.toList.length → s.fn H (ds ++ []) = { results := [.lit (.bool true)], args := ds })
    (hW : DataW.Whole enc P f.params.toList s.vars a W args.toList ds gs before) (he : LawEnd W W') : s.post enc P f a b c false W args (.bool true) W' := by
  have hW' := hW
  have hlt := fun p hp => hW.lt (p := p) hp
  obtain ⟨p, q, hA, hV, rfl, hfz, hnd⟩ := hW
  rw [hvars] at hV
  have hgs : gs = [] ∧ q = [] := by
    cases gs with
    | nil => exact ⟨rfl, hV⟩
    | cons g gs => exact hV.elim
  obtain ⟨rfl, rfl⟩ := hgs
  have hf := hfn ds (trodAll_len hA)
  have hsame : ∀ x ∈ p, W.sameAt W' x := fun x hx => by
    have hb := hlt x (List.mem_append_left _ hx)
    cases x with
    | cell b o => exact World.cell?_of_block (w := W) (he.same b hb)
    | map b => exact he.same b hb
  refine post_of_same (pa := p) (pv := []) hW' (fun _ _ _ => ?_) (fun sp hsp => ?_) (fun _ _ => ?_) rfl ?_ he.ext.frozen ?_
  · rw [hf, hres]
    show DataW.TrodAll enc P W' _ _ _ [B] [.bool true] [.lit (.bool true)] []
    exact trodAll_mk1 (shut_bool hB _)
  · rw [hf]
    exact trodAll_stays hl hread hA hsame (fun x hx => hsp x (List.mem_append_left _ hx))
  · rw [hf, hvars]; rfl
  · refine ⟨he.ext.os, he.ext.output, fun i hi => ?_⟩
    rw [he.same i hi]
    split <;> simp_all
  · exact ok_one hres rfl (okWide_bool_mk hB _)
/-! what comes in -/
theorem slok_cells {W : World} {a : Addr} {n : Nat} (h : 0 < n → ∃ v, W.cell? (a.add 0) = some v) : SlOk (some a) n := fun hn => by
  obtain ⟨v, hv⟩ := h hn
  obtain ⟨b, o, s⟩ := a
  have : (⟨b, o, s⟩ : Addr).add 0 = ⟨b, o, s⟩ := by simp [Addr.add]
  rw [this] at hv
  cases s with
  | none => exact ⟨b, o, rfl⟩
  | some x =>
    exfalso
    simp only [World.cell?] at hv
    split at hv
    · simp at hv
    · cases hv
theorem wf_i64 {x : Int} (h : (Lit.int .i64 x).wf = true) : -9223372036854775808 ≤ x ∧ x ≤ 9223372036854775807 := by
  simpa [Lit.wf, IntKind.min, IntKind.max, IntKind.signed, IntKind.bits] using h
theorem o_ints {W : World} {t e : TypeId} {k : IntKind} {v : Value} {d : DataW H} {p : List MemPlace} (ht : P.underlying t = some (.slice e)) (he : P.underlying e = some (.int k)) (hc : P.cellsOf e = 1) {base : Nat} (hok : Value.okWide P W .any base t v)
    (h : DataW.Trod enc P W 0 (fun _ => true) true t v d p) : ∃ bs cp, ∃ xs : List Int, v = .slice bs xs.length cp ∧ xs.length ≤ 9223372036854775807 ∧ SlOk bs xs.length ∧ Rd [Old W] bs (ints k xs) ∧ ∀ x ∈ xs, (Lit.int k x).wf = true := by
  obtain ⟨a, len, cap, rfl⟩ := okWide_slice ht hok
  obtain ⟨fuel, hf⟩ := h
  rcases open_ints ht he hc hf with ⟨hcs, _⟩ | ⟨a', len', cap', zs, hcs, _, hl, hm, hz, _, hcell, hwz⟩
  · simp [Value.cells] at hcs
    obtain ⟨rfl, rfl, rfl⟩ := hcs
    exact ⟨none, 0, [], rfl, by simp, slok_none, fun _ _ j u hu => by simp [ints] at hu, fun x hx => by cases hx⟩
  · simp [Value.cells] at hcs
    obtain ⟨rfl, rfl, rfl⟩ := hcs
    simp only [if_true] at hz
    have hle : (zs.take len).length = len := by simp; omega
    have hmax : cap ≤ 9223372036854775807 := by simpa [maxLen] using hm
    refine ⟨some a', cap, zs.take len, by rw [hle], by omega, ?_, ?_, fun x hx => hwz x (List.mem_of_mem_take hx)⟩
    · rw [hle]; exact slok_cells (W := W) fun hn => ⟨_, hcell 0 (by omega)⟩
    · have hsl : SlOk (some a') len := slok_cells (W := W) fun hn => ⟨_, hcell 0 (by omega)⟩
      intro w hs j u hu
      have hj : j < len := by have := (List.getElem?_eq_some_iff.1 hu).1; simp at this; omega
      obtain ⟨b, o, hb⟩ := hsl (by omega)
      cases hb
      have h1 := hcell j (by omega)
      rw [add_plain] at h1
      refine gives_old ?_ w hs
      rw [ad_some, h1]
      have : (ints k (zs.take len))[j]? = some (.int k ((zs.take len).getD j 0)) := ints_get (by rw [hle]; exact hj)
      rw [this] at hu
      simp only [Option.some.injEq] at hu
      rw [← hu]
      simp [List.getD, hj]
theorem o_pairs {W : World} {t e : TypeId} {f0 f1 : Field} {v : Value} {d : DataW H} {p : List MemPlace} (ht : P.underlying t = some (.slice e)) (he : P.underlying e = some (.struct #[f0, f1])) (ce : P.cellsOf e = 2) (o0 : f0.offset = 0) (o1 : f1.offset = 1)
    (c0 : P.cellsOf f0.type = 1) (c1 : P.cellsOf f1.type = 1) (u0 : P.underlying f0.type = some (.int .i64)) (u1 : P.underlying f1.type = some (.int .i64)) {base : Nat} (hok : Value.okWide P W .any base t v)
    (h : DataW.Trod enc P W 0 (fun _ => true) true t v d p) : ∃ bs cp, ∃ es : List (Int × Int), v = .slice bs es.length cp ∧ es.length ≤ 9223372036854775807 ∧ SlOk bs es.length ∧ Rd [Old W] bs (pairs es) ∧ ∀ x ∈ es, (Lit.int .i64 x.1).wf = true ∧ (Lit.int .i64 x.2).wf = true := by
  obtain ⟨a, len, cap, rfl⟩ := okWide_slice ht hok
  obtain ⟨fuel, hf⟩ := h
  rcases Deep.open_slice_pairs ht he ce o0 o1 c0 c1 hf with ⟨hcs, _⟩ | ⟨a', len', cap', m, n, V0, V1, D0, D1, P0, P1, hcs, _, hl, hm, hmm, _, hx⟩
  · simp [Value.cells] at hcs
    obtain ⟨rfl, rfl, rfl⟩ := hcs
    exact ⟨none, 0, [], rfl, by simp, slok_none, fun _ _ j u hu => by simp [pairs] at hu, fun x hx => by cases hx⟩
  · simp [Value.cells] at hcs
    obtain ⟨rfl, rfl, rfl⟩ := hcs
    simp only [if_true] at hmm
    rw [hmm] at hx
    have each : ∀ i, i < len → ∃ q : Int × Int, V0 i = .int .i64 q.1 ∧ V1 i = .int .i64 q.2 ∧ (Lit.int .i64 q.1).wf = true ∧ (Lit.int .i64 q.2).wf = true := fun i hi => by
      obtain ⟨_, _, h3, h4⟩ := hx i (by omega)
      obtain ⟨x, e1, _, w1⟩ := DataW.trod_int u0 h3
      obtain ⟨y, e2, _, w2⟩ := DataW.trod_int u1 h4
      exact ⟨(x, y), by simpa using e1, by simpa using e2, w1, w2⟩
    obtain ⟨q, hq⟩ := Deep.choose_lt each
    have hmax : cap ≤ 9223372036854775807 := by simpa [maxLen] using hm
    have hsl : SlOk (some a') len := slok_cells (W := W) fun hn => ⟨_, by have := (hx 0 (by omega)).1; simpa using this⟩
    refine ⟨some a', cap, (List.range len).map q, by simp, by simp; omega, by simpa using hsl, ?_, fun x hx' => ?_⟩
    · intro w hs j u hu
      have hj : j < len * 2 := by have := (List.getElem?_eq_some_iff.1 hu).1; rw [pairs_length] at this; simpa using this
      obtain ⟨b, o, hb⟩ := hsl (by omega)
      cases hb
      have hi : j / 2 < len := by omega
      have h1 := hx (j / 2) (by omega)
      rw [add_plain, add_plain] at h1
      have hget : ((List.range len).map q).getD (j / 2) (0, 0) = q (j / 2) := by simp [List.getD, hi]
      refine gives_old ?_ w hs
      rw [ad_some]
      rcases Nat.mod_two_eq_zero_or_one j with e | e
      · have hj2 : j = j / 2 * 2 := by omega
        have g := pairs_get0 (es := (List.range len).map q) (k := j / 2) (by simpa using hi)
        rw [← hj2, hget, hu] at g
        simp only [Option.some.injEq] at g
        rw [g, ← (hq _ hi).1, ← h1.1, ← hj2]
      · have hj2 : j = j / 2 * 2 + 1 := by omega
        have g := pairs_get1 (es := (List.range len).map q) (k := j / 2) (by simpa using hi)
        rw [← hj2, hget, hu] at g
        simp only [Option.some.injEq] at g
        rw [g, ← (hq _ hi).2.1, ← h1.2.1]
        congr 2
        omega
    · obtain ⟨i, hi, rfl⟩ := List.mem_map.1 hx'
      exact ⟨(hq i (List.mem_range.1 hi)).2.2.1, (hq i (List.mem_range.1 hi)).2.2.2⟩
end
end Go.Proofs.Ytombnfgkgcjihaa.Sp
