/- Parts Eng2, Rc2, Rc3, Tzn, Mp: own lemmas and contracts of the code that the claim reaches. -/
import Derived.Test.YtanfdikglplkaaaGreatDoorM07
import Derived.Test.YtanfdikglplkaaaGreatDoorM04
import Derived.Test.YtanfdikglplkaaaGreatDoorM06
import Derived.Test.YtanfdikglplkaaaGreatDoorM02
import Derived.Laws.ResultCell
import Derived.Lib.TrailingZeros
import Derived.MapKept
set_option linter.unusedSimpArgs false
set_option linter.unusedVariables false
namespace Go.Proofs.YtanfdikglplkaaaGreatDoor.Sp
open Go
def ES.setSt (s : ES) (r : Nat) (v : Int) : ES := s.setRq r { s.rq.getD r Rq.z with st := v }
def ES.lfu (s : ES) (t : Nat) (f : Lf → Lf) : ES := s.setLf t (f (s.lf.getD t Lf.z))
def ES.rt (s : ES) (r : Nat) : Nat := (s.rq.getD r Rq.z).root.toNat
def ES.stt (s : ES) (t : Nat) : Int := (s.lf.getD t Lf.z).st
def ES.addLg (s : ES) (v : Ev) : ES := { s with lg := s.lg ++ [v] }
theorem rq_set {l : List Rq} {i : Nat} {y : Rq} (h : i < l.length) (j : Nat) : (l.set i y).getD j Rq.z = if j = i then y else l.getD j Rq.z := by
  by_cases e : j = i
  · subst e; rw [if_pos rfl]; simp [List.getD, h]
  · rw [if_neg e]; simp only [List.getD]; rw [List.getElem?_set_ne (fun h => e h.symm)]
theorem setSt_get (s : ES) (r : Nat) (v : Int) (j : Nat) : (s.setSt r v).rq.getD j Rq.z = if j = r ∧ r < s.rq.length then { s.rq.getD j Rq.z with st := v } else s.rq.getD j Rq.z := by
  show (s.rq.set r { s.rq.getD r Rq.z with st := v }).getD j Rq.z = _
  by_cases h : r < s.rq.length
  · rw [rq_set h]
    by_cases e : j = r
    · subst e; rw [if_pos rfl, if_pos ⟨rfl, h⟩]
    · rw [if_neg e, if_neg (fun hh => e hh.1)]
  · rw [if_neg (fun hh => h hh.2), List.set_eq_of_length_le (by omega)]
theorem setSt_root (s : ES) (r : Nat) (v : Int) (j : Nat) : ((s.setSt r v).rq.getD j Rq.z).root = (s.rq.getD j Rq.z).root := by rw [setSt_get]; split <;> rfl
theorem setSt_wt (s : ES) (r : Nat) (v : Int) (j : Nat) : ((s.setSt r v).rq.getD j Rq.z).wt = (s.rq.getD j Rq.z).wt := by rw [setSt_get]; split <;> rfl
theorem setSt_pr (s : ES) (r : Nat) (v : Int) (j : Nat) : ((s.setSt r v).rq.getD j Rq.z).pr = (s.rq.getD j Rq.z).pr := by rw [setSt_get]; split <;> rfl
def noteV (s : ES) (ld : Led) (kind t : Int) : Ev := ⟨kind, t, max (ld.slot t) 0, (s.lf.getD t.toNat Lf.z).ep, s.now⟩
def begS (s : ES) (r : Nat) : ES := if (s.setSt r 1).stt ((s.setSt r 1).rt r) = 0 then (s.setSt r 1).lfu ((s.setSt r 1).rt r) wantF else s.setSt r 1
def begM (s : ES) (ms : List M3) (r : Nat) : List M3 := joinM ms r ((s.setSt r 1).rq.getD r Rq.z).wt
theorem map_st_step {l : List Lf} {k : Nat} (h : k < l.length) : (l.map (·.st)).take k ++ [(l.getD k Lf.z).st] = (l.map (·.st)).take (k + 1) := by
  rw [List.take_add_one, List.getElem?_map]; simp [List.getD, h]
theorem ks_get {x : EP} {s : ES} (h : EF x s) {i : Nat} (hi : i < x.n) : (recs ptrF (x.ks.map Prod.fst))[i]? = some (.pointer (some ⟨(x.ks.getD i (0, 0)).1, 0, none⟩)) := by
  have h3 : i < x.ks.length := by rw [h.kn]; exact hi
  have h2 : (x.ks.map Prod.fst).getD i 0 = (x.ks.getD i (0, 0)).1 := by simp [List.getD, h3]
  rw [← h2]; exact ptrs_get (by rw [List.length_map]; exact h3)
theorem ok_lfj {P : Program} {L : List HP} {ks : List (Nat × Nat)} {lf : List Lf} {f : FuncId} {args : List Value} {i : Nat} {v : Value} (hk : ks.length = lf.length) (hi : i < lf.length)
    (h : ∀ R : List HP, Ok P f (.pointer (some ⟨(ks.getD i (0, 0)).2, 0, none⟩) :: args) (Blk (ks.getD i (0, 0)).2 (lfC (lf.getD i Lf.z)) TLf :: R) (fun u M => u = v ∧ M = Blk (ks.getD i (0, 0)).2 (lfC (lf.getD i Lf.z)) TLf :: R)) :
    Ok P f (.pointer (some ⟨(ks.getD i (0, 0)).2, 0, none⟩) :: args) (Join (blks TLf Prod.snd (fun _ => lfC) ks lf) :: L) (fun u M => u = v ∧ M = Join (blks TLf Prod.snd (fun _ => lfC) ks lf) :: L) := fun w hs => by
  refine (h _ w (sat_takeB (pk := Prod.snd) (F := fun _ => lfC) (0, 0) Lf.z hk hi hs)).mono ?_
  rintro en w' ⟨u, M, ⟨rfl, rfl⟩, h1, h2, h3⟩
  have h4 := sat_putB (pk := Prod.snd) (F := fun _ => lfC) (0, 0) hk hi h2
  rw [bk_set_getD Lf.z hi] at h4
  exact ⟨_, _, ⟨rfl, rfl⟩, h1, h4, h3⟩
theorem EF.addLg {x : EP} {s : ES} (h : EF x s) (v : Ev) : EF x (s.addLg v) := ⟨h.tn, h.ln, h.kn, h.an, h.mn, h.rn, h.oka, h.okt, h.okr, h.nb, h.mb, h.ca, h.ct, h.cr, h.lo, h.n0⟩
theorem t_shutN {K : Act → World → Prop} {W : World} {N' : Nat} {E : List (Nat × Value)} {L : List HP} {e : Nat} {x : EP} {s : ES} {v : Ev} {b : Option Addr} {c k : Nat} (hk : s.lg.length = k) (hE : EF x s) (ho : SlOk b (k + 1)) (hc : k + 1 ≤ c)
    (kk : Tri K W N' E (EngC e x (s.addLg v) :: L)) :
    Tri K W N' E (Blk e [.int .i64 s.c.bud, .int .i64 s.c.slots, .int .i64 s.c.act, .int .i64 s.c.que, .int .i64 s.c.tries, .int .i64 s.c.pre, .int .i64 s.c.tmo, .int .i64 s.c.bak, .int .i64 s.c.most, .int .i64 s.c.qu,
   .slice x.ba x.n x.ca, .slice x.bt x.n x.ct, .slice x.br x.m x.cr, .pointer (some ⟨x.g, 0, none⟩), .pointer (some ⟨x.tp, 0, none⟩), .pointer (some ⟨x.ld, 0, none⟩), .pointer (some ⟨x.ad, 0, none⟩), .pointer (some ⟨x.tn, 0, none⟩),
   .int .i64 s.now, .int .i64 s.bg, .slice b (k + 1) c] 73 :: SlV 57 2 (.slice x.ba x.n x.ca) x.n (pairs s.al) :: SlV 64 1 (.slice x.bt x.n x.ct) x.n (recs ptrF (x.ks.map Prod.fst)) ::
   SlV 79 1 (.slice x.br x.m x.cr) x.m (recs ptrF x.rs) :: SlV 45 5 (.slice b (k + 1) c) (k + 1) (recs evC (s.lg ++ [v])) ::
   Join (blks TTk Prod.fst tkC x.ks s.tk) :: Join (blks TLf Prod.snd (fun _ => lfC) x.ks s.lf) :: Join (blks TRq id (fun _ => rqC) x.rs s.rq) :: L) := by
  have h1 : (s.addLg v).lg.length = k + 1 := by show (s.lg ++ [v]).length = k + 1; rw [List.length_append, hk]; rfl
  have h2 := t_shutC (e := e) (L := L) (b := b) (c := c) (hE.addLg v) ⟨by rw [h1]; exact ho, by rw [h1]; exact hc⟩ kk
  unfold engL engC at h2
  rw [h1] at h2
  exact h2
def RqOk (n : Nat) (s : ES) : Prop := ∀ r, r < s.rq.length → 0 ≤ (s.rq.getD r Rq.z).root ∧ (s.rq.getD r Rq.z).root < n ∧ 1 ≤ (s.rq.getD r Rq.z).wt ∧ (s.rq.getD r Rq.z).wt ≤ 100 ∧ 0 ≤ (s.rq.getD r Rq.z).pr ∧ (s.rq.getD r Rq.z).pr ≤ 7
end Go.Proofs.YtanfdikglplkaaaGreatDoor.Sp
namespace Go.Proofs.YtanfdikglplkaaaGreatDoor.Sp
open Go
section
variable {P : Program} {W : World} {N : Nat} {E : List (Nat × Value)} {L M : List HP}
theorem q_retc2 {fn : Func} {t T b u : Nat} {x : Value} {cs : List Value} {Post : Value → List HP → Prop} (hr : fn.results = #[.cell t T, .tmp u]) (hv : look t E = some (.pointer (some ⟨b, 0, none⟩))) (hx : look u E = some x)
    (hag : ∀ w, (isAgg T).run P w = .ok true w) (hsz : ∀ w, (sizeOf T).run P w = .ok cs.length w) (hg : ∀ j v, cs[j]? = some v → Gives L ⟨b, 0 + j, none⟩ v) (hs : ∀ w, Sat L w → Sat M w) (hp : Post (.tuple #[.agg cs.toArray, x]) M) :
    Tri (bodyPost P fn (retR W Post) .ret) W N E L := fun a w s => by
  have hp' : a.tmps[t]?.getD undef = .pointer (some ⟨b, 0, none⟩) := by simp [s.env t _ hv]
  have hx' : a.tmps[u]?.getD undef = x := by simp [s.env u _ hx]
  have hl := run_loadCells_list (P := P) w ⟨b, 0, none⟩ cs (fun j v hv => by rw [add_plain]; exact hg j v hv w s.sat)
  refine bodyPost_ret (v := .tuple #[.agg cs.toArray, x]) ?_ s.defers ⟨_, _, hp, rfl, hs w s.sat, s.ext⟩
  rw [results_cell_tmp hr]
  simp [hp', hx', asAddr, loadVar, hag, hsz, hl, Result.andThen]
end
end Go.Proofs.YtanfdikglplkaaaGreatDoor.Sp
namespace Go.Proofs.YtanfdikglplkaaaGreatDoor.Sp
open Go
section
variable {P : Program} {W : World} {N : Nat} {E : List (Nat × Value)} {L M : List HP}
theorem q_retc3 {fn : Func} {t T b u q : Nat} {x y : Value} {cs : List Value} {Post : Value → List HP → Prop} (hr : fn.results = #[.cell t T, .tmp u, .tmp q]) (hv : look t E = some (.pointer (some ⟨b, 0, none⟩))) (hx : look u E = some x) (hy : look q E = some y)
    (hag : ∀ w, (isAgg T).run P w = .ok true w) (hsz : ∀ w, (sizeOf T).run P w = .ok cs.length w) (hg : ∀ j v, cs[j]? = some v → Gives L ⟨b, 0 + j, none⟩ v) (hs : ∀ w, Sat L w → Sat M w) (hp : Post (.tuple #[.agg cs.toArray, x, y]) M) :
    Tri (bodyPost P fn (retR W Post) .ret) W N E L := fun a w s => by
  have hp' : a.tmps[t]?.getD undef = .pointer (some ⟨b, 0, none⟩) := by simp [s.env t _ hv]
  have hx' : a.tmps[u]?.getD undef = x := by simp [s.env u _ hx]
  have hy' : a.tmps[q]?.getD undef = y := by simp [s.env q _ hy]
  have hl := run_loadCells_list (P := P) w ⟨b, 0, none⟩ cs (fun j v hv => by rw [add_plain]; exact hg j v hv w s.sat)
  refine bodyPost_ret (v := .tuple #[.agg cs.toArray, x, y]) ?_ s.defers ⟨_, _, hp, rfl, hs w s.sat, s.ext⟩
  simp [results, hr, hp', hx', hy', asAddr, loadVar, hag, hsz, hl, Result.andThen]
theorem gives_all10 {L : List HP} {F : Nat → Addr} {v0 v1 v2 v3 v4 v5 v6 v7 v8 v9 : Value} (h0 : Gives L (F 0) v0) (h1 : Gives L (F 1) v1) (h2 : Gives L (F 2) v2) (h3 : Gives L (F 3) v3) (h4 : Gives L (F 4) v4) (h5 : Gives L (F 5) v5) (h6 : Gives L (F 6) v6) (h7 : Gives L (F 7) v7) (h8 : Gives L (F 8) v8) (h9 : Gives L (F 9) v9) :
    ∀ j u, [v0, v1, v2, v3, v4, v5, v6, v7, v8, v9][j]? = some u → Gives L (F j) u := by
  intro j u hu
  match j with
  | 0 => cases hu; exact h0
  | 1 => cases hu; exact h1
  | 2 => cases hu; exact h2
  | 3 => cases hu; exact h3
  | 4 => cases hu; exact h4
  | 5 => cases hu; exact h5
  | 6 => cases hu; exact h6
  | 7 => cases hu; exact h7
  | 8 => cases hu; exact h8
  | 9 => cases hu; exact h9
  | j + 10 => simp at hu
end
end Go.Proofs.YtanfdikglplkaaaGreatDoor.Sp
namespace Go.Proofs.YtanfdikglplkaaaGreatDoor.Sp
open Go
def Tab (L : List HP) : Prop := ∀ j, j < 64 → Gives L ⟨1, j, none⟩ (.int .u8 ((Lib.deBruijn64tab.getD j 0 : Nat) : Int))
theorem Tab.cons {A : HP} {L : List HP} (h : Tab L) : Tab (A :: L) := fun j hj => (h j hj).cons
theorem u64_wrap (x : Int) : IntKind.u64.wrap x = x % 18446744073709551616 := by simp [IntKind.wrap, IntKind.bits, IntKind.signed]
theorem neg_u64 {m : Nat} (h0 : m ≠ 0) (hm : m < 2 ^ 64) : IntKind.u64.wrap (0 - (m : Int)) = ((2 ^ 64 - m : Nat) : Int) := by
  rw [u64_wrap]; omega
theorem and_low {m : Nat} (h0 : m ≠ 0) (hm : m < 2 ^ 64) : bAnd .u64 (m : Int) ((2 ^ 64 - m : Nat) : Int) = ((2 ^ Lib.ctz 64 m : Nat) : Int) := by
  rw [bAnd_nat m _ hm (by omega), (Lib.lowest_bit 64 m h0 hm).1]
theorem mul_low (k : Nat) : IntKind.u64.wrap (((2 ^ k : Nat) : Int) * 285870213051353865) = ((2 ^ k * 285870213051353865 % 18446744073709551616 : Nat) : Int) := by
  rw [u64_wrap]; generalize 2 ^ k = t; omega
theorem shr_58 (m : Nat) : bShr .u64 (m : Int) 58 = ((m / 288230376151711744 : Nat) : Int) := by
  have := bShr_nat m 58 (by omega)
  exact this
theorem ctz_lt {m : Nat} (h0 : m ≠ 0) (hm : m < 2 ^ 64) : Lib.ctz 64 m < 64 := (Lib.lowest_bit 64 m h0 hm).2
theorem ctz_bit {m : Nat} (h0 : m ≠ 0) (hm : m < 2 ^ 64) : m.testBit (Lib.ctz 64 m) = true := by
  have h := (Lib.lowest_bit 64 m h0 hm).1
  have h1 : (m &&& (2 ^ 64 - m)).testBit (Lib.ctz 64 m) = true := by rw [h]; simp
  rw [Nat.testBit_and] at h1
  simp only [Bool.and_eq_true] at h1
  exact h1.1
theorem ctz_least {m : Nat} (h0 : m ≠ 0) (hm : m < 2 ^ 64) {i : Nat} (hi : m.testBit i = true) : Lib.ctz 64 m ≤ i := by
  obtain ⟨q, hq, _⟩ := Lib.ctzFrom_spec 64 m (by omega) hm
  have e : Lib.ctz 64 m = Lib.ctzFrom 64 m := by simp [Lib.ctz, h0]
  rw [e]
  apply Nat.le_of_not_lt
  intro hlt
  rw [hq, Nat.mul_comm, Nat.testBit_mul_two_pow] at hi
  simp only [Bool.and_eq_true, decide_eq_true_eq] at hi
  omega
theorem low_off {m : Nat} (h0 : m ≠ 0) (hm : m < 2 ^ 64) : ∃ r : Nat, bAnd .u64 (m : Int) (IntKind.u64.wrap ((m : Int) - 1)) = (r : Int) ∧ r < m ∧ ∀ i, r.testBit i = (m.testBit i && decide (i ≠ Lib.ctz 64 m)) := by
  have e1 : IntKind.u64.wrap ((m : Int) - 1) = ((m - 1 : Nat) : Int) := by rw [u64_wrap]; omega
  rw [e1]
  refine ⟨m &&& (m - 1), bAnd_nat m (m - 1) hm (by omega), ?_, fun i => ?_⟩
  · have := Nat.and_le_right (n := m) (m := m - 1); omega
  · obtain ⟨q, hq, hk⟩ := Lib.ctzFrom_spec 64 m (by omega) hm
    have e : Lib.ctz 64 m = Lib.ctzFrom 64 m := by simp [Lib.ctz, h0]
    rw [← e] at hq hk
    generalize Lib.ctz 64 m = k at *
    have hm1 : m - 1 = 2 ^ k * (2 * q) + (2 ^ k - 1) := by
      have : 0 < 2 ^ k := Nat.two_pow_pos k
      rw [hq, Nat.mul_add, Nat.mul_one]; omega
    rw [Nat.testBit_and, hm1, Nat.testBit_two_pow_mul_add _ (by have : 0 < 2 ^ k := Nat.two_pow_pos k; omega), hq]
    rw [Nat.mul_comm (2 ^ k), Nat.testBit_mul_two_pow]
    by_cases hik : i < k
    · have h1 : ¬ k ≤ i := by omega
      simp [h1]
    · have h1 : k ≤ i := by omega
      simp only [hik, if_false, h1, decide_true, Bool.true_and]
      by_cases he : i = k
      · subst he; simp
      · obtain ⟨j, rfl⟩ : ∃ j, i = k + (j + 1) := ⟨i - k - 1, by omega⟩
        have e3 : k + (j + 1) - k = j + 1 := by omega
        rw [e3, Nat.testBit_succ, Nat.testBit_succ]
        have d1 : (2 * q + 1) / 2 = q := by omega
        have d2 : 2 * q / 2 = q := by omega
        rw [d1, d2]; simp
def bitsOf (m : Nat) : List Int := ((List.range 64).filter fun i => m.testBit i).map fun i : Nat => (i : Int)
theorem bits_lt {m : Nat} (h : ∀ i, m.testBit i = true → i < 64) : m < 2 ^ 64 := by
  refine Nat.lt_pow_two_of_testBit m fun i hi => ?_
  cases hb : m.testBit i with
  | false => rfl
  | true => have := h i hb; omega
theorem filter_first {p : Nat → Bool} {n k : Nat} (hk : k < n) (hp : p k = true) (hl : ∀ i, p i = true → k ≤ i) : (List.range n).filter p = k :: (List.range n).filter fun i => p i && decide (i ≠ k) := by
  have h1 : List.range n = List.range' 0 k ++ k :: List.range' (k + 1) (n - k - 1) := by
    rw [List.range_eq_range']
    have : List.range' 0 n = List.range' 0 k ++ List.range' k (n - k) := by
      have := List.range'_append_1 (s := 0) (m := k) (n := n - k)
      rw [Nat.zero_add] at this
      rw [this]; congr 1; omega
    rw [this]
    congr 1
    obtain ⟨d, hd⟩ : ∃ d, n - k = d + 1 := ⟨n - k - 1, by omega⟩
    rw [hd, List.range'_succ]; congr 1
  rw [h1, List.filter_append, List.filter_append, List.filter_cons, List.filter_cons]
  have e1 : (List.range' 0 k).filter p = [] := by
    rw [List.filter_eq_nil_iff]
    intro i hi h
    have := hl i h
    have := (List.mem_range'_1.1 hi)
    omega
  have e2 : (List.range' 0 k).filter (fun i => p i && decide (i ≠ k)) = [] := by
    rw [List.filter_eq_nil_iff]
    intro i hi h
    simp only [Bool.and_eq_true] at h
    have := hl i h.1
    have := (List.mem_range'_1.1 hi)
    omega
  rw [e1, e2, hp]
  simp only [if_true, List.nil_append, ne_eq, not_true_eq_false, decide_false, Bool.and_false, Bool.false_eq_true, if_false]
  congr 1
  apply List.filter_congr
  intro i hi
  have := (List.mem_range'_1.1 hi)
  have : i ≠ k := by omega
  simp [this]
theorem bitsOf_step {m r : Nat} (h0 : m ≠ 0) (hm : m < 2 ^ 64) (hr : ∀ i, r.testBit i = (m.testBit i && decide (i ≠ Lib.ctz 64 m))) : bitsOf m = ((Lib.ctz 64 m : Nat) : Int) :: bitsOf r := by
  unfold bitsOf
  rw [filter_first (p := fun i => m.testBit i) (ctz_lt h0 hm) (ctz_bit h0 hm) (fun i hi => ctz_least h0 hm hi), List.map_cons]
  congr 2
  apply List.filter_congr
  intro i _
  rw [hr]
theorem bitsOf_zero : bitsOf 0 = [] := by simp [bitsOf]
theorem bitsOf_len (m : Nat) : (bitsOf m).length ≤ 64 := by
  unfold bitsOf
  rw [List.length_map]
  exact Nat.le_trans (List.length_filter_le _ _) (by simp)
theorem filter_range_mono (p : Nat → Bool) (n N : Nat) (h : N ≤ n) (hp : ∀ i, p i = true → i < N) : (List.range n).filter p = (List.range N).filter p := by
  induction n with
  | zero => have : N = 0 := by omega
            subst this; rfl
  | succ n ih =>
    by_cases e : N = n + 1
    · subst e; rfl
    · have hn : p n = false := by cases hb : p n with | false => rfl | true => have := hp n hb; omega
      rw [List.range_succ, List.filter_append, ih (by omega)]
      simp [hn]
theorem bitsOf_reach {N : Nat} {es : Es} {m a : Nat} (hg : GOk N es) (ha : a < N) (h : ∀ i : Nat, m.testBit i = true ↔ Rch es (a : Int) (i : Int)) : bitsOf m = reachL N es (a : Int) := by
  have hin : ∀ i : Nat, Rch es (a : Int) (i : Int) → i < N := fun i hi => by have := hi.inn hg ⟨by omega, by omega⟩; omega
  unfold bitsOf reachL
  rw [valid_nat ha, cond_true]
  congr 1
  have e : ∀ i : Nat, m.testBit i = rch es (a : Int) (i : Int) := fun i => by
    rw [Bool.eq_iff_iff, h, rch_iff]
  rw [filter_range_mono (fun i => m.testBit i) 64 N hg.small (fun i hi => hin i ((h i).1 hi))]
  exact List.filter_congr fun i _ => e i
structure RInv (N : Nat) (es : Es) (a : Nat) (seen opn : Nat) : Prop where
  sl : seen < 2 ^ 64
  ol : opn < 2 ^ 64
  reach : ∀ i : Nat, (seen.testBit i = true ∨ opn.testBit i = true) → Rch es (a : Int) (i : Int)
  start : seen.testBit a = true ∨ opn.testBit a = true
  apart : ∀ i : Nat, opn.testBit i = true → seen.testBit i = false
  closed : ∀ i j : Nat, seen.testBit i = true → ((i : Int), (j : Int)) ∈ es → seen.testBit j = true ∨ opn.testBit j = true
def unseen (seen : Nat) : Nat := ((List.range 64).filter fun i => !seen.testBit i).length
theorem RInv.init {N : Nat} {es : Es} (a : Nat) (ha : a < 64) : RInv N es a 0 (2 ^ a) := by
  refine ⟨by omega, Nat.pow_lt_pow_right (by omega) ha, fun i hi => ?_, .inr (by simp), fun i _ => by simp, fun i j hi => by simp at hi⟩
  rcases hi with h | h
  · simp at h
  · simp [Nat.testBit_two_pow] at h; subst h; exact .refl
theorem RInv.step {N : Nat} {es : Es} {a seen opn : Nat} (hg : GOk N es) (h : RInv N es a seen opn) (h0 : opn ≠ 0) {o2 : Nat}
    (ho2 : ∀ i, o2.testBit i = ((opn ||| maskL (outs es ((Lib.ctz 64 opn : Nat) : Int))).testBit i && !(seen ||| 2 ^ Lib.ctz 64 opn).testBit i)) :
    RInv N es a (seen ||| 2 ^ Lib.ctz 64 opn) o2 ∧ unseen (seen ||| 2 ^ Lib.ctz 64 opn) < unseen seen := by
  have hx := ctz_bit h0 h.ol
  have hxl := ctz_lt h0 h.ol
  generalize Lib.ctz 64 opn = x at *
  have hxs := h.apart x hx
  have hxr := h.reach x (.inr hx)
  have hs2 := fun i => with_test seen x i
  have hsl2 := with_lt seen x hxl h.sl
  refine ⟨⟨hsl2, ?_, fun i hi => ?_, ?_, fun i hi => ?_, fun i j hi hij => ?_⟩, ?_⟩
  · apply bits_lt
    intro i hi
    rw [ho2, Nat.testBit_or] at hi
    simp only [Bool.and_eq_true, Bool.or_eq_true] at hi
    rcases hi.1 with h1 | h1
    · apply Nat.lt_of_not_le; intro hle
      rw [Nat.testBit_lt_two_pow (Nat.lt_of_lt_of_le h.ol (Nat.pow_le_pow_right (by omega) hle))] at h1; cases h1
    · apply Nat.lt_of_not_le; intro hle
      rw [Nat.testBit_lt_two_pow (Nat.lt_of_lt_of_le (hg.mask_lt _) (Nat.pow_le_pow_right (by omega) hle))] at h1; cases h1
  · rw [hs2, ho2, Nat.testBit_or] at hi
    simp only [Bool.or_eq_true, Bool.and_eq_true, decide_eq_true_eq] at hi
    rcases hi with (h1 | h1) | ⟨h1 | h1, _⟩
    · exact h.reach i (.inl h1)
    · subst h1; exact hxr
    · exact h.reach i (.inr h1)
    · exact hxr.step ((hg.mask_bit _ _).1 h1)
  · rw [hs2, ho2, Nat.testBit_or, hs2]
    rcases h.start with h1 | h1
    · exact .inl (by simp [h1])
    · by_cases e : a = x
      · exact .inl (by simp [e])
      · by_cases hs : seen.testBit a = true
        · exact .inl (by simp [hs])
        · exact .inr (by simp [h1, hs, e])
  · rw [ho2] at hi
    simp only [Bool.and_eq_true, Bool.not_eq_true'] at hi
    exact hi.2
  · rw [hs2] at hi
    simp only [Bool.or_eq_true, decide_eq_true_eq] at hi
    rw [hs2, ho2, Nat.testBit_or, hs2]
    by_cases hj : (seen.testBit j || decide (j = x)) = true
    · exact .inl hj
    · refine .inr ?_
      simp only [Bool.not_eq_true] at hj
      rw [hj]
      simp only [Bool.not_false, Bool.and_true, Bool.or_eq_true]
      rcases hi with h1 | h1
      · rcases h.closed i j h1 hij with h2 | h2
        · rw [h2] at hj; cases hj
        · exact .inl h2
      · subst h1; exact .inr ((hg.mask_bit _ _).2 hij)
  · unfold unseen
    have hsub : ((List.range 64).filter fun i => !(seen ||| 2 ^ x).testBit i) = ((List.range 64).filter fun i => !seen.testBit i).filter fun i => decide (i ≠ x) := by
      rw [List.filter_filter]
      apply List.filter_congr
      intro i _
      rw [hs2]; cases seen.testBit i <;> simp
    rw [hsub]
    have hmem : x ∈ (List.range 64).filter fun i => !seen.testBit i := List.mem_filter.2 ⟨List.mem_range.2 hxl, by simp [hxs]⟩
    exact List.length_filter_lt_length_iff_exists.2 ⟨x, hmem, by simp⟩
theorem RInv.done {N : Nat} {es : Es} {a seen : Nat} (hg : GOk N es) (h : RInv N es a seen 0) : ∀ i : Nat, seen.testBit i = true ↔ Rch es (a : Int) (i : Int) := by
  intro i
  refine ⟨fun hi => h.reach i (.inl hi), fun hr => ?_⟩
  have key : ∀ j : Int, Rch es (a : Int) j → ∃ k : Nat, j = (k : Int) ∧ seen.testBit k = true := by
    intro j hj
    induction hj with
    | refl => rcases h.start with h1 | h1
              · exact ⟨a, rfl, h1⟩
              · simp at h1
    | step _ he ih =>
      obtain ⟨k, rfl, hk⟩ := ih
      have hin := hg.inn _ he
      simp only at hin
      rename_i c _
      obtain ⟨c, rfl⟩ := Int.eq_ofNat_of_zero_le hin.2.2.1
      rcases h.closed k c hk he with h1 | h1
      · exact ⟨c, rfl, h1⟩
      · simp at h1
  obtain ⟨k, hk, hb⟩ := key _ hr
  have : i = k := by omega
  rw [this]; exact hb
theorem rowsL_nils (n : Nat) {L : List HP} {w : World} (h : Sat L w) : Sat (Join (rowsL (List.replicate n (.slice none 0 0)) (rowsOf n fun _ => [])) :: L) w := by
  refine Sat.join.2 ?_
  have e : rowsOf n (fun _ => []) = List.replicate n [] := by
    apply List.ext_getElem
    · simp [rowsOf]
    · intro i h1 h2; simp [rowsOf]
  rw [e]
  unfold rowsL
  rw [List.zipWith_replicate, Nat.min_self]
  induction n with
  | zero => exact h
  | succ n ih => rw [List.replicate_succ, List.cons_append]; exact Sat.shutI slok_none (Nat.le_refl _) (sat_nilsl 3 1 (ih (by
      apply List.ext_getElem
      · simp [rowsOf]
      · intro i h1 h2; simp [rowsOf])))
theorem masksOf_nil (n : Nat) : masksOf n ([] : Es) = List.replicate n 0 := by
  apply List.ext_getElem
  · simp [masksOf]
  · intro i h1 h2; simp [masksOf, outs, maskL]
theorem sat_newG {b n : Nat} {bo bi bt : Option Addr} {co ci ct : Nat} {L : List HP} {w : World} (hn : n ≤ 64) (ho : SlOk bo n) (hi : SlOk bi n) (ht : SlOk bt n)
    (h : Sat (Blk b [.slice bo n co, .slice bi n ci, .slice bt n ct, .int .i64 0] 126 :: SlV 34 1 (.slice bo n co) n (List.replicate n (.slice none 0 0)) :: SlV 34 1 (.slice bi n ci) n (List.replicate n (.slice none 0 0)) :: SlV 166 1 (.slice bt n ct) n (ints .u64 (List.replicate n 0)) :: L) w) :
    Sat (GraphO b n ([] : Es) :: L) w := by
  refine Sat.shutG (bo := bo) (co := co) (bi := bi) (ci := ci) (bt := bt) (ct := ct) (vo := List.replicate n (.slice none 0 0)) (vi := List.replicate n (.slice none 0 0)) ⟨⟨hn, List.nodup_nil, fun e he => by cases he⟩, ho, hi, ht, by simp, by simp⟩ ?_
  have h1 := rowsL_nils n (rowsL_nils n h)
  have e1 : rowsOf n (outs []) = rowsOf n fun _ => [] := rfl
  have e2 : rowsOf n (inns []) = rowsOf n fun _ => [] := rfl
  unfold GParts
  rw [e1, e2, masksOf_nil]
  exact h1.perm (List.perm_append_comm (l₁ := [_, _]) (l₂ := [_, _, _, _]) |>.append_right L)
end Go.Proofs.YtanfdikglplkaaaGreatDoor.Sp
namespace Go.Proofs.YtanfdikglplkaaaGreatDoor.Sp
open Go
def mEs (k : IntKind) : Nat → List (Int × Value) → List MapEntry
  | _, [] => []
  | i, (x, v) :: es => ⟨.int k x, v, i⟩ :: mEs k (i + 1) es
def MapP (b : Nat) (k : IntKind) (es : List (Int × Value)) : HP := one b (.map (mEs k 0 es).toArray es.length)
def fndM (x : Int) : List (Int × Value) → Option Value
  | [] => none
  | (y, v) :: es => if x = y then some v else fndM x es
theorem mEs_snoc (k : IntKind) (x : Int) (v : Value) : ∀ (es : List (Int × Value)) (i : Nat), mEs k i (es ++ [(x, v)]) = mEs k i es ++ [⟨.int k x, v, i + es.length⟩]
  | [], i => rfl
  | (y, u) :: es, i => by
    show _ :: mEs k (i + 1) (es ++ [(x, v)]) = _ :: (mEs k (i + 1) es ++ _)
    rw [mEs_snoc k x v es (i + 1), List.length_cons, show i + 1 + es.length = i + (es.length + 1) by omega]
theorem findNow_none {k : IntKind} {x : Int} : ∀ {es : List (Int × Value)} {j : Nat} (i : Nat), fndM x es = none → Instr.findNow (.int k) (.int k x) (mEs k j es) i = some none
  | [], _, _, _ => rfl
  | (y, v) :: es, j, i, h => by
    unfold fndM at h
    by_cases e : x = y
    · rw [if_pos e] at h; cases h
    · rw [if_neg e] at h
      have hs : Instr.sameNow (.int k) (.int k x) (.int k y) = some false := by simp [Instr.sameNow, e]
      show (match Instr.sameNow (.int k) (.int k x) (.int k y) with | some true => some (some (i, v)) | some false => Instr.findNow (.int k) (.int k x) (mEs k (j + 1) es) (i + 1) | none => none) = _
      rw [hs]; exact findNow_none (i + 1) h
theorem findNow_some {k : IntKind} {x : Int} {u : Value} : ∀ {es : List (Int × Value)} {j : Nat} (i : Nat), fndM x es = some u → ∃ n, Instr.findNow (.int k) (.int k x) (mEs k j es) i = some (some (n, u))
  | [], _, _, h => by cases h
  | (y, v) :: es, j, i, h => by
    unfold fndM at h
    show ∃ n, (match Instr.sameNow (.int k) (.int k x) (.int k y) with | some true => some (some (i, v)) | some false => Instr.findNow (.int k) (.int k x) (mEs k (j + 1) es) (i + 1) | none => none) = _
    by_cases e : x = y
    · rw [if_pos e] at h; cases h
      have hs : Instr.sameNow (.int k) (.int k x) (.int k y) = some true := by simp [Instr.sameNow, e]
      exact ⟨i, by rw [hs]⟩
    · rw [if_neg e] at h
      have hs : Instr.sameNow (.int k) (.int k x) (.int k y) = some false := by simp [Instr.sameNow, e]
      rw [hs]; exact findNow_some (i + 1) h
theorem frozen_map {w : World} {a : Addr} {es : Array MapEntry} {ck : Nat} (h : w.heap[a.block]? = some (.map es ck)) : w.frozen? a = false := by
  simp [World.frozen?, h]
theorem Upd.ext_map {w w' : World} {b : Nat} {es : Array MapEntry} {ck : Nat} (u : Upd w w' b (.map es ck))
    (h : w.heap[b]? = none ∨ ∃ es' ck', w.heap[b]? = some (.map es' ck')) : Ext w w' := by
  refine ⟨u.os, u.output, u.size, fun a => ?_⟩
  by_cases e : a.block = b
  · rw [frozen_map (by rw [e]; exact u.here)]
    rcases h with h | ⟨cs', T', h⟩
    · rw [frozen_none (by rw [e]; exact h)]
    · rw [frozen_map (by rw [e]; exact h)]
  · simp [World.frozen?, u.other a.block e]
section
variable {P : Program} {E : List (Nat × Value)} {L : List HP} {ty : TypeId}
theorem mv_makeMap {t : TypeId} (k : IntKind) : MV P E L (.makeMap t none) ty (fun u M => ∃ b, u = .map (some b) ∧ M = MapP b k [] :: L) := by
  intro ρ h w hs d pos af g
  have u := upd_alloc w (.map #[] 0)
  refine ⟨_, _, _, ?_, ⟨w.heap.size, rfl, rfl⟩, hs.new (heap_size_none w) u, u.ext_map (.inl (heap_size_none w))⟩
  simp [execOp, Instr.makeMap, newObj, Sem.run]
theorem sat_map {b : Nat} {k : IntKind} {es : List (Int × Value)} {w : World} (hL : MapP b k es ∈ L) (hs : Sat L w) : w.heap[b]? = some (.map (mEs k 0 es).toArray es.length) := by
  obtain ⟨f, rfl, hh⟩ := hs.mem hL
  exact hh.2 _ (.head _)
theorem run_insert {t kt et : TypeId} {b : Nat} {x : Int} {k : IntKind} {es : List (Int × Value)} {v : Value} {w : World} (hu : P.underlying t = some (.map kt et)) (hk : P.underlying kt = some (.int k)) (hb : w.heap[b]? = some (.map (mEs k 0 es).toArray es.length)) (hn : fndM x es = none) :
    (Instr.mapUpdate t (.map (some b)) (.int k x) v).run P w = .ok () { w with heap := w.heap.setIfInBounds b (.map (mEs k 0 (es ++ [(x, v)])).toArray (es ++ [(x, v)]).length) } := by
  have e1 : (Instr.checkKey false 10000 kt (.int k x)).run P w = .ok () w := MapKept.run_checkKey hk (show MapKept.IsKey (.int k) (.int k x) from rfl) false 9999
  have e2 : (Instr.findKey kt (.int k x) (mEs k 0 es).toArray.toList).run P w = .ok none w := MapKept.run_findKey hk (findNow_none 0 hn)
  have e3 : (mEs k 0 es).toArray.push ⟨.int k x, v, es.length⟩ = (mEs k 0 (es ++ [(x, v)])).toArray := by rw [mEs_snoc]; simp
  simp [Instr.mapUpdate, run_underlying hu, MapKept.run_getObj_map hb, e1, MapKept.run_setObj_map _ hb, Result.andThen]
  simp at e2
  simp [e2, MapKept.run_setObj_map _ hb, Result.andThen, ← e3]
theorem upd_setObj {w : World} {b : Nat} {o o' : Obj} (hb : w.heap[b]? = some o) : Upd w { w with heap := w.heap.setIfInBounds b o' } b o' := by
  obtain ⟨h1, h2⟩ := MapKept.heap_set (o' := o') hb
  exact ⟨rfl, rfl, by simp, h1, h2⟩
theorem sv_insert {t kt et : TypeId} {m kx vx : Operand} {b : Nat} {x : Int} {k : IntKind} {es : List (Int × Value)} {v : Value} (hu : P.underlying t = some (.map kt et)) (hk : P.underlying kt = some (.int k))
    (hm : ev E m = some (.map (some b))) (hx : ev E kx = some (.int k x)) (hv : ev E vx = some v) (hn : fndM x es = none) : SV P E (MapP b k es :: L) (.insert t m kx vx) ty (MapP b k (es ++ [(x, v)]) :: L) := by
  intro ρ h w hs d pos af g
  have hb := sat_map (.head _) hs
  have u := upd_setObj (o' := .map (mEs k 0 (es ++ [(x, v)])).toArray (es ++ [(x, v)]).length) hb
  refine ⟨_, ?_, hs.upd u, u.ext_map (.inr ⟨_, _, hb⟩)⟩
  simp [execOp, h m _ hm, h kx _ hx, h vx _ hv, run_insert hu hk hb hn]
theorem lv_lookup {t kt et : TypeId} {m ix : Operand} {b : Nat} {x : Int} {k : IntKind} {es : List (Int × Value)} {v z : Value} (hu : P.underlying t = some (.map kt et)) (hk : P.underlying kt = some (.int k)) (hz : ∀ w, (zeroValue et).run P w = .ok z w)
    (hm : ev E m = some (.map (some b))) (hx : ev E ix = some (.int k x)) (hL : MapP b k es ∈ L) (hv : (fndM x es).getD z = v) : LV P E L (.lookup t m ix false) ty v := by
  intro ρ h w hs d pos af g
  have hb := sat_map hL hs
  have e1 : ∀ e, (Instr.checkKey e 10000 kt (.int k x)).run P w = .ok () w := fun e => MapKept.run_checkKey hk (show MapKept.IsKey (.int k) (.int k x) from rfl) e 9999
  subst hv
  cases hf : fndM x es with
  | none =>
    have e2 : (Instr.findKey kt (.int k x) (mEs k 0 es).toArray.toList).run P w = .ok none w := MapKept.run_findKey hk (findNow_none 0 hf)
    simp at e2
    simp [execOp, h m _ hm, h ix _ hx, Instr.lookup, run_underlying hu, MapKept.run_getObj_map hb, e1, e2, hz, Result.andThen]
  | some u =>
    obtain ⟨n, hn⟩ := findNow_some (k := k) (j := 0) 0 hf
    have e2 : (Instr.findKey kt (.int k x) (mEs k 0 es).toArray.toList).run P w = .ok (some (n, u)) w := MapKept.run_findKey hk hn
    simp at e2
    simp [execOp, h m _ hm, h ix _ hx, Instr.lookup, run_underlying hu, MapKept.run_getObj_map hb, e1, e2, Result.andThen]
end
end Go.Proofs.YtanfdikglplkaaaGreatDoor.Sp
