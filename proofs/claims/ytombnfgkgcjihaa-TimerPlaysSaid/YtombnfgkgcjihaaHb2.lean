/- Contracts of container/heap: Push, Pop, Fix, Remove. -/
import Derived.Test.YtombnfgkgcjihaaHb
set_option maxRecDepth 100000
set_option linter.unusedVariables false
set_option linter.unusedSimpArgs false
namespace Go.Proofs.Ytombnfgkgcjihaa
open Go Go.Proofs Sp
theorem cpush_ok {R : List HP} {p n : Nat} {l Kk : List Int} (x : Int) (hx : 0 ≤ x ∧ x < n) (hn : x ∉ l) (hp : HeapP Kk l l.length) :
    Ok Try.prog 31 [(.iface 67 (.pointer (some ⟨p, 0, none⟩))), (.iface 3 (.int .i64 x))] ((RowsO p n l Kk) :: R)
      (fun v M => ∃ l', ((∀ y, y ∈ l' ↔ y ∈ l ++ [x]) ∧ HI n l' ∧ HeapP Kk l' l'.length) ∧ v = .tuple #[] ∧ M = RowsO p n l' Kk :: R) := by
  refine ok_of (N := 12) Try.func31 rfl rfl rfl (fun W => ?_)
  refine t_learn (fun _ h => rfacts_of h) (fun hrf => ?_)
  obtain ⟨hhi, hkl, hbg⟩ := hrf
  have hll := hhi.le
  refine c_seq (fun K1 hK1 => ?_)
  refine c_region ?_
  refine tp rfl (lv_move rfl) ?_
  refine tp rfl (lv_move rfl) ?_
  refine tc rfl (en_meth meth_Push rfl rfl) (rpush_ok (n := n) (l := l) (Kk := Kk) x hx hn) ?_
  rintro _ _ ⟨rfl, rfl⟩
  refine t_done ?_
  refine q_then_n (hK1 _ _ ?_)
  refine c_region ?_
  have hapl : (l ++ [x]).length = l.length + 1 := by simp
  have hle2 : l.length + 1 ≤ n := by have := (hhi.push hx hn).le; omega
  refine tp rfl (lv_move rfl) ?_
  refine tp rfl (lv_move rfl) ?_
  refine tc rfl (en_meth meth_Len rfl rfl) (rlen_ok (n := n) (l := l ++ [x]) (Kk := Kk)) ?_
  rintro _ _ ⟨rfl, rfl⟩
  refine tp rfl (lv_sub (c := ((l.length : Nat) : Int)) rfl rfl ((wr_i64 (by omega) (by omega)).trans (by omega))) ?_
  refine tc rfl (en_fn Try.call35 rfl) (up_ok (n := n) (l := l ++ [x]) (Kk := Kk) (m := (l ++ [x]).length) l.length (HeapP.pushUp hp) (by omega) (by omega)) ?_
  rintro _ _ ⟨l1, hs2, hp3, rfl, rfl⟩
  refine t_done ?_
  refine t_learn (fun _ h => rfacts_of h) (fun hrf2 => ?_)
  refine q_ret0 rfl ?_
  refine ⟨l1, ⟨fun y => (hs2.mem y), hrf2.1, ?_⟩, rfl, rfl⟩
  have e : (l ++ [x]).length = l1.length := hs2.len.symm
  rw [e] at hp3; exact hp3

theorem cpop_ok {R : List HP} {p n : Nat} {l Kk : List Int} (h0 : 0 < l.length) (hp : HeapP Kk l l.length) :
    Ok Try.prog 34 [(.iface 67 (.pointer (some ⟨p, 0, none⟩)))] ((RowsO p n l Kk) :: R)
      (fun v M => ∃ l', ((∀ y, y ∈ l' ↔ y ∈ l ∧ y ≠ l.getD 0 0) ∧ HI n l' ∧ HeapP Kk l' l'.length) ∧ v = .iface 3 (.int .i64 (l.getD 0 0)) ∧ M = RowsO p n l' Kk :: R) := by
  refine ok_of (N := 15) Try.func34 rfl rfl rfl (fun W => ?_)
  refine t_learn (fun _ h => rfacts_of h) (fun hrf => ?_)
  obtain ⟨hhi, hkl, hbg⟩ := hrf
  have hll := hhi.le
  have hswl := swapL_len l 0 (l.length - 1)
  refine c_seq (fun K1 hK1 => ?_)
  refine c_region ?_
  refine tp rfl (lv_assign rfl) ?_
  refine t_done ?_
  refine q_then_n (hK1 _ _ ?_)
  refine c_seq (fun K2 hK2 => ?_)
  refine c_region ?_
  refine tp rfl (lv_move rfl) ?_
  refine tc rfl (en_meth meth_Len rfl rfl) (rlen_ok (n := n) (l := l) (Kk := Kk)) ?_
  rintro _ _ ⟨rfl, rfl⟩
  refine tp rfl (lv_sub (c := ((l.length - 1 : Nat) : Int)) rfl rfl ((wr_i64 (by omega) (by omega)).trans (by omega))) ?_
  refine tp rfl (lv_assign rfl) ?_
  refine t_done ?_
  refine q_then_n (hK2 _ _ ?_)
  refine c_seq (fun K3 hK3 => ?_)
  refine c_region ?_
  refine tp rfl (lv_move rfl) ?_
  refine tp rfl (lv_move rfl) ?_
  refine tc rfl (en_meth meth_Swap rfl rfl) (rswap_ok (n := n) (l := l) (Kk := Kk) 0 (l.length - 1) (by omega) (by omega)) ?_
  rintro _ _ ⟨rfl, rfl⟩
  refine t_done ?_
  refine q_then_n (hK3 _ _ ?_)
  refine c_seq (fun K4 hK4 => ?_)
  refine c_region ?_
  refine tp rfl (lv_move rfl) ?_
  refine tp rfl (lv_move rfl) ?_
  refine tc rfl (en_fn Try.call36 rfl) (down_ok (n := n) (l := swapL l 0 (l.length - 1)) (Kk := Kk) 0 (l.length - 1) ((hp.less (Nat.sub_le _ _)).swapX (by omega) (by omega) (by omega) (by omega)) (by omega) (by omega)) ?_
  rintro _ _ ⟨bb1, l2, hd3, rfl, rfl⟩
  refine t_done ?_
  refine q_then_n (hK4 _ _ ?_)
  refine c_seq (fun K5 hK5 => ?_)
  refine c_region ?_
  refine t_learn (fun _ h => rfacts_of h) (fun hrf1 => ?_)
  have hq2 := hrf1.1
  have hdl := hd3.same.len
  rw [swapL_len] at hdl
  refine tp rfl (lv_move rfl) ?_
  refine tc rfl (en_meth meth_Pop rfl rfl) (rpop_ok (n := n) (l := l2) (Kk := Kk) (by omega)) ?_
  rintro _ _ ⟨rfl, rfl⟩
  refine tp rfl (lv_assign rfl) ?_
  refine t_done ?_
  refine q_then_n (hK5 _ _ ?_)
  refine c_ret ?_
  refine t_learn (fun _ h => rfacts_of h) (fun hrf2 => ?_)
  refine q_ret rfl rfl ?_
  have hsl := hd3.same.len
  rw [swapL_len] at hsl
  have hlast : l2.getD (l2.length - 1) 0 = l.getD 0 0 := by rw [hsl, hd3.same.rest _ (by omega), swapL_get (by omega) (by omega), if_pos rfl]
  have hpp : HeapP Kk l2 (l.length - 1) := hd3.heap0
  refine ⟨l2.dropLast, ⟨fun y => ?_, hrf2.1, hpp.dropLast (by omega)⟩, by rw [hlast], rfl⟩
  rw [dropLast_mem hq2 (by omega), hlast, hd3.same.mem, swap_mem (by omega) (by omega)]

set_option maxHeartbeats 4000000 in
theorem crem_ok {R : List HP} {p n : Nat} {l Kk : List Int} (i : Nat) (hi : i < l.length) (hp : HeapP Kk l l.length) :
    Ok Try.prog 33 [(.iface 67 (.pointer (some ⟨p, 0, none⟩))), (.int .i64 ((i : Nat) : Int))] ((RowsO p n l Kk) :: R)
      (fun v M => ∃ l', ((∀ y, y ∈ l' ↔ y ∈ l ∧ y ≠ l.getD i 0) ∧ HI n l' ∧ HeapP Kk l' l'.length) ∧ v = .iface 3 (.int .i64 (l.getD i 0)) ∧ M = RowsO p n l' Kk :: R) := by
  refine ok_of (N := 26) Try.func33 rfl rfl rfl (fun W => ?_)
  refine t_learn (fun _ h => rfacts_of h) (fun hrf => ?_)
  obtain ⟨hhi, hkl, hbg⟩ := hrf
  have hll := hhi.le
  have hswl := swapL_len l i (l.length - 1)
  refine c_seq (fun K1 hK1 => ?_)
  refine c_region ?_
  refine tp rfl (lv_assign rfl) ?_
  refine t_done ?_
  refine q_then_n (hK1 _ _ ?_)
  refine c_seq (fun K2 hK2 => ?_)
  refine c_region ?_
  refine tp rfl (lv_move rfl) ?_
  refine tc rfl (en_meth meth_Len rfl rfl) (rlen_ok (n := n) (l := l) (Kk := Kk)) ?_
  rintro _ _ ⟨rfl, rfl⟩
  refine tp rfl (lv_sub (c := ((l.length - 1 : Nat) : Int)) rfl rfl ((wr_i64 (by omega) (by omega)).trans (by omega))) ?_
  refine tp rfl (lv_assign rfl) ?_
  refine t_done ?_
  refine q_then_n (hK2 _ _ ?_)
  refine c_seq (fun K3 hK3 => ?_)
  refine c_seq (fun K4 hK4 => ?_)
  refine c_region ?_
  refine tp rfl (lv_move rfl) ?_
  refine tp rfl (lv_move rfl) ?_
  by_cases h1 : ((l.length - 1 : Nat) : Int) = ((i : Nat) : Int)
  · -- yes
    refine tp rfl (lv_neq rfl rfl (bne_eq_false_iff_eq.2 h1)) ?_
    refine t_done ?_
    refine q_then_n (hK4 _ _ ?_)
    refine c_false rfl ?_
    refine c_skip ?_
    refine q_then_n (hK3 _ _ ?_)
    refine c_seq (fun K5 hK5 => ?_)
    refine c_region ?_
    refine t_learn (fun _ h => rfacts_of h) (fun hrf1 => ?_)
    have hq2 := hrf1.1
    refine tp rfl (lv_move rfl) ?_
    refine tc rfl (en_meth meth_Pop rfl rfl) (rpop_ok (n := n) (l := l) (Kk := Kk) (by omega)) ?_
    rintro _ _ ⟨rfl, rfl⟩
    refine tp rfl (lv_assign rfl) ?_
    refine t_done ?_
    refine q_then_n (hK5 _ _ ?_)
    refine c_ret ?_
    refine t_learn (fun _ h => rfacts_of h) (fun hrf2 => ?_)
    refine q_ret rfl rfl ?_
    have hpp : HeapP Kk l (l.length - 1) := hp.less (by omega)
    have hmm : ∀ y, y ∈ l ↔ y ∈ l := fun y => Iff.rfl
    have hln : l.length = l.length := rfl
    have hlast : l.getD (l.length - 1) 0 = l.getD i 0 := by rw [show l.length - 1 = i by omega]
    refine ⟨l.dropLast, ⟨fun y => ?_, hrf2.1, hpp.dropLast (by omega)⟩, by rw [hlast], rfl⟩
    rw [dropLast_mem hq2 (by omega), hlast, hmm]
  · -- no
    refine tp rfl (lv_neq rfl rfl (bne_iff_ne.2 h1)) ?_
    refine t_done ?_
    refine q_then_n (hK4 _ _ ?_)
    refine c_true rfl ?_
    refine c_seq (fun K5 hK5 => ?_)
    refine c_region ?_
    refine tp rfl (lv_move rfl) ?_
    refine tp rfl (lv_move rfl) ?_
    refine tp rfl (lv_move rfl) ?_
    refine tc rfl (en_meth meth_Swap rfl rfl) (rswap_ok (n := n) (l := l) (Kk := Kk) i (l.length - 1) (by omega) (by omega)) ?_
    rintro _ _ ⟨rfl, rfl⟩
    refine t_done ?_
    refine q_then_n (hK5 _ _ ?_)
    refine c_seq (fun K6 hK6 => ?_)
    refine c_region ?_
    refine tp rfl (lv_move rfl) ?_
    refine tp rfl (lv_move rfl) ?_
    refine tp rfl (lv_move rfl) ?_
    refine tc rfl (en_fn Try.call36 rfl) (down_ok (n := n) (l := swapL l i (l.length - 1)) (Kk := Kk) i (l.length - 1) ((hp.less (Nat.sub_le _ _)).swapX (by omega) (by omega) (by omega) (by omega)) (by omega) (by omega)) ?_
    rintro _ _ ⟨bb2, l3, hd4, rfl, rfl⟩
    refine tp rfl (lv_not (c := !bb2) rfl rfl) ?_
    refine t_done ?_
    refine q_then_n (hK6 _ _ ?_)
    refine c_split rfl (fun c5 => ?_) (fun c5 => ?_)
    · -- true
      refine c_region ?_
      have hno := hd4.no (by have hq : (!bb2) = true := (by assumption); simpa using hq)
      have hl2 := hno.1
      refine tp rfl (lv_move rfl) ?_
      refine tp rfl (lv_move rfl) ?_
      refine tc rfl (en_fn Try.call35 rfl) (up_ok (n := n) (l := l3) (Kk := Kk) (m := (l.length - 1)) i (by rw [hl2]; exact hno.2) (by omega) (by rw [hl2]; omega)) ?_
      rintro _ _ ⟨l6, hs7, hp8, rfl, rfl⟩
      refine t_done ?_
      refine q_then_n (hK3 _ _ ?_)
      refine c_seq (fun K7 hK7 => ?_)
      refine c_region ?_
      refine t_learn (fun _ h => rfacts_of h) (fun hrf1 => ?_)
      have hq2 := hrf1.1
      have hd0 := hd4.same.len
      rw [swapL_len] at hd0
      have hu0 := hs7.len
      refine tp rfl (lv_move rfl) ?_
      refine tc rfl (en_meth meth_Pop rfl rfl) (rpop_ok (n := n) (l := l6) (Kk := Kk) (by omega)) ?_
      rintro _ _ ⟨rfl, rfl⟩
      refine tp rfl (lv_assign rfl) ?_
      refine t_done ?_
      refine q_then_n (hK7 _ _ ?_)
      refine c_ret ?_
      refine t_learn (fun _ h => rfacts_of h) (fun hrf2 => ?_)
      refine q_ret rfl rfl ?_
      have hpp : HeapP Kk l6 (l.length - 1) := by have h3 := hp8; exact h3
      have hmm : ∀ y, y ∈ l6 ↔ y ∈ l := fun y => by rw [hs7.mem, hno.1, swap_mem (by omega) (by omega)]
      have hln : l6.length = l.length := by rw [hs7.len, hno.1, swapL_len]
      have hlast : l6.getD (l6.length - 1) 0 = l.getD i 0 := by rw [show l6.length = l.length from by rw [hs7.len, hno.1, swapL_len], hs7.rest _ (by omega), hno.1]; rw [swapL_get (by omega) (by omega), if_pos rfl]
      refine ⟨l6.dropLast, ⟨fun y => ?_, hrf2.1, hpp.dropLast (by omega)⟩, by rw [hlast], rfl⟩
      rw [dropLast_mem hq2 (by omega), hlast, hmm]
    · -- false
      refine c_skip ?_
      refine q_then_n (hK3 _ _ ?_)
      refine c_seq (fun K7 hK7 => ?_)
      refine c_region ?_
      refine t_learn (fun _ h => rfacts_of h) (fun hrf1 => ?_)
      have hq2 := hrf1.1
      have hd0 := hd4.same.len
      rw [swapL_len] at hd0
      refine tp rfl (lv_move rfl) ?_
      refine tc rfl (en_meth meth_Pop rfl rfl) (rpop_ok (n := n) (l := l3) (Kk := Kk) (by omega)) ?_
      rintro _ _ ⟨rfl, rfl⟩
      refine tp rfl (lv_assign rfl) ?_
      refine t_done ?_
      refine q_then_n (hK7 _ _ ?_)
      refine c_ret ?_
      refine t_learn (fun _ h => rfacts_of h) (fun hrf2 => ?_)
      refine q_ret rfl rfl ?_
      have hpp : HeapP Kk l3 (l.length - 1) := hd4.yes (by have hq : (!bb2) = false := (by assumption); simpa using hq)
      have hmm : ∀ y, y ∈ l3 ↔ y ∈ l := fun y => by rw [hd4.same.mem, swap_mem (by omega) (by omega)]
      have hln : l3.length = l.length := by rw [hd4.same.len, swapL_len]
      have hlast : l3.getD (l3.length - 1) 0 = l.getD i 0 := by rw [show l3.length = l.length from by rw [hd4.same.len, swapL_len], hd4.same.rest _ (by omega)]; rw [swapL_get (by omega) (by omega), if_pos rfl]
      refine ⟨l3.dropLast, ⟨fun y => ?_, hrf2.1, hpp.dropLast (by omega)⟩, by rw [hlast], rfl⟩
      rw [dropLast_mem hq2 (by omega), hlast, hmm]
end Go.Proofs.Ytombnfgkgcjihaa
