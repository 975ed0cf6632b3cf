/- Contracts of package heap. -/
import Derived.Test.YtombnfgkgcjihaaHb2
set_option maxRecDepth 100000
set_option linter.unusedVariables false
set_option linter.unusedSimpArgs false
namespace Go.Proofs.Ytombnfgkgcjihaa
open Go Go.Proofs Sp
theorem known_ok {R : List HP} {p n : Nat} {ks : Ks} (x : Int) :
    Ok Try.prog 29 [(.pointer (some ⟨p, 0, none⟩)), (.int .i64 x)] ((HeapO p n ks) :: R)
      (fun v M => v = .bool (known n x) ∧ M = HeapO p n ks :: R) := by
  refine ok_of (N := 17) Try.func29 rfl rfl rfl (fun W => ?_)
  refine t_openH (fun l Kk hH => ?_)
  refine t_openW (fun at1 bs2 cp3 bs4 cp5 bs6 cp7 hR8 => ?_)
  have hal := hR8.ato.len
  have hkl := hR8.lk
  have hbg := hR8.big
  have hll := hR8.hi.le
  have hcl := hR8.cpl
  refine c_seq (fun K1 hK1 => ?_)
  refine c_region ?_
  refine tp rfl (lv_assign rfl) ?_
  refine t_done ?_
  refine q_then_n (hK1 _ _ ?_)
  refine c_seq (fun K2 hK2 => ?_)
  refine c_region ?_
  refine tp rfl (lv_move rfl) ?_
  by_cases h9 : x ≥ 0
  · -- yes
    refine tp rfl (lv_geq rfl rfl (decide_eq_true h9)) ?_
    refine tp rfl (lv_move rfl) ?_
    refine t_guard rfl rfl ?_
    refine tp rfl (lv_move rfl) ?_
    refine t_guard rfl rfl ?_
    refine tp rfl (lv_move rfl) ?_
    refine t_guard rfl rfl ?_
    refine tp rfl (lv_nilCheck rfl) ?_
    refine t_guard rfl rfl ?_
    refine tp rfl (lv_fieldAddr (o' := 0) Try.underlying65 rfl Try.sizeOf63 rfl rfl) ?_
    refine t_guard rfl rfl ?_
    refine tp rfl (lv_fieldAddr (o' := 1) Try.underlying63 rfl Try.sizeOf30 rfl rfl) ?_
    refine t_guard rfl rfl ?_
    refine tp rfl (lv_load Try.isAgg30 rfl (gives_blk (.head _) rfl)) ?_
    refine t_guard rfl rfl ?_
    refine tp rfl (lv_len Try.underlying30 rfl rfl) ?_
    refine t_guard rfl rfl ?_
    refine tp rfl (lv_lss rfl rfl rfl) ?_
    refine tp rfl (lv_pick_t rfl rfl) ?_
    refine tp rfl (lv_assign rfl) ?_
    refine t_done ?_
    refine q_then_n (hK2 _ _ ?_)
    refine c_ret ?_
    refine t_f3 ?_
    refine t_f3 ?_
    refine t_f3 ?_
    refine t_f3 ?_
    refine t_shutW rfl hR8 ?_
    refine t_shutH hH ?_
    refine q_ret rfl rfl ?_
    exact ⟨by first | (unfold known; simp [*]; done) | (unfold known; simp [*]; omega), rfl⟩
  · -- no
    refine tp rfl (lv_geq rfl rfl (decide_eq_false h9)) ?_
    refine tp rfl (lv_move rfl) ?_
    refine t_skip rfl rfl rfl ?_
    refine t_skip rfl rfl rfl ?_
    refine t_skip rfl rfl rfl ?_
    refine t_skip rfl rfl rfl ?_
    refine t_skip rfl rfl rfl ?_
    refine t_skip rfl rfl rfl ?_
    refine t_skip rfl rfl rfl ?_
    refine t_skip rfl rfl rfl ?_
    refine tp rfl (lv_pick_f rfl rfl) ?_
    refine tp rfl (lv_assign rfl) ?_
    refine t_done ?_
    refine q_then_n (hK2 _ _ ?_)
    refine c_ret ?_
    refine t_f3 ?_
    refine t_f3 ?_
    refine t_f3 ?_
    refine t_f3 ?_
    refine t_shutW rfl hR8 ?_
    refine t_shutH hH ?_
    refine q_ret rfl rfl ?_
    exact ⟨by first | (unfold known; simp [*]; done) | (unfold known; simp [*]; omega), rfl⟩

theorem hasK_ok {R : List HP} {p n : Nat} {ks : Ks} (x : Int) :
    Ok Try.prog 30 [(.pointer (some ⟨p, 0, none⟩)), (.int .i64 x)] ((HeapO p n ks) :: R)
      (fun v M => v = .bool (hasK ks x) ∧ M = HeapO p n ks :: R) := by
  refine ok_of (N := 19) Try.func30 rfl rfl rfl (fun W => ?_)
  refine t_learn (fun _ h => hfacts_of h) (fun hhf => ?_)
  obtain ⟨hln, hbig, hcn⟩ := hhf
  refine c_seq (fun K1 hK1 => ?_)
  refine c_region ?_
  refine tp rfl (lv_assign rfl) ?_
  refine t_done ?_
  refine q_then_n (hK1 _ _ ?_)
  refine c_seq (fun K2 hK2 => ?_)
  refine c_region ?_
  refine tp rfl (lv_move rfl) ?_
  refine tp rfl (lv_move rfl) ?_
  refine tc rfl (en_fn Try.call29 rfl) (known_ok (n := n) (ks := ks) x) ?_
  rintro _ _ ⟨rfl, rfl⟩
  refine tp rfl (lv_move rfl) ?_
  rcases hb1 : known n x with _ | _
  · -- false
    refine t_skip rfl rfl rfl ?_
    refine t_skip rfl rfl rfl ?_
    refine t_skip rfl rfl rfl ?_
    refine t_skip rfl rfl rfl ?_
    refine t_skip rfl rfl rfl ?_
    refine t_skip rfl rfl rfl ?_
    refine t_skip rfl rfl rfl ?_
    refine t_skip rfl rfl rfl ?_
    refine t_skip rfl rfl rfl ?_
    refine tp rfl (lv_pick_f rfl rfl) ?_
    refine tp rfl (lv_assign rfl) ?_
    refine t_done ?_
    refine q_then_n (hK2 _ _ ?_)
    refine c_ret ?_
    refine q_ret rfl rfl ?_
    have hkn : known n x = false := by assumption
    exact ⟨by rw [hasK_no hln (fun hh => by rw [known_iff.2 hh] at hkn; cases hkn)], rfl⟩
  · -- true
    refine t_guard rfl rfl ?_
    refine tp rfl (lv_move rfl) ?_
    have hkx := known_iff.1 (show known n x = true by assumption)
    refine t_openH (fun l Kk hH => ?_)
    refine t_openW (fun at2 bs3 cp4 bs5 cp6 bs7 cp8 hR9 => ?_)
    have hal := hR9.ato.len
    have hkl := hR9.lk
    have hbg := hR9.big
    have hll := hR9.hi.le
    have hcl := hR9.cpl
    refine t_guard rfl rfl ?_
    refine tp rfl (lv_nilCheck rfl) ?_
    refine t_guard rfl rfl ?_
    refine tp rfl (lv_fieldAddr (o' := 0) Try.underlying65 rfl Try.sizeOf63 rfl rfl) ?_
    refine t_guard rfl rfl ?_
    refine tp rfl (lv_fieldAddr (o' := 1) Try.underlying63 rfl Try.sizeOf30 rfl rfl) ?_
    refine t_guard rfl rfl ?_
    refine tp rfl (lv_load Try.isAgg30 rfl (gives_blk (.head _) rfl)) ?_
    refine t_guard rfl rfl ?_
    refine tp rfl (lv_move rfl) ?_
    refine t_guard rfl rfl ?_
    refine tp rfl (lv_indexAddr (k' := x.toNat) Try.underlying30 Try.sizeOf3 rfl rfl hR9.oka (by omega) (by omega) (by omega)) ?_
    refine t_guard rfl rfl ?_
    refine tp rfl (lv_load Try.isAgg3 rfl (gives_sl (.tail _ (.tail _ (.head _))) (ints_get (by omega)))) ?_
    refine t_guard rfl rfl ?_
    refine tp rfl (lv_geq rfl rfl rfl) ?_
    refine tp rfl (lv_pick_t rfl rfl) ?_
    refine tp rfl (lv_assign rfl) ?_
    refine t_done ?_
    refine q_then_n (hK2 _ _ ?_)
    refine c_ret ?_
    refine t_f3 ?_
    refine t_f3 ?_
    refine t_f3 ?_
    refine t_f3 ?_
    refine t_shutW rfl hR9 ?_
    refine t_shutH hH ?_
    refine q_ret rfl rfl ?_
    exact ⟨by rw [hH.has hkx, hR9.ato.at_ge hR9.hi hkx], rfl⟩

theorem check_ok {R : List HP} {p n : Nat} {ks : Ks} (x : Int) :
    Ok Try.prog 32 [(.pointer (some ⟨p, 0, none⟩)), (.int .i64 x)] ((HeapO p n ks) :: R)
      (fun v M => v = .int .i64 (remE ks x) ∧ M = HeapO p n ks :: R) := by
  refine ok_of (N := 15) Try.func32 rfl rfl rfl (fun W => ?_)
  refine t_learn (fun _ h => hfacts_of h) (fun hhf => ?_)
  obtain ⟨hln, hbig, hcn⟩ := hhf
  refine c_seq (fun K1 hK1 => ?_)
  refine c_region ?_
  refine tp rfl (lv_assign rfl) ?_
  refine t_done ?_
  refine q_then_n (hK1 _ _ ?_)
  refine c_seq (fun K2 hK2 => ?_)
  refine c_block ?_
  refine c_seq (fun K3 hK3 => ?_)
  refine c_region ?_
  refine tp rfl (lv_move rfl) ?_
  refine tp rfl (lv_move rfl) ?_
  refine tc rfl (en_fn Try.call29 rfl) (known_ok (n := n) (ks := ks) x) ?_
  rintro _ _ ⟨rfl, rfl⟩
  refine tp rfl (lv_not (c := !(known n x)) rfl rfl) ?_
  refine tp rfl (lv_assign rfl) ?_
  refine t_done ?_
  refine q_then_n (hK3 _ _ ?_)
  refine c_split rfl (fun c1 => ?_) (fun c1 => ?_)
  · -- true
    refine c_seq (fun K4 hK4 => ?_)
    refine c_region ?_
    refine tp rfl (lv_assign rfl) ?_
    refine t_done ?_
    refine q_then_n (hK4 _ _ ?_)
    refine c_ret ?_
    refine q_in_r ?_
    refine q_then_r ?_
    refine q_ret rfl rfl ?_
    refine ⟨?_, rfl⟩
    congr 1
    unfold remE
    rw [hln]
    simp_all
  · -- false
    refine c_seq (fun K4 hK4 => ?_)
    refine c_region ?_
    refine tp rfl (lv_move rfl) ?_
    refine tp rfl (lv_move rfl) ?_
    refine tc rfl (en_fn Try.call30 rfl) (hasK_ok (n := n) (ks := ks) x) ?_
    rintro _ _ ⟨rfl, rfl⟩
    refine tp rfl (lv_not (c := !(hasK ks x)) rfl rfl) ?_
    refine tp rfl (lv_assign rfl) ?_
    refine t_done ?_
    refine q_then_n (hK4 _ _ ?_)
    refine c_split rfl (fun c2 => ?_) (fun c2 => ?_)
    · -- true
      refine c_seq (fun K5 hK5 => ?_)
      refine c_region ?_
      refine tp rfl (lv_assign rfl) ?_
      refine t_done ?_
      refine q_then_n (hK5 _ _ ?_)
      refine c_ret ?_
      refine q_in_r ?_
      refine q_then_r ?_
      refine q_ret rfl rfl ?_
      refine ⟨?_, rfl⟩
      congr 1
      unfold remE
      rw [hln]
      simp_all
    · -- false
      refine c_skip ?_
      refine q_in_n ?_
      refine q_then_n (hK2 _ _ ?_)
      refine c_seq (fun K5 hK5 => ?_)
      refine c_region ?_
      refine tp rfl (lv_assign rfl) ?_
      refine t_done ?_
      refine q_then_n (hK5 _ _ ?_)
      refine c_ret ?_
      refine q_ret rfl rfl ?_
      refine ⟨?_, rfl⟩
      congr 1
      unfold remE
      rw [hln]
      simp_all

set_option maxHeartbeats 4000000 in
theorem hpush_ok {R : List HP} {p n : Nat} {ks : Ks} (x k : Int) :
    Ok Try.prog 24 [(.pointer (some ⟨p, 0, none⟩)), (.int .i64 x), (.int .i64 k)] ((HeapO p n ks) :: R)
      (fun v M => v = .int .i64 (pushE ks x) ∧ M = HeapO p n (pushK ks x k) :: R) := by
  refine ok_of (N := 31) Try.func24 rfl rfl rfl (fun W => ?_)
  refine t_learn (fun _ h => hfacts_of h) (fun hhf => ?_)
  obtain ⟨hln, hbig, hcn⟩ := hhf
  refine c_seq (fun K1 hK1 => ?_)
  refine c_region ?_
  refine tp rfl (lv_assign rfl) ?_
  refine t_done ?_
  refine q_then_n (hK1 _ _ ?_)
  refine c_seq (fun K2 hK2 => ?_)
  refine c_block ?_
  refine c_seq (fun K3 hK3 => ?_)
  refine c_region ?_
  refine tp rfl (lv_move rfl) ?_
  refine tp rfl (lv_move rfl) ?_
  refine tc rfl (en_fn Try.call29 rfl) (known_ok (n := n) (ks := ks) x) ?_
  rintro _ _ ⟨rfl, rfl⟩
  refine tp rfl (lv_not (c := !(known n x)) rfl rfl) ?_
  refine tp rfl (lv_assign rfl) ?_
  refine t_done ?_
  refine q_then_n (hK3 _ _ ?_)
  refine c_split rfl (fun c1 => ?_) (fun c1 => ?_)
  · -- true
    refine c_seq (fun K4 hK4 => ?_)
    refine c_region ?_
    refine tp rfl (lv_assign rfl) ?_
    refine t_done ?_
    refine q_then_n (hK4 _ _ ?_)
    refine c_ret ?_
    refine q_in_r ?_
    refine q_then_r ?_
    refine q_ret rfl rfl ?_
    have e1 : pushE ks x = 1 := by unfold pushE; rw [hln]; simp_all
    have e2 : pushK ks x k = ks := by unfold pushK; rw [e1]; rfl
    exact ⟨by rw [e1], by rw [e2]⟩
  · -- false
    refine c_seq (fun K4 hK4 => ?_)
    refine c_region ?_
    refine tp rfl (lv_move rfl) ?_
    refine tp rfl (lv_move rfl) ?_
    refine tc rfl (en_fn Try.call30 rfl) (hasK_ok (n := n) (ks := ks) x) ?_
    rintro _ _ ⟨rfl, rfl⟩
    refine tp rfl (lv_assign rfl) ?_
    refine t_done ?_
    refine q_then_n (hK4 _ _ ?_)
    refine c_split rfl (fun c2 => ?_) (fun c2 => ?_)
    · -- true
      refine c_seq (fun K5 hK5 => ?_)
      refine c_region ?_
      refine tp rfl (lv_assign rfl) ?_
      refine t_done ?_
      refine q_then_n (hK5 _ _ ?_)
      refine c_ret ?_
      refine q_in_r ?_
      refine q_then_r ?_
      refine q_ret rfl rfl ?_
      have e1 : pushE ks x = 8 := by unfold pushE; rw [hln]; simp_all
      have e2 : pushK ks x k = ks := by unfold pushK; rw [e1]; rfl
      exact ⟨by rw [e1], by rw [e2]⟩
    · -- false
      refine c_skip ?_
      refine q_in_n ?_
      refine q_then_n (hK2 _ _ ?_)
      refine c_seq (fun K5 hK5 => ?_)
      refine c_region ?_
      have hkx := known_iff.1 (show known n x = true by simp_all)
      have hnh : hasK ks x = false := by assumption
      refine t_openH (fun l Kk hH => ?_)
      refine t_openW (fun at3 bs4 cp5 bs6 cp7 bs8 cp9 hR10 => ?_)
      have hal := hR10.ato.len
      have hkl := hR10.lk
      have hbg := hR10.big
      have hll := hR10.hi.le
      have hcl := hR10.cpl
      have hxl : x ∉ l := fun hm => by rw [(hH.key hm).1] at hnh; cases hnh
      refine tp rfl (lv_move rfl) ?_
      refine tp rfl (lv_nilCheck rfl) ?_
      refine tp rfl (lv_fieldAddr (o' := 0) Try.underlying65 rfl Try.sizeOf63 rfl rfl) ?_
      refine tp rfl (lv_fieldAddr (o' := 2) Try.underlying63 rfl Try.sizeOf30 rfl rfl) ?_
      refine tp rfl (lv_load Try.isAgg30 rfl (gives_blk (.head _) rfl)) ?_
      refine tp rfl (lv_move rfl) ?_
      refine tp rfl (lv_move rfl) ?_
      refine tp rfl (lv_indexAddr (k' := x.toNat) Try.underlying30 Try.sizeOf3 rfl rfl hR10.okk (by omega) (by omega) (by omega)) ?_
      refine t_f3 ?_
      refine ts (sv_sl Try.sizeOf3 rfl rfl rfl (by rw [ints_length]; omega) ints_set) ?_
      refine t_done ?_
      refine q_then_n (hK5 _ _ ?_)
      refine c_seq (fun K6 hK6 => ?_)
      refine c_region ?_
      have hkp := hH.hp.kset hH.hi hH.lk (k := k) hkx hxl
      refine t_f3 ?_
      refine t_f3 ?_
      refine t_f3 ?_
      refine t_shutW rfl ⟨hR10.hi, hR10.ato, by rw [List.length_set]; exact hR10.lk, hR10.big, hR10.okl, hR10.cpl, hR10.oka, hR10.okk⟩ ?_
      refine tp rfl (lv_move rfl) ?_
      refine tp rfl (lv_nilCheck rfl) ?_
      refine tp rfl (lv_fieldAddr (o' := 0) Try.underlying65 rfl Try.sizeOf63 rfl rfl) ?_
      refine tp rfl (lv_makeIface (by intro w x; kernel_rfl) rfl) ?_
      refine tp rfl (lv_move rfl) ?_
      refine tp rfl (lv_makeIface (by intro w x; kernel_rfl) rfl) ?_
      refine tc rfl (en_fn Try.call31 rfl) (cpush_ok (n := n) (l := l) (Kk := Kk.set x.toNat k) x hkx hxl hkp) ?_
      rintro _ _ ⟨l11, hq12, rfl, rfl⟩
      refine t_done ?_
      refine q_then_n (hK6 _ _ ?_)
      refine c_seq (fun K7 hK7 => ?_)
      refine c_region ?_
      refine tp rfl (lv_assign rfl) ?_
      refine t_done ?_
      refine q_then_n (hK7 _ _ ?_)
      refine c_ret ?_
      refine t_shutH (hH.push hkx hxl hq12.2.1 hq12.1 hq12.2.2) ?_
      refine q_ret rfl rfl ?_
      have e1 : pushE ks x = 0 := by unfold pushE; rw [hln]; simp_all
      have e2 : pushK ks x k = ks.set x.toNat (some k) := by unfold pushK; rw [e1]; rfl
      exact ⟨by rw [e1], by rw [e2]⟩

set_option maxHeartbeats 4000000 in
theorem hrem_ok {R : List HP} {p n : Nat} {ks : Ks} (x : Int) :
    Ok Try.prog 25 [(.pointer (some ⟨p, 0, none⟩)), (.int .i64 x)] ((HeapO p n ks) :: R)
      (fun v M => v = .tuple #[.int .i64 (keyK ks x), .int .i64 (remE ks x)] ∧ M = HeapO p n (remK ks x) :: R) := by
  refine ok_of (N := 34) Try.func25 rfl rfl rfl (fun W => ?_)
  refine t_learn (fun _ h => hfacts_of h) (fun hhf => ?_)
  obtain ⟨hln, hbig, hcn⟩ := hhf
  refine c_seq (fun K1 hK1 => ?_)
  refine c_region ?_
  refine tp rfl (lv_assign rfl) ?_
  refine tp rfl (lv_assign rfl) ?_
  refine t_done ?_
  refine q_then_n (hK1 _ _ ?_)
  refine c_seq (fun K2 hK2 => ?_)
  refine c_seq (fun K3 hK3 => ?_)
  refine c_region ?_
  refine tp rfl (lv_move rfl) ?_
  refine tp rfl (lv_move rfl) ?_
  refine tc rfl (en_fn Try.call32 rfl) (check_ok (n := n) (ks := ks) x) ?_
  rintro _ _ ⟨rfl, rfl⟩
  refine tp rfl (lv_assign rfl) ?_
  refine t_done ?_
  refine q_then_n (hK3 _ _ ?_)
  refine c_seq (fun K4 hK4 => ?_)
  refine c_region ?_
  refine tp rfl (lv_move rfl) ?_
  by_cases h1 : (remE ks x) = 0
  · -- yes
    refine tp rfl (lv_neq rfl rfl (bne_eq_false_iff_eq.2 h1)) ?_
    refine t_done ?_
    refine q_then_n (hK4 _ _ ?_)
    refine c_false rfl ?_
    refine c_skip ?_
    refine q_then_n (hK2 _ _ ?_)
    refine c_seq (fun K5 hK5 => ?_)
    have hr0 : remE ks x = 0 := by first | assumption | exact Classical.not_not.1 ‹_›
    obtain ⟨hkx', hhx⟩ := remE_zero hr0
    rw [hln] at hkx'
    have hkx := known_iff.1 hkx'
    refine t_openH (fun l Kk hH => ?_)
    have hxl : x ∈ l := by have := hH.has hkx; rw [hhx] at this; exact of_decide_eq_true this.symm
    have hky := (hH.key hxl).2.1
    refine t_openX (fun at2 bs3 cp4 bs5 cp6 bs7 cp8 hR9 => ?_)
    have hal := hR9.ato.len
    obtain ⟨i0, hi0, hi1, hi2⟩ := hR9.ato.at_is hxl
    refine c_draw (γ := List Int) (n := 13) Try.mixed rfl rfl (fun (l10 : List Int) S => (S 12 = true → ((∀ y, y ∈ l10 ↔ y ∈ l ∧ y ≠ l.getD i0 0) ∧ HI n l10 ∧ HeapP Kk l10 l10.length))) (fun (l10 : List Int) => [(0, 13, (.pointer (some ⟨p, 0, none⟩))), (1, 14, (.pointer (some ⟨p, 0, none⟩))), (2, 15, (.pointer (some ⟨p, 0, none⟩))), (3, 16, (.iface 67 (.pointer (some ⟨p, 0, none⟩)))), (4, 17, (.pointer (some ⟨p, 0, none⟩))), (5, 18, (.pointer (some ⟨p, 0, none⟩))), (6, 19, (.pointer (some ⟨p, 0, none⟩))), (7, 20, (.pointer (some ⟨p, 1, none⟩))), (8, 21, (.slice bs5 n cp6)), (9, 22, (.int .i64 x)), (10, 23, (.pointer (some (ad bs5 x.toNat)))), (11, 24, (.int .i64 ((i0 : Nat) : Int))), (12, 25, (.iface 3 (.int .i64 (l.getD i0 0))))]) (fun (l10 : List Int) S => (bif S 12 then (RowsO p n l10 Kk) else (RowsW p n l Kk at2 bs3 cp4 bs5 cp6 bs7 cp8)) :: R) ([]) (by simp [Nat.ble]) (fun _ h => h) (fun _ _ h => h) ?_ ?_
    · -- steps
      refine ⟨?_, ?_, ?_, ?_, ?_, ?_, ?_, ?_, ?_, ?_, ?_, ?_, ?_, trivial⟩
      · -- 0
        rintro l10 S hF hS D hp K hK
        try dsimp only at hF ⊢
        have hf0 := hF
        refine d_need (small := [(0, (.pointer (some ⟨p, 0, none⟩)))]) ⟨look_b rfl rfl, trivial⟩ ?_
        refine tp rfl (lv_move rfl) ?_
        exact d_closes ⟨look_b rfl rfl, trivial⟩ 0 rfl rfl rfl hS (AgreeR.refl _) (t_sat (fun _ h => h) (hK l10 hf0))
      · -- 1
        rintro l10 S hF hS D hp K hK
        try dsimp only at hF ⊢
        have hf0 := hF
        have s0 := hp 0 rfl
        refine d_need (small := [(13, (.pointer (some ⟨p, 0, none⟩)))]) ⟨look_row rfl 0 rfl s0, trivial⟩ ?_
        refine tp rfl (lv_nilCheck rfl) ?_
        exact d_closes ⟨look_row rfl 0 rfl s0, trivial⟩ 1 rfl rfl rfl hS (AgreeR.refl _) (t_sat (fun _ h => h) (hK l10 hf0))
      · -- 2
        rintro l10 S hF hS D hp K hK
        try dsimp only at hF ⊢
        have hf0 := hF
        have s1 := hp 1 rfl
        refine d_need (small := [(14, (.pointer (some ⟨p, 0, none⟩)))]) ⟨look_row rfl 1 rfl s1, trivial⟩ ?_
        refine tp rfl (lv_fieldAddr (o' := 0) Try.underlying65 rfl Try.sizeOf63 rfl rfl) ?_
        exact d_closes ⟨look_row rfl 1 rfl s1, trivial⟩ 2 rfl rfl rfl hS (AgreeR.refl _) (t_sat (fun _ h => h) (hK l10 hf0))
      · -- 3
        rintro l10 S hF hS D hp K hK
        try dsimp only at hF ⊢
        have hf0 := hF
        have s2 := hp 2 rfl
        refine d_need (small := [(15, (.pointer (some ⟨p, 0, none⟩)))]) ⟨look_row rfl 2 rfl s2, trivial⟩ ?_
        refine tp rfl (lv_makeIface (by intro w x; kernel_rfl) rfl) ?_
        exact d_closes ⟨look_row rfl 2 rfl s2, trivial⟩ 3 rfl rfl rfl hS (AgreeR.refl _) (t_sat (fun _ h => h) (hK l10 hf0))
      · -- 4
        rintro l10 S hF hS D hp K hK
        try dsimp only at hF ⊢
        have hf0 := hF
        refine d_need (small := [(0, (.pointer (some ⟨p, 0, none⟩)))]) ⟨look_b rfl rfl, trivial⟩ ?_
        refine tp rfl (lv_move rfl) ?_
        exact d_closes ⟨look_b rfl rfl, trivial⟩ 4 rfl rfl rfl hS (AgreeR.refl _) (t_sat (fun _ h => h) (hK l10 hf0))
      · -- 5
        rintro l10 S hF hS D hp K hK
        try dsimp only at hF ⊢
        have hf0 := hF
        have s4 := hp 4 rfl
        refine d_need (small := [(17, (.pointer (some ⟨p, 0, none⟩)))]) ⟨look_row rfl 4 rfl s4, trivial⟩ ?_
        refine tp rfl (lv_nilCheck rfl) ?_
        exact d_closes ⟨look_row rfl 4 rfl s4, trivial⟩ 5 rfl rfl rfl hS (AgreeR.refl _) (t_sat (fun _ h => h) (hK l10 hf0))
      · -- 6
        rintro l10 S hF hS D hp K hK
        try dsimp only at hF ⊢
        have hf0 := hF
        have s5 := hp 5 rfl
        refine d_need (small := [(18, (.pointer (some ⟨p, 0, none⟩)))]) ⟨look_row rfl 5 rfl s5, trivial⟩ ?_
        refine tp rfl (lv_fieldAddr (o' := 0) Try.underlying65 rfl Try.sizeOf63 rfl rfl) ?_
        exact d_closes ⟨look_row rfl 5 rfl s5, trivial⟩ 6 rfl rfl rfl hS (AgreeR.refl _) (t_sat (fun _ h => h) (hK l10 hf0))
      · -- 7
        rintro l10 S hF hS D hp K hK
        try dsimp only at hF ⊢
        have hf0 := hF
        have s6 := hp 6 rfl
        refine d_need (small := [(19, (.pointer (some ⟨p, 0, none⟩)))]) ⟨look_row rfl 6 rfl s6, trivial⟩ ?_
        refine tp rfl (lv_fieldAddr (o' := 1) Try.underlying63 rfl Try.sizeOf30 rfl rfl) ?_
        exact d_closes ⟨look_row rfl 6 rfl s6, trivial⟩ 7 rfl rfl rfl hS (AgreeR.refl _) (t_sat (fun _ h => h) (hK l10 hf0))
      · -- 8
        rintro l10 S hF hS D hp K hK
        try dsimp only at hF ⊢
        have hf0 := hF
        have s7 := hp 7 rfl
        refine d_need (small := [(20, (.pointer (some ⟨p, 1, none⟩)))]) ⟨look_row rfl 7 rfl s7, trivial⟩ ?_
        refine tp rfl (lv_load Try.isAgg30 rfl (gives_wp (mem_cF (nf (nf (nf hS D (k := 10) (i := 8) rfl) D (k := 11) (i := 10) rfl) D (k := 12) (i := 11) rfl) (.head _)) rfl)) ?_
        exact d_closes ⟨look_row rfl 7 rfl s7, trivial⟩ 8 rfl rfl rfl hS (AgreeR.refl _) (t_sat (fun _ h => h) (hK l10 hf0))
      · -- 9
        rintro l10 S hF hS D hp K hK
        try dsimp only at hF ⊢
        have hf0 := hF
        refine d_need (small := [(1, (.int .i64 x))]) ⟨look_b rfl rfl, trivial⟩ ?_
        refine tp rfl (lv_move rfl) ?_
        exact d_closes ⟨look_b rfl rfl, trivial⟩ 9 rfl rfl rfl hS (AgreeR.refl _) (t_sat (fun _ h => h) (hK l10 hf0))
      · -- 10
        rintro l10 S hF hS D hp K hK
        try dsimp only at hF ⊢
        have hf0 := hF
        have s8 := hp 8 rfl
        have s9 := hp 9 rfl
        refine d_need (small := [(21, (.slice bs5 n cp6)), (22, (.int .i64 x))]) ⟨look_row rfl 8 rfl s8, look_row rfl 9 rfl s9, trivial⟩ ?_
        refine tp rfl (lv_indexAddr (k' := x.toNat) Try.underlying30 Try.sizeOf3 rfl rfl hR9.oka (by omega) (by omega) (by omega)) ?_
        exact d_closes ⟨look_row rfl 8 rfl s8, look_row rfl 9 rfl s9, trivial⟩ 10 rfl rfl rfl hS (AgreeR.refl _) (t_sat (fun _ h => h) (hK l10 hf0))
      · -- 11
        rintro l10 S hF hS D hp K hK
        try dsimp only at hF ⊢
        have hf0 := hF
        have s10 := hp 10 rfl
        refine d_need (small := [(23, (.pointer (some (ad bs5 x.toNat))))]) ⟨look_row rfl 10 rfl s10, trivial⟩ ?_
        refine tp rfl (lv_load Try.isAgg3 rfl (gives_as (v := .int .i64 ((i0 : Nat) : Int)) (by rw [hi2]) (gives_wa (mem_cF (nf hS D (k := 12) (i := 11) rfl) (.head _)) (ints_get (by omega))))) ?_
        exact d_closes ⟨look_row rfl 10 rfl s10, trivial⟩ 11 rfl rfl rfl hS (AgreeR.refl _) (t_sat (fun _ h => h) (hK l10 hf0))
      · -- 12
        rintro l10 S hF hS D hp K hK
        try dsimp only at hF ⊢
        have hf0 := hF
        have s3 := hp 3 rfl
        have s11 := hp 11 rfl
        refine d_need (small := [(16, (.iface 67 (.pointer (some ⟨p, 0, none⟩)))), (24, (.int .i64 ((i0 : Nat) : Int)))]) ⟨look_row rfl 3 rfl s3, look_row rfl 11 rfl s11, trivial⟩ ?_
        refine t_cF hS ?_
        refine t_sat (fun _ h => sat_wo h) ?_
        refine tc rfl (en_fn Try.call33 rfl) (crem_ok (n := n) (l := l) (Kk := Kk) i0 hi0 hH.hp) ?_
        rintro _ _ ⟨l10, hq11, rfl, rfl⟩
        exact d_closes ⟨look_row rfl 3 rfl s3, look_row rfl 11 rfl s11, trivial⟩ 12 rfl rfl rfl hS (by exact ⟨.inl rfl, .inl rfl, .inl rfl, .inl rfl, .inl rfl, .inl rfl, .inl rfl, .inl rfl, .inl rfl, .inl rfl, .inl rfl, .inl rfl, .inl rfl, trivial⟩) (t_sat (fun _ h => h) (hK l10 (fun _ => hq11)))
    · -- behind
      rintro l10 hF
      try dsimp only at hF ⊢
      have hf0 := hF
      have hq11 := hf0 rfl
      refine t_weak (E' := [(0, (.pointer (some ⟨p, 0, none⟩))), (1, (.int .i64 x)), (4, (.int .i64 0)), (5, (.int .i64 0)), (6, (.int .i64 (remE ks x))), (11, (.bool false))]) ⟨rfl, rfl, rfl, rfl, rfl, rfl, trivial⟩ ?_
      refine q_then_n (hK5 _ _ ?_)
      refine c_seq (fun K6 hK6 => ?_)
      refine c_region ?_
      refine t_openW (fun at12 bs13 cp14 bs15 cp16 bs17 cp18 hR19 => ?_)
      have hal := hR19.ato.len
      have hkl := hR19.lk
      have hbg := hR19.big
      have hll := hR19.hi.le
      have hcl := hR19.cpl
      refine tp rfl (lv_move rfl) ?_
      refine tp rfl (lv_nilCheck rfl) ?_
      refine tp rfl (lv_fieldAddr (o' := 0) Try.underlying65 rfl Try.sizeOf63 rfl rfl) ?_
      refine tp rfl (lv_fieldAddr (o' := 2) Try.underlying63 rfl Try.sizeOf30 rfl rfl) ?_
      refine tp rfl (lv_load Try.isAgg30 rfl (gives_blk (.head _) rfl)) ?_
      refine tp rfl (lv_move rfl) ?_
      refine tp rfl (lv_indexAddr (k' := x.toNat) Try.underlying30 Try.sizeOf3 rfl rfl hR19.okk (by omega) (by omega) (by omega)) ?_
      refine tp rfl (lv_load Try.isAgg3 rfl (gives_sl (.tail _ (.tail _ (.tail _ (.head _)))) (ints_get (by omega)))) ?_
      refine tp rfl (lv_assign rfl) ?_
      refine tp rfl (lv_assign rfl) ?_
      refine t_done ?_
      refine q_then_n (hK6 _ _ ?_)
      refine c_ret ?_
      refine t_f3 ?_
      refine t_f3 ?_
      refine t_f3 ?_
      refine t_f3 ?_
      refine t_shutW rfl hR19 ?_
      refine t_shutH (hH.rem hkx hq11.2.1 (by rw [← hi1]; exact hq11.1) hq11.2.2) ?_
      refine q_ret2 rfl rfl rfl ?_
      have e2 : remK ks x = ks.set x.toNat none := by unfold remK; rw [hhx]; rfl
      exact ⟨by rw [hky, hr0], by rw [e2]⟩
  · -- no
    refine tp rfl (lv_neq rfl rfl (bne_iff_ne.2 h1)) ?_
    refine t_done ?_
    refine q_then_n (hK4 _ _ ?_)
    refine c_true rfl ?_
    refine c_seq (fun K5 hK5 => ?_)
    refine c_region ?_
    refine tp rfl (lv_move rfl) ?_
    refine tp rfl (lv_assign rfl) ?_
    refine tp rfl (lv_assign rfl) ?_
    refine t_done ?_
    refine q_then_n (hK5 _ _ ?_)
    refine c_ret ?_
    refine q_then_r ?_
    refine q_ret2 rfl rfl rfl ?_
    obtain ⟨e1, e2⟩ := remE_ne (hln) ‹_›
    exact ⟨by rw [e1], by rw [e2]⟩

set_option maxHeartbeats 4000000 in
theorem hfst_ok {R : List HP} {p n : Nat} {ks : Ks} :
    Ok Try.prog 27 [(.pointer (some ⟨p, 0, none⟩))] ((HeapO p n ks) :: R)
      (fun v M => v = .tuple #[.int .i64 (fstI ks), .int .i64 (fstV ks), .bool (fstB ks)] ∧ M = HeapO p n ks :: R) := by
  refine ok_of (N := 28) Try.func27 rfl rfl rfl (fun W => ?_)
  refine t_learn (fun _ h => hfacts_of h) (fun hhf => ?_)
  obtain ⟨hln, hbig, hcn⟩ := hhf
  refine t_openH (fun l Kk hH => ?_)
  refine t_openW (fun at1 bs2 cp3 bs4 cp5 bs6 cp7 hR8 => ?_)
  have hal := hR8.ato.len
  have hkl := hR8.lk
  have hbg := hR8.big
  have hll := hR8.hi.le
  have hcl := hR8.cpl
  refine c_seq (fun K1 hK1 => ?_)
  refine c_region ?_
  refine tp rfl (lv_assign rfl) ?_
  refine tp rfl (lv_assign rfl) ?_
  refine tp rfl (lv_assign rfl) ?_
  refine t_done ?_
  refine q_then_n (hK1 _ _ ?_)
  refine c_seq (fun K2 hK2 => ?_)
  refine c_seq (fun K3 hK3 => ?_)
  refine c_region ?_
  refine tp rfl (lv_move rfl) ?_
  refine tp rfl (lv_nilCheck rfl) ?_
  refine tp rfl (lv_fieldAddr (o' := 0) Try.underlying65 rfl Try.sizeOf63 rfl rfl) ?_
  refine tp rfl (lv_fieldAddr (o' := 0) Try.underlying63 rfl Try.sizeOf30 rfl rfl) ?_
  refine tp rfl (lv_load Try.isAgg30 rfl (gives_blk (.head _) rfl)) ?_
  refine tp rfl (lv_len Try.underlying30 rfl rfl) ?_
  by_cases h9 : ((l.length : Nat) : Int) = 0
  · -- yes
    refine tp rfl (lv_eql rfl rfl (beq_iff_eq.2 h9)) ?_
    refine t_done ?_
    refine q_then_n (hK3 _ _ ?_)
    refine c_true rfl ?_
    refine c_seq (fun K4 hK4 => ?_)
    refine c_region ?_
    refine tp rfl (lv_assign rfl) ?_
    refine tp rfl (lv_assign rfl) ?_
    refine tp rfl (lv_assign rfl) ?_
    refine t_done ?_
    refine q_then_n (hK4 _ _ ?_)
    refine c_ret ?_
    refine q_then_r ?_
    refine t_f3 ?_
    refine t_f3 ?_
    refine t_f3 ?_
    refine t_f3 ?_
    refine t_shutW rfl hR8 ?_
    refine t_shutH hH ?_
    refine q_ret3 rfl rfl rfl rfl ?_
    obtain ⟨e1, e2, e3, e4⟩ := hH.fstNone (by omega)
    exact ⟨by rw [e1, e2, e3], by first | rfl | rw [e4]⟩
  · -- no
    refine tp rfl (lv_eql rfl rfl (beq_eq_false_iff_ne.2 h9)) ?_
    refine t_done ?_
    refine q_then_n (hK3 _ _ ?_)
    refine c_false rfl ?_
    refine c_skip ?_
    refine q_then_n (hK2 _ _ ?_)
    refine c_seq (fun K4 hK4 => ?_)
    refine c_region ?_
    have hb0 := hH.hi.bd 0 (by omega)
    refine tp rfl (lv_move rfl) ?_
    refine tp rfl (lv_nilCheck rfl) ?_
    refine tp rfl (lv_fieldAddr (o' := 0) Try.underlying65 rfl Try.sizeOf63 rfl rfl) ?_
    refine tp rfl (lv_fieldAddr (o' := 0) Try.underlying63 rfl Try.sizeOf30 rfl rfl) ?_
    refine tp rfl (lv_load Try.isAgg30 rfl (gives_blk (.head _) rfl)) ?_
    refine tp rfl (lv_indexAddr (k' := 0) Try.underlying30 Try.sizeOf3 rfl rfl hR8.okl (by omega) (by omega) (by omega)) ?_
    refine tp rfl (lv_load Try.isAgg3 rfl (gives_sl (.tail _ (.head _)) (ints_get (by omega)))) ?_
    refine tp rfl (lv_assign rfl) ?_
    refine t_done ?_
    refine q_then_n (hK4 _ _ ?_)
    refine c_seq (fun K5 hK5 => ?_)
    refine c_draw (γ := Unit) (n := 12) Try.mixed rfl rfl (fun _ S => True) (fun _ => [(0, 19, (.int .i64 ((l).getD 0 0))), (1, 20, (.pointer (some ⟨p, 0, none⟩))), (2, 21, (.pointer (some ⟨p, 0, none⟩))), (3, 22, (.pointer (some ⟨p, 0, none⟩))), (4, 23, (.pointer (some ⟨p, 2, none⟩))), (5, 24, (.slice bs6 n cp7)), (6, 25, (.int .i64 ((l).getD 0 0))), (7, 26, (.pointer (some (ad bs6 (((l).getD 0 0).toNat))))), (8, 27, (.int .i64 ((Kk).getD (((l).getD 0 0).toNat) 0))), (9, 2, (.int .i64 ((l).getD 0 0))), (10, 3, (.int .i64 ((Kk).getD (((l).getD 0 0).toNat) 0))), (11, 4, (.bool true))]) (fun _ S => (Blk p [(.slice bs2 l.length cp3), (.slice bs4 n cp5), (.slice bs6 n cp7)] 65) :: (SlV 3 1 (.slice bs2 l.length cp3) l.length (ints .i64 l)) :: (SlV 3 1 (.slice bs4 n cp5) n (ints .i64 at1)) :: (SlV 3 1 (.slice bs6 n cp7) n (ints .i64 Kk)) :: R) (()) trivial (fun _ h => h) (fun _ _ h => h) ?_ ?_
    · -- steps
      refine ⟨?_, ?_, ?_, ?_, ?_, ?_, ?_, ?_, ?_, ?_, ?_, ?_, trivial⟩
      · -- 0
        rintro _ S hF hS D hp K hK
        try dsimp only at hF ⊢
        refine d_need (small := [(2, (.int .i64 ((l).getD 0 0)))]) ⟨look_b1 9 (nf hS D (k := 9) (i := 0) rfl) rfl rfl, trivial⟩ ?_
        refine tp rfl (lv_move rfl) ?_
        exact d_closes ⟨look_b1 9 (nf hS D (k := 9) (i := 0) rfl) rfl rfl, trivial⟩ 0 rfl rfl rfl hS (AgreeR.refl _) (t_sat (fun _ h => h) (hK () trivial))
      · -- 1
        rintro _ S hF hS D hp K hK
        try dsimp only at hF ⊢
        refine d_need (small := [(0, (.pointer (some ⟨p, 0, none⟩)))]) ⟨look_b rfl rfl, trivial⟩ ?_
        refine tp rfl (lv_move rfl) ?_
        exact d_closes ⟨look_b rfl rfl, trivial⟩ 1 rfl rfl rfl hS (AgreeR.refl _) (t_sat (fun _ h => h) (hK () trivial))
      · -- 2
        rintro _ S hF hS D hp K hK
        try dsimp only at hF ⊢
        have s1 := hp 1 rfl
        refine d_need (small := [(20, (.pointer (some ⟨p, 0, none⟩)))]) ⟨look_row rfl 1 rfl s1, trivial⟩ ?_
        refine tp rfl (lv_nilCheck rfl) ?_
        exact d_closes ⟨look_row rfl 1 rfl s1, trivial⟩ 2 rfl rfl rfl hS (AgreeR.refl _) (t_sat (fun _ h => h) (hK () trivial))
      · -- 3
        rintro _ S hF hS D hp K hK
        try dsimp only at hF ⊢
        have s2 := hp 2 rfl
        refine d_need (small := [(21, (.pointer (some ⟨p, 0, none⟩)))]) ⟨look_row rfl 2 rfl s2, trivial⟩ ?_
        refine tp rfl (lv_fieldAddr (o' := 0) Try.underlying65 rfl Try.sizeOf63 rfl rfl) ?_
        exact d_closes ⟨look_row rfl 2 rfl s2, trivial⟩ 3 rfl rfl rfl hS (AgreeR.refl _) (t_sat (fun _ h => h) (hK () trivial))
      · -- 4
        rintro _ S hF hS D hp K hK
        try dsimp only at hF ⊢
        have s3 := hp 3 rfl
        refine d_need (small := [(22, (.pointer (some ⟨p, 0, none⟩)))]) ⟨look_row rfl 3 rfl s3, trivial⟩ ?_
        refine tp rfl (lv_fieldAddr (o' := 2) Try.underlying63 rfl Try.sizeOf30 rfl rfl) ?_
        exact d_closes ⟨look_row rfl 3 rfl s3, trivial⟩ 4 rfl rfl rfl hS (AgreeR.refl _) (t_sat (fun _ h => h) (hK () trivial))
      · -- 5
        rintro _ S hF hS D hp K hK
        try dsimp only at hF ⊢
        have s4 := hp 4 rfl
        refine d_need (small := [(23, (.pointer (some ⟨p, 2, none⟩)))]) ⟨look_row rfl 4 rfl s4, trivial⟩ ?_
        refine tp rfl (lv_load Try.isAgg30 rfl (gives_blk (.head _) rfl)) ?_
        exact d_closes ⟨look_row rfl 4 rfl s4, trivial⟩ 5 rfl rfl rfl hS (AgreeR.refl _) (t_sat (fun _ h => h) (hK () trivial))
      · -- 6
        rintro _ S hF hS D hp K hK
        try dsimp only at hF ⊢
        refine d_need (small := [(2, (.int .i64 ((l).getD 0 0)))]) ⟨look_b1 9 (nf hS D (k := 9) (i := 6) rfl) rfl rfl, trivial⟩ ?_
        refine tp rfl (lv_move rfl) ?_
        exact d_closes ⟨look_b1 9 (nf hS D (k := 9) (i := 6) rfl) rfl rfl, trivial⟩ 6 rfl rfl rfl hS (AgreeR.refl _) (t_sat (fun _ h => h) (hK () trivial))
      · -- 7
        rintro _ S hF hS D hp K hK
        try dsimp only at hF ⊢
        have s5 := hp 5 rfl
        have s6 := hp 6 rfl
        refine d_need (small := [(24, (.slice bs6 n cp7)), (25, (.int .i64 ((l).getD 0 0)))]) ⟨look_row rfl 5 rfl s5, look_row rfl 6 rfl s6, trivial⟩ ?_
        refine tp rfl (lv_indexAddr (k' := ((l).getD 0 0).toNat) Try.underlying30 Try.sizeOf3 rfl rfl hR8.okk (by omega) (by omega) (by omega)) ?_
        exact d_closes ⟨look_row rfl 5 rfl s5, look_row rfl 6 rfl s6, trivial⟩ 7 rfl rfl rfl hS (AgreeR.refl _) (t_sat (fun _ h => h) (hK () trivial))
      · -- 8
        rintro _ S hF hS D hp K hK
        try dsimp only at hF ⊢
        have s7 := hp 7 rfl
        refine d_need (small := [(26, (.pointer (some (ad bs6 (((l).getD 0 0).toNat)))))]) ⟨look_row rfl 7 rfl s7, trivial⟩ ?_
        refine tp rfl (lv_load Try.isAgg3 rfl (gives_sl (.tail _ (.tail _ (.tail _ (.head _)))) (ints_get (by omega)))) ?_
        exact d_closes ⟨look_row rfl 7 rfl s7, trivial⟩ 8 rfl rfl rfl hS (AgreeR.refl _) (t_sat (fun _ h => h) (hK () trivial))
      · -- 9
        rintro _ S hF hS D hp K hK
        try dsimp only at hF ⊢
        have s0 := hp 0 rfl
        refine d_need (small := [(19, (.int .i64 ((l).getD 0 0)))]) ⟨look_row rfl 0 rfl s0, trivial⟩ ?_
        refine tp rfl (lv_assign rfl) ?_
        exact d_closes ⟨look_row rfl 0 rfl s0, trivial⟩ 9 rfl rfl rfl hS (AgreeR.refl _) (t_sat (fun _ h => h) (hK () trivial))
      · -- 10
        rintro _ S hF hS D hp K hK
        try dsimp only at hF ⊢
        have s8 := hp 8 rfl
        refine d_need (small := [(27, (.int .i64 ((Kk).getD (((l).getD 0 0).toNat) 0)))]) ⟨look_row rfl 8 rfl s8, trivial⟩ ?_
        refine tp rfl (lv_assign rfl) ?_
        exact d_closes ⟨look_row rfl 8 rfl s8, trivial⟩ 10 rfl rfl rfl hS (AgreeR.refl _) (t_sat (fun _ h => h) (hK () trivial))
      · -- 11
        rintro _ S hF hS D hp K hK
        try dsimp only at hF ⊢
        refine d_need (small := []) trivial ?_
        refine tp rfl (lv_assign rfl) ?_
        exact d_closes trivial 11 rfl rfl rfl hS (AgreeR.refl _) (t_sat (fun _ h => h) (hK () trivial))
    · -- behind
      rintro _ hF
      try dsimp only at hF ⊢
      refine t_weak (E' := [(0, (.pointer (some ⟨p, 0, none⟩))), (2, (.int .i64 ((l).getD 0 0))), (3, (.int .i64 ((Kk).getD (((l).getD 0 0).toNat) 0))), (4, (.bool true)), (11, (.bool false))]) ⟨rfl, rfl, rfl, rfl, rfl, trivial⟩ ?_
      refine q_then_n (hK5 _ _ ?_)
      refine c_ret ?_
      refine t_f3 ?_
      refine t_f3 ?_
      refine t_f3 ?_
      refine t_f3 ?_
      refine t_shutW rfl hR8 ?_
      refine t_shutH hH ?_
      refine q_ret3 rfl rfl rfl rfl ?_
      obtain ⟨e1, e2, e3, e4⟩ := hH.fst (by omega)
      exact ⟨by rw [e1, e2, e3], by first | rfl | rw [e4]⟩

set_option maxHeartbeats 4000000 in
theorem hpop_ok {R : List HP} {p n : Nat} {ks : Ks} :
    Ok Try.prog 26 [(.pointer (some ⟨p, 0, none⟩))] ((HeapO p n ks) :: R)
      (fun v M => v = .tuple #[.int .i64 (fstI ks), .int .i64 (fstV ks), .bool (fstB ks)] ∧ M = HeapO p n (popK ks) :: R) := by
  refine ok_of (N := 27) Try.func26 rfl rfl rfl (fun W => ?_)
  refine t_learn (fun _ h => hfacts_of h) (fun hhf => ?_)
  obtain ⟨hln, hbig, hcn⟩ := hhf
  refine t_openH (fun l Kk hH => ?_)
  refine t_openW (fun at1 bs2 cp3 bs4 cp5 bs6 cp7 hR8 => ?_)
  have hal := hR8.ato.len
  have hkl := hR8.lk
  have hbg := hR8.big
  have hll := hR8.hi.le
  have hcl := hR8.cpl
  refine c_seq (fun K1 hK1 => ?_)
  refine c_region ?_
  refine tp rfl (lv_assign rfl) ?_
  refine tp rfl (lv_assign rfl) ?_
  refine tp rfl (lv_assign rfl) ?_
  refine t_done ?_
  refine q_then_n (hK1 _ _ ?_)
  refine c_seq (fun K2 hK2 => ?_)
  refine c_seq (fun K3 hK3 => ?_)
  refine c_region ?_
  refine tp rfl (lv_move rfl) ?_
  refine tp rfl (lv_nilCheck rfl) ?_
  refine tp rfl (lv_fieldAddr (o' := 0) Try.underlying65 rfl Try.sizeOf63 rfl rfl) ?_
  refine tp rfl (lv_fieldAddr (o' := 0) Try.underlying63 rfl Try.sizeOf30 rfl rfl) ?_
  refine tp rfl (lv_load Try.isAgg30 rfl (gives_blk (.head _) rfl)) ?_
  refine tp rfl (lv_len Try.underlying30 rfl rfl) ?_
  by_cases h9 : ((l.length : Nat) : Int) = 0
  · -- yes
    refine tp rfl (lv_eql rfl rfl (beq_iff_eq.2 h9)) ?_
    refine t_done ?_
    refine q_then_n (hK3 _ _ ?_)
    refine c_true rfl ?_
    refine c_seq (fun K4 hK4 => ?_)
    refine c_region ?_
    refine tp rfl (lv_assign rfl) ?_
    refine tp rfl (lv_assign rfl) ?_
    refine tp rfl (lv_assign rfl) ?_
    refine t_done ?_
    refine q_then_n (hK4 _ _ ?_)
    refine c_ret ?_
    refine q_then_r ?_
    refine t_f3 ?_
    refine t_f3 ?_
    refine t_f3 ?_
    refine t_f3 ?_
    refine t_shutW rfl hR8 ?_
    refine t_shutH hH ?_
    refine q_ret3 rfl rfl rfl rfl ?_
    obtain ⟨e1, e2, e3, e4⟩ := hH.fstNone (by omega)
    exact ⟨by rw [e1, e2, e3], by first | rfl | rw [e4]⟩
  · -- no
    refine tp rfl (lv_eql rfl rfl (beq_eq_false_iff_ne.2 h9)) ?_
    refine t_done ?_
    refine q_then_n (hK3 _ _ ?_)
    refine c_false rfl ?_
    refine c_skip ?_
    refine q_then_n (hK2 _ _ ?_)
    refine c_seq (fun K4 hK4 => ?_)
    refine c_region ?_
    have hb0 := hH.hi.bd 0 (by omega)
    refine t_f3 ?_
    refine t_f3 ?_
    refine t_f3 ?_
    refine t_f3 ?_
    refine t_shutW rfl hR8 ?_
    refine tp rfl (lv_move rfl) ?_
    refine tp rfl (lv_nilCheck rfl) ?_
    refine tp rfl (lv_fieldAddr (o' := 0) Try.underlying65 rfl Try.sizeOf63 rfl rfl) ?_
    refine tp rfl (lv_makeIface (by intro w x; kernel_rfl) rfl) ?_
    refine tc rfl (en_fn Try.call34 rfl) (cpop_ok (n := n) (l := l) (Kk := Kk) (by omega) hH.hp) ?_
    rintro _ _ ⟨l10, hq11, rfl, rfl⟩
    refine tp rfl (lv_typeAssert (by intro w v; kernel_rfl) rfl) ?_
    refine tp rfl (lv_assign rfl) ?_
    refine t_done ?_
    refine q_then_n (hK4 _ _ ?_)
    refine c_seq (fun K5 hK5 => ?_)
    refine t_openW (fun at12 bs13 cp14 bs15 cp16 bs17 cp18 hR19 => ?_)
    have hal := hR19.ato.len
    have hkl := hR19.lk
    have hbg := hR19.big
    have hll := hR19.hi.le
    have hcl := hR19.cpl
    refine c_draw (γ := Unit) (n := 12) Try.mixed rfl rfl (fun _ S => True) (fun _ => [(0, 18, (.int .i64 (l.getD 0 0))), (1, 19, (.pointer (some ⟨p, 0, none⟩))), (2, 20, (.pointer (some ⟨p, 0, none⟩))), (3, 21, (.pointer (some ⟨p, 0, none⟩))), (4, 22, (.pointer (some ⟨p, 2, none⟩))), (5, 23, (.slice bs17 n cp18)), (6, 24, (.int .i64 (l.getD 0 0))), (7, 25, (.pointer (some (ad bs17 ((l.getD 0 0).toNat))))), (8, 26, (.int .i64 ((Kk).getD ((l.getD 0 0).toNat) 0))), (9, 2, (.int .i64 (l.getD 0 0))), (10, 3, (.int .i64 ((Kk).getD ((l.getD 0 0).toNat) 0))), (11, 4, (.bool true))]) (fun _ S => (Blk p [(.slice bs13 l10.length cp14), (.slice bs15 n cp16), (.slice bs17 n cp18)] 65) :: (SlV 3 1 (.slice bs13 l10.length cp14) l10.length (ints .i64 l10)) :: (SlV 3 1 (.slice bs15 n cp16) n (ints .i64 at12)) :: (SlV 3 1 (.slice bs17 n cp18) n (ints .i64 Kk)) :: R) (()) trivial (fun _ h => h) (fun _ _ h => h) ?_ ?_
    · -- steps
      refine ⟨?_, ?_, ?_, ?_, ?_, ?_, ?_, ?_, ?_, ?_, ?_, ?_, trivial⟩
      · -- 0
        rintro _ S hF hS D hp K hK
        try dsimp only at hF ⊢
        refine d_need (small := [(2, (.int .i64 (l.getD 0 0)))]) ⟨look_b1 9 (nf hS D (k := 9) (i := 0) rfl) rfl rfl, trivial⟩ ?_
        refine tp rfl (lv_move rfl) ?_
        exact d_closes ⟨look_b1 9 (nf hS D (k := 9) (i := 0) rfl) rfl rfl, trivial⟩ 0 rfl rfl rfl hS (AgreeR.refl _) (t_sat (fun _ h => h) (hK () trivial))
      · -- 1
        rintro _ S hF hS D hp K hK
        try dsimp only at hF ⊢
        refine d_need (small := [(0, (.pointer (some ⟨p, 0, none⟩)))]) ⟨look_b rfl rfl, trivial⟩ ?_
        refine tp rfl (lv_move rfl) ?_
        exact d_closes ⟨look_b rfl rfl, trivial⟩ 1 rfl rfl rfl hS (AgreeR.refl _) (t_sat (fun _ h => h) (hK () trivial))
      · -- 2
        rintro _ S hF hS D hp K hK
        try dsimp only at hF ⊢
        have s1 := hp 1 rfl
        refine d_need (small := [(19, (.pointer (some ⟨p, 0, none⟩)))]) ⟨look_row rfl 1 rfl s1, trivial⟩ ?_
        refine tp rfl (lv_nilCheck rfl) ?_
        exact d_closes ⟨look_row rfl 1 rfl s1, trivial⟩ 2 rfl rfl rfl hS (AgreeR.refl _) (t_sat (fun _ h => h) (hK () trivial))
      · -- 3
        rintro _ S hF hS D hp K hK
        try dsimp only at hF ⊢
        have s2 := hp 2 rfl
        refine d_need (small := [(20, (.pointer (some ⟨p, 0, none⟩)))]) ⟨look_row rfl 2 rfl s2, trivial⟩ ?_
        refine tp rfl (lv_fieldAddr (o' := 0) Try.underlying65 rfl Try.sizeOf63 rfl rfl) ?_
        exact d_closes ⟨look_row rfl 2 rfl s2, trivial⟩ 3 rfl rfl rfl hS (AgreeR.refl _) (t_sat (fun _ h => h) (hK () trivial))
      · -- 4
        rintro _ S hF hS D hp K hK
        try dsimp only at hF ⊢
        have s3 := hp 3 rfl
        refine d_need (small := [(21, (.pointer (some ⟨p, 0, none⟩)))]) ⟨look_row rfl 3 rfl s3, trivial⟩ ?_
        refine tp rfl (lv_fieldAddr (o' := 2) Try.underlying63 rfl Try.sizeOf30 rfl rfl) ?_
        exact d_closes ⟨look_row rfl 3 rfl s3, trivial⟩ 4 rfl rfl rfl hS (AgreeR.refl _) (t_sat (fun _ h => h) (hK () trivial))
      · -- 5
        rintro _ S hF hS D hp K hK
        try dsimp only at hF ⊢
        have s4 := hp 4 rfl
        refine d_need (small := [(22, (.pointer (some ⟨p, 2, none⟩)))]) ⟨look_row rfl 4 rfl s4, trivial⟩ ?_
        refine tp rfl (lv_load Try.isAgg30 rfl (gives_blk (.head _) rfl)) ?_
        exact d_closes ⟨look_row rfl 4 rfl s4, trivial⟩ 5 rfl rfl rfl hS (AgreeR.refl _) (t_sat (fun _ h => h) (hK () trivial))
      · -- 6
        rintro _ S hF hS D hp K hK
        try dsimp only at hF ⊢
        refine d_need (small := [(2, (.int .i64 (l.getD 0 0)))]) ⟨look_b1 9 (nf hS D (k := 9) (i := 6) rfl) rfl rfl, trivial⟩ ?_
        refine tp rfl (lv_move rfl) ?_
        exact d_closes ⟨look_b1 9 (nf hS D (k := 9) (i := 6) rfl) rfl rfl, trivial⟩ 6 rfl rfl rfl hS (AgreeR.refl _) (t_sat (fun _ h => h) (hK () trivial))
      · -- 7
        rintro _ S hF hS D hp K hK
        try dsimp only at hF ⊢
        have s5 := hp 5 rfl
        have s6 := hp 6 rfl
        refine d_need (small := [(23, (.slice bs17 n cp18)), (24, (.int .i64 (l.getD 0 0)))]) ⟨look_row rfl 5 rfl s5, look_row rfl 6 rfl s6, trivial⟩ ?_
        refine tp rfl (lv_indexAddr (k' := (l.getD 0 0).toNat) Try.underlying30 Try.sizeOf3 rfl rfl hR19.okk (by omega) (by omega) (by omega)) ?_
        exact d_closes ⟨look_row rfl 5 rfl s5, look_row rfl 6 rfl s6, trivial⟩ 7 rfl rfl rfl hS (AgreeR.refl _) (t_sat (fun _ h => h) (hK () trivial))
      · -- 8
        rintro _ S hF hS D hp K hK
        try dsimp only at hF ⊢
        have s7 := hp 7 rfl
        refine d_need (small := [(25, (.pointer (some (ad bs17 ((l.getD 0 0).toNat)))))]) ⟨look_row rfl 7 rfl s7, trivial⟩ ?_
        refine tp rfl (lv_load Try.isAgg3 rfl (gives_sl (.tail _ (.tail _ (.tail _ (.head _)))) (ints_get (by omega)))) ?_
        exact d_closes ⟨look_row rfl 7 rfl s7, trivial⟩ 8 rfl rfl rfl hS (AgreeR.refl _) (t_sat (fun _ h => h) (hK () trivial))
      · -- 9
        rintro _ S hF hS D hp K hK
        try dsimp only at hF ⊢
        have s0 := hp 0 rfl
        refine d_need (small := [(18, (.int .i64 (l.getD 0 0)))]) ⟨look_row rfl 0 rfl s0, trivial⟩ ?_
        refine tp rfl (lv_assign rfl) ?_
        exact d_closes ⟨look_row rfl 0 rfl s0, trivial⟩ 9 rfl rfl rfl hS (AgreeR.refl _) (t_sat (fun _ h => h) (hK () trivial))
      · -- 10
        rintro _ S hF hS D hp K hK
        try dsimp only at hF ⊢
        have s8 := hp 8 rfl
        refine d_need (small := [(26, (.int .i64 ((Kk).getD ((l.getD 0 0).toNat) 0)))]) ⟨look_row rfl 8 rfl s8, trivial⟩ ?_
        refine tp rfl (lv_assign rfl) ?_
        exact d_closes ⟨look_row rfl 8 rfl s8, trivial⟩ 10 rfl rfl rfl hS (AgreeR.refl _) (t_sat (fun _ h => h) (hK () trivial))
      · -- 11
        rintro _ S hF hS D hp K hK
        try dsimp only at hF ⊢
        refine d_need (small := []) trivial ?_
        refine tp rfl (lv_assign rfl) ?_
        exact d_closes trivial 11 rfl rfl rfl hS (AgreeR.refl _) (t_sat (fun _ h => h) (hK () trivial))
    · -- behind
      rintro _ hF
      try dsimp only at hF ⊢
      refine t_weak (E' := [(0, (.pointer (some ⟨p, 0, none⟩))), (2, (.int .i64 (l.getD 0 0))), (3, (.int .i64 ((Kk).getD ((l.getD 0 0).toNat) 0))), (4, (.bool true)), (11, (.bool false))]) ⟨rfl, rfl, rfl, rfl, rfl, trivial⟩ ?_
      refine q_then_n (hK5 _ _ ?_)
      refine c_ret ?_
      refine t_f3 ?_
      refine t_f3 ?_
      refine t_f3 ?_
      refine t_f3 ?_
      refine t_shutW rfl hR19 ?_
      refine t_shutH (hH.rem (x := l.getD 0 0) hb0 hq11.2.1 hq11.1 hq11.2.2) ?_
      refine q_ret3 rfl rfl rfl rfl ?_
      obtain ⟨e1, e2, e3, e4⟩ := hH.fst (by omega)
      exact ⟨by rw [e1, e2, e3], by first | rfl | rw [e4]⟩

theorem hkey_ok {R : List HP} {p n : Nat} {ks : Ks} (x : Int) :
    Ok Try.prog 28 [(.pointer (some ⟨p, 0, none⟩)), (.int .i64 x)] ((HeapO p n ks) :: R)
      (fun v M => v = .tuple #[.int .i64 (keyK ks x), .bool (hasK ks x)] ∧ M = HeapO p n ks :: R) := by
  refine ok_of (N := 18) Try.func28 rfl rfl rfl (fun W => ?_)
  refine t_learn (fun _ h => hfacts_of h) (fun hhf => ?_)
  obtain ⟨hln, hbig, hcn⟩ := hhf
  refine c_seq (fun K1 hK1 => ?_)
  refine c_region ?_
  refine tp rfl (lv_assign rfl) ?_
  refine tp rfl (lv_assign rfl) ?_
  refine t_done ?_
  refine q_then_n (hK1 _ _ ?_)
  refine c_seq (fun K2 hK2 => ?_)
  refine c_seq (fun K3 hK3 => ?_)
  refine c_region ?_
  refine tp rfl (lv_move rfl) ?_
  refine tp rfl (lv_move rfl) ?_
  refine tc rfl (en_fn Try.call30 rfl) (hasK_ok (n := n) (ks := ks) x) ?_
  rintro _ _ ⟨rfl, rfl⟩
  refine tp rfl (lv_not (c := !(hasK ks x)) rfl rfl) ?_
  refine t_done ?_
  refine q_then_n (hK3 _ _ ?_)
  refine c_split rfl (fun c1 => ?_) (fun c1 => ?_)
  · -- true
    refine c_seq (fun K4 hK4 => ?_)
    refine c_region ?_
    refine tp rfl (lv_assign rfl) ?_
    refine tp rfl (lv_assign rfl) ?_
    refine t_done ?_
    refine q_then_n (hK4 _ _ ?_)
    refine c_ret ?_
    refine q_then_r ?_
    refine q_ret2 rfl rfl rfl ?_
    have hhx : hasK ks x = false := by simp_all
    exact ⟨by unfold keyK; rw [hhx]; rfl, rfl⟩
  · -- false
    refine c_skip ?_
    refine q_then_n (hK2 _ _ ?_)
    refine c_seq (fun K4 hK4 => ?_)
    refine c_region ?_
    have hhx : hasK ks x = true := by simp_all
    have hkx := hasK_in hln hhx
    refine t_openH (fun l Kk hH => ?_)
    refine t_openW (fun at2 bs3 cp4 bs5 cp6 bs7 cp8 hR9 => ?_)
    have hal := hR9.ato.len
    have hkl := hR9.lk
    have hbg := hR9.big
    have hll := hR9.hi.le
    have hcl := hR9.cpl
    have hxl : x ∈ l := by have := hH.has hkx; rw [hhx] at this; exact of_decide_eq_true this.symm
    have hky := (hH.key hxl).2.1
    refine tp rfl (lv_move rfl) ?_
    refine tp rfl (lv_nilCheck rfl) ?_
    refine tp rfl (lv_fieldAddr (o' := 0) Try.underlying65 rfl Try.sizeOf63 rfl rfl) ?_
    refine tp rfl (lv_fieldAddr (o' := 2) Try.underlying63 rfl Try.sizeOf30 rfl rfl) ?_
    refine tp rfl (lv_load Try.isAgg30 rfl (gives_blk (.head _) rfl)) ?_
    refine tp rfl (lv_move rfl) ?_
    refine tp rfl (lv_indexAddr (k' := x.toNat) Try.underlying30 Try.sizeOf3 rfl rfl hR9.okk (by omega) (by omega) (by omega)) ?_
    refine tp rfl (lv_load Try.isAgg3 rfl (gives_sl (.tail _ (.tail _ (.tail _ (.head _)))) (ints_get (by omega)))) ?_
    refine tp rfl (lv_assign rfl) ?_
    refine tp rfl (lv_assign rfl) ?_
    refine t_done ?_
    refine q_then_n (hK4 _ _ ?_)
    refine c_ret ?_
    refine t_f3 ?_
    refine t_f3 ?_
    refine t_f3 ?_
    refine t_f3 ?_
    refine t_shutW rfl hR9 ?_
    refine t_shutH hH ?_
    refine q_ret2 rfl rfl rfl ?_
    exact ⟨by rw [hky, hhx], rfl⟩

theorem hlen_ok {R : List HP} {p n : Nat} {ks : Ks} :
    Ok Try.prog 15 [(.pointer (some ⟨p, 0, none⟩))] ((HeapO p n ks) :: R)
      (fun v M => v = .int .i64 ((cntK ks : Nat) : Int) ∧ M = HeapO p n ks :: R) := by
  refine ok_of (N := 9) Try.func15 rfl rfl rfl (fun W => ?_)
  refine t_learn (fun _ h => hfacts_of h) (fun hhf => ?_)
  obtain ⟨hln, hbig, hcn⟩ := hhf
  refine t_openH (fun l Kk hH => ?_)
  refine t_openW (fun at1 bs2 cp3 bs4 cp5 bs6 cp7 hR8 => ?_)
  have hal := hR8.ato.len
  have hkl := hR8.lk
  have hbg := hR8.big
  have hll := hR8.hi.le
  have hcl := hR8.cpl
  refine c_seq (fun K1 hK1 => ?_)
  refine c_region ?_
  refine tp rfl (lv_assign rfl) ?_
  refine t_done ?_
  refine q_then_n (hK1 _ _ ?_)
  refine c_seq (fun K2 hK2 => ?_)
  refine c_region ?_
  refine tp rfl (lv_move rfl) ?_
  refine tp rfl (lv_nilCheck rfl) ?_
  refine tp rfl (lv_fieldAddr (o' := 0) Try.underlying65 rfl Try.sizeOf63 rfl rfl) ?_
  refine tp rfl (lv_fieldAddr (o' := 0) Try.underlying63 rfl Try.sizeOf30 rfl rfl) ?_
  refine tp rfl (lv_load Try.isAgg30 rfl (gives_blk (.head _) rfl)) ?_
  refine tp rfl (lv_len Try.underlying30 rfl rfl) ?_
  refine tp rfl (lv_assign rfl) ?_
  refine t_done ?_
  refine q_then_n (hK2 _ _ ?_)
  refine c_ret ?_
  refine t_f3 ?_
  refine t_f3 ?_
  refine t_f3 ?_
  refine t_f3 ?_
  refine t_shutW rfl hR8 ?_
  refine t_shutH hH ?_
  refine q_ret rfl rfl ?_
  exact ⟨by rw [hH.count], rfl⟩

set_option maxHeartbeats 4000000 in
theorem hnew_ok {R : List HP} (m : Int) :
    Ok Try.prog 23 [(.int .i64 m)] R
      (fun v M => ∃ p, v = .pointer (some ⟨p, 0, none⟩) ∧ M = HeapO p (hclamp m) (List.replicate (hclamp m) none) :: R) := by
  have hcl := hclamp_le m
  have hce : min (max m 0) 65536 = ((hclamp m : Nat) : Int) := by unfold hclamp; omega
  refine ok_of (N := 33) Try.func23 rfl rfl rfl (fun W => ?_)
  refine c_seq (fun K1 hK1 => ?_)
  refine c_region ?_
  refine tp rfl (lv_assign rfl) ?_
  refine t_done ?_
  refine q_then_n (hK1 _ _ ?_)
  refine c_seq (fun K2 hK2 => ?_)
  refine c_region ?_
  refine tp rfl (lv_move rfl) ?_
  refine tp rfl (lv_max (c := max m 0) rfl rfl rfl) ?_
  refine tp rfl (lv_min (c := ((hclamp m : Nat) : Int)) rfl rfl hce) ?_
  refine tp rfl (lv_assign rfl) ?_
  refine t_done ?_
  refine q_then_n (hK2 _ _ ?_)
  refine c_seq (fun K3 hK3 => ?_)
  refine c_draw (γ := Option Addr × Nat × Option Addr × Nat × Nat) (n := 8) Try.mixed rfl rfl (fun (bs1, cp2, bs5, cp6, b9) S => (S 1 = true → SlOk bs1 (hclamp m)) ∧ (S 1 = true → hclamp m ≤ cp2) ∧ (S 3 = true → SlOk bs5 (hclamp m)) ∧ (S 3 = true → hclamp m ≤ cp6)) (fun (bs1, cp2, bs5, cp6, b9) => [(0, 8, (.int .i64 ((hclamp m : Nat) : Int))), (1, 9, (.slice bs1 (hclamp m) cp2)), (2, 10, (.int .i64 ((hclamp m : Nat) : Int))), (3, 11, (.slice bs5 (hclamp m) cp6)), (4, 12, (.agg #[(.slice none 0 0), (.slice bs1 (hclamp m) cp2), (.slice bs5 (hclamp m) cp6)])), (5, 13, (.agg #[(.slice none 0 0), (.slice bs1 (hclamp m) cp2), (.slice bs5 (hclamp m) cp6)])), (6, 14, (.pointer (some ⟨b9, 0, none⟩))), (7, 3, (.pointer (some ⟨b9, 0, none⟩)))]) (fun (bs1, cp2, bs5, cp6, b9) S => (bif S 1 then (SlV 3 1 (.slice bs1 (hclamp m) cp2) (hclamp m) (ints .i64 (List.replicate (hclamp m) 0))) else Emp) :: (bif S 3 then (SlV 3 1 (.slice bs5 (hclamp m) cp6) (hclamp m) (ints .i64 (List.replicate (hclamp m) 0))) else Emp) :: (bif S 6 then (Blk b9 [(.slice none 0 0), (.slice bs1 (hclamp m) cp2), (.slice bs5 (hclamp m) cp6)] 65) else Emp) :: R) (none, 0, none, 0, 0) (by simp [Nat.ble]) (fun _ h => sat_emps [] 3 h) (fun _ _ h => h) ?_ ?_
  · -- steps
    refine ⟨?_, ?_, ?_, ?_, ?_, ?_, ?_, ?_, trivial⟩
    · -- 0
      rintro ⟨bs1, cp2, bs5, cp6, b9⟩ S hF hS D hp K hK
      try dsimp only at hF ⊢
      obtain ⟨hf0, hf1, hf2, hf3⟩ := hF
      refine d_need (small := [(0, (.int .i64 ((hclamp m : Nat) : Int)))]) ⟨look_b rfl rfl, trivial⟩ ?_
      refine tp rfl (lv_move rfl) ?_
      exact d_closes ⟨look_b rfl rfl, trivial⟩ 0 rfl rfl rfl hS (AgreeR.refl _) (t_sat (fun _ h => h) (hK (bs1, cp2, bs5, cp6, b9) ⟨hf0, hf1, hf2, hf3⟩))
    · -- 1
      rintro ⟨bs1, cp2, bs5, cp6, b9⟩ S hF hS D hp K hK
      try dsimp only at hF ⊢
      obtain ⟨hf0, hf1, hf2, hf3⟩ := hF
      have s0 := hp 0 rfl
      refine d_need (small := [(8, (.int .i64 ((hclamp m : Nat) : Int)))]) ⟨look_row rfl 0 rfl s0, trivial⟩ ?_
      refine tm rfl (mv_makeSlice (i := Try.t3) Try.underlying30 Try.type3 rfl rfl rfl rfl rfl (by omega) (by rw [show Try.t3.bytes = 8 from rfl]; omega) (by omega)) ?_
      rintro _ _ ⟨bs1, cp2, hok3, hle4, rfl, rfl⟩
      rw [ints_rep]
      refine t_f3 ?_
      refine t_cF (nf (nf (nf hS D (k := 4) (i := 1) rfl) D (k := 5) (i := 4) rfl) D (k := 6) (i := 5) rfl) ?_
      refine t_wF (A := (Blk b9 [(.slice none 0 0), (.slice bs1 (hclamp m) cp2), (.slice bs5 (hclamp m) cp6)] 65)) (nf (nf (nf hS D (k := 4) (i := 1) rfl) D (k := 5) (i := 4) rfl) D (k := 6) (i := 5) rfl) ?_
      refine t_f3 ?_
      refine t_f3 ?_
      refine t_f3 ?_
      refine t_sat (fun _ h => sat_put [] h) ?_
      exact d_closes ⟨look_row rfl 0 rfl s0, trivial⟩ 1 rfl rfl rfl hS (by exact ⟨.inl rfl, .inr ⟨rfl, rfl, hS⟩, .inl rfl, .inl rfl, .inr ⟨rfl, rfl, (nf hS D (k := 4) (i := 1) rfl)⟩, .inr ⟨rfl, rfl, (nf (nf hS D (k := 4) (i := 1) rfl) D (k := 5) (i := 4) rfl)⟩, .inl rfl, .inl rfl, trivial⟩) (t_sat (fun _ h => h) (hK (bs1, cp2, bs5, cp6, b9) ⟨(fun _ => hok3), (fun _ => hle4), hf2, hf3⟩))
    · -- 2
      rintro ⟨bs1, cp2, bs5, cp6, b9⟩ S hF hS D hp K hK
      try dsimp only at hF ⊢
      obtain ⟨hf0, hf1, hf2, hf3⟩ := hF
      refine d_need (small := [(0, (.int .i64 ((hclamp m : Nat) : Int)))]) ⟨look_b rfl rfl, trivial⟩ ?_
      refine tp rfl (lv_move rfl) ?_
      exact d_closes ⟨look_b rfl rfl, trivial⟩ 2 rfl rfl rfl hS (AgreeR.refl _) (t_sat (fun _ h => h) (hK (bs1, cp2, bs5, cp6, b9) ⟨hf0, hf1, hf2, hf3⟩))
    · -- 3
      rintro ⟨bs1, cp2, bs5, cp6, b9⟩ S hF hS D hp K hK
      try dsimp only at hF ⊢
      obtain ⟨hf0, hf1, hf2, hf3⟩ := hF
      have s2 := hp 2 rfl
      refine d_need (small := [(10, (.int .i64 ((hclamp m : Nat) : Int)))]) ⟨look_row rfl 2 rfl s2, trivial⟩ ?_
      refine tm rfl (mv_makeSlice (i := Try.t3) Try.underlying30 Try.type3 rfl rfl rfl rfl rfl (by omega) (by rw [show Try.t3.bytes = 8 from rfl]; omega) (by omega)) ?_
      rintro _ _ ⟨bs5, cp6, hok7, hle8, rfl, rfl⟩
      rw [ints_rep]
      refine t_f3 ?_
      refine t_cF (nf (nf (nf hS D (k := 4) (i := 3) rfl) D (k := 5) (i := 4) rfl) D (k := 6) (i := 5) rfl) ?_
      refine t_wF (A := (Blk b9 [(.slice none 0 0), (.slice bs1 (hclamp m) cp2), (.slice bs5 (hclamp m) cp6)] 65)) (nf (nf (nf hS D (k := 4) (i := 3) rfl) D (k := 5) (i := 4) rfl) D (k := 6) (i := 5) rfl) ?_
      refine t_f3 ?_
      refine t_f3 ?_
      refine t_f3 ?_
      refine t_sat (fun _ h => sat_put [_] h) ?_
      exact d_closes ⟨look_row rfl 2 rfl s2, trivial⟩ 3 rfl rfl rfl hS (by exact ⟨.inl rfl, .inl rfl, .inl rfl, .inr ⟨rfl, rfl, hS⟩, .inr ⟨rfl, rfl, (nf hS D (k := 4) (i := 3) rfl)⟩, .inr ⟨rfl, rfl, (nf (nf hS D (k := 4) (i := 3) rfl) D (k := 5) (i := 4) rfl)⟩, .inl rfl, .inl rfl, trivial⟩) (t_sat (fun _ h => h) (hK (bs1, cp2, bs5, cp6, b9) ⟨hf0, hf1, (fun _ => hok7), (fun _ => hle8)⟩))
    · -- 4
      rintro ⟨bs1, cp2, bs5, cp6, b9⟩ S hF hS D hp K hK
      try dsimp only at hF ⊢
      obtain ⟨hf0, hf1, hf2, hf3⟩ := hF
      have s1 := hp 1 rfl
      have hok3 := hf0 s1
      have hle4 := hf1 s1
      have s3 := hp 3 rfl
      have hok7 := hf2 s3
      have hle8 := hf3 s3
      refine d_need (small := [(9, (.slice bs1 (hclamp m) cp2)), (11, (.slice bs5 (hclamp m) cp6))]) ⟨look_row rfl 1 rfl s1, look_row rfl 3 rfl s3, trivial⟩ ?_
      refine tp rfl (lv_build (cs := [(.slice none 0 0), (.slice bs1 (hclamp m) cp2), (.slice bs5 (hclamp m) cp6)]) (pl := [(0, 1), (1, 1), (2, 1)]) Try.underlying63 Try.zeroValue63 (fun _ => by simp) rfl rfl) ?_
      exact d_closes ⟨look_row rfl 1 rfl s1, look_row rfl 3 rfl s3, trivial⟩ 4 rfl rfl rfl hS (AgreeR.refl _) (t_sat (fun _ h => h) (hK (bs1, cp2, bs5, cp6, b9) ⟨hf0, hf1, hf2, hf3⟩))
    · -- 5
      rintro ⟨bs1, cp2, bs5, cp6, b9⟩ S hF hS D hp K hK
      try dsimp only at hF ⊢
      obtain ⟨hf0, hf1, hf2, hf3⟩ := hF
      have s4 := hp 4 rfl
      have s1 := D 4 1 rfl s4
      have hok3 := hf0 s1
      have hle4 := hf1 s1
      have s3 := D 4 3 rfl s4
      have hok7 := hf2 s3
      have hle8 := hf3 s3
      refine d_need (small := [(12, (.agg #[(.slice none 0 0), (.slice bs1 (hclamp m) cp2), (.slice bs5 (hclamp m) cp6)]))]) ⟨look_row rfl 4 rfl s4, trivial⟩ ?_
      refine tp rfl (lv_build (cs := [(.slice none 0 0), (.slice bs1 (hclamp m) cp2), (.slice bs5 (hclamp m) cp6)]) (pl := [(0, 3)]) Try.underlying65 Try.zeroValue65 (fun _ => by simp) rfl rfl) ?_
      exact d_closes ⟨look_row rfl 4 rfl s4, trivial⟩ 5 rfl rfl rfl hS (AgreeR.refl _) (t_sat (fun _ h => h) (hK (bs1, cp2, bs5, cp6, b9) ⟨hf0, hf1, hf2, hf3⟩))
    · -- 6
      rintro ⟨bs1, cp2, bs5, cp6, b9⟩ S hF hS D hp K hK
      try dsimp only at hF ⊢
      obtain ⟨hf0, hf1, hf2, hf3⟩ := hF
      have s5 := hp 5 rfl
      have s4 := D 5 4 rfl s5
      have s1 := D 4 1 rfl s4
      have hok3 := hf0 s1
      have hle4 := hf1 s1
      have s3 := D 4 3 rfl s4
      have hok7 := hf2 s3
      have hle8 := hf3 s3
      refine d_need (small := [(13, (.agg #[(.slice none 0 0), (.slice bs1 (hclamp m) cp2), (.slice bs5 (hclamp m) cp6)]))]) ⟨look_row rfl 5 rfl s5, trivial⟩ ?_
      refine tm rfl (mv_box rfl rfl) ?_
      rintro _ _ ⟨b9, rfl, rfl⟩
      refine t_sat (fun _ h => sat_put [_, _] h) ?_
      exact d_closes ⟨look_row rfl 5 rfl s5, trivial⟩ 6 rfl rfl rfl hS (by exact ⟨.inl rfl, .inl rfl, .inl rfl, .inl rfl, .inl rfl, .inl rfl, .inr ⟨rfl, rfl, hS⟩, .inr ⟨rfl, rfl, (nf hS D (k := 7) (i := 6) rfl)⟩, trivial⟩) (t_sat (fun _ h => h) (hK (bs1, cp2, bs5, cp6, b9) ⟨hf0, hf1, hf2, hf3⟩))
    · -- 7
      rintro ⟨bs1, cp2, bs5, cp6, b9⟩ S hF hS D hp K hK
      try dsimp only at hF ⊢
      obtain ⟨hf0, hf1, hf2, hf3⟩ := hF
      have s6 := hp 6 rfl
      refine d_need (small := [(14, (.pointer (some ⟨b9, 0, none⟩)))]) ⟨look_row rfl 6 rfl s6, trivial⟩ ?_
      refine tp rfl (lv_assign rfl) ?_
      exact d_closes ⟨look_row rfl 6 rfl s6, trivial⟩ 7 rfl rfl rfl hS (AgreeR.refl _) (t_sat (fun _ h => h) (hK (bs1, cp2, bs5, cp6, b9) ⟨hf0, hf1, hf2, hf3⟩))
  · -- behind
    rintro ⟨bs1, cp2, bs5, cp6, b9⟩ hF
    try dsimp only at hF ⊢
    obtain ⟨hf0, hf1, hf2, hf3⟩ := hF
    have hok3 := hf0 rfl
    have hle4 := hf1 rfl
    have hok7 := hf2 rfl
    have hle8 := hf3 rfl
    refine t_weak (E' := [(0, (.int .i64 ((hclamp m : Nat) : Int))), (2, (.pointer none)), (3, (.pointer (some ⟨b9, 0, none⟩)))]) ⟨rfl, rfl, rfl, trivial⟩ ?_
    refine q_then_n (hK3 _ _ ?_)
    refine c_seq (fun K4 hK4 => ?_)
    refine c_seq (fun K5 hK5 => ?_)
    refine c_region ?_
    refine tp rfl (lv_move rfl) ?_
    refine tp rfl (lv_nilCheck rfl) ?_
    refine tp rfl (lv_fieldAddr (o' := 0) Try.underlying65 rfl Try.sizeOf63 rfl rfl) ?_
    refine tp rfl (lv_fieldAddr (o' := 1) Try.underlying63 rfl Try.sizeOf30 rfl rfl) ?_
    refine tp rfl (lv_load Try.isAgg30 rfl (gives_blk (.tail _ (.tail _ (.head _))) rfl)) ?_
    refine tp rfl (lv_len Try.underlying30 rfl rfl) ?_
    refine tp rfl (lv_move rfl) ?_
    refine t_done ?_
    refine q_then_n (hK5 _ _ ?_)
    refine c_block ?_
    refine t_sat (fun _ h => (show Sat (SlV 3 1 (.slice bs1 (hclamp m) cp2) (hclamp m) (ints .i64 (fillM (hclamp m) 0)) :: _) _ from by rw [← fillM_start]; exact h)) ?_
    refine c_loop (γ := (Nat)) (fun (i : Nat) => i ≤ hclamp m) (fun (i : Nat) => [(0, (.int .i64 ((hclamp m : Nat) : Int))), (2, (.pointer none)), (3, (.pointer (some ⟨b9, 0, none⟩))), (20, (.int .i64 ((hclamp m : Nat) : Int))), (21, (.int .i64 ((i : Nat) : Int)))]) (fun (i : Nat) => (SlV 3 1 (.slice bs1 (hclamp m) cp2) (hclamp m) (ints .i64 (fillM (hclamp m) i))) :: (SlV 3 1 (.slice bs5 (hclamp m) cp6) (hclamp m) (ints .i64 (List.replicate (hclamp m) 0))) :: (Blk b9 [(.slice none 0 0), (.slice bs1 (hclamp m) cp2), (.slice bs5 (hclamp m) cp6)] 65) :: R) (fun (i : Nat) => hclamp m - i) (0) (by omega) ⟨rfl, rfl, rfl, rfl, rfl, trivial⟩ (fun _ h => h) ?_
    rintro i K6 hF hK6
    try dsimp only at hF hK6 ⊢
    have hfl := fillM_len (N := hclamp m) (i := i) (by omega)
    refine c_seq (fun K7 hK7 => ?_)
    refine c_region ?_
    by_cases h10 : ((i : Nat) : Int) < ((hclamp m : Nat) : Int)
    · -- yes
      refine tp rfl (lv_lss rfl rfl (decide_eq_true h10)) ?_
      refine t_done ?_
      refine q_then_n (hK7 _ _ ?_)
      refine c_seq (fun K8 hK8 => ?_)
      refine c_true rfl ?_
      refine c_skip ?_
      refine q_then_n (hK8 _ _ ?_)
      refine c_seq (fun K9 hK9 => ?_)
      refine c_block ?_
      refine c_seq (fun K10 hK10 => ?_)
      refine c_region ?_
      refine tp rfl (lv_move rfl) ?_
      refine tp rfl (lv_assign rfl) ?_
      refine t_done ?_
      refine q_then_n (hK10 _ _ ?_)
      refine c_region ?_
      refine tp rfl (lv_move rfl) ?_
      refine tp rfl (lv_nilCheck rfl) ?_
      refine tp rfl (lv_fieldAddr (o' := 0) Try.underlying65 rfl Try.sizeOf63 rfl rfl) ?_
      refine tp rfl (lv_fieldAddr (o' := 1) Try.underlying63 rfl Try.sizeOf30 rfl rfl) ?_
      refine tp rfl (lv_load Try.isAgg30 rfl (gives_blk (.tail _ (.tail _ (.head _))) rfl)) ?_
      refine tp rfl (lv_move rfl) ?_
      refine tp rfl (lv_indexAddr (k' := i) Try.underlying30 Try.sizeOf3 rfl rfl hok3 (by omega) (by omega) (by omega)) ?_
      refine ts (sv_sl Try.sizeOf3 rfl rfl rfl (by rw [ints_length]; omega) ints_set) ?_
      refine t_done ?_
      refine q_in_n ?_
      refine q_then_n (hK9 _ _ ?_)
      refine c_region ?_
      refine tp rfl (lv_add (c := ((i + 1 : Nat) : Int)) rfl rfl (wr_i64_succ (by omega))) ?_
      refine tp rfl (lv_move rfl) ?_
      refine t_done ?_
      refine q_then_n ?_
      rw [fillM_next (show i < hclamp m by omega)]
      exact t_weak (by exact ⟨rfl, rfl, rfl, rfl, rfl, trivial⟩) ((hK6 (i + 1) (by omega) (by omega)))
    · -- no
      refine tp rfl (lv_lss rfl rfl (decide_eq_false h10)) ?_
      refine t_done ?_
      refine q_then_n (hK7 _ _ ?_)
      refine c_seq (fun K8 hK8 => ?_)
      refine c_false rfl ?_
      refine c_exit ?_
      refine q_then_x ?_
      refine q_then_x ?_
      refine q_in_x ?_
      refine q_then_n (hK4 _ _ ?_)
      refine c_seq (fun K9 hK9 => ?_)
      refine c_region ?_
      refine tp rfl (lv_move rfl) ?_
      refine tp rfl (lv_assign rfl) ?_
      refine t_done ?_
      refine q_then_n (hK9 _ _ ?_)
      refine c_ret ?_
      refine t_f1 ?_
      refine t_f1 ?_
      refine t_f2 ?_
      refine t_sat (fun _ h => sat_nilsl 3 1 h) ?_
      refine t_f1 ?_
      rw [show fillM (hclamp m) i = List.replicate (hclamp m) (-1) from by rw [show i = hclamp m by omega]; exact fillM_end _]
      refine t_shutW (l := []) (Ks := List.replicate (hclamp m) 0) rfl (new_facts (hclamp_le m) hok3 hok7) ?_
      refine t_shutH (new_ok _) ?_
      refine q_ret rfl rfl ?_
      exact ⟨_, rfl, rfl⟩
end Go.Proofs.Ytombnfgkgcjihaa
