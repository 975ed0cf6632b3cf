/- PickFits: the law's walk. -/
import Derived.Test.YtfoiopbjomaclaaDoorLa
import Derived.Test.YtfoiopbjomaclaaDoorPib
set_option maxRecDepth 100000
set_option linter.unusedVariables false
set_option linter.unusedSimpArgs false
namespace Go.Proofs.YtfoiopbjomaclaaDoor
open Go Go.Proofs Sp
set_option maxHeartbeats 4000000 in
theorem fits_law {R : List HP} {ba : Option Addr} {ca : Nat} (xs : List Int) (ha : Rd R ba (ints .i64 xs)) (oka : SlOk ba xs.length) (la : xs.length ≤ 9223372036854775807) (lca : xs.length ≤ ca) {bl : Option Addr} {cl : Nat} (es : List (Int × Int)) (hl : Rd R bl (pairs es)) (okl : SlOk bl es.length) (ll : es.length ≤ 9223372036854775807) (lcl : es.length ≤ cl) (a b : Int) (hT : Tab R) :
    Ok Tryd.prog 5 [(.slice ba xs.length ca), (.slice bl es.length cl), (.int .i64 a), (.int .i64 b)] R
      (fun v M => v = .bool true ∧ M = R) := by
  obtain ⟨n1, hn1n⟩ : ∃ n, n = min xs.length 60 := ⟨_, rfl⟩
  obtain ⟨us, husl⟩ : ∃ l, l = xs.take n1 := ⟨_, rfl⟩
  have usn : us.length = n1 := by rw [husl, List.length_take]; omega
  have rda : Rd R ba (ints .i64 us) := by rw [husl]; exact rd_tk_ints n1 ha
  refine ok_of (N := 138) Tryd.func5 rfl rfl rfl (fun W => ?_)
  refine c_seq (fun K1 hK1 => ?_)
  refine c_region ?_
  refine tp rfl (lv_assign rfl) ?_
  refine t_done ?_
  refine q_then_n (hK1 _ _ ?_)
  refine c_seq (fun K2 hK2 => ?_)
  refine c_region ?_
  refine tc rfl (en_fn Tryd.call8 rfl) (shown_ok hT) ?_
  rintro _ _ ⟨rfl, hMR⟩
  rw [hMR]; clear hMR
  refine tp rfl (lv_assign rfl) ?_
  refine t_done ?_
  refine q_then_n (hK2 _ _ ?_)
  refine c_seq (fun K3 hK3 => ?_)
  refine c_region ?_
  refine tm rfl (mv_buildSlice (cs := []) Tryd.underlying22 Tryd.sizeOf3 Tryd.zeroValue3 (by decide) rfl rfl rfl rfl) ?_
  rintro _ _ ⟨bs1, cp2, hok3, hle4, rfl, rfl⟩
  refine tp rfl (lv_move rfl) ?_
  refine tp rfl (lv_move rfl) ?_
  refine tp rfl (lv_len Tryd.underlying22 rfl rfl) ?_
  refine tp rfl (lv_min (c := ((n1 : Nat) : Int)) rfl rfl (by omega)) ?_
  refine tp rfl (lv_slice (l := 0) (h := n1) (m := ca) (v := (.slice ba n1 ca)) Tryd.underlying22 Tryd.sizeOf3 rfl rfl rfl rfl (.inr ⟨rfl, rfl⟩) (.inl ⟨_, _, rfl, (by omega), (by omega), (by omega)⟩) (.inr ⟨rfl, rfl⟩) (by simp) (by rw [sbase_zero]; rfl)) ?_
  refine tm rfl (mv_append (i := Tryd.t3) Tryd.underlying22 Tryd.type3 rfl rfl rfl (by decide) rfl rfl (fun hz => oka (by omega)) (by first | (simp; done) | (simp; omega)) (Rd.cons rda) ints_one (by rw [show Tryd.t3.bytes = 8 from rfl]; omega)) ?_
  rintro _ _ ⟨bs5, cp6, hok7, hle8, rfl, rfl⟩
  simp only [Nat.zero_add] at hok7 hle8 ⊢
  rw [List.nil_append]
  refine tp rfl (lv_assign rfl) ?_
  refine t_done ?_
  refine q_then_n (hK3 _ _ ?_)
  refine c_seq (fun K4 hK4 => ?_)
  refine c_region ?_
  refine tm rfl (mv_buildSlice (cs := []) Tryd.underlying22 Tryd.sizeOf3 Tryd.zeroValue3 (by decide) rfl rfl rfl rfl) ?_
  rintro _ _ ⟨bs9, cp10, hok11, hle12, rfl, rfl⟩
  refine tp rfl (lv_move rfl) ?_
  refine tm rfl (mv_append (i := Tryd.t3) Tryd.underlying22 Tryd.type3 rfl rfl rfl (by decide) rfl rfl hok7 (by first | (simp; done) | (simp; omega)) (rd_sl (.tail _ (.head _))) ints_one (by rw [show Tryd.t3.bytes = 8 from rfl]; omega)) ?_
  rintro _ _ ⟨bs13, cp14, hok15, hle16, rfl, rfl⟩
  simp only [Nat.zero_add] at hok15 hle16 ⊢
  rw [List.nil_append]
  refine tp rfl (lv_assign rfl) ?_
  refine t_done ?_
  refine q_then_n (hK4 _ _ ?_)
  refine c_seq (fun K5 hK5 => ?_)
  refine c_region ?_
  refine tp rfl (lv_move rfl) ?_
  refine tp rfl (lv_move rfl) ?_
  refine tp rfl (lv_move rfl) ?_
  refine tp rfl (lv_move rfl) ?_
  refine tp rfl (lv_min (c := min a b) rfl rfl rfl) ?_
  refine tc rfl (en_fn Tryd.call15 rfl) (fits_n (n := es.length) us es (min a b) (by first | rfl | omega | (simp; done) | (simp; omega)) (by first | rfl | omega | (simp; done) | (simp; omega)) (rd_sl (.tail _ (.head _))) (Rd.cons (Rd.cons hl)) hok7 okl (by first | omega | (simp; omega) | (simp; done))) ?_
  rintro _ _ ⟨bs17, cp18, hok19, hle20, rfl, rfl⟩
  refine tp rfl (lv_assign rfl) ?_
  refine t_done ?_
  refine q_then_n (hK5 _ _ ?_)
  refine c_seq (fun K6 hK6 => ?_)
  refine c_region ?_
  refine tp rfl (lv_move rfl) ?_
  refine tp rfl (lv_move rfl) ?_
  refine tp rfl (lv_move rfl) ?_
  refine tp rfl (lv_move rfl) ?_
  refine tp rfl (lv_max (c := max a b) rfl rfl rfl) ?_
  refine tc rfl (en_fn Tryd.call15 rfl) (fits_n (n := es.length) us es (max a b) (by first | rfl | omega | (simp; done) | (simp; omega)) (by first | rfl | omega | (simp; done) | (simp; omega)) (rd_sl (.tail _ (.tail _ (.head _)))) (Rd.cons (Rd.cons (Rd.cons hl))) hok7 okl (by first | omega | (simp; omega) | (simp; done))) ?_
  rintro _ _ ⟨bs21, cp22, hok23, hle24, rfl, rfl⟩
  refine tp rfl (lv_assign rfl) ?_
  refine t_done ?_
  refine q_then_n (hK6 _ _ ?_)
  refine c_seq (fun K7 hK7 => ?_)
  refine c_region ?_
  obtain ⟨fs, hfs⟩ : ∃ x, fitB es.length es (min a b) = x := ⟨_, rfl⟩
  rw [hfs] at hok19 hle20 ⊢
  obtain ⟨fl, hfl⟩ : ∃ x, fitB es.length es (max a b) = x := ⟨_, rfl⟩
  rw [hfl] at hok23 hle24 ⊢
  refine tp rfl (lv_assign rfl) ?_
  refine t_done ?_
  refine q_then_n (hK7 _ _ ?_)
  refine c_seq (fun K8 hK8 => ?_)
  refine c_region ?_
  refine tp rfl (lv_assign rfl) ?_
  refine t_done ?_
  refine q_then_n (hK8 _ _ ?_)
  refine c_seq (fun K9 hK9 => ?_)
  refine c_seq (fun K10 hK10 => ?_)
  refine c_region ?_
  refine tp rfl (lv_assign rfl) ?_
  refine t_done ?_
  refine q_then_n (hK10 _ _ ?_)
  refine c_block ?_
  refine c_loop (γ := (Nat)) (fun (i : Nat) => i ≤ n1) (fun (i : Nat) => [(0, (.slice bs5 n1 cp6)), (1, (.slice bl es.length cl)), (2, (.int .i64 a)), (3, (.int .i64 b)), (9, (.bool true)), (10, (.slice bs13 n1 cp14)), (11, (.slice bs17 ((us.filter fs).length) cp18)), (12, (.slice bs21 ((us.filter fl).length) cp22)), (13, (.int .i64 ((((us.take i).filter fs).length : Nat) : Int))), (14, (.int .i64 ((((us.take i).filter fl).length : Nat) : Int))), (15, (.int .i64 ((i : Nat) : Int)))]) (fun (i : Nat) => (SlV 3 1 (.slice bs21 ((us.filter fl).length) cp22) ((us.filter fl).length) (ints .i64 (us.filter fl))) :: (SlV 3 1 (.slice bs17 ((us.filter fs).length) cp18) ((us.filter fs).length) (ints .i64 (us.filter fs))) :: (SlV 3 1 (.slice bs13 n1 cp14) n1 (ints .i64 us)) :: (SlV 3 1 (.slice bs5 n1 cp6) n1 (ints .i64 us)) :: R) (fun (i : Nat) => n1 - i) (0) (by omega) ⟨rfl, rfl, rfl, rfl, rfl, rfl, rfl, rfl, rfl, rfl, rfl, trivial⟩ (fun _ h => h) ?_
  rintro i K11 hF hK11
  try dsimp only at hF hK11 ⊢
  have hcs : ((us.take i).filter fs).length ≤ i := Nat.le_trans (List.length_filter_le _ _) (by rw [List.length_take]; omega)
  have hcl : ((us.take i).filter fl).length ≤ i := Nat.le_trans (List.length_filter_le _ _) (by rw [List.length_take]; omega)
  refine c_seq (fun K12 hK12 => ?_)
  refine c_seq (fun K13 hK13 => ?_)
  refine c_region ?_
  refine tp rfl (lv_move rfl) ?_
  refine tp rfl (lv_move rfl) ?_
  refine tp rfl (lv_len Tryd.underlying22 rfl rfl) ?_
  by_cases h25 : ((i : Nat) : Int) < ((n1 : Nat) : Int)
  · -- yes
    refine tp rfl (lv_lss rfl rfl (decide_eq_true h25)) ?_
    refine t_done ?_
    refine q_then_n (hK13 _ _ ?_)
    refine c_true rfl ?_
    refine c_skip ?_
    refine q_then_n (hK12 _ _ ?_)
    refine c_seq (fun K14 hK14 => ?_)
    refine c_block ?_
    refine c_seq (fun K15 hK15 => ?_)
    refine c_region ?_
    refine tp rfl (lv_move rfl) ?_
    refine tp rfl (lv_move rfl) ?_
    refine tp rfl (lv_indexAddr (k' := i) Tryd.underlying22 Tryd.sizeOf3 rfl rfl hok15 (by omega) (by omega) (by omega)) ?_
    refine tp rfl (lv_load Tryd.isAgg3 rfl (gives_sl (.tail _ (.tail _ (.head _))) (ints_get (by first | omega | (simp; omega))))) ?_
    refine tp rfl (lv_assign rfl) ?_
    refine t_done ?_
    refine q_then_n (hK15 _ _ ?_)
    refine c_seq (fun K16 hK16 => ?_)
    refine c_region ?_
    refine tp rfl (lv_move rfl) ?_
    by_cases hge : ((us).getD i 0) ≥ 0
    · -- yes
      refine tp rfl (lv_geq rfl rfl (decide_eq_true hge)) ?_
      refine tp rfl (lv_move rfl) ?_
      refine t_guard rfl rfl ?_
      refine tp rfl (lv_move rfl) ?_
      refine t_guard rfl rfl ?_
      refine tp rfl (lv_move rfl) ?_
      refine t_guard rfl rfl ?_
      refine tp rfl (lv_len Tryd.underlying24 rfl rfl) ?_
      refine t_guard rfl rfl ?_
      refine tp rfl (lv_lss rfl rfl rfl) ?_
      refine tp rfl (lv_pick_t rfl rfl) ?_
      refine tp rfl (lv_assign rfl) ?_
      refine t_done ?_
      refine q_then_n (hK16 _ _ ?_)
      refine c_seq (fun K17 hK17 => ?_)
      refine c_region ?_
      refine tp rfl (lv_move rfl) ?_
      refine tp rfl (lv_move rfl) ?_
      rcases hb26 : decide (((us).getD i 0) < ((es.length : Nat) : Int)) with _ | _
      · -- false
        refine t_skip rfl rfl rfl ?_
        refine t_skip rfl rfl rfl ?_
        refine t_skip rfl rfl rfl ?_
        refine t_skip rfl rfl rfl ?_
        refine t_skip rfl rfl rfl ?_
        refine t_skip rfl rfl rfl ?_
        refine t_skip rfl rfl rfl ?_
        refine t_skip rfl rfl rfl ?_
        refine t_skip rfl rfl rfl ?_
        refine tp rfl (lv_pick_f rfl rfl) ?_
        refine tp rfl (lv_assign rfl) ?_
        refine t_done ?_
        refine q_then_n (hK17 _ _ ?_)
        refine c_seq (fun K18 hK18 => ?_)
        refine c_region ?_
        refine tp rfl (lv_move rfl) ?_
        refine tp rfl (lv_move rfl) ?_
        refine t_skip rfl rfl rfl ?_
        refine t_skip rfl rfl rfl ?_
        refine t_skip rfl rfl rfl ?_
        refine t_skip rfl rfl rfl ?_
        refine t_skip rfl rfl rfl ?_
        refine t_skip rfl rfl rfl ?_
        refine t_skip rfl rfl rfl ?_
        refine t_skip rfl rfl rfl ?_
        refine t_skip rfl rfl rfl ?_
        refine tp rfl (lv_pick_f rfl rfl) ?_
        refine tp rfl (lv_assign rfl) ?_
        refine t_done ?_
        refine q_then_n (hK18 _ _ ?_)
        refine c_seq (fun K19 hK19 => ?_)
        refine c_seq (fun K20 hK20 => ?_)
        refine c_region ?_
        have hsfs : fs (us.getD i 0) = false := by rw [← hfs]; first | exact fit_eq hge ‹_› | exact fit_no1 hge | exact fit_no2 ‹_›
        have hsfl : fl (us.getD i 0) = false := by rw [← hfl]; first | exact fit_eq hge ‹_› | exact fit_no1 hge | exact fit_no2 ‹_›
        refine tp rfl (lv_move rfl) ?_
        refine t_done ?_
        refine q_then_n (hK20 _ _ ?_)
        refine c_false rfl ?_
        refine c_skip ?_
        refine q_then_n (hK19 _ _ ?_)
        refine c_seq (fun K21 hK21 => ?_)
        refine c_region ?_
        refine tp rfl (lv_move rfl) ?_
        refine t_done ?_
        refine q_then_n (hK21 _ _ ?_)
        refine c_false rfl ?_
        refine c_skip ?_
        refine q_in_n ?_
        refine q_then_n (hK14 _ _ ?_)
        refine c_region ?_
        refine tp rfl (lv_move rfl) ?_
        refine tp rfl (lv_add (c := ((i + 1 : Nat) : Int)) rfl rfl (wr_i64_succ (by omega))) ?_
        refine tp rfl (lv_assign rfl) ?_
        refine t_done ?_
        refine q_then_n ?_
        exact t_weak (by exact ⟨rfl, rfl, rfl, rfl, rfl, rfl, rfl, rfl, (by rw [cnt_succ (by omega), hsfs]; rfl), (by rw [cnt_succ (by omega), hsfl]; rfl), rfl, trivial⟩) ((hK11 (i + 1) (by omega) (by omega)))
      · -- true
        refine t_guard rfl rfl ?_
        refine tp rfl (lv_move rfl) ?_
        refine t_guard rfl rfl ?_
        refine tp rfl (lv_move rfl) ?_
        refine t_guard rfl rfl ?_
        refine tp rfl (lv_indexAddr (k' := (((us).getD i 0).toNat) * 2) Tryd.underlying24 Tryd.sizeOf51 rfl rfl okl (by omega) (by have := of_decide_eq_true (show decide (us.getD i 0 < ((es.length : Nat) : Int)) = true from ‹_›); omega) (by omega)) ?_
        refine t_guard rfl rfl ?_
        refine tp rfl (lv_fieldAddr_ad (o' := (((us).getD i 0).toNat) * 2) Tryd.underlying51 rfl Tryd.sizeOf3 rfl rfl) ?_
        refine t_guard rfl rfl ?_
        refine tp rfl (lv_load Tryd.isAgg3 rfl (Rd.gives (Rd.cons (Rd.cons (Rd.cons (Rd.cons hl)))) (pairs_get0 (by have := of_decide_eq_true (show decide (us.getD i 0 < ((es.length : Nat) : Int)) = true from ‹_›); omega)))) ?_
        refine t_guard rfl rfl ?_
        refine tp rfl (lv_move rfl) ?_
        refine t_guard rfl rfl ?_
        refine tp rfl (lv_move rfl) ?_
        refine t_guard rfl rfl ?_
        refine tp rfl (lv_min (c := min a b) rfl rfl rfl) ?_
        refine t_guard rfl rfl ?_
        refine tp rfl (lv_leq rfl rfl rfl) ?_
        refine tp rfl (lv_pick_t rfl rfl) ?_
        refine tp rfl (lv_assign rfl) ?_
        refine t_done ?_
        refine q_then_n (hK17 _ _ ?_)
        refine c_seq (fun K18 hK18 => ?_)
        refine c_region ?_
        refine tp rfl (lv_move rfl) ?_
        refine tp rfl (lv_move rfl) ?_
        refine t_guard rfl rfl ?_
        refine tp rfl (lv_move rfl) ?_
        refine t_guard rfl rfl ?_
        refine tp rfl (lv_move rfl) ?_
        refine t_guard rfl rfl ?_
        refine tp rfl (lv_indexAddr (k' := (((us).getD i 0).toNat) * 2) Tryd.underlying24 Tryd.sizeOf51 rfl rfl okl (by omega) (by have := of_decide_eq_true (show decide (us.getD i 0 < ((es.length : Nat) : Int)) = true from ‹_›); omega) (by omega)) ?_
        refine t_guard rfl rfl ?_
        refine tp rfl (lv_fieldAddr_ad (o' := (((us).getD i 0).toNat) * 2) Tryd.underlying51 rfl Tryd.sizeOf3 rfl rfl) ?_
        refine t_guard rfl rfl ?_
        refine tp rfl (lv_load Tryd.isAgg3 rfl (Rd.gives (Rd.cons (Rd.cons (Rd.cons (Rd.cons hl)))) (pairs_get0 (by have := of_decide_eq_true (show decide (us.getD i 0 < ((es.length : Nat) : Int)) = true from ‹_›); omega)))) ?_
        refine t_guard rfl rfl ?_
        refine tp rfl (lv_move rfl) ?_
        refine t_guard rfl rfl ?_
        refine tp rfl (lv_move rfl) ?_
        refine t_guard rfl rfl ?_
        refine tp rfl (lv_max (c := max a b) rfl rfl rfl) ?_
        refine t_guard rfl rfl ?_
        refine tp rfl (lv_leq rfl rfl rfl) ?_
        refine tp rfl (lv_pick_t rfl rfl) ?_
        refine tp rfl (lv_assign rfl) ?_
        refine t_done ?_
        refine q_then_n (hK18 _ _ ?_)
        refine c_seq (fun K19 hK19 => ?_)
        refine c_seq (fun K20 hK20 => ?_)
        refine c_region ?_
        have hsfs : fs (us.getD i 0) = decide ((((es).getD (((us).getD i 0).toNat) (0, 0)).1) ≤ (min a b)) := by rw [← hfs]; first | exact fit_eq hge ‹_› | exact fit_no1 hge | exact fit_no2 ‹_›
        rw [← hsfs]
        have hsfl : fl (us.getD i 0) = decide ((((es).getD (((us).getD i 0).toNat) (0, 0)).1) ≤ (max a b)) := by rw [← hfl]; first | exact fit_eq hge ‹_› | exact fit_no1 hge | exact fit_no2 ‹_›
        rw [← hsfl]
        refine tp rfl (lv_move rfl) ?_
        refine t_done ?_
        refine q_then_n (hK20 _ _ ?_)
        refine c_split rfl (fun c27 => ?_) (fun c27 => ?_)
        · -- true
         refine c_seq (fun K21 hK21 => ?_)
         refine c_seq (fun K22 hK22 => ?_)
         refine c_region ?_
         refine tp rfl (lv_move rfl) ?_
         refine tp rfl (lv_move rfl) ?_
         refine tp rfl (lv_len Tryd.underlying22 rfl rfl) ?_
         refine tp rfl (lv_geq rfl rfl (decide_eq_false (by have := filt_lt (f := fs) (us := us) (i := i) (by omega) ‹_›; omega))) ?_
         refine tp rfl (lv_move rfl) ?_
         refine t_guard rfl rfl ?_
         refine tp rfl (lv_move rfl) ?_
         refine t_guard rfl rfl ?_
         refine tp rfl (lv_move rfl) ?_
         refine t_guard rfl rfl ?_
         refine tp rfl (lv_indexAddr (k' := ((us.take i).filter fs).length) Tryd.underlying22 Tryd.sizeOf3 rfl rfl hok19 (by omega) (by have := filt_lt (f := fs) (us := us) (i := i) (by omega) ‹_›; omega) (by omega)) ?_
         refine t_guard rfl rfl ?_
         refine tp rfl (lv_load Tryd.isAgg3 rfl (gives_sl (.tail _ (.head _)) (ints_get (by have := filt_lt (f := fs) (us := us) (i := i) (by omega) ‹_›; omega)))) ?_
         refine t_guard rfl rfl ?_
         refine tp rfl (lv_move rfl) ?_
         refine t_guard rfl rfl ?_
         refine tp rfl (lv_neq rfl rfl (bne_eq_false_iff_eq.2 (filt_at (f := fs) (by omega) ‹_›))) ?_
         refine tp rfl (lv_pick_f rfl rfl) ?_
         refine t_done ?_
         refine q_then_n (hK22 _ _ ?_)
         refine c_false rfl ?_
         refine c_skip ?_
         refine q_then_n (hK21 _ _ ?_)
         refine c_region ?_
         refine tp rfl (lv_move rfl) ?_
         refine tp rfl (lv_add (c := ((((us.take i).filter fs).length + 1 : Nat) : Int)) rfl rfl (wr_i64_succ (by omega))) ?_
         refine tp rfl (lv_assign rfl) ?_
         refine t_done ?_
         refine q_then_n (hK19 _ _ ?_)
         refine c_seq (fun K23 hK23 => ?_)
         refine c_region ?_
         refine tp rfl (lv_move rfl) ?_
         refine t_done ?_
         refine q_then_n (hK23 _ _ ?_)
         refine c_split rfl (fun c28 => ?_) (fun c28 => ?_)
         · -- true
          refine c_seq (fun K24 hK24 => ?_)
          refine c_seq (fun K25 hK25 => ?_)
          refine c_region ?_
          refine tp rfl (lv_move rfl) ?_
          refine tp rfl (lv_move rfl) ?_
          refine tp rfl (lv_len Tryd.underlying22 rfl rfl) ?_
          refine tp rfl (lv_geq rfl rfl (decide_eq_false (by have := filt_lt (f := fl) (us := us) (i := i) (by omega) ‹_›; omega))) ?_
          refine tp rfl (lv_move rfl) ?_
          refine t_guard rfl rfl ?_
          refine tp rfl (lv_move rfl) ?_
          refine t_guard rfl rfl ?_
          refine tp rfl (lv_move rfl) ?_
          refine t_guard rfl rfl ?_
          refine tp rfl (lv_indexAddr (k' := ((us.take i).filter fl).length) Tryd.underlying22 Tryd.sizeOf3 rfl rfl hok23 (by omega) (by have := filt_lt (f := fl) (us := us) (i := i) (by omega) ‹_›; omega) (by omega)) ?_
          refine t_guard rfl rfl ?_
          refine tp rfl (lv_load Tryd.isAgg3 rfl (gives_sl (.head _) (ints_get (by have := filt_lt (f := fl) (us := us) (i := i) (by omega) ‹_›; omega)))) ?_
          refine t_guard rfl rfl ?_
          refine tp rfl (lv_move rfl) ?_
          refine t_guard rfl rfl ?_
          refine tp rfl (lv_neq rfl rfl (bne_eq_false_iff_eq.2 (filt_at (f := fl) (by omega) ‹_›))) ?_
          refine tp rfl (lv_pick_f rfl rfl) ?_
          refine t_done ?_
          refine q_then_n (hK25 _ _ ?_)
          refine c_false rfl ?_
          refine c_skip ?_
          refine q_then_n (hK24 _ _ ?_)
          refine c_region ?_
          refine tp rfl (lv_move rfl) ?_
          refine tp rfl (lv_add (c := ((((us.take i).filter fl).length + 1 : Nat) : Int)) rfl rfl (wr_i64_succ (by omega))) ?_
          refine tp rfl (lv_assign rfl) ?_
          refine t_done ?_
          refine q_in_n ?_
          refine q_then_n (hK14 _ _ ?_)
          refine c_region ?_
          refine tp rfl (lv_move rfl) ?_
          refine tp rfl (lv_add (c := ((i + 1 : Nat) : Int)) rfl rfl (wr_i64_succ (by omega))) ?_
          refine tp rfl (lv_assign rfl) ?_
          refine t_done ?_
          refine q_then_n ?_
          exact t_weak (by exact ⟨rfl, rfl, rfl, rfl, rfl, rfl, rfl, rfl, (by rw [cnt_succ (by omega), c27]; rfl), (by rw [cnt_succ (by omega), c28]; rfl), rfl, trivial⟩) ((hK11 (i + 1) (by omega) (by omega)))
         · -- false
          refine c_skip ?_
          refine q_in_n ?_
          refine q_then_n (hK14 _ _ ?_)
          refine c_region ?_
          refine tp rfl (lv_move rfl) ?_
          refine tp rfl (lv_add (c := ((i + 1 : Nat) : Int)) rfl rfl (wr_i64_succ (by omega))) ?_
          refine tp rfl (lv_assign rfl) ?_
          refine t_done ?_
          refine q_then_n ?_
          exact t_weak (by exact ⟨rfl, rfl, rfl, rfl, rfl, rfl, rfl, rfl, (by rw [cnt_succ (by omega), c27]; rfl), (by rw [cnt_succ (by omega), c28]; rfl), rfl, trivial⟩) ((hK11 (i + 1) (by omega) (by omega)))
        · -- false
         refine c_skip ?_
         refine q_then_n (hK19 _ _ ?_)
         refine c_seq (fun K21 hK21 => ?_)
         refine c_region ?_
         refine tp rfl (lv_move rfl) ?_
         refine t_done ?_
         refine q_then_n (hK21 _ _ ?_)
         refine c_split rfl (fun c29 => ?_) (fun c29 => ?_)
         · -- true
          refine c_seq (fun K22 hK22 => ?_)
          refine c_seq (fun K23 hK23 => ?_)
          refine c_region ?_
          refine tp rfl (lv_move rfl) ?_
          refine tp rfl (lv_move rfl) ?_
          refine tp rfl (lv_len Tryd.underlying22 rfl rfl) ?_
          refine tp rfl (lv_geq rfl rfl (decide_eq_false (by have := filt_lt (f := fl) (us := us) (i := i) (by omega) ‹_›; omega))) ?_
          refine tp rfl (lv_move rfl) ?_
          refine t_guard rfl rfl ?_
          refine tp rfl (lv_move rfl) ?_
          refine t_guard rfl rfl ?_
          refine tp rfl (lv_move rfl) ?_
          refine t_guard rfl rfl ?_
          refine tp rfl (lv_indexAddr (k' := ((us.take i).filter fl).length) Tryd.underlying22 Tryd.sizeOf3 rfl rfl hok23 (by omega) (by have := filt_lt (f := fl) (us := us) (i := i) (by omega) ‹_›; omega) (by omega)) ?_
          refine t_guard rfl rfl ?_
          refine tp rfl (lv_load Tryd.isAgg3 rfl (gives_sl (.head _) (ints_get (by have := filt_lt (f := fl) (us := us) (i := i) (by omega) ‹_›; omega)))) ?_
          refine t_guard rfl rfl ?_
          refine tp rfl (lv_move rfl) ?_
          refine t_guard rfl rfl ?_
          refine tp rfl (lv_neq rfl rfl (bne_eq_false_iff_eq.2 (filt_at (f := fl) (by omega) ‹_›))) ?_
          refine tp rfl (lv_pick_f rfl rfl) ?_
          refine t_done ?_
          refine q_then_n (hK23 _ _ ?_)
          refine c_false rfl ?_
          refine c_skip ?_
          refine q_then_n (hK22 _ _ ?_)
          refine c_region ?_
          refine tp rfl (lv_move rfl) ?_
          refine tp rfl (lv_add (c := ((((us.take i).filter fl).length + 1 : Nat) : Int)) rfl rfl (wr_i64_succ (by omega))) ?_
          refine tp rfl (lv_assign rfl) ?_
          refine t_done ?_
          refine q_in_n ?_
          refine q_then_n (hK14 _ _ ?_)
          refine c_region ?_
          refine tp rfl (lv_move rfl) ?_
          refine tp rfl (lv_add (c := ((i + 1 : Nat) : Int)) rfl rfl (wr_i64_succ (by omega))) ?_
          refine tp rfl (lv_assign rfl) ?_
          refine t_done ?_
          refine q_then_n ?_
          exact t_weak (by exact ⟨rfl, rfl, rfl, rfl, rfl, rfl, rfl, rfl, (by rw [cnt_succ (by omega), c27]; rfl), (by rw [cnt_succ (by omega), c29]; rfl), rfl, trivial⟩) ((hK11 (i + 1) (by omega) (by omega)))
         · -- false
          refine c_skip ?_
          refine q_in_n ?_
          refine q_then_n (hK14 _ _ ?_)
          refine c_region ?_
          refine tp rfl (lv_move rfl) ?_
          refine tp rfl (lv_add (c := ((i + 1 : Nat) : Int)) rfl rfl (wr_i64_succ (by omega))) ?_
          refine tp rfl (lv_assign rfl) ?_
          refine t_done ?_
          refine q_then_n ?_
          exact t_weak (by exact ⟨rfl, rfl, rfl, rfl, rfl, rfl, rfl, rfl, (by rw [cnt_succ (by omega), c27]; rfl), (by rw [cnt_succ (by omega), c29]; rfl), rfl, trivial⟩) ((hK11 (i + 1) (by omega) (by omega)))
    · -- no
      refine tp rfl (lv_geq rfl rfl (decide_eq_false hge)) ?_
      refine tp rfl (lv_move rfl) ?_
      refine t_skip rfl rfl rfl ?_
      refine t_skip rfl rfl rfl ?_
      refine t_skip rfl rfl rfl ?_
      refine t_skip rfl rfl rfl ?_
      refine tp rfl (lv_pick_f rfl rfl) ?_
      refine tp rfl (lv_assign rfl) ?_
      refine t_done ?_
      refine q_then_n (hK16 _ _ ?_)
      refine c_seq (fun K17 hK17 => ?_)
      refine c_region ?_
      refine tp rfl (lv_move rfl) ?_
      refine tp rfl (lv_move rfl) ?_
      refine t_skip rfl rfl rfl ?_
      refine t_skip rfl rfl rfl ?_
      refine t_skip rfl rfl rfl ?_
      refine t_skip rfl rfl rfl ?_
      refine t_skip rfl rfl rfl ?_
      refine t_skip rfl rfl rfl ?_
      refine t_skip rfl rfl rfl ?_
      refine t_skip rfl rfl rfl ?_
      refine t_skip rfl rfl rfl ?_
      refine tp rfl (lv_pick_f rfl rfl) ?_
      refine tp rfl (lv_assign rfl) ?_
      refine t_done ?_
      refine q_then_n (hK17 _ _ ?_)
      refine c_seq (fun K18 hK18 => ?_)
      refine c_region ?_
      refine tp rfl (lv_move rfl) ?_
      refine tp rfl (lv_move rfl) ?_
      refine t_skip rfl rfl rfl ?_
      refine t_skip rfl rfl rfl ?_
      refine t_skip rfl rfl rfl ?_
      refine t_skip rfl rfl rfl ?_
      refine t_skip rfl rfl rfl ?_
      refine t_skip rfl rfl rfl ?_
      refine t_skip rfl rfl rfl ?_
      refine t_skip rfl rfl rfl ?_
      refine t_skip rfl rfl rfl ?_
      refine tp rfl (lv_pick_f rfl rfl) ?_
      refine tp rfl (lv_assign rfl) ?_
      refine t_done ?_
      refine q_then_n (hK18 _ _ ?_)
      refine c_seq (fun K19 hK19 => ?_)
      refine c_seq (fun K20 hK20 => ?_)
      refine c_region ?_
      have hsfs : fs (us.getD i 0) = false := by rw [← hfs]; first | exact fit_eq hge ‹_› | exact fit_no1 hge | exact fit_no2 ‹_›
      have hsfl : fl (us.getD i 0) = false := by rw [← hfl]; first | exact fit_eq hge ‹_› | exact fit_no1 hge | exact fit_no2 ‹_›
      refine tp rfl (lv_move rfl) ?_
      refine t_done ?_
      refine q_then_n (hK20 _ _ ?_)
      refine c_false rfl ?_
      refine c_skip ?_
      refine q_then_n (hK19 _ _ ?_)
      refine c_seq (fun K21 hK21 => ?_)
      refine c_region ?_
      refine tp rfl (lv_move rfl) ?_
      refine t_done ?_
      refine q_then_n (hK21 _ _ ?_)
      refine c_false rfl ?_
      refine c_skip ?_
      refine q_in_n ?_
      refine q_then_n (hK14 _ _ ?_)
      refine c_region ?_
      refine tp rfl (lv_move rfl) ?_
      refine tp rfl (lv_add (c := ((i + 1 : Nat) : Int)) rfl rfl (wr_i64_succ (by omega))) ?_
      refine tp rfl (lv_assign rfl) ?_
      refine t_done ?_
      refine q_then_n ?_
      exact t_weak (by exact ⟨rfl, rfl, rfl, rfl, rfl, rfl, rfl, rfl, (by rw [cnt_succ (by omega), hsfs]; rfl), (by rw [cnt_succ (by omega), hsfl]; rfl), rfl, trivial⟩) ((hK11 (i + 1) (by omega) (by omega)))
  · -- no
    refine tp rfl (lv_lss rfl rfl (decide_eq_false h25)) ?_
    refine t_done ?_
    refine q_then_n (hK13 _ _ ?_)
    refine c_false rfl ?_
    refine c_exit ?_
    refine q_then_x ?_
    refine q_then_x ?_
    refine q_in_x ?_
    refine q_then_n (hK9 _ _ ?_)
    refine c_seq (fun K14 hK14 => ?_)
    refine c_region ?_
    refine tp rfl (lv_move rfl) ?_
    refine tp rfl (lv_move rfl) ?_
    refine t_guard rfl rfl ?_
    refine tp rfl (lv_move rfl) ?_
    refine t_guard rfl rfl ?_
    refine tp rfl (lv_move rfl) ?_
    refine t_guard rfl rfl ?_
    refine tp rfl (lv_len Tryd.underlying22 rfl rfl) ?_
    refine t_guard rfl rfl ?_
    refine tp rfl (lv_eql rfl rfl (beq_iff_eq.2 (by rw [List.take_of_length_le (by omega)]))) ?_
    refine tp rfl (lv_pick_t rfl rfl) ?_
    refine tp rfl (lv_move rfl) ?_
    refine t_guard rfl rfl ?_
    refine tp rfl (lv_move rfl) ?_
    refine t_guard rfl rfl ?_
    refine tp rfl (lv_move rfl) ?_
    refine t_guard rfl rfl ?_
    refine tp rfl (lv_len Tryd.underlying22 rfl rfl) ?_
    refine t_guard rfl rfl ?_
    refine tp rfl (lv_eql rfl rfl (beq_iff_eq.2 (by rw [List.take_of_length_le (by omega)]))) ?_
    refine tp rfl (lv_pick_t rfl rfl) ?_
    refine tp rfl (lv_move rfl) ?_
    refine t_guard rfl rfl ?_
    refine tp rfl (lv_move rfl) ?_
    refine t_guard rfl rfl ?_
    refine tp rfl (lv_move rfl) ?_
    refine t_guard rfl rfl ?_
    refine tp rfl (lv_leq rfl rfl (decide_eq_true (by have := filt_mono (f := fs) (g := fl) (fun x hx => by subst hfs hfl; exact fit_mono x hx) (us.take i); omega))) ?_
    refine tp rfl (lv_pick_t rfl rfl) ?_
    refine tp rfl (lv_move rfl) ?_
    refine t_guard rfl rfl ?_
    refine tp rfl (lv_move rfl) ?_
    refine t_guard rfl rfl ?_
    refine tp rfl (lv_move rfl) ?_
    refine t_guard rfl rfl ?_
    refine tc rfl (en_fn Tryd.call19 rfl) (ints_n us us (by omega) (by omega) (rd_sl (.tail _ (.tail _ (.tail _ (.head _))))) (rd_sl (.tail _ (.tail _ (.head _)))) hok7 hok15 (by omega) (by omega)) ?_
    rintro _ _ ⟨rfl, rfl⟩
    rw [eqI_refl]
    refine tp rfl (lv_pick_t rfl rfl) ?_
    refine tp rfl (lv_assign rfl) ?_
    refine t_done ?_
    refine q_then_n (hK14 _ _ ?_)
    refine c_ret ?_
    refine t_drop ?_
    refine t_drop ?_
    refine t_drop ?_
    refine t_drop ?_
    refine q_ret rfl rfl ?_
    exact ⟨rfl, rfl⟩
end Go.Proofs.YtfoiopbjomaclaaDoor
