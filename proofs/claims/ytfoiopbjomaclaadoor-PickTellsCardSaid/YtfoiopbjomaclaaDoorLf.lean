/- PickTells: the law's walk. -/
import Derived.Test.YtfoiopbjomaclaaDoorRb
set_option maxRecDepth 100000
set_option linter.unusedVariables false
set_option linter.unusedSimpArgs false
namespace Go.Proofs.YtfoiopbjomaclaaDoor
open Go Go.Proofs Sp
set_option maxHeartbeats 20000000 in
theorem tells_law {R : List HP} {bsb : Option Addr} {csb : Nat} (xs : List Int) (hsb : Rd R bsb (ints .i64 xs)) (oksb : SlOk bsb xs.length) (lsb : xs.length ≤ 9223372036854775807) (lcsb : xs.length ≤ csb) {bpb : Option Addr} {cpb : Nat} (ys : List Int) (hpb : Rd R bpb (ints .i64 ys)) (okpb : SlOk bpb ys.length) (lpb : ys.length ≤ 9223372036854775807) (lcpb : ys.length ≤ cpb) (room n : Int) {beb : Option Addr} {ceb : Nat} (es : List (Int × Int)) (heb : Rd R beb (pairs es)) (okeb : SlOk beb es.length) (leb : es.length ≤ 9223372036854775807) (lceb : es.length ≤ ceb) {bab : Option Addr} {cab : Nat} (xa : List (Int × Int)) (hab : Rd R bab (pairs xa)) (okab : SlOk bab xa.length) (lab : xa.length ≤ 9223372036854775807) (lcab : xa.length ≤ cab) {bib : Option Addr} {cib : Nat} (xi : List Int) (hib : Rd R bib (ints .i64 xi)) (okib : SlOk bib xi.length) (lib : xi.length ≤ 9223372036854775807) (lcib : xi.length ≤ cib) {brb : Option Addr} {crb : Nat} (xr : List Int) (hrb : Rd R brb (ints .i64 xr)) (okrb : SlOk brb xr.length) (lrb : xr.length ≤ 9223372036854775807) (lcrb : xr.length ≤ crb) (hT : Tab R) :
    Ok Tryd.prog 3 [(.slice bsb xs.length csb), (.slice bpb ys.length cpb), (.int .i64 room), (.int .i64 n), (.slice beb es.length ceb), (.slice bab xa.length cab), (.slice bib xi.length cib), (.slice brb xr.length crb)] R
      (fun v M => v = .bool true ∧ M = R) := by
  obtain ⟨n1, hn1n⟩ : ∃ n, n = min xs.length 60 := ⟨_, rfl⟩
  obtain ⟨us, husl⟩ : ∃ l, l = xs.take n1 := ⟨_, rfl⟩
  have usn : us.length = n1 := by rw [husl, List.length_take]; omega
  have rdsb : Rd R bsb (ints .i64 us) := by rw [husl]; exact rd_tk_ints n1 hsb
  obtain ⟨n2, hn2n⟩ : ∃ n, n = min ys.length 60 := ⟨_, rfl⟩
  obtain ⟨vs, hvsl⟩ : ∃ l, l = ys.take n2 := ⟨_, rfl⟩
  have vsn : vs.length = n2 := by rw [hvsl, List.length_take]; omega
  have rdpb : Rd R bpb (ints .i64 vs) := by rw [hvsl]; exact rd_tk_ints n2 hpb
  obtain ⟨n3, hn3n⟩ : ∃ n, n = min xa.length 60 := ⟨_, rfl⟩
  obtain ⟨al, hall⟩ : ∃ l, l = xa.take n3 := ⟨_, rfl⟩
  have aln : al.length = n3 := by rw [hall, List.length_take]; omega
  have rdab : Rd R bab (pairs al) := by rw [hall]; exact rd_tk_pairs n3 hab
  obtain ⟨n4, hn4n⟩ : ∃ n, n = min xi.length 20 := ⟨_, rfl⟩
  obtain ⟨il, hill⟩ : ∃ l, l = xi.take n4 := ⟨_, rfl⟩
  have iln : il.length = n4 := by rw [hill, List.length_take]; omega
  have rdib : Rd R bib (ints .i64 il) := by rw [hill]; exact rd_tk_ints n4 hib
  obtain ⟨n5, hn5n⟩ : ∃ n, n = min xr.length 20 := ⟨_, rfl⟩
  obtain ⟨rl, hrll⟩ : ∃ l, l = xr.take n5 := ⟨_, rfl⟩
  have rln : rl.length = n5 := by rw [hrll, List.length_take]; omega
  have rdrb : Rd R brb (ints .i64 rl) := by rw [hrll]; exact rd_tk_ints n5 hrb
  refine ok_of (N := 197) Tryd.func3 rfl rfl rfl (fun W => ?_)
  refine c_seq (fun K1 hK1 => ?_)
  refine c_region ?_
  refine tp rfl (lv_assign rfl) ?_
  refine t_done ?_
  refine q_then_n (hK1 _ _ ?_)
  refine c_seq (fun K2 hK2 => ?_)
  refine c_region ?_
  refine tc rfl (en_fn Tryd.call8 rfl) (shown_ok hT) ?_
  rintro _ _ ⟨rfl, hMR⟩
  rw [hMR]; clear hMR
  refine tp rfl (lv_assign rfl) ?_
  refine t_done ?_
  refine q_then_n (hK2 _ _ ?_)
  refine c_seq (fun K3 hK3 => ?_)
  refine c_region ?_
  refine tp rfl (lv_move rfl) ?_
  refine tp rfl (lv_move rfl) ?_
  refine tp rfl (lv_len Tryd.underlying22 rfl rfl) ?_
  refine tp rfl (lv_min (c := ((n1 : Nat) : Int)) rfl rfl (by omega)) ?_
  refine tp rfl (lv_slice (l := 0) (h := n1) (m := csb) (v := (.slice bsb n1 csb)) Tryd.underlying22 Tryd.sizeOf3 rfl rfl rfl rfl (.inr ⟨rfl, rfl⟩) (.inl ⟨_, _, rfl, (by omega), (by omega), (by omega)⟩) (.inr ⟨rfl, rfl⟩) (by simp) (by rw [sbase_zero]; rfl)) ?_
  refine tp rfl (lv_assign rfl) ?_
  refine t_done ?_
  refine q_then_n (hK3 _ _ ?_)
  refine c_seq (fun K4 hK4 => ?_)
  refine c_region ?_
  refine tp rfl (lv_move rfl) ?_
  refine tp rfl (lv_move rfl) ?_
  refine tp rfl (lv_len Tryd.underlying22 rfl rfl) ?_
  refine tp rfl (lv_min (c := ((n2 : Nat) : Int)) rfl rfl (by omega)) ?_
  refine tp rfl (lv_slice (l := 0) (h := n2) (m := cpb) (v := (.slice bpb n2 cpb)) Tryd.underlying22 Tryd.sizeOf3 rfl rfl rfl rfl (.inr ⟨rfl, rfl⟩) (.inl ⟨_, _, rfl, (by omega), (by omega), (by omega)⟩) (.inr ⟨rfl, rfl⟩) (by simp) (by rw [sbase_zero]; rfl)) ?_
  refine tp rfl (lv_assign rfl) ?_
  refine t_done ?_
  refine q_then_n (hK4 _ _ ?_)
  refine c_seq (fun K5 hK5 => ?_)
  refine c_region ?_
  refine tp rfl (lv_move rfl) ?_
  refine tp rfl (lv_move rfl) ?_
  refine tp rfl (lv_len Tryd.underlying24 rfl rfl) ?_
  refine tp rfl (lv_min (c := ((n3 : Nat) : Int)) rfl rfl (by omega)) ?_
  refine tp rfl (lv_slice (l := 0) (h := n3) (m := cab) (v := (.slice bab n3 cab)) Tryd.underlying24 Tryd.sizeOf51 rfl rfl rfl rfl (.inr ⟨rfl, rfl⟩) (.inl ⟨_, _, rfl, (by omega), (by omega), (by omega)⟩) (.inr ⟨rfl, rfl⟩) (by simp) (by rw [sbase_zero]; rfl)) ?_
  refine tp rfl (lv_assign rfl) ?_
  refine t_done ?_
  refine q_then_n (hK5 _ _ ?_)
  refine c_seq (fun K6 hK6 => ?_)
  refine c_region ?_
  refine tp rfl (lv_move rfl) ?_
  refine tp rfl (lv_move rfl) ?_
  refine tp rfl (lv_len Tryd.underlying22 rfl rfl) ?_
  refine tp rfl (lv_min (c := ((n4 : Nat) : Int)) rfl rfl (by omega)) ?_
  refine tp rfl (lv_slice (l := 0) (h := n4) (m := cib) (v := (.slice bib n4 cib)) Tryd.underlying22 Tryd.sizeOf3 rfl rfl rfl rfl (.inr ⟨rfl, rfl⟩) (.inl ⟨_, _, rfl, (by omega), (by omega), (by omega)⟩) (.inr ⟨rfl, rfl⟩) (by simp) (by rw [sbase_zero]; rfl)) ?_
  refine tp rfl (lv_assign rfl) ?_
  refine t_done ?_
  refine q_then_n (hK6 _ _ ?_)
  refine c_seq (fun K7 hK7 => ?_)
  refine c_region ?_
  refine tp rfl (lv_move rfl) ?_
  refine tp rfl (lv_move rfl) ?_
  refine tp rfl (lv_len Tryd.underlying22 rfl rfl) ?_
  refine tp rfl (lv_min (c := ((n5 : Nat) : Int)) rfl rfl (by omega)) ?_
  refine tp rfl (lv_slice (l := 0) (h := n5) (m := crb) (v := (.slice brb n5 crb)) Tryd.underlying22 Tryd.sizeOf3 rfl rfl rfl rfl (.inr ⟨rfl, rfl⟩) (.inl ⟨_, _, rfl, (by omega), (by omega), (by omega)⟩) (.inr ⟨rfl, rfl⟩) (by simp) (by rw [sbase_zero]; rfl)) ?_
  refine tp rfl (lv_assign rfl) ?_
  refine t_done ?_
  refine q_then_n (hK7 _ _ ?_)
  refine c_seq (fun K8 hK8 => ?_)
  refine c_region ?_
  refine tp rfl (lv_move rfl) ?_
  refine tp rfl (lv_min (c := min n 30) rfl rfl rfl) ?_
  refine tc rfl (en_fn Tryd.call9 rfl) (new_ok (min n 30)) ?_
  rintro _ _ ⟨p1, rfl, rfl⟩
  refine tp rfl (lv_assign rfl) ?_
  refine t_done ?_
  refine q_then_n (hK8 _ _ ?_)
  refine c_seq (fun K9 hK9 => ?_)
  refine c_region ?_
  refine tp rfl (lv_move rfl) ?_
  refine tp rfl (lv_min (c := min n 30) rfl rfl rfl) ?_
  refine tc rfl (en_fn Tryd.call10 rfl) (rnew_ok (min n 30)) ?_
  rintro _ _ ⟨p2, rfl, rfl⟩
  refine tp rfl (lv_assign rfl) ?_
  refine t_done ?_
  refine q_then_n (hK9 _ _ ?_)
  refine c_seq (fun K10 hK10 => ?_)
  refine c_seq (fun K11 hK11 => ?_)
  refine c_region ?_
  refine tp rfl (lv_move rfl) ?_
  refine tp rfl (lv_eqnil Tryd.underlying26 rfl rfl) ?_
  refine t_done ?_
  refine q_then_n (hK11 _ _ ?_)
  refine c_false rfl ?_
  refine c_skip ?_
  refine q_then_n (hK10 _ _ ?_)
  refine c_seq (fun K12 hK12 => ?_)
  refine c_seq (fun K13 hK13 => ?_)
  refine c_region ?_
  refine tp rfl (lv_assign rfl) ?_
  refine t_done ?_
  refine q_then_n (hK13 _ _ ?_)
  refine c_block ?_
  refine c_loop (γ := (Nat)) (fun (k : Nat) => k ≤ es.length ∧ k ≤ 100) (fun (k : Nat) => [(0, (.slice bsb n1 csb)), (1, (.slice bpb n2 cpb)), (2, (.int .i64 room)), (3, (.int .i64 n)), (4, (.slice beb es.length ceb)), (5, (.slice bab n3 cab)), (6, (.slice bib n4 cib)), (7, (.slice brb n5 crb)), (16, (.bool false)), (17, (.bool true)), (18, (.pointer (some ⟨p1, 0, none⟩))), (19, (.pointer (some ⟨p2, 0, none⟩))), (20, (.int .i64 ((k : Nat) : Int))), (65, (.bool false))]) (fun (k : Nat) => (RefO p2 (clampN (min n 30)) (madeE (clampN (min n 30)) (es.take k))) :: (GraphO p1 (clampN (min n 30)) (madeE (clampN (min n 30)) (es.take k))) :: R) (fun (k : Nat) => es.length - k) (0) ⟨by omega, by omega⟩ ⟨rfl, rfl, rfl, rfl, rfl, rfl, rfl, rfl, rfl, rfl, rfl, rfl, rfl, rfl, trivial⟩ (fun _ h => h) ?_
  rintro k K14 hF hK14
  try dsimp only at hF hK14 ⊢
  obtain ⟨hk, hk2⟩ := hF
  have hE : (madeE (clampN (min n 30)) (es.take k)).length ≤ 1000 := by have := madeE_len (clampN (min n 30)) (es.take k); have h2 : (es.take k).length ≤ k := (by rw [List.length_take]; omega); omega
  have hg : GOk (clampN (min n 30)) (madeE (clampN (min n 30)) (es.take k)) := GOk.made (clampN_le _) _
  refine c_seq (fun K15 hK15 => ?_)
  refine c_seq (fun K16 hK16 => ?_)
  refine c_region ?_
  by_cases hc3 : ((k : Nat) : Int) < ((es.length : Nat) : Int) ∧ ((k : Nat) : Int) < 100
  · -- both
    have hc3a := hc3.1
    have hc3b := hc3.2
    refine tp rfl (lv_move rfl) ?_
    refine tp rfl (lv_move rfl) ?_
    refine tp rfl (lv_len Tryd.underlying23 rfl rfl) ?_
    refine tp rfl (lv_lss rfl rfl (decide_eq_true hc3.1)) ?_
    refine tp rfl (lv_move rfl) ?_
    refine t_guard rfl rfl ?_
    refine tp rfl (lv_move rfl) ?_
    refine t_guard rfl rfl ?_
    refine tp rfl (lv_lss rfl rfl (decide_eq_true hc3.2)) ?_
    refine tp rfl (lv_pick_t rfl rfl) ?_
    refine t_done ?_
    refine q_then_n (hK16 _ _ ?_)
    refine c_true rfl ?_
    refine c_skip ?_
    refine q_then_n (hK15 _ _ ?_)
    refine c_seq (fun K17 hK17 => ?_)
    refine c_block ?_
    refine c_seq (fun K18 hK18 => ?_)
    refine c_draw (γ := Unit) (n := 12) Tryd.mixed rfl rfl (fun _ S => True) (fun _ => [(0, 76, (.pointer (some ⟨p1, 0, none⟩))), (1, 77, (.slice beb es.length ceb)), (2, 78, (.int .i64 ((k : Nat) : Int))), (3, 79, (.pointer (some (ad beb (k * 2))))), (4, 80, (.pointer (some (ad beb (k * 2))))), (5, 81, (.int .i64 (((es).getD k (0, 0)).1))), (6, 82, (.slice beb es.length ceb)), (7, 83, (.int .i64 ((k : Nat) : Int))), (8, 84, (.pointer (some (ad beb (k * 2))))), (9, 85, (.pointer (some (ad beb (k * 2 + 1))))), (10, 86, (.int .i64 (((es).getD k (0, 0)).2))), (11, 87, (.tuple #[(.bool (isNew (clampN (min n 30)) (madeE (clampN (min n 30)) (es.take k)) (((es).getD k (0, 0)).1) (((es).getD k (0, 0)).2))), (.int .i64 (addErr (clampN (min n 30)) (((es).getD k (0, 0)).1) (((es).getD k (0, 0)).2)))]))]) (fun _ S => (RefO p2 (clampN (min n 30)) (madeE (clampN (min n 30)) (es.take k))) :: (bif S 11 then (GraphO p1 (clampN (min n 30)) (addE (clampN (min n 30)) (madeE (clampN (min n 30)) (es.take k)) (((es).getD k (0, 0)).1) (((es).getD k (0, 0)).2))) else (GraphO p1 (clampN (min n 30)) (madeE (clampN (min n 30)) (es.take k)))) :: R) (()) trivial (fun _ h => h) (fun _ _ h => h) ?_ ?_
    · -- steps
      refine ⟨?_, ?_, ?_, ?_, ?_, ?_, ?_, ?_, ?_, ?_, ?_, ?_, trivial⟩
      · -- 0
        rintro _ S hF hS D hp K hK
        try dsimp only at hF ⊢
        refine d_need (small := [(18, (.pointer (some ⟨p1, 0, none⟩)))]) ⟨look_b rfl rfl, trivial⟩ ?_
        refine tp rfl (lv_move rfl) ?_
        exact d_closes ⟨look_b rfl rfl, trivial⟩ 0 rfl rfl rfl hS (AgreeR.refl _) (t_sat (fun _ h => h) (hK () trivial))
      · -- 1
        rintro _ S hF hS D hp K hK
        try dsimp only at hF ⊢
        refine d_need (small := [(4, (.slice beb es.length ceb))]) ⟨look_b rfl rfl, trivial⟩ ?_
        refine tp rfl (lv_move rfl) ?_
        exact d_closes ⟨look_b rfl rfl, trivial⟩ 1 rfl rfl rfl hS (AgreeR.refl _) (t_sat (fun _ h => h) (hK () trivial))
      · -- 2
        rintro _ S hF hS D hp K hK
        try dsimp only at hF ⊢
        refine d_need (small := [(20, (.int .i64 ((k : Nat) : Int)))]) ⟨look_b rfl rfl, trivial⟩ ?_
        refine tp rfl (lv_move rfl) ?_
        exact d_closes ⟨look_b rfl rfl, trivial⟩ 2 rfl rfl rfl hS (AgreeR.refl _) (t_sat (fun _ h => h) (hK () trivial))
      · -- 3
        rintro _ S hF hS D hp K hK
        try dsimp only at hF ⊢
        have s1 := hp 1 rfl
        have s2 := hp 2 rfl
        refine d_need (small := [(77, (.slice beb es.length ceb)), (78, (.int .i64 ((k : Nat) : Int)))]) ⟨look_row rfl 1 rfl s1, look_row rfl 2 rfl s2, trivial⟩ ?_
        refine tp rfl (lv_indexAddr (k' := k * 2) Tryd.underlying23 Tryd.sizeOf34 rfl rfl okeb (by omega) (by omega) (by omega)) ?_
        exact d_closes ⟨look_row rfl 1 rfl s1, look_row rfl 2 rfl s2, trivial⟩ 3 rfl rfl rfl hS (AgreeR.refl _) (t_sat (fun _ h => h) (hK () trivial))
      · -- 4
        rintro _ S hF hS D hp K hK
        try dsimp only at hF ⊢
        have s3 := hp 3 rfl
        refine d_need (small := [(79, (.pointer (some (ad beb (k * 2)))))]) ⟨look_row rfl 3 rfl s3, trivial⟩ ?_
        refine tp rfl (lv_fieldAddr_ad (o' := k * 2) Tryd.underlying34 rfl Tryd.sizeOf3 rfl rfl) ?_
        exact d_closes ⟨look_row rfl 3 rfl s3, trivial⟩ 4 rfl rfl rfl hS (AgreeR.refl _) (t_sat (fun _ h => h) (hK () trivial))
      · -- 5
        rintro _ S hF hS D hp K hK
        try dsimp only at hF ⊢
        have s4 := hp 4 rfl
        refine d_need (small := [(80, (.pointer (some (ad beb (k * 2)))))]) ⟨look_row rfl 4 rfl s4, trivial⟩ ?_
        refine tp rfl (lv_load Tryd.isAgg3 rfl (Rd.gives (Rd.cons (Rd.cons heb)) (pairs_get0 (by omega)))) ?_
        exact d_closes ⟨look_row rfl 4 rfl s4, trivial⟩ 5 rfl rfl rfl hS (AgreeR.refl _) (t_sat (fun _ h => h) (hK () trivial))
      · -- 6
        rintro _ S hF hS D hp K hK
        try dsimp only at hF ⊢
        refine d_need (small := [(4, (.slice beb es.length ceb))]) ⟨look_b rfl rfl, trivial⟩ ?_
        refine tp rfl (lv_move rfl) ?_
        exact d_closes ⟨look_b rfl rfl, trivial⟩ 6 rfl rfl rfl hS (AgreeR.refl _) (t_sat (fun _ h => h) (hK () trivial))
      · -- 7
        rintro _ S hF hS D hp K hK
        try dsimp only at hF ⊢
        refine d_need (small := [(20, (.int .i64 ((k : Nat) : Int)))]) ⟨look_b rfl rfl, trivial⟩ ?_
        refine tp rfl (lv_move rfl) ?_
        exact d_closes ⟨look_b rfl rfl, trivial⟩ 7 rfl rfl rfl hS (AgreeR.refl _) (t_sat (fun _ h => h) (hK () trivial))
      · -- 8
        rintro _ S hF hS D hp K hK
        try dsimp only at hF ⊢
        have s6 := hp 6 rfl
        have s7 := hp 7 rfl
        refine d_need (small := [(82, (.slice beb es.length ceb)), (83, (.int .i64 ((k : Nat) : Int)))]) ⟨look_row rfl 6 rfl s6, look_row rfl 7 rfl s7, trivial⟩ ?_
        refine tp rfl (lv_indexAddr (k' := k * 2) Tryd.underlying23 Tryd.sizeOf34 rfl rfl okeb (by omega) (by omega) (by omega)) ?_
        exact d_closes ⟨look_row rfl 6 rfl s6, look_row rfl 7 rfl s7, trivial⟩ 8 rfl rfl rfl hS (AgreeR.refl _) (t_sat (fun _ h => h) (hK () trivial))
      · -- 9
        rintro _ S hF hS D hp K hK
        try dsimp only at hF ⊢
        have s8 := hp 8 rfl
        refine d_need (small := [(84, (.pointer (some (ad beb (k * 2)))))]) ⟨look_row rfl 8 rfl s8, trivial⟩ ?_
        refine tp rfl (lv_fieldAddr_ad (o' := k * 2 + 1) Tryd.underlying34 rfl Tryd.sizeOf3 rfl rfl) ?_
        exact d_closes ⟨look_row rfl 8 rfl s8, trivial⟩ 9 rfl rfl rfl hS (AgreeR.refl _) (t_sat (fun _ h => h) (hK () trivial))
      · -- 10
        rintro _ S hF hS D hp K hK
        try dsimp only at hF ⊢
        have s9 := hp 9 rfl
        refine d_need (small := [(85, (.pointer (some (ad beb (k * 2 + 1)))))]) ⟨look_row rfl 9 rfl s9, trivial⟩ ?_
        refine tp rfl (lv_load Tryd.isAgg3 rfl (Rd.gives (Rd.cons (Rd.cons heb)) (pairs_get1 (by omega)))) ?_
        exact d_closes ⟨look_row rfl 9 rfl s9, trivial⟩ 10 rfl rfl rfl hS (AgreeR.refl _) (t_sat (fun _ h => h) (hK () trivial))
      · -- 11
        rintro _ S hF hS D hp K hK
        try dsimp only at hF ⊢
        have s0 := hp 0 rfl
        have s5 := hp 5 rfl
        have s10 := hp 10 rfl
        refine d_need (small := [(76, (.pointer (some ⟨p1, 0, none⟩))), (81, (.int .i64 (((es).getD k (0, 0)).1))), (86, (.int .i64 (((es).getD k (0, 0)).2)))]) ⟨look_row rfl 0 rfl s0, look_row rfl 5 rfl s5, look_row rfl 10 rfl s10, trivial⟩ ?_
        refine t_f1 ?_
        refine t_cF hS ?_
        refine tc rfl (en_fn Tryd.call11 rfl) (add_ok (N := clampN (min n 30)) (es := madeE (clampN (min n 30)) (es.take k)) (((es).getD k (0, 0)).1) (((es).getD k (0, 0)).2)) ?_
        rintro _ _ ⟨rfl, rfl⟩
        refine t_f1 ?_
        exact d_closes ⟨look_row rfl 0 rfl s0, look_row rfl 5 rfl s5, look_row rfl 10 rfl s10, trivial⟩ 11 rfl rfl rfl hS (AgreeR.refl _) (t_sat (fun _ h => h) (hK () trivial))
    · -- behind
      rintro _ hF
      try dsimp only at hF ⊢
      refine t_weak (E' := [(0, (.slice bsb n1 csb)), (1, (.slice bpb n2 cpb)), (2, (.int .i64 room)), (3, (.int .i64 n)), (4, (.slice beb es.length ceb)), (5, (.slice bab n3 cab)), (6, (.slice bib n4 cib)), (7, (.slice brb n5 crb)), (16, (.bool false)), (17, (.bool true)), (18, (.pointer (some ⟨p1, 0, none⟩))), (19, (.pointer (some ⟨p2, 0, none⟩))), (20, (.int .i64 ((k : Nat) : Int))), (65, (.bool false)), (73, (.bool true))]) ⟨rfl, rfl, rfl, rfl, rfl, rfl, rfl, rfl, rfl, rfl, rfl, rfl, rfl, rfl, rfl, trivial⟩ ?_
      refine q_then_n (hK18 _ _ ?_)
      refine c_draw (γ := Unit) (n := 12) Tryd.mixed rfl rfl (fun _ S => True) (fun _ => [(0, 88, (.pointer (some ⟨p2, 0, none⟩))), (1, 89, (.slice beb es.length ceb)), (2, 90, (.int .i64 ((k : Nat) : Int))), (3, 91, (.pointer (some (ad beb (k * 2))))), (4, 92, (.pointer (some (ad beb (k * 2))))), (5, 93, (.int .i64 (((es).getD k (0, 0)).1))), (6, 94, (.slice beb es.length ceb)), (7, 95, (.int .i64 ((k : Nat) : Int))), (8, 96, (.pointer (some (ad beb (k * 2))))), (9, 97, (.pointer (some (ad beb (k * 2 + 1))))), (10, 98, (.int .i64 (((es).getD k (0, 0)).2))), (11, 99, (.tuple #[(.bool (isNew (clampN (min n 30)) (madeE (clampN (min n 30)) (es.take k)) (((es).getD k (0, 0)).1) (((es).getD k (0, 0)).2))), (.int .i64 (addErr (clampN (min n 30)) (((es).getD k (0, 0)).1) (((es).getD k (0, 0)).2)))]))]) (fun _ S => (bif S 11 then (RefO p2 (clampN (min n 30)) (addE (clampN (min n 30)) (madeE (clampN (min n 30)) (es.take k)) (((es).getD k (0, 0)).1) (((es).getD k (0, 0)).2))) else (RefO p2 (clampN (min n 30)) (madeE (clampN (min n 30)) (es.take k)))) :: (GraphO p1 (clampN (min n 30)) (addE (clampN (min n 30)) (madeE (clampN (min n 30)) (es.take k)) (((es).getD k (0, 0)).1) (((es).getD k (0, 0)).2))) :: R) (()) trivial (fun _ h => h) (fun _ _ h => h) ?_ ?_
      · -- steps
        refine ⟨?_, ?_, ?_, ?_, ?_, ?_, ?_, ?_, ?_, ?_, ?_, ?_, trivial⟩
        · -- 0
         rintro _ S hF hS D hp K hK
         try dsimp only at hF ⊢
         refine d_need (small := [(19, (.pointer (some ⟨p2, 0, none⟩)))]) ⟨look_b rfl rfl, trivial⟩ ?_
         refine tp rfl (lv_move rfl) ?_
         exact d_closes ⟨look_b rfl rfl, trivial⟩ 0 rfl rfl rfl hS (AgreeR.refl _) (t_sat (fun _ h => h) (hK () trivial))
        · -- 1
         rintro _ S hF hS D hp K hK
         try dsimp only at hF ⊢
         refine d_need (small := [(4, (.slice beb es.length ceb))]) ⟨look_b rfl rfl, trivial⟩ ?_
         refine tp rfl (lv_move rfl) ?_
         exact d_closes ⟨look_b rfl rfl, trivial⟩ 1 rfl rfl rfl hS (AgreeR.refl _) (t_sat (fun _ h => h) (hK () trivial))
        · -- 2
         rintro _ S hF hS D hp K hK
         try dsimp only at hF ⊢
         refine d_need (small := [(20, (.int .i64 ((k : Nat) : Int)))]) ⟨look_b rfl rfl, trivial⟩ ?_
         refine tp rfl (lv_move rfl) ?_
         exact d_closes ⟨look_b rfl rfl, trivial⟩ 2 rfl rfl rfl hS (AgreeR.refl _) (t_sat (fun _ h => h) (hK () trivial))
        · -- 3
         rintro _ S hF hS D hp K hK
         try dsimp only at hF ⊢
         have s1 := hp 1 rfl
         have s2 := hp 2 rfl
         refine d_need (small := [(89, (.slice beb es.length ceb)), (90, (.int .i64 ((k : Nat) : Int)))]) ⟨look_row rfl 1 rfl s1, look_row rfl 2 rfl s2, trivial⟩ ?_
         refine tp rfl (lv_indexAddr (k' := k * 2) Tryd.underlying23 Tryd.sizeOf34 rfl rfl okeb (by omega) (by omega) (by omega)) ?_
         exact d_closes ⟨look_row rfl 1 rfl s1, look_row rfl 2 rfl s2, trivial⟩ 3 rfl rfl rfl hS (AgreeR.refl _) (t_sat (fun _ h => h) (hK () trivial))
        · -- 4
         rintro _ S hF hS D hp K hK
         try dsimp only at hF ⊢
         have s3 := hp 3 rfl
         refine d_need (small := [(91, (.pointer (some (ad beb (k * 2)))))]) ⟨look_row rfl 3 rfl s3, trivial⟩ ?_
         refine tp rfl (lv_fieldAddr_ad (o' := k * 2) Tryd.underlying34 rfl Tryd.sizeOf3 rfl rfl) ?_
         exact d_closes ⟨look_row rfl 3 rfl s3, trivial⟩ 4 rfl rfl rfl hS (AgreeR.refl _) (t_sat (fun _ h => h) (hK () trivial))
        · -- 5
         rintro _ S hF hS D hp K hK
         try dsimp only at hF ⊢
         have s4 := hp 4 rfl
         refine d_need (small := [(92, (.pointer (some (ad beb (k * 2)))))]) ⟨look_row rfl 4 rfl s4, trivial⟩ ?_
         refine tp rfl (lv_load Tryd.isAgg3 rfl (Rd.gives (Rd.cons (Rd.cons heb)) (pairs_get0 (by omega)))) ?_
         exact d_closes ⟨look_row rfl 4 rfl s4, trivial⟩ 5 rfl rfl rfl hS (AgreeR.refl _) (t_sat (fun _ h => h) (hK () trivial))
        · -- 6
         rintro _ S hF hS D hp K hK
         try dsimp only at hF ⊢
         refine d_need (small := [(4, (.slice beb es.length ceb))]) ⟨look_b rfl rfl, trivial⟩ ?_
         refine tp rfl (lv_move rfl) ?_
         exact d_closes ⟨look_b rfl rfl, trivial⟩ 6 rfl rfl rfl hS (AgreeR.refl _) (t_sat (fun _ h => h) (hK () trivial))
        · -- 7
         rintro _ S hF hS D hp K hK
         try dsimp only at hF ⊢
         refine d_need (small := [(20, (.int .i64 ((k : Nat) : Int)))]) ⟨look_b rfl rfl, trivial⟩ ?_
         refine tp rfl (lv_move rfl) ?_
         exact d_closes ⟨look_b rfl rfl, trivial⟩ 7 rfl rfl rfl hS (AgreeR.refl _) (t_sat (fun _ h => h) (hK () trivial))
        · -- 8
         rintro _ S hF hS D hp K hK
         try dsimp only at hF ⊢
         have s6 := hp 6 rfl
         have s7 := hp 7 rfl
         refine d_need (small := [(94, (.slice beb es.length ceb)), (95, (.int .i64 ((k : Nat) : Int)))]) ⟨look_row rfl 6 rfl s6, look_row rfl 7 rfl s7, trivial⟩ ?_
         refine tp rfl (lv_indexAddr (k' := k * 2) Tryd.underlying23 Tryd.sizeOf34 rfl rfl okeb (by omega) (by omega) (by omega)) ?_
         exact d_closes ⟨look_row rfl 6 rfl s6, look_row rfl 7 rfl s7, trivial⟩ 8 rfl rfl rfl hS (AgreeR.refl _) (t_sat (fun _ h => h) (hK () trivial))
        · -- 9
         rintro _ S hF hS D hp K hK
         try dsimp only at hF ⊢
         have s8 := hp 8 rfl
         refine d_need (small := [(96, (.pointer (some (ad beb (k * 2)))))]) ⟨look_row rfl 8 rfl s8, trivial⟩ ?_
         refine tp rfl (lv_fieldAddr_ad (o' := k * 2 + 1) Tryd.underlying34 rfl Tryd.sizeOf3 rfl rfl) ?_
         exact d_closes ⟨look_row rfl 8 rfl s8, trivial⟩ 9 rfl rfl rfl hS (AgreeR.refl _) (t_sat (fun _ h => h) (hK () trivial))
        · -- 10
         rintro _ S hF hS D hp K hK
         try dsimp only at hF ⊢
         have s9 := hp 9 rfl
         refine d_need (small := [(97, (.pointer (some (ad beb (k * 2 + 1)))))]) ⟨look_row rfl 9 rfl s9, trivial⟩ ?_
         refine tp rfl (lv_load Tryd.isAgg3 rfl (Rd.gives (Rd.cons (Rd.cons heb)) (pairs_get1 (by omega)))) ?_
         exact d_closes ⟨look_row rfl 9 rfl s9, trivial⟩ 10 rfl rfl rfl hS (AgreeR.refl _) (t_sat (fun _ h => h) (hK () trivial))
        · -- 11
         rintro _ S hF hS D hp K hK
         try dsimp only at hF ⊢
         have s0 := hp 0 rfl
         have s5 := hp 5 rfl
         have s10 := hp 10 rfl
         refine d_need (small := [(88, (.pointer (some ⟨p2, 0, none⟩))), (93, (.int .i64 (((es).getD k (0, 0)).1))), (98, (.int .i64 (((es).getD k (0, 0)).2)))]) ⟨look_row rfl 0 rfl s0, look_row rfl 5 rfl s5, look_row rfl 10 rfl s10, trivial⟩ ?_
         refine t_cF hS ?_
         refine tc rfl (en_fn Tryd.call12 rfl) (radd_ok (N := clampN (min n 30)) (es := madeE (clampN (min n 30)) (es.take k)) (((es).getD k (0, 0)).1) (((es).getD k (0, 0)).2) hE) ?_
         rintro _ _ ⟨rfl, rfl⟩
         exact d_closes ⟨look_row rfl 0 rfl s0, look_row rfl 5 rfl s5, look_row rfl 10 rfl s10, trivial⟩ 11 rfl rfl rfl hS (AgreeR.refl _) (t_sat (fun _ h => h) (hK () trivial))
      · -- behind
        rintro _ hF
        try dsimp only at hF ⊢
        refine t_weak (E' := [(0, (.slice bsb n1 csb)), (1, (.slice bpb n2 cpb)), (2, (.int .i64 room)), (3, (.int .i64 n)), (4, (.slice beb es.length ceb)), (5, (.slice bab n3 cab)), (6, (.slice bib n4 cib)), (7, (.slice brb n5 crb)), (16, (.bool false)), (17, (.bool true)), (18, (.pointer (some ⟨p1, 0, none⟩))), (19, (.pointer (some ⟨p2, 0, none⟩))), (20, (.int .i64 ((k : Nat) : Int))), (65, (.bool false)), (73, (.bool true))]) ⟨rfl, rfl, rfl, rfl, rfl, rfl, rfl, rfl, rfl, rfl, rfl, rfl, rfl, rfl, rfl, trivial⟩ ?_
        refine q_in_n ?_
        refine q_then_n (hK17 _ _ ?_)
        refine c_region ?_
        refine tp rfl (lv_move rfl) ?_
        refine tp rfl (lv_add (c := ((k + 1 : Nat) : Int)) rfl rfl (wr_i64_succ (by omega))) ?_
        refine tp rfl (lv_assign rfl) ?_
        refine t_done ?_
        refine q_then_n ?_
        rw [show addE (clampN (min n 30)) (madeE (clampN (min n 30)) (es.take k)) (((es).getD k (0, 0)).1) (((es).getD k (0, 0)).2) = madeE (clampN (min n 30)) (es.take (k + 1)) from (madeE_succ (by omega)).symm]
        exact t_weak (by exact ⟨rfl, rfl, rfl, rfl, rfl, rfl, rfl, rfl, rfl, rfl, rfl, rfl, rfl, rfl, trivial⟩) ((hK14 (k + 1) ⟨by omega, by omega⟩ (by omega)))
  · -- not both
    refine t_cut0 (E' := [(0, (.slice bsb n1 csb)), (1, (.slice bpb n2 cpb)), (2, (.int .i64 room)), (3, (.int .i64 n)), (4, (.slice beb es.length ceb)), (5, (.slice bab n3 cab)), (6, (.slice bib n4 cib)), (7, (.slice brb n5 crb)), (16, (.bool false)), (17, (.bool true)), (18, (.pointer (some ⟨p1, 0, none⟩))), (19, (.pointer (some ⟨p2, 0, none⟩))), (20, (.int .i64 ((k : Nat) : Int))), (65, (.bool false)), (73, (.bool false))]) ?_ (fun KK hKK => ?_)
    ·
      refine q_then_n (hK16 _ _ ?_)
      refine c_false rfl ?_
      refine c_exit ?_
      refine q_then_x ?_
      refine q_then_x ?_
      refine q_in_x ?_
      refine q_then_n (hK12 _ _ ?_)
      refine c_seq (fun K17 hK17 => ?_)
      refine c_region ?_
      obtain ⟨EE, hEE⟩ : ∃ x, madeE (clampN (min n 30)) (es.take k) = x := ⟨_, rfl⟩
      rw [hEE] at hE hg ⊢
      obtain ⟨N, hN⟩ : ∃ x, clampN (min n 30) = x := ⟨_, rfl⟩
      rw [hN] at hg ⊢
      obtain ⟨m, hm⟩ : ∃ m, m = min n1 n2 := ⟨_, rfl⟩
      have hbl := bestN_len us vs m
      refine tp rfl (lv_move rfl) ?_
      refine tp rfl (lv_move rfl) ?_
      refine tc rfl (en_fn Tryd.call13 rfl) (best_ok (m := m) us vs (by first | rfl | omega | (simp; done) | (simp; omega)) (by first | rfl | omega | (simp; done) | (simp; omega)) (by first | rfl | omega | (simp; done) | (simp; omega)) (Rd.cons (Rd.cons rdsb)) (Rd.cons (Rd.cons rdpb)) (fun hz => oksb (by omega)) (fun hz => okpb (by omega)) (by first | omega | (simp; omega) | (simp; done)) (by first | omega | (simp; omega) | (simp; done)) (by first | omega | (simp; omega))) ?_
      rintro _ _ ⟨bs4, cp5, hok6, hle7, rfl, rfl⟩
      refine tp rfl (lv_move rfl) ?_
      refine tp rfl (lv_extract rfl rfl) ?_
      refine tp rfl (lv_extract rfl rfl) ?_
      refine tp rfl (lv_assign rfl) ?_
      refine tp rfl (lv_assign rfl) ?_
      refine t_done ?_
      refine q_then_n (hK17 _ _ ?_)
      refine c_seq (fun K18 hK18 => ?_)
      refine c_region ?_
      refine tp rfl (lv_move rfl) ?_
      refine tp rfl (lv_move rfl) ?_
      refine tc rfl (en_fn Tryd.call14 rfl) (rbest_ok (m := m) us vs (by first | rfl | omega | (simp; done) | (simp; omega)) (by first | rfl | omega | (simp; done) | (simp; omega)) (by first | rfl | omega | (simp; done) | (simp; omega)) (Rd.cons (Rd.cons (Rd.cons rdsb))) (Rd.cons (Rd.cons (Rd.cons rdpb))) (fun hz => oksb (by omega)) (fun hz => okpb (by omega)) (by first | omega | (simp; omega) | (simp; done)) (by first | omega | (simp; omega) | (simp; done)) (by first | omega | (simp; omega))) ?_
      rintro _ _ ⟨bs8, cp9, hok10, hle11, rfl, rfl⟩
      refine tp rfl (lv_move rfl) ?_
      refine tp rfl (lv_extract rfl rfl) ?_
      refine tp rfl (lv_extract rfl rfl) ?_
      refine tp rfl (lv_assign rfl) ?_
      refine tp rfl (lv_assign rfl) ?_
      refine t_done ?_
      refine q_then_n (hK18 _ _ ?_)
      refine c_seq (fun K19 hK19 => ?_)
      refine c_region ?_
      obtain ⟨p0, hp0⟩ : ∃ x, (bestN us vs m).1 = x := ⟨_, rfl⟩
      rw [hp0]
      obtain ⟨L, hL⟩ : ∃ x, (bestN us vs m).2 = x := ⟨_, rfl⟩
      rw [hL] at hbl hok6 hle7 hok10 hle11 ⊢
      refine tp rfl (lv_move rfl) ?_
      refine tp rfl (lv_move rfl) ?_
      refine tp rfl (lv_move rfl) ?_
      refine tc rfl (en_fn Tryd.call15 rfl) (fits_n (n := n3) L al room (by first | rfl | omega | (simp; done) | (simp; omega)) (by first | rfl | omega | (simp; done) | (simp; omega)) (rd_sl (.tail _ (.head _))) (Rd.cons (Rd.cons (Rd.cons (Rd.cons rdab)))) hok6 (fun hz => okab (by omega)) (by first | omega | (simp; omega) | (simp; done))) ?_
      rintro _ _ ⟨bs12, cp13, hok14, hle15, rfl, rfl⟩
      refine tp rfl (lv_assign rfl) ?_
      refine t_done ?_
      refine q_then_n (hK19 _ _ ?_)
      refine c_seq (fun K20 hK20 => ?_)
      refine c_region ?_
      refine tp rfl (lv_move rfl) ?_
      refine tp rfl (lv_move rfl) ?_
      refine tp rfl (lv_move rfl) ?_
      refine tc rfl (en_fn Tryd.call16 rfl) (rfits_ok (n := n3) L al room (by first | rfl | omega | (simp; done) | (simp; omega)) (by first | rfl | omega | (simp; done) | (simp; omega)) (rd_sl (.tail _ (.head _))) (Rd.cons (Rd.cons (Rd.cons (Rd.cons (Rd.cons rdab))))) hok10 (fun hz => okab (by omega)) (by first | omega | (simp; omega) | (simp; done))) ?_
      rintro _ _ ⟨bs16, cp17, hok18, hle19, rfl, rfl⟩
      refine tp rfl (lv_assign rfl) ?_
      refine t_done ?_
      refine q_then_n (hK20 _ _ ?_)
      refine c_seq (fun K21 hK21 => ?_)
      refine c_region ?_
      have hfl := List.length_filter_le (fitB n3 al room) L
      obtain ⟨F, hF⟩ : ∃ x, L.filter (fitB n3 al room) = x := ⟨_, rfl⟩
      rw [hF] at hfl hok14 hle15 hok18 hle19 ⊢
      obtain ⟨m1, hm1⟩ : ∃ m, m = min n4 n5 := ⟨_, rfl⟩
      have hwl := wantN_len n3 N EE al F il rl m1
      refine tp rfl (lv_move rfl) ?_
      refine tp rfl (lv_move rfl) ?_
      refine tp rfl (lv_move rfl) ?_
      refine tp rfl (lv_move rfl) ?_
      refine tp rfl (lv_move rfl) ?_
      refine t_f5 ?_
      refine tc rfl (en_fn Tryd.call17 rfl) (wants_ok (n := n3) (m1 := m1) F al il rl (by first | rfl | omega | (simp; done) | (simp; omega)) (by first | rfl | omega | (simp; done) | (simp; omega)) (by first | rfl | omega | (simp; done) | (simp; omega)) (by first | rfl | omega | (simp; done) | (simp; omega)) (by first | rfl | omega | (simp; done) | (simp; omega)) (rd_sl (.tail _ (.head _))) (Rd.cons (Rd.cons (Rd.cons (Rd.cons (Rd.cons rdab))))) (Rd.cons (Rd.cons (Rd.cons (Rd.cons (Rd.cons rdib))))) (Rd.cons (Rd.cons (Rd.cons (Rd.cons (Rd.cons rdrb))))) hok14 (fun hz => okab (by omega)) (fun hz => okib (by omega)) (fun hz => okrb (by omega)) (by first | omega | (simp; omega) | (simp; done)) (by first | omega | (simp; omega) | (simp; done)) (by first | omega | (simp; omega)) (Tab.cons (Tab.cons (Tab.cons (Tab.cons (Tab.cons hT)))))) ?_
      rintro _ _ ⟨bs20, cp21, bs22, cp23, hok24, hle25, hok26, hle27, rfl, rfl⟩
      refine tp rfl (lv_move rfl) ?_
      refine tp rfl (lv_extract rfl rfl) ?_
      refine tp rfl (lv_extract rfl rfl) ?_
      refine tp rfl (lv_assign rfl) ?_
      refine tp rfl (lv_assign rfl) ?_
      refine t_done ?_
      refine q_then_n (hK21 _ _ ?_)
      refine c_seq (fun K22 hK22 => ?_)
      refine c_region ?_
      refine tp rfl (lv_move rfl) ?_
      refine tp rfl (lv_move rfl) ?_
      refine tp rfl (lv_move rfl) ?_
      refine tp rfl (lv_move rfl) ?_
      refine tp rfl (lv_move rfl) ?_
      refine t_f7 ?_
      refine tc rfl (en_fn Tryd.call18 rfl) (rwants_ok (n := n3) (m1 := m1) F al il rl (by first | rfl | omega | (simp; done) | (simp; omega)) (by first | rfl | omega | (simp; done) | (simp; omega)) (by first | rfl | omega | (simp; done) | (simp; omega)) (by first | rfl | omega | (simp; done) | (simp; omega)) (by first | rfl | omega | (simp; done) | (simp; omega)) (rd_sl (.tail _ (.tail _ (.tail _ (.head _))))) (Rd.cons (Rd.cons (Rd.cons (Rd.cons (Rd.cons (Rd.cons (Rd.cons rdab))))))) (Rd.cons (Rd.cons (Rd.cons (Rd.cons (Rd.cons (Rd.cons (Rd.cons rdib))))))) (Rd.cons (Rd.cons (Rd.cons (Rd.cons (Rd.cons (Rd.cons (Rd.cons rdrb))))))) hok18 (fun hz => okab (by omega)) (fun hz => okib (by omega)) (fun hz => okrb (by omega)) (by first | omega | (simp; omega) | (simp; done)) (by first | omega | (simp; omega) | (simp; done)) hE hg) ?_
      rintro _ _ ⟨bs28, cp29, bs30, cp31, hok32, hle33, hok34, hle35, rfl, rfl⟩
      refine tp rfl (lv_move rfl) ?_
      refine tp rfl (lv_extract rfl rfl) ?_
      refine tp rfl (lv_extract rfl rfl) ?_
      refine tp rfl (lv_assign rfl) ?_
      refine tp rfl (lv_assign rfl) ?_
      refine t_done ?_
      refine q_then_n (hK22 _ _ ?_)
      refine c_seq (fun K23 hK23 => ?_)
      refine c_seq (fun K24 hK24 => ?_)
      refine c_region ?_
      obtain ⟨P, hP⟩ : ∃ x, (wantN n3 N EE al F il rl m1).1 = x := ⟨_, rfl⟩
      rw [hP] at hwl hok24 hle25 hok32 hle33 ⊢
      obtain ⟨Q, hQ⟩ : ∃ x, (wantN n3 N EE al F il rl m1).2 = x := ⟨_, rfl⟩
      rw [hQ] at hwl hok26 hle27 hok34 hle35 ⊢
      refine tp rfl (lv_move rfl) ?_
      refine tp rfl (lv_move rfl) ?_
      refine tp rfl (lv_neq rfl rfl (bne_eq_false_iff_eq.2 rfl)) ?_
      refine tp rfl (lv_move rfl) ?_
      refine t_guard rfl rfl ?_
      refine tp rfl (lv_move rfl) ?_
      refine t_guard rfl rfl ?_
      refine tp rfl (lv_move rfl) ?_
      refine t_guard rfl rfl ?_
      refine tc rfl (en_fn Tryd.call19 rfl) (ints_ok L L (rd_sl (.tail _ (.tail _ (.tail _ (.tail _ (.tail _ (.tail _ (.tail _ (.tail _ (.tail _ (.head _))))))))))) (rd_sl (.tail _ (.tail _ (.tail _ (.tail _ (.tail _ (.tail _ (.tail _ (.tail _ (.head _)))))))))) hok6 hok10 (by omega) (by omega)) ?_
      rintro _ _ ⟨rfl, rfl⟩
      rw [eqI_refl]
      refine t_guard rfl rfl ?_
      refine tp rfl (lv_not (c := false) rfl rfl) ?_
      refine tp rfl (lv_pick_f rfl rfl) ?_
      refine tp rfl (lv_move rfl) ?_
      refine t_guard rfl rfl ?_
      refine tp rfl (lv_move rfl) ?_
      refine t_guard rfl rfl ?_
      refine tp rfl (lv_move rfl) ?_
      refine t_guard rfl rfl ?_
      refine tc rfl (en_fn Tryd.call19 rfl) (ints_ok F F (rd_sl (.tail _ (.tail _ (.tail _ (.tail _ (.tail _ (.tail _ (.tail _ (.head _))))))))) (rd_sl (.tail _ (.tail _ (.tail _ (.tail _ (.tail _ (.tail _ (.head _)))))))) hok14 hok18 (by omega) (by omega)) ?_
      rintro _ _ ⟨rfl, rfl⟩
      rw [eqI_refl]
      refine t_guard rfl rfl ?_
      refine tp rfl (lv_not (c := false) rfl rfl) ?_
      refine tp rfl (lv_pick_f rfl rfl) ?_
      refine tp rfl (lv_move rfl) ?_
      refine t_guard rfl rfl ?_
      refine tp rfl (lv_move rfl) ?_
      refine t_guard rfl rfl ?_
      refine tp rfl (lv_move rfl) ?_
      refine t_guard rfl rfl ?_
      refine tc rfl (en_fn Tryd.call19 rfl) (ints_ok Q Q (rd_sl (.tail _ (.tail _ (.tail _ (.tail _ (.head _)))))) (rd_sl (.tail _ (.head _))) hok26 hok34 (by omega) (by omega)) ?_
      rintro _ _ ⟨rfl, rfl⟩
      rw [eqI_refl]
      refine t_guard rfl rfl ?_
      refine tp rfl (lv_not (c := false) rfl rfl) ?_
      refine tp rfl (lv_pick_f rfl rfl) ?_
      refine tp rfl (lv_move rfl) ?_
      refine t_guard rfl rfl ?_
      refine tp rfl (lv_move rfl) ?_
      refine t_guard rfl rfl ?_
      refine tp rfl (lv_len Tryd.underlying38 rfl rfl) ?_
      refine t_guard rfl rfl ?_
      refine tp rfl (lv_move rfl) ?_
      refine t_guard rfl rfl ?_
      refine tp rfl (lv_len Tryd.underlying41 rfl rfl) ?_
      refine t_guard rfl rfl ?_
      refine tp rfl (lv_neq rfl rfl (bne_eq_false_iff_eq.2 rfl)) ?_
      refine tp rfl (lv_pick_f rfl rfl) ?_
      refine t_done ?_
      refine q_then_n (hK24 _ _ ?_)
      refine c_false rfl ?_
      refine c_skip ?_
      refine q_then_n (hK23 _ _ ?_)
      refine c_seq (fun K25 hK25 => ?_)
      refine c_seq (fun K26 hK26 => ?_)
      refine c_region ?_
      refine tp rfl (lv_assign rfl) ?_
      refine t_done ?_
      refine q_then_n (hK26 _ _ ?_)
      refine c_block ?_
      refine c_loop (γ := (Nat)) (fun (i : Nat) => i ≤ P.length) (fun (i : Nat) => [(0, (.slice bsb n1 csb)), (1, (.slice bpb n2 cpb)), (2, (.int .i64 room)), (3, (.int .i64 n)), (4, (.slice beb es.length ceb)), (5, (.slice bab n3 cab)), (6, (.slice bib n4 cib)), (7, (.slice brb n5 crb)), (17, (.bool true)), (18, (.pointer (some ⟨p1, 0, none⟩))), (19, (.pointer (some ⟨p2, 0, none⟩))), (20, (.int .i64 ((k : Nat) : Int))), (21, (.int .i64 p0)), (22, (.slice bs4 L.length cp5)), (23, (.int .i64 p0)), (24, (.slice bs8 L.length cp9)), (25, (.slice bs12 F.length cp13)), (26, (.slice bs16 F.length cp17)), (27, (.slice bs20 P.length cp21)), (28, (.slice bs22 Q.length cp23)), (29, (.slice bs28 P.length cp29)), (30, (.slice bs30 Q.length cp31)), (31, (.int .i64 ((i : Nat) : Int))), (65, (.bool false)), (73, (.bool false)), (165, (.bool false))]) (fun (i : Nat) => (SlV 47 2 (.slice bs28 P.length cp29) P.length (pairs P)) :: (SlV 3 1 (.slice bs30 Q.length cp31) Q.length (ints .i64 Q)) :: (RefO p2 N EE) :: (SlV 46 2 (.slice bs20 P.length cp21) P.length (pairs P)) :: (SlV 3 1 (.slice bs22 Q.length cp23) Q.length (ints .i64 Q)) :: (GraphO p1 N EE) :: (SlV 3 1 (.slice bs16 F.length cp17) F.length (ints .i64 F)) :: (SlV 3 1 (.slice bs12 F.length cp13) F.length (ints .i64 F)) :: (SlV 3 1 (.slice bs8 L.length cp9) L.length (ints .i64 L)) :: (SlV 3 1 (.slice bs4 L.length cp5) L.length (ints .i64 L)) :: R) (fun (i : Nat) => P.length - i) (0) (by omega) ⟨rfl, rfl, rfl, rfl, rfl, rfl, rfl, rfl, rfl, rfl, rfl, rfl, rfl, rfl, rfl, rfl, rfl, rfl, rfl, rfl, rfl, rfl, rfl, rfl, rfl, rfl, trivial⟩ (fun _ h => h) ?_
      rintro i K27 hF hK27
      try dsimp only at hF hK27 ⊢
      refine c_seq (fun K28 hK28 => ?_)
      refine c_seq (fun K29 hK29 => ?_)
      refine c_region ?_
      refine tp rfl (lv_move rfl) ?_
      refine tp rfl (lv_move rfl) ?_
      refine tp rfl (lv_len Tryd.underlying38 rfl rfl) ?_
      by_cases h36 : ((i : Nat) : Int) < ((P.length : Nat) : Int)
      · -- yes
        refine tp rfl (lv_lss rfl rfl (decide_eq_true h36)) ?_
        refine t_done ?_
        refine q_then_n (hK29 _ _ ?_)
        refine c_true rfl ?_
        refine c_skip ?_
        refine q_then_n (hK28 _ _ ?_)
        refine c_seq (fun K30 hK30 => ?_)
        refine c_block ?_
        refine c_seq (fun K31 hK31 => ?_)
        refine c_draw (γ := Unit) (n := 24) Tryd.mixed rfl rfl (fun _ S => True) (fun _ => [(0, 172, (.slice bs20 P.length cp21)), (1, 173, (.int .i64 ((i : Nat) : Int))), (2, 174, (.pointer (some (ad bs20 (i * 2))))), (3, 175, (.pointer (some (ad bs20 (i * 2))))), (4, 176, (.int .i64 (((P).getD i (0, 0)).1))), (5, 177, (.slice bs28 P.length cp29)), (6, 178, (.int .i64 ((i : Nat) : Int))), (7, 179, (.pointer (some (ad bs28 (i * 2))))), (8, 180, (.pointer (some (ad bs28 (i * 2))))), (9, 181, (.int .i64 (((P).getD i (0, 0)).1))), (10, 182, (.bool false)), (11, 183, (.bool false)), (12, 184, (.slice bs20 P.length cp21)), (13, 185, (.int .i64 ((i : Nat) : Int))), (14, 186, (.pointer (some (ad bs20 (i * 2))))), (15, 187, (.pointer (some (ad bs20 (i * 2 + 1))))), (16, 188, (.int .i64 (((P).getD i (0, 0)).2))), (17, 189, (.slice bs28 P.length cp29)), (18, 190, (.int .i64 ((i : Nat) : Int))), (19, 191, (.pointer (some (ad bs28 (i * 2))))), (20, 192, (.pointer (some (ad bs28 (i * 2 + 1))))), (21, 193, (.int .i64 (((P).getD i (0, 0)).2))), (22, 194, (.bool false)), (23, 195, (.bool false))]) (fun _ S => (SlV 47 2 (.slice bs28 P.length cp29) P.length (pairs P)) :: (SlV 3 1 (.slice bs30 Q.length cp31) Q.length (ints .i64 Q)) :: (RefO p2 N EE) :: (SlV 46 2 (.slice bs20 P.length cp21) P.length (pairs P)) :: (SlV 3 1 (.slice bs22 Q.length cp23) Q.length (ints .i64 Q)) :: (GraphO p1 N EE) :: (SlV 3 1 (.slice bs16 F.length cp17) F.length (ints .i64 F)) :: (SlV 3 1 (.slice bs12 F.length cp13) F.length (ints .i64 F)) :: (SlV 3 1 (.slice bs8 L.length cp9) L.length (ints .i64 L)) :: (SlV 3 1 (.slice bs4 L.length cp5) L.length (ints .i64 L)) :: R) (()) trivial (fun _ h => h) (fun _ _ h => h) ?_ ?_
        · -- steps
         refine ⟨?_, ?_, ?_, ?_, ?_, ?_, ?_, ?_, ?_, ?_, ?_, ?_, ?_, ?_, ?_, ?_, ?_, ?_, ?_, ?_, ?_, ?_, ?_, ?_, trivial⟩
         · -- 0
          rintro _ S hF hS D hp K hK
          try dsimp only at hF ⊢
          refine d_need (small := [(27, (.slice bs20 P.length cp21))]) ⟨look_b rfl rfl, trivial⟩ ?_
          refine tp rfl (lv_move rfl) ?_
          exact d_closes ⟨look_b rfl rfl, trivial⟩ 0 rfl rfl rfl hS (AgreeR.refl _) (t_sat (fun _ h => h) (hK () trivial))
         · -- 1
          rintro _ S hF hS D hp K hK
          try dsimp only at hF ⊢
          refine d_need (small := [(31, (.int .i64 ((i : Nat) : Int)))]) ⟨look_b rfl rfl, trivial⟩ ?_
          refine tp rfl (lv_move rfl) ?_
          exact d_closes ⟨look_b rfl rfl, trivial⟩ 1 rfl rfl rfl hS (AgreeR.refl _) (t_sat (fun _ h => h) (hK () trivial))
         · -- 2
          rintro _ S hF hS D hp K hK
          try dsimp only at hF ⊢
          have s0 := hp 0 rfl
          have s1 := hp 1 rfl
          refine d_need (small := [(172, (.slice bs20 P.length cp21)), (173, (.int .i64 ((i : Nat) : Int)))]) ⟨look_row rfl 0 rfl s0, look_row rfl 1 rfl s1, trivial⟩ ?_
          refine tp rfl (lv_indexAddr (k' := i * 2) Tryd.underlying38 Tryd.sizeOf46 rfl rfl hok24 (by omega) (by omega) (by omega)) ?_
          exact d_closes ⟨look_row rfl 0 rfl s0, look_row rfl 1 rfl s1, trivial⟩ 2 rfl rfl rfl hS (AgreeR.refl _) (t_sat (fun _ h => h) (hK () trivial))
         · -- 3
          rintro _ S hF hS D hp K hK
          try dsimp only at hF ⊢
          have s2 := hp 2 rfl
          refine d_need (small := [(174, (.pointer (some (ad bs20 (i * 2)))))]) ⟨look_row rfl 2 rfl s2, trivial⟩ ?_
          refine tp rfl (lv_fieldAddr_ad (o' := i * 2) Tryd.underlying46 rfl Tryd.sizeOf3 rfl rfl) ?_
          exact d_closes ⟨look_row rfl 2 rfl s2, trivial⟩ 3 rfl rfl rfl hS (AgreeR.refl _) (t_sat (fun _ h => h) (hK () trivial))
         · -- 4
          rintro _ S hF hS D hp K hK
          try dsimp only at hF ⊢
          have s3 := hp 3 rfl
          refine d_need (small := [(175, (.pointer (some (ad bs20 (i * 2)))))]) ⟨look_row rfl 3 rfl s3, trivial⟩ ?_
          refine tp rfl (lv_load Tryd.isAgg3 rfl (gives_sl (.tail _ (.tail _ (.tail _ (.head _)))) (pairs_get0 (by omega)))) ?_
          exact d_closes ⟨look_row rfl 3 rfl s3, trivial⟩ 4 rfl rfl rfl hS (AgreeR.refl _) (t_sat (fun _ h => h) (hK () trivial))
         · -- 5
          rintro _ S hF hS D hp K hK
          try dsimp only at hF ⊢
          refine d_need (small := [(29, (.slice bs28 P.length cp29))]) ⟨look_b rfl rfl, trivial⟩ ?_
          refine tp rfl (lv_move rfl) ?_
          exact d_closes ⟨look_b rfl rfl, trivial⟩ 5 rfl rfl rfl hS (AgreeR.refl _) (t_sat (fun _ h => h) (hK () trivial))
         · -- 6
          rintro _ S hF hS D hp K hK
          try dsimp only at hF ⊢
          refine d_need (small := [(31, (.int .i64 ((i : Nat) : Int)))]) ⟨look_b rfl rfl, trivial⟩ ?_
          refine tp rfl (lv_move rfl) ?_
          exact d_closes ⟨look_b rfl rfl, trivial⟩ 6 rfl rfl rfl hS (AgreeR.refl _) (t_sat (fun _ h => h) (hK () trivial))
         · -- 7
          rintro _ S hF hS D hp K hK
          try dsimp only at hF ⊢
          have s5 := hp 5 rfl
          have s6 := hp 6 rfl
          refine d_need (small := [(177, (.slice bs28 P.length cp29)), (178, (.int .i64 ((i : Nat) : Int)))]) ⟨look_row rfl 5 rfl s5, look_row rfl 6 rfl s6, trivial⟩ ?_
          refine tp rfl (lv_indexAddr (k' := i * 2) Tryd.underlying41 Tryd.sizeOf47 rfl rfl hok32 (by omega) (by omega) (by omega)) ?_
          exact d_closes ⟨look_row rfl 5 rfl s5, look_row rfl 6 rfl s6, trivial⟩ 7 rfl rfl rfl hS (AgreeR.refl _) (t_sat (fun _ h => h) (hK () trivial))
         · -- 8
          rintro _ S hF hS D hp K hK
          try dsimp only at hF ⊢
          have s7 := hp 7 rfl
          refine d_need (small := [(179, (.pointer (some (ad bs28 (i * 2)))))]) ⟨look_row rfl 7 rfl s7, trivial⟩ ?_
          refine tp rfl (lv_fieldAddr_ad (o' := i * 2) Tryd.underlying47 rfl Tryd.sizeOf3 rfl rfl) ?_
          exact d_closes ⟨look_row rfl 7 rfl s7, trivial⟩ 8 rfl rfl rfl hS (AgreeR.refl _) (t_sat (fun _ h => h) (hK () trivial))
         · -- 9
          rintro _ S hF hS D hp K hK
          try dsimp only at hF ⊢
          have s8 := hp 8 rfl
          refine d_need (small := [(180, (.pointer (some (ad bs28 (i * 2)))))]) ⟨look_row rfl 8 rfl s8, trivial⟩ ?_
          refine tp rfl (lv_load Tryd.isAgg3 rfl (gives_sl (.head _) (pairs_get0 (by omega)))) ?_
          exact d_closes ⟨look_row rfl 8 rfl s8, trivial⟩ 9 rfl rfl rfl hS (AgreeR.refl _) (t_sat (fun _ h => h) (hK () trivial))
         · -- 10
          rintro _ S hF hS D hp K hK
          try dsimp only at hF ⊢
          have s4 := hp 4 rfl
          have s9 := hp 9 rfl
          refine d_need (small := [(176, (.int .i64 (((P).getD i (0, 0)).1))), (181, (.int .i64 (((P).getD i (0, 0)).1)))]) ⟨look_row rfl 4 rfl s4, look_row rfl 9 rfl s9, trivial⟩ ?_
          refine tp rfl (lv_neq rfl rfl (bne_eq_false_iff_eq.2 rfl)) ?_
          exact d_closes ⟨look_row rfl 4 rfl s4, look_row rfl 9 rfl s9, trivial⟩ 10 rfl rfl rfl hS (AgreeR.refl _) (t_sat (fun _ h => h) (hK () trivial))
         · -- 11
          rintro _ S hF hS D hp K hK
          try dsimp only at hF ⊢
          have s10 := hp 10 rfl
          refine d_need (small := [(182, (.bool false))]) ⟨look_row rfl 10 rfl s10, trivial⟩ ?_
          refine tp rfl (lv_move rfl) ?_
          exact d_closes ⟨look_row rfl 10 rfl s10, trivial⟩ 11 rfl rfl rfl hS (AgreeR.refl _) (t_sat (fun _ h => h) (hK () trivial))
         · -- 12
          rintro _ S hF hS D hp K hK
          try dsimp only at hF ⊢
          have s11 := hp 11 rfl
          refine d_need (small := [(27, (.slice bs20 P.length cp21)), (183, (.bool false))]) ⟨look_b rfl rfl, look_row rfl 11 rfl s11, trivial⟩ ?_
          refine t_guard rfl rfl ?_
          refine tp rfl (lv_move rfl) ?_
          exact d_closes ⟨look_b rfl rfl, look_row rfl 11 rfl s11, trivial⟩ 12 rfl rfl rfl hS (AgreeR.refl _) (t_sat (fun _ h => h) (hK () trivial))
         · -- 13
          rintro _ S hF hS D hp K hK
          try dsimp only at hF ⊢
          have s11 := hp 11 rfl
          refine d_need (small := [(31, (.int .i64 ((i : Nat) : Int))), (183, (.bool false))]) ⟨look_b rfl rfl, look_row rfl 11 rfl s11, trivial⟩ ?_
          refine t_guard rfl rfl ?_
          refine tp rfl (lv_move rfl) ?_
          exact d_closes ⟨look_b rfl rfl, look_row rfl 11 rfl s11, trivial⟩ 13 rfl rfl rfl hS (AgreeR.refl _) (t_sat (fun _ h => h) (hK () trivial))
         · -- 14
          rintro _ S hF hS D hp K hK
          try dsimp only at hF ⊢
          have s11 := hp 11 rfl
          have s12 := hp 12 rfl
          have s13 := hp 13 rfl
          refine d_need (small := [(183, (.bool false)), (184, (.slice bs20 P.length cp21)), (185, (.int .i64 ((i : Nat) : Int)))]) ⟨look_row rfl 11 rfl s11, look_row rfl 12 rfl s12, look_row rfl 13 rfl s13, trivial⟩ ?_
          refine t_guard rfl rfl ?_
          refine tp rfl (lv_indexAddr (k' := i * 2) Tryd.underlying38 Tryd.sizeOf46 rfl rfl hok24 (by omega) (by omega) (by omega)) ?_
          exact d_closes ⟨look_row rfl 11 rfl s11, look_row rfl 12 rfl s12, look_row rfl 13 rfl s13, trivial⟩ 14 rfl rfl rfl hS (AgreeR.refl _) (t_sat (fun _ h => h) (hK () trivial))
         · -- 15
          rintro _ S hF hS D hp K hK
          try dsimp only at hF ⊢
          have s11 := hp 11 rfl
          have s14 := hp 14 rfl
          refine d_need (small := [(183, (.bool false)), (186, (.pointer (some (ad bs20 (i * 2)))))]) ⟨look_row rfl 11 rfl s11, look_row rfl 14 rfl s14, trivial⟩ ?_
          refine t_guard rfl rfl ?_
          refine tp rfl (lv_fieldAddr_ad (o' := i * 2 + 1) Tryd.underlying46 rfl Tryd.sizeOf3 rfl rfl) ?_
          exact d_closes ⟨look_row rfl 11 rfl s11, look_row rfl 14 rfl s14, trivial⟩ 15 rfl rfl rfl hS (AgreeR.refl _) (t_sat (fun _ h => h) (hK () trivial))
         · -- 16
          rintro _ S hF hS D hp K hK
          try dsimp only at hF ⊢
          have s11 := hp 11 rfl
          have s15 := hp 15 rfl
          refine d_need (small := [(183, (.bool false)), (187, (.pointer (some (ad bs20 (i * 2 + 1)))))]) ⟨look_row rfl 11 rfl s11, look_row rfl 15 rfl s15, trivial⟩ ?_
          refine t_guard rfl rfl ?_
          refine tp rfl (lv_load Tryd.isAgg3 rfl (gives_sl (.tail _ (.tail _ (.tail _ (.head _)))) (pairs_get1 (by first | omega | (simp; omega))))) ?_
          exact d_closes ⟨look_row rfl 11 rfl s11, look_row rfl 15 rfl s15, trivial⟩ 16 rfl rfl rfl hS (AgreeR.refl _) (t_sat (fun _ h => h) (hK () trivial))
         · -- 17
          rintro _ S hF hS D hp K hK
          try dsimp only at hF ⊢
          have s11 := hp 11 rfl
          refine d_need (small := [(29, (.slice bs28 P.length cp29)), (183, (.bool false))]) ⟨look_b rfl rfl, look_row rfl 11 rfl s11, trivial⟩ ?_
          refine t_guard rfl rfl ?_
          refine tp rfl (lv_move rfl) ?_
          exact d_closes ⟨look_b rfl rfl, look_row rfl 11 rfl s11, trivial⟩ 17 rfl rfl rfl hS (AgreeR.refl _) (t_sat (fun _ h => h) (hK () trivial))
         · -- 18
          rintro _ S hF hS D hp K hK
          try dsimp only at hF ⊢
          have s11 := hp 11 rfl
          refine d_need (small := [(31, (.int .i64 ((i : Nat) : Int))), (183, (.bool false))]) ⟨look_b rfl rfl, look_row rfl 11 rfl s11, trivial⟩ ?_
          refine t_guard rfl rfl ?_
          refine tp rfl (lv_move rfl) ?_
          exact d_closes ⟨look_b rfl rfl, look_row rfl 11 rfl s11, trivial⟩ 18 rfl rfl rfl hS (AgreeR.refl _) (t_sat (fun _ h => h) (hK () trivial))
         · -- 19
          rintro _ S hF hS D hp K hK
          try dsimp only at hF ⊢
          have s11 := hp 11 rfl
          have s17 := hp 17 rfl
          have s18 := hp 18 rfl
          refine d_need (small := [(183, (.bool false)), (189, (.slice bs28 P.length cp29)), (190, (.int .i64 ((i : Nat) : Int)))]) ⟨look_row rfl 11 rfl s11, look_row rfl 17 rfl s17, look_row rfl 18 rfl s18, trivial⟩ ?_
          refine t_guard rfl rfl ?_
          refine tp rfl (lv_indexAddr (k' := i * 2) Tryd.underlying41 Tryd.sizeOf47 rfl rfl hok32 (by omega) (by omega) (by omega)) ?_
          exact d_closes ⟨look_row rfl 11 rfl s11, look_row rfl 17 rfl s17, look_row rfl 18 rfl s18, trivial⟩ 19 rfl rfl rfl hS (AgreeR.refl _) (t_sat (fun _ h => h) (hK () trivial))
         · -- 20
          rintro _ S hF hS D hp K hK
          try dsimp only at hF ⊢
          have s11 := hp 11 rfl
          have s19 := hp 19 rfl
          refine d_need (small := [(183, (.bool false)), (191, (.pointer (some (ad bs28 (i * 2)))))]) ⟨look_row rfl 11 rfl s11, look_row rfl 19 rfl s19, trivial⟩ ?_
          refine t_guard rfl rfl ?_
          refine tp rfl (lv_fieldAddr_ad (o' := i * 2 + 1) Tryd.underlying47 rfl Tryd.sizeOf3 rfl rfl) ?_
          exact d_closes ⟨look_row rfl 11 rfl s11, look_row rfl 19 rfl s19, trivial⟩ 20 rfl rfl rfl hS (AgreeR.refl _) (t_sat (fun _ h => h) (hK () trivial))
         · -- 21
          rintro _ S hF hS D hp K hK
          try dsimp only at hF ⊢
          have s11 := hp 11 rfl
          have s20 := hp 20 rfl
          refine d_need (small := [(183, (.bool false)), (192, (.pointer (some (ad bs28 (i * 2 + 1)))))]) ⟨look_row rfl 11 rfl s11, look_row rfl 20 rfl s20, trivial⟩ ?_
          refine t_guard rfl rfl ?_
          refine tp rfl (lv_load Tryd.isAgg3 rfl (gives_sl (.head _) (pairs_get1 (by omega)))) ?_
          exact d_closes ⟨look_row rfl 11 rfl s11, look_row rfl 20 rfl s20, trivial⟩ 21 rfl rfl rfl hS (AgreeR.refl _) (t_sat (fun _ h => h) (hK () trivial))
         · -- 22
          rintro _ S hF hS D hp K hK
          try dsimp only at hF ⊢
          have s11 := hp 11 rfl
          have s16 := hp 16 rfl
          have s21 := hp 21 rfl
          refine d_need (small := [(183, (.bool false)), (188, (.int .i64 (((P).getD i (0, 0)).2))), (193, (.int .i64 (((P).getD i (0, 0)).2)))]) ⟨look_row rfl 11 rfl s11, look_row rfl 16 rfl s16, look_row rfl 21 rfl s21, trivial⟩ ?_
          refine t_guard rfl rfl ?_
          refine tp rfl (lv_neq rfl rfl (bne_eq_false_iff_eq.2 rfl)) ?_
          exact d_closes ⟨look_row rfl 11 rfl s11, look_row rfl 16 rfl s16, look_row rfl 21 rfl s21, trivial⟩ 22 rfl rfl rfl hS (AgreeR.refl _) (t_sat (fun _ h => h) (hK () trivial))
         · -- 23
          rintro _ S hF hS D hp K hK
          try dsimp only at hF ⊢
          have s11 := hp 11 rfl
          have s22 := hp 22 rfl
          refine d_need (small := [(183, (.bool false)), (194, (.bool false))]) ⟨look_row rfl 11 rfl s11, look_row rfl 22 rfl s22, trivial⟩ ?_
          refine tp rfl (lv_pick_f rfl rfl) ?_
          exact d_closes ⟨look_row rfl 11 rfl s11, look_row rfl 22 rfl s22, trivial⟩ 23 rfl rfl rfl hS (AgreeR.refl _) (t_sat (fun _ h => h) (hK () trivial))
        · -- behind
         rintro _ hF
         try dsimp only at hF ⊢
         refine t_weak (E' := [(0, (.slice bsb n1 csb)), (1, (.slice bpb n2 cpb)), (2, (.int .i64 room)), (3, (.int .i64 n)), (4, (.slice beb es.length ceb)), (5, (.slice bab n3 cab)), (6, (.slice bib n4 cib)), (7, (.slice brb n5 crb)), (17, (.bool true)), (18, (.pointer (some ⟨p1, 0, none⟩))), (19, (.pointer (some ⟨p2, 0, none⟩))), (20, (.int .i64 ((k : Nat) : Int))), (21, (.int .i64 p0)), (22, (.slice bs4 L.length cp5)), (23, (.int .i64 p0)), (24, (.slice bs8 L.length cp9)), (25, (.slice bs12 F.length cp13)), (26, (.slice bs16 F.length cp17)), (27, (.slice bs20 P.length cp21)), (28, (.slice bs22 Q.length cp23)), (29, (.slice bs28 P.length cp29)), (30, (.slice bs30 Q.length cp31)), (31, (.int .i64 ((i : Nat) : Int))), (65, (.bool false)), (73, (.bool false)), (165, (.bool false)), (169, (.bool true)), (195, (.bool false))]) ⟨rfl, rfl, rfl, rfl, rfl, rfl, rfl, rfl, rfl, rfl, rfl, rfl, rfl, rfl, rfl, rfl, rfl, rfl, rfl, rfl, rfl, rfl, rfl, rfl, rfl, rfl, rfl, rfl, trivial⟩ ?_
         refine q_then_n (hK31 _ _ ?_)
         refine c_false rfl ?_
         refine c_skip ?_
         refine q_in_n ?_
         refine q_then_n (hK30 _ _ ?_)
         refine c_region ?_
         refine tp rfl (lv_move rfl) ?_
         refine tp rfl (lv_add (c := ((i + 1 : Nat) : Int)) rfl rfl (wr_i64_succ (by omega))) ?_
         refine tp rfl (lv_assign rfl) ?_
         refine t_done ?_
         refine q_then_n ?_
         exact t_weak (by exact ⟨rfl, rfl, rfl, rfl, rfl, rfl, rfl, rfl, rfl, rfl, rfl, rfl, rfl, rfl, rfl, rfl, rfl, rfl, rfl, rfl, rfl, rfl, rfl, rfl, rfl, rfl, trivial⟩) ((hK27 (i + 1) (by omega) (by omega)))
      · -- no
        refine tp rfl (lv_lss rfl rfl (decide_eq_false h36)) ?_
        refine t_done ?_
        refine q_then_n (hK29 _ _ ?_)
        refine c_false rfl ?_
        refine c_exit ?_
        refine q_then_x ?_
        refine q_then_x ?_
        refine q_in_x ?_
        refine q_then_n (hK25 _ _ ?_)
        refine c_seq (fun K30 hK30 => ?_)
        refine c_region ?_
        refine tp rfl (lv_move rfl) ?_
        refine tp rfl (lv_assign rfl) ?_
        refine t_done ?_
        refine q_then_n (hK30 _ _ ?_)
        refine c_ret ?_
        refine t_drop ?_
        refine t_drop ?_
        refine t_drop ?_
        refine t_drop ?_
        refine t_drop ?_
        refine t_drop ?_
        refine t_drop ?_
        refine t_drop ?_
        refine t_drop ?_
        refine t_drop ?_
        refine q_ret rfl rfl ?_
        exact ⟨rfl, rfl⟩
    · -- which
      by_cases hc3A : ((k : Nat) : Int) < ((es.length : Nat) : Int)
      ·
        have hc3B : ¬ (((k : Nat) : Int) < 100) := fun hh => hc3 ⟨hc3A, hh⟩
        refine tp rfl (lv_move rfl) ?_
        refine tp rfl (lv_move rfl) ?_
        refine tp rfl (lv_len Tryd.underlying23 rfl rfl) ?_
        refine tp rfl (lv_lss rfl rfl (decide_eq_true hc3A)) ?_
        refine tp rfl (lv_move rfl) ?_
        refine t_guard rfl rfl ?_
        refine tp rfl (lv_move rfl) ?_
        refine t_guard rfl rfl ?_
        refine tp rfl (lv_lss rfl rfl (decide_eq_false hc3B)) ?_
        refine tp rfl (lv_pick_t rfl rfl) ?_
        exact t_done (t_weak (by exact ⟨rfl, rfl, rfl, rfl, rfl, rfl, rfl, rfl, rfl, rfl, rfl, rfl, rfl, rfl, rfl, trivial⟩) hKK)
      ·
        refine tp rfl (lv_move rfl) ?_
        refine tp rfl (lv_move rfl) ?_
        refine tp rfl (lv_len Tryd.underlying23 rfl rfl) ?_
        refine tp rfl (lv_lss rfl rfl (decide_eq_false hc3A)) ?_
        refine tp rfl (lv_move rfl) ?_
        refine t_skip rfl rfl rfl ?_
        refine t_skip rfl rfl rfl ?_
        refine tp rfl (lv_pick_f rfl rfl) ?_
        exact t_done (t_weak (by exact ⟨rfl, rfl, rfl, rfl, rfl, rfl, rfl, rfl, rfl, rfl, rfl, rfl, rfl, rfl, rfl, trivial⟩) hKK)
end Go.Proofs.YtfoiopbjomaclaaDoor
