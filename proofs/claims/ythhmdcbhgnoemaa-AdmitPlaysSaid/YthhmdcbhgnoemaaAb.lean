/- Package admit: contracts. -/
import Derived.Test.YthhmdcbhgnoemaaAa
set_option maxRecDepth 100000
set_option linter.unusedVariables false
set_option linter.unusedSimpArgs false
namespace Go.Proofs.Ythhmdcbhgnoemaa
open Go Go.Proofs Sp
theorem anew_ok {R : List HP} (x y : Int) :
    Ok Try.prog 11 [(.int .i64 x), (.int .i64 y)] R
      (fun v M => ∃ p, v = .pointer (some ⟨p, 0, none⟩) ∧ M = AdmO p (max x 1) (max y 0) ⟨[], []⟩ :: R) := by
  refine ok_of (N := 13) Try.func11 rfl rfl rfl (fun W => ?_)
  refine c_seq (fun K1 hK1 => ?_)
  refine c_region ?_
  refine tp rfl (lv_assign rfl) ?_
  refine t_done ?_
  refine q_then_n (hK1 _ _ ?_)
  refine c_seq (fun K2 hK2 => ?_)
  refine c_region ?_
  refine tp rfl (lv_move rfl) ?_
  refine tp rfl (lv_max (c := max x 1) rfl rfl rfl) ?_
  refine tp rfl (lv_build (cs := [(.int .i64 (max x 1)), (.slice none 0 0)]) (pl := [(0, 1), (1, 1)]) Try.underlying47 Try.zeroValue47 (fun _ => by simp) rfl rfl) ?_
  refine tp rfl (lv_move rfl) ?_
  refine tp rfl (lv_max (c := max y 0) rfl rfl rfl) ?_
  refine tp rfl (lv_build (cs := [(.int .i64 (max y 0)), (.slice none 0 0)]) (pl := [(0, 1), (1, 1)]) Try.underlying47 Try.zeroValue47 (fun _ => by simp) rfl rfl) ?_
  refine tp rfl (lv_build (cs := [(.int .i64 (max x 1)), (.slice none 0 0), (.int .i64 (max y 0)), (.slice none 0 0)]) (pl := [(0, 2), (2, 2)]) Try.underlying49 Try.zeroValue49 (fun _ => by simp) rfl rfl) ?_
  refine tm rfl (mv_box rfl rfl) ?_
  rintro _ _ ⟨b1, rfl, rfl⟩
  refine tp rfl (lv_assign rfl) ?_
  refine t_done ?_
  refine q_then_n (hK2 _ _ ?_)
  refine c_ret ?_
  refine t_sat (fun _ h => sat_nilsl 3 1 h) ?_
  refine t_sat (fun _ h => sat_nilsl 3 1 h) ?_
  refine t_f2 ?_
  refine t_shutA (a := []) (q := []) ⟨[], []⟩ (AOk.new _ _) rfl rfl slok_none slok_none ?_
  refine q_ret rfl rfl ?_
  exact ⟨_, rfl, rfl⟩

theorem actives_ok {R : List HP} {p : Nat} {A Q : Int} {s : AS} (hb : s.a.length + s.q.length ≤ 100000) :
    Ok Try.prog 16 [(.pointer (some ⟨p, 0, none⟩))] ((AdmO p A Q s) :: R)
      (OutSl 3 1 s.a.length (ints .i64 s.a) (AdmO p A Q s :: R)) := by
  refine ok_of (N := 7) Try.func16 rfl rfl rfl (fun W => ?_)
  refine t_openA (fun ba ka bq kq hF => ?_)
  have hA1 := hF.ok.A1
  have hla := hF.ok.la
  have hlq := hF.ok.lq
  refine c_seq (fun K1 hK1 => ?_)
  refine c_region ?_
  refine tp rfl (lv_assign rfl) ?_
  refine t_done ?_
  refine q_then_n (hK1 _ _ ?_)
  refine c_seq (fun K2 hK2 => ?_)
  refine c_region ?_
  refine tp rfl (lv_move rfl) ?_
  refine tp rfl (lv_nilCheck rfl) ?_
  refine tp rfl (lv_fieldAddr (o' := 0) Try.underlying49 rfl Try.sizeOf47 rfl rfl) ?_
  refine t_f1 ?_
  refine t_f1 ?_
  refine tc rfl (en_fn Try.call25 rfl) (rall0_ok (l := s.a) hF.k1 (by omega)) ?_
  rintro _ _ ⟨bs1, cp2, hok3, hle4, rfl, rfl⟩
  refine tp rfl (lv_assign rfl) ?_
  refine t_done ?_
  refine q_then_n (hK2 _ _ ?_)
  refine c_ret ?_
  refine t_f3 ?_
  refine t_f3 ?_
  refine t_f3 ?_
  refine t_shutA s hF.ok rfl rfl hF.k1 hF.k2 ?_
  refine t_f1 ?_
  refine q_ret rfl rfl ?_
  exact ⟨_, _, hok3, hle4, rfl, rfl⟩

theorem waiting_ok {R : List HP} {p : Nat} {A Q : Int} {s : AS} (hb : s.a.length + s.q.length ≤ 100000) :
    Ok Try.prog 17 [(.pointer (some ⟨p, 0, none⟩))] ((AdmO p A Q s) :: R)
      (OutSl 3 1 s.q.length (ints .i64 s.q) (AdmO p A Q s :: R)) := by
  refine ok_of (N := 7) Try.func17 rfl rfl rfl (fun W => ?_)
  refine t_openA (fun ba ka bq kq hF => ?_)
  have hA1 := hF.ok.A1
  have hla := hF.ok.la
  have hlq := hF.ok.lq
  refine c_seq (fun K1 hK1 => ?_)
  refine c_region ?_
  refine tp rfl (lv_assign rfl) ?_
  refine t_done ?_
  refine q_then_n (hK1 _ _ ?_)
  refine c_seq (fun K2 hK2 => ?_)
  refine c_region ?_
  refine tp rfl (lv_move rfl) ?_
  refine tp rfl (lv_nilCheck rfl) ?_
  refine tp rfl (lv_fieldAddr (o' := 2) Try.underlying49 rfl Try.sizeOf47 rfl rfl) ?_
  refine t_f2 ?_
  refine t_f1 ?_
  refine tc rfl (en_fn Try.call25 rfl) (rall2_ok (l := s.q) hF.k2 (by omega)) ?_
  rintro _ _ ⟨bs1, cp2, hok3, hle4, rfl, rfl⟩
  refine tp rfl (lv_assign rfl) ?_
  refine t_done ?_
  refine q_then_n (hK2 _ _ ?_)
  refine c_ret ?_
  refine t_f2 ?_
  refine t_f3 ?_
  refine t_f3 ?_
  refine t_shutA s hF.ok rfl rfl hF.k1 hF.k2 ?_
  refine t_f1 ?_
  refine q_ret rfl rfl ?_
  exact ⟨_, _, hok3, hle4, rfl, rfl⟩

theorem state_ok {R : List HP} {p : Nat} {A Q : Int} {s : AS} (x : Int) (hb : s.a.length + s.q.length ≤ 100000) :
    Ok Try.prog 18 [(.pointer (some ⟨p, 0, none⟩)), (.int .i64 x)] ((AdmO p A Q s) :: R)
      (fun v M => v = .tuple #[.int .i64 (stV s x), .bool (there s x)] ∧ M = AdmO p A Q s :: R) := by
  refine ok_of (N := 18) Try.func18 rfl rfl rfl (fun W => ?_)
  refine t_openA (fun ba ka bq kq hF => ?_)
  have hA1 := hF.ok.A1
  have hla := hF.ok.la
  have hlq := hF.ok.lq
  refine c_seq (fun K1 hK1 => ?_)
  refine c_region ?_
  refine tp rfl (lv_assign rfl) ?_
  refine tp rfl (lv_assign rfl) ?_
  refine t_done ?_
  refine q_then_n (hK1 _ _ ?_)
  refine c_seq (fun K2 hK2 => ?_)
  refine c_block ?_
  refine c_seq (fun K3 hK3 => ?_)
  refine c_region ?_
  refine tp rfl (lv_move rfl) ?_
  refine tp rfl (lv_nilCheck rfl) ?_
  refine tp rfl (lv_fieldAddr (o' := 0) Try.underlying49 rfl Try.sizeOf47 rfl rfl) ?_
  refine tp rfl (lv_move rfl) ?_
  refine t_f1 ?_
  refine t_f1 ?_
  refine tc rfl (en_fn Try.call26 rfl) (rhas0_ok (l := s.a) x hF.k1 (by omega)) ?_
  rintro _ _ ⟨rfl, rfl⟩
  refine tp rfl (lv_assign rfl) ?_
  refine t_done ?_
  refine q_then_n (hK3 _ _ ?_)
  refine c_split rfl (fun c1 => ?_) (fun c1 => ?_)
  · -- true
    refine c_seq (fun K4 hK4 => ?_)
    refine c_region ?_
    refine tp rfl (lv_assign rfl) ?_
    refine tp rfl (lv_assign rfl) ?_
    refine t_done ?_
    refine q_then_n (hK4 _ _ ?_)
    refine c_ret ?_
    refine q_in_r ?_
    refine q_then_r ?_
    refine t_f2 ?_
    refine t_f2 ?_
    refine t_f2 ?_
    refine t_shutA s hF.ok rfl rfl hF.k1 hF.k2 ?_
    refine q_ret2 rfl rfl rfl ?_
    exact ⟨by first | (simp only [stV, there, inA, inQ, c1]; done) | (simp only [stV, there, inA, inQ, c1]; rfl), rfl⟩
  · -- false
    refine c_seq (fun K4 hK4 => ?_)
    refine c_region ?_
    refine tp rfl (lv_move rfl) ?_
    refine tp rfl (lv_nilCheck rfl) ?_
    refine tp rfl (lv_fieldAddr (o' := 2) Try.underlying49 rfl Try.sizeOf47 rfl rfl) ?_
    refine tp rfl (lv_move rfl) ?_
    refine t_f2 ?_
    refine t_f1 ?_
    refine tc rfl (en_fn Try.call26 rfl) (rhas2_ok (l := s.q) x hF.k2 (by omega)) ?_
    rintro _ _ ⟨rfl, rfl⟩
    refine tp rfl (lv_assign rfl) ?_
    refine t_done ?_
    refine q_then_n (hK4 _ _ ?_)
    refine c_split rfl (fun c2 => ?_) (fun c2 => ?_)
    · -- true
      refine c_seq (fun K5 hK5 => ?_)
      refine c_region ?_
      refine tp rfl (lv_assign rfl) ?_
      refine tp rfl (lv_assign rfl) ?_
      refine t_done ?_
      refine q_then_n (hK5 _ _ ?_)
      refine c_ret ?_
      refine q_in_r ?_
      refine q_then_r ?_
      refine t_f1 ?_
      refine t_f2 ?_
      refine t_f2 ?_
      refine t_shutA s hF.ok rfl rfl hF.k1 hF.k2 ?_
      refine q_ret2 rfl rfl rfl ?_
      exact ⟨by first | (simp only [stV, there, inA, inQ, c1, c2]; done) | (simp only [stV, there, inA, inQ, c1, c2]; rfl), rfl⟩
    · -- false
      refine c_skip ?_
      refine q_in_n ?_
      refine q_then_n (hK2 _ _ ?_)
      refine c_seq (fun K5 hK5 => ?_)
      refine c_region ?_
      refine tp rfl (lv_assign rfl) ?_
      refine tp rfl (lv_assign rfl) ?_
      refine t_done ?_
      refine q_then_n (hK5 _ _ ?_)
      refine c_ret ?_
      refine t_f1 ?_
      refine t_f2 ?_
      refine t_f2 ?_
      refine t_shutA s hF.ok rfl rfl hF.k1 hF.k2 ?_
      refine q_ret2 rfl rfl rfl ?_
      exact ⟨by first | (simp only [stV, there, inA, inQ, c1, c2]; done) | (simp only [stV, there, inA, inQ, c1, c2]; rfl), rfl⟩

theorem aadd_ok {R : List HP} {p : Nat} {A Q : Int} {s : AS} (x : Int) (hb : s.a.length + s.q.length ≤ 100000) :
    Ok Try.prog 12 [(.pointer (some ⟨p, 0, none⟩)), (.int .i64 x)] ((AdmO p A Q s) :: R)
      (fun v M => v = .tuple #[.int .i64 (addV A Q s x), .int .i64 (addEr A Q s x)] ∧ M = AdmO p A Q (addS A Q s x) :: R) := by
  refine ok_of (N := 28) Try.func12 rfl rfl rfl (fun W => ?_)
  refine c_seq (fun K1 hK1 => ?_)
  refine c_region ?_
  refine tp rfl (lv_assign rfl) ?_
  refine tp rfl (lv_assign rfl) ?_
  refine t_done ?_
  refine q_then_n (hK1 _ _ ?_)
  refine c_seq (fun K2 hK2 => ?_)
  refine c_region ?_
  refine tp rfl (lv_move rfl) ?_
  refine tp rfl (lv_move rfl) ?_
  refine tc rfl (en_fn Try.call18 rfl) (state_ok (A := A) (Q := Q) (s := s) x (by omega)) ?_
  rintro _ _ ⟨rfl, rfl⟩
  refine tp rfl (lv_move rfl) ?_
  refine tp rfl (lv_extract rfl rfl) ?_
  refine tp rfl (lv_extract rfl rfl) ?_
  refine tp rfl (lv_assign rfl) ?_
  refine tp rfl (lv_assign rfl) ?_
  refine t_done ?_
  refine q_then_n (hK2 _ _ ?_)
  refine c_seq (fun K3 hK3 => ?_)
  refine c_block ?_
  refine c_seq (fun K4 hK4 => ?_)
  refine c_region ?_
  refine tp rfl (lv_move rfl) ?_
  refine tp rfl (lv_assign rfl) ?_
  refine t_done ?_
  refine q_then_n (hK4 _ _ ?_)
  refine c_split rfl (fun c1 => ?_) (fun c1 => ?_)
  · -- true
    refine c_seq (fun K5 hK5 => ?_)
    refine c_region ?_
    refine tp rfl (lv_assign rfl) ?_
    refine tp rfl (lv_assign rfl) ?_
    refine t_done ?_
    refine q_then_n (hK5 _ _ ?_)
    refine c_ret ?_
    refine q_in_r ?_
    refine q_then_r ?_
    rw [show AdmO p A Q s = AdmO p A Q (addS A Q s x) from by rw [show addS A Q s x = s from (by first | (simp only [addS, addV, addEr, aFull, qFull, c1]; done) | (simp only [addS, addV, addEr, aFull, qFull, c1]; rfl))]]
    refine q_ret2 rfl rfl rfl ?_
    exact ⟨(by first | (simp only [addS, addV, addEr, aFull, qFull, c1]; done) | (simp only [addS, addV, addEr, aFull, qFull, c1]; rfl)), rfl⟩
  · -- false
    refine c_seq (fun K5 hK5 => ?_)
    refine c_region ?_
    refine t_openA (fun ba ka bq kq hF => ?_)
    have hA1 := hF.ok.A1
    have hla := hF.ok.la
    have hlq := hF.ok.lq
    refine tp rfl (lv_move rfl) ?_
    refine tp rfl (lv_nilCheck rfl) ?_
    refine tp rfl (lv_fieldAddr (o' := 0) Try.underlying49 rfl Try.sizeOf47 rfl rfl) ?_
    refine tp rfl (lv_move rfl) ?_
    refine t_f1 ?_
    refine t_f1 ?_
    refine tc rfl (en_fn Try.call22 rfl) (radd0_ok (A := A) (l := s.a) x hF.k1 (by omega)) ?_
    rintro _ _ ⟨bs2, cp3, hok4, hle5, rfl, rfl⟩
    refine tp rfl (lv_assign rfl) ?_
    refine t_done ?_
    refine q_then_n (hK5 _ _ ?_)
    refine c_split rfl (fun c6 => ?_) (fun c6 => ?_)
    · -- true
      refine c_seq (fun K6 hK6 => ?_)
      refine c_region ?_
      refine tp rfl (lv_assign rfl) ?_
      refine tp rfl (lv_assign rfl) ?_
      refine t_done ?_
      refine q_then_n (hK6 _ _ ?_)
      refine c_ret ?_
      refine q_in_r ?_
      refine q_then_r ?_
      refine t_f2 ?_
      refine t_f2 ?_
      refine t_f2 ?_
      refine t_shutA (addS A Q s x) (hF.ok.add x) (by first | (simp only [addS, addV, addEr, aFull, qFull, c1, c6]; done) | (simp only [addS, addV, addEr, aFull, qFull, c1, c6]; rfl)) (by first | (simp only [addS, addV, addEr, aFull, qFull, c1, c6]; done) | (simp only [addS, addV, addEr, aFull, qFull, c1, c6]; rfl)) hok4 hF.k2 ?_
      refine q_ret2 rfl rfl rfl ?_
      exact ⟨(by first | (simp only [addS, addV, addEr, aFull, qFull, c1, c6]; done) | (simp only [addS, addV, addEr, aFull, qFull, c1, c6]; rfl)), rfl⟩
    · -- false
      refine c_seq (fun K6 hK6 => ?_)
      refine c_region ?_
      refine tp rfl (lv_move rfl) ?_
      refine tp rfl (lv_nilCheck rfl) ?_
      refine tp rfl (lv_fieldAddr (o' := 2) Try.underlying49 rfl Try.sizeOf47 rfl rfl) ?_
      refine tp rfl (lv_move rfl) ?_
      refine t_f2 ?_
      refine t_f1 ?_
      refine tc rfl (en_fn Try.call22 rfl) (radd2_ok (A := Q) (l := s.q) x hF.k2 (by omega)) ?_
      rintro _ _ ⟨bs7, cp8, hok9, hle10, rfl, rfl⟩
      refine tp rfl (lv_assign rfl) ?_
      refine t_done ?_
      refine q_then_n (hK6 _ _ ?_)
      refine c_split rfl (fun c11 => ?_) (fun c11 => ?_)
      · -- true
        refine c_seq (fun K7 hK7 => ?_)
        refine c_region ?_
        refine tp rfl (lv_assign rfl) ?_
        refine tp rfl (lv_assign rfl) ?_
        refine t_done ?_
        refine q_then_n (hK7 _ _ ?_)
        refine c_ret ?_
        refine q_in_r ?_
        refine q_then_r ?_
        refine t_f1 ?_
        refine t_f2 ?_
        refine t_f2 ?_
        refine t_shutA (addS A Q s x) (hF.ok.add x) (by first | (simp only [addS, addV, addEr, aFull, qFull, c1, c6, c11]; done) | (simp only [addS, addV, addEr, aFull, qFull, c1, c6, c11]; rfl)) (by first | (simp only [addS, addV, addEr, aFull, qFull, c1, c6, c11]; done) | (simp only [addS, addV, addEr, aFull, qFull, c1, c6, c11]; rfl)) hok4 hok9 ?_
        refine q_ret2 rfl rfl rfl ?_
        exact ⟨(by first | (simp only [addS, addV, addEr, aFull, qFull, c1, c6, c11]; done) | (simp only [addS, addV, addEr, aFull, qFull, c1, c6, c11]; rfl)), rfl⟩
      · -- false
        refine c_skip ?_
        refine q_in_n ?_
        refine q_then_n (hK3 _ _ ?_)
        refine c_seq (fun K7 hK7 => ?_)
        refine c_region ?_
        refine tp rfl (lv_assign rfl) ?_
        refine tp rfl (lv_assign rfl) ?_
        refine t_done ?_
        refine q_then_n (hK7 _ _ ?_)
        refine c_ret ?_
        refine t_f1 ?_
        refine t_f2 ?_
        refine t_f2 ?_
        refine t_shutA (addS A Q s x) (hF.ok.add x) (by first | (simp only [addS, addV, addEr, aFull, qFull, c1, c6, c11]; done) | (simp only [addS, addV, addEr, aFull, qFull, c1, c6, c11]; rfl)) (by first | (simp only [addS, addV, addEr, aFull, qFull, c1, c6, c11]; done) | (simp only [addS, addV, addEr, aFull, qFull, c1, c6, c11]; rfl)) hok4 hok9 ?_
        refine q_ret2 rfl rfl rfl ?_
        exact ⟨(by first | (simp only [addS, addV, addEr, aFull, qFull, c1, c6, c11]; done) | (simp only [addS, addV, addEr, aFull, qFull, c1, c6, c11]; rfl)), rfl⟩

theorem aend_ok {R : List HP} {p : Nat} {A Q : Int} {s : AS} (x : Int) (hb : s.a.length + s.q.length ≤ 100000) :
    Ok Try.prog 14 [(.pointer (some ⟨p, 0, none⟩)), (.int .i64 x)] ((AdmO p A Q s) :: R)
      (fun v M => v = .tuple #[.int .i64 (endV s x), .int .i64 (endEr s x)] ∧ M = AdmO p A Q (endS s x) :: R) := by
  refine ok_of (N := 46) Try.func14 rfl rfl rfl (fun W => ?_)
  refine t_openA (fun ba ka bq kq hF => ?_)
  have hA1 := hF.ok.A1
  have hla := hF.ok.la
  have hlq := hF.ok.lq
  refine c_seq (fun K1 hK1 => ?_)
  refine c_region ?_
  refine tp rfl (lv_assign rfl) ?_
  refine tp rfl (lv_assign rfl) ?_
  refine t_done ?_
  refine q_then_n (hK1 _ _ ?_)
  refine c_seq (fun K2 hK2 => ?_)
  refine c_block ?_
  refine c_seq (fun K3 hK3 => ?_)
  refine c_region ?_
  refine tp rfl (lv_move rfl) ?_
  refine tp rfl (lv_nilCheck rfl) ?_
  refine tp rfl (lv_fieldAddr (o' := 2) Try.underlying49 rfl Try.sizeOf47 rfl rfl) ?_
  refine tp rfl (lv_move rfl) ?_
  refine t_f2 ?_
  refine t_f1 ?_
  refine tc rfl (en_fn Try.call24 rfl) (rdrop2_ok (l := s.q) x hF.k2 (by omega)) ?_
  rintro _ _ ⟨hok1, rfl, rfl⟩
  refine tp rfl (lv_assign rfl) ?_
  refine t_done ?_
  refine q_then_n (hK3 _ _ ?_)
  refine c_split rfl (fun c2 => ?_) (fun c2 => ?_)
  · -- true
    refine c_seq (fun K4 hK4 => ?_)
    refine c_region ?_
    refine tp rfl (lv_assign rfl) ?_
    refine tp rfl (lv_assign rfl) ?_
    refine t_done ?_
    refine q_then_n (hK4 _ _ ?_)
    refine c_ret ?_
    refine q_in_r ?_
    refine q_then_r ?_
    have hnx := c2
    refine t_f1 ?_
    refine t_f2 ?_
    refine t_f2 ?_
    refine t_shutA (endS s x) (hF.ok.ende x) (by first | (simp only [endS, endV, endEr, there, inA, inQ, c2, cond_true, cond_false, Bool.not_true, Bool.not_false, Bool.true_or, Bool.or_true, Bool.false_or, Bool.or_false]; done) | (simp only [endS, endV, endEr, there, inA, inQ, c2, cond_true, cond_false, Bool.not_true, Bool.not_false, Bool.true_or, Bool.or_true, Bool.false_or, Bool.or_false]; rfl)) (by first | (simp only [endS, endV, endEr, there, inA, inQ, c2, cond_true, cond_false, Bool.not_true, Bool.not_false, Bool.true_or, Bool.or_true, Bool.false_or, Bool.or_false]; done) | (simp only [endS, endV, endEr, there, inA, inQ, c2, cond_true, cond_false, Bool.not_true, Bool.not_false, Bool.true_or, Bool.or_true, Bool.false_or, Bool.or_false]; rfl)) hF.k1 hok1 ?_
    refine q_ret2 rfl rfl rfl ?_
    exact ⟨(by first | (simp only [endS, endV, endEr, there, inA, inQ, c2, cond_true, cond_false, Bool.not_true, Bool.not_false, Bool.true_or, Bool.or_true, Bool.false_or, Bool.or_false]; done) | (simp only [endS, endV, endEr, there, inA, inQ, c2, cond_true, cond_false, Bool.not_true, Bool.not_false, Bool.true_or, Bool.or_true, Bool.false_or, Bool.or_false]; rfl)), rfl⟩
  · -- false
    refine c_seq (fun K4 hK4 => ?_)
    refine c_region ?_
    rw [show (s.q.erase x) = s.q from List.erase_of_not_mem (by have := c2; simpa using this)] at hok1 ⊢
    refine tp rfl (lv_move rfl) ?_
    refine tp rfl (lv_nilCheck rfl) ?_
    refine tp rfl (lv_fieldAddr (o' := 0) Try.underlying49 rfl Try.sizeOf47 rfl rfl) ?_
    refine tp rfl (lv_move rfl) ?_
    refine t_f2 ?_
    refine t_f1 ?_
    refine tc rfl (en_fn Try.call24 rfl) (rdrop0_ok (l := s.a) x hF.k1 (by omega)) ?_
    rintro _ _ ⟨hok3, rfl, rfl⟩
    refine tp rfl (lv_not (c := !(s.a.contains x)) rfl rfl) ?_
    refine tp rfl (lv_assign rfl) ?_
    refine t_done ?_
    refine q_then_n (hK4 _ _ ?_)
    refine c_split rfl (fun c4 => ?_) (fun c4 => ?_)
    · -- true
      refine c_seq (fun K5 hK5 => ?_)
      refine c_region ?_
      rw [show (s.a.erase x) = s.a from List.erase_of_not_mem (by have := c4; simpa using this)] at hok3 ⊢
      refine tp rfl (lv_assign rfl) ?_
      refine tp rfl (lv_assign rfl) ?_
      refine t_done ?_
      refine q_then_n (hK5 _ _ ?_)
      refine c_ret ?_
      refine q_in_r ?_
      refine q_then_r ?_
      have hnx := c4
      refine t_f2 ?_
      refine t_f2 ?_
      refine t_f2 ?_
      refine t_shutA (endS s x) (hF.ok.ende x) (by first | (simp only [endS, endV, endEr, there, inA, inQ, c2, (show (s.a.contains x) = false from by have := c4; simpa using this), cond_true, cond_false, Bool.not_true, Bool.not_false, Bool.true_or, Bool.or_true, Bool.false_or, Bool.or_false]; done) | (simp only [endS, endV, endEr, there, inA, inQ, c2, (show (s.a.contains x) = false from by have := c4; simpa using this), cond_true, cond_false, Bool.not_true, Bool.not_false, Bool.true_or, Bool.or_true, Bool.false_or, Bool.or_false]; rfl)) (by first | (simp only [endS, endV, endEr, there, inA, inQ, c2, (show (s.a.contains x) = false from by have := c4; simpa using this), cond_true, cond_false, Bool.not_true, Bool.not_false, Bool.true_or, Bool.or_true, Bool.false_or, Bool.or_false]; done) | (simp only [endS, endV, endEr, there, inA, inQ, c2, (show (s.a.contains x) = false from by have := c4; simpa using this), cond_true, cond_false, Bool.not_true, Bool.not_false, Bool.true_or, Bool.or_true, Bool.false_or, Bool.or_false]; rfl)) hok3 hok1 ?_
      refine q_ret2 rfl rfl rfl ?_
      exact ⟨(by first | (simp only [endS, endV, endEr, there, inA, inQ, c2, (show (s.a.contains x) = false from by have := c4; simpa using this), cond_true, cond_false, Bool.not_true, Bool.not_false, Bool.true_or, Bool.or_true, Bool.false_or, Bool.or_false]; done) | (simp only [endS, endV, endEr, there, inA, inQ, c2, (show (s.a.contains x) = false from by have := c4; simpa using this), cond_true, cond_false, Bool.not_true, Bool.not_false, Bool.true_or, Bool.or_true, Bool.false_or, Bool.or_false]; rfl)), rfl⟩
    · -- false
      refine c_seq (fun K5 hK5 => ?_)
      refine c_region ?_
      have hel := erase_len (l := s.a) (x := x) (by have := c4; simpa using this)
      refine tp rfl (lv_move rfl) ?_
      refine tp rfl (lv_nilCheck rfl) ?_
      refine tp rfl (lv_fieldAddr (o' := 2) Try.underlying49 rfl Try.sizeOf47 rfl rfl) ?_
      refine tp rfl (lv_fieldAddr (o' := 3) Try.underlying47 rfl Try.sizeOf27 rfl rfl) ?_
      refine tp rfl (lv_load Try.isAgg27 rfl (gives_blk (.head _) rfl)) ?_
      refine tp rfl (lv_len Try.underlying27 rfl rfl) ?_
      by_cases h5 : ((s.q.length : Nat) : Int) = 0
      · -- yes
        refine tp rfl (lv_eql rfl rfl (beq_iff_eq.2 h5)) ?_
        refine tp rfl (lv_assign rfl) ?_
        refine t_done ?_
        refine q_then_n (hK5 _ _ ?_)
        refine c_true rfl ?_
        refine c_seq (fun K6 hK6 => ?_)
        refine c_region ?_
        refine tp rfl (lv_assign rfl) ?_
        refine tp rfl (lv_assign rfl) ?_
        refine t_done ?_
        refine q_then_n (hK6 _ _ ?_)
        refine c_ret ?_
        refine q_in_r ?_
        refine q_then_r ?_
        have hq0 : s.q = [] := List.eq_nil_of_length_eq_zero (by omega)
        have hnx := c4
        refine t_f2 ?_
        refine t_f2 ?_
        refine t_f2 ?_
        refine t_shutA (endS s x) (hF.ok.ende x) (by first | (simp only [endS, endV, endEr, there, inA, inQ, hq0, c2, (show (s.a.contains x) = true from by have := c4; simpa using this), cond_true, cond_false, Bool.not_true, Bool.not_false, Bool.true_or, Bool.or_true, Bool.false_or, Bool.or_false]; done) | (simp only [endS, endV, endEr, there, inA, inQ, hq0, c2, (show (s.a.contains x) = true from by have := c4; simpa using this), cond_true, cond_false, Bool.not_true, Bool.not_false, Bool.true_or, Bool.or_true, Bool.false_or, Bool.or_false]; rfl)) (by first | (simp only [endS, endV, endEr, there, inA, inQ, hq0, c2, (show (s.a.contains x) = true from by have := c4; simpa using this), cond_true, cond_false, Bool.not_true, Bool.not_false, Bool.true_or, Bool.or_true, Bool.false_or, Bool.or_false]; done) | (simp only [endS, endV, endEr, there, inA, inQ, hq0, c2, (show (s.a.contains x) = true from by have := c4; simpa using this), cond_true, cond_false, Bool.not_true, Bool.not_false, Bool.true_or, Bool.or_true, Bool.false_or, Bool.or_false]; rfl)) hok3 hok1 ?_
        refine q_ret2 rfl rfl rfl ?_
        exact ⟨(by first | (simp only [endS, endV, endEr, there, inA, inQ, hq0, c2, (show (s.a.contains x) = true from by have := c4; simpa using this), cond_true, cond_false, Bool.not_true, Bool.not_false, Bool.true_or, Bool.or_true, Bool.false_or, Bool.or_false]; done) | (simp only [endS, endV, endEr, there, inA, inQ, hq0, c2, (show (s.a.contains x) = true from by have := c4; simpa using this), cond_true, cond_false, Bool.not_true, Bool.not_false, Bool.true_or, Bool.or_true, Bool.false_or, Bool.or_false]; rfl)), rfl⟩
      · -- no
        refine tp rfl (lv_eql rfl rfl (beq_eq_false_iff_ne.2 h5)) ?_
        refine tp rfl (lv_assign rfl) ?_
        refine t_done ?_
        refine q_then_n (hK5 _ _ ?_)
        refine c_false rfl ?_
        refine c_skip ?_
        refine q_in_n ?_
        refine q_then_n (hK2 _ _ ?_)
        refine c_seq (fun K6 hK6 => ?_)
        refine c_region ?_
        refine tp rfl (lv_move rfl) ?_
        refine tp rfl (lv_nilCheck rfl) ?_
        refine tp rfl (lv_fieldAddr (o' := 2) Try.underlying49 rfl Try.sizeOf47 rfl rfl) ?_
        refine tp rfl (lv_fieldAddr (o' := 3) Try.underlying47 rfl Try.sizeOf27 rfl rfl) ?_
        refine tp rfl (lv_load Try.isAgg27 rfl (gives_blk (.head _) rfl)) ?_
        refine tp rfl (lv_indexAddr (k' := 0) Try.underlying27 Try.sizeOf3 rfl rfl hok1 (by omega) (by omega) (by omega)) ?_
        refine tp rfl (lv_load Try.isAgg3 rfl (gives_sl (.tail _ (.tail _ (.head _))) (ints_get (by omega)))) ?_
        refine tp rfl (lv_assign rfl) ?_
        refine t_done ?_
        refine q_then_n (hK6 _ _ ?_)
        refine c_seq (fun K7 hK7 => ?_)
        refine c_region ?_
        refine tp rfl (lv_move rfl) ?_
        refine tp rfl (lv_nilCheck rfl) ?_
        refine tp rfl (lv_fieldAddr (o' := 2) Try.underlying49 rfl Try.sizeOf47 rfl rfl) ?_
        refine tp rfl (lv_move rfl) ?_
        refine t_f2 ?_
        refine t_f1 ?_
        refine tc rfl (en_fn Try.call24 rfl) (rdrop2_ok (l := s.q) ((s.q).getD 0 0) hok1 (by omega)) ?_
        rintro _ _ ⟨hok6, rfl, rfl⟩
        refine t_done ?_
        refine q_then_n (hK7 _ _ ?_)
        refine c_seq (fun K8 hK8 => ?_)
        refine c_region ?_
        refine tp rfl (lv_move rfl) ?_
        refine tp rfl (lv_nilCheck rfl) ?_
        refine tp rfl (lv_fieldAddr (o' := 0) Try.underlying49 rfl Try.sizeOf47 rfl rfl) ?_
        refine tp rfl (lv_move rfl) ?_
        refine t_f2 ?_
        refine t_f1 ?_
        refine tc rfl (en_fn Try.call22 rfl) (radd0_ok (A := A) (l := (s.a.erase x)) ((s.q).getD 0 0) hok3 (by omega)) ?_
        rintro _ _ ⟨bs7, cp8, hok9, hle10, rfl, rfl⟩
        refine t_done ?_
        refine q_then_n (hK8 _ _ ?_)
        refine c_seq (fun K9 hK9 => ?_)
        refine c_region ?_
        refine tp rfl (lv_move rfl) ?_
        refine tp rfl (lv_assign rfl) ?_
        refine tp rfl (lv_assign rfl) ?_
        refine t_done ?_
        refine q_then_n (hK9 _ _ ?_)
        refine c_ret ?_
        have hen := endS_next (x := x) hF.ok c2 (by have := c4; simpa using this) (by omega)
        refine t_f2 ?_
        refine t_f2 ?_
        refine t_f2 ?_
        refine t_shutA (endS s x) (hF.ok.ende x) hen.1 hen.2.1 hok9 hok6 ?_
        refine q_ret2 rfl rfl rfl ?_
        exact ⟨by rw [hen.2.2.1, hen.2.2.2], rfl⟩
end Go.Proofs.Ythhmdcbhgnoemaa
