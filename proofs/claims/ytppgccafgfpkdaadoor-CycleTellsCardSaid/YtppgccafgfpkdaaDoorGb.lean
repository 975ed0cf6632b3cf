/- Contracts of the graph's functions, the second half. -/
import Derived.Test.YtppgccafgfpkdaaDoorGa
set_option maxRecDepth 100000
set_option linter.unusedVariables false
set_option linter.unusedSimpArgs false
namespace Go.Proofs.YtppgccafgfpkdaaDoor
open Go Go.Proofs Sp
theorem hasE_t {R : List HP} {p N : Nat} {es : Es} (a b : Nat) (ha : a < N) (hb : b < N) :
    Ok Tryd.prog 24 [(.pointer (some ⟨p, 0, none⟩)), (.int .i64 ((a : Nat) : Int)), (.int .i64 ((b : Nat) : Int))] ((GraphO p N es) :: R)
      (fun v M => v = .bool (hasE es (((a : Nat) : Int), ((b : Nat) : Int))) ∧ M = GraphO p N es :: R) := by
  refine ok_of (N := 23) Tryd.func24 rfl rfl rfl (fun W => ?_)
  refine t_learn (fun _ h => gok_of h) (fun hgok => ?_)
  refine c_seq (fun K1 hK1 => ?_)
  refine c_region ?_
  refine tp rfl (lv_assign rfl) ?_
  refine t_done ?_
  refine q_then_n (hK1 _ _ ?_)
  refine c_seq (fun K2 hK2 => ?_)
  refine c_region ?_
  refine tp rfl (lv_move rfl) ?_
  refine tp rfl (lv_move rfl) ?_
  refine tp rfl (lv_move rfl) ?_
  refine tm rfl (mv_buildSlice (cs := [(.int .i64 ((a : Nat) : Int)), (.int .i64 ((b : Nat) : Int))]) Tryd.underlying33 Tryd.sizeOf3 Tryd.zeroValue3 (by decide) rfl rfl rfl rfl) ?_
  rintro _ _ ⟨bs1, cp2, hok3, hle4, rfl, rfl⟩
  refine t_f1 ?_
  refine tc rfl (en_fn Tryd.call39 rfl) (there_is (N := N) (es := es) [((a : Nat) : Int), ((b : Nat) : Int)] (there_t2 ha hb) (rd_sl (.head _)) hok3 (by simp)) ?_
  rintro _ _ ⟨rfl, rfl⟩
  refine tp rfl (lv_move rfl) ?_
  refine t_guard rfl rfl ?_
  refine tp rfl (lv_move rfl) ?_
  refine t_openG (fun bo co bi ci bt ct vo vi hG => ?_)
  have gsm := hG.ok.small
  have glo := hG.lo
  have gli := hG.li
  have gml := masksOf_length N es
  refine t_guard rfl rfl ?_
  refine tp rfl (lv_nilCheck rfl) ?_
  refine t_guard rfl rfl ?_
  refine tp rfl (lv_fieldAddr (o' := 2) Tryd.underlying64 rfl Tryd.sizeOf62 rfl rfl) ?_
  refine t_guard rfl rfl ?_
  refine tp rfl (lv_load Tryd.isAgg62 rfl (gives_blk (.head _) rfl)) ?_
  refine t_guard rfl rfl ?_
  refine tp rfl (lv_move rfl) ?_
  refine t_guard rfl rfl ?_
  refine tp rfl (lv_indexAddr (k' := a) Tryd.underlying62 Tryd.sizeOf68 rfl rfl hG.okt (by omega) (by omega) (by omega)) ?_
  refine t_guard rfl rfl ?_
  refine tp rfl (lv_load Tryd.isAgg68 rfl (gives_as (by rw [masksOf_get (by omega)]) (gives_sl (.tail _ (.tail _ (.tail _ (.head _)))) (ints_get (by first | omega | (simp; omega)))))) ?_
  refine t_guard rfl rfl ?_
  refine tp rfl (lv_move rfl) ?_
  refine t_guard rfl rfl ?_
  refine tc rfl (en_fn Tryd.call42 rfl) (has_ok (maskL (outs es ((a : Nat) : Int))) b (by omega) (hG.ok.mask_lt _)) ?_
  rintro _ _ ⟨rfl, rfl⟩
  refine tp rfl (lv_pick_t rfl rfl) ?_
  refine tp rfl (lv_assign rfl) ?_
  refine t_done ?_
  refine q_then_n (hK2 _ _ ?_)
  refine c_ret ?_
  refine t_f5 ?_
  refine t_f5 ?_
  refine t_f5 ?_
  refine t_f5 ?_
  refine t_f5 ?_
  refine t_f5 ?_
  refine t_shutG hG ?_
  refine t_f1 ?_
  refine t_drop ?_
  refine q_ret rfl rfl ?_
  exact ⟨by rw [hgok.hasE_bit], rfl⟩

theorem hasE_f {R : List HP} {p N : Nat} {es : Es} (a b : Int) (hv : thereB N [a, b] = false) (hv' : (valid N a && valid N b) = false) :
    Ok Tryd.prog 24 [(.pointer (some ⟨p, 0, none⟩)), (.int .i64 a), (.int .i64 b)] ((GraphO p N es) :: R)
      (fun v M => v = .bool (hasE es (a, b)) ∧ M = GraphO p N es :: R) := by
  refine ok_of (N := 23) Tryd.func24 rfl rfl rfl (fun W => ?_)
  refine t_learn (fun _ h => gok_of h) (fun hgok => ?_)
  refine c_seq (fun K1 hK1 => ?_)
  refine c_region ?_
  refine tp rfl (lv_assign rfl) ?_
  refine t_done ?_
  refine q_then_n (hK1 _ _ ?_)
  refine c_seq (fun K2 hK2 => ?_)
  refine c_region ?_
  refine tp rfl (lv_move rfl) ?_
  refine tp rfl (lv_move rfl) ?_
  refine tp rfl (lv_move rfl) ?_
  refine tm rfl (mv_buildSlice (cs := [(.int .i64 a), (.int .i64 b)]) Tryd.underlying33 Tryd.sizeOf3 Tryd.zeroValue3 (by decide) rfl rfl rfl rfl) ?_
  rintro _ _ ⟨bs1, cp2, hok3, hle4, rfl, rfl⟩
  refine t_f1 ?_
  refine tc rfl (en_fn Tryd.call39 rfl) (there_is (N := N) (es := es) [a, b] hv (rd_sl (.head _)) hok3 (by simp)) ?_
  rintro _ _ ⟨rfl, rfl⟩
  refine tp rfl (lv_move rfl) ?_
  refine t_skip rfl rfl rfl ?_
  refine t_skip rfl rfl rfl ?_
  refine t_skip rfl rfl rfl ?_
  refine t_skip rfl rfl rfl ?_
  refine t_skip rfl rfl rfl ?_
  refine t_skip rfl rfl rfl ?_
  refine t_skip rfl rfl rfl ?_
  refine t_skip rfl rfl rfl ?_
  refine t_skip rfl rfl rfl ?_
  refine tp rfl (lv_pick_f rfl rfl) ?_
  refine tp rfl (lv_assign rfl) ?_
  refine t_done ?_
  refine q_then_n (hK2 _ _ ?_)
  refine c_ret ?_
  refine t_f1 ?_
  refine t_drop ?_
  refine q_ret rfl rfl ?_
  exact ⟨by rw [hgok.hasE_f hv'], rfl⟩

theorem hasE_ok {R : List HP} {p N : Nat} {es : Es} (a b : Int) : Ok Tryd.prog 24 [(.pointer (some ⟨p, 0, none⟩)), (.int .i64 a), (.int .i64 b)] (GraphO p N es :: R)
      (fun v M => v = .bool (hasE es (a, b)) ∧ M = GraphO p N es :: R) := by
  rcases there_cases2 N a b with ⟨k, m, hk, hm, rfl, rfl⟩ | ⟨h1, h2⟩
  · exact hasE_t k m hk hm
  · exact hasE_f a b h1 h2

theorem out_t {R : List HP} {p N : Nat} {es : Es} (a : Nat) (ha : a < N) :
    Ok Tryd.prog 22 [(.pointer (some ⟨p, 0, none⟩)), (.int .i64 ((a : Nat) : Int))] ((GraphO p N es) :: R)
      (OutSl 3 1 (outs es ((a : Nat) : Int)).length (ints .i64 (outs es ((a : Nat) : Int))) (GraphO p N es :: R)) := by
  refine ok_of (N := 18) Tryd.func22 rfl rfl rfl (fun W => ?_)
  refine t_learn (fun _ h => gok_of h) (fun hgok => ?_)
  refine c_seq (fun K1 hK1 => ?_)
  refine c_region ?_
  refine tp rfl (lv_assign rfl) ?_
  refine t_done ?_
  refine q_then_n (hK1 _ _ ?_)
  refine c_seq (fun K2 hK2 => ?_)
  refine c_seq (fun K3 hK3 => ?_)
  refine c_region ?_
  refine tp rfl (lv_move rfl) ?_
  refine tp rfl (lv_move rfl) ?_
  refine tm rfl (mv_buildSlice (cs := [(.int .i64 ((a : Nat) : Int))]) Tryd.underlying33 Tryd.sizeOf3 Tryd.zeroValue3 (by decide) rfl rfl rfl rfl) ?_
  rintro _ _ ⟨bs1, cp2, hok3, hle4, rfl, rfl⟩
  refine t_f1 ?_
  refine tc rfl (en_fn Tryd.call39 rfl) (there_is (N := N) (es := es) [((a : Nat) : Int)] (there_t1 ha) (rd_sl (.head _)) hok3 (by simp)) ?_
  rintro _ _ ⟨rfl, rfl⟩
  refine tp rfl (lv_not (c := false) rfl rfl) ?_
  refine t_done ?_
  refine q_then_n (hK3 _ _ ?_)
  refine c_false rfl ?_
  refine c_skip ?_
  refine q_then_n (hK2 _ _ ?_)
  refine c_seq (fun K4 hK4 => ?_)
  refine c_region ?_
  refine t_openG (fun bo co bi ci bt ct vo vi hG => ?_)
  have gsm := hG.ok.small
  have glo := hG.lo
  have gli := hG.li
  have gml := masksOf_length N es
  have hll := hgok.outs_le (a : Int)
  refine t_rdRow (a := a) (.tail _ (.tail _ (.tail _ (.tail _ (.head _))))) (by rw [rowsOf_length]; first | exact glo | exact gli) (by omega) ?_
  rw [rowsOf_get ha]
  intro ba ca hoka hlea hva hrda
  refine tp rfl (lv_move rfl) ?_
  refine tp rfl (lv_nilCheck rfl) ?_
  refine tp rfl (lv_fieldAddr (o' := 0) Tryd.underlying64 rfl Tryd.sizeOf61 rfl rfl) ?_
  refine tp rfl (lv_load Tryd.isAgg61 rfl (gives_blk (.head _) rfl)) ?_
  refine tp rfl (lv_move rfl) ?_
  refine tp rfl (lv_indexAddr (k' := a) Tryd.underlying61 Tryd.sizeOf33 rfl rfl hG.oko (by omega) (by omega) (by omega)) ?_
  refine tp rfl (lv_load Tryd.isAgg33 rfl (gives_as hva (gives_sl (.tail _ (.head _)) (vals_get (by omega))))) ?_
  refine tc rfl (en_fn Tryd.call40 rfl) (clone_ok (outs es ((a : Nat) : Int)) hrda hoka (by first | omega | (simp; omega))) ?_
  rintro _ _ ⟨bs5, cp6, hok7, hle8, rfl, rfl⟩
  refine tp rfl (lv_assign rfl) ?_
  refine t_done ?_
  refine q_then_n (hK4 _ _ ?_)
  refine c_ret ?_
  refine t_f6 ?_
  refine t_f6 ?_
  refine t_f6 ?_
  refine t_f6 ?_
  refine t_f6 ?_
  refine t_f6 ?_
  refine t_shutG hG ?_
  refine t_f1 ?_
  refine t_f2 ?_
  refine t_drop ?_
  refine q_ret rfl rfl ?_
  exact ⟨_, _, hok7, hle8, rfl, rfl⟩

theorem out_f {R : List HP} {p N : Nat} {es : Es} (a : Int) (hv : thereB N [a] = false) (hv' : valid N a = false) :
    Ok Tryd.prog 22 [(.pointer (some ⟨p, 0, none⟩)), (.int .i64 a)] ((GraphO p N es) :: R)
      (OutSl 3 1 (outs es a).length (ints .i64 (outs es a)) (GraphO p N es :: R)) := by
  refine ok_of (N := 18) Tryd.func22 rfl rfl rfl (fun W => ?_)
  refine t_learn (fun _ h => gok_of h) (fun hgok => ?_)
  refine c_seq (fun K1 hK1 => ?_)
  refine c_region ?_
  refine tp rfl (lv_assign rfl) ?_
  refine t_done ?_
  refine q_then_n (hK1 _ _ ?_)
  refine c_seq (fun K2 hK2 => ?_)
  refine c_seq (fun K3 hK3 => ?_)
  refine c_region ?_
  refine tp rfl (lv_move rfl) ?_
  refine tp rfl (lv_move rfl) ?_
  refine tm rfl (mv_buildSlice (cs := [(.int .i64 a)]) Tryd.underlying33 Tryd.sizeOf3 Tryd.zeroValue3 (by decide) rfl rfl rfl rfl) ?_
  rintro _ _ ⟨bs1, cp2, hok3, hle4, rfl, rfl⟩
  refine t_f1 ?_
  refine tc rfl (en_fn Tryd.call39 rfl) (there_is (N := N) (es := es) [a] hv (rd_sl (.head _)) hok3 (by simp)) ?_
  rintro _ _ ⟨rfl, rfl⟩
  refine tp rfl (lv_not (c := true) rfl rfl) ?_
  refine t_done ?_
  refine q_then_n (hK3 _ _ ?_)
  refine c_true rfl ?_
  refine c_seq (fun K4 hK4 => ?_)
  refine c_region ?_
  refine tp rfl (lv_assign rfl) ?_
  refine t_done ?_
  refine q_then_n (hK4 _ _ ?_)
  refine c_ret ?_
  refine q_then_r ?_
  refine t_sat (fun _ h => sat_nilsl 3 1 h) ?_
  refine t_f2 ?_
  refine t_drop ?_
  refine q_ret rfl rfl ?_
  rw [outs_f hgok hv']
  exact ⟨none, 0, slok_none, Nat.le_refl _, rfl, rfl⟩

theorem out_ok {R : List HP} {p N : Nat} {es : Es} (a : Int) : Ok Tryd.prog 22 [(.pointer (some ⟨p, 0, none⟩)), (.int .i64 a)] (GraphO p N es :: R)
      (OutSl 3 1 (outs es a).length (ints .i64 (outs es a)) (GraphO p N es :: R)) := by
  rcases there_cases1 N a with ⟨k, hk, rfl⟩ | ⟨h1, h2⟩
  · exact out_t k hk
  · exact out_f a h1 h2

theorem in_t {R : List HP} {p N : Nat} {es : Es} (a : Nat) (ha : a < N) :
    Ok Tryd.prog 29 [(.pointer (some ⟨p, 0, none⟩)), (.int .i64 ((a : Nat) : Int))] ((GraphO p N es) :: R)
      (OutSl 3 1 (inns es ((a : Nat) : Int)).length (ints .i64 (inns es ((a : Nat) : Int))) (GraphO p N es :: R)) := by
  refine ok_of (N := 18) Tryd.func29 rfl rfl rfl (fun W => ?_)
  refine t_learn (fun _ h => gok_of h) (fun hgok => ?_)
  refine c_seq (fun K1 hK1 => ?_)
  refine c_region ?_
  refine tp rfl (lv_assign rfl) ?_
  refine t_done ?_
  refine q_then_n (hK1 _ _ ?_)
  refine c_seq (fun K2 hK2 => ?_)
  refine c_seq (fun K3 hK3 => ?_)
  refine c_region ?_
  refine tp rfl (lv_move rfl) ?_
  refine tp rfl (lv_move rfl) ?_
  refine tm rfl (mv_buildSlice (cs := [(.int .i64 ((a : Nat) : Int))]) Tryd.underlying33 Tryd.sizeOf3 Tryd.zeroValue3 (by decide) rfl rfl rfl rfl) ?_
  rintro _ _ ⟨bs1, cp2, hok3, hle4, rfl, rfl⟩
  refine t_f1 ?_
  refine tc rfl (en_fn Tryd.call39 rfl) (there_is (N := N) (es := es) [((a : Nat) : Int)] (there_t1 ha) (rd_sl (.head _)) hok3 (by simp)) ?_
  rintro _ _ ⟨rfl, rfl⟩
  refine tp rfl (lv_not (c := false) rfl rfl) ?_
  refine t_done ?_
  refine q_then_n (hK3 _ _ ?_)
  refine c_false rfl ?_
  refine c_skip ?_
  refine q_then_n (hK2 _ _ ?_)
  refine c_seq (fun K4 hK4 => ?_)
  refine c_region ?_
  refine t_openG (fun bo co bi ci bt ct vo vi hG => ?_)
  have gsm := hG.ok.small
  have glo := hG.lo
  have gli := hG.li
  have gml := masksOf_length N es
  have hll := hgok.inns_le (a : Int)
  refine t_rdRow (a := a) (.tail _ (.tail _ (.tail _ (.tail _ (.tail _ (.head _)))))) (by rw [rowsOf_length]; first | exact glo | exact gli) (by omega) ?_
  rw [rowsOf_get ha]
  intro ba ca hoka hlea hva hrda
  refine tp rfl (lv_move rfl) ?_
  refine tp rfl (lv_nilCheck rfl) ?_
  refine tp rfl (lv_fieldAddr (o' := 1) Tryd.underlying64 rfl Tryd.sizeOf61 rfl rfl) ?_
  refine tp rfl (lv_load Tryd.isAgg61 rfl (gives_blk (.head _) rfl)) ?_
  refine tp rfl (lv_move rfl) ?_
  refine tp rfl (lv_indexAddr (k' := a) Tryd.underlying61 Tryd.sizeOf33 rfl rfl hG.oki (by omega) (by omega) (by omega)) ?_
  refine tp rfl (lv_load Tryd.isAgg33 rfl (gives_as hva (gives_sl (.tail _ (.tail _ (.head _))) (vals_get (by omega))))) ?_
  refine tc rfl (en_fn Tryd.call40 rfl) (clone_ok (inns es ((a : Nat) : Int)) hrda hoka (by first | omega | (simp; omega))) ?_
  rintro _ _ ⟨bs5, cp6, hok7, hle8, rfl, rfl⟩
  refine tp rfl (lv_assign rfl) ?_
  refine t_done ?_
  refine q_then_n (hK4 _ _ ?_)
  refine c_ret ?_
  refine t_f6 ?_
  refine t_f6 ?_
  refine t_f6 ?_
  refine t_f6 ?_
  refine t_f6 ?_
  refine t_f6 ?_
  refine t_shutG hG ?_
  refine t_f1 ?_
  refine t_f2 ?_
  refine t_drop ?_
  refine q_ret rfl rfl ?_
  exact ⟨_, _, hok7, hle8, rfl, rfl⟩

theorem in_f {R : List HP} {p N : Nat} {es : Es} (a : Int) (hv : thereB N [a] = false) (hv' : valid N a = false) :
    Ok Tryd.prog 29 [(.pointer (some ⟨p, 0, none⟩)), (.int .i64 a)] ((GraphO p N es) :: R)
      (OutSl 3 1 (inns es a).length (ints .i64 (inns es a)) (GraphO p N es :: R)) := by
  refine ok_of (N := 18) Tryd.func29 rfl rfl rfl (fun W => ?_)
  refine t_learn (fun _ h => gok_of h) (fun hgok => ?_)
  refine c_seq (fun K1 hK1 => ?_)
  refine c_region ?_
  refine tp rfl (lv_assign rfl) ?_
  refine t_done ?_
  refine q_then_n (hK1 _ _ ?_)
  refine c_seq (fun K2 hK2 => ?_)
  refine c_seq (fun K3 hK3 => ?_)
  refine c_region ?_
  refine tp rfl (lv_move rfl) ?_
  refine tp rfl (lv_move rfl) ?_
  refine tm rfl (mv_buildSlice (cs := [(.int .i64 a)]) Tryd.underlying33 Tryd.sizeOf3 Tryd.zeroValue3 (by decide) rfl rfl rfl rfl) ?_
  rintro _ _ ⟨bs1, cp2, hok3, hle4, rfl, rfl⟩
  refine t_f1 ?_
  refine tc rfl (en_fn Tryd.call39 rfl) (there_is (N := N) (es := es) [a] hv (rd_sl (.head _)) hok3 (by simp)) ?_
  rintro _ _ ⟨rfl, rfl⟩
  refine tp rfl (lv_not (c := true) rfl rfl) ?_
  refine t_done ?_
  refine q_then_n (hK3 _ _ ?_)
  refine c_true rfl ?_
  refine c_seq (fun K4 hK4 => ?_)
  refine c_region ?_
  refine tp rfl (lv_assign rfl) ?_
  refine t_done ?_
  refine q_then_n (hK4 _ _ ?_)
  refine c_ret ?_
  refine q_then_r ?_
  refine t_sat (fun _ h => sat_nilsl 3 1 h) ?_
  refine t_f2 ?_
  refine t_drop ?_
  refine q_ret rfl rfl ?_
  rw [inns_f hgok hv']
  exact ⟨none, 0, slok_none, Nat.le_refl _, rfl, rfl⟩

theorem in_ok {R : List HP} {p N : Nat} {es : Es} (a : Int) : Ok Tryd.prog 29 [(.pointer (some ⟨p, 0, none⟩)), (.int .i64 a)] (GraphO p N es :: R)
      (OutSl 3 1 (inns es a).length (ints .i64 (inns es a)) (GraphO p N es :: R)) := by
  rcases there_cases1 N a with ⟨k, hk, rfl⟩ | ⟨h1, h2⟩
  · exact in_t k hk
  · exact in_f a h1 h2

theorem add_f {R : List HP} {p N : Nat} {es : Es} (a b : Int) (hv : thereB N [a, b] = false) (hv' : (valid N a && valid N b) = false) :
    Ok Tryd.prog 25 [(.pointer (some ⟨p, 0, none⟩)), (.int .i64 a), (.int .i64 b)] ((GraphO p N es) :: R)
      (fun v M => v = .tuple #[.bool (isNew N es a b), .int .i64 (addErr N a b)] ∧ M = GraphO p N (addE N es a b) :: R) := by
  refine ok_of (N := 79) Tryd.func25 rfl rfl rfl (fun W => ?_)
  refine t_learn (fun _ h => gok_of h) (fun hgok => ?_)
  refine c_seq (fun K1 hK1 => ?_)
  refine c_region ?_
  refine tp rfl (lv_assign rfl) ?_
  refine tp rfl (lv_assign rfl) ?_
  refine t_done ?_
  refine q_then_n (hK1 _ _ ?_)
  refine c_seq (fun K2 hK2 => ?_)
  refine c_block ?_
  refine c_seq (fun K3 hK3 => ?_)
  refine c_region ?_
  refine tp rfl (lv_move rfl) ?_
  refine tp rfl (lv_move rfl) ?_
  refine tp rfl (lv_move rfl) ?_
  refine tm rfl (mv_buildSlice (cs := [(.int .i64 a), (.int .i64 b)]) Tryd.underlying33 Tryd.sizeOf3 Tryd.zeroValue3 (by decide) rfl rfl rfl rfl) ?_
  rintro _ _ ⟨bs1, cp2, hok3, hle4, rfl, rfl⟩
  refine t_f1 ?_
  refine tc rfl (en_fn Tryd.call39 rfl) (there_is (N := N) (es := es) [a, b] hv (rd_sl (.head _)) hok3 (by simp)) ?_
  rintro _ _ ⟨rfl, rfl⟩
  refine tp rfl (lv_not (c := true) rfl rfl) ?_
  refine tp rfl (lv_assign rfl) ?_
  refine t_done ?_
  refine q_then_n (hK3 _ _ ?_)
  refine c_true rfl ?_
  refine c_seq (fun K4 hK4 => ?_)
  refine c_region ?_
  refine tp rfl (lv_assign rfl) ?_
  refine tp rfl (lv_assign rfl) ?_
  refine t_done ?_
  refine q_then_n (hK4 _ _ ?_)
  refine c_ret ?_
  refine q_in_r ?_
  refine q_then_r ?_
  refine t_f1 ?_
  refine t_drop ?_
  refine q_ret2 rfl rfl rfl ?_
  obtain ⟨e1, e2, e3⟩ := addE_bad (es := es) hv'
  rw [e1, e2, e3]
  exact ⟨rfl, rfl⟩

theorem add_old {R : List HP} {p N : Nat} {es : Es} (a b : Nat) (ha : a < N) (hb : b < N) (hh : hasE es (((a : Nat) : Int), ((b : Nat) : Int)) = true) :
    Ok Tryd.prog 25 [(.pointer (some ⟨p, 0, none⟩)), (.int .i64 ((a : Nat) : Int)), (.int .i64 ((b : Nat) : Int))] ((GraphO p N es) :: R)
      (fun v M => v = .tuple #[.bool (isNew N es ((a : Nat) : Int) ((b : Nat) : Int)), .int .i64 (addErr N ((a : Nat) : Int) ((b : Nat) : Int))] ∧ M = GraphO p N (addE N es ((a : Nat) : Int) ((b : Nat) : Int)) :: R) := by
  refine ok_of (N := 79) Tryd.func25 rfl rfl rfl (fun W => ?_)
  refine t_learn (fun _ h => gok_of h) (fun hgok => ?_)
  refine c_seq (fun K1 hK1 => ?_)
  refine c_region ?_
  refine tp rfl (lv_assign rfl) ?_
  refine tp rfl (lv_assign rfl) ?_
  refine t_done ?_
  refine q_then_n (hK1 _ _ ?_)
  refine c_seq (fun K2 hK2 => ?_)
  refine c_block ?_
  refine c_seq (fun K3 hK3 => ?_)
  refine c_region ?_
  refine tp rfl (lv_move rfl) ?_
  refine tp rfl (lv_move rfl) ?_
  refine tp rfl (lv_move rfl) ?_
  refine tm rfl (mv_buildSlice (cs := [(.int .i64 ((a : Nat) : Int)), (.int .i64 ((b : Nat) : Int))]) Tryd.underlying33 Tryd.sizeOf3 Tryd.zeroValue3 (by decide) rfl rfl rfl rfl) ?_
  rintro _ _ ⟨bs1, cp2, hok3, hle4, rfl, rfl⟩
  refine t_f1 ?_
  refine tc rfl (en_fn Tryd.call39 rfl) (there_is (N := N) (es := es) [((a : Nat) : Int), ((b : Nat) : Int)] (there_t2 ha hb) (rd_sl (.head _)) hok3 (by simp)) ?_
  rintro _ _ ⟨rfl, rfl⟩
  refine tp rfl (lv_not (c := false) rfl rfl) ?_
  refine tp rfl (lv_assign rfl) ?_
  refine t_done ?_
  refine q_then_n (hK3 _ _ ?_)
  refine c_false rfl ?_
  refine c_seq (fun K4 hK4 => ?_)
  refine c_region ?_
  refine tp rfl (lv_move rfl) ?_
  refine t_openG (fun bo co bi ci bt ct vo vi hG => ?_)
  have gsm := hG.ok.small
  have glo := hG.lo
  have gli := hG.li
  have gml := masksOf_length N es
  refine tp rfl (lv_nilCheck rfl) ?_
  refine tp rfl (lv_fieldAddr (o' := 2) Tryd.underlying64 rfl Tryd.sizeOf62 rfl rfl) ?_
  refine tp rfl (lv_load Tryd.isAgg62 rfl (gives_blk (.head _) rfl)) ?_
  refine tp rfl (lv_move rfl) ?_
  refine tp rfl (lv_indexAddr (k' := a) Tryd.underlying62 Tryd.sizeOf68 rfl rfl hG.okt (by omega) (by omega) (by omega)) ?_
  refine tp rfl (lv_load Tryd.isAgg68 rfl (gives_as (by rw [masksOf_get (by omega)]) (gives_sl (.tail _ (.tail _ (.tail _ (.head _)))) (ints_get (by first | omega | (simp; omega)))))) ?_
  refine tp rfl (lv_move rfl) ?_
  refine tc rfl (en_fn Tryd.call42 rfl) (has_ok (maskL (outs es ((a : Nat) : Int))) b (by omega) (hG.ok.mask_lt _)) ?_
  rintro _ _ ⟨rfl, rfl⟩
  rw [hgok.hasE_bit, hh]
  refine tp rfl (lv_assign rfl) ?_
  refine t_done ?_
  refine q_then_n (hK4 _ _ ?_)
  refine c_true rfl ?_
  refine c_seq (fun K5 hK5 => ?_)
  refine c_region ?_
  refine tp rfl (lv_assign rfl) ?_
  refine tp rfl (lv_assign rfl) ?_
  refine t_done ?_
  refine q_then_n (hK5 _ _ ?_)
  refine c_ret ?_
  refine q_in_r ?_
  refine q_then_r ?_
  refine t_f5 ?_
  refine t_f5 ?_
  refine t_f5 ?_
  refine t_f5 ?_
  refine t_f5 ?_
  refine t_f5 ?_
  refine t_shutG hG ?_
  refine t_f1 ?_
  refine t_drop ?_
  refine q_ret2 rfl rfl rfl ?_
  obtain ⟨e1, e2, e3⟩ := addE_old ha hb hh
  rw [e1, e2, e3]
  exact ⟨rfl, rfl⟩

set_option maxHeartbeats 800000 in
theorem add_new {R : List HP} {p N : Nat} {es : Es} (a b : Nat) (ha : a < N) (hb : b < N) (hh : hasE es (((a : Nat) : Int), ((b : Nat) : Int)) = false) :
    Ok Tryd.prog 25 [(.pointer (some ⟨p, 0, none⟩)), (.int .i64 ((a : Nat) : Int)), (.int .i64 ((b : Nat) : Int))] ((GraphO p N es) :: R)
      (fun v M => v = .tuple #[.bool (isNew N es ((a : Nat) : Int) ((b : Nat) : Int)), .int .i64 (addErr N ((a : Nat) : Int) ((b : Nat) : Int))] ∧ M = GraphO p N (addE N es ((a : Nat) : Int) ((b : Nat) : Int)) :: R) := by
  refine ok_of (N := 79) Tryd.func25 rfl rfl rfl (fun W => ?_)
  refine t_learn (fun _ h => gok_of h) (fun hgok => ?_)
  refine c_seq (fun K1 hK1 => ?_)
  refine c_region ?_
  refine tp rfl (lv_assign rfl) ?_
  refine tp rfl (lv_assign rfl) ?_
  refine t_done ?_
  refine q_then_n (hK1 _ _ ?_)
  refine c_seq (fun K2 hK2 => ?_)
  refine c_block ?_
  refine c_seq (fun K3 hK3 => ?_)
  refine c_region ?_
  refine tp rfl (lv_move rfl) ?_
  refine tp rfl (lv_move rfl) ?_
  refine tp rfl (lv_move rfl) ?_
  refine tm rfl (mv_buildSlice (cs := [(.int .i64 ((a : Nat) : Int)), (.int .i64 ((b : Nat) : Int))]) Tryd.underlying33 Tryd.sizeOf3 Tryd.zeroValue3 (by decide) rfl rfl rfl rfl) ?_
  rintro _ _ ⟨bs1, cp2, hok3, hle4, rfl, rfl⟩
  refine t_f1 ?_
  refine tc rfl (en_fn Tryd.call39 rfl) (there_is (N := N) (es := es) [((a : Nat) : Int), ((b : Nat) : Int)] (there_t2 ha hb) (rd_sl (.head _)) hok3 (by simp)) ?_
  rintro _ _ ⟨rfl, rfl⟩
  refine tp rfl (lv_not (c := false) rfl rfl) ?_
  refine tp rfl (lv_assign rfl) ?_
  refine t_done ?_
  refine q_then_n (hK3 _ _ ?_)
  refine c_false rfl ?_
  refine c_seq (fun K4 hK4 => ?_)
  refine c_region ?_
  refine tp rfl (lv_move rfl) ?_
  refine t_openG (fun bo co bi ci bt ct vo vi hG => ?_)
  have gsm := hG.ok.small
  have glo := hG.lo
  have gli := hG.li
  have gml := masksOf_length N es
  refine tp rfl (lv_nilCheck rfl) ?_
  refine tp rfl (lv_fieldAddr (o' := 2) Tryd.underlying64 rfl Tryd.sizeOf62 rfl rfl) ?_
  refine tp rfl (lv_load Tryd.isAgg62 rfl (gives_blk (.head _) rfl)) ?_
  refine tp rfl (lv_move rfl) ?_
  refine tp rfl (lv_indexAddr (k' := a) Tryd.underlying62 Tryd.sizeOf68 rfl rfl hG.okt (by omega) (by omega) (by omega)) ?_
  refine tp rfl (lv_load Tryd.isAgg68 rfl (gives_as (by rw [masksOf_get (by omega)]) (gives_sl (.tail _ (.tail _ (.tail _ (.head _)))) (ints_get (by first | omega | (simp; omega)))))) ?_
  refine tp rfl (lv_move rfl) ?_
  refine tc rfl (en_fn Tryd.call42 rfl) (has_ok (maskL (outs es ((a : Nat) : Int))) b (by omega) (hG.ok.mask_lt _)) ?_
  rintro _ _ ⟨rfl, rfl⟩
  rw [hgok.hasE_bit, hh]
  refine tp rfl (lv_assign rfl) ?_
  refine t_done ?_
  refine q_then_n (hK4 _ _ ?_)
  refine c_false rfl ?_
  refine c_skip ?_
  refine q_in_n ?_
  refine q_then_n (hK2 _ _ ?_)
  refine c_seq (fun K5 hK5 => ?_)
  have hla := hgok.outs_le (a : Int)
  have hlb := hgok.inns_le (b : Int)
  have hes := hgok.len_le
  have hmlt := hgok.mask_lt (a : Int)
  refine t_f4 ?_
  refine t_sat (fun _ h => h.takeRow (a := a) (by rw [rowsOf_length]; exact glo) (by omega)) ?_
  rw [rowsOf_get ha]
  refine t_openI (fun ba ca hoka hlea hva => ?_)
  refine t_f6 ?_
  refine t_sat (fun _ h => h.takeRow (a := b) (by rw [rowsOf_length]; exact gli) (by omega)) ?_
  rw [rowsOf_get hb]
  refine t_openI (fun bb cb hokb hleb hvb => ?_)
  refine c_draw (γ := Option Addr × Nat × Option Addr × Nat × Option Addr × Nat × Option Addr × Nat) (n := 50) Tryd.mixed rfl rfl (fun (bs5, cp6, bs9, cp10, bs13, cp14, bs17, cp18) S => (S 23 = true → SlOk bs5 1) ∧ (S 23 = true → 1 ≤ cp6) ∧ (S 24 = true → SlOk bs9 (((outs es ((a : Nat) : Int)).length) + 1)) ∧ (S 24 = true → ((outs es ((a : Nat) : Int)).length) + 1 ≤ cp10) ∧ (S 33 = true → SlOk bs13 1) ∧ (S 33 = true → 1 ≤ cp14) ∧ (S 34 = true → SlOk bs17 (((inns es ((b : Nat) : Int)).length) + 1)) ∧ (S 34 = true → ((inns es ((b : Nat) : Int)).length) + 1 ≤ cp18)) (fun (bs5, cp6, bs9, cp10, bs13, cp14, bs17, cp18) => [(0, 25, (.pointer (some ⟨p, 0, none⟩))), (1, 26, (.pointer (some ⟨p, 0, none⟩))), (2, 27, (.pointer (some ⟨p, 0, none⟩))), (3, 28, (.slice bo N co)), (4, 29, (.int .i64 ((a : Nat) : Int))), (5, 30, (.pointer (some ⟨p, 0, none⟩))), (6, 31, (.pointer (some ⟨p, 0, none⟩))), (7, 32, (.pointer (some ⟨p, 1, none⟩))), (8, 33, (.slice bi N ci)), (9, 34, (.int .i64 ((b : Nat) : Int))), (10, 35, (.pointer (some ⟨p, 0, none⟩))), (11, 36, (.pointer (some ⟨p, 0, none⟩))), (12, 37, (.pointer (some ⟨p, 2, none⟩))), (13, 38, (.slice bt N ct)), (14, 39, (.int .i64 ((a : Nat) : Int))), (15, 40, (.pointer (some ⟨p, 0, none⟩))), (16, 41, (.pointer (some ⟨p, 0, none⟩))), (17, 42, (.pointer (some ⟨p, 0, none⟩))), (18, 43, (.slice bo N co)), (19, 44, (.int .i64 ((a : Nat) : Int))), (20, 45, (.pointer (some (ad bo a)))), (21, 46, (.slice ba ((outs es ((a : Nat) : Int)).length) ca)), (22, 47, (.int .i64 ((b : Nat) : Int))), (23, 48, (.slice bs5 1 cp6)), (24, 49, (.slice bs9 (((outs es ((a : Nat) : Int)).length) + 1) cp10)), (25, 50, (.pointer (some ⟨p, 0, none⟩))), (26, 51, (.pointer (some ⟨p, 0, none⟩))), (27, 52, (.pointer (some ⟨p, 1, none⟩))), (28, 53, (.slice bi N ci)), (29, 54, (.int .i64 ((b : Nat) : Int))), (30, 55, (.pointer (some (ad bi b)))), (31, 56, (.slice bb ((inns es ((b : Nat) : Int)).length) cb)), (32, 57, (.int .i64 ((a : Nat) : Int))), (33, 58, (.slice bs13 1 cp14)), (34, 59, (.slice bs17 (((inns es ((b : Nat) : Int)).length) + 1) cp18)), (35, 60, (.pointer (some ⟨p, 0, none⟩))), (36, 61, (.pointer (some ⟨p, 0, none⟩))), (37, 62, (.pointer (some ⟨p, 2, none⟩))), (38, 63, (.slice bt N ct)), (39, 64, (.int .i64 ((a : Nat) : Int))), (40, 65, (.pointer (some (ad bt a)))), (41, 66, (.int .u64 ((maskL (outs es ((a : Nat) : Int)) : Nat) : Int))), (42, 67, (.int .i64 ((b : Nat) : Int))), (43, 68, (.int .u64 (((maskL (outs es ((a : Nat) : Int))) ||| 2 ^ b : Nat) : Int))), (44, 69, (.pointer (some (ad bo a)))), (46, 70, (.pointer (some (ad bi b)))), (48, 71, (.pointer (some (ad bt a))))]) (fun (bs5, cp6, bs9, cp10, bs13, cp14, bs17, cp18) S => (bif S 34 then (SlV 3 1 (.slice bs17 (((inns es ((b : Nat) : Int)).length) + 1) cp18) (((inns es ((b : Nat) : Int)).length) + 1) (ints .i64 ((inns es ((b : Nat) : Int)) ++ [((a : Nat) : Int)]))) else (SlV 3 1 (.slice bb ((inns es ((b : Nat) : Int)).length) cb) ((inns es ((b : Nat) : Int)).length) (ints .i64 (inns es ((b : Nat) : Int))))) :: (Join (rowsL (vi.eraseIdx b) ((rowsOf N (inns es)).eraseIdx b))) :: (bif S 24 then (SlV 3 1 (.slice bs9 (((outs es ((a : Nat) : Int)).length) + 1) cp10) (((outs es ((a : Nat) : Int)).length) + 1) (ints .i64 ((outs es ((a : Nat) : Int)) ++ [((b : Nat) : Int)]))) else (SlV 3 1 (.slice ba ((outs es ((a : Nat) : Int)).length) ca) ((outs es ((a : Nat) : Int)).length) (ints .i64 (outs es ((a : Nat) : Int))))) :: (Join (rowsL (vo.eraseIdx a) ((rowsOf N (outs es)).eraseIdx a))) :: (Blk p [(.slice bo N co), (.slice bi N ci), (.slice bt N ct), (.int .i64 ((es.length : Nat) : Int))] 64) :: (bif S 45 then (SlV 33 1 (.slice bo N co) N ((vo).set a (.slice bs9 (((outs es ((a : Nat) : Int)).length) + 1) cp10))) else (SlV 33 1 (.slice bo N co) N vo)) :: (bif S 47 then (SlV 33 1 (.slice bi N ci) N ((vi).set b (.slice bs17 (((inns es ((b : Nat) : Int)).length) + 1) cp18))) else (SlV 33 1 (.slice bi N ci) N vi)) :: (bif S 49 then (SlV 68 1 (.slice bt N ct) N (ints .u64 (((masksOf N es)).set a (((maskL (outs es ((a : Nat) : Int))) ||| 2 ^ b : Nat) : Int)))) else (SlV 68 1 (.slice bt N ct) N (ints .u64 (masksOf N es)))) :: (SlV 3 1 (.slice bs1 2 cp2) 2 [(.int .i64 ((a : Nat) : Int)), (.int .i64 ((b : Nat) : Int))]) :: (bif S 23 then (SlV 3 1 (.slice bs5 1 cp6) 1 [(.int .i64 ((b : Nat) : Int))]) else Emp) :: (bif S 33 then (SlV 3 1 (.slice bs13 1 cp14) 1 [(.int .i64 ((a : Nat) : Int))]) else Emp) :: R) (none, 0, none, 0, none, 0, none, 0) (by simp [Nat.ble]) (fun _ h => sat_emps [_, _, _, _, _, _, _, _, _] 2 h) (fun _ _ h => h) ?_ ?_
  · -- steps
    refine ⟨?_, ?_, ?_, ?_, ?_, ?_, ?_, ?_, ?_, ?_, ?_, ?_, ?_, ?_, ?_, ?_, ?_, ?_, ?_, ?_, ?_, ?_, ?_, ?_, ?_, ?_, ?_, ?_, ?_, ?_, ?_, ?_, ?_, ?_, ?_, ?_, ?_, ?_, ?_, ?_, ?_, ?_, ?_, ?_, ?_, ?_, ?_, ?_, ?_, ?_, trivial⟩
    · -- 0
      rintro ⟨bs5, cp6, bs9, cp10, bs13, cp14, bs17, cp18⟩ S hF hS D hp K hK
      try dsimp only at hF ⊢
      obtain ⟨hf0, hf1, hf2, hf3, hf4, hf5, hf6, hf7⟩ := hF
      refine d_need (small := [(0, (.pointer (some ⟨p, 0, none⟩)))]) ⟨look_b rfl rfl, trivial⟩ ?_
      refine tp rfl (lv_move rfl) ?_
      exact d_closes ⟨look_b rfl rfl, trivial⟩ 0 rfl rfl rfl hS (AgreeR.refl _) (t_sat (fun _ h => h) (hK (bs5, cp6, bs9, cp10, bs13, cp14, bs17, cp18) ⟨hf0, hf1, hf2, hf3, hf4, hf5, hf6, hf7⟩))
    · -- 1
      rintro ⟨bs5, cp6, bs9, cp10, bs13, cp14, bs17, cp18⟩ S hF hS D hp K hK
      try dsimp only at hF ⊢
      obtain ⟨hf0, hf1, hf2, hf3, hf4, hf5, hf6, hf7⟩ := hF
      have s0 := hp 0 rfl
      refine d_need (small := [(25, (.pointer (some ⟨p, 0, none⟩)))]) ⟨look_row rfl 0 rfl s0, trivial⟩ ?_
      refine tp rfl (lv_nilCheck rfl) ?_
      exact d_closes ⟨look_row rfl 0 rfl s0, trivial⟩ 1 rfl rfl rfl hS (AgreeR.refl _) (t_sat (fun _ h => h) (hK (bs5, cp6, bs9, cp10, bs13, cp14, bs17, cp18) ⟨hf0, hf1, hf2, hf3, hf4, hf5, hf6, hf7⟩))
    · -- 2
      rintro ⟨bs5, cp6, bs9, cp10, bs13, cp14, bs17, cp18⟩ S hF hS D hp K hK
      try dsimp only at hF ⊢
      obtain ⟨hf0, hf1, hf2, hf3, hf4, hf5, hf6, hf7⟩ := hF
      have s1 := hp 1 rfl
      refine d_need (small := [(26, (.pointer (some ⟨p, 0, none⟩)))]) ⟨look_row rfl 1 rfl s1, trivial⟩ ?_
      refine tp rfl (lv_fieldAddr (o' := 0) Tryd.underlying64 rfl Tryd.sizeOf61 rfl rfl) ?_
      exact d_closes ⟨look_row rfl 1 rfl s1, trivial⟩ 2 rfl rfl rfl hS (AgreeR.refl _) (t_sat (fun _ h => h) (hK (bs5, cp6, bs9, cp10, bs13, cp14, bs17, cp18) ⟨hf0, hf1, hf2, hf3, hf4, hf5, hf6, hf7⟩))
    · -- 3
      rintro ⟨bs5, cp6, bs9, cp10, bs13, cp14, bs17, cp18⟩ S hF hS D hp K hK
      try dsimp only at hF ⊢
      obtain ⟨hf0, hf1, hf2, hf3, hf4, hf5, hf6, hf7⟩ := hF
      have s2 := hp 2 rfl
      refine d_need (small := [(27, (.pointer (some ⟨p, 0, none⟩)))]) ⟨look_row rfl 2 rfl s2, trivial⟩ ?_
      refine tp rfl (lv_load Tryd.isAgg61 rfl (gives_blk (.tail _ (.tail _ (.tail _ (.tail _ (.head _))))) rfl)) ?_
      exact d_closes ⟨look_row rfl 2 rfl s2, trivial⟩ 3 rfl rfl rfl hS (AgreeR.refl _) (t_sat (fun _ h => h) (hK (bs5, cp6, bs9, cp10, bs13, cp14, bs17, cp18) ⟨hf0, hf1, hf2, hf3, hf4, hf5, hf6, hf7⟩))
    · -- 4
      rintro ⟨bs5, cp6, bs9, cp10, bs13, cp14, bs17, cp18⟩ S hF hS D hp K hK
      try dsimp only at hF ⊢
      obtain ⟨hf0, hf1, hf2, hf3, hf4, hf5, hf6, hf7⟩ := hF
      refine d_need (small := [(1, (.int .i64 ((a : Nat) : Int)))]) ⟨look_b rfl rfl, trivial⟩ ?_
      refine tp rfl (lv_move rfl) ?_
      exact d_closes ⟨look_b rfl rfl, trivial⟩ 4 rfl rfl rfl hS (AgreeR.refl _) (t_sat (fun _ h => h) (hK (bs5, cp6, bs9, cp10, bs13, cp14, bs17, cp18) ⟨hf0, hf1, hf2, hf3, hf4, hf5, hf6, hf7⟩))
    · -- 5
      rintro ⟨bs5, cp6, bs9, cp10, bs13, cp14, bs17, cp18⟩ S hF hS D hp K hK
      try dsimp only at hF ⊢
      obtain ⟨hf0, hf1, hf2, hf3, hf4, hf5, hf6, hf7⟩ := hF
      refine d_need (small := [(0, (.pointer (some ⟨p, 0, none⟩)))]) ⟨look_b rfl rfl, trivial⟩ ?_
      refine tp rfl (lv_move rfl) ?_
      exact d_closes ⟨look_b rfl rfl, trivial⟩ 5 rfl rfl rfl hS (AgreeR.refl _) (t_sat (fun _ h => h) (hK (bs5, cp6, bs9, cp10, bs13, cp14, bs17, cp18) ⟨hf0, hf1, hf2, hf3, hf4, hf5, hf6, hf7⟩))
    · -- 6
      rintro ⟨bs5, cp6, bs9, cp10, bs13, cp14, bs17, cp18⟩ S hF hS D hp K hK
      try dsimp only at hF ⊢
      obtain ⟨hf0, hf1, hf2, hf3, hf4, hf5, hf6, hf7⟩ := hF
      have s5 := hp 5 rfl
      refine d_need (small := [(30, (.pointer (some ⟨p, 0, none⟩)))]) ⟨look_row rfl 5 rfl s5, trivial⟩ ?_
      refine tp rfl (lv_nilCheck rfl) ?_
      exact d_closes ⟨look_row rfl 5 rfl s5, trivial⟩ 6 rfl rfl rfl hS (AgreeR.refl _) (t_sat (fun _ h => h) (hK (bs5, cp6, bs9, cp10, bs13, cp14, bs17, cp18) ⟨hf0, hf1, hf2, hf3, hf4, hf5, hf6, hf7⟩))
    · -- 7
      rintro ⟨bs5, cp6, bs9, cp10, bs13, cp14, bs17, cp18⟩ S hF hS D hp K hK
      try dsimp only at hF ⊢
      obtain ⟨hf0, hf1, hf2, hf3, hf4, hf5, hf6, hf7⟩ := hF
      have s6 := hp 6 rfl
      refine d_need (small := [(31, (.pointer (some ⟨p, 0, none⟩)))]) ⟨look_row rfl 6 rfl s6, trivial⟩ ?_
      refine tp rfl (lv_fieldAddr (o' := 1) Tryd.underlying64 rfl Tryd.sizeOf61 rfl rfl) ?_
      exact d_closes ⟨look_row rfl 6 rfl s6, trivial⟩ 7 rfl rfl rfl hS (AgreeR.refl _) (t_sat (fun _ h => h) (hK (bs5, cp6, bs9, cp10, bs13, cp14, bs17, cp18) ⟨hf0, hf1, hf2, hf3, hf4, hf5, hf6, hf7⟩))
    · -- 8
      rintro ⟨bs5, cp6, bs9, cp10, bs13, cp14, bs17, cp18⟩ S hF hS D hp K hK
      try dsimp only at hF ⊢
      obtain ⟨hf0, hf1, hf2, hf3, hf4, hf5, hf6, hf7⟩ := hF
      have s7 := hp 7 rfl
      refine d_need (small := [(32, (.pointer (some ⟨p, 1, none⟩)))]) ⟨look_row rfl 7 rfl s7, trivial⟩ ?_
      refine tp rfl (lv_load Tryd.isAgg61 rfl (gives_blk (.tail _ (.tail _ (.tail _ (.tail _ (.head _))))) rfl)) ?_
      exact d_closes ⟨look_row rfl 7 rfl s7, trivial⟩ 8 rfl rfl rfl hS (AgreeR.refl _) (t_sat (fun _ h => h) (hK (bs5, cp6, bs9, cp10, bs13, cp14, bs17, cp18) ⟨hf0, hf1, hf2, hf3, hf4, hf5, hf6, hf7⟩))
    · -- 9
      rintro ⟨bs5, cp6, bs9, cp10, bs13, cp14, bs17, cp18⟩ S hF hS D hp K hK
      try dsimp only at hF ⊢
      obtain ⟨hf0, hf1, hf2, hf3, hf4, hf5, hf6, hf7⟩ := hF
      refine d_need (small := [(2, (.int .i64 ((b : Nat) : Int)))]) ⟨look_b rfl rfl, trivial⟩ ?_
      refine tp rfl (lv_move rfl) ?_
      exact d_closes ⟨look_b rfl rfl, trivial⟩ 9 rfl rfl rfl hS (AgreeR.refl _) (t_sat (fun _ h => h) (hK (bs5, cp6, bs9, cp10, bs13, cp14, bs17, cp18) ⟨hf0, hf1, hf2, hf3, hf4, hf5, hf6, hf7⟩))
    · -- 10
      rintro ⟨bs5, cp6, bs9, cp10, bs13, cp14, bs17, cp18⟩ S hF hS D hp K hK
      try dsimp only at hF ⊢
      obtain ⟨hf0, hf1, hf2, hf3, hf4, hf5, hf6, hf7⟩ := hF
      refine d_need (small := [(0, (.pointer (some ⟨p, 0, none⟩)))]) ⟨look_b rfl rfl, trivial⟩ ?_
      refine tp rfl (lv_move rfl) ?_
      exact d_closes ⟨look_b rfl rfl, trivial⟩ 10 rfl rfl rfl hS (AgreeR.refl _) (t_sat (fun _ h => h) (hK (bs5, cp6, bs9, cp10, bs13, cp14, bs17, cp18) ⟨hf0, hf1, hf2, hf3, hf4, hf5, hf6, hf7⟩))
    · -- 11
      rintro ⟨bs5, cp6, bs9, cp10, bs13, cp14, bs17, cp18⟩ S hF hS D hp K hK
      try dsimp only at hF ⊢
      obtain ⟨hf0, hf1, hf2, hf3, hf4, hf5, hf6, hf7⟩ := hF
      have s10 := hp 10 rfl
      refine d_need (small := [(35, (.pointer (some ⟨p, 0, none⟩)))]) ⟨look_row rfl 10 rfl s10, trivial⟩ ?_
      refine tp rfl (lv_nilCheck rfl) ?_
      exact d_closes ⟨look_row rfl 10 rfl s10, trivial⟩ 11 rfl rfl rfl hS (AgreeR.refl _) (t_sat (fun _ h => h) (hK (bs5, cp6, bs9, cp10, bs13, cp14, bs17, cp18) ⟨hf0, hf1, hf2, hf3, hf4, hf5, hf6, hf7⟩))
    · -- 12
      rintro ⟨bs5, cp6, bs9, cp10, bs13, cp14, bs17, cp18⟩ S hF hS D hp K hK
      try dsimp only at hF ⊢
      obtain ⟨hf0, hf1, hf2, hf3, hf4, hf5, hf6, hf7⟩ := hF
      have s11 := hp 11 rfl
      refine d_need (small := [(36, (.pointer (some ⟨p, 0, none⟩)))]) ⟨look_row rfl 11 rfl s11, trivial⟩ ?_
      refine tp rfl (lv_fieldAddr (o' := 2) Tryd.underlying64 rfl Tryd.sizeOf62 rfl rfl) ?_
      exact d_closes ⟨look_row rfl 11 rfl s11, trivial⟩ 12 rfl rfl rfl hS (AgreeR.refl _) (t_sat (fun _ h => h) (hK (bs5, cp6, bs9, cp10, bs13, cp14, bs17, cp18) ⟨hf0, hf1, hf2, hf3, hf4, hf5, hf6, hf7⟩))
    · -- 13
      rintro ⟨bs5, cp6, bs9, cp10, bs13, cp14, bs17, cp18⟩ S hF hS D hp K hK
      try dsimp only at hF ⊢
      obtain ⟨hf0, hf1, hf2, hf3, hf4, hf5, hf6, hf7⟩ := hF
      have s12 := hp 12 rfl
      refine d_need (small := [(37, (.pointer (some ⟨p, 2, none⟩)))]) ⟨look_row rfl 12 rfl s12, trivial⟩ ?_
      refine tp rfl (lv_load Tryd.isAgg62 rfl (gives_blk (.tail _ (.tail _ (.tail _ (.tail _ (.head _))))) rfl)) ?_
      exact d_closes ⟨look_row rfl 12 rfl s12, trivial⟩ 13 rfl rfl rfl hS (AgreeR.refl _) (t_sat (fun _ h => h) (hK (bs5, cp6, bs9, cp10, bs13, cp14, bs17, cp18) ⟨hf0, hf1, hf2, hf3, hf4, hf5, hf6, hf7⟩))
    · -- 14
      rintro ⟨bs5, cp6, bs9, cp10, bs13, cp14, bs17, cp18⟩ S hF hS D hp K hK
      try dsimp only at hF ⊢
      obtain ⟨hf0, hf1, hf2, hf3, hf4, hf5, hf6, hf7⟩ := hF
      refine d_need (small := [(1, (.int .i64 ((a : Nat) : Int)))]) ⟨look_b rfl rfl, trivial⟩ ?_
      refine tp rfl (lv_move rfl) ?_
      exact d_closes ⟨look_b rfl rfl, trivial⟩ 14 rfl rfl rfl hS (AgreeR.refl _) (t_sat (fun _ h => h) (hK (bs5, cp6, bs9, cp10, bs13, cp14, bs17, cp18) ⟨hf0, hf1, hf2, hf3, hf4, hf5, hf6, hf7⟩))
    · -- 15
      rintro ⟨bs5, cp6, bs9, cp10, bs13, cp14, bs17, cp18⟩ S hF hS D hp K hK
      try dsimp only at hF ⊢
      obtain ⟨hf0, hf1, hf2, hf3, hf4, hf5, hf6, hf7⟩ := hF
      refine d_need (small := [(0, (.pointer (some ⟨p, 0, none⟩)))]) ⟨look_b rfl rfl, trivial⟩ ?_
      refine tp rfl (lv_move rfl) ?_
      exact d_closes ⟨look_b rfl rfl, trivial⟩ 15 rfl rfl rfl hS (AgreeR.refl _) (t_sat (fun _ h => h) (hK (bs5, cp6, bs9, cp10, bs13, cp14, bs17, cp18) ⟨hf0, hf1, hf2, hf3, hf4, hf5, hf6, hf7⟩))
    · -- 16
      rintro ⟨bs5, cp6, bs9, cp10, bs13, cp14, bs17, cp18⟩ S hF hS D hp K hK
      try dsimp only at hF ⊢
      obtain ⟨hf0, hf1, hf2, hf3, hf4, hf5, hf6, hf7⟩ := hF
      have s15 := hp 15 rfl
      refine d_need (small := [(40, (.pointer (some ⟨p, 0, none⟩)))]) ⟨look_row rfl 15 rfl s15, trivial⟩ ?_
      refine tp rfl (lv_nilCheck rfl) ?_
      exact d_closes ⟨look_row rfl 15 rfl s15, trivial⟩ 16 rfl rfl rfl hS (AgreeR.refl _) (t_sat (fun _ h => h) (hK (bs5, cp6, bs9, cp10, bs13, cp14, bs17, cp18) ⟨hf0, hf1, hf2, hf3, hf4, hf5, hf6, hf7⟩))
    · -- 17
      rintro ⟨bs5, cp6, bs9, cp10, bs13, cp14, bs17, cp18⟩ S hF hS D hp K hK
      try dsimp only at hF ⊢
      obtain ⟨hf0, hf1, hf2, hf3, hf4, hf5, hf6, hf7⟩ := hF
      have s16 := hp 16 rfl
      refine d_need (small := [(41, (.pointer (some ⟨p, 0, none⟩)))]) ⟨look_row rfl 16 rfl s16, trivial⟩ ?_
      refine tp rfl (lv_fieldAddr (o' := 0) Tryd.underlying64 rfl Tryd.sizeOf61 rfl rfl) ?_
      exact d_closes ⟨look_row rfl 16 rfl s16, trivial⟩ 17 rfl rfl rfl hS (AgreeR.refl _) (t_sat (fun _ h => h) (hK (bs5, cp6, bs9, cp10, bs13, cp14, bs17, cp18) ⟨hf0, hf1, hf2, hf3, hf4, hf5, hf6, hf7⟩))
    · -- 18
      rintro ⟨bs5, cp6, bs9, cp10, bs13, cp14, bs17, cp18⟩ S hF hS D hp K hK
      try dsimp only at hF ⊢
      obtain ⟨hf0, hf1, hf2, hf3, hf4, hf5, hf6, hf7⟩ := hF
      have s17 := hp 17 rfl
      refine d_need (small := [(42, (.pointer (some ⟨p, 0, none⟩)))]) ⟨look_row rfl 17 rfl s17, trivial⟩ ?_
      refine tp rfl (lv_load Tryd.isAgg61 rfl (gives_blk (.tail _ (.tail _ (.tail _ (.tail _ (.head _))))) rfl)) ?_
      exact d_closes ⟨look_row rfl 17 rfl s17, trivial⟩ 18 rfl rfl rfl hS (AgreeR.refl _) (t_sat (fun _ h => h) (hK (bs5, cp6, bs9, cp10, bs13, cp14, bs17, cp18) ⟨hf0, hf1, hf2, hf3, hf4, hf5, hf6, hf7⟩))
    · -- 19
      rintro ⟨bs5, cp6, bs9, cp10, bs13, cp14, bs17, cp18⟩ S hF hS D hp K hK
      try dsimp only at hF ⊢
      obtain ⟨hf0, hf1, hf2, hf3, hf4, hf5, hf6, hf7⟩ := hF
      refine d_need (small := [(1, (.int .i64 ((a : Nat) : Int)))]) ⟨look_b rfl rfl, trivial⟩ ?_
      refine tp rfl (lv_move rfl) ?_
      exact d_closes ⟨look_b rfl rfl, trivial⟩ 19 rfl rfl rfl hS (AgreeR.refl _) (t_sat (fun _ h => h) (hK (bs5, cp6, bs9, cp10, bs13, cp14, bs17, cp18) ⟨hf0, hf1, hf2, hf3, hf4, hf5, hf6, hf7⟩))
    · -- 20
      rintro ⟨bs5, cp6, bs9, cp10, bs13, cp14, bs17, cp18⟩ S hF hS D hp K hK
      try dsimp only at hF ⊢
      obtain ⟨hf0, hf1, hf2, hf3, hf4, hf5, hf6, hf7⟩ := hF
      have s18 := hp 18 rfl
      have s19 := hp 19 rfl
      refine d_need (small := [(43, (.slice bo N co)), (44, (.int .i64 ((a : Nat) : Int)))]) ⟨look_row rfl 18 rfl s18, look_row rfl 19 rfl s19, trivial⟩ ?_
      refine tp rfl (lv_indexAddr (k' := a) Tryd.underlying61 Tryd.sizeOf33 rfl rfl hG.oko (by omega) (by omega) (by omega)) ?_
      exact d_closes ⟨look_row rfl 18 rfl s18, look_row rfl 19 rfl s19, trivial⟩ 20 rfl rfl rfl hS (AgreeR.refl _) (t_sat (fun _ h => h) (hK (bs5, cp6, bs9, cp10, bs13, cp14, bs17, cp18) ⟨hf0, hf1, hf2, hf3, hf4, hf5, hf6, hf7⟩))
    · -- 21
      rintro ⟨bs5, cp6, bs9, cp10, bs13, cp14, bs17, cp18⟩ S hF hS D hp K hK
      try dsimp only at hF ⊢
      obtain ⟨hf0, hf1, hf2, hf3, hf4, hf5, hf6, hf7⟩ := hF
      have s20 := hp 20 rfl
      refine d_need (small := [(45, (.pointer (some (ad bo a))))]) ⟨look_row rfl 20 rfl s20, trivial⟩ ?_
      refine tp rfl (lv_load Tryd.isAgg33 rfl (gives_as hva (gives_sl (mem_cF (nf hS D (k := 45) (i := 21) rfl) (.tail _ (.tail _ (.tail _ (.tail _ (.tail _ (.head _))))))) (vals_get (by first | omega | (simp; omega)))))) ?_
      exact d_closes ⟨look_row rfl 20 rfl s20, trivial⟩ 21 rfl rfl rfl hS (AgreeR.refl _) (t_sat (fun _ h => h) (hK (bs5, cp6, bs9, cp10, bs13, cp14, bs17, cp18) ⟨hf0, hf1, hf2, hf3, hf4, hf5, hf6, hf7⟩))
    · -- 22
      rintro ⟨bs5, cp6, bs9, cp10, bs13, cp14, bs17, cp18⟩ S hF hS D hp K hK
      try dsimp only at hF ⊢
      obtain ⟨hf0, hf1, hf2, hf3, hf4, hf5, hf6, hf7⟩ := hF
      refine d_need (small := [(2, (.int .i64 ((b : Nat) : Int)))]) ⟨look_b rfl rfl, trivial⟩ ?_
      refine tp rfl (lv_move rfl) ?_
      exact d_closes ⟨look_b rfl rfl, trivial⟩ 22 rfl rfl rfl hS (AgreeR.refl _) (t_sat (fun _ h => h) (hK (bs5, cp6, bs9, cp10, bs13, cp14, bs17, cp18) ⟨hf0, hf1, hf2, hf3, hf4, hf5, hf6, hf7⟩))
    · -- 23
      rintro ⟨bs5, cp6, bs9, cp10, bs13, cp14, bs17, cp18⟩ S hF hS D hp K hK
      try dsimp only at hF ⊢
      obtain ⟨hf0, hf1, hf2, hf3, hf4, hf5, hf6, hf7⟩ := hF
      have s22 := hp 22 rfl
      refine d_need (small := [(47, (.int .i64 ((b : Nat) : Int)))]) ⟨look_row rfl 22 rfl s22, trivial⟩ ?_
      refine tm rfl (mv_buildSlice (cs := [(.int .i64 ((b : Nat) : Int))]) Tryd.underlying33 Tryd.sizeOf3 Tryd.zeroValue3 (by decide) rfl rfl rfl rfl) ?_
      rintro _ _ ⟨bs5, cp6, hok7, hle8, rfl, rfl⟩
      refine t_sat (fun _ h => sat_put [_, _, _, _, _, _, _, _, _] h) ?_
      exact d_closes ⟨look_row rfl 22 rfl s22, trivial⟩ 23 rfl rfl rfl hS (by exact ⟨.inl rfl, .inl rfl, .inl rfl, .inl rfl, .inl rfl, .inl rfl, .inl rfl, .inl rfl, .inl rfl, .inl rfl, .inl rfl, .inl rfl, .inl rfl, .inl rfl, .inl rfl, .inl rfl, .inl rfl, .inl rfl, .inl rfl, .inl rfl, .inl rfl, .inl rfl, .inl rfl, .inr ⟨rfl, rfl, hS⟩, .inl rfl, .inl rfl, .inl rfl, .inl rfl, .inl rfl, .inl rfl, .inl rfl, .inl rfl, .inl rfl, .inl rfl, .inl rfl, .inl rfl, .inl rfl, .inl rfl, .inl rfl, .inl rfl, .inl rfl, .inl rfl, .inl rfl, .inl rfl, .inl rfl, .inl rfl, .inl rfl, trivial⟩) (t_sat (fun _ h => h) (hK (bs5, cp6, bs9, cp10, bs13, cp14, bs17, cp18) ⟨(fun _ => hok7), (fun _ => hle8), hf2, hf3, hf4, hf5, hf6, hf7⟩))
    · -- 24
      rintro ⟨bs5, cp6, bs9, cp10, bs13, cp14, bs17, cp18⟩ S hF hS D hp K hK
      try dsimp only at hF ⊢
      obtain ⟨hf0, hf1, hf2, hf3, hf4, hf5, hf6, hf7⟩ := hF
      have s23 := hp 23 rfl
      have hok7 := hf0 s23
      have hle8 := hf1 s23
      have s21 := hp 21 rfl
      refine d_need (small := [(46, (.slice ba ((outs es ((a : Nat) : Int)).length) ca)), (48, (.slice bs5 1 cp6))]) ⟨look_row rfl 21 rfl s21, look_row rfl 23 rfl s23, trivial⟩ ?_
      refine t_f2 ?_
      refine t_cF hS ?_
      refine t_f5 ?_
      refine t_cF (nf hS D (k := 45) (i := 24) rfl) ?_
      refine t_perm (perm_front [_, _, _, _, _, _, _, _, _] _) ?_
      refine t_cT s23 ?_
      refine t_f2 ?_
      refine tm rfl (mv_append (i := Tryd.t3) Tryd.underlying33 Tryd.type3 rfl rfl rfl (by decide) rfl rfl hok7 (by first | (simp; done) | (simp; omega)) (rd_sl (.tail _ (.head _))) (by simp [Value.oneCell']) (by rw [show Tryd.t3.bytes = 8 from rfl]; omega)) ?_
      rintro _ _ ⟨bs9, cp10, hok11, hle12, rfl, rfl⟩
      rw [show ints .i64 (outs es ((a : Nat) : Int)) ++ [(.int .i64 ((b : Nat) : Int))] = ints .i64 ((outs es ((a : Nat) : Int)) ++ [((b : Nat) : Int)]) from ints_snoc _ _ _]
      refine t_f2 ?_
      refine t_wF (A := (SlV 33 1 (.slice bo N co) N ((vo).set a (.slice bs9 (((outs es ((a : Nat) : Int)).length) + 1) cp10)))) (nf hS D (k := 45) (i := 24) rfl) ?_
      refine t_f2 ?_
      refine t_wT (B := Emp) s23 ?_
      refine t_perm (perm_front [_, _, _, _, _, _, _, _, _] _) ?_
      refine t_perm (perm_front [_, _, _, _, _, _, _, _, _] _) ?_
      refine t_perm (perm_front [_, _, _, _, _, _, _, _, _] _) ?_
      refine t_f4 ?_
      refine t_perm (perm_front [_, _, _, _, _, _, _, _, _] _) ?_
      refine t_perm (perm_front [_, _, _, _, _, _, _, _, _] _) ?_
      refine t_f7 ?_
      refine t_perm (perm_front [_, _, _, _, _, _, _, _, _] _) ?_
      refine t_perm (perm_front [_, _, _, _, _, _, _, _, _] _) ?_
      exact d_closes ⟨look_row rfl 21 rfl s21, look_row rfl 23 rfl s23, trivial⟩ 24 rfl rfl rfl hS (by exact ⟨.inl rfl, .inl rfl, .inl rfl, .inl rfl, .inl rfl, .inl rfl, .inl rfl, .inl rfl, .inl rfl, .inl rfl, .inl rfl, .inl rfl, .inl rfl, .inl rfl, .inl rfl, .inl rfl, .inl rfl, .inl rfl, .inl rfl, .inl rfl, .inl rfl, .inl rfl, .inl rfl, .inl rfl, .inr ⟨rfl, rfl, hS⟩, .inl rfl, .inl rfl, .inl rfl, .inl rfl, .inl rfl, .inl rfl, .inl rfl, .inl rfl, .inl rfl, .inl rfl, .inl rfl, .inl rfl, .inl rfl, .inl rfl, .inl rfl, .inl rfl, .inl rfl, .inl rfl, .inl rfl, .inl rfl, .inl rfl, .inl rfl, trivial⟩) (t_sat (fun _ h => h) (hK (bs5, cp6, bs9, cp10, bs13, cp14, bs17, cp18) ⟨hf0, hf1, (fun _ => hok11), (fun _ => hle12), hf4, hf5, hf6, hf7⟩))
    · -- 25
      rintro ⟨bs5, cp6, bs9, cp10, bs13, cp14, bs17, cp18⟩ S hF hS D hp K hK
      try dsimp only at hF ⊢
      obtain ⟨hf0, hf1, hf2, hf3, hf4, hf5, hf6, hf7⟩ := hF
      refine d_need (small := [(0, (.pointer (some ⟨p, 0, none⟩)))]) ⟨look_b rfl rfl, trivial⟩ ?_
      refine tp rfl (lv_move rfl) ?_
      exact d_closes ⟨look_b rfl rfl, trivial⟩ 25 rfl rfl rfl hS (AgreeR.refl _) (t_sat (fun _ h => h) (hK (bs5, cp6, bs9, cp10, bs13, cp14, bs17, cp18) ⟨hf0, hf1, hf2, hf3, hf4, hf5, hf6, hf7⟩))
    · -- 26
      rintro ⟨bs5, cp6, bs9, cp10, bs13, cp14, bs17, cp18⟩ S hF hS D hp K hK
      try dsimp only at hF ⊢
      obtain ⟨hf0, hf1, hf2, hf3, hf4, hf5, hf6, hf7⟩ := hF
      have s25 := hp 25 rfl
      refine d_need (small := [(50, (.pointer (some ⟨p, 0, none⟩)))]) ⟨look_row rfl 25 rfl s25, trivial⟩ ?_
      refine tp rfl (lv_nilCheck rfl) ?_
      exact d_closes ⟨look_row rfl 25 rfl s25, trivial⟩ 26 rfl rfl rfl hS (AgreeR.refl _) (t_sat (fun _ h => h) (hK (bs5, cp6, bs9, cp10, bs13, cp14, bs17, cp18) ⟨hf0, hf1, hf2, hf3, hf4, hf5, hf6, hf7⟩))
    · -- 27
      rintro ⟨bs5, cp6, bs9, cp10, bs13, cp14, bs17, cp18⟩ S hF hS D hp K hK
      try dsimp only at hF ⊢
      obtain ⟨hf0, hf1, hf2, hf3, hf4, hf5, hf6, hf7⟩ := hF
      have s26 := hp 26 rfl
      refine d_need (small := [(51, (.pointer (some ⟨p, 0, none⟩)))]) ⟨look_row rfl 26 rfl s26, trivial⟩ ?_
      refine tp rfl (lv_fieldAddr (o' := 1) Tryd.underlying64 rfl Tryd.sizeOf61 rfl rfl) ?_
      exact d_closes ⟨look_row rfl 26 rfl s26, trivial⟩ 27 rfl rfl rfl hS (AgreeR.refl _) (t_sat (fun _ h => h) (hK (bs5, cp6, bs9, cp10, bs13, cp14, bs17, cp18) ⟨hf0, hf1, hf2, hf3, hf4, hf5, hf6, hf7⟩))
    · -- 28
      rintro ⟨bs5, cp6, bs9, cp10, bs13, cp14, bs17, cp18⟩ S hF hS D hp K hK
      try dsimp only at hF ⊢
      obtain ⟨hf0, hf1, hf2, hf3, hf4, hf5, hf6, hf7⟩ := hF
      have s27 := hp 27 rfl
      refine d_need (small := [(52, (.pointer (some ⟨p, 1, none⟩)))]) ⟨look_row rfl 27 rfl s27, trivial⟩ ?_
      refine tp rfl (lv_load Tryd.isAgg61 rfl (gives_blk (.tail _ (.tail _ (.tail _ (.tail _ (.head _))))) rfl)) ?_
      exact d_closes ⟨look_row rfl 27 rfl s27, trivial⟩ 28 rfl rfl rfl hS (AgreeR.refl _) (t_sat (fun _ h => h) (hK (bs5, cp6, bs9, cp10, bs13, cp14, bs17, cp18) ⟨hf0, hf1, hf2, hf3, hf4, hf5, hf6, hf7⟩))
    · -- 29
      rintro ⟨bs5, cp6, bs9, cp10, bs13, cp14, bs17, cp18⟩ S hF hS D hp K hK
      try dsimp only at hF ⊢
      obtain ⟨hf0, hf1, hf2, hf3, hf4, hf5, hf6, hf7⟩ := hF
      refine d_need (small := [(2, (.int .i64 ((b : Nat) : Int)))]) ⟨look_b rfl rfl, trivial⟩ ?_
      refine tp rfl (lv_move rfl) ?_
      exact d_closes ⟨look_b rfl rfl, trivial⟩ 29 rfl rfl rfl hS (AgreeR.refl _) (t_sat (fun _ h => h) (hK (bs5, cp6, bs9, cp10, bs13, cp14, bs17, cp18) ⟨hf0, hf1, hf2, hf3, hf4, hf5, hf6, hf7⟩))
    · -- 30
      rintro ⟨bs5, cp6, bs9, cp10, bs13, cp14, bs17, cp18⟩ S hF hS D hp K hK
      try dsimp only at hF ⊢
      obtain ⟨hf0, hf1, hf2, hf3, hf4, hf5, hf6, hf7⟩ := hF
      have s28 := hp 28 rfl
      have s29 := hp 29 rfl
      refine d_need (small := [(53, (.slice bi N ci)), (54, (.int .i64 ((b : Nat) : Int)))]) ⟨look_row rfl 28 rfl s28, look_row rfl 29 rfl s29, trivial⟩ ?_
      refine tp rfl (lv_indexAddr (k' := b) Tryd.underlying61 Tryd.sizeOf33 rfl rfl hG.oki (by omega) (by omega) (by omega)) ?_
      exact d_closes ⟨look_row rfl 28 rfl s28, look_row rfl 29 rfl s29, trivial⟩ 30 rfl rfl rfl hS (AgreeR.refl _) (t_sat (fun _ h => h) (hK (bs5, cp6, bs9, cp10, bs13, cp14, bs17, cp18) ⟨hf0, hf1, hf2, hf3, hf4, hf5, hf6, hf7⟩))
    · -- 31
      rintro ⟨bs5, cp6, bs9, cp10, bs13, cp14, bs17, cp18⟩ S hF hS D hp K hK
      try dsimp only at hF ⊢
      obtain ⟨hf0, hf1, hf2, hf3, hf4, hf5, hf6, hf7⟩ := hF
      have s30 := hp 30 rfl
      refine d_need (small := [(55, (.pointer (some (ad bi b))))]) ⟨look_row rfl 30 rfl s30, trivial⟩ ?_
      refine tp rfl (lv_load Tryd.isAgg33 rfl (gives_as hvb (gives_sl (mem_cF (nf hS D (k := 47) (i := 31) rfl) (.tail _ (.tail _ (.tail _ (.tail _ (.tail _ (.tail _ (.head _)))))))) (vals_get (by first | omega | (simp; omega)))))) ?_
      exact d_closes ⟨look_row rfl 30 rfl s30, trivial⟩ 31 rfl rfl rfl hS (AgreeR.refl _) (t_sat (fun _ h => h) (hK (bs5, cp6, bs9, cp10, bs13, cp14, bs17, cp18) ⟨hf0, hf1, hf2, hf3, hf4, hf5, hf6, hf7⟩))
    · -- 32
      rintro ⟨bs5, cp6, bs9, cp10, bs13, cp14, bs17, cp18⟩ S hF hS D hp K hK
      try dsimp only at hF ⊢
      obtain ⟨hf0, hf1, hf2, hf3, hf4, hf5, hf6, hf7⟩ := hF
      refine d_need (small := [(1, (.int .i64 ((a : Nat) : Int)))]) ⟨look_b rfl rfl, trivial⟩ ?_
      refine tp rfl (lv_move rfl) ?_
      exact d_closes ⟨look_b rfl rfl, trivial⟩ 32 rfl rfl rfl hS (AgreeR.refl _) (t_sat (fun _ h => h) (hK (bs5, cp6, bs9, cp10, bs13, cp14, bs17, cp18) ⟨hf0, hf1, hf2, hf3, hf4, hf5, hf6, hf7⟩))
    · -- 33
      rintro ⟨bs5, cp6, bs9, cp10, bs13, cp14, bs17, cp18⟩ S hF hS D hp K hK
      try dsimp only at hF ⊢
      obtain ⟨hf0, hf1, hf2, hf3, hf4, hf5, hf6, hf7⟩ := hF
      have s32 := hp 32 rfl
      refine d_need (small := [(57, (.int .i64 ((a : Nat) : Int)))]) ⟨look_row rfl 32 rfl s32, trivial⟩ ?_
      refine tm rfl (mv_buildSlice (cs := [(.int .i64 ((a : Nat) : Int))]) Tryd.underlying33 Tryd.sizeOf3 Tryd.zeroValue3 (by decide) rfl rfl rfl rfl) ?_
      rintro _ _ ⟨bs13, cp14, hok15, hle16, rfl, rfl⟩
      refine t_sat (fun _ h => sat_put [_, _, _, _, _, _, _, _, _, _] h) ?_
      exact d_closes ⟨look_row rfl 32 rfl s32, trivial⟩ 33 rfl rfl rfl hS (by exact ⟨.inl rfl, .inl rfl, .inl rfl, .inl rfl, .inl rfl, .inl rfl, .inl rfl, .inl rfl, .inl rfl, .inl rfl, .inl rfl, .inl rfl, .inl rfl, .inl rfl, .inl rfl, .inl rfl, .inl rfl, .inl rfl, .inl rfl, .inl rfl, .inl rfl, .inl rfl, .inl rfl, .inl rfl, .inl rfl, .inl rfl, .inl rfl, .inl rfl, .inl rfl, .inl rfl, .inl rfl, .inl rfl, .inl rfl, .inr ⟨rfl, rfl, hS⟩, .inl rfl, .inl rfl, .inl rfl, .inl rfl, .inl rfl, .inl rfl, .inl rfl, .inl rfl, .inl rfl, .inl rfl, .inl rfl, .inl rfl, .inl rfl, trivial⟩) (t_sat (fun _ h => h) (hK (bs5, cp6, bs9, cp10, bs13, cp14, bs17, cp18) ⟨hf0, hf1, hf2, hf3, (fun _ => hok15), (fun _ => hle16), hf6, hf7⟩))
    · -- 34
      rintro ⟨bs5, cp6, bs9, cp10, bs13, cp14, bs17, cp18⟩ S hF hS D hp K hK
      try dsimp only at hF ⊢
      obtain ⟨hf0, hf1, hf2, hf3, hf4, hf5, hf6, hf7⟩ := hF
      have s24 := hp 24 rfl
      have s23 := D 24 23 rfl s24
      have hok7 := hf0 s23
      have hle8 := hf1 s23
      have hok11 := hf2 s24
      have hle12 := hf3 s24
      have s33 := hp 33 rfl
      have hok15 := hf4 s33
      have hle16 := hf5 s33
      have s31 := hp 31 rfl
      refine d_need (small := [(56, (.slice bb ((inns es ((b : Nat) : Int)).length) cb)), (58, (.slice bs13 1 cp14))]) ⟨look_row rfl 31 rfl s31, look_row rfl 33 rfl s33, trivial⟩ ?_
      refine t_cF hS ?_
      refine t_f6 ?_
      refine t_cF (nf hS D (k := 47) (i := 34) rfl) ?_
      refine t_perm (perm_front [_, _, _, _, _, _, _, _, _, _] _) ?_
      refine t_cT s33 ?_
      refine t_f2 ?_
      refine tm rfl (mv_append (i := Tryd.t3) Tryd.underlying33 Tryd.type3 rfl rfl rfl (by decide) rfl rfl hok15 (by first | (simp; done) | (simp; omega)) (rd_sl (.tail _ (.head _))) (by simp [Value.oneCell']) (by rw [show Tryd.t3.bytes = 8 from rfl]; omega)) ?_
      rintro _ _ ⟨bs17, cp18, hok19, hle20, rfl, rfl⟩
      rw [show ints .i64 (inns es ((b : Nat) : Int)) ++ [(.int .i64 ((a : Nat) : Int))] = ints .i64 ((inns es ((b : Nat) : Int)) ++ [((a : Nat) : Int)]) from ints_snoc _ _ _]
      refine t_f2 ?_
      refine t_wF (A := (SlV 33 1 (.slice bi N ci) N ((vi).set b (.slice bs17 (((inns es ((b : Nat) : Int)).length) + 1) cp18)))) (nf hS D (k := 47) (i := 34) rfl) ?_
      refine t_f2 ?_
      refine t_wT (B := Emp) s33 ?_
      refine t_perm (perm_front [_, _, _, _, _, _, _, _, _, _] _) ?_
      refine t_perm (perm_front [_, _, _, _, _, _, _, _, _, _] _) ?_
      refine t_perm (perm_front [_, _, _, _, _, _, _, _, _, _] _) ?_
      refine t_f4 ?_
      refine t_perm (perm_front [_, _, _, _, _, _, _, _, _, _] _) ?_
      refine t_perm (perm_front [_, _, _, _, _, _, _, _, _, _] _) ?_
      refine t_perm (perm_front [_, _, _, _, _, _, _, _, _, _] _) ?_
      refine t_perm (perm_front [_, _, _, _, _, _, _, _, _, _] _) ?_
      refine t_perm (perm_front [_, _, _, _, _, _, _, _, _, _] _) ?_
      refine t_perm (perm_front [_, _, _, _, _, _, _, _, _, _] _) ?_
      exact d_closes ⟨look_row rfl 31 rfl s31, look_row rfl 33 rfl s33, trivial⟩ 34 rfl rfl rfl hS (by exact ⟨.inl rfl, .inl rfl, .inl rfl, .inl rfl, .inl rfl, .inl rfl, .inl rfl, .inl rfl, .inl rfl, .inl rfl, .inl rfl, .inl rfl, .inl rfl, .inl rfl, .inl rfl, .inl rfl, .inl rfl, .inl rfl, .inl rfl, .inl rfl, .inl rfl, .inl rfl, .inl rfl, .inl rfl, .inl rfl, .inl rfl, .inl rfl, .inl rfl, .inl rfl, .inl rfl, .inl rfl, .inl rfl, .inl rfl, .inl rfl, .inr ⟨rfl, rfl, hS⟩, .inl rfl, .inl rfl, .inl rfl, .inl rfl, .inl rfl, .inl rfl, .inl rfl, .inl rfl, .inl rfl, .inl rfl, .inl rfl, .inl rfl, trivial⟩) (t_sat (fun _ h => h) (hK (bs5, cp6, bs9, cp10, bs13, cp14, bs17, cp18) ⟨hf0, hf1, hf2, hf3, hf4, hf5, (fun _ => hok19), (fun _ => hle20)⟩))
    · -- 35
      rintro ⟨bs5, cp6, bs9, cp10, bs13, cp14, bs17, cp18⟩ S hF hS D hp K hK
      try dsimp only at hF ⊢
      obtain ⟨hf0, hf1, hf2, hf3, hf4, hf5, hf6, hf7⟩ := hF
      refine d_need (small := [(0, (.pointer (some ⟨p, 0, none⟩)))]) ⟨look_b rfl rfl, trivial⟩ ?_
      refine tp rfl (lv_move rfl) ?_
      exact d_closes ⟨look_b rfl rfl, trivial⟩ 35 rfl rfl rfl hS (AgreeR.refl _) (t_sat (fun _ h => h) (hK (bs5, cp6, bs9, cp10, bs13, cp14, bs17, cp18) ⟨hf0, hf1, hf2, hf3, hf4, hf5, hf6, hf7⟩))
    · -- 36
      rintro ⟨bs5, cp6, bs9, cp10, bs13, cp14, bs17, cp18⟩ S hF hS D hp K hK
      try dsimp only at hF ⊢
      obtain ⟨hf0, hf1, hf2, hf3, hf4, hf5, hf6, hf7⟩ := hF
      have s35 := hp 35 rfl
      refine d_need (small := [(60, (.pointer (some ⟨p, 0, none⟩)))]) ⟨look_row rfl 35 rfl s35, trivial⟩ ?_
      refine tp rfl (lv_nilCheck rfl) ?_
      exact d_closes ⟨look_row rfl 35 rfl s35, trivial⟩ 36 rfl rfl rfl hS (AgreeR.refl _) (t_sat (fun _ h => h) (hK (bs5, cp6, bs9, cp10, bs13, cp14, bs17, cp18) ⟨hf0, hf1, hf2, hf3, hf4, hf5, hf6, hf7⟩))
    · -- 37
      rintro ⟨bs5, cp6, bs9, cp10, bs13, cp14, bs17, cp18⟩ S hF hS D hp K hK
      try dsimp only at hF ⊢
      obtain ⟨hf0, hf1, hf2, hf3, hf4, hf5, hf6, hf7⟩ := hF
      have s36 := hp 36 rfl
      refine d_need (small := [(61, (.pointer (some ⟨p, 0, none⟩)))]) ⟨look_row rfl 36 rfl s36, trivial⟩ ?_
      refine tp rfl (lv_fieldAddr (o' := 2) Tryd.underlying64 rfl Tryd.sizeOf62 rfl rfl) ?_
      exact d_closes ⟨look_row rfl 36 rfl s36, trivial⟩ 37 rfl rfl rfl hS (AgreeR.refl _) (t_sat (fun _ h => h) (hK (bs5, cp6, bs9, cp10, bs13, cp14, bs17, cp18) ⟨hf0, hf1, hf2, hf3, hf4, hf5, hf6, hf7⟩))
    · -- 38
      rintro ⟨bs5, cp6, bs9, cp10, bs13, cp14, bs17, cp18⟩ S hF hS D hp K hK
      try dsimp only at hF ⊢
      obtain ⟨hf0, hf1, hf2, hf3, hf4, hf5, hf6, hf7⟩ := hF
      have s37 := hp 37 rfl
      refine d_need (small := [(62, (.pointer (some ⟨p, 2, none⟩)))]) ⟨look_row rfl 37 rfl s37, trivial⟩ ?_
      refine tp rfl (lv_load Tryd.isAgg62 rfl (gives_blk (.tail _ (.tail _ (.tail _ (.tail _ (.head _))))) rfl)) ?_
      exact d_closes ⟨look_row rfl 37 rfl s37, trivial⟩ 38 rfl rfl rfl hS (AgreeR.refl _) (t_sat (fun _ h => h) (hK (bs5, cp6, bs9, cp10, bs13, cp14, bs17, cp18) ⟨hf0, hf1, hf2, hf3, hf4, hf5, hf6, hf7⟩))
    · -- 39
      rintro ⟨bs5, cp6, bs9, cp10, bs13, cp14, bs17, cp18⟩ S hF hS D hp K hK
      try dsimp only at hF ⊢
      obtain ⟨hf0, hf1, hf2, hf3, hf4, hf5, hf6, hf7⟩ := hF
      refine d_need (small := [(1, (.int .i64 ((a : Nat) : Int)))]) ⟨look_b rfl rfl, trivial⟩ ?_
      refine tp rfl (lv_move rfl) ?_
      exact d_closes ⟨look_b rfl rfl, trivial⟩ 39 rfl rfl rfl hS (AgreeR.refl _) (t_sat (fun _ h => h) (hK (bs5, cp6, bs9, cp10, bs13, cp14, bs17, cp18) ⟨hf0, hf1, hf2, hf3, hf4, hf5, hf6, hf7⟩))
    · -- 40
      rintro ⟨bs5, cp6, bs9, cp10, bs13, cp14, bs17, cp18⟩ S hF hS D hp K hK
      try dsimp only at hF ⊢
      obtain ⟨hf0, hf1, hf2, hf3, hf4, hf5, hf6, hf7⟩ := hF
      have s38 := hp 38 rfl
      have s39 := hp 39 rfl
      refine d_need (small := [(63, (.slice bt N ct)), (64, (.int .i64 ((a : Nat) : Int)))]) ⟨look_row rfl 38 rfl s38, look_row rfl 39 rfl s39, trivial⟩ ?_
      refine tp rfl (lv_indexAddr (k' := a) Tryd.underlying62 Tryd.sizeOf68 rfl rfl hG.okt (by omega) (by omega) (by omega)) ?_
      exact d_closes ⟨look_row rfl 38 rfl s38, look_row rfl 39 rfl s39, trivial⟩ 40 rfl rfl rfl hS (AgreeR.refl _) (t_sat (fun _ h => h) (hK (bs5, cp6, bs9, cp10, bs13, cp14, bs17, cp18) ⟨hf0, hf1, hf2, hf3, hf4, hf5, hf6, hf7⟩))
    · -- 41
      rintro ⟨bs5, cp6, bs9, cp10, bs13, cp14, bs17, cp18⟩ S hF hS D hp K hK
      try dsimp only at hF ⊢
      obtain ⟨hf0, hf1, hf2, hf3, hf4, hf5, hf6, hf7⟩ := hF
      have s40 := hp 40 rfl
      refine d_need (small := [(65, (.pointer (some (ad bt a))))]) ⟨look_row rfl 40 rfl s40, trivial⟩ ?_
      refine tp rfl (lv_load Tryd.isAgg68 rfl (gives_as (by rw [masksOf_get (by omega)]) (gives_sl (mem_cF (nf hS D (k := 49) (i := 41) rfl) (.tail _ (.tail _ (.tail _ (.tail _ (.tail _ (.tail _ (.tail _ (.head _))))))))) (ints_get (by first | omega | (simp; omega)))))) ?_
      exact d_closes ⟨look_row rfl 40 rfl s40, trivial⟩ 41 rfl rfl rfl hS (AgreeR.refl _) (t_sat (fun _ h => h) (hK (bs5, cp6, bs9, cp10, bs13, cp14, bs17, cp18) ⟨hf0, hf1, hf2, hf3, hf4, hf5, hf6, hf7⟩))
    · -- 42
      rintro ⟨bs5, cp6, bs9, cp10, bs13, cp14, bs17, cp18⟩ S hF hS D hp K hK
      try dsimp only at hF ⊢
      obtain ⟨hf0, hf1, hf2, hf3, hf4, hf5, hf6, hf7⟩ := hF
      refine d_need (small := [(2, (.int .i64 ((b : Nat) : Int)))]) ⟨look_b rfl rfl, trivial⟩ ?_
      refine tp rfl (lv_move rfl) ?_
      exact d_closes ⟨look_b rfl rfl, trivial⟩ 42 rfl rfl rfl hS (AgreeR.refl _) (t_sat (fun _ h => h) (hK (bs5, cp6, bs9, cp10, bs13, cp14, bs17, cp18) ⟨hf0, hf1, hf2, hf3, hf4, hf5, hf6, hf7⟩))
    · -- 43
      rintro ⟨bs5, cp6, bs9, cp10, bs13, cp14, bs17, cp18⟩ S hF hS D hp K hK
      try dsimp only at hF ⊢
      obtain ⟨hf0, hf1, hf2, hf3, hf4, hf5, hf6, hf7⟩ := hF
      have s41 := hp 41 rfl
      have s42 := hp 42 rfl
      refine d_need (small := [(66, (.int .u64 ((maskL (outs es ((a : Nat) : Int)) : Nat) : Int))), (67, (.int .i64 ((b : Nat) : Int)))]) ⟨look_row rfl 41 rfl s41, look_row rfl 42 rfl s42, trivial⟩ ?_
      refine tc rfl (en_fn Tryd.call43 rfl) (with_ok (maskL (outs es ((a : Nat) : Int))) b (by omega) hmlt) ?_
      rintro _ _ ⟨rfl, rfl⟩
      exact d_closes ⟨look_row rfl 41 rfl s41, look_row rfl 42 rfl s42, trivial⟩ 43 rfl rfl rfl hS (AgreeR.refl _) (t_sat (fun _ h => h) (hK (bs5, cp6, bs9, cp10, bs13, cp14, bs17, cp18) ⟨hf0, hf1, hf2, hf3, hf4, hf5, hf6, hf7⟩))
    · -- 44
      rintro ⟨bs5, cp6, bs9, cp10, bs13, cp14, bs17, cp18⟩ S hF hS D hp K hK
      try dsimp only at hF ⊢
      obtain ⟨hf0, hf1, hf2, hf3, hf4, hf5, hf6, hf7⟩ := hF
      have s23 := hp 23 rfl
      have hok7 := hf0 s23
      have hle8 := hf1 s23
      have s24 := hp 24 rfl
      have hok11 := hf2 s24
      have hle12 := hf3 s24
      have s43 := hp 43 rfl
      have s34 := D 43 34 rfl s43
      have s33 := D 34 33 rfl s34
      have hok15 := hf4 s33
      have hle16 := hf5 s33
      have hok19 := hf6 s34
      have hle20 := hf7 s34
      have s3 := hp 3 rfl
      have s4 := hp 4 rfl
      refine d_need (small := [(28, (.slice bo N co)), (29, (.int .i64 ((a : Nat) : Int)))]) ⟨look_row rfl 3 rfl s3, look_row rfl 4 rfl s4, trivial⟩ ?_
      refine tp rfl (lv_indexAddr (k' := a) Tryd.underlying61 Tryd.sizeOf33 rfl rfl hG.oko (by omega) (by omega) (by omega)) ?_
      exact d_closes ⟨look_row rfl 3 rfl s3, look_row rfl 4 rfl s4, trivial⟩ 44 rfl rfl rfl hS (AgreeR.refl _) (t_sat (fun _ h => h) (hK (bs5, cp6, bs9, cp10, bs13, cp14, bs17, cp18) ⟨hf0, hf1, hf2, hf3, hf4, hf5, hf6, hf7⟩))
    · -- 45
      rintro ⟨bs5, cp6, bs9, cp10, bs13, cp14, bs17, cp18⟩ S hF hS D hp K hK
      try dsimp only at hF ⊢
      obtain ⟨hf0, hf1, hf2, hf3, hf4, hf5, hf6, hf7⟩ := hF
      have s23 := hp 23 rfl
      have hok7 := hf0 s23
      have hle8 := hf1 s23
      have s24 := hp 24 rfl
      have hok11 := hf2 s24
      have hle12 := hf3 s24
      have s44 := hp 44 rfl
      have s43 := D 44 43 rfl s44
      have s34 := D 43 34 rfl s43
      have s33 := D 34 33 rfl s34
      have hok15 := hf4 s33
      have hle16 := hf5 s33
      have hok19 := hf6 s34
      have hle20 := hf7 s34
      refine d_need (small := [(49, (.slice bs9 (((outs es ((a : Nat) : Int)).length) + 1) cp10)), (69, (.pointer (some (ad bo a))))]) ⟨look_row rfl 24 rfl s24, look_row rfl 44 rfl s44, trivial⟩ ?_
      refine t_f5 ?_
      refine t_cF hS ?_
      refine ts (sv_sl Tryd.sizeOf33 rfl rfl rfl (by first | (simp; omega) | omega) rfl) ?_
      refine t_f5 ?_
      refine t_f5 ?_
      refine t_f5 ?_
      refine t_f5 ?_
      refine t_f5 ?_
      exact d_closes0 ⟨look_row rfl 24 rfl s24, look_row rfl 44 rfl s44, trivial⟩ rfl (t_sat (fun _ h => h) (hK (bs5, cp6, bs9, cp10, bs13, cp14, bs17, cp18) ⟨hf0, hf1, hf2, hf3, hf4, hf5, hf6, hf7⟩))
    · -- 46
      rintro ⟨bs5, cp6, bs9, cp10, bs13, cp14, bs17, cp18⟩ S hF hS D hp K hK
      try dsimp only at hF ⊢
      obtain ⟨hf0, hf1, hf2, hf3, hf4, hf5, hf6, hf7⟩ := hF
      have s23 := hp 23 rfl
      have hok7 := hf0 s23
      have hle8 := hf1 s23
      have s24 := hp 24 rfl
      have hok11 := hf2 s24
      have hle12 := hf3 s24
      have s33 := hp 33 rfl
      have hok15 := hf4 s33
      have hle16 := hf5 s33
      have s34 := hp 34 rfl
      have hok19 := hf6 s34
      have hle20 := hf7 s34
      have s8 := hp 8 rfl
      have s9 := hp 9 rfl
      refine d_need (small := [(33, (.slice bi N ci)), (34, (.int .i64 ((b : Nat) : Int)))]) ⟨look_row rfl 8 rfl s8, look_row rfl 9 rfl s9, trivial⟩ ?_
      refine tp rfl (lv_indexAddr (k' := b) Tryd.underlying61 Tryd.sizeOf33 rfl rfl hG.oki (by omega) (by omega) (by omega)) ?_
      exact d_closes ⟨look_row rfl 8 rfl s8, look_row rfl 9 rfl s9, trivial⟩ 45 rfl rfl rfl hS (AgreeR.refl _) (t_sat (fun _ h => h) (hK (bs5, cp6, bs9, cp10, bs13, cp14, bs17, cp18) ⟨hf0, hf1, hf2, hf3, hf4, hf5, hf6, hf7⟩))
    · -- 47
      rintro ⟨bs5, cp6, bs9, cp10, bs13, cp14, bs17, cp18⟩ S hF hS D hp K hK
      try dsimp only at hF ⊢
      obtain ⟨hf0, hf1, hf2, hf3, hf4, hf5, hf6, hf7⟩ := hF
      have s23 := hp 23 rfl
      have hok7 := hf0 s23
      have hle8 := hf1 s23
      have s24 := hp 24 rfl
      have hok11 := hf2 s24
      have hle12 := hf3 s24
      have s33 := hp 33 rfl
      have hok15 := hf4 s33
      have hle16 := hf5 s33
      have s34 := hp 34 rfl
      have hok19 := hf6 s34
      have hle20 := hf7 s34
      have s46 := hp 46 rfl
      refine d_need (small := [(59, (.slice bs17 (((inns es ((b : Nat) : Int)).length) + 1) cp18)), (70, (.pointer (some (ad bi b))))]) ⟨look_row rfl 34 rfl s34, look_row rfl 45 rfl s46, trivial⟩ ?_
      refine t_f6 ?_
      refine t_cF hS ?_
      refine ts (sv_sl Tryd.sizeOf33 rfl rfl rfl (by first | (simp; omega) | omega) rfl) ?_
      refine t_f6 ?_
      refine t_f6 ?_
      refine t_f6 ?_
      refine t_f6 ?_
      refine t_f6 ?_
      refine t_f6 ?_
      exact d_closes0 ⟨look_row rfl 34 rfl s34, look_row rfl 45 rfl s46, trivial⟩ rfl (t_sat (fun _ h => h) (hK (bs5, cp6, bs9, cp10, bs13, cp14, bs17, cp18) ⟨hf0, hf1, hf2, hf3, hf4, hf5, hf6, hf7⟩))
    · -- 48
      rintro ⟨bs5, cp6, bs9, cp10, bs13, cp14, bs17, cp18⟩ S hF hS D hp K hK
      try dsimp only at hF ⊢
      obtain ⟨hf0, hf1, hf2, hf3, hf4, hf5, hf6, hf7⟩ := hF
      have s23 := hp 23 rfl
      have hok7 := hf0 s23
      have hle8 := hf1 s23
      have s24 := hp 24 rfl
      have hok11 := hf2 s24
      have hle12 := hf3 s24
      have s33 := hp 33 rfl
      have hok15 := hf4 s33
      have hle16 := hf5 s33
      have s34 := hp 34 rfl
      have hok19 := hf6 s34
      have hle20 := hf7 s34
      have s13 := hp 13 rfl
      have s14 := hp 14 rfl
      refine d_need (small := [(38, (.slice bt N ct)), (39, (.int .i64 ((a : Nat) : Int)))]) ⟨look_row rfl 13 rfl s13, look_row rfl 14 rfl s14, trivial⟩ ?_
      refine tp rfl (lv_indexAddr (k' := a) Tryd.underlying62 Tryd.sizeOf68 rfl rfl hG.okt (by omega) (by omega) (by omega)) ?_
      exact d_closes ⟨look_row rfl 13 rfl s13, look_row rfl 14 rfl s14, trivial⟩ 46 rfl rfl rfl hS (AgreeR.refl _) (t_sat (fun _ h => h) (hK (bs5, cp6, bs9, cp10, bs13, cp14, bs17, cp18) ⟨hf0, hf1, hf2, hf3, hf4, hf5, hf6, hf7⟩))
    · -- 49
      rintro ⟨bs5, cp6, bs9, cp10, bs13, cp14, bs17, cp18⟩ S hF hS D hp K hK
      try dsimp only at hF ⊢
      obtain ⟨hf0, hf1, hf2, hf3, hf4, hf5, hf6, hf7⟩ := hF
      have s23 := hp 23 rfl
      have hok7 := hf0 s23
      have hle8 := hf1 s23
      have s24 := hp 24 rfl
      have hok11 := hf2 s24
      have hle12 := hf3 s24
      have s33 := hp 33 rfl
      have hok15 := hf4 s33
      have hle16 := hf5 s33
      have s34 := hp 34 rfl
      have hok19 := hf6 s34
      have hle20 := hf7 s34
      have s43 := hp 43 rfl
      have s48 := hp 48 rfl
      refine d_need (small := [(68, (.int .u64 (((maskL (outs es ((a : Nat) : Int))) ||| 2 ^ b : Nat) : Int))), (71, (.pointer (some (ad bt a))))]) ⟨look_row rfl 43 rfl s43, look_row rfl 46 rfl s48, trivial⟩ ?_
      refine t_f7 ?_
      refine t_cF hS ?_
      refine ts (sv_sl Tryd.sizeOf68 rfl rfl rfl (by first | (rw [ints_length]; omega) | (simp; omega) | omega) ints_set) ?_
      refine t_f7 ?_
      refine t_f7 ?_
      refine t_f7 ?_
      refine t_f7 ?_
      refine t_f7 ?_
      refine t_f7 ?_
      refine t_f7 ?_
      exact d_closes0 ⟨look_row rfl 43 rfl s43, look_row rfl 46 rfl s48, trivial⟩ rfl (t_sat (fun _ h => h) (hK (bs5, cp6, bs9, cp10, bs13, cp14, bs17, cp18) ⟨hf0, hf1, hf2, hf3, hf4, hf5, hf6, hf7⟩))
  · -- behind
    rintro ⟨bs5, cp6, bs9, cp10, bs13, cp14, bs17, cp18⟩ hF
    try dsimp only at hF ⊢
    obtain ⟨hf0, hf1, hf2, hf3, hf4, hf5, hf6, hf7⟩ := hF
    have hok7 := hf0 rfl
    have hle8 := hf1 rfl
    have hok11 := hf2 rfl
    have hle12 := hf3 rfl
    have hok15 := hf4 rfl
    have hle16 := hf5 rfl
    have hok19 := hf6 rfl
    have hle20 := hf7 rfl
    refine t_weak (E' := [(0, (.pointer (some ⟨p, 0, none⟩))), (1, (.int .i64 ((a : Nat) : Int))), (2, (.int .i64 ((b : Nat) : Int))), (6, (.bool false)), (7, (.int .i64 0)), (8, (.bool false)), (15, (.bool false))]) ⟨rfl, rfl, rfl, rfl, rfl, rfl, rfl, trivial⟩ ?_
    refine q_then_n (hK5 _ _ ?_)
    refine c_seq (fun K6 hK6 => ?_)
    refine c_region ?_
    refine tp rfl (lv_move rfl) ?_
    refine tp rfl (lv_nilCheck rfl) ?_
    refine tp rfl (lv_fieldAddr (o' := 3) Tryd.underlying64 rfl Tryd.sizeOf3 rfl rfl) ?_
    refine tp rfl (lv_load Tryd.isAgg3 rfl (gives_blk (.tail _ (.tail _ (.tail _ (.tail _ (.head _))))) rfl)) ?_
    refine tp rfl (lv_add (c := (((es ++ [(((a : Nat) : Int), ((b : Nat) : Int))]).length : Nat) : Int)) rfl rfl ((wr_i64 (by omega) (by omega)).trans (by simp))) ?_
    refine tp rfl (lv_nilCheck rfl) ?_
    refine tp rfl (lv_fieldAddr (o' := 3) Tryd.underlying64 rfl Tryd.sizeOf3 rfl rfl) ?_
    refine t_f4 ?_
    refine ts (sv_blk Tryd.sizeOf3 rfl rfl rfl (Nat.le_of_ble_eq_true rfl) rfl) ?_
    refine t_done ?_
    refine q_then_n (hK6 _ _ ?_)
    refine c_seq (fun K7 hK7 => ?_)
    refine c_region ?_
    refine t_f4 ?_
    refine t_f4 ?_
    refine t_sat (fun _ h => Sat.shutIn (xs := (outs es ((a : Nat) : Int)) ++ [((b : Nat) : Int)]) (by simp) hok11 hle12 h) ?_
    refine t_sat (fun _ h => h.putRow (by rw [rowsOf_length]; exact glo) (by omega)) ?_
    rw [rows_outs_snoc]
    refine t_f3 ?_
    refine t_f3 ?_
    refine t_sat (fun _ h => Sat.shutIn (xs := (inns es ((b : Nat) : Int)) ++ [((a : Nat) : Int)]) (by simp) hok19 hle20 h) ?_
    refine t_sat (fun _ h => h.putRow (by rw [rowsOf_length]; exact gli) (by omega)) ?_
    rw [rows_inns_snoc]
    refine t_f1 ?_
    refine t_f5 ?_
    refine t_f5 ?_
    refine t_f5 ?_
    refine t_f5 ?_
    rw [show (masksOf N es).set a ((((maskL (outs es (a : Int))) ||| 2 ^ b : Nat) : Nat) : Int) = masksOf N (es ++ [(((a : Nat) : Int), ((b : Nat) : Int))]) from (masksOf_snoc (b := (b : Int))).symm]
    refine t_shutG (es := es ++ [(((a : Nat) : Int), ((b : Nat) : Int))]) ⟨hgok.snoc ⟨by omega, by omega⟩ ⟨by omega, by omega⟩ (by intro hm; rw [hasE] at hh; simp [hm] at hh), hG.oko, hG.oki, hG.okt, by simpa using glo, by simpa using gli⟩ ?_
    refine tp rfl (lv_assign rfl) ?_
    refine tp rfl (lv_assign rfl) ?_
    refine t_done ?_
    refine q_then_n (hK7 _ _ ?_)
    refine c_ret ?_
    refine t_f1 ?_
    refine t_drop ?_
    refine t_f1 ?_
    refine t_drop ?_
    refine t_f1 ?_
    refine t_drop ?_
    refine q_ret2 rfl rfl rfl ?_
    obtain ⟨e1, e2, e3⟩ := addE_new ha hb hh
    rw [e1, e2, e3]
    exact ⟨rfl, rfl⟩

theorem add_t {R : List HP} {p N : Nat} {es : Es} (a b : Nat) (ha : a < N) (hb : b < N) : Ok Tryd.prog 25 [(.pointer (some ⟨p, 0, none⟩)), (.int .i64 ((a : Nat) : Int)), (.int .i64 ((b : Nat) : Int))] (GraphO p N es :: R)
      (fun v M => v = .tuple #[.bool (isNew N es ((a : Nat) : Int) ((b : Nat) : Int)), .int .i64 (addErr N ((a : Nat) : Int) ((b : Nat) : Int))] ∧ M = GraphO p N (addE N es ((a : Nat) : Int) ((b : Nat) : Int)) :: R) := by
  cases h : hasE es (((a : Nat) : Int), ((b : Nat) : Int)) with
  | true => exact add_old a b ha hb h
  | false => exact add_new a b ha hb h

theorem add_ok {R : List HP} {p N : Nat} {es : Es} (a b : Int) : Ok Tryd.prog 25 [(.pointer (some ⟨p, 0, none⟩)), (.int .i64 a), (.int .i64 b)] (GraphO p N es :: R)
      (fun v M => v = .tuple #[.bool (isNew N es a b), .int .i64 (addErr N a b)] ∧ M = GraphO p N (addE N es a b) :: R) := by
  rcases there_cases2 N a b with ⟨k, m, hk, hm, rfl, rfl⟩ | ⟨h1, h2⟩
  · exact add_t k m hk hm
  · exact add_f a b h1 h2
end Go.Proofs.YtppgccafgfpkdaaDoor
