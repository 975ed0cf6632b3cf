/- Parts Pc, Pd, Ra0, Oa: own lemmas and contracts of the code that the claim reaches. -/
import Derived.Test.YtanfdikglplkaaaGreatDoorM23
import Derived.Test.YtanfdikglplkaaaGreatDoorM03
import Derived.Test.YtanfdikglplkaaaGreatDoorM17
import Derived.Test.YtanfdikglplkaaaGreatDoorM10
import Derived.Test.YtanfdikglplkaaaGreatDoorM04
set_option linter.unusedSimpArgs false
set_option linter.unusedVariables false
set_option maxRecDepth 100000
namespace Go.Proofs.YtanfdikglplkaaaGreatDoor
open Go Go.Proofs Sp
theorem deleteFunc_q {R : List HP} {p q : Int → Bool} {f n : Nat} {caps : List Value} {bx : Option Addr} {cx : Nat} (hq : ∀ x, p x = !q x) (xs : List Int) (hn : xs.length = n) (hf : (∀ args w, (callFunc f args).run Tryz.prog w = .ok (.enter f args) w) ∧ ∀ x ∈ xs, ∀ ys : List Int, ys.length = xs.length → Ok Tryz.prog f ([.int .i64 x] ++ caps) (SlV 3 1 (.slice bx n cx) n (ints .i64 ys) :: R) (fun v M => v = .bool (p x) ∧ M = SlV 3 1 (.slice bx n cx) n (ints .i64 ys) :: R)) (lx : n ≤ 1000000) :
    Ok Tryz.prog 137 [.slice bx n cx, .func (.func f) #[] caps.toArray] (SlV 3 1 (.slice bx n cx) n (ints .i64 xs) :: R) (fun v M => v = .slice bx (xs.filter q).length cx ∧ M = SlV 3 1 (.slice bx (xs.filter q).length cx) (xs.filter q).length (ints .i64 (xs.filter q)) :: R) := by
  have := deleteFunc_n xs hn hf lx
  have e : (fun x => !p x) = q := funext fun x => by rw [hq, Bool.not_not]
  rw [e] at this; exact this
theorem fits_ok {R : List HP} {bx bl : Option Addr} {cx cl n : Nat} (xs : List Int) (es : List (Int × Int)) (room : Int) (hn : n ≤ es.length) (hx : Rd R bx (ints .i64 xs)) (hl : Rd R bl (pairs es)) (okx : SlOk bx xs.length) (okl : SlOk bl n) (lx : xs.length ≤ 1000000) :
    Ok Tryz.prog 94 [(.slice bx xs.length cx), (.slice bl n cl), (.int .i64 room)] R
      (OutSl 3 1 (xs.filter (fitB n es room)).length (ints .i64 (xs.filter (fitB n es room))) R) := by
 refine ok_of (N := 13) Tryz.func94 rfl rfl rfl (fun W => ?_)
 refine c_seq (fun K1 hK1 => c_region ?_)
 refine tm rfl (mv_box rfl rfl) ?_
 rintro _ _ ⟨b1, rfl, rfl⟩
 refine tm rfl (mv_box rfl rfl) ?_
 rintro _ _ ⟨b2, rfl, rfl⟩
 refine tp rfl (lv_assign rfl) (t_done (q_then_n (hK1 _ _ (c_seq (fun K2 hK2 => c_region (tp rfl (lv_makeFunc rfl) (tp rfl (lv_assign rfl) (t_done (q_then_n (hK2 _ _ (c_seq (fun K3 hK3 => ?_))))))))))))
 refine c_region (tp rfl (lv_move rfl) ?_)
 refine tc rfl (en_fn Tryz.call72 rfl) (clone_ok xs (Rd.cons (Rd.cons hx)) okx (by first | omega | (simp; omega))) ?_
 rintro _ _ ⟨bs3, cp4, hok5, hle6, rfl, rfl⟩
 refine tp rfl (lv_move rfl) ?_
 refine tc rfl (en_fn Tryz.call137 rfl) (deleteFunc_q (q := fitB n es room) (fun _ => rfl) xs (by first | rfl | omega | (simp; done) | (simp; omega)) ⟨Tryz.call136, fun x _ ys _ => fits1_ok x room es hn (Rd.cons (Rd.cons (Rd.cons hl))) okl (gives_blk (.tail _ (.tail _ (.head _))) rfl) (gives_blk (.tail _ (.head _)) rfl)⟩ (by omega)) ?_
 rintro _ _ ⟨rfl, rfl⟩
 refine tp rfl (lv_assign rfl) (t_done (q_then_n (hK3 _ _ (c_ret (t_f1 (t_drop (t_f1 (t_drop ?_))))))))
 refine q_ret rfl rfl ?_
 have hfl := List.length_filter_le (fitB n es room) xs
 exact ⟨_, _, (fun hz => hok5 (by omega)), (by omega), rfl, rfl⟩
theorem fits_n {R : List HP} {bx bl : Option Addr} {cx cl n nx : Nat} (xs : List Int) (es : List (Int × Int)) (room : Int) (hxn : xs.length = nx) (hn : n ≤ es.length) (hx : Rd R bx (ints .i64 xs)) (hl : Rd R bl (pairs es)) (okx : SlOk bx nx) (okl : SlOk bl n) (lx : nx ≤ 1000000) :
    Ok Tryz.prog 94 [.slice bx nx cx, .slice bl n cl, .int .i64 room] R (OutSl 3 1 (xs.filter (fitB n es room)).length (ints .i64 (xs.filter (fitB n es room))) R) := by subst hxn; exact fits_ok xs es room hn hx hl okx okl lx
end Go.Proofs.YtanfdikglplkaaaGreatDoor
set_option maxRecDepth 100000
namespace Go.Proofs.YtanfdikglplkaaaGreatDoor
open Go Go.Proofs Sp
set_option maxHeartbeats 4000000 in
theorem wants1_ok {R : List HP} {g N : Nat} {E : Es} (x : Int) {c1 c2 c3 c4 n m cl cr k : Nat} {bl bq : Option Addr} (rs : List Int) (hk : k < m) (hm : m ≤ rs.length) (hr : Rd R bq (ints .i64 rs)) (okr : SlOk bq m) (h1 : Gives R ⟨c1, 0, none⟩ (.slice bl n cl)) (h2 : Gives R ⟨c2, 0, none⟩ (.pointer (some ⟨g, 0, none⟩))) (h3 : Gives R ⟨c3, 0, none⟩ (.slice bq m cr)) (h4 : Gives R ⟨c4, 0, none⟩ (.int .i64 ((k : Nat) : Int))) (hT : Tab R) :
    Ok Tryz.prog 101 [(.int .i64 x), (.pointer (some ⟨c1, 0, none⟩)), (.pointer (some ⟨c2, 0, none⟩)), (.pointer (some ⟨c3, 0, none⟩)), (.pointer (some ⟨c4, 0, none⟩))] ((GraphO g N E) :: R)
      (fun v M => v = .bool (thB x n && reachB N E (rs.getD k 0) x) ∧ M = GraphO g N E :: R) := by
 refine ok_of (N := 19) Tryz.func101 rfl rfl rfl (fun W => ?_)
 refine c_seq (fun K1 hK1 => c_region (tp rfl (lv_assign rfl) (t_done (q_then_n (hK1 _ _ (c_seq (fun K2 hK2 => ?_)))))))
 rcases hh1 : thB x n with _ | _
 · refine c_draw (γ := Unit) (n := 13) Tryz.mixed rfl rfl (fun _ S => True) (fun _ => [(0, 7, (.int .i64 x)), (1, 8, (.slice bl n cl)), (2, 9, (.bool false)), (3, 10, (.bool false)), (4, 11, undef), (5, 12, undef), (6, 13, undef), (7, 14, undef), (8, 15, undef), (9, 16, undef), (10, 17, undef), (11, 18, (.bool false)), (12, 6, (.bool false))]) (fun _ S => (GraphO g N E) :: R) (()) trivial (fun _ h => h) (fun _ _ h => h) ?_ ?_
   · refine ⟨?_, ?_, ?_, ?_, ?_, ?_, ?_, ?_, ?_, ?_, ?_, ?_, ?_, trivial⟩
     · intro _ S h s D p K k; exact d_lv1 (look_b (t := 0) rfl rfl) (lv_move rfl) 0 rfl rfl s (k () h)
     · intro _ S h s D p K k; exact d_lv1 (look_b (t := 1) rfl rfl) (lv_load Tryz.isAgg24 rfl (Gives.cons h1)) 1 rfl rfl s (k () h)
     · rintro _ S hF hS D hp K hK
       try dsimp only at hF ⊢
       have s0 := hp 0 rfl
       have s1 := hp 1 rfl
       refine d_need (small := [(7, (.int .i64 x)), (8, (.slice bl n cl))]) ⟨look_row rfl 0 rfl s0, look_row rfl 1 rfl s1, trivial⟩ ?_
       refine tc rfl (en_fn Tryz.call102 rfl) (tthere_ok x) ?_
       rintro _ _ ⟨rfl, rfl⟩
       rw [show thB x n = false from hh1]
       exact d_closes ⟨look_row rfl 0 rfl s0, look_row rfl 1 rfl s1, trivial⟩ 2 rfl rfl rfl hS (AgreeR.refl _) (t_sat (fun _ h => h) (hK () trivial))
     · intro _ S h s D p K k; exact d_lv1 (lkr p 2 rfl rfl) (lv_move rfl) 3 rfl rfl s (k () h)
     · intro _ S h s D p K k; exact d_sk2 (look_b (t := 2) rfl rfl) (lkr p 3 rfl rfl) rfl rfl 4 rfl rfl s (k () h)
     · intro _ S h s D p K k; exact d_sk2 (look_b (t := 3) rfl rfl) (lkr p 3 rfl rfl) rfl rfl 5 rfl rfl s (k () h)
     · intro _ S h s D p K k; exact d_sk2 (look_b (t := 4) rfl rfl) (lkr p 3 rfl rfl) rfl rfl 6 rfl rfl s (k () h)
     · intro _ S h s D p K k; exact d_sk3 (lkr p 3 rfl rfl) (lkr p 5 rfl rfl) (lkr p 6 rfl rfl) rfl rfl 7 rfl rfl s (k () h)
     · intro _ S h s D p K k; exact d_sk2 (lkr p 3 rfl rfl) (lkr p 7 rfl rfl) rfl rfl 8 rfl rfl s (k () h)
     · intro _ S h s D p K k; exact d_sk2 (look_b (t := 0) rfl rfl) (lkr p 3 rfl rfl) rfl rfl 9 rfl rfl s (k () h)
     · intro _ S h s D p K k; exact d_sk4 (lkr p 3 rfl rfl) (lkr p 4 rfl rfl) (lkr p 8 rfl rfl) (lkr p 9 rfl rfl) rfl rfl 10 rfl rfl s (k () h)
     · intro _ S h s D p K k; exact d_lv2 (lkr p 3 rfl rfl) (lkr p 10 rfl rfl) (lv_pick_f rfl rfl) 11 rfl rfl s (k () h)
     · intro _ S h s D p K k; exact d_lv1 (lkr p 11 rfl rfl) (lv_assign rfl) 12 rfl rfl s (k () h)
   · rintro _ hF
     try dsimp only at hF ⊢
     refine t_weak (E' := [(0, (.int .i64 x)), (1, (vP c1 0)), (2, (vP c2 0)), (3, (vP c3 0)), (4, (vP c4 0)), (6, (.bool false))]) ⟨rfl, rfl, rfl, rfl, rfl, rfl, trivial⟩ ?_
     refine q_then_n (hK2 _ _ (c_ret ?_))
     refine q_ret rfl rfl ?_
     exact ⟨by simp [*], rfl⟩
 · refine c_draw (γ := Unit) (n := 13) Tryz.mixed rfl rfl (fun _ S => True) (fun _ => [(0, 7, (.int .i64 x)), (1, 8, (.slice bl n cl)), (2, 9, (.bool true)), (3, 10, (.bool true)), (4, 11, (vP g 0)), (5, 12, (.slice bq m cr)), (6, 13, (vN k)), (7, 14, (.pointer (some (ad bq k)))), (8, 15, (.int .i64 ((rs).getD k 0))), (9, 16, (.int .i64 x)), (10, 17, (.bool (reachB N E ((rs).getD k 0) x))), (11, 18, (.bool (reachB N E ((rs).getD k 0) x))), (12, 6, (.bool (reachB N E ((rs).getD k 0) x)))]) (fun _ S => (GraphO g N E) :: R) (()) trivial (fun _ h => h) (fun _ _ h => h) ?_ ?_
   · refine ⟨?_, ?_, ?_, ?_, ?_, ?_, ?_, ?_, ?_, ?_, ?_, ?_, ?_, trivial⟩
     · intro _ S h s D p K k; exact d_lv1 (look_b (t := 0) rfl rfl) (lv_move rfl) 0 rfl rfl s (k () h)
     · intro _ S h s D p K k; exact d_lv1 (look_b (t := 1) rfl rfl) (lv_load Tryz.isAgg24 rfl (Gives.cons h1)) 1 rfl rfl s (k () h)
     · rintro _ S hF hS D hp K hK
       try dsimp only at hF ⊢
       have s0 := hp 0 rfl
       have s1 := hp 1 rfl
       refine d_need (small := [(7, (.int .i64 x)), (8, (.slice bl n cl))]) ⟨look_row rfl 0 rfl s0, look_row rfl 1 rfl s1, trivial⟩ ?_
       refine tc rfl (en_fn Tryz.call102 rfl) (tthere_ok x) ?_
       rintro _ _ ⟨rfl, rfl⟩
       rw [show thB x n = true from hh1]
       exact d_closes ⟨look_row rfl 0 rfl s0, look_row rfl 1 rfl s1, trivial⟩ 2 rfl rfl rfl hS (AgreeR.refl _) (t_sat (fun _ h => h) (hK () trivial))
     · intro _ S h s D p K k; exact d_lv1 (lkr p 2 rfl rfl) (lv_move rfl) 3 rfl rfl s (k () h)
     · intro _ S h s D p K k; exact d_gd2 (look_b (t := 2) rfl rfl) (lkr p 3 rfl rfl) rfl rfl (lv_load Tryz.isAgg67 rfl (Gives.cons h2)) 4 rfl rfl s (k () h)
     · intro _ S h s D p K k; exact d_gd2 (look_b (t := 3) rfl rfl) (lkr p 3 rfl rfl) rfl rfl (lv_load Tryz.isAgg34 rfl (Gives.cons h3)) 5 rfl rfl s (k () h)
     · intro _ S h s D p K k; exact d_gd2 (look_b (t := 4) rfl rfl) (lkr p 3 rfl rfl) rfl rfl (lv_load Tryz.isAgg3 rfl (Gives.cons h4)) 6 rfl rfl s (k () h)
     · rintro _ S hF hS D hp K hK; try dsimp only
       exact d_gd3 (lkr hp 3 rfl rfl) (lkr hp 5 rfl rfl) (lkr hp 6 rfl rfl) rfl rfl (lv_indexAddr (k' := k) Tryz.underlying34 Tryz.sizeOf3 rfl rfl okr (by omega) (by omega) (by omega)) 7 rfl rfl hS (hK () hF)
     · intro _ S h s D p K k; exact d_gd2 (lkr p 3 rfl rfl) (lkr p 7 rfl rfl) rfl rfl (lv_load Tryz.isAgg3 rfl (Rd.gives (Rd.cons hr) (ints_get (by first | omega | (simp; omega))))) 8 rfl rfl s (k () h)
     · intro _ S h s D p K k; exact d_gd2 (look_b (t := 0) rfl rfl) (lkr p 3 rfl rfl) rfl rfl (lv_move rfl) 9 rfl rfl s (k () h)
     · rintro _ S hF hS D hp K hK
       try dsimp only at hF ⊢
       have s3 := hp 3 rfl
       have s4 := hp 4 rfl
       have s8 := hp 8 rfl
       have s9 := hp 9 rfl
       refine d_need (small := [(10, (.bool true)), (11, (vP g 0)), (15, (.int .i64 ((rs).getD k 0))), (16, (.int .i64 x))]) ⟨look_row rfl 3 rfl s3, look_row rfl 4 rfl s4, look_row rfl 8 rfl s8, look_row rfl 9 rfl s9, trivial⟩ ?_
       refine t_guard rfl rfl ?_
       refine tc rfl (en_fn Tryz.call103 rfl) (reaches_ok (N := N) (es := E) ((rs).getD k 0) x hT) ?_
       rintro _ _ ⟨rfl, rfl⟩
       exact d_closes ⟨look_row rfl 3 rfl s3, look_row rfl 4 rfl s4, look_row rfl 8 rfl s8, look_row rfl 9 rfl s9, trivial⟩ 10 rfl rfl rfl hS (AgreeR.refl _) (t_sat (fun _ h => h) (hK () trivial))
     · intro _ S h s D p K k; exact d_lv2 (lkr p 3 rfl rfl) (lkr p 10 rfl rfl) (lv_pick_t rfl rfl) 11 rfl rfl s (k () h)
     · intro _ S h s D p K k; exact d_lv1 (lkr p 11 rfl rfl) (lv_assign rfl) 12 rfl rfl s (k () h)
   · rintro _ hF
     try dsimp only at hF ⊢
     refine t_weak (E' := [(0, (.int .i64 x)), (1, (vP c1 0)), (2, (vP c2 0)), (3, (vP c3 0)), (4, (vP c4 0)), (6, (.bool (reachB N E ((rs).getD k 0) x)))]) ⟨rfl, rfl, rfl, rfl, rfl, rfl, trivial⟩ ?_
     refine q_then_n (hK2 _ _ (c_ret ?_))
     refine q_ret rfl rfl ?_
     exact ⟨by simp [*], rfl⟩
theorem indexFunc_n {R : List HP} {p : Int → Bool} {f n : Nat} {caps : List Value} {bx : Option Addr} {cx : Nat} (xs : List Int) (hn : xs.length = n) (hf : (∀ args w, (callFunc f args).run Tryz.prog w = .ok (.enter f args) w) ∧ ∀ x ∈ xs, Ok Tryz.prog f ([.int .i64 x] ++ caps) R (fun v M => v = .bool (p x) ∧ M = R)) (hx : Rd R bx (ints .i64 xs)) (okx : SlOk bx n) (lx : n ≤ 4611686018427387904) :
    Ok Tryz.prog 100 [.slice bx n cx, .func (.func f) #[] caps.toArray] R (fun v M => v = .int .i64 (idxF p xs) ∧ M = R) := by subst hn; exact indexFunc_ok xs hf hx okx lx
set_option maxHeartbeats 4000000 in
theorem wants_ok {R : List HP} {g N : Nat} {E : Es} {bx bl bi bq : Option Addr} {cx cl ci cr nt n ni m m1 : Nat} (tl : List Int) (es : List (Int × Int)) (is rs : List Int) (htn : tl.length = nt) (hn : n ≤ es.length) (hi : ni ≤ is.length) (hm : m ≤ rs.length) (hm1 : m1 = min ni m) (hx : Rd R bx (ints .i64 tl)) (hl : Rd R bl (pairs es)) (hs : Rd R bi (ints .i64 is)) (hr : Rd R bq (ints .i64 rs)) (okt : SlOk bx nt) (okl : SlOk bl n) (oki : SlOk bi ni) (okr : SlOk bq m) (lt : nt ≤ 1000000) (li : ni ≤ 1000000) (hci : ni ≤ ci) (hT : Tab R) :
    Ok Tryz.prog 56 [(.pointer (some ⟨g, 0, none⟩)), (.slice bx nt cx), (.slice bl n cl), (.slice bi ni ci), (.slice bq m cr)] ((GraphO g N E) :: R)
      (fun v M => ∃ b1 d1 b2 d2, SlOk b1 (wantN n N E es tl is rs m1).1.length ∧ (wantN n N E es tl is rs m1).1.length ≤ d1 ∧ SlOk b2 (wantN n N E es tl is rs m1).2.length ∧ (wantN n N E es tl is rs m1).2.length ≤ d2 ∧ v = .tuple #[.slice b1 (wantN n N E es tl is rs m1).1.length d1, .slice b2 (wantN n N E es tl is rs m1).2.length d2] ∧ M = SlV 110 2 (.slice b1 (wantN n N E es tl is rs m1).1.length d1) (wantN n N E es tl is rs m1).1.length (pairs (wantN n N E es tl is rs m1).1) :: SlV 3 1 (.slice b2 (wantN n N E es tl is rs m1).2.length d2) (wantN n N E es tl is rs m1).2.length (ints .i64 (wantN n N E es tl is rs m1).2) :: GraphO g N E :: R) := by
 refine ok_of (N := 55) Tryz.func56 rfl rfl rfl (fun W => ?_)
 refine c_seq (fun K1 hK1 => c_region ?_)
 refine tm rfl (mv_box rfl rfl) ?_
 rintro _ _ ⟨b1, rfl, rfl⟩
 refine tm rfl (mv_box rfl rfl) ?_
 rintro _ _ ⟨b2, rfl, rfl⟩
 refine tm rfl (mv_box rfl rfl) ?_
 rintro _ _ ⟨b3, rfl, rfl⟩
 refine tp rfl (lv_assign rfl) (tp rfl (lv_assign rfl) (t_done (q_then_n (hK1 _ _ (c_seq (fun K2 hK2 => c_seq (fun K3 hK3 => c_region (tp rfl (lv_move rfl) (tp rfl (lv_move rfl) (tp rfl (lv_len Tryz.underlying34 rfl rfl) ?_))))))))))
 refine tp rfl (lv_load Tryz.isAgg34 rfl (gives_blk (.head _) rfl)) (tp rfl (lv_len Tryz.underlying34 rfl rfl) (tp rfl (lv_min (c := ((m1 : Nat) : Int)) rfl rfl (by omega)) ?_))
 refine tp rfl (lv_slice (l := 0) (h := m1) (m := ci) (v := (.slice bi m1 ci)) Tryz.underlying34 Tryz.sizeOf3 rfl rfl rfl rfl (.inr ⟨rfl, rfl⟩) (.inl ⟨_, _, rfl, (by omega), (by omega), (by omega)⟩) (.inr ⟨rfl, rfl⟩) (by simp) (by rw [sbase_zero]; rfl)) ?_
 refine tp rfl (lv_len Tryz.underlying34 rfl rfl) (tp rfl (lv_move rfl) (t_done (q_then_n (hK3 _ _ (c_block ?_)))))
 refine t_sat (fun _ h => sat_nilsl 3 1 h) ?_
 refine t_sat (fun _ h => sat_nilsl 110 2 h) ?_
 refine c_loop (γ := (Nat) × (List (Int × Int)) × (List Int) × (Option Addr) × (Nat) × (Option Addr) × (Nat)) (fun (k, ps, qs, bv, d1, bw, d2) => k ≤ m1 ∧ wantN n N E es tl is rs k = (ps, qs) ∧ SlOk bv ps.length ∧ ps.length ≤ d1 ∧ SlOk bw qs.length ∧ qs.length ≤ d2) (fun (k, ps, qs, bv, d1, bw, d2) => [(0, (vP g 0)), (1, (.slice bx nt cx)), (2, (.slice bl n cl)), (3, (.slice bi ni ci)), (4, (.slice bq m cr)), (5, (vP b1 0)), (7, (vP b2 0)), (9, (vP b3 0)), (10, (.slice bv ps.length d1)), (11, (.slice bw qs.length d2)), (22, (.slice bi m1 ci)), (23, (vN m1)), (24, (vN k))]) (fun (k, ps, qs, bv, d1, bw, d2) => (SlV 110 2 (.slice bv ps.length d1) ps.length (pairs ps)) :: (SlV 3 1 (.slice bw qs.length d2) qs.length (ints .i64 qs)) :: (Blk b3 [(.slice bq m cr)] 34) :: (Blk b2 [(.slice bl n cl)] 24) :: (Blk b1 [(vP g 0)] 67) :: (GraphO g N E) :: R) (fun (k, ps, qs, bv, d1, bw, d2) => m1 - k) (0, [], [], none, 0, none, 0) ⟨by omega, rfl, slok_none, Nat.le_refl _, slok_none, Nat.le_refl _⟩ ⟨rfl, rfl, rfl, rfl, rfl, rfl, rfl, rfl, rfl, rfl, rfl, rfl, rfl, trivial⟩ (fun _ h => h) ?_
 rintro ⟨k, ps, qs, bv, d1, bw, d2⟩ K4 hF hK4
 try dsimp only at hF hK4 ⊢
 obtain ⟨hk, hb, hok1, hle1, hok2, hle2⟩ := hF
 have hwl := wantN_len n N E es tl is rs k
 rw [hb] at hwl
 dsimp only at hwl
 have hjb := wantJ_lt n N E tl (rs.getD k 0)
 refine c_seq (fun K5 hK5 => c_region ?_)
 by_cases h4 : ((k : Nat) : Int) < ((m1 : Nat) : Int)
 · refine tp rfl (lv_lss rfl rfl (decide_eq_true h4)) (t_done (q_then_n (hK5 _ _ (c_seq (fun K6 hK6 => c_true rfl (c_skip (q_then_n (hK6 _ _ (c_seq (fun K7 hK7 => c_block (c_seq (fun K8 hK8 => ?_))))))))))))
   refine c_region (tp rfl (lv_move rfl) (tp rfl (lv_indexAddr (k' := k) Tryz.underlying34 Tryz.sizeOf3 rfl rfl (fun hz => oki (by omega)) (by omega) (by omega) (by omega)) ?_))
   refine tp rfl (lv_load Tryz.isAgg3 rfl (Rd.gives (Rd.cons (Rd.cons (Rd.cons (Rd.cons (Rd.cons (Rd.cons hs)))))) (ints_get (by first | omega | (simp; omega))))) ?_
   refine tm rfl (mv_alloc Tryz.zeroValue3 rfl) ?_
   rintro _ _ ⟨b5, rfl, rfl⟩
   refine ts (sv_blk Tryz.sizeOf3 rfl rfl rfl (Nat.le_of_ble_eq_true rfl) rfl) ?_
   refine tp rfl (lv_assign rfl) (t_done (q_then_n (hK8 _ _ (c_seq (fun K9 hK9 => c_region ?_)))))
   have hkm : k < m := by omega
   refine tp rfl (lv_move rfl) (tp rfl (lv_makeFunc rfl) (t_f6 ?_))
   refine tc rfl (en_fn Tryz.call100 rfl) (indexFunc_n (p := fun x => thB x n && reachB N E (rs.getD k 0) x) tl htn ⟨Tryz.call101, fun x _ => wants1_ok x rs hkm hm (Rd.cons (Rd.cons (Rd.cons (Rd.cons (Rd.cons (Rd.cons hr)))))) okr (gives_blk (.tail _ (.tail _ (.tail _ (.tail _ (.head _))))) rfl) (gives_blk (.tail _ (.tail _ (.tail _ (.tail _ (.tail _ (.head _)))))) rfl) (gives_blk (.tail _ (.tail _ (.tail _ (.head _)))) rfl) (gives_blk (.head _) rfl) (Tab.cons (Tab.cons (Tab.cons (Tab.cons (Tab.cons (Tab.cons hT))))))⟩ (Rd.cons (Rd.cons (Rd.cons (Rd.cons (Rd.cons (Rd.cons (Rd.cons hx))))))) okt (by omega)) ?_
   rintro _ _ ⟨rfl, rfl⟩
   rw [show idxF (fun x => thB x n && reachB N E (rs.getD k 0) x) tl = wantJ n N E tl (rs.getD k 0) from rfl]
   refine tp rfl (lv_assign rfl) (t_done (q_then_n (hK9 _ _ (c_seq (fun K10 hK10 => c_region (tp rfl (lv_move rfl) ?_))))))
   by_cases hj : (wantJ n N E tl (rs.getD k 0)) ≥ 0
   · refine tp rfl (lv_geq rfl rfl (decide_eq_true hj)) (t_done (q_then_n (hK10 _ _ (c_true rfl (c_seq (fun K11 hK11 => c_region (tp rfl (lv_move rfl) (tp rfl (lv_move rfl) (tp rfl (lv_indexAddr (k' := (wantJ n N E tl (rs.getD k 0)).toNat) Tryz.underlying34 Tryz.sizeOf3 rfl rfl okt (by omega) (by omega) (by omega)) ?_)))))))))
     refine tp rfl (lv_load Tryz.isAgg3 rfl (Rd.gives (Rd.cons (Rd.cons (Rd.cons (Rd.cons (Rd.cons (Rd.cons (Rd.cons hx))))))) (ints_get (by first | omega | (simp; omega))))) ?_
     refine tp rfl (lv_assign rfl) (t_done (q_then_n (hK11 _ _ (c_region ?_))))
     have hth := thB_t (wantJ_th hj)
     refine tp rfl (lv_move rfl) (tp rfl (lv_move rfl) (tp rfl (lv_load Tryz.isAgg24 rfl (gives_blk (.tail _ (.tail _ (.tail _ (.tail _ (.tail _ (.head _)))))) rfl)) (tp rfl (lv_move rfl) (tp rfl (lv_indexAddr (k' := (((tl).getD ((wantJ n N E tl (rs.getD k 0)).toNat) 0).toNat) * 2) Tryz.underlying24 Tryz.sizeOf57 rfl rfl okl (by omega) (by omega) (by omega)) ?_))))
     refine tp rfl (lv_fieldAddr_ad (o' := (((tl).getD ((wantJ n N E tl (rs.getD k 0)).toNat) 0).toNat) * 2 + 1) Tryz.underlying57 rfl Tryz.sizeOf3 rfl rfl) (tp rfl (lv_load Tryz.isAgg3 rfl (Rd.gives (Rd.cons (Rd.cons (Rd.cons (Rd.cons (Rd.cons (Rd.cons (Rd.cons hl))))))) (pairs_get1 (by first | omega | (simp; omega))))) ?_)
     refine tp rfl (lv_build (cs := [(.int .i64 ((is).getD k 0)), (.int .i64 (((es).getD (((tl).getD ((wantJ n N E tl (rs.getD k 0)).toNat) 0).toNat) (0, 0)).2))]) (pl := [(0, 1), (1, 1)]) Tryz.underlying110 Tryz.zeroValue110 (fun _ => by simp) rfl rfl) ?_
     refine tm rfl (mv_buildSlice (cs := [(.int .i64 ((is).getD k 0)), (.int .i64 (((es).getD (((tl).getD ((wantJ n N E tl (rs.getD k 0)).toNat) 0).toNat) (0, 0)).2))]) Tryz.underlying103 Tryz.sizeOf110 Tryz.zeroValue110 (by decide) rfl rfl rfl rfl) ?_
     rintro _ _ ⟨bs6, cp7, hok8, hle9, rfl, rfl⟩
     refine t_f3 ?_
     refine tm rfl (mv_append (i := Tryz.t110) Tryz.underlying103 Tryz.type110 rfl rfl rfl (by decide) rfl rfl hok8 (by first | (simp; done) | (simp; omega)) (rd_sl (.tail _ (.head _))) (by simp [Value.oneCell']) (by rw [show Tryz.t110.bytes = 16 from rfl]; omega)) ?_
     rintro _ _ ⟨bs10, cp11, hok12, hle13, rfl, rfl⟩
     rw [show pairs ps ++ [(.int .i64 ((is).getD k 0)), (.int .i64 (((es).getD (((tl).getD ((wantJ n N E tl (rs.getD k 0)).toNat) 0).toNat) (0, 0)).2))] = pairs (ps ++ [((is).getD k 0, ((es).getD (((tl).getD ((wantJ n N E tl (rs.getD k 0)).toNat) 0).toNat) (0, 0)).2)]) from pairs_snoc _ _ _]
     rw [show ps.length + 1 = (ps ++ [(is.getD k 0, (es.getD (tl.getD (wantJ n N E tl (rs.getD k 0)).toNat 0).toNat (0, 0)).2)]).length from by simp] at hok12 hle13 ⊢
     refine tp rfl (lv_move rfl) (tp rfl (lv_move rfl) ?_)
     refine tm rfl (mv_buildSlice (cs := [(.int .i64 ((tl).getD ((wantJ n N E tl (rs.getD k 0)).toNat) 0))]) Tryz.underlying34 Tryz.sizeOf3 Tryz.zeroValue3 (by decide) rfl rfl rfl rfl) ?_
     rintro _ _ ⟨bs14, cp15, hok16, hle17, rfl, rfl⟩
     refine t_f5 ?_
     refine tm rfl (mv_append (i := Tryz.t3) Tryz.underlying34 Tryz.type3 rfl rfl rfl (by decide) rfl rfl hok16 (by first | (simp; done) | (simp; omega)) (rd_sl (.tail _ (.head _))) (by simp [Value.oneCell']) (by rw [show Tryz.t3.bytes = 8 from rfl]; omega)) ?_
     rintro _ _ ⟨bs18, cp19, hok20, hle21, rfl, rfl⟩
     rw [show ints .i64 qs ++ [(.int .i64 ((tl).getD ((wantJ n N E tl (rs.getD k 0)).toNat) 0))] = ints .i64 (qs ++ [(tl).getD ((wantJ n N E tl (rs.getD k 0)).toNat) 0]) from ints_snoc _ _ _]
     rw [show qs.length + 1 = (qs ++ [tl.getD (wantJ n N E tl (rs.getD k 0)).toNat 0]).length from by simp] at hok20 hle21 ⊢
     refine tp rfl (lv_assign rfl) (tp rfl (lv_assign rfl) (t_done (q_in_n (q_then_n (hK7 _ _ (c_region (tp rfl (lv_add (c := ((k + 1 : Nat) : Int)) rfl rfl (wr_i64_succ (by omega))) ?_)))))))
     refine tp rfl (lv_move rfl) (t_done (q_then_n (t_f1 (t_drop (t_f2 (t_drop (t_f3 (t_drop (t_f2 ?_)))))))))
     refine t_f5 (t_f5 (t_f5 (t_f4 (t_f5 ?_))))
     exact t_weak (by exact ⟨rfl, rfl, rfl, rfl, rfl, rfl, rfl, rfl, rfl, rfl, rfl, rfl, rfl, trivial⟩) ((hK4 (k + 1, ps ++ [((is).getD k 0, ((es).getD (((tl).getD ((wantJ n N E tl (rs.getD k 0)).toNat) 0).toNat) (0, 0)).2)], qs ++ [(tl).getD ((wantJ n N E tl (rs.getD k 0)).toNat) 0], bs10, cp11, bs18, cp19) ⟨by omega, want_add hb hj, hok12, hle13, hok20, hle21⟩ (by omega)))
   · refine tp rfl (lv_geq rfl rfl (decide_eq_false hj)) (t_done (q_then_n (hK10 _ _ (c_false rfl (c_skip (q_in_n (q_then_n (hK7 _ _ (c_region (tp rfl (lv_add (c := ((k + 1 : Nat) : Int)) rfl rfl (wr_i64_succ (by omega))) ?_))))))))))
     refine tp rfl (lv_move rfl) (t_done (q_then_n (t_f1 (t_drop (t_f5 (t_f5 (t_f5 (t_f5 (t_f5 ?_)))))))))
     exact t_weak (by exact ⟨rfl, rfl, rfl, rfl, rfl, rfl, rfl, rfl, rfl, rfl, rfl, rfl, rfl, trivial⟩) ((hK4 (k + 1, ps, qs, bv, d1, bw, d2) ⟨by omega, want_no hb hj, hok1, hle1, hok2, hle2⟩ (by omega)))
 · refine tp rfl (lv_lss rfl rfl (decide_eq_false h4)) (t_done (q_then_n (hK5 _ _ (c_seq (fun K6 hK6 => c_false rfl (c_exit (q_then_x (q_then_x (q_in_x (q_then_n (hK2 _ _ ?_)))))))))))
   refine c_seq (fun K7 hK7 => c_region (tp rfl (lv_move rfl) (tp rfl (lv_move rfl) (tp rfl (lv_assign rfl) (tp rfl (lv_assign rfl) (t_done (q_then_n (hK7 _ _ (c_ret (t_f2 ?_))))))))))
   refine t_drop (t_f2 (t_drop (t_f2 (t_drop ?_))))
   refine q_ret2 rfl rfl rfl ?_
   have e : k = m1 := by omega
   subst e
   rw [hb]
   exact ⟨bv, d1, bw, d2, hok1, hle1, hok2, hle2, rfl, rfl⟩
end Go.Proofs.YtanfdikglplkaaaGreatDoor
set_option maxRecDepth 100000
namespace Go.Proofs.YtanfdikglplkaaaGreatDoor
open Go Go.Proofs Sp
set_option maxHeartbeats 4000000 in
theorem mul64_ok {R : List HP} (N : Nat) (hN : N ≤ 64) :
    Ok Tryz.prog 164 [(.int .u64 1), (.int .u64 ((N : Nat) : Int))] R
      (fun v M => v = .tuple #[.int .u64 0, .int .u64 ((N : Nat) : Int)] ∧ M = R) := by
 refine ok_of (N := 51) Tryz.func164 rfl rfl rfl (fun W => ?_)
 refine c_seq (fun K1 hK1 => c_region (tp rfl (lv_assign rfl) (tp rfl (lv_assign rfl) (t_done (q_then_n (hK1 _ _ (c_seq (fun K2 hK2 => c_region (tp rfl (lv_move rfl) (tp rfl (lv_and (c := 1) rfl rfl rfl) ?_))))))))))
 refine tp rfl (lv_assign rfl) (t_done (q_then_n (hK2 _ _ (c_seq (fun K3 hK3 => c_region (tp rfl (lv_move rfl) (tp rfl (lv_shr (c := 0) rfl rfl (by decide) rfl) ?_)))))))
 refine tp rfl (lv_assign rfl) (t_done (q_then_n (hK3 _ _ (c_seq (fun K4 hK4 => c_region (tp rfl (lv_move rfl) (tp rfl (lv_and (c := ((N : Nat) : Int)) rfl rfl (and_lo N (by omega))) ?_)))))))
 refine tp rfl (lv_assign rfl) (t_done (q_then_n (hK4 _ _ (c_seq (fun K5 hK5 => c_region (tp rfl (lv_move rfl) (tp rfl (lv_shr (c := 0) rfl rfl (by decide) (shr_lo N (by omega))) ?_)))))))
 refine tp rfl (lv_assign rfl) (t_done (q_then_n (hK5 _ _ (c_seq (fun K6 hK6 => c_region (tp rfl (lv_move rfl) (tp rfl (lv_move rfl) (tp rfl (lv_mul (c := ((N : Nat) : Int)) rfl rfl (by rw [Int.one_mul]; exact wr_u64 (by omega) (by omega))) ?_))))))))
 refine tp rfl (lv_assign rfl) (t_done (q_then_n (hK6 _ _ (c_seq (fun K7 hK7 => c_region (tp rfl (lv_move rfl) (tp rfl (lv_move rfl) (tp rfl (lv_mul (c := 0) rfl rfl (by rw [Int.zero_mul]; decide)) ?_))))))))
 refine tp rfl (lv_move rfl) (tp rfl (lv_shr (c := 0) rfl rfl (by decide) (shr_lo N (by omega))) ?_)
 refine tp rfl (lv_add (c := 0) rfl rfl (by decide)) ?_
 refine tp rfl (lv_assign rfl) (t_done (q_then_n (hK7 _ _ (c_seq (fun K8 hK8 => c_region (tp rfl (lv_move rfl) (tp rfl (lv_and (c := 0) rfl rfl rfl) (tp rfl (lv_assign rfl) (t_done (q_then_n (hK8 _ _ ?_)))))))))))
 refine c_seq (fun K9 hK9 => c_region (tp rfl (lv_move rfl) (tp rfl (lv_shr (c := 0) rfl rfl (by decide) rfl) ?_)))
 refine tp rfl (lv_assign rfl) (t_done (q_then_n (hK9 _ _ (c_seq (fun K10 hK10 => c_region (tp rfl (lv_move rfl) (tp rfl (lv_move rfl) (tp rfl (lv_move rfl) (tp rfl (lv_mul (c := 0) rfl rfl (by decide)) ?_)))))))))
 refine tp rfl (lv_add (c := 0) rfl rfl (by decide)) ?_
 refine tp rfl (lv_assign rfl) (t_done (q_then_n (hK10 _ _ (c_seq (fun K11 hK11 => c_region (tp rfl (lv_move rfl) (tp rfl (lv_move rfl) (tp rfl (lv_mul (c := 0) rfl rfl (by decide)) ?_))))))))
 refine tp rfl (lv_move rfl) (tp rfl (lv_add (c := 0) rfl rfl (by decide)) ?_)
 refine tp rfl (lv_move rfl) (tp rfl (lv_shr (c := 0) rfl rfl (by decide) rfl) ?_)
 refine tp rfl (lv_add (c := 0) rfl rfl (by decide)) ?_
 refine tp rfl (lv_assign rfl) (t_done (q_then_n (hK11 _ _ (c_seq (fun K12 hK12 => c_region (tp rfl (lv_move rfl) (tp rfl (lv_move rfl) (tp rfl (lv_mul (c := ((N : Nat) : Int)) rfl rfl (by rw [Int.one_mul]; exact wr_u64 (by omega) (by omega))) ?_))))))))
 refine tp rfl (lv_assign rfl) (t_done (q_then_n (hK12 _ _ (c_ret ?_))))
 refine q_ret2 rfl rfl rfl ?_
 exact ⟨rfl, rfl⟩
theorem mul_ok {R : List HP} (N : Nat) (hN : N ≤ 64) :
    Ok Tryz.prog 133 [(.int .u64 1), (.int .u64 ((N : Nat) : Int))] R
      (fun v M => v = .tuple #[.int .u64 0, .int .u64 ((N : Nat) : Int)] ∧ M = R) := by
 refine ok_of (N := 30) Tryz.func133 rfl rfl rfl (fun W => ?_)
 refine c_seq (fun K1 hK1 => c_region (tp rfl (lv_assign rfl) (tp rfl (lv_assign rfl) (t_done (q_then_n (hK1 _ _ (c_seq (fun K2 hK2 => c_false rfl (c_skip (q_then_n (hK2 _ _ ?_)))))))))))
 refine c_seq (fun K3 hK3 => c_region (tp rfl (lv_move rfl) (tp rfl (lv_move rfl) ?_)))
 refine tc rfl (en_fn Tryz.call164 rfl) (mul64_ok N (by omega)) ?_
 rintro _ _ ⟨rfl, hMR⟩
 rw [hMR]; clear hMR
 refine tp rfl (lv_move rfl) (tp rfl (lv_extract rfl rfl) (tp rfl (lv_extract rfl rfl) (tp rfl (lv_assign rfl) (tp rfl (lv_assign rfl) (t_done (q_then_n (hK3 _ _ (c_seq (fun K4 hK4 => c_region (tp rfl (lv_move rfl) ?_))))))))))
 refine tp rfl (lv_move rfl) (tp rfl (lv_assign rfl) (tp rfl (lv_assign rfl) (t_done (q_then_n (hK4 _ _ (c_ret ?_))))))
 refine q_ret2 rfl rfl rfl ?_
 exact ⟨rfl, rfl⟩
set_option maxHeartbeats 4000000 in
theorem repeat_p {R : List HP} {bx : Option Addr} {cx : Nat} (a : Int) (N : Nat) (hN : N ≤ 64) (h0 : 0 < N) (hx : Rd R bx (ints .i64 [a])) (okx : SlOk bx 1) :
    Ok Tryz.prog 91 [(.slice bx 1 cx), (.int .i64 ((N : Nat) : Int))] R
      (OutSl 3 1 N (ints .i64 (List.replicate N a)) R) := by
 refine ok_of (N := 48) Tryz.func91 rfl rfl rfl (fun W => ?_)
 refine c_seq (fun K1 hK1 => c_region (tp rfl (lv_assign rfl) (t_done (q_then_n (hK1 _ _ (c_seq (fun K2 hK2 => c_seq (fun K3 hK3 => c_region (tp rfl (lv_move rfl) (tp rfl (lv_lss rfl rfl (decide_eq_false (by omega))) ?_))))))))))
 refine t_done (q_then_n (hK3 _ _ (c_false rfl (c_skip (q_then_n (hK2 _ _ (c_seq (fun K4 hK4 => c_region (tp rfl (lv_move rfl) (tp rfl (lv_len Tryz.underlying34 rfl rfl) (tp rfl (lv_convert (c := 1) Tryz.underlying3 Tryz.underlying182 rfl (by decide)) ?_)))))))))))
 refine tp rfl (lv_move rfl) (tp rfl (lv_convert (c := ((N : Nat) : Int)) Tryz.underlying3 Tryz.underlying182 rfl (wr_u64 (by omega) (by omega))) ?_)
 refine tc rfl (en_fn Tryz.call133 rfl) (mul_ok N (by omega)) ?_
 rintro _ _ ⟨rfl, hMR⟩
 rw [hMR]; clear hMR
 refine tp rfl (lv_move rfl) (tp rfl (lv_extract rfl rfl) (tp rfl (lv_extract rfl rfl) (tp rfl (lv_assign rfl) (tp rfl (lv_assign rfl) (t_done (q_then_n (hK4 _ _ (c_seq (fun K5 hK5 => c_seq (fun K6 hK6 => c_region ?_))))))))))
 refine tp rfl (lv_move rfl) (tp rfl (lv_gtr (r := false) rfl rfl (by decide)) ?_)
 refine tp rfl (lv_move rfl) ?_
 refine t_guard rfl rfl ?_
 refine tp rfl (lv_move rfl) ?_
 refine t_guard rfl rfl ?_
 refine tp rfl (lv_gtr rfl rfl (decide_eq_false (by omega))) ?_
 refine tp rfl (lv_pick_f rfl rfl) (t_done (q_then_n (hK6 _ _ (c_false rfl (c_skip (q_then_n (hK5 _ _ (c_seq (fun K7 hK7 => c_region (tp rfl (lv_move rfl) (tp rfl (lv_convert (c := ((N : Nat) : Int)) Tryz.underlying182 Tryz.underlying3 rfl (wr_i64 (by omega) (by omega))) ?_)))))))))))
 refine tm rfl (mv_makeSlice (i := Tryz.t3) Tryz.underlying34 Tryz.type3 rfl rfl rfl rfl rfl (by omega) (by rw [show Tryz.t3.bytes = 8 from rfl]; omega) (by omega)) ?_
 rintro _ _ ⟨bs1, cp2, hok3, hle4, rfl, rfl⟩
 rw [ints_rep]
 refine tp rfl (lv_assign rfl) (t_done (q_then_n (hK7 _ _ (c_seq (fun K8 hK8 => c_region (tp rfl (lv_move rfl) (tp rfl (lv_move rfl) ?_)))))))
 refine tm rfl (mv_copy (i := Tryz.t3) (l := 0) (c := cp2) (q := 1) (news := (ints .i64 [a])) Tryz.underlying34 Tryz.type3 rfl (by rw [sbase_zero]; rfl) rfl (by omega) (by omega) (by omega) (by omega) (fun _ => okx (by first | omega | (simp; omega))) rfl (Rd.cons hx) ints_one (ints_splice.trans (congrArg (ints .i64) (repX_one a N)))) ?_
 rintro _ _ ⟨rfl, rfl⟩
 refine tp rfl (lv_assign rfl) (t_done (q_then_n (hK8 _ _ (c_seq (fun K9 hK9 => c_block ?_)))))
 refine c_loop (γ := (Nat)) (fun (n : Nat) => 1 ≤ n ∧ n ≤ N) (fun (n : Nat) => [(0, (.slice bx 1 cx)), (1, (vN N)), (4, (.slice none 0 0)), (5, (.int .u64 0)), (6, (.int .u64 ((N : Nat) : Int))), (7, (.slice bs1 N cp2)), (8, (vN n)), (10, (.bool false)), (26, (.bool false))]) (fun (n : Nat) => (SlV 3 1 (.slice bs1 N cp2) N (ints .i64 (repX a n N))) :: R) (fun (n : Nat) => N - n) (1) ⟨by omega, by omega⟩ ⟨rfl, rfl, rfl, rfl, rfl, rfl, rfl, rfl, rfl, trivial⟩ (fun _ h => h) ?_
 rintro n K10 hF hK10
 try dsimp only at hF hK10 ⊢
 obtain ⟨h1n, hnN⟩ := hF
 have hrl := repX_len (a := a) hnN
 refine c_seq (fun K11 hK11 => c_seq (fun K12 hK12 => c_region (tp rfl (lv_move rfl) (tp rfl (lv_move rfl) (tp rfl (lv_len Tryz.underlying34 rfl rfl) ?_)))))
 by_cases h5 : ((n : Nat) : Int) < ((N : Nat) : Int)
 · refine tp rfl (lv_lss rfl rfl (decide_eq_true h5)) (t_done (q_then_n (hK12 _ _ (c_true rfl (c_skip (q_then_n (hK11 _ _ (c_block ?_))))))))
   refine c_draw (γ := Unit) (n := 10) Tryz.mixed rfl rfl (fun _ S => True) (fun _ => [(0, 38, (vN n)), (1, 39, (.slice bs1 N cp2)), (2, 40, (vN n)), (3, 41, (.slice (sbase bs1 n cp2 1) (N - n) (cp2 - n))), (4, 42, (.slice bs1 N cp2)), (5, 43, (vN n)), (6, 44, (.slice bs1 n cp2)), (7, 45, (.int .i64 ((min n (N - n) : Nat) : Int))), (8, 46, (.int .i64 ((n + min n (N - n) : Nat) : Int))), (9, 8, (.int .i64 ((n + min n (N - n) : Nat) : Int)))]) (fun _ S => (bif S 7 then (SlV 3 1 (.slice bs1 N cp2) N (ints .i64 (repX a (n + min n (N - n)) N))) else (SlV 3 1 (.slice bs1 N cp2) N (ints .i64 (repX a n N)))) :: R) (()) trivial (fun _ h => h) (fun _ _ h => h) ?_ ?_
   · refine ⟨?_, ?_, ?_, ?_, ?_, ?_, ?_, ?_, ?_, ?_, trivial⟩
     · intro _ S h s D p K k; exact d_lv1 (look_b1 (t := 8) 9 (nf s D (k := 9) (i := 0) rfl) rfl rfl) (lv_move rfl) 0 rfl rfl s (k () h)
     · intro _ S h s D p K k; exact d_lv1 (look_b (t := 7) rfl rfl) (lv_move rfl) 1 rfl rfl s (k () h)
     · intro _ S h s D p K k; exact d_lv1 (look_b1 (t := 8) 9 (nf s D (k := 9) (i := 2) rfl) rfl rfl) (lv_move rfl) 2 rfl rfl s (k () h)
     · rintro _ S hF hS D hp K hK; try dsimp only
       exact d_lv2 (lkr hp 1 rfl rfl) (lkr hp 2 rfl rfl) (lv_slice (l := n) (h := N) (m := cp2) (v := (.slice (sbase bs1 n cp2 1) (N - n) (cp2 - n))) Tryz.underlying34 Tryz.sizeOf3 rfl rfl rfl rfl (.inr ⟨rfl, rfl⟩) (.inr ⟨rfl, rfl⟩) (.inl ⟨_, _, rfl, (by omega), (by omega), (by omega)⟩) (by simp) rfl) 3 rfl rfl hS (hK () hF)
     · intro _ S h s D p K k; exact d_lv1 (look_b (t := 7) rfl rfl) (lv_move rfl) 4 rfl rfl s (k () h)
     · intro _ S h s D p K k; exact d_lv1 (look_b1 (t := 8) 9 (nf s D (k := 9) (i := 5) rfl) rfl rfl) (lv_move rfl) 5 rfl rfl s (k () h)
     · rintro _ S hF hS D hp K hK; try dsimp only
       exact d_lv2 (lkr hp 4 rfl rfl) (lkr hp 5 rfl rfl) (lv_slice (l := 0) (h := n) (m := cp2) (v := (.slice bs1 n cp2)) Tryz.underlying34 Tryz.sizeOf3 rfl rfl rfl rfl (.inr ⟨rfl, rfl⟩) (.inl ⟨_, _, rfl, (by omega), (by omega), (by omega)⟩) (.inr ⟨rfl, rfl⟩) (by simp) (by rw [sbase_zero]; rfl)) 6 rfl rfl hS (hK () hF)
     · rintro _ S hF hS D hp K hK
       try dsimp only at hF ⊢
       have s3 := hp 3 rfl
       have s6 := hp 6 rfl
       refine d_need (small := [(41, (.slice (sbase bs1 n cp2 1) (N - n) (cp2 - n))), (44, (.slice bs1 n cp2))]) ⟨look_row rfl 3 rfl s3, look_row rfl 6 rfl s6, trivial⟩ ?_
       refine t_cF hS ?_
       refine tm rfl (mv_copy (i := Tryz.t3) (l := n) (c := cp2) (q := min n (N - n)) (news := (ints .i64 (((repX a n N).take n).take (min n (N - n))))) Tryz.underlying34 Tryz.type3 rfl rfl rfl rfl (by omega) (by omega) (by omega) (fun _ => hok3 (by first | omega | (simp; omega))) (by simp; omega) (rd_tk_ints (min n (N - n)) (rd_tk_ints n (rd_sl (.head _)))) ints_one (ints_splice.trans (congrArg (ints .i64) (repX_copy (by omega) (by omega))))) ?_
       rintro _ _ ⟨rfl, rfl⟩
       exact d_closes ⟨look_row rfl 3 rfl s3, look_row rfl 6 rfl s6, trivial⟩ 7 rfl rfl rfl hS (AgreeR.refl _) (t_sat (fun _ h => h) (hK () trivial))
     · intro _ S h s D p K k; exact d_lv2 (lkr p 0 rfl rfl) (lkr p 7 rfl rfl) (lv_add (c := ((n + min n (N - n) : Nat) : Int)) rfl rfl ((wr_i64 (by omega) (by omega)).trans (by omega))) 8 rfl rfl s (k () h)
     · intro _ S h s D p K k; exact d_lv1 (lkr p 8 rfl rfl) (lv_assign rfl) 9 rfl rfl s (k () h)
   · rintro _ hF
     try dsimp only at hF ⊢
     refine t_weak (E' := [(0, (.slice bx 1 cx)), (1, (vN N)), (4, (.slice none 0 0)), (5, (.int .u64 0)), (6, (.int .u64 ((N : Nat) : Int))), (7, (.slice bs1 N cp2)), (8, (.int .i64 ((n + min n (N - n) : Nat) : Int))), (10, (.bool false)), (26, (.bool false)), (37, (.bool true))]) ⟨rfl, rfl, rfl, rfl, rfl, rfl, rfl, rfl, rfl, rfl, trivial⟩ ?_
     refine q_in_n (q_then_n ?_)
     exact t_weak (by exact ⟨rfl, rfl, rfl, rfl, rfl, rfl, rfl, rfl, rfl, trivial⟩) ((hK10 (n + min n (N - n)) ⟨by omega, by omega⟩ (by omega)))
 · refine tp rfl (lv_lss rfl rfl (decide_eq_false h5)) (t_done (q_then_n (hK12 _ _ (c_false rfl (c_exit (q_then_x (q_then_x (q_in_x (q_then_n (hK9 _ _ (c_seq (fun K13 hK13 => ?_))))))))))))
   refine c_region (tp rfl (lv_move rfl) (tp rfl (lv_assign rfl) (t_done (q_then_n (hK13 _ _ (c_ret ?_))))))
   refine q_ret rfl rfl ?_
   have e : n = N := by omega
   subst e
   rw [repX_end]
   exact ⟨_, _, hok3, hle4, rfl, rfl⟩
set_option maxHeartbeats 4000000 in
theorem repeat_0 {R : List HP} {bx : Option Addr} {cx : Nat} (a : Int) (N : Nat) (hN : N ≤ 64) (h0 : N = 0) (hx : Rd R bx (ints .i64 [a])) (okx : SlOk bx 1) :
    Ok Tryz.prog 91 [(.slice bx 1 cx), (.int .i64 ((N : Nat) : Int))] R
      (OutSl 3 1 N (ints .i64 (List.replicate N a)) R) := by
 refine ok_of (N := 48) Tryz.func91 rfl rfl rfl (fun W => ?_)
 refine c_seq (fun K1 hK1 => c_region (tp rfl (lv_assign rfl) (t_done (q_then_n (hK1 _ _ (c_seq (fun K2 hK2 => c_seq (fun K3 hK3 => c_region (tp rfl (lv_move rfl) (tp rfl (lv_lss rfl rfl (decide_eq_false (by omega))) ?_))))))))))
 refine t_done (q_then_n (hK3 _ _ (c_false rfl (c_skip (q_then_n (hK2 _ _ (c_seq (fun K4 hK4 => c_region (tp rfl (lv_move rfl) (tp rfl (lv_len Tryz.underlying34 rfl rfl) (tp rfl (lv_convert (c := 1) Tryz.underlying3 Tryz.underlying182 rfl (by decide)) ?_)))))))))))
 refine tp rfl (lv_move rfl) (tp rfl (lv_convert (c := ((N : Nat) : Int)) Tryz.underlying3 Tryz.underlying182 rfl (wr_u64 (by omega) (by omega))) ?_)
 refine tc rfl (en_fn Tryz.call133 rfl) (mul_ok N (by omega)) ?_
 rintro _ _ ⟨rfl, hMR⟩
 rw [hMR]; clear hMR
 refine tp rfl (lv_move rfl) (tp rfl (lv_extract rfl rfl) (tp rfl (lv_extract rfl rfl) (tp rfl (lv_assign rfl) (tp rfl (lv_assign rfl) (t_done (q_then_n (hK4 _ _ (c_seq (fun K5 hK5 => c_seq (fun K6 hK6 => c_region ?_))))))))))
 refine tp rfl (lv_move rfl) (tp rfl (lv_gtr (r := false) rfl rfl (by decide)) ?_)
 refine tp rfl (lv_move rfl) ?_
 refine t_guard rfl rfl ?_
 refine tp rfl (lv_move rfl) ?_
 refine t_guard rfl rfl ?_
 refine tp rfl (lv_gtr rfl rfl (decide_eq_false (by omega))) ?_
 refine tp rfl (lv_pick_f rfl rfl) (t_done (q_then_n (hK6 _ _ (c_false rfl (c_skip (q_then_n (hK5 _ _ (c_seq (fun K7 hK7 => c_region (tp rfl (lv_move rfl) (tp rfl (lv_convert (c := ((N : Nat) : Int)) Tryz.underlying182 Tryz.underlying3 rfl (wr_i64 (by omega) (by omega))) ?_)))))))))))
 refine tm rfl (mv_makeSlice (i := Tryz.t3) Tryz.underlying34 Tryz.type3 rfl rfl rfl rfl rfl (by omega) (by rw [show Tryz.t3.bytes = 8 from rfl]; omega) (by omega)) ?_
 rintro _ _ ⟨bs1, cp2, hok3, hle4, rfl, rfl⟩
 rw [ints_rep]
 refine tp rfl (lv_assign rfl) (t_done (q_then_n (hK7 _ _ (c_seq (fun K8 hK8 => c_region (tp rfl (lv_move rfl) (tp rfl (lv_move rfl) (tp rfl (lv_copy0 (i := Tryz.t3) Tryz.underlying34 Tryz.type3 rfl rfl (by omega)) ?_))))))))
 refine tp rfl (lv_assign rfl) (t_done (q_then_n (hK8 _ _ (c_seq (fun K9 hK9 => c_block ?_)))))
 refine c_loop (γ := Unit) (fun _ => True) (fun _ => [(0, (.slice bx 1 cx)), (1, (vN N)), (4, (.slice none 0 0)), (5, (.int .u64 0)), (6, (.int .u64 ((N : Nat) : Int))), (7, (.slice bs1 N cp2)), (8, (.int .i64 0)), (9, (vN N)), (10, (.bool false)), (12, (.tuple #[(.int .u64 0), (.int .u64 ((N : Nat) : Int))])), (13, (.slice bx 1 cx)), (14, (.int .i64 1)), (15, (.int .u64 1)), (16, (vN N)), (17, (.int .u64 ((N : Nat) : Int))), (18, (.tuple #[(.int .u64 0), (.int .u64 ((N : Nat) : Int))])), (19, (.int .u64 0)), (20, (.int .u64 ((N : Nat) : Int))), (21, (.int .u64 0)), (22, (.bool false)), (23, (.bool false)), (24, (.int .u64 ((N : Nat) : Int))), (25, (.bool false)), (26, (.bool false)), (28, (.int .u64 ((N : Nat) : Int))), (29, (vN N)), (30, (.slice bs1 N cp2)), (31, (.slice bs1 N cp2)), (32, (.slice bx 1 cx)), (33, (.int .i64 0))]) (fun _ => (SlV 3 1 (.slice bs1 N cp2) N (ints .i64 (List.replicate N 0))) :: R) (fun _ => 0) (()) trivial ⟨rfl, rfl, rfl, rfl, rfl, rfl, rfl, rfl, rfl, rfl, rfl, rfl, rfl, rfl, rfl, rfl, rfl, rfl, rfl, rfl, rfl, rfl, rfl, rfl, rfl, rfl, rfl, rfl, rfl, rfl, trivial⟩ (fun _ h => h) ?_
 rintro ⟨⟩ K10 hF hK10
 try dsimp only at hF hK10 ⊢
 refine c_seq (fun K11 hK11 => c_seq (fun K12 hK12 => c_region (tp rfl (lv_move rfl) (tp rfl (lv_move rfl) (tp rfl (lv_len Tryz.underlying34 rfl rfl) (tp rfl (lv_lss rfl rfl (decide_eq_false (by omega))) ?_))))))
 refine t_done (q_then_n (hK12 _ _ (c_false rfl (c_exit (q_then_x (q_then_x (q_in_x (q_then_n (hK9 _ _ (c_seq (fun K13 hK13 => c_region ?_)))))))))))
 refine tp rfl (lv_move rfl) (tp rfl (lv_assign rfl) (t_done (q_then_n (hK13 _ _ (c_ret ?_)))))
 refine q_ret rfl rfl ?_
 subst h0
 exact ⟨_, _, hok3, hle4, rfl, rfl⟩
theorem repeat_ok {R : List HP} {bx : Option Addr} {cx : Nat} (a : Int) (N : Nat) (hN : N ≤ 64) (hx : Rd R bx (ints .i64 [a])) (okx : SlOk bx 1) : Ok Tryz.prog 91 [.slice bx 1 cx, .int .i64 ((N : Nat) : Int)] R (OutSl 3 1 N (ints .i64 (List.replicate N a)) R) := by
  rcases Nat.eq_zero_or_pos N with h | h
  · exact repeat_0 a N hN h hx okx
  · exact repeat_p a N hN h hx okx
end Go.Proofs.YtanfdikglplkaaaGreatDoor
set_option maxRecDepth 100000
namespace Go.Proofs.YtanfdikglplkaaaGreatDoor
open Go Go.Proofs Sp
set_option maxHeartbeats 4000000 in
theorem of_ok {R : List HP} {g N nr cl : Nat} {E : Es} {bl : Option Addr} (rs : List R3) (hn : rs.length = nr) (hl : Rd R bl (recs triF rs)) (okl : SlOk bl nr) (lr : nr ≤ 1000000) (hT : Tab R) :
    Ok Tryz.prog 52 [(.pointer (some ⟨g, 0, none⟩)), (.slice bl nr cl)] ((GraphO g N E) :: R)
      (OutSl 3 1 N (ints .i64 (ofL N E rs)) (GraphO g N E :: R)) := by
 refine ok_of (N := 42) Tryz.func52 rfl rfl rfl (fun W => ?_)
 refine t_learn (fun _ h => gok_of h) (fun hgok => ?_)
 have hsmall := hgok.small
 refine c_seq (fun K1 hK1 => c_region (tp rfl (lv_assign rfl) (t_done (q_then_n (hK1 _ _ (c_seq (fun K2 hK2 => c_region ?_)))))))
 refine tm rfl (mv_buildSlice (cs := [(.int .i64 (-1))]) Tryz.underlying34 Tryz.sizeOf3 Tryz.zeroValue3 (by decide) rfl rfl rfl rfl) ?_
 rintro _ _ ⟨bs1, cp2, hok3, hle4, rfl, rfl⟩
 refine tp rfl (lv_move rfl) (t_f1 ?_)
 refine tc rfl (en_fn Tryz.call92 rfl) (n_ok) ?_
 rintro _ _ ⟨rfl, rfl⟩
 refine tc rfl (en_fn Tryz.call91 rfl) (repeat_ok (-1) N (by omega) (rd_sl (.tail _ (.head _))) (fun _ => (fun hz => hok3 (by first | exact hz | omega)) (by omega))) ?_
 rintro _ _ ⟨bs5, cp6, hok7, hle8, rfl, rfl⟩
 refine tp rfl (lv_assign rfl) (t_done (q_then_n (hK2 _ _ (c_seq (fun K3 hK3 => c_seq (fun K4 hK4 => c_region (tp rfl (lv_move rfl) (tp rfl (lv_len Tryz.underlying47 rfl rfl) (tp rfl (lv_move rfl) (t_done ?_))))))))))
 refine q_then_n (hK4 _ _ (c_block ?_))
 rw [show List.replicate N (-1) = ofL N E (rs.take 0) from by rw [List.take_zero, ofL_nil]]
 refine t_f2 (t_drop ?_)
 refine c_loop (γ := (Nat)) (fun (k : Nat) => k ≤ nr) (fun (k : Nat) => [(0, (vP g 0)), (1, (.slice bl nr cl)), (4, (.slice none 0 0)), (5, (.slice bs5 N cp6)), (14, (.slice bl nr cl)), (15, (vN nr)), (16, (vN k))]) (fun (k : Nat) => (SlV 3 1 (.slice bs5 N cp6) N (ints .i64 (ofL N E (rs.take k)))) :: (GraphO g N E) :: R) (fun (k : Nat) => nr - k) (0) (by omega) ⟨rfl, rfl, rfl, rfl, rfl, rfl, rfl, trivial⟩ (fun _ h => h) ?_
 rintro k K5 hF hK5
 try dsimp only at hF hK5 ⊢
 have hrl := reachL_le N E (rs.getD k R3.d).x
 refine c_seq (fun K6 hK6 => c_region ?_)
 by_cases h9 : ((k : Nat) : Int) < ((nr : Nat) : Int)
 · refine tp rfl (lv_lss rfl rfl (decide_eq_true h9)) (t_done (q_then_n (hK6 _ _ (c_seq (fun K7 hK7 => c_true rfl (c_skip (q_then_n (hK7 _ _ (c_seq (fun K8 hK8 => c_block (c_seq (fun K9 hK9 => ?_))))))))))))
   refine c_region (tp rfl (lv_indexAddr (k' := k * 3) Tryz.underlying47 Tryz.sizeOf51 rfl rfl okl (by omega) (by omega) (by omega)) ?_)
   refine tp rfl (lv_loadAgg_ad (cs := [(.int .i64 ((rs.getD k R3.d).x)), (.int .i64 ((rs.getD k R3.d).y)), (.int .i64 ((rs.getD k R3.d).z))]) Tryz.isAgg51 Tryz.sizeOf51 rfl (gives_all3 (Rd.gives (Rd.cons (Rd.cons hl)) ((recs_get (k := k) (j := 0) triF_len (d := R3.d) (by first | omega | (simp; omega)) (Nat.le_of_ble_eq_true rfl)).trans rfl)) (Rd.gives (Rd.cons (Rd.cons hl)) ((recs_get (k := k) (j := 1) triF_len (d := R3.d) (by first | omega | (simp; omega)) (Nat.le_of_ble_eq_true rfl)).trans rfl)) (Rd.gives (Rd.cons (Rd.cons hl)) ((recs_get (k := k) (j := 2) triF_len (d := R3.d) (by first | omega | (simp; omega)) (Nat.le_of_ble_eq_true rfl)).trans rfl)))) ?_
   refine tm rfl (mv_alloc Tryz.zeroValue51 rfl) ?_
   rintro _ _ ⟨b10, rfl, rfl⟩
   refine ts (sv_blkAgg (news := [(.int .i64 ((rs.getD k R3.d).x)), (.int .i64 ((rs.getD k R3.d).y)), (.int .i64 ((rs.getD k R3.d).z))]) Tryz.sizeOf51 rfl rfl rfl rfl (Nat.le_of_ble_eq_true rfl) rfl) ?_
   refine t_done (q_then_n (hK9 _ _ (c_seq (fun K10 hK10 => c_region (tp rfl (lv_move rfl) (tp rfl (lv_fieldAddr (o' := 0) Tryz.underlying51 rfl Tryz.sizeOf3 rfl rfl) (tp rfl (lv_load Tryz.isAgg3 rfl (gives_blk (.head _) rfl)) (t_f2 ?_))))))))
   refine tc rfl (en_fn Tryz.call93 rfl) (reach_ok (N := N) (es := E) ((rs.getD k R3.d).x) (Tab.cons (Tab.cons hT))) ?_
   rintro _ _ ⟨bs11, cp12, hok13, hle14, rfl, rfl⟩
   refine tp rfl (lv_len Tryz.underlying34 rfl rfl) (tp rfl (lv_move rfl) (t_done (q_then_n (hK10 _ _ (c_block ?_)))))
   refine c_loop (γ := (Nat)) (fun (j : Nat) => j ≤ (reachL N E (rs.getD k R3.d).x).length) (fun (j : Nat) => [(0, (vP g 0)), (1, (.slice bl nr cl)), (4, (.slice none 0 0)), (5, (.slice bs5 N cp6)), (7, (vP b10 0)), (14, (.slice bl nr cl)), (15, (vN nr)), (16, (vN k)), (17, (.bool true)), (23, (.slice bs11 ((reachL N E ((rs.getD k R3.d).x)).length) cp12)), (24, (.int .i64 (((reachL N E ((rs.getD k R3.d).x)).length : Nat) : Int))), (25, (vN j))]) (fun (j : Nat) => (SlV 3 1 (.slice bs11 ((reachL N E ((rs.getD k R3.d).x)).length) cp12) ((reachL N E ((rs.getD k R3.d).x)).length) (ints .i64 (reachL N E ((rs.getD k R3.d).x)))) :: (GraphO g N E) :: (Blk b10 [(.int .i64 ((rs.getD k R3.d).x)), (.int .i64 ((rs.getD k R3.d).y)), (.int .i64 ((rs.getD k R3.d).z))] 51) :: (SlV 3 1 (.slice bs5 N cp6) N (ints .i64 (innP ((reachL N E (rs.getD k R3.d).x).take j) (rs.getD k R3.d).z (ofL N E (rs.take k))))) :: R) (fun (j : Nat) => (reachL N E (rs.getD k R3.d).x).length - j) (0) (by omega) ⟨rfl, rfl, rfl, rfl, rfl, rfl, rfl, rfl, rfl, rfl, rfl, rfl, trivial⟩ (fun _ h => h) ?_
   rintro j K11 hF hK11
   try dsimp only at hF hK11 ⊢
   have hil : (innP ((reachL N E (rs.getD k R3.d).x).take j) (rs.getD k R3.d).z (ofL N E (rs.take k))).length = N := by rw [innP_len, ofL_len]
   refine c_seq (fun K12 hK12 => c_region ?_)
   by_cases h15 : ((j : Nat) : Int) < (((reachL N E ((rs.getD k R3.d).x)).length : Nat) : Int)
   · refine tp rfl (lv_lss rfl rfl (decide_eq_true h15)) (t_done (q_then_n (hK12 _ _ (c_seq (fun K13 hK13 => c_true rfl (c_skip (q_then_n (hK13 _ _ (c_seq (fun K14 hK14 => c_block (c_seq (fun K15 hK15 => ?_))))))))))))
     refine c_region (tp rfl (lv_indexAddr (k' := j) Tryz.underlying34 Tryz.sizeOf3 rfl rfl hok13 (by omega) (by omega) (by omega)) ?_)
     refine tp rfl (lv_load Tryz.isAgg3 rfl (gives_sl (.head _) (ints_get (by first | omega | (simp; omega))))) ?_
     refine tp rfl (lv_assign rfl) (t_done (q_then_n (hK15 _ _ ?_)))
     have hat := reachL_at (k := j) (show j < (reachL N E (rs.getD k R3.d).x).length by omega)
     refine c_draw (γ := Unit) (n := 11) Tryz.mixed rfl rfl (fun _ S => True) (fun _ => [(0, 29, (.slice bs5 N cp6)), (1, 30, (.int .i64 ((reachL N E ((rs.getD k R3.d).x)).getD j 0))), (2, 31, (.slice bs5 N cp6)), (3, 32, (.int .i64 ((reachL N E ((rs.getD k R3.d).x)).getD j 0))), (4, 33, (.pointer (some (ad bs5 (((reachL N E ((rs.getD k R3.d).x)).getD j 0).toNat))))), (5, 34, (.int .i64 ((innP ((reachL N E (rs.getD k R3.d).x).take j) (rs.getD k R3.d).z (ofL N E (rs.take k))).getD (((reachL N E ((rs.getD k R3.d).x)).getD j 0).toNat) 0))), (6, 35, (vP b10 2)), (7, 36, (.int .i64 ((rs.getD k R3.d).z))), (8, 37, (.int .i64 (max ((innP ((reachL N E (rs.getD k R3.d).x).take j) (rs.getD k R3.d).z (ofL N E (rs.take k))).getD (((reachL N E ((rs.getD k R3.d).x)).getD j 0).toNat) 0) ((rs.getD k R3.d).z)))), (9, 38, (.pointer (some (ad bs5 (((reachL N E ((rs.getD k R3.d).x)).getD j 0).toNat)))))]) (fun _ S => (SlV 3 1 (.slice bs11 ((reachL N E ((rs.getD k R3.d).x)).length) cp12) ((reachL N E ((rs.getD k R3.d).x)).length) (ints .i64 (reachL N E ((rs.getD k R3.d).x)))) :: (GraphO g N E) :: (Blk b10 [(.int .i64 ((rs.getD k R3.d).x)), (.int .i64 ((rs.getD k R3.d).y)), (.int .i64 ((rs.getD k R3.d).z))] 51) :: (bif S 10 then (SlV 3 1 (.slice bs5 N cp6) N (ints .i64 (((innP ((reachL N E (rs.getD k R3.d).x).take j) (rs.getD k R3.d).z (ofL N E (rs.take k)))).set (((reachL N E ((rs.getD k R3.d).x)).getD j 0).toNat) (max ((innP ((reachL N E (rs.getD k R3.d).x).take j) (rs.getD k R3.d).z (ofL N E (rs.take k))).getD (((reachL N E ((rs.getD k R3.d).x)).getD j 0).toNat) 0) ((rs.getD k R3.d).z))))) else (SlV 3 1 (.slice bs5 N cp6) N (ints .i64 (innP ((reachL N E (rs.getD k R3.d).x).take j) (rs.getD k R3.d).z (ofL N E (rs.take k)))))) :: R) (()) trivial (fun _ h => h) (fun _ _ h => h) ?_ ?_
     · refine ⟨?_, ?_, ?_, ?_, ?_, ?_, ?_, ?_, ?_, ?_, ?_, trivial⟩
       · intro _ S h s D p K k; exact d_lv1 (look_b (t := 5) rfl rfl) (lv_move rfl) 0 rfl rfl s (k () h)
       · intro _ S h s D p K k; exact d_lv1 (look_b (t := 9) rfl rfl) (lv_move rfl) 1 rfl rfl s (k () h)
       · intro _ S h s D p K k; exact d_lv1 (look_b (t := 5) rfl rfl) (lv_move rfl) 2 rfl rfl s (k () h)
       · intro _ S h s D p K k; exact d_lv1 (look_b (t := 9) rfl rfl) (lv_move rfl) 3 rfl rfl s (k () h)
       · rintro _ S hF hS D hp K hK; try dsimp only
         exact d_lv2 (lkr hp 2 rfl rfl) (lkr hp 3 rfl rfl) (lv_indexAddr (k' := ((reachL N E ((rs.getD k R3.d).x)).getD j 0).toNat) Tryz.underlying34 Tryz.sizeOf3 rfl rfl hok7 (by omega) (by omega) (by omega)) 4 rfl rfl hS (hK () hF)
       · rintro _ S hF hS D hp K hK; try dsimp only
         exact d_lv1 (lkr hp 4 rfl rfl) (lv_load Tryz.isAgg3 rfl (gives_sl (mem_cF (nf hS D (k := 10) (i := 5) rfl) (.tail _ (.tail _ (.tail _ (.head _))))) (ints_get (by omega)))) 5 rfl rfl hS (hK () hF)
       · intro _ S h s D p K k; exact d_lv1 (look_b (t := 7) rfl rfl) (lv_fieldAddr (o' := 2) Tryz.underlying51 rfl Tryz.sizeOf3 rfl rfl) 6 rfl rfl s (k () h)
       · intro _ S h s D p K k; exact d_lv1 (lkr p 6 rfl rfl) (lv_load Tryz.isAgg3 rfl (gives_blk (.tail _ (.tail _ (.head _))) rfl)) 7 rfl rfl s (k () h)
       · rintro _ S hF hS D hp K hK; try dsimp only
         exact d_lv2 (lkr hp 5 rfl rfl) (lkr hp 7 rfl rfl) (lv_max (c := max ((innP ((reachL N E (rs.getD k R3.d).x).take j) (rs.getD k R3.d).z (ofL N E (rs.take k))).getD (((reachL N E ((rs.getD k R3.d).x)).getD j 0).toNat) 0) ((rs.getD k R3.d).z)) rfl rfl rfl) 8 rfl rfl hS (hK () hF)
       · rintro _ S hF hS D hp K hK; try dsimp only
         exact d_lv2 (lkr hp 0 rfl rfl) (lkr hp 1 rfl rfl) (lv_indexAddr (k' := ((reachL N E ((rs.getD k R3.d).x)).getD j 0).toNat) Tryz.underlying34 Tryz.sizeOf3 rfl rfl hok7 (by omega) (by omega) (by omega)) 9 rfl rfl hS (hK () hF)
       · rintro _ S hF hS D hp K hK
         try dsimp only at hF ⊢
         have s8 := hp 8 rfl
         have s9 := hp 9 rfl
         refine d_need (small := [(37, (.int .i64 (max ((innP ((reachL N E (rs.getD k R3.d).x).take j) (rs.getD k R3.d).z (ofL N E (rs.take k))).getD (((reachL N E ((rs.getD k R3.d).x)).getD j 0).toNat) 0) ((rs.getD k R3.d).z)))), (38, (.pointer (some (ad bs5 (((reachL N E ((rs.getD k R3.d).x)).getD j 0).toNat)))))]) ⟨look_row rfl 8 rfl s8, look_row rfl 9 rfl s9, trivial⟩ ?_
         refine t_f3 ?_
         refine t_cF hS ?_
         refine ts (sv_sl Tryz.sizeOf3 rfl rfl rfl (by rw [ints_length]; omega) ints_set) ?_
         refine t_f3 (t_f3 (t_f3 ?_))
         exact d_closes0 ⟨look_row rfl 8 rfl s8, look_row rfl 9 rfl s9, trivial⟩ rfl (t_sat (fun _ h => h) (hK () trivial))
     · rintro _ hF
       try dsimp only at hF ⊢
       refine t_weak (E' := [(0, (vP g 0)), (1, (.slice bl nr cl)), (4, (.slice none 0 0)), (5, (.slice bs5 N cp6)), (7, (vP b10 0)), (9, (.int .i64 ((reachL N E ((rs.getD k R3.d).x)).getD j 0))), (14, (.slice bl nr cl)), (15, (vN nr)), (16, (vN k)), (17, (.bool true)), (23, (.slice bs11 ((reachL N E ((rs.getD k R3.d).x)).length) cp12)), (24, (.int .i64 (((reachL N E ((rs.getD k R3.d).x)).length : Nat) : Int))), (25, (vN j)), (26, (.bool true))]) ⟨rfl, rfl, rfl, rfl, rfl, rfl, rfl, rfl, rfl, rfl, rfl, rfl, rfl, rfl, trivial⟩ ?_
       refine q_in_n (q_then_n (hK14 _ _ (c_region (tp rfl (lv_add (c := ((j + 1 : Nat) : Int)) rfl rfl (wr_i64_succ (by omega))) ?_))))
       refine tp rfl (lv_move rfl) (t_done (q_then_n ?_))
       rw [show ((innP ((reachL N E (rs.getD k R3.d).x).take j) (rs.getD k R3.d).z (ofL N E (rs.take k)))).set (((reachL N E ((rs.getD k R3.d).x)).getD j 0).toNat) (max ((innP ((reachL N E (rs.getD k R3.d).x).take j) (rs.getD k R3.d).z (ofL N E (rs.take k))).getD (((reachL N E ((rs.getD k R3.d).x)).getD j 0).toNat) 0) ((rs.getD k R3.d).z)) = innP ((reachL N E (rs.getD k R3.d).x).take (j + 1)) (rs.getD k R3.d).z (ofL N E (rs.take k)) from (innP_succ (by omega) _ _).symm]
       exact t_weak (by exact ⟨rfl, rfl, rfl, rfl, rfl, rfl, rfl, rfl, rfl, rfl, rfl, rfl, trivial⟩) ((hK11 (j + 1) (by omega) (by omega)))
   · refine tp rfl (lv_lss rfl rfl (decide_eq_false h15)) (t_done (q_then_n (hK12 _ _ (c_seq (fun K13 hK13 => c_false rfl (c_exit (q_then_x (q_then_x (q_in_x (q_in_n ?_))))))))))
     refine q_then_n (hK8 _ _ (c_region (tp rfl (lv_add (c := ((k + 1 : Nat) : Int)) rfl rfl (wr_i64_succ (by omega))) ?_)))
     refine tp rfl (lv_move rfl) (t_done (q_then_n (t_drop (t_f1 (t_drop (t_f1 ?_))))))
     rw [show (reachL N E (rs.getD k R3.d).x).take j = reachL N E (rs.getD k R3.d).x from List.take_of_length_le (by omega), show innP (reachL N E (rs.getD k R3.d).x) (rs.getD k R3.d).z (ofL N E (rs.take k)) = ofL N E (rs.take (k + 1)) from of_next (by omega)]
     exact t_weak (by exact ⟨rfl, rfl, rfl, rfl, rfl, rfl, rfl, trivial⟩) ((hK5 (k + 1) (by omega) (by omega)))
 · refine tp rfl (lv_lss rfl rfl (decide_eq_false h9)) (t_done (q_then_n (hK6 _ _ (c_seq (fun K7 hK7 => c_false rfl (c_exit (q_then_x (q_then_x (q_in_x (q_then_n (hK3 _ _ ?_)))))))))))
   refine c_seq (fun K8 hK8 => c_region (tp rfl (lv_move rfl) (tp rfl (lv_assign rfl) (t_done (q_then_n (hK8 _ _ (c_ret ?_)))))))
   refine q_ret rfl rfl ?_
   rw [show rs.take k = rs from List.take_of_length_le (by omega)]
   exact ⟨_, _, hok7, hle8, rfl, rfl⟩
end Go.Proofs.YtanfdikglplkaaaGreatDoor
