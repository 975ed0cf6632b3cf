/- Parts Ga, Sa, Ea: own lemmas and contracts of the code that the claim reaches. -/
import Derived.KernelRfl
import Derived.Test.YtanfdikglplkaaaGreatDoorM03
import Derived.Test.YtanfdikglplkaaaGreatDoorProg
import Derived.Test.YtanfdikglplkaaaGreatDoorM04
set_option linter.unusedSimpArgs false
set_option linter.unusedVariables false
set_option maxRecDepth 100000
namespace Go.Proofs.YtanfdikglplkaaaGreatDoor
open Go Go.Proofs Sp
theorem Tryz.mixed : Tryz.prog.follows .mixedOrders = true := by kernel_rfl
theorem mem_getD {xs : List Int} {k : Nat} (h : k < xs.length) : xs.getD k 0 ∈ xs := by simp [List.getD, h]
set_option maxHeartbeats 4000000 in
theorem indexFunc_ok {R : List HP} {p : Int → Bool} {f : Nat} {caps : List Value} {bx : Option Addr} {cx : Nat} (xs : List Int) (hf : (∀ args w, (callFunc f args).run Tryz.prog w = .ok (.enter f args) w) ∧ ∀ x ∈ xs, Ok Tryz.prog f ([.int .i64 x] ++ caps) R (fun v M => v = .bool (p x) ∧ M = R)) (hx : Rd R bx (ints .i64 xs)) (okx : SlOk bx xs.length) (lx : xs.length ≤ 4611686018427387904) :
    Ok Tryz.prog 100 [(.slice bx xs.length cx), (.func (.func f) #[] caps.toArray)] R
      (fun v M => v = .int .i64 (idxF p xs) ∧ M = R) := by
 obtain ⟨hcall, hf⟩ := hf
 refine ok_of (N := 19) Tryz.func100 rfl rfl rfl (fun W => ?_)
 refine c_seq (fun K1 hK1 => c_region (tp rfl (lv_assign rfl) (t_done (q_then_n (hK1 _ _ (c_seq (fun K2 hK2 => c_seq (fun K3 hK3 => c_region (tp rfl (lv_move rfl) (tp rfl (lv_len Tryz.underlying34 rfl rfl) ?_))))))))))
 refine tp rfl (lv_move rfl) (t_done (q_then_n (hK3 _ _ (c_block ?_))))
 refine c_loop (γ := (Nat)) (fun (k : Nat) => k ≤ xs.length ∧ (∀ j, j < k → p (xs.getD j 0) = false)) (fun (k : Nat) => [(0, (.slice bx xs.length cx)), (1, (.func (.func f) #[] caps.toArray)), (7, (vN xs.length)), (8, (vN k))]) (fun (k : Nat) => R) (fun (k : Nat) => xs.length - k) (0) ⟨by omega, fun j hj => by omega⟩ ⟨rfl, rfl, rfl, rfl, trivial⟩ (fun _ h => h) ?_
 rintro k K4 hF hK4
 try dsimp only at hF hK4 ⊢
 obtain ⟨hk, hall⟩ := hF
 refine c_seq (fun K5 hK5 => c_region ?_)
 by_cases h1 : ((k : Nat) : Int) < ((xs.length : Nat) : Int)
 · refine tp rfl (lv_lss rfl rfl (decide_eq_true h1)) (t_done (q_then_n (hK5 _ _ (c_seq (fun K6 hK6 => c_true rfl (c_skip (q_then_n (hK6 _ _ (c_seq (fun K7 hK7 => c_block (c_seq (fun K8 hK8 => ?_))))))))))))
   refine c_region (tp rfl (lv_move rfl) (tp rfl (lv_assign rfl) (t_done (q_then_n (hK8 _ _ (c_seq (fun K9 hK9 => c_region (tp rfl (lv_move rfl) (tp rfl (lv_move rfl) (tp rfl (lv_move rfl) ?_))))))))))
   refine tp rfl (lv_indexAddr (k' := k) Tryz.underlying34 Tryz.sizeOf3 rfl rfl okx (by omega) (by omega) (by omega)) ?_
   refine tp rfl (lv_load Tryz.isAgg3 rfl (Rd.gives hx (ints_get (by first | omega | (simp; omega))))) ?_
   refine tc rfl (en_clo hcall rfl rfl) (hf _ (mem_getD (by omega))) ?_
   rintro _ _ ⟨rfl, hMR⟩
   rw [hMR]; clear hMR
   refine t_done (q_then_n (hK9 _ _ ?_))
   refine c_split rfl (fun c2 => ?_) (fun c2 => ?_)
   · skip
     refine c_seq (fun K10 hK10 => c_region (tp rfl (lv_move rfl) (tp rfl (lv_assign rfl) (t_done (q_then_n (hK10 _ _ (c_ret ?_)))))))
     refine q_in_r ?_
     refine q_then_r ?_
     refine q_then_r ?_
     refine q_in_r ?_
     refine q_then_r ?_
     refine q_ret rfl rfl ?_
     exact ⟨by rw [idxF_at (k := k) (by omega) ‹_› hall], rfl⟩
   · skip
     refine c_skip (q_in_n (q_then_n (hK7 _ _ (c_region (tp rfl (lv_add (c := ((k + 1 : Nat) : Int)) rfl rfl (wr_i64_succ (by omega))) ?_)))))
     refine tp rfl (lv_move rfl) (t_done (q_then_n ?_))
     exact t_weak (by exact ⟨rfl, rfl, rfl, rfl, trivial⟩) ((hK4 (k + 1) ⟨by omega, all_succ hall ‹_›⟩ (by omega)))
 · refine tp rfl (lv_lss rfl rfl (decide_eq_false h1)) (t_done (q_then_n (hK5 _ _ (c_seq (fun K6 hK6 => c_false rfl (c_exit (q_then_x (q_then_x (q_in_x (q_then_n (hK2 _ _ ?_)))))))))))
   refine c_seq (fun K7 hK7 => c_region (tp rfl (lv_assign rfl) (t_done (q_then_n (hK7 _ _ (c_ret ?_))))))
   refine q_ret rfl rfl ?_
   exact ⟨by rw [idxF_none (fun j hj => hall j (by omega))], rfl⟩
theorem containsFunc_ok {R : List HP} {p : Int → Bool} {f : Nat} {caps : List Value} {bx : Option Addr} {cx : Nat} (xs : List Int) (hf : (∀ args w, (callFunc f args).run Tryz.prog w = .ok (.enter f args) w) ∧ ∀ x ∈ xs, Ok Tryz.prog f ([.int .i64 x] ++ caps) R (fun v M => v = .bool (p x) ∧ M = R)) (hx : Rd R bx (ints .i64 xs)) (okx : SlOk bx xs.length) (lx : xs.length ≤ 4611686018427387904) :
    Ok Tryz.prog 120 [(.slice bx xs.length cx), (.func (.func f) #[] caps.toArray)] R
      (fun v M => v = .bool (xs.any p) ∧ M = R) := by
 refine ok_of (N := 9) Tryz.func120 rfl rfl rfl (fun W => ?_)
 refine c_seq (fun K1 hK1 => c_region (tp rfl (lv_assign rfl) (t_done (q_then_n (hK1 _ _ (c_seq (fun K2 hK2 => c_region (tp rfl (lv_move rfl) (tp rfl (lv_move rfl) ?_)))))))))
 refine tc rfl (en_fn Tryz.call100 rfl) (indexFunc_ok (p := p) xs hf hx okx (by first | omega | (simp; omega) | (simp; done))) ?_
 rintro _ _ ⟨rfl, hMR⟩
 rw [hMR]; clear hMR
 refine tp rfl (lv_geq rfl rfl (idxF_any p xs)) (tp rfl (lv_assign rfl) (t_done (q_then_n (hK2 _ _ (c_ret ?_)))))
 refine q_ret rfl rfl ?_
 exact ⟨rfl, rfl⟩
theorem clone_ok {R : List HP} {bx : Option Addr} {cx : Nat} (xs : List Int) (hx : Rd R bx (ints .i64 xs)) (okx : SlOk bx xs.length) (lx : xs.length ≤ 1099511627776) :
    Ok Tryz.prog 72 [(.slice bx xs.length cx)] R
      (OutSl 3 1 xs.length (ints .i64 xs) R) := by
 refine ok_of (N := 8) Tryz.func72 rfl rfl rfl (fun W => ?_)
 refine c_seq (fun K1 hK1 => c_region (tp rfl (lv_assign rfl) (t_done (q_then_n (hK1 _ _ (c_seq (fun K2 hK2 => c_seq (fun K3 hK3 => c_region (tp rfl (lv_move rfl) ?_)))))))))
 rcases hnhnil1 : (bx).isNone with _ | _
 · refine tp rfl (lv_eqnils Tryz.underlying34 rfl rfl hnhnil1) (t_done (q_then_n (hK3 _ _ (c_false rfl (c_skip (q_then_n (hK2 _ _ (c_seq (fun K4 hK4 => c_region ?_)))))))))
   refine tm rfl (mv_buildSlice (cs := []) Tryz.underlying34 Tryz.sizeOf3 Tryz.zeroValue3 (by decide) rfl rfl rfl rfl) ?_
   rintro _ _ ⟨bs2, cp3, hok4, hle5, rfl, rfl⟩
   refine tp rfl (lv_move rfl) ?_
   refine tm rfl (mv_append (i := Tryz.t3) Tryz.underlying34 Tryz.type3 rfl rfl rfl (by decide) rfl rfl okx (by first | (simp; done) | (simp; omega)) (Rd.cons hx) ints_one (by rw [show Tryz.t3.bytes = 8 from rfl]; omega)) ?_
   rintro _ _ ⟨bs6, cp7, hok8, hle9, rfl, rfl⟩
   simp only [Nat.zero_add] at hok8 hle9 ⊢
   rw [List.nil_append]
   refine tp rfl (lv_assign rfl) (t_done (q_then_n (hK4 _ _ (c_ret ?_))))
   refine q_ret rfl rfl ?_
   exact ⟨_, _, hok8, hle9, rfl, rfl⟩
 · refine tp rfl (lv_eqnils Tryz.underlying34 rfl rfl hnhnil1) (t_done (q_then_n (hK3 _ _ (c_true rfl (c_seq (fun K4 hK4 => c_region (tp rfl (lv_assign rfl) (t_done (q_then_n (hK4 _ _ (c_ret ?_)))))))))))
   refine q_then_r ?_
   refine t_sat (fun _ h => sat_nilsl 3 1 h) ?_
   refine q_ret rfl rfl ?_
   obtain rfl : xs = [] := List.eq_nil_of_length_eq_zero (slok_isNone okx ‹_›)
   exact ⟨none, 0, slok_none, Nat.le_refl _, rfl, rfl⟩
theorem has_ok {R : List HP} (m a : Nat) (ha : a < 64) (hm : m < 2 ^ 64) :
    Ok Tryz.prog 112 [(.int .u64 ((m : Nat) : Int)), (.int .i64 ((a : Nat) : Int))] R
      (fun v M => v = .bool (m.testBit a) ∧ M = R) := by
 refine ok_of (N := 10) Tryz.func112 rfl rfl rfl (fun W => ?_)
 refine c_seq (fun K1 hK1 => c_region (tp rfl (lv_assign rfl) (t_done (q_then_n (hK1 _ _ (c_seq (fun K2 hK2 => c_region (tp rfl (lv_move rfl) (tp rfl (lv_move rfl) (tp rfl (lv_shr (c := bShr .u64 ((m : Nat) : Int) ((a : Nat) : Int)) rfl rfl (by omega) rfl) ?_))))))))))
 refine tp rfl (lv_and (c := bAnd .u64 (bShr .u64 ((m : Nat) : Int) ((a : Nat) : Int)) 1) rfl rfl rfl) (tp rfl (lv_eql rfl rfl (has_bit m a ha hm)) (tp rfl (lv_assign rfl) (t_done (q_then_n (hK2 _ _ (c_ret ?_))))))
 refine q_ret rfl rfl ?_
 exact ⟨rfl, rfl⟩
theorem with_ok {R : List HP} (m a : Nat) (ha : a < 64) (hm : m < 2 ^ 64) :
    Ok Tryz.prog 150 [(.int .u64 ((m : Nat) : Int)), (.int .i64 ((a : Nat) : Int))] R
      (fun v M => v = .int .u64 ((m ||| 2 ^ a : Nat) : Int) ∧ M = R) := by
 refine ok_of (N := 9) Tryz.func150 rfl rfl rfl (fun W => ?_)
 refine c_seq (fun K1 hK1 => c_region (tp rfl (lv_assign rfl) (t_done (q_then_n (hK1 _ _ (c_seq (fun K2 hK2 => c_region (tp rfl (lv_move rfl) (tp rfl (lv_move rfl) (tp rfl (lv_shl (c := bShl .u64 1 ((a : Nat) : Int)) rfl rfl (by omega) rfl) ?_))))))))))
 refine tp rfl (lv_or (c := ((m ||| 2 ^ a : Nat) : Int)) rfl rfl (with_bit m a ha hm)) (tp rfl (lv_assign rfl) (t_done (q_then_n (hK2 _ _ (c_ret ?_)))))
 refine q_ret rfl rfl ?_
 exact ⟨rfl, rfl⟩
theorem n_ok {R : List HP} {p N : Nat} {es : Es} :
    Ok Tryz.prog 92 [(.pointer (some ⟨p, 0, none⟩))] ((GraphO p N es) :: R)
      (fun v M => v = .int .i64 ((N : Nat) : Int) ∧ M = GraphO p N es :: R) := by
 refine ok_of (N := 8) Tryz.func92 rfl rfl rfl (fun W => ?_)
 refine t_openG (fun bo co bi ci bt ct vo vi hG => ?_)
 have gsm := hG.ok.small
 have glo := hG.lo
 have gli := hG.li
 have gml := masksOf_length N es
 refine c_seq (fun K1 hK1 => c_region (tp rfl (lv_assign rfl) (t_done (q_then_n (hK1 _ _ (c_seq (fun K2 hK2 => c_region (tp rfl (lv_move rfl) (tp rfl (lv_nilCheck rfl) (tp rfl (lv_fieldAddr (o' := 0) Tryz.underlying126 rfl Tryz.sizeOf123 rfl rfl) ?_))))))))))
 refine tp rfl (lv_load Tryz.isAgg123 rfl (gives_blk (.head _) rfl)) (tp rfl (lv_len Tryz.underlying123 rfl rfl) (tp rfl (lv_assign rfl) (t_done (q_then_n (hK2 _ _ (c_ret (t_f5 (t_f5 (t_f5 (t_f5 ?_))))))))))
 refine t_f5 (t_f5 ?_)
 refine t_shutG hG ?_
 refine q_ret rfl rfl ?_
 exact ⟨rfl, rfl⟩
theorem there1_ok {R : List HP} {p N : Nat} {es : Es} {c : Nat} (a : Int) :
    Ok Tryz.prog 121 [(.int .i64 a), (.pointer (some ⟨c, 0, none⟩))] ((GraphO p N es) :: (Blk c [(.pointer (some ⟨p, 0, none⟩))] 67) :: R)
      (fun v M => v = .bool (decide (a < 0) || decide (a ≥ (N : Int))) ∧ M = GraphO p N es :: Blk c [.pointer (some ⟨p, 0, none⟩)] 67 :: R) := by
 refine ok_of (N := 15) Tryz.func121 rfl rfl rfl (fun W => ?_)
 refine t_openG (fun bo co bi ci bt ct vo vi hG => ?_)
 have gsm := hG.ok.small
 have glo := hG.lo
 have gli := hG.li
 have gml := masksOf_length N es
 refine c_seq (fun K1 hK1 => c_region (tp rfl (lv_assign rfl) (t_done (q_then_n (hK1 _ _ (c_seq (fun K2 hK2 => c_region (tp rfl (lv_move rfl) ?_))))))))
 by_cases h1 : a < 0
 · refine tp rfl (lv_lss rfl rfl (decide_eq_true h1)) (tp rfl (lv_move rfl) ?_)
   refine t_skip rfl rfl rfl ?_
   refine t_skip rfl rfl rfl ?_
   refine t_skip rfl rfl rfl ?_
   refine t_skip rfl rfl rfl ?_
   refine t_skip rfl rfl rfl ?_
   refine t_skip rfl rfl rfl ?_
   refine t_skip rfl rfl rfl ?_
   refine tp rfl (lv_pick_t rfl rfl) (tp rfl (lv_assign rfl) (t_done (q_then_n (hK2 _ _ (c_ret (t_f5 (t_f5 (t_f5 (t_f5 (t_f5 ?_))))))))))
   refine t_f5 ?_
   refine t_shutG hG ?_
   refine q_ret rfl rfl ?_
   exact ⟨by simp [*], rfl⟩
 · refine tp rfl (lv_lss rfl rfl (decide_eq_false h1)) (tp rfl (lv_move rfl) ?_)
   refine t_guard rfl rfl ?_
   refine tp rfl (lv_move rfl) ?_
   refine t_guard rfl rfl ?_
   refine tp rfl (lv_load Tryz.isAgg67 rfl (gives_blk (.tail _ (.tail _ (.tail _ (.tail _ (.tail _ (.tail _ (.head _))))))) rfl)) ?_
   refine t_guard rfl rfl ?_
   refine tp rfl (lv_nilCheck rfl) ?_
   refine t_guard rfl rfl ?_
   refine tp rfl (lv_fieldAddr (o' := 0) Tryz.underlying126 rfl Tryz.sizeOf123 rfl rfl) ?_
   refine t_guard rfl rfl ?_
   refine tp rfl (lv_load Tryz.isAgg123 rfl (gives_blk (.head _) rfl)) ?_
   refine t_guard rfl rfl ?_
   refine tp rfl (lv_len Tryz.underlying123 rfl rfl) ?_
   refine t_guard rfl rfl ?_
   refine tp rfl (lv_geq rfl rfl rfl) (tp rfl (lv_pick_f rfl rfl) (tp rfl (lv_assign rfl) (t_done (q_then_n (hK2 _ _ (c_ret (t_f5 (t_f5 (t_f5 (t_f5 ?_))))))))))
   refine t_f5 (t_f5 ?_)
   refine t_shutG hG ?_
   refine q_ret rfl rfl ?_
   exact ⟨by simp [*], rfl⟩
theorem there_ok {R : List HP} {p N : Nat} {es : Es} {bs : Option Addr} {cp : Nat} (ts : List Int) (hx : Rd R bs (ints .i64 ts)) (okx : SlOk bs ts.length) (lx : ts.length ≤ 4611686018427387904) :
    Ok Tryz.prog 71 [(.pointer (some ⟨p, 0, none⟩)), (.slice bs ts.length cp)] ((GraphO p N es) :: R)
      (fun v M => v = .bool (thereB N ts) ∧ M = GraphO p N es :: R) := by
 refine ok_of (N := 9) Tryz.func71 rfl rfl rfl (fun W => ?_)
 refine c_seq (fun K1 hK1 => c_region ?_)
 refine tm rfl (mv_box rfl rfl) ?_
 rintro _ _ ⟨b1, rfl, rfl⟩
 refine tp rfl (lv_assign rfl) (t_done (q_then_n (hK1 _ _ (c_seq (fun K2 hK2 => c_region (tp rfl (lv_move rfl) (tp rfl (lv_makeFunc rfl) (t_f1 ?_))))))))
 refine tc rfl (en_fn Tryz.call120 rfl) (containsFunc_ok (p := fun a => decide (a < 0) || decide (a ≥ (N : Int))) ts ⟨Tryz.call121, fun x _ => there1_ok x⟩ (Rd.cons (Rd.cons hx)) okx (by first | omega | (simp; omega) | (simp; done))) ?_
 rintro _ _ ⟨rfl, rfl⟩
 refine tp rfl (lv_not (c := !((ts).any (fun a => decide (a < 0) || decide (a ≥ (N : Int))))) rfl rfl) (tp rfl (lv_assign rfl) (t_done (q_then_n (hK2 _ _ (c_ret (t_f1 (t_drop ?_)))))))
 refine q_ret rfl rfl ?_
 exact ⟨rfl, rfl⟩
theorem there_is {R : List HP} {p N : Nat} {es : Es} {bs : Option Addr} {cp : Nat} (ts : List Int) {b : Bool} (hb : thereB N ts = b) (hx : Rd R bs (ints .i64 ts)) (okx : SlOk bs ts.length) (lx : ts.length ≤ 4611686018427387904) :
    Ok Tryz.prog 71 [(.pointer (some ⟨p, 0, none⟩)), (.slice bs ts.length cp)] (GraphO p N es :: R) (fun v M => v = .bool b ∧ M = GraphO p N es :: R) := hb ▸ there_ok ts hx okx lx
end Go.Proofs.YtanfdikglplkaaaGreatDoor
set_option maxRecDepth 100000
namespace Go.Proofs.YtanfdikglplkaaaGreatDoor
open Go Go.Proofs Sp
set_option maxHeartbeats 4000000 in
theorem sindex_ok {R : List HP} {bx : Option Addr} {cx : Nat} (xs : List Int) (v : Int) (hx : Rd R bx (ints .i64 xs)) (okx : SlOk bx xs.length) (lx : xs.length ≤ 4611686018427387904) :
    Ok Tryz.prog 154 [(.slice bx xs.length cx), (.int .i64 v)] R
      (fun u M => u = .int .i64 (idxF (fun y => decide (v = y)) xs) ∧ M = R) := by
 refine ok_of (N := 19) Tryz.func154 rfl rfl rfl (fun W => ?_)
 refine c_seq (fun K1 hK1 => c_region (tp rfl (lv_assign rfl) (t_done (q_then_n (hK1 _ _ (c_seq (fun K2 hK2 => c_seq (fun K3 hK3 => c_region (tp rfl (lv_move rfl) (tp rfl (lv_len Tryz.underlying34 rfl rfl) ?_))))))))))
 refine tp rfl (lv_move rfl) (t_done (q_then_n (hK3 _ _ (c_block ?_))))
 refine c_loop (γ := (Nat)) (fun (k : Nat) => k ≤ xs.length ∧ (∀ j, j < k → decide (v = xs.getD j 0) = false)) (fun (k : Nat) => [(0, (.slice bx xs.length cx)), (1, (.int .i64 v)), (7, (vN xs.length)), (8, (vN k))]) (fun (k : Nat) => R) (fun (k : Nat) => xs.length - k) (0) ⟨by omega, fun j hj => by omega⟩ ⟨rfl, rfl, rfl, rfl, trivial⟩ (fun _ h => h) ?_
 rintro k K4 hF hK4
 try dsimp only at hF hK4 ⊢
 obtain ⟨hk, hall⟩ := hF
 refine c_seq (fun K5 hK5 => c_region ?_)
 by_cases h1 : ((k : Nat) : Int) < ((xs.length : Nat) : Int)
 · refine tp rfl (lv_lss rfl rfl (decide_eq_true h1)) (t_done (q_then_n (hK5 _ _ (c_seq (fun K6 hK6 => c_true rfl (c_skip (q_then_n (hK6 _ _ (c_seq (fun K7 hK7 => c_block (c_seq (fun K8 hK8 => ?_))))))))))))
   refine c_region (tp rfl (lv_move rfl) (tp rfl (lv_assign rfl) (t_done (q_then_n (hK8 _ _ (c_seq (fun K9 hK9 => c_region (tp rfl (lv_move rfl) (tp rfl (lv_move rfl) (tp rfl (lv_move rfl) ?_))))))))))
   refine tp rfl (lv_indexAddr (k' := k) Tryz.underlying34 Tryz.sizeOf3 rfl rfl okx (by omega) (by omega) (by omega)) ?_
   refine tp rfl (lv_load Tryz.isAgg3 rfl (Rd.gives hx (ints_get (by first | omega | (simp; omega))))) ?_
   by_cases heq : v = ((xs).getD k 0)
   · refine tp rfl (lv_eql rfl rfl (beq_iff_eq.2 heq)) (t_done (q_then_n (hK9 _ _ (c_true rfl (c_seq (fun K10 hK10 => c_region (tp rfl (lv_move rfl) (tp rfl (lv_assign rfl) (t_done (q_then_n (hK10 _ _ ?_)))))))))))
     refine c_ret ?_
     refine q_in_r ?_
     refine q_then_r ?_
     refine q_then_r ?_
     refine q_in_r ?_
     refine q_then_r ?_
     refine q_ret rfl rfl ?_
     exact ⟨by rw [idxF_at (p := fun y => decide (v = y)) (k := k) (by omega) (decide_eq_true ‹_›) hall], rfl⟩
   · refine tp rfl (lv_eql rfl rfl (beq_eq_false_iff_ne.2 heq)) (t_done (q_then_n (hK9 _ _ (c_false rfl (c_skip (q_in_n (q_then_n (hK7 _ _ (c_region (tp rfl (lv_add (c := ((k + 1 : Nat) : Int)) rfl rfl (wr_i64_succ (by omega))) ?_))))))))))
     refine tp rfl (lv_move rfl) (t_done (q_then_n ?_))
     exact t_weak (by exact ⟨rfl, rfl, rfl, rfl, trivial⟩) ((hK4 (k + 1) ⟨by omega, all_succ hall (decide_eq_false ‹_›)⟩ (by omega)))
 · refine tp rfl (lv_lss rfl rfl (decide_eq_false h1)) (t_done (q_then_n (hK5 _ _ (c_seq (fun K6 hK6 => c_false rfl (c_exit (q_then_x (q_then_x (q_in_x (q_then_n (hK2 _ _ ?_)))))))))))
   refine c_seq (fun K7 hK7 => c_region (tp rfl (lv_assign rfl) (t_done (q_then_n (hK7 _ _ (c_ret ?_))))))
   refine q_ret rfl rfl ?_
   exact ⟨by rw [idxF_none (p := fun y => decide (v = y)) (fun j hj => hall j (by omega))], rfl⟩
theorem idx_contains (v : Int) (xs : List Int) : decide (idxF (fun y => decide (v = y)) xs ≥ 0) = xs.contains v := by
  have := idxF_any (fun y => decide (v = y)) xs
  rw [this, Bool.eq_iff_iff, List.any_eq_true, List.contains_iff_mem]
  exact ⟨fun ⟨x, hx, e⟩ => by have := of_decide_eq_true e; exact this ▸ hx, fun h => ⟨v, h, by simp⟩⟩
theorem scontains_ok {R : List HP} {bx : Option Addr} {cx : Nat} (xs : List Int) (v : Int) (hx : Rd R bx (ints .i64 xs)) (okx : SlOk bx xs.length) (lx : xs.length ≤ 4611686018427387904) :
    Ok Tryz.prog 151 [(.slice bx xs.length cx), (.int .i64 v)] R
      (fun u M => u = .bool (xs.contains v) ∧ M = R) := by
 refine ok_of (N := 9) Tryz.func151 rfl rfl rfl (fun W => ?_)
 refine c_seq (fun K1 hK1 => c_region (tp rfl (lv_assign rfl) (t_done (q_then_n (hK1 _ _ (c_seq (fun K2 hK2 => c_region (tp rfl (lv_move rfl) (tp rfl (lv_move rfl) ?_)))))))))
 refine tc rfl (en_fn Tryz.call154 rfl) (sindex_ok xs v hx okx (by first | omega | (simp; omega) | (simp; done))) ?_
 rintro _ _ ⟨rfl, hMR⟩
 rw [hMR]; clear hMR
 refine tp rfl (lv_geq rfl rfl (idx_contains v xs)) (tp rfl (lv_assign rfl) (t_done (q_then_n (hK2 _ _ (c_ret ?_)))))
 refine q_ret rfl rfl ?_
 exact ⟨rfl, rfl⟩
theorem erase_take {xs : List Int} {i : Nat} (h : i < xs.length) (n : Nat) (hn : n = xs.length - 1) (zs : List Int) : (xs.take i ++ xs.drop (i + 1) ++ zs).take n = xs.eraseIdx i := by
  have hl : (xs.take i ++ xs.drop (i + 1)).length = n := by simp; omega
  rw [List.take_append_of_le_length (by omega), List.take_of_length_le (by omega), List.eraseIdx_eq_take_drop_succ]
set_option maxHeartbeats 4000000 in
theorem sdelete_ok {R : List HP} {bx : Option Addr} {cx : Nat} (xs : List Int) (i : Nat) (hi : i < xs.length) :
    Ok Tryz.prog 155 [(.slice bx xs.length cx), (.int .i64 ((i : Nat) : Int)), (.int .i64 ((i + 1 : Nat) : Int))] ((SlV 3 1 (.slice bx xs.length cx) xs.length (ints .i64 xs)) :: R)
      (fun v M => v = .slice bx (xs.eraseIdx i).length cx ∧ M = SlV 3 1 (.slice bx (xs.eraseIdx i).length cx) (xs.eraseIdx i).length (ints .i64 (xs.eraseIdx i)) :: R) := by
 refine ok_of (N := 33) Tryz.func155 rfl rfl rfl (fun W => ?_)
 refine t_learn (fun _ h => slv_facts h) (fun hbx => ?_)
 obtain ⟨okx, hcx, hmx⟩ := hbx
 unfold maxLen at hmx
 refine c_seq (fun K1 hK1 => c_region (tp rfl (lv_assign rfl) (t_done (q_then_n (hK1 _ _ (c_seq (fun K2 hK2 => c_region (tp rfl (lv_move rfl) (tp rfl (lv_move rfl) (tp rfl (lv_move rfl) ?_))))))))))
 refine tp rfl (lv_move rfl) (tp rfl (lv_len Tryz.underlying34 rfl rfl) (tp rfl (lv_slice (l := i) (h := i + 1) (m := xs.length) (v := (.slice (sbase bx i xs.length 1) ((i + 1) - i) (xs.length - i))) Tryz.underlying34 Tryz.sizeOf3 rfl rfl rfl rfl (.inl ⟨_, _, rfl, (by omega), (by omega), (by omega)⟩) (.inl ⟨_, _, rfl, (by omega), (by omega), (by omega)⟩) (.inl ⟨_, _, rfl, (by omega), (by omega), (by omega)⟩) (by simp) rfl) ?_))
 refine t_done (q_then_n (hK2 _ _ (c_seq (fun K3 hK3 => c_seq (fun K4 hK4 => c_region (tp rfl (lv_move rfl) (tp rfl (lv_move rfl) (tp rfl (lv_eql rfl rfl (beq_eq_false_iff_ne.2 (by omega))) ?_))))))))
 refine t_done (q_then_n (hK4 _ _ (c_false rfl (c_skip (q_then_n (hK3 _ _ (c_seq (fun K5 hK5 => c_region (tp rfl (lv_move rfl) (tp rfl (lv_len Tryz.underlying34 rfl rfl) (tp rfl (lv_assign rfl) ?_)))))))))))
 refine t_done (q_then_n (hK5 _ _ (c_seq (fun K6 hK6 => ?_))))
 refine c_draw (γ := Unit) (n := 8) Tryz.mixed rfl rfl (fun _ S => True) (fun _ => [(0, 20, (.slice bx xs.length cx)), (1, 21, (vN i)), (2, 22, (.slice bx i cx)), (3, 23, (.slice bx xs.length cx)), (4, 24, (.int .i64 ((i + 1 : Nat) : Int))), (5, 25, (.slice (sbase bx (i + 1) cx 1) (xs.length - (i + 1)) (cx - (i + 1)))), (6, 26, (.slice bx (i + (xs.length - (i + 1))) cx)), (7, 0, (.slice bx (i + (xs.length - (i + 1))) cx))]) (fun _ S => (bif S 6 then (SlV 3 1 (.slice bx xs.length cx) xs.length (ints .i64 (xs.take i ++ ((xs).drop (i + 1)) ++ xs.drop (i + (xs.length - (i + 1)))))) else (SlV 3 1 (.slice bx xs.length cx) xs.length (ints .i64 xs))) :: R) (()) trivial (fun _ h => h) (fun _ _ h => h) ?_ ?_
 · refine ⟨?_, ?_, ?_, ?_, ?_, ?_, ?_, ?_, trivial⟩
   · intro _ S h s D p K k; exact d_lv1 (look_b1 (t := 0) 7 (nf s D (k := 7) (i := 0) rfl) rfl rfl) (lv_move rfl) 0 rfl rfl s (k () h)
   · intro _ S h s D p K k; exact d_lv1 (look_b (t := 1) rfl rfl) (lv_move rfl) 1 rfl rfl s (k () h)
   · rintro _ S hF hS D hp K hK; try dsimp only
     exact d_lv2 (lkr hp 0 rfl rfl) (lkr hp 1 rfl rfl) (lv_slice (l := 0) (h := i) (m := cx) (v := (.slice bx i cx)) Tryz.underlying34 Tryz.sizeOf3 rfl rfl rfl rfl (.inr ⟨rfl, rfl⟩) (.inl ⟨_, _, rfl, (by omega), (by omega), (by omega)⟩) (.inr ⟨rfl, rfl⟩) (by simp) (by rw [sbase_zero]; rfl)) 2 rfl rfl hS (hK () hF)
   · intro _ S h s D p K k; exact d_lv1 (look_b1 (t := 0) 7 (nf s D (k := 7) (i := 3) rfl) rfl rfl) (lv_move rfl) 3 rfl rfl s (k () h)
   · intro _ S h s D p K k; exact d_lv1 (look_b (t := 2) rfl rfl) (lv_move rfl) 4 rfl rfl s (k () h)
   · rintro _ S hF hS D hp K hK; try dsimp only
     exact d_lv2 (lkr hp 3 rfl rfl) (lkr hp 4 rfl rfl) (lv_slice (l := i + 1) (h := xs.length) (m := cx) (v := (.slice (sbase bx (i + 1) cx 1) (xs.length - (i + 1)) (cx - (i + 1)))) Tryz.underlying34 Tryz.sizeOf3 rfl rfl rfl rfl (.inr ⟨rfl, rfl⟩) (.inr ⟨rfl, rfl⟩) (.inl ⟨_, _, rfl, (by omega), (by omega), (by omega)⟩) (by simp) rfl) 5 rfl rfl hS (hK () hF)
   · rintro _ S hF hS D hp K hK
     try dsimp only at hF ⊢
     have s2 := hp 2 rfl
     have s5 := hp 5 rfl
     refine d_need (small := [(22, (.slice bx i cx)), (25, (.slice (sbase bx (i + 1) cx 1) (xs.length - (i + 1)) (cx - (i + 1))))]) ⟨look_row rfl 2 rfl s2, look_row rfl 5 rfl s5, trivial⟩ ?_
     refine t_cF hS ?_
     refine tm rfl (mv_appendOwn (i := Tryz.t3) (k := i) Tryz.underlying34 Tryz.type3 rfl rfl rfl (fun hz => slok_sbase okx (by omega) hz) (by omega) (by first | (simp; done) | (simp; omega)) (rd_sb_ints (l := i + 1) (m := cx) (rd_sl (.head _)) okx rfl hcx) ints_one (by omega) ints_splice) ?_
     rintro _ _ ⟨rfl, rfl⟩
     exact d_closes ⟨look_row rfl 2 rfl s2, look_row rfl 5 rfl s5, trivial⟩ 6 rfl rfl rfl hS (AgreeR.refl _) (t_sat (fun _ h => h) (hK () trivial))
   · intro _ S h s D p K k; exact d_lv1 (lkr p 6 rfl rfl) (lv_assign rfl) 7 rfl rfl s (k () h)
 · rintro _ hF
   try dsimp only at hF ⊢
   refine t_weak (E' := [(0, (.slice bx (i + (xs.length - (i + 1))) cx)), (1, (vN i)), (2, (.int .i64 ((i + 1 : Nat) : Int))), (6, (.slice none 0 0)), (7, (vN xs.length)), (16, (.bool false))]) ⟨rfl, rfl, rfl, rfl, rfl, rfl, trivial⟩ ?_
   refine q_then_n (hK6 _ _ (c_seq (fun K7 hK7 => c_region (tp rfl (lv_move rfl) (tp rfl (lv_move rfl) (tp rfl (lv_len Tryz.underlying34 rfl rfl) (tp rfl (lv_move rfl) (tp rfl (lv_slice (l := i + (xs.length - (i + 1))) (h := xs.length) (m := cx) (v := (.slice (sbase bx (i + (xs.length - (i + 1))) cx 1) (xs.length - (i + (xs.length - (i + 1)))) (cx - (i + (xs.length - (i + 1)))))) Tryz.underlying34 Tryz.sizeOf3 rfl rfl rfl rfl (.inr ⟨rfl, rfl⟩) (.inl ⟨_, _, rfl, (by omega), (by omega), (by omega)⟩) (.inl ⟨_, _, rfl, (by omega), (by omega), (by omega)⟩) (by simp) rfl) ?_))))))))
   refine tm0 (mv_clear (l := i + (xs.length - (i + 1))) (c := cx) Tryz.underlying34 Tryz.zeroValue3 rfl rfl (by decide) rfl okx (by omega) (by omega) (by omega)) ?_
   rintro _ _ ⟨zs1, rfl⟩
   refine t_done (q_then_n (hK7 _ _ (c_seq (fun K8 hK8 => c_region (tp rfl (lv_move rfl) (tp rfl (lv_assign rfl) (t_done (q_then_n (hK8 _ _ (c_ret ?_))))))))))
   refine t_sat (fun _ h => sat_cut_ints (by omega) (by omega) (by simp; omega) h) ?_
   rw [erase_take hi _ (by omega)]
   rw [show i + (xs.length - (i + 1)) = (xs.eraseIdx i).length by rw [List.length_eraseIdx, if_pos hi]; omega]
   refine q_ret rfl rfl ?_
   exact ⟨rfl, rfl⟩
end Go.Proofs.YtanfdikglplkaaaGreatDoor
set_option maxRecDepth 100000
namespace Go.Proofs.YtanfdikglplkaaaGreatDoor
open Go Go.Proofs Sp
theorem lof_ok {R : List HP} {bx : Option Addr} {cx : Nat} (xs : List Int) (hx : (∀ x ∈ xs, 0 ≤ x) ∧ xs.length ≤ 100) (hr : Rd R bx (ints .i64 xs)) (okx : SlOk bx xs.length) :
    Ok Tryz.prog 90 [(.slice bx xs.length cx)] R
      (fun v M => v = .int .u8 (ofM xs) ∧ M = R) := by
 refine ok_of (N := 17) Tryz.func90 rfl rfl rfl (fun W => ?_)
 have hx2 := hx.2
 refine c_seq (fun K1 hK1 => c_region (tp rfl (lv_assign rfl) (t_done (q_then_n (hK1 _ _ (c_seq (fun K2 hK2 => c_seq (fun K3 hK3 => c_region (tp rfl (lv_move rfl) (tp rfl (lv_len Tryz.underlying34 rfl rfl) ?_))))))))))
 refine tp rfl (lv_move rfl) (t_done (q_then_n (hK3 _ _ (c_block ?_))))
 refine c_loop (γ := (Nat)) (fun (k : Nat) => k ≤ xs.length) (fun (k : Nat) => [(0, (.slice bx xs.length cx)), (2, (.int .u8 (ofM (xs.take k)))), (5, (.slice bx xs.length cx)), (6, (vN xs.length)), (7, (vN k))]) (fun (k : Nat) => R) (fun (k : Nat) => xs.length - k) (0) (Nat.zero_le _) ⟨rfl, rfl, rfl, rfl, rfl, trivial⟩ (fun _ h => h) ?_
 rintro k K4 hF hK4
 try dsimp only at hF hK4 ⊢
 refine c_seq (fun K5 hK5 => c_region ?_)
 by_cases h1 : ((k : Nat) : Int) < ((xs.length : Nat) : Int)
 · refine tp rfl (lv_lss rfl rfl (decide_eq_true h1)) (t_done (q_then_n (hK5 _ _ (c_seq (fun K6 hK6 => c_true rfl (c_skip (q_then_n (hK6 _ _ (c_seq (fun K7 hK7 => c_block (c_seq (fun K8 hK8 => ?_))))))))))))
   refine c_region (tp rfl (lv_indexAddr (k' := k) Tryz.underlying34 Tryz.sizeOf3 rfl rfl okx (by omega) (by omega) (by omega)) ?_)
   refine tp rfl (lv_load Tryz.isAgg3 rfl (Rd.gives hr (ints_get (by first | omega | (simp; omega))))) ?_
   refine tp rfl (lv_assign rfl) (t_done (q_then_n (hK8 _ _ (c_region (tp rfl (lv_move rfl) (tp rfl (lv_move rfl) (tp rfl (lv_shl (c := bShl .u8 1 ((xs).getD k 0)) rfl rfl (hx.1 _ (mem_getD (by omega))) rfl) ?_)))))))
   refine tp rfl (lv_or (c := bOr .u8 (ofM (xs.take k)) (bShl .u8 1 ((xs).getD k 0))) rfl rfl rfl) (tp rfl (lv_assign rfl) (t_done (q_in_n (q_then_n (hK7 _ _ (c_region (tp rfl (lv_add (c := ((k + 1 : Nat) : Int)) rfl rfl (wr_i64_succ (by omega))) ?_)))))))
   refine tp rfl (lv_move rfl) (t_done (q_then_n ?_))
   exact t_weak (by exact ⟨rfl, (by rw [take_succ_getD (by omega) 0, ofM_snoc]; rfl), rfl, rfl, rfl, trivial⟩) ((hK4 (k + 1) (by omega) (by omega)))
 · refine tp rfl (lv_lss rfl rfl (decide_eq_false h1)) (t_done (q_then_n (hK5 _ _ (c_seq (fun K6 hK6 => c_false rfl (c_exit (q_then_x (q_then_x (q_in_x (q_then_n (hK2 _ _ ?_)))))))))))
   refine c_seq (fun K7 hK7 => c_region (tp rfl (lv_move rfl) (tp rfl (lv_assign rfl) (t_done (q_then_n (hK7 _ _ (c_ret ?_)))))))
   rw [show xs.take k = xs from List.take_of_length_le (by omega)]
   refine q_ret rfl rfl ?_
   exact ⟨rfl, rfl⟩
theorem lstep_ok {R : List HP} {p : Nat} {v1 v2 v3 v4 v5 : Value} (m to st : Int) (h0 : 0 ≤ st) :
    Ok Tryz.prog 89 [(.pointer (some ⟨p, 0, none⟩)), (.int .u8 m), (.int .i64 to)] ((Blk p [(.int .i64 st), v1, v2, v3, v4, v5] 92) :: R)
      (fun v M => v = .int .i64 (stE m st) ∧ M = Blk p [.int .i64 (if stE m st = 0 then to else st), v1, v2, v3, v4, v5] 92 :: R) := by
 refine ok_of (N := 19) Tryz.func89 rfl rfl rfl (fun W => ?_)
 refine c_seq (fun K1 hK1 => c_region (tp rfl (lv_assign rfl) (t_done (q_then_n (hK1 _ _ (c_seq (fun K2 hK2 => c_seq (fun K3 hK3 => c_region (tp rfl (lv_move rfl) (tp rfl (lv_move rfl) ?_))))))))))
 refine tp rfl (lv_nilCheck rfl) (tp rfl (lv_fieldAddr (o' := 0) Tryz.underlying92 rfl Tryz.sizeOf3 rfl rfl) (tp rfl (lv_load Tryz.isAgg3 rfl (gives_blk (.head _) rfl)) (tp rfl (lv_shr (c := bShr .u8 m st) rfl rfl (by omega) rfl) ?_)))
 refine tp rfl (lv_and (c := bAnd .u8 (bShr .u8 m st) 1) rfl rfl rfl) ?_
 by_cases h1 : (bAnd .u8 (bShr .u8 m st) 1) = 0
 · refine tp rfl (lv_eql rfl rfl (beq_iff_eq.2 h1)) (t_done (q_then_n (hK3 _ _ (c_true rfl (c_seq (fun K4 hK4 => c_region (tp rfl (lv_assign rfl) (t_done (q_then_n (hK4 _ _ (c_ret ?_)))))))))))
   refine q_then_r ?_
   refine q_ret rfl rfl ?_
   have hs : stE m st = 8 := by unfold stE; first | rw [if_pos ‹_›] | rw [if_neg ‹_›]
   rw [hs]
   exact ⟨rfl, rfl⟩
 · refine tp rfl (lv_eql rfl rfl (beq_eq_false_iff_ne.2 h1)) (t_done (q_then_n (hK3 _ _ (c_false rfl (c_skip (q_then_n (hK2 _ _ (c_seq (fun K4 hK4 => c_region (tp rfl (lv_move rfl) (tp rfl (lv_move rfl) ?_)))))))))))
   refine tp rfl (lv_nilCheck rfl) (tp rfl (lv_fieldAddr (o' := 0) Tryz.underlying92 rfl Tryz.sizeOf3 rfl rfl) ?_)
   refine ts (sv_blk Tryz.sizeOf3 rfl rfl rfl (Nat.le_of_ble_eq_true rfl) rfl) ?_
   refine t_done (q_then_n (hK4 _ _ (c_seq (fun K5 hK5 => c_region (tp rfl (lv_assign rfl) (t_done (q_then_n (hK5 _ _ (c_ret ?_)))))))))
   refine q_ret rfl rfl ?_
   have hs : stE m st = 0 := by unfold stE; first | rw [if_pos ‹_›] | rw [if_neg ‹_›]
   rw [hs]
   exact ⟨rfl, rfl⟩
theorem lState_ok {R : List HP} {p : Nat} (x : Lf) :
    Ok Tryz.prog 23 [(.pointer (some ⟨p, 0, none⟩))] ((Blk p [(.int .i64 x.st), (.int .i64 x.ep), (.int .i64 x.ms), (.int .i64 x.sp), (.int .i64 x.tr), (.int .i64 x.pr)] 92) :: R)
      (fun v M => v = .int .i64 x.st ∧ M = Blk p (lfC x) 92 :: R) := by
 refine ok_of (N := 7) Tryz.func23 rfl rfl rfl (fun W => ?_)
 refine c_seq (fun K1 hK1 => c_region (tp rfl (lv_assign rfl) (t_done (q_then_n (hK1 _ _ (c_seq (fun K2 hK2 => c_region (tp rfl (lv_move rfl) (tp rfl (lv_nilCheck rfl) (tp rfl (lv_fieldAddr (o' := 0) Tryz.underlying92 rfl Tryz.sizeOf3 rfl rfl) ?_))))))))))
 refine tp rfl (lv_load Tryz.isAgg3 rfl (gives_blk (.head _) rfl)) (tp rfl (lv_assign rfl) (t_done (q_then_n (hK2 _ _ (c_ret ?_)))))
 refine q_ret rfl rfl ?_
 exact ⟨rfl, rfl⟩
theorem lEpoch_ok {R : List HP} {p : Nat} (x : Lf) :
    Ok Tryz.prog 109 [(.pointer (some ⟨p, 0, none⟩))] ((Blk p [(.int .i64 x.st), (.int .i64 x.ep), (.int .i64 x.ms), (.int .i64 x.sp), (.int .i64 x.tr), (.int .i64 x.pr)] 92) :: R)
      (fun v M => v = .int .i64 x.ep ∧ M = Blk p (lfC x) 92 :: R) := by
 refine ok_of (N := 7) Tryz.func109 rfl rfl rfl (fun W => ?_)
 refine c_seq (fun K1 hK1 => c_region (tp rfl (lv_assign rfl) (t_done (q_then_n (hK1 _ _ (c_seq (fun K2 hK2 => c_region (tp rfl (lv_move rfl) (tp rfl (lv_nilCheck rfl) (tp rfl (lv_fieldAddr (o' := 1) Tryz.underlying92 rfl Tryz.sizeOf3 rfl rfl) ?_))))))))))
 refine tp rfl (lv_load Tryz.isAgg3 rfl (gives_blk (.head _) rfl)) (tp rfl (lv_assign rfl) (t_done (q_then_n (hK2 _ _ (c_ret ?_)))))
 refine q_ret rfl rfl ?_
 exact ⟨rfl, rfl⟩
theorem lFinal_ok {R : List HP} {p : Nat} (x : Lf) :
    Ok Tryz.prog 77 [(.pointer (some ⟨p, 0, none⟩))] ((Blk p [(.int .i64 x.st), (.int .i64 x.ep), (.int .i64 x.ms), (.int .i64 x.sp), (.int .i64 x.tr), (.int .i64 x.pr)] 92) :: R)
      (fun v M => v = .bool (decide (x.st ≥ 5)) ∧ M = Blk p (lfC x) 92 :: R) := by
 refine ok_of (N := 8) Tryz.func77 rfl rfl rfl (fun W => ?_)
 refine c_seq (fun K1 hK1 => c_region (tp rfl (lv_assign rfl) (t_done (q_then_n (hK1 _ _ (c_seq (fun K2 hK2 => c_region (tp rfl (lv_move rfl) (tp rfl (lv_nilCheck rfl) (tp rfl (lv_fieldAddr (o' := 0) Tryz.underlying92 rfl Tryz.sizeOf3 rfl rfl) ?_))))))))))
 refine tp rfl (lv_load Tryz.isAgg3 rfl (gives_blk (.head _) rfl)) (tp rfl (lv_geq rfl rfl rfl) (tp rfl (lv_assign rfl) (t_done (q_then_n (hK2 _ _ (c_ret ?_))))))
 refine q_ret rfl rfl ?_
 exact ⟨rfl, rfl⟩
set_option maxHeartbeats 4000000 in
theorem lRight_ok {R : List HP} {p : Nat} (x : Lf) (e : Int) :
    Ok Tryz.prog 62 [(.pointer (some ⟨p, 0, none⟩)), (.int .i64 e)] ((Blk p [(.int .i64 x.st), (.int .i64 x.ep), (.int .i64 x.ms), (.int .i64 x.sp), (.int .i64 x.tr), (.int .i64 x.pr)] 92) :: R)
      (fun v M => v = .int .i64 (rightE x e) ∧ M = Blk p (lfC x) 92 :: R) := by
 refine ok_of (N := 18) Tryz.func62 rfl rfl rfl (fun W => ?_)
 refine c_seq (fun K1 hK1 => c_region (tp rfl (lv_assign rfl) (t_done (q_then_n (hK1 _ _ (c_seq (fun K2 hK2 => c_seq (fun K3 hK3 => c_region (tp rfl (lv_move rfl) (tp rfl (lv_nilCheck rfl) ?_))))))))))
 refine tp rfl (lv_fieldAddr (o' := 0) Tryz.underlying92 rfl Tryz.sizeOf3 rfl rfl) (tp rfl (lv_load Tryz.isAgg3 rfl (gives_blk (.head _) rfl)) ?_)
 by_cases h1 : x.st = 2
 · refine tp rfl (lv_neq rfl rfl (bne_eq_false_iff_eq.2 h1)) (tp rfl (lv_move rfl) ?_)
   refine t_guard rfl rfl ?_
   refine tp rfl (lv_move rfl) ?_
   refine t_guard rfl rfl ?_
   refine tp rfl (lv_move rfl) ?_
   refine t_guard rfl rfl ?_
   refine tp rfl (lv_nilCheck rfl) ?_
   refine t_guard rfl rfl ?_
   refine tp rfl (lv_fieldAddr (o' := 1) Tryz.underlying92 rfl Tryz.sizeOf3 rfl rfl) ?_
   refine t_guard rfl rfl ?_
   refine tp rfl (lv_load Tryz.isAgg3 rfl (gives_blk (.head _) rfl)) ?_
   refine t_guard rfl rfl ?_
   by_cases h2 : e = x.ep
   · refine tp rfl (lv_neq rfl rfl (bne_eq_false_iff_eq.2 h2)) (tp rfl (lv_pick_f rfl rfl) (t_done (q_then_n (hK3 _ _ (c_false rfl (c_skip (q_then_n (hK2 _ _ (c_seq (fun K4 hK4 => c_region (tp rfl (lv_assign rfl) ?_)))))))))))
     refine t_done (q_then_n (hK4 _ _ (c_ret ?_)))
     refine q_ret rfl rfl ?_
     exact ⟨by unfold rightE; first | rw [if_pos (by omega)] | rw [if_neg (by omega)], rfl⟩
   · refine tp rfl (lv_neq rfl rfl (bne_iff_ne.2 h2)) (tp rfl (lv_pick_f rfl rfl) (t_done (q_then_n (hK3 _ _ (c_true rfl (c_seq (fun K4 hK4 => c_region (tp rfl (lv_assign rfl) (t_done (q_then_n (hK4 _ _ ?_)))))))))))
     refine c_ret ?_
     refine q_then_r ?_
     refine q_ret rfl rfl ?_
     exact ⟨by unfold rightE; first | rw [if_pos (by omega)] | rw [if_neg (by omega)], rfl⟩
 · refine tp rfl (lv_neq rfl rfl (bne_iff_ne.2 h1)) (tp rfl (lv_move rfl) ?_)
   refine t_skip rfl rfl rfl ?_
   refine t_skip rfl rfl rfl ?_
   refine t_skip rfl rfl rfl ?_
   refine t_skip rfl rfl rfl ?_
   refine t_skip rfl rfl rfl ?_
   refine t_skip rfl rfl rfl ?_
   refine tp rfl (lv_pick_t rfl rfl) (t_done (q_then_n (hK3 _ _ (c_true rfl (c_seq (fun K4 hK4 => c_region (tp rfl (lv_assign rfl) (t_done (q_then_n (hK4 _ _ (c_ret ?_)))))))))))
   refine q_then_r ?_
   refine q_ret rfl rfl ?_
   exact ⟨by unfold rightE; first | rw [if_pos (by omega)] | rw [if_neg (by omega)], rfl⟩
theorem lWant_ok {R : List HP} {p : Nat} (x : Lf) (hx : LfOk x) :
    Ok Tryz.prog 76 [(.pointer (some ⟨p, 0, none⟩))] ((Blk p [(.int .i64 x.st), (.int .i64 x.ep), (.int .i64 x.ms), (.int .i64 x.sp), (.int .i64 x.tr), (.int .i64 x.pr)] 92) :: R)
      (fun v M => v = .int .i64 (if x.st = 0 then 0 else 8) ∧ M = Blk p (lfC (wantF x)) 92 :: R) := by
 refine ok_of (N := 7) Tryz.func76 rfl rfl rfl (fun W => ?_)
 refine c_seq (fun K1 hK1 => c_region (tp rfl (lv_assign rfl) (t_done (q_then_n (hK1 _ _ (c_seq (fun K2 hK2 => c_region (tp rfl (lv_move rfl) ?_))))))))
 refine tm rfl (mv_buildSlice (cs := [(.int .i64 0)]) Tryz.underlying34 Tryz.sizeOf3 Tryz.zeroValue3 (by decide) rfl rfl rfl rfl) ?_
 rintro _ _ ⟨bs1, cp2, hok3, hle4, rfl, rfl⟩
 refine tc rfl (en_fn Tryz.call90 rfl) (lof_ok [0] (by decide) (rd_sl (.head _)) hok3) ?_
 rintro _ _ ⟨rfl, rfl⟩
 rw [show ofM [0] = 1 from by decide]
 refine t_f1 ?_
 refine tc rfl (en_fn Tryz.call89 rfl) (lstep_ok (v1 := (.int .i64 x.ep)) (v2 := (.int .i64 x.ms)) (v3 := (.int .i64 x.sp)) (v4 := (.int .i64 x.tr)) (v5 := (.int .i64 x.pr)) 1 1 x.st hx.s0) ?_
 rintro _ _ ⟨rfl, rfl⟩
 refine tp rfl (lv_assign rfl) (t_done (q_then_n (hK2 _ _ (c_ret (t_f1 (t_drop ?_))))))
 refine q_ret rfl rfl ?_
 rw [stE_1 hx.s0 hx.s7]
 by_cases e : x.st = 0
 · simp [wantF, goL, e, lfC]
 · simp [wantF, goL, e, lfC]
theorem lWake_ok {R : List HP} {p : Nat} (x : Lf) (hx : LfOk x) :
    Ok Tryz.prog 148 [(.pointer (some ⟨p, 0, none⟩))] ((Blk p [(.int .i64 x.st), (.int .i64 x.ep), (.int .i64 x.ms), (.int .i64 x.sp), (.int .i64 x.tr), (.int .i64 x.pr)] 92) :: R)
      (fun v M => v = .int .i64 (if x.st = 3 then 0 else 8) ∧ M = Blk p (lfC (wakeL x)) 92 :: R) := by
 refine ok_of (N := 7) Tryz.func148 rfl rfl rfl (fun W => ?_)
 refine c_seq (fun K1 hK1 => c_region (tp rfl (lv_assign rfl) (t_done (q_then_n (hK1 _ _ (c_seq (fun K2 hK2 => c_region (tp rfl (lv_move rfl) ?_))))))))
 refine tm rfl (mv_buildSlice (cs := [(.int .i64 3)]) Tryz.underlying34 Tryz.sizeOf3 Tryz.zeroValue3 (by decide) rfl rfl rfl rfl) ?_
 rintro _ _ ⟨bs1, cp2, hok3, hle4, rfl, rfl⟩
 refine tc rfl (en_fn Tryz.call90 rfl) (lof_ok [3] (by decide) (rd_sl (.head _)) hok3) ?_
 rintro _ _ ⟨rfl, rfl⟩
 rw [show ofM [3] = 8 from by decide]
 refine t_f1 ?_
 refine tc rfl (en_fn Tryz.call89 rfl) (lstep_ok (v1 := (.int .i64 x.ep)) (v2 := (.int .i64 x.ms)) (v3 := (.int .i64 x.sp)) (v4 := (.int .i64 x.tr)) (v5 := (.int .i64 x.pr)) 8 1 x.st hx.s0) ?_
 rintro _ _ ⟨rfl, rfl⟩
 refine tp rfl (lv_assign rfl) (t_done (q_then_n (hK2 _ _ (c_ret (t_f1 (t_drop ?_))))))
 refine q_ret rfl rfl ?_
 rw [stE_8 hx.s0 hx.s7]
 by_cases e : x.st = 3
 · simp [wakeL, goL, e, lfC]
 · simp [wakeL, goL, e, lfC]
theorem lEnd_ok {R : List HP} {p : Nat} (x : Lf) (hx : LfOk x) :
    Ok Tryz.prog 63 [(.pointer (some ⟨p, 0, none⟩))] ((Blk p [(.int .i64 x.st), (.int .i64 x.ep), (.int .i64 x.ms), (.int .i64 x.sp), (.int .i64 x.tr), (.int .i64 x.pr)] 92) :: R)
      (fun v M => v = .int .i64 (if x.st = 2 then 0 else 8) ∧ M = Blk p (lfC (endL x)) 92 :: R) := by
 refine ok_of (N := 7) Tryz.func63 rfl rfl rfl (fun W => ?_)
 refine c_seq (fun K1 hK1 => c_region (tp rfl (lv_assign rfl) (t_done (q_then_n (hK1 _ _ (c_seq (fun K2 hK2 => c_region (tp rfl (lv_move rfl) ?_))))))))
 refine tm rfl (mv_buildSlice (cs := [(.int .i64 2)]) Tryz.underlying34 Tryz.sizeOf3 Tryz.zeroValue3 (by decide) rfl rfl rfl rfl) ?_
 rintro _ _ ⟨bs1, cp2, hok3, hle4, rfl, rfl⟩
 refine tc rfl (en_fn Tryz.call90 rfl) (lof_ok [2] (by decide) (rd_sl (.head _)) hok3) ?_
 rintro _ _ ⟨rfl, rfl⟩
 rw [show ofM [2] = 4 from by decide]
 refine t_f1 ?_
 refine tc rfl (en_fn Tryz.call89 rfl) (lstep_ok (v1 := (.int .i64 x.ep)) (v2 := (.int .i64 x.ms)) (v3 := (.int .i64 x.sp)) (v4 := (.int .i64 x.tr)) (v5 := (.int .i64 x.pr)) 4 5 x.st hx.s0) ?_
 rintro _ _ ⟨rfl, rfl⟩
 refine tp rfl (lv_assign rfl) (t_done (q_then_n (hK2 _ _ (c_ret (t_f1 (t_drop ?_))))))
 refine q_ret rfl rfl ?_
 rw [stE_4 hx.s0 hx.s7]
 by_cases e : x.st = 2
 · simp [endL, goL, e, lfC]
 · simp [endL, goL, e, lfC]
theorem lFall_ok {R : List HP} {p : Nat} (x : Lf) (hx : LfOk x) :
    Ok Tryz.prog 118 [(.pointer (some ⟨p, 0, none⟩))] ((Blk p [(.int .i64 x.st), (.int .i64 x.ep), (.int .i64 x.ms), (.int .i64 x.sp), (.int .i64 x.tr), (.int .i64 x.pr)] 92) :: R)
      (fun v M => v = .int .i64 (if x.st = 3 ∨ x.st = 0 then 0 else 8) ∧ M = Blk p (lfC (fallL x)) 92 :: R) := by
 refine ok_of (N := 7) Tryz.func118 rfl rfl rfl (fun W => ?_)
 refine c_seq (fun K1 hK1 => c_region (tp rfl (lv_assign rfl) (t_done (q_then_n (hK1 _ _ (c_seq (fun K2 hK2 => c_region (tp rfl (lv_move rfl) ?_))))))))
 refine tm rfl (mv_buildSlice (cs := [(.int .i64 3), (.int .i64 0)]) Tryz.underlying34 Tryz.sizeOf3 Tryz.zeroValue3 (by decide) rfl rfl rfl rfl) ?_
 rintro _ _ ⟨bs1, cp2, hok3, hle4, rfl, rfl⟩
 refine tc rfl (en_fn Tryz.call90 rfl) (lof_ok [3, 0] (by decide) (rd_sl (.head _)) hok3) ?_
 rintro _ _ ⟨rfl, rfl⟩
 rw [show ofM [3, 0] = 9 from by decide]
 refine t_f1 ?_
 refine tc rfl (en_fn Tryz.call89 rfl) (lstep_ok (v1 := (.int .i64 x.ep)) (v2 := (.int .i64 x.ms)) (v3 := (.int .i64 x.sp)) (v4 := (.int .i64 x.tr)) (v5 := (.int .i64 x.pr)) 9 6 x.st hx.s0) ?_
 rintro _ _ ⟨rfl, rfl⟩
 refine tp rfl (lv_assign rfl) (t_done (q_then_n (hK2 _ _ (c_ret (t_f1 (t_drop ?_))))))
 refine q_ret rfl rfl ?_
 rw [stE_9 hx.s0 hx.s7]
 by_cases e : x.st = 3 ∨ x.st = 0
 · simp only [fallL, if_pos e, lfC, if_true, true_and]
 · simp only [fallL, if_neg e, lfC, show ((8 : Int) = 0) ↔ False from by decide, if_false, true_and]
theorem lTurn_ok {R : List HP} {p : Nat} (x : Lf) (hx : LfOk x) :
    Ok Tryz.prog 119 [(.pointer (some ⟨p, 0, none⟩))] ((Blk p [(.int .i64 x.st), (.int .i64 x.ep), (.int .i64 x.ms), (.int .i64 x.sp), (.int .i64 x.tr), (.int .i64 x.pr)] 92) :: R)
      (fun v M => v = .int .i64 (if x.st ≤ 4 then 0 else 8) ∧ M = Blk p (lfC (turnL x)) 92 :: R) := by
 refine ok_of (N := 7) Tryz.func119 rfl rfl rfl (fun W => ?_)
 refine c_seq (fun K1 hK1 => c_region (tp rfl (lv_assign rfl) (t_done (q_then_n (hK1 _ _ (c_seq (fun K2 hK2 => c_region (tp rfl (lv_move rfl) ?_))))))))
 refine tm rfl (mv_buildSlice (cs := [(.int .i64 0), (.int .i64 1), (.int .i64 2), (.int .i64 3), (.int .i64 4)]) Tryz.underlying34 Tryz.sizeOf3 Tryz.zeroValue3 (by decide) rfl rfl rfl rfl) ?_
 rintro _ _ ⟨bs1, cp2, hok3, hle4, rfl, rfl⟩
 refine tc rfl (en_fn Tryz.call90 rfl) (lof_ok [0, 1, 2, 3, 4] (by decide) (rd_sl (.head _)) hok3) ?_
 rintro _ _ ⟨rfl, rfl⟩
 rw [show ofM [0, 1, 2, 3, 4] = 31 from by decide]
 refine t_f1 ?_
 refine tc rfl (en_fn Tryz.call89 rfl) (lstep_ok (v1 := (.int .i64 x.ep)) (v2 := (.int .i64 x.ms)) (v3 := (.int .i64 x.sp)) (v4 := (.int .i64 x.tr)) (v5 := (.int .i64 x.pr)) 31 7 x.st hx.s0) ?_
 rintro _ _ ⟨rfl, rfl⟩
 refine tp rfl (lv_assign rfl) (t_done (q_then_n (hK2 _ _ (c_ret (t_f1 (t_drop ?_))))))
 refine q_ret rfl rfl ?_
 rw [stE_31 hx.s0 hx.s7]
 by_cases e : x.st ≤ 4
 · simp only [turnL, if_pos e, lfC, if_true, true_and]
 · simp only [turnL, if_neg e, lfC, show ((8 : Int) = 0) ↔ False from by decide, if_false, true_and]
set_option maxHeartbeats 4000000 in
theorem lStart_ok {R : List HP} {p : Nat} (x : Lf) (hx : LfOk x) (he : x.ep ≤ 4611686018427387904) :
    Ok Tryz.prog 108 [(.pointer (some ⟨p, 0, none⟩))] ((Blk p [(.int .i64 x.st), (.int .i64 x.ep), (.int .i64 x.ms), (.int .i64 x.sp), (.int .i64 x.tr), (.int .i64 x.pr)] 92) :: R)
      (fun v M => v = .int .i64 (if x.st = 1 then 0 else 8) ∧ M = Blk p (lfC (startL x)) 92 :: R) := by
 refine ok_of (N := 18) Tryz.func108 rfl rfl rfl (fun W => ?_)
 have hse := stE_2 hx.s0 hx.s7
 have hm1 := hx.m1
 have hp1 := hx.p1
 have hs0 := hx.s0
 have ht2 := hx.t2
 have hr1 := hx.r1
 have hm0 := hx.m0
 have hp0 := hx.p0
 have he0 := hx.e0
 refine c_seq (fun K1 hK1 => c_region (tp rfl (lv_assign rfl) (t_done (q_then_n (hK1 _ _ (c_seq (fun K2 hK2 => c_region (tp rfl (lv_move rfl) ?_))))))))
 refine tm rfl (mv_buildSlice (cs := [(.int .i64 1)]) Tryz.underlying34 Tryz.sizeOf3 Tryz.zeroValue3 (by decide) rfl rfl rfl rfl) ?_
 rintro _ _ ⟨bs1, cp2, hok3, hle4, rfl, rfl⟩
 refine tc rfl (en_fn Tryz.call90 rfl) (lof_ok [1] (by decide) (rd_sl (.head _)) hok3) ?_
 rintro _ _ ⟨rfl, rfl⟩
 rw [show ofM [1] = 2 from by decide]
 refine t_f1 ?_
 refine tc rfl (en_fn Tryz.call89 rfl) (lstep_ok (v1 := (.int .i64 x.ep)) (v2 := (.int .i64 x.ms)) (v3 := (.int .i64 x.sp)) (v4 := (.int .i64 x.tr)) (v5 := (.int .i64 x.pr)) 2 2 x.st hx.s0) ?_
 rintro _ _ ⟨rfl, rfl⟩
 refine tp rfl (lv_assign rfl) (t_done (q_then_n (hK2 _ _ (c_seq (fun K3 hK3 => c_seq (fun K4 hK4 => c_region (tp rfl (lv_move rfl) ?_)))))))
 by_cases h5 : (stE 2 x.st) = 0
 · refine tp rfl (lv_eql rfl rfl (beq_iff_eq.2 h5)) (t_done (q_then_n (hK4 _ _ (c_true rfl (c_region (tp rfl (lv_move rfl) (tp rfl (lv_nilCheck rfl) (tp rfl (lv_fieldAddr (o' := 1) Tryz.underlying92 rfl Tryz.sizeOf3 rfl rfl) (tp rfl (lv_load Tryz.isAgg3 rfl (gives_blk (.head _) rfl)) (tp rfl (lv_add (c := x.ep + 1) rfl rfl (wr_i64 (by omega) (by omega))) ?_))))))))))
   refine tp rfl (lv_nilCheck rfl) (tp rfl (lv_fieldAddr (o' := 1) Tryz.underlying92 rfl Tryz.sizeOf3 rfl rfl) ?_)
   refine ts (sv_blk Tryz.sizeOf3 rfl rfl rfl (Nat.le_of_ble_eq_true rfl) rfl) ?_
   refine t_done (q_then_n (hK3 _ _ (c_seq (fun K5 hK5 => c_region (tp rfl (lv_move rfl) (tp rfl (lv_assign rfl) (t_done (q_then_n (hK5 _ _ (c_ret (t_f1 ?_)))))))))))
   refine t_drop ?_
   refine q_ret rfl rfl ?_
   rw [hse] at *
   rcases (show x.st = 1 ∨ x.st ≠ 1 by omega) with e | e <;> rcases (show x.st < 1 ∨ 1 ≤ x.st by omega) with e2 | e2 <;> first | (exfalso; omega) | (have e3 := Int.not_le.2 e2; simp [startL, lfC, e, e2, e3]; done) | (have e3 := Int.not_lt.2 e2; simp [startL, lfC, e, e2, e3]; done) | (exfalso; simp_all; done)
 · refine tp rfl (lv_eql rfl rfl (beq_eq_false_iff_ne.2 h5)) (t_done (q_then_n (hK4 _ _ (c_false rfl (c_skip (q_then_n (hK3 _ _ (c_seq (fun K5 hK5 => c_region (tp rfl (lv_move rfl) (tp rfl (lv_assign rfl) ?_)))))))))))
   refine t_done (q_then_n (hK5 _ _ (c_ret (t_f1 (t_drop ?_)))))
   refine q_ret rfl rfl ?_
   rw [hse] at *
   rcases (show x.st = 1 ∨ x.st ≠ 1 by omega) with e | e <;> rcases (show x.st < 1 ∨ 1 ≤ x.st by omega) with e2 | e2 <;> first | (exfalso; omega) | (have e3 := Int.not_le.2 e2; simp [startL, lfC, e, e2, e3]; done) | (have e3 := Int.not_lt.2 e2; simp [startL, lfC, e, e2, e3]; done) | (exfalso; simp_all; done)
theorem lNew_ok {R : List HP} (t q : Int) :
    Ok Tryz.prog 41 [(.int .i64 t), (.int .i64 q)] R
      (fun v M => ∃ p, v = .pointer (some ⟨p, 0, none⟩) ∧ M = Blk p (lfC ⟨0, 0, 0, 0, max t 1, max q 0⟩) 92 :: R) := by
 refine ok_of (N := 11) Tryz.func41 rfl rfl rfl (fun W => ?_)
 refine c_seq (fun K1 hK1 => c_region (tp rfl (lv_assign rfl) (t_done (q_then_n (hK1 _ _ (c_seq (fun K2 hK2 => c_region (tp rfl (lv_move rfl) (tp rfl (lv_max (c := max t 1) rfl rfl rfl) (tp rfl (lv_move rfl) ?_))))))))))
 refine tp rfl (lv_max (c := max q 0) rfl rfl rfl) (tp rfl (lv_build (cs := [(.int .i64 0), (.int .i64 0), (.int .i64 0), (.int .i64 0), (.int .i64 (max t 1)), (.int .i64 (max q 0))]) (pl := [(0, 1), (1, 1), (2, 1), (3, 1), (4, 1), (5, 1)]) Tryz.underlying92 Tryz.zeroValue92 (fun _ => by simp) rfl rfl) ?_)
 refine tm rfl (mv_box rfl rfl) ?_
 rintro _ _ ⟨b1, rfl, rfl⟩
 refine tp rfl (lv_assign rfl) (t_done (q_then_n (hK2 _ _ (c_ret ?_))))
 refine q_ret rfl rfl ?_
 exact ⟨_, rfl, rfl⟩
end Go.Proofs.YtanfdikglplkaaaGreatDoor
