/- The document's priorities: contracts. -/
import Derived.Test.YtlkcgpcgnhdnmaaDoorRr
set_option maxRecDepth 100000
set_option linter.unusedVariables false
set_option linter.unusedSimpArgs false
namespace Go.Proofs.YtlkcgpcgnhdnmaaDoor
open Go Go.Proofs Sp
set_option maxHeartbeats 4000000 in
theorem rreached_ok {R : List HP} {p N nr cl cq : Nat} {bl bq : Option Addr} {es : Es} (rs : List R3) (t : Int) (hn : rs.length = nr) (hq : Rd R bq (recs triF rs)) (okq : SlOk bq nr) (lr : nr ≤ 1000000) (okl : SlOk bl es.length) (hE : es.length ≤ 1000) (hg : GOk N es) :
    Ok Tryd.prog 14 [(.pointer (some ⟨p, 0, none⟩)), (.slice bq nr cq), (.int .i64 t)] ((Blk p [(.int .i64 ((N : Nat) : Int)), (.slice bl es.length cl)] 36) :: (SlV 58 2 (.slice bl es.length cl) es.length (pairs es)) :: R)
      (OutSl 3 1 (rchN N es rs t nr).length (ints .i64 (rchN N es rs t nr)) (Blk p [.int .i64 ((N : Nat) : Int), .slice bl es.length cl] 36 :: SlV 58 2 (.slice bl es.length cl) es.length (pairs es) :: R)) := by
  refine ok_of (N := 31) Tryd.func14 rfl rfl rfl (fun W => ?_)
  refine c_seq (fun K1 hK1 => ?_)
  refine c_region ?_
  refine tp rfl (lv_assign rfl) ?_
  refine t_done ?_
  refine q_then_n (hK1 _ _ ?_)
  refine c_seq (fun K2 hK2 => ?_)
  refine c_region ?_
  refine tm rfl (mv_buildSlice (cs := []) Tryd.underlying38 Tryd.sizeOf3 Tryd.zeroValue3 (by decide) rfl rfl rfl rfl) ?_
  rintro _ _ ⟨bs1, cp2, hok3, hle4, rfl, rfl⟩
  refine tp rfl (lv_assign rfl) ?_
  refine t_done ?_
  refine q_then_n (hK2 _ _ ?_)
  refine c_seq (fun K3 hK3 => ?_)
  refine c_seq (fun K4 hK4 => ?_)
  refine c_region ?_
  refine tp rfl (lv_assign rfl) ?_
  refine t_done ?_
  refine q_then_n (hK4 _ _ ?_)
  refine c_block ?_
  refine c_loop (γ := (Nat) × (List Int) × (Option Addr) × (Nat)) (fun (k, qs, bt, ct) => k ≤ nr ∧ rchN N es rs t k = qs ∧ SlOk bt qs.length ∧ qs.length ≤ ct) (fun (k, qs, bt, ct) => [(0, (.pointer (some ⟨p, 0, none⟩))), (1, (.slice bq nr cq)), (2, (.int .i64 t)), (6, (.slice none 0 0)), (7, (.slice bt qs.length ct)), (8, (.int .i64 ((k : Nat) : Int)))]) (fun (k, qs, bt, ct) => (SlV 3 1 (.slice bt qs.length ct) qs.length (ints .i64 qs)) :: (Blk p [(.int .i64 ((N : Nat) : Int)), (.slice bl es.length cl)] 36) :: (SlV 58 2 (.slice bl es.length cl) es.length (pairs es)) :: R) (fun (k, qs, bt, ct) => nr - k) (0, [], bs1, cp2) ⟨by omega, rfl, hok3, hle4⟩ ⟨rfl, rfl, rfl, rfl, rfl, rfl, trivial⟩ (fun _ h => h) ?_
  rintro ⟨k, qs, bt, ct⟩ K5 hF hK5
  try dsimp only at hF hK5 ⊢
  obtain ⟨hk, hqq, hok, hle⟩ := hF
  have hql := rchN_len N es rs t k
  rw [hqq] at hql
  refine c_seq (fun K6 hK6 => ?_)
  refine c_seq (fun K7 hK7 => ?_)
  refine c_region ?_
  refine tp rfl (lv_move rfl) ?_
  refine tp rfl (lv_move rfl) ?_
  refine tp rfl (lv_len Tryd.underlying23 rfl rfl) ?_
  by_cases h5 : ((k : Nat) : Int) < ((nr : Nat) : Int)
  · -- yes
    refine tp rfl (lv_lss rfl rfl (decide_eq_true h5)) ?_
    refine t_done ?_
    refine q_then_n (hK7 _ _ ?_)
    refine c_true rfl ?_
    refine c_skip ?_
    refine q_then_n (hK6 _ _ ?_)
    refine c_seq (fun K8 hK8 => ?_)
    refine c_block ?_
    refine c_seq (fun K9 hK9 => ?_)
    refine c_region ?_
    refine tp rfl (lv_move rfl) ?_
    refine tp rfl (lv_move rfl) ?_
    refine tp rfl (lv_move rfl) ?_
    refine tp rfl (lv_indexAddr (k' := k * 3) Tryd.underlying23 Tryd.sizeOf47 rfl rfl okq (by omega) (by omega) (by omega)) ?_
    refine tp rfl (lv_fieldAddr_ad (o' := k * 3) Tryd.underlying47 rfl Tryd.sizeOf3 rfl rfl) ?_
    refine tp rfl (lv_load Tryd.isAgg3 rfl (Rd.gives (Rd.cons (Rd.cons (Rd.cons hq))) ((recs_get (k := k) (j := 0) triF_len (d := R3.d) (by omega) (Nat.le_of_ble_eq_true rfl)).trans rfl))) ?_
    refine tp rfl (lv_move rfl) ?_
    refine t_f2 ?_
    refine t_f2 ?_
    refine tc rfl (en_fn Tryd.call26 rfl) (rreaches_ok (N := N) (es := es) ((rs.getD k R3.d).x) t okl hE hg) ?_
    rintro _ _ ⟨rfl, rfl⟩
    refine tp rfl (lv_assign rfl) ?_
    refine t_done ?_
    refine q_then_n (hK9 _ _ ?_)
    refine c_seq (fun K10 hK10 => ?_)
    refine c_region ?_
    refine tp rfl (lv_move rfl) ?_
    refine t_done ?_
    refine q_then_n (hK10 _ _ ?_)
    refine c_split rfl (fun c6 => ?_) (fun c6 => ?_)
    · -- true
      refine c_region ?_
      refine tp rfl (lv_move rfl) ?_
      refine tp rfl (lv_move rfl) ?_
      refine tm rfl (mv_buildSlice (cs := [(.int .i64 ((k : Nat) : Int))]) Tryd.underlying38 Tryd.sizeOf3 Tryd.zeroValue3 (by decide) rfl rfl rfl rfl) ?_
      rintro _ _ ⟨bs7, cp8, hok9, hle10, rfl, rfl⟩
      refine t_f3 ?_
      refine tm rfl (mv_append (i := Tryd.t3) Tryd.underlying38 Tryd.type3 rfl rfl rfl (by decide) rfl rfl hok9 (by first | (simp; done) | (simp; omega)) (rd_sl (.tail _ (.head _))) (by simp [Value.oneCell']) (by rw [show Tryd.t3.bytes = 8 from rfl]; omega)) ?_
      rintro _ _ ⟨bs11, cp12, hok13, hle14, rfl, rfl⟩
      rw [show ints .i64 qs ++ [(.int .i64 ((k : Nat) : Int))] = ints .i64 (qs ++ [((k : Nat) : Int)]) from ints_snoc _ _ _]
      rw [show qs.length + 1 = (qs ++ [((k : Nat) : Int)]).length from by simp] at hok13 hle14 ⊢
      refine tp rfl (lv_assign rfl) ?_
      refine t_done ?_
      refine q_in_n ?_
      refine q_then_n (hK8 _ _ ?_)
      refine c_region ?_
      refine tp rfl (lv_move rfl) ?_
      refine tp rfl (lv_add (c := ((k + 1 : Nat) : Int)) rfl rfl (wr_i64_succ (by omega))) ?_
      refine tp rfl (lv_assign rfl) ?_
      refine t_done ?_
      refine q_then_n ?_
      refine t_f1 ?_
      refine t_drop ?_
      exact t_weak (by exact ⟨rfl, rfl, rfl, rfl, rfl, rfl, trivial⟩) ((hK5 (k + 1, qs ++ [((k : Nat) : Int)], bs11, cp12) ⟨by omega, rch_yes hqq ‹reachB N es (rs.getD k R3.d).x t = true›, hok13, hle14⟩ (by dsimp only; omega)))
    · -- false
      refine c_skip ?_
      refine q_in_n ?_
      refine q_then_n (hK8 _ _ ?_)
      refine c_region ?_
      refine tp rfl (lv_move rfl) ?_
      refine tp rfl (lv_add (c := ((k + 1 : Nat) : Int)) rfl rfl (wr_i64_succ (by omega))) ?_
      refine tp rfl (lv_assign rfl) ?_
      refine t_done ?_
      refine q_then_n ?_
      refine t_f1 ?_
      refine t_f1 ?_
      refine t_f2 ?_
      exact t_weak (by exact ⟨rfl, rfl, rfl, rfl, rfl, rfl, trivial⟩) ((hK5 (k + 1, qs, bt, ct) ⟨by omega, rch_no hqq ‹reachB N es (rs.getD k R3.d).x t = false›, hok, hle⟩ (by dsimp only; omega)))
  · -- no
    refine tp rfl (lv_lss rfl rfl (decide_eq_false h5)) ?_
    refine t_done ?_
    refine q_then_n (hK7 _ _ ?_)
    refine c_false rfl ?_
    refine c_exit ?_
    refine q_then_x ?_
    refine q_then_x ?_
    refine q_in_x ?_
    refine q_then_n (hK3 _ _ ?_)
    refine c_seq (fun K8 hK8 => ?_)
    refine c_region ?_
    refine tp rfl (lv_move rfl) ?_
    refine tp rfl (lv_assign rfl) ?_
    refine t_done ?_
    refine q_then_n (hK8 _ _ ?_)
    refine c_ret ?_
    refine q_ret rfl rfl ?_
    have e : k = nr := by omega
    subst e
    rw [hqq]
    exact ⟨bt, ct, hok, hle, rfl, rfl⟩

set_option maxHeartbeats 4000000 in
theorem rof_ok {R : List HP} {p N nr cl cq : Nat} {bl bq : Option Addr} {es : Es} (rs : List R3) (hn : rs.length = nr) (hq : Rd R bq (recs triF rs)) (okq : SlOk bq nr) (lr : nr ≤ 1000000) (okl : SlOk bl es.length) (hE : es.length ≤ 1000) (hg : GOk N es) :
    Ok Tryd.prog 16 [(.pointer (some ⟨p, 0, none⟩)), (.slice bq nr cq)] ((Blk p [(.int .i64 ((N : Nat) : Int)), (.slice bl es.length cl)] 36) :: (SlV 58 2 (.slice bl es.length cl) es.length (pairs es)) :: R)
      (OutSl 3 1 N (ints .i64 (ofL N es rs)) (Blk p [.int .i64 ((N : Nat) : Int), .slice bl es.length cl] 36 :: SlV 58 2 (.slice bl es.length cl) es.length (pairs es) :: R)) := by
  refine ok_of (N := 44) Tryd.func16 rfl rfl rfl (fun W => ?_)
  refine c_seq (fun K1 hK1 => ?_)
  refine c_region ?_
  refine tp rfl (lv_assign rfl) ?_
  refine t_done ?_
  refine q_then_n (hK1 _ _ ?_)
  refine c_seq (fun K2 hK2 => ?_)
  refine c_region ?_
  refine tm rfl (mv_buildSlice (cs := []) Tryd.underlying38 Tryd.sizeOf3 Tryd.zeroValue3 (by decide) rfl rfl rfl rfl) ?_
  rintro _ _ ⟨bs1, cp2, hok3, hle4, rfl, rfl⟩
  refine tp rfl (lv_assign rfl) ?_
  refine t_done ?_
  refine q_then_n (hK2 _ _ ?_)
  refine c_seq (fun K3 hK3 => ?_)
  refine c_seq (fun K4 hK4 => ?_)
  refine c_region ?_
  refine tp rfl (lv_assign rfl) ?_
  refine t_done ?_
  refine q_then_n (hK4 _ _ ?_)
  refine c_block ?_
  refine c_loop (γ := (Nat) × (Option Addr) × (Nat)) (fun (x, bt, ct) => x ≤ N ∧ SlOk bt x ∧ x ≤ ct) (fun (x, bt, ct) => [(0, (.pointer (some ⟨p, 0, none⟩))), (1, (.slice bq nr cq)), (4, (.slice none 0 0)), (5, (.slice bt x ct)), (6, (.int .i64 ((x : Nat) : Int)))]) (fun (x, bt, ct) => (SlV 3 1 (.slice bt x ct) x (ints .i64 ((ofL N es rs).take x))) :: (Blk p [(.int .i64 ((N : Nat) : Int)), (.slice bl es.length cl)] 36) :: (SlV 58 2 (.slice bl es.length cl) es.length (pairs es)) :: R) (fun (x, bt, ct) => N - x) (0, bs1, cp2) ⟨by omega, hok3, hle4⟩ ⟨rfl, rfl, rfl, rfl, rfl, trivial⟩ (fun _ h => h) ?_
  rintro ⟨x, bt, ct⟩ K5 hF hK5
  try dsimp only at hF hK5 ⊢
  obtain ⟨hx, hok, hle⟩ := hF
  have hsm := hg.small
  have hfl : ((ofL N es rs).take x).length = x := by rw [List.length_take, ofL_len]; omega
  have hby := rchN_len N es rs ((x : Nat) : Int) nr
  refine c_seq (fun K6 hK6 => ?_)
  refine c_seq (fun K7 hK7 => ?_)
  refine c_region ?_
  refine tp rfl (lv_move rfl) ?_
  refine tp rfl (lv_move rfl) ?_
  refine tp rfl (lv_nilCheck rfl) ?_
  refine tp rfl (lv_fieldAddr (o' := 0) Tryd.underlying36 rfl Tryd.sizeOf3 rfl rfl) ?_
  refine tp rfl (lv_load Tryd.isAgg3 rfl (gives_blk (.tail _ (.head _)) rfl)) ?_
  by_cases h5 : ((x : Nat) : Int) < ((N : Nat) : Int)
  · -- yes
    refine tp rfl (lv_lss rfl rfl (decide_eq_true h5)) ?_
    refine t_done ?_
    refine q_then_n (hK7 _ _ ?_)
    refine c_true rfl ?_
    refine c_skip ?_
    refine q_then_n (hK6 _ _ ?_)
    refine c_seq (fun K8 hK8 => ?_)
    refine c_block ?_
    refine c_seq (fun K9 hK9 => ?_)
    refine c_region ?_
    refine tp rfl (lv_assign rfl) ?_
    refine t_done ?_
    refine q_then_n (hK9 _ _ ?_)
    refine c_seq (fun K10 hK10 => ?_)
    refine c_region ?_
    refine tp rfl (lv_move rfl) ?_
    refine tp rfl (lv_move rfl) ?_
    refine tp rfl (lv_move rfl) ?_
    refine t_f2 ?_
    refine t_f2 ?_
    refine tc rfl (en_fn Tryd.call14 rfl) (rreached_ok rs ((x : Nat) : Int) (by first | rfl | omega | (simp; done) | (simp; omega)) (Rd.cons hq) (fun hz => okq (by first | exact hz | omega)) (by first | rfl | omega | (simp; done) | (simp; omega)) okl hE hg) ?_
    rintro _ _ ⟨bs6, cp7, hok8, hle9, rfl, rfl⟩
    refine tp rfl (lv_assign rfl) ?_
    refine t_done ?_
    refine q_then_n (hK10 _ _ ?_)
    refine c_seq (fun K11 hK11 => ?_)
    refine c_seq (fun K12 hK12 => ?_)
    refine c_region ?_
    refine tp rfl (lv_assign rfl) ?_
    refine t_done ?_
    refine q_then_n (hK12 _ _ ?_)
    refine c_block ?_
    refine c_loop (γ := (Nat)) (fun (i : Nat) => i ≤ (rchN N es rs ((x : Nat) : Int) nr).length) (fun (i : Nat) => [(0, (.pointer (some ⟨p, 0, none⟩))), (1, (.slice bq nr cq)), (4, (.slice none 0 0)), (5, (.slice bt x ct)), (6, (.int .i64 ((x : Nat) : Int))), (7, (.int .i64 (pF rs (rchN N es rs ((x : Nat) : Int) nr) i))), (8, (.slice bs6 ((rchN N es rs ((x : Nat) : Int) nr).length) cp7)), (9, (.int .i64 ((i : Nat) : Int))), (16, (.bool true))]) (fun (i : Nat) => (SlV 3 1 (.slice bs6 ((rchN N es rs ((x : Nat) : Int) nr).length) cp7) ((rchN N es rs ((x : Nat) : Int) nr).length) (ints .i64 (rchN N es rs ((x : Nat) : Int) nr))) :: (Blk p [(.int .i64 ((N : Nat) : Int)), (.slice bl es.length cl)] 36) :: (SlV 58 2 (.slice bl es.length cl) es.length (pairs es)) :: (SlV 3 1 (.slice bt x ct) x (ints .i64 ((ofL N es rs).take x))) :: R) (fun (i : Nat) => (rchN N es rs ((x : Nat) : Int) nr).length - i) (0) (by omega) ⟨rfl, rfl, rfl, rfl, rfl, (by rfl), rfl, rfl, rfl, trivial⟩ (fun _ h => h) ?_
    rintro i K13 hF hK13
    try dsimp only at hF hK13 ⊢
    refine c_seq (fun K14 hK14 => ?_)
    refine c_seq (fun K15 hK15 => ?_)
    refine c_region ?_
    refine tp rfl (lv_move rfl) ?_
    refine tp rfl (lv_move rfl) ?_
    refine tp rfl (lv_len Tryd.underlying38 rfl rfl) ?_
    by_cases h10 : ((i : Nat) : Int) < (((rchN N es rs ((x : Nat) : Int) nr).length : Nat) : Int)
    · -- yes
      refine tp rfl (lv_lss rfl rfl (decide_eq_true h10)) ?_
      refine t_done ?_
      refine q_then_n (hK15 _ _ ?_)
      refine c_true rfl ?_
      refine c_skip ?_
      refine q_then_n (hK14 _ _ ?_)
      refine c_seq (fun K16 hK16 => ?_)
      refine c_block ?_
      refine c_region ?_
      obtain ⟨k0, hk0, hk1, hk2⟩ := rch_at (show i < (rchN N es rs ((x : Nat) : Int) nr).length by omega)
      have hkn : ((rchN N es rs ((x : Nat) : Int) nr).getD i 0).toNat = k0 := by omega
      refine tp rfl (lv_move rfl) ?_
      refine tp rfl (lv_move rfl) ?_
      refine tp rfl (lv_move rfl) ?_
      refine tp rfl (lv_move rfl) ?_
      refine tp rfl (lv_indexAddr (k' := i) Tryd.underlying38 Tryd.sizeOf3 rfl rfl hok8 (by omega) (by omega) (by omega)) ?_
      refine tp rfl (lv_load Tryd.isAgg3 rfl (gives_sl (.head _) (ints_get (by omega)))) ?_
      refine tp rfl (lv_indexAddr (k' := (((rchN N es rs ((x : Nat) : Int) nr).getD i 0).toNat) * 3) Tryd.underlying23 Tryd.sizeOf47 rfl rfl okq (by omega) (by omega) (by omega)) ?_
      refine tp rfl (lv_fieldAddr_ad (o' := (((rchN N es rs ((x : Nat) : Int) nr).getD i 0).toNat) * 3 + 2) Tryd.underlying47 rfl Tryd.sizeOf3 rfl rfl) ?_
      refine tp rfl (lv_load Tryd.isAgg3 rfl (Rd.gives (Rd.cons (Rd.cons (Rd.cons (Rd.cons hq)))) ((recs_get (k := (((rchN N es rs ((x : Nat) : Int) nr).getD i 0).toNat)) (j := 2) triF_len (d := R3.d) (by omega) (Nat.le_of_ble_eq_true rfl)).trans rfl))) ?_
      refine tp rfl (lv_max (c := pF rs (rchN N es rs ((x : Nat) : Int) nr) (i + 1)) rfl rfl (pF_succ (by omega)).symm) ?_
      refine tp rfl (lv_assign rfl) ?_
      refine t_done ?_
      refine q_in_n ?_
      refine q_then_n (hK16 _ _ ?_)
      refine c_region ?_
      refine tp rfl (lv_move rfl) ?_
      refine tp rfl (lv_add (c := ((i + 1 : Nat) : Int)) rfl rfl (wr_i64_succ (by omega))) ?_
      refine tp rfl (lv_assign rfl) ?_
      refine t_done ?_
      refine q_then_n ?_
      exact t_weak (by exact ⟨rfl, rfl, rfl, rfl, rfl, rfl, rfl, rfl, rfl, trivial⟩) ((hK13 (i + 1) (by omega) (by omega)))
    · -- no
      refine tp rfl (lv_lss rfl rfl (decide_eq_false h10)) ?_
      refine t_done ?_
      refine q_then_n (hK15 _ _ ?_)
      refine c_false rfl ?_
      refine c_exit ?_
      refine q_then_x ?_
      refine q_then_x ?_
      refine q_in_x ?_
      refine q_then_n (hK11 _ _ ?_)
      refine c_region ?_
      refine tp rfl (lv_move rfl) ?_
      refine tp rfl (lv_move rfl) ?_
      refine tm rfl (mv_buildSlice (cs := [(.int .i64 (pF rs (rchN N es rs ((x : Nat) : Int) nr) i))]) Tryd.underlying38 Tryd.sizeOf3 Tryd.zeroValue3 (by decide) rfl rfl rfl rfl) ?_
      rintro _ _ ⟨bs11, cp12, hok13, hle14, rfl, rfl⟩
      refine t_f4 ?_
      refine tm rfl (mv_append (i := Tryd.t3) Tryd.underlying38 Tryd.type3 rfl rfl rfl (by decide) rfl rfl hok13 (by first | (simp; done) | (simp; omega)) (rd_sl (.tail _ (.head _))) (by simp [Value.oneCell']) (by rw [show Tryd.t3.bytes = 8 from rfl]; omega)) ?_
      rintro _ _ ⟨bs15, cp16, hok17, hle18, rfl, rfl⟩
      rw [show ints .i64 ((ofL N es rs).take x) ++ [(.int .i64 (pF rs (rchN N es rs ((x : Nat) : Int) nr) i))] = ints .i64 (((ofL N es rs).take x) ++ [pF rs (rchN N es rs ((x : Nat) : Int) nr) i]) from ints_snoc _ _ _]
      refine tp rfl (lv_assign rfl) ?_
      refine t_done ?_
      refine q_in_n ?_
      refine q_then_n (hK8 _ _ ?_)
      refine c_region ?_
      refine tp rfl (lv_move rfl) ?_
      refine tp rfl (lv_add (c := ((x + 1 : Nat) : Int)) rfl rfl (wr_i64_succ (by omega))) ?_
      refine tp rfl (lv_assign rfl) ?_
      refine t_done ?_
      refine q_then_n ?_
      refine t_f1 ?_
      refine t_drop ?_
      refine t_f1 ?_
      refine t_drop ?_
      rw [show ((ofL N es rs).take x) ++ [pF rs (rchN N es rs ((x : Nat) : Int) nr) i] = (ofL N es rs).take (x + 1) from by rw [pF_end hn (by omega)]; exact (ofL_succ (by omega)).symm]
      exact t_weak (by exact ⟨rfl, rfl, rfl, rfl, rfl, trivial⟩) ((hK5 (x + 1, bs15, cp16) ⟨by omega, hok17, hle18⟩ (by dsimp only; omega)))
  · -- no
    refine tp rfl (lv_lss rfl rfl (decide_eq_false h5)) ?_
    refine t_done ?_
    refine q_then_n (hK7 _ _ ?_)
    refine c_false rfl ?_
    refine c_exit ?_
    refine q_then_x ?_
    refine q_then_x ?_
    refine q_in_x ?_
    refine q_then_n (hK3 _ _ ?_)
    refine c_seq (fun K8 hK8 => ?_)
    refine c_region ?_
    refine tp rfl (lv_move rfl) ?_
    refine tp rfl (lv_assign rfl) ?_
    refine t_done ?_
    refine q_then_n (hK8 _ _ ?_)
    refine c_ret ?_
    refine q_ret rfl rfl ?_
    have e : x = N := by omega
    subst e
    rw [show (ofL x es rs).take x = ofL x es rs from List.take_of_length_le (by rw [ofL_len]; omega)]
    exact ⟨bt, ct, hok, hle, rfl, rfl⟩

set_option maxHeartbeats 4000000 in
theorem rraised_ok {R : List HP} {p N nr cl cq : Nat} {bl bq : Option Addr} {es : Es} (rs : List R3) (a b : Int) (hn : rs.length = nr) (hq : Rd R bq (recs triF rs)) (okq : SlOk bq nr) (lr : nr ≤ 1000000) (okl : SlOk bl es.length) (hE : es.length ≤ 999) (hg : GOk N es) :
    Ok Tryd.prog 18 [(.pointer (some ⟨p, 0, none⟩)), (.slice bq nr cq), (.int .i64 a), (.int .i64 b)] ((Blk p [(.int .i64 ((N : Nat) : Int)), (.slice bl es.length cl)] 36) :: (SlV 58 2 (.slice bl es.length cl) es.length (pairs es)) :: R)
      (OutSl 3 1 (raisedL N es rs a b).length (ints .i64 (raisedL N es rs a b)) (Blk p [.int .i64 ((N : Nat) : Int), .slice bl es.length cl] 36 :: SlV 58 2 (.slice bl es.length cl) es.length (pairs es) :: R)) := by
  refine ok_of (N := 59) Tryd.func18 rfl rfl rfl (fun W => ?_)
  refine c_seq (fun K1 hK1 => ?_)
  refine c_region ?_
  refine tp rfl (lv_assign rfl) ?_
  refine t_done ?_
  refine q_then_n (hK1 _ _ ?_)
  refine c_seq (fun K2 hK2 => ?_)
  refine c_region ?_
  refine tp rfl (lv_move rfl) ?_
  refine tp rfl (lv_move rfl) ?_
  refine t_f1 ?_
  refine t_f1 ?_
  refine tc rfl (en_fn Tryd.call16 rfl) (rof_ok rs  (by first | rfl | omega | (simp; done) | (simp; omega)) hq (fun hz => okq (by first | exact hz | omega)) (by first | rfl | omega | (simp; done) | (simp; omega)) okl (by omega) hg) ?_
  rintro _ _ ⟨bs1, cp2, hok3, hle4, rfl, rfl⟩
  refine tp rfl (lv_assign rfl) ?_
  refine t_done ?_
  refine q_then_n (hK2 _ _ ?_)
  refine c_seq (fun K3 hK3 => ?_)
  refine c_draw (γ := Option Addr × Nat × Option Addr × Nat × Nat) (n := 13) Tryd.mixed rfl rfl (fun (bs5, cp6, bs9, cp10, b13) S => (S 4 = true → SlOk bs5 0) ∧ (S 4 = true → 0 ≤ cp6) ∧ (S 9 = true → SlOk bs9 es.length) ∧ (S 9 = true → es.length ≤ cp10)) (fun (bs5, cp6, bs9, cp10, b13) => [(0, 17, (.pointer (some ⟨p, 0, none⟩))), (1, 18, (.pointer (some ⟨p, 0, none⟩))), (2, 19, (.pointer (some ⟨p, 0, none⟩))), (3, 20, (.int .i64 ((N : Nat) : Int))), (4, 21, (.slice bs5 0 cp6)), (5, 22, (.pointer (some ⟨p, 0, none⟩))), (6, 23, (.pointer (some ⟨p, 0, none⟩))), (7, 24, (.pointer (some ⟨p, 1, none⟩))), (8, 25, (.slice bl es.length cl)), (9, 26, (.slice bs9 es.length cp10)), (10, 27, (.agg #[(.int .i64 ((N : Nat) : Int)), (.slice bs9 es.length cp10)])), (11, 28, (.pointer (some ⟨b13, 0, none⟩))), (12, 10, (.pointer (some ⟨b13, 0, none⟩)))]) (fun (bs5, cp6, bs9, cp10, b13) S => (SlV 3 1 (.slice bs1 N cp2) N (ints .i64 (ofL N es rs))) :: (Blk p [(.int .i64 ((N : Nat) : Int)), (.slice bl es.length cl)] 36) :: (SlV 58 2 (.slice bl es.length cl) es.length (pairs es)) :: (bif S 9 then (SlV 58 2 (.slice bs9 es.length cp10) es.length (pairs es)) else (bif S 4 then (SlV 58 2 (.slice bs5 0 cp6) 0 []) else Emp)) :: (bif S 11 then (Blk b13 [(.int .i64 ((N : Nat) : Int)), (.slice bs9 es.length cp10)] 36) else Emp) :: R) (none, 0, none, 0, 0) (by simp [Nat.ble]) (fun _ h => sat_emps [_, _, _] 2 h) (fun _ _ h => h) ?_ ?_
  · -- steps
    refine ⟨?_, ?_, ?_, ?_, ?_, ?_, ?_, ?_, ?_, ?_, ?_, ?_, ?_, trivial⟩
    · -- 0
      rintro ⟨bs5, cp6, bs9, cp10, b13⟩ S hF hS D hp K hK
      try dsimp only at hF ⊢
      obtain ⟨hf0, hf1, hf2, hf3⟩ := hF
      refine d_need (small := [(0, (.pointer (some ⟨p, 0, none⟩)))]) ⟨look_b rfl rfl, trivial⟩ ?_
      refine tp rfl (lv_move rfl) ?_
      exact d_closes ⟨look_b rfl rfl, trivial⟩ 0 rfl rfl rfl hS (AgreeR.refl _) (t_sat (fun _ h => h) (hK (bs5, cp6, bs9, cp10, b13) ⟨hf0, hf1, hf2, hf3⟩))
    · -- 1
      rintro ⟨bs5, cp6, bs9, cp10, b13⟩ S hF hS D hp K hK
      try dsimp only at hF ⊢
      obtain ⟨hf0, hf1, hf2, hf3⟩ := hF
      have s0 := hp 0 rfl
      refine d_need (small := [(17, (.pointer (some ⟨p, 0, none⟩)))]) ⟨look_row rfl 0 rfl s0, trivial⟩ ?_
      refine tp rfl (lv_nilCheck rfl) ?_
      exact d_closes ⟨look_row rfl 0 rfl s0, trivial⟩ 1 rfl rfl rfl hS (AgreeR.refl _) (t_sat (fun _ h => h) (hK (bs5, cp6, bs9, cp10, b13) ⟨hf0, hf1, hf2, hf3⟩))
    · -- 2
      rintro ⟨bs5, cp6, bs9, cp10, b13⟩ S hF hS D hp K hK
      try dsimp only at hF ⊢
      obtain ⟨hf0, hf1, hf2, hf3⟩ := hF
      have s1 := hp 1 rfl
      refine d_need (small := [(18, (.pointer (some ⟨p, 0, none⟩)))]) ⟨look_row rfl 1 rfl s1, trivial⟩ ?_
      refine tp rfl (lv_fieldAddr (o' := 0) Tryd.underlying36 rfl Tryd.sizeOf3 rfl rfl) ?_
      exact d_closes ⟨look_row rfl 1 rfl s1, trivial⟩ 2 rfl rfl rfl hS (AgreeR.refl _) (t_sat (fun _ h => h) (hK (bs5, cp6, bs9, cp10, b13) ⟨hf0, hf1, hf2, hf3⟩))
    · -- 3
      rintro ⟨bs5, cp6, bs9, cp10, b13⟩ S hF hS D hp K hK
      try dsimp only at hF ⊢
      obtain ⟨hf0, hf1, hf2, hf3⟩ := hF
      have s2 := hp 2 rfl
      refine d_need (small := [(19, (.pointer (some ⟨p, 0, none⟩)))]) ⟨look_row rfl 2 rfl s2, trivial⟩ ?_
      refine tp rfl (lv_load Tryd.isAgg3 rfl (gives_blk (.tail _ (.head _)) rfl)) ?_
      exact d_closes ⟨look_row rfl 2 rfl s2, trivial⟩ 3 rfl rfl rfl hS (AgreeR.refl _) (t_sat (fun _ h => h) (hK (bs5, cp6, bs9, cp10, b13) ⟨hf0, hf1, hf2, hf3⟩))
    · -- 4
      rintro ⟨bs5, cp6, bs9, cp10, b13⟩ S hF hS D hp K hK
      try dsimp only at hF ⊢
      obtain ⟨hf0, hf1, hf2, hf3⟩ := hF
      refine d_need (small := []) trivial ?_
      refine tm rfl (mv_buildSlice (cs := []) Tryd.underlying34 Tryd.sizeOf58 Tryd.zeroValue58 (by decide) rfl rfl rfl rfl) ?_
      rintro _ _ ⟨bs5, cp6, hok7, hle8, rfl, rfl⟩
      refine t_wF (A := (SlV 58 2 (.slice bs9 es.length cp10) es.length (pairs es))) (nf hS D (k := 9) (i := 4) rfl) ?_
      refine t_sat (fun _ h => sat_put [_, _, _] h) ?_
      exact d_closes trivial 4 rfl rfl rfl hS (by exact ⟨.inl rfl, .inl rfl, .inl rfl, .inl rfl, .inr ⟨rfl, rfl, hS⟩, .inl rfl, .inl rfl, .inl rfl, .inl rfl, .inl rfl, .inl rfl, .inl rfl, .inl rfl, trivial⟩) (t_sat (fun _ h => h) (hK (bs5, cp6, bs9, cp10, b13) ⟨(fun _ => hok7), (fun _ => hle8), hf2, hf3⟩))
    · -- 5
      rintro ⟨bs5, cp6, bs9, cp10, b13⟩ S hF hS D hp K hK
      try dsimp only at hF ⊢
      obtain ⟨hf0, hf1, hf2, hf3⟩ := hF
      refine d_need (small := [(0, (.pointer (some ⟨p, 0, none⟩)))]) ⟨look_b rfl rfl, trivial⟩ ?_
      refine tp rfl (lv_move rfl) ?_
      exact d_closes ⟨look_b rfl rfl, trivial⟩ 5 rfl rfl rfl hS (AgreeR.refl _) (t_sat (fun _ h => h) (hK (bs5, cp6, bs9, cp10, b13) ⟨hf0, hf1, hf2, hf3⟩))
    · -- 6
      rintro ⟨bs5, cp6, bs9, cp10, b13⟩ S hF hS D hp K hK
      try dsimp only at hF ⊢
      obtain ⟨hf0, hf1, hf2, hf3⟩ := hF
      have s5 := hp 5 rfl
      refine d_need (small := [(22, (.pointer (some ⟨p, 0, none⟩)))]) ⟨look_row rfl 5 rfl s5, trivial⟩ ?_
      refine tp rfl (lv_nilCheck rfl) ?_
      exact d_closes ⟨look_row rfl 5 rfl s5, trivial⟩ 6 rfl rfl rfl hS (AgreeR.refl _) (t_sat (fun _ h => h) (hK (bs5, cp6, bs9, cp10, b13) ⟨hf0, hf1, hf2, hf3⟩))
    · -- 7
      rintro ⟨bs5, cp6, bs9, cp10, b13⟩ S hF hS D hp K hK
      try dsimp only at hF ⊢
      obtain ⟨hf0, hf1, hf2, hf3⟩ := hF
      have s6 := hp 6 rfl
      refine d_need (small := [(23, (.pointer (some ⟨p, 0, none⟩)))]) ⟨look_row rfl 6 rfl s6, trivial⟩ ?_
      refine tp rfl (lv_fieldAddr (o' := 1) Tryd.underlying36 rfl Tryd.sizeOf34 rfl rfl) ?_
      exact d_closes ⟨look_row rfl 6 rfl s6, trivial⟩ 7 rfl rfl rfl hS (AgreeR.refl _) (t_sat (fun _ h => h) (hK (bs5, cp6, bs9, cp10, b13) ⟨hf0, hf1, hf2, hf3⟩))
    · -- 8
      rintro ⟨bs5, cp6, bs9, cp10, b13⟩ S hF hS D hp K hK
      try dsimp only at hF ⊢
      obtain ⟨hf0, hf1, hf2, hf3⟩ := hF
      have s7 := hp 7 rfl
      refine d_need (small := [(24, (.pointer (some ⟨p, 1, none⟩)))]) ⟨look_row rfl 7 rfl s7, trivial⟩ ?_
      refine tp rfl (lv_load Tryd.isAgg34 rfl (gives_blk (.tail _ (.head _)) rfl)) ?_
      exact d_closes ⟨look_row rfl 7 rfl s7, trivial⟩ 8 rfl rfl rfl hS (AgreeR.refl _) (t_sat (fun _ h => h) (hK (bs5, cp6, bs9, cp10, b13) ⟨hf0, hf1, hf2, hf3⟩))
    · -- 9
      rintro ⟨bs5, cp6, bs9, cp10, b13⟩ S hF hS D hp K hK
      try dsimp only at hF ⊢
      obtain ⟨hf0, hf1, hf2, hf3⟩ := hF
      have s4 := hp 4 rfl
      have hok7 := hf0 s4
      have hle8 := hf1 s4
      have s8 := hp 8 rfl
      refine d_need (small := [(21, (.slice bs5 0 cp6)), (25, (.slice bl es.length cl))]) ⟨look_row rfl 4 rfl s4, look_row rfl 8 rfl s8, trivial⟩ ?_
      refine t_f3 ?_
      refine t_cF hS ?_
      refine t_cT s4 ?_
      refine tm rfl (mv_append (i := Tryd.t58) Tryd.underlying34 Tryd.type58 rfl rfl rfl (by decide) rfl rfl okl (pairs_length _) (rd_sl (.tail _ (.tail _ (.tail _ (.head _))))) pairs_one (by rw [show Tryd.t58.bytes = 16 from rfl]; omega)) ?_
      rintro _ _ ⟨bs9, cp10, hok11, hle12, rfl, rfl⟩
      simp only [Nat.zero_add] at hok11 hle12 ⊢
      rw [List.nil_append]
      refine t_f4 ?_
      refine t_cF (nf (nf hS D (k := 10) (i := 9) rfl) D (k := 11) (i := 10) rfl) ?_
      refine t_wF (A := (Blk b13 [(.int .i64 ((N : Nat) : Int)), (.slice bs9 es.length cp10)] 36)) (nf (nf hS D (k := 10) (i := 9) rfl) D (k := 11) (i := 10) rfl) ?_
      refine t_f1 ?_
      refine t_f4 ?_
      refine t_f4 ?_
      refine t_f4 ?_
      exact d_closes ⟨look_row rfl 4 rfl s4, look_row rfl 8 rfl s8, trivial⟩ 9 rfl rfl rfl hS (by exact ⟨.inl rfl, .inl rfl, .inl rfl, .inl rfl, .inl rfl, .inl rfl, .inl rfl, .inl rfl, .inl rfl, .inr ⟨rfl, rfl, hS⟩, .inr ⟨rfl, rfl, (nf hS D (k := 10) (i := 9) rfl)⟩, .inl rfl, .inl rfl, trivial⟩) (t_sat (fun _ h => h) (hK (bs5, cp6, bs9, cp10, b13) ⟨hf0, hf1, (fun _ => hok11), (fun _ => hle12)⟩))
    · -- 10
      rintro ⟨bs5, cp6, bs9, cp10, b13⟩ S hF hS D hp K hK
      try dsimp only at hF ⊢
      obtain ⟨hf0, hf1, hf2, hf3⟩ := hF
      have s9 := hp 9 rfl
      have s4 := D 9 4 rfl s9
      have hok7 := hf0 s4
      have hle8 := hf1 s4
      have hok11 := hf2 s9
      have hle12 := hf3 s9
      have s3 := hp 3 rfl
      refine d_need (small := [(20, (.int .i64 ((N : Nat) : Int))), (26, (.slice bs9 es.length cp10))]) ⟨look_row rfl 3 rfl s3, look_row rfl 9 rfl s9, trivial⟩ ?_
      refine tp rfl (lv_build (cs := [(.int .i64 ((N : Nat) : Int)), (.slice bs9 es.length cp10)]) (pl := [(0, 1), (1, 1)]) Tryd.underlying36 Tryd.zeroValue36 (fun _ => by simp) rfl rfl) ?_
      exact d_closes ⟨look_row rfl 3 rfl s3, look_row rfl 9 rfl s9, trivial⟩ 10 rfl rfl rfl hS (AgreeR.refl _) (t_sat (fun _ h => h) (hK (bs5, cp6, bs9, cp10, b13) ⟨hf0, hf1, hf2, hf3⟩))
    · -- 11
      rintro ⟨bs5, cp6, bs9, cp10, b13⟩ S hF hS D hp K hK
      try dsimp only at hF ⊢
      obtain ⟨hf0, hf1, hf2, hf3⟩ := hF
      have s10 := hp 10 rfl
      have s9 := D 10 9 rfl s10
      have s4 := D 9 4 rfl s9
      have hok7 := hf0 s4
      have hle8 := hf1 s4
      have hok11 := hf2 s9
      have hle12 := hf3 s9
      refine d_need (small := [(27, (.agg #[(.int .i64 ((N : Nat) : Int)), (.slice bs9 es.length cp10)]))]) ⟨look_row rfl 10 rfl s10, trivial⟩ ?_
      refine tm rfl (mv_box rfl rfl) ?_
      rintro _ _ ⟨b13, rfl, rfl⟩
      refine t_sat (fun _ h => sat_put [_, _, _, _] h) ?_
      exact d_closes ⟨look_row rfl 10 rfl s10, trivial⟩ 11 rfl rfl rfl hS (by exact ⟨.inl rfl, .inl rfl, .inl rfl, .inl rfl, .inl rfl, .inl rfl, .inl rfl, .inl rfl, .inl rfl, .inl rfl, .inl rfl, .inr ⟨rfl, rfl, hS⟩, .inr ⟨rfl, rfl, (nf hS D (k := 12) (i := 11) rfl)⟩, trivial⟩) (t_sat (fun _ h => h) (hK (bs5, cp6, bs9, cp10, b13) ⟨hf0, hf1, hf2, hf3⟩))
    · -- 12
      rintro ⟨bs5, cp6, bs9, cp10, b13⟩ S hF hS D hp K hK
      try dsimp only at hF ⊢
      obtain ⟨hf0, hf1, hf2, hf3⟩ := hF
      have s11 := hp 11 rfl
      refine d_need (small := [(28, (.pointer (some ⟨b13, 0, none⟩)))]) ⟨look_row rfl 11 rfl s11, trivial⟩ ?_
      refine tp rfl (lv_assign rfl) ?_
      exact d_closes ⟨look_row rfl 11 rfl s11, trivial⟩ 12 rfl rfl rfl hS (AgreeR.refl _) (t_sat (fun _ h => h) (hK (bs5, cp6, bs9, cp10, b13) ⟨hf0, hf1, hf2, hf3⟩))
  · -- behind
    rintro ⟨bs5, cp6, bs9, cp10, b13⟩ hF
    try dsimp only at hF ⊢
    obtain ⟨hf0, hf1, hf2, hf3⟩ := hF
    have hok7 := hf0 rfl
    have hle8 := hf1 rfl
    have hok11 := hf2 rfl
    have hle12 := hf3 rfl
    refine t_weak (E' := [(0, (.pointer (some ⟨p, 0, none⟩))), (1, (.slice bq nr cq)), (2, (.int .i64 a)), (3, (.int .i64 b)), (8, (.slice none 0 0)), (9, (.slice bs1 N cp2)), (10, (.pointer (some ⟨b13, 0, none⟩)))]) ⟨rfl, rfl, rfl, rfl, rfl, rfl, rfl, trivial⟩ ?_
    refine q_then_n (hK3 _ _ ?_)
    refine c_seq (fun K4 hK4 => ?_)
    refine c_region ?_
    refine t_f3 ?_
    refine t_f4 ?_
    refine t_shutR hok11 hle12 ?_
    refine tp rfl (lv_move rfl) ?_
    refine tp rfl (lv_move rfl) ?_
    refine tp rfl (lv_move rfl) ?_
    refine tc rfl (en_fn Tryd.call11 rfl) (radd_ok (N := N) (es := es) a b (by omega)) ?_
    rintro _ _ ⟨rfl, rfl⟩
    refine t_done ?_
    refine q_then_n (hK4 _ _ ?_)
    refine c_seq (fun K5 hK5 => ?_)
    refine c_region ?_
    refine t_openR (fun bs14 cp15 hok16 hle17 => ?_)
    have hEa := addE_len N es a b
    refine tp rfl (lv_move rfl) ?_
    refine tp rfl (lv_move rfl) ?_
    refine t_f1 ?_
    refine t_f1 ?_
    refine tc rfl (en_fn Tryd.call16 rfl) (rof_ok rs  (by first | rfl | omega | (simp; done) | (simp; omega)) (Rd.cons (Rd.cons (Rd.cons hq))) (fun hz => okq (by first | exact hz | omega)) (by first | rfl | omega | (simp; done) | (simp; omega)) hok16 (by omega) (hg.add a b)) ?_
    rintro _ _ ⟨bs18, cp19, hok20, hle21, rfl, rfl⟩
    refine tp rfl (lv_assign rfl) ?_
    refine t_done ?_
    refine q_then_n (hK5 _ _ ?_)
    refine c_seq (fun K6 hK6 => ?_)
    refine c_region ?_
    refine tm rfl (mv_buildSlice (cs := []) Tryd.underlying38 Tryd.sizeOf3 Tryd.zeroValue3 (by decide) rfl rfl rfl rfl) ?_
    rintro _ _ ⟨bs22, cp23, hok24, hle25, rfl, rfl⟩
    refine tp rfl (lv_assign rfl) ?_
    refine t_done ?_
    refine q_then_n (hK6 _ _ ?_)
    refine c_seq (fun K7 hK7 => ?_)
    refine c_seq (fun K8 hK8 => ?_)
    refine c_region ?_
    refine tp rfl (lv_assign rfl) ?_
    refine t_done ?_
    refine q_then_n (hK8 _ _ ?_)
    refine c_block ?_
    refine c_loop (γ := (Nat) × (Option Addr) × (Nat)) (fun (x, bt, ct) => x ≤ N ∧ SlOk bt (diffN (ofL N es rs) (ofL N (addE N es a b) rs) x).length ∧ (diffN (ofL N es rs) (ofL N (addE N es a b) rs) x).length ≤ ct) (fun (x, bt, ct) => [(0, (.pointer (some ⟨p, 0, none⟩))), (1, (.slice bq nr cq)), (2, (.int .i64 a)), (3, (.int .i64 b)), (8, (.slice none 0 0)), (9, (.slice bs1 N cp2)), (10, (.pointer (some ⟨b13, 0, none⟩))), (11, (.slice bs18 N cp19)), (12, (.slice bt ((diffN (ofL N es rs) (ofL N (addE N es a b) rs) x).length) ct)), (13, (.int .i64 ((x : Nat) : Int)))]) (fun (x, bt, ct) => (SlV 3 1 (.slice bt ((diffN (ofL N es rs) (ofL N (addE N es a b) rs) x).length) ct) ((diffN (ofL N es rs) (ofL N (addE N es a b) rs) x).length) (ints .i64 (diffN (ofL N es rs) (ofL N (addE N es a b) rs) x))) :: (SlV 3 1 (.slice bs18 N cp19) N (ints .i64 (ofL N (addE N es a b) rs))) :: (Blk b13 [(.int .i64 ((N : Nat) : Int)), (.slice bs14 ((addE N es a b).length) cp15)] 36) :: (SlV 58 2 (.slice bs14 ((addE N es a b).length) cp15) ((addE N es a b).length) (pairs (addE N es a b))) :: (SlV 3 1 (.slice bs1 N cp2) N (ints .i64 (ofL N es rs))) :: (Blk p [(.int .i64 ((N : Nat) : Int)), (.slice bl es.length cl)] 36) :: (SlV 58 2 (.slice bl es.length cl) es.length (pairs es)) :: R) (fun (x, bt, ct) => N - x) (0, bs22, cp23) ⟨by omega, hok24, hle25⟩ ⟨rfl, rfl, rfl, rfl, rfl, rfl, rfl, rfl, rfl, rfl, trivial⟩ (fun _ h => h) ?_
    rintro ⟨x, bt, ct⟩ K9 hF hK9
    try dsimp only at hF hK9 ⊢
    obtain ⟨hx, hok, hle⟩ := hF
    have hsm := hg.small
    have hdl := diffN_len (ofL N es rs) (ofL N (addE N es a b) rs) x
    have hl1 := ofL_len N es rs
    have hl2 := ofL_len N (addE N es a b) rs
    refine c_seq (fun K10 hK10 => ?_)
    refine c_seq (fun K11 hK11 => ?_)
    refine c_region ?_
    refine tp rfl (lv_move rfl) ?_
    refine tp rfl (lv_move rfl) ?_
    refine tp rfl (lv_nilCheck rfl) ?_
    refine tp rfl (lv_fieldAddr (o' := 0) Tryd.underlying36 rfl Tryd.sizeOf3 rfl rfl) ?_
    refine tp rfl (lv_load Tryd.isAgg3 rfl (gives_blk (.tail _ (.tail _ (.tail _ (.tail _ (.tail _ (.head _)))))) rfl)) ?_
    by_cases h26 : ((x : Nat) : Int) < ((N : Nat) : Int)
    · -- yes
      refine tp rfl (lv_lss rfl rfl (decide_eq_true h26)) ?_
      refine t_done ?_
      refine q_then_n (hK11 _ _ ?_)
      refine c_true rfl ?_
      refine c_skip ?_
      refine q_then_n (hK10 _ _ ?_)
      refine c_seq (fun K12 hK12 => ?_)
      refine c_block ?_
      refine c_seq (fun K13 hK13 => ?_)
      by_cases h27 : ((ofL N es rs).getD x 0) = ((ofL N (addE N es a b) rs).getD x 0)
      · -- yes
        refine c_draw (γ := Unit) (n := 9) Tryd.mixed rfl rfl (fun _ S => True) (fun _ => [(0, 45, (.slice bs1 N cp2)), (1, 46, (.int .i64 ((x : Nat) : Int))), (2, 47, (.pointer (some (ad bs1 x)))), (3, 48, (.int .i64 ((ofL N es rs).getD x 0))), (4, 49, (.slice bs18 N cp19)), (5, 50, (.int .i64 ((x : Nat) : Int))), (6, 51, (.pointer (some (ad bs18 x)))), (7, 52, (.int .i64 ((ofL N (addE N es a b) rs).getD x 0))), (8, 53, (.bool false))]) (fun _ S => (SlV 3 1 (.slice bt ((diffN (ofL N es rs) (ofL N (addE N es a b) rs) x).length) ct) ((diffN (ofL N es rs) (ofL N (addE N es a b) rs) x).length) (ints .i64 (diffN (ofL N es rs) (ofL N (addE N es a b) rs) x))) :: (SlV 3 1 (.slice bs18 N cp19) N (ints .i64 (ofL N (addE N es a b) rs))) :: (Blk b13 [(.int .i64 ((N : Nat) : Int)), (.slice bs14 ((addE N es a b).length) cp15)] 36) :: (SlV 58 2 (.slice bs14 ((addE N es a b).length) cp15) ((addE N es a b).length) (pairs (addE N es a b))) :: (SlV 3 1 (.slice bs1 N cp2) N (ints .i64 (ofL N es rs))) :: (Blk p [(.int .i64 ((N : Nat) : Int)), (.slice bl es.length cl)] 36) :: (SlV 58 2 (.slice bl es.length cl) es.length (pairs es)) :: R) (()) trivial (fun _ h => h) (fun _ _ h => h) ?_ ?_
        · -- steps
         refine ⟨?_, ?_, ?_, ?_, ?_, ?_, ?_, ?_, ?_, trivial⟩
         · -- 0
          rintro _ S hF hS D hp K hK
          try dsimp only at hF ⊢
          refine d_need (small := [(9, (.slice bs1 N cp2))]) ⟨look_b rfl rfl, trivial⟩ ?_
          refine tp rfl (lv_move rfl) ?_
          exact d_closes ⟨look_b rfl rfl, trivial⟩ 0 rfl rfl rfl hS (AgreeR.refl _) (t_sat (fun _ h => h) (hK () trivial))
         · -- 1
          rintro _ S hF hS D hp K hK
          try dsimp only at hF ⊢
          refine d_need (small := [(13, (.int .i64 ((x : Nat) : Int)))]) ⟨look_b rfl rfl, trivial⟩ ?_
          refine tp rfl (lv_move rfl) ?_
          exact d_closes ⟨look_b rfl rfl, trivial⟩ 1 rfl rfl rfl hS (AgreeR.refl _) (t_sat (fun _ h => h) (hK () trivial))
         · -- 2
          rintro _ S hF hS D hp K hK
          try dsimp only at hF ⊢
          have s0 := hp 0 rfl
          have s1 := hp 1 rfl
          refine d_need (small := [(45, (.slice bs1 N cp2)), (46, (.int .i64 ((x : Nat) : Int)))]) ⟨look_row rfl 0 rfl s0, look_row rfl 1 rfl s1, trivial⟩ ?_
          refine tp rfl (lv_indexAddr (k' := x) Tryd.underlying38 Tryd.sizeOf3 rfl rfl hok3 (by omega) (by omega) (by omega)) ?_
          exact d_closes ⟨look_row rfl 0 rfl s0, look_row rfl 1 rfl s1, trivial⟩ 2 rfl rfl rfl hS (AgreeR.refl _) (t_sat (fun _ h => h) (hK () trivial))
         · -- 3
          rintro _ S hF hS D hp K hK
          try dsimp only at hF ⊢
          have s2 := hp 2 rfl
          refine d_need (small := [(47, (.pointer (some (ad bs1 x))))]) ⟨look_row rfl 2 rfl s2, trivial⟩ ?_
          refine tp rfl (lv_load Tryd.isAgg3 rfl (gives_sl (.tail _ (.tail _ (.tail _ (.tail _ (.head _))))) (ints_get (by omega)))) ?_
          exact d_closes ⟨look_row rfl 2 rfl s2, trivial⟩ 3 rfl rfl rfl hS (AgreeR.refl _) (t_sat (fun _ h => h) (hK () trivial))
         · -- 4
          rintro _ S hF hS D hp K hK
          try dsimp only at hF ⊢
          refine d_need (small := [(11, (.slice bs18 N cp19))]) ⟨look_b rfl rfl, trivial⟩ ?_
          refine tp rfl (lv_move rfl) ?_
          exact d_closes ⟨look_b rfl rfl, trivial⟩ 4 rfl rfl rfl hS (AgreeR.refl _) (t_sat (fun _ h => h) (hK () trivial))
         · -- 5
          rintro _ S hF hS D hp K hK
          try dsimp only at hF ⊢
          refine d_need (small := [(13, (.int .i64 ((x : Nat) : Int)))]) ⟨look_b rfl rfl, trivial⟩ ?_
          refine tp rfl (lv_move rfl) ?_
          exact d_closes ⟨look_b rfl rfl, trivial⟩ 5 rfl rfl rfl hS (AgreeR.refl _) (t_sat (fun _ h => h) (hK () trivial))
         · -- 6
          rintro _ S hF hS D hp K hK
          try dsimp only at hF ⊢
          have s4 := hp 4 rfl
          have s5 := hp 5 rfl
          refine d_need (small := [(49, (.slice bs18 N cp19)), (50, (.int .i64 ((x : Nat) : Int)))]) ⟨look_row rfl 4 rfl s4, look_row rfl 5 rfl s5, trivial⟩ ?_
          refine tp rfl (lv_indexAddr (k' := x) Tryd.underlying38 Tryd.sizeOf3 rfl rfl hok20 (by omega) (by omega) (by omega)) ?_
          exact d_closes ⟨look_row rfl 4 rfl s4, look_row rfl 5 rfl s5, trivial⟩ 6 rfl rfl rfl hS (AgreeR.refl _) (t_sat (fun _ h => h) (hK () trivial))
         · -- 7
          rintro _ S hF hS D hp K hK
          try dsimp only at hF ⊢
          have s6 := hp 6 rfl
          refine d_need (small := [(51, (.pointer (some (ad bs18 x))))]) ⟨look_row rfl 6 rfl s6, trivial⟩ ?_
          refine tp rfl (lv_load Tryd.isAgg3 rfl (gives_sl (.tail _ (.head _)) (ints_get (by omega)))) ?_
          exact d_closes ⟨look_row rfl 6 rfl s6, trivial⟩ 7 rfl rfl rfl hS (AgreeR.refl _) (t_sat (fun _ h => h) (hK () trivial))
         · -- 8
          rintro _ S hF hS D hp K hK
          try dsimp only at hF ⊢
          have s3 := hp 3 rfl
          have s7 := hp 7 rfl
          refine d_need (small := [(48, (.int .i64 ((ofL N es rs).getD x 0))), (52, (.int .i64 ((ofL N (addE N es a b) rs).getD x 0)))]) ⟨look_row rfl 3 rfl s3, look_row rfl 7 rfl s7, trivial⟩ ?_
          refine tp rfl (lv_neq rfl rfl (bne_eq_false_iff_eq.2 h27)) ?_
          exact d_closes ⟨look_row rfl 3 rfl s3, look_row rfl 7 rfl s7, trivial⟩ 8 rfl rfl rfl hS (AgreeR.refl _) (t_sat (fun _ h => h) (hK () trivial))
        · -- behind
         rintro _ hF
         try dsimp only at hF ⊢
         refine t_weak (E' := [(0, (.pointer (some ⟨p, 0, none⟩))), (1, (.slice bq nr cq)), (2, (.int .i64 a)), (3, (.int .i64 b)), (8, (.slice none 0 0)), (9, (.slice bs1 N cp2)), (10, (.pointer (some ⟨b13, 0, none⟩))), (11, (.slice bs18 N cp19)), (12, (.slice bt ((diffN (ofL N es rs) (ofL N (addE N es a b) rs) x).length) ct)), (13, (.int .i64 ((x : Nat) : Int))), (42, (.bool true)), (53, (.bool false))]) ⟨rfl, rfl, rfl, rfl, rfl, rfl, rfl, rfl, rfl, rfl, rfl, rfl, trivial⟩ ?_
         refine q_then_n (hK13 _ _ ?_)
         refine c_false rfl ?_
         refine c_skip ?_
         refine q_in_n ?_
         refine q_then_n (hK12 _ _ ?_)
         refine c_region ?_
         refine tp rfl (lv_move rfl) ?_
         refine tp rfl (lv_add (c := ((x + 1 : Nat) : Int)) rfl rfl (wr_i64_succ (by omega))) ?_
         refine tp rfl (lv_assign rfl) ?_
         refine t_done ?_
         refine q_then_n ?_
         rw [show diffN (ofL N es rs) (ofL N (addE N es a b) rs) x = diffN (ofL N es rs) (ofL N (addE N es a b) rs) (x + 1) from (diff_no (by first | exact h27 | exact Classical.not_not.1 h27)).symm] at hok hle ⊢
         exact t_weak (by exact ⟨rfl, rfl, rfl, rfl, rfl, rfl, rfl, rfl, rfl, rfl, trivial⟩) ((hK9 (x + 1, bt, ct) ⟨by omega, hok, hle⟩ (by dsimp only; omega)))
      · -- no
        refine c_draw (γ := Unit) (n := 9) Tryd.mixed rfl rfl (fun _ S => True) (fun _ => [(0, 45, (.slice bs1 N cp2)), (1, 46, (.int .i64 ((x : Nat) : Int))), (2, 47, (.pointer (some (ad bs1 x)))), (3, 48, (.int .i64 ((ofL N es rs).getD x 0))), (4, 49, (.slice bs18 N cp19)), (5, 50, (.int .i64 ((x : Nat) : Int))), (6, 51, (.pointer (some (ad bs18 x)))), (7, 52, (.int .i64 ((ofL N (addE N es a b) rs).getD x 0))), (8, 53, (.bool true))]) (fun _ S => (SlV 3 1 (.slice bt ((diffN (ofL N es rs) (ofL N (addE N es a b) rs) x).length) ct) ((diffN (ofL N es rs) (ofL N (addE N es a b) rs) x).length) (ints .i64 (diffN (ofL N es rs) (ofL N (addE N es a b) rs) x))) :: (SlV 3 1 (.slice bs18 N cp19) N (ints .i64 (ofL N (addE N es a b) rs))) :: (Blk b13 [(.int .i64 ((N : Nat) : Int)), (.slice bs14 ((addE N es a b).length) cp15)] 36) :: (SlV 58 2 (.slice bs14 ((addE N es a b).length) cp15) ((addE N es a b).length) (pairs (addE N es a b))) :: (SlV 3 1 (.slice bs1 N cp2) N (ints .i64 (ofL N es rs))) :: (Blk p [(.int .i64 ((N : Nat) : Int)), (.slice bl es.length cl)] 36) :: (SlV 58 2 (.slice bl es.length cl) es.length (pairs es)) :: R) (()) trivial (fun _ h => h) (fun _ _ h => h) ?_ ?_
        · -- steps
         refine ⟨?_, ?_, ?_, ?_, ?_, ?_, ?_, ?_, ?_, trivial⟩
         · -- 0
          rintro _ S hF hS D hp K hK
          try dsimp only at hF ⊢
          refine d_need (small := [(9, (.slice bs1 N cp2))]) ⟨look_b rfl rfl, trivial⟩ ?_
          refine tp rfl (lv_move rfl) ?_
          exact d_closes ⟨look_b rfl rfl, trivial⟩ 0 rfl rfl rfl hS (AgreeR.refl _) (t_sat (fun _ h => h) (hK () trivial))
         · -- 1
          rintro _ S hF hS D hp K hK
          try dsimp only at hF ⊢
          refine d_need (small := [(13, (.int .i64 ((x : Nat) : Int)))]) ⟨look_b rfl rfl, trivial⟩ ?_
          refine tp rfl (lv_move rfl) ?_
          exact d_closes ⟨look_b rfl rfl, trivial⟩ 1 rfl rfl rfl hS (AgreeR.refl _) (t_sat (fun _ h => h) (hK () trivial))
         · -- 2
          rintro _ S hF hS D hp K hK
          try dsimp only at hF ⊢
          have s0 := hp 0 rfl
          have s1 := hp 1 rfl
          refine d_need (small := [(45, (.slice bs1 N cp2)), (46, (.int .i64 ((x : Nat) : Int)))]) ⟨look_row rfl 0 rfl s0, look_row rfl 1 rfl s1, trivial⟩ ?_
          refine tp rfl (lv_indexAddr (k' := x) Tryd.underlying38 Tryd.sizeOf3 rfl rfl hok3 (by omega) (by omega) (by omega)) ?_
          exact d_closes ⟨look_row rfl 0 rfl s0, look_row rfl 1 rfl s1, trivial⟩ 2 rfl rfl rfl hS (AgreeR.refl _) (t_sat (fun _ h => h) (hK () trivial))
         · -- 3
          rintro _ S hF hS D hp K hK
          try dsimp only at hF ⊢
          have s2 := hp 2 rfl
          refine d_need (small := [(47, (.pointer (some (ad bs1 x))))]) ⟨look_row rfl 2 rfl s2, trivial⟩ ?_
          refine tp rfl (lv_load Tryd.isAgg3 rfl (gives_sl (.tail _ (.tail _ (.tail _ (.tail _ (.head _))))) (ints_get (by omega)))) ?_
          exact d_closes ⟨look_row rfl 2 rfl s2, trivial⟩ 3 rfl rfl rfl hS (AgreeR.refl _) (t_sat (fun _ h => h) (hK () trivial))
         · -- 4
          rintro _ S hF hS D hp K hK
          try dsimp only at hF ⊢
          refine d_need (small := [(11, (.slice bs18 N cp19))]) ⟨look_b rfl rfl, trivial⟩ ?_
          refine tp rfl (lv_move rfl) ?_
          exact d_closes ⟨look_b rfl rfl, trivial⟩ 4 rfl rfl rfl hS (AgreeR.refl _) (t_sat (fun _ h => h) (hK () trivial))
         · -- 5
          rintro _ S hF hS D hp K hK
          try dsimp only at hF ⊢
          refine d_need (small := [(13, (.int .i64 ((x : Nat) : Int)))]) ⟨look_b rfl rfl, trivial⟩ ?_
          refine tp rfl (lv_move rfl) ?_
          exact d_closes ⟨look_b rfl rfl, trivial⟩ 5 rfl rfl rfl hS (AgreeR.refl _) (t_sat (fun _ h => h) (hK () trivial))
         · -- 6
          rintro _ S hF hS D hp K hK
          try dsimp only at hF ⊢
          have s4 := hp 4 rfl
          have s5 := hp 5 rfl
          refine d_need (small := [(49, (.slice bs18 N cp19)), (50, (.int .i64 ((x : Nat) : Int)))]) ⟨look_row rfl 4 rfl s4, look_row rfl 5 rfl s5, trivial⟩ ?_
          refine tp rfl (lv_indexAddr (k' := x) Tryd.underlying38 Tryd.sizeOf3 rfl rfl hok20 (by omega) (by omega) (by omega)) ?_
          exact d_closes ⟨look_row rfl 4 rfl s4, look_row rfl 5 rfl s5, trivial⟩ 6 rfl rfl rfl hS (AgreeR.refl _) (t_sat (fun _ h => h) (hK () trivial))
         · -- 7
          rintro _ S hF hS D hp K hK
          try dsimp only at hF ⊢
          have s6 := hp 6 rfl
          refine d_need (small := [(51, (.pointer (some (ad bs18 x))))]) ⟨look_row rfl 6 rfl s6, trivial⟩ ?_
          refine tp rfl (lv_load Tryd.isAgg3 rfl (gives_sl (.tail _ (.head _)) (ints_get (by omega)))) ?_
          exact d_closes ⟨look_row rfl 6 rfl s6, trivial⟩ 7 rfl rfl rfl hS (AgreeR.refl _) (t_sat (fun _ h => h) (hK () trivial))
         · -- 8
          rintro _ S hF hS D hp K hK
          try dsimp only at hF ⊢
          have s3 := hp 3 rfl
          have s7 := hp 7 rfl
          refine d_need (small := [(48, (.int .i64 ((ofL N es rs).getD x 0))), (52, (.int .i64 ((ofL N (addE N es a b) rs).getD x 0)))]) ⟨look_row rfl 3 rfl s3, look_row rfl 7 rfl s7, trivial⟩ ?_
          refine tp rfl (lv_neq rfl rfl (bne_iff_ne.2 h27)) ?_
          exact d_closes ⟨look_row rfl 3 rfl s3, look_row rfl 7 rfl s7, trivial⟩ 8 rfl rfl rfl hS (AgreeR.refl _) (t_sat (fun _ h => h) (hK () trivial))
        · -- behind
         rintro _ hF
         try dsimp only at hF ⊢
         refine t_weak (E' := [(0, (.pointer (some ⟨p, 0, none⟩))), (1, (.slice bq nr cq)), (2, (.int .i64 a)), (3, (.int .i64 b)), (8, (.slice none 0 0)), (9, (.slice bs1 N cp2)), (10, (.pointer (some ⟨b13, 0, none⟩))), (11, (.slice bs18 N cp19)), (12, (.slice bt ((diffN (ofL N es rs) (ofL N (addE N es a b) rs) x).length) ct)), (13, (.int .i64 ((x : Nat) : Int))), (42, (.bool true)), (53, (.bool true))]) ⟨rfl, rfl, rfl, rfl, rfl, rfl, rfl, rfl, rfl, rfl, rfl, rfl, trivial⟩ ?_
         refine q_then_n (hK13 _ _ ?_)
         refine c_true rfl ?_
         refine c_region ?_
         refine tp rfl (lv_move rfl) ?_
         refine tp rfl (lv_move rfl) ?_
         refine tm rfl (mv_buildSlice (cs := [(.int .i64 ((x : Nat) : Int))]) Tryd.underlying38 Tryd.sizeOf3 Tryd.zeroValue3 (by decide) rfl rfl rfl rfl) ?_
         rintro _ _ ⟨bs28, cp29, hok30, hle31, rfl, rfl⟩
         refine t_f1 ?_
         refine tm rfl (mv_append (i := Tryd.t3) Tryd.underlying38 Tryd.type3 rfl rfl rfl (by decide) rfl rfl hok30 (by first | (simp; done) | (simp; omega)) (rd_sl (.tail _ (.head _))) (by simp [Value.oneCell']) (by rw [show Tryd.t3.bytes = 8 from rfl]; omega)) ?_
         rintro _ _ ⟨bs32, cp33, hok34, hle35, rfl, rfl⟩
         rw [show ints .i64 (diffN (ofL N es rs) (ofL N (addE N es a b) rs) x) ++ [(.int .i64 ((x : Nat) : Int))] = ints .i64 ((diffN (ofL N es rs) (ofL N (addE N es a b) rs) x) ++ [((x : Nat) : Int)]) from ints_snoc _ _ _]
         rw [show ((diffN (ofL N es rs) (ofL N (addE N es a b) rs) x).length) + 1 = (diffN (ofL N es rs) (ofL N (addE N es a b) rs) x ++ [((x : Nat) : Int)]).length from by simp] at hok34 hle35 ⊢
         refine tp rfl (lv_assign rfl) ?_
         refine t_done ?_
         refine q_in_n ?_
         refine q_then_n (hK12 _ _ ?_)
         refine c_region ?_
         refine tp rfl (lv_move rfl) ?_
         refine tp rfl (lv_add (c := ((x + 1 : Nat) : Int)) rfl rfl (wr_i64_succ (by omega))) ?_
         refine tp rfl (lv_assign rfl) ?_
         refine t_done ?_
         refine q_then_n ?_
         refine t_f1 ?_
         refine t_drop ?_
         rw [← diff_yes h27] at hok34 hle35 ⊢
         exact t_weak (by exact ⟨rfl, rfl, rfl, rfl, rfl, rfl, rfl, rfl, rfl, rfl, trivial⟩) ((hK9 (x + 1, bs32, cp33) ⟨by omega, hok34, hle35⟩ (by dsimp only; omega)))
    · -- no
      refine tp rfl (lv_lss rfl rfl (decide_eq_false h26)) ?_
      refine t_done ?_
      refine q_then_n (hK11 _ _ ?_)
      refine c_false rfl ?_
      refine c_exit ?_
      refine q_then_x ?_
      refine q_then_x ?_
      refine q_in_x ?_
      refine q_then_n (hK7 _ _ ?_)
      refine c_seq (fun K12 hK12 => ?_)
      refine c_region ?_
      refine tp rfl (lv_move rfl) ?_
      refine tp rfl (lv_assign rfl) ?_
      refine t_done ?_
      refine q_then_n (hK12 _ _ ?_)
      refine c_ret ?_
      refine t_f1 ?_
      refine t_drop ?_
      refine t_f1 ?_
      refine t_drop ?_
      refine t_f1 ?_
      refine t_drop ?_
      refine t_f1 ?_
      refine t_drop ?_
      refine q_ret rfl rfl ?_
      have e : x = N := by omega
      subst e
      rw [show diffN (ofL x es rs) (ofL x (addE x es a b) rs) x = raisedL x es rs a b from diff_raised hg] at hok hle ⊢
      exact ⟨bt, ct, hok, hle, rfl, rfl⟩
end Go.Proofs.YtlkcgpcgnhdnmaaDoor
