/- Contracts of a heap's rows. -/
import Derived.KernelRfl
import Derived.Test.YtombnfgkgcjihaaProg
import Derived.Test.YtombnfgkgcjihaaHpm
set_option maxRecDepth 100000
set_option linter.unusedVariables false
set_option linter.unusedSimpArgs false
namespace Go.Proofs.Ytombnfgkgcjihaa
open Go Go.Proofs Sp
theorem Try.mixed : Try.prog.follows .mixedOrders = true := by kernel_rfl

theorem meth_Len (v : Value) (args : Array Value) (w : World) : (callMethod (.iface 67 v) "Len" args).run Try.prog w = .ok (.enter 54 (#[v] ++ args)) w := by kernel_rfl

theorem meth_Less (v : Value) (args : Array Value) (w : World) : (callMethod (.iface 67 v) "Less" args).run Try.prog w = .ok (.enter 55 (#[v] ++ args)) w := by kernel_rfl

theorem meth_Swap (v : Value) (args : Array Value) (w : World) : (callMethod (.iface 67 v) "Swap" args).run Try.prog w = .ok (.enter 58 (#[v] ++ args)) w := by kernel_rfl

theorem meth_Push (v : Value) (args : Array Value) (w : World) : (callMethod (.iface 67 v) "Push" args).run Try.prog w = .ok (.enter 57 (#[v] ++ args)) w := by kernel_rfl

theorem meth_Pop (v : Value) (args : Array Value) (w : World) : (callMethod (.iface 67 v) "Pop" args).run Try.prog w = .ok (.enter 56 (#[v] ++ args)) w := by kernel_rfl

theorem rlen_ok {R : List HP} {p n : Nat} {l Kk : List Int} :
    Ok Try.prog 54 [(.pointer (some ⟨p, 0, none⟩))] ((RowsO p n l Kk) :: R)
      (fun v M => v = .int .i64 ((l.length : Nat) : Int) ∧ M = RowsO p n l Kk :: R) := by
  refine ok_of (N := 8) Try.func54 rfl rfl rfl (fun W => ?_)
  refine t_openW (fun at1 bs2 cp3 bs4 cp5 bs6 cp7 hR8 => ?_)
  have hal := hR8.ato.len
  have hkl := hR8.lk
  have hbg := hR8.big
  have hll := hR8.hi.le
  have hcl := hR8.cpl
  refine c_seq (fun K1 hK1 => ?_)
  refine c_region ?_
  refine tp rfl (lv_assign rfl) ?_
  refine t_done ?_
  refine q_then_n (hK1 _ _ ?_)
  refine c_seq (fun K2 hK2 => ?_)
  refine c_region ?_
  refine tp rfl (lv_move rfl) ?_
  refine tp rfl (lv_nilCheck rfl) ?_
  refine tp rfl (lv_fieldAddr (o' := 0) Try.underlying63 rfl Try.sizeOf30 rfl rfl) ?_
  refine tp rfl (lv_load Try.isAgg30 rfl (gives_blk (.head _) rfl)) ?_
  refine tp rfl (lv_len Try.underlying30 rfl rfl) ?_
  refine tp rfl (lv_assign rfl) ?_
  refine t_done ?_
  refine q_then_n (hK2 _ _ ?_)
  refine c_ret ?_
  refine t_f3 ?_
  refine t_f3 ?_
  refine t_f3 ?_
  refine t_f3 ?_
  refine t_shutW rfl hR8 ?_
  refine q_ret rfl rfl ?_
  exact ⟨rfl, rfl⟩

set_option maxHeartbeats 4000000 in
theorem rless_ok {R : List HP} {p n : Nat} {l Kk : List Int} (i k : Nat) (hi : i < l.length) (hk : k < l.length) :
    Ok Try.prog 55 [(.pointer (some ⟨p, 0, none⟩)), (.int .i64 ((i : Nat) : Int)), (.int .i64 ((k : Nat) : Int))] ((RowsO p n l Kk) :: R)
      (fun v M => v = .bool (decide (LtK Kk (l.getD i 0) (l.getD k 0))) ∧ M = RowsO p n l Kk :: R) := by
  refine ok_of (N := 60) Try.func55 rfl rfl rfl (fun W => ?_)
  refine t_openW (fun at1 bs2 cp3 bs4 cp5 bs6 cp7 hR8 => ?_)
  have hal := hR8.ato.len
  have hkl := hR8.lk
  have hbg := hR8.big
  have hll := hR8.hi.le
  have hcl := hR8.cpl
  have hbi := hR8.hi.bd i hi
  have hbk := hR8.hi.bd k hk
  refine c_seq (fun K1 hK1 => ?_)
  refine c_region ?_
  refine tp rfl (lv_assign rfl) ?_
  refine t_done ?_
  refine q_then_n (hK1 _ _ ?_)
  refine c_seq (fun K2 hK2 => ?_)
  refine c_draw (γ := Unit) (n := 16) Try.mixed rfl rfl (fun _ S => True) (fun _ => [(0, 9, (.pointer (some ⟨p, 0, none⟩))), (1, 10, (.pointer (some ⟨p, 0, none⟩))), (2, 11, (.pointer (some ⟨p, 0, none⟩))), (3, 12, (.slice bs2 l.length cp3)), (4, 13, (.int .i64 ((i : Nat) : Int))), (5, 14, (.pointer (some (ad bs2 i)))), (6, 15, (.int .i64 ((l).getD i 0))), (7, 16, (.pointer (some ⟨p, 0, none⟩))), (8, 17, (.pointer (some ⟨p, 0, none⟩))), (9, 18, (.pointer (some ⟨p, 0, none⟩))), (10, 19, (.slice bs2 l.length cp3)), (11, 20, (.int .i64 ((k : Nat) : Int))), (12, 21, (.pointer (some (ad bs2 k)))), (13, 22, (.int .i64 ((l).getD k 0))), (14, 7, (.int .i64 ((l).getD i 0))), (15, 8, (.int .i64 ((l).getD k 0)))]) (fun _ S => (Blk p [(.slice bs2 l.length cp3), (.slice bs4 n cp5), (.slice bs6 n cp7)] 65) :: (SlV 3 1 (.slice bs2 l.length cp3) l.length (ints .i64 l)) :: (SlV 3 1 (.slice bs4 n cp5) n (ints .i64 at1)) :: (SlV 3 1 (.slice bs6 n cp7) n (ints .i64 Kk)) :: R) (()) trivial (fun _ h => h) (fun _ _ h => h) ?_ ?_
  · -- steps
    refine ⟨?_, ?_, ?_, ?_, ?_, ?_, ?_, ?_, ?_, ?_, ?_, ?_, ?_, ?_, ?_, ?_, trivial⟩
    · -- 0
      rintro _ S hF hS D hp K hK
      try dsimp only at hF ⊢
      refine d_need (small := [(0, (.pointer (some ⟨p, 0, none⟩)))]) ⟨look_b rfl rfl, trivial⟩ ?_
      refine tp rfl (lv_move rfl) ?_
      exact d_closes ⟨look_b rfl rfl, trivial⟩ 0 rfl rfl rfl hS (AgreeR.refl _) (t_sat (fun _ h => h) (hK () trivial))
    · -- 1
      rintro _ S hF hS D hp K hK
      try dsimp only at hF ⊢
      have s0 := hp 0 rfl
      refine d_need (small := [(9, (.pointer (some ⟨p, 0, none⟩)))]) ⟨look_row rfl 0 rfl s0, trivial⟩ ?_
      refine tp rfl (lv_nilCheck rfl) ?_
      exact d_closes ⟨look_row rfl 0 rfl s0, trivial⟩ 1 rfl rfl rfl hS (AgreeR.refl _) (t_sat (fun _ h => h) (hK () trivial))
    · -- 2
      rintro _ S hF hS D hp K hK
      try dsimp only at hF ⊢
      have s1 := hp 1 rfl
      refine d_need (small := [(10, (.pointer (some ⟨p, 0, none⟩)))]) ⟨look_row rfl 1 rfl s1, trivial⟩ ?_
      refine tp rfl (lv_fieldAddr (o' := 0) Try.underlying63 rfl Try.sizeOf30 rfl rfl) ?_
      exact d_closes ⟨look_row rfl 1 rfl s1, trivial⟩ 2 rfl rfl rfl hS (AgreeR.refl _) (t_sat (fun _ h => h) (hK () trivial))
    · -- 3
      rintro _ S hF hS D hp K hK
      try dsimp only at hF ⊢
      have s2 := hp 2 rfl
      refine d_need (small := [(11, (.pointer (some ⟨p, 0, none⟩)))]) ⟨look_row rfl 2 rfl s2, trivial⟩ ?_
      refine tp rfl (lv_load Try.isAgg30 rfl (gives_blk (.head _) rfl)) ?_
      exact d_closes ⟨look_row rfl 2 rfl s2, trivial⟩ 3 rfl rfl rfl hS (AgreeR.refl _) (t_sat (fun _ h => h) (hK () trivial))
    · -- 4
      rintro _ S hF hS D hp K hK
      try dsimp only at hF ⊢
      refine d_need (small := [(1, (.int .i64 ((i : Nat) : Int)))]) ⟨look_b rfl rfl, trivial⟩ ?_
      refine tp rfl (lv_move rfl) ?_
      exact d_closes ⟨look_b rfl rfl, trivial⟩ 4 rfl rfl rfl hS (AgreeR.refl _) (t_sat (fun _ h => h) (hK () trivial))
    · -- 5
      rintro _ S hF hS D hp K hK
      try dsimp only at hF ⊢
      have s3 := hp 3 rfl
      have s4 := hp 4 rfl
      refine d_need (small := [(12, (.slice bs2 l.length cp3)), (13, (.int .i64 ((i : Nat) : Int)))]) ⟨look_row rfl 3 rfl s3, look_row rfl 4 rfl s4, trivial⟩ ?_
      refine tp rfl (lv_indexAddr (k' := i) Try.underlying30 Try.sizeOf3 rfl rfl hR8.okl (by omega) (by omega) (by omega)) ?_
      exact d_closes ⟨look_row rfl 3 rfl s3, look_row rfl 4 rfl s4, trivial⟩ 5 rfl rfl rfl hS (AgreeR.refl _) (t_sat (fun _ h => h) (hK () trivial))
    · -- 6
      rintro _ S hF hS D hp K hK
      try dsimp only at hF ⊢
      have s5 := hp 5 rfl
      refine d_need (small := [(14, (.pointer (some (ad bs2 i))))]) ⟨look_row rfl 5 rfl s5, trivial⟩ ?_
      refine tp rfl (lv_load Try.isAgg3 rfl (gives_sl (.tail _ (.head _)) (ints_get (by omega)))) ?_
      exact d_closes ⟨look_row rfl 5 rfl s5, trivial⟩ 6 rfl rfl rfl hS (AgreeR.refl _) (t_sat (fun _ h => h) (hK () trivial))
    · -- 7
      rintro _ S hF hS D hp K hK
      try dsimp only at hF ⊢
      refine d_need (small := [(0, (.pointer (some ⟨p, 0, none⟩)))]) ⟨look_b rfl rfl, trivial⟩ ?_
      refine tp rfl (lv_move rfl) ?_
      exact d_closes ⟨look_b rfl rfl, trivial⟩ 7 rfl rfl rfl hS (AgreeR.refl _) (t_sat (fun _ h => h) (hK () trivial))
    · -- 8
      rintro _ S hF hS D hp K hK
      try dsimp only at hF ⊢
      have s7 := hp 7 rfl
      refine d_need (small := [(16, (.pointer (some ⟨p, 0, none⟩)))]) ⟨look_row rfl 7 rfl s7, trivial⟩ ?_
      refine tp rfl (lv_nilCheck rfl) ?_
      exact d_closes ⟨look_row rfl 7 rfl s7, trivial⟩ 8 rfl rfl rfl hS (AgreeR.refl _) (t_sat (fun _ h => h) (hK () trivial))
    · -- 9
      rintro _ S hF hS D hp K hK
      try dsimp only at hF ⊢
      have s8 := hp 8 rfl
      refine d_need (small := [(17, (.pointer (some ⟨p, 0, none⟩)))]) ⟨look_row rfl 8 rfl s8, trivial⟩ ?_
      refine tp rfl (lv_fieldAddr (o' := 0) Try.underlying63 rfl Try.sizeOf30 rfl rfl) ?_
      exact d_closes ⟨look_row rfl 8 rfl s8, trivial⟩ 9 rfl rfl rfl hS (AgreeR.refl _) (t_sat (fun _ h => h) (hK () trivial))
    · -- 10
      rintro _ S hF hS D hp K hK
      try dsimp only at hF ⊢
      have s9 := hp 9 rfl
      refine d_need (small := [(18, (.pointer (some ⟨p, 0, none⟩)))]) ⟨look_row rfl 9 rfl s9, trivial⟩ ?_
      refine tp rfl (lv_load Try.isAgg30 rfl (gives_blk (.head _) rfl)) ?_
      exact d_closes ⟨look_row rfl 9 rfl s9, trivial⟩ 10 rfl rfl rfl hS (AgreeR.refl _) (t_sat (fun _ h => h) (hK () trivial))
    · -- 11
      rintro _ S hF hS D hp K hK
      try dsimp only at hF ⊢
      refine d_need (small := [(2, (.int .i64 ((k : Nat) : Int)))]) ⟨look_b rfl rfl, trivial⟩ ?_
      refine tp rfl (lv_move rfl) ?_
      exact d_closes ⟨look_b rfl rfl, trivial⟩ 11 rfl rfl rfl hS (AgreeR.refl _) (t_sat (fun _ h => h) (hK () trivial))
    · -- 12
      rintro _ S hF hS D hp K hK
      try dsimp only at hF ⊢
      have s10 := hp 10 rfl
      have s11 := hp 11 rfl
      refine d_need (small := [(19, (.slice bs2 l.length cp3)), (20, (.int .i64 ((k : Nat) : Int)))]) ⟨look_row rfl 10 rfl s10, look_row rfl 11 rfl s11, trivial⟩ ?_
      refine tp rfl (lv_indexAddr (k' := k) Try.underlying30 Try.sizeOf3 rfl rfl hR8.okl (by omega) (by omega) (by omega)) ?_
      exact d_closes ⟨look_row rfl 10 rfl s10, look_row rfl 11 rfl s11, trivial⟩ 12 rfl rfl rfl hS (AgreeR.refl _) (t_sat (fun _ h => h) (hK () trivial))
    · -- 13
      rintro _ S hF hS D hp K hK
      try dsimp only at hF ⊢
      have s12 := hp 12 rfl
      refine d_need (small := [(21, (.pointer (some (ad bs2 k))))]) ⟨look_row rfl 12 rfl s12, trivial⟩ ?_
      refine tp rfl (lv_load Try.isAgg3 rfl (gives_sl (.tail _ (.head _)) (ints_get (by omega)))) ?_
      exact d_closes ⟨look_row rfl 12 rfl s12, trivial⟩ 13 rfl rfl rfl hS (AgreeR.refl _) (t_sat (fun _ h => h) (hK () trivial))
    · -- 14
      rintro _ S hF hS D hp K hK
      try dsimp only at hF ⊢
      have s6 := hp 6 rfl
      refine d_need (small := [(15, (.int .i64 ((l).getD i 0)))]) ⟨look_row rfl 6 rfl s6, trivial⟩ ?_
      refine tp rfl (lv_assign rfl) ?_
      exact d_closes ⟨look_row rfl 6 rfl s6, trivial⟩ 14 rfl rfl rfl hS (AgreeR.refl _) (t_sat (fun _ h => h) (hK () trivial))
    · -- 15
      rintro _ S hF hS D hp K hK
      try dsimp only at hF ⊢
      have s13 := hp 13 rfl
      refine d_need (small := [(22, (.int .i64 ((l).getD k 0)))]) ⟨look_row rfl 13 rfl s13, trivial⟩ ?_
      refine tp rfl (lv_assign rfl) ?_
      exact d_closes ⟨look_row rfl 13 rfl s13, trivial⟩ 15 rfl rfl rfl hS (AgreeR.refl _) (t_sat (fun _ h => h) (hK () trivial))
  · -- behind
    rintro _ hF
    try dsimp only at hF ⊢
    refine t_weak (E' := [(0, (.pointer (some ⟨p, 0, none⟩))), (1, (.int .i64 ((i : Nat) : Int))), (2, (.int .i64 ((k : Nat) : Int))), (6, (.bool false)), (7, (.int .i64 ((l).getD i 0))), (8, (.int .i64 ((l).getD k 0)))]) ⟨rfl, rfl, rfl, rfl, rfl, rfl, trivial⟩ ?_
    refine q_then_n (hK2 _ _ ?_)
    refine c_seq (fun K3 hK3 => ?_)
    by_cases h9 : ((Kk).getD (((l).getD i 0).toNat) 0) < ((Kk).getD (((l).getD k 0).toNat) 0)
    · -- yes
      refine c_draw (γ := Unit) (n := 38) Try.mixed rfl rfl (fun _ S => True) (fun _ => [(0, 23, (.pointer (some ⟨p, 0, none⟩))), (1, 24, (.pointer (some ⟨p, 0, none⟩))), (2, 25, (.pointer (some ⟨p, 2, none⟩))), (3, 26, (.slice bs6 n cp7)), (4, 27, (.int .i64 ((l).getD i 0))), (5, 28, (.pointer (some (ad bs6 (((l).getD i 0).toNat))))), (6, 29, (.int .i64 ((Kk).getD (((l).getD i 0).toNat) 0))), (7, 30, (.pointer (some ⟨p, 0, none⟩))), (8, 31, (.pointer (some ⟨p, 0, none⟩))), (9, 32, (.pointer (some ⟨p, 2, none⟩))), (10, 33, (.slice bs6 n cp7)), (11, 34, (.int .i64 ((l).getD k 0))), (12, 35, (.pointer (some (ad bs6 (((l).getD k 0).toNat))))), (13, 36, (.int .i64 ((Kk).getD (((l).getD k 0).toNat) 0))), (14, 37, (.bool true)), (15, 38, (.bool true)), (16, 39, undef), (17, 40, undef), (18, 41, undef), (19, 42, undef), (20, 43, undef), (21, 44, undef), (22, 45, undef), (23, 46, undef), (24, 47, undef), (25, 48, undef), (26, 49, undef), (27, 50, undef), (28, 51, undef), (29, 52, undef), (30, 53, undef), (31, 54, undef), (32, 55, undef), (33, 56, undef), (34, 57, undef), (35, 58, undef), (36, 59, (.bool true)), (37, 6, (.bool true))]) (fun _ S => (Blk p [(.slice bs2 l.length cp3), (.slice bs4 n cp5), (.slice bs6 n cp7)] 65) :: (SlV 3 1 (.slice bs2 l.length cp3) l.length (ints .i64 l)) :: (SlV 3 1 (.slice bs4 n cp5) n (ints .i64 at1)) :: (SlV 3 1 (.slice bs6 n cp7) n (ints .i64 Kk)) :: R) (()) trivial (fun _ h => h) (fun _ _ h => h) ?_ ?_
      · -- steps
        refine ⟨?_, ?_, ?_, ?_, ?_, ?_, ?_, ?_, ?_, ?_, ?_, ?_, ?_, ?_, ?_, ?_, ?_, ?_, ?_, ?_, ?_, ?_, ?_, ?_, ?_, ?_, ?_, ?_, ?_, ?_, ?_, ?_, ?_, ?_, ?_, ?_, ?_, ?_, trivial⟩
        · -- 0
         rintro _ S hF hS D hp K hK
         try dsimp only at hF ⊢
         refine d_need (small := [(0, (.pointer (some ⟨p, 0, none⟩)))]) ⟨look_b rfl rfl, trivial⟩ ?_
         refine tp rfl (lv_move rfl) ?_
         exact d_closes ⟨look_b rfl rfl, trivial⟩ 0 rfl rfl rfl hS (AgreeR.refl _) (t_sat (fun _ h => h) (hK () trivial))
        · -- 1
         rintro _ S hF hS D hp K hK
         try dsimp only at hF ⊢
         have s0 := hp 0 rfl
         refine d_need (small := [(23, (.pointer (some ⟨p, 0, none⟩)))]) ⟨look_row rfl 0 rfl s0, trivial⟩ ?_
         refine tp rfl (lv_nilCheck rfl) ?_
         exact d_closes ⟨look_row rfl 0 rfl s0, trivial⟩ 1 rfl rfl rfl hS (AgreeR.refl _) (t_sat (fun _ h => h) (hK () trivial))
        · -- 2
         rintro _ S hF hS D hp K hK
         try dsimp only at hF ⊢
         have s1 := hp 1 rfl
         refine d_need (small := [(24, (.pointer (some ⟨p, 0, none⟩)))]) ⟨look_row rfl 1 rfl s1, trivial⟩ ?_
         refine tp rfl (lv_fieldAddr (o' := 2) Try.underlying63 rfl Try.sizeOf30 rfl rfl) ?_
         exact d_closes ⟨look_row rfl 1 rfl s1, trivial⟩ 2 rfl rfl rfl hS (AgreeR.refl _) (t_sat (fun _ h => h) (hK () trivial))
        · -- 3
         rintro _ S hF hS D hp K hK
         try dsimp only at hF ⊢
         have s2 := hp 2 rfl
         refine d_need (small := [(25, (.pointer (some ⟨p, 2, none⟩)))]) ⟨look_row rfl 2 rfl s2, trivial⟩ ?_
         refine tp rfl (lv_load Try.isAgg30 rfl (gives_blk (.head _) rfl)) ?_
         exact d_closes ⟨look_row rfl 2 rfl s2, trivial⟩ 3 rfl rfl rfl hS (AgreeR.refl _) (t_sat (fun _ h => h) (hK () trivial))
        · -- 4
         rintro _ S hF hS D hp K hK
         try dsimp only at hF ⊢
         refine d_need (small := [(7, (.int .i64 ((l).getD i 0)))]) ⟨look_b rfl rfl, trivial⟩ ?_
         refine tp rfl (lv_move rfl) ?_
         exact d_closes ⟨look_b rfl rfl, trivial⟩ 4 rfl rfl rfl hS (AgreeR.refl _) (t_sat (fun _ h => h) (hK () trivial))
        · -- 5
         rintro _ S hF hS D hp K hK
         try dsimp only at hF ⊢
         have s3 := hp 3 rfl
         have s4 := hp 4 rfl
         refine d_need (small := [(26, (.slice bs6 n cp7)), (27, (.int .i64 ((l).getD i 0)))]) ⟨look_row rfl 3 rfl s3, look_row rfl 4 rfl s4, trivial⟩ ?_
         refine tp rfl (lv_indexAddr (k' := ((l).getD i 0).toNat) Try.underlying30 Try.sizeOf3 rfl rfl hR8.okk (by omega) (by omega) (by omega)) ?_
         exact d_closes ⟨look_row rfl 3 rfl s3, look_row rfl 4 rfl s4, trivial⟩ 5 rfl rfl rfl hS (AgreeR.refl _) (t_sat (fun _ h => h) (hK () trivial))
        · -- 6
         rintro _ S hF hS D hp K hK
         try dsimp only at hF ⊢
         have s5 := hp 5 rfl
         refine d_need (small := [(28, (.pointer (some (ad bs6 (((l).getD i 0).toNat)))))]) ⟨look_row rfl 5 rfl s5, trivial⟩ ?_
         refine tp rfl (lv_load Try.isAgg3 rfl (gives_sl (.tail _ (.tail _ (.tail _ (.head _)))) (ints_get (by omega)))) ?_
         exact d_closes ⟨look_row rfl 5 rfl s5, trivial⟩ 6 rfl rfl rfl hS (AgreeR.refl _) (t_sat (fun _ h => h) (hK () trivial))
        · -- 7
         rintro _ S hF hS D hp K hK
         try dsimp only at hF ⊢
         refine d_need (small := [(0, (.pointer (some ⟨p, 0, none⟩)))]) ⟨look_b rfl rfl, trivial⟩ ?_
         refine tp rfl (lv_move rfl) ?_
         exact d_closes ⟨look_b rfl rfl, trivial⟩ 7 rfl rfl rfl hS (AgreeR.refl _) (t_sat (fun _ h => h) (hK () trivial))
        · -- 8
         rintro _ S hF hS D hp K hK
         try dsimp only at hF ⊢
         have s7 := hp 7 rfl
         refine d_need (small := [(30, (.pointer (some ⟨p, 0, none⟩)))]) ⟨look_row rfl 7 rfl s7, trivial⟩ ?_
         refine tp rfl (lv_nilCheck rfl) ?_
         exact d_closes ⟨look_row rfl 7 rfl s7, trivial⟩ 8 rfl rfl rfl hS (AgreeR.refl _) (t_sat (fun _ h => h) (hK () trivial))
        · -- 9
         rintro _ S hF hS D hp K hK
         try dsimp only at hF ⊢
         have s8 := hp 8 rfl
         refine d_need (small := [(31, (.pointer (some ⟨p, 0, none⟩)))]) ⟨look_row rfl 8 rfl s8, trivial⟩ ?_
         refine tp rfl (lv_fieldAddr (o' := 2) Try.underlying63 rfl Try.sizeOf30 rfl rfl) ?_
         exact d_closes ⟨look_row rfl 8 rfl s8, trivial⟩ 9 rfl rfl rfl hS (AgreeR.refl _) (t_sat (fun _ h => h) (hK () trivial))
        · -- 10
         rintro _ S hF hS D hp K hK
         try dsimp only at hF ⊢
         have s9 := hp 9 rfl
         refine d_need (small := [(32, (.pointer (some ⟨p, 2, none⟩)))]) ⟨look_row rfl 9 rfl s9, trivial⟩ ?_
         refine tp rfl (lv_load Try.isAgg30 rfl (gives_blk (.head _) rfl)) ?_
         exact d_closes ⟨look_row rfl 9 rfl s9, trivial⟩ 10 rfl rfl rfl hS (AgreeR.refl _) (t_sat (fun _ h => h) (hK () trivial))
        · -- 11
         rintro _ S hF hS D hp K hK
         try dsimp only at hF ⊢
         refine d_need (small := [(8, (.int .i64 ((l).getD k 0)))]) ⟨look_b rfl rfl, trivial⟩ ?_
         refine tp rfl (lv_move rfl) ?_
         exact d_closes ⟨look_b rfl rfl, trivial⟩ 11 rfl rfl rfl hS (AgreeR.refl _) (t_sat (fun _ h => h) (hK () trivial))
        · -- 12
         rintro _ S hF hS D hp K hK
         try dsimp only at hF ⊢
         have s10 := hp 10 rfl
         have s11 := hp 11 rfl
         refine d_need (small := [(33, (.slice bs6 n cp7)), (34, (.int .i64 ((l).getD k 0)))]) ⟨look_row rfl 10 rfl s10, look_row rfl 11 rfl s11, trivial⟩ ?_
         refine tp rfl (lv_indexAddr (k' := ((l).getD k 0).toNat) Try.underlying30 Try.sizeOf3 rfl rfl hR8.okk (by omega) (by omega) (by omega)) ?_
         exact d_closes ⟨look_row rfl 10 rfl s10, look_row rfl 11 rfl s11, trivial⟩ 12 rfl rfl rfl hS (AgreeR.refl _) (t_sat (fun _ h => h) (hK () trivial))
        · -- 13
         rintro _ S hF hS D hp K hK
         try dsimp only at hF ⊢
         have s12 := hp 12 rfl
         refine d_need (small := [(35, (.pointer (some (ad bs6 (((l).getD k 0).toNat)))))]) ⟨look_row rfl 12 rfl s12, trivial⟩ ?_
         refine tp rfl (lv_load Try.isAgg3 rfl (gives_sl (.tail _ (.tail _ (.tail _ (.head _)))) (ints_get (by omega)))) ?_
         exact d_closes ⟨look_row rfl 12 rfl s12, trivial⟩ 13 rfl rfl rfl hS (AgreeR.refl _) (t_sat (fun _ h => h) (hK () trivial))
        · -- 14
         rintro _ S hF hS D hp K hK
         try dsimp only at hF ⊢
         have s6 := hp 6 rfl
         have s13 := hp 13 rfl
         refine d_need (small := [(29, (.int .i64 ((Kk).getD (((l).getD i 0).toNat) 0))), (36, (.int .i64 ((Kk).getD (((l).getD k 0).toNat) 0)))]) ⟨look_row rfl 6 rfl s6, look_row rfl 13 rfl s13, trivial⟩ ?_
         refine tp rfl (lv_lss rfl rfl (decide_eq_true h9)) ?_
         exact d_closes ⟨look_row rfl 6 rfl s6, look_row rfl 13 rfl s13, trivial⟩ 14 rfl rfl rfl hS (AgreeR.refl _) (t_sat (fun _ h => h) (hK () trivial))
        · -- 15
         rintro _ S hF hS D hp K hK
         try dsimp only at hF ⊢
         have s14 := hp 14 rfl
         refine d_need (small := [(37, (.bool true))]) ⟨look_row rfl 14 rfl s14, trivial⟩ ?_
         refine tp rfl (lv_move rfl) ?_
         exact d_closes ⟨look_row rfl 14 rfl s14, trivial⟩ 15 rfl rfl rfl hS (AgreeR.refl _) (t_sat (fun _ h => h) (hK () trivial))
        · -- 16
         rintro _ S hF hS D hp K hK
         try dsimp only at hF ⊢
         have s15 := hp 15 rfl
         refine d_need (small := [(0, (.pointer (some ⟨p, 0, none⟩))), (38, (.bool true))]) ⟨look_b rfl rfl, look_row rfl 15 rfl s15, trivial⟩ ?_
         refine t_skip rfl rfl rfl ?_
         exact d_closes ⟨look_b rfl rfl, look_row rfl 15 rfl s15, trivial⟩ 16 rfl rfl rfl hS (AgreeR.refl _) (t_sat (fun _ h => h) (hK () trivial))
        · -- 17
         rintro _ S hF hS D hp K hK
         try dsimp only at hF ⊢
         have s15 := hp 15 rfl
         have s16 := hp 16 rfl
         refine d_need (small := [(38, (.bool true)), (39, undef)]) ⟨look_row rfl 15 rfl s15, look_row rfl 16 rfl s16, trivial⟩ ?_
         refine t_skip rfl rfl rfl ?_
         exact d_closes ⟨look_row rfl 15 rfl s15, look_row rfl 16 rfl s16, trivial⟩ 17 rfl rfl rfl hS (AgreeR.refl _) (t_sat (fun _ h => h) (hK () trivial))
        · -- 18
         rintro _ S hF hS D hp K hK
         try dsimp only at hF ⊢
         have s15 := hp 15 rfl
         have s17 := hp 17 rfl
         refine d_need (small := [(38, (.bool true)), (40, undef)]) ⟨look_row rfl 15 rfl s15, look_row rfl 17 rfl s17, trivial⟩ ?_
         refine t_skip rfl rfl rfl ?_
         exact d_closes ⟨look_row rfl 15 rfl s15, look_row rfl 17 rfl s17, trivial⟩ 18 rfl rfl rfl hS (AgreeR.refl _) (t_sat (fun _ h => h) (hK () trivial))
        · -- 19
         rintro _ S hF hS D hp K hK
         try dsimp only at hF ⊢
         have s15 := hp 15 rfl
         have s18 := hp 18 rfl
         refine d_need (small := [(38, (.bool true)), (41, undef)]) ⟨look_row rfl 15 rfl s15, look_row rfl 18 rfl s18, trivial⟩ ?_
         refine t_skip rfl rfl rfl ?_
         exact d_closes ⟨look_row rfl 15 rfl s15, look_row rfl 18 rfl s18, trivial⟩ 19 rfl rfl rfl hS (AgreeR.refl _) (t_sat (fun _ h => h) (hK () trivial))
        · -- 20
         rintro _ S hF hS D hp K hK
         try dsimp only at hF ⊢
         have s15 := hp 15 rfl
         refine d_need (small := [(7, (.int .i64 ((l).getD i 0))), (38, (.bool true))]) ⟨look_b rfl rfl, look_row rfl 15 rfl s15, trivial⟩ ?_
         refine t_skip rfl rfl rfl ?_
         exact d_closes ⟨look_b rfl rfl, look_row rfl 15 rfl s15, trivial⟩ 20 rfl rfl rfl hS (AgreeR.refl _) (t_sat (fun _ h => h) (hK () trivial))
        · -- 21
         rintro _ S hF hS D hp K hK
         try dsimp only at hF ⊢
         have s15 := hp 15 rfl
         have s19 := hp 19 rfl
         have s20 := hp 20 rfl
         refine d_need (small := [(38, (.bool true)), (42, undef), (43, undef)]) ⟨look_row rfl 15 rfl s15, look_row rfl 19 rfl s19, look_row rfl 20 rfl s20, trivial⟩ ?_
         refine t_skip rfl rfl rfl ?_
         exact d_closes ⟨look_row rfl 15 rfl s15, look_row rfl 19 rfl s19, look_row rfl 20 rfl s20, trivial⟩ 21 rfl rfl rfl hS (AgreeR.refl _) (t_sat (fun _ h => h) (hK () trivial))
        · -- 22
         rintro _ S hF hS D hp K hK
         try dsimp only at hF ⊢
         have s15 := hp 15 rfl
         have s21 := hp 21 rfl
         refine d_need (small := [(38, (.bool true)), (44, undef)]) ⟨look_row rfl 15 rfl s15, look_row rfl 21 rfl s21, trivial⟩ ?_
         refine t_skip rfl rfl rfl ?_
         exact d_closes ⟨look_row rfl 15 rfl s15, look_row rfl 21 rfl s21, trivial⟩ 22 rfl rfl rfl hS (AgreeR.refl _) (t_sat (fun _ h => h) (hK () trivial))
        · -- 23
         rintro _ S hF hS D hp K hK
         try dsimp only at hF ⊢
         have s15 := hp 15 rfl
         refine d_need (small := [(0, (.pointer (some ⟨p, 0, none⟩))), (38, (.bool true))]) ⟨look_b rfl rfl, look_row rfl 15 rfl s15, trivial⟩ ?_
         refine t_skip rfl rfl rfl ?_
         exact d_closes ⟨look_b rfl rfl, look_row rfl 15 rfl s15, trivial⟩ 23 rfl rfl rfl hS (AgreeR.refl _) (t_sat (fun _ h => h) (hK () trivial))
        · -- 24
         rintro _ S hF hS D hp K hK
         try dsimp only at hF ⊢
         have s15 := hp 15 rfl
         have s23 := hp 23 rfl
         refine d_need (small := [(38, (.bool true)), (46, undef)]) ⟨look_row rfl 15 rfl s15, look_row rfl 23 rfl s23, trivial⟩ ?_
         refine t_skip rfl rfl rfl ?_
         exact d_closes ⟨look_row rfl 15 rfl s15, look_row rfl 23 rfl s23, trivial⟩ 24 rfl rfl rfl hS (AgreeR.refl _) (t_sat (fun _ h => h) (hK () trivial))
        · -- 25
         rintro _ S hF hS D hp K hK
         try dsimp only at hF ⊢
         have s15 := hp 15 rfl
         have s24 := hp 24 rfl
         refine d_need (small := [(38, (.bool true)), (47, undef)]) ⟨look_row rfl 15 rfl s15, look_row rfl 24 rfl s24, trivial⟩ ?_
         refine t_skip rfl rfl rfl ?_
         exact d_closes ⟨look_row rfl 15 rfl s15, look_row rfl 24 rfl s24, trivial⟩ 25 rfl rfl rfl hS (AgreeR.refl _) (t_sat (fun _ h => h) (hK () trivial))
        · -- 26
         rintro _ S hF hS D hp K hK
         try dsimp only at hF ⊢
         have s15 := hp 15 rfl
         have s25 := hp 25 rfl
         refine d_need (small := [(38, (.bool true)), (48, undef)]) ⟨look_row rfl 15 rfl s15, look_row rfl 25 rfl s25, trivial⟩ ?_
         refine t_skip rfl rfl rfl ?_
         exact d_closes ⟨look_row rfl 15 rfl s15, look_row rfl 25 rfl s25, trivial⟩ 26 rfl rfl rfl hS (AgreeR.refl _) (t_sat (fun _ h => h) (hK () trivial))
        · -- 27
         rintro _ S hF hS D hp K hK
         try dsimp only at hF ⊢
         have s15 := hp 15 rfl
         refine d_need (small := [(8, (.int .i64 ((l).getD k 0))), (38, (.bool true))]) ⟨look_b rfl rfl, look_row rfl 15 rfl s15, trivial⟩ ?_
         refine t_skip rfl rfl rfl ?_
         exact d_closes ⟨look_b rfl rfl, look_row rfl 15 rfl s15, trivial⟩ 27 rfl rfl rfl hS (AgreeR.refl _) (t_sat (fun _ h => h) (hK () trivial))
        · -- 28
         rintro _ S hF hS D hp K hK
         try dsimp only at hF ⊢
         have s15 := hp 15 rfl
         have s26 := hp 26 rfl
         have s27 := hp 27 rfl
         refine d_need (small := [(38, (.bool true)), (49, undef), (50, undef)]) ⟨look_row rfl 15 rfl s15, look_row rfl 26 rfl s26, look_row rfl 27 rfl s27, trivial⟩ ?_
         refine t_skip rfl rfl rfl ?_
         exact d_closes ⟨look_row rfl 15 rfl s15, look_row rfl 26 rfl s26, look_row rfl 27 rfl s27, trivial⟩ 28 rfl rfl rfl hS (AgreeR.refl _) (t_sat (fun _ h => h) (hK () trivial))
        · -- 29
         rintro _ S hF hS D hp K hK
         try dsimp only at hF ⊢
         have s15 := hp 15 rfl
         have s28 := hp 28 rfl
         refine d_need (small := [(38, (.bool true)), (51, undef)]) ⟨look_row rfl 15 rfl s15, look_row rfl 28 rfl s28, trivial⟩ ?_
         refine t_skip rfl rfl rfl ?_
         exact d_closes ⟨look_row rfl 15 rfl s15, look_row rfl 28 rfl s28, trivial⟩ 29 rfl rfl rfl hS (AgreeR.refl _) (t_sat (fun _ h => h) (hK () trivial))
        · -- 30
         rintro _ S hF hS D hp K hK
         try dsimp only at hF ⊢
         have s15 := hp 15 rfl
         have s22 := hp 22 rfl
         have s29 := hp 29 rfl
         refine d_need (small := [(38, (.bool true)), (45, undef), (52, undef)]) ⟨look_row rfl 15 rfl s15, look_row rfl 22 rfl s22, look_row rfl 29 rfl s29, trivial⟩ ?_
         refine t_skip rfl rfl rfl ?_
         exact d_closes ⟨look_row rfl 15 rfl s15, look_row rfl 22 rfl s22, look_row rfl 29 rfl s29, trivial⟩ 30 rfl rfl rfl hS (AgreeR.refl _) (t_sat (fun _ h => h) (hK () trivial))
        · -- 31
         rintro _ S hF hS D hp K hK
         try dsimp only at hF ⊢
         have s15 := hp 15 rfl
         have s30 := hp 30 rfl
         refine d_need (small := [(38, (.bool true)), (53, undef)]) ⟨look_row rfl 15 rfl s15, look_row rfl 30 rfl s30, trivial⟩ ?_
         refine t_skip rfl rfl rfl ?_
         exact d_closes ⟨look_row rfl 15 rfl s15, look_row rfl 30 rfl s30, trivial⟩ 31 rfl rfl rfl hS (AgreeR.refl _) (t_sat (fun _ h => h) (hK () trivial))
        · -- 32
         rintro _ S hF hS D hp K hK
         try dsimp only at hF ⊢
         have s31 := hp 31 rfl
         refine d_need (small := [(7, (.int .i64 ((l).getD i 0))), (54, undef)]) ⟨look_b rfl rfl, look_row rfl 31 rfl s31, trivial⟩ ?_
         refine t_skipu rfl rfl rfl ?_
         exact d_closes ⟨look_b rfl rfl, look_row rfl 31 rfl s31, trivial⟩ 32 rfl rfl rfl hS (AgreeR.refl _) (t_sat (fun _ h => h) (hK () trivial))
        · -- 33
         rintro _ S hF hS D hp K hK
         try dsimp only at hF ⊢
         have s31 := hp 31 rfl
         refine d_need (small := [(8, (.int .i64 ((l).getD k 0))), (54, undef)]) ⟨look_b rfl rfl, look_row rfl 31 rfl s31, trivial⟩ ?_
         refine t_skipu rfl rfl rfl ?_
         exact d_closes ⟨look_b rfl rfl, look_row rfl 31 rfl s31, trivial⟩ 33 rfl rfl rfl hS (AgreeR.refl _) (t_sat (fun _ h => h) (hK () trivial))
        · -- 34
         rintro _ S hF hS D hp K hK
         try dsimp only at hF ⊢
         have s31 := hp 31 rfl
         have s32 := hp 32 rfl
         have s33 := hp 33 rfl
         refine d_need (small := [(54, undef), (55, undef), (56, undef)]) ⟨look_row rfl 31 rfl s31, look_row rfl 32 rfl s32, look_row rfl 33 rfl s33, trivial⟩ ?_
         refine t_skipu rfl rfl rfl ?_
         exact d_closes ⟨look_row rfl 31 rfl s31, look_row rfl 32 rfl s32, look_row rfl 33 rfl s33, trivial⟩ 34 rfl rfl rfl hS (AgreeR.refl _) (t_sat (fun _ h => h) (hK () trivial))
        · -- 35
         rintro _ S hF hS D hp K hK
         try dsimp only at hF ⊢
         have s15 := hp 15 rfl
         have s31 := hp 31 rfl
         have s34 := hp 34 rfl
         refine d_need (small := [(38, (.bool true)), (54, undef), (57, undef)]) ⟨look_row rfl 15 rfl s15, look_row rfl 31 rfl s31, look_row rfl 34 rfl s34, trivial⟩ ?_
         refine t_skip rfl rfl rfl ?_
         exact d_closes ⟨look_row rfl 15 rfl s15, look_row rfl 31 rfl s31, look_row rfl 34 rfl s34, trivial⟩ 35 rfl rfl rfl hS (AgreeR.refl _) (t_sat (fun _ h => h) (hK () trivial))
        · -- 36
         rintro _ S hF hS D hp K hK
         try dsimp only at hF ⊢
         have s15 := hp 15 rfl
         have s35 := hp 35 rfl
         refine d_need (small := [(38, (.bool true)), (58, undef)]) ⟨look_row rfl 15 rfl s15, look_row rfl 35 rfl s35, trivial⟩ ?_
         refine tp rfl (lv_pick_t rfl rfl) ?_
         exact d_closes ⟨look_row rfl 15 rfl s15, look_row rfl 35 rfl s35, trivial⟩ 36 rfl rfl rfl hS (AgreeR.refl _) (t_sat (fun _ h => h) (hK () trivial))
        · -- 37
         rintro _ S hF hS D hp K hK
         try dsimp only at hF ⊢
         have s36 := hp 36 rfl
         refine d_need (small := [(59, (.bool true))]) ⟨look_row rfl 36 rfl s36, trivial⟩ ?_
         refine tp rfl (lv_assign rfl) ?_
         exact d_closes ⟨look_row rfl 36 rfl s36, trivial⟩ 37 rfl rfl rfl hS (AgreeR.refl _) (t_sat (fun _ h => h) (hK () trivial))
      · -- behind
        rintro _ hF
        try dsimp only at hF ⊢
        refine t_weak (E' := [(0, (.pointer (some ⟨p, 0, none⟩))), (1, (.int .i64 ((i : Nat) : Int))), (2, (.int .i64 ((k : Nat) : Int))), (6, (.bool true)), (7, (.int .i64 ((l).getD i 0))), (8, (.int .i64 ((l).getD k 0)))]) ⟨rfl, rfl, rfl, rfl, rfl, rfl, trivial⟩ ?_
        refine q_then_n (hK3 _ _ ?_)
        refine c_ret ?_
        refine t_f3 ?_
        refine t_f3 ?_
        refine t_f3 ?_
        refine t_f3 ?_
        refine t_shutW rfl hR8 ?_
        refine q_ret rfl rfl ?_
        refine ⟨?_, rfl⟩
        congr 1
        first | exact less_t (by assumption) | exact less_e (by assumption) (by assumption) | exact less_f (by assumption) (by assumption)
    · -- no
      by_cases h10 : ((Kk).getD (((l).getD i 0).toNat) 0) = ((Kk).getD (((l).getD k 0).toNat) 0)
      · -- yes
        refine c_draw (γ := Unit) (n := 38) Try.mixed rfl rfl (fun _ S => True) (fun _ => [(0, 23, (.pointer (some ⟨p, 0, none⟩))), (1, 24, (.pointer (some ⟨p, 0, none⟩))), (2, 25, (.pointer (some ⟨p, 2, none⟩))), (3, 26, (.slice bs6 n cp7)), (4, 27, (.int .i64 ((l).getD i 0))), (5, 28, (.pointer (some (ad bs6 (((l).getD i 0).toNat))))), (6, 29, (.int .i64 ((Kk).getD (((l).getD i 0).toNat) 0))), (7, 30, (.pointer (some ⟨p, 0, none⟩))), (8, 31, (.pointer (some ⟨p, 0, none⟩))), (9, 32, (.pointer (some ⟨p, 2, none⟩))), (10, 33, (.slice bs6 n cp7)), (11, 34, (.int .i64 ((l).getD k 0))), (12, 35, (.pointer (some (ad bs6 (((l).getD k 0).toNat))))), (13, 36, (.int .i64 ((Kk).getD (((l).getD k 0).toNat) 0))), (14, 37, (.bool false)), (15, 38, (.bool false)), (16, 39, (.pointer (some ⟨p, 0, none⟩))), (17, 40, (.pointer (some ⟨p, 0, none⟩))), (18, 41, (.pointer (some ⟨p, 2, none⟩))), (19, 42, (.slice bs6 n cp7)), (20, 43, (.int .i64 ((l).getD i 0))), (21, 44, (.pointer (some (ad bs6 (((l).getD i 0).toNat))))), (22, 45, (.int .i64 ((Kk).getD (((l).getD i 0).toNat) 0))), (23, 46, (.pointer (some ⟨p, 0, none⟩))), (24, 47, (.pointer (some ⟨p, 0, none⟩))), (25, 48, (.pointer (some ⟨p, 2, none⟩))), (26, 49, (.slice bs6 n cp7)), (27, 50, (.int .i64 ((l).getD k 0))), (28, 51, (.pointer (some (ad bs6 (((l).getD k 0).toNat))))), (29, 52, (.int .i64 ((Kk).getD (((l).getD k 0).toNat) 0))), (30, 53, (.bool true)), (31, 54, (.bool true)), (32, 55, (.int .i64 ((l).getD i 0))), (33, 56, (.int .i64 ((l).getD k 0))), (34, 57, (.bool (decide (((l).getD i 0) < ((l).getD k 0))))), (35, 58, (.bool (decide (((l).getD i 0) < ((l).getD k 0))))), (36, 59, (.bool (decide (((l).getD i 0) < ((l).getD k 0))))), (37, 6, (.bool (decide (((l).getD i 0) < ((l).getD k 0)))))]) (fun _ S => (Blk p [(.slice bs2 l.length cp3), (.slice bs4 n cp5), (.slice bs6 n cp7)] 65) :: (SlV 3 1 (.slice bs2 l.length cp3) l.length (ints .i64 l)) :: (SlV 3 1 (.slice bs4 n cp5) n (ints .i64 at1)) :: (SlV 3 1 (.slice bs6 n cp7) n (ints .i64 Kk)) :: R) (()) trivial (fun _ h => h) (fun _ _ h => h) ?_ ?_
        · -- steps
         refine ⟨?_, ?_, ?_, ?_, ?_, ?_, ?_, ?_, ?_, ?_, ?_, ?_, ?_, ?_, ?_, ?_, ?_, ?_, ?_, ?_, ?_, ?_, ?_, ?_, ?_, ?_, ?_, ?_, ?_, ?_, ?_, ?_, ?_, ?_, ?_, ?_, ?_, ?_, trivial⟩
         · -- 0
          rintro _ S hF hS D hp K hK
          try dsimp only at hF ⊢
          refine d_need (small := [(0, (.pointer (some ⟨p, 0, none⟩)))]) ⟨look_b rfl rfl, trivial⟩ ?_
          refine tp rfl (lv_move rfl) ?_
          exact d_closes ⟨look_b rfl rfl, trivial⟩ 0 rfl rfl rfl hS (AgreeR.refl _) (t_sat (fun _ h => h) (hK () trivial))
         · -- 1
          rintro _ S hF hS D hp K hK
          try dsimp only at hF ⊢
          have s0 := hp 0 rfl
          refine d_need (small := [(23, (.pointer (some ⟨p, 0, none⟩)))]) ⟨look_row rfl 0 rfl s0, trivial⟩ ?_
          refine tp rfl (lv_nilCheck rfl) ?_
          exact d_closes ⟨look_row rfl 0 rfl s0, trivial⟩ 1 rfl rfl rfl hS (AgreeR.refl _) (t_sat (fun _ h => h) (hK () trivial))
         · -- 2
          rintro _ S hF hS D hp K hK
          try dsimp only at hF ⊢
          have s1 := hp 1 rfl
          refine d_need (small := [(24, (.pointer (some ⟨p, 0, none⟩)))]) ⟨look_row rfl 1 rfl s1, trivial⟩ ?_
          refine tp rfl (lv_fieldAddr (o' := 2) Try.underlying63 rfl Try.sizeOf30 rfl rfl) ?_
          exact d_closes ⟨look_row rfl 1 rfl s1, trivial⟩ 2 rfl rfl rfl hS (AgreeR.refl _) (t_sat (fun _ h => h) (hK () trivial))
         · -- 3
          rintro _ S hF hS D hp K hK
          try dsimp only at hF ⊢
          have s2 := hp 2 rfl
          refine d_need (small := [(25, (.pointer (some ⟨p, 2, none⟩)))]) ⟨look_row rfl 2 rfl s2, trivial⟩ ?_
          refine tp rfl (lv_load Try.isAgg30 rfl (gives_blk (.head _) rfl)) ?_
          exact d_closes ⟨look_row rfl 2 rfl s2, trivial⟩ 3 rfl rfl rfl hS (AgreeR.refl _) (t_sat (fun _ h => h) (hK () trivial))
         · -- 4
          rintro _ S hF hS D hp K hK
          try dsimp only at hF ⊢
          refine d_need (small := [(7, (.int .i64 ((l).getD i 0)))]) ⟨look_b rfl rfl, trivial⟩ ?_
          refine tp rfl (lv_move rfl) ?_
          exact d_closes ⟨look_b rfl rfl, trivial⟩ 4 rfl rfl rfl hS (AgreeR.refl _) (t_sat (fun _ h => h) (hK () trivial))
         · -- 5
          rintro _ S hF hS D hp K hK
          try dsimp only at hF ⊢
          have s3 := hp 3 rfl
          have s4 := hp 4 rfl
          refine d_need (small := [(26, (.slice bs6 n cp7)), (27, (.int .i64 ((l).getD i 0)))]) ⟨look_row rfl 3 rfl s3, look_row rfl 4 rfl s4, trivial⟩ ?_
          refine tp rfl (lv_indexAddr (k' := ((l).getD i 0).toNat) Try.underlying30 Try.sizeOf3 rfl rfl hR8.okk (by omega) (by omega) (by omega)) ?_
          exact d_closes ⟨look_row rfl 3 rfl s3, look_row rfl 4 rfl s4, trivial⟩ 5 rfl rfl rfl hS (AgreeR.refl _) (t_sat (fun _ h => h) (hK () trivial))
         · -- 6
          rintro _ S hF hS D hp K hK
          try dsimp only at hF ⊢
          have s5 := hp 5 rfl
          refine d_need (small := [(28, (.pointer (some (ad bs6 (((l).getD i 0).toNat)))))]) ⟨look_row rfl 5 rfl s5, trivial⟩ ?_
          refine tp rfl (lv_load Try.isAgg3 rfl (gives_sl (.tail _ (.tail _ (.tail _ (.head _)))) (ints_get (by omega)))) ?_
          exact d_closes ⟨look_row rfl 5 rfl s5, trivial⟩ 6 rfl rfl rfl hS (AgreeR.refl _) (t_sat (fun _ h => h) (hK () trivial))
         · -- 7
          rintro _ S hF hS D hp K hK
          try dsimp only at hF ⊢
          refine d_need (small := [(0, (.pointer (some ⟨p, 0, none⟩)))]) ⟨look_b rfl rfl, trivial⟩ ?_
          refine tp rfl (lv_move rfl) ?_
          exact d_closes ⟨look_b rfl rfl, trivial⟩ 7 rfl rfl rfl hS (AgreeR.refl _) (t_sat (fun _ h => h) (hK () trivial))
         · -- 8
          rintro _ S hF hS D hp K hK
          try dsimp only at hF ⊢
          have s7 := hp 7 rfl
          refine d_need (small := [(30, (.pointer (some ⟨p, 0, none⟩)))]) ⟨look_row rfl 7 rfl s7, trivial⟩ ?_
          refine tp rfl (lv_nilCheck rfl) ?_
          exact d_closes ⟨look_row rfl 7 rfl s7, trivial⟩ 8 rfl rfl rfl hS (AgreeR.refl _) (t_sat (fun _ h => h) (hK () trivial))
         · -- 9
          rintro _ S hF hS D hp K hK
          try dsimp only at hF ⊢
          have s8 := hp 8 rfl
          refine d_need (small := [(31, (.pointer (some ⟨p, 0, none⟩)))]) ⟨look_row rfl 8 rfl s8, trivial⟩ ?_
          refine tp rfl (lv_fieldAddr (o' := 2) Try.underlying63 rfl Try.sizeOf30 rfl rfl) ?_
          exact d_closes ⟨look_row rfl 8 rfl s8, trivial⟩ 9 rfl rfl rfl hS (AgreeR.refl _) (t_sat (fun _ h => h) (hK () trivial))
         · -- 10
          rintro _ S hF hS D hp K hK
          try dsimp only at hF ⊢
          have s9 := hp 9 rfl
          refine d_need (small := [(32, (.pointer (some ⟨p, 2, none⟩)))]) ⟨look_row rfl 9 rfl s9, trivial⟩ ?_
          refine tp rfl (lv_load Try.isAgg30 rfl (gives_blk (.head _) rfl)) ?_
          exact d_closes ⟨look_row rfl 9 rfl s9, trivial⟩ 10 rfl rfl rfl hS (AgreeR.refl _) (t_sat (fun _ h => h) (hK () trivial))
         · -- 11
          rintro _ S hF hS D hp K hK
          try dsimp only at hF ⊢
          refine d_need (small := [(8, (.int .i64 ((l).getD k 0)))]) ⟨look_b rfl rfl, trivial⟩ ?_
          refine tp rfl (lv_move rfl) ?_
          exact d_closes ⟨look_b rfl rfl, trivial⟩ 11 rfl rfl rfl hS (AgreeR.refl _) (t_sat (fun _ h => h) (hK () trivial))
         · -- 12
          rintro _ S hF hS D hp K hK
          try dsimp only at hF ⊢
          have s10 := hp 10 rfl
          have s11 := hp 11 rfl
          refine d_need (small := [(33, (.slice bs6 n cp7)), (34, (.int .i64 ((l).getD k 0)))]) ⟨look_row rfl 10 rfl s10, look_row rfl 11 rfl s11, trivial⟩ ?_
          refine tp rfl (lv_indexAddr (k' := ((l).getD k 0).toNat) Try.underlying30 Try.sizeOf3 rfl rfl hR8.okk (by omega) (by omega) (by omega)) ?_
          exact d_closes ⟨look_row rfl 10 rfl s10, look_row rfl 11 rfl s11, trivial⟩ 12 rfl rfl rfl hS (AgreeR.refl _) (t_sat (fun _ h => h) (hK () trivial))
         · -- 13
          rintro _ S hF hS D hp K hK
          try dsimp only at hF ⊢
          have s12 := hp 12 rfl
          refine d_need (small := [(35, (.pointer (some (ad bs6 (((l).getD k 0).toNat)))))]) ⟨look_row rfl 12 rfl s12, trivial⟩ ?_
          refine tp rfl (lv_load Try.isAgg3 rfl (gives_sl (.tail _ (.tail _ (.tail _ (.head _)))) (ints_get (by omega)))) ?_
          exact d_closes ⟨look_row rfl 12 rfl s12, trivial⟩ 13 rfl rfl rfl hS (AgreeR.refl _) (t_sat (fun _ h => h) (hK () trivial))
         · -- 14
          rintro _ S hF hS D hp K hK
          try dsimp only at hF ⊢
          have s6 := hp 6 rfl
          have s13 := hp 13 rfl
          refine d_need (small := [(29, (.int .i64 ((Kk).getD (((l).getD i 0).toNat) 0))), (36, (.int .i64 ((Kk).getD (((l).getD k 0).toNat) 0)))]) ⟨look_row rfl 6 rfl s6, look_row rfl 13 rfl s13, trivial⟩ ?_
          refine tp rfl (lv_lss rfl rfl (decide_eq_false h9)) ?_
          exact d_closes ⟨look_row rfl 6 rfl s6, look_row rfl 13 rfl s13, trivial⟩ 14 rfl rfl rfl hS (AgreeR.refl _) (t_sat (fun _ h => h) (hK () trivial))
         · -- 15
          rintro _ S hF hS D hp K hK
          try dsimp only at hF ⊢
          have s14 := hp 14 rfl
          refine d_need (small := [(37, (.bool false))]) ⟨look_row rfl 14 rfl s14, trivial⟩ ?_
          refine tp rfl (lv_move rfl) ?_
          exact d_closes ⟨look_row rfl 14 rfl s14, trivial⟩ 15 rfl rfl rfl hS (AgreeR.refl _) (t_sat (fun _ h => h) (hK () trivial))
         · -- 16
          rintro _ S hF hS D hp K hK
          try dsimp only at hF ⊢
          have s15 := hp 15 rfl
          refine d_need (small := [(0, (.pointer (some ⟨p, 0, none⟩))), (38, (.bool false))]) ⟨look_b rfl rfl, look_row rfl 15 rfl s15, trivial⟩ ?_
          refine t_guard rfl rfl ?_
          refine tp rfl (lv_move rfl) ?_
          exact d_closes ⟨look_b rfl rfl, look_row rfl 15 rfl s15, trivial⟩ 16 rfl rfl rfl hS (AgreeR.refl _) (t_sat (fun _ h => h) (hK () trivial))
         · -- 17
          rintro _ S hF hS D hp K hK
          try dsimp only at hF ⊢
          have s15 := hp 15 rfl
          have s16 := hp 16 rfl
          refine d_need (small := [(38, (.bool false)), (39, (.pointer (some ⟨p, 0, none⟩)))]) ⟨look_row rfl 15 rfl s15, look_row rfl 16 rfl s16, trivial⟩ ?_
          refine t_guard rfl rfl ?_
          refine tp rfl (lv_nilCheck rfl) ?_
          exact d_closes ⟨look_row rfl 15 rfl s15, look_row rfl 16 rfl s16, trivial⟩ 17 rfl rfl rfl hS (AgreeR.refl _) (t_sat (fun _ h => h) (hK () trivial))
         · -- 18
          rintro _ S hF hS D hp K hK
          try dsimp only at hF ⊢
          have s15 := hp 15 rfl
          have s17 := hp 17 rfl
          refine d_need (small := [(38, (.bool false)), (40, (.pointer (some ⟨p, 0, none⟩)))]) ⟨look_row rfl 15 rfl s15, look_row rfl 17 rfl s17, trivial⟩ ?_
          refine t_guard rfl rfl ?_
          refine tp rfl (lv_fieldAddr (o' := 2) Try.underlying63 rfl Try.sizeOf30 rfl rfl) ?_
          exact d_closes ⟨look_row rfl 15 rfl s15, look_row rfl 17 rfl s17, trivial⟩ 18 rfl rfl rfl hS (AgreeR.refl _) (t_sat (fun _ h => h) (hK () trivial))
         · -- 19
          rintro _ S hF hS D hp K hK
          try dsimp only at hF ⊢
          have s15 := hp 15 rfl
          have s18 := hp 18 rfl
          refine d_need (small := [(38, (.bool false)), (41, (.pointer (some ⟨p, 2, none⟩)))]) ⟨look_row rfl 15 rfl s15, look_row rfl 18 rfl s18, trivial⟩ ?_
          refine t_guard rfl rfl ?_
          refine tp rfl (lv_load Try.isAgg30 rfl (gives_blk (.head _) rfl)) ?_
          exact d_closes ⟨look_row rfl 15 rfl s15, look_row rfl 18 rfl s18, trivial⟩ 19 rfl rfl rfl hS (AgreeR.refl _) (t_sat (fun _ h => h) (hK () trivial))
         · -- 20
          rintro _ S hF hS D hp K hK
          try dsimp only at hF ⊢
          have s15 := hp 15 rfl
          refine d_need (small := [(7, (.int .i64 ((l).getD i 0))), (38, (.bool false))]) ⟨look_b rfl rfl, look_row rfl 15 rfl s15, trivial⟩ ?_
          refine t_guard rfl rfl ?_
          refine tp rfl (lv_move rfl) ?_
          exact d_closes ⟨look_b rfl rfl, look_row rfl 15 rfl s15, trivial⟩ 20 rfl rfl rfl hS (AgreeR.refl _) (t_sat (fun _ h => h) (hK () trivial))
         · -- 21
          rintro _ S hF hS D hp K hK
          try dsimp only at hF ⊢
          have s15 := hp 15 rfl
          have s19 := hp 19 rfl
          have s20 := hp 20 rfl
          refine d_need (small := [(38, (.bool false)), (42, (.slice bs6 n cp7)), (43, (.int .i64 ((l).getD i 0)))]) ⟨look_row rfl 15 rfl s15, look_row rfl 19 rfl s19, look_row rfl 20 rfl s20, trivial⟩ ?_
          refine t_guard rfl rfl ?_
          refine tp rfl (lv_indexAddr (k' := ((l).getD i 0).toNat) Try.underlying30 Try.sizeOf3 rfl rfl hR8.okk (by omega) (by omega) (by omega)) ?_
          exact d_closes ⟨look_row rfl 15 rfl s15, look_row rfl 19 rfl s19, look_row rfl 20 rfl s20, trivial⟩ 21 rfl rfl rfl hS (AgreeR.refl _) (t_sat (fun _ h => h) (hK () trivial))
         · -- 22
          rintro _ S hF hS D hp K hK
          try dsimp only at hF ⊢
          have s15 := hp 15 rfl
          have s21 := hp 21 rfl
          refine d_need (small := [(38, (.bool false)), (44, (.pointer (some (ad bs6 (((l).getD i 0).toNat)))))]) ⟨look_row rfl 15 rfl s15, look_row rfl 21 rfl s21, trivial⟩ ?_
          refine t_guard rfl rfl ?_
          refine tp rfl (lv_load Try.isAgg3 rfl (gives_sl (.tail _ (.tail _ (.tail _ (.head _)))) (ints_get (by omega)))) ?_
          exact d_closes ⟨look_row rfl 15 rfl s15, look_row rfl 21 rfl s21, trivial⟩ 22 rfl rfl rfl hS (AgreeR.refl _) (t_sat (fun _ h => h) (hK () trivial))
         · -- 23
          rintro _ S hF hS D hp K hK
          try dsimp only at hF ⊢
          have s15 := hp 15 rfl
          refine d_need (small := [(0, (.pointer (some ⟨p, 0, none⟩))), (38, (.bool false))]) ⟨look_b rfl rfl, look_row rfl 15 rfl s15, trivial⟩ ?_
          refine t_guard rfl rfl ?_
          refine tp rfl (lv_move rfl) ?_
          exact d_closes ⟨look_b rfl rfl, look_row rfl 15 rfl s15, trivial⟩ 23 rfl rfl rfl hS (AgreeR.refl _) (t_sat (fun _ h => h) (hK () trivial))
         · -- 24
          rintro _ S hF hS D hp K hK
          try dsimp only at hF ⊢
          have s15 := hp 15 rfl
          have s23 := hp 23 rfl
          refine d_need (small := [(38, (.bool false)), (46, (.pointer (some ⟨p, 0, none⟩)))]) ⟨look_row rfl 15 rfl s15, look_row rfl 23 rfl s23, trivial⟩ ?_
          refine t_guard rfl rfl ?_
          refine tp rfl (lv_nilCheck rfl) ?_
          exact d_closes ⟨look_row rfl 15 rfl s15, look_row rfl 23 rfl s23, trivial⟩ 24 rfl rfl rfl hS (AgreeR.refl _) (t_sat (fun _ h => h) (hK () trivial))
         · -- 25
          rintro _ S hF hS D hp K hK
          try dsimp only at hF ⊢
          have s15 := hp 15 rfl
          have s24 := hp 24 rfl
          refine d_need (small := [(38, (.bool false)), (47, (.pointer (some ⟨p, 0, none⟩)))]) ⟨look_row rfl 15 rfl s15, look_row rfl 24 rfl s24, trivial⟩ ?_
          refine t_guard rfl rfl ?_
          refine tp rfl (lv_fieldAddr (o' := 2) Try.underlying63 rfl Try.sizeOf30 rfl rfl) ?_
          exact d_closes ⟨look_row rfl 15 rfl s15, look_row rfl 24 rfl s24, trivial⟩ 25 rfl rfl rfl hS (AgreeR.refl _) (t_sat (fun _ h => h) (hK () trivial))
         · -- 26
          rintro _ S hF hS D hp K hK
          try dsimp only at hF ⊢
          have s15 := hp 15 rfl
          have s25 := hp 25 rfl
          refine d_need (small := [(38, (.bool false)), (48, (.pointer (some ⟨p, 2, none⟩)))]) ⟨look_row rfl 15 rfl s15, look_row rfl 25 rfl s25, trivial⟩ ?_
          refine t_guard rfl rfl ?_
          refine tp rfl (lv_load Try.isAgg30 rfl (gives_blk (.head _) rfl)) ?_
          exact d_closes ⟨look_row rfl 15 rfl s15, look_row rfl 25 rfl s25, trivial⟩ 26 rfl rfl rfl hS (AgreeR.refl _) (t_sat (fun _ h => h) (hK () trivial))
         · -- 27
          rintro _ S hF hS D hp K hK
          try dsimp only at hF ⊢
          have s15 := hp 15 rfl
          refine d_need (small := [(8, (.int .i64 ((l).getD k 0))), (38, (.bool false))]) ⟨look_b rfl rfl, look_row rfl 15 rfl s15, trivial⟩ ?_
          refine t_guard rfl rfl ?_
          refine tp rfl (lv_move rfl) ?_
          exact d_closes ⟨look_b rfl rfl, look_row rfl 15 rfl s15, trivial⟩ 27 rfl rfl rfl hS (AgreeR.refl _) (t_sat (fun _ h => h) (hK () trivial))
         · -- 28
          rintro _ S hF hS D hp K hK
          try dsimp only at hF ⊢
          have s15 := hp 15 rfl
          have s26 := hp 26 rfl
          have s27 := hp 27 rfl
          refine d_need (small := [(38, (.bool false)), (49, (.slice bs6 n cp7)), (50, (.int .i64 ((l).getD k 0)))]) ⟨look_row rfl 15 rfl s15, look_row rfl 26 rfl s26, look_row rfl 27 rfl s27, trivial⟩ ?_
          refine t_guard rfl rfl ?_
          refine tp rfl (lv_indexAddr (k' := ((l).getD k 0).toNat) Try.underlying30 Try.sizeOf3 rfl rfl hR8.okk (by omega) (by omega) (by omega)) ?_
          exact d_closes ⟨look_row rfl 15 rfl s15, look_row rfl 26 rfl s26, look_row rfl 27 rfl s27, trivial⟩ 28 rfl rfl rfl hS (AgreeR.refl _) (t_sat (fun _ h => h) (hK () trivial))
         · -- 29
          rintro _ S hF hS D hp K hK
          try dsimp only at hF ⊢
          have s15 := hp 15 rfl
          have s28 := hp 28 rfl
          refine d_need (small := [(38, (.bool false)), (51, (.pointer (some (ad bs6 (((l).getD k 0).toNat)))))]) ⟨look_row rfl 15 rfl s15, look_row rfl 28 rfl s28, trivial⟩ ?_
          refine t_guard rfl rfl ?_
          refine tp rfl (lv_load Try.isAgg3 rfl (gives_sl (.tail _ (.tail _ (.tail _ (.head _)))) (ints_get (by omega)))) ?_
          exact d_closes ⟨look_row rfl 15 rfl s15, look_row rfl 28 rfl s28, trivial⟩ 29 rfl rfl rfl hS (AgreeR.refl _) (t_sat (fun _ h => h) (hK () trivial))
         · -- 30
          rintro _ S hF hS D hp K hK
          try dsimp only at hF ⊢
          have s15 := hp 15 rfl
          have s22 := hp 22 rfl
          have s29 := hp 29 rfl
          refine d_need (small := [(38, (.bool false)), (45, (.int .i64 ((Kk).getD (((l).getD i 0).toNat) 0))), (52, (.int .i64 ((Kk).getD (((l).getD k 0).toNat) 0)))]) ⟨look_row rfl 15 rfl s15, look_row rfl 22 rfl s22, look_row rfl 29 rfl s29, trivial⟩ ?_
          refine t_guard rfl rfl ?_
          refine tp rfl (lv_eql rfl rfl (beq_iff_eq.2 h10)) ?_
          exact d_closes ⟨look_row rfl 15 rfl s15, look_row rfl 22 rfl s22, look_row rfl 29 rfl s29, trivial⟩ 30 rfl rfl rfl hS (AgreeR.refl _) (t_sat (fun _ h => h) (hK () trivial))
         · -- 31
          rintro _ S hF hS D hp K hK
          try dsimp only at hF ⊢
          have s15 := hp 15 rfl
          have s30 := hp 30 rfl
          refine d_need (small := [(38, (.bool false)), (53, (.bool true))]) ⟨look_row rfl 15 rfl s15, look_row rfl 30 rfl s30, trivial⟩ ?_
          refine t_guard rfl rfl ?_
          refine tp rfl (lv_move rfl) ?_
          exact d_closes ⟨look_row rfl 15 rfl s15, look_row rfl 30 rfl s30, trivial⟩ 31 rfl rfl rfl hS (AgreeR.refl _) (t_sat (fun _ h => h) (hK () trivial))
         · -- 32
          rintro _ S hF hS D hp K hK
          try dsimp only at hF ⊢
          have s31 := hp 31 rfl
          refine d_need (small := [(7, (.int .i64 ((l).getD i 0))), (54, (.bool true))]) ⟨look_b rfl rfl, look_row rfl 31 rfl s31, trivial⟩ ?_
          refine t_guard rfl rfl ?_
          refine tp rfl (lv_move rfl) ?_
          exact d_closes ⟨look_b rfl rfl, look_row rfl 31 rfl s31, trivial⟩ 32 rfl rfl rfl hS (AgreeR.refl _) (t_sat (fun _ h => h) (hK () trivial))
         · -- 33
          rintro _ S hF hS D hp K hK
          try dsimp only at hF ⊢
          have s31 := hp 31 rfl
          refine d_need (small := [(8, (.int .i64 ((l).getD k 0))), (54, (.bool true))]) ⟨look_b rfl rfl, look_row rfl 31 rfl s31, trivial⟩ ?_
          refine t_guard rfl rfl ?_
          refine tp rfl (lv_move rfl) ?_
          exact d_closes ⟨look_b rfl rfl, look_row rfl 31 rfl s31, trivial⟩ 33 rfl rfl rfl hS (AgreeR.refl _) (t_sat (fun _ h => h) (hK () trivial))
         · -- 34
          rintro _ S hF hS D hp K hK
          try dsimp only at hF ⊢
          have s31 := hp 31 rfl
          have s32 := hp 32 rfl
          have s33 := hp 33 rfl
          refine d_need (small := [(54, (.bool true)), (55, (.int .i64 ((l).getD i 0))), (56, (.int .i64 ((l).getD k 0)))]) ⟨look_row rfl 31 rfl s31, look_row rfl 32 rfl s32, look_row rfl 33 rfl s33, trivial⟩ ?_
          refine t_guard rfl rfl ?_
          refine tp rfl (lv_lss rfl rfl rfl) ?_
          exact d_closes ⟨look_row rfl 31 rfl s31, look_row rfl 32 rfl s32, look_row rfl 33 rfl s33, trivial⟩ 34 rfl rfl rfl hS (AgreeR.refl _) (t_sat (fun _ h => h) (hK () trivial))
         · -- 35
          rintro _ S hF hS D hp K hK
          try dsimp only at hF ⊢
          have s15 := hp 15 rfl
          have s31 := hp 31 rfl
          have s34 := hp 34 rfl
          refine d_need (small := [(38, (.bool false)), (54, (.bool true)), (57, (.bool (decide (((l).getD i 0) < ((l).getD k 0)))))]) ⟨look_row rfl 15 rfl s15, look_row rfl 31 rfl s31, look_row rfl 34 rfl s34, trivial⟩ ?_
          refine t_guard rfl rfl ?_
          refine tp rfl (lv_pick_t rfl rfl) ?_
          exact d_closes ⟨look_row rfl 15 rfl s15, look_row rfl 31 rfl s31, look_row rfl 34 rfl s34, trivial⟩ 35 rfl rfl rfl hS (AgreeR.refl _) (t_sat (fun _ h => h) (hK () trivial))
         · -- 36
          rintro _ S hF hS D hp K hK
          try dsimp only at hF ⊢
          have s15 := hp 15 rfl
          have s35 := hp 35 rfl
          refine d_need (small := [(38, (.bool false)), (58, (.bool (decide (((l).getD i 0) < ((l).getD k 0)))))]) ⟨look_row rfl 15 rfl s15, look_row rfl 35 rfl s35, trivial⟩ ?_
          refine tp rfl (lv_pick_f rfl rfl) ?_
          exact d_closes ⟨look_row rfl 15 rfl s15, look_row rfl 35 rfl s35, trivial⟩ 36 rfl rfl rfl hS (AgreeR.refl _) (t_sat (fun _ h => h) (hK () trivial))
         · -- 37
          rintro _ S hF hS D hp K hK
          try dsimp only at hF ⊢
          have s36 := hp 36 rfl
          refine d_need (small := [(59, (.bool (decide (((l).getD i 0) < ((l).getD k 0)))))]) ⟨look_row rfl 36 rfl s36, trivial⟩ ?_
          refine tp rfl (lv_assign rfl) ?_
          exact d_closes ⟨look_row rfl 36 rfl s36, trivial⟩ 37 rfl rfl rfl hS (AgreeR.refl _) (t_sat (fun _ h => h) (hK () trivial))
        · -- behind
         rintro _ hF
         try dsimp only at hF ⊢
         refine t_weak (E' := [(0, (.pointer (some ⟨p, 0, none⟩))), (1, (.int .i64 ((i : Nat) : Int))), (2, (.int .i64 ((k : Nat) : Int))), (6, (.bool (decide (((l).getD i 0) < ((l).getD k 0))))), (7, (.int .i64 ((l).getD i 0))), (8, (.int .i64 ((l).getD k 0)))]) ⟨rfl, rfl, rfl, rfl, rfl, rfl, trivial⟩ ?_
         refine q_then_n (hK3 _ _ ?_)
         refine c_ret ?_
         refine t_f3 ?_
         refine t_f3 ?_
         refine t_f3 ?_
         refine t_f3 ?_
         refine t_shutW rfl hR8 ?_
         refine q_ret rfl rfl ?_
         refine ⟨?_, rfl⟩
         congr 1
         first | exact less_t (by assumption) | exact less_e (by assumption) (by assumption) | exact less_f (by assumption) (by assumption)
      · -- no
        refine c_draw (γ := Unit) (n := 38) Try.mixed rfl rfl (fun _ S => True) (fun _ => [(0, 23, (.pointer (some ⟨p, 0, none⟩))), (1, 24, (.pointer (some ⟨p, 0, none⟩))), (2, 25, (.pointer (some ⟨p, 2, none⟩))), (3, 26, (.slice bs6 n cp7)), (4, 27, (.int .i64 ((l).getD i 0))), (5, 28, (.pointer (some (ad bs6 (((l).getD i 0).toNat))))), (6, 29, (.int .i64 ((Kk).getD (((l).getD i 0).toNat) 0))), (7, 30, (.pointer (some ⟨p, 0, none⟩))), (8, 31, (.pointer (some ⟨p, 0, none⟩))), (9, 32, (.pointer (some ⟨p, 2, none⟩))), (10, 33, (.slice bs6 n cp7)), (11, 34, (.int .i64 ((l).getD k 0))), (12, 35, (.pointer (some (ad bs6 (((l).getD k 0).toNat))))), (13, 36, (.int .i64 ((Kk).getD (((l).getD k 0).toNat) 0))), (14, 37, (.bool false)), (15, 38, (.bool false)), (16, 39, (.pointer (some ⟨p, 0, none⟩))), (17, 40, (.pointer (some ⟨p, 0, none⟩))), (18, 41, (.pointer (some ⟨p, 2, none⟩))), (19, 42, (.slice bs6 n cp7)), (20, 43, (.int .i64 ((l).getD i 0))), (21, 44, (.pointer (some (ad bs6 (((l).getD i 0).toNat))))), (22, 45, (.int .i64 ((Kk).getD (((l).getD i 0).toNat) 0))), (23, 46, (.pointer (some ⟨p, 0, none⟩))), (24, 47, (.pointer (some ⟨p, 0, none⟩))), (25, 48, (.pointer (some ⟨p, 2, none⟩))), (26, 49, (.slice bs6 n cp7)), (27, 50, (.int .i64 ((l).getD k 0))), (28, 51, (.pointer (some (ad bs6 (((l).getD k 0).toNat))))), (29, 52, (.int .i64 ((Kk).getD (((l).getD k 0).toNat) 0))), (30, 53, (.bool false)), (31, 54, (.bool false)), (32, 55, undef), (33, 56, undef), (34, 57, undef), (35, 58, (.bool false)), (36, 59, (.bool false)), (37, 6, (.bool false))]) (fun _ S => (Blk p [(.slice bs2 l.length cp3), (.slice bs4 n cp5), (.slice bs6 n cp7)] 65) :: (SlV 3 1 (.slice bs2 l.length cp3) l.length (ints .i64 l)) :: (SlV 3 1 (.slice bs4 n cp5) n (ints .i64 at1)) :: (SlV 3 1 (.slice bs6 n cp7) n (ints .i64 Kk)) :: R) (()) trivial (fun _ h => h) (fun _ _ h => h) ?_ ?_
        · -- steps
         refine ⟨?_, ?_, ?_, ?_, ?_, ?_, ?_, ?_, ?_, ?_, ?_, ?_, ?_, ?_, ?_, ?_, ?_, ?_, ?_, ?_, ?_, ?_, ?_, ?_, ?_, ?_, ?_, ?_, ?_, ?_, ?_, ?_, ?_, ?_, ?_, ?_, ?_, ?_, trivial⟩
         · -- 0
          rintro _ S hF hS D hp K hK
          try dsimp only at hF ⊢
          refine d_need (small := [(0, (.pointer (some ⟨p, 0, none⟩)))]) ⟨look_b rfl rfl, trivial⟩ ?_
          refine tp rfl (lv_move rfl) ?_
          exact d_closes ⟨look_b rfl rfl, trivial⟩ 0 rfl rfl rfl hS (AgreeR.refl _) (t_sat (fun _ h => h) (hK () trivial))
         · -- 1
          rintro _ S hF hS D hp K hK
          try dsimp only at hF ⊢
          have s0 := hp 0 rfl
          refine d_need (small := [(23, (.pointer (some ⟨p, 0, none⟩)))]) ⟨look_row rfl 0 rfl s0, trivial⟩ ?_
          refine tp rfl (lv_nilCheck rfl) ?_
          exact d_closes ⟨look_row rfl 0 rfl s0, trivial⟩ 1 rfl rfl rfl hS (AgreeR.refl _) (t_sat (fun _ h => h) (hK () trivial))
         · -- 2
          rintro _ S hF hS D hp K hK
          try dsimp only at hF ⊢
          have s1 := hp 1 rfl
          refine d_need (small := [(24, (.pointer (some ⟨p, 0, none⟩)))]) ⟨look_row rfl 1 rfl s1, trivial⟩ ?_
          refine tp rfl (lv_fieldAddr (o' := 2) Try.underlying63 rfl Try.sizeOf30 rfl rfl) ?_
          exact d_closes ⟨look_row rfl 1 rfl s1, trivial⟩ 2 rfl rfl rfl hS (AgreeR.refl _) (t_sat (fun _ h => h) (hK () trivial))
         · -- 3
          rintro _ S hF hS D hp K hK
          try dsimp only at hF ⊢
          have s2 := hp 2 rfl
          refine d_need (small := [(25, (.pointer (some ⟨p, 2, none⟩)))]) ⟨look_row rfl 2 rfl s2, trivial⟩ ?_
          refine tp rfl (lv_load Try.isAgg30 rfl (gives_blk (.head _) rfl)) ?_
          exact d_closes ⟨look_row rfl 2 rfl s2, trivial⟩ 3 rfl rfl rfl hS (AgreeR.refl _) (t_sat (fun _ h => h) (hK () trivial))
         · -- 4
          rintro _ S hF hS D hp K hK
          try dsimp only at hF ⊢
          refine d_need (small := [(7, (.int .i64 ((l).getD i 0)))]) ⟨look_b rfl rfl, trivial⟩ ?_
          refine tp rfl (lv_move rfl) ?_
          exact d_closes ⟨look_b rfl rfl, trivial⟩ 4 rfl rfl rfl hS (AgreeR.refl _) (t_sat (fun _ h => h) (hK () trivial))
         · -- 5
          rintro _ S hF hS D hp K hK
          try dsimp only at hF ⊢
          have s3 := hp 3 rfl
          have s4 := hp 4 rfl
          refine d_need (small := [(26, (.slice bs6 n cp7)), (27, (.int .i64 ((l).getD i 0)))]) ⟨look_row rfl 3 rfl s3, look_row rfl 4 rfl s4, trivial⟩ ?_
          refine tp rfl (lv_indexAddr (k' := ((l).getD i 0).toNat) Try.underlying30 Try.sizeOf3 rfl rfl hR8.okk (by omega) (by omega) (by omega)) ?_
          exact d_closes ⟨look_row rfl 3 rfl s3, look_row rfl 4 rfl s4, trivial⟩ 5 rfl rfl rfl hS (AgreeR.refl _) (t_sat (fun _ h => h) (hK () trivial))
         · -- 6
          rintro _ S hF hS D hp K hK
          try dsimp only at hF ⊢
          have s5 := hp 5 rfl
          refine d_need (small := [(28, (.pointer (some (ad bs6 (((l).getD i 0).toNat)))))]) ⟨look_row rfl 5 rfl s5, trivial⟩ ?_
          refine tp rfl (lv_load Try.isAgg3 rfl (gives_sl (.tail _ (.tail _ (.tail _ (.head _)))) (ints_get (by omega)))) ?_
          exact d_closes ⟨look_row rfl 5 rfl s5, trivial⟩ 6 rfl rfl rfl hS (AgreeR.refl _) (t_sat (fun _ h => h) (hK () trivial))
         · -- 7
          rintro _ S hF hS D hp K hK
          try dsimp only at hF ⊢
          refine d_need (small := [(0, (.pointer (some ⟨p, 0, none⟩)))]) ⟨look_b rfl rfl, trivial⟩ ?_
          refine tp rfl (lv_move rfl) ?_
          exact d_closes ⟨look_b rfl rfl, trivial⟩ 7 rfl rfl rfl hS (AgreeR.refl _) (t_sat (fun _ h => h) (hK () trivial))
         · -- 8
          rintro _ S hF hS D hp K hK
          try dsimp only at hF ⊢
          have s7 := hp 7 rfl
          refine d_need (small := [(30, (.pointer (some ⟨p, 0, none⟩)))]) ⟨look_row rfl 7 rfl s7, trivial⟩ ?_
          refine tp rfl (lv_nilCheck rfl) ?_
          exact d_closes ⟨look_row rfl 7 rfl s7, trivial⟩ 8 rfl rfl rfl hS (AgreeR.refl _) (t_sat (fun _ h => h) (hK () trivial))
         · -- 9
          rintro _ S hF hS D hp K hK
          try dsimp only at hF ⊢
          have s8 := hp 8 rfl
          refine d_need (small := [(31, (.pointer (some ⟨p, 0, none⟩)))]) ⟨look_row rfl 8 rfl s8, trivial⟩ ?_
          refine tp rfl (lv_fieldAddr (o' := 2) Try.underlying63 rfl Try.sizeOf30 rfl rfl) ?_
          exact d_closes ⟨look_row rfl 8 rfl s8, trivial⟩ 9 rfl rfl rfl hS (AgreeR.refl _) (t_sat (fun _ h => h) (hK () trivial))
         · -- 10
          rintro _ S hF hS D hp K hK
          try dsimp only at hF ⊢
          have s9 := hp 9 rfl
          refine d_need (small := [(32, (.pointer (some ⟨p, 2, none⟩)))]) ⟨look_row rfl 9 rfl s9, trivial⟩ ?_
          refine tp rfl (lv_load Try.isAgg30 rfl (gives_blk (.head _) rfl)) ?_
          exact d_closes ⟨look_row rfl 9 rfl s9, trivial⟩ 10 rfl rfl rfl hS (AgreeR.refl _) (t_sat (fun _ h => h) (hK () trivial))
         · -- 11
          rintro _ S hF hS D hp K hK
          try dsimp only at hF ⊢
          refine d_need (small := [(8, (.int .i64 ((l).getD k 0)))]) ⟨look_b rfl rfl, trivial⟩ ?_
          refine tp rfl (lv_move rfl) ?_
          exact d_closes ⟨look_b rfl rfl, trivial⟩ 11 rfl rfl rfl hS (AgreeR.refl _) (t_sat (fun _ h => h) (hK () trivial))
         · -- 12
          rintro _ S hF hS D hp K hK
          try dsimp only at hF ⊢
          have s10 := hp 10 rfl
          have s11 := hp 11 rfl
          refine d_need (small := [(33, (.slice bs6 n cp7)), (34, (.int .i64 ((l).getD k 0)))]) ⟨look_row rfl 10 rfl s10, look_row rfl 11 rfl s11, trivial⟩ ?_
          refine tp rfl (lv_indexAddr (k' := ((l).getD k 0).toNat) Try.underlying30 Try.sizeOf3 rfl rfl hR8.okk (by omega) (by omega) (by omega)) ?_
          exact d_closes ⟨look_row rfl 10 rfl s10, look_row rfl 11 rfl s11, trivial⟩ 12 rfl rfl rfl hS (AgreeR.refl _) (t_sat (fun _ h => h) (hK () trivial))
         · -- 13
          rintro _ S hF hS D hp K hK
          try dsimp only at hF ⊢
          have s12 := hp 12 rfl
          refine d_need (small := [(35, (.pointer (some (ad bs6 (((l).getD k 0).toNat)))))]) ⟨look_row rfl 12 rfl s12, trivial⟩ ?_
          refine tp rfl (lv_load Try.isAgg3 rfl (gives_sl (.tail _ (.tail _ (.tail _ (.head _)))) (ints_get (by omega)))) ?_
          exact d_closes ⟨look_row rfl 12 rfl s12, trivial⟩ 13 rfl rfl rfl hS (AgreeR.refl _) (t_sat (fun _ h => h) (hK () trivial))
         · -- 14
          rintro _ S hF hS D hp K hK
          try dsimp only at hF ⊢
          have s6 := hp 6 rfl
          have s13 := hp 13 rfl
          refine d_need (small := [(29, (.int .i64 ((Kk).getD (((l).getD i 0).toNat) 0))), (36, (.int .i64 ((Kk).getD (((l).getD k 0).toNat) 0)))]) ⟨look_row rfl 6 rfl s6, look_row rfl 13 rfl s13, trivial⟩ ?_
          refine tp rfl (lv_lss rfl rfl (decide_eq_false h9)) ?_
          exact d_closes ⟨look_row rfl 6 rfl s6, look_row rfl 13 rfl s13, trivial⟩ 14 rfl rfl rfl hS (AgreeR.refl _) (t_sat (fun _ h => h) (hK () trivial))
         · -- 15
          rintro _ S hF hS D hp K hK
          try dsimp only at hF ⊢
          have s14 := hp 14 rfl
          refine d_need (small := [(37, (.bool false))]) ⟨look_row rfl 14 rfl s14, trivial⟩ ?_
          refine tp rfl (lv_move rfl) ?_
          exact d_closes ⟨look_row rfl 14 rfl s14, trivial⟩ 15 rfl rfl rfl hS (AgreeR.refl _) (t_sat (fun _ h => h) (hK () trivial))
         · -- 16
          rintro _ S hF hS D hp K hK
          try dsimp only at hF ⊢
          have s15 := hp 15 rfl
          refine d_need (small := [(0, (.pointer (some ⟨p, 0, none⟩))), (38, (.bool false))]) ⟨look_b rfl rfl, look_row rfl 15 rfl s15, trivial⟩ ?_
          refine t_guard rfl rfl ?_
          refine tp rfl (lv_move rfl) ?_
          exact d_closes ⟨look_b rfl rfl, look_row rfl 15 rfl s15, trivial⟩ 16 rfl rfl rfl hS (AgreeR.refl _) (t_sat (fun _ h => h) (hK () trivial))
         · -- 17
          rintro _ S hF hS D hp K hK
          try dsimp only at hF ⊢
          have s15 := hp 15 rfl
          have s16 := hp 16 rfl
          refine d_need (small := [(38, (.bool false)), (39, (.pointer (some ⟨p, 0, none⟩)))]) ⟨look_row rfl 15 rfl s15, look_row rfl 16 rfl s16, trivial⟩ ?_
          refine t_guard rfl rfl ?_
          refine tp rfl (lv_nilCheck rfl) ?_
          exact d_closes ⟨look_row rfl 15 rfl s15, look_row rfl 16 rfl s16, trivial⟩ 17 rfl rfl rfl hS (AgreeR.refl _) (t_sat (fun _ h => h) (hK () trivial))
         · -- 18
          rintro _ S hF hS D hp K hK
          try dsimp only at hF ⊢
          have s15 := hp 15 rfl
          have s17 := hp 17 rfl
          refine d_need (small := [(38, (.bool false)), (40, (.pointer (some ⟨p, 0, none⟩)))]) ⟨look_row rfl 15 rfl s15, look_row rfl 17 rfl s17, trivial⟩ ?_
          refine t_guard rfl rfl ?_
          refine tp rfl (lv_fieldAddr (o' := 2) Try.underlying63 rfl Try.sizeOf30 rfl rfl) ?_
          exact d_closes ⟨look_row rfl 15 rfl s15, look_row rfl 17 rfl s17, trivial⟩ 18 rfl rfl rfl hS (AgreeR.refl _) (t_sat (fun _ h => h) (hK () trivial))
         · -- 19
          rintro _ S hF hS D hp K hK
          try dsimp only at hF ⊢
          have s15 := hp 15 rfl
          have s18 := hp 18 rfl
          refine d_need (small := [(38, (.bool false)), (41, (.pointer (some ⟨p, 2, none⟩)))]) ⟨look_row rfl 15 rfl s15, look_row rfl 18 rfl s18, trivial⟩ ?_
          refine t_guard rfl rfl ?_
          refine tp rfl (lv_load Try.isAgg30 rfl (gives_blk (.head _) rfl)) ?_
          exact d_closes ⟨look_row rfl 15 rfl s15, look_row rfl 18 rfl s18, trivial⟩ 19 rfl rfl rfl hS (AgreeR.refl _) (t_sat (fun _ h => h) (hK () trivial))
         · -- 20
          rintro _ S hF hS D hp K hK
          try dsimp only at hF ⊢
          have s15 := hp 15 rfl
          refine d_need (small := [(7, (.int .i64 ((l).getD i 0))), (38, (.bool false))]) ⟨look_b rfl rfl, look_row rfl 15 rfl s15, trivial⟩ ?_
          refine t_guard rfl rfl ?_
          refine tp rfl (lv_move rfl) ?_
          exact d_closes ⟨look_b rfl rfl, look_row rfl 15 rfl s15, trivial⟩ 20 rfl rfl rfl hS (AgreeR.refl _) (t_sat (fun _ h => h) (hK () trivial))
         · -- 21
          rintro _ S hF hS D hp K hK
          try dsimp only at hF ⊢
          have s15 := hp 15 rfl
          have s19 := hp 19 rfl
          have s20 := hp 20 rfl
          refine d_need (small := [(38, (.bool false)), (42, (.slice bs6 n cp7)), (43, (.int .i64 ((l).getD i 0)))]) ⟨look_row rfl 15 rfl s15, look_row rfl 19 rfl s19, look_row rfl 20 rfl s20, trivial⟩ ?_
          refine t_guard rfl rfl ?_
          refine tp rfl (lv_indexAddr (k' := ((l).getD i 0).toNat) Try.underlying30 Try.sizeOf3 rfl rfl hR8.okk (by omega) (by omega) (by omega)) ?_
          exact d_closes ⟨look_row rfl 15 rfl s15, look_row rfl 19 rfl s19, look_row rfl 20 rfl s20, trivial⟩ 21 rfl rfl rfl hS (AgreeR.refl _) (t_sat (fun _ h => h) (hK () trivial))
         · -- 22
          rintro _ S hF hS D hp K hK
          try dsimp only at hF ⊢
          have s15 := hp 15 rfl
          have s21 := hp 21 rfl
          refine d_need (small := [(38, (.bool false)), (44, (.pointer (some (ad bs6 (((l).getD i 0).toNat)))))]) ⟨look_row rfl 15 rfl s15, look_row rfl 21 rfl s21, trivial⟩ ?_
          refine t_guard rfl rfl ?_
          refine tp rfl (lv_load Try.isAgg3 rfl (gives_sl (.tail _ (.tail _ (.tail _ (.head _)))) (ints_get (by omega)))) ?_
          exact d_closes ⟨look_row rfl 15 rfl s15, look_row rfl 21 rfl s21, trivial⟩ 22 rfl rfl rfl hS (AgreeR.refl _) (t_sat (fun _ h => h) (hK () trivial))
         · -- 23
          rintro _ S hF hS D hp K hK
          try dsimp only at hF ⊢
          have s15 := hp 15 rfl
          refine d_need (small := [(0, (.pointer (some ⟨p, 0, none⟩))), (38, (.bool false))]) ⟨look_b rfl rfl, look_row rfl 15 rfl s15, trivial⟩ ?_
          refine t_guard rfl rfl ?_
          refine tp rfl (lv_move rfl) ?_
          exact d_closes ⟨look_b rfl rfl, look_row rfl 15 rfl s15, trivial⟩ 23 rfl rfl rfl hS (AgreeR.refl _) (t_sat (fun _ h => h) (hK () trivial))
         · -- 24
          rintro _ S hF hS D hp K hK
          try dsimp only at hF ⊢
          have s15 := hp 15 rfl
          have s23 := hp 23 rfl
          refine d_need (small := [(38, (.bool false)), (46, (.pointer (some ⟨p, 0, none⟩)))]) ⟨look_row rfl 15 rfl s15, look_row rfl 23 rfl s23, trivial⟩ ?_
          refine t_guard rfl rfl ?_
          refine tp rfl (lv_nilCheck rfl) ?_
          exact d_closes ⟨look_row rfl 15 rfl s15, look_row rfl 23 rfl s23, trivial⟩ 24 rfl rfl rfl hS (AgreeR.refl _) (t_sat (fun _ h => h) (hK () trivial))
         · -- 25
          rintro _ S hF hS D hp K hK
          try dsimp only at hF ⊢
          have s15 := hp 15 rfl
          have s24 := hp 24 rfl
          refine d_need (small := [(38, (.bool false)), (47, (.pointer (some ⟨p, 0, none⟩)))]) ⟨look_row rfl 15 rfl s15, look_row rfl 24 rfl s24, trivial⟩ ?_
          refine t_guard rfl rfl ?_
          refine tp rfl (lv_fieldAddr (o' := 2) Try.underlying63 rfl Try.sizeOf30 rfl rfl) ?_
          exact d_closes ⟨look_row rfl 15 rfl s15, look_row rfl 24 rfl s24, trivial⟩ 25 rfl rfl rfl hS (AgreeR.refl _) (t_sat (fun _ h => h) (hK () trivial))
         · -- 26
          rintro _ S hF hS D hp K hK
          try dsimp only at hF ⊢
          have s15 := hp 15 rfl
          have s25 := hp 25 rfl
          refine d_need (small := [(38, (.bool false)), (48, (.pointer (some ⟨p, 2, none⟩)))]) ⟨look_row rfl 15 rfl s15, look_row rfl 25 rfl s25, trivial⟩ ?_
          refine t_guard rfl rfl ?_
          refine tp rfl (lv_load Try.isAgg30 rfl (gives_blk (.head _) rfl)) ?_
          exact d_closes ⟨look_row rfl 15 rfl s15, look_row rfl 25 rfl s25, trivial⟩ 26 rfl rfl rfl hS (AgreeR.refl _) (t_sat (fun _ h => h) (hK () trivial))
         · -- 27
          rintro _ S hF hS D hp K hK
          try dsimp only at hF ⊢
          have s15 := hp 15 rfl
          refine d_need (small := [(8, (.int .i64 ((l).getD k 0))), (38, (.bool false))]) ⟨look_b rfl rfl, look_row rfl 15 rfl s15, trivial⟩ ?_
          refine t_guard rfl rfl ?_
          refine tp rfl (lv_move rfl) ?_
          exact d_closes ⟨look_b rfl rfl, look_row rfl 15 rfl s15, trivial⟩ 27 rfl rfl rfl hS (AgreeR.refl _) (t_sat (fun _ h => h) (hK () trivial))
         · -- 28
          rintro _ S hF hS D hp K hK
          try dsimp only at hF ⊢
          have s15 := hp 15 rfl
          have s26 := hp 26 rfl
          have s27 := hp 27 rfl
          refine d_need (small := [(38, (.bool false)), (49, (.slice bs6 n cp7)), (50, (.int .i64 ((l).getD k 0)))]) ⟨look_row rfl 15 rfl s15, look_row rfl 26 rfl s26, look_row rfl 27 rfl s27, trivial⟩ ?_
          refine t_guard rfl rfl ?_
          refine tp rfl (lv_indexAddr (k' := ((l).getD k 0).toNat) Try.underlying30 Try.sizeOf3 rfl rfl hR8.okk (by omega) (by omega) (by omega)) ?_
          exact d_closes ⟨look_row rfl 15 rfl s15, look_row rfl 26 rfl s26, look_row rfl 27 rfl s27, trivial⟩ 28 rfl rfl rfl hS (AgreeR.refl _) (t_sat (fun _ h => h) (hK () trivial))
         · -- 29
          rintro _ S hF hS D hp K hK
          try dsimp only at hF ⊢
          have s15 := hp 15 rfl
          have s28 := hp 28 rfl
          refine d_need (small := [(38, (.bool false)), (51, (.pointer (some (ad bs6 (((l).getD k 0).toNat)))))]) ⟨look_row rfl 15 rfl s15, look_row rfl 28 rfl s28, trivial⟩ ?_
          refine t_guard rfl rfl ?_
          refine tp rfl (lv_load Try.isAgg3 rfl (gives_sl (.tail _ (.tail _ (.tail _ (.head _)))) (ints_get (by omega)))) ?_
          exact d_closes ⟨look_row rfl 15 rfl s15, look_row rfl 28 rfl s28, trivial⟩ 29 rfl rfl rfl hS (AgreeR.refl _) (t_sat (fun _ h => h) (hK () trivial))
         · -- 30
          rintro _ S hF hS D hp K hK
          try dsimp only at hF ⊢
          have s15 := hp 15 rfl
          have s22 := hp 22 rfl
          have s29 := hp 29 rfl
          refine d_need (small := [(38, (.bool false)), (45, (.int .i64 ((Kk).getD (((l).getD i 0).toNat) 0))), (52, (.int .i64 ((Kk).getD (((l).getD k 0).toNat) 0)))]) ⟨look_row rfl 15 rfl s15, look_row rfl 22 rfl s22, look_row rfl 29 rfl s29, trivial⟩ ?_
          refine t_guard rfl rfl ?_
          refine tp rfl (lv_eql rfl rfl (beq_eq_false_iff_ne.2 h10)) ?_
          exact d_closes ⟨look_row rfl 15 rfl s15, look_row rfl 22 rfl s22, look_row rfl 29 rfl s29, trivial⟩ 30 rfl rfl rfl hS (AgreeR.refl _) (t_sat (fun _ h => h) (hK () trivial))
         · -- 31
          rintro _ S hF hS D hp K hK
          try dsimp only at hF ⊢
          have s15 := hp 15 rfl
          have s30 := hp 30 rfl
          refine d_need (small := [(38, (.bool false)), (53, (.bool false))]) ⟨look_row rfl 15 rfl s15, look_row rfl 30 rfl s30, trivial⟩ ?_
          refine t_guard rfl rfl ?_
          refine tp rfl (lv_move rfl) ?_
          exact d_closes ⟨look_row rfl 15 rfl s15, look_row rfl 30 rfl s30, trivial⟩ 31 rfl rfl rfl hS (AgreeR.refl _) (t_sat (fun _ h => h) (hK () trivial))
         · -- 32
          rintro _ S hF hS D hp K hK
          try dsimp only at hF ⊢
          have s31 := hp 31 rfl
          refine d_need (small := [(7, (.int .i64 ((l).getD i 0))), (54, (.bool false))]) ⟨look_b rfl rfl, look_row rfl 31 rfl s31, trivial⟩ ?_
          refine t_skip rfl rfl rfl ?_
          exact d_closes ⟨look_b rfl rfl, look_row rfl 31 rfl s31, trivial⟩ 32 rfl rfl rfl hS (AgreeR.refl _) (t_sat (fun _ h => h) (hK () trivial))
         · -- 33
          rintro _ S hF hS D hp K hK
          try dsimp only at hF ⊢
          have s31 := hp 31 rfl
          refine d_need (small := [(8, (.int .i64 ((l).getD k 0))), (54, (.bool false))]) ⟨look_b rfl rfl, look_row rfl 31 rfl s31, trivial⟩ ?_
          refine t_skip rfl rfl rfl ?_
          exact d_closes ⟨look_b rfl rfl, look_row rfl 31 rfl s31, trivial⟩ 33 rfl rfl rfl hS (AgreeR.refl _) (t_sat (fun _ h => h) (hK () trivial))
         · -- 34
          rintro _ S hF hS D hp K hK
          try dsimp only at hF ⊢
          have s31 := hp 31 rfl
          have s32 := hp 32 rfl
          have s33 := hp 33 rfl
          refine d_need (small := [(54, (.bool false)), (55, undef), (56, undef)]) ⟨look_row rfl 31 rfl s31, look_row rfl 32 rfl s32, look_row rfl 33 rfl s33, trivial⟩ ?_
          refine t_skip rfl rfl rfl ?_
          exact d_closes ⟨look_row rfl 31 rfl s31, look_row rfl 32 rfl s32, look_row rfl 33 rfl s33, trivial⟩ 34 rfl rfl rfl hS (AgreeR.refl _) (t_sat (fun _ h => h) (hK () trivial))
         · -- 35
          rintro _ S hF hS D hp K hK
          try dsimp only at hF ⊢
          have s15 := hp 15 rfl
          have s31 := hp 31 rfl
          have s34 := hp 34 rfl
          refine d_need (small := [(38, (.bool false)), (54, (.bool false)), (57, undef)]) ⟨look_row rfl 15 rfl s15, look_row rfl 31 rfl s31, look_row rfl 34 rfl s34, trivial⟩ ?_
          refine t_guard rfl rfl ?_
          refine tp rfl (lv_pick_f rfl rfl) ?_
          exact d_closes ⟨look_row rfl 15 rfl s15, look_row rfl 31 rfl s31, look_row rfl 34 rfl s34, trivial⟩ 35 rfl rfl rfl hS (AgreeR.refl _) (t_sat (fun _ h => h) (hK () trivial))
         · -- 36
          rintro _ S hF hS D hp K hK
          try dsimp only at hF ⊢
          have s15 := hp 15 rfl
          have s35 := hp 35 rfl
          refine d_need (small := [(38, (.bool false)), (58, (.bool false))]) ⟨look_row rfl 15 rfl s15, look_row rfl 35 rfl s35, trivial⟩ ?_
          refine tp rfl (lv_pick_f rfl rfl) ?_
          exact d_closes ⟨look_row rfl 15 rfl s15, look_row rfl 35 rfl s35, trivial⟩ 36 rfl rfl rfl hS (AgreeR.refl _) (t_sat (fun _ h => h) (hK () trivial))
         · -- 37
          rintro _ S hF hS D hp K hK
          try dsimp only at hF ⊢
          have s36 := hp 36 rfl
          refine d_need (small := [(59, (.bool false))]) ⟨look_row rfl 36 rfl s36, trivial⟩ ?_
          refine tp rfl (lv_assign rfl) ?_
          exact d_closes ⟨look_row rfl 36 rfl s36, trivial⟩ 37 rfl rfl rfl hS (AgreeR.refl _) (t_sat (fun _ h => h) (hK () trivial))
        · -- behind
         rintro _ hF
         try dsimp only at hF ⊢
         refine t_weak (E' := [(0, (.pointer (some ⟨p, 0, none⟩))), (1, (.int .i64 ((i : Nat) : Int))), (2, (.int .i64 ((k : Nat) : Int))), (6, (.bool false)), (7, (.int .i64 ((l).getD i 0))), (8, (.int .i64 ((l).getD k 0)))]) ⟨rfl, rfl, rfl, rfl, rfl, rfl, trivial⟩ ?_
         refine q_then_n (hK3 _ _ ?_)
         refine c_ret ?_
         refine t_f3 ?_
         refine t_f3 ?_
         refine t_f3 ?_
         refine t_f3 ?_
         refine t_shutW rfl hR8 ?_
         refine q_ret rfl rfl ?_
         refine ⟨?_, rfl⟩
         congr 1
         first | exact less_t (by assumption) | exact less_e (by assumption) (by assumption) | exact less_f (by assumption) (by assumption)

set_option maxHeartbeats 8000000 in
theorem rswap_ok {R : List HP} {p n : Nat} {l Kk : List Int} (i k : Nat) (hi : i < l.length) (hk : k < l.length) :
    Ok Try.prog 58 [(.pointer (some ⟨p, 0, none⟩)), (.int .i64 ((i : Nat) : Int)), (.int .i64 ((k : Nat) : Int))] ((RowsO p n l Kk) :: R)
      (fun v M => v = .tuple #[] ∧ M = RowsO p n (swapL l i k) Kk :: R) := by
  refine ok_of (N := 58) Try.func58 rfl rfl rfl (fun W => ?_)
  refine t_openW (fun at1 bs2 cp3 bs4 cp5 bs6 cp7 hR8 => ?_)
  have hal := hR8.ato.len
  have hkl := hR8.lk
  have hbg := hR8.big
  have hll := hR8.hi.le
  have hcl := hR8.cpl
  have hbi := hR8.hi.bd i hi
  have hbk := hR8.hi.bd k hk
  have hsl := swapL_len l i k
  refine c_seq (fun K1 hK1 => ?_)
  refine c_draw (γ := Unit) (n := 28) Try.mixed rfl rfl (fun _ S => True) (fun _ => [(0, 6, (.pointer (some ⟨p, 0, none⟩))), (1, 7, (.pointer (some ⟨p, 0, none⟩))), (2, 8, (.pointer (some ⟨p, 0, none⟩))), (3, 9, (.slice bs2 l.length cp3)), (4, 10, (.int .i64 ((i : Nat) : Int))), (5, 11, (.pointer (some ⟨p, 0, none⟩))), (6, 12, (.pointer (some ⟨p, 0, none⟩))), (7, 13, (.pointer (some ⟨p, 0, none⟩))), (8, 14, (.slice bs2 l.length cp3)), (9, 15, (.int .i64 ((k : Nat) : Int))), (10, 16, (.pointer (some ⟨p, 0, none⟩))), (11, 17, (.pointer (some ⟨p, 0, none⟩))), (12, 18, (.pointer (some ⟨p, 0, none⟩))), (13, 19, (.slice bs2 l.length cp3)), (14, 20, (.int .i64 ((k : Nat) : Int))), (15, 21, (.pointer (some (ad bs2 k)))), (16, 22, (.int .i64 ((l).getD k 0))), (17, 23, (.pointer (some ⟨p, 0, none⟩))), (18, 24, (.pointer (some ⟨p, 0, none⟩))), (19, 25, (.pointer (some ⟨p, 0, none⟩))), (20, 26, (.slice bs2 l.length cp3)), (21, 27, (.int .i64 ((i : Nat) : Int))), (22, 28, (.pointer (some (ad bs2 i)))), (23, 29, (.int .i64 ((l).getD i 0))), (24, 30, (.pointer (some (ad bs2 i)))), (26, 31, (.pointer (some (ad bs2 k))))]) (fun _ S => (Blk p [(.slice bs2 l.length cp3), (.slice bs4 n cp5), (.slice bs6 n cp7)] 65) :: (bif S 27 then (SlV 3 1 (.slice bs2 l.length cp3) l.length (ints .i64 ((((l).set i ((l).getD k 0))).set k ((l).getD i 0)))) else (bif S 25 then (SlV 3 1 (.slice bs2 l.length cp3) l.length (ints .i64 ((l).set i ((l).getD k 0)))) else (SlV 3 1 (.slice bs2 l.length cp3) l.length (ints .i64 l)))) :: (SlV 3 1 (.slice bs4 n cp5) n (ints .i64 at1)) :: (SlV 3 1 (.slice bs6 n cp7) n (ints .i64 Kk)) :: R) (()) trivial (fun _ h => h) (fun _ _ h => h) ?_ ?_
  · -- steps
    refine ⟨?_, ?_, ?_, ?_, ?_, ?_, ?_, ?_, ?_, ?_, ?_, ?_, ?_, ?_, ?_, ?_, ?_, ?_, ?_, ?_, ?_, ?_, ?_, ?_, ?_, ?_, ?_, ?_, trivial⟩
    · -- 0
      rintro _ S hF hS D hp K hK
      try dsimp only at hF ⊢
      refine d_need (small := [(0, (.pointer (some ⟨p, 0, none⟩)))]) ⟨look_b rfl rfl, trivial⟩ ?_
      refine tp rfl (lv_move rfl) ?_
      exact d_closes ⟨look_b rfl rfl, trivial⟩ 0 rfl rfl rfl hS (AgreeR.refl _) (t_sat (fun _ h => h) (hK () trivial))
    · -- 1
      rintro _ S hF hS D hp K hK
      try dsimp only at hF ⊢
      have s0 := hp 0 rfl
      refine d_need (small := [(6, (.pointer (some ⟨p, 0, none⟩)))]) ⟨look_row rfl 0 rfl s0, trivial⟩ ?_
      refine tp rfl (lv_nilCheck rfl) ?_
      exact d_closes ⟨look_row rfl 0 rfl s0, trivial⟩ 1 rfl rfl rfl hS (AgreeR.refl _) (t_sat (fun _ h => h) (hK () trivial))
    · -- 2
      rintro _ S hF hS D hp K hK
      try dsimp only at hF ⊢
      have s1 := hp 1 rfl
      refine d_need (small := [(7, (.pointer (some ⟨p, 0, none⟩)))]) ⟨look_row rfl 1 rfl s1, trivial⟩ ?_
      refine tp rfl (lv_fieldAddr (o' := 0) Try.underlying63 rfl Try.sizeOf30 rfl rfl) ?_
      exact d_closes ⟨look_row rfl 1 rfl s1, trivial⟩ 2 rfl rfl rfl hS (AgreeR.refl _) (t_sat (fun _ h => h) (hK () trivial))
    · -- 3
      rintro _ S hF hS D hp K hK
      try dsimp only at hF ⊢
      have s2 := hp 2 rfl
      refine d_need (small := [(8, (.pointer (some ⟨p, 0, none⟩)))]) ⟨look_row rfl 2 rfl s2, trivial⟩ ?_
      refine tp rfl (lv_load Try.isAgg30 rfl (gives_blk (.head _) rfl)) ?_
      exact d_closes ⟨look_row rfl 2 rfl s2, trivial⟩ 3 rfl rfl rfl hS (AgreeR.refl _) (t_sat (fun _ h => h) (hK () trivial))
    · -- 4
      rintro _ S hF hS D hp K hK
      try dsimp only at hF ⊢
      refine d_need (small := [(1, (.int .i64 ((i : Nat) : Int)))]) ⟨look_b rfl rfl, trivial⟩ ?_
      refine tp rfl (lv_move rfl) ?_
      exact d_closes ⟨look_b rfl rfl, trivial⟩ 4 rfl rfl rfl hS (AgreeR.refl _) (t_sat (fun _ h => h) (hK () trivial))
    · -- 5
      rintro _ S hF hS D hp K hK
      try dsimp only at hF ⊢
      refine d_need (small := [(0, (.pointer (some ⟨p, 0, none⟩)))]) ⟨look_b rfl rfl, trivial⟩ ?_
      refine tp rfl (lv_move rfl) ?_
      exact d_closes ⟨look_b rfl rfl, trivial⟩ 5 rfl rfl rfl hS (AgreeR.refl _) (t_sat (fun _ h => h) (hK () trivial))
    · -- 6
      rintro _ S hF hS D hp K hK
      try dsimp only at hF ⊢
      have s5 := hp 5 rfl
      refine d_need (small := [(11, (.pointer (some ⟨p, 0, none⟩)))]) ⟨look_row rfl 5 rfl s5, trivial⟩ ?_
      refine tp rfl (lv_nilCheck rfl) ?_
      exact d_closes ⟨look_row rfl 5 rfl s5, trivial⟩ 6 rfl rfl rfl hS (AgreeR.refl _) (t_sat (fun _ h => h) (hK () trivial))
    · -- 7
      rintro _ S hF hS D hp K hK
      try dsimp only at hF ⊢
      have s6 := hp 6 rfl
      refine d_need (small := [(12, (.pointer (some ⟨p, 0, none⟩)))]) ⟨look_row rfl 6 rfl s6, trivial⟩ ?_
      refine tp rfl (lv_fieldAddr (o' := 0) Try.underlying63 rfl Try.sizeOf30 rfl rfl) ?_
      exact d_closes ⟨look_row rfl 6 rfl s6, trivial⟩ 7 rfl rfl rfl hS (AgreeR.refl _) (t_sat (fun _ h => h) (hK () trivial))
    · -- 8
      rintro _ S hF hS D hp K hK
      try dsimp only at hF ⊢
      have s7 := hp 7 rfl
      refine d_need (small := [(13, (.pointer (some ⟨p, 0, none⟩)))]) ⟨look_row rfl 7 rfl s7, trivial⟩ ?_
      refine tp rfl (lv_load Try.isAgg30 rfl (gives_blk (.head _) rfl)) ?_
      exact d_closes ⟨look_row rfl 7 rfl s7, trivial⟩ 8 rfl rfl rfl hS (AgreeR.refl _) (t_sat (fun _ h => h) (hK () trivial))
    · -- 9
      rintro _ S hF hS D hp K hK
      try dsimp only at hF ⊢
      refine d_need (small := [(2, (.int .i64 ((k : Nat) : Int)))]) ⟨look_b rfl rfl, trivial⟩ ?_
      refine tp rfl (lv_move rfl) ?_
      exact d_closes ⟨look_b rfl rfl, trivial⟩ 9 rfl rfl rfl hS (AgreeR.refl _) (t_sat (fun _ h => h) (hK () trivial))
    · -- 10
      rintro _ S hF hS D hp K hK
      try dsimp only at hF ⊢
      refine d_need (small := [(0, (.pointer (some ⟨p, 0, none⟩)))]) ⟨look_b rfl rfl, trivial⟩ ?_
      refine tp rfl (lv_move rfl) ?_
      exact d_closes ⟨look_b rfl rfl, trivial⟩ 10 rfl rfl rfl hS (AgreeR.refl _) (t_sat (fun _ h => h) (hK () trivial))
    · -- 11
      rintro _ S hF hS D hp K hK
      try dsimp only at hF ⊢
      have s10 := hp 10 rfl
      refine d_need (small := [(16, (.pointer (some ⟨p, 0, none⟩)))]) ⟨look_row rfl 10 rfl s10, trivial⟩ ?_
      refine tp rfl (lv_nilCheck rfl) ?_
      exact d_closes ⟨look_row rfl 10 rfl s10, trivial⟩ 11 rfl rfl rfl hS (AgreeR.refl _) (t_sat (fun _ h => h) (hK () trivial))
    · -- 12
      rintro _ S hF hS D hp K hK
      try dsimp only at hF ⊢
      have s11 := hp 11 rfl
      refine d_need (small := [(17, (.pointer (some ⟨p, 0, none⟩)))]) ⟨look_row rfl 11 rfl s11, trivial⟩ ?_
      refine tp rfl (lv_fieldAddr (o' := 0) Try.underlying63 rfl Try.sizeOf30 rfl rfl) ?_
      exact d_closes ⟨look_row rfl 11 rfl s11, trivial⟩ 12 rfl rfl rfl hS (AgreeR.refl _) (t_sat (fun _ h => h) (hK () trivial))
    · -- 13
      rintro _ S hF hS D hp K hK
      try dsimp only at hF ⊢
      have s12 := hp 12 rfl
      refine d_need (small := [(18, (.pointer (some ⟨p, 0, none⟩)))]) ⟨look_row rfl 12 rfl s12, trivial⟩ ?_
      refine tp rfl (lv_load Try.isAgg30 rfl (gives_blk (.head _) rfl)) ?_
      exact d_closes ⟨look_row rfl 12 rfl s12, trivial⟩ 13 rfl rfl rfl hS (AgreeR.refl _) (t_sat (fun _ h => h) (hK () trivial))
    · -- 14
      rintro _ S hF hS D hp K hK
      try dsimp only at hF ⊢
      refine d_need (small := [(2, (.int .i64 ((k : Nat) : Int)))]) ⟨look_b rfl rfl, trivial⟩ ?_
      refine tp rfl (lv_move rfl) ?_
      exact d_closes ⟨look_b rfl rfl, trivial⟩ 14 rfl rfl rfl hS (AgreeR.refl _) (t_sat (fun _ h => h) (hK () trivial))
    · -- 15
      rintro _ S hF hS D hp K hK
      try dsimp only at hF ⊢
      have s13 := hp 13 rfl
      have s14 := hp 14 rfl
      refine d_need (small := [(19, (.slice bs2 l.length cp3)), (20, (.int .i64 ((k : Nat) : Int)))]) ⟨look_row rfl 13 rfl s13, look_row rfl 14 rfl s14, trivial⟩ ?_
      refine tp rfl (lv_indexAddr (k' := k) Try.underlying30 Try.sizeOf3 rfl rfl hR8.okl (by omega) (by omega) (by omega)) ?_
      exact d_closes ⟨look_row rfl 13 rfl s13, look_row rfl 14 rfl s14, trivial⟩ 15 rfl rfl rfl hS (AgreeR.refl _) (t_sat (fun _ h => h) (hK () trivial))
    · -- 16
      rintro _ S hF hS D hp K hK
      try dsimp only at hF ⊢
      have s15 := hp 15 rfl
      refine d_need (small := [(21, (.pointer (some (ad bs2 k))))]) ⟨look_row rfl 15 rfl s15, trivial⟩ ?_
      refine tp rfl (lv_load Try.isAgg3 rfl (gives_sl (mem_cF (nf hS D (k := 25) (i := 16) rfl) (mem_cF (nf hS D (k := 27) (i := 16) rfl) (.tail _ (.head _)))) (ints_get (by omega)))) ?_
      exact d_closes ⟨look_row rfl 15 rfl s15, trivial⟩ 16 rfl rfl rfl hS (AgreeR.refl _) (t_sat (fun _ h => h) (hK () trivial))
    · -- 17
      rintro _ S hF hS D hp K hK
      try dsimp only at hF ⊢
      refine d_need (small := [(0, (.pointer (some ⟨p, 0, none⟩)))]) ⟨look_b rfl rfl, trivial⟩ ?_
      refine tp rfl (lv_move rfl) ?_
      exact d_closes ⟨look_b rfl rfl, trivial⟩ 17 rfl rfl rfl hS (AgreeR.refl _) (t_sat (fun _ h => h) (hK () trivial))
    · -- 18
      rintro _ S hF hS D hp K hK
      try dsimp only at hF ⊢
      have s17 := hp 17 rfl
      refine d_need (small := [(23, (.pointer (some ⟨p, 0, none⟩)))]) ⟨look_row rfl 17 rfl s17, trivial⟩ ?_
      refine tp rfl (lv_nilCheck rfl) ?_
      exact d_closes ⟨look_row rfl 17 rfl s17, trivial⟩ 18 rfl rfl rfl hS (AgreeR.refl _) (t_sat (fun _ h => h) (hK () trivial))
    · -- 19
      rintro _ S hF hS D hp K hK
      try dsimp only at hF ⊢
      have s18 := hp 18 rfl
      refine d_need (small := [(24, (.pointer (some ⟨p, 0, none⟩)))]) ⟨look_row rfl 18 rfl s18, trivial⟩ ?_
      refine tp rfl (lv_fieldAddr (o' := 0) Try.underlying63 rfl Try.sizeOf30 rfl rfl) ?_
      exact d_closes ⟨look_row rfl 18 rfl s18, trivial⟩ 19 rfl rfl rfl hS (AgreeR.refl _) (t_sat (fun _ h => h) (hK () trivial))
    · -- 20
      rintro _ S hF hS D hp K hK
      try dsimp only at hF ⊢
      have s19 := hp 19 rfl
      refine d_need (small := [(25, (.pointer (some ⟨p, 0, none⟩)))]) ⟨look_row rfl 19 rfl s19, trivial⟩ ?_
      refine tp rfl (lv_load Try.isAgg30 rfl (gives_blk (.head _) rfl)) ?_
      exact d_closes ⟨look_row rfl 19 rfl s19, trivial⟩ 20 rfl rfl rfl hS (AgreeR.refl _) (t_sat (fun _ h => h) (hK () trivial))
    · -- 21
      rintro _ S hF hS D hp K hK
      try dsimp only at hF ⊢
      refine d_need (small := [(1, (.int .i64 ((i : Nat) : Int)))]) ⟨look_b rfl rfl, trivial⟩ ?_
      refine tp rfl (lv_move rfl) ?_
      exact d_closes ⟨look_b rfl rfl, trivial⟩ 21 rfl rfl rfl hS (AgreeR.refl _) (t_sat (fun _ h => h) (hK () trivial))
    · -- 22
      rintro _ S hF hS D hp K hK
      try dsimp only at hF ⊢
      have s20 := hp 20 rfl
      have s21 := hp 21 rfl
      refine d_need (small := [(26, (.slice bs2 l.length cp3)), (27, (.int .i64 ((i : Nat) : Int)))]) ⟨look_row rfl 20 rfl s20, look_row rfl 21 rfl s21, trivial⟩ ?_
      refine tp rfl (lv_indexAddr (k' := i) Try.underlying30 Try.sizeOf3 rfl rfl hR8.okl (by omega) (by omega) (by omega)) ?_
      exact d_closes ⟨look_row rfl 20 rfl s20, look_row rfl 21 rfl s21, trivial⟩ 22 rfl rfl rfl hS (AgreeR.refl _) (t_sat (fun _ h => h) (hK () trivial))
    · -- 23
      rintro _ S hF hS D hp K hK
      try dsimp only at hF ⊢
      have s22 := hp 22 rfl
      refine d_need (small := [(28, (.pointer (some (ad bs2 i))))]) ⟨look_row rfl 22 rfl s22, trivial⟩ ?_
      refine tp rfl (lv_load Try.isAgg3 rfl (gives_sl (mem_cF (nf hS D (k := 25) (i := 23) rfl) (mem_cF (nf hS D (k := 27) (i := 23) rfl) (.tail _ (.head _)))) (ints_get (by omega)))) ?_
      exact d_closes ⟨look_row rfl 22 rfl s22, trivial⟩ 23 rfl rfl rfl hS (AgreeR.refl _) (t_sat (fun _ h => h) (hK () trivial))
    · -- 24
      rintro _ S hF hS D hp K hK
      try dsimp only at hF ⊢
      have s3 := hp 3 rfl
      have s4 := hp 4 rfl
      refine d_need (small := [(9, (.slice bs2 l.length cp3)), (10, (.int .i64 ((i : Nat) : Int)))]) ⟨look_row rfl 3 rfl s3, look_row rfl 4 rfl s4, trivial⟩ ?_
      refine tp rfl (lv_indexAddr (k' := i) Try.underlying30 Try.sizeOf3 rfl rfl hR8.okl (by omega) (by omega) (by omega)) ?_
      exact d_closes ⟨look_row rfl 3 rfl s3, look_row rfl 4 rfl s4, trivial⟩ 24 rfl rfl rfl hS (AgreeR.refl _) (t_sat (fun _ h => h) (hK () trivial))
    · -- 25
      rintro _ S hF hS D hp K hK
      try dsimp only at hF ⊢
      have s16 := hp 16 rfl
      have s24 := hp 24 rfl
      refine d_need (small := [(22, (.int .i64 ((l).getD k 0))), (30, (.pointer (some (ad bs2 i))))]) ⟨look_row rfl 16 rfl s16, look_row rfl 24 rfl s24, trivial⟩ ?_
      refine t_f1 ?_
      refine t_cF (nf hS D (k := 27) (i := 25) rfl) ?_
      refine t_cF hS ?_
      refine ts (sv_sl Try.sizeOf3 rfl rfl rfl (by rw [ints_length]; omega) ints_set) ?_
      refine t_wF (A := (SlV 3 1 (.slice bs2 l.length cp3) l.length (ints .i64 ((((l).set i ((l).getD k 0))).set k ((l).getD i 0))))) (nf hS D (k := 27) (i := 25) rfl) ?_
      refine t_f1 ?_
      exact d_closes0 ⟨look_row rfl 16 rfl s16, look_row rfl 24 rfl s24, trivial⟩ rfl (t_sat (fun _ h => h) (hK () trivial))
    · -- 26
      rintro _ S hF hS D hp K hK
      try dsimp only at hF ⊢
      have s8 := hp 8 rfl
      have s9 := hp 9 rfl
      refine d_need (small := [(14, (.slice bs2 l.length cp3)), (15, (.int .i64 ((k : Nat) : Int)))]) ⟨look_row rfl 8 rfl s8, look_row rfl 9 rfl s9, trivial⟩ ?_
      refine tp rfl (lv_indexAddr (k' := k) Try.underlying30 Try.sizeOf3 rfl rfl hR8.okl (by omega) (by omega) (by omega)) ?_
      exact d_closes ⟨look_row rfl 8 rfl s8, look_row rfl 9 rfl s9, trivial⟩ 25 rfl rfl rfl hS (AgreeR.refl _) (t_sat (fun _ h => h) (hK () trivial))
    · -- 27
      rintro _ S hF hS D hp K hK
      try dsimp only at hF ⊢
      have s23 := hp 23 rfl
      have s26 := hp 26 rfl
      refine d_need (small := [(29, (.int .i64 ((l).getD i 0))), (31, (.pointer (some (ad bs2 k))))]) ⟨look_row rfl 23 rfl s23, look_row rfl 25 rfl s26, trivial⟩ ?_
      refine t_f1 ?_
      refine t_cF hS ?_
      have s25 := hp 25 rfl
      refine t_cT s25 ?_
      refine ts (sv_sl Try.sizeOf3 rfl rfl rfl (by rw [ints_length, List.length_set]; omega) ints_set) ?_
      refine t_f1 ?_
      exact d_closes0 ⟨look_row rfl 23 rfl s23, look_row rfl 25 rfl s26, trivial⟩ rfl (t_sat (fun _ h => h) (hK () trivial))
  · -- behind
    rintro _ hF
    try dsimp only at hF ⊢
    refine t_weak (E' := [(0, (.pointer (some ⟨p, 0, none⟩))), (1, (.int .i64 ((i : Nat) : Int))), (2, (.int .i64 ((k : Nat) : Int)))]) ⟨rfl, rfl, rfl, trivial⟩ ?_
    refine q_then_n (hK1 _ _ ?_)
    have hswl : (l.set i (l.getD k 0)).set k (l.getD i 0) = swapL l i k := rfl
    rw [hswl]
    have hq := hR8.hi.swap hi hk
    have hsi := hq.bd i (by omega)
    have hsk := hq.bd k (by omega)
    refine c_draw (γ := Unit) (n := 28) Try.mixed rfl rfl (fun _ S => True) (fun _ => [(0, 32, (.pointer (some ⟨p, 0, none⟩))), (1, 33, (.pointer (some ⟨p, 0, none⟩))), (2, 34, (.pointer (some ⟨p, 1, none⟩))), (3, 35, (.slice bs4 n cp5)), (4, 36, (.pointer (some ⟨p, 0, none⟩))), (5, 37, (.pointer (some ⟨p, 0, none⟩))), (6, 38, (.pointer (some ⟨p, 0, none⟩))), (7, 39, (.slice bs2 l.length cp3)), (8, 40, (.int .i64 ((i : Nat) : Int))), (9, 41, (.pointer (some (ad bs2 i)))), (10, 42, (.int .i64 ((swapL l i k).getD i 0))), (11, 43, (.pointer (some ⟨p, 0, none⟩))), (12, 44, (.pointer (some ⟨p, 0, none⟩))), (13, 45, (.pointer (some ⟨p, 1, none⟩))), (14, 46, (.slice bs4 n cp5)), (15, 47, (.pointer (some ⟨p, 0, none⟩))), (16, 48, (.pointer (some ⟨p, 0, none⟩))), (17, 49, (.pointer (some ⟨p, 0, none⟩))), (18, 50, (.slice bs2 l.length cp3)), (19, 51, (.int .i64 ((k : Nat) : Int))), (20, 52, (.pointer (some (ad bs2 k)))), (21, 53, (.int .i64 ((swapL l i k).getD k 0))), (22, 54, (.int .i64 ((i : Nat) : Int))), (23, 55, (.int .i64 ((k : Nat) : Int))), (24, 56, (.pointer (some (ad bs4 (((swapL l i k).getD i 0).toNat))))), (26, 57, (.pointer (some (ad bs4 (((swapL l i k).getD k 0).toNat)))))]) (fun _ S => (Blk p [(.slice bs2 l.length cp3), (.slice bs4 n cp5), (.slice bs6 n cp7)] 65) :: (SlV 3 1 (.slice bs2 l.length cp3) l.length (ints .i64 (swapL l i k))) :: (bif S 27 then (SlV 3 1 (.slice bs4 n cp5) n (ints .i64 ((((at1).set (((swapL l i k).getD i 0).toNat) ((i : Nat) : Int))).set (((swapL l i k).getD k 0).toNat) ((k : Nat) : Int)))) else (bif S 25 then (SlV 3 1 (.slice bs4 n cp5) n (ints .i64 ((at1).set (((swapL l i k).getD i 0).toNat) ((i : Nat) : Int)))) else (SlV 3 1 (.slice bs4 n cp5) n (ints .i64 at1)))) :: (SlV 3 1 (.slice bs6 n cp7) n (ints .i64 Kk)) :: R) (()) trivial (fun _ h => h) (fun _ _ h => h) ?_ ?_
    · -- steps
      refine ⟨?_, ?_, ?_, ?_, ?_, ?_, ?_, ?_, ?_, ?_, ?_, ?_, ?_, ?_, ?_, ?_, ?_, ?_, ?_, ?_, ?_, ?_, ?_, ?_, ?_, ?_, ?_, ?_, trivial⟩
      · -- 0
        rintro _ S hF hS D hp K hK
        try dsimp only at hF ⊢
        refine d_need (small := [(0, (.pointer (some ⟨p, 0, none⟩)))]) ⟨look_b rfl rfl, trivial⟩ ?_
        refine tp rfl (lv_move rfl) ?_
        exact d_closes ⟨look_b rfl rfl, trivial⟩ 0 rfl rfl rfl hS (AgreeR.refl _) (t_sat (fun _ h => h) (hK () trivial))
      · -- 1
        rintro _ S hF hS D hp K hK
        try dsimp only at hF ⊢
        have s0 := hp 0 rfl
        refine d_need (small := [(32, (.pointer (some ⟨p, 0, none⟩)))]) ⟨look_row rfl 0 rfl s0, trivial⟩ ?_
        refine tp rfl (lv_nilCheck rfl) ?_
        exact d_closes ⟨look_row rfl 0 rfl s0, trivial⟩ 1 rfl rfl rfl hS (AgreeR.refl _) (t_sat (fun _ h => h) (hK () trivial))
      · -- 2
        rintro _ S hF hS D hp K hK
        try dsimp only at hF ⊢
        have s1 := hp 1 rfl
        refine d_need (small := [(33, (.pointer (some ⟨p, 0, none⟩)))]) ⟨look_row rfl 1 rfl s1, trivial⟩ ?_
        refine tp rfl (lv_fieldAddr (o' := 1) Try.underlying63 rfl Try.sizeOf30 rfl rfl) ?_
        exact d_closes ⟨look_row rfl 1 rfl s1, trivial⟩ 2 rfl rfl rfl hS (AgreeR.refl _) (t_sat (fun _ h => h) (hK () trivial))
      · -- 3
        rintro _ S hF hS D hp K hK
        try dsimp only at hF ⊢
        have s2 := hp 2 rfl
        refine d_need (small := [(34, (.pointer (some ⟨p, 1, none⟩)))]) ⟨look_row rfl 2 rfl s2, trivial⟩ ?_
        refine tp rfl (lv_load Try.isAgg30 rfl (gives_blk (.head _) rfl)) ?_
        exact d_closes ⟨look_row rfl 2 rfl s2, trivial⟩ 3 rfl rfl rfl hS (AgreeR.refl _) (t_sat (fun _ h => h) (hK () trivial))
      · -- 4
        rintro _ S hF hS D hp K hK
        try dsimp only at hF ⊢
        refine d_need (small := [(0, (.pointer (some ⟨p, 0, none⟩)))]) ⟨look_b rfl rfl, trivial⟩ ?_
        refine tp rfl (lv_move rfl) ?_
        exact d_closes ⟨look_b rfl rfl, trivial⟩ 4 rfl rfl rfl hS (AgreeR.refl _) (t_sat (fun _ h => h) (hK () trivial))
      · -- 5
        rintro _ S hF hS D hp K hK
        try dsimp only at hF ⊢
        have s4 := hp 4 rfl
        refine d_need (small := [(36, (.pointer (some ⟨p, 0, none⟩)))]) ⟨look_row rfl 4 rfl s4, trivial⟩ ?_
        refine tp rfl (lv_nilCheck rfl) ?_
        exact d_closes ⟨look_row rfl 4 rfl s4, trivial⟩ 5 rfl rfl rfl hS (AgreeR.refl _) (t_sat (fun _ h => h) (hK () trivial))
      · -- 6
        rintro _ S hF hS D hp K hK
        try dsimp only at hF ⊢
        have s5 := hp 5 rfl
        refine d_need (small := [(37, (.pointer (some ⟨p, 0, none⟩)))]) ⟨look_row rfl 5 rfl s5, trivial⟩ ?_
        refine tp rfl (lv_fieldAddr (o' := 0) Try.underlying63 rfl Try.sizeOf30 rfl rfl) ?_
        exact d_closes ⟨look_row rfl 5 rfl s5, trivial⟩ 6 rfl rfl rfl hS (AgreeR.refl _) (t_sat (fun _ h => h) (hK () trivial))
      · -- 7
        rintro _ S hF hS D hp K hK
        try dsimp only at hF ⊢
        have s6 := hp 6 rfl
        refine d_need (small := [(38, (.pointer (some ⟨p, 0, none⟩)))]) ⟨look_row rfl 6 rfl s6, trivial⟩ ?_
        refine tp rfl (lv_load Try.isAgg30 rfl (gives_blk (.head _) rfl)) ?_
        exact d_closes ⟨look_row rfl 6 rfl s6, trivial⟩ 7 rfl rfl rfl hS (AgreeR.refl _) (t_sat (fun _ h => h) (hK () trivial))
      · -- 8
        rintro _ S hF hS D hp K hK
        try dsimp only at hF ⊢
        refine d_need (small := [(1, (.int .i64 ((i : Nat) : Int)))]) ⟨look_b rfl rfl, trivial⟩ ?_
        refine tp rfl (lv_move rfl) ?_
        exact d_closes ⟨look_b rfl rfl, trivial⟩ 8 rfl rfl rfl hS (AgreeR.refl _) (t_sat (fun _ h => h) (hK () trivial))
      · -- 9
        rintro _ S hF hS D hp K hK
        try dsimp only at hF ⊢
        have s7 := hp 7 rfl
        have s8 := hp 8 rfl
        refine d_need (small := [(39, (.slice bs2 l.length cp3)), (40, (.int .i64 ((i : Nat) : Int)))]) ⟨look_row rfl 7 rfl s7, look_row rfl 8 rfl s8, trivial⟩ ?_
        refine tp rfl (lv_indexAddr (k' := i) Try.underlying30 Try.sizeOf3 rfl rfl hR8.okl (by omega) (by omega) (by omega)) ?_
        exact d_closes ⟨look_row rfl 7 rfl s7, look_row rfl 8 rfl s8, trivial⟩ 9 rfl rfl rfl hS (AgreeR.refl _) (t_sat (fun _ h => h) (hK () trivial))
      · -- 10
        rintro _ S hF hS D hp K hK
        try dsimp only at hF ⊢
        have s9 := hp 9 rfl
        refine d_need (small := [(41, (.pointer (some (ad bs2 i))))]) ⟨look_row rfl 9 rfl s9, trivial⟩ ?_
        refine tp rfl (lv_load Try.isAgg3 rfl (gives_sl (.tail _ (.head _)) (ints_get (by omega)))) ?_
        exact d_closes ⟨look_row rfl 9 rfl s9, trivial⟩ 10 rfl rfl rfl hS (AgreeR.refl _) (t_sat (fun _ h => h) (hK () trivial))
      · -- 11
        rintro _ S hF hS D hp K hK
        try dsimp only at hF ⊢
        refine d_need (small := [(0, (.pointer (some ⟨p, 0, none⟩)))]) ⟨look_b rfl rfl, trivial⟩ ?_
        refine tp rfl (lv_move rfl) ?_
        exact d_closes ⟨look_b rfl rfl, trivial⟩ 11 rfl rfl rfl hS (AgreeR.refl _) (t_sat (fun _ h => h) (hK () trivial))
      · -- 12
        rintro _ S hF hS D hp K hK
        try dsimp only at hF ⊢
        have s11 := hp 11 rfl
        refine d_need (small := [(43, (.pointer (some ⟨p, 0, none⟩)))]) ⟨look_row rfl 11 rfl s11, trivial⟩ ?_
        refine tp rfl (lv_nilCheck rfl) ?_
        exact d_closes ⟨look_row rfl 11 rfl s11, trivial⟩ 12 rfl rfl rfl hS (AgreeR.refl _) (t_sat (fun _ h => h) (hK () trivial))
      · -- 13
        rintro _ S hF hS D hp K hK
        try dsimp only at hF ⊢
        have s12 := hp 12 rfl
        refine d_need (small := [(44, (.pointer (some ⟨p, 0, none⟩)))]) ⟨look_row rfl 12 rfl s12, trivial⟩ ?_
        refine tp rfl (lv_fieldAddr (o' := 1) Try.underlying63 rfl Try.sizeOf30 rfl rfl) ?_
        exact d_closes ⟨look_row rfl 12 rfl s12, trivial⟩ 13 rfl rfl rfl hS (AgreeR.refl _) (t_sat (fun _ h => h) (hK () trivial))
      · -- 14
        rintro _ S hF hS D hp K hK
        try dsimp only at hF ⊢
        have s13 := hp 13 rfl
        refine d_need (small := [(45, (.pointer (some ⟨p, 1, none⟩)))]) ⟨look_row rfl 13 rfl s13, trivial⟩ ?_
        refine tp rfl (lv_load Try.isAgg30 rfl (gives_blk (.head _) rfl)) ?_
        exact d_closes ⟨look_row rfl 13 rfl s13, trivial⟩ 14 rfl rfl rfl hS (AgreeR.refl _) (t_sat (fun _ h => h) (hK () trivial))
      · -- 15
        rintro _ S hF hS D hp K hK
        try dsimp only at hF ⊢
        refine d_need (small := [(0, (.pointer (some ⟨p, 0, none⟩)))]) ⟨look_b rfl rfl, trivial⟩ ?_
        refine tp rfl (lv_move rfl) ?_
        exact d_closes ⟨look_b rfl rfl, trivial⟩ 15 rfl rfl rfl hS (AgreeR.refl _) (t_sat (fun _ h => h) (hK () trivial))
      · -- 16
        rintro _ S hF hS D hp K hK
        try dsimp only at hF ⊢
        have s15 := hp 15 rfl
        refine d_need (small := [(47, (.pointer (some ⟨p, 0, none⟩)))]) ⟨look_row rfl 15 rfl s15, trivial⟩ ?_
        refine tp rfl (lv_nilCheck rfl) ?_
        exact d_closes ⟨look_row rfl 15 rfl s15, trivial⟩ 16 rfl rfl rfl hS (AgreeR.refl _) (t_sat (fun _ h => h) (hK () trivial))
      · -- 17
        rintro _ S hF hS D hp K hK
        try dsimp only at hF ⊢
        have s16 := hp 16 rfl
        refine d_need (small := [(48, (.pointer (some ⟨p, 0, none⟩)))]) ⟨look_row rfl 16 rfl s16, trivial⟩ ?_
        refine tp rfl (lv_fieldAddr (o' := 0) Try.underlying63 rfl Try.sizeOf30 rfl rfl) ?_
        exact d_closes ⟨look_row rfl 16 rfl s16, trivial⟩ 17 rfl rfl rfl hS (AgreeR.refl _) (t_sat (fun _ h => h) (hK () trivial))
      · -- 18
        rintro _ S hF hS D hp K hK
        try dsimp only at hF ⊢
        have s17 := hp 17 rfl
        refine d_need (small := [(49, (.pointer (some ⟨p, 0, none⟩)))]) ⟨look_row rfl 17 rfl s17, trivial⟩ ?_
        refine tp rfl (lv_load Try.isAgg30 rfl (gives_blk (.head _) rfl)) ?_
        exact d_closes ⟨look_row rfl 17 rfl s17, trivial⟩ 18 rfl rfl rfl hS (AgreeR.refl _) (t_sat (fun _ h => h) (hK () trivial))
      · -- 19
        rintro _ S hF hS D hp K hK
        try dsimp only at hF ⊢
        refine d_need (small := [(2, (.int .i64 ((k : Nat) : Int)))]) ⟨look_b rfl rfl, trivial⟩ ?_
        refine tp rfl (lv_move rfl) ?_
        exact d_closes ⟨look_b rfl rfl, trivial⟩ 19 rfl rfl rfl hS (AgreeR.refl _) (t_sat (fun _ h => h) (hK () trivial))
      · -- 20
        rintro _ S hF hS D hp K hK
        try dsimp only at hF ⊢
        have s18 := hp 18 rfl
        have s19 := hp 19 rfl
        refine d_need (small := [(50, (.slice bs2 l.length cp3)), (51, (.int .i64 ((k : Nat) : Int)))]) ⟨look_row rfl 18 rfl s18, look_row rfl 19 rfl s19, trivial⟩ ?_
        refine tp rfl (lv_indexAddr (k' := k) Try.underlying30 Try.sizeOf3 rfl rfl hR8.okl (by omega) (by omega) (by omega)) ?_
        exact d_closes ⟨look_row rfl 18 rfl s18, look_row rfl 19 rfl s19, trivial⟩ 20 rfl rfl rfl hS (AgreeR.refl _) (t_sat (fun _ h => h) (hK () trivial))
      · -- 21
        rintro _ S hF hS D hp K hK
        try dsimp only at hF ⊢
        have s20 := hp 20 rfl
        refine d_need (small := [(52, (.pointer (some (ad bs2 k))))]) ⟨look_row rfl 20 rfl s20, trivial⟩ ?_
        refine tp rfl (lv_load Try.isAgg3 rfl (gives_sl (.tail _ (.head _)) (ints_get (by omega)))) ?_
        exact d_closes ⟨look_row rfl 20 rfl s20, trivial⟩ 21 rfl rfl rfl hS (AgreeR.refl _) (t_sat (fun _ h => h) (hK () trivial))
      · -- 22
        rintro _ S hF hS D hp K hK
        try dsimp only at hF ⊢
        refine d_need (small := [(1, (.int .i64 ((i : Nat) : Int)))]) ⟨look_b rfl rfl, trivial⟩ ?_
        refine tp rfl (lv_move rfl) ?_
        exact d_closes ⟨look_b rfl rfl, trivial⟩ 22 rfl rfl rfl hS (AgreeR.refl _) (t_sat (fun _ h => h) (hK () trivial))
      · -- 23
        rintro _ S hF hS D hp K hK
        try dsimp only at hF ⊢
        refine d_need (small := [(2, (.int .i64 ((k : Nat) : Int)))]) ⟨look_b rfl rfl, trivial⟩ ?_
        refine tp rfl (lv_move rfl) ?_
        exact d_closes ⟨look_b rfl rfl, trivial⟩ 23 rfl rfl rfl hS (AgreeR.refl _) (t_sat (fun _ h => h) (hK () trivial))
      · -- 24
        rintro _ S hF hS D hp K hK
        try dsimp only at hF ⊢
        have s3 := hp 3 rfl
        have s10 := hp 10 rfl
        refine d_need (small := [(35, (.slice bs4 n cp5)), (42, (.int .i64 ((swapL l i k).getD i 0)))]) ⟨look_row rfl 3 rfl s3, look_row rfl 10 rfl s10, trivial⟩ ?_
        refine tp rfl (lv_indexAddr (k' := ((swapL l i k).getD i 0).toNat) Try.underlying30 Try.sizeOf3 rfl rfl hR8.oka (by omega) (by omega) (by omega)) ?_
        exact d_closes ⟨look_row rfl 3 rfl s3, look_row rfl 10 rfl s10, trivial⟩ 24 rfl rfl rfl hS (AgreeR.refl _) (t_sat (fun _ h => h) (hK () trivial))
      · -- 25
        rintro _ S hF hS D hp K hK
        try dsimp only at hF ⊢
        have s22 := hp 22 rfl
        have s24 := hp 24 rfl
        refine d_need (small := [(54, (.int .i64 ((i : Nat) : Int))), (56, (.pointer (some (ad bs4 (((swapL l i k).getD i 0).toNat)))))]) ⟨look_row rfl 22 rfl s22, look_row rfl 24 rfl s24, trivial⟩ ?_
        refine t_f2 ?_
        refine t_cF (nf hS D (k := 27) (i := 25) rfl) ?_
        refine t_cF hS ?_
        refine ts (sv_sl Try.sizeOf3 rfl rfl rfl (by rw [ints_length]; omega) ints_set) ?_
        refine t_wF (A := (SlV 3 1 (.slice bs4 n cp5) n (ints .i64 ((((at1).set (((swapL l i k).getD i 0).toNat) ((i : Nat) : Int))).set (((swapL l i k).getD k 0).toNat) ((k : Nat) : Int))))) (nf hS D (k := 27) (i := 25) rfl) ?_
        refine t_f2 ?_
        refine t_f2 ?_
        exact d_closes0 ⟨look_row rfl 22 rfl s22, look_row rfl 24 rfl s24, trivial⟩ rfl (t_sat (fun _ h => h) (hK () trivial))
      · -- 26
        rintro _ S hF hS D hp K hK
        try dsimp only at hF ⊢
        have s14 := hp 14 rfl
        have s21 := hp 21 rfl
        refine d_need (small := [(46, (.slice bs4 n cp5)), (53, (.int .i64 ((swapL l i k).getD k 0)))]) ⟨look_row rfl 14 rfl s14, look_row rfl 21 rfl s21, trivial⟩ ?_
        refine tp rfl (lv_indexAddr (k' := ((swapL l i k).getD k 0).toNat) Try.underlying30 Try.sizeOf3 rfl rfl hR8.oka (by omega) (by omega) (by omega)) ?_
        exact d_closes ⟨look_row rfl 14 rfl s14, look_row rfl 21 rfl s21, trivial⟩ 25 rfl rfl rfl hS (AgreeR.refl _) (t_sat (fun _ h => h) (hK () trivial))
      · -- 27
        rintro _ S hF hS D hp K hK
        try dsimp only at hF ⊢
        have s23 := hp 23 rfl
        have s26 := hp 26 rfl
        refine d_need (small := [(55, (.int .i64 ((k : Nat) : Int))), (57, (.pointer (some (ad bs4 (((swapL l i k).getD k 0).toNat)))))]) ⟨look_row rfl 23 rfl s23, look_row rfl 25 rfl s26, trivial⟩ ?_
        refine t_f2 ?_
        refine t_cF hS ?_
        have s25 := hp 25 rfl
        refine t_cT s25 ?_
        refine ts (sv_sl Try.sizeOf3 rfl rfl rfl (by rw [ints_length, List.length_set]; omega) ints_set) ?_
        refine t_f2 ?_
        refine t_f2 ?_
        exact d_closes0 ⟨look_row rfl 23 rfl s23, look_row rfl 25 rfl s26, trivial⟩ rfl (t_sat (fun _ h => h) (hK () trivial))
    · -- behind
      rintro _ hF
      try dsimp only at hF ⊢
      refine t_weak (E' := [(0, (.pointer (some ⟨p, 0, none⟩))), (1, (.int .i64 ((i : Nat) : Int))), (2, (.int .i64 ((k : Nat) : Int)))]) ⟨rfl, rfl, rfl, trivial⟩ ?_
      refine t_f3 ?_
      refine t_f3 ?_
      refine t_f3 ?_
      refine t_f3 ?_
      refine t_shutW hsl ⟨hR8.hi.swap hi hk, hR8.ato.swap hR8.hi hi hk, hR8.lk, hR8.big, (fun hz => hR8.okl (by omega)), (by omega), hR8.oka, hR8.okk⟩ ?_
      refine q_ret0 rfl ?_
      exact ⟨rfl, rfl⟩

set_option maxHeartbeats 4000000 in
theorem rpush_ok {R : List HP} {p n : Nat} {l Kk : List Int} (x : Int) (hx : 0 ≤ x ∧ x < n) (hn : x ∉ l) :
    Ok Try.prog 57 [(.pointer (some ⟨p, 0, none⟩)), (.iface 3 (.int .i64 x))] ((RowsO p n l Kk) :: R)
      (fun v M => v = .tuple #[] ∧ M = RowsO p n (l ++ [x]) Kk :: R) := by
  refine ok_of (N := 28) Try.func57 rfl rfl rfl (fun W => ?_)
  refine t_openW (fun at1 bs2 cp3 bs4 cp5 bs6 cp7 hR8 => ?_)
  have hal := hR8.ato.len
  have hkl := hR8.lk
  have hbg := hR8.big
  have hll := hR8.hi.le
  have hcl := hR8.cpl
  have hlt : l.length + 1 ≤ n := by have := (hR8.hi.push hx hn).le; simpa using this
  refine c_seq (fun K1 hK1 => ?_)
  refine c_region ?_
  refine tp rfl (lv_move rfl) ?_
  refine tp rfl (lv_typeAssert (by intro w v; kernel_rfl) rfl) ?_
  refine tp rfl (lv_assign rfl) ?_
  refine t_done ?_
  refine q_then_n (hK1 _ _ ?_)
  refine c_seq (fun K2 hK2 => ?_)
  refine c_draw (γ := Unit) (n := 12) Try.mixed rfl rfl (fun _ S => True) (fun _ => [(0, 7, (.pointer (some ⟨p, 0, none⟩))), (1, 8, (.pointer (some ⟨p, 0, none⟩))), (2, 9, (.pointer (some ⟨p, 1, none⟩))), (3, 10, (.slice bs4 n cp5)), (4, 11, (.int .i64 x)), (5, 12, (.pointer (some ⟨p, 0, none⟩))), (6, 13, (.pointer (some ⟨p, 0, none⟩))), (7, 14, (.pointer (some ⟨p, 0, none⟩))), (8, 15, (.slice bs2 l.length cp3)), (9, 16, (.int .i64 ((l.length : Nat) : Int))), (10, 17, (.pointer (some (ad bs4 x.toNat))))]) (fun _ S => (Blk p [(.slice bs2 l.length cp3), (.slice bs4 n cp5), (.slice bs6 n cp7)] 65) :: (SlV 3 1 (.slice bs2 l.length cp3) l.length (ints .i64 l)) :: (bif S 11 then (SlV 3 1 (.slice bs4 n cp5) n (ints .i64 ((at1).set x.toNat ((l.length : Nat) : Int)))) else (SlV 3 1 (.slice bs4 n cp5) n (ints .i64 at1))) :: (SlV 3 1 (.slice bs6 n cp7) n (ints .i64 Kk)) :: R) (()) trivial (fun _ h => h) (fun _ _ h => h) ?_ ?_
  · -- steps
    refine ⟨?_, ?_, ?_, ?_, ?_, ?_, ?_, ?_, ?_, ?_, ?_, ?_, trivial⟩
    · -- 0
      rintro _ S hF hS D hp K hK
      try dsimp only at hF ⊢
      refine d_need (small := [(0, (.pointer (some ⟨p, 0, none⟩)))]) ⟨look_b rfl rfl, trivial⟩ ?_
      refine tp rfl (lv_move rfl) ?_
      exact d_closes ⟨look_b rfl rfl, trivial⟩ 0 rfl rfl rfl hS (AgreeR.refl _) (t_sat (fun _ h => h) (hK () trivial))
    · -- 1
      rintro _ S hF hS D hp K hK
      try dsimp only at hF ⊢
      have s0 := hp 0 rfl
      refine d_need (small := [(7, (.pointer (some ⟨p, 0, none⟩)))]) ⟨look_row rfl 0 rfl s0, trivial⟩ ?_
      refine tp rfl (lv_nilCheck rfl) ?_
      exact d_closes ⟨look_row rfl 0 rfl s0, trivial⟩ 1 rfl rfl rfl hS (AgreeR.refl _) (t_sat (fun _ h => h) (hK () trivial))
    · -- 2
      rintro _ S hF hS D hp K hK
      try dsimp only at hF ⊢
      have s1 := hp 1 rfl
      refine d_need (small := [(8, (.pointer (some ⟨p, 0, none⟩)))]) ⟨look_row rfl 1 rfl s1, trivial⟩ ?_
      refine tp rfl (lv_fieldAddr (o' := 1) Try.underlying63 rfl Try.sizeOf30 rfl rfl) ?_
      exact d_closes ⟨look_row rfl 1 rfl s1, trivial⟩ 2 rfl rfl rfl hS (AgreeR.refl _) (t_sat (fun _ h => h) (hK () trivial))
    · -- 3
      rintro _ S hF hS D hp K hK
      try dsimp only at hF ⊢
      have s2 := hp 2 rfl
      refine d_need (small := [(9, (.pointer (some ⟨p, 1, none⟩)))]) ⟨look_row rfl 2 rfl s2, trivial⟩ ?_
      refine tp rfl (lv_load Try.isAgg30 rfl (gives_blk (.head _) rfl)) ?_
      exact d_closes ⟨look_row rfl 2 rfl s2, trivial⟩ 3 rfl rfl rfl hS (AgreeR.refl _) (t_sat (fun _ h => h) (hK () trivial))
    · -- 4
      rintro _ S hF hS D hp K hK
      try dsimp only at hF ⊢
      refine d_need (small := [(4, (.int .i64 x))]) ⟨look_b rfl rfl, trivial⟩ ?_
      refine tp rfl (lv_move rfl) ?_
      exact d_closes ⟨look_b rfl rfl, trivial⟩ 4 rfl rfl rfl hS (AgreeR.refl _) (t_sat (fun _ h => h) (hK () trivial))
    · -- 5
      rintro _ S hF hS D hp K hK
      try dsimp only at hF ⊢
      refine d_need (small := [(0, (.pointer (some ⟨p, 0, none⟩)))]) ⟨look_b rfl rfl, trivial⟩ ?_
      refine tp rfl (lv_move rfl) ?_
      exact d_closes ⟨look_b rfl rfl, trivial⟩ 5 rfl rfl rfl hS (AgreeR.refl _) (t_sat (fun _ h => h) (hK () trivial))
    · -- 6
      rintro _ S hF hS D hp K hK
      try dsimp only at hF ⊢
      have s5 := hp 5 rfl
      refine d_need (small := [(12, (.pointer (some ⟨p, 0, none⟩)))]) ⟨look_row rfl 5 rfl s5, trivial⟩ ?_
      refine tp rfl (lv_nilCheck rfl) ?_
      exact d_closes ⟨look_row rfl 5 rfl s5, trivial⟩ 6 rfl rfl rfl hS (AgreeR.refl _) (t_sat (fun _ h => h) (hK () trivial))
    · -- 7
      rintro _ S hF hS D hp K hK
      try dsimp only at hF ⊢
      have s6 := hp 6 rfl
      refine d_need (small := [(13, (.pointer (some ⟨p, 0, none⟩)))]) ⟨look_row rfl 6 rfl s6, trivial⟩ ?_
      refine tp rfl (lv_fieldAddr (o' := 0) Try.underlying63 rfl Try.sizeOf30 rfl rfl) ?_
      exact d_closes ⟨look_row rfl 6 rfl s6, trivial⟩ 7 rfl rfl rfl hS (AgreeR.refl _) (t_sat (fun _ h => h) (hK () trivial))
    · -- 8
      rintro _ S hF hS D hp K hK
      try dsimp only at hF ⊢
      have s7 := hp 7 rfl
      refine d_need (small := [(14, (.pointer (some ⟨p, 0, none⟩)))]) ⟨look_row rfl 7 rfl s7, trivial⟩ ?_
      refine tp rfl (lv_load Try.isAgg30 rfl (gives_blk (.head _) rfl)) ?_
      exact d_closes ⟨look_row rfl 7 rfl s7, trivial⟩ 8 rfl rfl rfl hS (AgreeR.refl _) (t_sat (fun _ h => h) (hK () trivial))
    · -- 9
      rintro _ S hF hS D hp K hK
      try dsimp only at hF ⊢
      have s8 := hp 8 rfl
      refine d_need (small := [(15, (.slice bs2 l.length cp3))]) ⟨look_row rfl 8 rfl s8, trivial⟩ ?_
      refine tp rfl (lv_len Try.underlying30 rfl rfl) ?_
      exact d_closes ⟨look_row rfl 8 rfl s8, trivial⟩ 9 rfl rfl rfl hS (AgreeR.refl _) (t_sat (fun _ h => h) (hK () trivial))
    · -- 10
      rintro _ S hF hS D hp K hK
      try dsimp only at hF ⊢
      have s3 := hp 3 rfl
      have s4 := hp 4 rfl
      refine d_need (small := [(10, (.slice bs4 n cp5)), (11, (.int .i64 x))]) ⟨look_row rfl 3 rfl s3, look_row rfl 4 rfl s4, trivial⟩ ?_
      refine tp rfl (lv_indexAddr (k' := x.toNat) Try.underlying30 Try.sizeOf3 rfl rfl hR8.oka (by omega) (by omega) (by omega)) ?_
      exact d_closes ⟨look_row rfl 3 rfl s3, look_row rfl 4 rfl s4, trivial⟩ 10 rfl rfl rfl hS (AgreeR.refl _) (t_sat (fun _ h => h) (hK () trivial))
    · -- 11
      rintro _ S hF hS D hp K hK
      try dsimp only at hF ⊢
      have s9 := hp 9 rfl
      have s10 := hp 10 rfl
      refine d_need (small := [(16, (.int .i64 ((l.length : Nat) : Int))), (17, (.pointer (some (ad bs4 x.toNat))))]) ⟨look_row rfl 9 rfl s9, look_row rfl 10 rfl s10, trivial⟩ ?_
      refine t_f2 ?_
      refine t_cF hS ?_
      refine ts (sv_sl Try.sizeOf3 rfl rfl rfl (by rw [ints_length]; omega) ints_set) ?_
      refine t_f2 ?_
      refine t_f2 ?_
      exact d_closes0 ⟨look_row rfl 9 rfl s9, look_row rfl 10 rfl s10, trivial⟩ rfl (t_sat (fun _ h => h) (hK () trivial))
  · -- behind
    rintro _ hF
    try dsimp only at hF ⊢
    refine t_weak (E' := [(0, (.pointer (some ⟨p, 0, none⟩))), (1, (.iface 3 (.int .i64 x))), (4, (.int .i64 x))]) ⟨rfl, rfl, rfl, trivial⟩ ?_
    refine q_then_n (hK2 _ _ ?_)
    refine c_region ?_
    refine tp rfl (lv_move rfl) ?_
    refine tp rfl (lv_move rfl) ?_
    refine tp rfl (lv_nilCheck rfl) ?_
    refine tp rfl (lv_fieldAddr (o' := 0) Try.underlying63 rfl Try.sizeOf30 rfl rfl) ?_
    refine tp rfl (lv_load Try.isAgg30 rfl (gives_blk (.head _) rfl)) ?_
    refine tp rfl (lv_move rfl) ?_
    refine tm rfl (mv_buildSlice (cs := [(.int .i64 x)]) Try.underlying30 Try.sizeOf3 Try.zeroValue3 (by decide) rfl rfl rfl rfl) ?_
    rintro _ _ ⟨bs9, cp10, hok11, hle12, rfl, rfl⟩
    refine t_f2 ?_
    refine tm rfl (mv_append (i := Try.t3) Try.underlying30 Try.type3 rfl rfl rfl (by decide) rfl rfl hok11 (by first | (simp; done) | (simp; omega)) (rd_sl (.tail _ (.head _))) (by simp [Value.oneCell']) (by rw [show Try.t3.bytes = 8 from rfl]; omega)) ?_
    rintro _ _ ⟨bs13, cp14, hok15, hle16, rfl, rfl⟩
    rw [show ints .i64 l ++ [(.int .i64 x)] = ints .i64 (l ++ [x]) from ints_snoc _ _ _]
    refine tp rfl (lv_nilCheck rfl) ?_
    refine tp rfl (lv_fieldAddr (o' := 0) Try.underlying63 rfl Try.sizeOf30 rfl rfl) ?_
    refine t_f2 ?_
    refine ts (sv_blk Try.sizeOf30 rfl rfl rfl (Nat.le_of_ble_eq_true rfl) rfl) ?_
    refine t_done ?_
    refine t_f4 ?_
    refine t_f4 ?_
    refine t_f3 ?_
    refine t_f3 ?_
    refine t_shutW (by simp) ⟨hR8.hi.push hx hn, hR8.ato.push hR8.hi hx hn, hR8.lk, hR8.big, (by simpa using hok15), (by simpa using hle16), hR8.oka, hR8.okk⟩ ?_
    refine t_f1 ?_
    refine t_drop ?_
    refine q_ret0 rfl ?_
    exact ⟨rfl, rfl⟩

theorem rpop_ok {R : List HP} {p n : Nat} {l Kk : List Int} (h0 : 0 < l.length) :
    Ok Try.prog 56 [(.pointer (some ⟨p, 0, none⟩))] ((RowsO p n l Kk) :: R)
      (fun v M => v = .iface 3 (.int .i64 (l.getD (l.length - 1) 0)) ∧ M = RowsO p n l.dropLast Kk :: R) := by
  refine ok_of (N := 35) Try.func56 rfl rfl rfl (fun W => ?_)
  refine t_openW (fun at1 bs2 cp3 bs4 cp5 bs6 cp7 hR8 => ?_)
  have hal := hR8.ato.len
  have hkl := hR8.lk
  have hbg := hR8.big
  have hll := hR8.hi.le
  have hcl := hR8.cpl
  have hbl := hR8.hi.bd (l.length - 1) (by omega)
  refine c_seq (fun K1 hK1 => ?_)
  refine c_region ?_
  refine tp rfl (lv_assign rfl) ?_
  refine t_done ?_
  refine q_then_n (hK1 _ _ ?_)
  refine c_seq (fun K2 hK2 => ?_)
  refine c_region ?_
  refine tp rfl (lv_move rfl) ?_
  refine tp rfl (lv_nilCheck rfl) ?_
  refine tp rfl (lv_fieldAddr (o' := 0) Try.underlying63 rfl Try.sizeOf30 rfl rfl) ?_
  refine tp rfl (lv_load Try.isAgg30 rfl (gives_blk (.head _) rfl)) ?_
  refine tp rfl (lv_len Try.underlying30 rfl rfl) ?_
  refine tp rfl (lv_sub (c := ((l.length - 1 : Nat) : Int)) rfl rfl ((wr_i64 (by omega) (by omega)).trans (by omega))) ?_
  refine tp rfl (lv_assign rfl) ?_
  refine t_done ?_
  refine q_then_n (hK2 _ _ ?_)
  refine c_seq (fun K3 hK3 => ?_)
  refine c_region ?_
  refine tp rfl (lv_move rfl) ?_
  refine tp rfl (lv_nilCheck rfl) ?_
  refine tp rfl (lv_fieldAddr (o' := 0) Try.underlying63 rfl Try.sizeOf30 rfl rfl) ?_
  refine tp rfl (lv_load Try.isAgg30 rfl (gives_blk (.head _) rfl)) ?_
  refine tp rfl (lv_move rfl) ?_
  refine tp rfl (lv_indexAddr (k' := l.length - 1) Try.underlying30 Try.sizeOf3 rfl rfl hR8.okl (by omega) (by omega) (by omega)) ?_
  refine tp rfl (lv_load Try.isAgg3 rfl (gives_sl (.tail _ (.head _)) (ints_get (by omega)))) ?_
  refine tp rfl (lv_assign rfl) ?_
  refine t_done ?_
  refine q_then_n (hK3 _ _ ?_)
  refine c_seq (fun K4 hK4 => ?_)
  refine c_region ?_
  refine tp rfl (lv_move rfl) ?_
  refine tp rfl (lv_move rfl) ?_
  refine tp rfl (lv_nilCheck rfl) ?_
  refine tp rfl (lv_fieldAddr (o' := 0) Try.underlying63 rfl Try.sizeOf30 rfl rfl) ?_
  refine tp rfl (lv_load Try.isAgg30 rfl (gives_blk (.head _) rfl)) ?_
  refine tp rfl (lv_move rfl) ?_
  refine tp rfl (lv_slice (l := 0) (h := l.length - 1) (m := cp3) (v := (.slice bs2 (l.length - 1) cp3)) Try.underlying30 Try.sizeOf3 rfl rfl rfl rfl (.inr ⟨rfl, rfl⟩) (.inl ⟨_, _, rfl, (by omega), (by omega), (by omega)⟩) (.inr ⟨rfl, rfl⟩) (by simp) (by rw [sbase_zero]; rfl)) ?_
  refine tp rfl (lv_nilCheck rfl) ?_
  refine tp rfl (lv_fieldAddr (o' := 0) Try.underlying63 rfl Try.sizeOf30 rfl rfl) ?_
  refine ts (sv_blk Try.sizeOf30 rfl rfl rfl (Nat.le_of_ble_eq_true rfl) rfl) ?_
  refine t_done ?_
  refine q_then_n (hK4 _ _ ?_)
  refine c_seq (fun K5 hK5 => ?_)
  refine c_region ?_
  refine tp rfl (lv_move rfl) ?_
  refine tp rfl (lv_nilCheck rfl) ?_
  refine tp rfl (lv_fieldAddr (o' := 1) Try.underlying63 rfl Try.sizeOf30 rfl rfl) ?_
  refine tp rfl (lv_load Try.isAgg30 rfl (gives_blk (.head _) rfl)) ?_
  refine tp rfl (lv_move rfl) ?_
  refine tp rfl (lv_indexAddr (k' := ((l).getD (l.length - 1) 0).toNat) Try.underlying30 Try.sizeOf3 rfl rfl hR8.oka (by omega) (by omega) (by omega)) ?_
  refine t_f2 ?_
  refine ts (sv_sl Try.sizeOf3 rfl rfl rfl (by rw [ints_length]; omega) ints_set) ?_
  refine t_done ?_
  refine q_then_n (hK5 _ _ ?_)
  refine c_seq (fun K6 hK6 => ?_)
  refine c_region ?_
  refine tp rfl (lv_move rfl) ?_
  refine tp rfl (lv_makeIface (by intro w x; kernel_rfl) rfl) ?_
  refine tp rfl (lv_assign rfl) ?_
  refine t_done ?_
  refine q_then_n (hK6 _ _ ?_)
  refine c_ret ?_
  refine t_f2 ?_
  refine t_sat (fun _ h => sat_short (k := l.length - 1) (by omega) (by omega) h) ?_
  rw [Nat.mul_one, ints_take, show l.take (l.length - 1) = l.dropLast from (List.dropLast_eq_take ..).symm]
  refine t_f3 ?_
  refine t_f2 ?_
  refine t_f2 ?_
  refine t_f3 ?_
  refine t_shutW (List.length_dropLast ..) ⟨hR8.hi.pop, hR8.ato.pop hR8.hi h0, hR8.lk, hR8.big, (fun hz => hR8.okl (by omega)), (by rw [List.length_dropLast]; omega), hR8.oka, hR8.okk⟩ ?_
  refine q_ret rfl rfl ?_
  exact ⟨rfl, rfl⟩
end Go.Proofs.Ytombnfgkgcjihaa
