/- Contracts of pick: Fits. -/
import Derived.Test.YtfoiopbjomaclaaDoorPb
set_option maxRecDepth 100000
set_option linter.unusedVariables false
set_option linter.unusedSimpArgs false
namespace Go.Proofs.YtfoiopbjomaclaaDoor
open Go Go.Proofs Sp
theorem deleteFunc_q {R : List HP} {p q : Int → Bool} {f n : Nat} {caps : List Value} {bx : Option Addr} {cx : Nat} (hq : ∀ x, p x = !q x) (xs : List Int) (hn : xs.length = n) (hf : (∀ args w, (callFunc f args).run Tryd.prog w = .ok (.enter f args) w) ∧ ∀ x ∈ xs, ∀ ys : List Int, ys.length = xs.length → Ok Tryd.prog f ([.int .i64 x] ++ caps) (SlV 3 1 (.slice bx n cx) n (ints .i64 ys) :: R) (fun v M => v = .bool (p x) ∧ M = SlV 3 1 (.slice bx n cx) n (ints .i64 ys) :: R)) (lx : n ≤ 1000000) :
    Ok Tryd.prog 28 [.slice bx n cx, .func (.func f) #[] caps.toArray] (SlV 3 1 (.slice bx n cx) n (ints .i64 xs) :: R) (fun v M => v = .slice bx (xs.filter q).length cx ∧ M = SlV 3 1 (.slice bx (xs.filter q).length cx) (xs.filter q).length (ints .i64 (xs.filter q)) :: R) := by
  have := deleteFunc_n xs hn hf lx
  have e : (fun x => !p x) = q := funext fun x => by rw [hq, Bool.not_not]
  rw [e] at this; exact this

theorem fits_ok {R : List HP} {bx bl : Option Addr} {cx cl n : Nat} (xs : List Int) (es : List (Int × Int)) (room : Int) (hn : n ≤ es.length) (hx : Rd R bx (ints .i64 xs)) (hl : Rd R bl (pairs es)) (okx : SlOk bx xs.length) (okl : SlOk bl n) (lx : xs.length ≤ 1000000) :
    Ok Tryd.prog 15 [(.slice bx xs.length cx), (.slice bl n cl), (.int .i64 room)] R
      (OutSl 3 1 (xs.filter (fitB n es room)).length (ints .i64 (xs.filter (fitB n es room))) R) := by
  refine ok_of (N := 13) Tryd.func15 rfl rfl rfl (fun W => ?_)
  refine c_seq (fun K1 hK1 => ?_)
  refine c_region ?_
  refine tm rfl (mv_box rfl rfl) ?_
  rintro _ _ ⟨b1, rfl, rfl⟩
  refine tm rfl (mv_box rfl rfl) ?_
  rintro _ _ ⟨b2, rfl, rfl⟩
  refine tp rfl (lv_assign rfl) ?_
  refine t_done ?_
  refine q_then_n (hK1 _ _ ?_)
  refine c_seq (fun K2 hK2 => ?_)
  refine c_region ?_
  refine tp rfl (lv_makeFunc rfl) ?_
  refine tp rfl (lv_assign rfl) ?_
  refine t_done ?_
  refine q_then_n (hK2 _ _ ?_)
  refine c_seq (fun K3 hK3 => ?_)
  refine c_region ?_
  refine tp rfl (lv_move rfl) ?_
  refine tc rfl (en_fn Tryd.call29 rfl) (clone_ok xs (Rd.cons (Rd.cons hx)) okx (by first | omega | (simp; omega))) ?_
  rintro _ _ ⟨bs3, cp4, hok5, hle6, rfl, rfl⟩
  refine tp rfl (lv_move rfl) ?_
  refine tc rfl (en_fn Tryd.call28 rfl) (deleteFunc_q (q := fitB n es room) (fun _ => rfl) xs (by first | rfl | omega | (simp; done) | (simp; omega)) ⟨Tryd.call26, fun x _ ys _ => fits1_ok x room es hn (Rd.cons (Rd.cons (Rd.cons hl))) okl (gives_blk (.tail _ (.tail _ (.head _))) rfl) (gives_blk (.tail _ (.head _)) rfl)⟩ (by omega)) ?_
  rintro _ _ ⟨rfl, rfl⟩
  refine tp rfl (lv_assign rfl) ?_
  refine t_done ?_
  refine q_then_n (hK3 _ _ ?_)
  refine c_ret ?_
  refine t_f1 ?_
  refine t_drop ?_
  refine t_f1 ?_
  refine t_drop ?_
  refine q_ret rfl rfl ?_
  have hfl := List.length_filter_le (fitB n es room) xs
  exact ⟨_, _, (fun hz => hok5 (by omega)), (by omega), rfl, rfl⟩

theorem fits_n {R : List HP} {bx bl : Option Addr} {cx cl n nx : Nat} (xs : List Int) (es : List (Int × Int)) (room : Int) (hxn : xs.length = nx) (hn : n ≤ es.length) (hx : Rd R bx (ints .i64 xs)) (hl : Rd R bl (pairs es)) (okx : SlOk bx nx) (okl : SlOk bl n) (lx : nx ≤ 1000000) :
    Ok Tryd.prog 15 [.slice bx nx cx, .slice bl n cl, .int .i64 room] R (OutSl 3 1 (xs.filter (fitB n es room)).length (ints .i64 (xs.filter (fitB n es room))) R) := by subst hxn; exact fits_ok xs es room hn hx hl okx okl lx
end Go.Proofs.YtfoiopbjomaclaaDoor
