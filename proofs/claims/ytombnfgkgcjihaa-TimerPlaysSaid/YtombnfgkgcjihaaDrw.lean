/- A region whose order is left open: one step for each of its operations, whatever was taken before it. No program in it. -/
import Derived.Test.YtombnfgkgcjihaaVal
namespace Go.Proofs.Ytombnfgkgcjihaa.Sp
open Go
def up (S : Nat → Bool) (i : Nat) : Nat → Bool := fun k => bif Nat.beq k i then true else S k
def bnd (l : List Oper) (j k : Nat) : Bool := match l[j]? with
  | some o => o.after.toList.any fun e => Region.binds .any e && Nat.beq e.on k
  | none => false
def acyc : Nat → List Oper → Bool
  | _, [] => true
  | i, o :: r => (o.after.toList.all fun e => !Region.binds .any e || Nat.blt e.on i) && acyc (i + 1) r
theorem acyc_spec {l : List Oper} : ∀ {i : Nat}, acyc i l = true → ∀ j o, l[j]? = some o → ∀ e ∈ o.after, Region.binds .any e = true → e.on < i + j := by
  induction l with
  | nil => intro i _ j o ho; simp at ho
  | cons x l ih =>
    intro i h j o ho e he hb
    simp only [acyc, Bool.and_eq_true] at h
    cases j with
    | zero =>
      simp only [List.getElem?_cons_zero, Option.some.injEq] at ho
      subst ho
      have h2 := (List.all_eq_true.1 h.1) e (Array.mem_toList_iff.2 he)
      rw [hb] at h2
      simp only [Bool.not_true, Bool.false_or] at h2
      exact Nat.le_of_ble_eq_true h2
    | succ j =>
      simp only [List.getElem?_cons_succ] at ho
      have := ih h.2 j o ho e he hb
      omega
/-- what the frame holds when S has been taken -/
def envR (S : Nat → Bool) : List (Nat × Nat × Value) → List (Nat × Value) → List (Nat × Value)
  | [], E => E
  | (j, d, v) :: r, E => bif S j then (d, v) :: envR S r E else envR S r E
section
variable {P : Program} {Q : Exit → Act → World → Prop} {W : World} {N : Nat} {E : List (Nat × Value)} {L : List HP} {γ : Type}
def StepOk (P : Program) (l : List Oper) (Q : Exit → Act → World → Prop) (W : World) (N : Nat) (E : List (Nat × Value)) (F : γ → (Nat → Bool) → Prop) (rows : γ → List (Nat × Nat × Value)) (H : γ → (Nat → Bool) → List HP) (i : Nat) (o : Oper) : Prop :=
  ∀ (g : γ) (S : Nat → Bool), F g S → S i = false → (∀ j k, bnd l j k = true → S j = true → S k = true) → (∀ k, bnd l i k = true → S k = true) →
    ∀ K : Act → World → Prop, (∀ g', F g' (up S i) → Tri K W N (envR (up S i) (rows g') E) (H g' (up S i))) → Tri (wpl P l.toArray Q K [o]) W N (envR S (rows g) E) (H g S)
def StepsFrom (P : Program) (l : List Oper) (Q : Exit → Act → World → Prop) (W : World) (N : Nat) (E : List (Nat × Value)) (F : γ → (Nat → Bool) → Prop) (rows : γ → List (Nat × Nat × Value)) (H : γ → (Nat → Bool) → List HP) : Nat → List Oper → Prop
  | _, [] => True
  | i, o :: r => StepOk P l Q W N E F rows H i o ∧ StepsFrom P l Q W N E F rows H (i + 1) r
theorem stepsFrom_get {l : List Oper} {F : γ → (Nat → Bool) → Prop} {rows : γ → List (Nat × Nat × Value)} {H : γ → (Nat → Bool) → List HP} : ∀ {r : List Oper} {i : Nat}, StepsFrom P l Q W N E F rows H i r →
    ∀ j o, r[j]? = some o → StepOk P l Q W N E F rows H (i + j) o
  | [], _, _, j, o, ho => by simp at ho
  | x :: r, i, h, 0, o, ho => by simp only [List.getElem?_cons_zero, Option.some.injEq] at ho; subst ho; exact h.1
  | x :: r, i, h, j + 1, o, ho => by
    simp only [List.getElem?_cons_succ] at ho
    have := stepsFrom_get h.2 j o ho
    rwa [show i + 1 + j = i + (j + 1) by omega] at this
theorem c_draw {id : Nat} {l : List Oper} {n : Nat} (hm : P.follows .mixedOrders = true) (hn : l.length = n) (hac : acyc 0 l = true)
    (F : γ → (Nat → Bool) → Prop) (rows : γ → List (Nat × Nat × Value)) (H : γ → (Nat → Bool) → List HP) (g0 : γ)
    (hF0 : F g0 (fun i => Nat.ble n i)) (hL : ∀ w, Sat L w → Sat (H g0 (fun i => Nat.ble n i)) w) (hE : ∀ t v, look t (envR (fun i => Nat.ble n i) (rows g0) E) = some v → look t E = some v)
    (steps : StepsFrom P l Q W N E F rows H 0 l)
    (hend : ∀ g, F g (fun _ => true) → Tri (Q .normal) W N (envR (fun _ => true) (rows g) E) (H g (fun _ => true))) :
    Tri ((Code.region id l.toArray true).wp P Q) W N E L := by
  subst hn
  intro a w s
  refine wp_region_any hm ?_
  have key : ∀ (fuel : Nat) (listed : Array Bool) (a : Act) (w : World), listed.size = l.length → (listed.toList.filter (fun b => !b)).length ≤ fuel →
      (∀ j k, bnd l j k = true → listed.getD j true = true → listed.getD k true = true) →
      (∃ g, F g (fun i => listed.getD i true) ∧ St W N (envR (fun i => listed.getD i true) (rows g) E) (H g (fun i => listed.getD i true)) a w) →
      wpAny P .any l.toArray Q fuel listed a w := by
    intro fuel
    have ready_iff : ∀ (listed : Array Bool) (i : Nat), i ∈ Region.ready .any l.toArray listed ↔ i < l.length ∧ listed.getD i true = false ∧ ∀ k, bnd l i k = true → listed.getD k false = true := by
      intro listed i
      simp only [Region.ready, List.mem_filter, List.mem_range, List.size_toArray, Bool.and_eq_true, Bool.not_eq_true', List.getElem?_toArray]
      constructor
      · rintro ⟨h1, h2, h3⟩
        refine ⟨h1, h2, fun k hk => ?_⟩
        unfold bnd at hk
        cases ho : l[i]? with
        | none => rw [ho] at hk; cases hk
        | some o =>
          rw [ho] at hk h3
          simp only [Option.map_some, Option.getD_some] at h3
          obtain ⟨e, he, hb⟩ := List.any_eq_true.1 hk
          have he := Array.mem_toList_iff.1 he
          simp only [Bool.and_eq_true] at hb
          have := Array.all_eq_true'.1 h3 e he
          rw [hb.1] at this
          simp only [Bool.not_true, Bool.false_or] at this
          rwa [← Nat.eq_of_beq_eq_true hb.2]
      · rintro ⟨h1, h2, h3⟩
        refine ⟨h1, h2, ?_⟩
        have ho : l[i]? = some l[i] := List.getElem?_eq_getElem h1
        rw [ho]
        simp only [Option.map_some, Option.getD_some]
        refine Array.all_eq_true'.2 fun e he => ?_
        cases hb : Region.binds .any e with
        | false => rfl
        | true =>
          simp only [Bool.not_true, Bool.false_or]
          refine h3 e.on ?_
          unfold bnd
          rw [ho]
          exact List.any_eq_true.2 ⟨e, Array.mem_toList_iff.2 he, by simp [hb]⟩
    have all_of_ready_nil : ∀ (listed : Array Bool), listed.size = l.length → Region.ready .any l.toArray listed = [] → ∀ i, i < l.length → listed.getD i true = true := by
      intro listed hsz hr i
      induction i using Nat.strongRecOn with
      | _ i ih =>
        intro hi
        cases hb : listed.getD i true with
        | true => rfl
        | false =>
          exfalso
          have : i ∈ Region.ready .any l.toArray listed := (ready_iff listed i).2 ⟨hi, hb, fun k hk => by
            have hlt : k < i := by
              unfold bnd at hk
              cases ho : l[i]? with
              | none => rw [ho] at hk; cases hk
              | some o =>
                rw [ho] at hk
                obtain ⟨e, he, hbe⟩ := List.any_eq_true.1 hk
                have he := Array.mem_toList_iff.1 he
                simp only [Bool.and_eq_true] at hbe
                have := acyc_spec hac i o ho e he hbe.1
                rw [Nat.eq_of_beq_eq_true hbe.2] at this
                omega
            have h1 := ih k hlt (by omega)
            have hk' : k < listed.size := by omega
            simpa [Array.getD, hk'] using h1⟩
          rw [hr] at this
          cases this
    have finish : ∀ (listed : Array Bool) (a : Act) (w : World), listed.size = l.length → Region.ready .any l.toArray listed = [] →
        (∃ g, F g (fun i => listed.getD i true) ∧ St W N (envR (fun i => listed.getD i true) (rows g) E) (H g (fun i => listed.getD i true)) a w) → Q .normal a w := by
      intro listed a w hsz hr ⟨g, hg, s⟩
      have hall : (fun i => listed.getD i true) = (fun _ => true) := by
        funext i
        by_cases hi : i < l.length
        · exact all_of_ready_nil listed hsz hr i hi
        · have : ¬ i < listed.size := by omega
          simp [Array.getD, this]
      rw [hall] at hg s
      exact hend g hg a w s
    induction fuel with
    | zero =>
      intro listed a w hsz hcnt hdown hI
      have hnil : Region.ready .any l.toArray listed = [] := by
        cases hr : Region.ready .any l.toArray listed with
        | nil => rfl
        | cons i r =>
          exfalso
          have hi := (ready_iff listed i).1 (by rw [hr]; exact List.mem_cons_self ..)
          have hlt : i < listed.size := by omega
          have : listed[i] = false := by simpa [Array.getD, hlt] using hi.2.1
          have hmem : false ∈ listed.toList.filter (fun b => !b) := List.mem_filter.2 ⟨by rw [← this]; simp, rfl⟩
          have := List.length_pos_of_mem hmem
          omega
      exact ⟨hnil, finish listed a w hsz hnil hI⟩
    | succ fuel ih =>
      intro listed a w hsz hcnt hdown hI
      refine ⟨fun hr => finish listed a w hsz hr hI, fun i hi => ?_⟩
      obtain ⟨g, hg, s⟩ := hI
      obtain ⟨hlt, hfalse, hpre⟩ := (ready_iff listed i).1 hi
      have hlt' : i < listed.size := by omega
      have ho : l[i]? = some l[i] := List.getElem?_eq_getElem hlt
      have hpre' : ∀ k, bnd l i k = true → listed.getD k true = true := fun k hk => by
        have := hpre k hk
        by_cases hk' : k < listed.size
        · simpa [Array.getD, hk'] using this
        · simp [Array.getD, hk']
      have hst := stepsFrom_get steps i l[i] ho
      rw [Nat.zero_add] at hst
      have hup : (fun k => (listed.setIfInBounds i true).getD k true) = up (fun k => listed.getD k true) i := by
        funext k
        unfold up
        cases hb : Nat.beq k i with
        | true =>
          have := Nat.eq_of_beq_eq_true hb
          subst this
          simp [Array.getD, hlt']
        | false =>
          have hne : i ≠ k := fun e => by subst e; simp at hb
          simp only [cond_false, Array.getD, Array.size_setIfInBounds]
          split
          · rename_i hk
            simp [hne, hk]
          · rfl
      have := hst g _ hg hfalse hdown hpre' (wpAny P .any l.toArray Q fuel (listed.setIfInBounds i true)) (fun g' hg' a' w' s' => by
        refine ih _ a' w' (by simpa using hsz) ?_ ?_ ⟨g', by rw [hup]; exact hg', by rw [hup]; exact s'⟩
        · have hcount : ((listed.setIfInBounds i true).toList.filter (fun b => !b)).length < (listed.toList.filter (fun b => !b)).length := by
            have hget : listed.toList[i]'(by simpa using hlt') = false := by simpa [Array.getD, hlt'] using hfalse
            have hsplit : listed.toList = listed.toList.take i ++ listed.toList[i]'(by simpa using hlt') :: listed.toList.drop (i + 1) := by
              rw [← List.drop_eq_getElem_cons, List.take_append_drop]
            rw [Array.toList_setIfInBounds, List.set_eq_take_append_cons_drop, if_pos (by simpa using hlt')]
            conv => rhs; rw [hsplit]
            simp [List.filter_append, hget]
          omega
        · intro j k hjk hj
          have e1 : (listed.setIfInBounds i true).getD j true = up (fun k => listed.getD k true) i j := congrFun hup j
          have e2 : (listed.setIfInBounds i true).getD k true = up (fun k => listed.getD k true) i k := congrFun hup k
          rw [e1] at hj
          rw [e2]
          unfold up at hj ⊢
          cases hb : Nat.beq k i with
          | true => rfl
          | false =>
            simp only [cond_false]
            cases hb' : Nat.beq j i with
            | true => exact hpre' k (by rw [← Nat.eq_of_beq_eq_true hb']; exact hjk)
            | false => rw [hb'] at hj; exact hdown j k hjk hj) a w s
      unfold wpOp
      simp only [List.getElem?_toArray, ho]
      simp only [wpl] at this
      split
      · rename_i hw; rw [if_pos hw] at this; exact .inl this
      · rename_i hw; rw [if_neg hw] at this; exact this
  have hS0 : (fun i => (Array.replicate l.length false).getD i true) = (fun i => Nat.ble l.length i) := by
    funext i
    by_cases hi : i < l.length
    · have : Nat.ble l.length i = false := by cases hb : Nat.ble l.length i with | false => rfl | true => have := Nat.le_of_ble_eq_true hb; omega
      simp [Array.getD, hi, this]
    · have : Nat.ble l.length i = true := Nat.ble_eq_true_of_le (by omega)
      simp [Array.getD, hi, this]
  have hsz : l.toArray.size = l.length := by simp
  rw [hsz]
  refine key _ _ a _ (by simp) (by simp) ?_ ⟨g0, by rw [hS0]; exact hF0, ?_⟩
  · intro j k hjk hj
    have hjl : j < l.length := by
      unfold bnd at hjk
      cases ho : l[j]? with
      | none => rw [ho] at hjk; cases hjk
      | some o => exact (List.getElem?_eq_some_iff.1 ho).1
    simp [Array.getD, hjl] at hj
  · rw [hS0]
    exact ⟨s.size, s.defers, fun t v hl => s.env t v (hE t v hl), hL _ (s.sat.same rfl), s.ext.trans ⟨rfl, rfl, Nat.le_refl _, fun _ => rfl⟩⟩

/-! looking into such a frame -/
def dsts (rows : List (Nat × Nat × Value)) : List Nat := rows.map (·.2.1)
def nodupB : List Nat → Bool
  | [] => true
  | x :: l => (l.all fun y => !Nat.beq y x) && nodupB l
theorem nodupB_spec {x : Nat} {l : List Nat} (h : nodupB (x :: l) = true) : x ∉ l := by
  simp only [nodupB, Bool.and_eq_true, List.all_eq_true, Bool.not_eq_true'] at h
  intro hm
  have := h.1 x hm
  simp at this
theorem look_notin {S : Nat → Bool} {t : Nat} {E : List (Nat × Value)} : ∀ {rows : List (Nat × Nat × Value)}, t ∉ dsts rows → look t (envR S rows E) = look t E
  | [], _ => rfl
  | (j, d, v) :: r, h => by
    simp only [dsts, List.map_cons, List.mem_cons, not_or] at h
    have ih := look_notin (S := S) (E := E) (rows := r) h.2
    simp only [envR]
    cases S j with
    | false => exact ih
    | true =>
      have hb : Nat.beq t d = false := by cases hb : Nat.beq t d with | false => rfl | true => exact absurd (Nat.eq_of_beq_eq_true hb) h.1
      simp only [cond_true, look, hb, cond_false]
      exact ih
theorem look_row {S : Nat → Bool} {E : List (Nat × Value)} : ∀ {rows : List (Nat × Nat × Value)}, nodupB (dsts rows) = true → ∀ (k : Nat) {j d : Nat} {v : Value}, rows[k]? = some (j, d, v) → S j = true → look d (envR S rows E) = some v
  | [], _, k, _, _, _, h, _ => by simp at h
  | (j', d', v') :: r, hn, 0, j, d, v, h, hs => by
    simp only [List.getElem?_cons_zero, Option.some.injEq, Prod.mk.injEq] at h
    obtain ⟨rfl, rfl, rfl⟩ := h
    simp only [envR, hs, cond_true, look]
    have : Nat.beq d' d' = true := Nat.beq_refl d'
    rw [this]; rfl
  | (j', d', v') :: r, hn, k + 1, j, d, v, h, hs => by
    simp only [List.getElem?_cons_succ] at h
    have hx : d' ∉ dsts r := nodupB_spec hn
    have hn' : nodupB (dsts r) = true := by simp only [dsts, List.map_cons, nodupB, Bool.and_eq_true] at hn; exact hn.2
    have ih := look_row (S := S) (E := E) hn' k h hs
    have hd : d ≠ d' := fun e => hx (by rw [← e]; exact List.mem_map.2 ⟨(j, d, v), List.mem_of_getElem? h, rfl⟩)
    simp only [envR]
    cases S j' with
    | false => exact ih
    | true =>
      have hb : Nat.beq d d' = false := by cases hb : Nat.beq d d' with | false => rfl | true => exact absurd (Nat.eq_of_beq_eq_true hb) hd
      simp only [cond_true, look, hb, cond_false]
      exact ih
/-- a slot that this region's taken operations have not written -/
theorem look_base {S : Nat → Bool} {t : Nat} {E : List (Nat × Value)} {v : Value} : ∀ {rows : List (Nat × Nat × Value)}, (∀ x ∈ rows, Nat.beq t x.2.1 = true → S x.1 = false) → look t E = some v → look t (envR S rows E) = some v
  | [], _, h => h
  | (j, d, u) :: r, hn, h => by
    have ih := look_base (S := S) (rows := r) (fun x hx => hn x (List.mem_cons_of_mem _ hx)) h
    simp only [envR]
    cases hs : S j with
    | false => exact ih
    | true =>
      cases hb : Nat.beq t d with
      | false => simp only [cond_true, look, hb, cond_false]; exact ih
      | true => have := hn (j, d, u) (List.mem_cons_self ..) hb; rw [hs] at this; cases this
/-- the rows agree wherever something was taken -/
def AgreeR (S : Nat → Bool) : List (Nat × Nat × Value) → List (Nat × Nat × Value) → Prop
  | [], [] => True
  | x :: r, y :: r' => (x = y ∨ (x.1 = y.1 ∧ x.2.1 = y.2.1 ∧ S x.1 = false)) ∧ AgreeR S r r'
  | _, _ => False
theorem AgreeR.env {S : Nat → Bool} {E : List (Nat × Value)} : ∀ {r r' : List (Nat × Nat × Value)}, AgreeR S r r' → envR S r E = envR S r' E
  | [], [], _ => rfl
  | x :: r, y :: r', h => by
    obtain ⟨h1, h2⟩ := h
    have ih := AgreeR.env (E := E) h2
    obtain ⟨j, d, v⟩ := x
    obtain ⟨j', d', v'⟩ := y
    rcases h1 with e | ⟨e1, e2, e3⟩
    · cases e; simp only [envR, ih]
    · simp only at e1 e2 e3
      subst e1; subst e2
      simp only [envR, e3, cond_false, ih]
  | [], _ :: _, h => h.elim
  | _ :: _, [], h => h.elim
theorem AgreeR.refl {S : Nat → Bool} : ∀ r : List (Nat × Nat × Value), AgreeR S r r
  | [] => trivial
  | _ :: r => ⟨.inl rfl, AgreeR.refl r⟩
theorem env_up {S : Nat → Bool} {i d : Nat} {v : Value} {E : List (Nat × Value)} : ∀ {rows : List (Nat × Nat × Value)}, nodupB (dsts rows) = true → nodupB (rows.map (·.1)) = true → ∀ (k : Nat), rows[k]? = some (i, d, v) → S i = false →
    ∀ t u, look t (envR (up S i) rows E) = some u → look t ((d, v) :: envR S rows E) = some u := by
  intro rows hn hi k hk hs t u h
  by_cases ht : t = d
  · subst ht
    have hup : up S i i = true := by unfold up; rw [show Nat.beq i i = true from Nat.beq_refl i]; rfl
    rw [look_row hn k hk hup] at h
    cases h
    simp only [look, show Nat.beq t t = true from Nat.beq_refl t, cond_true]
  · have hb : Nat.beq t d = false := by cases hb : Nat.beq t d with | false => rfl | true => exact absurd (Nat.eq_of_beq_eq_true hb) ht
    simp only [look, hb, cond_false]
    rw [← h]
    clear h hs
    induction rows generalizing k with
    | nil => rfl
    | cons x r ih =>
      obtain ⟨j', d', v'⟩ := x
      have hn' : nodupB (dsts r) = true := by simp only [dsts, List.map_cons, nodupB, Bool.and_eq_true] at hn; exact hn.2
      have hi' : nodupB (r.map (·.1)) = true := by simp only [List.map_cons, nodupB, Bool.and_eq_true] at hi; exact hi.2
      have hix : j' ∉ r.map (·.1) := nodupB_spec hi
      cases k with
      | zero =>
        simp only [List.getElem?_cons_zero, Option.some.injEq, Prod.mk.injEq] at hk
        obtain ⟨rfl, rfl, rfl⟩ := hk
        have same : ∀ r' : List (Nat × Nat × Value), j' ∉ r'.map (·.1) → envR (up S j') r' E = envR S r' E := by
          intro r'
          induction r' with
          | nil => intro _; rfl
          | cons y r' ih' =>
            intro hy
            obtain ⟨a, b, c⟩ := y
            simp only [List.map_cons, List.mem_cons, not_or] at hy
            have hb' : Nat.beq a j' = false := by cases hb' : Nat.beq a j' with | false => rfl | true => exact absurd (Nat.eq_of_beq_eq_true hb').symm hy.1
            simp only [envR, up, hb', cond_false]
            rw [← ih' hy.2]
        simp only [envR]
        rw [same r hix]
        have hup : up S j' j' = true := by unfold up; rw [show Nat.beq j' j' = true from Nat.beq_refl j']; rfl
        rw [hup]
        simp only [cond_true, look, hb, cond_false]
        cases S j' with
        | false => rfl
        | true => simp only [cond_true, look, hb, cond_false]
      | succ k =>
        simp only [List.getElem?_cons_succ] at hk
        have ih' := ih hn' hi' k hk
        have hj : j' ≠ i := fun e => hix (by rw [e]; exact List.mem_map.2 ⟨(i, d, v), List.mem_of_getElem? hk, rfl⟩)
        have hb' : Nat.beq j' i = false := by cases hb' : Nat.beq j' i with | false => rfl | true => exact absurd (Nat.eq_of_beq_eq_true hb') hj
        simp only [envR, up, hb', cond_false]
        cases S j' with
        | false => exact ih'
        | true =>
          simp only [cond_true, look]
          cases Nat.beq t d' with
          | true => rfl
          | false => exact ih'
theorem t_env {K : Act → World → Prop} {E' : List (Nat × Value)} (h : ∀ t u, look t E' = some u → look t E = some u) (k : Tri K W N E' L) : Tri K W N E L := fun a w s =>
  k a w ⟨s.size, s.defers, fun t v hl => s.env t v (h t v hl), s.sat, s.ext⟩
/-- the end of one operation's step: its value is its row's -/
theorem d_close {S : Nat → Bool} {i d : Nat} {v : Value} {rows rows' : List (Nat × Nat × Value)} {M : List HP} {ops : Array Oper} {K : Act → World → Prop} (k : Nat) (hn : nodupB (dsts rows') = true) (hi : nodupB (rows'.map (·.1)) = true) (hk : rows'[k]? = some (i, d, v)) (hs : S i = false)
    (ha : AgreeR S rows rows') (h : Tri K W N (envR (up S i) rows' E) M) : Tri (wpl P ops Q K []) W N ((d, v) :: envR S rows E) M := by
  refine t_done (t_env ?_ h)
  rw [ha.env]
  exact env_up hn hi k hk hs
/-- the end of a store's step -/
theorem d_close0 {S : Nat → Bool} {i : Nat} {rows : List (Nat × Nat × Value)} {M : List HP} {ops : Array Oper} {K : Act → World → Prop} (hi : (rows.all fun x => !Nat.beq x.1 i) = true)
    (h : Tri K W N (envR (up S i) rows E) M) : Tri (wpl P ops Q K []) W N (envR S rows E) M := by
  have e : envR (up S i) rows E = envR S rows E := by
    clear h
    induction rows with
    | nil => rfl
    | cons x r ih =>
      obtain ⟨j, d, v⟩ := x
      simp only [List.all_cons, Bool.and_eq_true, Bool.not_eq_true'] at hi
      simp only [envR, up, hi.1, cond_false]
      rw [← ih hi.2]
  rw [← e]
  exact t_done h
theorem look_app {small : List (Nat × Value)} (h : Picks E small) (t : Nat) (u : Value) : look t (small ++ E) = some u ↔ look t E = some u := by
  induction small with
  | nil => exact Iff.rfl
  | cons x r ih =>
    obtain ⟨s, v⟩ := x
    simp only [List.cons_append, look]
    cases hb : Nat.beq t s with
    | true =>
      have := Nat.eq_of_beq_eq_true hb
      subst this
      rw [h.1]; rfl
    | false => exact ih h.2
/-- what an operation needs of the frame, in front -/
theorem d_need {K : Act → World → Prop} {small : List (Nat × Value)} (h : Picks E small) (k : Tri K W N (small ++ E) L) : Tri K W N E L :=
  t_env (fun t u hl => (look_app h t u).1 hl) k
theorem d_closes {S : Nat → Bool} {i d : Nat} {v : Value} {rows rows' : List (Nat × Nat × Value)} {small : List (Nat × Value)} {M : List HP} {ops : Array Oper} {K : Act → World → Prop} (hsm : Picks (envR S rows E) small) (k : Nat) (hn : nodupB (dsts rows') = true) (hi : nodupB (rows'.map (·.1)) = true) (hk : rows'[k]? = some (i, d, v)) (hs : S i = false)
    (ha : AgreeR S rows rows') (h : Tri K W N (envR (up S i) rows' E) M) : Tri (wpl P ops Q K []) W N ((d, v) :: (small ++ envR S rows E)) M := by
  refine t_done (t_env ?_ h)
  intro t u hl
  have := env_up hn hi k hk hs t u hl
  rw [← ha.env] at this
  simp only [look] at this ⊢
  cases hb : Nat.beq t d with
  | true => rw [hb] at this; exact this
  | false => rw [hb] at this; exact (look_app hsm t u).2 this
theorem d_closes0 {S : Nat → Bool} {i : Nat} {rows : List (Nat × Nat × Value)} {small : List (Nat × Value)} {M : List HP} {ops : Array Oper} {K : Act → World → Prop} (hsm : Picks (envR S rows E) small) (hi : (rows.all fun x => !Nat.beq x.1 i) = true)
    (h : Tri K W N (envR (up S i) rows E) M) : Tri (wpl P ops Q K []) W N (small ++ envR S rows E) M :=
  t_env (fun t u hl => (look_app hsm t u).2 hl) (d_close0 hi h)
theorem look_b {S : Nat → Bool} {t : Nat} {v : Value} {rows : List (Nat × Nat × Value)} (h : (rows.all fun x => !Nat.beq t x.2.1) = true) (hl : look t E = some v) : look t (envR S rows E) = some v :=
  look_base (fun x hx hb => by have := List.all_eq_true.1 h x hx; rw [hb] at this; cases this) hl
theorem look_b1 {S : Nat → Bool} {t : Nat} {v : Value} {rows : List (Nat × Nat × Value)} (k : Nat) (hk : S k = false) (h : (rows.all fun x => !Nat.beq t x.2.1 || Nat.beq x.1 k) = true) (hl : look t E = some v) : look t (envR S rows E) = some v :=
  look_base (fun x hx hb => by
    have := List.all_eq_true.1 h x hx; rw [hb] at this
    simp only [Bool.not_true, Bool.false_or] at this
    rw [Nat.eq_of_beq_eq_true this]; exact hk) hl
theorem nf {l : List Oper} {S : Nat → Bool} {i k : Nat} (hS : S i = false) (D : ∀ j k, bnd l j k = true → S j = true → S k = true) (h : bnd l k i = true) : S k = false := by
  cases hk : S k with
  | false => rfl
  | true => rw [D k i h hk] at hS; cases hS
def Emp : HP := fun f => f = []
theorem Sat.emp {L : List HP} {w : World} (h : Sat L w) : Sat (Emp :: L) w := by
  obtain ⟨f, hp, hh⟩ := h
  exact ⟨f, ⟨[], f, rfl, rfl, hp⟩, hh⟩
theorem sat_put (M : List HP) {A B : HP} {L : List HP} {w : World} (h : Sat (A :: (M ++ B :: L)) w) : Sat (M ++ A :: L) w := by
  have h1 : Sat (B :: (A :: (M ++ L))) w := h.perm ((List.Perm.cons A List.perm_middle).trans (.swap B A _))
  exact h1.drop.perm List.perm_middle.symm
theorem sat_emps (M : List HP) (k : Nat) {R : List HP} {w : World} (h : Sat (M ++ R) w) : Sat (M ++ (List.replicate k Emp ++ R)) w := by
  have h1 : Sat (List.replicate k Emp ++ (M ++ R)) w := by
    induction k with
    | zero => exact h
    | succ k ih => rw [List.replicate_succ, List.cons_append]; exact ih.emp
  refine h1.perm ?_
  rw [← List.append_assoc, ← List.append_assoc]
  exact List.perm_append_comm.append_right _
theorem mem_cT {S : Nat → Bool} {j : Nat} {A B : HP} (h : S j = true) (hm : (bif S j then A else B) ∈ L) : A ∈ L := by rw [h] at hm; exact hm
theorem mem_cF {S : Nat → Bool} {j : Nat} {A B : HP} (h : S j = false) (hm : (bif S j then A else B) ∈ L) : B ∈ L := by rw [h] at hm; exact hm
theorem t_cT {K : Act → World → Prop} {S : Nat → Bool} {j : Nat} {A B : HP} (h : S j = true) (k : Tri K W N E (A :: L)) : Tri K W N E ((bif S j then A else B) :: L) := by rw [h]; exact k
theorem t_wT {K : Act → World → Prop} {S : Nat → Bool} {j : Nat} {A B : HP} (h : S j = true) (k : Tri K W N E ((bif S j then A else B) :: L)) : Tri K W N E (A :: L) := by rw [h] at k; exact k
theorem t_wF {K : Act → World → Prop} {S : Nat → Bool} {j : Nat} {A B : HP} (h : S j = false) (k : Tri K W N E ((bif S j then A else B) :: L)) : Tri K W N E (B :: L) := by rw [h] at k; exact k
theorem t_cF {K : Act → World → Prop} {S : Nat → Bool} {j : Nat} {A B : HP} (h : S j = false) (k : Tri K W N E (B :: L)) : Tri K W N E ((bif S j then A else B) :: L) := by rw [h]; exact k
end
end Go.Proofs.Ytombnfgkgcjihaa.Sp
