/- Vs, part P: code, and whole functions. -/
import Derived.Test.YtbgleobdhjghlaaVsO
import Derived.LoopN
set_option linter.unusedVariables false
set_option linter.unusedSimpArgs false
namespace Go.Vs
open Go.RowKit

/-! ### forgetting -/
theorem idxOf_spec : ∀ {l : List Nat} {b j : Nat}, idxOf l b = some j → l[j]? = some b := by
  intro l
  induction l with
  | nil => intro b j h; simp [idxOf] at h
  | cons x l ih =>
    intro b j h
    simp only [idxOf] at h
    split at h
    · rename_i e; cases h; simp [e]
    · simp only [Option.map_eq_some_iff] at h
      obtain ⟨k, hk, rfl⟩ := h
      simpa using ih hk

theorem nodupB_spec : ∀ {l : List Nat}, nodupB l = true → ∀ {i j : Nat} {x : Nat}, l[i]? = some x → l[j]? = some x → i = j := by
  intro l
  induction l with
  | nil => intro _ i j x h; simp at h
  | cons y l ih =>
    intro h i j x hi hj
    simp only [nodupB, Bool.and_eq_true, Bool.not_eq_true'] at h
    have hnot : ∀ k : Nat, l[k]? ≠ some y := by
      intro k hk
      have := List.mem_of_getElem? hk
      have h1 := h.1
      simp at h1
      exact h1 this
    cases i with
    | zero =>
      cases j with
      | zero => rfl
      | succ j => simp at hi hj; subst hi; exact absurd hj (hnot j)
    | succ i =>
      cases j with
      | zero => simp at hi hj; subst hj; exact absurd hi (hnot i)
      | succ j => simp at hi hj; rw [ih h.2 hi hj]

theorem addNew_prefix (b : List (Option Blk)) : ∀ (xs seen : List Nat), seen <+: addNew b seen xs := by
  intro xs
  induction xs with
  | nil => intro seen; exact List.prefix_refl _
  | cons x xs ih =>
    intro seen
    unfold addNew
    simp only [List.foldl_cons]
    split
    · exact ih seen
    · exact List.IsPrefix.trans ⟨[x], rfl⟩ (ih (seen ++ [x]))
theorem growIds_prefix (b : List (Option Blk)) : ∀ (fuel i : Nat) (seen : List Nat), seen <+: growIds b fuel i seen := by
  intro fuel
  induction fuel with
  | zero => intro i seen; exact List.prefix_refl _
  | succ fuel ih =>
    intro i seen
    simp only [growIds]
    split
    · exact List.prefix_refl _
    · exact (addNew_prefix b _ seen).trans (ih _ _)
theorem gcOrder_lo (n0 : Nat) (keep : Nat → Bool) (st : St) {j : Nat} (hj : j < n0) : (gcOrder n0 keep st)[j]? = some j := by
  have h : List.range n0 <+: gcOrder n0 keep st := (addNew_prefix _ _ _).trans (growIds_prefix _ _ _ _)
  obtain ⟨l, hl⟩ := h
  rw [← hl, List.getElem?_append_left (by simpa using hj)]
  simp [hj]

section
variable {E : Env} {X : Ctx} {n0 : Nat}

theorem keepT_length {keep : Nat → Bool} {f : IV → IV} : ∀ {l : List (Option IV)} {i : Nat}, (keepT keep f i l).length = l.length
  | [], _ => rfl
  | none :: l, i => by simp [keepT_none, keepT_some, keepT_length (l := l)]
  | some v :: l, i => by simp [keepT_none, keepT_some, keepT_length (l := l)]
theorem keepT_get {keep : Nat → Bool} {f : IV → IV} : ∀ {l : List (Option IV)} {i j : Nat} {v : IV}, (keepT keep f i l)[j]? = some (some v) → ∃ v0, l[j]? = some (some v0) ∧ v = f v0
  | [], _, j, v, h => by simp [keepT_nil, keepT_none] at h
  | none :: l, i, 0, v, h => by simp [keepT_nil, keepT_none] at h
  | none :: l, i, j + 1, v, h => by
    obtain ⟨v0, h1, h2⟩ := keepT_get (l := l) (i := i + 1) (j := j) (by simpa [keepT_none, keepT_some] using h)
    exact ⟨v0, by simpa using h1, h2⟩
  | some u :: l, i, 0, v, h => by
    simp only [keepT_some, List.getElem?_cons_zero, Option.some.injEq] at h
    split at h
    · exact ⟨u, rfl, (Option.some.inj h).symm⟩
    · cases h
  | some u :: l, i, j + 1, v, h => by
    obtain ⟨v0, h1, h2⟩ := keepT_get (l := l) (i := i + 1) (j := j) (by simpa [keepT_none, keepT_some] using h)
    exact ⟨v0, by simpa using h1, h2⟩
/-- the assignment behind a new order -/
def asgO (β : Asg) (order : List Nat) : Asg := fun j => match order[j]? with
  | some i => β i
  | none => none
theorem gcBy_look {order : List Nat} {keep : Nat → Bool} {st : St} {j : Nat} {k' : Blk} (hj : look (gcBy order keep st).b j = some k') : ∃ i k, order[j]? = some i ∧ look st.b i = some k ∧ k' = renB (idxOf order) k := by
  rw [look_some] at hj
  simp only [gcBy, List.getElem?_map, Option.map_eq_some_iff] at hj
  obtain ⟨i, hi, k, hk, rfl⟩ := hj
  exact ⟨i, k, hi, hk, rfl⟩
theorem gcBy_sat {β : Asg} {st : St} {a : Act} {w : World} (h : Sat X β st a w) (keep : Nat → Bool) {order : List Nat} (hnd : nodupB order = true) : Sat X (asgO β order) (gcBy order keep st) a w := by
  have hρ : ∀ b b', idxOf order b = some b' → ∀ r, β b = some r → (asgO β order) b' = some r := by
    intro b b' hb r hr
    simp only [asgO, idxOf_spec hb]
    exact hr
  have lk : ∀ j k', look (gcBy order keep st).b j = some k' → ∃ i k, order[j]? = some i ∧ look st.b i = some k ∧ k' = renB (idxOf order) k := by
    intro j k' hj
    rw [look_some] at hj
    simp only [gcBy, List.getElem?_map, Option.map_eq_some_iff] at hj
    obtain ⟨i, hi, k, hk, rfl⟩ := hj
    exact ⟨i, k, hi, hk, rfl⟩
  have huse : ∀ {j i id}, order[j]? = some i → Uses (asgO β order) j id → Uses β i id := by
    intro j i id hi hu
    exact hu.congr (by simp only [asgO, hi])
  have hown : ∀ k, (renB (idxOf order) k).own = k.own := by intro k; cases k <;> rfl
  have husek : ∀ {j i k id}, order[j]? = some i → UsesK (asgO β order) j (renB (idxOf order) k) id → UsesK β i k id := by
    intro j i k id hi hu
    refine ⟨huse hi hu.1, ?_⟩
    rcases hu.2 with h1 | ⟨ks, x, xs, h1⟩
    · exact .inl (by rw [← hown]; exact h1)
    · cases k <;> simp [renB] at h1
      exact .inr ⟨ks, x, xs, by rw [h1.1, h1.2]⟩
  refine ⟨?_, ?_, ?_, ?_, ?_, h.below, h.frm.sub (fun c k id hc hu => ?_), h.defers⟩
  · simp [gcBy, keepT_length, h.len]
  · intro i v hv
    rw [look_some] at hv
    simp only [gcBy] at hv
    obtain ⟨v0, hx, rfl⟩ := keepT_get hv
    obtain ⟨u, hu, hr⟩ := h.tmps i v0 (look_some.2 hx)
    exact ⟨u, hu, ren_rep' hρ hr⟩
  · intro j k' hj
    obtain ⟨i, k, hi, hk, rfl⟩ := lk j k' hj
    have hb := h.blks i k hk
    have hβ : (asgO β order) j = β i := by simp only [asgO, hi]
    cases k with
    | var t cells =>
      obtain ⟨id, cs, h1, h2, h3, h4⟩ := hb
      obtain ⟨l1, r1⟩ := renL_rep hρ (cs := cells) (xs := cs.toList) (by simpa using h4.1) (fun i c v hc hv => h4.2.2 i c v hc (by simpa using hv))
      exact ⟨id, cs, hβ.trans h1, h2, h3, by simpa using l1, h4.2.1, fun i c v hc hv => r1 i c v hc (by simpa using hv)⟩
    | ints t k xs =>
      obtain ⟨id, h1, h2⟩ := hb
      exact ⟨id, hβ.trans h1, h2⟩
    | row e ks xs =>
      obtain ⟨A, n, c, h1, h2⟩ := hb
      exact ⟨A, n, c, hβ.trans h1, h2⟩
    | ro ks xs =>
      obtain ⟨A, c, h1, h2⟩ := hb
      exact ⟨A, c, hβ.trans h1, h2⟩
  · intro b c k k' id hb hc ho' hu1 hu2
    obtain ⟨i, k1, hi, hk1, rfl⟩ := lk b k hb
    obtain ⟨i', k2, hi', hk2, rfl⟩ := lk c k' hc
    have := h.disj i i' k1 k2 id hk1 hk2 (by rw [← hown]; exact ho') (husek hi hu1) (husek hi' hu2)
    subst this
    exact nodupB_spec hnd hi hi'
  · intro b hb
    simp only [gcBy, List.length_map] at hb
    simp only [asgO, List.getElem?_eq_none hb]
  · obtain ⟨i, k1, hi, hk1, rfl⟩ := lk c k hc
    exact ⟨i, k1, hk1, husek hi hu, fun h0 => by rw [← hown]; exact h0⟩
theorem gc_sat {β : Asg} {st : St} {a : Act} {w : World} (h : Sat X β st a w) (keep : Nat → Bool) (hn : n0 ≤ st.b.length) :
    ∃ β', Sat X β' (gc n0 keep st) a w ∧ (∀ b, b < n0 → β' b = β b) ∧ n0 ≤ (gc n0 keep st).b.length := by
  unfold gc
  simp only
  split
  · rename_i hnd
    generalize ho : gcOrder n0 keep st = order at *
    have hlo : ∀ j, j < n0 → order[j]? = some j := fun j hj => by rw [← ho]; exact gcOrder_lo n0 keep st hj
    refine ⟨asgO β order, gcBy_sat h keep hnd, ?_, ?_⟩
    · intro b hb
      simp only [asgO, hlo b hb]
    · simp only [gcBy, List.length_map]
      rcases Nat.eq_zero_or_pos n0 with h0 | h0
      · omega
      · have := (List.getElem?_eq_some_iff.1 (hlo (n0 - 1) (by omega))).1
        omega
  · exact ⟨β, h, fun _ _ => rfl, hn⟩

/-! ### code -/
def Out.toExit : Out → Exit
  | .normal => .normal
  | .exit id => .exit id
  | .ret => .ret

/-- what follows a piece of code -/
def Follows (X : Ctx) (β : Asg) (n0 : Nat) (K : Out → St → Prop) (Q : Exit → Act → World → Prop) : Prop :=
  ∀ o β' st' a' w', K o st' → Sat X β' st' a' w' → (∀ b, b < n0 → β' b = β b) → n0 ≤ st'.b.length → Q o.toExit a' w'

theorem Follows.agree {β β1 : Asg} {K : Out → St → Prop} {Q : Exit → Act → World → Prop} (h : Follows X β n0 K Q) (ha : ∀ b, b < n0 → β1 b = β b) : Follows X β1 n0 K Q :=
  fun o β' st' a' w' hk hs hag hle => h o β' st' a' w' hk hs (fun b hb => (hag b hb).trans (ha b hb)) hle

theorem loopN_sound {c : Code} {cl : St → St} {f : St → (Out → St → Prop) → Prop}
    (hcl : ∀ {β st a w}, Sat X β st a w → n0 ≤ st.b.length → ∃ β', Sat X β' (cl st) a w ∧ (∀ b, b < n0 → β' b = β b) ∧ n0 ≤ (cl st).b.length)
    (hf : ∀ {β st a w} {K : Out → St → Prop} {Q : Exit → Act → World → Prop}, Sat X β st a w → n0 ≤ st.b.length → f st K → Follows X β n0 K Q → c.wp E.P Q a w) :
    ∀ (n : Nat) {β : Asg} {st : St} {a : Act} {w : World} {K : Out → St → Prop} {Q : Exit → Act → World → Prop}, Sat X β st a w → n0 ≤ st.b.length → loopN f cl n st K → Follows X β n0 K Q → Code.rounds E.P c Q n a w := by
  intro n
  induction n with
  | zero => intro β st a w K Q h hn hk hF; exact hk.elim
  | succ n ih =>
    intro β st a w K Q h hn hk hF
    simp only [loopN] at hk
    rw [rounds_succ]
    refine hf h hn hk ?_
    intro o β' st' a' w' hk' hs hag hle
    cases o with
    | normal =>
      simp only at hk'
      obtain ⟨β'', hs'', hag'', hle''⟩ := hcl hs hle
      exact ih hs'' hle'' hk' (hF.agree (fun b hb => (hag'' b hb).trans (hag b hb)))
    | exit id => exact hF (.exit id) β' st' a' w' hk' hs hag hle
    | ret => exact hF .ret β' st' a' w' hk' hs hag hle

theorem loopsOf_length (kp : Nat) : ∀ (c : Code) (kp : Nat), (loopsOf kp c).length = nloops c
  | .seq x y, kp => by simp [loopsOf, nloops, loopsOf_length kp x, loopsOf_length kp y]
  | .cond _ x y, kp => by simp [loopsOf, nloops, loopsOf_length kp x, loopsOf_length kp y]
  | .block _ c, kp => by simp [loopsOf, nloops, loopsOf_length kp c]
  | .loop c, kp => by simp [loopsOf, nloops, loopsOf_length kp c]
  | .skip, kp => rfl
  | .region .., kp => rfl
  | .exit .., kp => rfl
  | .ret, kp => rfl
  | .rangeFunc .., kp => rfl
  | .scope .., kp => rfl
  | .label .., kp => rfl
  | .goto .., kp => rfl
  | .refuse .., kp => rfl

/-- what was told of loops holds -/
def LoopsOk (E : Env) (f : FuncId) (n0 : Nat) (i : Nat) (l : List (Nat × Code)) : Prop :=
  ∀ (j : Nat) p S, l[j]? = some p → E.Λ f (i + j) = some S → LoopOk E f n0 (i + j) p S
theorem LoopsOk.left {f : FuncId} {i : Nat} {l m : List (Nat × Code)} (h : LoopsOk E f n0 i (l ++ m)) : LoopsOk E f n0 i l := fun j p S hj hS => h j p S (by rw [List.getElem?_append_left (List.getElem?_eq_some_iff.1 hj).1]; exact hj) hS
theorem LoopsOk.right {f : FuncId} {i : Nat} {l m : List (Nat × Code)} (h : LoopsOk E f n0 i (l ++ m)) : LoopsOk E f n0 (i + l.length) m := fun j p S hj hS => by
  rw [Nat.add_assoc] at hS ⊢
  exact h (l.length + j) p S (by rw [List.getElem?_append_right (by omega)]; simpa using hj) hS
theorem LoopsOk.tail {f : FuncId} {i : Nat} {q : Nat × Code} {m : List (Nat × Code)} (h : LoopsOk E f n0 i (q :: m)) : LoopsOk E f n0 (i + 1) m := fun j p S hj hS => by
  rw [Nat.add_assoc, Nat.add_comm 1 j] at hS ⊢
  exact h (j + 1) p S (by simpa using hj) hS

theorem exec_sound (hE : EnvOk E) {f : FuncId} : ∀ (c : Code) (kp : Nat) (i : Nat), LoopsOk E f n0 i (loopsOf kp c) → ∀ {β : Asg} {st : St} {a : Act} {w : World} {K : Out → St → Prop} {Q : Exit → Act → World → Prop}, Sat X β st a w → n0 ≤ st.b.length →
    exec E f n0 kp i c st K → Follows X β n0 K Q → c.wp E.P Q a w
  | .skip, kp, i, hL, β, st, a, w, K, Q, h, hn, hk, hF => wp_skip (hF .normal β st a w hk h (fun _ _ => rfl) hn)
  | .region id ops draw, kp, i, hL, β, st, a, w, K, Q, h, hn, hk, hF => by
    cases draw with
    | true =>
      simp only [exec, if_true] at hk
      exact execDraw_sound (n0 := n0) hE h hn hk (fun β' st' a' w' hk' hs' hag hle => hF .normal β' st' a' w' hk' hs' hag hle)
    | false =>
      simp only [exec] at hk
      exact wp_region_list (execOps_sound (n0 := n0) hE h hn (by simpa using hk) (fun β' st' a' w' hk' hs' hag hle => hF .normal β' st' a' w' hk' hs' hag hle))
  | .seq x y, kp, i, hL, β, st, a, w, K, Q, h, hn, hk, hF => by
    simp only [exec] at hk
    simp only [loopsOf] at hL
    refine wp_seq (exec_sound hE x _ i hL.left h hn hk ?_)
    intro o β' st' a' w' hk' hs hag hle
    cases o with
    | normal => exact exec_sound hE y kp _ (by have := hL.right; rw [loopsOf_length kp] at this; exact this) hs hle hk' (hF.agree hag)
    | exit id => exact hF (.exit id) β' st' a' w' hk' hs hag hle
    | ret => exact hF .ret β' st' a' w' hk' hs hag hle
  | .cond c x y, kp, i, hL, β, st, a, w, K, Q, h, hn, hk, hF => by
    simp only [exec] at hk
    simp only [loopsOf] at hL
    split at hk
    · rename_i b hb
      have hc := (ev_rep h hb).bool_inv
      cases b with
      | true => exact wp_cond_true hc (exec_sound hE x kp i hL.left h hn hk hF)
      | false => exact wp_cond_false hc (exec_sound hE y kp _ (by have := hL.right; rw [loopsOf_length kp] at this; exact this) h hn hk hF)
    · exact hk.elim
  | .block id c, kp, i, hL, β, st, a, w, K, Q, h, hn, hk, hF => by
    simp only [exec] at hk
    simp only [loopsOf] at hL
    refine wp_block (exec_sound hE c kp i hL h hn hk ?_)
    intro o β' st' a' w' hk' hs hag hle
    cases o with
    | normal => exact hF .normal β' st' a' w' hk' hs hag hle
    | exit i =>
      simp only at hk'
      show Exit.inBlock id Q (.exit i) a' w'
      unfold Exit.inBlock
      by_cases hi : i = id
      · rw [if_pos hi] at hk'
        simp only [hi, if_true]
        exact hF .normal β' st' a' w' hk' hs hag hle
      · rw [if_neg hi] at hk'
        simp only [hi, if_false]
        exact hF (.exit i) β' st' a' w' hk' hs hag hle
    | ret => exact hF .ret β' st' a' w' hk' hs hag hle
  | .loop c, kp, i, hL, β, st, a, w, K, Q, h, hn, hk, hF => by
    simp only [exec] at hk
    simp only [loopsOf] at hL
    obtain ⟨β', hs', hag', hle'⟩ := gc_sat h (keepOf (Nat.lor kp (gen c))) hn
    split at hk
    · rename_i S hS
      obtain ⟨n, hk⟩ := hL 0 _ S rfl hS _ _ hk
      refine wp_loop_rounds n (loopN_sound (X := X) (n0 := n0) (fun hs hl => gc_sat hs _ hl) (fun hs hl hk hF => exec_sound hE c _ _ hL.tail hs hl hk hF) n hs' hle' hk ?_)
      intro o β2 st2 a2 w2 hk2 hs2 hag2 hle2
      obtain ⟨β3, hs3, hag3, hle3⟩ := gc_sat hs2 (keepO E.P f kp o) hle2
      exact hF o β3 _ a2 w2 hk2 hs3 (fun b hb => (hag3 b hb).trans ((hag2 b hb).trans (hag' b hb))) hle3
    · obtain ⟨n, hk⟩ := hk
      refine wp_loop_rounds n (loopN_sound (X := X) (n0 := n0) (fun hs hl => gc_sat hs _ hl) (fun hs hl hk hF => exec_sound hE c _ _ hL.tail hs hl hk hF) n hs' hle' hk (hF.agree hag'))
  | .exit id, kp, i, hL, β, st, a, w, K, Q, h, hn, hk, hF => wp_exit (hF (.exit id) β st a w hk h (fun _ _ => rfl) hn)
  | .ret, kp, i, hL, β, st, a, w, K, Q, h, hn, hk, hF => wp_ret (hF .ret β st a w hk h (fun _ _ => rfl) hn)
  | .rangeFunc .., kp, i, hL, β, st, a, w, K, Q, h, hn, hk, hF => by simp [exec] at hk
  | .scope .., kp, i, hL, β, st, a, w, K, Q, h, hn, hk, hF => by simp [exec] at hk
  | .label .., kp, i, hL, β, st, a, w, K, Q, h, hn, hk, hF => by simp [exec] at hk
  | .goto .., kp, i, hL, β, st, a, w, K, Q, h, hn, hk, hF => by simp [exec] at hk
  | .refuse .., kp, i, hL, β, st, a, w, K, Q, h, hn, hk, hF => by simp [exec] at hk

/-- One round of a loop, its states as they are kept. -/
def round (E : Env) (f : FuncId) (n0 i : Nat) (p : Nat × Code) (st : St) (k : Out → St → Prop) : Prop :=
  exec E f n0 (Nat.lor p.1 (gen p.2)) (i + 1) p.2 st fun o st' => match o with
    | .normal => k .normal (gc n0 (keepOf (Nat.lor p.1 (gen p.2))) st')
    | o => k o (gc n0 (keepO E.P f p.1 o) st')

/-- A loop, by what holds at its head ('I'), the states there ('S'), and a number that falls ('m'). -/
theorem loop_of {α : Type} {E : Env} {f : FuncId} {n0 i : Nat} {p : Nat × Code} {K : Out → St → Prop} (S : α → St) (I : α → Prop) (m : α → Nat)
    (h : ∀ a, I a → ∀ k : Out → St → Prop, (∀ a', I a' → m a' < m a → k .normal (S a')) → (∀ o st, o ≠ .normal → K o st → k o st) → round E f n0 i p (S a) k) {a : α} (ha : I a) :
    ∃ n, loopN (exec E f n0 (Nat.lor p.1 (gen p.2)) (i + 1) p.2) (gc n0 (keepOf (Nat.lor p.1 (gen p.2)))) n (S a) fun o st' => K o (gc n0 (keepO E.P f p.1 o) st') := by
  have key : ∀ n a, I a → m a < n → loopN (exec E f n0 (Nat.lor p.1 (gen p.2)) (i + 1) p.2) (gc n0 (keepOf (Nat.lor p.1 (gen p.2)))) n (S a) fun o st' => K o (gc n0 (keepO E.P f p.1 o) st') := by
    intro n
    induction n with
    | zero => intro a _ h0; exact absurd h0 (Nat.not_lt_zero _)
    | succ n ih =>
      intro a ha hm
      simp only [loopN]
      have := h a ha (fun o st => match o with
        | .normal => loopN (exec E f n0 (Nat.lor p.1 (gen p.2)) (i + 1) p.2) (gc n0 (keepOf (Nat.lor p.1 (gen p.2)))) n st fun o st' => K o (gc n0 (keepO E.P f p.1 o) st')
        | o => K o st) (fun a' ha' hlt => ih a' ha' (by omega)) (fun o st ho hk => by cases o with
          | normal => exact absurd rfl ho
          | _ => exact hk)
      unfold round at this
      refine cast ?_ this
      congr 1
      funext o st'
      cases o <;> rfl
  exact ⟨m a + 1, key _ a ha (Nat.lt_succ_self _)⟩

theorem br_dec {p : Prop} [Decidable p] {A B : Prop} : br (decide p) A B ↔ (p → A) ∧ (¬ p → B) := by
  by_cases h : p <;> simp [br, h]
/-- a proposition as a Bool -/
noncomputable def bp (p : Prop) : Bool := @decide p (Classical.propDecidable p)
theorem bp_iff {p : Prop} : bp p = true ↔ p := by simp [bp]
theorem bp_true {p : Prop} (h : p) : bp p = true := bp_iff.2 h
theorem bp_false {p : Prop} (h : ¬ p) : bp p = false := by simp [bp, h]
theorem br_bp {p : Prop} {A B : Prop} : br (bp p) A B ↔ (p → A) ∧ (¬ p → B) := by
  by_cases h : p <;> simp [br, bp, h]
theorem br_bool {b : Bool} {A B : Prop} : br b A B ↔ (b = true → A) ∧ (b = false → B) := by
  cases b <;> simp [br]

/-! what is read off a state -/
noncomputable def St.i (st : St) (n : Nat) : Int := match look st.t n with
  | some (.int _ x) => x
  | _ => 0
noncomputable def St.a (st : St) (n : Nat) : List Int := match look st.b n with
  | some (.ints _ _ xs) => xs
  | _ => []
noncomputable def St.c (st : St) (b j : Nat) : Int := match look st.b b with
  | some (.var _ cs) => match nthR cs j with
    | some (.int _ x) => x
    | _ => 0
  | _ => 0
/-! what is read off arguments: a number in a struct; a slice's content -/
noncomputable def argI (args : List IV) (i j : Nat) : Int := match nthR args i with
  | some (.agg cs) => match nthR cs j with
    | some (.int _ x) => x
    | _ => 0
  | some (.int _ x) => x
  | _ => 0
noncomputable def argX (b : List (Option Blk)) (n : Nat) : List (List Int) := match look b n with
  | some (.row _ _ xs) => xs
  | some (.ro _ xs) => xs
  | _ => []
noncomputable def St.x (st : St) (n : Nat) : List (List Int) := match look st.b n with
  | some (.row _ _ xs) => xs
  | some (.ro _ xs) => xs
  | _ => []

end
end Go.Vs
