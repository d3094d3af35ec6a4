/- Vs, part M: calls, by a contract and by entering. -/
import Derived.Test.YtbgleobdhjghlaaVsL
set_option linter.unusedVariables false
set_option linter.unusedSimpArgs false
namespace Go.Vs
open Go.RowKit
section
variable {P : Program} {X : Ctx} {β : Asg} {st : St} {a : Act} {w : World} {Q : Exit → Act → World → Prop} {K : St → Prop} {Kw : Act → World → Prop} {o : Oper} {wr : Bool}

/-- two assignments, one behind the other -/
def joinA (β : Asg) (n : Nat) (β' : Asg) : Asg := fun b => if b < n then β b else β' (b - n)
theorem joinA_lo {β β' : Asg} {n b : Nat} (h : b < n) : joinA β n β' b = β b := by simp [joinA, h]
theorem joinA_hi {β β' : Asg} {n j : Nat} : joinA β n β' (n + j) = β' j := by
  unfold joinA; rw [if_neg (by omega)]; congr 1; omega

theorem Uses.congr {β β' : Asg} {b b' id : Nat} (h : β b = β' b') (hu : Uses β b id) : Uses β' b' id := by unfold Uses at *; rwa [h] at hu

theorem ownsRow_base {w : World} {B B' : Nat} {e : TypeId} {size : Nat} {v : Value} {n : Nat} {xs : List Value} (h : w.ownsRow B e size v n xs) (hB : B' ≤ B) : w.ownsRow B' e size v n xs := by
  refine ⟨h.1, ?_⟩
  rcases h.2 with h1 | ⟨g, cap, cur, h1, h2, h3⟩
  · exact .inl h1
  · exact .inr ⟨g, cap, cur, h1, Nat.le_trans hB h2, h3⟩

/-- What a callee has made comes into the caller's memory. -/
theorem merge {X' : Ctx} {β' : Asg} {w' : World} {bs : List Blk} {b1 : List (Option Blk)} (h : Sat X β { st with b := b1 } a w') (hlen : b1.length = st.b.length) (hX0 : X'.w0 = w) (hXB : X'.B = w.heap.size) (hBw : X.B ≤ w.heap.size)
    (hold : ∀ b k id, look b1 b = some k → UsesK β b k id → id < w.heap.size)
    (hA : ∀ id, X'.A0 id → bs.all Blk.own = false → (X.A0 id ∨ X.B ≤ id) ∧ ∀ b k, look b1 b = some k → k.own = true → ¬ UsesK β b k id)
    (hB : SatB X' β' (bs.map some) w') (hrow0 : bs.all Blk.isSlice = true) (hfr0 : ∀ id, X.Fr id → id < w.heap.size) (hFo : ∀ id, X'.A0 id → ¬ X.Fo id) :
    Sat X (joinA β st.b.length β') { t := st.t, b := b1 ++ bs.map some } a w' := by
  have hrow : ∀ k ∈ bs, (∃ e ks xs, k = .row e ks xs) ∨ ∃ ks xs, k = .ro ks xs := by
    intro k hk
    have := (List.all_eq_true.1 hrow0) k hk
    cases k with
    | row e ks xs => exact .inl ⟨_, _, _, rfl⟩
    | ro ks xs => exact .inr ⟨_, _, rfl⟩
    | _ => simp [Blk.isSlice] at this
  have hβn : ∀ b, st.b.length ≤ b → β b = none := fun b hb => h.bound b (by simpa [hlen] using hb)
  have hm : ∀ b r, β b = some r → joinA β st.b.length β' b = some r := by
    intro b r hb
    rcases Nat.lt_or_ge b st.b.length with h1 | h1
    · rw [joinA_lo h1]; exact hb
    · rw [hβn b h1] at hb; cases hb
  have lk : ∀ b k, look (b1 ++ bs.map some) b = some k → (b < st.b.length ∧ look b1 b = some k) ∨ ∃ j, b = st.b.length + j ∧ look (bs.map some) j = some k := by
    intro b k hb
    rw [look_app, hlen] at hb
    split at hb
    · rename_i h1; exact .inl ⟨h1, hb⟩
    · rename_i h1; exact .inr ⟨b - st.b.length, by omega, hb⟩
  have mem : ∀ {j k}, look (bs.map some) j = some k → k ∈ bs := by
    intro j k hj
    rw [look_some] at hj
    simp only [List.getElem?_map, Option.map_eq_some_iff] at hj
    obtain ⟨x, hx, hxk⟩ := hj
    cases hxk
    exact List.mem_of_getElem? hx
  refine ⟨h.len, fun i v hv => ?_, ?_, ?_, ?_, h.below, ⟨h.frm.le, h.frm.fr, h.frm.fo, fun c k id hc hu => ?_⟩, h.defers⟩
  · obtain ⟨u, hu, hr⟩ := h.tmps i v hv
    exact ⟨u, hu, hr.mono hm⟩
  · intro b k hb
    rcases lk b k hb with ⟨h1, h2⟩ | ⟨j, rfl, h2⟩
    · exact (h.blks b k h2).mono hm
    · have hk := hB.blks j k h2
      rcases hrow k (mem h2) with ⟨e, ks, xs, rfl⟩ | ⟨ks, xs, rfl⟩
      · obtain ⟨A, n, c, k1, k2, k3, k4⟩ := hk
        exact ⟨A, n, c, by rw [joinA_hi]; exact k1, ownsRow_base k2 (by omega), k3, k4⟩
      · obtain ⟨A, c, k1, k2, k3, k4, k5⟩ := hk
        refine ⟨A, c, by rw [joinA_hi]; exact k1, k2, k3, k4, fun hne ad hA' => ?_⟩
        rcases k5 hne ad hA' with h5 | h5
        · refine (hA ad.block h5 ?_).1
          rw [List.all_eq_false]
          exact ⟨_, mem h2, by simp [Blk.own]⟩
        · exact .inr (by omega)
  · intro b c k k' id hb hc ho hu1 hu2
    rcases lk b k hb with ⟨h1, h2⟩ | ⟨j, rfl, h2⟩ <;> rcases lk c k' hc with ⟨h1', h2'⟩ | ⟨j', rfl, h2'⟩
    · exact h.disj b c k k' id h2 h2' ho ⟨hu1.1.congr (joinA_lo h1), hu1.2⟩ ⟨hu2.1.congr (joinA_lo h1'), hu2.2⟩
    · exfalso
      have hu1' : UsesK β b k id := ⟨hu1.1.congr (joinA_lo h1), hu1.2⟩
      have hlt := hold b k id h2 hu1'
      have hu2' : UsesK β' j' k' id := ⟨hu2.1.congr joinA_hi, hu2.2⟩
      rcases hrow k' (mem h2') with ⟨e, ks, xs, rfl⟩ | ⟨ks, xs, rfl⟩
      · obtain ⟨A, n, c0, k1, k2, k3, k4⟩ := hB.blks j' _ h2'
        rcases hu2'.1 with hx | ⟨ad, n', c', hx, rfl⟩
        · rw [k1] at hx; cases hx
        · rw [k1] at hx
          cases hx
          have := (k2.lt ad.block rfl).1
          omega
      · obtain ⟨A, c0, k1, k2, k3, k4, k5⟩ := hB.blks j' _ h2'
        rcases hu2'.1 with hx | ⟨ad, n', c', hx, rfl⟩
        · rw [k1] at hx; cases hx
        · rw [k1] at hx
          cases hx
          have hne : xs ≠ [] := by
            rcases hu2'.2 with h0 | ⟨ks', x, xs', e⟩
            · cases h0
            · cases e; simp
          rcases k5 hne ad rfl with h5 | h5
          · refine (hA ad.block h5 ?_).2 b k h2 ho hu1'
            rw [List.all_eq_false]
            exact ⟨_, mem h2', by simp [Blk.own]⟩
          · omega
    · exfalso
      have hu2' : UsesK β c k' id := ⟨hu2.1.congr (joinA_lo h1'), hu2.2⟩
      have hlt := hold c k' id h2' hu2'
      have hu1' : UsesK β' j k id := ⟨hu1.1.congr joinA_hi, hu1.2⟩
      rcases hrow k (mem h2) with ⟨e, ks, xs, rfl⟩ | ⟨ks, xs, rfl⟩
      · obtain ⟨A, n, c0, k1, k2, k3, k4⟩ := hB.blks j _ h2
        rcases hu1'.1 with hx | ⟨ad, n', c', hx, rfl⟩
        · rw [k1] at hx; cases hx
        · rw [k1] at hx
          cases hx
          have := (k2.lt ad.block rfl).1
          omega
      · cases ho
    · have := hB.disj j j' k k' id h2 h2' ho ⟨hu1.1.congr joinA_hi, hu1.2⟩ ⟨hu2.1.congr joinA_hi, hu2.2⟩
      omega
  · intro b hb
    simp only [List.length_append, List.length_map, hlen] at hb
    unfold joinA
    rw [if_neg (by omega)]
    exact hB.bound _ (by simp; omega)
  · rcases lk c k hc with ⟨h1, h2⟩ | ⟨j, rfl, h2⟩
    · exact h.frm.apart c k id h2 ⟨hu.1.congr (joinA_lo h1), hu.2⟩
    · have hu1' : UsesK β' j k id := ⟨hu.1.congr joinA_hi, hu.2⟩
      have hge : w.heap.size ≤ id → ¬ X.Fo id ∧ (k.own = true → ¬ X.Fr id) := by
        intro hid
        have h1 : ¬ X.Fr id := fun hf => by have := hfr0 id hf; omega
        exact ⟨fun hf => h1 (h.frm.fo id hf), fun _ => h1⟩
      rcases hrow k (mem h2) with ⟨e, ks, xs, rfl⟩ | ⟨ks, xs, rfl⟩
      · obtain ⟨A, n, c0, k1, k2, k3, k4⟩ := hB.blks j _ h2
        rcases hu1'.1 with hx | ⟨ad, n', c', hx, rfl⟩
        · rw [k1] at hx; cases hx
        · rw [k1] at hx
          cases hx
          have := (k2.lt ad.block rfl).1
          exact hge (by omega)
      · obtain ⟨A, c0, k1, k2, k3, k4, k5⟩ := hB.blks j _ h2
        rcases hu1'.1 with hx | ⟨ad, n', c', hx, rfl⟩
        · rw [k1] at hx; cases hx
        · rw [k1] at hx
          cases hx
          have hne : xs ≠ [] := by
            rcases hu1'.2 with h0 | ⟨ks', x, xs', e⟩
            · cases h0
            · cases e; simp
          rcases k5 hne ad rfl with h5 | h5
          · exact ⟨hFo _ h5, fun h0 => by cases h0⟩
          · exact hge (by omega)

theorem afterCall_length (st : St) (used : List (Option Nat)) (r : IV × List Blk) : st.b.length ≤ (afterCall st used r).length := by
  unfold afterCall
  split <;> simp [freeze_length]

theorem afterCall_look (st : St) (used : List (Option Nat)) (r : IV × List Blk) (c : Nat) (k : Blk) (h : look st.b c = some k) (hk : k.isRow = false) : look (afterCall st used r) c = some k := by
  unfold afterCall
  split
  · rw [look_app, if_pos (look_lt h)]; exact h
  · rw [look_app, if_pos (by rw [freeze_length]; exact look_lt h)]; exact freeze_nonrow _ _ c k h hk

theorem freeze_look : ∀ (l : List (Option Nat)) (b : List (Option Blk)) (c : Nat) (k : Blk), look (Go.Vs.freeze b l) c = some k → look b c = some k ∨ (∃ e ks xs, look b c = some (.row e ks xs) ∧ k = .ro ks xs ∧ some c ∈ l) := by
  intro l
  induction l with
  | nil => intro b c k h; exact .inl h
  | cons x l ih =>
    intro b c k h
    cases x with
    | none => rcases ih b c k h with h1 | ⟨e, ks, xs, h1, h2, h3⟩; exact .inl h1; exact .inr ⟨e, ks, xs, h1, h2, List.mem_cons_of_mem _ h3⟩
    | some i =>
      simp only [Go.Vs.freeze] at h
      split at h
      · rename_i e ks xs hb
        rcases ih _ c k h with h1 | ⟨e', ks', xs', h1, h2, h3⟩
        · rw [look_set] at h1
          split at h1
          · rename_i hic
            subst hic
            rw [if_pos (look_lt hb)] at h1
            cases h1
            exact .inr ⟨e, ks, xs, hb, rfl, List.mem_cons_self ..⟩
          · exact .inl h1
        · rw [look_set] at h1
          split at h1
          · rename_i hic
            subst hic
            rw [if_pos (look_lt hb)] at h1
            cases h1
          · exact .inr ⟨e', ks', xs', h1, h2, List.mem_cons_of_mem _ h3⟩
      · rcases ih b c k h with h1 | ⟨e, ks, xs, h1, h2, h3⟩; exact .inl h1; exact .inr ⟨e, ks, xs, h1, h2, List.mem_cons_of_mem _ h3⟩
theorem freeze_done : ∀ (l : List (Option Nat)) (b : List (Option Blk)) (c : Nat) (k : Blk), some c ∈ l → look (Go.Vs.freeze b l) c = some k → ¬ k.isRow = true := by
  intro l
  induction l with
  | nil => intro b c k h; simp at h
  | cons x l ih =>
    intro b c k hc h
    by_cases hcl : some c ∈ l
    · cases x with
      | none => exact ih b c k hcl h
      | some i =>
        simp only [Go.Vs.freeze] at h
        split at h
        · exact ih _ c k hcl h
        · exact ih _ c k hcl h
    · have hx : x = some c := by
        rcases List.mem_cons.1 hc with h1 | h1
        · exact h1.symm
        · exact absurd h1 hcl
      subst hx
      simp only [Go.Vs.freeze] at h
      split at h
      · rename_i e ks xs hb
        rcases freeze_look l _ c k h with h1 | ⟨e', ks', xs', h1, h2, h3⟩
        · rw [look_set, if_pos rfl, if_pos (look_lt hb)] at h1
          cases h1; simp [Blk.isRow]
        · exact absurd h3 hcl
      · rename_i hnot
        rcases freeze_look l _ c k h with h1 | ⟨e', ks', xs', h1, h2, h3⟩
        · intro hk
          cases k with
          | row e ks xs => exact hnot e ks xs h1
          | _ => cases hk
        · exact absurd h3 hcl

theorem freeze_rows_eq {t : List (Option IV)} : ∀ (l : List (Option Nat)) (b : List (Option Blk)) (i : Nat), rows { t, b := Go.Vs.freeze b l } i = rows { t, b } i := by
  intro l
  induction l with
  | nil => intro b i; rfl
  | cons x l ih =>
    intro b i
    cases x with
    | none => exact ih b i
    | some j =>
      simp only [Go.Vs.freeze]
      split
      · rename_i e ks xs hb
        rw [ih]
        unfold rows
        simp only
        rw [look_set]
        by_cases hji : j = i
        · subst hji
          rw [if_pos rfl, if_pos (look_lt hb), hb]
        · rw [if_neg hji]
      · exact ih b i

theorem call_ctr {sp : Spec} {g : FuncId} (h : Sat X β st a w) (hC : Contract P g sp) (hE : enters P g = true) {f : Operand} {args : Array Operand} {tys : Array TypeId} (hop : o.op = .call { callee := .value f, args := args, argTypes := tys })
    (hf : ev st f = some (.fn g [])) {vs as : List IV} {acc : List (Blk × Option Nat)} (hvs : evs st args.toList = some vs) (hpk : packVs P st tys.toList vs [] = some (as, acc)) (hpre : sp.pre as (acc.map (·.1)))
    (hk : K (St.setT { t := st.t, b := afterCall st (acc.map (·.2)) (sp.F as (acc.map (·.1))) } o.dst (ren (fun j => some (st.b.length + j)) (sp.F as (acc.map (·.1))).1))) (hA : After X β st w o wr K Kw) : o.wp P a w Kw Q := by
  obtain ⟨cs, ef, hcl, _⟩ := (ev_rep h hf).fn_inv
  have hcs : cs = #[] := Array.eq_empty_of_size_eq_zero (by simpa using hcl.symm)
  subst hcs
  obtain ⟨l1, l2⟩ := evs_spec hvs
  obtain ⟨p1, p2, p3, p4⟩ := packVs_sound (β := β) (us := args.toList.map a.eval) (by simpa using l1.symm) (fun i c v hc hv => by
    simp only [List.getElem?_map, Option.map_eq_some_iff] at hv
    obtain ⟨x, hx, rfl⟩ := hv
    exact ev_rep h (l2 i x c hx hc)) hpk (fun p hp => by simp at hp)
  obtain ⟨hcs, hro⟩ := callee_sat (X := X) h.blks p4
  have hcall := hC as (acc.map (·.1)) (calleeCtx st β w (acc.map (·.2))) (asgOf β acc) w (args.map a.eval) rfl rfl hcs hro (by simpa using p2) (fun i c v hc hv => p3 i c v hc (by simpa using hv)) hpre
  refine call_enter hop ef hE (by rw [Array.append_empty]; exact hcall) ?_
  rintro e w' ⟨u, β', rfl, hkp, hrep, hB, hrow⟩
  refine ⟨u, rfl, ?_⟩
  have h' := h.keeps hkp
  have hold0 : ∀ b k id, look st.b b = some k → UsesK β b k id → id < w.heap.size := fun b k id hb hu => uses_lt (h.blks b k hb) hu
  have hA0 : ∀ id, (calleeCtx st β w (acc.map (·.2))).A0 id → ¬ X.Fo id := by
    rintro id ⟨i, ks, x, xs, hi, hr, hu⟩
    unfold rows at hr
    split at hr
    · rename_i e ks0 xs0 hk1
      exact (h.frm.apart i _ id hk1 ⟨hu, .inl rfl⟩).1
    · rename_i ks0 xs0 hk1
      cases hr
      exact (h.frm.apart i _ id hk1 ⟨hu, .inr ⟨ks, x, xs, rfl⟩⟩).1
    · cases hr
  have hsat : Sat X (joinA β st.b.length β') { t := st.t, b := afterCall st (acc.map (·.2)) (sp.F as (acc.map (·.1))) } a w' := by
    unfold afterCall
    split
    · rename_i hall
      exact merge (st := st) (b1 := st.b) (X' := calleeCtx st β w (acc.map (·.2))) h' rfl rfl rfl h.le hold0 (fun id _ hf0 => by rw [hall] at hf0; cases hf0) hB hrow (fun id hf => (h.frm.fr id hf).1) hA0
    · rename_i hall
      have hfz := h'.freeze (acc.map (·.2))
      have hold1 : ∀ b k id, look (Go.Vs.freeze st.b (acc.map (·.2))) b = some k → UsesK β b k id → id < w.heap.size := by
        intro b k id hb hu
        rcases freeze_look _ _ b k hb with h1 | ⟨e, ks, xs, h1, _, _⟩
        · exact hold0 b k id h1 hu
        · exact hold0 b _ id h1 ⟨hu.1, .inl rfl⟩
      refine merge (st := st) (X' := calleeCtx st β w (acc.map (·.2))) hfz (freeze_length _ _) rfl rfl h.le hold1 ?_ hB hrow (fun id hf => (h.frm.fr id hf).1) hA0
      rintro id ⟨i, ks, x, xs, hi, hr, hu⟩ _
      have hr' : rows { st with b := Go.Vs.freeze st.b (acc.map (·.2)) } i = some (ks, x :: xs) := by rw [freeze_rows_eq]; exact hr
      have hro1 : look (Go.Vs.freeze st.b (acc.map (·.2))) i = some (.ro ks (x :: xs)) := by
        unfold rows at hr'
        split at hr'
        · rename_i e ks0 xs0 hk1
          exact absurd rfl (freeze_done _ _ i _ hi hk1)
        · rename_i ks0 xs0 hk1
          cases hr'
          exact hk1
        · cases hr'
      obtain ⟨A, c, k1, k2, k3, k4, k5⟩ := hfz.blks i _ hro1
      refine ⟨?_, fun b k hb hown hub => ?_⟩
      · rcases hu with hu | ⟨ad, n, c', hu, rfl⟩
        · rw [k1] at hu; cases hu
        · rw [k1] at hu
          cases hu
          exact k5 (by simp) ad rfl
      · have := hfz.disj b i k _ id hb hro1 hown hub ⟨hu, .inr ⟨ks, x, xs, rfl⟩⟩
        subst this
        rw [hro1] at hb
        cases hb
        cases hown
  have hm : ∀ b r, β b = some r → joinA β st.b.length β' b = some r := by
    intro b r hb
    rcases Nat.lt_or_ge b st.b.length with h1 | h1
    · rw [joinA_lo h1]; exact hb
    · rw [h.bound b h1] at hb; cases hb
  have hv : Rep (joinA β st.b.length β') (ren (fun j => some (st.b.length + j)) (sp.F as (acc.map (·.1))).1) u :=
    ren_rep' (fun b b' hb r hr => by cases hb; rw [joinA_hi]; exact hr) hrep
  exact hA _ _ _ _ hk (hsat.setT hv o.dst) (fun b hb => joinA_lo hb) (by rw [setT_b]; exact afterCall_length _ _ _) (fun _ => Rel.setT ⟨fun c0 k0 hc0 hk0 => afterCall_look _ _ _ c0 k0 hc0 hk0, .inl hkp⟩ _ _)

end
end Go.Vs
