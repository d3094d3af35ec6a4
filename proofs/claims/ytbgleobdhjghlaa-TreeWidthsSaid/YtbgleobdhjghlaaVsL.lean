/- Vs, part L: calls, by a contract. -/
import Derived.Test.YtbgleobdhjghlaaVsK
set_option linter.unusedVariables false
set_option linter.unusedSimpArgs false
namespace Go.Vs
open Go.RowKit

/-- What a contract says: with arguments that stand for these ideal values, whose slices are only read, the call comes back; what was there is as it was; the answer stands for the ideal answer. -/
def Contract (P : Program) (f : FuncId) (sp : Spec) : Prop :=
  ∀ (as : List IV) (bs : List Blk) (X : Ctx) (β : Asg) (w : World) (vs : Array Value), X.w0 = w → X.B = w.heap.size → SatB X β (bs.map some) w → (∀ k ∈ bs, k.own = false) →
    as.length = vs.size → (∀ (i : Nat) c v, as[i]? = some c → vs[i]? = some v → Rep β c v) → sp.pre as bs →
    Calls P f vs w fun e w' => ∃ u β', e = .returned u ∧ Keeps w w' ∧ Rep β' (sp.F as bs).1 u ∧ SatB X β' ((sp.F as bs).2.map some) w' ∧ (sp.F as bs).2.all Blk.isSlice = true

section
variable {P : Program} {X : Ctx} {β : Asg} {st : St} {a : Act} {w : World} {Q : Exit → Act → World → Prop} {K : St → Prop} {Kw : Act → World → Prop} {o : Oper}

theorem enters_run {g : FuncId} (h : enters P g = true) (args : Array Value) (w : World) : (callFunc g args).run P w = .ok (.enter g args) w := by
  unfold enters at h
  split at h
  · rename_i fn hfn
    simp only [Bool.and_eq_true, Bool.not_eq_true', Option.isSome_iff_ne_none] at h
    have h1 : ¬ fn.name = "runtime.NumGoroutine" := by simpa using h.1
    unfold callFunc
    simp [Sem.run_bind, hfn, h1, Option.isNone_iff_eq_none, h.2]
  · cases h

theorem call_enter {f : Operand} {args : Array Operand} {tys : Array TypeId} {g : FuncId} {caps : Array Value} (hop : o.op = .call { callee := .value f, args := args, argTypes := tys }) (hf : a.eval f = .func (.func g) #[] caps)
    (hE : enters P g = true) {R : Ending → World → Prop} (h : Calls P g (args.map a.eval ++ caps) w R) (hR : ∀ e w', R e w' → ∃ u, e = .returned u ∧ Kw (a.put o.dst u) w') : o.wp P a w Kw Q := by
  unfold Oper.wp
  have hrun : (execOp a.eval o).run P w = .ok (.enter g (args.map a.eval ++ caps)) w := by
    simp only [execOp, hop]
    simp [resolve, hf, Deferred.ofValue, invoke, enters_run hE]
  rw [hrun]
  refine h.mono fun e w' he => ?_
  obtain ⟨u, rfl, hk⟩ := hR e w' he
  exact hk

/-- the assignment of what is handed over -/
def asgOf (β : Asg) (acc : List (Blk × Option Nat)) : Asg := fun j => match acc[j]? with
  | some (_, some i) => β i
  | some (_, none) => some (.slc (.slice none 0 0))
  | none => none
/-- what is handed over is read off the memory -/
def accOk (st : St) (acc : List (Blk × Option Nat)) : Prop := ∀ p ∈ acc, (∃ ks xs i, p = (.ro ks xs, some i) ∧ rows st i = some (ks, xs)) ∨ ∃ ks, p = (.ro ks [], none) ∧ 0 < ks.length

theorem asgOf_mono {acc acc' : List (Blk × Option Nat)} (h : acc <+: acc') : ∀ b r, asgOf β acc b = some r → asgOf β acc' b = some r := by
  obtain ⟨l, rfl⟩ := h
  intro b r hb
  unfold asgOf at *
  cases hq : acc[b]? with
  | none => rw [hq] at hb; cases hb
  | some p =>
    have hlt := (List.getElem?_eq_some_iff.1 hq).1
    rw [List.getElem?_append_left hlt, hq]
    rw [hq] at hb
    exact hb

theorem packC_sound {t : TypeId} {c c' : IV} {acc acc' : List (Blk × Option Nat)} {u : Value} (hr : Rep β c u) (h : packC P st t c acc = some (c', acc')) (ho : accOk st acc) :
    acc <+: acc' ∧ Rep (asgOf β acc') c' u ∧ accOk st acc' := by
  unfold packC at h
  split at h
  · cases h; exact ⟨List.prefix_refl _, by rw [hr.int_inv.1]; exact .int hr.int_inv.2, ho⟩
  · cases h; exact ⟨List.prefix_refl _, by rw [hr.bool_inv]; exact .bool, ho⟩
  · rename_i b
    split at h
    · rename_i ks xs hrows
      cases h
      refine ⟨⟨_, rfl⟩, ?_, ?_⟩
      · obtain ⟨A, n, cp, rfl, hβ⟩ := hr.sl_inv
        refine .sl ?_
        simp [asgOf, hβ]
      · intro p hp
        rcases List.mem_append.1 hp with hp | hp
        · exact ho p hp
        · simp at hp; subst hp; exact .inl ⟨ks, xs, b, rfl, hrows⟩
    · cases h
  · split at h
    · rename_i ks hk
      cases h
      have hpos : 0 < ks.length := by
        cases he : elemT P t with
        | none => rw [he] at hk; simp at hk
        | some e =>
          rw [he] at hk
          simp at hk
          obtain ⟨_, _, _, _, _, _, hp, _⟩ := kinds_spec hk
          exact hp
      refine ⟨⟨_, rfl⟩, ?_, ?_⟩
      · have := hr.nils_inv
        subst this
        refine .sl ?_
        simp [asgOf]
      · intro p hp
        rcases List.mem_append.1 hp with hp | hp
        · exact ho p hp
        · simp at hp; subst hp; exact .inr ⟨ks, rfl, hpos⟩
    · cases h
  · cases h

theorem packL_sound : ∀ {cs : List IV} {ts : List TypeId} {cs' : List IV} {acc acc' : List (Blk × Option Nat)} {us : List Value}, cs.length = us.length → (∀ (i : Nat) c v, cs[i]? = some c → us[i]? = some v → Rep β c v) →
    packL P st ts cs acc = some (cs', acc') → accOk st acc →
    acc <+: acc' ∧ cs'.length = us.length ∧ (∀ (i : Nat) c v, cs'[i]? = some c → us[i]? = some v → Rep (asgOf β acc') c v) ∧ accOk st acc' := by
  intro cs
  induction cs with
  | nil =>
    intro ts cs' acc acc' us hl hr h ho
    cases ts <;> simp [packL] at h <;> obtain ⟨rfl, rfl⟩ := h <;> exact ⟨List.prefix_refl _, hl, by simp, ho⟩
  | cons c cs ih =>
    intro ts cs' acc acc' us hl hr h ho
    cases ts with
    | nil => simp [packL] at h
    | cons t ts =>
      cases us with
      | nil => simp at hl
      | cons u us =>
        simp only [packL] at h
        split at h
        · rename_i c1 acc1 h1
          split at h
          · rename_i cs1 acc2 h2
            cases h
            obtain ⟨p1, r1, o1⟩ := packC_sound (hr 0 c u rfl rfl) h1 ho
            obtain ⟨p2, l2, r2, o2⟩ := ih (by simpa using hl) (fun i c v hc hv => hr (i + 1) c v (by simpa using hc) (by simpa using hv)) h2 o1
            refine ⟨p1.trans p2, by simp [l2], ?_, o2⟩
            intro i c' v hc hv
            cases i with
            | zero => simp at hc hv; subst hc; subst hv; exact r1.mono (asgOf_mono p2)
            | succ i => simp at hc hv; exact r2 i c' v hc hv
          · cases h
        · cases h

theorem packV_sound {t : TypeId} {c c' : IV} {acc acc' : List (Blk × Option Nat)} {u : Value} (hr : Rep β c u) (h : packV P st t c acc = some (c', acc')) (ho : accOk st acc) :
    acc <+: acc' ∧ Rep (asgOf β acc') c' u ∧ accOk st acc' := by
  unfold packV at h
  split at h
  · rename_i cs
    split at h
    · rename_i cs1 acc1 h1
      cases h
      obtain ⟨xs, rfl, hx⟩ := hr.agg_inv
      obtain ⟨p1, l1, r1, o1⟩ := packL_sound (us := xs.toList) (by simpa using hx.1) (fun i c v hc hv => hx.2.2 i c v hc (by simpa using hv)) h1 ho
      exact ⟨p1, .agg (by simpa using l1) hx.2.1 (fun i c v hc hv => r1 i c v hc (by simpa using hv)), o1⟩
    · cases h
  · exact packC_sound hr h ho

theorem packVs_sound : ∀ {cs : List IV} {ts : List TypeId} {cs' : List IV} {acc acc' : List (Blk × Option Nat)} {us : List Value}, cs.length = us.length → (∀ (i : Nat) c v, cs[i]? = some c → us[i]? = some v → Rep β c v) →
    packVs P st ts cs acc = some (cs', acc') → accOk st acc →
    acc <+: acc' ∧ cs'.length = us.length ∧ (∀ (i : Nat) c v, cs'[i]? = some c → us[i]? = some v → Rep (asgOf β acc') c v) ∧ accOk st acc' := by
  intro cs
  induction cs with
  | nil =>
    intro ts cs' acc acc' us hl hr h ho
    cases ts <;> simp [packVs] at h <;> obtain ⟨rfl, rfl⟩ := h <;> exact ⟨List.prefix_refl _, hl, by simp, ho⟩
  | cons c cs ih =>
    intro ts cs' acc acc' us hl hr h ho
    cases ts with
    | nil => simp [packVs] at h
    | cons t ts =>
      cases us with
      | nil => simp at hl
      | cons u us =>
        simp only [packVs] at h
        split at h
        · rename_i c1 acc1 h1
          split at h
          · rename_i cs1 acc2 h2
            cases h
            obtain ⟨p1, r1, o1⟩ := packV_sound (hr 0 c u rfl rfl) h1 ho
            obtain ⟨p2, l2, r2, o2⟩ := ih (by simpa using hl) (fun i c v hc hv => hr (i + 1) c v (by simpa using hc) (by simpa using hv)) h2 o1
            refine ⟨p1.trans p2, by simp [l2], ?_, o2⟩
            intro i c' v hc hv
            cases i with
            | zero => simp at hc hv; subst hc; subst hv; exact r1.mono (asgOf_mono p2)
            | succ i => simp at hc hv; exact r2 i c' v hc hv
          · cases h
        · cases h

/-- the callee's own view of the memory -/
def calleeCtx (st : St) (β : Asg) (w : World) (used : List (Option Nat)) : Ctx := { w0 := w, B := w.heap.size, A0 := fun id => ∃ i ks x xs, some i ∈ used ∧ rows st i = some (ks, x :: xs) ∧ Uses β i id }

theorem callee_sat {acc : List (Blk × Option Nat)} (hb : ∀ b k, look st.b b = some k → BOk X β w b k) (ho : accOk st acc) :
    SatB (calleeCtx st β w (acc.map (·.2))) (asgOf β acc) ((acc.map (·.1)).map some) w ∧ ∀ k ∈ acc.map (·.1), k.own = false := by
  have hro : ∀ k ∈ acc.map (·.1), k.own = false := by
    intro k hk
    obtain ⟨p, hp, rfl⟩ := List.mem_map.1 hk
    rcases ho p hp with ⟨ks, xs, i, rfl, _⟩ | ⟨ks, rfl, _⟩ <;> rfl
  have lk : ∀ j k, look ((acc.map (·.1)).map some) j = some k → ∃ p, acc[j]? = some p ∧ p.1 = k := by
    intro j k hj
    rw [look_some] at hj
    simp only [List.getElem?_map, Option.map_eq_some_iff] at hj
    obtain ⟨x, ⟨p, hp, rfl⟩, hx⟩ := hj
    cases hx
    exact ⟨p, hp, rfl⟩
  refine ⟨⟨rfl, fun i v hv => by simp [look_nil, look_zero, look_succ] at hv, ?_, ?_, ?_, Below.refl _ _, ⟨Nat.le_refl _, fun _ hf => hf.elim, fun _ hf => hf.elim, fun _ _ _ _ _ => ⟨fun hf => hf, fun _ hf => hf⟩⟩, rfl⟩, hro⟩
  · intro j k hj
    obtain ⟨p, hp, rfl⟩ := lk j k hj
    have hmem : p ∈ acc := List.mem_of_getElem? hp
    rcases ho p hmem with ⟨ks, xs, i, rfl, hr⟩ | ⟨ks, rfl, hpos⟩
    · obtain ⟨A, n, c, h1, h2, h3, h4, h5, h6, h7, h8⟩ := rows_at hb hr
      subst h2
      refine ⟨A, c, by simp [asgOf, hp, h1], h8, h5, h6, fun hne ad hA => .inl ?_⟩
      obtain ⟨x, xs', rfl⟩ : ∃ x xs', xs = x :: xs' := by
        cases xs with
        | nil => exact absurd rfl hne
        | cons x xs' => exact ⟨x, xs', rfl⟩
      exact ⟨i, ks, x, xs', List.mem_map.2 ⟨_, hmem, rfl⟩, hr, .inr ⟨ad, _, c, by rw [h1, hA], rfl⟩⟩
    · exact ⟨none, 0, by simp [asgOf, hp], ⟨by simp, Nat.zero_le _, fun h0 => by simp at h0⟩, fun x hx => by simp at hx, hpos, fun h0 => absurd rfl h0⟩
  · intro b c k k' id hb1 _ hown
    obtain ⟨p, hp, rfl⟩ := lk b k hb1
    have := hro p.1 (List.mem_map.2 ⟨p, List.mem_of_getElem? hp, rfl⟩)
    rw [this] at hown; cases hown
  · intro b hb1
    simp only [List.length_map] at hb1
    simp [asgOf, List.getElem?_eq_none hb1]

mutual
theorem ren_rep {β β' : Asg} {ρ : Nat → Option Nat} (hρ : ∀ b b', ρ b = some b' → ∀ r, β b = some r → β' b' = some r) : ∀ {v : IV} {u : Value}, Rep β v u → (∀ vs, v = .tup vs → True) → (u.oneCell' = true ∨ (∃ cs, v = .agg cs) ∨ ∃ vs, v = .tup vs) → Rep β' (ren ρ v) u
  | .int k n, u, h, _, _ => by rw [h.int_inv.1]; exact .int h.int_inv.2
  | .bool b, u, h, _, _ => by rw [h.bool_inv]; exact .bool
  | .nilp, u, h, _, _ => by cases h; exact .nilp
  | .nils, u, h, _, _ => by rw [h.nils_inv]; exact .nils
  | .nilf, u, h, _, _ => by cases h; exact .nilf
  | .unk, u, h, _, _ => by cases h; exact .unk ‹_›
  | .fn f cs, u, h, _, _ => by
    obtain ⟨xs, rfl, hl, hr⟩ := h.fn_inv
    obtain ⟨l1, r1⟩ := renL_rep hρ (cs := cs) (xs := xs.toList) (by simpa using hl) (fun i c v hc hv => hr i c v hc (by simpa using hv))
    exact .fn (by simpa using l1) (fun i c v hc hv => r1 i c v hc (by simpa using hv))
  | .ptr b o, u, h, _, h1 => by
    simp only [ren]
    cases hb : ρ b with
    | none => obtain ⟨id, rfl, _⟩ := h.ptr_inv; exact .unk rfl
    | some b' => obtain ⟨id, rfl, hβ⟩ := h.ptr_inv; exact .ptr (hρ b b' hb _ hβ)
  | .pdyn b o i, u, h, _, h1 => by
    simp only [ren]
    cases hb : ρ b with
    | none => cases h; exact .unk rfl
    | some b' => cases h; exact .pdyn (hρ b b' hb _ ‹_›)
  | .prow b i sz f, u, h, _, h1 => by
    simp only [ren]
    cases hb : ρ b with
    | none => cases h; exact .unk rfl
    | some b' => cases h; exact .prow (hρ b b' hb _ ‹_›)
  | .prowd b i sz f j, u, h, _, h1 => by
    simp only [ren]
    cases hb : ρ b with
    | none => cases h; exact .unk rfl
    | some b' => cases h; exact .prowd (hρ b b' hb _ ‹_›)
  | .sl b, u, h, _, h1 => by
    simp only [ren]
    cases hb : ρ b with
    | none => obtain ⟨A, n, c, rfl, _⟩ := h.sl_inv; exact .unk rfl
    | some b' => obtain ⟨A, n, c, rfl, hβ⟩ := h.sl_inv; exact .sl (hρ b b' hb _ hβ)
  | .agg cs, u, h, _, _ => by
    obtain ⟨xs, rfl, hl, hone, hr⟩ := h.agg_inv
    obtain ⟨l1, r1⟩ := renL_rep hρ (cs := cs) (xs := xs.toList) (by simpa using hl) (fun i c v hc hv => hr i c v hc (by simpa using hv))
    exact .agg (by simpa using l1) hone (fun i c v hc hv => r1 i c v hc (by simpa using hv))
  | .tup cs, u, h, _, _ => by
    obtain ⟨xs, rfl, hl, hr⟩ := h.tup_inv
    obtain ⟨l1, r1⟩ := renL_rep hρ (cs := cs) (xs := xs.toList) (by simpa using hl) (fun i c v hc hv => hr i c v hc (by simpa using hv))
    exact .tup (by simpa using l1) (fun i c v hc hv => r1 i c v hc (by simpa using hv))
theorem renL_rep {β β' : Asg} {ρ : Nat → Option Nat} (hρ : ∀ b b', ρ b = some b' → ∀ r, β b = some r → β' b' = some r) : ∀ {cs : List IV} {xs : List Value}, cs.length = xs.length → (∀ (i : Nat) c v, cs[i]? = some c → xs[i]? = some v → Rep β c v) →
    (renL ρ cs).length = xs.length ∧ ∀ (i : Nat) c v, (renL ρ cs)[i]? = some c → xs[i]? = some v → Rep β' c v
  | [], xs, hl, _ => by simpa [renL] using hl
  | c :: cs, [], hl, _ => by simp at hl
  | c :: cs, x :: xs, hl, hr => by
    obtain ⟨l1, r1⟩ := renL_rep hρ (cs := cs) (xs := xs) (by simpa using hl) (fun i c v hc hv => hr (i + 1) c v (by simpa using hc) (by simpa using hv))
    refine ⟨by simp [renL, l1], ?_⟩
    intro i c' v hc hv
    have h0 := hr 0 c x rfl rfl
    cases i with
    | zero =>
      simp [renL] at hc hv
      subst hc; subst hv
      refine ren_rep hρ h0 (fun _ _ => trivial) ?_
      cases c with
      | agg cs => exact .inr (.inl ⟨_, rfl⟩)
      | tup cs => exact .inr (.inr ⟨_, rfl⟩)
      | _ => exact .inl (h0.one rfl)
    | succ i => simp [renL] at hc hv; exact r1 i c' v hc hv
end

theorem ren_rep' {β β' : Asg} {ρ : Nat → Option Nat} (hρ : ∀ b b', ρ b = some b' → ∀ r, β b = some r → β' b' = some r) {v : IV} {u : Value} (h : Rep β v u) : Rep β' (ren ρ v) u := by
  refine ren_rep hρ h (fun _ _ => trivial) ?_
  cases v with
  | agg cs => exact .inr (.inl ⟨_, rfl⟩)
  | tup cs => exact .inr (.inr ⟨_, rfl⟩)
  | _ => exact .inl (h.one rfl)

end
end Go.Vs
