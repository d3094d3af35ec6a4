/- Vs, part E: 'pureStep' is right. -/
import Derived.Test.YtbgleobdhjghlaaVsD
import Derived.Test.YtbgleobdhjghlaaVsS
set_option linter.unusedVariables false
set_option linter.unusedSimpArgs false
namespace Go.Vs
open Go.RowKit
section
variable {P : Program} {X : Ctx} {β : Asg} {st : St} {a : Act} {w : World}

theorem eqGuard_none {op : BinOp} {t : TypeId} {x y : Operand} {u v : Value} (h1 : op ≠ .eql) (h2 : op ≠ .neq) : (eqGuard op t x y u v).run P w = .ok () w := by
  unfold eqGuard
  cases op <;> simp_all

theorem run_bin {op : BinOp} {t t' : TypeId} {x y : Operand} {o : Oper} {r : Value} (ho : o.op = .binOp op t x y t') (h1 : op ≠ .eql) (h2 : op ≠ .neq)
    (hr : (binOp op t (a.eval x) (a.eval y)).run P w = .ok r w) : (execOp a.eval o).run P w = .ok (.value r) w := by
  unfold execOp
  simp only [ho]
  simp [Sem.run_bind, eqGuard_none h1 h2, hr]

theorem binStep_sound (hev : ∀ x v, ev st x = some v → Rep β v (a.eval x)) {op : BinOp} {t t' : TypeId} {x y : Operand} {o : Oper} (ho : o.op = .binOp op t x y t')
    {p : Option Prop} {v : IV} (h : pureStep P st o = some (p, v)) (hp : ∀ q, p = some q → q) :
    ∃ u, Rep β v u ∧ (execOp a.eval o).run P w = .ok (.value u) w := by
  unfold pureStep at h
  simp only [ho] at h
  have plainCase : ∀ {v : IV} {p : Option Prop}, ((plainOp P st o).map fun v => ((none : Option Prop), v)) = some (p, v) → ∃ u, Rep β v u ∧ (execOp a.eval o).run P w = .ok (.value u) w := by
    intro v p h
    simp only [Option.map_eq_some_iff, Prod.mk.injEq] at h
    obtain ⟨v', h', _, rfl⟩ := h
    exact plainOp_sound hev (by rw [ho]; intro cs b h; cases h) h'
  split at h
  case h_1 k m k' n hx hy =>
    simp only [Option.some.injEq, Prod.mk.injEq] at h
    obtain ⟨hp', rfl⟩ := h
    have hq := hp _ hp'.symm
    obtain ⟨ex, ix⟩ := (hev x _ hx).int_inv
    obtain ⟨ey, iy⟩ := (hev y _ hy).int_inv
    refine ⟨_, .int (wrap_in _ _), run_bin ho (by simp) (by simp) ?_⟩
    rw [ex, ey]
    simp [binOp, Op.shift, show ¬ n < 0 by omega]
  case h_2 k m k' n hx hy =>
    simp only [Option.some.injEq, Prod.mk.injEq] at h
    obtain ⟨hp', rfl⟩ := h
    have hq := hp _ hp'.symm
    obtain ⟨ex, ix⟩ := (hev x _ hx).int_inv
    obtain ⟨ey, iy⟩ := (hev y _ hy).int_inv
    refine ⟨_, .int (shr_in ix hq), run_bin ho (by simp) (by simp) ?_⟩
    rw [ex, ey]
    simp [binOp, Op.shift, show ¬ n < 0 by omega]
  case h_3 k m k' n hx hy =>
    split at h
    · rename_i hk
      subst hk
      simp only [Option.some.injEq, Prod.mk.injEq] at h
      obtain ⟨hp', rfl⟩ := h
      have hq := hp _ hp'.symm
      obtain ⟨ex, ix⟩ := (hev x _ hx).int_inv
      obtain ⟨ey, iy⟩ := (hev y _ hy).int_inv
      refine ⟨_, .int (wrap_in _ _), run_bin ho (by simp) (by simp) ?_⟩
      rw [ex, ey]
      simp [binOp, Op.intDiv, hq]
    · cases h
  case h_4 k m k' n hx hy =>
    split at h
    · rename_i hk
      subst hk
      simp only [Option.some.injEq, Prod.mk.injEq] at h
      obtain ⟨hp', rfl⟩ := h
      have hq := hp _ hp'.symm
      obtain ⟨ex, ix⟩ := (hev x _ hx).int_inv
      obtain ⟨ey, iy⟩ := (hev y _ hy).int_inv
      refine ⟨_, .int (rem_in ix), run_bin ho (by simp) (by simp) ?_⟩
      rw [ex, ey]
      simp [binOp, Op.intDiv, hq]
    · cases h
  case h_11 cs ds hx hy =>
    simp only [Option.map_eq_some_iff, Prod.mk.injEq] at h
    obtain ⟨b, hb, _, rfl⟩ := h
    obtain ⟨xs, ex, rx⟩ := (hev x _ hx).agg_inv
    obtain ⟨ys, ey, ry⟩ := (hev y _ hy).agg_inv
    obtain ⟨hg, hr⟩ := eqAgg_run w hb rx ry
    refine ⟨_, .bool, ?_⟩
    unfold execOp
    simp only [ho, ex, ey]
    simp [Sem.run_bind, run_eqGuard_agg w _ t x y xs ys hg, run_eql_struct, hr]
  case h_12 cs ds hx hy =>
    simp only [Option.map_eq_some_iff, Prod.mk.injEq] at h
    obtain ⟨b, hb, _, rfl⟩ := h
    obtain ⟨xs, ex, rx⟩ := (hev x _ hx).agg_inv
    obtain ⟨ys, ey, ry⟩ := (hev y _ hy).agg_inv
    obtain ⟨hg, hr⟩ := eqAgg_run w hb rx ry
    refine ⟨_, .bool, ?_⟩
    unfold execOp
    simp only [ho, ex, ey]
    simp [Sem.run_bind, run_eqGuard_agg w _ t x y xs ys hg, run_neq_struct, hr]
  case h_13 => cases h
  case h_14 => exact plainCase h
  all_goals
    rename_i k m k' n hx hy
    split at h
    · rename_i hk
      subst hk
      simp only [Option.some.injEq, Prod.mk.injEq] at h
      obtain ⟨hp', rfl⟩ := h
      obtain ⟨ex, ix⟩ := (hev x _ hx).int_inv
      obtain ⟨ey, iy⟩ := (hev y _ hy).int_inv
      refine ⟨_, .int (wrap_in _ _), run_bin ho (by simp) (by simp) ?_⟩
      rw [ex, ey]
      simp [binOp, Op.intArith, Op.intBits]
    · cases h

theorem isAgg_part {t : TypeId} {agg : Bool} {n off : Nat} {cells : List IV} {cs : Array Value} (hr : RepL β cells cs) (hagg : isAggT P t = some agg) (hn : sizeT P t = some n)
    (h1 : agg = true ∨ n = 1) (hle : off + n ≤ cells.length) {v : IV} (hp : pack agg ((cells.drop off).take n) = some v) :
    ∃ u, Rep β v u ∧ (part t cs off).run P w = .ok u w := by
  obtain ⟨ds, d1, d2, d3, d4, d5⟩ := hr.take_drop off n hle
  have hcs : off + n ≤ cs.size := by rw [← hr.1]; exact hle
  cases hg : agg with
  | true =>
    subst hg
    have hds : cs.extract off (off + n) = ds.toArray := by
      apply Array.ext'
      apply List.ext_getElem?
      intro i
      by_cases hi : i < n
      · have a1 : ds[i]? = some ds[i] := List.getElem?_eq_getElem (by omega)
        have a2 := d3 i ds[i] a1
        simp only [Array.toList_extract, List.extract_eq_take_drop]
        rw [List.getElem?_take, if_pos (by omega), List.getElem?_drop]
        rw [a1]
        simpa using a2
      · rw [List.getElem?_eq_none (by simp; omega), List.getElem?_eq_none (by simp; omega)]
    refine ⟨.agg ds.toArray, pack_rep hp (by simp) d2 d4 d5, ?_⟩
    simp [part, Sem.run_bind, isAgg_run hagg, sizeOf_run hn, hds]
  | false =>
    subst hg
    have hn1 : n = 1 := by rcases h1 with h1 | h1; cases h1; exact h1
    subst hn1
    obtain ⟨c, rfl⟩ : ∃ c, ds = [c] := by
      cases ds with
      | nil => simp at d1
      | cons c l => cases l with
        | nil => exact ⟨c, rfl⟩
        | cons d l => simp at d1
    have hc : cs[off]? = some c := d3 0 c rfl
    refine ⟨c, pack_rep hp (by simp) d2 d4 d5, ?_⟩
    simp [part, Sem.run_bind, isAgg_run hagg, hc]

theorem pureStep_sound (hev : ∀ x v, ev st x = some v → Rep β v (a.eval x)) (hb : ∀ b k, look st.b b = some k → BOk X β w b k) {o : Oper}
    {p : Option Prop} {v : IV} (h : pureStep P st o = some (p, v)) (hp : ∀ q, p = some q → q) :
    ∃ u, Rep β v u ∧ (execOp a.eval o).run P w = .ok (.value u) w := by
  cases hop : o.op with
  | binOp op t x y t' => exact binStep_sound hev hop h hp
  | move x =>
    unfold pureStep at h
    simp only [hop, Option.map_eq_some_iff, Prod.mk.injEq] at h
    obtain ⟨v', h', _, rfl⟩ := h
    exact ⟨_, hev x _ h', by simp [execOp, hop]⟩
  | assign x =>
    unfold pureStep at h
    simp only [hop] at h
    split at h
    · cases h
    · rename_i v' _ h'
      cases h
      exact ⟨_, hev x _ h', by simp [execOp, hop]⟩
    · cases h
  | pick c x y =>
    unfold pureStep at h
    simp only [hop] at h
    split at h
    · rename_i hc
      simp only [Option.map_eq_some_iff, Prod.mk.injEq] at h
      obtain ⟨v', h', _, rfl⟩ := h
      have := (hev c _ hc).bool_inv
      exact ⟨_, hev x _ h', by simp [execOp, hop, this, asBool]⟩
    · rename_i hc
      simp only [Option.map_eq_some_iff, Prod.mk.injEq] at h
      obtain ⟨v', h', _, rfl⟩ := h
      have := (hev c _ hc).bool_inv
      exact ⟨_, hev y _ h', by simp [execOp, hop, this, asBool]⟩
    · cases h
  | unOp op t x =>
    unfold pureStep at h
    simp only [hop] at h
    split at h
    · rename_i b hx
      cases h
      have := (hev x _ hx).bool_inv
      exact ⟨_, .bool, by simp [execOp, hop, this, Op.unary]⟩
    · rename_i k n hx
      cases h
      have := (hev x _ hx).int_inv.1
      exact ⟨_, .int (wrap_in _ _), by simp [execOp, hop, this, Op.unary, Op.intArith]⟩
    · cases h
  | convert src dst x =>
    unfold pureStep at h
    simp only [hop] at h
    split at h
    · rename_i d k k' n hs hd hx
      cases h
      have := (hev x _ hx).int_inv.1
      refine ⟨_, .int (wrap_in _ _), ?_⟩
      simp only [execOp, hop]
      refine Sem.run_v ?_
      simp [convert, Sem.run_bind, run_underlying hs, run_underlying hd, this, Conv.intToInt]
    · cases h
  | index t x i =>
    unfold pureStep at h
    simp only [hop] at h
    split at h
    · rename_i len e cs k n ht hx hi
      split at h
      · rename_i hc
        obtain ⟨h1, h2, h3⟩ := hc
        split at h
        · rename_i c hcc
          simp only [Option.some.injEq, Prod.mk.injEq] at h
          obtain ⟨hp', rfl⟩ := h
          have hq := hp _ hp'.symm
          obtain ⟨xs, hxs, hr⟩ := (hev x _ hx).agg_inv
          have hi' := (hev i _ hi).int_inv.1
          have hlt : n.toNat < xs.size := by rw [← hr.1]; omega
          refine ⟨xs[n.toNat], hr.2.2 _ _ _ hcc (by simp [hlt]), ?_⟩
          simp only [execOp, hop]
          refine Sem.run_v ?_
          simp [Instr.index, Sem.run_bind, asIntOf, hi', run_underlying ht, hxs, hq, sizeOf_run h1, part, isAgg_run h2, hlt]
        · cases h
      · cases h
    · cases h
  | nilCheck x =>
    unfold pureStep at h
    simp only [hop] at h
    split at h
    · rename_i b o' hx
      cases h
      obtain ⟨id, e, _⟩ := (hev x _ hx).ptr_inv
      exact ⟨_, hev x _ hx, by simp [execOp, hop, e]⟩
    · rename_i b i sz f hx
      cases h
      obtain ⟨g, o', n, c, e, _⟩ := (hev x _ hx).prow_inv
      exact ⟨_, hev x _ hx, by simp [execOp, hop, e]⟩
    · rename_i f cs hx
      cases h
      obtain ⟨xs, e, _⟩ := (hev x _ hx).fn_inv
      exact ⟨_, hev x _ hx, by simp [execOp, hop, e]⟩
    · cases h
  | fieldAddr s x f =>
    unfold pureStep at h
    simp only [hop] at h
    split at h
    · rename_i fields hs
      split at h
      · rename_i fd hfd
        split at h
        · rename_i n hn
          split at h
          · cases h
          · rename_i hn0
            split at h
            · rename_i b o' hx
              cases h
              obtain ⟨id, e, hβ⟩ := (hev x _ hx).ptr_inv
              refine ⟨_, .ptr hβ, ?_⟩
              simp only [execOp, hop]
              refine Sem.run_v ?_
              simp [Instr.fieldAt, Sem.run_bind, run_underlying hs, hfd, e, Instr.sureAddr, fieldPlace, sizeOf_run hn, hn0, add_at]
            · rename_i b i sz g hx
              cases h
              obtain ⟨g', o', n', c, e, hβ⟩ := (hev x _ hx).prow_inv
              refine ⟨_, .prow hβ, ?_⟩
              simp only [execOp, hop]
              refine Sem.run_v ?_
              simp [Instr.fieldAt, Sem.run_bind, run_underlying hs, hfd, e, Instr.sureAddr, fieldPlace, sizeOf_run hn, hn0, add_at, Nat.add_assoc]
            · cases h
        · cases h
      · cases h
    · cases h
  | field t x f =>
    unfold pureStep at h
    simp only [hop] at h
    split at h
    · rename_i fields hs
      split at h
      · rename_i fd hfd
        split at h
        · rename_i n agg cs hn hagg hx
          split at h
          · rename_i hc
            simp only [Option.map_eq_some_iff, Prod.mk.injEq] at h
            obtain ⟨v', h', _, rfl⟩ := h
            obtain ⟨xs, hxs, hr⟩ := (hev x _ hx).agg_inv
            obtain ⟨u, hu, hrun⟩ := isAgg_part (P := P) (w := w) hr hagg hn hc.1 hc.2 h'
            refine ⟨u, hu, ?_⟩
            simp only [execOp, hop]
            refine Sem.run_v ?_
            simp [Instr.field, Sem.run_bind, run_underlying hs, hfd, hxs, asAgg, hrun]
          · cases h
        · cases h
      · cases h
    · cases h
  | load t x =>
    unfold pureStep at h
    simp only [hop] at h
    split at h
    · rename_i av hx
      obtain ⟨u, hu, hrun⟩ := loadAt_sound hb (hev x _ hx) h hp
      exact ⟨u, hu, by simp only [execOp, hop]; exact Sem.run_v hrun⟩
    · cases h
  | extract x i =>
    unfold pureStep at h
    simp only [hop] at h
    split at h
    · rename_i vs hx
      simp only [Option.map_eq_some_iff, Prod.mk.injEq] at h
      obtain ⟨v', h', _, rfl⟩ := h
      obtain ⟨xs, hxs, hl, hr⟩ := (hev x _ hx).tup_inv
      have hlt : i < xs.size := by rw [← hl]; exact (List.getElem?_eq_some_iff.1 h').1
      refine ⟨xs[i], hr i _ _ h' (by simp [hlt]), ?_⟩
      simp only [execOp, hop]
      refine Sem.run_v ?_
      simp [Instr.extract, hxs, hlt]
    · cases h
  | makeFunc fn first captured =>
    unfold pureStep at h
    simp only [hop] at h
    cases fn with
    | func f =>
      simp only at h
      split at h
      · rename_i hf
        simp only [Option.map_eq_some_iff, Prod.mk.injEq] at h
        obtain ⟨cs, h', _, rfl⟩ := h
        obtain ⟨h1, h2⟩ := evs_spec h'
        have hf0 : first = #[] := Array.eq_empty_of_size_eq_zero hf
        refine ⟨.func (.func f) #[] (captured.map a.eval), .fn (by simpa using h1.symm) ?_, by simp [execOp, hop, Instr.makeFunc, hf0]⟩
        intro i c u hc hu
        simp only [Array.getElem?_map, Option.map_eq_some_iff] at hu
        obtain ⟨y, hy, rfl⟩ := hu
        exact hev y c (h2 i y c (by simpa using hy) hc)
      · cases h
    | _ => simp at h
  | indexAddr t x i =>
    unfold pureStep at h
    simp only [hop] at h
    split at h
    · rename_i len e b o' k n ht hx hi
      split at h
      · rename_i hc
        simp only [Option.some.injEq, Prod.mk.injEq] at h
        obtain ⟨hp', rfl⟩ := h
        have hq := hp _ hp'.symm
        obtain ⟨id, ex, hβ⟩ := (hev x _ hx).ptr_inv
        have hi' := (hev i _ hi).int_inv.1
        refine ⟨_, .pdyn hβ, ?_⟩
        simp only [execOp, hop]
        refine Sem.run_v ?_
        have hl : ¬ len ≤ 1 := by omega
        simp [Instr.indexAt, Sem.run_bind, asIntOf, hi', run_underlying ht, ex, Instr.sureAddr, sizeOf_run hc.1, hl, hq, add_at]
      · cases h
    · rename_i len e b r sz f k n ht hx hi
      split at h
      · rename_i hc
        simp only [Option.some.injEq, Prod.mk.injEq] at h
        obtain ⟨hp', rfl⟩ := h
        have hq := hp _ hp'.symm
        obtain ⟨g', o', n', c, ex, hβ⟩ := (hev x _ hx).prow_inv
        have hi' := (hev i _ hi).int_inv.1
        refine ⟨_, .prowd hβ, ?_⟩
        simp only [execOp, hop]
        refine Sem.run_v ?_
        have hl : ¬ len ≤ 1 := by omega
        simp [Instr.indexAt, Sem.run_bind, asIntOf, hi', run_underlying ht, ex, Instr.sureAddr, sizeOf_run hc.1, hl, hq, add_at]
      · cases h
    · rename_i e b k n ht hx hi
      split at h
      · rename_i ks xs hr
        split at h
        · rename_i hc
          simp only [Option.some.injEq, Prod.mk.injEq] at h
          obtain ⟨hp', rfl⟩ := h
          have hq := hp _ hp'.symm
          obtain ⟨A, n', c, ex, hβ⟩ := (hev x _ hx).sl_inv
          have hi' := (hev i _ hi).int_inv.1
          obtain ⟨A', n'', c', h1, h2, h3, h4, h5, h6, h7, h8⟩ := rows_at hb hr
          rw [hβ] at h1
          cases h1
          obtain ⟨g, o', hA, _⟩ := h7 (by omega)
          subst hA
          subst h2
          refine ⟨_, .prow (f := 0) hβ, ?_⟩
          simp only [execOp, hop]
          refine Sem.run_v ?_
          simp [Instr.indexAt, Sem.run_bind, asIntOf, hi', run_underlying ht, ex, sizeOf_run hc, hq, add_at]
        · cases h
      · cases h
    · cases h
  | build t parts =>
    unfold pureStep at h
    simp only [hop] at h
    split at h
    · rename_i z pl hz hpl
      simp only [Option.map_eq_some_iff, Prod.mk.injEq] at h
      obtain ⟨cs, h', _, rfl⟩ := h
      obtain ⟨i, zv, hi, hiz, hzl, hpos, hzr⟩ := zeroOf_spec (β := β) hz
      obtain ⟨zs', hf, hr⟩ := buildGo_sound hev hzr h'
      refine ⟨.agg zs', hr.rep, ?_⟩
      simp only [execOp, hop]
      refine Sem.run_v ?_
      have hzv : (zeroValue t).run P w = .ok zv w := by simp [zeroValue, typeInfo, hi, hiz]
      unfold placesOf at hpl
      split at hpl
      · rename_i fields hu
        simp only [Option.map_eq_some_iff] at hpl
        obtain ⟨l, hl, rfl⟩ := hpl
        have hp := run_places (P := P) w _ _ hl
        simp [Instr.build, Sem.run_bind, hzv, run_underlying hu, Array.mapM_eq_mapM_toList, hp, hf]
      · rename_i len e hu
        simp only [Option.map_eq_some_iff] at hpl
        obtain ⟨n, hn, rfl⟩ := hpl
        simp [Instr.build, Sem.run_bind, hzv, run_underlying hu, sizeOf_run hn, hf]
      · cases hpl
    · cases h
  | call c =>
    obtain ⟨callee, args, argTypes⟩ := c
    obtain ⟨args⟩ := args
    obtain ⟨argTypes⟩ := argTypes
    unfold pureStep at h
    simp only [hop] at h
    split at h
    · rename_i x t

      split at h
      · rename_i e b ht hx
        simp only [Option.map_eq_some_iff, Prod.mk.injEq] at h
        obtain ⟨p', hr, _, rfl⟩ := h
        obtain ⟨A, n', c, ex, hβ⟩ := (hev x _ hx).sl_inv
        obtain ⟨A', n'', c', h1, h2, h3, h4, h5, h6, h7, h8⟩ := rows_at hb (ks := p'.1) (xs := p'.2) hr
        rw [hβ] at h1
        cases h1
        subst h2
        refine ⟨_, .int ?_, ?_⟩
        · simp only [maxLen] at h4
          refine ⟨?_, ?_⟩
          · have : IntKind.i64.min = -9223372036854775808 := by decide
            omega
          · have : IntKind.i64.max = 9223372036854775807 := by decide
            omega
        · simp [execOp, hop, resolve, invoke, builtin, Builtin.len_, run_underlying ht, ex, goInt]
      · rename_i e ht hx
        cases h
        have ex : a.eval x = .slice none 0 0 := (hev x _ hx).nils_inv
        refine ⟨_, .int (⟨by decide, by decide⟩ : inK .i64 0), ?_⟩
        simp [execOp, hop, resolve, invoke, builtin, Builtin.len_, run_underlying ht, ex, goInt]
      · cases h
    · rename_i x y

      split at h
      · rename_i k m k' n hx hy
        split at h
        · rename_i hk
          subst hk
          cases h
          obtain ⟨ex, ix⟩ := (hev x _ hx).int_inv
          obtain ⟨ey, iy⟩ := (hev y _ hy).int_inv
          refine ⟨_, .int (?_ : inK k (mn k m n)), ?_⟩
          · unfold mn; split <;> assumption
          · simp [execOp, hop, resolve, invoke, builtin, Builtin.min_, Builtin.min2, ex, ey, mn]
        · cases h
      · cases h
    · rename_i x y

      split at h
      · rename_i k m k' n hx hy
        split at h
        · rename_i hk
          subst hk
          cases h
          obtain ⟨ex, ix⟩ := (hev x _ hx).int_inv
          obtain ⟨ey, iy⟩ := (hev y _ hy).int_inv
          refine ⟨_, .int (?_ : inK k (mx k m n)), ?_⟩
          · unfold mx; split <;> assumption
          · simp [execOp, hop, resolve, invoke, builtin, Builtin.max_, Builtin.max2, ex, ey, mx]
        · cases h
      · cases h
    · cases h
  | _ => unfold pureStep at h; simp [hop] at h

end
end Go.Vs
