/- Vs, part C: operations that change nothing. -/
import Derived.Test.YtbgleobdhjghlaaVsB
set_option linter.unusedVariables false
set_option linter.unusedSimpArgs false
namespace Go.Vs
open Go.RowKit

theorem pureRun_sound {P : Program} {α : Type} : ∀ (s : Sem α) (x : α) (w : World), pureRun P s = some x → s.run P w = .ok x w
  | .pure a, x, w, h => by simp [pureRun] at h; subst h; rfl
  | .program k, x, w, h => by simp only [pureRun] at h; exact pureRun_sound (k P) x w h
  | .mark m k, x, w, h => by simp only [pureRun] at h; exact pureRun_sound k x w h
  | .load .., x, w, h => by simp [pureRun] at h
  | .store .., x, w, h => by simp [pureRun] at h
  | .new .., x, w, h => by simp [pureRun] at h
  | .shape .., x, w, h => by simp [pureRun] at h
  | .freeze .., x, w, h => by simp [pureRun] at h
  | .frozen .., x, w, h => by simp [pureRun] at h
  | .getObj .., x, w, h => by simp [pureRun] at h
  | .setObj .., x, w, h => by simp [pureRun] at h
  | .choose .., x, w, h => by simp [pureRun] at h
  | .sys .., x, w, h => by simp [pureRun] at h
  | .halt .., x, w, h => by simp [pureRun] at h

theorem Rep.int_inv {β : Asg} {k n u} (h : Rep β (.int k n) u) : u = .int k n ∧ inK k n := by cases h; exact ⟨rfl, ‹_›⟩
theorem Rep.bool_inv {β : Asg} {b u} (h : Rep β (.bool b) u) : u = .bool b := by cases h; rfl

theorem toVal0_rep {β : Asg} {v : IV} {u u' : Value} (h : Rep β v u) (ht : toVal0 v = some u') : u = u' := by
  unfold toVal0 at ht
  split at ht
  · cases ht; exact h.int_inv.1
  · cases ht; exact h.bool_inv
  · cases ht
theorem toVal_rep {β : Asg} {v : IV} {u u' : Value} (h : Rep β v u) (ht : toVal v = some u') : u = u' := by
  unfold toVal at ht
  split at ht
  · rename_i cs
    simp only [Option.map_eq_some_iff] at ht
    obtain ⟨l, hl, rfl⟩ := ht
    obtain ⟨h1, h2⟩ := mapM_some hl
    cases h with
    | agg hl' hone hr =>
      rename_i xs
      congr 1
      apply Array.ext
      · simp; omega
      · intro i hi hi'
        have a1 : cs[i]? = some cs[i] := List.getElem?_eq_getElem (by omega)
        have a2 : l[i]? = some l[i] := List.getElem?_eq_getElem (by omega)
        have := toVal0_rep (hr i cs[i] xs[i] a1 (by simp [hi])) (h2 i _ _ a1 a2)
        simpa using this
  · exact toVal0_rep h ht

section
variable {P : Program} {X : Ctx} {β : Asg} {st : St} {a : Act} {w : World}

theorem wrap_in (k : IntKind) (n : Int) : inK k (k.wrap n) := wrap_within k n

theorem Sem.run_v {s : Sem Value} {u : Value} {w w' : World} (h : s.run P w = .ok u w') : (do pure (Next.value (← s)) : Sem Next).run P w = .ok (.value u) w' := by
  simp [Sem.run_bind, h]

theorem plainOp_sound (hev : ∀ x v, ev st x = some v → Rep β v (a.eval x)) {o : Oper} {v : IV} (hs : ∀ cs b, o.op ≠ .select cs b) (h : plainOp P st o = some v) :
    ∃ u, Rep β v u ∧ (execOp a.eval o).run P w = .ok (.value u) w := by
  unfold plainOp at h
  split at h
  · rename_i hall
    split at h
    · rename_i b hb
      cases h
      refine ⟨.bool b, .bool, ?_⟩
      have hagree : ∀ x ∈ o.op.operands, a.eval x = plainEv st x := by
        intro x hx
        have h1 : (plain st x).isSome = true := by
          rw [Array.all_eq_true] at hall
          obtain ⟨i, hi, rfl⟩ := Array.mem_iff_getElem.1 hx
          exact hall i hi
        obtain ⟨y, hy⟩ := Option.isSome_iff_exists.1 h1
        have hy0 := hy
        unfold plain at hy
        simp only [Option.bind_eq_some_iff] at hy
        obtain ⟨z, hz, hzy⟩ := hy
        have := toVal_rep (hev x z hz) hzy
        simp [plainEv, hy0, this]
      rw [execOp_congr o hs hagree]
      exact pureRun_sound _ _ _ hb
    · cases h
  · cases h

theorem shr_in {k : IntKind} {a b : Int} (h : inK k a) (hb : 0 ≤ b) : inK k (a.fdiv (2 ^ (min b.toNat k.bits))) := by
  have hp : (0 : Int) < 2 ^ (min b.toNat k.bits) := Int.pow_pos (by omega)
  rw [Int.fdiv_eq_ediv_of_nonneg _ (by omega)]
  unfold inK at *
  generalize (2 : Int) ^ (min b.toNat k.bits) = p at *
  have hmin : k.min ≤ 0 := by cases k <;> decide
  have hmax : 0 ≤ k.max := by cases k <;> decide
  rcases Int.lt_or_le a 0 with ha | ha
  · have h1 : a ≤ a / p := by
      rw [Int.le_ediv_iff_mul_le hp]
      have : a * p ≤ a * 1 := Int.mul_le_mul_of_nonpos_left (by omega) (by omega)
      omega
    have h2 : a / p ≤ 0 := by
      have := Int.ediv_neg_of_neg_of_pos ha hp
      omega
    omega
  · have h1 : 0 ≤ a / p := Int.ediv_nonneg ha (by omega)
    have h2 : a / p ≤ a := Int.ediv_le_self _ ha
    omega

theorem rem_in {k : IntKind} {a b : Int} (h : inK k a) : inK k (a.tmod b) := by
  unfold inK at *
  have hmin : k.min ≤ 0 := by cases k <;> decide
  have hmax : 0 ≤ k.max := by cases k <;> decide
  by_cases ha : 0 ≤ a
  · have h1 := Int.tmod_nonneg b ha
    have h2 : a.tmod b ≤ a := by
      have := Int.natAbs_tmod a b
      have h3 : a.natAbs % b.natAbs ≤ a.natAbs := Nat.mod_le _ _
      omega
    omega
  · have h0 := Int.neg_tmod (-a) b
    rw [Int.neg_neg] at h0
    have h1 := Int.tmod_nonneg b (show 0 ≤ -a by omega)
    have h2 : (-a).tmod b ≤ -a := by
      have := Int.natAbs_tmod (-a) b
      have h3 : (-a).natAbs % b.natAbs ≤ (-a).natAbs := Nat.mod_le _ _
      omega
    omega

/-! ### loads -/
theorem isAgg_run {t : TypeId} {agg : Bool} (h : isAggT P t = some agg) (w : World) : (isAgg t).run P w = .ok agg w := by
  unfold isAggT at h
  unfold isAgg
  cases hu : P.underlying t with
  | none => simp [hu] at h
  | some d =>
    rw [Sem.run_bind, run_underlying hu w]
    rw [hu] at h
    cases d <;> simp at h <;> subst h <;> simp
theorem sizeOf_run {t : TypeId} {n : Nat} (h : sizeT P t = some n) (w : World) : (sizeOf t).run P w = .ok n w := by
  unfold sizeT at h
  cases hi : P.info? t with
  | none => simp [hi] at h
  | some i =>
    simp [hi] at h
    simp [sizeOf, typeInfo, hi, h]

theorem add_at (g o j : Nat) : (⟨g, o, none⟩ : Addr).add j = ⟨g, o + j, none⟩ := by unfold Addr.add; split <;> simp_all

theorem run_loadVar_cells {t : TypeId} {agg : Bool} {n g o : Nat} (hagg : isAggT P t = some agg) (hn : sizeT P t = some n) (cs : List Value) (hl : cs.length = n)
    (hc : ∀ j u, cs[j]? = some u → w.cell? ⟨g, o + j, none⟩ = some u) (h1 : agg = true ∨ n = 1) :
    ∃ u, (loadVar t ⟨g, o, none⟩).run P w = .ok u w ∧ (if agg = true then u = .agg cs.toArray else cs = [u]) := by
  cases hg : agg with
  | true =>
    subst hg
    refine ⟨.agg cs.toArray, ?_, by simp⟩
    have hll := run_loadCells_list (P := P) w ⟨g, o, none⟩ cs (fun j v hv => by rw [add_at]; exact hc j v hv)
    rw [hl] at hll
    simp [loadVar, Sem.run_bind, isAgg_run hagg, sizeOf_run hn, hll]
  | false =>
    subst hg
    have hn1 : n = 1 := by rcases h1 with h1 | h1; cases h1; exact h1
    subst hn1
    obtain ⟨c, rfl⟩ : ∃ c, cs = [c] := by
      cases cs with
      | nil => simp at hl
      | cons c l => cases l with
        | nil => exact ⟨c, rfl⟩
        | cons d l => simp at hl
    refine ⟨c, ?_, by simp⟩
    have := hc 0 c rfl
    simp only [Nat.add_zero] at this
    simp [loadVar, Sem.run_bind, isAgg_run hagg, run_load, this]

theorem pack_rep {agg : Bool} {cells : List IV} {v : IV} {cs : List Value} {u : Value} (hp : pack agg cells = some v) (hu : if agg = true then u = .agg cs.toArray else cs = [u])
    (hl : cells.length = cs.length) (hone : ∀ (i : Nat) v, cs[i]? = some v → v.oneCell' = true) (hr : ∀ (i : Nat) c v, cells[i]? = some c → cs[i]? = some v → Rep β c v) : Rep β v u := by
  cases agg with
  | true =>
    simp [pack] at hp
    simp at hu
    subst hp; subst hu
    exact .agg (by simp [hl]) (by simpa using hone) (by simpa using hr)
  | false =>
    simp at hu
    subst hu
    cases cells with
    | nil => simp at hl
    | cons c l =>
      cases l with
      | nil => simp [pack] at hp; subst hp; exact hr 0 c u rfl rfl
      | cons d l => simp at hl

theorem asInts_spec {k : IntKind} : ∀ {cells : List IV} {xs : List Int}, asInts k cells = some xs → cells = xs.map (IV.int k) := by
  intro cells
  induction cells with
  | nil => intro xs h; simp [asInts] at h; subst h; rfl
  | cons c l ih =>
    intro xs h
    cases c <;> simp only [asInts] at h <;> try (cases h; done)
    rename_i k' n
    split at h
    · rename_i hk
      subst hk
      simp only [Option.map_eq_some_iff] at h
      obtain ⟨ys, hy, rfl⟩ := h
      simp [ih hy]
    · cases h

theorem RepL.take_drop {cells : List IV} {cs : Array Value} (h : RepL β cells cs) (o n : Nat) (hon : o + n ≤ cells.length) :
    ∃ ds : List Value, ds.length = n ∧ ((cells.drop o).take n).length = ds.length ∧ (∀ (j : Nat) u, ds[j]? = some u → cs[o + j]? = some u) ∧ (∀ (i : Nat) v, ds[i]? = some v → v.oneCell' = true) ∧ ∀ (i : Nat) c v, ((cells.drop o).take n)[i]? = some c → ds[i]? = some v → Rep β c v := by
  refine ⟨(cs.toList.drop o).take n, ?_, ?_, ?_, ?_, ?_⟩
  · have := h.1; simp; omega
  · have := h.1; simp; omega
  · intro j u hj
    rw [List.getElem?_take] at hj
    split at hj
    · simpa [List.getElem?_drop] using hj
    · cases hj
  · intro i v hv
    rw [List.getElem?_take] at hv
    split at hv
    · rw [List.getElem?_drop] at hv; exact h.2.1 (o + i) v (by simpa using hv)
    · cases hv
  · intro i c v hc hv
    rw [List.getElem?_take] at hv hc
    split at hv
    · rename_i hi
      rw [if_pos hi, List.getElem?_drop] at hc
      rw [List.getElem?_drop] at hv
      exact h.2.2 (o + i) c v hc (by simpa using hv)
    · cases hv

theorem rowCells_get (ks : List IntKind) (xs : List (List Int)) (i f n j : Nat) (h : j < n) : (rowCells ks xs i f n)[j]? = some (.int (ks.getD (f + j) .i64) (rd xs i (f + j))) := by
  simp [rowCells, h]

/-- what a slice holds, by its place in the memory -/
theorem rows_at {b : Nat} {ks : List IntKind} {xs : List (List Int)} (hb : ∀ b k, look st.b b = some k → BOk X β w b k) (hr : rows st b = some (ks, xs)) :
    ∃ A n c, β b = some (.slc (.slice A n c)) ∧ n = xs.length ∧ n ≤ c ∧ c ≤ maxLen ∧ okRows ks xs ∧ 0 < ks.length ∧
      (0 < xs.length → ∃ g o, A = some ⟨g, o, none⟩ ∧ ∀ i j, i < xs.length → j < ks.length → w.cell? ⟨g, o + i * ks.length + j, none⟩ = some (.int (ks.getD j .i64) (rd xs i j))) ∧ Reads w ks A c xs := by
  unfold rows at hr
  split at hr
  · rename_i e ks' xs' hl
    cases hr
    obtain ⟨A, n, c, h1, h2, h3, h4⟩ := hb b _ hl
    have hlen := h2.1
    rcases h2.2 with ⟨he, h0⟩ | ⟨g, cap, cur, he, hB, hg, hnc, hcm, hsz, htk⟩
    · cases he
      refine ⟨none, 0, 0, h1, h0.symm, Nat.le_refl _, Nat.zero_le _, h3, h4, fun hp => by omega, ?_⟩
      exact ⟨by omega, Nat.zero_le _, fun hp => by omega⟩
    · cases he
      have hcell : ∀ j u, (flat ks xs)[j]? = some u → w.cell? ⟨g, j, none⟩ = some u := by
        intro j u hu
        have := h2.cells (g := g) rfl j u hu
        rwa [add_at, Nat.zero_add] at this
      refine ⟨_, _, _, h1, rfl, hnc, hcm, h3, h4, fun hp => ⟨g, 0, rfl, fun i j hi hj => ?_⟩, ?_⟩
      · rw [Nat.zero_add]; exact hcell _ _ (flat_get ks xs i j hi hj)
      · exact ⟨hnc, hcm, fun hp => ⟨g, 0, rfl, fun j u hu => by rw [Nat.zero_add]; exact hcell j u hu⟩⟩
  · rename_i ks' xs' hl
    cases hr
    obtain ⟨A, c, h1, h2, h3, h4, h5⟩ := hb b _ hl
    refine ⟨A, _, c, h1, rfl, h2.1, h2.2.1, h3, h4, fun hp => ?_, h2⟩
    obtain ⟨g, o, e, hc⟩ := h2.2.2 hp
    refine ⟨g, o, e, fun i j hi hj => ?_⟩
    rw [Nat.add_assoc]
    exact hc _ _ (flat_get ks xs i j hi hj)
  · cases hr

theorem loadAt_sound (hb : ∀ b k, look st.b b = some k → BOk X β w b k) {t : TypeId} {av : IV} {au : Value} (hav : Rep β av au) {p : Option Prop} {v : IV}
    (h : loadAt P st t av = some (p, v)) (hp : ∀ q, p = some q → q) : ∃ u, Rep β v u ∧ (Instr.loadAt t au).run P w = .ok u w := by
  unfold loadAt at h
  cases hagg : isAggT P t with
  | none => simp [hagg] at h
  | some agg =>
  cases hn : sizeT P t with
  | none => simp [hagg, hn] at h
  | some n =>
  simp only [hagg, hn] at h
  cases hav with
  | ptr hβ =>
    rename_i b o id
    simp only at h
    split at h
    · rename_i t' cells hl
      split at h
      · rename_i hc
        simp only [Option.map_eq_some_iff, Prod.mk.injEq] at h
        obtain ⟨x, hx, _, rfl⟩ := h
        obtain ⟨id', cs, h1, h2, h3, h4⟩ := hb b _ hl
        rw [hβ] at h1
        cases h1
        obtain ⟨ds, d1, d2, d3, d4, d5⟩ := h4.take_drop o n hc.2
        obtain ⟨u, hu, hu'⟩ := run_loadVar_cells (P := P) (w := w) (g := id) (o := o) hagg hn ds d1 (fun j u hj => by
          rw [cell_of_row w id (o + j) cs t' (0, 0) h3]; exact d3 j u hj) hc.1
        exact ⟨u, pack_rep hx hu' d2 d4 d5, by simp [Instr.loadAt, Instr.sureAddr, hu]⟩
      · cases h
    · cases h
  | pdyn hβ =>
    rename_i b o i id
    simp only at h
    split at h
    · cases h
    · rename_i hna
      have hag : agg = false := by cases agg <;> simp_all
      have hn1 : n = 1 := by by_cases h1 : n = 1; exact h1; exact absurd (.inr h1) hna
      subst hag; subst hn1
      split at h
      · rename_i t' cells hl
        split at h
        · rename_i k hk
          split at h
          · rename_i xs hxs
            simp only [Option.some.injEq, Prod.mk.injEq] at h
            obtain ⟨hp', rfl⟩ := h
            have hq := hp _ hp'.symm
            obtain ⟨id', cs, h1, h2, h3, h4⟩ := hb b _ hl
            rw [hβ] at h1
            cases h1
            have hspec := asInts_spec hxs
            have hi : i.toNat < xs.length := by omega
            have hcell : cells[o + i.toNat]? = some (.int k (dget xs i)) := by
              have := congrArg (fun l => l[i.toNat]?) hspec
              simp only [List.getElem?_drop, List.getElem?_map] at this
              rw [this, List.getElem?_eq_getElem hi]
              simp [dget, List.getD, List.getElem?_eq_getElem hi]
            have hlt : o + i.toNat < cs.size := by
              have := (List.getElem?_eq_some_iff.1 hcell).1
              rw [← h4.1]; exact this
            have hrep := h4.2.2 _ _ cs[o + i.toNat] hcell (by simp [hlt])
            obtain ⟨u, hu, hu'⟩ := run_loadVar_cells (P := P) (w := w) (g := id) (o := o + i.toNat) hagg hn [cs[o + i.toNat]] rfl (fun j u hj => by
              cases j with
              | zero => simp at hj; subst hj; rw [Nat.add_zero, cell_of_row w id _ cs t' (0, 0) h3]; simp [hlt]
              | succ j => simp at hj) (.inr rfl)
            simp at hu'
            subst hu'
            exact ⟨_, hrep, by simp [Instr.loadAt, Instr.sureAddr, hu]⟩
          · cases h
        · cases h
      · rename_i t' k xs hl
        split at h
        · rename_i ho
          subst ho
          simp only [Option.some.injEq, Prod.mk.injEq] at h
          obtain ⟨hp', rfl⟩ := h
          have hq := hp _ hp'.symm
          obtain ⟨id', h1, h2, h3, h4⟩ := hb b _ hl
          rw [hβ] at h1
          cases h1
          have hi : i.toNat < xs.length := by omega
          obtain ⟨u, hu, hu'⟩ := run_loadVar_cells (P := P) (w := w) (g := id) (o := 0 + i.toNat) hagg hn [.int k (dget xs i)] rfl (fun j u hj => by
            cases j with
            | zero => simp at hj; subst hj; rw [Nat.add_zero, cell_of_row w id _ _ t' (0, 0) h3]; simp [dget, hi, List.getD, List.getElem?_eq_getElem hi]
            | succ j => simp at hj) (.inr rfl)
          simp at hu'
          subst hu'
          refine ⟨_, .int (h4 _ ?_), by simpa [Instr.loadAt, Instr.sureAddr] using hu⟩
          simp [dget, List.getD, List.getElem?_eq_getElem hi]
        · cases h
      · cases h
  | prow hβ =>
    rename_i b i sz f g o nn c
    simp only at h
    split at h
    · rename_i ks xs hr
      split at h
      · rename_i hc
        simp only [Option.map_eq_some_iff, Prod.mk.injEq] at h
        obtain ⟨x, hx, hp', rfl⟩ := h
        have hq := hp _ hp'.symm
        obtain ⟨h0, hszk, hfn⟩ := hc
        subst hszk
        obtain ⟨A, n', c', h1, h2, h3, h4, h5, h6, h7, h8⟩ := rows_at hb hr
        rw [hβ] at h1
        cases h1
        have hi : i.toNat < xs.length := by omega
        obtain ⟨g', o', e, hcell⟩ := h7 (by omega)
        cases e
        obtain ⟨u, hu, hu'⟩ := run_loadVar_cells (P := P) (w := w) (g := g) (o := o + i.toNat * ks.length + f) hagg hn
          ((List.range n).map fun j => Value.int (ks.getD (f + j) .i64) (rd xs i.toNat (f + j))) (by simp) (fun j u hj => by
            have hlt : j < n := by
              have := (List.getElem?_eq_some_iff.1 hj).1
              simpa using this
            simp [hlt] at hj
            subst hj
            have := hcell i.toNat (f + j) hi (by omega)
            rw [Nat.add_assoc _ f j]
            exact this) h0
        refine ⟨u, pack_rep hx hu' (by simp [rowCells]) ?_ ?_, by simp [Instr.loadAt, Instr.sureAddr, hu]⟩
        · intro j v hv
          rw [List.getElem?_map] at hv
          simp only [Option.map_eq_some_iff] at hv
          obtain ⟨j', _, rfl⟩ := hv
          rfl
        · intro j cc v hcc hv
          have hj : j < n := by
            have := (List.getElem?_eq_some_iff.1 hv).1
            simpa using this
          rw [rowCells_get _ _ _ _ _ _ hj] at hcc
          cases hcc
          simp [hj] at hv
          subst hv
          refine .int ?_
          have := h5 xs[i.toNat] (List.getElem_mem hi) (f + j) (by omega)
          simpa [rd, List.getD, List.getElem?_eq_getElem hi] using this
      · cases h
    · cases h
  | _ => simp at h

end
end Go.Vs
