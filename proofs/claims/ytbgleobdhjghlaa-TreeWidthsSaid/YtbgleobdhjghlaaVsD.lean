/- Vs, part D: whatever changes nothing does what its ideal form says. -/
import Derived.Test.YtbgleobdhjghlaaVsC
set_option linter.unusedVariables false
set_option linter.unusedSimpArgs false
namespace Go.Vs
open Go.RowKit
section
variable {P : Program} {X : Ctx} {β : Asg} {st : St} {a : Act} {w : World}

theorem Rep.sl_inv {b u} (h : Rep β (.sl b) u) : ∃ A n c, u = .slice A n c ∧ β b = some (.slc (.slice A n c)) := by cases h; exact ⟨_, _, _, rfl, ‹_›⟩
theorem Rep.nils_inv {u} (h : Rep β .nils u) : u = .slice none 0 0 := by cases h; rfl
theorem Rep.ptr_inv {b o u} (h : Rep β (.ptr b o) u) : ∃ id, u = .pointer (some ⟨id, o, none⟩) ∧ β b = some (.blk id) := by cases h; exact ⟨_, rfl, ‹_›⟩
theorem Rep.prow_inv {b i sz f u} (h : Rep β (.prow b i sz f) u) : ∃ g o n c, u = .pointer (some ⟨g, o + i.toNat * sz + f, none⟩) ∧ β b = some (.slc (.slice (some ⟨g, o, none⟩) n c)) := by cases h; exact ⟨_, _, _, _, rfl, ‹_›⟩
theorem Rep.fn_inv {f cs u} (h : Rep β (.fn f cs) u) : ∃ xs, u = .func (.func f) #[] xs ∧ cs.length = xs.size ∧ ∀ (i : Nat) c v, cs[i]? = some c → xs[i]? = some v → Rep β c v := by cases h; exact ⟨_, rfl, ‹_›, ‹_›⟩
theorem Rep.agg_inv {cs u} (h : Rep β (.agg cs) u) : ∃ xs, u = .agg xs ∧ RepL β cs xs := by cases h; exact ⟨_, rfl, ‹_›, ‹_›, ‹_›⟩
theorem Rep.tup_inv {cs u} (h : Rep β (.tup cs) u) : ∃ xs, u = .tuple xs ∧ cs.length = xs.size ∧ ∀ (i : Nat) c v, cs[i]? = some c → xs[i]? = some v → Rep β c v := by cases h; exact ⟨_, rfl, ‹_›, ‹_›⟩
theorem RepL.rep {cs xs} (h : RepL β cs xs) : Rep β (.agg cs) (.agg xs) := .agg h.1 h.2.1 h.2.2

theorem evs_spec : ∀ {l : List Operand} {vs : List IV}, evs st l = some vs → l.length = vs.length ∧ ∀ (i : Nat) x v, l[i]? = some x → vs[i]? = some v → ev st x = some v := by
  intro l
  induction l with
  | nil => intro vs h; simp [evs] at h; subst h; simp
  | cons x l ih =>
    intro vs h
    unfold evs at h
    split at h
    · rename_i v vs' h1 h2
      cases h
      obtain ⟨h3, h4⟩ := ih h2
      refine ⟨by simp [h3], ?_⟩
      intro i y z hy hz
      cases i with
      | zero => simp at hy hz; subst hy; subst hz; exact h1
      | succ i => simp at hy hz; exact h4 i y z hy hz
    · cases h

theorem notTup_ne {v : IV} (h : notTup v = true) : ∀ vs, v ≠ .tup vs := by intro vs e; subst e; cases h
/-- The cells of a value. -/
theorem Rep.cells {v u} (h : Rep β v u) (ht : ∀ vs, v ≠ .tup vs) : RepL β v.cells u.cells := by
  cases h with
  | agg hl h1 h2 => exact ⟨hl, h1, h2⟩
  | tup hl h => exact absurd rfl (ht _)
  | unk h1 =>
    cases u <;> first
      | (simp [Value.oneCell'] at h1; done)
      | (refine ⟨rfl, ?_, ?_⟩ <;> intro i <;> cases i <;> simp [IV.cells, Value.cells] <;> first | rfl | exact .unk rfl)
  | int h1 => refine ⟨rfl, ?_, ?_⟩ <;> intro i <;> cases i <;> simp [IV.cells, Value.cells] <;> first | rfl | exact .int h1
  | bool => refine ⟨rfl, ?_, ?_⟩ <;> intro i <;> cases i <;> simp [IV.cells, Value.cells] <;> first | rfl | exact .bool
  | nilp => refine ⟨rfl, ?_, ?_⟩ <;> intro i <;> cases i <;> simp [IV.cells, Value.cells] <;> first | rfl | exact .nilp
  | nils => refine ⟨rfl, ?_, ?_⟩ <;> intro i <;> cases i <;> simp [IV.cells, Value.cells] <;> first | rfl | exact .nils
  | nilf => refine ⟨rfl, ?_, ?_⟩ <;> intro i <;> cases i <;> simp [IV.cells, Value.cells] <;> first | rfl | exact .nilf
  | fn hl h1 => refine ⟨rfl, ?_, ?_⟩ <;> intro i <;> cases i <;> simp [IV.cells, Value.cells] <;> first | rfl | exact .fn hl h1
  | ptr h1 => refine ⟨rfl, ?_, ?_⟩ <;> intro i <;> cases i <;> simp [IV.cells, Value.cells] <;> first | rfl | exact .ptr h1
  | pdyn h1 => refine ⟨rfl, ?_, ?_⟩ <;> intro i <;> cases i <;> simp [IV.cells, Value.cells] <;> first | rfl | exact .pdyn h1
  | prow h1 => refine ⟨rfl, ?_, ?_⟩ <;> intro i <;> cases i <;> simp [IV.cells, Value.cells] <;> first | rfl | exact .prow h1
  | prowd h1 => refine ⟨rfl, ?_, ?_⟩ <;> intro i <;> cases i <;> simp [IV.cells, Value.cells] <;> first | rfl | exact .prowd h1
  | sl h1 => refine ⟨rfl, ?_, ?_⟩ <;> intro i <;> cases i <;> simp [IV.cells, Value.cells] <;> first | rfl | exact .sl h1

theorem zeroOf_spec {t : TypeId} {z : List IV} (h : zeroOf P t = some z) : ∃ i zv, P.info? t = some i ∧ i.zero = some zv ∧ z.length = i.size ∧ 0 < i.size ∧ RepL β z zv.cells := by
  unfold zeroOf at h
  split at h
  · cases h
  · rename_i i hi
    split at h
    · cases h
    · rename_i zv hz
      split at h
      · cases h
      · rename_i cs hcs
        split at h
        · rename_i hs
          cases h
          obtain ⟨h1, h2⟩ := mapM_some hcs
          refine ⟨i, zv, hi, hz, hs.1, hs.2, by simpa using h1.symm, ?_, ?_⟩
          · intro j v hv
            have hj : j < z.length := by
              have := (Array.getElem?_eq_some_iff.1 hv).1
              rw [← h1]; simpa using this
            have := ofConst0_rep (β := β) (h2 j v z[j] (by simpa using hv) (by simp [hj]))
            exact this.1.one this.2
          · intro j c v hc hv
            exact (ofConst0_rep (h2 j v c (by simpa using hv) hc)).1
        · cases h

/-! ### composite literals -/
theorem foldl_set (off : Nat) : ∀ (l : List Value) (k : Nat) (cs : Array Value), ((l.zipIdx k).foldl (fun cs (p : Value × Nat) => cs.setIfInBounds (off + p.2) p.1) cs).size = cs.size ∧
    ∀ i, ((l.zipIdx k).foldl (fun cs (p : Value × Nat) => cs.setIfInBounds (off + p.2) p.1) cs)[i]? = if off + k ≤ i ∧ i < off + k + l.length then (if i < cs.size then l[i - (off + k)]? else none) else cs[i]? := by
  intro l
  induction l with
  | nil => intro k cs; simp; intro i h1 h2; omega
  | cons x l ih =>
    intro k cs
    simp only [List.zipIdx_cons, List.foldl_cons]
    obtain ⟨h1, h2⟩ := ih (k + 1) (cs.setIfInBounds (off + k) x)
    refine ⟨by simpa using h1, ?_⟩
    intro i
    rw [h2 i]
    simp only [Array.size_setIfInBounds, List.length_cons, Array.getElem?_setIfInBounds]
    by_cases hi : i = off + k
    · subst hi
      have c1 : ¬ (off + (k + 1) ≤ off + k ∧ off + k < off + (k + 1) + l.length) := by omega
      have c2 : off + k ≤ off + k ∧ off + k < off + k + (l.length + 1) := by omega
      rw [if_neg c1, if_pos rfl, if_pos c2]
      simp
    · have hi' : ¬ (off + k = i) := fun h => hi h.symm
      by_cases hr : off + (k + 1) ≤ i ∧ i < off + (k + 1) + l.length
      · have c2 : off + k ≤ i ∧ i < off + k + (l.length + 1) := by omega
        rw [if_pos hr, if_pos c2]
        have : i - (off + k) = (i - (off + (k + 1))) + 1 := by omega
        rw [this, List.getElem?_cons_succ]
      · have c2 : ¬ (off + k ≤ i ∧ i < off + k + (l.length + 1)) := by omega
        rw [if_neg hr, if_neg c2, if_neg hi']

theorem putCells_rep {z : List IV} {zs : Array Value} (hz : RepL β z zs) {off n : Nat} {v : IV} {u : Value} (hv0 : Rep β v u) {z' : List IV} (h : putCells z off n v = some z') :
    u.cells.size = n ∧ off + u.cells.size ≤ zs.size ∧ RepL β z' (u.cells.zipIdx.foldl (fun cs (p : Value × Nat) => cs.setIfInBounds (off + p.2) p.1) zs) := by
  unfold putCells at h
  split at h
  · rename_i hc
    cases h
    have hv := hv0.cells (notTup_ne hc.2.2)
    have hl := hv.1
    have hzl := hz.1
    refine ⟨by omega, by omega, ?_⟩
    have hf := foldl_set off u.cells.toList 0 zs
    have hfold : u.cells.zipIdx.foldl (fun cs (p : Value × Nat) => cs.setIfInBounds (off + p.2) p.1) zs = (u.cells.toList.zipIdx 0).foldl (fun cs (p : Value × Nat) => cs.setIfInBounds (off + p.2) p.1) zs := by
      rw [← Array.foldl_toList]; simp
    rw [hfold]
    refine ⟨?_, ?_, ?_⟩
    · rw [hf.1]; simp; omega
    · intro i x hx
      rw [hf.2 i] at hx
      split at hx
      · split at hx
        · exact hv.2.1 _ x (by simpa using hx)
        · cases hx
      · exact hz.2.1 i x hx
    · intro i c x hcx hx
      rw [hf.2 i] at hx
      by_cases h1 : i < off
      · rw [if_neg (by omega)] at hx
        rw [List.append_assoc, List.getElem?_append_left (by simp; omega), List.getElem?_take, if_pos h1] at hcx
        exact hz.2.2 i c x hcx hx
      · by_cases h2 : i < off + u.cells.size
        · rw [if_pos (by simp; omega), if_pos (by omega)] at hx
          rw [List.append_assoc, List.getElem?_append_right (by simp; omega), List.getElem?_append_left (by simp; omega)] at hcx
          refine hv.2.2 (i - off) c x ?_ (by simpa using hx)
          rw [List.length_take] at hcx
          rwa [show min off z.length = off by omega] at hcx
        · rw [if_neg (by simp; omega)] at hx
          rw [List.getElem?_append_right (by simp; omega), List.getElem?_drop] at hcx
          refine hz.2.2 i c x ?_ hx
          simp only [List.length_append, List.length_take] at hcx
          rwa [show off + n + (i - (min off z.length + v.cells.length)) = i by omega] at hcx
  · cases h

theorem buildGo_sound {place : Nat → Option (Nat × Nat)} (hev : ∀ x v, ev st x = some v → Rep β v (a.eval x)) :
    ∀ {parts : List (Nat × Operand)} {z z' : List IV} {zs : Array Value}, RepL β z zs → buildGo place st parts z = some z' →
      ∃ zs', Instr.fill place zs (parts.map fun p => (p.1, a.eval p.2)) = some zs' ∧ RepL β z' zs' := by
  intro parts
  induction parts with
  | nil => intro z z' zs hz h; simp [buildGo] at h; subst h; exact ⟨zs, by simp [Instr.fill], hz⟩
  | cons p rest ih =>
    intro z z' zs hz h
    obtain ⟨i, x⟩ := p
    simp only [buildGo] at h
    split at h
    · rename_i off n v h1 h2
      split at h
      · rename_i z1 h3
        obtain ⟨k1, k2, k3⟩ := putCells_rep hz (hev x v h2) h3
        obtain ⟨zs', hf, hr⟩ := ih k3 h
        refine ⟨zs', ?_, hr⟩
        simp only [List.map_cons, Instr.fill, h1]
        rw [if_neg (by simp; omega)]
        exact hf
      · cases h
    · cases h

end
end Go.Vs
