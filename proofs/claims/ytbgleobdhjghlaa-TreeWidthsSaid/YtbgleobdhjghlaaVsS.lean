/- Vs, part S: cells that are whole numbers; structs of them compared. -/
import Derived.Test.YtbgleobdhjghlaaVsC
import Derived.DeepKeys
import Derived.Laws.StructEq
set_option linter.unusedVariables false
set_option linter.unusedSimpArgs false
namespace Go.Vs
open Go.RowKit
inductive IntsL : List IntKind → List Value → List Int → Prop
  | nil : IntsL [] [] []
  | cons {k x ks vs xs} (h : inK k x) (t : IntsL ks vs xs) : IntsL (k :: ks) (.int k x :: vs) (x :: xs)
theorem IntsL.append {ks ks' vs vs' xs xs'} (h : IntsL ks vs xs) (h' : IntsL ks' vs' xs') : IntsL (ks ++ ks') (vs ++ vs') (xs ++ xs') := by
  induction h with
  | nil => exact h'
  | cons hk t ih => exact .cons hk ih
theorem IntsL.len {ks vs xs} (h : IntsL ks vs xs) : vs.length = ks.length ∧ xs.length = ks.length := by
  induction h with
  | nil => exact ⟨rfl, rfl⟩
  | cons hk t ih => simp [ih.1, ih.2]
theorem IntsL.at {ks vs xs} (h : IntsL ks vs xs) : ∀ j, j < ks.length → vs[j]? = some (.int (ks.getD j .i64) (xs.getD j 0)) ∧ inK (ks.getD j .i64) (xs.getD j 0) := by
  induction h with
  | nil => intro j hj; simp at hj
  | cons hk t ih =>
    intro j hj
    cases j with
    | zero => simpa using hk
    | succ j => simpa using ih j (by simpa using hj)
theorem IntsL.split {ks ks' : List IntKind} : ∀ {vs xs}, IntsL (ks ++ ks') vs xs → IntsL ks (vs.take ks.length) (xs.take ks.length) ∧ IntsL ks' (vs.drop ks.length) (xs.drop ks.length) := by
  induction ks with
  | nil => intro vs xs h; exact ⟨by simpa using IntsL.nil, by simpa using h⟩
  | cons k ks ih =>
    intro vs xs h
    cases h with
    | cons hk t =>
      obtain ⟨h1, h2⟩ := ih t
      exact ⟨by simpa using IntsL.cons hk h1, by simpa using h2⟩
def lits (ks : List IntKind) (xs : List Int) : List Lit := List.zipWith Lit.int ks xs
theorem lits_append {ks ks' : List IntKind} {xs xs' : List Int} (h : xs.length = ks.length) : lits (ks ++ ks') (xs ++ xs') = lits ks xs ++ lits ks' xs' := by
  unfold lits
  rw [List.zipWith_append h.symm]
theorem lits_inj : ∀ {ks : List IntKind} {xs ys : List Int}, xs.length = ks.length → ys.length = ks.length → (lits ks xs = lits ks ys ↔ xs = ys) := by
  intro ks
  induction ks with
  | nil => intro xs ys h1 h2; simp at h1 h2; subst h1; subst h2; simp
  | cons k ks ih =>
    intro xs ys h1 h2
    cases xs with
    | nil => simp at h1
    | cons x xs =>
      cases ys with
      | nil => simp at h2
      | cons y ys =>
        have := ih (xs := xs) (ys := ys) (by simpa using h1) (by simpa using h2)
        unfold lits at this ⊢
        simp [this]

theorem mapM_congr' {α γ : Type} {f g : α → Option γ} : ∀ {l : List α}, (∀ a, a ∈ l → f a = g a) → l.mapM f = l.mapM g := by
  intro l
  induction l with
  | nil => intro _; rfl
  | cons x l ih =>
    intro h
    rw [List.mapM_cons, List.mapM_cons, h x (by simp), ih (fun a ha => h a (by simp [ha]))]

section
variable {P : Program}
theorem fields_lits {n : Nat} (ih : ∀ t ks cs xs, ckinds P n t = some ks → IntsL ks cs xs → P.keyLits n t cs = some (lits ks xs)) {cs : List Value} :
    ∀ (fs : List Field) (off : Nat) l kk xs, fs.mapM (fun (f : Field) => (ckinds P n f.type).map fun ks => (f.offset, P.cellsOf f.type, ks)) = some l → fieldsC cs.length off l = some kk → IntsL kk (cs.drop off) xs →
      (fs.mapM fun (f : Field) => P.keyLits n f.type ((cs.drop f.offset).take (P.cellsOf f.type))).map List.flatten = some (lits kk xs) := by
  intro fs
  induction fs with
  | nil =>
    intro off l kk xs hl hk hx
    simp at hl
    subst hl
    simp only [fieldsC] at hk
    split at hk
    · cases hk
      simp [lits]
    · cases hk
  | cons f fs ihf =>
    intro off l kk xs hl hk hx
    simp only [List.mapM_cons, Option.pure_def, Option.bind_eq_bind, Option.bind_eq_some_iff, Option.map_eq_some_iff, Option.some.injEq] at hl
    obtain ⟨_, ⟨ks, hks, rfl⟩, l', hl', rfl⟩ := hl
    simp only [fieldsC] at hk
    split at hk
    · rename_i hc
      obtain ⟨ho, hn⟩ := hc
      simp only [Option.map_eq_some_iff] at hk
      obtain ⟨kk', hk', rfl⟩ := hk
      obtain ⟨s1, s2⟩ := hx.split
      rw [List.drop_drop] at s2
      have h1 := ih _ _ _ _ hks s1
      have h2 := ihf _ _ _ _ hl' hk' (by rw [← hn]; exact s2)
      simp only [Option.map_eq_some_iff] at h2
      obtain ⟨ls, h2, h3⟩ := h2
      rw [hn, ← ho] at h1
      simp only [List.mapM_cons, h1, h2, Option.pure_def, Option.bind_eq_bind, Option.bind_some, Option.map_some, List.flatten_cons, h3]
      have hlen : (xs.take ks.length).length = ks.length := s1.len.2
      rw [← hn]
      have e2 : lits (ks ++ kk') xs = lits ks (xs.take ks.length) ++ lits kk' (xs.drop ks.length) := by rw [← lits_append hlen, List.take_append_drop]
      rw [e2]
    · cases hk

theorem items_lits {n : Nat} {e : TypeId} {ks : List IntKind} (hn : ks.length = P.cellsOf e) (ih : ∀ cs xs, IntsL ks cs xs → P.keyLits n e cs = some (lits ks xs)) :
    ∀ (m : Nat) {cs : List Value} {xs : List Int}, IntsL (List.replicate m ks).flatten cs xs →
      ((List.range m).mapM fun i => P.keyLits n e ((cs.drop (i * P.cellsOf e)).take (P.cellsOf e))).map List.flatten = some (lits (List.replicate m ks).flatten xs) := by
  intro m
  induction m with
  | zero => intro cs xs hx; simp [lits]
  | succ m ihm =>
    intro cs xs hx
    rw [List.replicate_succ', List.flatten_append] at hx
    obtain ⟨s1, s2⟩ := hx.split
    have hL : (List.replicate m ks).flatten.length = m * ks.length := by simp
    rw [hL] at s1 s2
    have h1 := ihm s1
    simp only [Option.map_eq_some_iff] at h1
    obtain ⟨ls, h1, h3⟩ := h1
    have s2' : IntsL ks (cs.drop (m * ks.length)) (xs.drop (m * ks.length)) := by simpa using s2
    have h2 := ih _ _ s2'
    have hpre : (List.range m).mapM (fun i => P.keyLits n e ((cs.drop (i * P.cellsOf e)).take (P.cellsOf e))) = some ls := by
      rw [← h1]
      refine mapM_congr' ?_
      intro i hi
      have hi' : i < m := by simpa using hi
      congr 1
      rw [List.drop_take, List.take_take, ← hn]
      congr 1
      have : (i + 1) * ks.length ≤ m * ks.length := Nat.mul_le_mul_right _ hi'
      rw [Nat.add_mul] at this
      omega
    have hl2 : (cs.drop (m * ks.length)).length = ks.length := s2'.len.1
    have e1 : (cs.drop (m * P.cellsOf e)).take (P.cellsOf e) = cs.drop (m * ks.length) := by
      rw [← hn]
      exact List.take_of_length_le (by rw [hl2]; exact Nat.le_refl _)
    rw [List.range_succ, List.mapM_append]
    simp only [List.mapM_cons, List.mapM_nil, hpre, e1, h2, Option.pure_def, Option.bind_eq_bind, Option.bind_some, Option.map_some, List.flatten_append, h3]
    rw [List.replicate_succ', List.flatten_append]
    have hlen : (xs.take (m * ks.length)).length = (List.replicate m ks).flatten.length := by rw [hL, s1.len.2, hL]
    have e2 : lits ((List.replicate m ks).flatten ++ [ks].flatten) xs = lits (List.replicate m ks).flatten (xs.take (m * ks.length)) ++ lits [ks].flatten (xs.drop (m * ks.length)) := by rw [← lits_append hlen, List.take_append_drop]
    rw [e2]
    simp

theorem keyLits_flat : ∀ (n : Nat) {t : TypeId} {ks : List IntKind} {cs : List Value} {xs : List Int}, ckinds P n t = some ks → IntsL ks cs xs → P.keyLits n t cs = some (lits ks xs) := by
  intro n
  induction n with
  | zero => intro t ks cs xs h; simp [ckinds] at h
  | succ n ih =>
    intro t ks cs xs h hx
    simp only [ckinds] at h
    split at h
    · rename_i k hu
      cases h
      cases hx with
      | cons hk t =>
        cases t
        simp [Program.keyLits, hu, lits, Lit.wf]
        exact hk
    · rename_i fs hu
      split at h
      rotate_left
      · cases h
      rename_i hnm
      simp only [Option.bind_eq_some_iff] at h
      obtain ⟨l, hl, hk⟩ := h
      have hlen : cs.length = P.cellsOf t := by
        rw [hx.len.1]
        exact (fieldsC_len hl hk)
      rw [← hlen] at hk
      have := fields_lits (fun t ks cs xs h hx => ih h hx) fs.toList 0 l ks xs hl hk (by simpa using hx)
      simp only [Program.keyLits, hu, hlen, hnm, true_and, if_true]
      simpa [hlen] using this
    · rename_i m e hu
      simp only [Option.bind_eq_some_iff] at h
      obtain ⟨ks', hk', h⟩ := h
      split at h
      rotate_left
      · cases h
      rename_i hc
      cases h
      have hlen : cs.length = P.cellsOf t := by
        rw [hx.len.1, hc.2, ← hc.1]
        simp
      have := items_lits (n := n) hc.1 (fun cs xs hx => ih hk' hx) m hx
      simp only [Program.keyLits, hu, hlen, if_true]
      exact this
    · cases h
where
  fieldsC_len {fs : List Field} {n : Nat} {l : List (Nat × Nat × List IntKind)} {T : Nat} {kk : List IntKind} (hl : fs.mapM (fun (f : Field) => (ckinds P n f.type).map fun ks => (f.offset, P.cellsOf f.type, ks)) = some l) (hk : fieldsC T 0 l = some kk) : kk.length = T := by
    have key : ∀ (l : List (Nat × Nat × List IntKind)) off kk, fieldsC T off l = some kk → off + kk.length = T := by
      intro l
      induction l with
      | nil => intro off kk h; simp only [fieldsC] at h; split at h; cases h; simpa using ‹off = T›; cases h
      | cons p l ih =>
        obtain ⟨o, n, ks⟩ := p
        intro off kk h
        simp only [fieldsC] at h
        split at h
        · rename_i hc
          simp only [Option.map_eq_some_iff] at h
          obtain ⟨kk', h1, rfl⟩ := h
          have := ih _ _ h1
          simp
          omega
        · cases h
    simpa using key l 0 kk hk

theorem cellKs_ints {β : Asg} : ∀ {ks : List IntKind} {cs : List IV} {us : List Value}, cellKs ks cs = true → cs.length = us.length → (∀ (i : Nat) c v, cs[i]? = some c → us[i]? = some v → Rep β c v) → ∃ xs, IntsL ks us xs ∧ cs = List.zipWith IV.int ks xs := by
  intro ks
  induction ks with
  | nil =>
    intro cs us h hl hr
    cases cs with
    | nil =>
      have : us = [] := List.eq_nil_of_length_eq_zero (by simpa using hl.symm)
      subst this
      exact ⟨[], .nil, rfl⟩
    | cons c cs => simp [cellKs] at h
  | cons k ks ih =>
    intro cs us h hl hr
    cases cs with
    | nil => simp [cellKs] at h
    | cons c cs =>
      cases us with
      | nil => simp at hl
      | cons u us =>
        cases c <;> simp [cellKs] at h
        rename_i k' n
        obtain ⟨rfl, h⟩ := h
        obtain ⟨xs, h1, h2⟩ := ih h (by simpa using hl) (fun i c v hc hv => hr (i + 1) c v (by simpa using hc) (by simpa using hv))
        obtain ⟨rfl, hin⟩ := (hr 0 _ u rfl rfl).int_inv
        exact ⟨n :: xs, .cons hin h1, by simp [h2]⟩

theorem eqCells_zip : ∀ {ks : List IntKind} {xs ys : List Int}, xs.length = ks.length → ys.length = ks.length → (eqCells (List.zipWith IV.int ks xs) (List.zipWith IV.int ks ys) = true ↔ xs = ys) := by
  intro ks
  induction ks with
  | nil => intro xs ys h1 h2; simp at h1 h2; subst h1; subst h2; simp [eqCells]
  | cons k ks ih =>
    intro xs ys h1 h2
    cases xs with
    | nil => simp at h1
    | cons x xs =>
      cases ys with
      | nil => simp at h2
      | cons y ys =>
        have := ih (xs := xs) (ys := ys) (by simpa using h1) (by simpa using h2)
        simp [eqCells, this]

theorem eqAgg_run {β : Asg} {t : TypeId} {cs ds : List IV} {xs ys : Array Value} {b : Bool} (w : World) (hb : eqAgg P t cs ds = some b) (hx : RepL β cs xs) (hy : RepL β ds ys) :
    P.eqGuardType P.depth t = false ∧ (Op.equalIn 10000 t (.agg xs) (.agg ys)).run P w = .ok b w := by
  unfold eqAgg at hb
  split at hb
  · rename_i ks hks
    split at hb
    · rename_i hc
      simp only [Bool.and_eq_true, Bool.not_eq_true'] at hc
      obtain ⟨⟨⟨⟨h1, h2⟩, h3⟩, h4⟩, h5⟩ := hc
      cases hb
      obtain ⟨us, i1, e1⟩ := cellKs_ints (β := β) h1 (by rw [Array.length_toList]; exact hx.1) (fun i c v hc hv => hx.2.2 i c v hc (by simpa using hv))
      obtain ⟨vs, i2, e2⟩ := cellKs_ints (β := β) h2 (by rw [Array.length_toList]; exact hy.1) (fun i c v hc hv => hy.2.2 i c v hc (by simpa using hv))
      have l1 := keyLits_flat 8 hks i1
      have l2 := keyLits_flat 8 hks i2
      have hform : ∀ zs : Array Value, zs.toList.length = ks.length → (Value.agg zs).formed P t = true := by
        intro zs hz
        unfold Value.formed
        unfold isAggC at h5
        split at h5
        · rename_i hu
          rw [hu]
          simp only
          simp at hz h5
          rw [hz]
          simpa using h5
        · rename_i hu
          rw [hu]
          simp only
          simp at hz h5
          rw [hz]
          simpa using h5
        · cases h5
      have hEq := run_equalIn_deep (P := P) 9991 9 t h3 w 8 8 (.agg xs) (.agg ys) _ _ (hform xs i1.len.1) (hform ys i2.len.1) l1 l2
      obtain ⟨r, hr, hiff⟩ := hEq
      refine ⟨h4, ?_⟩
      have e : r = eqCells cs ds := by
        rw [e1, e2]
        have := eqCells_zip (ks := ks) i1.len.2 i2.len.2
        rw [lits_inj i1.len.2 i2.len.2] at hiff
        cases hr' : r with
        | true => exact (this.2 (hiff.1 hr')).symm
        | false =>
          cases hq : eqCells (List.zipWith IV.int ks us) (List.zipWith IV.int ks vs) with
          | false => rfl
          | true =>
            have := hiff.2 (this.1 hq)
            rw [hr'] at this
            cases this
      rw [← e]
      exact hr
    · cases hb
  · cases hb
end
end Go.Vs
