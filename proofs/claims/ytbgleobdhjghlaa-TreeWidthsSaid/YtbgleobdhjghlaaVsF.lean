/- Vs, part F: what changes the ideal memory keeps it true to the model's own. -/
import Derived.Test.YtbgleobdhjghlaaVsE
import Derived.Lib.SliceRun
set_option linter.unusedVariables false
set_option linter.unusedSimpArgs false
namespace Go.Vs
open Go.RowKit

theorem Rep.det_sl {β : Asg} {b : Nat} {u v : Value} (h : Rep β (.sl b) u) (k : Rep β (.sl b) v) : u = v := by
  obtain ⟨A, n, c, rfl, h1⟩ := h.sl_inv
  obtain ⟨A', n', c', rfl, h2⟩ := k.sl_inv
  rw [h1] at h2
  cases h2
  rfl

/-- The memory alone. -/
def SatB (X : Ctx) (β : Asg) (b : List (Option Blk)) (w : World) : Prop := Sat X β ⟨[], b⟩ ⟨#[], []⟩ w

section
variable {X : Ctx} {β : Asg} {st : St} {a : Act} {w w' : World}

theorem Sat.toB (h : Sat X β st a w) : SatB X β st.b w := ⟨rfl, fun i v hv => by simp [look_nil, look_zero, look_succ] at hv, h.blks, h.disj, h.bound, h.below, h.frm, rfl⟩
theorem SatB.to (h : SatB X β st.b w) (hl : st.t.length = a.tmps.size) (ht : ∀ i v, look st.t i = some v → ∃ u, a.tmps[i]? = some u ∧ Rep β v u) (hd : a.defers = []) : Sat X β st a w :=
  ⟨hl, ht, h.blks, h.disj, h.bound, h.below, h.frm, hd⟩
/-- the memory has gone on; the temporaries are as they were -/
theorem Sat.go {β' : Asg} {b' : List (Option Blk)} (h : Sat X β st a w) (hB : SatB X β' b' w') (hβ : ∀ b r, β b = some r → β' b = some r) : Sat X β' { st with b := b' } a w' :=
  SatB.to (st := { st with b := b' }) hB h.len (fun i v hv => by
    obtain ⟨u, hu, hr⟩ := h.tmps i v hv
    exact ⟨u, hu, hr.mono hβ⟩) h.defers
theorem Sat.agree_mono {β' : Asg} (h : Sat X β st a w) (hβ : ∀ b, b < st.b.length → β' b = β b) : ∀ b r, β b = some r → β' b = some r := by
  intro b r hb
  rw [hβ b ?_]; exact hb
  rcases Nat.lt_or_ge b st.b.length with h' | h'
  · exact h'
  · rw [h.bound b h'] at hb; cases hb

theorem ext_agree (β : Asg) (n : Nat) (r : Real) : ∀ b, b < n → ext β n r b = β b := by
  intro b hb; unfold ext; rw [if_neg (by omega)]

/-- A new block of the call's own. -/
theorem Sat.addOwn {k : Blk} {r : Real} (h : Sat X β st a w) (hk : Keeps w w') (hown : k.own = true) (hr : ∀ id, Uses (ext β st.b.length r) st.b.length id → w.heap.size ≤ id)
    (hb : BOk X (ext β st.b.length r) w' st.b.length k) : Sat X (ext β st.b.length r) (st.newB k) a w' :=
  h.add hk (fun id hu _ c k' hc hu' => by have h1 := uses_lt (h.blks c k' hc) hu'; have h2 := hr id hu; omega) (fun h0 => by rw [hown] at h0; cases h0) (fun id hu => by have h1 := h.frm.new (hr id hu.1); exact ⟨h1.1, fun _ => h1.2⟩) hb

theorem uses_blk {β : Asg} {n id id' : Nat} (h : Uses (ext β n (.blk id)) n id') : id' = id := by
  rcases h with h | ⟨a, m, c, h, _⟩
  · simp [ext] at h; exact h.symm
  · simp [ext] at h

theorem Sat.addVar (h : Sat X β st a w) (e : TypeId) (cells : List IV) (cs : Array Value) (hr : RepL β cells cs) :
    Sat X (ext β st.b.length (.blk w.heap.size)) (st.newB (.var e cells)) a (w.alloc (.cells cs e)) :=
  h.addOwn (Keeps.alloc w _) rfl (fun id hu => by rw [uses_blk hu]; exact Nat.le_refl _)
    ⟨w.heap.size, cs, by simp [ext], h.le, heap_alloc_new w _, hr.mono (ext_mono (h.bound _ (Nat.le_refl _)))⟩

theorem Sat.addInts (h : Sat X β st a w) (e : TypeId) (k : IntKind) (xs : List Int) (hx : ∀ x ∈ xs, inK k x) :
    Sat X (ext β st.b.length (.blk w.heap.size)) (st.newB (.ints e k xs)) a (w.alloc (.cells (xs.map (Value.int k)).toArray e)) :=
  h.addOwn (Keeps.alloc w _) rfl (fun id hu => by rw [uses_blk hu]; exact Nat.le_refl _)
    ⟨w.heap.size, by simp [ext], h.le, heap_alloc_new w _, hx⟩

theorem uses_slc {β : Asg} {n id : Nat} {A : Option Addr} {m c : Nat} (h : Uses (ext β n (.slc (.slice A m c))) n id) : ∃ a, A = some a ∧ a.block = id := by
  rcases h with h | ⟨a, m', c', h, rfl⟩
  · simp [ext] at h
  · simp [ext] at h; exact ⟨a, h.1, rfl⟩

theorem Sat.addNilRow (h : Sat X β st a w) (e : TypeId) (ks : List IntKind) (hk : 0 < ks.length) :
    Sat X (ext β st.b.length (.slc (.slice none 0 0))) (st.newB (.row e ks [])) a w :=
  h.addOwn (Keeps.refl w) rfl (fun id hu => by obtain ⟨a, ha, _⟩ := uses_slc hu; cases ha)
    ⟨none, 0, 0, by simp [ext], World.ownsRow_nil w X.B e ks.length, fun x hx => by simp at hx, hk⟩

/-- one block goes -/
theorem Sat.dropB (h : Sat X β st a w) (b : Nat) : Sat X β (st.dropB b) a w := by
  have lk : ∀ c k, look (st.dropB b).b c = some k → look st.b c = some k := by
    intro c k hc
    simp only [St.dropB] at hc
    rw [look_set] at hc
    split at hc
    · split at hc <;> cases hc
    · exact hc
  exact ⟨h.len, h.tmps, fun c k hc => h.blks c k (lk c k hc), fun c d k k' id hc hd => h.disj c d k k' id (lk c k hc) (lk d k' hd),
    fun c hc => h.bound c (by simpa [St.dropB] using hc), h.below, h.frm.sub (fun c k id hc hu => ⟨c, k, lk c k hc, hu, fun h => h⟩), h.defers⟩

/-- All blocks but one are as they were. -/
structure But (w w' : World) (id : Nat) : Prop where
  os : w'.os = w.os
  tape : w'.tape = w.tape
  output : w'.output = w.output
  size : w.heap.size ≤ w'.heap.size
  block : ∀ i, i < w.heap.size → i ≠ id → w'.heap[i]? = w.heap[i]?

theorem But.grownBy {id : Nat} (h : But w w' id) : w.grownBy w' (some id) := ⟨h.os, h.tape, h.output, h.size, fun k hk hne => h.block k hk (fun e => hne (by rw [e]))⟩
theorem But.setRow (w : World) (g : Nat) (cs : Array Value) : But w (w.setRow g cs) g := ⟨rfl, rfl, rfl, by simp, fun i hi hne => setRow_other w g i cs hne⟩

theorem BOk.but {id : Nat} {b : Nat} {k : Blk} (h : BOk X β w b k) (hB : But w w' id) (hu : ¬ UsesK β b k id) : BOk X β w' b k := by
  cases k with
  | var t cells =>
    obtain ⟨id', cs, h1, h2, h3, h4⟩ := h
    refine ⟨id', cs, h1, h2, (hB.block id' (heap_lt h3) ?_).trans h3, h4⟩
    rintro rfl
    exact hu ⟨.inl h1, .inl rfl⟩
  | ints t k xs =>
    obtain ⟨id', h1, h2, h3, h4⟩ := h
    refine ⟨id', h1, h2, (hB.block id' (heap_lt h3) ?_).trans h3, h4⟩
    rintro rfl
    exact hu ⟨.inl h1, .inl rfl⟩
  | row e ks xs =>
    obtain ⟨A, n, c, h1, h2, h3⟩ := h
    refine ⟨A, n, c, h1, h2.kept hB.grownBy ?_, h3⟩
    cases A with
    | none => exact .inl rfl
    | some ad =>
      refine .inr (fun e => ?_)
      simp only [Value.ownBlock, Option.some.injEq] at e
      exact hu ⟨.inr ⟨ad, n, c, h1, e⟩, .inl rfl⟩
  | ro ks xs =>
    obtain ⟨A, c, h1, h2, h3, h4⟩ := h
    refine ⟨A, c, h1, ?_, h3, h4⟩
    refine ⟨h2.1, h2.2.1, fun h0 => ?_⟩
    obtain ⟨g, o, e, hc⟩ := h2.2.2 h0
    subst e
    refine ⟨g, o, rfl, fun j u hj => ?_⟩
    have hcell := hc j u hj
    have hlt := World.block_lt_of_cell? w _ hcell
    refine (World.cell?_of_block (hB.block g hlt ?_)).trans hcell
    rintro rfl
    refine hu ⟨.inr ⟨_, _, _, h1, rfl⟩, .inr ?_⟩
    cases xs with
    | nil => simp at h0
    | cons x xs => exact ⟨ks, x, xs, rfl⟩

/-- A block of one's own turns; nobody else uses it. -/
theorem Sat.upd {b id : Nat} {k k' : Blk} (h : Sat X β st a w) (hb : look st.b b = some k) (hown : k.own = true) (hown' : k'.own = true) (hu : Uses β b id) (hid : X.B ≤ id)
    (hB : But w w' id) (hk' : BOk X β w' b k') : Sat X β (st.setB b k') a w' := by
  have lk : ∀ c k0, look (st.setB b k').b c = some k0 → (c = b ∧ k0 = k') ∨ (c ≠ b ∧ look st.b c = some k0) := by
    intro c k0 hc
    simp only [St.setB] at hc
    rw [look_set] at hc
    split at hc
    · rename_i e
      split at hc
      · cases hc; exact .inl ⟨e.symm, rfl⟩
      · cases hc
    · rename_i e
      exact .inr ⟨fun e' => e e'.symm, hc⟩
  refine ⟨h.len, h.tmps, ?_, ?_, ?_, ?_, ?_, h.defers⟩
  · intro c k0 hc
    rcases lk c k0 hc with ⟨rfl, rfl⟩ | ⟨hne, hc⟩
    · exact hk'
    · refine (h.blks c k0 hc).but hB (fun hu' => hne ?_)
      exact (h.disj b c k k0 id hb hc hown ⟨hu, .inl hown⟩ hu').symm
  · intro c d k1 k2 id' hc hd ho hu1 hu2
    rcases lk c k1 hc with ⟨rfl, rfl⟩ | ⟨hne, hc3⟩ <;> rcases lk d k2 hd with ⟨rfl, rfl⟩ | ⟨hne', hd3⟩
    · rfl
    · exact h.disj c d k k2 id' hb hd3 hown ⟨hu1.1, .inl hown⟩ hu2
    · exact h.disj c d k1 k id' hc3 hb ho hu1 ⟨hu2.1, .inl hown⟩
    · exact h.disj c d k1 k2 id' hc3 hd3 ho hu1 hu2
  · intro c hc
    exact h.bound c (by simpa [St.setB] using hc)
  · exact h.below.trans ⟨hB.os, hB.tape, hB.output, hB.size, fun i hi => hB.block i (Nat.lt_of_lt_of_le hi h.le) (by omega)⟩
  · refine ⟨Nat.le_trans h.le hB.size, fun i hi => ⟨Nat.lt_of_lt_of_le (h.frm.fr i hi).1 hB.size, (hB.block i (h.frm.fr i hi).1 ?_).trans (h.frm.fr i hi).2⟩, h.frm.fo, fun c k0 i hc hu' => ?_⟩
    · rintro rfl
      exact (h.frm.apart b k i hb ⟨hu, .inl hown⟩).2 hown hi
    · rcases lk c k0 hc with ⟨rfl, rfl⟩ | ⟨hne, hc⟩
      · have := h.frm.apart c k i hb ⟨hu'.1, .inl hown⟩
        exact ⟨this.1, fun _ => this.2 hown⟩
      · exact h.frm.apart c k0 i hc hu'

/-! ### kinds -/
theorem kindOf_spec {v : Value} {k : IntKind} (h : kindOf v = some k) : v = .int k 0 := by
  unfold kindOf at h
  split at h
  · split at h
    · rename_i h0; cases h; rw [h0]
    · cases h
  · cases h
theorem kinds_spec {P : Program} {e : TypeId} {ks : List IntKind} (h : kinds P e = some ks) :
    ∃ i z, P.info? e = some i ∧ i.zero = some z ∧ i.size = ks.length ∧ z.cells.toList = ks.map (fun k => Value.int k 0) ∧ 0 < ks.length ∧ 0 < i.bytes := by
  unfold kinds at h
  split at h
  · cases h
  · rename_i i hi
    split at h
    · cases h
    · rename_i z hz
      split at h
      · cases h
      · rename_i ks' hks
        split at h
        · rename_i hc
          cases h
          obtain ⟨h1, h2⟩ := mapM_some hks
          refine ⟨i, z, hi, hz, hc.1.symm, ?_, by omega, hc.2.2⟩
          apply List.ext_getElem?
          intro j
          by_cases hj : j < ks.length
          · have a1 : z.cells.toList[j]? = some z.cells.toList[j] := List.getElem?_eq_getElem (by omega)
            have a2 : ks[j]? = some ks[j] := List.getElem?_eq_getElem hj
            rw [a1, kindOf_spec (h2 j _ _ a1 a2)]
            simp [hj]
          · rw [List.getElem?_eq_none (by omega), List.getElem?_eq_none (by simp; omega)]
        · cases h

theorem inK_zero (k : IntKind) : inK k 0 := by cases k <;> exact ⟨by decide, by decide⟩

theorem elemT_spec {P : Program} {t e : TypeId} (h : elemT P t = some e) : P.underlying t = some (.slice e) := by
  unfold elemT at h
  split at h
  · cases h; assumption
  · cases h

/-! ### nil slices -/
theorem matz_sound {P : Program} : ∀ (ts : List TypeId) (cells : List IV) {st : St} {β : Asg} {cs : List Value}, Sat X β st a w → cells.length = cs.length →
    (∀ (i : Nat) c v, cells[i]? = some c → cs[i]? = some v → Rep β c v) →
    ∃ β', Sat X β' { st with b := st.b ++ (matz P st.b.length ts cells).2 } a w ∧ (matz P st.b.length ts cells).1.length = cs.length ∧
      (∀ (i : Nat) c v, (matz P st.b.length ts cells).1[i]? = some c → cs[i]? = some v → Rep β' c v) ∧ (∀ b, b < st.b.length → β' b = β b) ∧ (∀ b r, β b = some r → β' b = some r) := by
  intro ts
  induction ts with
  | nil =>
    intro cells st β cs h hl hr
    refine ⟨β, by simp [matz]; exact h, by simp [matz, hl], by simpa [matz] using hr, fun _ _ => rfl, fun _ _ h => h⟩
  | cons t ts ih =>
    intro cells st β cs h hl hr
    cases cells with
    | nil => exact ⟨β, by simp [matz]; exact h, by simpa [matz] using hl, by simp [matz], fun _ _ => rfl, fun _ _ h => h⟩
    | cons c cells =>
      cases cs with
      | nil => simp at hl
      | cons v cs =>
        have h0 : Rep β c v := hr 0 c v rfl rfl
        have hrest : ∀ (i : Nat) c v, cells[i]? = some c → cs[i]? = some v → Rep β c v := fun i c v hc hv => hr (i + 1) c v (by simpa using hc) (by simpa using hv)
        have hlr : cells.length = cs.length := by simpa using hl
        have other : (matz P st.b.length (t :: ts) (c :: cells)) = (c :: (matz P st.b.length ts cells).1, (matz P st.b.length ts cells).2) →
            ∃ β', Sat X β' { st with b := st.b ++ (matz P st.b.length (t :: ts) (c :: cells)).2 } a w ∧ (matz P st.b.length (t :: ts) (c :: cells)).1.length = (v :: cs).length ∧
              (∀ (i : Nat) c' v', (matz P st.b.length (t :: ts) (c :: cells)).1[i]? = some c' → (v :: cs)[i]? = some v' → Rep β' c' v') ∧ (∀ b, b < st.b.length → β' b = β b) ∧ (∀ b r, β b = some r → β' b = some r) := by
          intro e
          rw [e]
          obtain ⟨β', k1, k2, k3, k4, k5⟩ := ih cells h hlr hrest
          refine ⟨β', k1, by simp [k2], ?_, k4, k5⟩
          intro i c' v' hc hv
          cases i with
          | zero => simp at hc hv; subst hc; subst hv; exact h0.mono k5
          | succ i => simp at hc hv; exact k3 i c' v' hc hv
        by_cases hc : c = .nils
        · subst hc
          cases he : elemT P t with
          | none => exact other (by simp [matz, he])
          | some e =>
            cases hk : (elemT P t).bind (kinds P) with
            | none => exact other (by rw [he] at hk; simp at hk; simp [matz, he, hk])
            | some ks =>
              have hks : kinds P e = some ks := by rw [he] at hk; simpa using hk
              obtain ⟨i, z, _, _, _, _, hpos, _⟩ := kinds_spec hks
              have hadd := h.addNilRow e ks hpos
              have hn : β st.b.length = none := h.bound _ (Nat.le_refl _)
              have hm := ext_mono (r := .slc (.slice none 0 0)) hn
              obtain ⟨β', k1, k2, k3, k4, k5⟩ := ih cells hadd hlr (fun i c v hc hv => (hrest i c v hc hv).mono hm)
              have elen : (st.newB (.row e ks [])).b.length = st.b.length + 1 := by simp [St.newB]
              have em : matz P st.b.length (t :: ts) (IV.nils :: cells) = (.sl st.b.length :: (matz P (st.b.length + 1) ts cells).1, some (.row e ks []) :: (matz P (st.b.length + 1) ts cells).2) := by
                simp [matz, he, hks]
              rw [elen] at k1 k2 k3 k4
              rw [em]
              refine ⟨β', ?_, by simp [k2], ?_, ?_, fun b r hb => k5 b r (hm b r hb)⟩
              · simpa [St.newB, List.append_assoc] using k1
              · intro j c' v' hc hv
                cases j with
                | zero =>
                  simp at hc hv
                  subst hc; subst hv
                  have := h0.nils_inv
                  rw [this]
                  refine .sl (k5 _ _ ?_)
                  simp [ext]
                | succ j => simp at hc hv; exact k3 j c' v' hc hv
              · intro b hb
                rw [k4 b (by omega), ext_agree _ _ _ b hb]
        · exact other (by cases c <;> first | (exact absurd rfl hc) | rfl)

end
end Go.Vs
