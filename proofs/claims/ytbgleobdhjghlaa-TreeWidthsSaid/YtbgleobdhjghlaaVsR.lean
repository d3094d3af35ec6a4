/- Vs, part R: a law's arguments opened, its row's frame. -/
import Derived.Test.YtbgleobdhjghlaaVsQ
import Derived.ProofKit
import Derived.Deep.Slices
set_option linter.unusedVariables false
set_option linter.unusedSimpArgs false
namespace Go.Vs
open Go.RowKit Go.ChangeShapes Go.WideShapes Go.ChangeAt

section
variable {H : Type} {enc : TypeId × Value → H} {P : Program} {w : World} {base : Nat} {spare : Nat → Bool} {held : Bool}

theorem fields_flat {n fuel : Nat} (ih : ∀ t ks cs x, ckinds P n t = some ks → DataW.trod enc P w base spare held fuel t cs = some x → ∃ xs, IntsL ks cs xs) {cs : List Value} :
    ∀ (fs : List Field) (off : Nat) l ys kk, fs.mapM (fun (f : Field) => (ckinds P n f.type).map fun ks => (f.offset, P.cellsOf f.type, ks)) = some l → fieldsC cs.length off l = some kk →
      fs.mapM (fun (f : Field) => DataW.trod enc P w base spare held fuel f.type ((cs.drop f.offset).take (P.cellsOf f.type))) = some ys → ∃ xs, IntsL kk (cs.drop off) xs := by
  intro fs
  induction fs with
  | nil =>
    intro off l ys kk hl hk hy
    simp at hl
    subst hl
    simp only [fieldsC] at hk
    split at hk
    · cases hk
      rename_i e
      subst e
      exact ⟨[], by simpa using IntsL.nil⟩
    · cases hk
  | cons f fs ihf =>
    intro off l ys kk hl hk hy
    simp only [List.mapM_cons, Option.pure_def, Option.bind_eq_bind, Option.bind_eq_some_iff, Option.map_eq_some_iff, Option.some.injEq] at hl hy
    obtain ⟨_, ⟨ks, hks, rfl⟩, l', hl', rfl⟩ := hl
    obtain ⟨y, hy1, ys', hy2, rfl⟩ := hy
    simp only [fieldsC] at hk
    split at hk
    · rename_i hc
      obtain ⟨ho, hn⟩ := hc
      simp only [Option.map_eq_some_iff] at hk
      obtain ⟨kk', hk', rfl⟩ := hk
      obtain ⟨x1, h1⟩ := ih _ _ _ _ hks hy1
      obtain ⟨x2, h2⟩ := ihf _ _ _ _ hl' hk' hy2
      refine ⟨x1 ++ x2, ?_⟩
      have := h1.append h2
      rw [ho, ← List.drop_drop, List.take_append_drop] at this
      exact this
    · cases hk

theorem items_flat {n fuel : Nat} {e : TypeId} {ks : List IntKind} (hn : ks.length = P.cellsOf e) (ih : ∀ cs x, DataW.trod enc P w base spare held fuel e cs = some x → ∃ xs, IntsL ks cs xs) :
    ∀ (m : Nat) {cs : List Value} {ys}, cs.length = m * ks.length → (List.range m).mapM (fun i => DataW.trod enc P w base spare held fuel e ((cs.drop (i * P.cellsOf e)).take (P.cellsOf e))) = some ys →
      ∃ xs, IntsL (List.replicate m ks).flatten cs xs := by
  intro m
  induction m with
  | zero =>
    intro cs ys hl _
    have : cs = [] := List.eq_nil_of_length_eq_zero (by simpa using hl)
    subst this
    exact ⟨[], .nil⟩
  | succ m ihm =>
    intro cs ys hl hy
    obtain ⟨hyl, hy'⟩ := mapM_some hy
    have hpre : (List.range m).mapM (fun i => DataW.trod enc P w base spare held fuel e (((cs.take (m * ks.length)).drop (i * P.cellsOf e)).take (P.cellsOf e))) = some (ys.take m) := by
      rw [List.range_succ, List.mapM_append] at hy
      simp only [Option.bind_eq_bind, Option.bind_eq_some_iff, Option.pure_def, Option.some.injEq] at hy
      obtain ⟨y1, h1, y2, h2, rfl⟩ := hy
      have hl1 : y1.length = m := by have := (mapM_some h1).1; simpa using this.symm
      rw [List.take_left' hl1, ← h1]
      refine mapM_congr' ?_
      intro i hi
      have hi' : i < m := by simpa using hi
      congr 1
      rw [List.drop_take, List.take_take, ← hn]
      congr 1
      have : (i + 1) * ks.length ≤ m * ks.length := Nat.mul_le_mul_right _ hi'
      rw [Nat.add_mul] at this
      omega
    obtain ⟨x1, h1⟩ := ihm (cs := cs.take (m * ks.length)) (by rw [List.length_take, hl]; rw [Nat.add_mul]; omega) hpre
    have hlast := hy' m m ys[m]! (by simp) (by
      have : m < ys.length := by simp at hyl; omega
      simp [this])
    obtain ⟨x2, h2⟩ := ih _ _ hlast
    refine ⟨x1 ++ x2, ?_⟩
    rw [List.replicate_succ', List.flatten_append]
    have h3 := h1.append h2
    rw [← hn] at h3
    have e1 : (cs.drop (m * ks.length)).take ks.length = cs.drop (m * ks.length) := by
      apply List.take_of_length_le
      rw [List.length_drop, hl, Nat.add_mul]
      omega
    rw [e1, List.take_append_drop] at h3
    simpa using h3

theorem trod_flat : ∀ (n : Nat) {t : TypeId} {ks : List IntKind} {fuel : Nat} {cs : List Value} {x : DataW H × List MemPlace}, ckinds P n t = some ks → DataW.trod enc P w base spare held fuel t cs = some x → ∃ xs, IntsL ks cs xs := by
  intro n
  induction n with
  | zero => intro t ks fuel cs x h; simp [ckinds] at h
  | succ n ih =>
    intro t ks fuel cs x h hx
    cases fuel with
    | zero => simp [DataW.trod] at hx
    | succ fuel =>
      simp only [ckinds] at h
      split at h
      · rename_i k hu
        cases h
        obtain ⟨n, rfl, _, hwf⟩ := DataW.trod_int hu hx
        refine ⟨[_], .cons ?_ .nil⟩
        simpa [Lit.wf, inK] using hwf
      · rename_i fs hu
        split at h
        rotate_left
        · cases h
        simp only [Option.bind_eq_some_iff] at h
        obtain ⟨l, hl, hk⟩ := h
        unfold DataW.trod at hx
        rw [hu] at hx
        simp only at hx
        split at hx
        · rename_i hlen
          simp only [Option.map_eq_some_iff] at hx
          obtain ⟨ys, hys, rfl⟩ := hx
          rw [← hlen] at hk
          obtain ⟨xs, h1⟩ := fields_flat (enc := enc) (w := w) (base := base) (spare := spare) (held := held) (cs := cs) (fun t ks cs x h hx => ih h hx) fs.toList 0 l ys ks hl hk hys
          exact ⟨xs, by simpa using h1⟩
        · cases hx
      · rename_i m e hu
        simp only [Option.bind_eq_some_iff] at h
        obtain ⟨ks', hk', h⟩ := h
        split at h
        rotate_left
        · cases h
        rename_i hc
        cases h
        unfold DataW.trod at hx
        rw [hu] at hx
        simp only at hx
        split at hx
        · rename_i hlen
          simp only [Option.map_eq_some_iff] at hx
          obtain ⟨ys, hys, rfl⟩ := hx
          exact items_flat (enc := enc) (w := w) (base := base) (spare := spare) (held := held) (n := ks'.length) hc.1 (fun cs x hx => ih hk' hx) m (by rw [hlen, hc.2, hc.1]) hys
        · cases hx
      · cases h

/-! ### arguments, one behind the other -/
def Opened (W : World) (as : List IV) (bs : List Blk) (vs : List Value) : Prop :=
  ∃ β, SatB { w0 := W, B := W.heap.size, A0 := fun _ => True } β (bs.map some) W ∧ (∀ k ∈ bs, k.own = false) ∧ as.length = vs.length ∧ ∀ (i : Nat) c v, as[i]? = some c → vs[i]? = some v → Rep β c v

theorem Opened.nil {W : World} : Opened W [] [] [] := by
  refine ⟨fun _ => none, ⟨rfl, fun i v hv => by simp [look_nil, look_zero, look_succ] at hv, fun b k hb => by simp [look_nil, look_zero, look_succ] at hb, fun b c k k' id hb => by simp [look_nil, look_zero, look_succ] at hb, fun _ _ => rfl, Below.refl _ _, ⟨Nat.le_refl _, fun _ h => h.elim, fun _ h => h.elim, fun _ _ _ _ _ => ⟨fun h => h, fun _ h => h⟩⟩, rfl⟩, by simp, rfl, by simp⟩

theorem Opened.push {W : World} {as bs vs} (h : Opened W as bs vs) {c : IV} {v : Value} (hr : ∀ β, Rep β c v) : Opened W (as ++ [c]) bs (vs ++ [v]) := by
  obtain ⟨β, hS, ho, hl, hrep⟩ := h
  refine ⟨β, hS, ho, by simp [hl], ?_⟩
  intro i c' v' hc hv
  rw [List.getElem?_append] at hc hv
  rw [hl] at hc
  split at hc
  · rename_i hi
    rw [if_pos hi] at hv
    exact hrep i c' v' hc hv
  · rename_i hi
    rw [if_neg hi] at hv
    have : i - vs.length = 0 := by have := (List.getElem?_eq_some_iff.1 hc).1; simp at this; omega
    rw [this] at hc hv
    simp at hc hv
    subst hc; subst hv
    exact hr β

/-- a whole number -/
theorem Opened.int {W : World} {as bs vs} (h : Opened W as bs vs) {t : TypeId} {k : IntKind} {v : Value} {d : DataW H} {p : List MemPlace} {r : Reach} {b0 : Nat} (ht : P.underlying t = some (.int k)) (hval : Value.okWide P w r b0 t v)
    (hd : DataW.Trod enc P w base spare held t v d p) : ∃ n, inK k n ∧ Opened W (as ++ [.int k n]) bs (vs ++ [v]) := by
  obtain ⟨n, rfl, _, _, hw⟩ := open_int ht hval hd
  have : inK k n := by simpa [Lit.wf, inK] using hw
  exact ⟨n, this, h.push fun β => .int this⟩

/-- a struct of whole numbers -/
theorem Opened.struct {W : World} {as bs vs} (h : Opened W as bs vs) {t : TypeId} {fs : Array Field} {ks : List IntKind} {v : Value} {d : DataW H} {p : List MemPlace} {r : Reach} {b0 : Nat} (ht : P.underlying t = some (.struct fs)) (hk : ckinds P 8 t = some ks) (hval : Value.okWide P w r b0 t v)
    (hd : DataW.Trod enc P w base spare held t v d p) : ∃ xs, xs.length = ks.length ∧ (∀ j, j < ks.length → inK (ks.getD j .i64) (xs.getD j 0)) ∧ Opened W (as ++ [.agg (rowCells ks [xs] 0 0 ks.length)]) bs (vs ++ [v]) := by
  obtain ⟨cs, rfl, hsz⟩ := okWide_struct ht hval
  obtain ⟨fuel, hf⟩ := hd
  obtain ⟨xs, hx⟩ := trod_flat (enc := enc) 8 hk hf
  have hx' : IntsL ks cs.toList xs := hx
  refine ⟨xs, hx'.len.2, fun j hj => (hx'.at j hj).2, h.push fun β => .agg ?_ ?_ ?_⟩
  · have := hx'.len.1; simp [rowCells]; simpa using this.symm
  · intro i v hv
    have hi : i < ks.length := by have := (Array.getElem?_eq_some_iff.1 hv).1; have h2 := hx'.len.1; simp at h2; omega
    have h3 := (hx'.at i hi).1
    rw [Array.getElem?_toList, hv] at h3
    cases h3
    rfl
  · intro i c v hc hv
    have hi : i < ks.length := by have := (Array.getElem?_eq_some_iff.1 hv).1; have h2 := hx'.len.1; simp at h2; omega
    have h3 := (hx'.at i hi).1
    rw [Array.getElem?_toList, hv] at h3
    cases h3
    simp [rowCells, hi] at hc
    subst hc
    have h5 := Rep.int (β := β) (hx'.at i hi).2
    simpa [rd, List.getD, List.getElem?_eq_getElem hi] using h5

/-- a slice whose elements are whole numbers, or structs of such -/
theorem Opened.slice {W : World} {as bs vs} (h : Opened W as bs vs) {t e : TypeId} {ks : List IntKind} {v : Value} {d : DataW H} {p : List MemPlace} {r : Reach} {b0 : Nat} (ht : P.underlying t = some (.slice e)) (hk : ckinds P 8 e = some ks) (hpos : 0 < ks.length) (hc : P.cellsOf e = ks.length) (hval : Value.okWide P W r b0 t v)
    (hd : DataW.Trod enc P W base spare held t v d p) : ∃ xs, (∀ x ∈ xs, x.length = ks.length) ∧ okRows ks xs ∧ xs.length ≤ maxLen ∧ Opened W (as ++ [.sl bs.length]) (bs ++ [.ro ks xs]) (vs ++ [v]) := by
  obtain ⟨A, len, cap, rfl⟩ := okWide_slice ht hval
  obtain ⟨fuel, hf⟩ := hd
  obtain ⟨β, hS, ho, hl, hrep⟩ := h
  suffices hsuff : ∃ xs, (∀ x ∈ xs, x.length = ks.length) ∧ okRows ks xs ∧ xs.length = len ∧ Reads W ks A cap xs by
    obtain ⟨xs, h1, h2, h3, h4⟩ := hsuff
    refine ⟨xs, h1, h2, Nat.le_trans h4.1 h4.2.1, ext β bs.length (.slc (.slice A len cap)), ?_, ?_, by simp [hl], ?_⟩
    · have hn : β bs.length = none := hS.bound _ (by simp)
      have hm := ext_mono (r := .slc (.slice A len cap)) hn
      have lk : ∀ b k, look ((bs ++ [Blk.ro ks xs]).map some) b = some k → (b < bs.length ∧ look (bs.map some) b = some k) ∨ (b = bs.length ∧ k = .ro ks xs) := by
        intro b k hb
        rw [List.map_append, look_app] at hb
        split at hb
        · rename_i hlt; exact .inl ⟨by simpa using hlt, hb⟩
        · rename_i hge
          simp only [List.length_map] at hb hge
          have hz : b - bs.length = 0 := by
            have := look_lt hb
            simp at this
            omega
          rw [hz] at hb
          simp [look_nil, look_zero, look_succ] at hb
          exact .inr ⟨by omega, hb.symm⟩
      have hown : ∀ b k, look ((bs ++ [Blk.ro ks xs]).map some) b = some k → k.own = false := by
        intro b k hb
        rcases lk b k hb with ⟨_, h5⟩ | ⟨_, rfl⟩
        · refine ho k ?_
          rw [look_some] at h5
          simp only [List.getElem?_map, Option.map_eq_some_iff] at h5
          obtain ⟨x, hx, hxk⟩ := h5
          cases hxk
          exact List.mem_of_getElem? hx
        · rfl
      refine ⟨rfl, fun i v hv => by simp [look_nil, look_zero, look_succ] at hv, ?_, ?_, ?_, hS.below, ⟨hS.le, fun _ h => h.elim, fun _ h => h.elim, fun _ _ _ _ _ => ⟨fun h => h, fun _ h => h⟩⟩, rfl⟩
      · intro b k hb
        rcases lk b k hb with ⟨_, h5⟩ | ⟨rfl, rfl⟩
        · exact (hS.blks b k h5).mono hm
        · exact ⟨A, cap, by simp [ext, h3], h4, h2, hpos, fun _ _ _ => .inl trivial⟩
      · intro b c k k' id hb hc' hown'
        rw [hown b k hb] at hown'
        cases hown'
      · intro b hb
        simp at hb
        unfold ext
        rw [if_neg (by omega)]
        exact hS.bound _ (by simp; omega)
    · intro k hk'
      rcases List.mem_append.1 hk' with h5 | h5
      · exact ho k h5
      · simp at h5; subst h5; rfl
    · have hn : β bs.length = none := hS.bound _ (by simp)
      have hm := ext_mono (r := .slc (.slice A len cap)) hn
      intro i c' v' hc' hv
      rw [List.getElem?_append] at hc' hv
      rw [hl] at hc'
      split at hc'
      · rename_i hi
        rw [if_pos hi] at hv
        exact (hrep i c' v' hc' hv).mono hm
      · rename_i hi
        rw [if_neg hi] at hv
        have : i - vs.length = 0 := by have := (List.getElem?_eq_some_iff.1 hc').1; simp at this; omega
        rw [this] at hc' hv
        simp at hc' hv
        subst hc'; subst hv
        exact .sl (by simp [ext])
  rcases Go.Deep.open_slice (enc := enc) ht hf with ⟨hcs, _⟩ | ⟨a, len', cap', m, n, D, Pl, hcs, hb, hle, hcap, hm, _, hel⟩
  · simp [Value.cells] at hcs
    obtain ⟨rfl, rfl, rfl⟩ := hcs
    exact ⟨[], by simp, by intro x hx; simp at hx, rfl, Nat.le_refl _, by simp [maxLen], fun h0 => by simp at h0⟩
  · simp [Value.cells] at hcs
    obtain ⟨rfl, rfl, rfl⟩ := hcs
    have hlm : len ≤ m := by rw [hm]; split <;> omega
    have hx : ∀ i, ∃ xs, i < len → (∃ cs', W.cells? base (a.add (i * ks.length)) ks.length = some cs' ∧ IntsL ks cs' xs) := by
      intro i
      by_cases hi : i < len
      · obtain ⟨cs', h1, h2⟩ := hel i (by omega)
        obtain ⟨xs, h3⟩ := trod_flat (enc := enc) 8 hk h2
        rw [hc] at h1
        exact ⟨xs, fun _ => ⟨cs', h1, h3⟩⟩
      · exact ⟨[], fun h0 => absurd h0 hi⟩
    obtain ⟨X, hX⟩ := Classical.axiomOfChoice hx
    have hget : ∀ i, i < len → ((List.range len).map X)[i]? = some (X i) := by intro i hi; simp [hi]
    have hcell : ∀ i j, i < len → j < ks.length → W.cell? ((a.add (i * ks.length)).add j) = some (.int (ks.getD j .i64) ((X i).getD j 0)) ∧ inK (ks.getD j .i64) ((X i).getD j 0) := by
      intro i j hi hj
      obtain ⟨cs', h1, h2⟩ := hX i hi
      obtain ⟨h3, h4⟩ := h2.at j hj
      refine ⟨?_, h4⟩
      unfold World.cells? at h1
      split at h1
      · have h5 := (mapM_some h1).2 j j (.int (ks.getD j .i64) ((X i).getD j 0)) (by simp [hj]) h3
        exact h5
      · cases h1
    have hspot : 0 < len → a.spot = none := by
      intro h0
      have h1 := (hcell 0 0 h0 hpos).1
      have e : (a.add (0 * ks.length)).add 0 = a := by simp [Addr.add]
      rw [e] at h1
      unfold World.cell? at h1
      split at h1
      · cases hsp : a.spot with
        | none => rfl
        | some _ => simp [hsp] at h1
      · cases h1
    refine ⟨(List.range len).map X, ?_, ?_, by simp, by simpa using hle, hcap, ?_⟩
    · intro x hx'
      simp only [List.mem_map, List.mem_range] at hx'
      obtain ⟨i, hi, rfl⟩ := hx'
      obtain ⟨cs', _, h2⟩ := hX i hi
      exact h2.len.2
    · intro x hx' j hj
      simp only [List.mem_map, List.mem_range] at hx'
      obtain ⟨i, hi, rfl⟩ := hx'
      exact (hcell i j hi hj).2
    · intro h0
      have h0' : 0 < len := by simpa using h0
      obtain ⟨g, o, sp⟩ := a
      have hs := hspot h0'
      simp only at hs
      subst hs
      refine ⟨g, o, rfl, ?_⟩
      intro j u hu
      have hjlt : j < len * ks.length := by
        have := (List.getElem?_eq_some_iff.1 hu).1
        rw [flat_length] at this
        simpa using this
      have hdiv : j / ks.length < len := Nat.div_lt_of_lt_mul (by rw [Nat.mul_comm]; exact hjlt)
      have hmod : j % ks.length < ks.length := Nat.mod_lt _ hpos
      have hj : j = j / ks.length * ks.length + j % ks.length := by rw [Nat.mul_comm]; exact (Nat.div_add_mod j ks.length).symm
      have hfl := flat_get ks ((List.range len).map X) (j / ks.length) (j % ks.length) (by simpa using hdiv) hmod
      rw [← hj, hu] at hfl
      have h1 := (hcell (j / ks.length) (j % ks.length) hdiv hmod).1
      cases hfl
      have e : ((Addr.mk g o none).add (j / ks.length * ks.length)).add (j % ks.length) = ⟨g, o + j, none⟩ := by
        rw [Go.Deep.add_add, ← hj]
        unfold Addr.add
        split
        · rename_i h0; simp [h0]
        · rfl
      rw [e] at h1
      rw [h1]
      simp [rd, List.getD, hdiv]
end

/-- A law's call, from its contract. -/
theorem law_calls {P : Program} {f : FuncId} {sp : Spec} (hC : Contract P f sp) {W : World} {as : List IV} {bs : List Blk} {vs : List Value} (ho : Opened W as bs vs) (hpre : sp.pre as bs) (hF : (sp.F as bs).1 = .bool true) :
    Calls P f vs.toArray W fun e w' => e = .returned (.bool true) ∧ Below W.heap.size W w' := by
  obtain ⟨β, hS, hown, hl, hrep⟩ := ho
  refine (hC as bs { w0 := W, B := W.heap.size, A0 := fun _ => True } β W vs.toArray rfl rfl hS hown (by simpa using hl) (fun i c v hc hv => hrep i c v hc (by simpa using hv)) hpre).mono ?_
  rintro e w' ⟨u, β', rfl, hk, hr, _, _⟩
  rw [hF] at hr
  exact ⟨by rw [hr.bool_inv], hk.below⟩

end Go.Vs
