/- Vs, part J: literals, make, cuts, append. -/
import Derived.Test.YtbgleobdhjghlaaVsI
set_option linter.unusedVariables false
set_option linter.unusedSimpArgs false
namespace Go.Vs
open Go.RowKit
section
variable {P : Program} {X : Ctx} {β : Asg} {st : St} {a : Act} {w : World} {Q : Exit → Act → World → Prop} {K : St → Prop} {Kw : Act → World → Prop} {o : Oper} {wr : Bool}

theorem kinds_of {t e : TypeId} {ks : List IntKind} (he : elemT P t = some e) (h : (elemT P t).bind (kinds P) = some ks) : kinds P e = some ks := by
  rw [he] at h; simpa using h
theorem bytes_of {t e : TypeId} {n : Nat} (he : elemT P t = some e) (h : (elemT P t).bind (bytesT P) = some n) : bytesT P e = some n := by
  rw [he] at h; simpa using h

theorem fin_value {u : Value} {w' : World} (h : (execOp a.eval o).run P w = .ok (.value u) w') {st' : St} {β' : Asg} {v : IV} (hs : Sat X β' st' a w') (hv : Rep β' v u) (hk : K (st'.setT o.dst v)) (hA : After X β st w o wr K Kw)
    (ha : ∀ b, b < st.b.length → β' b = β b) (hl : st.b.length ≤ st'.b.length) (hrel : wr = false → Rel o β st w st' w') : o.wp P a w Kw Q :=
  wp_value h (hA _ _ _ _ hk (hs.setT hv o.dst) ha (by rw [setT_b]; exact hl) (fun h0 => (hrel h0).setT _ _))

theorem ext_self (β : Asg) (n : Nat) (r : Real) : ext β n r n = some r := by simp [ext]
theorem newB_length (st : St) (k : Blk) : st.b.length ≤ (st.newB k).b.length := by simp [St.newB]

theorem assignNil_sound (h : Sat X β st a w) {x : Operand} {e : TypeId} {ks : List IntKind} (hop : o.op = .assign x) (hx : ev st x = some .nils) (hks : kinds P e = some ks)
    (hk : K ((st.newB (.row e ks [])).setT o.dst (.sl st.b.length))) (hA : After X β st w o wr K Kw) : o.wp P a w Kw Q := by
  obtain ⟨_, _, _, _, _, _, hpos, _⟩ := kinds_spec hks
  have hu := (ev_rep h hx).nils_inv
  exact fin_value (u := .slice none 0 0) (by simp [execOp, hop, hu]) (h.addNilRow e ks hpos) (.sl (ext_self _ _ _)) hk hA (ext_agree _ _ _) (newB_length _ _) (fun _ => Rel.new (Keeps.refl w))

/-- A new row, all of it the call's own. -/
theorem Sat.addRow {w' : World} (h : Sat X β st a w) (hkp : Keeps w w') {e : TypeId} {ks : List IntKind} {xs : List (List Int)} {n c : Nat} (hown : w'.ownsRow X.B e ks.length (.slice (some ⟨w.heap.size, 0, none⟩) n c) xs.length (flat ks xs))
    (hok : okRows ks xs) (hpos : 0 < ks.length) : Sat X (ext β st.b.length (.slc (.slice (some ⟨w.heap.size, 0, none⟩) n c))) (st.newB (.row e ks xs)) a w' :=
  h.addOwn hkp rfl (fun id hu => by obtain ⟨ad, e, rfl⟩ := uses_slc hu; cases e; exact Nat.le_refl _) ⟨_, _, _, ext_self _ _ _, hown, hok, hpos⟩

theorem litRows_fill {ks : List IntKind} {len : Nat} (hpos : 0 < ks.length) (hev : ∀ x v, ev st x = some v → Rep β v (a.eval x)) : ∀ {parts : List (Nat × Operand)} {z xs : List (List Int)}, z.length = len → okRows ks z → litRows ks len st parts z = some xs →
    Instr.fill (fun i => some (i * ks.length, ks.length)) (flat ks z).toArray (parts.map fun p => (p.1, a.eval p.2)) = some (flat ks xs).toArray ∧ xs.length = len ∧ okRows ks xs := by
  intro parts
  induction parts with
  | nil => intro z xs hz hok h; simp [litRows] at h; subst h; exact ⟨by simp [Instr.fill], hz, hok⟩
  | cons p rest ih =>
    intro z xs hz hok h
    obtain ⟨i, x⟩ := p
    simp only [litRows] at h
    split at h
    · rename_i v hv
      split at h
      · rename_i ys hys
        split at h
        · rename_i hc
          obtain ⟨hyl, hi⟩ := hc
          obtain ⟨h1, h2⟩ := mapM_ints (f := 0) hys
          have hnt : notTup v = true := by
            cases v with
            | tup vs =>
              have := h2 0 (by omega)
              simp [IV.cells] at this
            | _ => rfl
          have hvc := (hev x v hv).cells (notTup_ne hnt)
          have hsz : (a.eval x).cells.size = ks.length := by rw [← hvc.1]; omega
          have hcell : ∀ j, (hj : j < ks.length) → (a.eval x).cells[j]? = some (.int (ks.getD j .i64) (ys.getD j 0)) ∧ inK (ks.getD j .i64) (ys.getD j 0) := by
            intro j hj
            have h5 := h2 j (by omega)
            rw [Nat.zero_add] at h5
            have h6 := hvc.2.2 j _ (a.eval x).cells[j] h5 (by simp [show j < (a.eval x).cells.size by omega])
            obtain ⟨h7, h8⟩ := h6.int_inv
            have : ys.getD j 0 = ys[j] := by simp [List.getD, List.getElem?_eq_getElem (show j < ys.length by omega)]
            rw [this]
            exact ⟨by simp [show j < (a.eval x).cells.size by omega, h7], h8⟩
          have hok' : okRows ks (z.set i ys) := by
            intro y hy j hj
            rcases List.mem_or_eq_of_mem_set hy with hy | hy
            · exact hok y hy j hj
            · rw [hy]; exact (hcell j hj).2
          have hih := ih (z := z.set i ys) (by simpa using hz) hok' h
          refine ⟨?_, hih.2⟩
          simp only [List.map_cons, Instr.fill]
          have hle : i * ks.length + ks.length ≤ z.length * ks.length := by
            have : (i + 1) * ks.length ≤ z.length * ks.length := Nat.mul_le_mul_right _ (by omega)
            rw [Nat.add_mul] at this; omega
          rw [if_neg (by simp [flat_length, hsz]; omega)]
          have hf := foldl_set (i * ks.length) (a.eval x).cells.toList 0 (flat ks z).toArray
          have hfold : (a.eval x).cells.zipIdx.foldl (fun cs (p : Value × Nat) => cs.setIfInBounds (i * ks.length + p.2) p.1) (flat ks z).toArray = (flat ks (z.set i ys)).toArray := by
            have e0 : (a.eval x).cells.zipIdx.foldl (fun cs (p : Value × Nat) => cs.setIfInBounds (i * ks.length + p.2) p.1) (flat ks z).toArray = ((a.eval x).cells.toList.zipIdx 0).foldl (fun cs (p : Value × Nat) => cs.setIfInBounds (i * ks.length + p.2) p.1) (flat ks z).toArray := by
              rw [← Array.foldl_toList]; simp
            rw [e0]
            apply Array.ext'
            apply flat_eq hpos
            · have := hf.1
              simp only [Array.length_toList]
              rw [this]; simp [flat_length]
            · intro r j hr hj
              rw [List.length_set] at hr
              have := hf.2 (r * ks.length + j)
              rw [Array.getElem?_toList, this]
              have hq := div_mul_lt hr hj
              have hrd : rd (z.set i ys) r j = if i = r then ys.getD j 0 else rd z r j := by
                unfold rd
                by_cases hir : i = r
                · subst hir; simp [List.getD, hr]
                · simp [List.getD, List.getElem?_set, hir]
              rw [hrd]
              by_cases hir : i = r
              · subst hir
                rw [if_pos (by simp; omega), if_pos (by simp [flat_length]; omega), if_pos rfl, show i * ks.length + j - (i * ks.length + 0) = j by omega]
                have := (hcell j hj).1
                simpa using this
              · have hlin : i * ks.length + ks.length ≤ r * ks.length ∨ r * ks.length + ks.length ≤ i * ks.length := by
                  rcases Nat.lt_or_gt_of_ne hir with hlt | hlt
                  · left
                    have : (i + 1) * ks.length ≤ r * ks.length := Nat.mul_le_mul_right _ hlt
                    rw [Nat.add_mul] at this; omega
                  · right
                    have : (r + 1) * ks.length ≤ i * ks.length := Nat.mul_le_mul_right _ hlt
                    rw [Nat.add_mul] at this; omega
                rw [if_neg (by simp; omega), if_neg hir]
                simpa using flat_get ks z r j hr hj
          have hstep : (a.eval x).cells.zipIdx.foldl (fun cs x_1 => cs.setIfInBounds (i * ks.length + x_1.2) x_1.1) (flat ks z).toArray = (flat ks (z.set i ys)).toArray := hfold
          rw [hstep]
          exact hih.1
        · cases h
      · cases h
    · cases h

theorem okRows_zero (ks : List IntKind) (n : Nat) : okRows ks (List.replicate n (List.replicate ks.length 0)) := by
  intro x hx j hj
  rw [List.mem_replicate] at hx
  rw [hx.2]
  have : (List.replicate ks.length (0 : Int)).getD j 0 = 0 := by simp [List.getD, hj]
  rw [this]
  exact inK_zero _

theorem zero_cells {z : Value} {ks : List IntKind} (hz : z.cells.toList = ks.map (fun k => Value.int k 0)) (hpos : 0 < ks.length) (n : Nat) : (madeCells z.cells (n * ks.length)).toList = flat ks (List.replicate n (List.replicate ks.length 0)) := by
  have hsz : z.cells.size = ks.length := by have := congrArg List.length hz; simpa using this
  apply flat_eq hpos
  · simp [madeCells]
  · intro i j hi hj
    rw [List.length_replicate] at hi
    have hq := div_mul_lt hi hj
    have h1 : (i * ks.length + j) % ks.length = j := by rw [Nat.mul_comm, Nat.mul_add_mod]; exact Nat.mod_eq_of_lt hj
    have h2 : z.cells[j]? = some (.int (ks.getD j .i64) 0) := by
      have := congrArg (fun l => l[j]?) hz
      simp only [List.getElem?_map] at this
      rw [Array.getElem?_toList] at this
      rw [this]
      simp [List.getElem?_eq_getElem hj, List.getD]
    simp only [madeCells, Array.toList_map, Array.toList_range, List.getElem?_map]
    rw [List.getElem?_range hq]
    simp only [Option.map_some, hsz, h1]
    have h3 : z.cells[j]! = .int (ks.getD j .i64) 0 := by
      rw [getElem!_def, h2]
    rw [h3]
    simp [rd, List.getD, hi, hj]

theorem buildSlice_sound (h : Sat X β st a w) {t e : TypeId} {len : Nat} {parts : Array (Nat × Operand)} {ks : List IntKind} {xs : List (List Int)} (hop : o.op = .buildSlice t len parts)
    (he : elemT P t = some e) (hks : kinds P e = some ks) (hl : litRows ks len st parts.toList (List.replicate len (List.replicate ks.length 0)) = some xs) (hle : len * ks.length ≤ 2 ^ 24)
    (hk : K ((st.newB (.row e ks xs)).setT o.dst (.sl st.b.length))) (hA : After X β st w o wr K Kw) : o.wp P a w Kw Q := by
  obtain ⟨i, z, hi, hz, hsz, hzc, hpos, hby⟩ := kinds_spec hks
  have hu := elemT_spec he
  obtain ⟨hf, hxl, hok⟩ := litRows_fill hpos (fun x v hv => ev_rep h hv) (List.length_replicate ..) (okRows_zero ks len) hl
  have hzv : (zeroValue e).run P w = .ok z w := by simp [zeroValue, typeInfo, hi, hz]
  have hso : (sizeOf e).run P w = .ok ks.length w := sizeOf_run (by simp [sizeT, hi, hsz]) w
  have hcells : ((Array.range (len * ks.length)).map (z.cells[· % z.cells.size]!)) = (flat ks (List.replicate len (List.replicate ks.length 0))).toArray := by
    have := zero_cells hzc hpos len
    apply Array.ext'
    rw [← this]
    rfl
  have hrun : (execOp a.eval o).run P w = .ok (.value (.slice (some ⟨w.heap.size, 0, none⟩) len len)) (w.alloc (.cells (flat ks xs).toArray e)) := by
    simp only [execOp, hop]
    refine Sem.run_v ?_
    have hlt : ¬ len * ks.length > 2 ^ 24 := by omega
    by_cases h0 : len * ks.length = 0
    · have hlen0 : len = 0 := by
        rcases Nat.mul_eq_zero.1 h0 with h1 | h1
        · exact h1
        · omega
      subst hlen0
      simp only [List.replicate_zero] at hf
      have hfl : flat ks ([] : List (List Int)) = [] := rfl
      rw [hfl] at hf
      simp [Instr.buildSlice, Sem.run_bind, run_underlying hu, hso, newRow]
      rw [show (Array.map (fun x => (default : Value)) (Array.range 0)) = #[] by simp, hf]
      simp
    · simp [Instr.buildSlice, Sem.run_bind, run_underlying hu, hso, hzv, newRow, h0, hlt]
      rw [hcells, hf]
      simp
  refine fin_value hrun (h.addRow (Keeps.alloc w _) ?_ hok hpos) (.sl (ext_self _ _ _)) hk hA (ext_agree _ _ _) (newB_length _ _) (fun _ => Rel.new (Keeps.alloc w _))
  rw [hxl]
  have hlen : len ≤ maxLen := by
    have : len ≤ len * ks.length := Nat.le_mul_of_pos_right _ hpos
    simp only [maxLen]; omega
  have := World.ownsRow_lit (e := e) (size := ks.length) w (flat ks xs).toArray len h.le hlen (by simp [flat_length, hxl])
  simpa using this

theorem makeSlice_sound (h : Sat X β st a w) {t e : TypeId} {l c : Operand} {ks : List IntKind} {by_ : Nat} {n m : Int} (hop : o.op = .makeSlice t l c)
    (he : elemT P t = some e) (hks : kinds P e = some ks) (hby : bytesT P e = some by_) (hl : ev st l = some (.int .i64 n)) (hlc : sameOp l c = true) (hc : ev st c = some (.int .i64 m)) (hn : 0 ≤ n ∧ n * by_ ≤ 140737488355328)
    (hk : K ((st.newB (.row e ks (List.replicate n.toNat (List.replicate ks.length 0)))).setT o.dst (.sl st.b.length))) (hA : After X β st w o wr K Kw) : o.wp P a w Kw Q := by
  obtain ⟨i, z, hi, hz, hsz, hzc, hpos, hb0⟩ := kinds_spec hks
  have hib : i.bytes = by_ := by simpa [bytesT, hi] using hby
  have hu := elemT_spec he
  have e1 := (ev_rep h hl).int_inv.1
  have e2 : a.eval c = .int .i64 n := by
    unfold sameOp at hlc
    split at hlc
    · simp at hlc; subst hlc; exact e1
    · rename_i k1 x k2 y
      simp at hlc
      subst hlc
      have e3 := (ev_rep h hc).int_inv.1
      simp only [Act.eval] at e1 e3 ⊢
      cases e1
      cases e3
      rfl
    · cases hlc
  obtain ⟨N, rfl⟩ := Int.eq_ofNat_of_zero_le hn.1
  simp only [Int.toNat_natCast] at hk
  have hbytes : i.bytes * N ≤ 140737488355328 := by
    have := hn.2
    rw [← hib] at this
    have h5 : ((N * i.bytes : Nat) : Int) ≤ 140737488355328 := by rw [Int.natCast_mul]; exact this
    rw [Nat.mul_comm]; omega
  have hN : N ≤ maxLen := by
    have : N ≤ i.bytes * N := Nat.le_mul_of_pos_left _ hb0
    simp only [maxLen]; omega
  obtain ⟨w1, hr, hown, hg⟩ := run_make_full (P := P) w X.B t e i z ks.length hu hi hz hsz .i64 .i64 N (by omega) hN h.le
  have hkp : Keeps w w1 := ⟨hg.os, hg.tape, hg.output, hg.size, fun i hi => hg.block i hi (by simp)⟩
  have hrun : (execOp a.eval o).run P w = .ok (.value (.slice (some ⟨w.heap.size, 0, none⟩) N N)) w1 := by
    simp only [execOp, hop]
    refine Sem.run_v ?_
    rw [e1, e2]
    exact hr
  rw [zero_cells hzc hpos] at hown
  refine fin_value hrun (h.addRow hkp ?_ (okRows_zero ks N) hpos) (.sl (ext_self _ _ _)) hk hA (ext_agree _ _ _) (newB_length _ _) (fun _ => Rel.new hkp)
  simpa using hown

theorem eqlNil_sound (h : Sat X β st a w) {t e : TypeId} {t' : TypeId} {x y : Operand} {b : Nat} {ks : List IntKind} {xs : List (List Int)} (hop : o.op = .binOp .eql t x y t') (ht : elemT P t = some e)
    (hx : ev st x = some (.sl b)) (hy : ev st y = some .nils) (hr : rows st b = some (ks, xs)) (hk : ∀ q : Bool, (q = true → xs = []) → K (st.setT o.dst (.bool q))) (hA : After X β st w o wr K Kw) : o.wp P a w Kw Q := by
  obtain ⟨A, n, c, ex, hβ⟩ := (ev_rep h hx).sl_inv
  have ey := (ev_rep h hy).nils_inv
  obtain ⟨A', n'', c', h1, h2, h3, h4, h5, h6, h7, h8⟩ := rows_at h.blks hr
  rw [hβ] at h1
  cases h1
  have hrun : (execOp a.eval o).run P w = .ok (.value (.bool A.isNone)) w := by
    simp only [execOp, hop]
    have := Lib.run_eql_slice_nil (P := P) w t e A n c 0 0 (elemT_spec ht)
    rw [ex, ey]
    simp [Sem.run_bind, eqGuard, this]
  refine fin_value hrun h .bool (hk A.isNone ?_) hA (fun _ _ => rfl) (Nat.le_refl _) (fun _ => ⟨fun _ _ h _ => h, .inl (Keeps.refl w)⟩)
  intro hq
  cases xs with
  | nil => rfl
  | cons x xs =>
    obtain ⟨g, o', hA', _⟩ := h7 (by simp)
    subst hA'
    cases hq

/-- a row of the call's own becomes one that is only read -/
theorem Sat.freeze1 (h : Sat X β st a w) {b : Nat} {e : TypeId} {ks : List IntKind} {xs : List (List Int)} (hb : look st.b b = some (.row e ks xs)) : Sat X β (st.setB b (.ro ks xs)) a w := by
  have lk : ∀ c k0, look (st.setB b (.ro ks xs)).b c = some k0 → (c = b ∧ k0 = .ro ks xs) ∨ (c ≠ b ∧ look st.b c = some k0) := by
    intro c k0 hc
    simp only [St.setB] at hc
    rw [look_set] at hc
    split at hc
    · rename_i e
      split at hc
      · cases hc; exact .inl ⟨e.symm, rfl⟩
      · cases hc
    · rename_i e
      exact .inr ⟨fun e' => e e'.symm, hc⟩
  refine ⟨h.len, h.tmps, ?_, ?_, fun c hc => h.bound c (by simpa [St.setB] using hc), h.below, h.frm.sub (fun c k0 id hc hu => ?_), h.defers⟩
  · intro c k0 hc
    rcases lk c k0 hc with ⟨rfl, rfl⟩ | ⟨hne, hc⟩
    · obtain ⟨A, n, cp, h1, h2, h3, h4, h5, h6, h7, h8⟩ := rows_at h.blks (show rows st c = some (ks, xs) by unfold rows; rw [hb])
      subst h2
      refine ⟨A, cp, h1, h8, h5, h6, fun hne ad hA => .inr ?_⟩
      obtain ⟨A2, n2, c2, k1, k2, k3, k4⟩ := h.blks c _ hb
      rw [h1] at k1
      cases k1
      subst hA
      exact (k2.lt ad.block rfl).1
    · exact h.blks c k0 hc
  · intro c d k1 k2 id' hc hd ho hu1 hu2
    rcases lk c k1 hc with ⟨rfl, rfl⟩ | ⟨hne, hc3⟩ <;> rcases lk d k2 hd with ⟨rfl, rfl⟩ | ⟨hne', hd3⟩
    · rfl
    · cases ho
    · exact h.disj c d k1 _ id' hc3 hb ho hu1 ⟨hu2.1, .inl rfl⟩
    · exact h.disj c d k1 k2 id' hc3 hd3 ho hu1 hu2
  · rcases lk c k0 hc with ⟨rfl, rfl⟩ | ⟨hne, hc⟩
    · exact ⟨c, _, hb, ⟨hu.1, .inl rfl⟩, fun h0 => by cases h0⟩
    · exact ⟨c, k0, hc, hu, fun h => h⟩

theorem freeze_length : ∀ (l : List (Option Nat)) (b : List (Option Blk)), (freeze b l).length = b.length := by
  intro l
  induction l with
  | nil => intro b; rfl
  | cons x l ih =>
    intro b
    cases x with
    | none => simp [freeze, ih]
    | some i =>
      simp only [freeze]
      split
      · rw [ih]; simp
      · rw [ih]
theorem Sat.freeze : ∀ (l : List (Option Nat)) {st : St}, Sat X β st a w → Sat X β { st with b := Go.Vs.freeze st.b l } a w := by
  intro l
  induction l with
  | nil => intro st h; exact h
  | cons x l ih =>
    intro st h
    cases x with
    | none => exact ih h
    | some i =>
      simp only [Go.Vs.freeze]
      split
      · rename_i e ks xs hb
        exact ih (st := st.setB i (.ro ks xs)) (h.freeze1 hb)
      · exact ih h

theorem freeze_nonrow : ∀ (l : List (Option Nat)) (b : List (Option Blk)) (c : Nat) (k : Blk), look b c = some k → k.isRow = false → look (Go.Vs.freeze b l) c = some k := by
  intro l
  induction l with
  | nil => intro b c k h _; exact h
  | cons x l ih =>
    intro b c k h hk
    cases x with
    | none => exact ih b c k h hk
    | some i =>
      simp only [Go.Vs.freeze]
      split
      · rename_i e ks xs hb
        refine ih _ c k ?_ hk
        rw [look_set]
        by_cases hic : i = c
        · subst hic; rw [hb] at h; cases h; cases hk
        · rw [if_neg hic]; exact h
      · exact ih b c k h hk

/-- reading is as it was, behind a freeze -/
theorem freeze_rows {i : Nat} {ks : List IntKind} {xs : List (List Int)} (hr : rows st i = some (ks, xs)) : look (Go.Vs.freeze st.b [some i]) i = some (.ro ks xs) := by
  unfold rows at hr
  split at hr
  · rename_i e ks' xs' hl
    cases hr
    simp only [Go.Vs.freeze, hl]
    rw [look_set, if_pos rfl, if_pos (look_lt hl)]
  · rename_i ks' xs' hl
    cases hr
    simp only [Go.Vs.freeze, hl]
  · cases hr

end
end Go.Vs
