/- Vs, part H: stores, and slices that are made. -/
import Derived.Test.YtbgleobdhjghlaaVsG
set_option linter.unusedVariables false
set_option linter.unusedSimpArgs false
namespace Go.Vs
open Go.RowKit
section
variable {P : Program} {X : Ctx} {β : Asg} {st : St} {a : Act} {w : World} {Q : Exit → Act → World → Prop} {K : St → Prop} {Kw : Act → World → Prop} {o : Oper} {wr : Bool}

theorem undef_rep (β : Asg) : Rep β (.tup []) undef := .tup rfl (by simp)

theorem intsOf_rep {k : IntKind} {xs : List Int} {cs : List Value} (hl : xs.length = cs.length) (h : ∀ (i : Nat) c v, (xs.map (IV.int k))[i]? = some c → cs[i]? = some v → Rep β c v) : cs = xs.map (Value.int k) ∧ ∀ x ∈ xs, inK k x := by
  constructor
  · apply List.ext_getElem (by simp [hl])
    intro i h1 h2
    have := h i (.int k xs[i]) cs[i] (by simp [show i < xs.length by omega]) (by simp [h1])
    simpa using this.int_inv.1
  · intro x hx
    obtain ⟨i, hi, rfl⟩ := List.mem_iff_getElem.1 hx
    exact (h i (.int k xs[i]) cs[i] (by simp [hi]) (by simp [show i < cs.length by omega])).int_inv.2

/-- a row's cells, by their place -/
theorem flat_at {ks : List IntKind} {xs : List (List Int)} (hk : 0 < ks.length) {q : Nat} (hq : q < xs.length * ks.length) : (flat ks xs)[q]? = some (.int (ks.getD (q % ks.length) .i64) (rd xs (q / ks.length) (q % ks.length))) := by
  have h1 : q / ks.length < xs.length := by rw [Nat.div_lt_iff_lt_mul hk]; exact hq
  have h2 := flat_get ks xs (q / ks.length) (q % ks.length) h1 (Nat.mod_lt _ hk)
  rwa [Nat.div_add_mod' ] at h2
theorem flat_eq {ks : List IntKind} {xs : List (List Int)} (hk : 0 < ks.length) {l : List Value} (hl : l.length = xs.length * ks.length)
    (h : ∀ i j, i < xs.length → j < ks.length → l[i * ks.length + j]? = some (.int (ks.getD j .i64) (rd xs i j))) : l = flat ks xs := by
  apply List.ext_getElem?
  intro q
  by_cases hq : q < xs.length * ks.length
  · rw [flat_at hk hq]
    have h1 : q / ks.length < xs.length := by rw [Nat.div_lt_iff_lt_mul hk]; exact hq
    have := h (q / ks.length) (q % ks.length) h1 (Nat.mod_lt _ hk)
    rwa [Nat.div_add_mod'] at this
  · rw [List.getElem?_eq_none (by omega), List.getElem?_eq_none (by rw [flat_length]; omega)]

theorem rd_modify (xs : List (List Int)) (i : Nat) (f : List Int → List Int) (i' j : Nat) (hi : i' < xs.length) : rd (xs.modify i f) i' j = if i = i' then (f (xs.getD i [])).getD j 0 else rd xs i' j := by
  unfold rd
  by_cases h : i = i'
  · subst h
    simp [List.getD, List.getElem?_modify, List.getElem?_eq_getElem hi]
  · simp [List.getD, List.getElem?_modify, h]

theorem div_mul_lt {i j n m : Nat} (hi : i < n) (hj : j < m) : i * m + j < n * m := by
  have : (i + 1) * m ≤ n * m := Nat.mul_le_mul_right m hi
  rw [Nat.add_mul] at this
  omega

/-- an element's cells, in a row of the call's own, turn -/
theorem row_store {b : Nat} {e : TypeId} {ks : List IntKind} {xs : List (List Int)} {g o0 nn c : Nat} (h : Sat X β st a w) (hb : look st.b b = some (.row e ks xs)) (hβ : β b = some (.slc (.slice (some ⟨g, o0, none⟩) nn c)))
    {r f n : Nat} (hr : r < xs.length) (hf : f + n ≤ ks.length) {vs : List Value} (hvl : vs.length = n) {g2 : List Int → List Int}
    (hin : ∀ j, j < n → vs[j]? = some (.int (ks.getD (f + j) .i64) ((g2 (xs.getD r [])).getD (f + j) 0)) ∧ inK (ks.getD (f + j) .i64) ((g2 (xs.getD r [])).getD (f + j) 0))
    (hout : ∀ j, j < ks.length → ¬ (f ≤ j ∧ j < f + n) → (g2 (xs.getD r [])).getD j 0 = (xs.getD r []).getD j 0) :
    o0 = 0 ∧ ∃ cur, w.heap[g]? = some (.cells cur e (0, 0)) ∧ r * ks.length + f + n ≤ cur.size ∧
      Sat X β (st.setB b (.row e ks (xs.modify r g2))) a (w.setRow g (cur.toList.take (r * ks.length + f) ++ vs ++ cur.toList.drop (r * ks.length + f + n)).toArray) := by
  obtain ⟨A, n', c', h1, h2, h3, hk⟩ := h.blks b _ hb
  rw [hβ] at h1
  cases h1
  have h2' := h2
  rcases h2.2 with ⟨he, _⟩ | ⟨g', cap, cur, he, hB, hg, hnc, hcm, hsz, htk⟩
  · cases he
  · cases he
    have hrc : r * ks.length + ks.length ≤ c * ks.length := by
      have : (r + 1) * ks.length ≤ c * ks.length := Nat.mul_le_mul_right _ (by omega)
      rw [Nat.add_mul] at this
      omega
    refine ⟨rfl, cur, hg, by omega, ?_⟩
    have hlen : (cur.toList.take (r * ks.length + f) ++ vs ++ cur.toList.drop (r * ks.length + f + n)).length = cur.size := by simp; omega
    refine h.upd hb rfl rfl (.inr ⟨_, _, _, hβ, rfl⟩) hB (But.setRow w g _) ⟨_, _, _, hβ, ⟨?_,   .inr ⟨g, c, _, by rw [List.length_modify], hB, setRow_heap w g cur _ e _ hg, by rw [List.length_modify]; exact hnc, hcm, by simpa [hsz] using hlen, ?_⟩⟩, ?_, hk⟩
    · rw [flat_length]
    · show List.take ((xs.modify r g2).length * ks.length) (cur.toList.take (r * ks.length + f) ++ vs ++ cur.toList.drop (r * ks.length + f + n)) = flat ks (xs.modify r g2)
      rw [List.length_modify]
      have hcur : ∀ q, q < xs.length * ks.length → cur.toList[q]? = (flat ks xs)[q]? := by
        intro q hq
        rw [← htk, List.getElem?_take, if_pos hq]
      apply flat_eq hk
      · rw [List.length_modify, List.length_take, hlen, hsz]
        have := Nat.mul_le_mul_right ks.length hnc
        omega
      · intro i j hi hj
        rw [List.length_modify] at hi
        have hq := div_mul_lt hi hj
        rw [List.getElem?_take, if_pos hq, rd_modify _ _ _ _ _ hi]
        have hlin : r = i ∨ i * ks.length + ks.length ≤ r * ks.length ∨ r * ks.length + ks.length ≤ i * ks.length := by
          rcases Nat.lt_trichotomy i r with hlt | heq | hlt
          · right; left
            have : (i + 1) * ks.length ≤ r * ks.length := Nat.mul_le_mul_right _ hlt
            rw [Nat.add_mul] at this; omega
          · exact .inl heq.symm
          · right; right
            have : (r + 1) * ks.length ≤ i * ks.length := Nat.mul_le_mul_right _ hlt
            rw [Nat.add_mul] at this; omega
        by_cases hmid : r = i ∧ f ≤ j ∧ j < f + n
        · obtain ⟨rfl, hf1, hf2⟩ := hmid
          rw [if_pos rfl, List.append_assoc, List.getElem?_append_right (by simp; omega), List.getElem?_append_left (by simp; omega)]
          simp only [List.length_take, Array.length_toList]
          have hh := (hin (j - f) (by omega)).1
          rw [show f + (j - f) = j by omega] at hh
          rw [show r * ks.length + j - min (r * ks.length + f) cur.size = j - f by omega]
          exact hh
        · have hold : (cur.toList.take (r * ks.length + f) ++ vs ++ cur.toList.drop (r * ks.length + f + n))[i * ks.length + j]? = some (.int (ks.getD j .i64) (rd xs i j)) := by
            rw [← flat_get ks xs i j hi hj, ← hcur _ hq]
            by_cases hlt : i * ks.length + j < r * ks.length + f
            · rw [List.append_assoc, List.getElem?_append_left (by simp; omega), List.getElem?_take, if_pos hlt]
            · have hge : r * ks.length + f + n ≤ i * ks.length + j := by
                rcases hlin with e | e | e
                · subst e
                  by_cases h5 : f ≤ j
                  · have : ¬ j < f + n := fun h6 => hmid ⟨rfl, h5, h6⟩
                    omega
                  · omega
                · omega
                · omega
              rw [List.getElem?_append_right (by simp; omega), List.getElem?_drop]
              simp only [List.length_append, List.length_take, Array.length_toList]
              rw [show r * ks.length + f + n + (i * ks.length + j - (min (r * ks.length + f) cur.size + vs.length)) = i * ks.length + j by omega]
          rw [hold]
          by_cases hri : r = i
          · subst hri
            rw [if_pos rfl, hout j hj (fun h6 => hmid ⟨rfl, h6⟩)]
            rfl
          · rw [if_neg hri]
    · intro x hx j hj
      obtain ⟨i, hi, rfl⟩ := List.mem_iff_getElem.1 hx
      rw [List.length_modify] at hi
      have hrd := rd_modify xs r g2 i j hi
      have e1 : (xs.modify r g2)[i].getD j 0 = rd (xs.modify r g2) i j := by simp [rd, List.getD, List.getElem?_eq_getElem (show i < (xs.modify r g2).length by simpa using hi)]
      rw [e1, hrd]
      by_cases hri : r = i
      · subst hri
        rw [if_pos rfl]
        by_cases h6 : f ≤ j ∧ j < f + n
        · have := (hin (j - f) (by omega)).2
          rwa [show f + (j - f) = j by omega] at this
        · rw [hout j hj h6]
          have := h3 xs[r] (List.getElem_mem hi) j hj
          simpa [List.getD, List.getElem?_eq_getElem hi] using this
      · rw [if_neg hri]
        have := h3 xs[i] (List.getElem_mem hi) j hj
        simpa [rd, List.getD, List.getElem?_eq_getElem hi] using this

end
end Go.Vs
