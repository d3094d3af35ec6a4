import Derived.Test.YtbgleobdhjghlaaR1V1
set_option linter.unusedVariables false
set_option linter.unusedSimpArgs false
/- sorted lists: plain laws -/
namespace Go.Vs.R1
open Go Go.Proofs Go.Vs

theorem modify_const {α : Type} (l : List α) (i : Nat) (a : α) : (l.modify i fun _ => a) = l.set i a := by
  apply List.ext_getElem?
  intro j
  rw [List.getElem?_modify, List.getElem?_set]
  by_cases h : i = j
  · subst h
    by_cases h2 : i < l.length
    · simp [h2]
    · simp [h2]
  · simp [h]

theorem rd_key {zs : List (List Int)} {p : Nat} (h : p < zs.length) : rd zs p 0 = key zs[p] := by
  simp [rd, key, List.getD, h]
theorem rows2_get {zs : List (List Int)} (h : rows2 zs) {p : Nat} (hp : p < zs.length) : [rd zs p 0, rd zs p 1] = zs[p] := by
  obtain ⟨a, b, e⟩ := h zs[p] (List.getElem_mem hp)
  simp [rd, List.getD, hp, e]

theorem srt_pairwise {zs : List (List Int)} (h : srt zs.length zs) : zs.Pairwise fun a b => key a ≤ key b := by
  rw [List.pairwise_iff_getElem]
  intro i j hi hj hij
  have := h i j hij hj
  rwa [rd_key hi, rd_key hj] at this

theorem uniq : ∀ (zs zs' : List (List Int)), (zs.Pairwise fun a b => key a ≤ key b) → (zs'.Pairwise fun a b => key a ≤ key b) → sameF zs zs' → zs = zs' := by
  intro zs
  induction zs with
  | nil =>
    intro zs' _ _ hf
    cases zs' with
    | nil => rfl
    | cons b bs =>
      have := hf (key b)
      simp at this
  | cons a l ih =>
    intro zs' h1 h2 hf
    cases zs' with
    | nil =>
      have := hf (key a)
      simp at this
    | cons b bs =>
      rw [List.pairwise_cons] at h1 h2
      have hab : key a = key b := by
        have e1 := hf (key a)
        have e2 := hf (key b)
        by_cases hk : key a = key b
        · exact hk
        · have hk' : ¬ key b = key a := fun h => hk h.symm
          simp only [List.filter_cons, hk, hk', decide_false, decide_true, if_true, Bool.false_eq_true, if_false] at e1 e2
          have m1 : a ∈ bs := by
            have : a ∈ bs.filter (fun x => decide (key x = key a)) := by rw [e1]; simp
            exact (List.mem_filter.1 this).1
          have m2 : b ∈ l := by
            have : b ∈ l.filter (fun x => decide (key x = key b)) := by rw [← e2]; simp
            exact (List.mem_filter.1 this).1
          have := h1.1 b m2
          have := h2.1 a m1
          omega
      have e1 := hf (key a)
      simp only [List.filter_cons, hab, decide_true, if_true, List.cons.injEq] at e1
      obtain ⟨rfl, _⟩ := e1
      congr 1
      refine ih bs h1.2 h2.2 ?_
      intro v
      have ev := hf v
      simp only [List.filter_cons] at ev
      split at ev
      · simpa using ev
      · exact ev

noncomputable def sortF (xs : List (List Int)) : List (List Int) := @dite _ (∃ zs, Sorted xs zs) (Classical.propDecidable _) (fun h => Classical.choose h) (fun _ => xs)
theorem sortF_spec {xs zs : List (List Int)} (h : Sorted xs zs) : Sorted xs (sortF xs) := by
  unfold sortF
  have h' : ∃ zs, Sorted xs zs := ⟨zs, h⟩
  rw [dif_pos h']
  exact Classical.choose_spec h'
theorem Sorted.eq {xs zs : List (List Int)} (h : Sorted xs zs) : sortF xs = zs := by
  have h2 := sortF_spec h
  refine uniq _ _ (srt_pairwise h2.up) (srt_pairwise h.up) ?_
  intro v
  rw [h.same v, h2.same v]

/-! two neighbours that change places -/
theorem two_form {α : Type} {zs : List α} {j : Nat} (h1 : 1 ≤ j) (h2 : j < zs.length) : zs = zs.take (j - 1) ++ ([zs[j - 1], zs[j]] ++ zs.drop (j + 1)) := by
  have e1 : zs.drop (j - 1) = zs[j - 1] :: zs.drop j := by
    rw [List.drop_eq_getElem_cons (by omega)]
    congr 2
    omega
  have e2 : zs.drop j = zs[j] :: zs.drop (j + 1) := List.drop_eq_getElem_cons h2
  conv => lhs; rw [← List.take_append_drop (j - 1) zs, e1, e2]
  rfl
theorem swap_form {α : Type} {zs : List α} {j : Nat} (h1 : 1 ≤ j) (h2 : j < zs.length) : (zs.set j zs[j - 1]).set (j - 1) zs[j] = zs.take (j - 1) ++ ([zs[j], zs[j - 1]] ++ zs.drop (j + 1)) := by
  apply List.ext_getElem?
  intro p
  have hl : (zs.take (j - 1)).length = j - 1 := by simp; omega
  rw [List.getElem?_set, List.getElem?_set]
  by_cases hp1 : j - 1 = p
  · subst hp1
    rw [List.getElem?_append_right (by omega), hl]
    simp
    omega
  · by_cases hp2 : j = p
    · subst hp2
      rw [List.getElem?_append_right (by omega), hl]
      have : j - (j - 1) = 1 := by omega
      rw [this]
      simp [hp1]
      omega
    · simp only [hp1, hp2, if_false]
      by_cases hp3 : p < j - 1
      · rw [List.getElem?_append_left (by omega)]
        simp [hp3]
      · rw [List.getElem?_append_right (by omega), hl, List.getElem?_append_right (by simp; omega)]
        simp
        congr 1
        omega

theorem sameF_swap {zs : List (List Int)} {j : Nat} (h1 : 1 ≤ j) (h2 : j < zs.length) (hne : key zs[j] ≠ key zs[j - 1]) : sameF zs ((zs.set j zs[j - 1]).set (j - 1) zs[j]) := by
  intro v
  rw [swap_form h1 h2]
  conv => rhs; rw [two_form h1 h2]
  simp only [List.filter_append]
  congr 2
  simp only [List.filter_cons, List.filter_nil]
  by_cases ha : key zs[j] = v
  · have hb : ¬ key zs[j - 1] = v := fun h => hne (by rw [ha, h])
    simp [ha, hb]
  · simp [ha]

theorem sameF.refl (xs : List (List Int)) : sameF xs xs := fun _ => rfl
theorem sameF.trans {a b c : List (List Int)} (h : sameF a b) (h' : sameF b c) : sameF a c := fun v => (h' v).trans (h v)
end Go.Vs.R1
