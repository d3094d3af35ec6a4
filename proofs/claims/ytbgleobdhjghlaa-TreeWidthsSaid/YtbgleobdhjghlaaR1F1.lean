import Derived.Test.YtbgleobdhjghlaaR1M1
import Derived.IntWalk
set_option linter.unusedVariables false
set_option linter.unusedSimpArgs false
/- the sort's loops, and its functions -/
namespace Go.Vs.R1
open Go Go.Proofs Go.Vs Go.IntWalk

theorem loop18 (N : Know) (n0 : Nat) : LoopOk (envOf Try.prog N 0) 18 n0 0 (lp Try.prog 18 0) L18 := by
  rintro st K ⟨⟨rfl, hst, hlen⟩, hbr⟩
  generalize st.x 0 = xs at *
  subst hst
  rw [br_bp] at hbr
  refine loop_of (S18 xs) (fun i => 1 ≤ i ∧ (i ≤ xs.length ∨ i = 1) ∧ ∀ p q : Nat, p < q → (q : Int) < i → rd xs p 0 ≤ rd xs q 0) (fun i => (xs.length + 1 - i).toNat) ?_ (a := 1) ⟨by omega, by omega, fun p q h1 h2 => by omega⟩
  rintro i ⟨h1, h2, h3⟩ k hn hk
  rw [r18, br_dec]
  constructor
  · intro hi
    rw [i64_in (i - 1) (by omega), i64_in (i + 1) (by omega)]
    refine ⟨⟨by omega, hi⟩, ⟨by omega, hi⟩, ⟨by omega, by omega⟩, ⟨by omega, by omega⟩, ?_⟩
    rw [br_dec]
    constructor
    · intro hlt
      refine hk _ _ (by simp) (hbr.2 ?_)
      intro hr
      have := hr (i - 1).toNat i.toNat (by omega) (by omega)
      omega
    · intro hle
      refine hn _ ⟨by omega, by omega, fun p q hpq hq => ?_⟩ (by omega)
      by_cases hq' : (q : Int) < i
      · exact h3 p q hpq hq'
      · have e1 : q = i.toNat := by omega
        subst e1
        by_cases hp : p = (i - 1).toNat
        · subst hp; omega
        · have := h3 p (i - 1).toNat (by omega) (by omega)
          omega
  · intro hi
    refine hk _ _ (by simp) (hbr.1 ?_)
    intro p q hpq hq
    exact h3 p q hpq (by omega)

theorem rd_drop (xs : List (List Int)) (n i : Nat) : rd (xs.drop n) i 0 = rd xs (n + i) 0 := by
  simp [rd, List.getD, List.getElem?_drop]

theorem loop17 (N : Know) (n0 : Nat) : LoopOk (envOf Try.prog N 0) 17 n0 0 (lp Try.prog 17 0) L17 := by
  rintro st K ⟨⟨rfl, hst, hlen, hx1⟩, hbr⟩
  rw [hx1] at hst
  clear hx1
  generalize st.x 0 = xs at *
  subst hst
  rw [br_bp] at hbr
  have hl1 : (xs.drop 1).length = xs.length - 1 := by simp
  refine loop_of (S17 xs (xs.drop 1)) (fun i => 0 ≤ i ∧ i ≤ (xs.length - 1 : Nat) ∧ ∀ p q : Nat, p < q → (q : Int) ≤ i → rd xs p 0 ≤ rd xs q 0) (fun i => (xs.length - i).toNat) ?_ (a := 0) ⟨by omega, by omega, fun p q h1 h2 => by omega⟩
  rintro i ⟨h1, h2, h3⟩ k hn hk
  rw [r17, br_dec]
  constructor
  · intro hi
    have hi' : i < (xs.length : Int) - 1 := by rw [hl1] at hi; omega
    rw [i64_in (i + 1) (by omega)]
    have e0 : rd (xs.drop 1) i.toNat 0 = rd xs (i + 1).toNat 0 := by
      rw [rd_drop]
      congr 1
      omega
    refine ⟨⟨by omega, hi⟩, ⟨by omega, hi⟩, ⟨by omega, by omega⟩, ⟨by omega, by omega⟩, ?_⟩
    rw [br_dec, e0]
    constructor
    · intro hlt
      refine hk _ _ (by simp) (hbr.2 ?_)
      intro hr
      have := hr i.toNat (i + 1).toNat (by omega) (by omega)
      omega
    · intro hle
      refine hn _ ⟨by omega, by omega, fun p q hpq hq => ?_⟩ (by omega)
      by_cases hq' : (q : Int) ≤ i
      · exact h3 p q hpq hq'
      · have e1 : q = (i + 1).toNat := by omega
        subst e1
        by_cases hp : p = i.toNat
        · subst hp; omega
        · have := h3 p i.toNat (by omega) (by omega)
          omega
  · intro hi
    refine hk _ _ (by simp) (hbr.1 ?_)
    intro p q hpq hq
    rw [hl1] at hi
    exact h3 p q hpq (by omega)

theorem eqRow {xs ys : List (List Int)} (hx : rows2 xs) (hy : rows2 ys) {i : Nat} (h1 : i < xs.length) (h2 : i < ys.length) : (eqCells (rowCells [.u64, .i64] xs i 0 2) (rowCells [.u64, .i64] ys i 0 2) = true) ↔ xs[i] = ys[i] := by
  rw [← rows2_get hx h1, ← rows2_get hy h2]
  simp [eqCells, rowCells, List.range_succ]

theorem loop14 (N : Know) (n0 : Nat) : LoopOk (envOf Try.prog N 0) 14 n0 0 (lp Try.prog 14 0) L14 := by
  rintro st K ⟨⟨rfl, hst, hlen, hx, hy, hm⟩, hbr⟩
  generalize st.x 0 = xs at *
  generalize st.x 1 = ys at *
  subst hst
  rw [br_bp] at hbr
  refine loop_of (S14 xs ys) (fun i => 0 ≤ i ∧ i ≤ xs.length ∧ ∀ p : Nat, (p : Int) < i → xs[p]? = ys[p]?) (fun i => (xs.length - i).toNat) ?_ (a := 0) ⟨by omega, by omega, fun p h1 => by omega⟩
  rintro i ⟨h1, h2, h3⟩ k hn hk
  rw [r14, br_dec]
  constructor
  · intro hi
    rw [i64_in (i + 1) (by omega)]
    refine ⟨⟨by omega, by omega⟩, ⟨by omega, by omega⟩, ⟨by omega, by omega⟩, ⟨by omega, by omega⟩, ?_⟩
    rw [br_bool, Bool.not_eq_true', Bool.not_eq_false', eqRow hx hy (by omega) (by omega), ← Bool.not_eq_true, eqRow hx hy (by omega) (by omega)]
    constructor
    · intro hne
      refine hk _ _ (by simp) (hbr.2 ?_)
      intro he
      subst he
      exact hne rfl
    · intro he
      refine hn _ ⟨by omega, by omega, fun p hp => ?_⟩ (by omega)
      by_cases hp' : (p : Int) < i
      · exact h3 p hp'
      · have e1 : p = i.toNat := by omega
        subst e1
        rw [List.getElem?_eq_getElem (by omega), List.getElem?_eq_getElem (by omega), he]
  · intro hi
    refine hk _ _ (by simp) (hbr.1 ?_)
    apply List.ext_getElem?
    intro p
    by_cases hp : p < xs.length
    · exact h3 p (by omega)
    · rw [List.getElem?_eq_none (by omega), List.getElem?_eq_none (by omega)]

structure I16 (zs0 : List (List Int)) (i : Int) (a : List (List Int) × Int) : Prop where
  len : a.1.length = zs0.length
  same : sameF zs0 a.1
  two : rows2 a.1
  lo : 0 ≤ a.2
  hi : a.2 ≤ i
  up : ∀ p q : Nat, p < q → (q : Int) ≤ i → (p : Int) ≠ a.2 → (q : Int) ≠ a.2 → rd a.1 p 0 ≤ rd a.1 q 0
  less : ∀ q : Nat, a.2 < q → (q : Int) ≤ i → rd a.1 a.2.toNat 0 < rd a.1 q 0

theorem loop16a (N : Know) (n0 : Nat) : LoopOk (envOf Try.prog N 0) 16 n0 1 (lp Try.prog 16 1) L16a := by
  rintro st K ⟨⟨rfl, hst, hx, h1, h2, hm, hs⟩, hK⟩
  generalize st.x 0 = xs at *
  generalize st.x 1 = zs0 at *
  generalize st.i 4 = i at *
  subst hst
  refine loop_of (fun a : List (List Int) × Int => S16a xs a.1 i a.2) (I16 zs0 i) (fun a => a.2.toNat) ?_ (a := (zs0, i)) ⟨rfl, sameF.refl _, hx, by simp; omega, by simp, ?_, ?_⟩
  · rintro ⟨zs, j⟩ ⟨a1, a2, a3, a4, a5, a6, a7⟩ k hn hk
    simp only at a1 a2 a3 a4 a5 a6 a7
    have fin : (∀ p q : Nat, p < q → (q : Int) ≤ i → rd zs p 0 ≤ rd zs q 0) → k (Out.exit 2) (S16 xs zs i) := by
      intro hup
      refine hk _ _ (by simp) (hK zs a1 a2 ?_ a3)
      intro p q hpq hq
      exact hup p q hpq (by omega)
    show round _ _ _ _ _ (S16a xs zs i j) k
    rw [r16a, br_dec]
    constructor
    · intro hj
      rw [i64_in (j - 1) (by omega)]
      refine ⟨⟨by omega, by omega⟩, ⟨by omega, by omega⟩, ⟨by omega, by omega⟩, ⟨by omega, by omega⟩, ?_⟩
      rw [br_dec]
      have ej : (j - 1).toNat = j.toNat - 1 := by omega
      constructor
      · intro hlt
        simp only [modify_const, List.length_set]
        refine ⟨⟨by omega, by omega⟩, ⟨by omega, by omega⟩, ⟨by omega, by omega⟩, ⟨by omega, by omega⟩, ⟨by omega, by omega⟩, ⟨by omega, by omega⟩, ⟨by omega, by omega⟩, ⟨by omega, by omega⟩, ?_⟩
        have hjl : j.toNat < zs.length := by omega
        have hjl' : j.toNat - 1 < zs.length := by omega
        rw [ej, rows2_get a3 hjl, rows2_get a3 hjl']
        rw [ej, rd_key hjl, rd_key hjl'] at hlt
        have hrd : ∀ p : Nat, rd ((zs.set j.toNat zs[j.toNat - 1]).set (j.toNat - 1) zs[j.toNat]) p 0 = if p = j.toNat - 1 then key zs[j.toNat] else if p = j.toNat then key zs[j.toNat - 1] else rd zs p 0 := by
          intro p
          unfold rd
          by_cases e1 : p = j.toNat - 1
          · subst e1
            simp [List.getD, key, hjl']
          · by_cases e2 : p = j.toNat
            · subst e2
              have : ¬ j.toNat - 1 = j.toNat := by omega
              simp [List.getD, key, hjl, e1, this, List.getElem?_set]
            · have e1' : ¬ j.toNat - 1 = p := fun h => e1 h.symm
              have e2' : ¬ j.toNat = p := fun h => e2 h.symm
              simp [List.getD, e1, e2, e1', e2', List.getElem?_set]
        refine hn (_, j - 1) ⟨?_, ?_, ?_, ?_, ?_, ?_, ?_⟩ (by simp; omega)
        · simp [a1]
        · exact a2.trans (sameF_swap (by omega) hjl (by omega))
        · intro x hx'
          rcases List.mem_or_eq_of_mem_set hx' with hx' | rfl
          · rcases List.mem_or_eq_of_mem_set hx' with hx' | rfl
            · exact a3 x hx'
            · exact a3 _ (List.getElem_mem _)
          · exact a3 _ (List.getElem_mem _)
        · simp; omega
        · simp; omega
        · intro p q hpq hq hp hq'
          simp only at hp hq' hq ⊢
          rw [hrd, hrd]
          have n1 : ¬ p = j.toNat - 1 := by omega
          have n2 : ¬ q = j.toNat - 1 := by omega
          simp only [n1, n2, if_false]
          by_cases hpj : p = j.toNat
          · subst hpj
            have n3 : ¬ q = j.toNat := by omega
            simp only [n3, if_true, if_false]
            have := a6 (j.toNat - 1) q (by omega) hq (by omega) (by omega)
            rw [rd_key hjl'] at this
            exact this
          · by_cases hqj : q = j.toNat
            · subst hqj
              simp only [hpj, if_true, if_false]
              have := a6 p (j.toNat - 1) (by omega) (by omega) (by omega) (by omega)
              rw [rd_key hjl'] at this
              exact this
            · simp only [hpj, hqj, if_false]
              exact a6 p q hpq hq (by omega) (by omega)
        · intro q hq hqi
          simp only at hq hqi ⊢
          rw [ej, hrd, hrd]
          have n2 : ¬ q = j.toNat - 1 := by omega
          simp only [n2, if_true, if_false]
          by_cases hqj : q = j.toNat
          · simp only [hqj, if_true]
            omega
          · simp only [hqj, if_false]
            have := a7 q (by omega) hqi
            rw [rd_key hjl] at this
            exact this
      · intro hge
        refine fin ?_
        intro p q hpq hq
        by_cases hqj : (q : Int) = j
        · have e1 : q = j.toNat := by omega
          subst e1
          by_cases hp : p = j.toNat - 1
          · subst hp; rw [← ej]; omega
          · have := a6 p (j.toNat - 1) (by omega) (by omega) (by omega) (by omega)
            rw [← ej] at this
            omega
        · by_cases hpj : (p : Int) = j
          · have e1 : p = j.toNat := by omega
            subst e1
            have := a7 q (by omega) hq
            omega
          · exact a6 p q hpq hq hpj hqj
    · intro hj
      refine fin ?_
      intro p q hpq hq
      by_cases hpj : (p : Int) = j
      · have e1 : p = j.toNat := by omega
        subst e1
        have := a7 q (by omega) hq
        omega
      · exact a6 p q hpq hq hpj (by omega)
  · intro p q hpq hq hp hq'
    simp only at hp hq' ⊢
    exact hs p q hpq (by omega)
  · intro q hq hqi
    simp only at hq
    omega

theorem loop16 (n0 : Nat) : LoopOk (envOf Try.prog N16 0) 16 n0 0 (lp Try.prog 16 0) L16 := by
  rintro st K ⟨⟨rfl, hst, hx, hm⟩, hK⟩
  generalize st.x 0 = xs at *
  generalize st.x 1 = zs0 at *
  subst hst
  refine loop_of (fun a : List (List Int) × Int => S16 xs a.1 a.2) (fun a => a.1.length = zs0.length ∧ sameF zs0 a.1 ∧ rows2 a.1 ∧ 1 ≤ a.2 ∧ (a.2 ≤ zs0.length ∨ a.2 = 1) ∧ srt a.2.toNat a.1) (fun a => (zs0.length + 1 - a.2).toNat) ?_ (a := (zs0, 1)) ⟨rfl, sameF.refl _, hx, by simp, by simp, fun p q h1 h2 => by simp at h2; omega⟩
  rintro ⟨zs, i⟩ ⟨a1, a2, a3, a4, a5, a6⟩ k hn hk
  simp only at a1 a2 a3 a4 a5 a6
  show round _ _ _ _ _ (S16 xs zs i) k
  rw [r16, br_dec]
  constructor
  · intro hi
    refine ⟨⟨rfl, rfl, a3, a4, hi, by omega, a6⟩, ?_⟩
    intro zs' l1 l2 l3 l4
    rw [i64_in (i + 1) (by omega)]
    refine hn (zs', i + 1) ⟨by simp; omega, a2.trans l2, l4, by simp; omega, by simp; omega, ?_⟩ (by simp; omega)
    have e : (i + 1).toNat = i.toNat + 1 := by omega
    simp only [e]
    exact l3
  · intro hi
    refine hk _ _ (by simp) (hK zs ⟨a1, a2, ?_, a3⟩)
    intro p q hpq hq
    exact a6 p q hpq (by omega)
end Go.Vs.R1
