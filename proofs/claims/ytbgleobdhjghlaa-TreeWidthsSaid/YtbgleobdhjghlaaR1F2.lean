import Derived.Test.YtbgleobdhjghlaaR1V2
import Derived.Test.YtbgleobdhjghlaaR1F1
set_option linter.unusedVariables false
set_option linter.unusedSimpArgs false
/- sort.By: its loops -/
namespace Go.Vs.R1
open Go Go.Proofs Go.Vs Go.IntWalk

theorem dg_range (s x : Int) : 0 ≤ dg s x ∧ dg s x < 256 := by
  unfold dg
  have h : (BitVec.ofInt 64 (x.fdiv (2 ^ min s.toNat 64)) &&& BitVec.ofInt 64 255).toNat ≤ 255 := by
    rw [BitVec.toNat_and]
    exact Nat.and_le_right
  rw [u64_in _ (by omega)]
  omega

theorem dget_set (A : List Int) (i j v : Int) (hi : 0 ≤ i) (hj : 0 ≤ j) (hl : i < A.length) : dget (dset A i v) j = if j = i then v else dget A j := by
  unfold dget dset
  by_cases h : j = i
  · subst h
    simp [List.getD, hl, show j.toNat < A.length by omega]
  · have : ¬ i.toNat = j.toNat := by omega
    simp [List.getD, h, List.getElem?_set, this]
theorem dset_length (A : List Int) (i v : Int) : (dset A i v).length = A.length := by simp [dset]

theorem take_succ_filter {p : List Int → Bool} {ys : List (List Int)} {j : Nat} (h : j < ys.length) : (ys.take (j + 1)).filter p = (ys.take j).filter p ++ if p ys[j] then [ys[j]] else [] := by
  rw [List.take_add_one, List.filter_append, List.getElem?_eq_getElem h]
  congr 1
  simp [List.filter_cons]

theorem cnt_succ (s d : Int) {ys : List (List Int)} {j : Nat} (h : j < ys.length) : (cnt s d (ys.take (j + 1)) : Int) = cnt s d (ys.take j) + if dg s (key ys[j]) = d then 1 else 0 := by
  unfold cnt
  rw [take_succ_filter h]
  by_cases hd : dg s (key ys[j]) = d <;> simp [hd]

theorem cnt_le (s d : Int) (ys : List (List Int)) : cnt s d ys ≤ ys.length := List.length_filter_le _ _
theorem cntB_le (s d : Int) (ys : List (List Int)) : cntB s d ys ≤ ys.length := List.length_filter_le _ _

theorem zero257_len : zero257.length = 257 := List.length_replicate
theorem dget_zero (i : Int) : dget zero257 i = 0 := by
  unfold dget zero257
  rw [List.getD, List.getElem?_replicate]
  split <;> rfl

theorem cntB_succ (s d : Int) (ys : List (List Int)) : cntB s (d + 1) ys = cntB s d ys + cnt s d ys := by
  unfold cntB cnt
  induction ys with
  | nil => rfl
  | cons y ys ih =>
    simp only [List.filter_cons]
    by_cases h1 : dg s (key y) < d
    · have h2 : dg s (key y) < d + 1 := by omega
      have h3 : ¬ dg s (key y) = d := by omega
      simp [h1, h2, h3, ih]
      omega
    · by_cases h3 : dg s (key y) = d
      · have h2 : dg s (key y) < d + 1 := by omega
        simp only [h1, h2, decide_true, decide_false, if_true, Bool.false_eq_true, if_false, List.length_cons, ih]
        simp [h3]
        omega
      · have h2 : ¬ dg s (key y) < d + 1 := by omega
        simp [h1, h2, h3, ih]
theorem cntB_zero (s : Int) (ys : List (List Int)) : cntB s 0 ys = 0 := by
  unfold cntB
  rw [List.length_eq_zero_iff, List.filter_eq_nil_iff]
  intro y _
  have := (dg_range s (key y)).1
  simp
  omega
theorem cntB_all (s : Int) (ys : List (List Int)) : cntB s 256 ys = ys.length := by
  unfold cntB
  congr 1
  rw [List.filter_eq_self]
  intro y _
  have := (dg_range s (key y)).2
  simp
  omega

theorem loop15a (N : Know) (n0 : Nat) : LoopOk (envOf Try.prog N 0) 15 n0 1 (lp Try.prog 15 1) L15a := by
  rintro st K ⟨⟨rfl, hst, hlen, hs⟩, hK⟩
  generalize st.x 0 = xs at *
  generalize st.x 1 = ys at *
  generalize st.x 2 = zs at *
  generalize st.i 5 = s at *
  subst hst
  refine loop_of (fun a : List Int × Int => S15a xs ys zs a.1 s a.2) (fun a => a.1.length = 257 ∧ 0 ≤ a.2 ∧ a.2 ≤ ys.length ∧ dget a.1 0 = 0 ∧ ∀ d : Int, 0 ≤ d → d < 256 → dget a.1 (d + 1) = cnt s d (ys.take a.2.toNat)) (fun a => (ys.length - a.2).toNat) ?_ (a := (zero257, 0)) ⟨zero257_len, by simp, by simp, dget_zero _, ?_⟩
  · rintro ⟨A, j⟩ ⟨a1, a2, a3, a4, a5⟩ k hn hk
    simp only at a1 a2 a3 a4 a5
    show round _ _ _ _ _ (S15a xs ys zs A s j) k
    rw [r15a, br_dec]
    constructor
    · intro hj
      have hjl : j.toNat < ys.length := by omega
      rw [i64_in (j + 1) (by omega)]
      rw [rd_key hjl]
      have hdg := dg_range s (key ys[j.toNat])
      have hfold : IntKind.u64.wrap (↑(BitVec.ofInt 64 ((key ys[j.toNat]).fdiv (2 ^ min s.toNat 64)) &&& BitVec.ofInt 64 255).toNat : Int) = dg s (key ys[j.toNat]) := rfl
      simp only [hfold]
      rw [u64_in (dg s (key ys[j.toNat]) + 1) (by omega)]
      have hc := a5 (dg s (key ys[j.toNat])) hdg.1 hdg.2
      have hcl := cnt_le s (dg s (key ys[j.toNat])) (ys.take j.toNat)
      have htl : (ys.take j.toNat).length ≤ 1000000 := by simp; omega
      rw [i64_in (dget A (dg s (key ys[j.toNat]) + 1) + 1) (by omega)]
      refine ⟨⟨by omega, hj⟩, ⟨by omega, hj⟩, hs, ⟨by omega, by omega⟩, ⟨by omega, by omega⟩, ⟨by omega, by omega⟩, ⟨by omega, by omega⟩, ?_⟩
      refine hn (dset A (dg s (key ys[j.toNat]) + 1) (dget A (dg s (key ys[j.toNat]) + 1) + 1), j + 1) ⟨by simp [dset_length, a1], by simp; omega, by simp; omega, ?_, ?_⟩ (by simp; omega)
      · simp only
        rw [dget_set _ _ _ _ (by omega) (by omega) (by omega), if_neg (by omega)]
        exact a4
      · intro d hd1 hd2
        simp only
        have e : (j + 1).toNat = j.toNat + 1 := by omega
        rw [e, cnt_succ s d hjl, dget_set _ _ _ _ (by omega) (by omega) (by omega)]
        by_cases hd : dg s (key ys[j.toNat]) = d
        · subst hd
          simp [hc]
        · rw [if_neg (by omega), if_neg hd, a5 d hd1 hd2]
          omega
    · intro hj
      refine hk _ _ (by simp) (hK A ⟨a1, ?_, ?_⟩)
      · simpa [dget] using a4
      · intro d hd
        have := a5 d (by omega) (by omega)
        have e : j.toNat = ys.length := by omega
        rw [e, List.take_length] at this
        rw [← this]
        simp only [dget]
        congr 1
  · intro d h1 h2
    rw [dget_zero]
    simp [cnt]

theorem loop15b (N : Know) (n0 : Nat) : LoopOk (envOf Try.prog N 0) 15 n0 2 (lp Try.prog 15 2) L15b := by
  rintro st K ⟨⟨rfl, hst, hlen, hs, hc⟩, hK⟩
  generalize st.x 0 = xs at *
  generalize st.x 1 = ys at *
  generalize st.x 2 = zs at *
  generalize st.i 5 = s at *
  generalize st.a 3 = A0 at *
  subst hst
  refine loop_of (fun a : List Int × Int => S15b xs ys zs a.1 s a.2) (fun a => a.1.length = 257 ∧ 0 ≤ a.2 ∧ a.2 ≤ 256 ∧ (∀ d : Int, 0 ≤ d → d ≤ a.2 → dget a.1 d = cntB s d ys) ∧ ∀ d : Int, a.2 ≤ d → d < 256 → dget a.1 (d + 1) = cnt s d ys) (fun a => (256 - a.2).toNat) ?_ (a := (A0, 0)) ⟨hc.1, by simp, by simp, ?_, ?_⟩
  · rintro ⟨A, j⟩ ⟨a1, a2, a3, a4, a5⟩ k hn hk
    simp only at a1 a2 a3 a4 a5
    show round _ _ _ _ _ (S15b xs ys zs A s j) k
    rw [r15b, br_dec]
    constructor
    · intro hj
      rw [i64_in (j + 1) (by omega)]
      have e1 := a4 j a2 (by omega)
      have e2 := a5 j (by omega) hj
      have l1 := cntB_le s j ys
      have l2 := cnt_le s j ys
      rw [i64_in (dget A (j + 1) + dget A j) (by omega)]
      refine ⟨⟨by omega, by omega⟩, ⟨by omega, by omega⟩, ⟨by omega, by omega⟩, ⟨by omega, by omega⟩, ⟨by omega, by omega⟩, ⟨by omega, by omega⟩, ?_⟩
      refine hn (dset A (j + 1) (dget A (j + 1) + dget A j), j + 1) ⟨by simp [dset_length, a1], by simp; omega, by simp; omega, ?_, ?_⟩ (by simp; omega)
      · intro d hd1 hd2
        simp only at hd2 ⊢
        rw [dget_set _ _ _ _ (by omega) (by omega) (by omega)]
        by_cases hd : d = j + 1
        · subst hd
          rw [if_pos rfl, cntB_succ, e1, e2]
          omega
        · rw [if_neg hd]
          exact a4 d hd1 (by omega)
      · intro d hd1 hd2
        simp only at hd1 ⊢
        rw [dget_set _ _ _ _ (by omega) (by omega) (by omega), if_neg (by omega)]
        exact a5 d (by omega) hd2
    · intro hj
      refine hk _ _ (by simp) (hK A ⟨a1, ?_⟩)
      intro d hd
      have := a4 d (by omega) (by omega)
      simpa [dget] using this
  · intro d h1 h2
    simp only at h2
    have : d = 0 := by omega
    subst this
    rw [cntB_zero]
    simpa [dget] using hc.2.1
  · intro d h1 h2
    have := hc.2.2 d.toNat (by omega)
    have e : (d.toNat : Int) = d := by omega
    rw [e] at this
    simp only [dget]
    rw [← this]
    congr 1
    simp only at h1
    omega

/-- a list made of pieces, piece by piece -/
theorem pieces {α : Type} (Z : List α) (f : Nat → List α) (o : Nat → Nat) (h0 : o 0 = 0) (hs : ∀ d, o (d + 1) = o d + (f d).length) : ∀ m, o m ≤ Z.length → (∀ d, d < m → ∀ t, t < (f d).length → Z[o d + t]? = (f d)[t]?) → Z.take (o m) = (List.range m).flatMap f := by
  intro m
  induction m with
  | zero => intro _ _; simp [h0]
  | succ m ih =>
    intro hl h
    rw [List.range_succ, List.flatMap_append, ← ih (by rw [hs] at hl; omega) (fun d hd => h d (by omega)), hs, List.take_add]
    congr 1
    simp only [List.flatMap_cons, List.flatMap_nil, List.append_nil]
    apply List.ext_getElem?
    intro t
    by_cases ht : t < (f m).length
    · rw [List.getElem?_take, if_pos ht, List.getElem?_drop]
      exact h m (by omega) t ht
    · rw [List.getElem?_eq_none (by simp; omega), List.getElem?_eq_none (by omega)]

def fil (s d : Int) (ys : List (List Int)) : List (List Int) := ys.filter fun x => decide (dg s (key x) = d)
theorem fil_length (s d : Int) (ys : List (List Int)) : (fil s d ys).length = cnt s d ys := rfl
theorem fil_succ (s d : Int) {ys : List (List Int)} {j : Nat} (h : j < ys.length) : fil s d (ys.take (j + 1)) = fil s d (ys.take j) ++ if dg s (key ys[j]) = d then [ys[j]] else [] := by
  unfold fil
  rw [take_succ_filter h]
  by_cases hd : dg s (key ys[j]) = d <;> simp [hd]
theorem cnt_take_le (s d : Int) (ys : List (List Int)) (j : Nat) : cnt s d (ys.take j) ≤ cnt s d ys :=
  ((List.take_sublist j ys).filter _).length_le
theorem cntB_mono (s : Int) (ys : List (List Int)) {d e : Int} (h : d ≤ e) : cntB s d ys ≤ cntB s e ys := by
  unfold cntB
  induction ys with
  | nil => simp
  | cons y ys ih =>
    simp only [List.filter_cons]
    by_cases h1 : dg s (key y) < d
    · have h2 : dg s (key y) < e := by omega
      simp [h1, h2, ih]
    · by_cases h2 : dg s (key y) < e
      · simp [h1, h2]; omega
      · simp [h1, h2, ih]

structure I15c (s : Int) (ys : List (List Int)) (a : (List Int × List (List Int)) × Int) : Prop where
  lenA : a.1.1.length = 257
  lo : 0 ≤ a.2
  hi : a.2 ≤ ys.length
  lenZ : a.1.2.length = ys.length
  at_ : ∀ d : Int, 0 ≤ d → d < 256 → dget a.1.1 d = cntB s d ys + cnt s d (ys.take a.2.toNat)
  put : ∀ d : Int, 0 ≤ d → d < 256 → ∀ t : Nat, t < cnt s d (ys.take a.2.toNat) → a.1.2[cntB s d ys + t]? = (fil s d (ys.take a.2.toNat))[t]?

theorem loop15c (N : Know) (n0 : Nat) : LoopOk (envOf Try.prog N 0) 15 n0 3 (lp Try.prog 15 3) L15c := by
  rintro st K ⟨⟨rfl, hst, hlen, hs, hc, hz, hr⟩, hK⟩
  generalize st.x 0 = xs at *
  generalize st.x 1 = ys at *
  generalize st.x 2 = zs at *
  generalize st.i 5 = s at *
  generalize st.a 3 = A0 at *
  subst hst
  refine loop_of (fun a : (List Int × List (List Int)) × Int => S15c xs ys a.1.2 a.1.1 s a.2) (I15c s ys) (fun a => (ys.length - a.2).toNat) ?_ (a := ((A0, zs), 0)) ⟨hc.1, by simp, by simp, hz, ?_, ?_⟩
  · rintro ⟨⟨A, Z⟩, j⟩ ⟨a1, a2, a3, a4, a5, a6⟩ k hn hk
    simp only at a1 a2 a3 a4 a5 a6
    show round _ _ _ _ _ (S15c xs ys Z A s j) k
    rw [r15c, br_dec]
    constructor
    · intro hj
      have hjl : j.toNat < ys.length := by omega
      rw [i64_in (j + 1) (by omega)]
      rw [rows2_get hr hjl, rd_key hjl]
      have hdg := dg_range s (key ys[j.toNat])
      have hfold : IntKind.u64.wrap (↑(BitVec.ofInt 64 ((key ys[j.toNat]).fdiv (2 ^ min s.toNat 64)) &&& BitVec.ofInt 64 255).toNat : Int) = dg s (key ys[j.toNat]) := rfl
      simp only [hfold, modify_const]
      generalize hd0 : dg s (key ys[j.toNat]) = d0 at *
      have e1 := a5 d0 hdg.1 hdg.2
      have e2 := cnt_succ s d0 hjl
      rw [hd0, if_pos rfl] at e2
      have e3 := cnt_take_le s d0 ys (j.toNat + 1)
      have e4 := cntB_succ s d0 ys
      have e5 := cntB_le s (d0 + 1) ys
      rw [i64_in (dget A d0 + 1) (by omega)]
      have hp : (dget A d0).toNat = cntB s d0 ys + cnt s d0 (ys.take j.toNat) := by omega
      have fin : k Out.normal (S15c xs ys (Z.set (dget A d0).toNat ys[j.toNat]) (dset A d0 (dget A d0 + 1)) s (j + 1)) := by
        refine hn ((dset A d0 (dget A d0 + 1), Z.set (dget A d0).toNat ys[j.toNat]), j + 1) ⟨by simp [dset_length, a1], by simp; omega, by simp; omega, by simp [a4], ?_, ?_⟩ (by simp; omega)
        · intro d hd1 hd2
          have e : (j + 1).toNat = j.toNat + 1 := by omega
          simp only [e]
          rw [cnt_succ s d hjl, hd0, dget_set _ _ _ _ (by omega) (by omega) (by omega)]
          by_cases hd : d = d0
          · subst hd
            rw [if_pos rfl, if_pos rfl, e1]
            omega
          · rw [if_neg hd, if_neg (fun h => hd h.symm), a5 d hd1 hd2]
            omega
        · intro d hd1 hd2 t ht
          have e : (j + 1).toNat = j.toNat + 1 := by omega
          simp only [e] at ht ⊢
          have hcs := cnt_succ s d hjl
          rw [hd0] at hcs
          rw [fil_succ s d hjl, hd0, hp, List.getElem?_set]
          by_cases hd : d0 = d
          · subst hd
            rw [if_pos rfl] at hcs ⊢
            by_cases htt : t < cnt s d0 (ys.take j.toNat)
            · rw [if_neg (by omega), List.getElem?_append_left (by rw [fil_length]; exact htt)]
              exact a6 d0 hd1 hd2 t htt
            · have : t = cnt s d0 (ys.take j.toNat) := by omega
              subst this
              rw [if_pos rfl, if_pos (by omega), List.getElem?_append_right (by rw [fil_length]; exact Nat.le_refl _), fil_length]
              simp
          · rw [if_neg hd] at hcs ⊢
            have ht' : t < cnt s d (ys.take j.toNat) := by omega
            have l1 := cnt_take_le s d ys j.toNat
            have l2 := cntB_succ s d ys
            have hne : ¬ cntB s d0 ys + cnt s d0 (ys.take j.toNat) = cntB s d ys + t := by
              rcases Int.lt_or_gt_of_ne hd with h | h
              · have := cntB_mono s ys (show d0 + 1 ≤ d by omega)
                omega
              · have := cntB_mono s ys (show d + 1 ≤ d0 by omega)
                omega
            rw [if_neg hne, List.append_nil]
            exact a6 d hd1 hd2 t ht'
      repeat' apply And.intro
      all_goals first | exact fin | exact hs | omega
    · intro hj
      have e : j.toNat = ys.length := by omega
      have hZ : Z = pass s ys := by
        have hpc := pieces Z (fun d => fil s (d : Int) ys) (fun d => cntB s (d : Int) ys) (by simpa using cntB_zero s ys) (fun d => by
          have := cntB_succ s (d : Int) ys
          simpa [fil_length] using this) 256 (by have := cntB_all s ys; rw [a4]; exact Nat.le_of_eq (by simpa using this)) (fun d hd t ht => by
          have := a6 (d : Int) (by omega) (by omega) t (by rw [e, List.take_length]; exact ht)
          rw [e, List.take_length] at this
          exact this)
        have h256 : cntB s ((256 : Nat) : Int) ys = Z.length := by rw [a4]; exact cntB_all s ys
        simp only [h256, List.take_length] at hpc
        exact hpc
      rw [hZ]
      exact hk _ _ (by simp) hK
  · intro d h1 h2
    have := hc.2 d.toNat (by omega)
    have e : (d.toNat : Int) = d := by omega
    rw [e] at this
    simp only [dget]
    rw [this]
    simp [cnt]
  · intro d h1 h2 t ht
    simp [cnt] at ht
end Go.Vs.R1
