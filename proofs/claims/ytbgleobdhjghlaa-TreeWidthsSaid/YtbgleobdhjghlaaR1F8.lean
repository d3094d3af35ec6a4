import Derived.Test.YtbgleobdhjghlaaR1V6
set_option linter.unusedVariables false
set_option linter.unusedSimpArgs false
/- SortJoins -/
namespace Go.Vs.R1
open Go Go.Proofs Go.Vs Go.IntWalk

def joinR (h : Int) (y : List Int) : List Int := [orU (y.getD 0 0) h, IntKind.i64.wrap (y.getD 1 0 + 1000)]
def mid (h : Int) (ys : List (List Int)) (i : Nat) : List (List Int) := ys.mapIdx fun j y => if j < i then joinR h y else y
theorem mid_zero (h : Int) (ys : List (List Int)) : mid h ys 0 = ys := by
  apply List.ext_getElem
  · simp [mid]
  · intro i h1 h2; simp [mid]
theorem mid_all (h : Int) (ys : List (List Int)) : mid h ys ys.length = joinF h ys := by
  apply List.ext_getElem
  · simp [mid, joinF]
  · intro i h1 h2
    have : i < ys.length := by simpa [mid] using h1
    simp [mid, joinF, joinR, this]
theorem mid_len (h : Int) (ys : List (List Int)) (i : Nat) : (mid h ys i).length = ys.length := by simp [mid]
theorem mid_step {h : Int} {ys : List (List Int)} {i : Nat} (hi : i < ys.length) :
    (((mid h ys i).modify i fun x => [x.getD 0 0, IntKind.i64.wrap (rd (mid h ys i) i 1 + 1000)]).modify i fun x => [orU (rd ((mid h ys i).modify i fun x => [x.getD 0 0, IntKind.i64.wrap (rd (mid h ys i) i 1 + 1000)]) i 0) h, x.getD 1 0]) = mid h ys (i + 1) := by
  have hm : (mid h ys i)[i]? = some ys[i] := by simp [mid, hi]
  have hr : rd (mid h ys i) i 1 = ys[i].getD 1 0 := by simp [rd, List.getD, hm]
  have hr2 : rd ((mid h ys i).modify i fun x => [x.getD 0 0, IntKind.i64.wrap (rd (mid h ys i) i 1 + 1000)]) i 0 = ys[i].getD 0 0 := by
    simp [rd, List.getD, List.getElem?_modify, hm]
  rw [hr2, hr]
  apply List.ext_getElem?
  intro j
  rw [List.getElem?_modify, List.getElem?_modify]
  by_cases e : i = j
  · subst e
    rw [hm]
    simp [mid, hi, joinR]
  · have hlt : (j < i + 1) = (j < i) := by apply propext; omega
    have e2 : ∀ n, (mid h ys n)[j]? = (ys[j]?).map fun y => if j < n then joinR h y else y := by intro n; simp [mid]
    simp only [e, if_false]
    simp only [e2]
    cases ys[j]? <;> simp [hlt]

theorem loop5 (N : Know) (n0 : Nat) : LoopOk (envOf Try.prog N 0) 5 n0 0 (lp Try.prog 5 0) L5 := by
  rintro st K ⟨⟨rfl, hst, hl⟩, hK⟩
  generalize st.x 0 = xa at *
  generalize st.x 1 = xb at *
  generalize st.x 2 = xs at *
  generalize st.x 3 = ys at *
  generalize st.i 2 = h at *
  subst hst
  rw [← mid_zero h ys] 
  rw [← mid_all h ys] at hK
  refine loop_of (fun a : Int => S5 xa xb xs (mid h ys a.toNat) h a) (fun a => 0 ≤ a ∧ a ≤ ys.length) (fun a => (100 - a).toNat) ?_ (a := 0) ⟨by simp, by simp⟩
  rintro i ⟨a1, a2⟩ k hn hk
  show round _ _ _ _ _ (S5 _ _ _ _ _ i) k
  rw [r5, br_dec]
  constructor
  · intro hi
    rw [mid_len] at hi
    have hw : (0 : Int) ≤ i ∧ i < (mid h ys i.toNat).length := by rw [mid_len]; exact ⟨a1, hi⟩
    have hw2 : ∀ f, (0 : Int) ≤ i ∧ i < ((mid h ys i.toNat).modify i.toNat f).length := by intro f; rw [List.length_modify, mid_len]; exact ⟨a1, hi⟩
    refine ⟨hw, hw, hw, hw, hw2 _, hw2 _, hw2 _, hw2 _, ?_⟩
    have := hn (i + 1) ⟨by omega, by omega⟩ (by omega)
    rw [show (i + 1).toNat = i.toNat + 1 by omega, ← mid_step (by omega)] at this
    rw [i64_in (i + 1) (by omega)]
    exact this
  · intro hi
    rw [mid_len] at hi
    have e : i.toNat = ys.length := by omega
    rw [e]
    exact hk _ _ (by simp) hK

theorem joinF_rows2 (h : Int) (ys : List (List Int)) : rows2 (joinF h ys) := by
  intro x hx
  simp only [joinF, List.mem_map] at hx
  obtain ⟨y, _, rfl⟩ := hx
  exact ⟨_, _, rfl⟩
theorem rows2_app {xs ys : List (List Int)} (h : rows2 xs) (h' : rows2 ys) : rows2 (xs ++ ys) := by
  intro x hx
  rcases List.mem_append.1 hx with hx | hx
  · exact h x hx
  · exact h' x hx
theorem sort_join {xs ys : List (List Int)} (h : rows2 xs) (h' : rows2 ys) : sortF (xs ++ ys) = sortF (sortF xs ++ sortF ys) := by
  have h1 := sortF_sorted h
  have h2 := sortF_sorted h'
  have h3 := sortF_sorted (rows2_app h h')
  have h4 := sortF_sorted (rows2_app h1.two h2.two)
  refine uniq _ _ (srt_pairwise h3.up) (srt_pairwise h4.up) ?_
  intro v
  rw [h4.same, h3.same, List.filter_append, List.filter_append, h1.same, h2.same]

def preTwoBytes (l : List IV) (bs : List Blk) : Prop := ∃ xa xb h, l = [.sl 0, .sl 1, .int .u64 h] ∧ bs = [.ro [.u8] xa, .ro [.u8] xb] ∧ xa.length ≤ 9223372036854775807 ∧ xb.length ≤ 9223372036854775807
def spTwoBytes : Vs.Spec := ⟨preTwoBytes, fun _ _ => (.bool true, [])⟩
theorem c5 : Contract Try.prog 5 spTwoBytes := by
  refine contract_of 1 ⟨mixedOrders, fun g sp h => ctrsm h, ?_, fun g G h => (by cases h)⟩ (N := N5) ?_
  · intro d' hd f i S n0 hS
    have : d' = 0 := by omega
    subst this
    simp only [N5] at hS
    split at hS
    · rename_i hf
      subst hf
      split at hS
      · rename_i hi
        subst hi
        cases hS
        exact loop5 N5 n0
      · cases hS
    · cases hS
  · rintro l bs _ _ ⟨xa, xb, h, rfl, rfl, hl, hl'⟩
    rw [v5]
    have e0 : List.replicate (0 : Nat) (List.replicate (2 : Nat) (0 : Int)) ++ makeF xa = makeF xa := rfl
    rw [e0]
    have hra := makeF_rows2 xa
    have hrb := joinF_rows2 h (makeF xb)
    have ha : (makeF xa).length ≤ 100 := by rw [makeF_len]; omega
    have hb : (makeF xb).length ≤ 100 := by rw [makeF_len]; omega
    have hj : (joinF h (makeF xb)).length ≤ 100 := by simpa [joinF] using hb
    have hS1 := sortF_sorted hra
    have hS2 := sortF_sorted hrb
    have hS3 := sortF_sorted (rows2_app hra hrb)
    have hS4 := sortF_sorted (rows2_app hS1.two hS2.two)
    have l1 := hS1.len
    have l2 := hS2.len
    have l3 := hS3.len
    have l4 := hS4.len
    rw [List.length_append] at l3 l4
    rw [bp_true (sort_join hra hrb)]
    refine ⟨⟨_, rfl, rfl, hl⟩, ⟨_, rfl, rfl, hl'⟩, ⟨rfl, rfl, hb⟩, by omega, by omega, ⟨_, rfl, rfl, rows2_app hra hrb, by rw [List.length_append]; omega⟩, ⟨_, rfl, rfl, hra, by omega⟩, ⟨_, rfl, rfl, hrb, by omega⟩, by omega, ⟨_, rfl, rfl, rows2_app hS1.two hS2.two, by rw [List.length_append]; omega⟩, ?_⟩
    rw [i64_in (_ + _) (by omega), l3, br_bool]
    refine ⟨fun _ => ⟨⟨_, _, rfl, rfl, hS3.two, hS4.two, by omega⟩, ⟨rfl, rfl⟩, rfl⟩, fun he => ?_⟩
    simp at he
end Go.Vs.R1
