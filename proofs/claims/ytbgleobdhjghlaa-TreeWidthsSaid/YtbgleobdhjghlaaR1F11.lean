import Derived.Test.YtbgleobdhjghlaaR1V8
import Derived.Test.YtbgleobdhjghlaaR1V9
set_option linter.unusedVariables false
set_option linter.unusedSimpArgs false
/- tree.Build; r6.grow, r6.Build -/
namespace Go.Vs.R1
open Go Go.Proofs Go.Vs Go.IntWalk

/-- the nodes of bodies by their keys -/
noncomputable def buildF (xs : List (List Int)) : List (List Int) := if bp (xs = [] ∨ ¬ Rises xs) then [] else treeF xs 33 0 0 0 xs.length 0
theorem buildF_nil : buildF [] = [] := by unfold buildF; rw [bp_true (.inl rfl)]; rfl
theorem buildF_not {xs : List (List Int)} (h : ¬ Rises xs) : buildF xs = [] := by unfold buildF; rw [bp_true (.inr h)]; rfl
theorem buildF_tree {xs : List (List Int)} (h : xs ≠ []) (h2 : Rises xs) : buildF xs = treeF xs 33 0 0 0 xs.length 0 := by
  unfold buildF
  rw [bp_false (by rintro (h3 | h3); exact h h3; exact h3 h2)]
  rfl
def preBuild (l : List IV) (bs : List Blk) : Prop := ∃ xs, l = [.sl 0] ∧ bs = [.ro [.u64, .i64] xs] ∧ xs.length ≤ 1000 ∧ keysIn xs
noncomputable def spBuild : Vs.Spec := ⟨preBuild, fun _ bs => (.sl 0, [.row 41 nk (buildF (xsOf bs 0))])⟩
theorem c21 : Contract Try.prog 21 spBuild := by
  refine contract_of 1 ⟨mixedOrders, fun g sp h => ctrs0 h, loops_none (N := N21) (fun _ _ => rfl) 1, ?_⟩ (N := N21) ?_
  · intro g G hG
    simp only [N21] at hG
    split at hG
    · rename_i hg; subst hg; cases hG; exact ok29 33
    · cases hG
  · rintro l bs _ _ ⟨xs, rfl, rfl, hl, hk⟩
    rw [v21, br_bool, br_bool]
    constructor
    · intro h
      have : xs = [] := List.eq_nil_of_length_eq_zero (by simpa using h)
      subst this
      show (IV.sl 0, [Blk.row 41 nk (buildF [])]) = _
      rw [buildF_nil]
      rfl
    · intro h
      have hne : xs ≠ [] := by rintro rfl; simp at h
      have hpos : 0 < xs.length := List.length_pos_iff.2 hne
      refine ⟨⟨_, rfl, rfl, by omega⟩, fun h2 => ?_, fun h2 => ⟨⟨rfl, rfl, by omega, by omega, by omega, by omega, by omega, by omega, by omega, hk, by simp; omega⟩, ?_⟩⟩
      · have h3 : ¬ Rises xs := fun h4 => by rw [bp_true h4] at h2; cases h2
        show (IV.sl 0, [Blk.row 41 nk (buildF xs)]) = _
        rw [buildF_not h3]
        rfl
      · have h3 : Rises xs := bp_iff.1 (by simpa using h2)
        show (IV.sl 0, [Blk.row 41 nk (buildF xs)]) = _
        rw [buildF_tree hne h3]
        rfl

/-! ### r6.quarter -/
theorem c37 : Contract Try.prog 37 sp37 := by
  refine contract_of 1 ⟨mixedOrders, fun g sp h => (by cases h), loops_none (N := Nnone) (fun _ _ => rfl) 1, fun g G h => (by cases h)⟩ (N := Nnone) ?_
  rintro l bs _ _ ⟨hl, hb, h1, h2, h3, h4⟩
  subst hb
  obtain ⟨key, lev, rfl⟩ : ∃ key lev, l = [.int .u64 key, .int .i64 lev] := ⟨_, _, hl⟩
  clear hl
  change 0 ≤ key at h1
  change key < 18446744073709551616 at h2
  change 0 ≤ lev at h3
  change lev ≤ 31 at h4
  rw [v37]
  have e1 : IntKind.i64.wrap (2 * lev) = 2 * lev := i64_in _ (by omega)
  have e2 : IntKind.i64.wrap (62 - 2 * lev) = 62 - 2 * lev := i64_in _ (by omega)
  rw [e1, e2]
  have e3 : min (62 - 2 * lev).toNat 64 = (62 - 2 * lev).toNat := by omega
  rw [e3]
  have e4 : key.fdiv (2 ^ (62 - 2 * lev).toNat) = shr key (62 - 2 * lev).toNat := rfl
  rw [e4, and3 (shr_nonneg h1 _) (by have := shr_le h1 (62 - 2 * lev).toNat; omega), i64_in (_ % 4) (by omega)]
  exact ⟨by omega, rfl⟩
end Go.Vs.R1
