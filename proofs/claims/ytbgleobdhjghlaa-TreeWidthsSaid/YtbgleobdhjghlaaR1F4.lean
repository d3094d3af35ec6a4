import Derived.Test.YtbgleobdhjghlaaR1F3
set_option linter.unusedVariables false
set_option linter.unusedSimpArgs false
/- contracts: slices.Clone, sort.By, r6.By, SameKeyed, both Rising -/
namespace Go.Vs.R1
open Go Go.Proofs Go.Vs

theorem mixedOrders : Try.prog.follows .mixedOrders = true := by kernel_rfl
theorem loops_none {P : Program} {N : Know} (h : ∀ f i, N.Λ f i = none) (d : Nat) : ∀ d', d' < d → ∀ f i S n0, N.Λ f i = some S → LoopOk (envOf P N d') f n0 i (lp P f i) S := by
  intro d' _ f i S n0 hS
  rw [h] at hS
  cases hS

theorem c28 : Contract Try.prog 28 spClone := by
  refine contract_of 1 ⟨mixedOrders, fun g sp h => (by cases h), loops_none (N := noKnow) (fun _ _ => rfl) 1, fun g G h => (by cases h)⟩ (N := noKnow) ?_
  rintro l bs _ _ ⟨xs, rfl, rfl, hl⟩
  rw [v28]
  intro q hq
  rw [br_bool]
  constructor
  · intro h
    rw [hq h]
    rfl
  · intro _
    exact ⟨by omega, rfl⟩

theorem sorted_nil_app {xs zs : List (List Int)} (h : Sorted (List.replicate 0 (List.replicate 2 0) ++ xs) zs) : Sorted xs zs := h

def preSort (l : List IV) (bs : List Blk) : Prop := ∃ xs, l = [.sl 0] ∧ bs = [.ro [.u64, .i64] xs] ∧ rows2 xs ∧ xs.length ≤ 1000000
noncomputable def spSort : Vs.Spec := ⟨preSort, fun l bs => (.sl 0, [.row 32 [.u64, .i64] (sortF (xsOf bs 0))])⟩

theorem c16 : Contract Try.prog 16 spSort := by
  refine contract_of 1 ⟨mixedOrders, fun g sp h => (by cases h), ?_, fun g G h => (by cases h)⟩ (N := N16) ?_
  · intro d' hd f i S n0 hS
    have : d' = 0 := by omega
    subst this
    simp only [N16] at hS
    split at hS
    · rename_i hf
      subst hf
      split at hS
      · rename_i hi
        subst hi
        cases hS
        exact loop16 n0
      · split at hS
        · rename_i hi
          subst hi
          cases hS
          exact loop16a N16 n0
        · cases hS
    · cases hS
  · rintro l bs _ _ ⟨xs, rfl, rfl, h2, hl⟩
    rw [v16]
    refine ⟨by omega, ⟨rfl, rfl, h2, hl⟩, ?_⟩
    intro zs' hs
    have := (sorted_nil_app hs).eq
    show (IV.sl 0, [Blk.row 32 [.u64, .i64] (sortF xs)]) = _
    rw [this]

theorem okRows_keys {xs : List (List Int)} (h : okRows [.u64, .i64] xs) : keysOk xs := by
  intro x hx
  have := h x hx 0 (by simp)
  simp [inK, IntKind.min, IntKind.max, IntKind.bits, IntKind.signed] at this
  unfold key
  simp [List.getD]
  omega

theorem c15 : Contract Try.prog 15 spSort := by
  refine contract_of 1 ⟨mixedOrders, fun g sp h => ?_, ?_, fun g G h => (by cases h)⟩ (N := N15) ?_
  · simp only [N15] at h
    split at h
    · rename_i hg
      subst hg
      cases h
      exact c28
    · cases h
  · intro d' hd f i S n0 hS
    have : d' = 0 := by omega
    subst this
    simp only [N15] at hS
    split at hS
    · rename_i hf
      subst hf
      split at hS
      · rename_i hi
        subst hi
        cases hS
        exact loop15 n0
      · split at hS
        · rename_i hi
          subst hi
          cases hS
          exact loop15a N15 n0
        · split at hS
          · rename_i hi
            subst hi
            cases hS
            exact loop15b N15 n0
          · split at hS
            · rename_i hi
              subst hi
              cases hS
              exact loop15c N15 n0
            · cases hS
    · cases hS
  · rintro l bs _ hb ⟨xs, rfl, rfl, h2, hl⟩
    have hb1 : okB (.ro [.u64, .i64] xs) := hb _ (by simp)
    have hk := okRows_keys hb1.1
    have e0 : xsOf (List.map (fun x => x.fst) ([] ++ [(Blk.ro [IntKind.u64, IntKind.i64] xs, some (0 : Nat))])) (0 : Nat) = xs := rfl
    rw [v15, e0]
    have hl' : xs.length ≤ 1000000 := hl
    have fin : ∀ zs' : List (List Int), Sorted xs zs' → spSort.F [.sl 0] [.ro [.u64, .i64] xs] = (IV.sl 0, [Blk.row 32 [IntKind.u64, IntKind.i64] zs']) := by
      intro zs' hs
      show (IV.sl 0, [Blk.row 32 [.u64, .i64] (sortF xs)]) = _
      rw [hs.eq]
    have hpc : preClone [IV.sl 0] [Blk.ro [IntKind.u64, IntKind.i64] xs] := ⟨xs, rfl, rfl, hl⟩
    exact ⟨⟨hpc, ⟨by omega, by omega⟩, ⟨rfl, rfl, hl', by simp, h2, hk⟩, fin⟩, ⟨by omega, by omega⟩, hpc, ⟨rfl, rfl, hl', by simp, h2, hk⟩, fin⟩

def preSame (l : List IV) (bs : List Blk) : Prop := ∃ xs ys, l = [.sl 0, .sl 1] ∧ bs = [.ro [.u64, .i64] xs, .ro [.u64, .i64] ys] ∧ rows2 xs ∧ rows2 ys ∧ ys.length ≤ 1000000
noncomputable def spSame : Vs.Spec := ⟨preSame, fun l bs => (.bool (bp (xsOf bs 0 = xsOf bs 1)), [])⟩
theorem c14 : Contract Try.prog 14 spSame := by
  refine contract_of 1 ⟨mixedOrders, fun g sp h => (by cases h), ?_, fun g G h => (by cases h)⟩ (N := N14) ?_
  · intro d' hd f i S n0 hS
    have : d' = 0 := by omega
    subst this
    simp only [N14] at hS
    split at hS
    · rename_i hf
      subst hf
      split at hS
      · rename_i hi
        subst hi
        cases hS
        exact loop14 N14 n0
      · cases hS
    · cases hS
  · rintro l bs _ hb ⟨xs, ys, rfl, rfl, hx, hy, hl⟩
    rw [v14, br_bool]
    have key : ∀ b : Bool, bp (xs = ys) = b → spSame.F [.sl 0, .sl 1] [.ro [.u64, .i64] xs, .ro [.u64, .i64] ys] = (IV.bool b, []) := by
      rintro b rfl; rfl
    constructor
    · intro hne
      refine key _ (bp_false ?_)
      rintro rfl
      simp at hne
    · intro heq
      have hlen : xs.length = ys.length := by
        simp at heq
        omega
      refine ⟨⟨rfl, rfl, hlen, hx, hy, hl⟩, ?_⟩
      rw [br_bp]
      exact ⟨fun h => key _ (bp_true h), fun h => key _ (bp_false h)⟩

def preRise (l : List IV) (bs : List Blk) : Prop := ∃ xs, l = [.sl 0] ∧ bs = [.ro [.u64, .i64] xs] ∧ xs.length ≤ 1000000
def Rises (xs : List (List Int)) : Prop := srt xs.length xs
noncomputable def spRise : Vs.Spec := ⟨preRise, fun l bs => (.bool (bp (Rises (xsOf bs 0))), [])⟩
theorem c18 : Contract Try.prog 18 spRise := by
  refine contract_of 1 ⟨mixedOrders, fun g sp h => (by cases h), ?_, fun g G h => (by cases h)⟩ (N := N18) ?_
  · intro d' hd f i S n0 hS
    have : d' = 0 := by omega
    subst this
    simp only [N18] at hS
    split at hS
    · rename_i hf
      subst hf
      split at hS
      · rename_i hi
        subst hi
        cases hS
        exact loop18 N18 n0
      · cases hS
    · cases hS
  · rintro l bs _ hb ⟨xs, rfl, rfl, hl⟩
    rw [v18]
    have key : ∀ b : Bool, bp (Rises xs) = b → spRise.F [.sl 0] [.ro [.u64, .i64] xs] = (IV.bool b, []) := by
      rintro b rfl; rfl
    refine ⟨⟨rfl, rfl, hl⟩, ?_⟩
    rw [br_bp]
    exact ⟨fun h => key _ (bp_true h), fun h => key _ (bp_false h)⟩
theorem c17 : Contract Try.prog 17 spRise := by
  refine contract_of 1 ⟨mixedOrders, fun g sp h => (by cases h), ?_, fun g G h => (by cases h)⟩ (N := N17) ?_
  · intro d' hd f i S n0 hS
    have : d' = 0 := by omega
    subst this
    simp only [N17] at hS
    split at hS
    · rename_i hf
      subst hf
      split at hS
      · rename_i hi
        subst hi
        cases hS
        exact loop17 N17 n0
      · cases hS
    · cases hS
  · rintro l bs _ hb ⟨xs, rfl, rfl, hl⟩
    rw [v17]
    have key : ∀ b : Bool, bp (Rises xs) = b → spRise.F [.sl 0] [.ro [.u64, .i64] xs] = (IV.bool b, []) := by
      rintro b rfl; rfl
    have hmn : mn IntKind.i64 1 (xs.length : Int) = if (xs.length : Int) < 1 then (xs.length : Int) else 1 := rfl
    have hd : xs.drop (mn IntKind.i64 1 (xs.length : Int)).toNat = xs.drop 1 := by
      rw [hmn]
      split
      · have : xs = [] := List.eq_nil_of_length_eq_zero (by omega)
        subst this
        rfl
      · rfl
    have ht : xs.take ((xs.length : Int)).toNat = xs := by
      rw [Int.toNat_natCast]
      exact List.take_length
    refine ⟨⟨?_, ?_, by omega⟩, ⟨rfl, rfl, hl, by rw [ht]; exact hd⟩, ?_⟩
    · rw [hmn]; split <;> omega
    · rw [hmn]; split <;> omega
    · rw [br_bp]
      exact ⟨fun h => key _ (bp_true h), fun h => key _ (bp_false h)⟩
end Go.Vs.R1
