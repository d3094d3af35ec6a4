import Derived.Test.YtbgleobdhjghlaaR1F9
set_option linter.unusedVariables false
set_option linter.unusedSimpArgs false
/- tree.builder.add, by induction on the levels that are left -/
namespace Go.Vs.R1
open Go Go.Proofs Go.Vs Go.IntWalk

theorem know29 {n : Nat} (ih : FunOk Try.prog 29 (G29 n)) : KnowOk Try.prog (N29 n) 1 := by
  refine ⟨mixedOrders, fun g sp h => (by cases h), ?_, ?_⟩
  · intro d' hd f i S n0 hS
    have : d' = 0 := by omega
    subst this
    simp only [N29] at hS
    split at hS
    · rename_i hf
      subst hf
      split at hS
      · rename_i hi; subst hi; cases hS; exact loop29a n n0
      · split at hS
        · rename_i hi; subst hi; cases hS; exact loop29b (N29 n) n0
        · cases hS
    · cases hS
  · intro g G hG
    simp only [N29] at hG
    split at hG
    · rename_i hg; subst hg; cases hG; exact ih
    · cases hG

theorem ok29 : ∀ n, FunOk Try.prog 29 (G29 n)
  | 0 => by
    rintro args b K ⟨⟨h1, h2, p1, p2, p3, _⟩, hK⟩
    exact absurd p3 (by simp only [Int.natCast_zero] at *; omega)
  | n + 1 => by
    refine funOk_gc 1 (know29 (ok29 n)) ?_
    rintro args b K ⟨⟨h1, h2, hp⟩, hK⟩
    generalize argI args 1 0 = lev at *
    generalize argI args 1 1 = key at *
    generalize argI args 1 2 = fr at *
    generalize argI args 1 3 = to at *
    generalize argI args 1 4 = k0 at *
    generalize argI args 1 5 = k1 at *
    generalize argI args 1 6 = k2 at *
    generalize argI args 1 7 = k3 at *
    generalize argX b 1 = xs at *
    generalize argX b 2 = zs at *
    subst h1
    subst h2
    show runFn Try.prog (N29 n) 1 29 _ _ (fun v b1 => gcV 3 v b1 K)
    rw [v29]
    obtain ⟨p1, p1', p2, p3, p4, p5, p6, p7, p8⟩ := hp
    have hp : pre29 (n + 1) xs zs lev fr to := ⟨p1, p1', p2, p3, p4, p5, p6, p7, p8⟩
    have e0 : (List.replicate (1 : Nat) (List.replicate (8 : Nat) (0 : Int))).set (0 : Nat) [lev, key, fr, to, -1, -1, -1, -1] = [leaf8 lev key fr to] := rfl
    have hzl : (zs.length : Int) ≤ 1000000 := by
      have : (0 : Int) ≤ ((n + 1 : Nat) : Int) * (to - fr) := Int.mul_nonneg (by omega) (by omega)
      omega
    have hlv : (lev.toNat : Int) = lev := by omega
    rw [e0, br_dec, br_dec, i64_in (to - fr) (by omega)]
    have small : (to - fr ≤ 4 ∨ lev ≥ 32) → K (i64 zs.length) [some (.var 56 [.sl 1, .sl 3]), ro xs, none, some (.row 41 nk (zs ++ [leaf8 lev key fr to]))] := by
      intro h
      have : treeF xs (n + 1) lev.toNat key fr.toNat to.toNat zs.length = [leaf8 lev key fr to] := by
        simp only [treeF]
        rw [if_pos (by omega)]
        have h3 : (fr.toNat : Int) = fr := by omega
        have h4 : (to.toNat : Int) = to := by omega
        simp only [leaf8]
        rw [hlv]
        have e1 : ((fr.toNat : Nat) : Int) = fr := h3
        have e2 : ((to.toNat : Nat) : Int) = to := h4
        rw [e1, e2]
      rw [this] at hK
      exact hK
    refine ⟨by simp; omega, fun h => small (.inl h), fun h => ⟨fun h2 => small (.inr h2), fun h2 => ⟨⟨rfl, ?_, ?_⟩, ?_⟩⟩⟩
    · rw [i64_in (2 * lev) (by omega), i64_in (62 - 2 * lev) (by omega)]
    · rw [i64_in (2 * lev) (by omega), i64_in (62 - 2 * lev) (by omega)]
      refine ⟨?_, ?_, by omega, ?_, rfl, rfl, by omega, by omega⟩
      · simp only [Int.toNat_natCast, List.take_left']
        exact hp
      · simp
      · simp
    · simp only [Int.toNat_natCast, List.take_left']
      exact hK
end Go.Vs.R1
