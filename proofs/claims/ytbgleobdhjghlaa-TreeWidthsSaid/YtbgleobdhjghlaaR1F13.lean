import Derived.Test.YtbgleobdhjghlaaR1F12
set_option linter.unusedVariables false
set_option linter.unusedSimpArgs false
/- r6.grow, by induction; r6.Build -/
namespace Go.Vs.R1
open Go Go.Proofs Go.Vs Go.IntWalk

theorem know30 {n : Nat} (ih : FunOk Try.prog 30 (G30 n)) : KnowOk Try.prog (N30 n) 1 := by
  refine ⟨mixedOrders, ?_, ?_, ?_⟩
  · intro g sp h
    simp only [N30, Γ30] at h
    split at h
    · rename_i hg; subst hg; cases h; exact c37
    · cases h
  · intro d' hd f i S n0 hS
    have : d' = 0 := by omega
    subst this
    simp only [N30] at hS
    split at hS
    · rename_i hf
      subst hf
      split at hS
      · rename_i hi; subst hi; cases hS; exact loop30a (N30 n) n0
      · split at hS
        · rename_i hi; subst hi; cases hS; exact loop30b n n0
        · split at hS
          · rename_i hi; subst hi; cases hS; exact loop30c n n0
          · cases hS
    · cases hS
  · intro g G hG
    simp only [N30] at hG
    split at hG
    · rename_i hg; subst hg; cases hG; exact ih
    · cases hG

theorem ok30 : ∀ n, FunOk Try.prog 30 (G30 n)
  | 0 => by
    rintro args b K ⟨⟨h1, h2, ⟨p1, p2, p3, _⟩, _⟩, hK⟩
    exact absurd p3 (by simp only [Int.natCast_zero] at *; omega)
  | n + 1 => by
    refine funOk_gc 1 (know30 (ok30 n)) ?_
    rintro args b K ⟨⟨h1, h2, hp⟩, hK⟩
    generalize argI args 2 0 = lev at *
    generalize argI args 2 1 = key at *
    generalize argI args 2 2 = fr at *
    generalize argI args 2 3 = to at *
    generalize argI args 2 4 = k0 at *
    generalize argI args 2 5 = k1 at *
    generalize argI args 2 6 = k2 at *
    generalize argI args 2 7 = k3 at *
    generalize argX b 1 = xs at *
    generalize argX b 0 = zs at *
    subst h1
    subst h2
    show runFn Try.prog (N30 n) 1 30 _ _ (fun v b1 => gcV 2 v b1 K)
    rw [v30]
    obtain ⟨⟨p1, p1', p2, p3, p4, p5, p6, p7, p8⟩, hR, hone⟩ := hp
    have hp : pre30 (n + 1) xs zs lev fr to := ⟨⟨p1, p1', p2, p3, p4, p5, p6, p7, p8⟩, hR, hone⟩
    have e0 : (List.replicate (1 : Nat) (List.replicate (8 : Nat) (0 : Int))).set (0 : Nat) [lev, key, fr, to, k0, k1, k2, k3] = [[lev, key, fr, to, k0, k1, k2, k3]] := rfl
    have hzl : (zs.length : Int) ≤ 1000000 := by
      have : (0 : Int) ≤ ((n + 1 : Nat) : Int) * (to - fr) := Int.mul_nonneg (by omega) (by omega)
      omega
    have hlv : (lev.toNat : Int) = lev := by omega
    have htk : ∀ r : List (List Int), (zs ++ r).take ((zs.length : Nat) : Int).toNat = zs := by intro r; simp
    rw [e0, br_dec, br_dec, i64_in (to - fr) (by omega)]
    simp only [htk]
    have small : (to - fr ≤ 4 ∨ lev ≥ 32) → K (.sl 2) [none, ro xs, some (.row 41 nk (zs ++ [leaf8 lev key fr to]))] := by
      intro h
      have : treeF xs (n + 1) lev.toNat key fr.toNat to.toNat zs.length = [leaf8 lev key fr to] := by
        simp only [treeF]
        rw [if_pos (by omega)]
        simp only [leaf8]
        have h3 : ((fr.toNat : Nat) : Int) = fr := by omega
        have h4 : ((to.toNat : Nat) : Int) = to := by omega
        rw [hlv, h3, h4]
      rw [this] at hK
      exact hK
    refine ⟨by simp; omega, ⟨by first | rfl | trivial, by first | rfl | trivial, ?_, by omega, by simp, by first | rfl | trivial⟩, fun h => small (.inl h), fun h => ⟨fun h2 => small (.inr h2), fun h2 => ⟨⟨by first | rfl | trivial, by first | rfl | trivial, ?_, ?_, by omega, by simp, by first | rfl | trivial, by first | rfl | trivial, by omega, by omega⟩, ?_⟩⟩⟩
    · rw [htk]
    · rw [htk]; exact hp
    · rw [htk]
    · exact hK

theorem c22 : Contract Try.prog 22 (⟨fun l bs => preBuild l bs, fun _ bs => (.sl 0, [.row 41 nk (buildF (xsOf bs 0))])⟩ : Vs.Spec) := by
  refine contract_of 1 ⟨mixedOrders, ?_, loops_none (N := N22) (fun _ _ => rfl) 1, ?_⟩ (N := N22) ?_
  · intro g sp h
    simp only [N22] at h
    split at h
    · rename_i hg; subst hg; cases h; exact c18
    · cases h
  · intro g G hG
    simp only [N22] at hG
    split at hG
    · rename_i hg; subst hg; cases hG; exact ok30 33
    · cases hG
  · rintro l bs _ _ ⟨xs, rfl, rfl, hl, hk⟩
    rw [v22, br_bool, br_bool]
    constructor
    · intro h
      have : xs = [] := List.eq_nil_of_length_eq_zero (by simpa using h)
      subst this
      show (IV.sl 0, [Blk.row 41 nk (buildF [])]) = _
      rw [buildF_nil]
      rfl
    · intro h
      have hne : xs ≠ [] := by rintro rfl; simp at h
      have hpos : 0 < xs.length := List.length_pos_iff.2 hne
      refine ⟨⟨_, rfl, rfl, by omega⟩, fun h2 => ?_, fun h2 => ?_⟩
      · have h3 : ¬ Rises xs := fun h4 => by rw [bp_true h4] at h2; cases h2
        show (IV.sl 0, [Blk.row 41 nk (buildF xs)]) = _
        rw [buildF_not h3]
        rfl
      · have h3 : Rises xs := bp_iff.1 (by simpa using h2)
        refine ⟨⟨rfl, rfl, ⟨by omega, by omega, by omega, by omega, by omega, by omega, by omega, hk, by simp; omega⟩, h3, ?_⟩, ?_⟩
        · intro i j _ _ _ _
          have h4 := hk i
          have h5 := hk j
          show shr (rd xs i 0) 64 = shr (rd xs j 0) 64
          rw [shr_ediv, shr_ediv, Int.ediv_eq_zero_of_lt h4.1 (by simpa using h4.2), Int.ediv_eq_zero_of_lt h5.1 (by simpa using h5.2)]
        · show (IV.sl 0, [Blk.row 41 nk (buildF xs)]) = _
          rw [buildF_tree hne h3]
          rfl
end Go.Vs.R1
