import Derived.Test.YtbgleobdhjghlaaR1V4
import Derived.IntWalk
set_option linter.unusedVariables false
set_option linter.unusedSimpArgs false
/- Make -/
namespace Go.Vs.R1
open Go Go.Proofs Go.Vs Go.IntWalk

theorem u8_nonneg (x : Int) : 0 ≤ IntKind.u8.wrap x := by
  rw [IntKind.wrap_u8]
  exact Int.emod_nonneg _ (by decide)

theorem makeF_step (ns : List (List Int)) (m : Nat) : (List.range (m + 1)).map (fun (i : Nat) => [mkKey (rd ns i 0), (i : Int)]) = (List.range m).map (fun (i : Nat) => [mkKey (rd ns i 0), (i : Int)]) ++ [[mkKey (rd ns m 0), (m : Int)]] := by
  rw [List.range_succ, List.map_append]
  rfl

theorem loop19 (N : Know) (n0 : Nat) : LoopOk (envOf Try.prog N 0) 19 n0 0 (lp Try.prog 19 0) L19 := by
  rintro st K ⟨⟨rfl, hst, hlen⟩, hK⟩
  generalize st.x 0 = ns at *
  subst hst
  refine loop_of (fun a : List (List Int) × Int => S19 ns a.1 a.2) (fun a => 0 ≤ a.2 ∧ a.2 ≤ 100 ∧ a.2 ≤ ns.length ∧ a.1 = (List.range a.2.toNat).map fun (i : Nat) => [mkKey (rd ns i 0), (i : Int)]) (fun a => (100 - a.2).toNat) ?_ (a := ([], 0)) ⟨by simp, by simp, by simp, rfl⟩
  rintro ⟨zs, i⟩ ⟨a1, a2, a3, a4⟩ k hn hk
  simp only at a1 a2 a3 a4
  have hzl : zs.length = i.toNat := by rw [a4]; simp
  have fin : (i = 100 ∨ i = ns.length) → k (Out.exit 0) ⟨T 35 [(3, .sl 1)], [some (.ro [.u8] ns), row zs]⟩ := by
    intro h
    have e : zs = makeF ns := by
      rw [a4]
      unfold makeF
      congr 2
      omega
    rw [e]
    exact hk _ _ (by simp) hK
  show round _ _ _ _ _ (S19 ns zs i) k
  rw [r19, br_dec]
  constructor
  · intro hi
    rw [br_dec]
    constructor
    · intro hi2
      rw [i64_in (i + 1) (by omega)]
      have hz : (List.replicate (1 : Nat) (List.replicate (2 : Nat) (0 : Int))).set (0 : Nat) [mkKey (rd ns i.toNat 0), i] = [[mkKey (rd ns i.toNat 0), i]] := rfl
      refine ⟨⟨a1, hi⟩, ⟨a1, hi⟩, by decide, ⟨a1, hi⟩, ⟨a1, hi⟩, by decide, by decide, u8_nonneg _, ?_, ?_⟩
      · simp
        omega
      · refine hn (zs ++ [[mkKey (rd ns i.toNat 0), i]], i + 1) ⟨by simp; omega, by simp; omega, by simp; omega, ?_⟩ (by simp; omega)
        have e1 : (i + 1).toNat = i.toNat + 1 := by omega
        have e2 : ((i.toNat : Nat) : Int) = i := by omega
        simp only [e1]
        rw [makeF_step, ← a4, e2]
    · intro hi2
      exact fin (.inl (by omega))
  · intro hi
    exact fin (.inr (by omega))

def preBytes (l : List IV) (bs : List Blk) : Prop := ∃ ns, l = [.sl 0] ∧ bs = [.ro [.u8] ns] ∧ ns.length ≤ 9223372036854775807
def spMake : Vs.Spec := ⟨preBytes, fun l bs => (.sl 0, [.row 32 [.u64, .i64] (makeF (xsOf bs 0))])⟩
theorem c19 : Contract Try.prog 19 spMake := by
  refine contract_of 1 ⟨mixedOrders, fun g sp h => (by cases h), ?_, fun g G h => (by cases h)⟩ (N := N19) ?_
  · intro d' hd f i S n0 hS
    have : d' = 0 := by omega
    subst this
    simp only [N19] at hS
    split at hS
    · rename_i hf
      subst hf
      split at hS
      · rename_i hi
        subst hi
        cases hS
        exact loop19 N19 n0
      · cases hS
    · cases hS
  · rintro l bs _ hb ⟨ns, rfl, rfl, hl⟩
    rw [v19]
    exact ⟨⟨rfl, rfl, hl⟩, rfl⟩
end Go.Vs.R1
