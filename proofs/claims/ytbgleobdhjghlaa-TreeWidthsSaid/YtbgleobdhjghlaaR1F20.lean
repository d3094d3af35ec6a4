import Derived.Test.YtbgleobdhjghlaaR1V15
set_option linter.unusedVariables false
set_option linter.unusedSimpArgs false
/- TreeWidths -/
namespace Go.Vs.R1
open Go Go.Proofs Go.Vs Go.IntWalk

theorem c32 : Contract Try.prog 32 sp32 := by
  refine contract_of 2 ⟨mixedOrders, fun g sp h => (by cases h), loops_none (N := Nnone) (fun _ _ => rfl) 2, fun g G h => (by cases h)⟩ (N := Nnone) ?_
  rintro l bs _ _ ⟨hl, rfl, h1, h2⟩
  obtain ⟨a, b, rfl⟩ : ∃ a b, l = [.agg [.int .i64 a, .int .u64 b]] := ⟨_, _, hl⟩
  change 0 ≤ a at h1
  change a ≤ 9223372036854775807 at h2
  rw [v32, br_dec, u64_in a (by omega)]
  exact ⟨fun h => absurd h (by omega), fun _ => rfl⟩
theorem c34 : Contract Try.prog 34 sp34 := by
  refine contract_of 2 ⟨mixedOrders, fun g sp h => (by cases h), loops_none (N := Nnone) (fun _ _ => rfl) 2, fun g G h => (by cases h)⟩ (N := Nnone) ?_
  rintro l bs _ _ ⟨hl, rfl, h1, h2, h3⟩
  obtain ⟨a, c, rfl⟩ : ∃ a c, l = [.agg [.int .u64 a, .int .u64 0], .agg [.int .u64 c, .int .u64 0]] := ⟨_, _, hl⟩
  change 0 ≤ a at h1
  change 0 ≤ c at h2
  change a + c ≤ 9223372036854775807 at h3
  rw [v34, br_dec, u64_in (a + c) (by omega), u64_in (a + c + 0) (by omega)]
  refine ⟨fun h => absurd h (by omega), fun _ => ?_⟩
  rw [Int.add_zero]
  rfl
theorem c27 : Contract Try.prog 27 sp27 := by
  refine contract_of 3 ⟨mixedOrders, fun g sp h => (by cases h), loops_none (N := Nnone) (fun _ _ => rfl) 3, fun g G h => (by cases h)⟩ (N := Nnone) ?_
  rintro l bs _ _ ⟨hl, rfl, _⟩
  obtain ⟨n, rfl⟩ : ∃ n, l = [.int .i64 n] := ⟨_, hl⟩
  rw [v27]
  rfl
theorem c26 : Contract Try.prog 26 sp26 := by
  refine contract_of 2 ⟨mixedOrders, ?_, loops_none (N := N26) (fun _ _ => rfl) 2, fun g G h => (by cases h)⟩ (N := N26) ?_
  · intro g sp h
    simp only [N26] at h
    split at h
    · rename_i hg; subst hg; cases h; exact c32
    · split at h
      · rename_i hg; subst hg; cases h; exact c34
      · cases h
  · rintro l bs _ _ ⟨hl, rfl, h1, h2, h3⟩
    obtain ⟨a, c, rfl⟩ : ∃ a c, l = [.agg [.int .i64 a, .int .u64 0], .agg [.int .i64 c, .int .u64 0]] := ⟨_, _, hl⟩
    change 0 ≤ a at h1
    change 0 ≤ c at h2
    change a + c ≤ 9223372036854775807 at h3
    rw [v26]
    have ea : decide (a < 0) = false := decide_eq_false (by omega)
    have ec : decide (c < 0) = false := decide_eq_false (by omega)
    have es : decide (a + c ≥ 9223372036854775808) = false := decide_eq_false (by omega)
    have p1 : pre32 [IV.agg [IV.int IntKind.i64 a, IV.int IntKind.u64 0]] [] := ⟨rfl, rfl, h1, show a ≤ _ by omega⟩
    have p2 : pre32 [IV.agg [IV.int IntKind.i64 c, IV.int IntKind.u64 0]] [] := ⟨rfl, rfl, h2, show c ≤ _ by omega⟩
    have p3 : pre34 [IV.agg [IV.int IntKind.u64 a, IV.int IntKind.u64 0], IV.agg [IV.int IntKind.u64 c, IV.int IntKind.u64 0]] [] := ⟨rfl, rfl, h1, h2, h3⟩
    have hF : sp26.F [.agg [.int .i64 a, .int .u64 0], .agg [.int .i64 c, .int .u64 0]] [] = (IV.agg [IV.int IntKind.i64 (IntKind.i64.wrap (a + c)), IV.int IntKind.u64 0, IV.int IntKind.i64 0], []) := by
      rw [i64_in (a + c) (by omega)]
      rfl
    simp only [ea, ec, es, p1, p2, p3, hF, br, beq_self_eq_true, true_and, and_self]

theorem widths : (List.range 32).all (fun k => decide (wF ((k : Int) + 1) + wF ((k : Int) + 1) = wF (k : Int) ∧ 0 ≤ wF ((k : Int) + 1) ∧ wF ((k : Int) + 1) ≤ 4294967296)) = true := by kernel_rfl

def preByte (l : List IV) (bs : List Blk) : Prop := ∃ n, l = [.int .u8 n] ∧ bs = [] ∧ 0 ≤ n ∧ n ≤ 255
def spByte : Vs.Spec := ⟨preByte, fun _ _ => (.bool true, [])⟩
theorem c12 : Contract Try.prog 12 spByte := by
  refine contract_of 2 ⟨mixedOrders, ?_, loops_none (N := N12) (fun _ _ => rfl) 2, fun g G h => (by cases h)⟩ (N := N12) ?_
  · intro g sp h
    simp only [N12] at h
    split at h
    · rename_i hg; subst hg; cases h; exact c26
    · split at h
      · rename_i hg; subst hg; cases h; exact c27
      · exact ctrs8 h
  · rintro l bs _ _ ⟨n, rfl, rfl, h0, h1⟩
    rw [v12, i64_in n (by omega), Int.tmod_eq_emod_of_nonneg h0]
    obtain ⟨k, hk⟩ : ∃ k : Nat, n % 32 = k := ⟨(n % 32).toNat, by omega⟩
    rw [hk, i64_in ((k : Int) + 1) (by omega)]
    have hw := (List.all_eq_true.1 widths) k (List.mem_range.2 (by omega))
    obtain ⟨w1, w2, w3⟩ := of_decide_eq_true hw
    have hint : ∀ m : Int, -9223372036854775808 ≤ m → m ≤ 9223372036854775807 → preInt [IV.int IntKind.i64 m] [] := fun m h1 h2 => ⟨rfl, rfl, h1, h2⟩
    refine ⟨by decide, hint _ (by omega) (by omega), hint _ (by omega) (by omega), ⟨rfl, rfl, w2, w2, ?_⟩, ?_⟩
    · show wF ((k : Int) + 1) + wF ((k : Int) + 1) ≤ _
      omega
    · rw [w1]
      show br (eqCells [IV.int IntKind.i64 (wF (k : Int)), IV.int IntKind.u64 0] [IV.int IntKind.i64 (wF (k : Int)), IV.int IntKind.u64 0]) _ _
      have e : eqCells [IV.int IntKind.i64 (wF (k : Int)), IV.int IntKind.u64 0] [IV.int IntKind.i64 (wF (k : Int)), IV.int IntKind.u64 0] = true := by simp [eqCells]
      rw [e]
      exact ⟨hint _ (by decide) (by decide), hint _ (by decide) (by decide), hint _ (by decide) (by decide), hint _ (by decide) (by decide), hint _ (by decide) (by decide), hint _ (by decide) (by decide), ⟨rfl, rfl⟩, rfl⟩
end Go.Vs.R1
