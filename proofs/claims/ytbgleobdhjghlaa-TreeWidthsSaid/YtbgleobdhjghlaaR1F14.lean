import Derived.Test.YtbgleobdhjghlaaR1V10
set_option linter.unusedVariables false
set_option linter.unusedSimpArgs false
/- SameNodes, awake, widths -/
namespace Go.Vs.R1
open Go Go.Proofs Go.Vs Go.IntWalk

theorem loop20 (N : Know) (n0 : Nat) : LoopOk (envOf Try.prog N 0) 20 n0 0 (lp Try.prog 20 0) L20 := by
  rintro st K ⟨⟨rfl, hst, hl⟩, hK⟩
  generalize st.x 0 = xs at *
  subst hst
  refine loop_of (S20 xs) (fun i => 0 ≤ i ∧ i ≤ xs.length) (fun i => (xs.length - i).toNat) ?_ (a := 0) ⟨by omega, by omega⟩
  rintro i ⟨h1, h2⟩ k hn hk
  rw [r20, br_dec]
  constructor
  · intro hi
    have hw : (0 : Int) ≤ i ∧ i < xs.length := ⟨h1, hi⟩
    refine ⟨hw, hw, hw, hw, ?_⟩
    rw [br_bool]
    refine ⟨fun h => ?_, fun _ => ?_⟩
    · simp [eqCells] at h
    · rw [i64_in (i + 1) (by omega)]
      exact hn _ ⟨by omega, by omega⟩ (by omega)
  · intro hi
    exact hk _ _ (by simp) hK

def preNodes (l : List IV) (bs : List Blk) : Prop := ∃ xs, l = [.sl 0, .sl 1] ∧ bs = [.ro nk xs, .ro nk xs] ∧ xs.length ≤ 1000000
def spNodes : Vs.Spec := ⟨preNodes, fun _ _ => (.bool true, [])⟩
theorem c20 : Contract Try.prog 20 spNodes := by
  refine contract_of 1 ⟨mixedOrders, fun g sp h => (by cases h), ?_, fun g G h => (by cases h)⟩ (N := N20) ?_
  · intro d' hd f i S n0 hS
    have : d' = 0 := by omega
    subst this
    simp only [N20] at hS
    split at hS
    · rename_i hf
      subst hf
      split at hS
      · rename_i hi
        subst hi
        cases hS
        exact loop20 N20 n0
      · cases hS
    · cases hS
  · rintro l bs _ hb ⟨xs, rfl, rfl, hl⟩
    rw [v20, br_bool]
    exact ⟨fun h => by simp at h, fun _ => ⟨⟨rfl, rfl, hl⟩, rfl⟩⟩

theorem keysIn_of {xs : List (List Int)} (h : okRows [.u64, .i64] xs) : keysIn xs := by
  intro i
  rcases Nat.lt_or_ge i xs.length with hi | hi
  · have h1 := h xs[i] (List.getElem_mem hi) 0 (by decide)
    have h2 : (0 : Int) ≤ xs[i].getD 0 0 ∧ xs[i].getD 0 0 ≤ 18446744073709551615 := h1
    have e : rd xs i 0 = xs[i].getD 0 0 := by simp [rd, List.getD, hi]
    rw [e]; omega
  · have e : rd xs i 0 = 0 := by simp [rd, List.getD, List.getElem?_eq_none hi]
    rw [e]; decide

theorem rises_one (x : List Int) : Rises [x] := by
  intro p q hpq hq
  simp at hq
  omega
theorem build_one (k i : Int) : buildF [[k, i]] = [leaf8 0 0 0 1] := by
  rw [buildF_tree (by simp) (rises_one _)]
  rfl
theorem c23 : Contract Try.prog 23 spTrue := by
  refine contract_of 1 ⟨mixedOrders, ?_, loops_none (N := N23) (fun _ _ => rfl) 1, fun g G h => (by cases h)⟩ (N := N23) ?_
  · intro g sp h
    simp only [N23] at h
    split at h
    · rename_i hg; subst hg; cases h; exact c21
    · cases h
  · rintro l bs _ _ ⟨rfl, rfl⟩
    rw [v23]
    have e : (List.replicate (1 : Nat) (List.replicate (2 : Nat) (0 : Int))).set (0 : Nat) [(9 : Int), (0 : Int)] = [[9, 0]] := rfl
    rw [e, build_one]
    refine ⟨⟨_, rfl, rfl, by simp, ?_⟩, ?_⟩
    · intro i
      match i with
      | 0 => exact ⟨by decide, by decide⟩
      | i + 1 => exact ⟨by simp [rd], by simp [rd]⟩
    · refine ⟨by decide, by decide, ?_⟩
      refine ⟨by decide, by decide, ?_⟩
      rfl

def wF (n : Int) : Int := mx .i64 (IntKind.i64.wrap (1 * 2 ^ min (IntKind.i64.wrap (32 - mx .i64 0 (mn .i64 n 32))).toNat 64)) (-9223372036854775807)
def preInt (l : List IV) (bs : List Blk) : Prop := l = [.int .i64 (argI l 0 0)] ∧ bs = [] ∧ -9223372036854775808 ≤ argI l 0 0 ∧ argI l 0 0 ≤ 9223372036854775807
noncomputable def spWidth : Vs.Spec := ⟨preInt, fun l _ => (.agg [.int .i64 (wF (argI l 0 0)), .int .u64 0], [])⟩
theorem w_ok {n : Int} : 0 ≤ IntKind.i64.wrap (32 - mx .i64 0 (mn .i64 n 32)) := by
  have : 0 ≤ 32 - mx .i64 0 (mn .i64 n 32) ∧ 32 - mx .i64 0 (mn .i64 n 32) ≤ 32 := by unfold mx mn; split <;> split <;> omega
  rw [i64_in _ (by omega)]
  exact this.1
theorem c24 : Contract Try.prog 24 spWidth := by
  refine contract_of 3 ⟨mixedOrders, fun g sp h => (by cases h), loops_none (N := Nnone) (fun _ _ => rfl) 3, fun g G h => (by cases h)⟩ (N := Nnone) ?_
  rintro l bs _ _ ⟨hl, rfl, _⟩
  obtain ⟨n, rfl⟩ : ∃ n, l = [.int .i64 n] := ⟨_, hl⟩
  rw [v24]
  exact ⟨w_ok, rfl⟩
theorem c25 : Contract Try.prog 25 spWidth := by
  refine contract_of 3 ⟨mixedOrders, fun g sp h => (by cases h), loops_none (N := Nnone) (fun _ _ => rfl) 3, fun g G h => (by cases h)⟩ (N := Nnone) ?_
  rintro l bs _ _ ⟨hl, rfl, _⟩
  obtain ⟨n, rfl⟩ : ∃ n, l = [.int .i64 n] := ⟨_, hl⟩
  rw [v25]
  exact ⟨w_ok, rfl⟩

noncomputable def Γ8 : FuncId → Option Vs.Spec := fun g => if g = 23 then some spTrue else if g = 20 then some spNodes else if g = 21 then some spBuild else if g = 22 then some spBuild else if g = 24 then some spWidth else if g = 25 then some spWidth else Γm g
theorem ctrs8 : ∀ {g : FuncId} {sp : Vs.Spec}, Γ8 g = some sp → Contract Try.prog g sp := by
  intro g sp h
  unfold Γ8 at h
  split at h
  · rename_i hg; subst hg; cases h; exact c23
  split at h
  · rename_i hg; subst hg; cases h; exact c20
  split at h
  · rename_i hg; subst hg; cases h; exact c21
  split at h
  · rename_i hg; subst hg; cases h; exact c22
  split at h
  · rename_i hg; subst hg; cases h; exact c24
  split at h
  · rename_i hg; subst hg; cases h; exact c25
  · exact ctrsm h
end Go.Vs.R1
