import Derived.Test.YtbgleobdhjghlaaR1V3
set_option linter.unusedVariables false
set_option linter.unusedSimpArgs false
/- every list has its sorted one; awake; SortAll -/
namespace Go.Vs.R1
open Go Go.Proofs Go.Vs

def ins (x : List Int) : List (List Int) → List (List Int)
  | [] => [x]
  | y :: l => if key x ≤ key y then x :: y :: l else y :: ins x l
theorem ins_mem {x z : List Int} : ∀ {l : List (List Int)}, z ∈ ins x l ↔ z = x ∨ z ∈ l := by
  intro l
  induction l with
  | nil => simp [ins]
  | cons y l ih =>
    unfold ins
    split
    · simp
    · simp only [List.mem_cons, ih]
      constructor
      · rintro (h | h | h)
        · exact .inr (.inl h)
        · exact .inl h
        · exact .inr (.inr h)
      · rintro (h | h | h)
        · exact .inr (.inl h)
        · exact .inl h
        · exact .inr (.inr h)
theorem ins_len (x : List Int) (l : List (List Int)) : (ins x l).length = l.length + 1 := by
  induction l with
  | nil => rfl
  | cons y l ih => unfold ins; split <;> simp [ih]
theorem ins_pairwise {x : List Int} : ∀ {l : List (List Int)}, (l.Pairwise fun a b => key a ≤ key b) → (ins x l).Pairwise fun a b => key a ≤ key b := by
  intro l
  induction l with
  | nil => intro _; simp [ins]
  | cons y l ih =>
    intro h
    unfold ins
    split
    · rename_i hxy
      rw [List.pairwise_cons]
      refine ⟨?_, h⟩
      intro z hz
      rcases List.mem_cons.1 hz with rfl | hz
      · exact hxy
      · have := (List.pairwise_cons.1 h).1 z hz
        omega
    · rename_i hxy
      rw [List.pairwise_cons] at h ⊢
      refine ⟨?_, ih h.2⟩
      intro z hz
      rcases ins_mem.1 hz with rfl | hz
      · omega
      · exact h.1 z hz
theorem ins_filter (x : List Int) (v : Int) : ∀ (l : List (List Int)), (ins x l).filter (fun x => decide (key x = v)) = (x :: l).filter fun x => decide (key x = v) := by
  intro l
  induction l with
  | nil => rfl
  | cons y l ih =>
    unfold ins
    split
    · rfl
    · rename_i hxy
      simp only [List.filter_cons] at ih ⊢
      rw [ih]
      by_cases hy : key y = v
      · have hx : ¬ key x = v := by omega
        simp [hy, hx]
      · simp [hy]
theorem sorted_exists : ∀ (xs : List (List Int)), rows2 xs → ∃ zs, Sorted xs zs := by
  have key1 : ∀ (xs : List (List Int)), ∃ zs : List (List Int), zs.length = xs.length ∧ sameF xs zs ∧ (zs.Pairwise fun a b => key a ≤ key b) ∧ ∀ z, z ∈ zs ↔ z ∈ xs := by
    intro xs
    induction xs with
    | nil => exact ⟨[], rfl, sameF.refl _, by simp, by simp⟩
    | cons x xs ih =>
      obtain ⟨zs, h1, h2, h3, h4⟩ := ih
      refine ⟨ins x zs, by rw [ins_len, h1]; rfl, fun v => ?_, ins_pairwise h3, fun z => by rw [ins_mem, h4]; simp⟩
      rw [ins_filter]
      simp only [List.filter_cons]
      rw [h2 v]
  intro xs hx
  obtain ⟨zs, h1, h2, h3, h4⟩ := key1 xs
  refine ⟨zs, h1, h2, ?_, fun z hz => hx z ((h4 z).1 hz)⟩
  intro p q hpq hq
  rw [List.pairwise_iff_getElem] at h3
  rw [rd_key (by omega), rd_key hq]
  exact h3 p q (by omega) hq hpq
theorem sortF_sorted {xs : List (List Int)} (h : rows2 xs) : Sorted xs (sortF xs) := by
  obtain ⟨zs, hz⟩ := sorted_exists xs h
  exact sortF_spec hz

theorem awake_sorted : sortF [[5, 0], [2, 1]] = [[2, 1], [5, 0]] := by
  refine Sorted.eq ⟨rfl, ?_, ?_, ?_⟩
  · intro v
    simp only [List.filter_cons, List.filter_nil, key]
    by_cases h5 : (5 : Int) = v
    · subst h5; rfl
    · by_cases h2 : (2 : Int) = v
      · subst h2; rfl
      · simp [List.getD, h5, h2]
  · intro p q hpq hq
    simp at hq
    have : p = 0 := by omega
    have : q = 1 := by omega
    subst p; subst q
    decide
  · intro x hx
    simp at hx
    rcases hx with rfl | rfl
    · exact ⟨_, _, rfl⟩
    · exact ⟨_, _, rfl⟩

theorem ctrs0 : ∀ {g : FuncId} {sp : Vs.Spec}, Γ0 g = some sp → Contract Try.prog g sp := by
  intro g sp h
  unfold Γ0 at h
  split at h
  · rename_i hg; subst hg; cases h; exact c15
  split at h
  · rename_i hg; subst hg; cases h; exact c16
  split at h
  · rename_i hg; subst hg; cases h; exact c17
  split at h
  · rename_i hg; subst hg; cases h; exact c18
  split at h
  · rename_i hg; subst hg; cases h; exact c14
  · cases h

theorem c13 : Contract Try.prog 13 spTrue := by
  refine contract_of 1 ⟨mixedOrders, fun g sp h => ctrs0 h, loops_none (N := N0) (fun _ _ => rfl) 1, fun g G h => (by cases h)⟩ (N := N0) ?_
  rintro l bs _ _ ⟨rfl, rfl⟩
  rw [v13]
  have e : ((List.replicate (2 : Nat) (List.replicate (2 : Nat) (0 : Int))).set (0 : Nat) [(5 : Int), (0 : Int)]).set (1 : Nat) [(2 : Int), (1 : Int)] = [[5, 0], [2, 1]] := rfl
  rw [e, awake_sorted]
  have hr : Rises [[2, 1], [5, 0]] := by
    have := (sortF_sorted (xs := [[5, 0], [2, 1]]) (by
      intro x hx
      simp at hx
      rcases hx with rfl | rfl
      · exact ⟨_, _, rfl⟩
      · exact ⟨_, _, rfl⟩)).up
    rw [awake_sorted] at this
    exact this
  have hp : preRise [IV.sl 0] [Blk.ro [IntKind.u64, IntKind.i64] [[2, 1], [5, 0]]] := ⟨_, rfl, rfl, by simp⟩
  have hs : preSort [IV.sl 0] [Blk.ro [IntKind.u64, IntKind.i64] [[5, 0], [2, 1]]] := ⟨_, rfl, rfl, by
    intro x hx
    simp at hx
    rcases hx with rfl | rfl
    · exact ⟨_, _, rfl⟩
    · exact ⟨_, _, rfl⟩, by simp⟩
  rw [bp_true hr]
  simp only [rd, List.getD]
  simp [br, hp, hs, spTrue]

theorem ctrs : ∀ {g : FuncId} {sp : Vs.Spec}, Γs g = some sp → Contract Try.prog g sp := by
  intro g sp h
  unfold Γs at h
  split at h
  · rename_i hg; subst hg; cases h; exact c13
  · exact ctrs0 h

def preL (l : List IV) (bs : List Blk) : Prop := ∃ xs, l = [.sl 0] ∧ bs = [.ro [.u64, .i64] xs] ∧ rows2 xs
def spL : Vs.Spec := ⟨preL, fun _ _ => (.bool true, [])⟩
theorem c3 : Contract Try.prog 3 spL := by
  refine contract_of 1 ⟨mixedOrders, fun g sp h => ctrs h, loops_none (N := Ns) (fun _ _ => rfl) 1, fun g G h => (by cases h)⟩ (N := Ns) ?_
  rintro l bs _ _ ⟨xs, rfl, rfl, h2⟩
  rw [v3, br_dec]
  constructor
  · intro _
    exact ⟨⟨rfl, rfl⟩, rfl⟩
  · intro hl
    have hl' : xs.length ≤ 1000000 := by omega
    have hS := sortF_sorted h2
    have e0 : List.replicate (0 : Nat) (List.replicate (2 : Nat) (0 : Int)) ++ xs = xs := rfl
    rw [e0, bp_true (rfl : sortF xs = sortF xs), bp_true (rfl : xs = xs), beq_self_eq_true]
    have hq : preSort [IV.sl (0 : Nat)] [Blk.ro [IntKind.u64, IntKind.i64] xs] := ⟨_, rfl, rfl, h2, hl'⟩
    have hr : preRise [IV.sl (0 : Nat)] [Blk.ro [IntKind.u64, IntKind.i64] xs] := ⟨_, rfl, rfl, hl'⟩
    refine ⟨by omega, hq, hq, ⟨_, _, rfl, rfl, hS.two, hS.two, by rw [hS.len]; exact hl'⟩, hr, hr, ⟨_, _, rfl, rfl, h2, h2, hl'⟩, ⟨rfl, rfl⟩, rfl⟩
end Go.Vs.R1
