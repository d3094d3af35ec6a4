import Derived.Test.YtbgleobdhjghlaaR1V11
set_option linter.unusedVariables false
set_option linter.unusedSimpArgs false
/- TreeRises, TreeAll, TreeMade -/
namespace Go.Vs.R1
open Go Go.Proofs Go.Vs Go.IntWalk

/-! ### keys, lengths -/
theorem keysIn_mem {xs : List (List Int)} : keysIn xs ↔ ∀ x ∈ xs, 0 ≤ key x ∧ key x < 18446744073709551616 := by
  constructor
  · intro h x hx
    obtain ⟨i, hi, rfl⟩ := List.getElem_of_mem hx
    rw [← rd_key hi]
    exact h i
  · intro h i
    rcases Nat.lt_or_ge i xs.length with hi | hi
    · rw [rd_key hi]; exact h _ (List.getElem_mem hi)
    · have e : rd xs i 0 = 0 := by simp [rd, List.getD, List.getElem?_eq_none hi]
      rw [e]; decide
theorem keysIn_sort {xs : List (List Int)} (h2 : rows2 xs) (h : keysIn xs) : keysIn (sortF xs) := by
  rw [keysIn_mem] at h ⊢
  intro x hx
  exact h x ((sortF_sorted h2).perm.mem_iff.1 hx)
theorem build_len {xs : List (List Int)} (h : xs.length ≤ 1000) : (buildF xs).length ≤ 33000 := by
  by_cases h1 : xs = []
  · subst h1; rw [buildF_nil]; simp
  · by_cases h2 : Rises xs
    · rw [buildF_tree h1 h2]
      have := tree_len xs 33 0 0 0 xs.length 0 (List.length_pos_iff.2 h1)
      omega
    · rw [buildF_not h2]; simp
theorem u64_range (x : Int) : 0 ≤ IntKind.u64.wrap x ∧ IntKind.u64.wrap x < 18446744073709551616 := by
  rw [IntKind.wrap_u64]
  omega
theorem xorF_rows2 (h : Int) (ys : List (List Int)) : rows2 (xorF h ys) := by
  intro x hx
  simp only [xorF, List.mem_map] at hx
  obtain ⟨y, _, rfl⟩ := hx
  exact ⟨_, _, rfl⟩
theorem xorF_keys (h : Int) (ys : List (List Int)) : keysIn (xorF h ys) := by
  rw [keysIn_mem]
  intro x hx
  simp only [xorF, List.mem_map] at hx
  obtain ⟨y, _, rfl⟩ := hx
  exact u64_range _
theorem xorF_len (h : Int) (ys : List (List Int)) : (xorF h ys).length = ys.length := by simp [xorF]

/-! ### the loop that alters keys -/
def midX (h : Int) (ys : List (List Int)) (i : Nat) : List (List Int) := ys.mapIdx fun j y => if j < i then [xorU (y.getD 0 0) h, y.getD 1 0] else y
theorem midX_zero (h : Int) (ys : List (List Int)) : midX h ys 0 = ys := by
  apply List.ext_getElem
  · simp [midX]
  · intro i h1 h2; simp [midX]
theorem midX_all (h : Int) (ys : List (List Int)) : midX h ys ys.length = xorF h ys := by
  apply List.ext_getElem
  · simp [midX, xorF]
  · intro i h1 h2
    have : i < ys.length := by simpa [midX] using h1
    simp [midX, xorF, this]
theorem midX_len (h : Int) (ys : List (List Int)) (i : Nat) : (midX h ys i).length = ys.length := by simp [midX]
theorem midX_step {h : Int} {ys : List (List Int)} {i : Nat} (hi : i < ys.length) :
    ((midX h ys i).modify i fun x => [xorU (rd (midX h ys i) i 0) h, x.getD 1 0]) = midX h ys (i + 1) := by
  have hm : (midX h ys i)[i]? = some ys[i] := by simp [midX, hi]
  have hr : rd (midX h ys i) i 0 = ys[i].getD 0 0 := by simp [rd, List.getD, hm]
  rw [hr]
  apply List.ext_getElem?
  intro j
  rw [List.getElem?_modify]
  by_cases e : i = j
  · subst e
    rw [hm]
    simp [midX, hi]
  · have hlt : (j < i + 1) = (j < i) := by apply propext; omega
    have e2 : ∀ n, (midX h ys n)[j]? = (ys[j]?).map fun y => if j < n then [xorU (y.getD 0 0) h, y.getD 1 0] else y := by intro n; simp [midX]
    simp only [e, if_false]
    simp only [e2]
    cases ys[j]? <;> simp [hlt]

theorem xorLoop {E : Env} {f n : Nat} (hr : ∀ (xa zs : List (List Int)) (h i : Int) (k : Out → St → Prop),
      br (decide (i < (zs.length : Int))) ((0 ≤ i ∧ i < (zs.length : Int)) ∧ (0 ≤ i ∧ i < (zs.length : Int)) ∧ (0 ≤ i ∧ i < (zs.length : Int)) ∧ (0 ≤ i ∧ i < (zs.length : Int)) ∧
        k .normal (S6 n xa (zs.modify i.toNat fun x => [xorU (rd zs i.toNat 0) h, x.getD 1 0]) h (IntKind.i64.wrap (i + 1)))) (k (.exit 0) ⟨T n [(5, .sl 1)], [some (.ro [.u8] xa), row zs]⟩) →
      round E f 1 0 (lp E.P f 0) (S6 n xa zs h i) k) (n0 : Nat) : LoopOk E f n0 0 (lp E.P f 0) (L6 n) := by
  rintro st K ⟨⟨rfl, hst, hl⟩, hK⟩
  generalize st.x 0 = xa at *
  generalize st.x 1 = ys at *
  generalize st.i 1 = h at *
  subst hst
  rw [← midX_zero h ys]
  rw [← midX_all h ys] at hK
  refine loop_of (fun a : Int => S6 n xa (midX h ys a.toNat) h a) (fun a => 0 ≤ a ∧ a ≤ ys.length) (fun a => (100 - a).toNat) ?_ (a := 0) ⟨by simp, by simp⟩
  rintro i ⟨a1, a2⟩ k hn hk
  refine hr _ _ _ _ _ ?_
  rw [br_dec, midX_len]
  constructor
  · intro hi
    have hw : (0 : Int) ≤ i ∧ i < ys.length := ⟨a1, hi⟩
    refine ⟨hw, hw, hw, hw, ?_⟩
    have := hn (i + 1) ⟨by omega, by omega⟩ (by omega)
    rw [show (i + 1).toNat = i.toNat + 1 by omega, ← midX_step (by omega)] at this
    rw [i64_in (i + 1) (by omega)]
    exact this
  · intro hi
    have e : i.toNat = ys.length := by omega
    rw [e]
    exact hk _ _ (by simp) hK

theorem loop6 (N : Know) (n0 : Nat) : LoopOk (envOf Try.prog N 0) 6 n0 0 (lp Try.prog 6 0) (L6 36) :=
  xorLoop (E := envOf Try.prog N 0) (fun xa zs h i k hh => by
    show round (envOf Try.prog N 0) 6 1 0 (lp Try.prog 6 0) _ _
    rw [r6]; exact hh) n0

/-! ### TreeRises -/
def preTwoInts (l : List IV) (bs : List Blk) : Prop := ∃ a b : Int, l = [.int .u64 a, .int .u64 b] ∧ bs = [] ∧ 0 ≤ a ∧ a ≤ 18446744073709551615 ∧ 0 ≤ b ∧ b ≤ 18446744073709551615
def spTwoInts : Vs.Spec := ⟨preTwoInts, fun _ _ => (.bool true, [])⟩
theorem rises_two {a b c d : Int} : Rises [[a, b], [c, d]] ↔ a ≤ c := by
  constructor
  · intro h
    have := h 0 1 (by omega) (by simp)
    simpa [rd] using this
  · intro h p q hpq hq
    simp at hq
    have e1 : p = 0 := by omega
    have e2 : q = 1 := by omega
    subst e1; subst e2
    simpa [rd] using h
theorem build_two {a b c d : Int} (h : a ≤ c) : buildF [[a, b], [c, d]] = [leaf8 0 0 0 2] := by
  rw [buildF_tree (by simp) (rises_two.2 h)]
  rfl
theorem keys_two {a b c d : Int} (h1 : 0 ≤ a) (h2 : a ≤ 18446744073709551615) (h3 : 0 ≤ c) (h4 : c ≤ 18446744073709551615) : keysIn [[a, b], [c, d]] := by
  rw [keysIn_mem]
  intro x hx
  simp at hx
  rcases hx with rfl | rfl
  · exact ⟨h1, by simp [key]; omega⟩
  · exact ⟨h3, by simp [key]; omega⟩
theorem c10 : Contract Try.prog 10 spTwoInts := by
  refine contract_of 1 ⟨mixedOrders, fun g sp h => ctrs8 h, loops_none (N := N8) (fun _ _ => rfl) 1, fun g G h => (by cases h)⟩ (N := N8) ?_
  rintro l bs _ _ ⟨a, b, rfl, rfl, h1, h2, h3, h4⟩
  rw [v10]
  have e : ((List.replicate (2 : Nat) (List.replicate (2 : Nat) (0 : Int))).set (0 : Nat) [mx .u64 a b, (0 : Int)]).set (1 : Nat) [mn .u64 a b, (1 : Int)] = [[mx .u64 a b, 0], [mn .u64 a b, 1]] := rfl
  rw [e]
  have hmx : mx .u64 a b = max a b := by unfold mx; split <;> omega
  have hmn : mn .u64 a b = min a b := by unfold mn; split <;> omega
  have r1 : rd [[mx .u64 a b, 0], [mn .u64 a b, 1]] (1 : Nat) (0 : Nat) = mn .u64 a b := rfl
  have r2 : rd [[mx .u64 a b, 0], [mn .u64 a b, 1]] (1 : Nat) (1 : Nat) = 1 := rfl
  have r3 : rd [[mx .u64 a b, 0], [mn .u64 a b, 1]] (0 : Nat) (0 : Nat) = mx .u64 a b := rfl
  have r4 : rd [[mx .u64 a b, 0], [mn .u64 a b, 1]] (0 : Nat) (1 : Nat) = 0 := rfl
  rw [r1, r2, r3, r4, hmx, hmn]
  have hb : (((buildF [[max a b, 0], [min a b, 1]]).length : Int) == 0) = (a != b) := by
    by_cases hab : a = b
    · subst hab
      rw [build_two (by omega)]
      simp
    · rw [buildF_not (by rw [rises_two]; omega)]
      simp [hab]
  have hb2 : buildF [[min a b, 1], [max a b, 0]] = [leaf8 0 0 0 2] := build_two (by omega)
  rw [hb, beq_self_eq_true, hb2]
  refine ⟨by simp, by simp, by simp, by simp, ⟨_, rfl, rfl, by simp, keys_two (by omega) (by omega) (by omega) (by omega)⟩, ?_⟩
  refine ⟨⟨_, rfl, rfl, by simp, keys_two (by omega) (by omega) (by omega) (by omega)⟩, ?_⟩
  exact ⟨⟨rfl, rfl⟩, rfl⟩

/-! ### TreeAll -/
def preKeyedInt (l : List IV) (bs : List Blk) : Prop := ∃ xs n, l = [.sl 0, .int .i64 n] ∧ bs = [.ro [.u64, .i64] xs] ∧ rows2 xs ∧ keysIn xs ∧ -9223372036854775808 ≤ n ∧ n ≤ 9223372036854775807
def spKeyedInt : Vs.Spec := ⟨preKeyedInt, fun _ _ => (.bool true, [])⟩
theorem c11 : Contract Try.prog 11 spKeyedInt := by
  refine contract_of 1 ⟨mixedOrders, fun g sp h => ctrs8 h, loops_none (N := N8) (fun _ _ => rfl) 1, fun g G h => (by cases h)⟩ (N := N8) ?_
  rintro l bs _ _ ⟨xs, n, rfl, rfl, h2, hk, h3, h4⟩
  rw [v11, br_dec]
  refine ⟨fun _ => ⟨⟨rfl, rfl⟩, rfl⟩, fun hl => ?_⟩
  have hS := sortF_sorted h2
  have hsl := hS.len
  have hs : preSort [IV.sl (0 : Nat)] [Blk.ro [IntKind.u64, IntKind.i64] xs] := ⟨_, rfl, rfl, h2, by omega⟩
  have hb : preBuild [IV.sl (0 : Nat)] [Blk.ro [IntKind.u64, IntKind.i64] xs] := ⟨_, rfl, rfl, by omega, hk⟩
  have hb2 : preBuild [IV.sl (0 : Nat)] [Blk.ro [IntKind.u64, IntKind.i64] (sortF xs)] := ⟨_, rfl, rfl, by omega, keysIn_sort h2 hk⟩
  have l1 := build_len (xs := xs) (by omega)
  have l2 := build_len (xs := sortF xs) (by omega)
  have e : eqCells [IV.int IntKind.i64 (wF n), IV.int IntKind.u64 0] [IV.int IntKind.i64 (wF n), IV.int IntKind.u64 0] = true := by simp [eqCells]
  rw [e]
  exact ⟨hb, hb, ⟨_, rfl, rfl, by omega⟩, hs, hb2, hs, hb2, ⟨_, rfl, rfl, by omega⟩, ⟨rfl, rfl, h3, h4⟩, ⟨rfl, rfl, h3, h4⟩, ⟨rfl, rfl⟩, rfl⟩

/-! ### TreeMade -/
def preBytesInt (l : List IV) (bs : List Blk) : Prop := ∃ xa h, l = [.sl 0, .int .u64 h] ∧ bs = [.ro [.u8] xa] ∧ xa.length ≤ 9223372036854775807
def spBytesInt : Vs.Spec := ⟨preBytesInt, fun _ _ => (.bool true, [])⟩
theorem c6 : Contract Try.prog 6 spBytesInt := by
  refine contract_of 1 ⟨mixedOrders, fun g sp h => ctrs8 h, ?_, fun g G h => (by cases h)⟩ (N := N6) ?_
  · intro d' hd f i S n0 hS
    have : d' = 0 := by omega
    subst this
    simp only [N6] at hS
    split at hS
    · rename_i hf
      subst hf
      split at hS
      · rename_i hi
        subst hi
        cases hS
        exact loop6 N6 n0
      · cases hS
    · cases hS
  · rintro l bs _ _ ⟨xa, h, rfl, rfl, hl⟩
    rw [v6]
    have h100 : (makeF xa).length ≤ 100 := by rw [makeF_len]; omega
    have hx := xorF_len h (makeF xa)
    have h2 := xorF_rows2 h (makeF xa)
    have hS := sortF_sorted h2
    have hsl := hS.len
    have hs : preSort [IV.sl (0 : Nat)] [Blk.ro [IntKind.u64, IntKind.i64] (xorF h (makeF xa))] := ⟨_, rfl, rfl, h2, by omega⟩
    have hb : preBuild [IV.sl (0 : Nat)] [Blk.ro [IntKind.u64, IntKind.i64] (sortF (xorF h (makeF xa)))] := ⟨_, rfl, rfl, by omega, keysIn_sort h2 (xorF_keys _ _)⟩
    have l2 := build_len (xs := sortF (xorF h (makeF xa))) (by omega)
    exact ⟨⟨_, rfl, rfl, hl⟩, ⟨rfl, rfl, h100⟩, hs, hb, hs, hb, ⟨_, rfl, rfl, by omega⟩, ⟨rfl, rfl⟩, rfl⟩
end Go.Vs.R1
