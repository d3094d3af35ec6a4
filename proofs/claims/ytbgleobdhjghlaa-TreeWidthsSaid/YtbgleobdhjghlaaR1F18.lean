import Derived.Test.YtbgleobdhjghlaaR1V14
set_option linter.unusedVariables false
set_option linter.unusedSimpArgs false
/- TreeLeaves: its loops -/
namespace Go.Vs.R1
open Go Go.Proofs Go.Vs Go.IntWalk

theorem loop7 (N : Know) (n0 : Nat) : LoopOk (envOf Try.prog N 0) 7 n0 0 (lp Try.prog 7 0) (L6 215) :=
  xorLoop (E := envOf Try.prog N 0) (fun xa zs h i k hh => by
    show round (envOf Try.prog N 0) 7 1 0 (lp Try.prog 7 0) _ _
    rw [r7a]; exact hh) n0

theorem wKids_range (ts : List (List Int)) (i : Nat) : ∀ q, 0 ≤ wKids ts i q ∧ wKids ts i q ≤ q
  | 0 => by simp [wKids]
  | q + 1 => by
    have := wKids_range ts i q
    simp only [wKids]
    split <;> omega

theorem loop7c (N : Know) (n0 : Nat) : LoopOk (envOf Try.prog N 0) 7 n0 2 (lp Try.prog 7 2) L7c := by
  rintro st K ⟨⟨rfl, hst, hp⟩, hK⟩
  generalize st.x 0 = xa at *
  generalize st.x 1 = ls at *
  generalize st.x 2 = ts at *
  generalize st.x 3 = cs at *
  generalize st.c 4 0 = c0 at *
  generalize st.c 4 1 = c1 at *
  generalize st.c 4 2 = c2 at *
  generalize st.c 4 3 = c3 at *
  generalize st.c 4 4 = c4 at *
  generalize st.c 4 5 = c5 at *
  generalize st.c 4 6 = c6 at *
  generalize st.c 4 7 = c7 at *
  generalize st.i 10 = i0 at *
  generalize st.i 12 = f0 at *
  generalize st.i 13 = n0 at *
  generalize st.i 14 = q0 at *
  subst hst
  obtain ⟨p1, p2, p3, p4, ⟨o1, o2, o3, o4, o5, o6, o7⟩, ⟨e0, e1, e2, e3, e4, e5, e6, e7⟩, rfl, rfl, rfl⟩ := hp
  obtain ⟨i, rfl⟩ : ∃ m : Nat, i0 = m := ⟨i0.toNat, by omega⟩
  simp only [Int.toNat_natCast] at *
  have hget : ∀ q : Nat, q < 4 → dget [c4, c5, c6, c7] (q : Int) = rd ts i (4 + q) := by
    intro q hq
    have : q = 0 ∨ q = 1 ∨ q = 2 ∨ q = 3 := by omega
    rcases this with rfl | rfl | rfl | rfl <;> simp [dget, List.getD, e4, e5, e6, e7]
  have hstart : S7c xa ls ts cs c0 c1 f0 c3 c4 c5 c6 c7 i f0 0 0 = S7c xa ls ts cs c0 c1 f0 c3 c4 c5 c6 c7 i (wFrom ts i 0) (wKids ts i 0) ((0 : Nat) : Int) := by
    simp only [wFrom, wKids, e2]; rfl
  rw [hstart]
  refine loop_of (fun q : Nat => S7c xa ls ts cs c0 c1 f0 c3 c4 c5 c6 c7 i (wFrom ts i q) (wKids ts i q) q) (fun q => q ≤ 4) (fun q => 4 - q) ?_ (a := 0) (by omega)
  intro q hq k hn hk
  rw [r7c, br_dec]
  constructor
  · intro hi
    have hq4 : q < 4 := by omega
    rw [hget q hq4]
    have hkr := wKids_range ts i q
    have hok := o6 q hq4
    rw [br_dec, i64_in ((q : Int) + 1) (by omega)]
    refine ⟨by omega, by simp; omega, fun hneg => ?_, fun hneg => ?_⟩
    · have := hn (q + 1) (by omega) (by omega)
      simp only [wFrom, wKids, if_pos hneg] at this
      exact this
    · rcases hok with hok | ⟨k1, k2, k3, k4⟩
      · exact absurd hok hneg
      · have hw : (0 : Int) ≤ rd ts i (4 + q) ∧ rd ts i (4 + q) < ts.length := by omega
        rw [br_dec, br_dec, k3, k4, e0, i64_in (c0 + 1) (by omega), i64_in (wKids ts i q + 1) (by omega)]
        refine ⟨fun h => absurd h (by omega), fun _ => ⟨fun h => absurd h (by omega), fun _ => ⟨hw, hw, ?_⟩⟩⟩
        rw [br_bool]
        refine ⟨fun h => by simp at h, fun _ => ⟨hw, hw, ?_⟩⟩
        rw [br_bool]
        refine ⟨fun h => by simp at h, fun _ => ⟨hw, hw, ?_⟩⟩
        have := hn (q + 1) (by omega) (by omega)
        simp only [wFrom, wKids, if_neg hneg] at this
        exact this
  · intro hi
    have e : q = 4 := by omega
    subst e
    exact hk _ _ (by simp) hK

theorem bump_len (cs : List (List Int)) (a b : Nat) : (bump cs a b).length = cs.length := by simp [bump]
theorem bump_none (cs : List (List Int)) (a : Nat) : bump cs a a = cs := by
  apply List.ext_getElem
  · simp [bump]
  · intro i h1 h2
    simp only [bump, List.getElem_mapIdx]
    rw [if_neg (by omega)]
theorem bump_step {cs : List (List Int)} {a b : Nat} (hab : a ≤ b) (hb : b < cs.length) : (bump cs a b).modify b (fun _ => [rd (bump cs a b) b 0 + 1]) = bump cs a (b + 1) := by
  have hr : rd (bump cs a b) b 0 = cs[b].getD 0 0 := by
    have : (bump cs a b)[b]? = some cs[b] := by simp [bump, hb]
    simp [rd, List.getD, this]
  rw [hr, modify_const]
  apply List.ext_getElem
  · simp [bump]
  · intro j h1 h2
    rw [List.getElem_set]
    simp only [bump, List.getElem_mapIdx]
    by_cases e : b = j
    · subst e; rw [if_pos rfl, if_pos (by omega)]
    · rw [if_neg e]
      by_cases h3 : a ≤ j ∧ j < b
      · rw [if_pos h3, if_pos (by omega)]
      · rw [if_neg h3, if_neg (by omega)]

theorem loop7d (N : Know) (n0 : Nat) : LoopOk (envOf Try.prog N 0) 7 n0 3 (lp Try.prog 7 3) L7d := by
  rintro st K ⟨⟨rfl, hst, hp⟩, hK⟩
  generalize st.x 0 = xa at *
  generalize st.x 1 = ls at *
  generalize st.x 2 = ts at *
  generalize st.x 3 = cs at *
  generalize st.c 4 0 = c0 at *
  generalize st.c 4 1 = c1 at *
  generalize st.c 4 2 = c2 at *
  generalize st.c 4 3 = c3 at *
  generalize st.c 4 4 = c4 at *
  generalize st.c 4 5 = c5 at *
  generalize st.c 4 6 = c6 at *
  generalize st.c 4 7 = c7 at *
  generalize st.i 10 = i at *
  generalize st.i 16 = j0 at *
  subst hst
  obtain ⟨p1, p2, p3, hj, p4⟩ := hp
  subst hj
  have hstart : S7d xa ls ts cs c0 c1 j0 c3 c4 c5 c6 c7 i j0 = S7d xa ls ts (bump cs j0.toNat j0.toNat) c0 c1 j0 c3 c4 c5 c6 c7 i j0 := by rw [bump_none]
  rw [hstart]
  refine loop_of (fun j : Int => S7d xa ls ts (bump cs j0.toNat j.toNat) c0 c1 j0 c3 c4 c5 c6 c7 i j) (fun j => j0 ≤ j ∧ (j ≤ c3 ∨ j = j0)) (fun j => (c3 - j).toNat) ?_ (a := j0) ⟨Int.le_refl _, .inr rfl⟩
  rintro j ⟨a1, a2⟩ k hn hk
  rw [r7d, br_dec]
  constructor
  · intro hi
    have hw : (0 : Int) ≤ j ∧ j < (bump cs j0.toNat j.toNat).length := by rw [bump_len]; omega
    refine ⟨hw, hw, hw, hw, ?_⟩
    have hr : rd (bump cs j0.toNat j.toNat) j.toNat 0 = rd cs j.toNat 0 := by
      have hb : j.toNat < cs.length := by omega
      have : (bump cs j0.toNat j.toNat)[j.toNat]? = cs[j.toNat]? := by
        simp [bump, hb]
        intro h1 h2
        omega
      simp [rd, List.getD, this]
    have h4 := p4 j.toNat
    rw [i64_in (j + 1) (by omega), i64_in (_ + 1) (by rw [hr]; omega), bump_step (by omega) (by omega)]
    have := hn (j + 1) ⟨by omega, by omega⟩ (by omega)
    rw [show (j + 1).toNat = j.toNat + 1 by omega] at this
    exact this
  · intro hi
    refine hk _ _ (by simp) ?_
    rcases a2 with a2 | a2
    · have e : j = c3 := by omega
      subst e
      exact hK
    · subst a2
      rw [bump_none]
      have : bump cs j.toNat c3.toNat = cs := by
        apply List.ext_getElem
        · simp [bump]
        · intro i h1 h2
          simp only [bump, List.getElem_mapIdx]
          rw [if_neg (by omega)]
      rw [this] at hK
      exact hK

theorem loop7e (N : Know) (n0 : Nat) : LoopOk (envOf Try.prog N 0) 7 n0 4 (lp Try.prog 7 4) L7e := by
  rintro st K ⟨⟨rfl, hst, h1, h2, h3⟩, hK⟩
  generalize st.x 0 = xa at *
  generalize st.x 1 = cs at *
  generalize st.i 17 = i0 at *
  subst hst
  subst h3
  refine loop_of (fun a : Int => S7e xa cs a) (fun a => 0 ≤ a) (fun a => (cs.length - a).toNat) ?_ (a := 0) (Int.le_refl _)
  rintro i a1 k hn hk
  rw [r7e, br_dec]
  constructor
  · intro hi
    have hw : (0 : Int) ≤ i ∧ i < cs.length := ⟨a1, hi⟩
    have hr : rd cs i.toNat 0 = 1 := by
      have : i.toNat < cs.length := by omega
      rw [h1]
      simp [rd, ones, List.getD, this]
    rw [hr]
    refine ⟨hw, hw, ?_⟩
    rw [i64_in (i + 1) (by omega)]
    exact hn (i + 1) (by omega) (by omega)
  · intro hi
    exact hk _ _ (by simp) hK

/-! ### the loop through the nodes -/
theorem cover_len (ts : List (List Int)) (len m : Nat) : (cover ts len m).length = len := by simp [cover]
theorem cover_rd (ts : List (List Int)) (len m i : Nat) : 0 ≤ rd (cover ts len m) i 0 ∧ rd (cover ts len m) i 0 ≤ m := by
  rcases Nat.lt_or_ge i len with h | h
  · have e : rd (cover ts len m) i 0 = ((List.range m).countP (isLeaf ts i) : Nat) := by simp [rd, cover, List.getD, h]
    have := List.countP_le_length (p := isLeaf ts i) (l := List.range m)
    rw [List.length_range] at this
    rw [e]; omega
  · have e : rd (cover ts len m) i 0 = 0 := by simp [rd, cover, List.getD, h]
    rw [e]; omega
theorem cover_step (ts : List (List Int)) (len m : Nat) : cover ts len (m + 1) = (cover ts len m).mapIdx fun j x => if isLeaf ts j m then [x.getD 0 0 + 1] else x := by
  apply List.ext_getElem
  · simp [cover]
  · intro j h1 h2
    simp only [cover, List.getElem_map, List.getElem_range, List.getElem_mapIdx]
    rw [List.range_succ, List.countP_append, List.countP_singleton]
    split
    · simp
    · simp
theorem cover_leaf {ts : List (List Int)} {len m : Nat} (h : wKids ts m 4 = 0) (h0 : 0 ≤ rd ts m 2) : bump (cover ts len m) (rd ts m 2).toNat (rd ts m 3).toNat = cover ts len (m + 1) := by
  rw [cover_step]
  unfold bump
  congr 1
  funext j x
  have : isLeaf ts j m = decide ((rd ts m 2).toNat ≤ j ∧ j < (rd ts m 3).toNat) := by
    unfold isLeaf
    rw [Bool.eq_iff_iff, decide_eq_true_iff, decide_eq_true_iff]
    omega
  rw [this]
  simp only [decide_eq_true_eq]
theorem cover_kids {ts : List (List Int)} {len m : Nat} (h : wKids ts m 4 ≠ 0) : cover ts len (m + 1) = cover ts len m := by
  rw [cover_step]
  apply List.ext_getElem
  · simp
  · intro j h1 h2
    rw [List.getElem_mapIdx]
    have : isLeaf ts j m = false := by unfold isLeaf; simp [h]
    rw [this]
    rfl

theorem loop7b (n0 : Nat) : LoopOk (envOf Try.prog N7 0) 7 n0 1 (lp Try.prog 7 1) L7b := by
  rintro st K ⟨⟨rfl, hst, hp⟩, hK⟩
  generalize st.x 0 = xa at *
  generalize st.x 1 = ls at *
  generalize st.x 2 = ts at *
  generalize st.x 3 = cs at *
  generalize st.i 10 = i0 at *
  subst hst
  obtain ⟨p1, p2, p3, rfl, rfl⟩ := hp
  refine loop_of (fun i : Nat => S7b xa ls ts (cover ts ls.length i) i) (fun i => i ≤ ts.length) (fun i => ts.length - i) ?_ (a := 0) (by omega)
  intro i a1 k hn hk
  rw [r7b, br_dec]
  constructor
  · intro hi
    have hi' : i < ts.length := by omega
    have hw : (0 : Int) ≤ (i : Int) ∧ (i : Int) < ts.length := by omega
    simp only [Int.toNat_natCast]
    obtain ⟨o1, o2, o3, o4, o5, o6, o7⟩ := p1 i hi'
    have hno : nodeOk ts ls.length i := ⟨o1, o2, o3, o4, o5, o6, o7⟩
    rw [br_dec, br_dec, br_dec, br_dec, br_dec, br_bool, br_dec, br_bool, br_dec, i64_in (rd ts i 3 - rd ts i 2) (by omega), i64_in ((i : Int) + 1) (by omega)]
    have hcd : pre7d (cover ts ls.length i) (rd ts i 2) (rd ts i 3) (rd ts i 2) := ⟨o1, by rw [cover_len]; omega, by rw [cover_len]; omega, rfl, fun j => by have := cover_rd ts ls.length i j; omega⟩
    have next := hn (i + 1) (by omega) (by omega)
    refine ⟨hw, hw, fun h => absurd h (by omega), fun _ => ⟨fun h => absurd h (by omega), fun _ => ⟨fun h => absurd h (by omega), fun _ => ⟨fun h => absurd h (by omega), fun _ => ⟨fun h => absurd h (by omega), fun _ => ⟨⟨by first | rfl | trivial, by first | rfl | trivial, by omega, by omega, by omega, p2, by simpa using hno, ⟨rfl, rfl, rfl, rfl, rfl, rfl, rfl, rfl⟩, by first | rfl | trivial, by first | rfl | trivial, by first | rfl | trivial⟩, fun hz => ?_, fun hz => ?_⟩⟩⟩⟩⟩⟩
    · have hz' : wKids ts i 4 = 0 := by simpa using hz
      rw [← cover_leaf hz' o1] at next
      rcases o7 with ⟨_, o7⟩ | ⟨o7, _⟩
      · refine ⟨fun h4 => ?_, fun h4 => ⟨⟨by first | rfl | trivial, by first | rfl | trivial, hcd⟩, next⟩⟩
        refine ⟨fun h32 => absurd ⟨by omega, of_decide_eq_true h32⟩ o7, fun h32 => ⟨⟨by first | rfl | trivial, by first | rfl | trivial, hcd⟩, next⟩⟩
      · exact absurd hz' o7
    · have hz' : wKids ts i 4 ≠ 0 := by intro h; rw [h] at hz; simp at hz
      rw [cover_kids hz'] at next
      rcases o7 with ⟨o7, _⟩ | ⟨_, o7, o8⟩
      · exact absurd o7 hz'
      · rw [br_bool]
        exact ⟨fun h => by rw [o7] at h; simp at h, fun _ => ⟨fun h => absurd h (by omega), fun _ => next⟩⟩
  · intro hi
    have e : i = ts.length := by omega
    subst e
    exact hk _ _ (by simp) hK
end Go.Vs.R1
