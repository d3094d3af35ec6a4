import Derived.Test.YtbgleobdhjghlaaR1F11
set_option linter.unusedVariables false
set_option linter.unusedSimpArgs false
/- r6.grow, r6.Build: the same nodes -/
namespace Go.Vs.R1
open Go Go.Proofs Go.Vs Go.IntWalk

/-! ### quarters of bodies in order -/
theorem shr_shr (x : Int) (pl : Nat) : shr x (pl + 2) = shr x pl / 4 := by
  rw [shr_ediv, shr_ediv, Int.pow_add, Int.ediv_ediv_of_nonneg (Int.le_of_lt (Int.pow_pos (by decide)))]
  rfl
theorem shr_mono {x y : Int} (h : x ≤ y) (pl : Nat) : shr x pl ≤ shr y pl := by
  rw [shr_ediv, shr_ediv]; exact Int.ediv_le_ediv (Int.pow_pos (by decide)) h
theorem qrt_eq {x : Int} {lev : Nat} (h : lev ≤ 31) : qrt x lev = shr x (62 - 2 * lev) % 4 := by
  unfold qrt
  rw [show ((62 : Int) - 2 * (lev : Int)).toNat = 62 - 2 * lev by omega]
theorem rise_le {xs : List (List Int)} (h : Rises xs) {i j : Nat} (hij : i ≤ j) (hj : j < xs.length) : rd xs i 0 ≤ rd xs j 0 := by
  rcases Nat.eq_or_lt_of_le hij with rfl | hlt
  · exact Int.le_refl _
  · exact h i j hlt hj

structure Part (xs : List (List Int)) (lev fr to : Nat) : Prop where
  lv : lev ≤ 31
  rise : Rises xs
  one : oneP xs lev fr to
  len : to ≤ xs.length
theorem Part.split {xs : List (List Int)} {lev fr to : Nat} (h : Part xs lev fr to) {i : Nat} (h1 : fr ≤ i) (h2 : i < to) {j : Nat} (h3 : fr ≤ j) (h4 : j < to) :
    shr (rd xs i 0) (62 - 2 * lev) / 4 = shr (rd xs j 0) (62 - 2 * lev) / 4 := by
  have := h.one i j h1 h2 h3 h4
  rw [show 64 - 2 * lev = (62 - 2 * lev) + 2 by have := h.lv; omega, shr_shr, shr_shr] at this
  exact this
theorem Part.same {xs : List (List Int)} {lev fr to : Nat} (h : Part xs lev fr to) {i j : Nat} (h1 : fr ≤ i) (h2 : i < to) (h3 : fr ≤ j) (h4 : j < to) :
    shr (rd xs i 0) (62 - 2 * lev) = shr (rd xs j 0) (62 - 2 * lev) ↔ qrt (rd xs i 0) lev = qrt (rd xs j 0) lev := by
  rw [qrt_eq h.lv, qrt_eq h.lv]
  have := h.split h1 h2 h3 h4
  omega
theorem Part.up {xs : List (List Int)} {lev fr to : Nat} (h : Part xs lev fr to) {i j : Nat} (h1 : fr ≤ i) (h3 : i ≤ j) (h4 : j < to) :
    qrt (rd xs i 0) lev ≤ qrt (rd xs j 0) lev := by
  rw [qrt_eq h.lv, qrt_eq h.lv]
  have := h.split h1 (by omega) (show fr ≤ j by omega) h4
  have h5 := shr_mono (rise_le h.rise h3 (by have := h.len; omega)) (62 - 2 * lev)
  omega
theorem qrt_lt (x lev : Int) : 0 ≤ qrt x lev ∧ qrt x lev < 4 := by unfold qrt; omega

theorem runGo_spec (xs : List (List Int)) (lev q : Int) (to : Nat) : ∀ (m t : Nat), to - t ≤ m → t ≤ to →
    t ≤ runGo xs lev q to m t ∧ runGo xs lev q to m t ≤ to ∧ (∀ j, t ≤ j → j < runGo xs lev q to m t → qrt (rd xs j 0) lev = q) ∧
    (runGo xs lev q to m t = to ∨ qrt (rd xs (runGo xs lev q to m t) 0) lev ≠ q)
  | 0, t, hm, ht => by
    have : t = to := by omega
    subst this
    exact ⟨Nat.le_refl _, Nat.le_refl _, fun j h1 h2 => by simp only [runGo] at h2; omega, .inl rfl⟩
  | m + 1, t, hm, ht => by
    simp only [runGo]
    split
    · rename_i hc
      obtain ⟨h1, h2, h3, h4⟩ := runGo_spec xs lev q to m (t + 1) (by omega) (by omega)
      refine ⟨by omega, h2, fun j hj1 hj2 => ?_, h4⟩
      rcases Nat.eq_or_lt_of_le hj1 with rfl | hlt
      · exact hc.2
      · exact h3 j (by omega) hj2
    · rename_i hc
      refine ⟨Nat.le_refl _, ht, fun j h1 h2 => by omega, ?_⟩
      rcases Nat.lt_or_ge t to with h | h
      · exact .inr fun h5 => hc ⟨h, h5⟩
      · exact .inl (by omega)
theorem runGo_step {xs : List (List Int)} {lev q : Int} {to t : Nat} (h : t < to) (hs : qrt (rd xs t 0) lev = q) : runGo xs lev q to (to - t) t = runGo xs lev q to (to - (t + 1)) (t + 1) := by
  rw [show to - t = (to - (t + 1)) + 1 by omega]
  simp only [runGo]
  rw [if_pos ⟨h, hs⟩]
theorem runGo_stop {xs : List (List Int)} {lev q : Int} {to t m : Nat} (h : ¬ (t < to ∧ qrt (rd xs t 0) lev = q)) : runGo xs lev q to m t = t := by
  cases m with
  | zero => rfl
  | succ m => simp only [runGo]; rw [if_neg h]
theorem runEnd_stop {xs : List (List Int)} {lev q : Int} {to f : Nat} (h : ¬ (f < to ∧ qrt (rd xs f 0) lev = q)) : runEnd xs lev q to f = f := runGo_stop h
theorem runEnd_seg {xs : List (List Int)} {lev fr to f : Nat} {q : Int} (h : Part xs lev fr to) (hf : fr ≤ f) (hft : f < to) (hq : qrt (rd xs f 0) lev = q) : runEnd xs lev q to f = segEnd xs (62 - 2 * lev) to f := by
  obtain ⟨s1, s2, s3, s4⟩ := segEnd_spec xs (62 - 2 * lev) hft
  obtain ⟨r1, r2, r3, r4⟩ := runGo_spec xs lev q to (to - f) f (Nat.le_refl _) (by omega)
  change f ≤ runEnd xs lev q to f at r1
  change runEnd xs lev q to f ≤ to at r2
  change ∀ j, f ≤ j → j < runEnd xs lev q to f → _ at r3
  change runEnd xs lev q to f = to ∨ qrt (rd xs (runEnd xs lev q to f) 0) lev ≠ q at r4
  rcases Nat.lt_trichotomy (runEnd xs lev q to f) (segEnd xs (62 - 2 * lev) to f) with hlt | he | hgt
  · exfalso
    rcases r4 with r4 | r4
    · omega
    · have := s3 (runEnd xs lev q to f) r1 hlt
      rw [h.same (by omega) (by omega) hf hft, hq] at this
      exact r4 this
  · exact he
  · exfalso
    rcases s4 with s4 | s4
    · omega
    · have := r3 (segEnd xs (62 - 2 * lev) to f) (by omega) hgt
      apply s4
      rw [h.same (by omega) (by omega) hf hft, hq]
      exact this

/-! ### the loops -/
theorem loop30a (N : Know) (n0 : Nat) : LoopOk (envOf Try.prog N 0) 30 n0 0 (lp Try.prog 30 0) L30a := by
  rintro st K ⟨⟨rfl, hst, hp⟩, hK⟩
  generalize st.x 1 = xs at *
  generalize st.x 2 = zs at *
  generalize st.c 3 0 = lev at *
  generalize st.c 3 1 = key at *
  generalize st.c 3 2 = fr at *
  generalize st.c 3 3 = to at *
  generalize st.c 3 4 = k0 at *
  generalize st.c 3 5 = k1 at *
  generalize st.c 3 6 = k2 at *
  generalize st.c 3 7 = k3 at *
  generalize st.i 7 = at0 at *
  generalize st.i 8 = q0 at *
  subst hst
  obtain ⟨e1, p1, p2, rfl⟩ := hp
  obtain ⟨at_, rfl⟩ : ∃ m : Nat, at0 = m := ⟨at0.toNat, by omega⟩
  simp only [Int.toNat_natCast] at *
  generalize hz0 : zs.take at_ = zs0 at *
  have hl0 : zs0.length = at_ := by rw [← hz0, List.length_take]; omega
  subst hl0
  subst e1
  refine loop_of (fun p : Int × List Int => S30a xs (zs0 ++ [[lev, key, fr, to] ++ p.2]) lev key fr to k0 k1 k2 k3 zs0.length p.1) (fun p => 0 ≤ p.1 ∧ p.1 ≤ 4 ∧ p.2.length = 4 ∧ ∀ j : Nat, (j : Int) < p.1 → p.2.getD j 0 = -1) (fun p => (4 - p.1).toNat) ?_ (a := (0, [k0, k1, k2, k3])) ⟨by simp, by simp, rfl, fun j hj => by simp only at hj; omega⟩
  rintro ⟨q, ks⟩ ⟨a1, a2, hkl, hks⟩ k hn hk
  simp only at a1 a2 hks
  show round _ _ _ _ _ (S30a xs (zs0 ++ [[lev, key, fr, to] ++ ks]) lev key fr to k0 k1 k2 k3 zs0.length q) k
  rw [r30a, br_dec]
  constructor
  · intro hi
    obtain ⟨qn, rfl⟩ : ∃ m : Nat, q = m := ⟨q.toNat, by omega⟩
    have hq4 : qn < 4 := by omega
    have hw : (0 : Int) ≤ (zs0.length : Int) ∧ (zs0.length : Int) < (zs0 ++ [[lev, key, fr, to] ++ ks]).length := by simp; omega
    refine ⟨hw, by omega, ⟨hw.1, hw.2, by omega, by omega⟩, ?_⟩
    simp only [Int.toNat_natCast]
    rw [modify_mid]
    rw [i64_in ((qn : Int) + 1) (by omega)]
    have := hn ((qn : Int) + 1, ks.set qn (-1)) ⟨by simp only; omega, by simp only; omega, by simpa using hkl, ?_⟩ (by simp only; omega)
    · simp only at this
      rw [← set4 hkl hq4] at this
      exact this
    · intro j hj
      simp only at hj
      by_cases e : qn = j
      · subst e; simp [List.getD, hkl, hq4]
      · have := hks j (by omega)
        simp only [List.getD, List.getElem?_set_ne e] at this ⊢
        exact this
  · intro hi
    have e : q = 4 := by omega
    subst e
    have hks' : ks = [-1, -1, -1, -1] := by
      match ks, hkl with
      | [a, b, c, d], _ =>
        have h0 := hks 0 (by decide)
        have h1 := hks 1 (by decide)
        have h2 := hks 2 (by decide)
        have h3 := hks 3 (by decide)
        simp [List.getD] at h0 h1 h2 h3
        rw [h0, h1, h2, h3]
    subst hks'
    exact hk _ _ (by simp) hK

theorem loop30c (n : Nat) (n0 : Nat) : LoopOk (envOf Try.prog (N30 n) 0) 30 n0 2 (lp Try.prog 30 2) L30c := by
  rintro st K ⟨⟨rfl, hst, hp⟩, hK⟩
  generalize st.x 1 = xs at *
  generalize st.x 2 = zs at *
  generalize st.c 3 0 = lev at *
  generalize st.c 3 1 = key at *
  generalize st.c 3 2 = fr at *
  generalize st.c 3 3 = to at *
  generalize st.c 3 4 = k0 at *
  generalize st.c 3 5 = k1 at *
  generalize st.c 3 6 = k2 at *
  generalize st.c 3 7 = k3 at *
  generalize st.i 7 = at_ at *
  generalize st.i 9 = f0 at *
  generalize st.i 10 = q at *
  generalize st.i 11 = f at *
  subst hst
  obtain ⟨p1, p2, p3, p4, p5, p6, ht0, p7⟩ := hp
  subst ht0
  refine loop_of (fun a : Int => S30c xs zs lev key fr to k0 k1 k2 k3 at_ f q a) (fun a => f ≤ a ∧ a ≤ to ∧ runGo xs lev q to.toNat (to.toNat - a.toNat) a.toNat = runEnd xs lev q to.toNat f.toNat) (fun a => (to - a).toNat) ?_ (a := f) ⟨by omega, by omega, rfl⟩
  rintro t ⟨a1, a2, a3⟩ k hn hk
  show round _ _ _ _ _ (S30c _ _ _ _ _ _ _ _ _ _ _ _ _ t) k
  rw [r30c, br_dec]
  have fin : ¬ (t.toNat < to.toNat ∧ qrt (rd xs t.toNat 0) lev = q) → k (Out.exit 4) (S30c xs zs lev key fr to k0 k1 k2 k3 at_ f q t) := by
    intro h
    rw [runGo_stop h] at a3
    refine hk _ _ (by simp) ?_
    rw [← a3] at hK
    rw [show ((t.toNat : Nat) : Int) = t by omega] at hK
    exact hK
  constructor
  · intro hi
    have hw : (0 : Int) ≤ t ∧ t < xs.length := by omega
    have hk0 := p7 t.toNat
    refine ⟨hw, hw, ⟨rfl, rfl, hk0.1, hk0.2, p1, p2⟩, ?_⟩
    rw [br_bool]
    constructor
    · intro he
      have he' : qrt (rd xs t.toNat 0) lev = q := by simpa using he
      rw [i64_in (t + 1) (by omega)]
      refine hn (t + 1) ⟨by omega, by omega, ?_⟩ (by omega)
      rw [show (t + 1).toNat = t.toNat + 1 by omega, ← runGo_step (by omega) he']
      exact a3
    · intro he
      refine fin fun h => ?_
      rw [h.2] at he
      simp at he
  · intro hi
    exact fin (by omega)

structure Inv30 (n : Nat) (xs zs0 : List (List Int)) (lev : Nat) (key : Int) (fr to : Nat) (p : Nat × Nat × List (List Int)) : Prop where
  inv : Inv29 n xs zs0 lev key fr to (p.1, p.2.2)
  q : p.2.1 ≤ 4
  rest : ∀ j, p.1 ≤ j → j < to → (p.2.1 : Int) ≤ qrt (rd xs j 0) lev

theorem loop30b (n : Nat) (n0 : Nat) : LoopOk (envOf Try.prog (N30 n) 0) 30 n0 1 (lp Try.prog 30 1) (L30b n) := by
  rintro st K ⟨⟨rfl, hst, hp⟩, hK⟩
  generalize st.x 1 = xs at *
  generalize st.x 2 = zs at *
  generalize st.c 3 0 = lev0 at *
  generalize st.c 3 1 = key at *
  generalize st.c 3 2 = fr0 at *
  generalize st.c 3 3 = to0 at *
  generalize st.c 3 4 = k0 at *
  generalize st.c 3 5 = k1 at *
  generalize st.c 3 6 = k2 at *
  generalize st.c 3 7 = k3 at *
  generalize st.i 7 = at0 at *
  generalize st.i 9 = f0 at *
  generalize st.i 10 = q0 at *
  subst hst
  obtain ⟨⟨⟨q1, q1', q2, q3, q4, q5, q6, q7, q8⟩, hR, hone⟩, e1, q9, q10, rfl, rfl, q11, q12⟩ := hp
  obtain ⟨lev, rfl⟩ : ∃ m : Nat, lev0 = m := ⟨lev0.toNat, by omega⟩
  obtain ⟨fr, rfl⟩ : ∃ m : Nat, f0 = m := ⟨f0.toNat, by omega⟩
  obtain ⟨to, rfl⟩ : ∃ m : Nat, to0 = m := ⟨to0.toNat, by omega⟩
  obtain ⟨at_, rfl⟩ : ∃ m : Nat, at0 = m := ⟨at0.toNat, by omega⟩
  simp only [Int.toNat_natCast] at *
  generalize hz0 : zs.take at_ = zs0 at *
  have hl0 : zs0.length = at_ := by rw [← hz0, List.length_take]; omega
  have hpl : ((62 : Int) - 2 * (lev : Int)).toNat = 62 - 2 * lev := by omega
  have hpart : Part xs lev fr to := ⟨by omega, hR, hone, by omega⟩
  have hstart : Inv30 n xs zs0 lev key fr to (fr, 0, zs) := by
    refine ⟨⟨Nat.le_refl _, by simp only; omega, ⟨[-1, -1, -1, -1], [], rfl, ?_, ?_⟩, ?_⟩, by simp, fun j _ _ => (qrt_lt _ _).1⟩
    · rw [e1]; rfl
    · simp only [treeF]
      rw [if_neg (by omega)]
      simp
    · simp only
      have := congrArg List.length e1
      simp at this
      omega
  refine loop_of (fun p : Nat × Nat × List (List Int) => S30b xs p.2.2 lev key fr to k0 k1 k2 k3 at_ p.1 p.2.1) (Inv30 n xs zs0 lev key fr to) (fun p => 4 - p.2.1) ?_ (a := (fr, 0, zs)) hstart
  rintro ⟨f, q, zs1⟩ ⟨⟨a1, a2, ⟨ks, D, hkl, hz, htree⟩, hcnt⟩, hq4, hrest⟩ k hn hk
  simp only at a1 a2 hz htree hcnt hq4 hrest
  show round _ _ _ _ _ (S30b xs zs1 lev key fr to k0 k1 k2 k3 at_ f q) k
  rw [r30b, br_dec]
  constructor
  · intro hi
    have hi' : q < 4 := by omega
    have hmin : min (62 - 2 * lev) 64 = 62 - 2 * lev := by omega
    have hk0 := q7 f
    have hsh : (rd xs f 0).fdiv (2 ^ (62 - 2 * lev)) = shr (rd xs f 0) (62 - 2 * lev) := rfl
    have hw1 : IntKind.i64.wrap (62 - IntKind.i64.wrap (2 * (lev : Int))) = 62 - 2 * (lev : Int) := by rw [i64_in (2 * (lev : Int)) (by omega), i64_in _ (by omega)]
    rw [hw1]
    simp only [Int.toNat_natCast, hpl, hmin, hsh]
    rw [u64_shr hk0.1 hk0.2, i64_in ((lev : Int) + 1) (by omega), i64_in ((q : Int) + 1) (by omega)]
    refine ⟨⟨by first | rfl | trivial, by first | rfl | trivial, by omega, by omega, by omega, by omega, by omega, by omega, by first | rfl | trivial, q7⟩, ?_⟩
    rw [br_dec]
    by_cases hc : f < to ∧ qrt (rd xs f 0) lev = q
    · -- a run of this quarter
      rw [runEnd_seg hpart a1 hc.1 hc.2]
      obtain ⟨s1, s2, s3, s4⟩ := segEnd_spec xs (62 - 2 * lev) hc.1
      have hkp : shr (rd xs f 0) (62 - 2 * lev) * 2 ^ (62 - 2 * lev) = kp xs (62 - 2 * lev) f := rfl
      rw [hkp]
      have hqq : kq xs (62 - 2 * lev) f = q := by
        have := hc.2
        rw [qrt_eq hpart.lv] at this
        unfold kq
        omega
      have hle : ((lev : Int) + 1).toNat = lev + 1 := by omega
      rw [hle]
      refine ⟨fun _ => ?_, fun h => absurd h (by omega)⟩
      have hsplit : n * (to - f) = n * (segEnd xs (62 - 2 * lev) to f - f) + n * (to - segEnd xs (62 - 2 * lev) to f) := by rw [← Nat.mul_add]; congr 1; omega
      have hz1 : zs1.length = at_ + 1 + D.length := by rw [hz]; simp [hl0]; omega
      have hmul : ((n : Int) + 1) * ((to : Int) - fr) = (n * (to - fr) + (to - fr) : Nat) := by
        have : ((to - fr : Nat) : Int) = (to : Int) - fr := by omega
        rw [← this]; push_cast; rw [Int.add_mul]; omega
      have hmul2 : (n : Int) * (((segEnd xs (62 - 2 * lev) to f : Nat) : Int) - f) = (n * (segEnd xs (62 - 2 * lev) to f - f) : Nat) := by
        have : ((segEnd xs (62 - 2 * lev) to f - f : Nat) : Int) = ((segEnd xs (62 - 2 * lev) to f : Nat) : Int) - f := by omega
        rw [← this]; push_cast; rfl
      have q8' : zs0.length + ((n : Int) + 1) * ((to : Int) - fr) ≤ 1000000 := by push_cast at q8; exact q8
      rw [hmul] at q8'
      refine ⟨by omega, by omega, by omega, by omega, by omega, by omega, by omega, ⟨by first | rfl | trivial, by first | rfl | trivial, ⟨by omega, by omega, by omega, by omega, by omega, by omega, by omega, q7, ?_⟩, hR, ?_⟩, ?_⟩
      · rw [hmul2, List.length_modify]; omega
      · intro i j h1 h2 h3 h4
        rw [show 64 - 2 * ((lev : Int) + 1).toNat = 62 - 2 * lev by omega]
        simp only [Int.toNat_natCast] at h1 h2 h3 h4
        rw [s3 i h1 h2, s3 j h3 h4]
      · rw [List.length_modify, hz, show at_ = zs0.length from hl0.symm, modify_mid, List.append_assoc, List.cons_append]
        have hlen2 : (zs0 ++ ([(lev : Int), key, (fr : Int), (to : Int)] ++ ks) :: D).length = zs0.length + 1 + D.length := by simp; omega
        rw [hlen2]
        have := hn (segEnd xs (62 - 2 * lev) to f, q + 1, zs0 ++ ([(lev : Int), key, (fr : Int), (to : Int)] ++ ks.set q ((zs0.length + 1 + D.length : Nat) : Int)) :: (D ++ treeF xs n (lev + 1) (kp xs (62 - 2 * lev) f) f (segEnd xs (62 - 2 * lev) to f) (zs0.length + 1 + D.length))) ⟨⟨by simp only; omega, s2, ⟨_, _, by simpa using hkl, rfl, ?_⟩, ?_⟩, by simp only; omega, ?_⟩ (by simp only; omega)
        · rw [← set4 hkl hi'] at this
          rw [hl0] at this ⊢
          exact this
        · rw [htree, segs_cons hc.1]
          simp only [ksF, kidsF, List.length_append, List.append_assoc, Nat.add_assoc, hqq]
        · simp only [List.length_append, List.length_cons]
          have h2 := tree_len xs n (lev + 1) (kp xs (62 - 2 * lev) f) f (segEnd xs (62 - 2 * lev) to f) (zs0.length + 1 + D.length) s1
          omega
        · intro j hj1 hj2
          simp only at hj1 ⊢
          have hge := hrest (segEnd xs (62 - 2 * lev) to f) (by omega) (by omega)
          have hup := hpart.up (i := segEnd xs (62 - 2 * lev) to f) (by omega) hj1 hj2
          have hne : qrt (rd xs (segEnd xs (62 - 2 * lev) to f) 0) lev ≠ q := by
            rcases s4 with s4 | s4
            · omega
            · intro h5
              apply s4
              rw [hpart.same (by omega) (by omega) a1 hc.1, h5, hc.2]
          omega
    · -- none
      rw [runEnd_stop hc]
      refine ⟨fun h => absurd h (by omega), fun _ => ?_⟩
      refine hn (f, q + 1, zs1) ⟨⟨a1, a2, ⟨ks, D, hkl, hz, htree⟩, hcnt⟩, by simp only; omega, ?_⟩ (by simp only; omega)
      intro j hj1 hj2
      simp only at hj1 ⊢
      have h1 := hrest f (Nat.le_refl _) (by omega)
      have h2 := hpart.up a1 hj1 hj2
      have h3 : qrt (rd xs f 0) lev ≠ q := fun h => hc ⟨by omega, h⟩
      omega
  · intro hi
    have e : f = to := by
      rcases Nat.lt_or_ge f to with h | h
      · have h1 := hrest f (Nat.le_refl _) h
        have h2 := (qrt_lt (rd xs f 0) lev).2
        omega
      · omega
    subst e
    refine hk _ _ (by simp) ?_
    rw [segs_nil (Nat.le_refl _)] at htree
    simp only [ksF, kidsF, List.append_nil] at htree
    rw [hl0] at htree
    rw [htree, ← hz] at hK
    exact hK
end Go.Vs.R1
