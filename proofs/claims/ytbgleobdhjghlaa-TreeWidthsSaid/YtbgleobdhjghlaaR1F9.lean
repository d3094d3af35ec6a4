import Derived.Test.YtbgleobdhjghlaaR1V7
set_option linter.unusedVariables false
set_option linter.unusedSimpArgs false
/- tree.builder.add -/
namespace Go.Vs.R1
open Go Go.Proofs Go.Vs Go.IntWalk

/-! ### numbers -/
theorem shr_nonneg {x : Int} (h : 0 ≤ x) (pl : Nat) : 0 ≤ shr x pl := Int.fdiv_nonneg h (Int.le_of_lt (Int.pow_pos (by decide)))
theorem shr_ediv (x : Int) (pl : Nat) : shr x pl = x / 2 ^ pl := Int.fdiv_eq_ediv_of_nonneg _ (Int.le_of_lt (Int.pow_pos (by decide)))
theorem shr_mul_le (x : Int) (pl : Nat) : shr x pl * 2 ^ pl ≤ x := by
  rw [shr_ediv]; exact Int.ediv_mul_le _ (Int.ne_of_gt (Int.pow_pos (by decide)))
theorem shr_le {x : Int} (h : 0 ≤ x) (pl : Nat) : shr x pl ≤ x := by
  rw [shr_ediv]; exact Int.ediv_le_self _ h
theorem u64_shr {x : Int} (h : 0 ≤ x) (h2 : x < 18446744073709551616) (pl : Nat) : IntKind.u64.wrap (shr x pl * 2 ^ pl) = shr x pl * 2 ^ pl := by
  have h1 := shr_mul_le x pl
  have h0 : 0 ≤ shr x pl * 2 ^ pl := Int.mul_nonneg (shr_nonneg h pl) (Int.le_of_lt (Int.pow_pos (by decide)))
  exact u64_in _ (by omega)
theorem and3 {a : Int} (h : 0 ≤ a) (h2 : a < 18446744073709551616) : IntKind.u64.wrap (((BitVec.ofInt 64 a &&& BitVec.ofInt 64 3).toNat : Nat) : Int) = a % 4 := by
  have e1 : (BitVec.ofInt 64 a &&& BitVec.ofInt 64 3).toNat = a.toNat % 4 := by
    rw [BitVec.toNat_and, BitVec.toNat_ofInt, BitVec.toNat_ofInt]
    have e2 : (a % ((2 ^ 64 : Nat) : Int)).toNat = a.toNat := by
      rw [Int.emod_eq_of_lt h (by simpa using h2)]
    have e3 : ((3 : Int) % ((2 ^ 64 : Nat) : Int)).toNat = 2 ^ 2 - 1 := by decide
    rw [e2, e3, Nat.and_two_pow_sub_one_eq_mod]
  rw [e1]
  have e4 : ((a.toNat % 4 : Nat) : Int) = a % 4 := by omega
  rw [e4]
  exact u64_in _ (by omega)

/-! ### runs -/
theorem segGo_spec (xs : List (List Int)) (pl : Nat) (kf : Int) (to : Nat) : ∀ (m t : Nat), to - t ≤ m → t ≤ to →
    t ≤ segGo xs pl kf to m t ∧ segGo xs pl kf to m t ≤ to ∧ (∀ j, t ≤ j → j < segGo xs pl kf to m t → shr (rd xs j 0) pl = shr kf pl) ∧
    (segGo xs pl kf to m t = to ∨ shr (rd xs (segGo xs pl kf to m t) 0) pl ≠ shr kf pl)
  | 0, t, hm, ht => by
    have : t = to := by omega
    subst this
    exact ⟨Nat.le_refl _, Nat.le_refl _, fun j h1 h2 => by simp only [segGo] at h2; omega, .inl rfl⟩
  | m + 1, t, hm, ht => by
    simp only [segGo]
    split
    · rename_i hc
      obtain ⟨h1, h2, h3, h4⟩ := segGo_spec xs pl kf to m (t + 1) (by omega) (by omega)
      refine ⟨by omega, h2, fun j hj1 hj2 => ?_, h4⟩
      rcases Nat.eq_or_lt_of_le hj1 with rfl | hlt
      · exact hc.2
      · exact h3 j (by omega) hj2
    · rename_i hc
      refine ⟨Nat.le_refl _, ht, fun j h1 h2 => by omega, ?_⟩
      rcases Nat.lt_or_ge t to with h | h
      · exact .inr fun h5 => hc ⟨h, h5⟩
      · exact .inl (by omega)
theorem segGo_step {xs : List (List Int)} {pl : Nat} {kf : Int} {to t : Nat} (h : t < to) (hs : shr (rd xs t 0) pl = shr kf pl) : segGo xs pl kf to (to - t) t = segGo xs pl kf to (to - (t + 1)) (t + 1) := by
  rw [show to - t = (to - (t + 1)) + 1 by omega]
  simp only [segGo]
  rw [if_pos ⟨h, hs⟩]
theorem segGo_stop {xs : List (List Int)} {pl : Nat} {kf : Int} {to t m : Nat} (h : ¬ (t < to ∧ shr (rd xs t 0) pl = shr kf pl)) : segGo xs pl kf to m t = t := by
  cases m with
  | zero => rfl
  | succ m => simp only [segGo]; rw [if_neg h]
theorem segEnd_spec (xs : List (List Int)) (pl : Nat) {to f : Nat} (h : f < to) :
    f < segEnd xs pl to f ∧ segEnd xs pl to f ≤ to ∧ (∀ j, f ≤ j → j < segEnd xs pl to f → shr (rd xs j 0) pl = shr (rd xs f 0) pl) ∧
    (segEnd xs pl to f = to ∨ shr (rd xs (segEnd xs pl to f) 0) pl ≠ shr (rd xs f 0) pl) := by
  obtain ⟨h1, h2, h3, h4⟩ := segGo_spec xs pl (rd xs f 0) to (to - (f + 1)) (f + 1) (Nat.le_refl _) (by omega)
  refine ⟨h1, h2, fun j hj1 hj2 => ?_, h4⟩
  rcases Nat.eq_or_lt_of_le hj1 with rfl | hlt
  · rfl
  · exact h3 j hlt hj2
theorem segs_fuel (xs : List (List Int)) (pl to : Nat) : ∀ (m m' f : Nat), to - f ≤ m → to - f ≤ m' → segs xs pl to m f = segs xs pl to m' f
  | 0, m', f, h, _ => by
    cases m' with
    | zero => rfl
    | succ m' => simp only [segs]; rw [if_neg (by omega)]
  | m + 1, 0, f, _, h => by simp only [segs]; rw [if_neg (by omega)]
  | m + 1, m' + 1, f, h, h' => by
    simp only [segs]
    split
    · rename_i hf
      have := (segEnd_spec xs pl hf).1
      rw [segs_fuel xs pl to m m' _ (by omega) (by omega)]
    · rfl
theorem segs_cons {xs : List (List Int)} {pl to f : Nat} (h : f < to) : segs xs pl to (to - f) f = (f, segEnd xs pl to f) :: segs xs pl to (to - segEnd xs pl to f) (segEnd xs pl to f) := by
  rw [show to - f = (to - f - 1) + 1 by omega]
  simp only [segs]
  rw [if_pos h]
  have := (segEnd_spec xs pl h).1
  rw [segs_fuel xs pl to (to - f - 1) (to - segEnd xs pl to f) _ (by omega) (by omega)]
theorem segs_nil {xs : List (List Int)} {pl to f m : Nat} (h : to ≤ f) : segs xs pl to m f = [] := by
  cases m with
  | zero => rfl
  | succ m => simp only [segs]; rw [if_neg (by omega)]

/-! ### how many -/
theorem kids_len {F : SubT} {xs : List (List Int)} {lev pl n : Nat} (hF : ∀ lev key f t a, f < t → (F lev key f t a).length ≤ n * (t - f)) (to : Nat) :
    ∀ (m f a : Nat), to - f ≤ m → f ≤ to → (kidsF F xs lev pl (segs xs pl to (to - f) f) a).length ≤ n * (to - f)
  | 0, f, a, h, h' => by rw [segs_nil (by omega)]; simp [kidsF]
  | m + 1, f, a, h, h' => by
    rcases Nat.lt_or_ge f to with hf | hf
    · rw [segs_cons hf]
      obtain ⟨h1, h2, _, _⟩ := segEnd_spec xs pl hf
      simp only [kidsF, List.length_append]
      have e1 := hF (lev + 1) (kp xs pl f) f (segEnd xs pl to f) a h1
      have e2 := kids_len (xs := xs) (lev := lev) (pl := pl) hF to m (segEnd xs pl to f) (a + (F (lev + 1) (kp xs pl f) f (segEnd xs pl to f) a).length) (by omega) h2
      have e3 : n * (to - f) = n * (segEnd xs pl to f - f) + n * (to - segEnd xs pl to f) := by rw [← Nat.mul_add]; congr 1; omega
      omega
    · rw [segs_nil hf]; simp [kidsF]
theorem tree_len (xs : List (List Int)) : ∀ (n lev : Nat) (key : Int) (f t a : Nat), f < t → (treeF xs n lev key f t a).length ≤ n * (t - f)
  | 0, _, _, _, _, _, _ => by simp [treeF]
  | n + 1, lev, key, f, t, a, h => by
    simp only [treeF]
    split
    · simp only [List.length_cons, List.length_nil]
      have : 1 * 1 ≤ (n + 1) * (t - f) := Nat.mul_le_mul (by omega) (by omega)
      omega
    · have := kids_len (lev := lev) (pl := 62 - 2 * lev) (xs := xs) (fun lev key f t a h => tree_len xs n lev key f t a h) t (t - f) f (a + 1) (Nat.le_refl _) (by omega)
      simp only [List.length_cons]
      rw [Nat.add_mul]
      omega
theorem tree_pos (xs : List (List Int)) (n lev : Nat) (key : Int) (f t a : Nat) : 0 < (treeF xs (n + 1) lev key f t a).length := by
  simp only [treeF]
  split <;> simp

/-! ### the inner loop -/
theorem loop29b (N : Know) (n0 : Nat) : LoopOk (envOf Try.prog N 0) 29 n0 1 (lp Try.prog 29 1) L29b := by
  rintro st K ⟨⟨rfl, hst, hp⟩, hK⟩
  generalize st.x 1 = xs at *
  generalize st.x 4 = zs at *
  generalize st.c 3 0 = lev at *
  generalize st.c 3 1 = key at *
  generalize st.c 3 2 = fr at *
  generalize st.c 3 3 = to at *
  generalize st.i 5 = at_ at *
  generalize st.i 6 = place at *
  generalize st.i 7 = f at *
  generalize st.i 8 = kf at *
  generalize st.i 9 = t0 at *
  subst hst
  obtain ⟨p1, p2, p3, p4, p5, p6, rfl, rfl⟩ := hp
  have hmin : min place.toNat 64 = place.toNat := by omega
  refine loop_of (fun a : Int => S29b xs zs lev key fr to at_ place f (rd xs f.toNat 0) a) (fun a => f < a ∧ a ≤ to ∧ segGo xs place.toNat (rd xs f.toNat 0) to.toNat (to.toNat - a.toNat) a.toNat = segEnd xs place.toNat to.toNat f.toNat) (fun a => (to - a).toNat) ?_ (a := f + 1) ⟨by omega, by omega, by
    unfold segEnd
    rw [show (f + 1).toNat = f.toNat + 1 by omega]⟩
  rintro t ⟨a1, a2, a3⟩ k hn hk
  show round _ _ _ _ _ (S29b _ _ _ _ _ _ _ _ _ _ t) k
  rw [r29b, br_dec, hmin]
  have fin : ¬ (t.toNat < to.toNat ∧ shr (rd xs t.toNat 0) place.toNat = shr (rd xs f.toNat 0) place.toNat) → k (Out.exit 2) (S29b xs zs lev key fr to at_ place f (rd xs f.toNat 0) t) := by
    intro h
    rw [segGo_stop h] at a3
    refine hk _ _ (by simp) ?_
    rw [← a3] at hK
    rw [show ((t.toNat : Nat) : Int) = t by omega] at hK
    exact hK
  constructor
  · intro hi
    have hw : (0 : Int) ≤ t ∧ t < xs.length := by omega
    refine ⟨hw, hw, p1, p1, ?_⟩
    rw [br_bool]
    constructor
    · intro he
      have he' : shr (rd xs t.toNat 0) place.toNat = shr (rd xs f.toNat 0) place.toNat := by simpa [shr] using he
      rw [i64_in (t + 1) (by omega)]
      refine hn (t + 1) ⟨by omega, by omega, ?_⟩ (by omega)
      rw [show (t + 1).toNat = t.toNat + 1 by omega, ← segGo_step (by omega) he']
      exact a3
    · intro he
      refine fin fun h => ?_
      have : (rd xs t.toNat 0).fdiv (2 ^ place.toNat) = (rd xs f.toNat 0).fdiv (2 ^ place.toNat) := h.2
      rw [this] at he
      simp at he
  · intro hi
    exact fin (by omega)

/-! ### the outer loop -/
theorem set4 {ks : List Int} (hl : ks.length = 4) {q : Nat} (hq : q < 4) (lev key fr to v : Int) :
    ([if (((0 : Nat) : Int) = ((4 : Nat) : Int) + (q : Int)) then v else ([lev, key, fr, to] ++ ks).getD 0 0, if (((1 : Nat) : Int) = ((4 : Nat) : Int) + (q : Int)) then v else ([lev, key, fr, to] ++ ks).getD 1 0, if (((2 : Nat) : Int) = ((4 : Nat) : Int) + (q : Int)) then v else ([lev, key, fr, to] ++ ks).getD 2 0, if (((3 : Nat) : Int) = ((4 : Nat) : Int) + (q : Int)) then v else ([lev, key, fr, to] ++ ks).getD 3 0, if (((4 : Nat) : Int) = ((4 : Nat) : Int) + (q : Int)) then v else ([lev, key, fr, to] ++ ks).getD 4 0, if (((5 : Nat) : Int) = ((4 : Nat) : Int) + (q : Int)) then v else ([lev, key, fr, to] ++ ks).getD 5 0, if (((6 : Nat) : Int) = ((4 : Nat) : Int) + (q : Int)) then v else ([lev, key, fr, to] ++ ks).getD 6 0, if (((7 : Nat) : Int) = ((4 : Nat) : Int) + (q : Int)) then v else ([lev, key, fr, to] ++ ks).getD 7 0] : List Int) = [lev, key, fr, to] ++ ks.set q v := by
  match ks, hl with
  | [a, b, c, d], _ =>
    have : q = 0 ∨ q = 1 ∨ q = 2 ∨ q = 3 := by omega
    rcases this with rfl | rfl | rfl | rfl <;> simp [List.getD]

theorem modify_mid {α : Type} (l : List α) (x : α) (r : List α) (f : α → α) : (l ++ x :: r).modify l.length f = l ++ f x :: r := by
  induction l with
  | nil => simp
  | cons a l ih => simp only [List.cons_append, List.length_cons, List.modify_succ_cons, ih]

structure Inv29 (n : Nat) (xs zs0 : List (List Int)) (lev : Nat) (key : Int) (fr to : Nat) (p : Nat × List (List Int)) : Prop where
  lo : fr ≤ p.1
  hi : p.1 ≤ to
  form : ∃ ks D, ks.length = 4 ∧ p.2 = zs0 ++ ([(lev : Int), key, fr, to] ++ ks) :: D ∧
    treeF xs (n + 1) lev key fr to zs0.length = ([(lev : Int), key, fr, to] ++ ksF (treeF xs n) xs lev (62 - 2 * lev) (segs xs (62 - 2 * lev) to (to - p.1) p.1) (zs0.length + 1 + D.length) ks) ::
      (D ++ kidsF (treeF xs n) xs lev (62 - 2 * lev) (segs xs (62 - 2 * lev) to (to - p.1) p.1) (zs0.length + 1 + D.length))
  cnt : p.2.length + n * (to - p.1) ≤ zs0.length + 1 + n * (to - fr)

theorem loop29a (n : Nat) (n0 : Nat) : LoopOk (envOf Try.prog (N29 n) 0) 29 n0 0 (lp Try.prog 29 0) (L29a n) := by
  rintro st K ⟨⟨rfl, hst, hp⟩, hK⟩
  generalize st.x 1 = xs at *
  generalize st.x 4 = zs at *
  generalize st.c 3 0 = lev0 at *
  generalize st.c 3 1 = key at *
  generalize st.c 3 2 = fr0 at *
  generalize st.c 3 3 = to0 at *
  generalize st.i 5 = at0 at *
  generalize st.i 6 = place at *
  generalize st.i 7 = f0 at *
  subst hst
  obtain ⟨⟨q1, q1', q2, q3, q4, q5, q6, q7, q8⟩, e1, q9, q10, rfl, rfl, q11, q12⟩ := hp
  obtain ⟨lev, rfl⟩ : ∃ m : Nat, lev0 = m := ⟨lev0.toNat, by omega⟩
  obtain ⟨fr, rfl⟩ : ∃ m : Nat, f0 = m := ⟨f0.toNat, by omega⟩
  obtain ⟨to, rfl⟩ : ∃ m : Nat, to0 = m := ⟨to0.toNat, by omega⟩
  obtain ⟨at_, rfl⟩ : ∃ m : Nat, at0 = m := ⟨at0.toNat, by omega⟩
  simp only [Int.toNat_natCast] at *
  generalize hz0 : zs.take at_ = zs0 at *
  have hl0 : zs0.length = at_ := by rw [← hz0, List.length_take]; omega
  have hpl : ((62 : Int) - 2 * (lev : Int)).toNat = 62 - 2 * lev := by omega
  have hstart : Inv29 n xs zs0 lev key fr to (fr, zs) := by
    refine ⟨Nat.le_refl _, by omega, ⟨[-1, -1, -1, -1], [], rfl, ?_, ?_⟩, ?_⟩
    · rw [e1]; rfl
    · simp only [treeF]
      rw [if_neg (by omega)]
      simp
    · simp only
      have := congrArg List.length e1
      simp at this
      omega
  refine loop_of (fun p : Nat × List (List Int) => S29a xs p.2 lev key fr to at_ (62 - 2 * (lev : Int)) p.1) (Inv29 n xs zs0 lev key fr to) (fun p => to - p.1) ?_ (a := (fr, zs)) hstart
  rintro ⟨f, zs1⟩ ⟨a1, a2, ⟨ks, D, hkl, hz, htree⟩, hcnt⟩ k hn hk
  simp only at a1 a2 hz htree hcnt
  show round _ _ _ _ _ (S29a xs zs1 lev key fr to at_ (62 - 2 * (lev : Int)) f) k
  rw [r29a, br_dec]
  constructor
  · intro hi
    have hi' : f < to := by omega
    obtain ⟨s1, s2, s3, s4⟩ := segEnd_spec xs (62 - 2 * lev) hi'
    have hw : (0 : Int) ≤ (f : Int) ∧ (f : Int) < xs.length := by omega
    have hmin : min (62 - 2 * lev) 64 = 62 - 2 * lev := by omega
    have hk0 := q7 f
    have hsh : (rd xs f 0).fdiv (2 ^ (62 - 2 * lev)) = shr (rd xs f 0) (62 - 2 * lev) := rfl
    simp only [Int.toNat_natCast, hpl, hmin, hsh]
    rw [u64_shr hk0.1 hk0.2, and3 (shr_nonneg hk0.1 _) (by have := shr_le hk0.1 (62 - 2 * lev); omega), i64_in ((lev : Int) + 1) (by omega), i64_in ((f : Int) + 1) (by omega)]
    have hq : shr (rd xs f 0) (62 - 2 * lev) % 4 = (kq xs (62 - 2 * lev) f : Int) := by unfold kq; omega
    have hq4 : kq xs (62 - 2 * lev) f < 4 := by unfold kq; omega
    have hkp : shr (rd xs f 0) (62 - 2 * lev) * 2 ^ (62 - 2 * lev) = kp xs (62 - 2 * lev) f := rfl
    rw [hq, hkp]
    have hle : ((lev : Int) + 1).toNat = lev + 1 := by omega
    rw [hle]
    have hsub := tree_len xs n (lev + 1) (kp xs (62 - 2 * lev) f) f (segEnd xs (62 - 2 * lev) to f) zs1.length s1
    have hsplit : n * (to - f) = n * (segEnd xs (62 - 2 * lev) to f - f) + n * (to - segEnd xs (62 - 2 * lev) to f) := by rw [← Nat.mul_add]; congr 1; omega
    have hz1 : zs1.length = at_ + 1 + D.length := by rw [hz]; simp [hl0]; omega
    have hmul : ((n : Int) + 1) * ((to : Int) - fr) = (n * (to - fr) + (to - fr) : Nat) := by
      have : ((to - fr : Nat) : Int) = (to : Int) - fr := by omega
      rw [← this]; push_cast; rw [Int.add_mul]; omega
    have hmul2 : (n : Int) * (((segEnd xs (62 - 2 * lev) to f : Nat) : Int) - f) = (n * (segEnd xs (62 - 2 * lev) to f - f) : Nat) := by
      have : ((segEnd xs (62 - 2 * lev) to f - f : Nat) : Int) = ((segEnd xs (62 - 2 * lev) to f : Nat) : Int) - f := by omega
      rw [← this]; push_cast; rfl
    have q8' : zs0.length + ((n : Int) + 1) * ((to : Int) - fr) ≤ 1000000 := by push_cast at q8; exact q8
    rw [hmul] at q8'
    refine ⟨hw, hw, ⟨by first | rfl | trivial, by first | rfl | trivial, by omega, by omega, by omega, by omega, by omega, by omega, by simp, rfl⟩, by omega, by omega, ⟨by first | rfl | trivial, by first | rfl | trivial, by omega, by omega, by omega, by omega, by omega, by omega, by omega, q7, ?_⟩, by omega, ?_, ?_, ?_, ?_⟩
    · rw [hmul2]; omega
    · simp only [List.length_append]; omega
    · omega
    · simp only [List.length_append]; omega
    · rw [hz, List.append_assoc, List.cons_append, show at_ = zs0.length from hl0.symm, modify_mid]
      have hlen2 : (zs0 ++ ([(lev : Int), key, (fr : Int), (to : Int)] ++ ks) :: D).length = zs0.length + 1 + D.length := by simp; omega
      rw [hlen2]
      have := hn (segEnd xs (62 - 2 * lev) to f, zs0 ++ ([(lev : Int), key, (fr : Int), (to : Int)] ++ ks.set (kq xs (62 - 2 * lev) f) ((zs0.length + 1 + D.length : Nat) : Int)) :: (D ++ treeF xs n (lev + 1) (kp xs (62 - 2 * lev) f) f (segEnd xs (62 - 2 * lev) to f) (zs0.length + 1 + D.length))) ⟨by simp only; omega, s2, ?_, ?_⟩ (by simp only; omega)
      · rw [← set4 hkl hq4] at this
        rw [hl0] at this ⊢
        exact this
      · refine ⟨_, _, by simpa using hkl, rfl, ?_⟩
        rw [htree, segs_cons hi']
        simp only [ksF, kidsF, List.length_append, List.append_assoc, Nat.add_assoc]
      · simp only [List.length_append, List.length_cons]
        have h2 := tree_len xs n (lev + 1) (kp xs (62 - 2 * lev) f) f (segEnd xs (62 - 2 * lev) to f) (zs0.length + 1 + D.length) s1
        omega
  · intro hi
    have e : f = to := by omega
    subst e
    refine hk _ _ (by simp) ?_
    rw [segs_nil (Nat.le_refl _)] at htree
    simp only [ksF, kidsF, List.append_nil] at htree
    rw [hl0] at htree
    rw [htree, ← hz] at hK
    exact hK
end Go.Vs.R1
