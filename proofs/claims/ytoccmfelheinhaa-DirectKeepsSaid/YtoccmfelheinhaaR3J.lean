import Derived.Test.YtoccmfelheinhaaR3I
set_option linter.unusedVariables false
set_option linter.unusedSimpArgs false
set_option maxRecDepth 100000
/- direct: pulls are small -/
namespace Go.Vs.RF
open Go Go.Proofs Go.Vs Go.IntWalk

theorem mulI_pos {x y : Int} (hx : 0 ≤ x) (hy : 0 ≤ y) : mulI x y = (x * y + 9223372036854775808) / 18446744073709551616 := by
  unfold mulI absI
  rw [if_neg (show ¬ x < 0 by omega), if_neg (show ¬ y < 0 by omega), decide_eq_false (show ¬ x < 0 by omega), decide_eq_false (show ¬ y < 0 by omega)]
  rfl
theorem mulI_up {x y A B : Int} (hx : 0 ≤ x) (hy : 0 ≤ y) (ha : x ≤ A) (hb : y ≤ B) : 0 ≤ mulI x y ∧ mulI x y ≤ (A * B + 9223372036854775808) / 18446744073709551616 := by
  rw [mulI_pos hx hy]
  have h0 : 0 ≤ x * y := Int.mul_nonneg hx hy
  have h1 : x * y ≤ A * B := Int.mul_le_mul ha hb hy (by omega)
  exact ⟨Int.ediv_nonneg (by omega) (by decide), Int.ediv_le_ediv (by decide) (by omega)⟩
theorem mulI_two {x y A B : Int} (hx : -A ≤ x ∧ x ≤ A) (hy : 0 ≤ y) (hb : y ≤ B) : -((A * B + 9223372036854775808) / 18446744073709551616) ≤ mulI x y ∧ mulI x y ≤ (A * B + 9223372036854775808) / 18446744073709551616 := by
  by_cases h : 0 ≤ x
  · have := mulI_up h hy hx.2 hb; omega
  · have := mulI_up (x := -x) (A := A) (by omega) hy (by omega) hb
    rw [mulI_negl] at this; omega
theorem mulI_sq {x A : Int} (hx : -A ≤ x ∧ x ≤ A) : 0 ≤ mulI x x ∧ mulI x x ≤ (A * A + 9223372036854775808) / 18446744073709551616 := by
  by_cases h : 0 ≤ x
  · exact mulI_up h h hx.2 hx.2
  · rw [← mulI_neg2]; exact mulI_up (by omega) (by omega) (by omega) (by omega)
/-- the pull of worlds by numbers: no error, and small -/
theorem pl_small {g a b x y h : Int} (hg : 0 ≤ g ∧ g ≤ 55340232221128654848) (ha : 0 ≤ a ∧ a ≤ 166020696663385964544) (hb : 0 ≤ b ∧ b ≤ 166020696663385964544) (hx : -4722366482869645213696 ≤ x ∧ x ≤ 4722366482869645213696) (hy : -4722366482869645213696 ≤ y ∧ y ≤ 4722366482869645213696) (hh : 0 ≤ h ∧ h ≤ 18446744073709551616) :
    plE g a b x y 4611686018427387904 h = 0 ∧ (-80000000000000000000000000 ≤ plX g a b x y 4611686018427387904 h ∧ plX g a b x y 4611686018427387904 h ≤ 80000000000000000000000000) ∧ -80000000000000000000000000 ≤ plY g a b x y 4611686018427387904 h ∧ plY g a b x y 4611686018427387904 h ≤ 80000000000000000000000000 := by
  have x2 := mulI_sq hx
  have y2 := mulI_sq hy
  rw [show (4722366482869645213696 * 4722366482869645213696 + 9223372036854775808 : Int) / 18446744073709551616 = 1208925819614629174706176 by decide] at x2 y2
  have s2 : mulI 4611686018427387904 4611686018427387904 = 1152921504606846976 := by decide
  obtain ⟨R, hR⟩ : ∃ R, mulI x x + mulI y y + mulI 4611686018427387904 4611686018427387904 = R := ⟨_, rfl⟩
  have hR' := hR
  rw [s2] at hR'
  have r1 : 1152921504606846976 ≤ R ∧ R ≤ 2417852792150762956259328 := by omega
  have m1 := mulI_up ha.1 hb.1 ha.2 hb.2
  rw [show (166020696663385964544 * 166020696663385964544 + 9223372036854775808 : Int) / 18446744073709551616 = 1494186269970473680896 by decide] at m1
  have m2 := mulI_up hg.1 m1.1 hg.2 m1.2
  rw [show (55340232221128654848 * 1494186269970473680896 + 9223372036854775808 : Int) / 18446744073709551616 = 4482558809911421042688 by decide] at m2
  have m3 := mulI_up m2.1 hh.1 m2.2 hh.2
  rw [show (4482558809911421042688 * 18446744073709551616 + 9223372036854775808 : Int) / 18446744073709551616 = 4482558809911421042688 by decide] at m3
  have d1 : 0 ≤ quoI (mulI (mulI g (mulI a b)) h) R ∧ quoI (mulI (mulI g (mulI a b)) h) R ≤ quoI 4482558809911421042688 1152921504606846976 := ⟨quoI_nonneg m3.1 (by omega), quoI_mono m3.1 m3.2 (by decide) r1.1⟩
  rw [show quoI 4482558809911421042688 1152921504606846976 = 71720940958582736683008 by decide] at d1
  have hs := (isSqrt_of (A := R * 18446744073709551616) ⟨by omega, by omega⟩).1
  obtain ⟨F, hF⟩ : ∃ F, sqrtI (R * 18446744073709551616) = F := ⟨_, rfl⟩
  rw [hF] at hs
  have f1 : 4611686018427387904 ≤ F := by
    by_cases hc : 4611686018427387904 ≤ F
    · exact hc
    · exfalso
      have h1 : (F + 1) * (F + 1) ≤ 4611686018427387904 * 4611686018427387904 := Int.mul_le_mul (by omega) (by omega) (by have := hs.1; omega) (by decide)
      have h2 := hs.2.2
      omega
  have d2 : 0 ≤ quoI (quoI (mulI (mulI g (mulI a b)) h) R) F ∧ quoI (quoI (mulI (mulI g (mulI a b)) h) R) F ≤ quoI 71720940958582736683008 4611686018427387904 := ⟨quoI_nonneg d1.1 (by omega), quoI_mono d1.1 d1.2 (by decide) f1⟩
  rw [show quoI 71720940958582736683008 4611686018427387904 = 286883763834330946732032 by decide] at d2
  have X := mulI_two hx d2.1 d2.2
  have Y := mulI_two hy d2.1 d2.2
  rw [show (4722366482869645213696 * 286883763834330946732032 + 9223372036854775808 : Int) / 18446744073709551616 = 73442243541588722363400192 by decide] at X Y
  have M : ∀ {n : Int}, -80000000000000000000000000 ≤ n → n ≤ 80000000000000000000000000 → mayF n := fun h1 h2 => ⟨by omega, by omega⟩
  obtain ⟨p1, p2, p3⟩ := pl_ok (g := g) (a := a) (b := b) (x := x) (y := y) (s := 4611686018427387904) (h := h) (d := quoI (quoI (mulI (mulI g (mulI a b)) h) R) F) (X := mulI x (quoI (quoI (mulI (mulI g (mulI a b)) h) R) F)) (Y := mulI y (quoI (quoI (mulI (mulI g (mulI a b)) h) R) F)) (k_ok (R := R) (F := F) (m1 := mulI a b) (m2 := mulI g (mulI a b)) (m3 := mulI (mulI g (mulI a b)) h) (d1 := quoI (mulI (mulI g (mulI a b)) h) R) (d2 := quoI (quoI (mulI (mulI g (mulI a b)) h) R) F) (M (by omega) (by omega)) (M (by omega) (by omega)) (M (by omega) (by omega)) (by rw [s2]; exact M (by decide) (by decide)) hR (M (by omega) (by omega)) (by omega) hF (by omega) rfl (M (by omega) (by omega)) rfl (M (by omega) (by omega)) rfl (M (by omega) (by omega)) rfl (M (by omega) (by omega)) rfl (M (by omega) (by omega))) rfl rfl (M (by omega) (by omega)) (M (by omega) (by omega))
  rw [p1, p2, p3]
  exact ⟨rfl, ⟨by omega, by omega⟩, by omega, by omega⟩
end Go.Vs.RF

set_option linter.unusedVariables false
set_option linter.unusedSimpArgs false
set_option maxRecDepth 100000
/- the laws of direct: two -/
namespace Go.Vs.RF
open Go Go.Proofs Go.Vs Go.IntWalk

theorem two_bodies {ns : List (List Int)} (hb : okRows [.u8] ns) (h8 : 8 ≤ ns.length) : ∃ r s, wbs (List.drop 0 (List.take 8 ns)) 2 = [r, s] ∧ madeB r ∧ madeB s := by
  have hl : (List.drop 0 (List.take 8 ns)).length = 8 := by simp; omega
  have ho : okRows [.u8] (List.drop 0 (List.take 8 ns)) := fun r hr => hb r (List.mem_of_mem_take (List.mem_of_mem_drop hr))
  have hm : howMany (List.drop 0 (List.take 8 ns)) 2 = 2 := by unfold howMany; rw [hl]; rfl
  have hw : wbs (List.drop 0 (List.take 8 ns)) 2 = [bodyAt (List.drop 0 (List.take 8 ns)) 0, bodyAt (List.drop 0 (List.take 8 ns)) 1] := by unfold wbs; rw [hm]; rfl
  have hall := bodies_madeB ho 2
  exact ⟨_, _, hw, hall _ (by show _ ∈ [bodyAt (List.drop 0 (List.take 8 ns)) 0, bodyAt (List.drop 0 (List.take 8 ns)) 1]; simp), hall _ (by show _ ∈ [bodyAt (List.drop 0 (List.take 8 ns)) 0, bodyAt (List.drop 0 (List.take 8 ns)) 1]; simp)⟩
theorem wz3 (how : Int) : fr (wz how) 3 = (1 + how % 3) * 18446744073709551616 := by show (1 + how % 3) * 18446744073709551616 + 0 = _; omega
theorem wz5 (how : Int) : fr (wz how) 5 = 4611686018427387904 := by show (0 : Int) * 18446744073709551616 + 4611686018427387904 = _; omega
/-- one pull in a world by numbers -/
theorem gv_made {how h : Int} {r s : List Int} (hr : madeB r) (hs : madeB s) (hh : 0 ≤ h ∧ h ≤ 18446744073709551616) (hw : u8ok how) :
    (gvE (wz how) h r (fr s 0) (fr s 4) (fr s 6) = 0 ∧ gvX (wz how) h r (fr s 0) (fr s 4) (fr s 6) = plX (fr (wz how) 3) (fr r 0) (fr s 0) (fr s 4 - fr r 4) (fr s 6 - fr r 6) (fr (wz how) 5) h ∧ gvY (wz how) h r (fr s 0) (fr s 4) (fr s 6) = plY (fr (wz how) 3) (fr r 0) (fr s 0) (fr s 4 - fr r 4) (fr s 6 - fr r 6) (fr (wz how) 5) h) ∧
    plE (fr (wz how) 3) (fr r 0) (fr s 0) (fr s 4 - fr r 4) (fr s 6 - fr r 6) (fr (wz how) 5) h = 0 ∧ (-80000000000000000000000000 ≤ plX (fr (wz how) 3) (fr r 0) (fr s 0) (fr s 4 - fr r 4) (fr s 6 - fr r 6) (fr (wz how) 5) h ∧ plX (fr (wz how) 3) (fr r 0) (fr s 0) (fr s 4 - fr r 4) (fr s 6 - fr r 6) (fr (wz how) 5) h ≤ 80000000000000000000000000) ∧
    -80000000000000000000000000 ≤ plY (fr (wz how) 3) (fr r 0) (fr s 0) (fr s 4 - fr r 4) (fr s 6 - fr r 6) (fr (wz how) 5) h ∧ plY (fr (wz how) 3) (fr r 0) (fr s 0) (fr s 4 - fr r 4) (fr s 6 - fr r 6) (fr (wz how) 5) h ≤ 80000000000000000000000000 := by
  obtain ⟨a0, a4, a6, a8, a10⟩ := madeB_nums hr
  obtain ⟨b0, b4, b6, b8, b10⟩ := madeB_nums hs
  unfold u8ok at hw
  have ps := pl_small (g := fr (wz how) 3) (a := fr r 0) (b := fr s 0) (x := fr s 4 - fr r 4) (y := fr s 6 - fr r 6) (h := h) (by rw [wz3]; omega) (by omega) (by omega) (by omega) (by omega) hh
  rw [← wz5 how] at ps
  have he : ¬ e2 (fr s 4 - fr r 4) (fr s 6 - fr r 6) ≠ 0 := fun hc => hc (e2_ok ⟨by omega, by omega⟩ ⟨by omega, by omega⟩)
  refine ⟨⟨?_, ?_, ?_⟩, ps⟩
  · unfold gvE; rw [if_neg he]; exact ps.1
  · unfold gvX; rw [if_neg he]
  · unfold gvY; rw [if_neg he]
end Go.Vs.RF
