import Derived.Test.YtoccmfelheinhaaR3I
set_option linter.unusedVariables false
set_option linter.unusedSimpArgs false
set_option maxRecDepth 100000
/- direct: pulls are small -/
namespace Go.Vs.RF
open Go Go.Proofs Go.Vs Go.IntWalk

theorem mulI_pos {x y : Int} (hx : 0 ≤ x) (hy : 0 ≤ y) : mulI x y = (x * y + 9223372036854775808) / 18446744073709551616 := by
  unfold mulI absI
  rw [if_neg (show ¬ x < 0 by omega), if_neg (show ¬ y < 0 by omega), decide_eq_false (show ¬ x < 0 by omega), decide_eq_false (show ¬ y < 0 by omega)]
  rfl
theorem mulI_up {x y A B : Int} (hx : 0 ≤ x) (hy : 0 ≤ y) (ha : x ≤ A) (hb : y ≤ B) : 0 ≤ mulI x y ∧ mulI x y ≤ (A * B + 9223372036854775808) / 18446744073709551616 := by
  rw [mulI_pos hx hy]
  have h0 : 0 ≤ x * y := Int.mul_nonneg hx hy
  have h1 : x * y ≤ A * B := Int.mul_le_mul ha hb hy (by omega)
  exact ⟨Int.ediv_nonneg (by omega) (by decide), Int.ediv_le_ediv (by decide) (by omega)⟩
theorem mulI_two {x y A B : Int} (hx : -A ≤ x ∧ x ≤ A) (hy : 0 ≤ y) (hb : y ≤ B) : -((A * B + 9223372036854775808) / 18446744073709551616) ≤ mulI x y ∧ mulI x y ≤ (A * B + 9223372036854775808) / 18446744073709551616 := by
  by_cases h : 0 ≤ x
  · have := mulI_up h hy hx.2 hb; omega
  · have := mulI_up (x := -x) (A := A) (by omega) hy (by omega) hb
    rw [mulI_negl] at this; omega
theorem mulI_sq {x A : Int} (hx : -A ≤ x ∧ x ≤ A) : 0 ≤ mulI x x ∧ mulI x x ≤ (A * A + 9223372036854775808) / 18446744073709551616 := by
  by_cases h : 0 ≤ x
  · exact mulI_up h h hx.2 hx.2
  · rw [← mulI_neg2]; exact mulI_up (by omega) (by omega) (by omega) (by omega)
/-- the pull of worlds by numbers: no error, and small -/
theorem pl_small {g a b x y h : Int} (hg : 0 ≤ g ∧ g ≤ 55340232221128654848) (ha : 0 ≤ a ∧ a ≤ 166020696663385964544) (hb : 0 ≤ b ∧ b ≤ 166020696663385964544) (hx : -4722366482869645213696 ≤ x ∧ x ≤ 4722366482869645213696) (hy : -4722366482869645213696 ≤ y ∧ y ≤ 4722366482869645213696) (hh : 0 ≤ h ∧ h ≤ 18446744073709551616) :
    plE g a b x y 4611686018427387904 h = 0 ∧ (-80000000000000000000000000 ≤ plX g a b x y 4611686018427387904 h ∧ plX g a b x y 4611686018427387904 h ≤ 80000000000000000000000000) ∧ -80000000000000000000000000 ≤ plY g a b x y 4611686018427387904 h ∧ plY g a b x y 4611686018427387904 h ≤ 80000000000000000000000000 := by
  have x2 := mulI_sq hx
  have y2 := mulI_sq hy
  rw [show (4722366482869645213696 * 4722366482869645213696 + 9223372036854775808 : Int) / 18446744073709551616 = 1208925819614629174706176 by decide] at x2 y2
  have s2 : mulI 4611686018427387904 4611686018427387904 = 1152921504606846976 := by decide
  obtain ⟨R, hR⟩ : ∃ R, mulI x x + mulI y y + mulI 4611686018427387904 4611686018427387904 = R := ⟨_, rfl⟩
  have hR' := hR
  rw [s2] at hR'
  have r1 : 1152921504606846976 ≤ R ∧ R ≤ 2417852792150762956259328 := by omega
  have m1 := mulI_up ha.1 hb.1 ha.2 hb.2
  rw [show (166020696663385964544 * 166020696663385964544 + 9223372036854775808 : Int) / 18446744073709551616 = 1494186269970473680896 by decide] at m1
  have m2 := mulI_up hg.1 m1.1 hg.2 m1.2
  rw [show (55340232221128654848 * 1494186269970473680896 + 9223372036854775808 : Int) / 18446744073709551616 = 4482558809911421042688 by decide] at m2
  have m3 := mulI_up m2.1 hh.1 m2.2 hh.2
  rw [show (4482558809911421042688 * 18446744073709551616 + 9223372036854775808 : Int) / 18446744073709551616 = 4482558809911421042688 by decide] at m3
  have d1 : 0 ≤ quoI (mulI (mulI g (mulI a b)) h) R ∧ quoI (mulI (mulI g (mulI a b)) h) R ≤ quoI 4482558809911421042688 1152921504606846976 := ⟨quoI_nonneg m3.1 (by omega), quoI_mono m3.1 m3.2 (by decide) r1.1⟩
  rw [show quoI 4482558809911421042688 1152921504606846976 = 71720940958582736683008 by decide] at d1
  have hs := (isSqrt_of (A := R * 18446744073709551616) ⟨by omega, by omega⟩).1
  obtain ⟨F, hF⟩ : ∃ F, sqrtI (R * 18446744073709551616) = F := ⟨_, rfl⟩
  rw [hF] at hs
  have f1 : 4611686018427387904 ≤ F := by
    by_cases hc : 4611686018427387904 ≤ F
    · exact hc
    · exfalso
      have h1 : (F + 1) * (F + 1) ≤ 4611686018427387904 * 4611686018427387904 := Int.mul_le_mul (by omega) (by omega) (by have := hs.1; omega) (by decide)
      have h2 := hs.2.2
      omega
  have d2 : 0 ≤ quoI (quoI (mulI (mulI g (mulI a b)) h) R) F ∧ quoI (quoI (mulI (mulI g (mulI a b)) h) R) F ≤ quoI 71720940958582736683008 4611686018427387904 := ⟨quoI_nonneg d1.1 (by omega), quoI_mono d1.1 d1.2 (by decide) f1⟩
  rw [show quoI 71720940958582736683008 4611686018427387904 = 286883763834330946732032 by decide] at d2
  have X := mulI_two hx d2.1 d2.2
  have Y := mulI_two hy d2.1 d2.2
  rw [show (4722366482869645213696 * 286883763834330946732032 + 9223372036854775808 : Int) / 18446744073709551616 = 73442243541588722363400192 by decide] at X Y
  have M : ∀ {n : Int}, -80000000000000000000000000 ≤ n → n ≤ 80000000000000000000000000 → mayF n := fun h1 h2 => ⟨by omega, by omega⟩
  obtain ⟨p1, p2, p3⟩ := pl_ok (g := g) (a := a) (b := b) (x := x) (y := y) (s := 4611686018427387904) (h := h) (d := quoI (quoI (mulI (mulI g (mulI a b)) h) R) F) (X := mulI x (quoI (quoI (mulI (mulI g (mulI a b)) h) R) F)) (Y := mulI y (quoI (quoI (mulI (mulI g (mulI a b)) h) R) F)) (k_ok (R := R) (F := F) (m1 := mulI a b) (m2 := mulI g (mulI a b)) (m3 := mulI (mulI g (mulI a b)) h) (d1 := quoI (mulI (mulI g (mulI a b)) h) R) (d2 := quoI (quoI (mulI (mulI g (mulI a b)) h) R) F) (M (by omega) (by omega)) (M (by omega) (by omega)) (M (by omega) (by omega)) (by rw [s2]; exact M (by decide) (by decide)) hR (M (by omega) (by omega)) (by omega) hF (by omega) rfl (M (by omega) (by omega)) rfl (M (by omega) (by omega)) rfl (M (by omega) (by omega)) rfl (M (by omega) (by omega)) rfl (M (by omega) (by omega))) rfl rfl (M (by omega) (by omega)) (M (by omega) (by omega))
  rw [p1, p2, p3]
  exact ⟨rfl, ⟨by omega, by omega⟩, by omega, by omega⟩
end Go.Vs.RF

set_option linter.unusedVariables false
set_option linter.unusedSimpArgs false
set_option maxRecDepth 100000
/- the laws of direct: two -/
namespace Go.Vs.RF
open Go Go.Proofs Go.Vs Go.IntWalk

theorem two_bodies {ns : List (List Int)} (hb : okRows [.u8] ns) (h8 : 8 ≤ ns.length) : ∃ r s, wbs (List.drop 0 (List.take 8 ns)) 2 = [r, s] ∧ madeB r ∧ madeB s := by
  have hl : (List.drop 0 (List.take 8 ns)).length = 8 := by simp; omega
  have ho : okRows [.u8] (List.drop 0 (List.take 8 ns)) := fun r hr => hb r (List.mem_of_mem_take (List.mem_of_mem_drop hr))
  have hm : howMany (List.drop 0 (List.take 8 ns)) 2 = 2 := by unfold howMany; rw [hl]; rfl
  have hw : wbs (List.drop 0 (List.take 8 ns)) 2 = [bodyAt (List.drop 0 (List.take 8 ns)) 0, bodyAt (List.drop 0 (List.take 8 ns)) 1] := by unfold wbs; rw [hm]; rfl
  have hall := bodies_madeB ho 2
  exact ⟨_, _, hw, hall _ (by show _ ∈ [bodyAt (List.drop 0 (List.take 8 ns)) 0, bodyAt (List.drop 0 (List.take 8 ns)) 1]; simp), hall _ (by show _ ∈ [bodyAt (List.drop 0 (List.take 8 ns)) 0, bodyAt (List.drop 0 (List.take 8 ns)) 1]; simp)⟩
theorem wz3 (how : Int) : fr (wz how) 3 = (1 + how % 3) * 18446744073709551616 := by show (1 + how % 3) * 18446744073709551616 + 0 = _; omega
theorem wz5 (how : Int) : fr (wz how) 5 = 4611686018427387904 := by show (0 : Int) * 18446744073709551616 + 4611686018427387904 = _; omega
/-- one pull in a world by numbers -/
theorem gv_made {how h : Int} {r s : List Int} (hr : madeB r) (hs : madeB s) (hh : 0 ≤ h ∧ h ≤ 18446744073709551616) (hw : u8ok how) :
    (gvE (wz how) h r (fr s 0) (fr s 4) (fr s 6) = 0 ∧ gvX (wz how) h r (fr s 0) (fr s 4) (fr s 6) = plX (fr (wz how) 3) (fr r 0) (fr s 0) (fr s 4 - fr r 4) (fr s 6 - fr r 6) (fr (wz how) 5) h ∧ gvY (wz how) h r (fr s 0) (fr s 4) (fr s 6) = plY (fr (wz how) 3) (fr r 0) (fr s 0) (fr s 4 - fr r 4) (fr s 6 - fr r 6) (fr (wz how) 5) h) ∧
    plE (fr (wz how) 3) (fr r 0) (fr s 0) (fr s 4 - fr r 4) (fr s 6 - fr r 6) (fr (wz how) 5) h = 0 ∧ (-80000000000000000000000000 ≤ plX (fr (wz how) 3) (fr r 0) (fr s 0) (fr s 4 - fr r 4) (fr s 6 - fr r 6) (fr (wz how) 5) h ∧ plX (fr (wz how) 3) (fr r 0) (fr s 0) (fr s 4 - fr r 4) (fr s 6 - fr r 6) (fr (wz how) 5) h ≤ 80000000000000000000000000) ∧
    -80000000000000000000000000 ≤ plY (fr (wz how) 3) (fr r 0) (fr s 0) (fr s 4 - fr r 4) (fr s 6 - fr r 6) (fr (wz how) 5) h ∧ plY (fr (wz how) 3) (fr r 0) (fr s 0) (fr s 4 - fr r 4) (fr s 6 - fr r 6) (fr (wz how) 5) h ≤ 80000000000000000000000000 := by
  obtain ⟨a0, a4, a6, a8, a10⟩ := madeB_nums hr
  obtain ⟨b0, b4, b6, b8, b10⟩ := madeB_nums hs
  unfold u8ok at hw
  have ps := pl_small (g := fr (wz how) 3) (a := fr r 0) (b := fr s 0) (x := fr s 4 - fr r 4) (y := fr s 6 - fr r 6) (h := h) (by rw [wz3]; omega) (by omega) (by omega) (by omega) (by omega) hh
  rw [← wz5 how] at ps
  have he : ¬ e2 (fr s 4 - fr r 4) (fr s 6 - fr r 6) ≠ 0 := fun hc => hc (e2_ok ⟨by omega, by omega⟩ ⟨by omega, by omega⟩)
  refine ⟨⟨?_, ?_, ?_⟩, ps⟩
  · unfold gvE; rw [if_neg he]; exact ps.1
  · unfold gvX; rw [if_neg he]
  · unfold gvY; rw [if_neg he]
def pDTwo (l : List IV) (bs : List Blk) : Prop := ∃ ns how h, l = [.sl 0, .int .u8 how, .int .u64 h] ∧ bs = [.ro [.u8] ns] ∧ u8ok how ∧ u64ok h
noncomputable def spDTwo : Vs.Spec := ⟨pDTwo, fun _ _ => (.bool true, [])⟩
set_option maxHeartbeats 2000000 in
theorem c_DirectTwo : Contract Try.prog f_perigeelaw11_DirectTwo spDTwo := by
  refine contract_of (N := Nf6) 3 knowf6 ?_
  rintro l bs _ hB ⟨ns, how, h, rfl, rfl, hh, hu⟩
  have hb : okRows [.u8] ns ∧ 0 < [IntKind.u8].length ∧ ns.length ≤ maxLen := hB (.ro [.u8] ns) (List.mem_singleton.2 rfl)
  show comes _ _ _ _ _ _ _
  rw [v_DirectTwo]
  by_cases h8 : 8 ≤ ns.length
  case neg =>
    intros
    exact br_is (decide_eq_true (by omega)) ⟨pAwk_ok, rfl⟩
  have hw : ∀ v, worN [IV.agg (worldC (wz how) 0 1 2 3 4), v] 0 = wz how := fun v => worN_of _ (wz how) 0 1 2 3 4 rfl rfl
  obtain ⟨r, s, hxs, hr, hs⟩ := two_bodies hb.1 h8
  have hok : okRows ksB [r, s] := by
    intro q hq
    rcases List.mem_cons.1 hq with rfl | hq
    · exact (madeB_good hr).2.1
    · rw [List.mem_singleton.1 hq]; exact (madeB_good hs).2.1
  have hg : goodBs [r, s] := by
    intro q hq
    rcases List.mem_cons.1 hq with rfl | hq
    · exact madeB_good hr
    · rw [List.mem_singleton.1 hq]; exact madeB_good hs
  rw [hw, hour_fx hu, hxs]
  have hu' : 0 ≤ h ∧ h < 18446744073709551616 := hu
  obtain ⟨⟨g1, g2, g3⟩, g4, g5, g6⟩ := gv_made hr hs (h := h) ⟨hu'.1, by omega⟩ hh
  obtain ⟨a0, a4, a6, a8, a10⟩ := madeB_nums hr
  obtain ⟨b0, b4, b6, b8, b10⟩ := madeB_nums hs
  obtain ⟨d1, d2⟩ := dir_two (wz how) h r s
  obtain ⟨gX, hX⟩ : ∃ v, plX (fr (wz how) 3) (fr r 0) (fr s 0) (fr s 4 - fr r 4) (fr s 6 - fr r 6) (fr (wz how) 5) h = v := ⟨_, rfl⟩
  obtain ⟨gY, hY⟩ : ∃ v, plY (fr (wz how) 3) (fr r 0) (fr s 0) (fr s 4 - fr r 4) (fr s 6 - fr r 6) (fr (wz how) 5) h = v := ⟨_, rfl⟩
  rw [hX] at g2 g5
  rw [hY] at g3 g6
  have e0 : prE (wz how) h r s (fr r 8) (fr r 10) (fr s 8) (fr s 10) = 0 := by
    unfold prE
    rw [g1, g2, g3, if_neg (fun hc => hc rfl), e2_ok (s := fr r 8 + gX) (t := fr r 10 + gY) ⟨by omega, by omega⟩ ⟨by omega, by omega⟩, if_neg (fun hc => hc rfl), e2_ok ⟨by omega, by omega⟩ ⟨by omega, by omega⟩]
  have hl := d2 e0
  have e00 : e2 (fr r 8 + gX) (fr r 10 + gY) = 0 := e2_ok ⟨by omega, by omega⟩ ⟨by omega, by omega⟩
  unfold prXp prYp prXq prYq prP prQ at hl
  rw [g1, g2, g3, e00] at hl
  simp only [ne_eq, not_true_eq_false, if_false] at hl
  rintro t1 e1 j2 rfl t3 e3 j4 rfl t5 e5 j6 rfl t7 e7 j8 rfl t9 rfl t10 rfl t11 rfl t12 rfl t13 e13 t14 e14 t15 rfl t16 rfl t17 rfl t18 rfl t19 rfl t20 rfl t21 rfl t22 rfl t23 rfl t24 rfl t25 rfl t26 rfl t27 e27 t28 e28 t29 e29 t30 e30 t31 e31 t32 e32 t33 e33 t34 e34 t35 e35 t36 e36 t37 e37 t38 e38 t39 e39 t40 e40 t41 e41 t42 e42 t43 e43 t44 e44 t45 e45 t46 e46 t47 e47 t48 e48 t49 e49 t50 e50 t51 e51 t52 e52 t53 e53 t54 e54 t55 e55
  rw [Int.zero_mul, Int.zero_add] at e13
  rw [Int.zero_add] at e5 e7 e43 e44 e46 e47 e48 e49 e50 e51 e52 e53
  have mx : mayF (fr s 4 - fr r 4) := ⟨by omega, by omega⟩
  have my : mayF (fr s 6 - fr r 6) := ⟨by omega, by omega⟩
  have q2 : j2 = fr s 4 - fr r 4 := e1.trans (n2_ok _ mx my)
  have q4 : j4 = fr s 6 - fr r 6 := e3.trans (n2_ok _ mx my)
  rw [q2, q4] at e5 e7
  have q6 : j6 = gX := e5.trans hX
  have q8 : j8 = gY := e7.trans hY
  have q27 : t27 = fr (wz how) 3 := e27
  have q28 : t28 = fr (wz how) 5 := e28
  have q31 : t31 = fr r 0 := e31
  have q32 : t32 = fr s 0 := e32
  have q41 : t41 = gX := by rw [e41, q27, q28, q31, q32, e13, q2, q4]; exact hX
  have q42 : t42 = gY := by rw [e42, q27, q28, q31, q32, e13, q2, q4]; exact hY
  have q33 : t33 = fr r 8 + gX := by rw [e33, q6]; rfl
  have q34 : t34 = fr r 10 + gY := by rw [e34, q8]; rfl
  have q35 : t35 = fr s 8 - gX := by rw [e35, q6]; rfl
  have q36 : t36 = fr s 10 - gY := by rw [e36, q8]; rfl
  rw [← q33, ← q34, ← q35, ← q36, ← e37, ← e38, ← e39, ← e40] at hl
  rw [hl] at e44 e46 e47 e48 e49 e50 e51 e52 e53
  have q43 : t43 = 0 := e43.trans (d1.trans e0)
  have q44 : t44 = 2 := e44
  have q14 : t14 = 2 := e14
  have p29 : t29 := by rw [e29, q14]; decide
  have p30 : t30 := by rw [e30, q14]; decide
  have p54 : t54 := by rw [e54, q44]; decide
  have p55 : t55 := by rw [e55, q44]; decide
  have p45 : t45 := by rw [e45, q43]; exact preI_of ⟨by decide, by decide⟩
  have q46 : t46 = t37 / 18446744073709551616 := e46
  have q47 : t47 = t37 % 18446744073709551616 := e47
  have q48 : t48 = t38 / 18446744073709551616 := e48
  have q49 : t49 = t38 % 18446744073709551616 := e49
  have q50 : t50 = t39 / 18446744073709551616 := e50
  have q51 : t51 = t39 % 18446744073709551616 := e51
  have q52 : t52 = t40 / 18446744073709551616 := e52
  have q53 : t53 = t40 % 18446744073709551616 := e53
  have V : ∀ (i j : Nat) (hj : j + 3 < 20) (h1 : ksB.getD (j + 1) .i64 = .u64) (h3 : ksB.getD (j + 3) .i64 = .u64), IV.agg [.int .i64 (rd [r, s] i j), .int .u64 (rd [r, s] i (j + 1)), .int .i64 (rd [r, s] i (j + 2)), .int .u64 (rd [r, s] i (j + 3))] = vx (rd [r, s] i j * 18446744073709551616 + rd [r, s] i (j + 1)) (rd [r, s] i (j + 2) * 18446744073709551616 + rd [r, s] i (j + 3)) := by
    intro i j hj h1 h3
    have := vx_cells (a := rd [r, s] i j) (b := rd [r, s] i (j + 1)) (c := rd [r, s] i (j + 2)) (d := rd [r, s] i (j + 3)) (lo_in hok _ _ (by omega) h1) (lo_in hok _ _ (by omega) h3)
    exact (List.cons.inj this).1
  have v14 := V 1 4 (by decide) rfl rfl
  have v04 := V 0 4 (by decide) rfl rfl
  have v08 := V 0 8 (by decide) rfl rfl
  have v18 := V 1 8 (by decide) rfl rfl
  have mR4 : mayF (fr r 4) := ⟨by omega, by omega⟩
  have mR6 : mayF (fr r 6) := ⟨by omega, by omega⟩
  have mS4 : mayF (fr s 4) := ⟨by omega, by omega⟩
  have mS6 : mayF (fr s 6) := ⟨by omega, by omega⟩
  have mR8 : mayF (fr r 8) := ⟨by omega, by omega⟩
  have mR10 : mayF (fr r 10) := ⟨by omega, by omega⟩
  have mS8 : mayF (fr s 8) := ⟨by omega, by omega⟩
  have mS10 : mayF (fr s 10) := ⟨by omega, by omega⟩
  have mX : mayF t41 := by rw [q41]; exact ⟨by omega, by omega⟩
  have mY : mayF t42 := by rw [q42]; exact ⟨by omega, by omega⟩
  have c1 : vmay2 [IV.agg [.int .i64 (rd [r, s] 1 4), .int .u64 (rd [r, s] 1 5), .int .i64 (rd [r, s] 1 6), .int .u64 (rd [r, s] 1 7)], IV.agg [.int .i64 (rd [r, s] 0 4), .int .u64 (rd [r, s] 0 5), .int .i64 (rd [r, s] 0 6), .int .u64 (rd [r, s] 0 7)]] [] := by
    rw [v14, v04]; exact vmay2_of mS4 mS6 mR4 mR6
  have c2 : vmay2 [IV.agg [.int .i64 (rd [r, s] 0 8), .int .u64 (rd [r, s] 0 9), .int .i64 (rd [r, s] 0 10), .int .u64 (rd [r, s] 0 11)], vx t41 t42] [] := by
    rw [v08]; exact vmay2_of mR8 mR10 mX mY
  have c3 : vmay2 [IV.agg [.int .i64 (rd [r, s] 1 8), .int .u64 (rd [r, s] 1 9), .int .i64 (rd [r, s] 1 10), .int .u64 (rd [r, s] 1 11)], vx t41 t42] [] := by
    rw [v18]; exact vmay2_of mS8 mS10 mX mY
  have hz := wz_may hh
  have c4 : mayPl [IV.agg [.int .i64 ((wz how).getD 3 0), .int .u64 ((wz how).getD 4 0)], IV.agg [.int .i64 (rd [r, s] 0 0), .int .u64 (rd [r, s] 0 1)], IV.agg [.int .i64 (rd [r, s] 1 0), .int .u64 (rd [r, s] 1 1)], vx j2 j4, IV.agg [.int .i64 ((wz how).getD 5 0), .int .u64 ((wz how).getD 6 0)], fx h] [] := by
    rw [fx_z hz.1 3 (by decide) rfl, fx_z hz.1 5 (by decide) rfl, show IV.agg [.int .i64 (rd [r, s] 0 0), .int .u64 (rd [r, s] 0 1)] = fx (fr r 0) from (fx_mk2 (lo_in hok _ 1 (by decide) rfl) rfl).symm, show IV.agg [.int .i64 (rd [r, s] 1 0), .int .u64 (rd [r, s] 1 1)] = fx (fr s 0) from (fx_mk2 (lo_in hok _ 1 (by decide) rfl) rfl).symm, q2, q4]
    exact mayPl_of hz.2.1 ⟨by omega, by omega⟩ ⟨by omega, by omega⟩ mx my hz.2.2 (hour_may hu)
  have p0 : plE t27 t31 t32 j2 j4 t28 t13 = 0 := by rw [q27, q28, q31, q32, e13, q2, q4]; exact g4
  refine br_no (decide_eq_false (by omega)) ⟨⟨by decide, by decide, by omega⟩, ⟨_, 2, how, rfl, rfl, ⟨by decide, by decide⟩, hh⟩, ⟨wz how, [r, s], [], [], neg1 2, [], h, rfl, rfl, hz, hg, hour_may hu, by simp⟩, p29, p29, p30, p30, c1, p30, p30, p29, p29, c4, br_no (by rw [p0]; rfl) ⟨p45, br_is (by rw [q43]; rfl) (br_is (by rw [q44]; rfl) ⟨p54, p54, p30, p30, c2, br_is ?_ ⟨p55, p55, p29, p29, c3, br_is ?_ ⟨pAwk_ok, rfl⟩⟩⟩)⟩⟩
  · rw [q46, q47, q48, q49]; simp
  · rw [q50, q51, q52, q53]; simp
theorem lawDT_of (ns : List (List Int)) {how h : Int} (k1 : inK .u8 how) (k2 : inK .u64 h) : pDTwo [.sl 0, .int .u8 how, .int .u64 h] [.ro [.u8] ns] := by
  have h1 : 0 ≤ how ∧ how ≤ 255 := k1
  have h2 : 0 ≤ h ∧ h ≤ 18446744073709551615 := k2
  exact ⟨ns, how, h, rfl, rfl, ⟨h1.1, by omega⟩, ⟨h2.1, by omega⟩⟩
end Go.Vs.RF
