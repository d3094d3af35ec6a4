import Derived.Test.YtoccmfelheinhaaR3D
set_option linter.unusedVariables false
/- PairNone -/
namespace Go.Vs.RF
open Go Go.Proofs Go.Vs
theorem v_PairNone (a b d w : Int) (K : IV → List Blk → Prop) : (comes Try.prog Nv1 3 f_perigeelaw10_PairNone [.int .u16 a, .int .u16 b, .int .u16 d, .int .u8 w] [] K) = (∀ (t1 : Int), t1 = mx IntKind.i64 (IntKind.i64.wrap b) (-9223372036854775807 : Int) * (18446744073709551616 : Int) → ∀ (j2 : Int), j2 = t1 → ∀ (t3 : Int), t3 = mx IntKind.i64 (IntKind.i64.wrap a) (-9223372036854775807 : Int) * (18446744073709551616 : Int) → ∀ (j4 : Int), j4 = t3 → ∀ (t5 : Int), t5 = mx IntKind.i64 (IntKind.i64.wrap ((1 : Int) + IntKind.i64.wrap d)) (-9223372036854775807 : Int) * (18446744073709551616 : Int) → ∀ (j6 : Int), j6 = t5 → ∀ (t7 : Prop), t7 = preI [IV.int IntKind.i64 (IntKind.i64.wrap a)] [] → ∀ (t8 : Prop), t8 = preI [IV.int IntKind.i64 (IntKind.i64.wrap b)] [] → ∀ (t9 : Int), t9 = plE (0 : Int) j4 j2 j6 (0 : Int) (18446744073709551616 : Int) (18446744073709551616 : Int) → ∀ (t10 : Int), t10 = plE (18446744073709551616 : Int) j4 j2 j6 (0 : Int) (18446744073709551616 : Int) (0 : Int) → ∀ (t11 : Prop), t11 = preI [IV.int IntKind.i64 (IntKind.i64.wrap ((1 : Int) + IntKind.i64.wrap d))] [] → ∀ (t12 : Int), t12 = plX (18446744073709551616 : Int) j4 j2 (0 : Int) (0 : Int) (18446744073709551616 : Int) (18446744073709551616 : Int) → ∀ (t13 : Int), t13 = plY (18446744073709551616 : Int) j4 j2 (0 : Int) (0 : Int) (18446744073709551616 : Int) (18446744073709551616 : Int) → ∀ (t14 : Int), t14 = plE (18446744073709551616 : Int) (0 : Int) j2 j6 (0 : Int) (18446744073709551616 : Int) (18446744073709551616 : Int) → ∀ (t15 : Int), t15 = plE (18446744073709551616 : Int) j4 j2 (0 : Int) (0 : Int) (18446744073709551616 : Int) (18446744073709551616 : Int) → ∀ (t16 : Int), t16 = plE (18446744073709551616 : Int) j4 (0 : Int) j6 (0 : Int) (18446744073709551616 : Int) (18446744073709551616 : Int) → ∀ (t17 : Int), t17 = (1 : Int) * (18446744073709551616 : Int) + (0 : Int) → ∀ (t18 : Int), t18 = (0 : Int) * (18446744073709551616 : Int) + (0 : Int) → ∀ (t19 : Prop), t19 = preI [IV.int IntKind.i64 t15] [] → ∀ (t20 : Int), t20 = plX t18 j4 j2 j6 t18 t17 t17 → ∀ (t21 : Int), t21 = plY t18 j4 j2 j6 t18 t17 t17 → ∀ (t22 : Int), t22 = plX t17 j4 j2 j6 t18 t17 t18 → ∀ (t23 : Int), t23 = plY t17 j4 j2 j6 t18 t17 t18 → ∀ (t24 : Int), t24 = plX t17 t18 j2 j6 t18 t17 t17 → ∀ (t25 : Int), t25 = plY t17 t18 j2 j6 t18 t17 t17 → ∀ (t26 : Int), t26 = plX t17 j4 t18 j6 t18 t17 t17 → ∀ (t27 : Int), t27 = plY t17 j4 t18 j6 t18 t17 t17 → ∀ (t28 : Prop), t28 = mayPl [IV.agg [IV.int IntKind.i64 (1 : Int), IV.int IntKind.u64 (0 : Int)], fx t3, fx t1, IV.agg [IV.int IntKind.i64 (0 : Int), IV.int IntKind.u64 (0 : Int), IV.int IntKind.i64 (0 : Int), IV.int IntKind.u64 (0 : Int)], IV.agg [IV.int IntKind.i64 (1 : Int), IV.int IntKind.u64 (0 : Int)], IV.agg [IV.int IntKind.i64 (1 : Int), IV.int IntKind.u64 (0 : Int)]] [] → ∀ (c29 : Bool), c29 = decide (t25 = (0 : Int)) → ∀ (e30 : Bool), e30 = (decide (t24 = (0 : Int)) && c29) → ∀ (c31 : Bool), c31 = decide (t13 = (0 : Int)) → ∀ (e32 : Bool), e32 = (decide (t12 = (0 : Int)) && c31) → ∀ (c33 : Bool), c33 = decide (t27 = (0 : Int)) → ∀ (e34 : Bool), e34 = (decide (t26 = (0 : Int)) && c33) → ∀ (c35 : Bool), c35 = decide (t21 = (0 : Int)) → ∀ (e36 : Bool), e36 = (decide (t20 = (0 : Int)) && c35) → ∀ (c37 : Bool), c37 = decide (t23 = (0 : Int)) → ∀ (e38 : Bool), e38 = (decide (t22 = (0 : Int)) && c37) → preI [IV.int IntKind.i64 (1 : Int)] [] ∧ t7 ∧ t8 ∧ (4 : Int) ≠ (0 : Int) ∧ br (w.tmod (4 : Int) == (0 : Int)) (t11 ∧ mayPl [IV.agg [IV.int IntKind.i64 (1 : Int), IV.int IntKind.u64 (0 : Int)], IV.agg [IV.int IntKind.i64 (0 : Int), IV.int IntKind.u64 (0 : Int)], fx t1, IV.agg [IV.int IntKind.i64 (t5 / (18446744073709551616 : Int)), IV.int IntKind.u64 (t5 % (18446744073709551616 : Int)), IV.int IntKind.i64 (0 : Int), IV.int IntKind.u64 (0 : Int)], IV.agg [IV.int IntKind.i64 (1 : Int), IV.int IntKind.u64 (0 : Int)], IV.agg [IV.int IntKind.i64 (1 : Int), IV.int IntKind.u64 (0 : Int)]] [] ∧ t7 ∧ t8 ∧ t28 ∧ br e30 (br e32 (preI [IV.int IntKind.i64 t14] [] ∧ t19 ∧ br (IntKind.i64.wrap (t14 + t15) == (0 : Int)) (pNone [] [] ∧ K (IV.bool true) []) (K (IV.bool false) [])) (K (IV.bool false) [])) (K (IV.bool false) [])) (br (w.tmod (4 : Int) == (1 : Int)) (t11 ∧ mayPl [IV.agg [IV.int IntKind.i64 (1 : Int), IV.int IntKind.u64 (0 : Int)], fx t3, IV.agg [IV.int IntKind.i64 (0 : Int), IV.int IntKind.u64 (0 : Int)], IV.agg [IV.int IntKind.i64 (t5 / (18446744073709551616 : Int)), IV.int IntKind.u64 (t5 % (18446744073709551616 : Int)), IV.int IntKind.i64 (0 : Int), IV.int IntKind.u64 (0 : Int)], IV.agg [IV.int IntKind.i64 (1 : Int), IV.int IntKind.u64 (0 : Int)], IV.agg [IV.int IntKind.i64 (1 : Int), IV.int IntKind.u64 (0 : Int)]] [] ∧ t7 ∧ t8 ∧ t28 ∧ br e34 (br e32 (preI [IV.int IntKind.i64 t16] [] ∧ t19 ∧ br (IntKind.i64.wrap (t16 + t15) == (0 : Int)) (pNone [] [] ∧ K (IV.bool true) []) (K (IV.bool false) [])) (K (IV.bool false) [])) (K (IV.bool false) [])) (br (w.tmod (4 : Int) == (2 : Int)) (t11 ∧ mayPl [IV.agg [IV.int IntKind.i64 (0 : Int), IV.int IntKind.u64 (0 : Int)], fx t3, fx t1, IV.agg [IV.int IntKind.i64 (t5 / (18446744073709551616 : Int)), IV.int IntKind.u64 (t5 % (18446744073709551616 : Int)), IV.int IntKind.i64 (0 : Int), IV.int IntKind.u64 (0 : Int)], IV.agg [IV.int IntKind.i64 (1 : Int), IV.int IntKind.u64 (0 : Int)], IV.agg [IV.int IntKind.i64 (1 : Int), IV.int IntKind.u64 (0 : Int)]] [] ∧ t7 ∧ t8 ∧ t28 ∧ br e36 (br e32 (preI [IV.int IntKind.i64 t9] [] ∧ t19 ∧ br (IntKind.i64.wrap (t9 + t15) == (0 : Int)) (pNone [] [] ∧ K (IV.bool true) []) (K (IV.bool false) [])) (K (IV.bool false) [])) (K (IV.bool false) [])) (t11 ∧ mayPl [IV.agg [IV.int IntKind.i64 (1 : Int), IV.int IntKind.u64 (0 : Int)], fx t3, fx t1, IV.agg [IV.int IntKind.i64 (t5 / (18446744073709551616 : Int)), IV.int IntKind.u64 (t5 % (18446744073709551616 : Int)), IV.int IntKind.i64 (0 : Int), IV.int IntKind.u64 (0 : Int)], IV.agg [IV.int IntKind.i64 (1 : Int), IV.int IntKind.u64 (0 : Int)], IV.agg [IV.int IntKind.i64 (0 : Int), IV.int IntKind.u64 (0 : Int)]] [] ∧ t7 ∧ t8 ∧ t28 ∧ br e38 (br e32 (preI [IV.int IntKind.i64 t10] [] ∧ t19 ∧ br (IntKind.i64.wrap (t10 + t15) == (0 : Int)) (pNone [] [] ∧ K (IV.bool true) []) (K (IV.bool false) [])) (K (IV.bool false) [])) (K (IV.bool false) []))))) := by refine nm ?_; refine nj ?_; refine nm ?_; refine nj ?_; refine nm ?_; refine nj ?_; refine nm ?_; refine nm ?_; refine nm ?_; refine nm ?_; refine nm ?_; refine nm ?_; refine nm ?_; refine nm ?_; refine nm ?_; refine nm ?_; refine nm ?_; refine nm ?_; refine nm ?_; refine nm ?_; refine nm ?_; refine nm ?_; refine nm ?_; refine nm ?_; refine nm ?_; refine nm ?_; refine nm ?_; refine nm ?_; refine nbc (c := 0) (d := 0) (by decide) ?_; refine nbcr (c := 0) (d := 0) (by decide) ?_; refine nbc (c := 0) (d := 0) (by decide) ?_; refine nbcr (c := 0) (d := 0) (by decide) ?_; refine nbc (c := 0) (d := 0) (by decide) ?_; refine nbcr (c := 0) (d := 0) (by decide) ?_; refine nbc (c := 0) (d := 0) (by decide) ?_; refine nbcr (c := 0) (d := 0) (by decide) ?_; refine nbc (c := 0) (d := 0) (by decide) ?_; refine nbcr (c := 0) (d := 0) (by decide) ?_; kernel_rfl
end Go.Vs.RF


set_option linter.unusedVariables false
set_option linter.unusedSimpArgs false
set_option maxRecDepth 100000
/- PairNone: where nothing pulls -/
namespace Go.Vs.RF
open Go Go.Proofs Go.Vs Go.IntWalk

theorem mulI_zero (x : Int) : mulI x 0 = 0 := by rw [mulI_comm]; exact zero_mulI x
theorem none_k {g a b c h m1 m2 : Int} (c0 : 1 ≤ c) (c1 : c ≤ 65536) (e1 : mulI a b = m1) (v1 : mayF m1) (e2 : mulI g m1 = m2) (v2 : mayF m2) (e3 : mulI m2 h = 0) :
    plE g a b (c * 18446744073709551616) 0 18446744073709551616 h = 0 ∧ plX g a b (c * 18446744073709551616) 0 18446744073709551616 h = 0 ∧ plY g a b (c * 18446744073709551616) 0 18446744073709551616 h = 0 := by
  have hcc := i17_mul (m := c) (n := c) (by omega) (by omega)
  have cc0 : 0 < c * c := Int.mul_pos (by omega) (by omega)
  have xx : mulI (c * 18446744073709551616) (c * 18446744073709551616) = c * c * 18446744073709551616 := by rw [mulI_whole, ← Int.mul_assoc]
  have ss : mulI 18446744073709551616 18446744073709551616 = 18446744073709551616 := mul_one' _
  generalize c * c = C at *
  have hR : mayF ((C + 1) * 18446744073709551616) := ⟨by omega, by omega⟩
  obtain ⟨q1, q2, _⟩ := sqrt_may hR (by omega)
  have F0 : sqrtI ((C + 1) * 18446744073709551616 * 18446744073709551616) ≠ 0 := by
    intro h0
    rw [h0] at q1
    have := q1.2.2
    omega
  refine pl_ok (d := 0) (k_ok (R := (C + 1) * 18446744073709551616) (m1 := m1) (m2 := m2) (m3 := 0) (d1 := 0) (d2 := 0) (by rw [xx]; exact ⟨by omega, by omega⟩) (by rw [zero_mulI]; exact may_zero) (by rw [xx, zero_mulI]; exact ⟨by omega, by omega⟩) (by rw [ss]; exact ⟨by omega, by omega⟩)
    (by rw [xx, zero_mulI, ss]; omega) hR (by omega) rfl F0 e1 v1 e2 v2 e3 may_zero (quoI_zero _ (by omega)) may_zero (quoI_zero _ F0) may_zero) (mulI_zero _) (zero_mulI _) may_zero may_zero
theorem none_here {A B : Int} (a0 : 0 ≤ A) (a1 : A ≤ 65535) (b0 : 0 ≤ B) (b1 : B ≤ 65535) :
    plE 18446744073709551616 (A * 18446744073709551616) (B * 18446744073709551616) 0 0 18446744073709551616 18446744073709551616 = 0 ∧ plX 18446744073709551616 (A * 18446744073709551616) (B * 18446744073709551616) 0 0 18446744073709551616 18446744073709551616 = 0 ∧ plY 18446744073709551616 (A * 18446744073709551616) (B * 18446744073709551616) 0 0 18446744073709551616 18446744073709551616 = 0 := by
  have hab := i17_mul (m := A) (n := B) (by omega) (by omega)
  have ss : mulI 18446744073709551616 18446744073709551616 = 18446744073709551616 := mul_one' _
  have zz : mulI 0 0 = 0 := zero_mulI 0
  have ab : mulI (A * 18446744073709551616) (B * 18446744073709551616) = A * B * 18446744073709551616 := by rw [mulI_whole, ← Int.mul_assoc]
  generalize A * B = D at *
  have hD : mayF (D * 18446744073709551616) := ⟨by omega, by omega⟩
  have one : mayF 18446744073709551616 := ⟨by decide, by decide⟩
  have F1 : sqrtI (18446744073709551616 * 18446744073709551616) = 18446744073709551616 := sqrtI_eq ⟨by decide, by decide, by decide⟩
  exact pl_ok (k_ok (R := 18446744073709551616) (F := 18446744073709551616) (m1 := D * 18446744073709551616) (m2 := D * 18446744073709551616) (m3 := D * 18446744073709551616) (d1 := D * 18446744073709551616) (d2 := D * 18446744073709551616) (by rw [zz]; exact may_zero) (by rw [zz]; exact may_zero) (by rw [zz]; exact may_zero) (by rw [ss]; exact one)
    (by rw [zz, ss]; rfl) one (by decide) F1 (by decide) ab hD (by rw [mulI_comm, mul_one']) hD (mul_one' _) hD (quo_one _) hD (quo_one _) hD) (zero_mulI _) (zero_mulI _) may_zero may_zero
def u16ok (n : Int) : Prop := 0 ≤ n ∧ n ≤ 65535
def lawPN (l : List IV) (bs : List Blk) : Prop := ∃ a b d w, l = [.int .u16 a, .int .u16 b, .int .u16 d, .int .u8 w] ∧ bs = [] ∧ u16ok a ∧ u16ok b ∧ u16ok d ∧ 0 ≤ w ∧ w ≤ 255
noncomputable def spPN : Vs.Spec := ⟨lawPN, fun _ _ => (.bool true, [])⟩
set_option maxHeartbeats 4000000 in
theorem c_PairNone : Contract Try.prog f_perigeelaw10_PairNone spPN := by
  refine contract_of (N := Nv1) 3 knowv1 ?_
  rintro l bs _ _ ⟨a, b, d, w, rfl, rfl, ha, hb, hd, hw⟩
  unfold u16ok at ha hb hd
  show comes _ _ _ _ _ _ _
  rw [v_PairNone]
  rw [i64_in a (by omega), i64_in b (by omega), i64_in d (by omega), i64_in (1 + d) (by omega), mxe (by omega), mxe (by omega), mxe (by omega)]
  rintro t1 e1 j2 rfl t3 e3 j4 rfl t5 e5 j6 rfl t7 e7 t8 e8 t9 e9 t10 e10 t11 e11 t12 e12 t13 e13 t14 e14 t15 e15 t16 e16 t17 e17 t18 e18 t19 e19 t20 e20 t21 e21 t22 e22 t23 e23 t24 e24 t25 e25 t26 e26 t27 e27 t28 e28 c29 e29 e30 h30 c31 e31 e32 h32 c33 e33 e34 h34 c35 e35 e36 h36 c37 e37 e38 h38
  rw [show (1 : Int) * 18446744073709551616 + 0 = 18446744073709551616 by decide] at e17
  rw [show (0 : Int) * 18446744073709551616 + 0 = 0 by decide] at e18
  subst e17; subst e18; subst e1; subst e3; subst e5
  have one : mayF 18446744073709551616 := ⟨by decide, by decide⟩
  have mA : mayF (a * 18446744073709551616) := ⟨by omega, by omega⟩
  have mB : mayF (b * 18446744073709551616) := ⟨by omega, by omega⟩
  have mD : mayF ((1 + d) * 18446744073709551616) := ⟨by omega, by omega⟩
  have hab := i17_mul (m := a) (n := b) (by omega) (by omega)
  have ab : mulI (a * 18446744073709551616) (b * 18446744073709551616) = a * b * 18446744073709551616 := by rw [mulI_whole, ← Int.mul_assoc]
  have mAB : mayF (a * b * 18446744073709551616) := ⟨by omega, by omega⟩
  obtain ⟨n1, n2, n3⟩ := none_here ha.1 ha.2 hb.1 hb.2
  have hbA : ∀ x : Int, mulI 18446744073709551616 x = x := fun x => by rw [mulI_comm, mul_one']
  have k0 := none_k (g := 18446744073709551616) (a := 0) (b := b * 18446744073709551616) (c := 1 + d) (h := 18446744073709551616) (m1 := 0) (m2 := 0) (by omega) (by omega) (zero_mulI _) may_zero (mulI_zero _) may_zero (zero_mulI _)
  have k1 := none_k (g := 18446744073709551616) (a := a * 18446744073709551616) (b := 0) (c := 1 + d) (h := 18446744073709551616) (m1 := 0) (m2 := 0) (by omega) (by omega) (mulI_zero _) may_zero (mulI_zero _) may_zero (zero_mulI _)
  have k2 := none_k (g := 0) (a := a * 18446744073709551616) (b := b * 18446744073709551616) (c := 1 + d) (h := 18446744073709551616) (m1 := a * b * 18446744073709551616) (m2 := 0) (by omega) (by omega) ab mAB (zero_mulI _) may_zero (zero_mulI _)
  have k3 := none_k (g := 18446744073709551616) (a := a * 18446744073709551616) (b := b * 18446744073709551616) (c := 1 + d) (h := 0) (m1 := a * b * 18446744073709551616) (m2 := a * b * 18446744073709551616) (by omega) (by omega) ab mAB (hbA _) mAB (mulI_zero _)
  have z32 : e32 = true := by rw [h32, e31, e12, e13, n2, n3]; rfl
  have z15 : t15 = 0 := by rw [e15]; exact n1
  have p7 : t7 := by rw [e7]; exact preI_of ⟨by omega, by omega⟩
  have p8 : t8 := by rw [e8]; exact preI_of ⟨by omega, by omega⟩
  have p11 : t11 := by rw [e11]; exact preI_of ⟨by omega, by omega⟩
  have p19 : t19 := by rw [e19, z15]; exact preI_of ⟨by decide, by decide⟩
  have p28 : t28 := by rw [e28]; exact mayPl_of one mA mB may_zero may_zero one one
  have fin : ∀ {e t : Int} {b0 : Bool}, t = 0 → b0 = true → br b0 (br e32 (preI [.int .i64 t] [] ∧ t19 ∧ br (IntKind.i64.wrap (t + t15) == 0) (pNone [] [] ∧ (spPN.F [.int .u16 a, .int .u16 b, .int .u16 d, .int .u8 w] [] = (IV.bool true, []))) (spPN.F [.int .u16 a, .int .u16 b, .int .u16 d, .int .u8 w] [] = (IV.bool false, []))) (spPN.F [.int .u16 a, .int .u16 b, .int .u16 d, .int .u8 w] [] = (IV.bool false, []))) (spPN.F [.int .u16 a, .int .u16 b, .int .u16 d, .int .u8 w] [] = (IV.bool false, [])) := by
    intro e t b0 ht hb0
    rw [hb0, z32, ht, z15]
    exact ⟨preI_of ⟨by decide, by decide⟩, p19, ⟨rfl, rfl⟩, rfl⟩
  refine ⟨preI_of ⟨by decide, by decide⟩, p7, p8, by decide, ?_⟩
  rw [br_beq]
  refine ⟨fun _ => ⟨p11, mayPl_of one may_zero mB mD may_zero one one, p7, p8, p28, fin (e := 0) (by rw [e14]; exact k0.1) (by rw [h30, e29, e24, e25, k0.2.1, k0.2.2]; rfl)⟩, fun _ => ?_⟩
  rw [br_beq]
  refine ⟨fun _ => ⟨p11, mayPl_of one mA may_zero mD may_zero one one, p7, p8, p28, fin (e := 0) (by rw [e16]; exact k1.1) (by rw [h34, e33, e26, e27, k1.2.1, k1.2.2]; rfl)⟩, fun _ => ?_⟩
  rw [br_beq]
  exact ⟨fun _ => ⟨p11, mayPl_of may_zero mA mB mD may_zero one one, p7, p8, p28, fin (e := 0) (by rw [e9]; exact k2.1) (by rw [h36, e35, e20, e21, k2.2.1, k2.2.2]; rfl)⟩, fun _ => ⟨p11, mayPl_of one mA mB mD may_zero one may_zero, p7, p8, p28, fin (e := 0) (by rw [e10]; exact k3.1) (by rw [h38, e37, e22, e23, k3.2.1, k3.2.2]; rfl)⟩⟩
theorem lawPN_of {a b d w : Int} (k0 : inK .u16 a) (k1 : inK .u16 b) (k2 : inK .u16 d) (k3 : inK .u8 w) : lawPN [.int .u16 a, .int .u16 b, .int .u16 d, .int .u8 w] [] :=
  ⟨a, b, d, w, rfl, rfl, k0, k1, k2, k3⟩
end Go.Vs.RF
