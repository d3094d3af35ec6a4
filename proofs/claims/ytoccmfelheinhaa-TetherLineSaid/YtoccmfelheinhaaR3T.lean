import Derived.Test.YtoccmfelheinhaaR3G
set_option linter.unusedVariables false
/- tether: what one gives -/
namespace Go.Vs.RF
open Go Go.Proofs Go.Vs
/-- a tether as a value: whom, how long, how much it bears -/
def tetV (a b len lim : Int) : IV := .agg [.int .i64 a, .int .i64 b, .int .i64 (len / 18446744073709551616), .int .u64 (len % 18446744073709551616), .int .i64 (lim / 18446744073709551616), .int .u64 (lim % 18446744073709551616)]
theorem v_parting (r s : List Int) (x y : Int) (K : IV → List Blk → Prop) : (comes Try.prog Ne2 3 f_tether_parting [bodyR r, bodyR s, vx x y] [] K) = (∀ (j1 : Int), j1 = x → ∀ (j2 : Int), j2 = y → ∀ (t3 : Int), t3 = spdX (rowA [IV.agg (rowCells ksB [s] (0 : Nat) (0 : Nat) (20 : Nat))] (0 : Nat)) → ∀ (j4 : Int), j4 = t3 → ∀ (t5 : Int), t5 = spdX (rowA [IV.agg (rowCells ksB [r] (0 : Nat) (0 : Nat) (20 : Nat))] (0 : Nat)) → ∀ (j6 : Int), j6 = t5 → ∀ (t7 : Int), t7 = spdY (rowA [IV.agg (rowCells ksB [s] (0 : Nat) (0 : Nat) (20 : Nat))] (0 : Nat)) → ∀ (j8 : Int), j8 = t7 → ∀ (t9 : Int), t9 = spdY (rowA [IV.agg (rowCells ksB [r] (0 : Nat) (0 : Nat) (20 : Nat))] (0 : Nat)) → ∀ (j10 : Int), j10 = t9 → ∀ (t11 : Int), t11 = n2 (j4 - j6) (j8 - j10) (j4 - j6) → ∀ (j12 : Int), j12 = t11 → ∀ (t13 : Int), t13 = n2 (j4 - j6) (j8 - j10) (j8 - j10) → ∀ (j14 : Int), j14 = t13 → ∀ (t15 : Int), t15 = mulI j1 j12 → ∀ (t16 : Int), t16 = mulI j2 j14 → ∀ (t17 : Int), t17 = dotN t15 t16 → ∀ (t18 : Int), t18 = e2 (j4 - j6) (j8 - j10) → ∀ (t19 : Int), t19 = spdE (rowA [IV.agg (rowCells ksB [r] (0 : Nat) (0 : Nat) (20 : Nat))] (0 : Nat)) → ∀ (t20 : Int), t20 = spdE (rowA [IV.agg (rowCells ksB [s] (0 : Nat) (0 : Nat) (20 : Nat))] (0 : Nat)) → pB [IV.agg (rowCells ksB [r] (0 : Nat) (0 : Nat) (20 : Nat))] [] ∧ br (t19 != (0 : Int)) (K (IV.tup [IV.agg [IV.int IntKind.i64 (0 : Int), IV.int IntKind.u64 (0 : Int)], IV.int IntKind.i64 t19]) []) (pB [IV.agg (rowCells ksB [s] (0 : Nat) (0 : Nat) (20 : Nat))] [] ∧ br (t20 != (0 : Int)) (K (IV.tup [IV.agg [IV.int IntKind.i64 (0 : Int), IV.int IntKind.u64 (0 : Int)], IV.int IntKind.i64 t20]) []) (vmay2 [vx t3 t7, vx t5 t9] [] ∧ br (t18 != (0 : Int)) (K (IV.tup [IV.agg [IV.int IntKind.i64 (0 : Int), IV.int IntKind.u64 (0 : Int)], IV.int IntKind.i64 t18]) []) (vmay2 [vx x y, vx t11 t13] [] ∧ K (IV.tup [fx t17, IV.int IntKind.i64 (dotE t15 t16)]) [])))) := by refine nj ?_; refine nj ?_; refine nm ?_; refine nj ?_; refine nm ?_; refine nj ?_; refine nm ?_; refine nj ?_; refine nm ?_; refine nj ?_; refine nm ?_; refine nj ?_; refine nm ?_; refine nj ?_; refine nm ?_; refine nm ?_; refine nm ?_; refine nm ?_; refine nm ?_; refine nm ?_; kernel_rfl
theorem v_tmass (r s : List Int) (K : IV → List Blk → Prop) : (comes Try.prog Ne2 3 f_tether_mass [bodyR r, bodyR s] [] K) = (∀ (t1 : Int), t1 = numF (mulI (rd [r] (0 : Nat) (0 : Nat) * (18446744073709551616 : Int) + rd [r] (0 : Nat) (1 : Nat)) (rd [s] (0 : Nat) (0 : Nat) * (18446744073709551616 : Int) + rd [s] (0 : Nat) (1 : Nat))) → ∀ (j2 : Int), j2 = t1 → ∀ (t3 : Int), t3 = numF (rd [r] (0 : Nat) (0 : Nat) * (18446744073709551616 : Int) + rd [r] (0 : Nat) (1 : Nat) + (rd [s] (0 : Nat) (0 : Nat) * (18446744073709551616 : Int) + rd [s] (0 : Nat) (1 : Nat))) → ∀ (j4 : Int), j4 = t3 → ∀ (t5 : Int), t5 = divN j2 j4 → ∀ (t6 : Int), t6 = rd [r] (0 : Nat) (0 : Nat) → ∀ (t7 : Int), t7 = rd [r] (0 : Nat) (1 : Nat) → ∀ (t8 : Int), t8 = rd [s] (0 : Nat) (0 : Nat) → ∀ (t9 : Int), t9 = rd [s] (0 : Nat) (1 : Nat) → ∀ (t10 : Int), t10 = t6 * (18446744073709551616 : Int) + t7 → ∀ (t11 : Int), t11 = t8 * (18446744073709551616 : Int) + t9 → ∀ (t12 : Prop), t12 = may2 [IV.agg [IV.int IntKind.i64 t6, IV.int IntKind.u64 t7], IV.agg [IV.int IntKind.i64 t8, IV.int IntKind.u64 t9]] [] → ∀ (t13 : Int), t13 = errF (mulI t10 t11) → ∀ (t14 : Int), t14 = errF (t10 + t11) → t12 ∧ br (t13 != (0 : Int)) (K (IV.tup [fx t1, IV.int IntKind.i64 t13]) []) (t12 ∧ br (t14 != (0 : Int)) (K (IV.tup [fx t3, IV.int IntKind.i64 t14]) []) (may2 [fx t1, fx t3] [] ∧ K (IV.tup [fx t5, IV.int IntKind.i64 (divE j2 j4)]) []))) := by refine nm ?_; refine nj ?_; refine nm ?_; refine nj ?_; refine nm ?_; refine nm ?_; refine nm ?_; refine nm ?_; refine nm ?_; refine nm ?_; refine nm ?_; refine nm ?_; refine nm ?_; refine nm ?_; kernel_rfl
theorem v_reduced (r s : List Int) (K : IV → List Blk → Prop) : (comes Try.prog Ne2 3 f_perigeeref16_reduced [bodyR r, bodyR s] [] K) = (∀ (t1 : Int), t1 = numF (mulI (rd [r] (0 : Nat) (0 : Nat) * (18446744073709551616 : Int) + rd [r] (0 : Nat) (1 : Nat)) (rd [s] (0 : Nat) (0 : Nat) * (18446744073709551616 : Int) + rd [s] (0 : Nat) (1 : Nat))) → ∀ (j2 : Int), j2 = t1 → ∀ (t3 : Int), t3 = numF (rd [r] (0 : Nat) (0 : Nat) * (18446744073709551616 : Int) + rd [r] (0 : Nat) (1 : Nat) + (rd [s] (0 : Nat) (0 : Nat) * (18446744073709551616 : Int) + rd [s] (0 : Nat) (1 : Nat))) → ∀ (j4 : Int), j4 = t3 → ∀ (t5 : Int), t5 = divN j2 j4 → ∀ (t6 : Int), t6 = rd [r] (0 : Nat) (0 : Nat) → ∀ (t7 : Int), t7 = rd [r] (0 : Nat) (1 : Nat) → ∀ (t8 : Int), t8 = rd [s] (0 : Nat) (0 : Nat) → ∀ (t9 : Int), t9 = rd [s] (0 : Nat) (1 : Nat) → ∀ (t10 : Int), t10 = t6 * (18446744073709551616 : Int) + t7 → ∀ (t11 : Int), t11 = t8 * (18446744073709551616 : Int) + t9 → ∀ (t12 : Prop), t12 = may2 [IV.agg [IV.int IntKind.i64 t6, IV.int IntKind.u64 t7], IV.agg [IV.int IntKind.i64 t8, IV.int IntKind.u64 t9]] [] → ∀ (t13 : Int), t13 = errF (mulI t10 t11) → ∀ (t14 : Int), t14 = errF (t10 + t11) → t12 ∧ br (t13 != (0 : Int)) (K (IV.agg [IV.int IntKind.i64 (t1 / (18446744073709551616 : Int)), IV.int IntKind.u64 (t1 % (18446744073709551616 : Int)), IV.int IntKind.i64 t13]) []) (t12 ∧ br (t14 != (0 : Int)) (K (IV.agg [IV.int IntKind.i64 (t3 / (18446744073709551616 : Int)), IV.int IntKind.u64 (t3 % (18446744073709551616 : Int)), IV.int IntKind.i64 t14]) []) (may2 [fx t1, fx t3] [] ∧ K (IV.agg [IV.int IntKind.i64 (t5 / (18446744073709551616 : Int)), IV.int IntKind.u64 (t5 % (18446744073709551616 : Int)), IV.int IntKind.i64 (divE j2 j4)]) []))) := by refine nm ?_; refine nj ?_; refine nm ?_; refine nj ?_; refine nm ?_; refine nm ?_; refine nm ?_; refine nm ?_; refine nm ?_; refine nm ?_; refine nm ?_; refine nm ?_; refine nm ?_; refine nm ?_; kernel_rfl
/-- how fast two part, times their way -/
def ptE (r s : List Int) (x y : Int) : Int := if spdE r ≠ 0 then spdE r else if spdE s ≠ 0 then spdE s else if e2 (spdX s - spdX r) (spdY s - spdY r) ≠ 0 then e2 (spdX s - spdX r) (spdY s - spdY r) else dotE (mulI x (spdX s - spdX r)) (mulI y (spdY s - spdY r))
def ptN (r s : List Int) (x y : Int) : Int := if ptE r s x y = 0 then dotN (mulI x (spdX s - spdX r)) (mulI y (spdY s - spdY r)) else 0
/-- what two weigh against one another -/
def maE (r s : List Int) : Int := if errF (mulI (fr r 0) (fr s 0)) ≠ 0 then errF (mulI (fr r 0) (fr s 0)) else if errF (fr r 0 + fr s 0) ≠ 0 then errF (fr r 0 + fr s 0) else divE (mulI (fr r 0) (fr s 0)) (fr r 0 + fr s 0)
def maN (r s : List Int) : Int := if maE r s = 0 then divN (mulI (fr r 0) (fr s 0)) (fr r 0 + fr s 0) else 0
/-- what holds two -/
def heE (r s : List Int) (far v : Int) : Int := if maE r s ≠ 0 then maE r s else if errF (mulI (maN r s) v) ≠ 0 then errF (mulI (maN r s) v) else divE (mulI (maN r s) v) far
def heN (r s : List Int) (far v : Int) : Int := if heE r s far v = 0 then divN (mulI (maN r s) v) far else 0
def hvE (r s : List Int) (x y far v : Int) : Int := if heE r s far v ≠ 0 then heE r s far v else e2 (mulI x (heN r s far v)) (mulI y (heN r s far v))
def hvX (r s : List Int) (x y far v : Int) : Int := if hvE r s x y far v = 0 then mulI x (heN r s far v) else 0
def hvY (r s : List Int) (x y far v : Int) : Int := if hvE r s x y far v = 0 then mulI y (heN r s far v) else 0
def pPt (l : List IV) (bs : List Blk) : Prop := ∃ r s x y, l = [bodyR r, bodyR s, vx x y] ∧ bs = [] ∧ goodB r ∧ goodB s ∧ mayF x ∧ mayF y
noncomputable def spPt : Vs.Spec := ⟨pPt, fun l _ => (.tup [fx (ptN (rowA l 0) (rowA l 1) (v2 l 2) (vy l 2)), .int .i64 (ptE (rowA l 0) (rowA l 1) (v2 l 2) (vy l 2))], [])⟩
def pTm (l : List IV) (bs : List Blk) : Prop := ∃ r s, l = [bodyR r, bodyR s] ∧ bs = [] ∧ goodB r ∧ goodB s
noncomputable def spTm : Vs.Spec := ⟨pTm, fun l _ => (.tup [fx (maN (rowA l 0) (rowA l 1)), .int .i64 (maE (rowA l 0) (rowA l 1))], [])⟩
noncomputable def spRed : Vs.Spec := ⟨pTm, fun l _ => (gotV (maN (rowA l 0) (rowA l 1)) (maE (rowA l 0) (rowA l 1)), [])⟩
def tApN (x y : Int) : Int := dotN (mulI x x) (mulI y y)
/-- how far two are: whether that is more than a tether is long -/
def tApE (x y len : Int) : Int := if dotE (mulI x x) (mulI y y) ≠ 0 then dotE (mulI x x) (mulI y y) else errF (mulI len len)
def tApB (x y len : Int) : Bool := decide (tApE x y len = 0) && decide (cmpI (tApN x y) (mulI len len) > 0)
noncomputable def lenA (l : List IV) : Int := argI l 0 2 * 18446744073709551616 + argI l 0 3
noncomputable def limA (l : List IV) : Int := argI l 0 4 * 18446744073709551616 + argI l 0 5
def pAp (l : List IV) (bs : List Blk) : Prop := ∃ a b len lim x y, l = [tetV a b len lim, vx x y] ∧ bs = [] ∧ mayF len ∧ mayF x ∧ mayF y
noncomputable def spAp : Vs.Spec := ⟨pAp, fun l _ => (.tup [fx (tApN (v2 l 1) (vy l 1)), .bool (tApB (v2 l 1) (vy l 1) (lenA l)), .int .i64 (tApE (v2 l 1) (vy l 1) (lenA l))], [])⟩
theorem v_apart (a b len lim x y : Int) (K : IV → List Blk → Prop) : (comes Try.prog Ne2 3 f_tether_apart [tetV a b len lim, vx x y] [] K) = (∀ (j1 : Int), j1 = x → ∀ (j2 : Int), j2 = y → ∀ (j3 : Int), j3 = len → ∀ (t4 : Int), t4 = numF (mulI j3 j3) → ∀ (j5 : Int), j5 = t4 → ∀ (t6 : Int), t6 = dotN (mulI j1 j1) (mulI j2 j2) → ∀ (j7 : Int), j7 = t6 → ∀ (t8 : Int), t8 = cmpI j7 j5 → ∀ (t9 : Int), t9 = errF (mulI j3 j3) → ∀ (t10 : Int), t10 = dotE (mulI j1 j1) (mulI j2 j2) → vmay1 [vx x y] [] ∧ br (t10 != (0 : Int)) (K (IV.tup [fx t6, IV.bool false, IV.int IntKind.i64 t10]) []) (may2 [fx len, fx len] [] ∧ br (t9 == (0 : Int)) (preFF [fx t6, fx t4] [] ∧ K (IV.tup [fx t6, IV.bool (decide (t8 > (0 : Int))), IV.int IntKind.i64 t9]) []) (K (IV.tup [fx t6, IV.bool false, IV.int IntKind.i64 t9]) []))) := by refine nj ?_; refine nj ?_; refine nj ?_; refine nm ?_; refine nj ?_; refine nm ?_; refine nj ?_; refine nm ?_; refine nm ?_; refine nm ?_; kernel_rfl
noncomputable def Γtt1 : FuncId → Option Vs.Spec := fun g => if g = f_tether_parting then some spPt else if g = f_tether_mass then some spTm else if g = f_perigeeref16_reduced then some spRed else if g = f_tether_apart then some spAp else Γe2 g
noncomputable def Ntt1 : Know := ⟨Γtt1, fun _ _ => none, fun _ => none⟩
def pHe (l : List IV) (bs : List Blk) : Prop := ∃ r s x y far v, l = [bodyR r, bodyR s, vx x y, fx far, fx v] ∧ bs = [] ∧ goodB r ∧ goodB s ∧ (mayF x ∧ mayF y) ∧ mayF far ∧ mayF v
noncomputable def spHe : Vs.Spec := ⟨pHe, fun l _ => (.tup [vx (hvX (rowA l 0) (rowA l 1) (v2 l 2) (vy l 2) (v2 l 3) (v2 l 4)) (hvY (rowA l 0) (rowA l 1) (v2 l 2) (vy l 2) (v2 l 3) (v2 l 4)), .int .i64 (hvE (rowA l 0) (rowA l 1) (v2 l 2) (vy l 2) (v2 l 3) (v2 l 4))], [])⟩
theorem v_held (r s : List Int) (x y far v : Int) (K : IV → List Blk → Prop) : (comes Try.prog Ntt1 3 f_tether_held [bodyR r, bodyR s, vx x y, fx far, fx v] [] K) = (∀ (j1 : Int), j1 = v → ∀ (j2 : Int), j2 = far → ∀ (j3 : Int), j3 = x → ∀ (j4 : Int), j4 = y → ∀ (t5 : Int), t5 = maN (rowA [IV.agg (rowCells ksB [r] (0 : Nat) (0 : Nat) (20 : Nat)), IV.agg (rowCells ksB [s] (0 : Nat) (0 : Nat) (20 : Nat))] (0 : Nat)) (rowA [IV.agg (rowCells ksB [r] (0 : Nat) (0 : Nat) (20 : Nat)), IV.agg (rowCells ksB [s] (0 : Nat) (0 : Nat) (20 : Nat))] (1 : Nat)) → ∀ (j6 : Int), j6 = t5 → ∀ (t7 : Int), t7 = divN j6 j2 → ∀ (j8 : Int), j8 = t7 → ∀ (t9 : Int), t9 = numF (mulI j6 j1) → ∀ (j10 : Int), j10 = t9 → ∀ (t11 : Int), t11 = divN j10 j2 → ∀ (j12 : Int), j12 = t11 → ∀ (t13 : Int), t13 = divE j10 j2 → ∀ (t14 : Int), t14 = mulI j3 j12 → ∀ (t15 : Int), t15 = mulI j4 j12 → ∀ (t16 : Int), t16 = mulI j3 j10 → ∀ (t17 : Int), t17 = mulI j4 j10 → ∀ (t18 : Int), t18 = divE j6 j2 → ∀ (t19 : Int), t19 = mulI j3 j8 → ∀ (t20 : Int), t20 = mulI j4 j8 → ∀ (t21 : Int), t21 = mulI j3 j6 → ∀ (t22 : Int), t22 = mulI j4 j6 → ∀ (t23 : Int), t23 = errF (mulI j6 j1) → ∀ (t24 : Int), t24 = n2 t14 t15 t14 → ∀ (t25 : Int), t25 = n2 t14 t15 t15 → ∀ (t26 : Int), t26 = n2 t16 t17 t16 → ∀ (t27 : Int), t27 = n2 t16 t17 t17 → ∀ (t28 : Int), t28 = n2 t19 t20 t19 → ∀ (t29 : Int), t29 = n2 t19 t20 t20 → ∀ (t30 : Int), t30 = n2 t21 t22 t21 → ∀ (t31 : Int), t31 = n2 t21 t22 t22 → ∀ (t32 : Int), t32 = maE (rowA [IV.agg (rowCells ksB [r] (0 : Nat) (0 : Nat) (20 : Nat)), IV.agg (rowCells ksB [s] (0 : Nat) (0 : Nat) (20 : Nat))] (0 : Nat)) (rowA [IV.agg (rowCells ksB [r] (0 : Nat) (0 : Nat) (20 : Nat)), IV.agg (rowCells ksB [s] (0 : Nat) (0 : Nat) (20 : Nat))] (1 : Nat)) → pTm [IV.agg (rowCells ksB [r] (0 : Nat) (0 : Nat) (20 : Nat)), IV.agg (rowCells ksB [s] (0 : Nat) (0 : Nat) (20 : Nat))] [] ∧ br (t32 == (0 : Int)) (may2 [fx t5, fx v] [] ∧ br (t23 == (0 : Int)) (may2 [fx t9, fx far] [] ∧ br (t13 != (0 : Int)) (K (IV.tup [IV.agg [IV.int IntKind.i64 (0 : Int), IV.int IntKind.u64 (0 : Int), IV.int IntKind.i64 (0 : Int), IV.int IntKind.u64 (0 : Int)], IV.int IntKind.i64 t13]) []) (vmayk [vx x y, fx t11] [] ∧ K (IV.tup [vx t24 t25, IV.int IntKind.i64 (e2 t14 t15)]) [])) (br (t23 != (0 : Int)) (K (IV.tup [IV.agg [IV.int IntKind.i64 (0 : Int), IV.int IntKind.u64 (0 : Int), IV.int IntKind.i64 (0 : Int), IV.int IntKind.u64 (0 : Int)], IV.int IntKind.i64 t23]) []) (vmayk [vx x y, fx t9] [] ∧ K (IV.tup [vx t26 t27, IV.int IntKind.i64 (e2 t16 t17)]) []))) (br (t32 == (0 : Int)) (may2 [fx t5, fx far] [] ∧ br (t18 != (0 : Int)) (K (IV.tup [IV.agg [IV.int IntKind.i64 (0 : Int), IV.int IntKind.u64 (0 : Int), IV.int IntKind.i64 (0 : Int), IV.int IntKind.u64 (0 : Int)], IV.int IntKind.i64 t18]) []) (vmayk [vx x y, fx t7] [] ∧ K (IV.tup [vx t28 t29, IV.int IntKind.i64 (e2 t19 t20)]) [])) (br (t32 != (0 : Int)) (K (IV.tup [IV.agg [IV.int IntKind.i64 (0 : Int), IV.int IntKind.u64 (0 : Int), IV.int IntKind.i64 (0 : Int), IV.int IntKind.u64 (0 : Int)], IV.int IntKind.i64 t32]) []) (vmayk [vx x y, fx t5] [] ∧ K (IV.tup [vx t30 t31, IV.int IntKind.i64 (e2 t21 t22)]) [])))) := by refine nj ?_; refine nj ?_; refine nj ?_; refine nj ?_; refine nm ?_; refine nj ?_; refine nm ?_; refine nj ?_; refine nm ?_; refine nj ?_; refine nm ?_; refine nj ?_; refine nm ?_; refine nm ?_; refine nm ?_; refine nm ?_; refine nm ?_; refine nm ?_; refine nm ?_; refine nm ?_; refine nm ?_; refine nm ?_; refine nm ?_; refine nm ?_; refine nm ?_; refine nm ?_; refine nm ?_; refine nm ?_; refine nm ?_; refine nm ?_; refine nm ?_; refine nm ?_; kernel_rfl
def meetV (x y l v e : Int) : IV := .agg [.int .i64 (x / 18446744073709551616), .int .u64 (x % 18446744073709551616), .int .i64 (y / 18446744073709551616), .int .u64 (y % 18446744073709551616), .int .i64 (l / 18446744073709551616), .int .u64 (l % 18446744073709551616), .int .i64 (v / 18446744073709551616), .int .u64 (v % 18446744073709551616), .int .i64 e]
noncomputable def mL (l : List IV) (i : Nat) : Int := argI l i 4 * 18446744073709551616 + argI l i 5
def clX (r s : List Int) (x y : Int) : Int := if ptE r s x y = 0 then x else 0
def clY (r s : List Int) (x y : Int) : Int := if ptE r s x y = 0 then y else 0
def clL (r s : List Int) (x y l : Int) : Int := if ptE r s x y = 0 then l else 0
def pClo (l : List IV) (bs : List Blk) : Prop := ∃ r s x y n, l = [bodyR r, bodyR s, meetV x y n 0 0] ∧ bs = [] ∧ goodB r ∧ goodB s ∧ mayF x ∧ mayF y
noncomputable def spClo : Vs.Spec := ⟨pClo, fun l _ => (meetV (clX (rowA l 0) (rowA l 1) (v2 l 2) (vy l 2)) (clY (rowA l 0) (rowA l 1) (v2 l 2) (vy l 2)) (clL (rowA l 0) (rowA l 1) (v2 l 2) (vy l 2) (mL l 2)) (ptN (rowA l 0) (rowA l 1) (v2 l 2) (vy l 2)) (ptE (rowA l 0) (rowA l 1) (v2 l 2) (vy l 2)), [])⟩
theorem v_closing (r s : List Int) (x y n : Int) (K : IV → List Blk → Prop) : (comes Try.prog Ntt1 3 f_perigeeref16_closing [bodyR r, bodyR s, meetV x y n 0 0] [] K) = (∀ (j1 : Int), j1 = x → ∀ (j2 : Int), j2 = y → ∀ (t3 : Int), t3 = spdX (rowA [IV.agg (rowCells ksB [s] (0 : Nat) (0 : Nat) (20 : Nat))] (0 : Nat)) → ∀ (j4 : Int), j4 = t3 → ∀ (t5 : Int), t5 = spdX (rowA [IV.agg (rowCells ksB [r] (0 : Nat) (0 : Nat) (20 : Nat))] (0 : Nat)) → ∀ (j6 : Int), j6 = t5 → ∀ (t7 : Int), t7 = spdY (rowA [IV.agg (rowCells ksB [s] (0 : Nat) (0 : Nat) (20 : Nat))] (0 : Nat)) → ∀ (j8 : Int), j8 = t7 → ∀ (t9 : Int), t9 = spdY (rowA [IV.agg (rowCells ksB [r] (0 : Nat) (0 : Nat) (20 : Nat))] (0 : Nat)) → ∀ (j10 : Int), j10 = t9 → ∀ (t11 : Int), t11 = n2 (j4 - j6) (j8 - j10) (j4 - j6) → ∀ (j12 : Int), j12 = t11 → ∀ (t13 : Int), t13 = n2 (j4 - j6) (j8 - j10) (j8 - j10) → ∀ (j14 : Int), j14 = t13 → ∀ (t15 : Int), t15 = mulI j1 j12 → ∀ (t16 : Int), t16 = mulI j2 j14 → ∀ (t17 : Int), t17 = dotE t15 t16 → ∀ (t18 : Int), t18 = dotN t15 t16 → ∀ (t19 : Int), t19 = e2 (j4 - j6) (j8 - j10) → ∀ (t20 : Int), t20 = spdE (rowA [IV.agg (rowCells ksB [r] (0 : Nat) (0 : Nat) (20 : Nat))] (0 : Nat)) → ∀ (t21 : Int), t21 = spdE (rowA [IV.agg (rowCells ksB [s] (0 : Nat) (0 : Nat) (20 : Nat))] (0 : Nat)) → pB [IV.agg (rowCells ksB [r] (0 : Nat) (0 : Nat) (20 : Nat))] [] ∧ br (t20 != (0 : Int)) (K (IV.agg [IV.int IntKind.i64 (0 : Int), IV.int IntKind.u64 (0 : Int), IV.int IntKind.i64 (0 : Int), IV.int IntKind.u64 (0 : Int), IV.int IntKind.i64 (0 : Int), IV.int IntKind.u64 (0 : Int), IV.int IntKind.i64 (0 : Int), IV.int IntKind.u64 (0 : Int), IV.int IntKind.i64 t20]) []) (pB [IV.agg (rowCells ksB [s] (0 : Nat) (0 : Nat) (20 : Nat))] [] ∧ br (t21 != (0 : Int)) (K (IV.agg [IV.int IntKind.i64 (0 : Int), IV.int IntKind.u64 (0 : Int), IV.int IntKind.i64 (0 : Int), IV.int IntKind.u64 (0 : Int), IV.int IntKind.i64 (0 : Int), IV.int IntKind.u64 (0 : Int), IV.int IntKind.i64 (0 : Int), IV.int IntKind.u64 (0 : Int), IV.int IntKind.i64 t21]) []) (vmay2 [vx t3 t7, vx t5 t9] [] ∧ br (t19 != (0 : Int)) (K (IV.agg [IV.int IntKind.i64 (0 : Int), IV.int IntKind.u64 (0 : Int), IV.int IntKind.i64 (0 : Int), IV.int IntKind.u64 (0 : Int), IV.int IntKind.i64 (0 : Int), IV.int IntKind.u64 (0 : Int), IV.int IntKind.i64 (0 : Int), IV.int IntKind.u64 (0 : Int), IV.int IntKind.i64 t19]) []) (vmay2 [vx x y, vx t11 t13] [] ∧ br (t17 != (0 : Int)) (K (IV.agg [IV.int IntKind.i64 (0 : Int), IV.int IntKind.u64 (0 : Int), IV.int IntKind.i64 (0 : Int), IV.int IntKind.u64 (0 : Int), IV.int IntKind.i64 (0 : Int), IV.int IntKind.u64 (0 : Int), IV.int IntKind.i64 (0 : Int), IV.int IntKind.u64 (0 : Int), IV.int IntKind.i64 t17]) []) (K (IV.agg [IV.int IntKind.i64 (x / (18446744073709551616 : Int)), IV.int IntKind.u64 (x % (18446744073709551616 : Int)), IV.int IntKind.i64 (y / (18446744073709551616 : Int)), IV.int IntKind.u64 (y % (18446744073709551616 : Int)), IV.int IntKind.i64 (n / (18446744073709551616 : Int)), IV.int IntKind.u64 (n % (18446744073709551616 : Int)), IV.int IntKind.i64 (t18 / (18446744073709551616 : Int)), IV.int IntKind.u64 (t18 % (18446744073709551616 : Int)), IV.int IntKind.i64 (0 : Int)]) []))))) := by refine nj ?_; refine nj ?_; refine nm ?_; refine nj ?_; refine nm ?_; refine nj ?_; refine nm ?_; refine nj ?_; refine nm ?_; refine nj ?_; refine nm ?_; refine nj ?_; refine nm ?_; refine nj ?_; refine nm ?_; refine nm ?_; refine nm ?_; refine nm ?_; refine nm ?_; refine nm ?_; refine nm ?_; kernel_rfl
noncomputable def Γtt2 : FuncId → Option Vs.Spec := fun g => if g = f_tether_held then some spHe else if g = f_perigeeref16_closing then some spClo else Γtt1 g
noncomputable def Ntt2 : Know := ⟨Γtt2, fun _ _ => none, fun _ => none⟩
/-- what a tether gives -/
noncomputable def jkT (kx ky lim : Int) : Int × Int × Bool × Bool × Int :=
  if lenE (mulI kx kx) (mulI ky ky) ≠ 0 then (0, 0, false, false, lenE (mulI kx kx) (mulI ky ky)) else
  if cmpI (lenN (mulI kx kx) (mulI ky ky)) lim > 0 then (0, 0, false, true, 0) else (kx, ky, true, false, 0)
noncomputable def jk2 (r s : List Int) (X Y len lim : Int) : Int × Int × Bool × Bool × Int :=
  if e2 X Y ≠ 0 then (0, 0, false, false, e2 X Y) else
  if tApE X Y len ≠ 0 then (0, 0, false, false, tApE X Y len) else
  if tApB X Y len = false then (0, 0, false, false, 0) else
  if ptE r s X Y ≠ 0 then (0, 0, false, false, ptE r s X Y) else
  if cmpI (ptN r s X Y) 0 ≤ 0 then (0, 0, false, false, 0) else
  if hvE r s X Y (tApN X Y) (ptN r s X Y) ≠ 0 then (0, 0, false, false, hvE r s X Y (tApN X Y) (ptN r s X Y)) else
  jkT (hvX r s X Y (tApN X Y) (ptN r s X Y)) (hvY r s X Y (tApN X Y) (ptN r s X Y)) lim
noncomputable def jk (r s : List Int) (len lim : Int) : Int × Int × Bool × Bool × Int := jk2 r s (fr s 4 - fr r 4) (fr s 6 - fr r 6) len lim
noncomputable def jkX (r s : List Int) (len lim : Int) : Int := (jk r s len lim).1
noncomputable def jkY (r s : List Int) (len lim : Int) : Int := (jk r s len lim).2.1
noncomputable def jkP (r s : List Int) (len lim : Int) : Bool := (jk r s len lim).2.2.1
noncomputable def jkB (r s : List Int) (len lim : Int) : Bool := (jk r s len lim).2.2.2.1
noncomputable def jkE (r s : List Int) (len lim : Int) : Int := (jk r s len lim).2.2.2.2
def pJk (l : List IV) (bs : List Blk) : Prop := ∃ a b len lim r s, l = [tetV a b len lim, bodyR r, bodyR s] ∧ bs = [] ∧ mayF len ∧ mayF lim ∧ goodB r ∧ goodB s
noncomputable def spJk : Vs.Spec := ⟨pJk, fun l _ => (.tup [vx (jkX (rowA l 1) (rowA l 2) (lenA l) (limA l)) (jkY (rowA l 1) (rowA l 2) (lenA l) (limA l)), .bool (jkP (rowA l 1) (rowA l 2) (lenA l) (limA l)), .bool (jkB (rowA l 1) (rowA l 2) (lenA l) (limA l)), .int .i64 (jkE (rowA l 1) (rowA l 2) (lenA l) (limA l))], [])⟩
def jerkV (x y : Int) (p b : Bool) (e : Int) : IV := .agg [.int .i64 (x / 18446744073709551616), .int .u64 (x % 18446744073709551616), .int .i64 (y / 18446744073709551616), .int .u64 (y % 18446744073709551616), .bool p, .bool b, .int .i64 e]
noncomputable def spRJk : Vs.Spec := ⟨pJk, fun l _ => (jerkV (jkX (rowA l 1) (rowA l 2) (lenA l) (limA l)) (jkY (rowA l 1) (rowA l 2) (lenA l) (limA l)) (jkP (rowA l 1) (rowA l 2) (lenA l) (limA l)) (jkB (rowA l 1) (rowA l 2) (lenA l) (limA l)) (jkE (rowA l 1) (rowA l 2) (lenA l) (limA l)), [])⟩
theorem v_Jerk (a b len lim : Int) (r s : List Int) (K : IV → List Blk → Prop) : (comes Try.prog Ntt2 3 f_tether_Jerk [tetV a b len lim, bodyR r, bodyR s] [] K) = (∀ (j1 : Int), j1 = lim → ∀ (t2 : Int), t2 = n2 (rd [s] (0 : Nat) (4 : Nat) * (18446744073709551616 : Int) + rd [s] (0 : Nat) (5 : Nat) - (rd [r] (0 : Nat) (4 : Nat) * (18446744073709551616 : Int) + rd [r] (0 : Nat) (5 : Nat))) (rd [s] (0 : Nat) (6 : Nat) * (18446744073709551616 : Int) + rd [s] (0 : Nat) (7 : Nat) - (rd [r] (0 : Nat) (6 : Nat) * (18446744073709551616 : Int) + rd [r] (0 : Nat) (7 : Nat))) (rd [s] (0 : Nat) (4 : Nat) * (18446744073709551616 : Int) + rd [s] (0 : Nat) (5 : Nat) - (rd [r] (0 : Nat) (4 : Nat) * (18446744073709551616 : Int) + rd [r] (0 : Nat) (5 : Nat))) → ∀ (j3 : Int), j3 = t2 → ∀ (t4 : Int), t4 = n2 (rd [s] (0 : Nat) (4 : Nat) * (18446744073709551616 : Int) + rd [s] (0 : Nat) (5 : Nat) - (rd [r] (0 : Nat) (4 : Nat) * (18446744073709551616 : Int) + rd [r] (0 : Nat) (5 : Nat))) (rd [s] (0 : Nat) (6 : Nat) * (18446744073709551616 : Int) + rd [s] (0 : Nat) (7 : Nat) - (rd [r] (0 : Nat) (6 : Nat) * (18446744073709551616 : Int) + rd [r] (0 : Nat) (7 : Nat))) (rd [s] (0 : Nat) (6 : Nat) * (18446744073709551616 : Int) + rd [s] (0 : Nat) (7 : Nat) - (rd [r] (0 : Nat) (6 : Nat) * (18446744073709551616 : Int) + rd [r] (0 : Nat) (7 : Nat))) → ∀ (j5 : Int), j5 = t4 → ∀ (t6 : Int), t6 = tApN j3 j5 → ∀ (j7 : Int), j7 = t6 → ∀ (t8 : Int), t8 = ptN (rowA [IV.agg (rowCells ksB [r] (0 : Nat) (0 : Nat) (20 : Nat)), IV.agg (rowCells ksB [s] (0 : Nat) (0 : Nat) (20 : Nat)), vx t2 t4] (0 : Nat)) (rowA [IV.agg (rowCells ksB [r] (0 : Nat) (0 : Nat) (20 : Nat)), IV.agg (rowCells ksB [s] (0 : Nat) (0 : Nat) (20 : Nat)), vx t2 t4] (1 : Nat)) j3 j5 → ∀ (j9 : Int), j9 = t8 → ∀ (t10 : Int), t10 = hvX (rowA [IV.agg (rowCells ksB [r] (0 : Nat) (0 : Nat) (20 : Nat)), IV.agg (rowCells ksB [s] (0 : Nat) (0 : Nat) (20 : Nat)), vx t2 t4, fx t6, fx t8] (0 : Nat)) (rowA [IV.agg (rowCells ksB [r] (0 : Nat) (0 : Nat) (20 : Nat)), IV.agg (rowCells ksB [s] (0 : Nat) (0 : Nat) (20 : Nat)), vx t2 t4, fx t6, fx t8] (1 : Nat)) j3 j5 j7 j9 → ∀ (j11 : Int), j11 = t10 → ∀ (t12 : Int), t12 = hvY (rowA [IV.agg (rowCells ksB [r] (0 : Nat) (0 : Nat) (20 : Nat)), IV.agg (rowCells ksB [s] (0 : Nat) (0 : Nat) (20 : Nat)), vx t2 t4, fx t6, fx t8] (0 : Nat)) (rowA [IV.agg (rowCells ksB [r] (0 : Nat) (0 : Nat) (20 : Nat)), IV.agg (rowCells ksB [s] (0 : Nat) (0 : Nat) (20 : Nat)), vx t2 t4, fx t6, fx t8] (1 : Nat)) j3 j5 j7 j9 → ∀ (j13 : Int), j13 = t12 → ∀ (t14 : Int), t14 = lenN (mulI j11 j11) (mulI j13 j13) → ∀ (j15 : Int), j15 = t14 → ∀ (t16 : Int), t16 = cmpI j15 j1 → ∀ (t17 : Int), t17 = cmpI j9 (0 : Int) → ∀ (t18 : Int), t18 = lenE (mulI j11 j11) (mulI j13 j13) → ∀ (t19 : Int), t19 = rd [s] (0 : Nat) (4 : Nat) → ∀ (t20 : Int), t20 = rd [s] (0 : Nat) (5 : Nat) → ∀ (t21 : Int), t21 = rd [s] (0 : Nat) (6 : Nat) → ∀ (t22 : Int), t22 = rd [s] (0 : Nat) (7 : Nat) → ∀ (t23 : Int), t23 = rd [r] (0 : Nat) (4 : Nat) → ∀ (t24 : Int), t24 = rd [r] (0 : Nat) (5 : Nat) → ∀ (t25 : Int), t25 = rd [r] (0 : Nat) (6 : Nat) → ∀ (t26 : Int), t26 = rd [r] (0 : Nat) (7 : Nat) → ∀ (t27 : Int), t27 = lenA [IV.agg [IV.int IntKind.i64 a, IV.int IntKind.i64 b, IV.int IntKind.i64 (len / (18446744073709551616 : Int)), IV.int IntKind.u64 (len % (18446744073709551616 : Int)), IV.int IntKind.i64 (lim / (18446744073709551616 : Int)), IV.int IntKind.u64 (lim % (18446744073709551616 : Int))], vx t2 t4] → ∀ (t28 : Int), t28 = tApE j3 j5 t27 → ∀ (t29 : Prop), t29 = K (IV.tup [IV.agg [IV.int IntKind.i64 (0 : Int), IV.int IntKind.u64 (0 : Int), IV.int IntKind.i64 (0 : Int), IV.int IntKind.u64 (0 : Int)], IV.bool false, IV.bool false, IV.int IntKind.i64 t28]) [] → ∀ (t30 : Int), t30 = e2 (t19 * (18446744073709551616 : Int) + t20 - (t23 * (18446744073709551616 : Int) + t24)) (t21 * (18446744073709551616 : Int) + t22 - (t25 * (18446744073709551616 : Int) + t26)) → ∀ (t31 : Int), t31 = ptE (rowA [IV.agg (rowCells ksB [r] (0 : Nat) (0 : Nat) (20 : Nat)), IV.agg (rowCells ksB [s] (0 : Nat) (0 : Nat) (20 : Nat)), vx t2 t4] (0 : Nat)) (rowA [IV.agg (rowCells ksB [r] (0 : Nat) (0 : Nat) (20 : Nat)), IV.agg (rowCells ksB [s] (0 : Nat) (0 : Nat) (20 : Nat)), vx t2 t4] (1 : Nat)) j3 j5 → ∀ (t32 : Prop), t32 = K (IV.tup [IV.agg [IV.int IntKind.i64 (0 : Int), IV.int IntKind.u64 (0 : Int), IV.int IntKind.i64 (0 : Int), IV.int IntKind.u64 (0 : Int)], IV.bool false, IV.bool false, IV.int IntKind.i64 t31]) [] → ∀ (t33 : Int), t33 = hvE (rowA [IV.agg (rowCells ksB [r] (0 : Nat) (0 : Nat) (20 : Nat)), IV.agg (rowCells ksB [s] (0 : Nat) (0 : Nat) (20 : Nat)), vx t2 t4, fx t6, fx t8] (0 : Nat)) (rowA [IV.agg (rowCells ksB [r] (0 : Nat) (0 : Nat) (20 : Nat)), IV.agg (rowCells ksB [s] (0 : Nat) (0 : Nat) (20 : Nat)), vx t2 t4, fx t6, fx t8] (1 : Nat)) j3 j5 j7 j9 → vmay2 [IV.agg [IV.int IntKind.i64 t19, IV.int IntKind.u64 t20, IV.int IntKind.i64 t21, IV.int IntKind.u64 t22], IV.agg [IV.int IntKind.i64 t23, IV.int IntKind.u64 t24, IV.int IntKind.i64 t25, IV.int IntKind.u64 t26]] [] ∧ br (t30 != (0 : Int)) (K (IV.tup [IV.agg [IV.int IntKind.i64 (0 : Int), IV.int IntKind.u64 (0 : Int), IV.int IntKind.i64 (0 : Int), IV.int IntKind.u64 (0 : Int)], IV.bool false, IV.bool false, IV.int IntKind.i64 t30]) []) (pAp [IV.agg [IV.int IntKind.i64 a, IV.int IntKind.i64 b, IV.int IntKind.i64 (len / (18446744073709551616 : Int)), IV.int IntKind.u64 (len % (18446744073709551616 : Int)), IV.int IntKind.i64 (lim / (18446744073709551616 : Int)), IV.int IntKind.u64 (lim % (18446744073709551616 : Int))], vx t2 t4] [] ∧ br (t28 != (0 : Int)) t29 (br (!tApB j3 j5 t27) t29 (pPt [IV.agg (rowCells ksB [r] (0 : Nat) (0 : Nat) (20 : Nat)), IV.agg (rowCells ksB [s] (0 : Nat) (0 : Nat) (20 : Nat)), vx t2 t4] [] ∧ br (t31 != (0 : Int)) t32 (preFF [fx t8, IV.agg [IV.int IntKind.i64 (0 : Int), IV.int IntKind.u64 (0 : Int)]] [] ∧ br (decide (t17 ≤ (0 : Int))) t32 (pHe [IV.agg (rowCells ksB [r] (0 : Nat) (0 : Nat) (20 : Nat)), IV.agg (rowCells ksB [s] (0 : Nat) (0 : Nat) (20 : Nat)), vx t2 t4, fx t6, fx t8] [] ∧ br (t33 != (0 : Int)) (K (IV.tup [IV.agg [IV.int IntKind.i64 (0 : Int), IV.int IntKind.u64 (0 : Int), IV.int IntKind.i64 (0 : Int), IV.int IntKind.u64 (0 : Int)], IV.bool false, IV.bool false, IV.int IntKind.i64 t33]) []) (vmay1 [vx t10 t12] [] ∧ br (t18 != (0 : Int)) (K (IV.tup [IV.agg [IV.int IntKind.i64 (0 : Int), IV.int IntKind.u64 (0 : Int), IV.int IntKind.i64 (0 : Int), IV.int IntKind.u64 (0 : Int)], IV.bool false, IV.bool false, IV.int IntKind.i64 t18]) []) (preFF [fx t14, fx lim] [] ∧ br (decide (t16 > (0 : Int))) (K (IV.tup [IV.agg [IV.int IntKind.i64 (0 : Int), IV.int IntKind.u64 (0 : Int), IV.int IntKind.i64 (0 : Int), IV.int IntKind.u64 (0 : Int)], IV.bool false, IV.bool true, IV.int IntKind.i64 (0 : Int)]) []) (K (IV.tup [vx t10 t12, IV.bool true, IV.bool false, IV.int IntKind.i64 (0 : Int)]) []))))))))) := by refine nj ?_; refine nm ?_; refine nj ?_; refine nm ?_; refine nj ?_; refine nm ?_; refine nj ?_; refine nm ?_; refine nj ?_; refine nm ?_; refine nj ?_; refine nm ?_; refine nj ?_; refine nm ?_; refine nj ?_; refine nm ?_; refine nm ?_; refine nm ?_; refine nm ?_; refine nm ?_; refine nm ?_; refine nm ?_; refine nm ?_; refine nm ?_; refine nm ?_; refine nm ?_; refine nm ?_; refine nm ?_; refine nm ?_; refine nm ?_; refine nm ?_; refine nm ?_; refine nm ?_; kernel_rfl
theorem v_RJerk (a b len lim : Int) (r s : List Int) (K : IV → List Blk → Prop) : (comes Try.prog Ntt2 3 f_perigeeref16_Jerk [tetV a b len lim, bodyR r, bodyR s] [] K) = (∀ (j1 : Int), j1 = len → ∀ (j2 : Int), j2 = lim → ∀ (t3 : Int), t3 = numF (mulI j1 j1) → ∀ (j4 : Int), j4 = t3 → ∀ (t5 : Int), t5 = n2 (rd [s] (0 : Nat) (4 : Nat) * (18446744073709551616 : Int) + rd [s] (0 : Nat) (5 : Nat) - (rd [r] (0 : Nat) (4 : Nat) * (18446744073709551616 : Int) + rd [r] (0 : Nat) (5 : Nat))) (rd [s] (0 : Nat) (6 : Nat) * (18446744073709551616 : Int) + rd [s] (0 : Nat) (7 : Nat) - (rd [r] (0 : Nat) (6 : Nat) * (18446744073709551616 : Int) + rd [r] (0 : Nat) (7 : Nat))) (rd [s] (0 : Nat) (4 : Nat) * (18446744073709551616 : Int) + rd [s] (0 : Nat) (5 : Nat) - (rd [r] (0 : Nat) (4 : Nat) * (18446744073709551616 : Int) + rd [r] (0 : Nat) (5 : Nat))) → ∀ (j6 : Int), j6 = t5 → ∀ (t7 : Int), t7 = n2 (rd [s] (0 : Nat) (4 : Nat) * (18446744073709551616 : Int) + rd [s] (0 : Nat) (5 : Nat) - (rd [r] (0 : Nat) (4 : Nat) * (18446744073709551616 : Int) + rd [r] (0 : Nat) (5 : Nat))) (rd [s] (0 : Nat) (6 : Nat) * (18446744073709551616 : Int) + rd [s] (0 : Nat) (7 : Nat) - (rd [r] (0 : Nat) (6 : Nat) * (18446744073709551616 : Int) + rd [r] (0 : Nat) (7 : Nat))) (rd [s] (0 : Nat) (6 : Nat) * (18446744073709551616 : Int) + rd [s] (0 : Nat) (7 : Nat) - (rd [r] (0 : Nat) (6 : Nat) * (18446744073709551616 : Int) + rd [r] (0 : Nat) (7 : Nat))) → ∀ (j8 : Int), j8 = t7 → ∀ (t9 : Int), t9 = dotN (mulI j6 j6) (mulI j8 j8) → ∀ (j10 : Int), j10 = t9 → ∀ (t11 : Int), t11 = maN (rowA [IV.agg (rowCells ksB [r] (0 : Nat) (0 : Nat) (20 : Nat)), IV.agg (rowCells ksB [s] (0 : Nat) (0 : Nat) (20 : Nat))] (0 : Nat)) (rowA [IV.agg (rowCells ksB [r] (0 : Nat) (0 : Nat) (20 : Nat)), IV.agg (rowCells ksB [s] (0 : Nat) (0 : Nat) (20 : Nat))] (1 : Nat)) → ∀ (j12 : Int), j12 = t11 → ∀ (t13 : Int), t13 = ptN (rowA [IV.agg (rowCells ksB [r] (0 : Nat) (0 : Nat) (20 : Nat)), IV.agg (rowCells ksB [s] (0 : Nat) (0 : Nat) (20 : Nat)), IV.agg [IV.int IntKind.i64 (t5 / (18446744073709551616 : Int)), IV.int IntKind.u64 (t5 % (18446744073709551616 : Int)), IV.int IntKind.i64 (t7 / (18446744073709551616 : Int)), IV.int IntKind.u64 (t7 % (18446744073709551616 : Int)), IV.int IntKind.i64 (t9 / (18446744073709551616 : Int)), IV.int IntKind.u64 (t9 % (18446744073709551616 : Int)), IV.int IntKind.i64 (0 : Int), IV.int IntKind.u64 (0 : Int), IV.int IntKind.i64 (0 : Int)]] (0 : Nat)) (rowA [IV.agg (rowCells ksB [r] (0 : Nat) (0 : Nat) (20 : Nat)), IV.agg (rowCells ksB [s] (0 : Nat) (0 : Nat) (20 : Nat)), IV.agg [IV.int IntKind.i64 (t5 / (18446744073709551616 : Int)), IV.int IntKind.u64 (t5 % (18446744073709551616 : Int)), IV.int IntKind.i64 (t7 / (18446744073709551616 : Int)), IV.int IntKind.u64 (t7 % (18446744073709551616 : Int)), IV.int IntKind.i64 (t9 / (18446744073709551616 : Int)), IV.int IntKind.u64 (t9 % (18446744073709551616 : Int)), IV.int IntKind.i64 (0 : Int), IV.int IntKind.u64 (0 : Int), IV.int IntKind.i64 (0 : Int)]] (1 : Nat)) j6 j8 → ∀ (j14 : Int), j14 = t13 → ∀ (t15 : Int), t15 = numF (mulI j12 j14) → ∀ (j16 : Int), j16 = t15 → ∀ (t17 : Int), t17 = clX (rowA [IV.agg (rowCells ksB [r] (0 : Nat) (0 : Nat) (20 : Nat)), IV.agg (rowCells ksB [s] (0 : Nat) (0 : Nat) (20 : Nat)), IV.agg [IV.int IntKind.i64 (t5 / (18446744073709551616 : Int)), IV.int IntKind.u64 (t5 % (18446744073709551616 : Int)), IV.int IntKind.i64 (t7 / (18446744073709551616 : Int)), IV.int IntKind.u64 (t7 % (18446744073709551616 : Int)), IV.int IntKind.i64 (t9 / (18446744073709551616 : Int)), IV.int IntKind.u64 (t9 % (18446744073709551616 : Int)), IV.int IntKind.i64 (0 : Int), IV.int IntKind.u64 (0 : Int), IV.int IntKind.i64 (0 : Int)]] (0 : Nat)) (rowA [IV.agg (rowCells ksB [r] (0 : Nat) (0 : Nat) (20 : Nat)), IV.agg (rowCells ksB [s] (0 : Nat) (0 : Nat) (20 : Nat)), IV.agg [IV.int IntKind.i64 (t5 / (18446744073709551616 : Int)), IV.int IntKind.u64 (t5 % (18446744073709551616 : Int)), IV.int IntKind.i64 (t7 / (18446744073709551616 : Int)), IV.int IntKind.u64 (t7 % (18446744073709551616 : Int)), IV.int IntKind.i64 (t9 / (18446744073709551616 : Int)), IV.int IntKind.u64 (t9 % (18446744073709551616 : Int)), IV.int IntKind.i64 (0 : Int), IV.int IntKind.u64 (0 : Int), IV.int IntKind.i64 (0 : Int)]] (1 : Nat)) j6 j8 → ∀ (j18 : Int), j18 = t17 → ∀ (t19 : Int), t19 = clY (rowA [IV.agg (rowCells ksB [r] (0 : Nat) (0 : Nat) (20 : Nat)), IV.agg (rowCells ksB [s] (0 : Nat) (0 : Nat) (20 : Nat)), IV.agg [IV.int IntKind.i64 (t5 / (18446744073709551616 : Int)), IV.int IntKind.u64 (t5 % (18446744073709551616 : Int)), IV.int IntKind.i64 (t7 / (18446744073709551616 : Int)), IV.int IntKind.u64 (t7 % (18446744073709551616 : Int)), IV.int IntKind.i64 (t9 / (18446744073709551616 : Int)), IV.int IntKind.u64 (t9 % (18446744073709551616 : Int)), IV.int IntKind.i64 (0 : Int), IV.int IntKind.u64 (0 : Int), IV.int IntKind.i64 (0 : Int)]] (0 : Nat)) (rowA [IV.agg (rowCells ksB [r] (0 : Nat) (0 : Nat) (20 : Nat)), IV.agg (rowCells ksB [s] (0 : Nat) (0 : Nat) (20 : Nat)), IV.agg [IV.int IntKind.i64 (t5 / (18446744073709551616 : Int)), IV.int IntKind.u64 (t5 % (18446744073709551616 : Int)), IV.int IntKind.i64 (t7 / (18446744073709551616 : Int)), IV.int IntKind.u64 (t7 % (18446744073709551616 : Int)), IV.int IntKind.i64 (t9 / (18446744073709551616 : Int)), IV.int IntKind.u64 (t9 % (18446744073709551616 : Int)), IV.int IntKind.i64 (0 : Int), IV.int IntKind.u64 (0 : Int), IV.int IntKind.i64 (0 : Int)]] (1 : Nat)) j6 j8 → ∀ (j20 : Int), j20 = t19 → ∀ (t21 : Int), t21 = n2 (mulI j18 j16) (mulI j20 j16) (mulI j18 j16) → ∀ (j22 : Int), j22 = t21 → ∀ (t23 : Int), t23 = n2 (mulI j18 j16) (mulI j20 j16) (mulI j20 j16) → ∀ (j24 : Int), j24 = t23 → ∀ (t25 : Int), t25 = lenN (mulI j22 j22) (mulI j24 j24) → ∀ (j26 : Int), j26 = t25 → ∀ (t27 : Int), t27 = n2 (mulI j18 j12) (mulI j20 j12) (mulI j18 j12) → ∀ (j28 : Int), j28 = t27 → ∀ (t29 : Int), t29 = n2 (mulI j18 j12) (mulI j20 j12) (mulI j20 j12) → ∀ (j30 : Int), j30 = t29 → ∀ (t31 : Int), t31 = lenN (mulI j28 j28) (mulI j30 j30) → ∀ (j32 : Int), j32 = t31 → ∀ (t33 : Int), t33 = clL (rowA [IV.agg (rowCells ksB [r] (0 : Nat) (0 : Nat) (20 : Nat)), IV.agg (rowCells ksB [s] (0 : Nat) (0 : Nat) (20 : Nat)), IV.agg [IV.int IntKind.i64 (t5 / (18446744073709551616 : Int)), IV.int IntKind.u64 (t5 % (18446744073709551616 : Int)), IV.int IntKind.i64 (t7 / (18446744073709551616 : Int)), IV.int IntKind.u64 (t7 % (18446744073709551616 : Int)), IV.int IntKind.i64 (t9 / (18446744073709551616 : Int)), IV.int IntKind.u64 (t9 % (18446744073709551616 : Int)), IV.int IntKind.i64 (0 : Int), IV.int IntKind.u64 (0 : Int), IV.int IntKind.i64 (0 : Int)]] (0 : Nat)) (rowA [IV.agg (rowCells ksB [r] (0 : Nat) (0 : Nat) (20 : Nat)), IV.agg (rowCells ksB [s] (0 : Nat) (0 : Nat) (20 : Nat)), IV.agg [IV.int IntKind.i64 (t5 / (18446744073709551616 : Int)), IV.int IntKind.u64 (t5 % (18446744073709551616 : Int)), IV.int IntKind.i64 (t7 / (18446744073709551616 : Int)), IV.int IntKind.u64 (t7 % (18446744073709551616 : Int)), IV.int IntKind.i64 (t9 / (18446744073709551616 : Int)), IV.int IntKind.u64 (t9 % (18446744073709551616 : Int)), IV.int IntKind.i64 (0 : Int), IV.int IntKind.u64 (0 : Int), IV.int IntKind.i64 (0 : Int)]] (1 : Nat)) j6 j8 (mL [IV.agg (rowCells ksB [r] (0 : Nat) (0 : Nat) (20 : Nat)), IV.agg (rowCells ksB [s] (0 : Nat) (0 : Nat) (20 : Nat)), IV.agg [IV.int IntKind.i64 (t5 / (18446744073709551616 : Int)), IV.int IntKind.u64 (t5 % (18446744073709551616 : Int)), IV.int IntKind.i64 (t7 / (18446744073709551616 : Int)), IV.int IntKind.u64 (t7 % (18446744073709551616 : Int)), IV.int IntKind.i64 (t9 / (18446744073709551616 : Int)), IV.int IntKind.u64 (t9 % (18446744073709551616 : Int)), IV.int IntKind.i64 (0 : Int), IV.int IntKind.u64 (0 : Int), IV.int IntKind.i64 (0 : Int)]] (2 : Nat)) → ∀ (j34 : Int), j34 = t33 → ∀ (t35 : Int), t35 = divN j16 j34 → ∀ (j36 : Int), j36 = t35 → ∀ (t37 : Int), t37 = divN j12 j34 → ∀ (j38 : Int), j38 = t37 → ∀ (t39 : Int), t39 = n2 (mulI j18 j36) (mulI j20 j36) (mulI j18 j36) → ∀ (j40 : Int), j40 = t39 → ∀ (t41 : Int), t41 = n2 (mulI j18 j36) (mulI j20 j36) (mulI j20 j36) → ∀ (j42 : Int), j42 = t41 → ∀ (t43 : Int), t43 = lenN (mulI j40 j40) (mulI j42 j42) → ∀ (j44 : Int), j44 = t43 → ∀ (t45 : Int), t45 = n2 (mulI j18 j38) (mulI j20 j38) (mulI j18 j38) → ∀ (j46 : Int), j46 = t45 → ∀ (t47 : Int), t47 = n2 (mulI j18 j38) (mulI j20 j38) (mulI j20 j38) → ∀ (j48 : Int), j48 = t47 → ∀ (t49 : Int), t49 = lenN (mulI j46 j46) (mulI j48 j48) → ∀ (j50 : Int), j50 = t49 → ∀ (t51 : Int), t51 = cmpI j10 j4 → ∀ (t52 : Int), t52 = divE j16 j34 → ∀ (t53 : Int), t53 = cmpI j44 j2 → ∀ (t54 : Int), t54 = cmpI j26 j2 → ∀ (t55 : Int), t55 = divE j12 j34 → ∀ (t56 : Int), t56 = cmpI j50 j2 → ∀ (t57 : Int), t57 = cmpI j32 j2 → ∀ (t58 : Int), t58 = errF (mulI j1 j1) → ∀ (t59 : Int), t59 = errF (mulI j12 j14) → ∀ (t60 : Int), t60 = dotE (mulI j6 j6) (mulI j8 j8) → ∀ (t61 : Int), t61 = cmpI j14 (0 : Int) → ∀ (t62 : Int), t62 = e2 (mulI j18 j36) (mulI j20 j36) → ∀ (t63 : Int), t63 = lenE (mulI j40 j40) (mulI j42 j42) → ∀ (t64 : Int), t64 = e2 (mulI j18 j16) (mulI j20 j16) → ∀ (t65 : Int), t65 = lenE (mulI j22 j22) (mulI j24 j24) → ∀ (t66 : Int), t66 = e2 (mulI j18 j38) (mulI j20 j38) → ∀ (t67 : Int), t67 = lenE (mulI j46 j46) (mulI j48 j48) → ∀ (t68 : Int), t68 = e2 (mulI j18 j12) (mulI j20 j12) → ∀ (t69 : Int), t69 = lenE (mulI j28 j28) (mulI j30 j30) → ∀ (t70 : Int), t70 = rd [s] (0 : Nat) (4 : Nat) → ∀ (t71 : Int), t71 = rd [s] (0 : Nat) (5 : Nat) → ∀ (t72 : Int), t72 = rd [s] (0 : Nat) (6 : Nat) → ∀ (t73 : Int), t73 = rd [s] (0 : Nat) (7 : Nat) → ∀ (t74 : Int), t74 = rd [r] (0 : Nat) (4 : Nat) → ∀ (t75 : Int), t75 = rd [r] (0 : Nat) (5 : Nat) → ∀ (t76 : Int), t76 = rd [r] (0 : Nat) (6 : Nat) → ∀ (t77 : Int), t77 = rd [r] (0 : Nat) (7 : Nat) → ∀ (t78 : Prop), t78 = K (IV.agg [IV.int IntKind.i64 (0 : Int), IV.int IntKind.u64 (0 : Int), IV.int IntKind.i64 (0 : Int), IV.int IntKind.u64 (0 : Int), IV.bool false, IV.bool false, IV.int IntKind.i64 t58]) [] → ∀ (t79 : Prop), t79 = K (IV.agg [IV.int IntKind.i64 (0 : Int), IV.int IntKind.u64 (0 : Int), IV.int IntKind.i64 (0 : Int), IV.int IntKind.u64 (0 : Int), IV.bool false, IV.bool true, IV.int IntKind.i64 (0 : Int)]) [] → ∀ (t80 : Int), t80 = e2 (t70 * (18446744073709551616 : Int) + t71 - (t74 * (18446744073709551616 : Int) + t75)) (t72 * (18446744073709551616 : Int) + t73 - (t76 * (18446744073709551616 : Int) + t77)) → ∀ (t81 : Int), t81 = maE (rowA [IV.agg (rowCells ksB [r] (0 : Nat) (0 : Nat) (20 : Nat)), IV.agg (rowCells ksB [s] (0 : Nat) (0 : Nat) (20 : Nat))] (0 : Nat)) (rowA [IV.agg (rowCells ksB [r] (0 : Nat) (0 : Nat) (20 : Nat)), IV.agg (rowCells ksB [s] (0 : Nat) (0 : Nat) (20 : Nat))] (1 : Nat)) → ∀ (t82 : Int), t82 = ptE (rowA [IV.agg (rowCells ksB [r] (0 : Nat) (0 : Nat) (20 : Nat)), IV.agg (rowCells ksB [s] (0 : Nat) (0 : Nat) (20 : Nat)), IV.agg [IV.int IntKind.i64 (t5 / (18446744073709551616 : Int)), IV.int IntKind.u64 (t5 % (18446744073709551616 : Int)), IV.int IntKind.i64 (t7 / (18446744073709551616 : Int)), IV.int IntKind.u64 (t7 % (18446744073709551616 : Int)), IV.int IntKind.i64 (t9 / (18446744073709551616 : Int)), IV.int IntKind.u64 (t9 % (18446744073709551616 : Int)), IV.int IntKind.i64 (0 : Int), IV.int IntKind.u64 (0 : Int), IV.int IntKind.i64 (0 : Int)]] (0 : Nat)) (rowA [IV.agg (rowCells ksB [r] (0 : Nat) (0 : Nat) (20 : Nat)), IV.agg (rowCells ksB [s] (0 : Nat) (0 : Nat) (20 : Nat)), IV.agg [IV.int IntKind.i64 (t5 / (18446744073709551616 : Int)), IV.int IntKind.u64 (t5 % (18446744073709551616 : Int)), IV.int IntKind.i64 (t7 / (18446744073709551616 : Int)), IV.int IntKind.u64 (t7 % (18446744073709551616 : Int)), IV.int IntKind.i64 (t9 / (18446744073709551616 : Int)), IV.int IntKind.u64 (t9 % (18446744073709551616 : Int)), IV.int IntKind.i64 (0 : Int), IV.int IntKind.u64 (0 : Int), IV.int IntKind.i64 (0 : Int)]] (1 : Nat)) j6 j8 → ∀ (t83 : Prop), t83 = K (IV.agg [IV.int IntKind.i64 (0 : Int), IV.int IntKind.u64 (0 : Int), IV.int IntKind.i64 (0 : Int), IV.int IntKind.u64 (0 : Int), IV.bool false, IV.bool false, IV.int IntKind.i64 t82]) [] → vmay2 [IV.agg [IV.int IntKind.i64 t70, IV.int IntKind.u64 t71, IV.int IntKind.i64 t72, IV.int IntKind.u64 t73], IV.agg [IV.int IntKind.i64 t74, IV.int IntKind.u64 t75, IV.int IntKind.i64 t76, IV.int IntKind.u64 t77]] [] ∧ br (t80 != (0 : Int)) (K (IV.agg [IV.int IntKind.i64 (0 : Int), IV.int IntKind.u64 (0 : Int), IV.int IntKind.i64 (0 : Int), IV.int IntKind.u64 (0 : Int), IV.bool false, IV.bool false, IV.int IntKind.i64 t80]) []) (vmay1 [vx t5 t7] [] ∧ br (t60 != (0 : Int)) (K (IV.agg [IV.int IntKind.i64 (0 : Int), IV.int IntKind.u64 (0 : Int), IV.int IntKind.i64 (0 : Int), IV.int IntKind.u64 (0 : Int), IV.bool false, IV.bool false, IV.int IntKind.i64 t60]) []) (may2 [fx len, fx len] [] ∧ br (t58 != (0 : Int)) t78 (preFF [fx t9, fx t3] [] ∧ br (decide (t51 ≤ (0 : Int))) t78 (pClo [IV.agg (rowCells ksB [r] (0 : Nat) (0 : Nat) (20 : Nat)), IV.agg (rowCells ksB [s] (0 : Nat) (0 : Nat) (20 : Nat)), IV.agg [IV.int IntKind.i64 (t5 / (18446744073709551616 : Int)), IV.int IntKind.u64 (t5 % (18446744073709551616 : Int)), IV.int IntKind.i64 (t7 / (18446744073709551616 : Int)), IV.int IntKind.u64 (t7 % (18446744073709551616 : Int)), IV.int IntKind.i64 (t9 / (18446744073709551616 : Int)), IV.int IntKind.u64 (t9 % (18446744073709551616 : Int)), IV.int IntKind.i64 (0 : Int), IV.int IntKind.u64 (0 : Int), IV.int IntKind.i64 (0 : Int)]] [] ∧ br (t82 != (0 : Int)) t83 (preFF [fx t13, IV.agg [IV.int IntKind.i64 (0 : Int), IV.int IntKind.u64 (0 : Int)]] [] ∧ br (decide (t61 ≤ (0 : Int))) t83 (pTm [IV.agg (rowCells ksB [r] (0 : Nat) (0 : Nat) (20 : Nat)), IV.agg (rowCells ksB [s] (0 : Nat) (0 : Nat) (20 : Nat))] [] ∧ br (t81 == (0 : Int)) (may2 [fx t11, fx t13] [] ∧ br (t59 == (0 : Int)) (may2 [fx t15, fx t33] [] ∧ br (t52 != (0 : Int)) (K (IV.agg [IV.int IntKind.i64 (0 : Int), IV.int IntKind.u64 (0 : Int), IV.int IntKind.i64 (0 : Int), IV.int IntKind.u64 (0 : Int), IV.bool false, IV.bool false, IV.int IntKind.i64 t52]) []) (vmayk [vx t17 t19, fx t35] [] ∧ br (t62 != (0 : Int)) (K (IV.agg [IV.int IntKind.i64 (0 : Int), IV.int IntKind.u64 (0 : Int), IV.int IntKind.i64 (0 : Int), IV.int IntKind.u64 (0 : Int), IV.bool false, IV.bool false, IV.int IntKind.i64 t62]) []) (vmay1 [vx t39 t41] [] ∧ br (t63 != (0 : Int)) (K (IV.agg [IV.int IntKind.i64 (0 : Int), IV.int IntKind.u64 (0 : Int), IV.int IntKind.i64 (0 : Int), IV.int IntKind.u64 (0 : Int), IV.bool false, IV.bool false, IV.int IntKind.i64 t63]) []) (preFF [fx t43, fx lim] [] ∧ br (decide (t53 > (0 : Int))) t79 (K (IV.agg [IV.int IntKind.i64 (t39 / (18446744073709551616 : Int)), IV.int IntKind.u64 (t39 % (18446744073709551616 : Int)), IV.int IntKind.i64 (t41 / (18446744073709551616 : Int)), IV.int IntKind.u64 (t41 % (18446744073709551616 : Int)), IV.bool true, IV.bool false, IV.int IntKind.i64 (0 : Int)]) []))))) (br (t59 != (0 : Int)) (K (IV.agg [IV.int IntKind.i64 (0 : Int), IV.int IntKind.u64 (0 : Int), IV.int IntKind.i64 (0 : Int), IV.int IntKind.u64 (0 : Int), IV.bool false, IV.bool false, IV.int IntKind.i64 t59]) []) (vmayk [vx t17 t19, fx t15] [] ∧ br (t64 != (0 : Int)) (K (IV.agg [IV.int IntKind.i64 (0 : Int), IV.int IntKind.u64 (0 : Int), IV.int IntKind.i64 (0 : Int), IV.int IntKind.u64 (0 : Int), IV.bool false, IV.bool false, IV.int IntKind.i64 t64]) []) (vmay1 [vx t21 t23] [] ∧ br (t65 != (0 : Int)) (K (IV.agg [IV.int IntKind.i64 (0 : Int), IV.int IntKind.u64 (0 : Int), IV.int IntKind.i64 (0 : Int), IV.int IntKind.u64 (0 : Int), IV.bool false, IV.bool false, IV.int IntKind.i64 t65]) []) (preFF [fx t25, fx lim] [] ∧ br (decide (t54 > (0 : Int))) t79 (K (IV.agg [IV.int IntKind.i64 (t21 / (18446744073709551616 : Int)), IV.int IntKind.u64 (t21 % (18446744073709551616 : Int)), IV.int IntKind.i64 (t23 / (18446744073709551616 : Int)), IV.int IntKind.u64 (t23 % (18446744073709551616 : Int)), IV.bool true, IV.bool false, IV.int IntKind.i64 (0 : Int)]) [])))))) (br (t81 == (0 : Int)) (may2 [fx t11, fx t33] [] ∧ br (t55 != (0 : Int)) (K (IV.agg [IV.int IntKind.i64 (0 : Int), IV.int IntKind.u64 (0 : Int), IV.int IntKind.i64 (0 : Int), IV.int IntKind.u64 (0 : Int), IV.bool false, IV.bool false, IV.int IntKind.i64 t55]) []) (vmayk [vx t17 t19, fx t37] [] ∧ br (t66 != (0 : Int)) (K (IV.agg [IV.int IntKind.i64 (0 : Int), IV.int IntKind.u64 (0 : Int), IV.int IntKind.i64 (0 : Int), IV.int IntKind.u64 (0 : Int), IV.bool false, IV.bool false, IV.int IntKind.i64 t66]) []) (vmay1 [vx t45 t47] [] ∧ br (t67 != (0 : Int)) (K (IV.agg [IV.int IntKind.i64 (0 : Int), IV.int IntKind.u64 (0 : Int), IV.int IntKind.i64 (0 : Int), IV.int IntKind.u64 (0 : Int), IV.bool false, IV.bool false, IV.int IntKind.i64 t67]) []) (preFF [fx t49, fx lim] [] ∧ br (decide (t56 > (0 : Int))) t79 (K (IV.agg [IV.int IntKind.i64 (t45 / (18446744073709551616 : Int)), IV.int IntKind.u64 (t45 % (18446744073709551616 : Int)), IV.int IntKind.i64 (t47 / (18446744073709551616 : Int)), IV.int IntKind.u64 (t47 % (18446744073709551616 : Int)), IV.bool true, IV.bool false, IV.int IntKind.i64 (0 : Int)]) []))))) (br (t81 != (0 : Int)) (K (IV.agg [IV.int IntKind.i64 (0 : Int), IV.int IntKind.u64 (0 : Int), IV.int IntKind.i64 (0 : Int), IV.int IntKind.u64 (0 : Int), IV.bool false, IV.bool false, IV.int IntKind.i64 t81]) []) (vmayk [vx t17 t19, fx t11] [] ∧ br (t68 != (0 : Int)) (K (IV.agg [IV.int IntKind.i64 (0 : Int), IV.int IntKind.u64 (0 : Int), IV.int IntKind.i64 (0 : Int), IV.int IntKind.u64 (0 : Int), IV.bool false, IV.bool false, IV.int IntKind.i64 t68]) []) (vmay1 [vx t27 t29] [] ∧ br (t69 != (0 : Int)) (K (IV.agg [IV.int IntKind.i64 (0 : Int), IV.int IntKind.u64 (0 : Int), IV.int IntKind.i64 (0 : Int), IV.int IntKind.u64 (0 : Int), IV.bool false, IV.bool false, IV.int IntKind.i64 t69]) []) (preFF [fx t31, fx lim] [] ∧ br (decide (t57 > (0 : Int))) t79 (K (IV.agg [IV.int IntKind.i64 (t27 / (18446744073709551616 : Int)), IV.int IntKind.u64 (t27 % (18446744073709551616 : Int)), IV.int IntKind.i64 (t29 / (18446744073709551616 : Int)), IV.int IntKind.u64 (t29 % (18446744073709551616 : Int)), IV.bool true, IV.bool false, IV.int IntKind.i64 (0 : Int)]) []))))))))))))) := by refine nj ?_; refine nj ?_; refine nm ?_; refine nj ?_; refine nm ?_; refine nj ?_; refine nm ?_; refine nj ?_; refine nm ?_; refine nj ?_; refine nm ?_; refine nj ?_; refine nm ?_; refine nj ?_; refine nm ?_; refine nj ?_; refine nm ?_; refine nj ?_; refine nm ?_; refine nj ?_; refine nm ?_; refine nj ?_; refine nm ?_; refine nj ?_; refine nm ?_; refine nj ?_; refine nm ?_; refine nj ?_; refine nm ?_; refine nj ?_; refine nm ?_; refine nj ?_; refine nm ?_; refine nj ?_; refine nm ?_; refine nj ?_; refine nm ?_; refine nj ?_; refine nm ?_; refine nj ?_; refine nm ?_; refine nj ?_; refine nm ?_; refine nj ?_; refine nm ?_; refine nj ?_; refine nm ?_; refine nj ?_; refine nm ?_; refine nj ?_; refine nm ?_; refine nm ?_; refine nm ?_; refine nm ?_; refine nm ?_; refine nm ?_; refine nm ?_; refine nm ?_; refine nm ?_; refine nm ?_; refine nm ?_; refine nm ?_; refine nm ?_; refine nm ?_; refine nm ?_; refine nm ?_; refine nm ?_; refine nm ?_; refine nm ?_; refine nm ?_; refine nm ?_; refine nm ?_; refine nm ?_; refine nm ?_; refine nm ?_; refine nm ?_; refine nm ?_; refine nm ?_; refine nm ?_; refine nm ?_; refine nm ?_; refine nm ?_; refine nm ?_; kernel_rfl
end Go.Vs.RF


set_option linter.unusedVariables false
set_option linter.unusedSimpArgs false
set_option maxRecDepth 100000
/- tether: parting, mass, apart, held; the document's closing, reduced -/
namespace Go.Vs.RF
open Go Go.Proofs Go.Vs Go.IntWalk

theorem ctrse2t : ∀ {g : FuncId} {sp : Vs.Spec}, Γe2 g = some sp → Contract Try.prog g sp := ctrse2
theorem knowe2t : KnowOk Try.prog Ne2 3 := knowOf (fun g sp h => ctrse2 h) (fun _ _ => rfl) (fun _ => rfl) 3
theorem rA0 {r : List Int} (h : r.length = 20) (l : List IV) : rowA (IV.agg (rowCells ksB [r] 0 0 20) :: l) 0 = r := rowA_body _ 0 r h rfl
theorem rA1 {s : List Int} (h : s.length = 20) (a : IV) (l : List IV) : rowA (a :: IV.agg (rowCells ksB [s] 0 0 20) :: l) 1 = s := rowA_body _ 1 s h rfl
theorem rA2 {s : List Int} (h : s.length = 20) (a b : IV) (l : List IV) : rowA (a :: b :: IV.agg (rowCells ksB [s] 0 0 20) :: l) 2 = s := rowA_body _ 2 s h rfl
theorem rB0 {r : List Int} (h : r.length = 20) (l : List IV) : rowA (bodyR r :: l) 0 = r := rowA_body _ 0 r h rfl
theorem rB1 {s : List Int} (h : s.length = 20) (a : IV) (l : List IV) : rowA (a :: bodyR s :: l) 1 = s := rowA_body _ 1 s h rfl
theorem rB2 {s : List Int} (h : s.length = 20) (a b : IV) (l : List IV) : rowA (a :: b :: bodyR s :: l) 2 = s := rowA_body _ 2 s h rfl
theorem pB_row {r : List Int} (h : goodB r) : pB [IV.agg (rowCells ksB [r] 0 0 20)] [] := pB_of h
theorem e2_zero {s t : Int} (h : e2 s t = 0) : mayF s ∧ mayF t := by
  unfold e2 at h
  split at h
  · assumption
  · cases h
theorem n2z {s t v : Int} (h : e2 s t = 0) : n2 s t v = v := if_pos (e2_zero h)
theorem n2nz {s t v : Int} (h : e2 s t ≠ 0) : n2 s t v = 0 := by
  unfold e2 at h; unfold n2
  split
  · rename_i hh; rw [if_pos hh] at h; exact absurd rfl h
  · rfl
theorem n2_is {s t : Int} : mayF (n2 s t s) ∧ mayF (n2 s t t) := by
  unfold n2
  split
  · assumption
  · exact ⟨may_zero, may_zero⟩
theorem ov_all (r : List Int) : mayF (spdX r) ∧ mayF (spdY r) := ov_is _ _ _
theorem c_parting : Contract Try.prog f_tether_parting spPt := by
  refine contract_of (N := Ne2) 3 knowe2t ?_
  rintro l bs _ _ ⟨r, s, x, y, rfl, rfl, hr, hs, hx, hy⟩
  have hF : spPt.F [bodyR r, bodyR s, vx x y] [] = (.tup [fx (ptN r s x y), .int .i64 (ptE r s x y)], []) := by
    show (IV.tup [fx (ptN (rowA _ 0) (rowA _ 1) (v2 _ 2) (vy _ 2)), .int .i64 (ptE (rowA _ 0) (rowA _ 1) (v2 _ 2) (vy _ 2))], ([] : List Blk)) = _
    rw [rB0 hr.1, rB1 hs.1, (v_vx _ x y 2 rfl).1, (v_vx _ x y 2 rfl).2]
  rw [hF, v_parting]
  simp only [rA0 hr.1, rA0 hs.1, forall_eq]
  have hN : ∀ {e : Int}, ptE r s x y = e → e ≠ 0 → ptN r s x y = 0 := fun h1 h2 => by unfold ptN; rw [if_neg (by rw [h1]; exact h2)]
  refine ⟨pB_row hr, ?_⟩
  rw [br_bne]
  refine ⟨fun h => ?_, fun h1 => ⟨pB_row hs, ?_⟩⟩
  · have hE : ptE r s x y = spdE r := by unfold ptE; rw [if_pos h]
    rw [hN hE h, hE]; rfl
  rw [br_bne]
  refine ⟨fun h => ?_, fun h2 => ⟨vmay2_of (ov_all s).1 (ov_all s).2 (ov_all r).1 (ov_all r).2, ?_⟩⟩
  · have hE : ptE r s x y = spdE s := by unfold ptE; rw [if_neg (by simpa using h1), if_pos h]
    rw [hN hE h, hE]; rfl
  rw [br_bne]
  refine ⟨fun h => ?_, fun h3 => ?_⟩
  · have hE : ptE r s x y = e2 (spdX s - spdX r) (spdY s - spdY r) := by unfold ptE; rw [if_neg (by simpa using h1), if_neg (by simpa using h2), if_pos h]
    rw [hN hE h, hE]; rfl
  · have hE : ptE r s x y = dotE (mulI x (spdX s - spdX r)) (mulI y (spdY s - spdY r)) := by unfold ptE; rw [if_neg (by simpa using h1), if_neg (by simpa using h2), if_neg (by simpa using h3)]
    have hv := e2_zero h3
    refine ⟨vmay2_of hx hy n2_is.1 n2_is.2, ?_⟩
    rw [n2z h3, n2z h3]
    by_cases h4 : dotE (mulI x (spdX s - spdX r)) (mulI y (spdY s - spdY r)) = 0
    · unfold ptN; rw [if_pos (by rw [hE]; exact h4), hE]
    · rw [hN hE h4, hE, dot_zero h4]
theorem ma_lem {r s : List Int} (hr : goodB r) (hs : goodB s) {A : Int → Int → IV} : 
    may2 [IV.agg [.int .i64 (rd [r] 0 0), .int .u64 (rd [r] 0 1)], IV.agg [.int .i64 (rd [s] 0 0), .int .u64 (rd [s] 0 1)]] [] ∧
    br (errF (mulI (rd [r] 0 0 * 18446744073709551616 + rd [r] 0 1) (rd [s] 0 0 * 18446744073709551616 + rd [s] 0 1)) != 0)
      ((A (maN r s) (maE r s), ([] : List Blk)) = (A (numF (mulI (rd [r] 0 0 * 18446744073709551616 + rd [r] 0 1) (rd [s] 0 0 * 18446744073709551616 + rd [s] 0 1))) (errF (mulI (rd [r] 0 0 * 18446744073709551616 + rd [r] 0 1) (rd [s] 0 0 * 18446744073709551616 + rd [s] 0 1))), []))
      (may2 [IV.agg [.int .i64 (rd [r] 0 0), .int .u64 (rd [r] 0 1)], IV.agg [.int .i64 (rd [s] 0 0), .int .u64 (rd [s] 0 1)]] [] ∧
       br (errF (rd [r] 0 0 * 18446744073709551616 + rd [r] 0 1 + (rd [s] 0 0 * 18446744073709551616 + rd [s] 0 1)) != 0)
        ((A (maN r s) (maE r s), ([] : List Blk)) = (A (numF (rd [r] 0 0 * 18446744073709551616 + rd [r] 0 1 + (rd [s] 0 0 * 18446744073709551616 + rd [s] 0 1))) (errF (rd [r] 0 0 * 18446744073709551616 + rd [r] 0 1 + (rd [s] 0 0 * 18446744073709551616 + rd [s] 0 1))), []))
        (may2 [fx (numF (mulI (rd [r] 0 0 * 18446744073709551616 + rd [r] 0 1) (rd [s] 0 0 * 18446744073709551616 + rd [s] 0 1))), fx (numF (rd [r] 0 0 * 18446744073709551616 + rd [r] 0 1 + (rd [s] 0 0 * 18446744073709551616 + rd [s] 0 1)))] [] ∧
         (A (maN r s) (maE r s), ([] : List Blk)) = (A (divN (numF (mulI (rd [r] 0 0 * 18446744073709551616 + rd [r] 0 1) (rd [s] 0 0 * 18446744073709551616 + rd [s] 0 1))) (numF (rd [r] 0 0 * 18446744073709551616 + rd [r] 0 1 + (rd [s] 0 0 * 18446744073709551616 + rd [s] 0 1)))) (divE (numF (mulI (rd [r] 0 0 * 18446744073709551616 + rd [r] 0 1) (rd [s] 0 0 * 18446744073709551616 + rd [s] 0 1))) (numF (rd [r] 0 0 * 18446744073709551616 + rd [r] 0 1 + (rd [s] 0 0 * 18446744073709551616 + rd [s] 0 1)))), []))) := by
  rw [show rd [r] 0 0 * 18446744073709551616 + rd [r] 0 1 = fr r 0 from rfl, show rd [s] 0 0 * 18446744073709551616 + rd [s] 0 1 = fr s 0 from rfl]
  rw [fx_row hr.2.1 0 (by decide) rfl, fx_row hs.2.1 0 (by decide) rfl]
  have p : may2 [fx (fr r 0), fx (fr s 0)] [] := may2_of hr.2.2.1 hs.2.2.1
  refine ⟨p, ?_⟩
  rw [br_bne]
  refine ⟨fun h => ?_, fun h1 => ⟨p, ?_⟩⟩
  · have hE : maE r s = errF (mulI (fr r 0) (fr s 0)) := by unfold maE; rw [if_pos h]
    have hN : maN r s = 0 := by unfold maN; rw [if_neg (by rw [hE]; exact h)]
    rw [hN, hE, num_not (fun hh => h (err_may hh))]
  rw [br_bne]
  refine ⟨fun h => ?_, fun h2 => ⟨may2_of (num_is _) (num_is _), ?_⟩⟩
  · have hE : maE r s = errF (fr r 0 + fr s 0) := by unfold maE; rw [if_neg (by simpa using h1), if_pos h]
    have hN : maN r s = 0 := by unfold maN; rw [if_neg (by rw [hE]; exact h)]
    rw [hN, hE, num_not (fun hh => h (err_may hh))]
  · have m1 := err_zero.1 h1
    have m2 := err_zero.1 h2
    have hE : maE r s = divE (mulI (fr r 0) (fr s 0)) (fr r 0 + fr s 0) := by unfold maE; rw [if_neg (by simpa using h1), if_neg (by simpa using h2)]
    rw [num_may m1, num_may m2]
    by_cases h3 : divE (mulI (fr r 0) (fr s 0)) (fr r 0 + fr s 0) = 0
    · have hN : maN r s = divN (mulI (fr r 0) (fr s 0)) (fr r 0 + fr s 0) := by unfold maN; rw [if_pos (by rw [hE]; exact h3)]
      rw [hN, hE]
    · have hN : maN r s = 0 := by unfold maN; rw [if_neg (by rw [hE]; exact h3)]
      rw [hN, hE, divE_no h3]
theorem c_tmass : Contract Try.prog f_tether_mass spTm := by
  refine contract_of (N := Ne2) 3 knowe2t ?_
  rintro l bs _ _ ⟨r, s, rfl, rfl, hr, hs⟩
  have hF : spTm.F [bodyR r, bodyR s] [] = (.tup [fx (maN r s), .int .i64 (maE r s)], []) := by
    show (IV.tup [fx (maN (rowA _ 0) (rowA _ 1)), .int .i64 (maE (rowA _ 0) (rowA _ 1))], ([] : List Blk)) = _
    rw [rB0 hr.1, rB1 hs.1]
  rw [hF, v_tmass]
  simp only [forall_eq]
  exact ma_lem hr hs (A := fun n e => .tup [fx n, .int .i64 e])
theorem c_reduced : Contract Try.prog f_perigeeref16_reduced spRed := by
  refine contract_of (N := Ne2) 3 knowe2t ?_
  rintro l bs _ _ ⟨r, s, rfl, rfl, hr, hs⟩
  have hF : spRed.F [bodyR r, bodyR s] [] = (gotV (maN r s) (maE r s), []) := by
    show (gotV (maN (rowA _ 0) (rowA _ 1)) (maE (rowA _ 0) (rowA _ 1)), ([] : List Blk)) = _
    rw [rB0 hr.1, rB1 hs.1]
  rw [hF, v_reduced]
  simp only [forall_eq]
  exact ma_lem hr hs (A := fun n e => gotV n e)
theorem lenA_tet (a b len lim : Int) (l : List IV) : lenA (tetV a b len lim :: l) = len := by
  show len / 18446744073709551616 * 18446744073709551616 + len % 18446744073709551616 = len
  omega
theorem limA_tet (a b len lim : Int) (l : List IV) : limA (tetV a b len lim :: l) = lim := by
  show lim / 18446744073709551616 * 18446744073709551616 + lim % 18446744073709551616 = lim
  omega
theorem tAp_is (x y : Int) : mayF (tApN x y) := dotN_is _ _
theorem c_apart : Contract Try.prog f_tether_apart spAp := by
  refine contract_of (N := Ne2) 3 knowe2t ?_
  rintro l bs _ _ ⟨a, b, len, lim, x, y, rfl, rfl, hl, hx, hy⟩
  have hF : spAp.F [tetV a b len lim, vx x y] [] = (.tup [fx (tApN x y), .bool (tApB x y len), .int .i64 (tApE x y len)], []) := by
    show (IV.tup [fx (tApN (v2 _ 1) (vy _ 1)), .bool (tApB (v2 _ 1) (vy _ 1) (lenA _)), .int .i64 (tApE (v2 _ 1) (vy _ 1) (lenA _))], ([] : List Blk)) = _
    rw [lenA_tet, (v_vx _ x y 1 rfl).1, (v_vx _ x y 1 rfl).2]
  rw [hF, v_apart]
  simp only [forall_eq]
  refine ⟨⟨x, y, rfl, rfl, hx, hy⟩, ?_⟩
  rw [br_bne]
  refine ⟨fun h => ?_, fun h1 => ⟨may2_of hl hl, ?_⟩⟩
  · have hE : tApE x y len = dotE (mulI x x) (mulI y y) := by unfold tApE; rw [if_pos h]
    have hB : tApB x y len = false := by unfold tApB; rw [hE, decide_eq_false h]; rfl
    rw [hB, hE]; rfl
  have hE : tApE x y len = errF (mulI len len) := by unfold tApE; rw [if_neg (by simpa using h1)]
  rw [br_beq]
  refine ⟨fun h => ⟨preFF_in (inF_of (dotN_is _ _)) (inF_of (num_is _)), ?_⟩, fun h => ?_⟩
  · have hB : tApB x y len = decide (cmpI (dotN (mulI x x) (mulI y y)) (numF (mulI len len)) > 0) := by
      unfold tApB; rw [hE, decide_eq_true h, num_may (err_zero.1 h)]; rfl
    rw [hB, hE]; rfl
  · have hB : tApB x y len = false := by unfold tApB; rw [hE, decide_eq_false h]; rfl
    rw [hB, hE]; rfl
theorem ctrstt1 : ∀ {g : FuncId} {sp : Vs.Spec}, Γtt1 g = some sp → Contract Try.prog g sp := ext_ok c_parting (ext_ok c_tmass (ext_ok c_reduced (ext_ok c_apart ctrse2t)))
theorem knowtt1 : KnowOk Try.prog Ntt1 3 := knowOf (fun g sp h => ctrstt1 h) (fun _ _ => rfl) (fun _ => rfl) 3
theorem ma_is (r s : List Int) : mayF (maN r s) := by
  unfold maN
  split
  · exact divN_is _ _
  · exact may_zero
theorem pt_is (r s : List Int) (x y : Int) : mayF (ptN r s x y) := by
  unfold ptN
  split
  · exact dotN_is _ _
  · exact may_zero
theorem pTm_row {r s : List Int} (hr : goodB r) (hs : goodB s) : pTm [IV.agg (rowCells ksB [r] 0 0 20), IV.agg (rowCells ksB [s] 0 0 20)] [] := ⟨r, s, rfl, rfl, hr, hs⟩
theorem hv_err {r s : List Int} {x y far v : Int} (h : hvE r s x y far v ≠ 0) : hvX r s x y far v = 0 ∧ hvY r s x y far v = 0 := by unfold hvX hvY; rw [if_neg h, if_neg h]; exact ⟨rfl, rfl⟩
set_option maxHeartbeats 4000000 in
theorem c_held : Contract Try.prog f_tether_held spHe := by
  refine contract_of (N := Ntt1) 3 knowtt1 ?_
  rintro l bs _ _ ⟨r, s, x, y, far, v, rfl, rfl, hr, hs, ⟨hx, hy⟩, hf, hv⟩
  have hF : spHe.F [bodyR r, bodyR s, vx x y, fx far, fx v] [] = (.tup [vx (hvX r s x y far v) (hvY r s x y far v), .int .i64 (hvE r s x y far v)], []) := by
    show (IV.tup [vx (hvX (rowA _ 0) (rowA _ 1) (v2 _ 2) (vy _ 2) (v2 _ 3) (v2 _ 4)) (hvY (rowA _ 0) (rowA _ 1) (v2 _ 2) (vy _ 2) (v2 _ 3) (v2 _ 4)), .int .i64 (hvE (rowA _ 0) (rowA _ 1) (v2 _ 2) (vy _ 2) (v2 _ 3) (v2 _ 4))], ([] : List Blk)) = _
    rw [rB0 hr.1, rB1 hs.1, (v_vx _ x y 2 rfl).1, (v_vx _ x y 2 rfl).2, v2_fx _ far 3 rfl, v2_fx _ v 4 rfl]
  rw [hF, v_held]
  rintro j1 rfl j2 rfl j3 rfl j4 rfl t5 e5 j6 rfl t7 e7 j8 rfl t9 e9 j10 rfl t11 e11 j12 rfl t13 e13 t14 e14 t15 e15 t16 e16 t17 e17 t18 e18 t19 e19 t20 e20 t21 e21 t22 e22 t23 e23 t24 e24 t25 e25 t26 e26 t27 e27 t28 e28 t29 e29 t30 e30 t31 e31 t32 e32
  rw [rA0 hr.1, rA1 hs.1] at e5 e32
  have stop : ∀ {e : Int}, e ≠ 0 → hvE r s j3 j4 j2 j1 = e → (IV.tup [vx (hvX r s j3 j4 j2 j1) (hvY r s j3 j4 j2 j1), .int .i64 (hvE r s j3 j4 j2 j1)], ([] : List Blk)) = (.tup [.agg [.int .i64 0, .int .u64 0, .int .i64 0, .int .u64 0], .int .i64 e], []) := by
    intro e he h
    obtain ⟨z1, z2⟩ := hv_err (by rw [h]; exact he)
    rw [z1, z2, h]; rfl
  have m6 : mayF j6 := by rw [e5]; exact ma_is _ _
  have m10 : mayF j10 := by rw [e9]; exact num_is _
  have m12 : mayF j12 := by rw [e11]; exact divN_is _ _
  refine ⟨pTm_row hr hs, ?_⟩
  rw [br_beq]
  refine ⟨fun h32 => ⟨may2_of m6 hv, ?_⟩, fun h32 => ?_⟩
  · have k32 : ¬ maE r s ≠ 0 := by rw [← e32]; simpa using h32
    rw [br_beq]
    refine ⟨fun h23 => ⟨may2_of m10 hf, ?_⟩, fun h23 => ?_⟩
    · have k23 : ¬ errF (mulI (maN r s) j1) ≠ 0 := by rw [← e5, ← e23]; simpa using h23
      have hm : j10 = mulI (maN r s) j1 := by rw [e9, num_may (err_zero.1 (by rw [← e23]; exact h23)), e5]
      have hE : heE r s j2 j1 = t13 := by unfold heE; rw [if_neg k32, if_neg k23, ← hm, e13]
      rw [br_bne]
      refine ⟨fun h => stop h (by unfold hvE; rw [if_pos (by rw [hE]; exact h), hE]), fun h13 => ⟨⟨_, _, _, rfl, rfl, ⟨hx, hy⟩, m12⟩, ?_⟩⟩
      have hN : heN r s j2 j1 = j12 := by unfold heN; rw [if_pos (by rw [hE]; exact h13), ← hm, e11]
      have hvE' : hvE r s j3 j4 j2 j1 = e2 t14 t15 := by unfold hvE; rw [if_neg (by rw [hE]; simpa using h13), hN, e14, e15]
      have hvX' : hvX r s j3 j4 j2 j1 = t24 := by
        unfold hvX
        rw [hvE', hN, e24]
        by_cases hh : e2 t14 t15 = 0
        · rw [if_pos hh, n2z hh, e14]
        · rw [if_neg hh, n2nz hh]
      have hvY' : hvY r s j3 j4 j2 j1 = t25 := by
        unfold hvY
        rw [hvE', hN, e25]
        by_cases hh : e2 t14 t15 = 0
        · rw [if_pos hh, n2z hh, e15]
        · rw [if_neg hh, n2nz hh]
      rw [hvX', hvY', hvE']
    · have k23 : errF (mulI (maN r s) j1) ≠ 0 := by rw [← e5, ← e23]; simpa using h23
      have hE : heE r s j2 j1 = t23 := by unfold heE; rw [if_neg k32, if_pos k23, ← e5, e23]
      rw [br_bne]
      refine ⟨fun h => stop h (by unfold hvE; rw [if_pos (by rw [hE]; exact h), hE]), fun h => absurd h h23⟩
  · have k32 : maE r s ≠ 0 := by rw [← e32]; simpa using h32
    have hE : heE r s j2 j1 = t32 := by unfold heE; rw [if_pos k32, e32]
    rw [br_beq]
    refine ⟨fun h => absurd h h32, fun _ => ?_⟩
    rw [br_bne]
    exact ⟨fun h => stop h (by unfold hvE; rw [if_pos (by rw [hE]; exact h), hE]), fun h => absurd h h32⟩
theorem c_closing : Contract Try.prog f_perigeeref16_closing spClo := by
  refine contract_of (N := Ntt1) 3 knowtt1 ?_
  rintro l bs _ _ ⟨r, s, x, y, n, rfl, rfl, hr, hs, hx, hy⟩
  have hF : spClo.F [bodyR r, bodyR s, meetV x y n 0 0] [] = (meetV (clX r s x y) (clY r s x y) (clL r s x y n) (ptN r s x y) (ptE r s x y), []) := by
    have h1 : v2 [bodyR r, bodyR s, meetV x y n 0 0] 2 = x := by show x / 18446744073709551616 * 18446744073709551616 + x % 18446744073709551616 = x; omega
    have h2 : vy [bodyR r, bodyR s, meetV x y n 0 0] 2 = y := by show y / 18446744073709551616 * 18446744073709551616 + y % 18446744073709551616 = y; omega
    have h3 : mL [bodyR r, bodyR s, meetV x y n 0 0] 2 = n := by show n / 18446744073709551616 * 18446744073709551616 + n % 18446744073709551616 = n; omega
    show (meetV (clX (rowA _ 0) (rowA _ 1) (v2 _ 2) (vy _ 2)) (clY (rowA _ 0) (rowA _ 1) (v2 _ 2) (vy _ 2)) (clL (rowA _ 0) (rowA _ 1) (v2 _ 2) (vy _ 2) (mL _ 2)) (ptN (rowA _ 0) (rowA _ 1) (v2 _ 2) (vy _ 2)) (ptE (rowA _ 0) (rowA _ 1) (v2 _ 2) (vy _ 2)), ([] : List Blk)) = _
    rw [rB0 hr.1, rB1 hs.1, h1, h2, h3]
  rw [hF, v_closing]
  simp only [rA0 hr.1, rA0 hs.1, forall_eq]
  have stop : ∀ {e : Int}, e ≠ 0 → ptE r s x y = e → (meetV (clX r s x y) (clY r s x y) (clL r s x y n) (ptN r s x y) (ptE r s x y), ([] : List Blk)) = (.agg [.int .i64 0, .int .u64 0, .int .i64 0, .int .u64 0, .int .i64 0, .int .u64 0, .int .i64 0, .int .u64 0, .int .i64 e], []) := by
    intro e he h
    unfold clX clY clL ptN
    rw [if_neg (by rw [h]; exact he), if_neg (by rw [h]; exact he), if_neg (by rw [h]; exact he), if_neg (by rw [h]; exact he), h]
    rfl
  refine ⟨pB_row hr, ?_⟩
  rw [br_bne]
  refine ⟨fun h => stop h (by unfold ptE; rw [if_pos h]), fun h1 => ⟨pB_row hs, ?_⟩⟩
  rw [br_bne]
  refine ⟨fun h => stop h (by unfold ptE; rw [if_neg (by simpa using h1), if_pos h]), fun h2 => ⟨vmay2_of (ov_all s).1 (ov_all s).2 (ov_all r).1 (ov_all r).2, ?_⟩⟩
  rw [br_bne]
  refine ⟨fun h => stop h (by unfold ptE; rw [if_neg (by simpa using h1), if_neg (by simpa using h2), if_pos h]), fun h3 => ⟨vmay2_of hx hy n2_is.1 n2_is.2, ?_⟩⟩
  have hE : ptE r s x y = dotE (mulI x (spdX s - spdX r)) (mulI y (spdY s - spdY r)) := by unfold ptE; rw [if_neg (by simpa using h1), if_neg (by simpa using h2), if_neg (by simpa using h3)]
  rw [n2z h3, n2z h3, br_bne]
  refine ⟨fun h => stop h hE, fun h4 => ?_⟩
  unfold clX clY clL ptN
  rw [if_pos (by rw [hE]; exact h4), if_pos (by rw [hE]; exact h4), if_pos (by rw [hE]; exact h4), if_pos (by rw [hE]; exact h4), hE, h4]
  rfl
theorem ctrstt2 : ∀ {g : FuncId} {sp : Vs.Spec}, Γtt2 g = some sp → Contract Try.prog g sp := ext_ok c_held (ext_ok c_closing ctrstt1)
theorem knowtt2 : KnowOk Try.prog Ntt2 3 := knowOf (fun g sp h => ctrstt2 h) (fun _ _ => rfl) (fun _ => rfl) 3
end Go.Vs.RF

set_option linter.unusedVariables false
set_option linter.unusedSimpArgs false
set_option maxRecDepth 100000
/- tether.Jerk, and the document's -/
namespace Go.Vs.RF
open Go Go.Proofs Go.Vs Go.IntWalk

theorem vx_row {r : List Int} (h : rowB r) : IV.agg [.int .i64 (rd [r] 0 4), .int .u64 (rd [r] 0 5), .int .i64 (rd [r] 0 6), .int .u64 (rd [r] 0 7)] = vx (fr r 4) (fr r 6) :=
  (List.cons.inj (vx_cells (a := r.getD 4 0) (b := r.getD 5 0) (c := r.getD 6 0) (d := r.getD 7 0) (row_lo h 5 (by decide) rfl) (row_lo h 7 (by decide) rfl))).1
theorem vm_rows {r s : List Int} (hr : goodB r) (hs : goodB s) : vmay2 [IV.agg [.int .i64 (rd [s] 0 4), .int .u64 (rd [s] 0 5), .int .i64 (rd [s] 0 6), .int .u64 (rd [s] 0 7)], IV.agg [.int .i64 (rd [r] 0 4), .int .u64 (rd [r] 0 5), .int .i64 (rd [r] 0 6), .int .u64 (rd [r] 0 7)]] [] := by
  rw [vx_row hr.2.1, vx_row hs.2.1]
  exact vmay2_of hs.2.2.2.1 hs.2.2.2.2.1 hr.2.2.2.1 hr.2.2.2.2.1
theorem jk_leaf {r s : List Int} {len lim x y e : Int} {p b : Bool} (h : jk r s len lim = (x, y, p, b, e)) : (IV.tup [vx (jkX r s len lim) (jkY r s len lim), .bool (jkP r s len lim), .bool (jkB r s len lim), .int .i64 (jkE r s len lim)], ([] : List Blk)) = (.tup [vx x y, .bool p, .bool b, .int .i64 e], []) := by
  unfold jkX jkY jkP jkB jkE; rw [h]
theorem rjk_leaf {r s : List Int} {len lim x y e : Int} {p b : Bool} (h : jk r s len lim = (x, y, p, b, e)) : (jerkV (jkX r s len lim) (jkY r s len lim) (jkP r s len lim) (jkB r s len lim) (jkE r s len lim), ([] : List Blk)) = (jerkV x y p b e, []) := by
  unfold jkX jkY jkP jkB jkE; rw [h]
theorem jk_stop {r s : List Int} {len lim e : Int} {b : Bool} (h : jk r s len lim = (0, 0, false, b, e)) : (IV.tup [vx (jkX r s len lim) (jkY r s len lim), .bool (jkP r s len lim), .bool (jkB r s len lim), .int .i64 (jkE r s len lim)], ([] : List Blk)) = (.tup [.agg [.int .i64 0, .int .u64 0, .int .i64 0, .int .u64 0], .bool false, .bool b, .int .i64 e], []) := by
  rw [jk_leaf h]; rfl
theorem rjk_stop {r s : List Int} {len lim e : Int} {b : Bool} (h : jk r s len lim = (0, 0, false, b, e)) : (jerkV (jkX r s len lim) (jkY r s len lim) (jkP r s len lim) (jkB r s len lim) (jkE r s len lim), ([] : List Blk)) = (.agg [.int .i64 0, .int .u64 0, .int .i64 0, .int .u64 0, .bool false, .bool b, .int .i64 e], []) := by
  rw [rjk_leaf h]; rfl
theorem tApB_of {x y len : Int} (h : tApE x y len = 0) : tApB x y len = decide (cmpI (tApN x y) (mulI len len) > 0) := by unfold tApB; rw [decide_eq_true h]; rfl
theorem hv_is (r s : List Int) (x y far v : Int) : mayF (hvX r s x y far v) ∧ mayF (hvY r s x y far v) := by
  unfold hvX hvY
  by_cases h : hvE r s x y far v = 0
  · rw [if_pos h, if_pos h]
    unfold hvE at h
    split at h
    · rename_i h1; exact absurd h h1
    · exact e2_zero h
  · rw [if_neg h, if_neg h]; exact ⟨may_zero, may_zero⟩
theorem len_is (p q : Int) : inF (lenN p q) := by
  unfold lenN
  split
  · unfold sqN
    split
    · exact inF_of may_zero
    · rename_i h
      obtain ⟨_, h0, h1⟩ := sqrt_may (dotN_is p q) h
      exact ⟨by omega, by omega⟩
  · exact inF_of may_zero
set_option maxHeartbeats 4000000 in
theorem c_Jerk : Contract Try.prog f_tether_Jerk spJk := by
  refine contract_of (N := Ntt2) 3 knowtt2 ?_
  rintro l bs _ _ ⟨a, b, len, lim, r, s, rfl, rfl, hl, hm, hr, hs⟩
  have hF : spJk.F [tetV a b len lim, bodyR r, bodyR s] [] = (IV.tup [vx (jkX r s len lim) (jkY r s len lim), .bool (jkP r s len lim), .bool (jkB r s len lim), .int .i64 (jkE r s len lim)], []) := by
    show (IV.tup [vx (jkX (rowA _ 1) (rowA _ 2) (lenA _) (limA _)) (jkY (rowA _ 1) (rowA _ 2) (lenA _) (limA _)), .bool (jkP (rowA _ 1) (rowA _ 2) (lenA _) (limA _)), .bool (jkB (rowA _ 1) (rowA _ 2) (lenA _) (limA _)), .int .i64 (jkE (rowA _ 1) (rowA _ 2) (lenA _) (limA _))], ([] : List Blk)) = _
    rw [rB1 hr.1, rB2 hs.1, lenA_tet, limA_tet]
  rw [hF, v_Jerk]
  intro j1 q1 t2 e2' j3 q3 t4 e4 j5 q5 t6 e6 j7 q7 t8 e8 j9 q9 t10 e10 j11 q11 t12 e12 j13 q13 t14 e14 j15 q15 t16 e16 t17 e17 t18 e18 t19 e19 t20 e20 t21 e21 t22 e22 t23 e23 t24 e24 t25 e25 t26 e26 t27 e27 t28 e28 t29 e29 t30 e30 t31 e31 t32 e32 t33 e33
  obtain ⟨X, hX⟩ : ∃ X, X = fr s 4 - fr r 4 := ⟨_, rfl⟩
  obtain ⟨Y, hY⟩ : ∃ Y, Y = fr s 6 - fr r 6 := ⟨_, rfl⟩
  have hjk : jk r s len lim = jk2 r s X Y len lim := by rw [hX, hY]; rfl
  have E2 : t2 = n2 X Y X := by rw [e2', hX, hY]; rfl
  have E4 : t4 = n2 X Y Y := by rw [e4, hX, hY]; rfl
  have E30 : t30 = e2 X Y := by rw [e30, e19, e20, e21, e22, e23, e24, e25, e26, hX, hY]; rfl
  refine ⟨by rw [e19, e20, e21, e22, e23, e24, e25, e26]; exact vm_rows hr hs, ?_⟩
  rw [br_bne]
  refine ⟨fun h => jk_stop (by rw [hjk, E30]; unfold jk2; rw [if_pos (by rw [← E30]; exact h)]), fun h30 => ?_⟩
  have z : e2 X Y = 0 := by rw [← E30]; exact h30
  have c1 : ¬ e2 X Y ≠ 0 := fun h => h z
  obtain ⟨mX, mY⟩ := e2_zero z
  have T2 : t2 = X := by rw [E2, n2z z]
  have T4 : t4 = Y := by rw [E4, n2z z]
  have T27 : t27 = len := by rw [e27]; exact lenA_tet a b len lim _
  have T28 : t28 = tApE X Y len := by rw [e28, q3, q5, T2, T4, T27]
  refine ⟨⟨a, b, len, lim, t2, t4, rfl, rfl, hl, by rw [T2]; exact mX, by rw [T4]; exact mY⟩, ?_⟩
  rw [br_bne]
  refine ⟨fun h => by rw [e29]; exact jk_stop (by rw [hjk, T28]; unfold jk2; rw [if_neg c1, if_pos (by rw [← T28]; exact h)]), fun h28 => ?_⟩
  have c2 : ¬ tApE X Y len ≠ 0 := fun h => h (by rw [← T28]; exact h28)
  rw [q3, q5, T2, T4, T27, br_bool, Bool.not_eq_true', Bool.not_eq_false']
  refine ⟨fun h => by rw [e29, h28]; exact jk_stop (by rw [hjk]; unfold jk2; rw [if_neg c1, if_neg c2, if_pos h]), fun hB => ?_⟩
  have c3 : ¬ tApB X Y len = false := by rw [hB]; simp
  rw [T2, T4, rA0 hr.1, rA1 hs.1, q3, q5, T2, T4] at e8 e31
  have T6 : t6 = tApN X Y := by rw [e6, q3, q5, T2, T4]
  rw [T2, T4, rA0 hr.1, rA1 hs.1, q3, q5, q7, q9, T2, T4, T6, e8] at e10 e12 e33
  refine ⟨⟨r, s, X, Y, rfl, rfl, hr, hs, mX, mY⟩, ?_⟩
  rw [br_bne]
  refine ⟨fun h => by rw [e32]; exact jk_stop (by rw [hjk, e31]; unfold jk2; rw [if_neg c1, if_neg c2, if_neg c3, if_pos (by rw [← e31]; exact h)]), fun h31 => ?_⟩
  have c4 : ¬ ptE r s X Y ≠ 0 := fun h => h (by rw [← e31]; exact h31)
  refine ⟨preFF_in (inF_of (by rw [e8]; exact pt_is _ _ _ _)) (inF_of may_zero), ?_⟩
  rw [br_dec]
  have T17 : t17 = cmpI (ptN r s X Y) 0 := by rw [e17, q9, e8]
  refine ⟨fun h => by rw [e32, h31]; exact jk_stop (by rw [hjk]; unfold jk2; rw [if_neg c1, if_neg c2, if_neg c3, if_neg c4, if_pos (by rw [← T17]; exact h)]), fun h17 => ?_⟩
  have c5 : ¬ cmpI (ptN r s X Y) 0 ≤ 0 := by rw [← T17]; exact h17
  refine ⟨⟨r, s, X, Y, t6, t8, rfl, rfl, hr, hs, ⟨mX, mY⟩, by rw [T6]; exact tAp_is _ _, by rw [e8]; exact pt_is _ _ _ _⟩, ?_⟩
  rw [br_bne]
  refine ⟨fun h => jk_stop (by rw [hjk, e33]; unfold jk2; rw [if_neg c1, if_neg c2, if_neg c3, if_neg c4, if_neg c5, if_pos (by rw [← e33]; exact h)]), fun h33 => ?_⟩
  have c6 : ¬ hvE r s X Y (tApN X Y) (ptN r s X Y) ≠ 0 := fun h => h (by rw [← e33]; exact h33)
  have hj : jk r s len lim = jkT t10 t12 lim := by rw [hjk, e10, e12]; unfold jk2; rw [if_neg c1, if_neg c2, if_neg c3, if_neg c4, if_neg c5, if_neg c6]
  have m10 : mayF t10 := by rw [e10]; exact (hv_is _ _ _ _ _ _).1
  have m12 : mayF t12 := by rw [e12]; exact (hv_is _ _ _ _ _ _).2
  rw [q11, q13] at e14 e18
  have T16 : t16 = cmpI (lenN (mulI t10 t10) (mulI t12 t12)) lim := by rw [e16, q15, e14, q1]
  refine ⟨⟨t10, t12, rfl, rfl, m10, m12⟩, ?_⟩
  rw [br_bne]
  refine ⟨fun h => jk_stop (by rw [hj, e18]; unfold jkT; rw [if_pos (by rw [← e18]; exact h)]), fun h18 => ?_⟩
  have c7 : ¬ lenE (mulI t10 t10) (mulI t12 t12) ≠ 0 := fun h => h (by rw [← e18]; exact h18)
  refine ⟨preFF_in (by rw [e14]; exact len_is _ _) (inF_of hm), ?_⟩
  rw [br_dec]
  refine ⟨fun h => jk_stop (by rw [hj]; unfold jkT; rw [if_neg c7, if_pos (by rw [← T16]; exact h)]), fun h => jk_leaf (by rw [hj]; unfold jkT; rw [if_neg c7, if_neg (by rw [← T16]; exact h)])⟩
set_option maxHeartbeats 4000000 in
theorem c_RJerk : Contract Try.prog f_perigeeref16_Jerk spRJk := by
  refine contract_of (N := Ntt2) 3 knowtt2 ?_
  rintro l bs _ _ ⟨a, b, len, lim, r, s, rfl, rfl, hl, hm, hr, hs⟩
  have hF : spRJk.F [tetV a b len lim, bodyR r, bodyR s] [] = (jerkV (jkX r s len lim) (jkY r s len lim) (jkP r s len lim) (jkB r s len lim) (jkE r s len lim), []) := by
    show (jerkV (jkX (rowA _ 1) (rowA _ 2) (lenA _) (limA _)) (jkY (rowA _ 1) (rowA _ 2) (lenA _) (limA _)) (jkP (rowA _ 1) (rowA _ 2) (lenA _) (limA _)) (jkB (rowA _ 1) (rowA _ 2) (lenA _) (limA _)) (jkE (rowA _ 1) (rowA _ 2) (lenA _) (limA _)), ([] : List Blk)) = _
    rw [rB1 hr.1, rB2 hs.1, lenA_tet, limA_tet]
  rw [hF, v_RJerk]
  intro j1 q1 j2 q2 t3 e3 j4 q4 t5 e5 j6 q6 t7 e7 j8 q8 t9 e9 j10 q10 t11 e11 j12 q12 t13 e13 j14 q14 t15 e15 j16 q16 t17 e17 j18 q18 t19 e19 j20 q20 t21 e21 j22 q22 t23 e23 j24 q24 t25 e25 j26 q26 t27 e27 j28 q28 t29 e29 j30 q30 t31 e31 j32 q32 t33 e33 j34 q34 t35 e35 j36 q36 t37 e37 j38 q38 t39 e39 j40 q40 t41 e41 j42 q42 t43 e43 j44 q44 t45 e45 j46 q46 t47 e47 j48 q48 t49 e49 j50 q50 t51 e51 t52 e52 t53 e53 t54 e54 t55 e55 t56 e56 t57 e57 t58 e58 t59 e59 t60 e60 t61 e61 t62 e62 t63 e63 t64 e64 t65 e65 t66 e66 t67 e67 t68 e68 t69 e69 t70 e70 t71 e71 t72 e72 t73 e73 t74 e74 t75 e75 t76 e76 t77 e77 t78 e78 t79 e79 t80 e80 t81 e81 t82 e82 t83 e83
  obtain ⟨X, hX⟩ : ∃ X, X = fr s 4 - fr r 4 := ⟨_, rfl⟩
  obtain ⟨Y, hY⟩ : ∃ Y, Y = fr s 6 - fr r 6 := ⟨_, rfl⟩
  have hjk : jk r s len lim = jk2 r s X Y len lim := by rw [hX, hY]; rfl
  have E5 : t5 = n2 X Y X := by rw [e5, hX, hY]; rfl
  have E7 : t7 = n2 X Y Y := by rw [e7, hX, hY]; rfl
  have E80 : t80 = e2 X Y := by rw [e80, e70, e71, e72, e73, e74, e75, e76, e77, hX, hY]; rfl
  refine ⟨by rw [e70, e71, e72, e73, e74, e75, e76, e77]; exact vm_rows hr hs, ?_⟩
  rw [br_bne]
  refine ⟨fun h => rjk_stop (by rw [hjk, E80]; unfold jk2; rw [if_pos (by rw [← E80]; exact h)]), fun h80 => ?_⟩
  have z : e2 X Y = 0 := by rw [← E80]; exact h80
  have c1 : ¬ e2 X Y ≠ 0 := fun h => h z
  obtain ⟨mX, mY⟩ := e2_zero z
  have T5 : t5 = X := by rw [E5, n2z z]
  have T7 : t7 = Y := by rw [E7, n2z z]
  rw [q6, q8, T5, T7] at e9 e60
  refine ⟨⟨t5, t7, rfl, rfl, by rw [T5]; exact mX, by rw [T7]; exact mY⟩, ?_⟩
  rw [br_bne]
  refine ⟨fun h => rjk_stop (by
    have hE : tApE X Y len = t60 := by unfold tApE; rw [← e60, if_pos h]
    rw [hjk, ← hE]; unfold jk2; rw [if_neg c1, if_pos (by rw [hE]; exact h)]), fun h60 => ?_⟩
  rw [q1] at e3 e58
  have hE : tApE X Y len = t58 := by unfold tApE; rw [← e60, if_neg (by simpa using h60), e58]
  refine ⟨may2_of hl hl, ?_⟩
  rw [br_bne]
  refine ⟨fun h => by rw [e78]; exact rjk_stop (by rw [hjk, ← hE]; unfold jk2; rw [if_neg c1, if_pos (by rw [hE]; exact h)]), fun h58 => ?_⟩
  have c2 : ¬ tApE X Y len ≠ 0 := fun h => h (by rw [hE]; exact h58)
  have T3 : t3 = mulI len len := by rw [e3, num_may (err_zero.1 (by rw [← e58]; exact h58))]
  have T9 : t9 = tApN X Y := e9
  have T51 : t51 = cmpI (tApN X Y) (mulI len len) := by rw [e51, q10, q4, T9, T3]
  refine ⟨preFF_in (inF_of (by rw [T9]; exact tAp_is _ _)) (inF_of (by rw [e3]; exact num_is _)), ?_⟩
  rw [br_dec]
  have hB := tApB_of (x := X) (y := Y) (len := len) (by rw [hE]; exact h58)
  refine ⟨fun h => by rw [e78, h58]; exact rjk_stop (by rw [hjk]; unfold jk2; rw [if_neg c1, if_neg c2, if_pos (by rw [hB, ← T51]; exact decide_eq_false (by omega))]), fun h51 => ?_⟩
  have c3 : ¬ tApB X Y len = false := by rw [hB, ← T51, decide_eq_true (by omega)]; simp
  have hmL : mL [IV.agg (rowCells ksB [r] 0 0 20), IV.agg (rowCells ksB [s] 0 0 20), IV.agg [IV.int IntKind.i64 (t5 / 18446744073709551616), IV.int IntKind.u64 (t5 % 18446744073709551616), IV.int IntKind.i64 (t7 / 18446744073709551616), IV.int IntKind.u64 (t7 % 18446744073709551616), IV.int IntKind.i64 (t9 / 18446744073709551616), IV.int IntKind.u64 (t9 % 18446744073709551616), IV.int IntKind.i64 0, IV.int IntKind.u64 0, IV.int IntKind.i64 0]] 2 = t9 := by
    show t9 / 18446744073709551616 * 18446744073709551616 + t9 % 18446744073709551616 = t9
    omega
  rw [rA0 hr.1, rA1 hs.1, q6, q8, T5, T7] at e13 e17 e19 e82
  rw [hmL, rA0 hr.1, rA1 hs.1, q6, q8, T5, T7] at e33
  refine ⟨⟨r, s, t5, t7, t9, rfl, rfl, hr, hs, by rw [T5]; exact mX, by rw [T7]; exact mY⟩, ?_⟩
  rw [br_bne]
  refine ⟨fun h => by rw [e83]; exact rjk_stop (by rw [hjk, e82]; unfold jk2; rw [if_neg c1, if_neg c2, if_neg c3, if_pos (by rw [← e82]; exact h)]), fun h82 => ?_⟩
  have z4 : ptE r s X Y = 0 := by rw [← e82]; exact h82
  have c4 : ¬ ptE r s X Y ≠ 0 := fun h => h z4
  have T17 : t17 = X := by rw [e17]; exact if_pos z4
  have T19 : t19 = Y := by rw [e19]; exact if_pos z4
  have T33 : t33 = tApN X Y := by rw [e33, ← T9]; exact if_pos z4
  refine ⟨preFF_in (inF_of (by rw [e13]; exact pt_is _ _ _ _)) (inF_of may_zero), ?_⟩
  rw [br_dec]
  have T61 : t61 = cmpI (ptN r s X Y) 0 := by rw [e61, q14, e13]
  refine ⟨fun h => by rw [e83, h82]; exact rjk_stop (by rw [hjk]; unfold jk2; rw [if_neg c1, if_neg c2, if_neg c3, if_neg c4, if_pos (by rw [← T61]; exact h)]), fun h61 => ?_⟩
  have c5 : ¬ cmpI (ptN r s X Y) 0 ≤ 0 := by rw [← T61]; exact h61
  have hj5 : jk r s len lim = if hvE r s X Y (tApN X Y) (ptN r s X Y) ≠ 0 then (0, 0, false, false, hvE r s X Y (tApN X Y) (ptN r s X Y)) else jkT (hvX r s X Y (tApN X Y) (ptN r s X Y)) (hvY r s X Y (tApN X Y) (ptN r s X Y)) lim := by
    rw [hjk]; unfold jk2; rw [if_neg c1, if_neg c2, if_neg c3, if_neg c4, if_neg c5]
  have fail : ∀ {e : Int}, e ≠ 0 → hvE r s X Y (tApN X Y) (ptN r s X Y) = e → jk r s len lim = (0, 0, false, false, e) := by
    intro e he h
    rw [hj5, h, if_pos he]
  rw [rA0 hr.1, rA1 hs.1] at e11 e81
  refine ⟨pTm_row hr hs, ?_⟩
  rw [br_beq]
  refine ⟨fun h81 => ⟨may2_of (by rw [e11]; exact ma_is _ _) (by rw [e13]; exact pt_is _ _ _ _), ?_⟩, fun h81 => ?_⟩
  · have k81 : ¬ maE r s ≠ 0 := by rw [← e81]; simpa using h81
    rw [q12, q14, e11, e13] at e59 e15
    rw [br_beq]
    refine ⟨fun h59 => ⟨may2_of (by rw [e15]; exact num_is _) (by rw [T33]; exact tAp_is _ _), ?_⟩, fun h59 => ?_⟩
    · have k59 : ¬ errF (mulI (maN r s) (ptN r s X Y)) ≠ 0 := by rw [← e59]; simpa using h59
      have T15 : t15 = mulI (maN r s) (ptN r s X Y) := by rw [e15, num_may (err_zero.1 (by rw [← e59]; exact h59))]
      rw [q16, q34, T33] at e52 e35
      have hE : heE r s (tApN X Y) (ptN r s X Y) = t52 := by unfold heE; rw [if_neg k81, if_neg k59, ← T15, e52]
      rw [br_bne]
      refine ⟨fun h => rjk_stop (fail h (by unfold hvE; rw [if_pos (by rw [hE]; exact h), hE])), fun h52 => ⟨⟨t17, t19, t35, rfl, rfl, ⟨by rw [T17]; exact mX, by rw [T19]; exact mY⟩, by rw [e35]; exact divN_is _ _⟩, ?_⟩⟩
      have hN : heN r s (tApN X Y) (ptN r s X Y) = t35 := by unfold heN; rw [if_pos (by rw [hE]; exact h52), ← T15, e35]
      rw [q18, q20, q36, T17, T19] at e62 e39 e41
      have hvE' : hvE r s X Y (tApN X Y) (ptN r s X Y) = t62 := by unfold hvE; rw [if_neg (by rw [hE]; simpa using h52), hN, e62]
      rw [br_bne]
      refine ⟨fun h => rjk_stop (fail h hvE'), fun h62 => ?_⟩
      have z62 : e2 (mulI X t35) (mulI Y t35) = 0 := by rw [← e62]; exact h62
      have hvX' : hvX r s X Y (tApN X Y) (ptN r s X Y) = t39 := by unfold hvX; rw [if_pos (by rw [hvE']; exact h62), hN, e39, n2z z62]
      have hvY' : hvY r s X Y (tApN X Y) (ptN r s X Y) = t41 := by unfold hvY; rw [if_pos (by rw [hvE']; exact h62), hN, e41, n2z z62]
      have hj : jk r s len lim = jkT t39 t41 lim := by rw [hj5, if_neg (by rw [hvE']; simpa using h62), hvX', hvY']
      rw [q40, q42] at e63 e43
      refine ⟨⟨t39, t41, rfl, rfl, by rw [e39]; exact n2_is.1, by rw [e41]; exact n2_is.2⟩, ?_⟩
      rw [br_bne]
      refine ⟨fun h => rjk_stop (by rw [hj, e63]; unfold jkT; rw [if_pos (by rw [← e63]; exact h)]), fun h63 => ?_⟩
      have c7 : ¬ lenE (mulI t39 t39) (mulI t41 t41) ≠ 0 := fun h => h (by rw [← e63]; exact h63)
      have T53 : t53 = cmpI (lenN (mulI t39 t39) (mulI t41 t41)) lim := by rw [e53, q44, e43, q2]
      refine ⟨preFF_in (by rw [e43]; exact len_is _ _) (inF_of hm), ?_⟩
      rw [br_dec]
      refine ⟨fun h => by rw [e79]; exact rjk_stop (by rw [hj]; unfold jkT; rw [if_neg c7, if_pos (by rw [← T53]; exact h)]), fun h => rjk_leaf (by rw [hj]; unfold jkT; rw [if_neg c7, if_neg (by rw [← T53]; exact h)])⟩
    · have k59 : errF (mulI (maN r s) (ptN r s X Y)) ≠ 0 := by rw [← e59]; simpa using h59
      have hE : heE r s (tApN X Y) (ptN r s X Y) = t59 := by unfold heE; rw [if_neg k81, if_pos k59, e59]
      rw [br_bne]
      exact ⟨fun h => rjk_stop (fail h (by unfold hvE; rw [if_pos (by rw [hE]; exact h), hE])), fun h => absurd h h59⟩
  · have k81 : maE r s ≠ 0 := by rw [← e81]; simpa using h81
    have hE : heE r s (tApN X Y) (ptN r s X Y) = t81 := by unfold heE; rw [if_pos k81, e81]
    rw [br_beq]
    refine ⟨fun h => absurd h h81, fun _ => ?_⟩
    rw [br_bne]
    exact ⟨fun h => rjk_stop (fail h (by unfold hvE; rw [if_pos (by rw [hE]; exact h), hE])), fun h => absurd h h81⟩
theorem ctrstt3 : ∀ {g : FuncId} {sp : Vs.Spec}, (fun g => if g = f_tether_Jerk then some spJk else if g = f_perigeeref16_Jerk then some spRJk else if g = f_perigeeref22_MayBody then some spMayBody else Γtt2 g) g = some sp → Contract Try.prog g sp := ext_ok c_Jerk (ext_ok c_RJerk (ext_ok c_MayBody ctrstt2))
end Go.Vs.RF

set_option linter.unusedVariables false
/- the laws of tether -/
namespace Go.Vs.RF
open Go Go.Proofs Go.Vs
noncomputable def jaX (l : List IV) : Int := jkX (rowA l 1) (rowA l 2) (lenA l) (limA l)
noncomputable def jaY (l : List IV) : Int := jkY (rowA l 1) (rowA l 2) (lenA l) (limA l)
noncomputable def jaP (l : List IV) : Bool := jkP (rowA l 1) (rowA l 2) (lenA l) (limA l)
noncomputable def jaB (l : List IV) : Bool := jkB (rowA l 1) (rowA l 2) (lenA l) (limA l)
noncomputable def jaE (l : List IV) : Int := jkE (rowA l 1) (rowA l 2) (lenA l) (limA l)
noncomputable def spJkA : Vs.Spec := ⟨pJk, fun l _ => (.tup [vx (jaX l) (jaY l), .bool (jaP l), .bool (jaB l), .int .i64 (jaE l)], [])⟩
noncomputable def spRJkA : Vs.Spec := ⟨pJk, fun l _ => (jerkV (jaX l) (jaY l) (jaP l) (jaB l) (jaE l), [])⟩
noncomputable def Γtt3 : FuncId → Option Vs.Spec := fun g => if g = f_tether_Jerk then some spJkA else if g = f_perigeeref16_Jerk then some spRJkA else if g = f_perigeeref22_MayBody then some spMayBody else Γtt2 g
noncomputable def Ntt3 : Know := ⟨Γtt3, fun _ _ => none, fun _ => none⟩
theorem v_pair18 (v m : Int) (K : IV → List Blk → Prop) : (comes Try.prog Ntt3 3 f_perigeelaw18_pair [.int .i64 v, .int .i64 m] [] K) = (∀ (t1 : Prop), t1 = preI [IV.int IntKind.i64 m] [] → ∀ (t2 : Prop), t2 = preI [IV.int IntKind.i64 (2 : Int)] [] → ∀ (t3 : Prop), t3 = preI [IV.int IntKind.i64 (3 : Int)] [] → ∀ (t4 : Int), t4 = mx IntKind.i64 m (-9223372036854775807 : Int) * (18446744073709551616 : Int) → ∀ (t5 : Int), t5 = mx IntKind.i64 (IntKind.i64.wrap ((-2 : Int) * v)) (-9223372036854775807 : Int) * (18446744073709551616 : Int) → ∀ (t6 : St), t6 = St.mk [some (IV.int IntKind.i64 v), some (IV.int IntKind.i64 m), none, none, some (IV.ptr (0 : Nat) (0 : Nat)), some (IV.ptr (1 : Nat) (0 : Nat)), some (IV.ptr (2 : Nat) (0 : Nat)), some (IV.ptr (3 : Nat) (0 : Nat)), some (IV.ptr (4 : Nat) (0 : Nat)), some (IV.agg [IV.int IntKind.i64 (2 : Int), IV.int IntKind.u64 (0 : Int)]), some (IV.int IntKind.i64 v), some (IV.int IntKind.i64 (IntKind.i64.wrap ((-2 : Int) * v))), some (fx t5), some (IV.agg [IV.int IntKind.i64 (t5 / (18446744073709551616 : Int)), IV.int IntKind.u64 (t5 % (18446744073709551616 : Int)), IV.int IntKind.i64 (0 : Int), IV.int IntKind.u64 (0 : Int)]), some (IV.agg [IV.int IntKind.i64 (2 : Int), IV.int IntKind.u64 (0 : Int), IV.int IntKind.i64 (0 : Int), IV.int IntKind.u64 (0 : Int), IV.int IntKind.i64 (0 : Int), IV.int IntKind.u64 (0 : Int), IV.int IntKind.i64 (0 : Int), IV.int IntKind.u64 (0 : Int), IV.int IntKind.i64 (t5 / (18446744073709551616 : Int)), IV.int IntKind.u64 (t5 % (18446744073709551616 : Int)), IV.int IntKind.i64 (0 : Int), IV.int IntKind.u64 (0 : Int), IV.int IntKind.i64 (0 : Int), IV.int IntKind.u64 (0 : Int), IV.int IntKind.i64 (0 : Int), IV.int IntKind.u64 (0 : Int), IV.int IntKind.i64 (0 : Int), IV.int IntKind.u64 (0 : Int), IV.int IntKind.i64 (0 : Int), IV.int IntKind.i64 (0 : Int)]), some (IV.agg [IV.int IntKind.i64 (2 : Int), IV.int IntKind.u64 (0 : Int)]), some (IV.agg [IV.int IntKind.i64 (4 : Int), IV.int IntKind.u64 (0 : Int)]), some (IV.agg [IV.int IntKind.i64 (4 : Int), IV.int IntKind.u64 (0 : Int), IV.int IntKind.i64 (0 : Int), IV.int IntKind.u64 (0 : Int)]), some (IV.agg [IV.int IntKind.i64 (2 : Int), IV.int IntKind.u64 (0 : Int), IV.int IntKind.i64 (0 : Int), IV.int IntKind.u64 (0 : Int), IV.int IntKind.i64 (4 : Int), IV.int IntKind.u64 (0 : Int), IV.int IntKind.i64 (0 : Int), IV.int IntKind.u64 (0 : Int), IV.int IntKind.i64 (0 : Int), IV.int IntKind.u64 (0 : Int), IV.int IntKind.i64 (0 : Int), IV.int IntKind.u64 (0 : Int), IV.int IntKind.i64 (0 : Int), IV.int IntKind.u64 (0 : Int), IV.int IntKind.i64 (0 : Int), IV.int IntKind.u64 (0 : Int), IV.int IntKind.i64 (0 : Int), IV.int IntKind.u64 (0 : Int), IV.int IntKind.i64 (0 : Int), IV.int IntKind.i64 (0 : Int)]), some (IV.agg [IV.int IntKind.i64 (3 : Int), IV.int IntKind.u64 (0 : Int)]), some (IV.int IntKind.i64 m), some (fx t4), some (IV.agg [IV.int IntKind.i64 (0 : Int), IV.int IntKind.i64 (1 : Int), IV.int IntKind.i64 (3 : Int), IV.int IntKind.u64 (0 : Int), IV.int IntKind.i64 (t4 / (18446744073709551616 : Int)), IV.int IntKind.u64 (t4 % (18446744073709551616 : Int))]), some (IV.agg [IV.int IntKind.i64 (2 : Int), IV.int IntKind.u64 (0 : Int), IV.int IntKind.i64 (0 : Int), IV.int IntKind.u64 (0 : Int), IV.int IntKind.i64 (0 : Int), IV.int IntKind.u64 (0 : Int), IV.int IntKind.i64 (0 : Int), IV.int IntKind.u64 (0 : Int), IV.int IntKind.i64 (t5 / (18446744073709551616 : Int)), IV.int IntKind.u64 (t5 % (18446744073709551616 : Int)), IV.int IntKind.i64 (0 : Int), IV.int IntKind.u64 (0 : Int), IV.int IntKind.i64 (0 : Int), IV.int IntKind.u64 (0 : Int), IV.int IntKind.i64 (0 : Int), IV.int IntKind.u64 (0 : Int), IV.int IntKind.i64 (0 : Int), IV.int IntKind.u64 (0 : Int), IV.int IntKind.i64 (0 : Int), IV.int IntKind.i64 (0 : Int)]), some (IV.agg [IV.int IntKind.i64 (2 : Int), IV.int IntKind.u64 (0 : Int), IV.int IntKind.i64 (0 : Int), IV.int IntKind.u64 (0 : Int), IV.int IntKind.i64 (4 : Int), IV.int IntKind.u64 (0 : Int), IV.int IntKind.i64 (0 : Int), IV.int IntKind.u64 (0 : Int), IV.int IntKind.i64 (0 : Int), IV.int IntKind.u64 (0 : Int), IV.int IntKind.i64 (0 : Int), IV.int IntKind.u64 (0 : Int), IV.int IntKind.i64 (0 : Int), IV.int IntKind.u64 (0 : Int), IV.int IntKind.i64 (0 : Int), IV.int IntKind.u64 (0 : Int), IV.int IntKind.i64 (0 : Int), IV.int IntKind.u64 (0 : Int), IV.int IntKind.i64 (0 : Int), IV.int IntKind.i64 (0 : Int)])] [some (Blk.var (115 : Nat) [IV.int IntKind.i64 (0 : Int), IV.int IntKind.i64 (1 : Int), IV.int IntKind.i64 (3 : Int), IV.int IntKind.u64 (0 : Int), IV.int IntKind.i64 (t4 / (18446744073709551616 : Int)), IV.int IntKind.u64 (t4 % (18446744073709551616 : Int))]), some (Blk.var (32 : Nat) [IV.int IntKind.i64 (2 : Int), IV.int IntKind.u64 (0 : Int), IV.int IntKind.i64 (0 : Int), IV.int IntKind.u64 (0 : Int), IV.int IntKind.i64 (0 : Int), IV.int IntKind.u64 (0 : Int), IV.int IntKind.i64 (0 : Int), IV.int IntKind.u64 (0 : Int), IV.int IntKind.i64 (t5 / (18446744073709551616 : Int)), IV.int IntKind.u64 (t5 % (18446744073709551616 : Int)), IV.int IntKind.i64 (0 : Int), IV.int IntKind.u64 (0 : Int), IV.int IntKind.i64 (0 : Int), IV.int IntKind.u64 (0 : Int), IV.int IntKind.i64 (0 : Int), IV.int IntKind.u64 (0 : Int), IV.int IntKind.i64 (0 : Int), IV.int IntKind.u64 (0 : Int), IV.int IntKind.i64 (0 : Int), IV.int IntKind.i64 (0 : Int)]), some (Blk.var (32 : Nat) [IV.int IntKind.i64 (2 : Int), IV.int IntKind.u64 (0 : Int), IV.int IntKind.i64 (0 : Int), IV.int IntKind.u64 (0 : Int), IV.int IntKind.i64 (4 : Int), IV.int IntKind.u64 (0 : Int), IV.int IntKind.i64 (0 : Int), IV.int IntKind.u64 (0 : Int), IV.int IntKind.i64 (0 : Int), IV.int IntKind.u64 (0 : Int), IV.int IntKind.i64 (0 : Int), IV.int IntKind.u64 (0 : Int), IV.int IntKind.i64 (0 : Int), IV.int IntKind.u64 (0 : Int), IV.int IntKind.i64 (0 : Int), IV.int IntKind.u64 (0 : Int), IV.int IntKind.i64 (0 : Int), IV.int IntKind.u64 (0 : Int), IV.int IntKind.i64 (0 : Int), IV.int IntKind.i64 (0 : Int)]), some (Blk.var (32 : Nat) [IV.int IntKind.i64 (2 : Int), IV.int IntKind.u64 (0 : Int), IV.int IntKind.i64 (0 : Int), IV.int IntKind.u64 (0 : Int), IV.int IntKind.i64 (0 : Int), IV.int IntKind.u64 (0 : Int), IV.int IntKind.i64 (0 : Int), IV.int IntKind.u64 (0 : Int), IV.int IntKind.i64 (t5 / (18446744073709551616 : Int)), IV.int IntKind.u64 (t5 % (18446744073709551616 : Int)), IV.int IntKind.i64 (0 : Int), IV.int IntKind.u64 (0 : Int), IV.int IntKind.i64 (0 : Int), IV.int IntKind.u64 (0 : Int), IV.int IntKind.i64 (0 : Int), IV.int IntKind.u64 (0 : Int), IV.int IntKind.i64 (0 : Int), IV.int IntKind.u64 (0 : Int), IV.int IntKind.i64 (0 : Int), IV.int IntKind.i64 (0 : Int)]), some (Blk.var (32 : Nat) [IV.int IntKind.i64 (2 : Int), IV.int IntKind.u64 (0 : Int), IV.int IntKind.i64 (0 : Int), IV.int IntKind.u64 (0 : Int), IV.int IntKind.i64 (4 : Int), IV.int IntKind.u64 (0 : Int), IV.int IntKind.i64 (0 : Int), IV.int IntKind.u64 (0 : Int), IV.int IntKind.i64 (0 : Int), IV.int IntKind.u64 (0 : Int), IV.int IntKind.i64 (0 : Int), IV.int IntKind.u64 (0 : Int), IV.int IntKind.i64 (0 : Int), IV.int IntKind.u64 (0 : Int), IV.int IntKind.i64 (0 : Int), IV.int IntKind.u64 (0 : Int), IV.int IntKind.i64 (0 : Int), IV.int IntKind.u64 (0 : Int), IV.int IntKind.i64 (0 : Int), IV.int IntKind.i64 (0 : Int)])] → t2 ∧ preI [IV.int IntKind.i64 (IntKind.i64.wrap ((-2 : Int) * v))] [] ∧ t2 ∧ preI [IV.int IntKind.i64 (4 : Int)] [] ∧ t3 ∧ t1 ∧ (t3 ∧ t1 ∧ t6 = t6) ∧ K (IV.tup [IV.agg [IV.int IntKind.i64 (0 : Int), IV.int IntKind.i64 (1 : Int), IV.int IntKind.i64 (3 : Int), IV.int IntKind.u64 (0 : Int), IV.int IntKind.i64 (t4 / (18446744073709551616 : Int)), IV.int IntKind.u64 (t4 % (18446744073709551616 : Int))], IV.agg [IV.int IntKind.i64 (2 : Int), IV.int IntKind.u64 (0 : Int), IV.int IntKind.i64 (0 : Int), IV.int IntKind.u64 (0 : Int), IV.int IntKind.i64 (0 : Int), IV.int IntKind.u64 (0 : Int), IV.int IntKind.i64 (0 : Int), IV.int IntKind.u64 (0 : Int), IV.int IntKind.i64 (t5 / (18446744073709551616 : Int)), IV.int IntKind.u64 (t5 % (18446744073709551616 : Int)), IV.int IntKind.i64 (0 : Int), IV.int IntKind.u64 (0 : Int), IV.int IntKind.i64 (0 : Int), IV.int IntKind.u64 (0 : Int), IV.int IntKind.i64 (0 : Int), IV.int IntKind.u64 (0 : Int), IV.int IntKind.i64 (0 : Int), IV.int IntKind.u64 (0 : Int), IV.int IntKind.i64 (0 : Int), IV.int IntKind.i64 (0 : Int)], IV.agg [IV.int IntKind.i64 (2 : Int), IV.int IntKind.u64 (0 : Int), IV.int IntKind.i64 (0 : Int), IV.int IntKind.u64 (0 : Int), IV.int IntKind.i64 (4 : Int), IV.int IntKind.u64 (0 : Int), IV.int IntKind.i64 (0 : Int), IV.int IntKind.u64 (0 : Int), IV.int IntKind.i64 (0 : Int), IV.int IntKind.u64 (0 : Int), IV.int IntKind.i64 (0 : Int), IV.int IntKind.u64 (0 : Int), IV.int IntKind.i64 (0 : Int), IV.int IntKind.u64 (0 : Int), IV.int IntKind.i64 (0 : Int), IV.int IntKind.u64 (0 : Int), IV.int IntKind.i64 (0 : Int), IV.int IntKind.u64 (0 : Int), IV.int IntKind.i64 (0 : Int), IV.int IntKind.i64 (0 : Int)]]) []) := by refine nm ?_; refine nm ?_; refine nm ?_; refine nm ?_; refine nm ?_; refine nm ?_; kernel_rfl
def liM (n : Int) : Int := n * 18446744073709551616
def paR (n : Int) : List Int := [2, 0, 0, 0, 0, 0, 0, 0, n, 0, 0, 0, 0, 0, 0, 0, 0, 0, 0, 0]
def pbR (n : Int) : List Int := [2, 0, 0, 0, 4, 0 * n, 0, 0, 0, 0, 0, 0, 0, 0, 0, 0, 0, 0, 0, 0]
def pPr (l : List IV) (bs : List Blk) : Prop := ∃ v m, l = [.int .i64 v, .int .i64 m] ∧ bs = [] ∧ (0 ≤ v ∧ v ≤ 1000) ∧ 0 ≤ m ∧ m ≤ 100000
noncomputable def spPr : Vs.Spec := ⟨pPr, fun l _ => (.tup [tetV 0 1 (liM 3) (liM (argI l 1 0)), bodyR (paR (-2 * argI l 0 0)), bodyR (pbR (argI l 0 0))], [])⟩
noncomputable def Γtt4 : FuncId → Option Vs.Spec := fun g => if g = f_perigeelaw18_pair then some spPr else Γtt3 g
noncomputable def Ntt4 : Know := ⟨Γtt4, fun _ _ => none, fun _ => none⟩
theorem v_awake18 (K : IV → List Blk → Prop) : (comes Try.prog Ntt4 3 f_perigeelaw18_awake [] [] K) = (∀ (t1 : Int), t1 = jaE [IV.agg [IV.int IntKind.i64 (0 : Int), IV.int IntKind.i64 (1 : Int), IV.int IntKind.i64 (3 : Int), IV.int IntKind.u64 (0 : Int), IV.int IntKind.i64 (100 : Int), IV.int IntKind.u64 (0 : Int)], IV.agg [IV.int IntKind.i64 (2 : Int), IV.int IntKind.u64 (0 : Int), IV.int IntKind.i64 (0 : Int), IV.int IntKind.u64 (0 : Int), IV.int IntKind.i64 (0 : Int), IV.int IntKind.u64 (0 : Int), IV.int IntKind.i64 (0 : Int), IV.int IntKind.u64 (0 : Int), IV.int IntKind.i64 (-12 : Int), IV.int IntKind.u64 (0 : Int), IV.int IntKind.i64 (0 : Int), IV.int IntKind.u64 (0 : Int), IV.int IntKind.i64 (0 : Int), IV.int IntKind.u64 (0 : Int), IV.int IntKind.i64 (0 : Int), IV.int IntKind.u64 (0 : Int), IV.int IntKind.i64 (0 : Int), IV.int IntKind.u64 (0 : Int), IV.int IntKind.i64 (0 : Int), IV.int IntKind.i64 (0 : Int)], IV.agg [IV.int IntKind.i64 (2 : Int), IV.int IntKind.u64 (0 : Int), IV.int IntKind.i64 (0 : Int), IV.int IntKind.u64 (0 : Int), IV.int IntKind.i64 (4 : Int), IV.int IntKind.u64 (0 : Int), IV.int IntKind.i64 (0 : Int), IV.int IntKind.u64 (0 : Int), IV.int IntKind.i64 (0 : Int), IV.int IntKind.u64 (0 : Int), IV.int IntKind.i64 (0 : Int), IV.int IntKind.u64 (0 : Int), IV.int IntKind.i64 (0 : Int), IV.int IntKind.u64 (0 : Int), IV.int IntKind.i64 (0 : Int), IV.int IntKind.u64 (0 : Int), IV.int IntKind.i64 (0 : Int), IV.int IntKind.u64 (0 : Int), IV.int IntKind.i64 (0 : Int), IV.int IntKind.i64 (0 : Int)]] → ∀ (t2 : Int), t2 = jaE [IV.agg [IV.int IntKind.i64 (0 : Int), IV.int IntKind.i64 (1 : Int), IV.int IntKind.i64 (3 : Int), IV.int IntKind.u64 (0 : Int), IV.int IntKind.i64 (1 : Int), IV.int IntKind.u64 (0 : Int)], IV.agg [IV.int IntKind.i64 (2 : Int), IV.int IntKind.u64 (0 : Int), IV.int IntKind.i64 (0 : Int), IV.int IntKind.u64 (0 : Int), IV.int IntKind.i64 (0 : Int), IV.int IntKind.u64 (0 : Int), IV.int IntKind.i64 (0 : Int), IV.int IntKind.u64 (0 : Int), IV.int IntKind.i64 (-12 : Int), IV.int IntKind.u64 (0 : Int), IV.int IntKind.i64 (0 : Int), IV.int IntKind.u64 (0 : Int), IV.int IntKind.i64 (0 : Int), IV.int IntKind.u64 (0 : Int), IV.int IntKind.i64 (0 : Int), IV.int IntKind.u64 (0 : Int), IV.int IntKind.i64 (0 : Int), IV.int IntKind.u64 (0 : Int), IV.int IntKind.i64 (0 : Int), IV.int IntKind.i64 (0 : Int)], IV.agg [IV.int IntKind.i64 (2 : Int), IV.int IntKind.u64 (0 : Int), IV.int IntKind.i64 (0 : Int), IV.int IntKind.u64 (0 : Int), IV.int IntKind.i64 (4 : Int), IV.int IntKind.u64 (0 : Int), IV.int IntKind.i64 (0 : Int), IV.int IntKind.u64 (0 : Int), IV.int IntKind.i64 (0 : Int), IV.int IntKind.u64 (0 : Int), IV.int IntKind.i64 (0 : Int), IV.int IntKind.u64 (0 : Int), IV.int IntKind.i64 (0 : Int), IV.int IntKind.u64 (0 : Int), IV.int IntKind.i64 (0 : Int), IV.int IntKind.u64 (0 : Int), IV.int IntKind.i64 (0 : Int), IV.int IntKind.u64 (0 : Int), IV.int IntKind.i64 (0 : Int), IV.int IntKind.i64 (0 : Int)]] → ∀ (t3 : Int), t3 = jaX [IV.agg [IV.int IntKind.i64 (0 : Int), IV.int IntKind.i64 (1 : Int), IV.int IntKind.i64 (3 : Int), IV.int IntKind.u64 (0 : Int), IV.int IntKind.i64 (100 : Int), IV.int IntKind.u64 (0 : Int)], IV.agg [IV.int IntKind.i64 (2 : Int), IV.int IntKind.u64 (0 : Int), IV.int IntKind.i64 (0 : Int), IV.int IntKind.u64 (0 : Int), IV.int IntKind.i64 (0 : Int), IV.int IntKind.u64 (0 : Int), IV.int IntKind.i64 (0 : Int), IV.int IntKind.u64 (0 : Int), IV.int IntKind.i64 (-12 : Int), IV.int IntKind.u64 (0 : Int), IV.int IntKind.i64 (0 : Int), IV.int IntKind.u64 (0 : Int), IV.int IntKind.i64 (0 : Int), IV.int IntKind.u64 (0 : Int), IV.int IntKind.i64 (0 : Int), IV.int IntKind.u64 (0 : Int), IV.int IntKind.i64 (0 : Int), IV.int IntKind.u64 (0 : Int), IV.int IntKind.i64 (0 : Int), IV.int IntKind.i64 (0 : Int)], IV.agg [IV.int IntKind.i64 (2 : Int), IV.int IntKind.u64 (0 : Int), IV.int IntKind.i64 (0 : Int), IV.int IntKind.u64 (0 : Int), IV.int IntKind.i64 (4 : Int), IV.int IntKind.u64 (0 : Int), IV.int IntKind.i64 (0 : Int), IV.int IntKind.u64 (0 : Int), IV.int IntKind.i64 (0 : Int), IV.int IntKind.u64 (0 : Int), IV.int IntKind.i64 (0 : Int), IV.int IntKind.u64 (0 : Int), IV.int IntKind.i64 (0 : Int), IV.int IntKind.u64 (0 : Int), IV.int IntKind.i64 (0 : Int), IV.int IntKind.u64 (0 : Int), IV.int IntKind.i64 (0 : Int), IV.int IntKind.u64 (0 : Int), IV.int IntKind.i64 (0 : Int), IV.int IntKind.i64 (0 : Int)]] → ∀ (t4 : Int), t4 = jaY [IV.agg [IV.int IntKind.i64 (0 : Int), IV.int IntKind.i64 (1 : Int), IV.int IntKind.i64 (3 : Int), IV.int IntKind.u64 (0 : Int), IV.int IntKind.i64 (100 : Int), IV.int IntKind.u64 (0 : Int)], IV.agg [IV.int IntKind.i64 (2 : Int), IV.int IntKind.u64 (0 : Int), IV.int IntKind.i64 (0 : Int), IV.int IntKind.u64 (0 : Int), IV.int IntKind.i64 (0 : Int), IV.int IntKind.u64 (0 : Int), IV.int IntKind.i64 (0 : Int), IV.int IntKind.u64 (0 : Int), IV.int IntKind.i64 (-12 : Int), IV.int IntKind.u64 (0 : Int), IV.int IntKind.i64 (0 : Int), IV.int IntKind.u64 (0 : Int), IV.int IntKind.i64 (0 : Int), IV.int IntKind.u64 (0 : Int), IV.int IntKind.i64 (0 : Int), IV.int IntKind.u64 (0 : Int), IV.int IntKind.i64 (0 : Int), IV.int IntKind.u64 (0 : Int), IV.int IntKind.i64 (0 : Int), IV.int IntKind.i64 (0 : Int)], IV.agg [IV.int IntKind.i64 (2 : Int), IV.int IntKind.u64 (0 : Int), IV.int IntKind.i64 (0 : Int), IV.int IntKind.u64 (0 : Int), IV.int IntKind.i64 (4 : Int), IV.int IntKind.u64 (0 : Int), IV.int IntKind.i64 (0 : Int), IV.int IntKind.u64 (0 : Int), IV.int IntKind.i64 (0 : Int), IV.int IntKind.u64 (0 : Int), IV.int IntKind.i64 (0 : Int), IV.int IntKind.u64 (0 : Int), IV.int IntKind.i64 (0 : Int), IV.int IntKind.u64 (0 : Int), IV.int IntKind.i64 (0 : Int), IV.int IntKind.u64 (0 : Int), IV.int IntKind.i64 (0 : Int), IV.int IntKind.u64 (0 : Int), IV.int IntKind.i64 (0 : Int), IV.int IntKind.i64 (0 : Int)]] → ∀ (c5 : Bool), c5 = decide (t4 = (0 : Int)) → ∀ (e6 : Bool), e6 = (decide (t3 = (0 : Int)) && c5) → pPr [IV.int IntKind.i64 (6 : Int), IV.int IntKind.i64 (100 : Int)] [] ∧ pJk [IV.agg [IV.int IntKind.i64 (0 : Int), IV.int IntKind.i64 (1 : Int), IV.int IntKind.i64 (3 : Int), IV.int IntKind.u64 (0 : Int), IV.int IntKind.i64 (100 : Int), IV.int IntKind.u64 (0 : Int)], IV.agg [IV.int IntKind.i64 (2 : Int), IV.int IntKind.u64 (0 : Int), IV.int IntKind.i64 (0 : Int), IV.int IntKind.u64 (0 : Int), IV.int IntKind.i64 (0 : Int), IV.int IntKind.u64 (0 : Int), IV.int IntKind.i64 (0 : Int), IV.int IntKind.u64 (0 : Int), IV.int IntKind.i64 (-12 : Int), IV.int IntKind.u64 (0 : Int), IV.int IntKind.i64 (0 : Int), IV.int IntKind.u64 (0 : Int), IV.int IntKind.i64 (0 : Int), IV.int IntKind.u64 (0 : Int), IV.int IntKind.i64 (0 : Int), IV.int IntKind.u64 (0 : Int), IV.int IntKind.i64 (0 : Int), IV.int IntKind.u64 (0 : Int), IV.int IntKind.i64 (0 : Int), IV.int IntKind.i64 (0 : Int)], IV.agg [IV.int IntKind.i64 (2 : Int), IV.int IntKind.u64 (0 : Int), IV.int IntKind.i64 (0 : Int), IV.int IntKind.u64 (0 : Int), IV.int IntKind.i64 (4 : Int), IV.int IntKind.u64 (0 : Int), IV.int IntKind.i64 (0 : Int), IV.int IntKind.u64 (0 : Int), IV.int IntKind.i64 (0 : Int), IV.int IntKind.u64 (0 : Int), IV.int IntKind.i64 (0 : Int), IV.int IntKind.u64 (0 : Int), IV.int IntKind.i64 (0 : Int), IV.int IntKind.u64 (0 : Int), IV.int IntKind.i64 (0 : Int), IV.int IntKind.u64 (0 : Int), IV.int IntKind.i64 (0 : Int), IV.int IntKind.u64 (0 : Int), IV.int IntKind.i64 (0 : Int), IV.int IntKind.i64 (0 : Int)]] [] ∧ preI [IV.int IntKind.i64 (1 : Int)] [] ∧ pJk [IV.agg [IV.int IntKind.i64 (0 : Int), IV.int IntKind.i64 (1 : Int), IV.int IntKind.i64 (3 : Int), IV.int IntKind.u64 (0 : Int), IV.int IntKind.i64 (1 : Int), IV.int IntKind.u64 (0 : Int)], IV.agg [IV.int IntKind.i64 (2 : Int), IV.int IntKind.u64 (0 : Int), IV.int IntKind.i64 (0 : Int), IV.int IntKind.u64 (0 : Int), IV.int IntKind.i64 (0 : Int), IV.int IntKind.u64 (0 : Int), IV.int IntKind.i64 (0 : Int), IV.int IntKind.u64 (0 : Int), IV.int IntKind.i64 (-12 : Int), IV.int IntKind.u64 (0 : Int), IV.int IntKind.i64 (0 : Int), IV.int IntKind.u64 (0 : Int), IV.int IntKind.i64 (0 : Int), IV.int IntKind.u64 (0 : Int), IV.int IntKind.i64 (0 : Int), IV.int IntKind.u64 (0 : Int), IV.int IntKind.i64 (0 : Int), IV.int IntKind.u64 (0 : Int), IV.int IntKind.i64 (0 : Int), IV.int IntKind.i64 (0 : Int)], IV.agg [IV.int IntKind.i64 (2 : Int), IV.int IntKind.u64 (0 : Int), IV.int IntKind.i64 (0 : Int), IV.int IntKind.u64 (0 : Int), IV.int IntKind.i64 (4 : Int), IV.int IntKind.u64 (0 : Int), IV.int IntKind.i64 (0 : Int), IV.int IntKind.u64 (0 : Int), IV.int IntKind.i64 (0 : Int), IV.int IntKind.u64 (0 : Int), IV.int IntKind.i64 (0 : Int), IV.int IntKind.u64 (0 : Int), IV.int IntKind.i64 (0 : Int), IV.int IntKind.u64 (0 : Int), IV.int IntKind.i64 (0 : Int), IV.int IntKind.u64 (0 : Int), IV.int IntKind.i64 (0 : Int), IV.int IntKind.u64 (0 : Int), IV.int IntKind.i64 (0 : Int), IV.int IntKind.i64 (0 : Int)]] [] ∧ br (jaP [IV.agg [IV.int IntKind.i64 (0 : Int), IV.int IntKind.i64 (1 : Int), IV.int IntKind.i64 (3 : Int), IV.int IntKind.u64 (0 : Int), IV.int IntKind.i64 (100 : Int), IV.int IntKind.u64 (0 : Int)], IV.agg [IV.int IntKind.i64 (2 : Int), IV.int IntKind.u64 (0 : Int), IV.int IntKind.i64 (0 : Int), IV.int IntKind.u64 (0 : Int), IV.int IntKind.i64 (0 : Int), IV.int IntKind.u64 (0 : Int), IV.int IntKind.i64 (0 : Int), IV.int IntKind.u64 (0 : Int), IV.int IntKind.i64 (-12 : Int), IV.int IntKind.u64 (0 : Int), IV.int IntKind.i64 (0 : Int), IV.int IntKind.u64 (0 : Int), IV.int IntKind.i64 (0 : Int), IV.int IntKind.u64 (0 : Int), IV.int IntKind.i64 (0 : Int), IV.int IntKind.u64 (0 : Int), IV.int IntKind.i64 (0 : Int), IV.int IntKind.u64 (0 : Int), IV.int IntKind.i64 (0 : Int), IV.int IntKind.i64 (0 : Int)], IV.agg [IV.int IntKind.i64 (2 : Int), IV.int IntKind.u64 (0 : Int), IV.int IntKind.i64 (0 : Int), IV.int IntKind.u64 (0 : Int), IV.int IntKind.i64 (4 : Int), IV.int IntKind.u64 (0 : Int), IV.int IntKind.i64 (0 : Int), IV.int IntKind.u64 (0 : Int), IV.int IntKind.i64 (0 : Int), IV.int IntKind.u64 (0 : Int), IV.int IntKind.i64 (0 : Int), IV.int IntKind.u64 (0 : Int), IV.int IntKind.i64 (0 : Int), IV.int IntKind.u64 (0 : Int), IV.int IntKind.i64 (0 : Int), IV.int IntKind.u64 (0 : Int), IV.int IntKind.i64 (0 : Int), IV.int IntKind.u64 (0 : Int), IV.int IntKind.i64 (0 : Int), IV.int IntKind.i64 (0 : Int)]]) (br (!jaB [IV.agg [IV.int IntKind.i64 (0 : Int), IV.int IntKind.i64 (1 : Int), IV.int IntKind.i64 (3 : Int), IV.int IntKind.u64 (0 : Int), IV.int IntKind.i64 (100 : Int), IV.int IntKind.u64 (0 : Int)], IV.agg [IV.int IntKind.i64 (2 : Int), IV.int IntKind.u64 (0 : Int), IV.int IntKind.i64 (0 : Int), IV.int IntKind.u64 (0 : Int), IV.int IntKind.i64 (0 : Int), IV.int IntKind.u64 (0 : Int), IV.int IntKind.i64 (0 : Int), IV.int IntKind.u64 (0 : Int), IV.int IntKind.i64 (-12 : Int), IV.int IntKind.u64 (0 : Int), IV.int IntKind.i64 (0 : Int), IV.int IntKind.u64 (0 : Int), IV.int IntKind.i64 (0 : Int), IV.int IntKind.u64 (0 : Int), IV.int IntKind.i64 (0 : Int), IV.int IntKind.u64 (0 : Int), IV.int IntKind.i64 (0 : Int), IV.int IntKind.u64 (0 : Int), IV.int IntKind.i64 (0 : Int), IV.int IntKind.i64 (0 : Int)], IV.agg [IV.int IntKind.i64 (2 : Int), IV.int IntKind.u64 (0 : Int), IV.int IntKind.i64 (0 : Int), IV.int IntKind.u64 (0 : Int), IV.int IntKind.i64 (4 : Int), IV.int IntKind.u64 (0 : Int), IV.int IntKind.i64 (0 : Int), IV.int IntKind.u64 (0 : Int), IV.int IntKind.i64 (0 : Int), IV.int IntKind.u64 (0 : Int), IV.int IntKind.i64 (0 : Int), IV.int IntKind.u64 (0 : Int), IV.int IntKind.i64 (0 : Int), IV.int IntKind.u64 (0 : Int), IV.int IntKind.i64 (0 : Int), IV.int IntKind.u64 (0 : Int), IV.int IntKind.i64 (0 : Int), IV.int IntKind.u64 (0 : Int), IV.int IntKind.i64 (0 : Int), IV.int IntKind.i64 (0 : Int)]]) (br (!jaP [IV.agg [IV.int IntKind.i64 (0 : Int), IV.int IntKind.i64 (1 : Int), IV.int IntKind.i64 (3 : Int), IV.int IntKind.u64 (0 : Int), IV.int IntKind.i64 (1 : Int), IV.int IntKind.u64 (0 : Int)], IV.agg [IV.int IntKind.i64 (2 : Int), IV.int IntKind.u64 (0 : Int), IV.int IntKind.i64 (0 : Int), IV.int IntKind.u64 (0 : Int), IV.int IntKind.i64 (0 : Int), IV.int IntKind.u64 (0 : Int), IV.int IntKind.i64 (0 : Int), IV.int IntKind.u64 (0 : Int), IV.int IntKind.i64 (-12 : Int), IV.int IntKind.u64 (0 : Int), IV.int IntKind.i64 (0 : Int), IV.int IntKind.u64 (0 : Int), IV.int IntKind.i64 (0 : Int), IV.int IntKind.u64 (0 : Int), IV.int IntKind.i64 (0 : Int), IV.int IntKind.u64 (0 : Int), IV.int IntKind.i64 (0 : Int), IV.int IntKind.u64 (0 : Int), IV.int IntKind.i64 (0 : Int), IV.int IntKind.i64 (0 : Int)], IV.agg [IV.int IntKind.i64 (2 : Int), IV.int IntKind.u64 (0 : Int), IV.int IntKind.i64 (0 : Int), IV.int IntKind.u64 (0 : Int), IV.int IntKind.i64 (4 : Int), IV.int IntKind.u64 (0 : Int), IV.int IntKind.i64 (0 : Int), IV.int IntKind.u64 (0 : Int), IV.int IntKind.i64 (0 : Int), IV.int IntKind.u64 (0 : Int), IV.int IntKind.i64 (0 : Int), IV.int IntKind.u64 (0 : Int), IV.int IntKind.i64 (0 : Int), IV.int IntKind.u64 (0 : Int), IV.int IntKind.i64 (0 : Int), IV.int IntKind.u64 (0 : Int), IV.int IntKind.i64 (0 : Int), IV.int IntKind.u64 (0 : Int), IV.int IntKind.i64 (0 : Int), IV.int IntKind.i64 (0 : Int)]]) (br (jaB [IV.agg [IV.int IntKind.i64 (0 : Int), IV.int IntKind.i64 (1 : Int), IV.int IntKind.i64 (3 : Int), IV.int IntKind.u64 (0 : Int), IV.int IntKind.i64 (1 : Int), IV.int IntKind.u64 (0 : Int)], IV.agg [IV.int IntKind.i64 (2 : Int), IV.int IntKind.u64 (0 : Int), IV.int IntKind.i64 (0 : Int), IV.int IntKind.u64 (0 : Int), IV.int IntKind.i64 (0 : Int), IV.int IntKind.u64 (0 : Int), IV.int IntKind.i64 (0 : Int), IV.int IntKind.u64 (0 : Int), IV.int IntKind.i64 (-12 : Int), IV.int IntKind.u64 (0 : Int), IV.int IntKind.i64 (0 : Int), IV.int IntKind.u64 (0 : Int), IV.int IntKind.i64 (0 : Int), IV.int IntKind.u64 (0 : Int), IV.int IntKind.i64 (0 : Int), IV.int IntKind.u64 (0 : Int), IV.int IntKind.i64 (0 : Int), IV.int IntKind.u64 (0 : Int), IV.int IntKind.i64 (0 : Int), IV.int IntKind.i64 (0 : Int)], IV.agg [IV.int IntKind.i64 (2 : Int), IV.int IntKind.u64 (0 : Int), IV.int IntKind.i64 (0 : Int), IV.int IntKind.u64 (0 : Int), IV.int IntKind.i64 (4 : Int), IV.int IntKind.u64 (0 : Int), IV.int IntKind.i64 (0 : Int), IV.int IntKind.u64 (0 : Int), IV.int IntKind.i64 (0 : Int), IV.int IntKind.u64 (0 : Int), IV.int IntKind.i64 (0 : Int), IV.int IntKind.u64 (0 : Int), IV.int IntKind.i64 (0 : Int), IV.int IntKind.u64 (0 : Int), IV.int IntKind.i64 (0 : Int), IV.int IntKind.u64 (0 : Int), IV.int IntKind.i64 (0 : Int), IV.int IntKind.u64 (0 : Int), IV.int IntKind.i64 (0 : Int), IV.int IntKind.i64 (0 : Int)]]) (preI [IV.int IntKind.i64 t1] [] ∧ preI [IV.int IntKind.i64 t2] [] ∧ br (IntKind.i64.wrap (t1 + t2) == (0 : Int)) (K (IV.bool !e6) []) (K (IV.bool false) [])) (K (IV.bool false) [])) (K (IV.bool false) [])) (K (IV.bool false) [])) (K (IV.bool false) [])) := by refine nm ?_; refine nm ?_; refine nm ?_; refine nm ?_; refine nbc (c := 0) (d := 0) (by decide) ?_; refine nbcr (c := 0) (d := 0) (by decide) ?_; kernel_rfl
noncomputable def spAwk18 : Vs.Spec := ⟨preNone, fun _ _ => (.bool true, [])⟩
noncomputable def Γtt5 : FuncId → Option Vs.Spec := fun g => if g = f_perigeelaw18_awake then some spAwk18 else Γtt4 g
noncomputable def Ntt5 : Know := ⟨Γtt5, fun _ _ => none, fun _ => none⟩
theorem v_TetherAll (a b len lim : Int) (r s : List Int) (K : IV → List Blk → Prop) : (comes Try.prog Ntt5 3 f_perigeelaw18_TetherAll [tetV a b len lim, bodyR r, bodyR s] [] K) = (∀ (j1 : Int), j1 = len → ∀ (j2 : Int), j2 = lim → ∀ (t3 : Int), t3 = cmpI j1 (0 : Int) → ∀ (t4 : Int), t4 = cmpI j1 (19807040628566084398385987584 : Int) → ∀ (t5 : Int), t5 = cmpI j2 (0 : Int) → ∀ (t6 : Int), t6 = jaX [IV.agg [IV.int IntKind.i64 a, IV.int IntKind.i64 b, IV.int IntKind.i64 (len / (18446744073709551616 : Int)), IV.int IntKind.u64 (len % (18446744073709551616 : Int)), IV.int IntKind.i64 (lim / (18446744073709551616 : Int)), IV.int IntKind.u64 (lim % (18446744073709551616 : Int))], IV.agg (rowCells ksB [r] (0 : Nat) (0 : Nat) (20 : Nat)), IV.agg (rowCells ksB [s] (0 : Nat) (0 : Nat) (20 : Nat))] → ∀ (t7 : Int), t7 = jaY [IV.agg [IV.int IntKind.i64 a, IV.int IntKind.i64 b, IV.int IntKind.i64 (len / (18446744073709551616 : Int)), IV.int IntKind.u64 (len % (18446744073709551616 : Int)), IV.int IntKind.i64 (lim / (18446744073709551616 : Int)), IV.int IntKind.u64 (lim % (18446744073709551616 : Int))], IV.agg (rowCells ksB [r] (0 : Nat) (0 : Nat) (20 : Nat)), IV.agg (rowCells ksB [s] (0 : Nat) (0 : Nat) (20 : Nat))] → ∀ (t8 : Int), t8 = jaE [IV.agg [IV.int IntKind.i64 a, IV.int IntKind.i64 b, IV.int IntKind.i64 (len / (18446744073709551616 : Int)), IV.int IntKind.u64 (len % (18446744073709551616 : Int)), IV.int IntKind.i64 (lim / (18446744073709551616 : Int)), IV.int IntKind.u64 (lim % (18446744073709551616 : Int))], IV.agg (rowCells ksB [r] (0 : Nat) (0 : Nat) (20 : Nat)), IV.agg (rowCells ksB [s] (0 : Nat) (0 : Nat) (20 : Nat))] → ∀ (t9 : Prop), t9 = pJk [IV.agg [IV.int IntKind.i64 a, IV.int IntKind.i64 b, IV.int IntKind.i64 (len / (18446744073709551616 : Int)), IV.int IntKind.u64 (len % (18446744073709551616 : Int)), IV.int IntKind.i64 (lim / (18446744073709551616 : Int)), IV.int IntKind.u64 (lim % (18446744073709551616 : Int))], IV.agg (rowCells ksB [r] (0 : Nat) (0 : Nat) (20 : Nat)), IV.agg (rowCells ksB [s] (0 : Nat) (0 : Nat) (20 : Nat))] [] → ∀ (b10 : Bool), b10 = decide (t7 = t7) → ∀ (d11 : Bool), d11 = (decide (t6 = t6) && b10) → pBody0 [IV.agg (rowCells ksB [r] (0 : Nat) (0 : Nat) (20 : Nat))] [] ∧ br (!mayBB (rowA [IV.agg (rowCells ksB [r] (0 : Nat) (0 : Nat) (20 : Nat))] (0 : Nat))) (preNone [] [] ∧ K (IV.bool true) []) (pBody0 [IV.agg (rowCells ksB [s] (0 : Nat) (0 : Nat) (20 : Nat))] [] ∧ br (!mayBB (rowA [IV.agg (rowCells ksB [s] (0 : Nat) (0 : Nat) (20 : Nat))] (0 : Nat))) (preNone [] [] ∧ K (IV.bool true) []) (preF [fx len] [] ∧ br (!decide ((-170141183460469231731687303715884105728 : Int) < j1)) (preNone [] [] ∧ K (IV.bool true) []) (preF [fx lim] [] ∧ br (!decide ((-170141183460469231731687303715884105728 : Int) < j2)) (preNone [] [] ∧ K (IV.bool true) []) (preFF [fx len, IV.agg [IV.int IntKind.i64 (0 : Int), IV.int IntKind.u64 (0 : Int)]] [] ∧ br (decide (t3 ≤ (0 : Int))) (preNone [] [] ∧ K (IV.bool true) []) (preI [IV.int IntKind.i64 (1073741824 : Int)] [] ∧ preFF [fx len, IV.agg [IV.int IntKind.i64 (1073741824 : Int), IV.int IntKind.u64 (0 : Int)]] [] ∧ br (decide (t4 > (0 : Int))) (preNone [] [] ∧ K (IV.bool true) []) (preFF [fx lim, IV.agg [IV.int IntKind.i64 (0 : Int), IV.int IntKind.u64 (0 : Int)]] [] ∧ br (decide (t5 < (0 : Int))) (preNone [] [] ∧ K (IV.bool true) []) (t9 ∧ t9 ∧ br d11 (br (jaP [IV.agg [IV.int IntKind.i64 a, IV.int IntKind.i64 b, IV.int IntKind.i64 (len / (18446744073709551616 : Int)), IV.int IntKind.u64 (len % (18446744073709551616 : Int)), IV.int IntKind.i64 (lim / (18446744073709551616 : Int)), IV.int IntKind.u64 (lim % (18446744073709551616 : Int))], IV.agg (rowCells ksB [r] (0 : Nat) (0 : Nat) (20 : Nat)), IV.agg (rowCells ksB [s] (0 : Nat) (0 : Nat) (20 : Nat))] == jaP [IV.agg [IV.int IntKind.i64 a, IV.int IntKind.i64 b, IV.int IntKind.i64 (len / (18446744073709551616 : Int)), IV.int IntKind.u64 (len % (18446744073709551616 : Int)), IV.int IntKind.i64 (lim / (18446744073709551616 : Int)), IV.int IntKind.u64 (lim % (18446744073709551616 : Int))], IV.agg (rowCells ksB [r] (0 : Nat) (0 : Nat) (20 : Nat)), IV.agg (rowCells ksB [s] (0 : Nat) (0 : Nat) (20 : Nat))]) (br (jaB [IV.agg [IV.int IntKind.i64 a, IV.int IntKind.i64 b, IV.int IntKind.i64 (len / (18446744073709551616 : Int)), IV.int IntKind.u64 (len % (18446744073709551616 : Int)), IV.int IntKind.i64 (lim / (18446744073709551616 : Int)), IV.int IntKind.u64 (lim % (18446744073709551616 : Int))], IV.agg (rowCells ksB [r] (0 : Nat) (0 : Nat) (20 : Nat)), IV.agg (rowCells ksB [s] (0 : Nat) (0 : Nat) (20 : Nat))] == jaB [IV.agg [IV.int IntKind.i64 a, IV.int IntKind.i64 b, IV.int IntKind.i64 (len / (18446744073709551616 : Int)), IV.int IntKind.u64 (len % (18446744073709551616 : Int)), IV.int IntKind.i64 (lim / (18446744073709551616 : Int)), IV.int IntKind.u64 (lim % (18446744073709551616 : Int))], IV.agg (rowCells ksB [r] (0 : Nat) (0 : Nat) (20 : Nat)), IV.agg (rowCells ksB [s] (0 : Nat) (0 : Nat) (20 : Nat))]) (preI [IV.int IntKind.i64 t8] [] ∧ br (t8 == t8) (preNone [] [] ∧ K (IV.bool true) []) (K (IV.bool false) [])) (K (IV.bool false) [])) (K (IV.bool false) [])) (K (IV.bool false) []))))))))) := by refine nj ?_; refine nj ?_; refine nm ?_; refine nm ?_; refine nm ?_; refine nm ?_; refine nm ?_; refine nm ?_; refine nm ?_; refine nb ?_; refine nbr ?_; kernel_rfl
theorem v_TetherLine (v m : Int) (K : IV → List Blk → Prop) : (comes Try.prog Ntt5 3 f_perigeelaw18_TetherLine [.int .u8 v, .int .u16 m] [] K) = (∀ (t1 : Int), t1 = mx IntKind.i64 (IntKind.i64.wrap ((1 : Int) + (IntKind.i64.wrap v).tmod (60 : Int))) (-9223372036854775807 : Int) * (18446744073709551616 : Int) → ∀ (j2 : Int), j2 = t1 → ∀ (t3 : Int), t3 = jaX [IV.agg [IV.int IntKind.i64 (0 : Int), IV.int IntKind.i64 (1 : Int), IV.int IntKind.i64 (3 : Int), IV.int IntKind.u64 (0 : Int), IV.int IntKind.i64 (liM (IntKind.i64.wrap m) / (18446744073709551616 : Int)), IV.int IntKind.u64 (liM (IntKind.i64.wrap m) % (18446744073709551616 : Int))], IV.agg (rowCells ksB [paR ((-2 : Int) * IntKind.i64.wrap ((1 : Int) + (IntKind.i64.wrap v).tmod (60 : Int)))] (0 : Nat) (0 : Nat) (20 : Nat)), IV.agg (rowCells ksB [pbR (IntKind.i64.wrap ((1 : Int) + (IntKind.i64.wrap v).tmod (60 : Int)))] (0 : Nat) (0 : Nat) (20 : Nat))] → ∀ (j4 : Int), j4 = t3 → ∀ (t5 : Int), t5 = numF (j4 - j2) → ∀ (j6 : Int), j6 = t5 → ∀ (t7 : Int), t7 = absI j6 → ∀ (j8 : Int), j8 = t7 → ∀ (t9 : Int), t9 = liM (IntKind.i64.wrap m) → ∀ (t10 : Int), t10 = IntKind.i64.wrap ((1 : Int) + (IntKind.i64.wrap v).tmod (60 : Int)) → ∀ (t11 : Int), t11 = rd [paR ((-2 : Int) * t10)] (0 : Nat) (8 : Nat) → ∀ (t12 : Int), t12 = rd [paR ((-2 : Int) * t10)] (0 : Nat) (9 : Nat) → ∀ (t13 : Int), t13 = rd [paR ((-2 : Int) * t10)] (0 : Nat) (10 : Nat) → ∀ (t14 : Int), t14 = rd [paR ((-2 : Int) * t10)] (0 : Nat) (11 : Nat) → ∀ (t15 : Int), t15 = -(t11 * (18446744073709551616 : Int) + t12) → ∀ (t16 : Int), t16 = -(t13 * (18446744073709551616 : Int) + t14) → ∀ (t17 : Int), t17 = jaE [IV.agg [IV.int IntKind.i64 (0 : Int), IV.int IntKind.i64 (1 : Int), IV.int IntKind.i64 (3 : Int), IV.int IntKind.u64 (0 : Int), IV.int IntKind.i64 (t9 / (18446744073709551616 : Int)), IV.int IntKind.u64 (t9 % (18446744073709551616 : Int))], IV.agg (rowCells ksB [paR ((-2 : Int) * t10)] (0 : Nat) (0 : Nat) (20 : Nat)), IV.agg (rowCells ksB [pbR t10] (0 : Nat) (0 : Nat) (20 : Nat))] → ∀ (t18 : Int), t18 = jaE [IV.agg [IV.int IntKind.i64 (0 : Int), IV.int IntKind.i64 (1 : Int), IV.int IntKind.i64 (3 : Int), IV.int IntKind.u64 (0 : Int), IV.int IntKind.i64 (t9 / (18446744073709551616 : Int)), IV.int IntKind.u64 (t9 % (18446744073709551616 : Int))], IV.agg (rowCells ksB [pbR t10] (0 : Nat) (0 : Nat) (20 : Nat)), IV.agg (rowCells ksB [paR ((-2 : Int) * t10)] (0 : Nat) (0 : Nat) (20 : Nat))] → ∀ (t19 : Int), t19 = jaE [IV.agg [IV.int IntKind.i64 (0 : Int), IV.int IntKind.i64 (1 : Int), IV.int IntKind.i64 (5 : Int), IV.int IntKind.u64 (0 : Int), IV.int IntKind.i64 (t9 / (18446744073709551616 : Int)), IV.int IntKind.u64 (t9 % (18446744073709551616 : Int))], IV.agg (rowCells ksB [paR ((-2 : Int) * t10)] (0 : Nat) (0 : Nat) (20 : Nat)), IV.agg (rowCells ksB [pbR t10] (0 : Nat) (0 : Nat) (20 : Nat))] → ∀ (t20 : Int), t20 = jaY [IV.agg [IV.int IntKind.i64 (0 : Int), IV.int IntKind.i64 (1 : Int), IV.int IntKind.i64 (3 : Int), IV.int IntKind.u64 (0 : Int), IV.int IntKind.i64 (t9 / (18446744073709551616 : Int)), IV.int IntKind.u64 (t9 % (18446744073709551616 : Int))], IV.agg (rowCells ksB [paR ((-2 : Int) * t10)] (0 : Nat) (0 : Nat) (20 : Nat)), IV.agg (rowCells ksB [pbR t10] (0 : Nat) (0 : Nat) (20 : Nat))] → ∀ (t21 : Int), t21 = jaE [IV.agg [IV.int IntKind.i64 (0 : Int), IV.int IntKind.i64 (1 : Int), IV.int IntKind.i64 (3 : Int), IV.int IntKind.u64 (0 : Int), IV.int IntKind.i64 (t9 / (18446744073709551616 : Int)), IV.int IntKind.u64 (t9 % (18446744073709551616 : Int))], IV.agg [IV.int IntKind.i64 (rd [paR ((-2 : Int) * t10)] (0 : Nat) (0 : Nat)), IV.int IntKind.u64 (rd [paR ((-2 : Int) * t10)] (0 : Nat) (1 : Nat)), IV.int IntKind.i64 (rd [paR ((-2 : Int) * t10)] (0 : Nat) (2 : Nat)), IV.int IntKind.u64 (rd [paR ((-2 : Int) * t10)] (0 : Nat) (3 : Nat)), IV.int IntKind.i64 (rd [paR ((-2 : Int) * t10)] (0 : Nat) (4 : Nat)), IV.int IntKind.u64 (rd [paR ((-2 : Int) * t10)] (0 : Nat) (5 : Nat)), IV.int IntKind.i64 (rd [paR ((-2 : Int) * t10)] (0 : Nat) (6 : Nat)), IV.int IntKind.u64 (rd [paR ((-2 : Int) * t10)] (0 : Nat) (7 : Nat)), IV.int IntKind.i64 (t15 / (18446744073709551616 : Int)), IV.int IntKind.u64 (t15 % (18446744073709551616 : Int)), IV.int IntKind.i64 (t16 / (18446744073709551616 : Int)), IV.int IntKind.u64 (t16 % (18446744073709551616 : Int)), IV.int IntKind.i64 (rd [paR ((-2 : Int) * t10)] (0 : Nat) (12 : Nat)), IV.int IntKind.u64 (rd [paR ((-2 : Int) * t10)] (0 : Nat) (13 : Nat)), IV.int IntKind.i64 (rd [paR ((-2 : Int) * t10)] (0 : Nat) (14 : Nat)), IV.int IntKind.u64 (rd [paR ((-2 : Int) * t10)] (0 : Nat) (15 : Nat)), IV.int IntKind.i64 (rd [paR ((-2 : Int) * t10)] (0 : Nat) (16 : Nat)), IV.int IntKind.u64 (rd [paR ((-2 : Int) * t10)] (0 : Nat) (17 : Nat)), IV.int IntKind.i64 (rd [paR ((-2 : Int) * t10)] (0 : Nat) (18 : Nat)), IV.int IntKind.i64 (rd [paR ((-2 : Int) * t10)] (0 : Nat) (19 : Nat))], IV.agg (rowCells ksB [pbR t10] (0 : Nat) (0 : Nat) (20 : Nat))] → ∀ (c22 : Bool), c22 = decide (t20 = (0 : Int)) → ∀ (e23 : Bool), e23 = (decide (t3 = (0 : Int)) && c22) → (60 : Int) ≠ (0 : Int) ∧ pPr [IV.int IntKind.i64 t10, IV.int IntKind.i64 (IntKind.i64.wrap m)] [] ∧ pJk [IV.agg [IV.int IntKind.i64 (0 : Int), IV.int IntKind.i64 (1 : Int), IV.int IntKind.i64 (3 : Int), IV.int IntKind.u64 (0 : Int), IV.int IntKind.i64 (t9 / (18446744073709551616 : Int)), IV.int IntKind.u64 (t9 % (18446744073709551616 : Int))], IV.agg (rowCells ksB [paR ((-2 : Int) * t10)] (0 : Nat) (0 : Nat) (20 : Nat)), IV.agg (rowCells ksB [pbR t10] (0 : Nat) (0 : Nat) (20 : Nat))] [] ∧ pJk [IV.agg [IV.int IntKind.i64 (0 : Int), IV.int IntKind.i64 (1 : Int), IV.int IntKind.i64 (3 : Int), IV.int IntKind.u64 (0 : Int), IV.int IntKind.i64 (t9 / (18446744073709551616 : Int)), IV.int IntKind.u64 (t9 % (18446744073709551616 : Int))], IV.agg (rowCells ksB [pbR t10] (0 : Nat) (0 : Nat) (20 : Nat)), IV.agg (rowCells ksB [paR ((-2 : Int) * t10)] (0 : Nat) (0 : Nat) (20 : Nat))] [] ∧ preI [IV.int IntKind.i64 (5 : Int)] [] ∧ pJk [IV.agg [IV.int IntKind.i64 (0 : Int), IV.int IntKind.i64 (1 : Int), IV.int IntKind.i64 (5 : Int), IV.int IntKind.u64 (0 : Int), IV.int IntKind.i64 (t9 / (18446744073709551616 : Int)), IV.int IntKind.u64 (t9 % (18446744073709551616 : Int))], IV.agg (rowCells ksB [paR ((-2 : Int) * t10)] (0 : Nat) (0 : Nat) (20 : Nat)), IV.agg (rowCells ksB [pbR t10] (0 : Nat) (0 : Nat) (20 : Nat))] [] ∧ preI [IV.int IntKind.i64 (3 : Int)] [] ∧ vmay1 [IV.agg [IV.int IntKind.i64 t11, IV.int IntKind.u64 t12, IV.int IntKind.i64 t13, IV.int IntKind.u64 t14]] [] ∧ pJk [IV.agg [IV.int IntKind.i64 (0 : Int), IV.int IntKind.i64 (1 : Int), IV.int IntKind.i64 (3 : Int), IV.int IntKind.u64 (0 : Int), IV.int IntKind.i64 (t9 / (18446744073709551616 : Int)), IV.int IntKind.u64 (t9 % (18446744073709551616 : Int))], IV.agg [IV.int IntKind.i64 (rd [paR ((-2 : Int) * t10)] (0 : Nat) (0 : Nat)), IV.int IntKind.u64 (rd [paR ((-2 : Int) * t10)] (0 : Nat) (1 : Nat)), IV.int IntKind.i64 (rd [paR ((-2 : Int) * t10)] (0 : Nat) (2 : Nat)), IV.int IntKind.u64 (rd [paR ((-2 : Int) * t10)] (0 : Nat) (3 : Nat)), IV.int IntKind.i64 (rd [paR ((-2 : Int) * t10)] (0 : Nat) (4 : Nat)), IV.int IntKind.u64 (rd [paR ((-2 : Int) * t10)] (0 : Nat) (5 : Nat)), IV.int IntKind.i64 (rd [paR ((-2 : Int) * t10)] (0 : Nat) (6 : Nat)), IV.int IntKind.u64 (rd [paR ((-2 : Int) * t10)] (0 : Nat) (7 : Nat)), IV.int IntKind.i64 (t15 / (18446744073709551616 : Int)), IV.int IntKind.u64 (t15 % (18446744073709551616 : Int)), IV.int IntKind.i64 (t16 / (18446744073709551616 : Int)), IV.int IntKind.u64 (t16 % (18446744073709551616 : Int)), IV.int IntKind.i64 (rd [paR ((-2 : Int) * t10)] (0 : Nat) (12 : Nat)), IV.int IntKind.u64 (rd [paR ((-2 : Int) * t10)] (0 : Nat) (13 : Nat)), IV.int IntKind.i64 (rd [paR ((-2 : Int) * t10)] (0 : Nat) (14 : Nat)), IV.int IntKind.u64 (rd [paR ((-2 : Int) * t10)] (0 : Nat) (15 : Nat)), IV.int IntKind.i64 (rd [paR ((-2 : Int) * t10)] (0 : Nat) (16 : Nat)), IV.int IntKind.u64 (rd [paR ((-2 : Int) * t10)] (0 : Nat) (17 : Nat)), IV.int IntKind.i64 (rd [paR ((-2 : Int) * t10)] (0 : Nat) (18 : Nat)), IV.int IntKind.i64 (rd [paR ((-2 : Int) * t10)] (0 : Nat) (19 : Nat))], IV.agg (rowCells ksB [pbR t10] (0 : Nat) (0 : Nat) (20 : Nat))] [] ∧ preI [IV.int IntKind.i64 t17] [] ∧ preI [IV.int IntKind.i64 t18] [] ∧ preI [IV.int IntKind.i64 t19] [] ∧ preI [IV.int IntKind.i64 t21] [] ∧ br (IntKind.i64.wrap (IntKind.i64.wrap (IntKind.i64.wrap (t17 + t18) + t19) + t21) != (0 : Int)) (K (IV.bool false) []) (br (jaP [IV.agg [IV.int IntKind.i64 (0 : Int), IV.int IntKind.i64 (1 : Int), IV.int IntKind.i64 (5 : Int), IV.int IntKind.u64 (0 : Int), IV.int IntKind.i64 (t9 / (18446744073709551616 : Int)), IV.int IntKind.u64 (t9 % (18446744073709551616 : Int))], IV.agg (rowCells ksB [paR ((-2 : Int) * t10)] (0 : Nat) (0 : Nat) (20 : Nat)), IV.agg (rowCells ksB [pbR t10] (0 : Nat) (0 : Nat) (20 : Nat))]) (K (IV.bool false) []) (br (jaB [IV.agg [IV.int IntKind.i64 (0 : Int), IV.int IntKind.i64 (1 : Int), IV.int IntKind.i64 (5 : Int), IV.int IntKind.u64 (0 : Int), IV.int IntKind.i64 (t9 / (18446744073709551616 : Int)), IV.int IntKind.u64 (t9 % (18446744073709551616 : Int))], IV.agg (rowCells ksB [paR ((-2 : Int) * t10)] (0 : Nat) (0 : Nat) (20 : Nat)), IV.agg (rowCells ksB [pbR t10] (0 : Nat) (0 : Nat) (20 : Nat))]) (K (IV.bool false) []) (br (jaP [IV.agg [IV.int IntKind.i64 (0 : Int), IV.int IntKind.i64 (1 : Int), IV.int IntKind.i64 (3 : Int), IV.int IntKind.u64 (0 : Int), IV.int IntKind.i64 (t9 / (18446744073709551616 : Int)), IV.int IntKind.u64 (t9 % (18446744073709551616 : Int))], IV.agg [IV.int IntKind.i64 (rd [paR ((-2 : Int) * t10)] (0 : Nat) (0 : Nat)), IV.int IntKind.u64 (rd [paR ((-2 : Int) * t10)] (0 : Nat) (1 : Nat)), IV.int IntKind.i64 (rd [paR ((-2 : Int) * t10)] (0 : Nat) (2 : Nat)), IV.int IntKind.u64 (rd [paR ((-2 : Int) * t10)] (0 : Nat) (3 : Nat)), IV.int IntKind.i64 (rd [paR ((-2 : Int) * t10)] (0 : Nat) (4 : Nat)), IV.int IntKind.u64 (rd [paR ((-2 : Int) * t10)] (0 : Nat) (5 : Nat)), IV.int IntKind.i64 (rd [paR ((-2 : Int) * t10)] (0 : Nat) (6 : Nat)), IV.int IntKind.u64 (rd [paR ((-2 : Int) * t10)] (0 : Nat) (7 : Nat)), IV.int IntKind.i64 (t15 / (18446744073709551616 : Int)), IV.int IntKind.u64 (t15 % (18446744073709551616 : Int)), IV.int IntKind.i64 (t16 / (18446744073709551616 : Int)), IV.int IntKind.u64 (t16 % (18446744073709551616 : Int)), IV.int IntKind.i64 (rd [paR ((-2 : Int) * t10)] (0 : Nat) (12 : Nat)), IV.int IntKind.u64 (rd [paR ((-2 : Int) * t10)] (0 : Nat) (13 : Nat)), IV.int IntKind.i64 (rd [paR ((-2 : Int) * t10)] (0 : Nat) (14 : Nat)), IV.int IntKind.u64 (rd [paR ((-2 : Int) * t10)] (0 : Nat) (15 : Nat)), IV.int IntKind.i64 (rd [paR ((-2 : Int) * t10)] (0 : Nat) (16 : Nat)), IV.int IntKind.u64 (rd [paR ((-2 : Int) * t10)] (0 : Nat) (17 : Nat)), IV.int IntKind.i64 (rd [paR ((-2 : Int) * t10)] (0 : Nat) (18 : Nat)), IV.int IntKind.i64 (rd [paR ((-2 : Int) * t10)] (0 : Nat) (19 : Nat))], IV.agg (rowCells ksB [pbR t10] (0 : Nat) (0 : Nat) (20 : Nat))]) (K (IV.bool false) []) (br (jaB [IV.agg [IV.int IntKind.i64 (0 : Int), IV.int IntKind.i64 (1 : Int), IV.int IntKind.i64 (3 : Int), IV.int IntKind.u64 (0 : Int), IV.int IntKind.i64 (t9 / (18446744073709551616 : Int)), IV.int IntKind.u64 (t9 % (18446744073709551616 : Int))], IV.agg [IV.int IntKind.i64 (rd [paR ((-2 : Int) * t10)] (0 : Nat) (0 : Nat)), IV.int IntKind.u64 (rd [paR ((-2 : Int) * t10)] (0 : Nat) (1 : Nat)), IV.int IntKind.i64 (rd [paR ((-2 : Int) * t10)] (0 : Nat) (2 : Nat)), IV.int IntKind.u64 (rd [paR ((-2 : Int) * t10)] (0 : Nat) (3 : Nat)), IV.int IntKind.i64 (rd [paR ((-2 : Int) * t10)] (0 : Nat) (4 : Nat)), IV.int IntKind.u64 (rd [paR ((-2 : Int) * t10)] (0 : Nat) (5 : Nat)), IV.int IntKind.i64 (rd [paR ((-2 : Int) * t10)] (0 : Nat) (6 : Nat)), IV.int IntKind.u64 (rd [paR ((-2 : Int) * t10)] (0 : Nat) (7 : Nat)), IV.int IntKind.i64 (t15 / (18446744073709551616 : Int)), IV.int IntKind.u64 (t15 % (18446744073709551616 : Int)), IV.int IntKind.i64 (t16 / (18446744073709551616 : Int)), IV.int IntKind.u64 (t16 % (18446744073709551616 : Int)), IV.int IntKind.i64 (rd [paR ((-2 : Int) * t10)] (0 : Nat) (12 : Nat)), IV.int IntKind.u64 (rd [paR ((-2 : Int) * t10)] (0 : Nat) (13 : Nat)), IV.int IntKind.i64 (rd [paR ((-2 : Int) * t10)] (0 : Nat) (14 : Nat)), IV.int IntKind.u64 (rd [paR ((-2 : Int) * t10)] (0 : Nat) (15 : Nat)), IV.int IntKind.i64 (rd [paR ((-2 : Int) * t10)] (0 : Nat) (16 : Nat)), IV.int IntKind.u64 (rd [paR ((-2 : Int) * t10)] (0 : Nat) (17 : Nat)), IV.int IntKind.i64 (rd [paR ((-2 : Int) * t10)] (0 : Nat) (18 : Nat)), IV.int IntKind.i64 (rd [paR ((-2 : Int) * t10)] (0 : Nat) (19 : Nat))], IV.agg (rowCells ksB [pbR t10] (0 : Nat) (0 : Nat) (20 : Nat))]) (K (IV.bool false) []) (br (jaP [IV.agg [IV.int IntKind.i64 (0 : Int), IV.int IntKind.i64 (1 : Int), IV.int IntKind.i64 (3 : Int), IV.int IntKind.u64 (0 : Int), IV.int IntKind.i64 (t9 / (18446744073709551616 : Int)), IV.int IntKind.u64 (t9 % (18446744073709551616 : Int))], IV.agg (rowCells ksB [pbR t10] (0 : Nat) (0 : Nat) (20 : Nat)), IV.agg (rowCells ksB [paR ((-2 : Int) * t10)] (0 : Nat) (0 : Nat) (20 : Nat))] == jaB [IV.agg [IV.int IntKind.i64 (0 : Int), IV.int IntKind.i64 (1 : Int), IV.int IntKind.i64 (3 : Int), IV.int IntKind.u64 (0 : Int), IV.int IntKind.i64 (t9 / (18446744073709551616 : Int)), IV.int IntKind.u64 (t9 % (18446744073709551616 : Int))], IV.agg (rowCells ksB [pbR t10] (0 : Nat) (0 : Nat) (20 : Nat)), IV.agg (rowCells ksB [paR ((-2 : Int) * t10)] (0 : Nat) (0 : Nat) (20 : Nat))]) (K (IV.bool false) []) (br (IntKind.i64.wrap m == t10) (br (!jaP [IV.agg [IV.int IntKind.i64 (0 : Int), IV.int IntKind.i64 (1 : Int), IV.int IntKind.i64 (3 : Int), IV.int IntKind.u64 (0 : Int), IV.int IntKind.i64 (t9 / (18446744073709551616 : Int)), IV.int IntKind.u64 (t9 % (18446744073709551616 : Int))], IV.agg (rowCells ksB [paR ((-2 : Int) * t10)] (0 : Nat) (0 : Nat) (20 : Nat)), IV.agg (rowCells ksB [pbR t10] (0 : Nat) (0 : Nat) (20 : Nat))] == jaB [IV.agg [IV.int IntKind.i64 (0 : Int), IV.int IntKind.i64 (1 : Int), IV.int IntKind.i64 (3 : Int), IV.int IntKind.u64 (0 : Int), IV.int IntKind.i64 (t9 / (18446744073709551616 : Int)), IV.int IntKind.u64 (t9 % (18446744073709551616 : Int))], IV.agg (rowCells ksB [paR ((-2 : Int) * t10)] (0 : Nat) (0 : Nat) (20 : Nat)), IV.agg (rowCells ksB [pbR t10] (0 : Nat) (0 : Nat) (20 : Nat))]) (preNone [] [] ∧ K (IV.bool true) []) (K (IV.bool false) [])) (br (decide (IntKind.i64.wrap m < t10)) (br (jaB [IV.agg [IV.int IntKind.i64 (0 : Int), IV.int IntKind.i64 (1 : Int), IV.int IntKind.i64 (3 : Int), IV.int IntKind.u64 (0 : Int), IV.int IntKind.i64 (t9 / (18446744073709551616 : Int)), IV.int IntKind.u64 (t9 % (18446744073709551616 : Int))], IV.agg (rowCells ksB [paR ((-2 : Int) * t10)] (0 : Nat) (0 : Nat) (20 : Nat)), IV.agg (rowCells ksB [pbR t10] (0 : Nat) (0 : Nat) (20 : Nat))]) (br (!jaP [IV.agg [IV.int IntKind.i64 (0 : Int), IV.int IntKind.i64 (1 : Int), IV.int IntKind.i64 (3 : Int), IV.int IntKind.u64 (0 : Int), IV.int IntKind.i64 (t9 / (18446744073709551616 : Int)), IV.int IntKind.u64 (t9 % (18446744073709551616 : Int))], IV.agg (rowCells ksB [paR ((-2 : Int) * t10)] (0 : Nat) (0 : Nat) (20 : Nat)), IV.agg (rowCells ksB [pbR t10] (0 : Nat) (0 : Nat) (20 : Nat))]) (br e23 (preNone [] [] ∧ K (IV.bool true) []) (K (IV.bool false) [])) (K (IV.bool false) [])) (K (IV.bool false) [])) (preI [IV.int IntKind.i64 t10] [] ∧ may2 [fx t3, fx t1] [] ∧ br (jaP [IV.agg [IV.int IntKind.i64 (0 : Int), IV.int IntKind.i64 (1 : Int), IV.int IntKind.i64 (3 : Int), IV.int IntKind.u64 (0 : Int), IV.int IntKind.i64 (t9 / (18446744073709551616 : Int)), IV.int IntKind.u64 (t9 % (18446744073709551616 : Int))], IV.agg (rowCells ksB [paR ((-2 : Int) * t10)] (0 : Nat) (0 : Nat) (20 : Nat)), IV.agg (rowCells ksB [pbR t10] (0 : Nat) (0 : Nat) (20 : Nat))]) (br (!jaB [IV.agg [IV.int IntKind.i64 (0 : Int), IV.int IntKind.i64 (1 : Int), IV.int IntKind.i64 (3 : Int), IV.int IntKind.u64 (0 : Int), IV.int IntKind.i64 (t9 / (18446744073709551616 : Int)), IV.int IntKind.u64 (t9 % (18446744073709551616 : Int))], IV.agg (rowCells ksB [paR ((-2 : Int) * t10)] (0 : Nat) (0 : Nat) (20 : Nat)), IV.agg (rowCells ksB [pbR t10] (0 : Nat) (0 : Nat) (20 : Nat))]) (br c22 (may1 [fx t5] [] ∧ p22 [IV.agg [IV.int IntKind.u64 (0 : Int), IV.int IntKind.u64 (1048576 : Int)], tw t7] [] ∧ br (!decide ((1048576 : Int) < j8)) (preNone [] [] ∧ K (IV.bool true) []) (K (IV.bool false) [])) (K (IV.bool false) [])) (K (IV.bool false) [])) (K (IV.bool false) [])))))))))) := by refine nm ?_; refine nj ?_; refine nm ?_; refine nj ?_; refine nm ?_; refine nj ?_; refine nm ?_; refine nj ?_; refine nm ?_; refine nm ?_; refine nm ?_; refine nm ?_; refine nm ?_; refine nm ?_; refine nm ?_; refine nm ?_; refine nm ?_; refine nm ?_; refine nm ?_; refine nm ?_; refine nm ?_; refine nbc (c := 0) (d := 0) (by decide) ?_; refine nbcr (c := 0) (d := 0) (by decide) ?_; kernel_rfl
end Go.Vs.RF


set_option linter.unusedVariables false
set_option linter.unusedSimpArgs false
set_option maxRecDepth 100000
/- what a tether does on a line -/
namespace Go.Vs.RF
open Go Go.Proofs Go.Vs Go.IntWalk

theorem mulW_zero (y : Int) : mulI 0 y = 0 := by
  have := mulI_whole 0 y
  simpa using this
theorem mulW_one (y : Int) : mulI 18446744073709551616 y = y := by
  have := mulI_whole 1 y
  simpa using this
theorem dot_left {p : Int} (h : mayF p) : dotN p 0 = p ∧ dotE p 0 = 0 := by
  rw [dotN_ok h may_zero, dotE_ok h may_zero, Int.add_zero, num_may h, err_may h]
  exact ⟨rfl, rfl⟩
theorem quoW {v : Int} (hv : 0 ≤ v) (hv2 : v ≤ 1000) : quoI (4 * v * 18446744073709551616) 295147905179352825856 = v * 4611686018427387904 := by
  have a1 : absI (4 * v * 18446744073709551616) = 4 * v * 18446744073709551616 := by unfold absI; rw [if_neg (by omega)]
  have a2 : absI 295147905179352825856 = 295147905179352825856 := rfl
  unfold quoI
  rw [a1, a2, decide_eq_false (show ¬ 4 * v * 18446744073709551616 < 0 by omega)]
  show (2 * (4 * v * 18446744073709551616 * 18446744073709551616) + 295147905179352825856) / (2 * 295147905179352825856) = _
  omega
theorem divW {v : Int} (hv : 0 ≤ v) (hv2 : v ≤ 1000) : divE (4 * v * 18446744073709551616) 295147905179352825856 = 0 ∧ divN (4 * v * 18446744073709551616) 295147905179352825856 = v * 4611686018427387904 := by
  have hm : mayF (v * 4611686018427387904) := ⟨by omega, by omega⟩
  unfold divE divN
  rw [if_neg (by decide), if_neg (by decide), quoW hv hv2, err_may hm, num_may hm]
  exact ⟨rfl, rfl⟩
theorem div2W {u : Int} (h : -1000 ≤ u ∧ u ≤ 1000) : divE (2 * u * 18446744073709551616) 36893488147419103232 = 0 ∧ divN (2 * u * 18446744073709551616) 36893488147419103232 = u * 18446744073709551616 := by
  have e : quoI (2 * u * 18446744073709551616) 36893488147419103232 = u * 18446744073709551616 := by
    rw [show 2 * u * 18446744073709551616 = u * 36893488147419103232 by omega]
    exact quo_exact u _ (by decide)
  have hm : mayF (u * 18446744073709551616) := ⟨by omega, by omega⟩
  unfold divE divN
  rw [if_neg (by decide), if_neg (by decide), e, err_may hm, num_may hm]
  exact ⟨rfl, rfl⟩
theorem spd_line {r : List Int} {u : Int} (h0 : fr r 0 = 36893488147419103232) (h8 : fr r 8 = 2 * u * 18446744073709551616) (h10 : fr r 10 = 0) (hu : -1000 ≤ u ∧ u ≤ 1000) : spdE r = 0 ∧ spdX r = u * 18446744073709551616 ∧ spdY r = 0 := by
  obtain ⟨a1, a2⟩ := div2W hu
  obtain ⟨b1, b2⟩ := div2W (u := 0) (by decide)
  rw [show (2 : Int) * 0 * 18446744073709551616 = 0 by decide] at b1 b2
  have hE : ovE (fr r 8) (fr r 10) (fr r 0) = 0 := by
    unfold ovE
    rw [h0, h8, h10, a1, b1]
    rfl
  unfold spdE spdX spdY ovX ovY
  rw [hE, if_pos rfl, if_pos rfl, h0, h8, h10, a2, b2]
  exact ⟨rfl, rfl, by decide⟩
theorem ma_line {r s : List Int} (hr : fr r 0 = 36893488147419103232) (hs : fr s 0 = 36893488147419103232) : maE r s = 0 ∧ maN r s = 18446744073709551616 := by
  have e1 : mulI 36893488147419103232 36893488147419103232 = 73786976294838206464 := by
    have := mulI_whole 2 36893488147419103232
    simpa using this
  have m1 : mayF 73786976294838206464 := ⟨by decide, by decide⟩
  have e2 : quoI 73786976294838206464 73786976294838206464 = 18446744073709551616 := by
    have := quo_exact 1 73786976294838206464 (by decide)
    simpa using this
  have hE : maE r s = 0 := by
    unfold maE
    rw [hr, hs, e1, err_may m1, if_neg (by simp), show (36893488147419103232 : Int) + 36893488147419103232 = 73786976294838206464 by decide, err_may m1, if_neg (by simp)]
    unfold divE
    rw [if_neg (by decide), e2, err_may ⟨by decide, by decide⟩]
  refine ⟨hE, ?_⟩
  unfold maN
  rw [hE, if_pos rfl, hr, hs, e1, show (36893488147419103232 : Int) + 36893488147419103232 = 73786976294838206464 by decide]
  unfold divN
  rw [if_neg (by decide), e2, num_may ⟨by decide, by decide⟩]
theorem len_line {v : Int} (h0 : 0 ≤ v) (h1 : v ≤ 1000) : mulI (v * 18446744073709551616) (v * 18446744073709551616) = v * (v * 18446744073709551616) ∧ mulI (-(v * 18446744073709551616)) (-(v * 18446744073709551616)) = v * (v * 18446744073709551616) ∧
    lenE (v * (v * 18446744073709551616)) 0 = 0 ∧ lenN (v * (v * 18446744073709551616)) 0 = v * 18446744073709551616 := by
  have e1 := mulI_whole v (v * 18446744073709551616)
  have b0 : 0 ≤ v * v := Int.mul_nonneg h0 h0
  have b1 : v * v ≤ 1000 * 1000 := Int.mul_le_mul h1 h1 h0 (by decide)
  have ea : v * (v * 18446744073709551616) = v * v * 18446744073709551616 := by rw [Int.mul_assoc]
  have hm : mayF (v * (v * 18446744073709551616)) := by rw [ea]; exact ⟨by omega, by omega⟩
  obtain ⟨d1, d2⟩ := dot_left hm
  have hn : ¬ v * (v * 18446744073709551616) < 0 := by rw [ea]; omega
  have hs : sqrtI (v * (v * 18446744073709551616) * 18446744073709551616) = v * 18446744073709551616 := by
    apply sqrtI_eq
    have e3 : v * (v * 18446744073709551616) * 18446744073709551616 = v * 18446744073709551616 * (v * 18446744073709551616) := by ac_rfl
    refine ⟨by omega, by rw [e3]; exact Int.le_refl _, ?_⟩
    rw [e3]
    have hS : 0 ≤ v * 18446744073709551616 := by omega
    generalize v * 18446744073709551616 = S at hS ⊢
    have : (S + 1) * (S + 1) = S * S + S + S + 1 := by rw [Int.add_mul, Int.mul_add]; omega
    omega
  refine ⟨e1, ?_, ?_, ?_⟩
  · have := mulI_negl (v * 18446744073709551616) (-(v * 18446744073709551616))
    rw [this, mulI_negr, Int.neg_neg]; exact e1
  · unfold lenE; rw [if_pos d2, d1]; unfold sqE; rw [if_neg hn]
  · unfold lenN; rw [if_pos d2, d1]; unfold sqN; rw [if_neg hn]; exact hs
/-- how two on a line part: by four, this way or the other -/
theorem jk_line {r s : List Int} {len lim k u w d v : Int} (hr0 : fr r 0 = 36893488147419103232) (hs0 : fr s 0 = 36893488147419103232) (hd : d = 1 ∨ d = -1) (hX : fr s 4 - fr r 4 = 4 * d * 18446744073709551616) (hY : fr s 6 - fr r 6 = 0)
    (hr8 : fr r 8 = 2 * u * 18446744073709551616) (hr10 : fr r 10 = 0) (hs8 : fr s 8 = 2 * w * 18446744073709551616) (hs10 : fr s 10 = 0) (hu : -400 ≤ u ∧ u ≤ 400) (hw : -400 ≤ w ∧ w ≤ 400) (hv : v = d * (w - u))
    (hlen : len = k * 18446744073709551616) (hk : 0 ≤ k ∧ k ≤ 10) :
    jk r s len lim = if 4 ≤ k then (0, 0, false, false, 0) else if v ≤ 0 then (0, 0, false, false, 0) else if v * 18446744073709551616 > lim then (0, 0, false, true, 0) else (d * v * 18446744073709551616, 0, true, false, 0) := by
  have hv1 : -800 ≤ v ∧ v ≤ 800 := by rcases hd with rfl | rfl <;> omega
  obtain ⟨r1, r2, r3⟩ := spd_line hr0 hr8 hr10 (by omega)
  obtain ⟨s1, s2, s3⟩ := spd_line hs0 hs8 hs10 (by omega)
  obtain ⟨ma1, ma2⟩ := ma_line hr0 hs0
  show jk2 r s (fr s 4 - fr r 4) (fr s 6 - fr r 6) len lim = _
  rw [hX, hY]
  have q16 : mulI (4 * d * 18446744073709551616) (4 * d * 18446744073709551616) = 295147905179352825856 := by
    rw [mulI_whole]; rcases hd with rfl | rfl <;> decide
  have q0 : mulI 0 0 = 0 := mulW_zero 0
  have qv : mulI (4 * d * 18446744073709551616) ((w - u) * 18446744073709551616) = 4 * v * 18446744073709551616 := by
    rw [mulI_whole, hv]; rcases hd with rfl | rfl <;> omega
  have m16 : mayF 295147905179352825856 := ⟨by decide, by decide⟩
  have mv : mayF (4 * v * 18446744073709551616) := ⟨by omega, by omega⟩
  have ez : e2 (4 * d * 18446744073709551616) 0 = 0 := by unfold e2; rw [if_pos ⟨⟨by rcases hd with rfl | rfl <;> omega, by rcases hd with rfl | rfl <;> omega⟩, may_zero⟩]
  have eN : tApN (4 * d * 18446744073709551616) 0 = 295147905179352825856 := by unfold tApN; rw [q16, q0]; exact (dot_left m16).1
  have ql : mulI len len = k * (k * 18446744073709551616) := by rw [hlen]; exact (len_line hk.1 (by omega)).1
  have qk : k * (k * 18446744073709551616) = k * k * 18446744073709551616 := by rw [Int.mul_assoc]
  have kk0 : 0 ≤ k * k := Int.mul_nonneg hk.1 hk.1
  have kk1 : k * k ≤ 10 * 10 := Int.mul_le_mul hk.2 hk.2 hk.1 (by decide)
  have eE : tApE (4 * d * 18446744073709551616) 0 len = 0 := by
    unfold tApE; rw [q16, q0, (dot_left m16).2, if_neg (by simp), ql, qk]
    exact err_may ⟨by omega, by omega⟩
  have hB := tApB_of eE
  rw [eN, ql, qk] at hB
  unfold jk2
  rw [if_neg (by rw [ez]; simp), if_neg (by rw [eE]; simp)]
  by_cases h4 : 4 ≤ k
  · have kk2 : 4 * 4 ≤ k * k := Int.mul_le_mul h4 h4 (by decide) hk.1
    rw [if_pos h4, if_pos (by rw [hB, decide_eq_false]; rw [cmp_gt]; omega)]
  have kk3 : k * k ≤ 3 * 3 := Int.mul_le_mul (by omega) (by omega) hk.1 (by decide)
  rw [if_neg h4, if_neg (by rw [hB, decide_eq_true (by rw [cmp_gt]; omega)]; simp)]
  have mw : mayF ((w - u) * 18446744073709551616) := ⟨by omega, by omega⟩
  have sub : spdX s - spdX r = (w - u) * 18446744073709551616 := by rw [r2, s2]; omega
  have suY : spdY s - spdY r = 0 := by rw [r3, s3]; rfl
  have e2w : e2 ((w - u) * 18446744073709551616) 0 = 0 := by unfold e2; rw [if_pos ⟨mw, may_zero⟩]
  have pE : ptE r s (4 * d * 18446744073709551616) 0 = 0 := by
    unfold ptE; rw [r1, s1, if_neg (by simp), if_neg (by simp), sub, suY, e2w, if_neg (by simp), qv, q0]
    exact (dot_left mv).2
  have pN : ptN r s (4 * d * 18446744073709551616) 0 = 4 * v * 18446744073709551616 := by
    unfold ptN; rw [pE, if_pos rfl, sub, suY, qv, q0]
    exact (dot_left mv).1
  rw [if_neg (by rw [pE]; simp), pN, eN]
  by_cases hv0 : v ≤ 0
  · rw [if_pos (by rw [cmpI_le]; omega), if_pos hv0]
  rw [if_neg (by rw [cmpI_le]; omega), if_neg hv0]
  obtain ⟨dv1, dv2⟩ := divW (v := v) (by omega) (by omega)
  have hE : heE r s 295147905179352825856 (4 * v * 18446744073709551616) = 0 := by
    unfold heE; rw [ma1, if_neg (by simp), ma2, mulW_one, err_may mv, if_neg (by simp), dv1]
  have hN : heN r s 295147905179352825856 (4 * v * 18446744073709551616) = v * 4611686018427387904 := by
    unfold heN; rw [hE, if_pos rfl, ma2, mulW_one, dv2]
  have qx : mulI (4 * d * 18446744073709551616) (v * 4611686018427387904) = d * v * 18446744073709551616 := by
    rw [mulI_whole]; rcases hd with rfl | rfl <;> omega
  have mdv : mayF (d * v * 18446744073709551616) := by rcases hd with rfl | rfl <;> exact ⟨by omega, by omega⟩
  have e2d : e2 (d * v * 18446744073709551616) 0 = 0 := by unfold e2; rw [if_pos ⟨mdv, may_zero⟩]
  have vE : hvE r s (4 * d * 18446744073709551616) 0 295147905179352825856 (4 * v * 18446744073709551616) = 0 := by
    unfold hvE; rw [hE, if_neg (by simp), hN, qx, mulW_zero, e2d]
  have vX : hvX r s (4 * d * 18446744073709551616) 0 295147905179352825856 (4 * v * 18446744073709551616) = d * v * 18446744073709551616 := by
    unfold hvX; rw [vE, if_pos rfl, hN, qx]
  have vY : hvY r s (4 * d * 18446744073709551616) 0 295147905179352825856 (4 * v * 18446744073709551616) = 0 := by
    unfold hvY; rw [vE, if_pos rfl, hN, mulW_zero]
  rw [if_neg (by rw [vE]; simp), vX, vY]
  obtain ⟨l1, l2, l3, l4⟩ := len_line (v := v) (by omega) (by omega)
  have lq : mulI (d * v * 18446744073709551616) (d * v * 18446744073709551616) = v * (v * 18446744073709551616) := by
    rcases hd with rfl | rfl
    · rw [Int.one_mul]; exact l1
    · rw [show -1 * v * 18446744073709551616 = -(v * 18446744073709551616) by omega]; exact l2
  unfold jkT
  rw [lq, q0, l3, l4, if_neg (by simp)]
  by_cases hl : v * 18446744073709551616 > lim
  · rw [if_pos (by rw [cmp_gt]; exact hl), if_pos hl]
  · rw [if_neg (by rw [cmp_gt]; exact hl), if_neg hl]
end Go.Vs.RF

set_option linter.unusedVariables false
set_option linter.unusedSimpArgs false
set_option maxRecDepth 100000
/- TetherAll, TetherLine -/
namespace Go.Vs.RF
open Go Go.Proofs Go.Vs Go.IntWalk

theorem c_JerkA : Contract Try.prog f_tether_Jerk spJkA := c_Jerk
theorem c_RJerkA : Contract Try.prog f_perigeeref16_Jerk spRJkA := c_RJerk
theorem ctrstt3' : ∀ {g : FuncId} {sp : Vs.Spec}, Γtt3 g = some sp → Contract Try.prog g sp := ext_ok c_JerkA (ext_ok c_RJerkA (ext_ok c_MayBody ctrstt2))
theorem knowtt3 : KnowOk Try.prog Ntt3 3 := knowOf (fun g sp h => ctrstt3' h) (fun _ _ => rfl) (fun _ => rfl) 3
theorem c_pair18 : Contract Try.prog f_perigeelaw18_pair spPr := by
  refine contract_of (N := Ntt3) 3 knowtt3 ?_
  rintro l bs _ _ ⟨v, m, rfl, rfl, hv, hm⟩
  have hF : spPr.F [.int .i64 v, .int .i64 m] [] = (.tup [tetV 0 1 (liM 3) (liM m), bodyR (paR (-2 * v)), bodyR (pbR v)], []) := rfl
  rw [hF, v_pair18, i64_in (-2 * v) (by omega), mx_of (by omega), mx_of (by omega)]
  intro t1 e1 t2 e2 t3 e3 t4 e4 t5 e5 t6 e6
  have p1 : t1 := by rw [e1]; exact preI_of ⟨by omega, by omega⟩
  have p2 : t2 := by rw [e2]; exact preI_of ⟨by decide, by decide⟩
  have p3 : t3 := by rw [e3]; exact preI_of ⟨by decide, by decide⟩
  refine ⟨p2, preI_of ⟨by omega, by omega⟩, p2, preI_of ⟨by decide, by decide⟩, p3, p1, ⟨p3, p1, rfl⟩, ?_⟩
  rw [show t5 / 18446744073709551616 = -2 * v by omega, show t5 % 18446744073709551616 = 0 by omega, e4]
  have z : (0 : Int) * v = 0 := by omega
  show (IV.tup [_, _, IV.agg [.int .i64 2, .int .u64 0, .int .i64 0, .int .u64 0, .int .i64 4, .int .u64 (0 * v), .int .i64 0, .int .u64 0, .int .i64 0, .int .u64 0, .int .i64 0, .int .u64 0, .int .i64 0, .int .u64 0, .int .i64 0, .int .u64 0, .int .i64 0, .int .u64 0, .int .i64 0, .int .i64 0]], _) = _
  rw [z]
  rfl
theorem ctrstt4 : ∀ {g : FuncId} {sp : Vs.Spec}, Γtt4 g = some sp → Contract Try.prog g sp := ext_ok c_pair18 ctrstt3'
theorem knowtt4 : KnowOk Try.prog Ntt4 3 := knowOf (fun g sp h => ctrstt4 h) (fun _ _ => rfl) (fun _ => rfl) 3
theorem U64 {n : Int} (h1 : 0 ≤ n) (h2 : n < 18446744073709551616) : inK .u64 n := ⟨h1, by show _ ≤ (18446744073709551615 : Int); omega⟩
theorem I64 {n : Int} (h1 : -100000000 ≤ n) (h2 : n ≤ 100000000) : inK .i64 n := ⟨by show (-9223372036854775808 : Int) ≤ _; omega, by show _ ≤ (9223372036854775807 : Int); omega⟩
theorem row_kinds {a c p : Int} (ha : -1000000 ≤ a ∧ a ≤ 1000000) (hc : c = 0) (hp : -1000000 ≤ p ∧ p ≤ 1000000) : goodB [2, 0, 0, 0, a, c, 0, 0, p, 0, 0, 0, 0, 0, 0, 0, 0, 0, 0, 0] := by
  subst hc
  have m : ∀ {n : Int}, -1000000 ≤ n ∧ n ≤ 1000000 → mayF (n * 18446744073709551616 + 0) := fun h => ⟨by omega, by omega⟩
  refine ⟨rfl, ?_, m (n := 2) (by decide), m (n := a) ha, m (n := 0) (by decide), m (n := p) hp, m (n := 0) (by decide)⟩
  intro j hj
  rcases j with _|_|_|_|_|_|_|_|_|_|_|_|_|_|_|_|_|_|_|_|j
  · exact I64 (n := 2) (by decide) (by decide)
  · exact U64 (n := 0) (by decide) (by decide)
  · exact I64 (n := 0) (by decide) (by decide)
  · exact U64 (n := 0) (by decide) (by decide)
  · exact I64 (n := a) (by omega) (by omega)
  · exact U64 (n := 0) (by decide) (by decide)
  · exact I64 (n := 0) (by decide) (by decide)
  · exact U64 (n := 0) (by decide) (by decide)
  · exact I64 (n := p) (by omega) (by omega)
  · exact U64 (n := 0) (by decide) (by decide)
  · exact I64 (n := 0) (by decide) (by decide)
  · exact U64 (n := 0) (by decide) (by decide)
  · exact I64 (n := 0) (by decide) (by decide)
  · exact U64 (n := 0) (by decide) (by decide)
  · exact I64 (n := 0) (by decide) (by decide)
  · exact U64 (n := 0) (by decide) (by decide)
  · exact I64 (n := 0) (by decide) (by decide)
  · exact U64 (n := 0) (by decide) (by decide)
  · exact I64 (n := 0) (by decide) (by decide)
  · exact I64 (n := 0) (by decide) (by decide)
  · omega
theorem pa_good {n : Int} (h : -1000000 ≤ n ∧ n ≤ 1000000) : goodB (paR n) := row_kinds (a := 0) (c := 0) (by decide) rfl h
theorem pb_good (n : Int) : goodB (pbR n) := row_kinds (a := 4) (c := 0 * n) (p := 0) (by decide) (by omega) (by decide)
theorem ja_of {l : List IV} {a b len lim x y e : Int} {p q : Bool} {r s : List Int} (h : l = [tetV a b len lim, bodyR r, bodyR s]) (hr : r.length = 20) (hs : s.length = 20) (hj : jk r s len lim = (x, y, p, q, e)) : jaX l = x ∧ jaY l = y ∧ jaP l = p ∧ jaB l = q ∧ jaE l = e := by
  subst h
  unfold jaX jaY jaP jaB jaE
  rw [rB1 hr, rB2 hs, lenA_tet, limA_tet]
  unfold jkX jkY jkP jkB jkE
  rw [hj]
  exact ⟨rfl, rfl, rfl, rfl, rfl⟩
theorem li_may {n : Int} (h : 0 ≤ n ∧ n ≤ 1000000) : mayF (liM n) := by unfold liM; exact ⟨by omega, by omega⟩
/-- the pair that parts -/
theorem pr_jk {v lim k : Int} (hv : 1 ≤ v ∧ v ≤ 100) (hk : 0 ≤ k ∧ k ≤ 10) : jk (paR (-2 * v)) (pbR v) (liM k) lim = if 4 ≤ k then (0, 0, false, false, 0) else if v * 18446744073709551616 > lim then (0, 0, false, true, 0) else (v * 18446744073709551616, 0, true, false, 0) := by
  have := jk_line (r := paR (-2 * v)) (s := pbR v) (len := liM k) (lim := lim) (k := k) (u := -v) (w := 0) (d := 1) (v := v) rfl rfl (.inl rfl) (by show 4 * 18446744073709551616 + 0 * v - (0 * 18446744073709551616 + 0) = _; omega) rfl (by show -2 * v * 18446744073709551616 + 0 = _; omega) rfl rfl rfl (by omega) (by omega) (by omega) rfl hk
  rw [this, if_neg (show ¬ v ≤ 0 by omega), Int.one_mul]
theorem pr_back {v lim k : Int} (hv : 1 ≤ v ∧ v ≤ 100) (hk : 0 ≤ k ∧ k ≤ 10) : jk (pbR v) (paR (-2 * v)) (liM k) lim = if 4 ≤ k then (0, 0, false, false, 0) else if v * 18446744073709551616 > lim then (0, 0, false, true, 0) else (-1 * v * 18446744073709551616, 0, true, false, 0) := by
  have := jk_line (s := paR (-2 * v)) (r := pbR v) (len := liM k) (lim := lim) (k := k) (w := -v) (u := 0) (d := -1) (v := v) rfl rfl (.inr rfl) (by show (0 * 18446744073709551616 + 0) - (4 * 18446744073709551616 + 0 * v) = _; omega) rfl rfl rfl (by show -2 * v * 18446744073709551616 + 0 = _; omega) rfl (by omega) (by omega) (by omega) rfl hk
  rw [this, if_neg (show ¬ v ≤ 0 by omega)]
theorem pr_come {v lim k : Int} (hv : 1 ≤ v ∧ v ≤ 100) (hk : 0 ≤ k ∧ k ≤ 10) : jk (paR (2 * v)) (pbR v) (liM k) lim = (0, 0, false, false, 0) := by
  have := jk_line (r := paR (2 * v)) (s := pbR v) (len := liM k) (lim := lim) (k := k) (u := v) (w := 0) (d := 1) (v := -v) rfl rfl (.inl rfl) (by show 4 * 18446744073709551616 + 0 * v - (0 * 18446744073709551616 + 0) = _; omega) rfl (by show 2 * v * 18446744073709551616 + 0 = _; omega) rfl rfl rfl (by omega) (by omega) (by omega) rfl hk
  rw [this]
  split
  · rfl
  · rw [if_pos (by omega)]
theorem pJk_of {a b len lim : Int} {r s : List Int} (h1 : mayF len) (h2 : mayF lim) (h3 : goodB r) (h4 : goodB s) : pJk [tetV a b len lim, bodyR r, bodyR s] [] := ⟨a, b, len, lim, r, s, rfl, rfl, h1, h2, h3, h4⟩
theorem c_awake18 : Contract Try.prog f_perigeelaw18_awake spAwk18 := by
  refine contract_of (N := Ntt4) 3 knowtt4 ?_
  rintro l bs _ _ ⟨rfl, rfl⟩
  show comes _ _ _ _ _ _ _
  rw [v_awake18]
  have j1 := pr_jk (v := 6) (k := 3) (lim := liM 100) (by decide) (by decide)
  rw [if_neg (by decide), if_neg (by decide)] at j1
  have j2 := pr_jk (v := 6) (k := 3) (lim := liM 1) (by decide) (by decide)
  rw [if_neg (by decide), if_pos (by decide)] at j2
  obtain ⟨a1, a2, a3, a4, a5⟩ := ja_of (l := [IV.agg [.int .i64 0, .int .i64 1, .int .i64 3, .int .u64 0, .int .i64 100, .int .u64 0], IV.agg [.int .i64 2, .int .u64 0, .int .i64 0, .int .u64 0, .int .i64 0, .int .u64 0, .int .i64 0, .int .u64 0, .int .i64 (-12), .int .u64 0, .int .i64 0, .int .u64 0, .int .i64 0, .int .u64 0, .int .i64 0, .int .u64 0, .int .i64 0, .int .u64 0, .int .i64 0, .int .i64 0], IV.agg [.int .i64 2, .int .u64 0, .int .i64 0, .int .u64 0, .int .i64 4, .int .u64 0, .int .i64 0, .int .u64 0, .int .i64 0, .int .u64 0, .int .i64 0, .int .u64 0, .int .i64 0, .int .u64 0, .int .i64 0, .int .u64 0, .int .i64 0, .int .u64 0, .int .i64 0, .int .i64 0]])
    (a := 0) (b := 1) (len := liM 3) (lim := liM 100) (r := paR (-2 * 6)) (s := pbR 6) rfl rfl rfl j1
  obtain ⟨b1, b2, b3, b4, b5⟩ := ja_of (l := [IV.agg [.int .i64 0, .int .i64 1, .int .i64 3, .int .u64 0, .int .i64 1, .int .u64 0], IV.agg [.int .i64 2, .int .u64 0, .int .i64 0, .int .u64 0, .int .i64 0, .int .u64 0, .int .i64 0, .int .u64 0, .int .i64 (-12), .int .u64 0, .int .i64 0, .int .u64 0, .int .i64 0, .int .u64 0, .int .i64 0, .int .u64 0, .int .i64 0, .int .u64 0, .int .i64 0, .int .i64 0], IV.agg [.int .i64 2, .int .u64 0, .int .i64 0, .int .u64 0, .int .i64 4, .int .u64 0, .int .i64 0, .int .u64 0, .int .i64 0, .int .u64 0, .int .i64 0, .int .u64 0, .int .i64 0, .int .u64 0, .int .i64 0, .int .u64 0, .int .i64 0, .int .u64 0, .int .i64 0, .int .i64 0]])
    (a := 0) (b := 1) (len := liM 3) (lim := liM 1) (r := paR (-2 * 6)) (s := pbR 6) rfl rfl rfl j2
  intro t1 e1 t2 e2 t3 e3 t4 e4 c5 e5 e6 q6
  rw [a5] at e1
  rw [b5] at e2
  rw [a1] at e3
  rw [a2] at e4
  have gA : goodB (paR (-2 * 6)) := pa_good (by decide)
  have gB := pb_good 6
  refine ⟨⟨6, 100, rfl, rfl, by decide, by decide⟩, pJk_of (a := 0) (b := 1) (li_may (n := 3) (by decide)) (li_may (n := 100) (by decide)) gA gB, preI_of ⟨by decide, by decide⟩, pJk_of (a := 0) (b := 1) (li_may (n := 3) (by decide)) (li_may (n := 1) (by decide)) gA gB, ?_⟩
  refine br_is a3 (br_is (by rw [a4]; rfl) (br_is (by rw [b3]; rfl) (br_is b4 ⟨by rw [e1]; exact preI_of ⟨by decide, by decide⟩, by rw [e2]; exact preI_of ⟨by decide, by decide⟩, br_is (by rw [e1, e2]; decide) ?_⟩)))
  rw [q6, e5, e3, e4]
  rfl
theorem ctrstt5 : ∀ {g : FuncId} {sp : Vs.Spec}, Γtt5 g = some sp → Contract Try.prog g sp := ext_ok c_awake18 ctrstt4
theorem knowtt5 : KnowOk Try.prog Ntt5 3 := knowOf (fun g sp h => ctrstt5 h) (fun _ _ => rfl) (fun _ => rfl) 3
theorem spd_ok (r : List Int) : i64ok (spdE r) := by
  unfold spdE ovE
  split
  · exact divE_is _ _
  · exact divE_is _ _
theorem jkE_is (r s : List Int) (len lim : Int) : i64ok (jkE r s len lim) := by
  have z : i64ok 0 := ⟨by decide, by decide⟩
  have hpt : ∀ x y, i64ok (ptE r s x y) := by
    intro x y
    unfold ptE
    split
    · exact spd_ok _
    · split
      · exact spd_ok _
      · split
        · exact e2_is _ _
        · exact dotE_is _ _
  have hap : ∀ x y l, i64ok (tApE x y l) := by
    intro x y l
    unfold tApE
    split
    · exact dotE_is _ _
    · exact err_is _
  have hma : i64ok (maE r s) := by
    unfold maE
    split
    · exact err_is _
    · split
      · exact err_is _
      · exact divE_is _ _
  have hhe : ∀ f v, i64ok (heE r s f v) := by
    intro f v
    unfold heE
    split
    · exact hma
    · split
      · exact err_is _
      · exact divE_is _ _
  have hhv : ∀ x y f v, i64ok (hvE r s x y f v) := by
    intro x y f v
    unfold hvE
    split
    · exact hhe _ _
    · exact e2_is _ _
  unfold jkE jk jk2
  split
  · exact e2_is _ _
  split
  · exact hap _ _ _
  split
  · exact z
  split
  · exact hpt _ _
  split
  · exact z
  split
  · exact hhv _ _ _ _
  unfold jkT
  split
  · unfold lenE
    split
    · exact sqE_is _
    · exact dotE_is _ _
  split
  · exact z
  · exact z
def lawTA (l : List IV) (bs : List Blk) : Prop := ∃ a b len lim r s, l = [tetV a b len lim, bodyR r, bodyR s] ∧ bs = [] ∧ inF len ∧ inF lim ∧ (r.length = 20 ∧ rowB r) ∧ s.length = 20 ∧ rowB s
noncomputable def spTA : Vs.Spec := ⟨lawTA, fun _ _ => (.bool true, [])⟩
theorem c_TetherAll : Contract Try.prog f_perigeelaw18_TetherAll spTA := by
  refine contract_of (N := Ntt5) 3 knowtt5 ?_
  rintro l bs _ _ ⟨a, b, len, lim, r, s, rfl, rfl, hl, hm, ⟨lr, kr⟩, ls, ks⟩
  show comes _ _ _ _ _ _ _
  rw [v_TetherAll]
  intro j1 q1 j2 q2 t3 e3 t4 e4 t5 e5 t6 e6 t7 e7 t8 e8 t9 e9 b10 e10 d11 e11
  have yes : preNone [] [] ∧ (IV.bool true, ([] : List Blk)) = (IV.bool true, []) := ⟨preNone_ok, rfl⟩
  refine ⟨⟨r, rfl, rfl, lr, kr⟩, ?_⟩
  rw [rA0 lr, rA0 ls, br_bool, Bool.not_eq_true', Bool.not_eq_false']
  refine ⟨fun _ => yes, fun mr => ⟨⟨s, rfl, rfl, ls, ks⟩, ?_⟩⟩
  rw [br_bool, Bool.not_eq_true', Bool.not_eq_false']
  refine ⟨fun _ => yes, fun ms => ⟨preF_in hl, ?_⟩⟩
  rw [br_bool, Bool.not_eq_true', Bool.not_eq_false']
  refine ⟨fun _ => yes, fun m1 => ⟨preF_in hm, ?_⟩⟩
  rw [br_bool, Bool.not_eq_true', Bool.not_eq_false']
  refine ⟨fun _ => yes, fun m2 => ⟨preFF_in hl (inF_of may_zero), ?_⟩⟩
  have ml : mayF len := ⟨by rw [← q1]; exact of_decide_eq_true m1, hl.2⟩
  have mm : mayF lim := ⟨by rw [← q2]; exact of_decide_eq_true m2, hm.2⟩
  rw [br_dec]
  rw [show IV.agg [.int .i64 1073741824, .int .u64 0] = fx 19807040628566084398385987584 from rfl]
  refine ⟨fun _ => yes, fun _ => ⟨preI_of ⟨by decide, by decide⟩, preFF_in hl ⟨by decide, by decide⟩, ?_⟩⟩
  rw [br_dec]
  refine ⟨fun _ => yes, fun _ => ⟨preFF_in hm (inF_of may_zero), ?_⟩⟩
  rw [br_dec]
  refine ⟨fun _ => yes, fun _ => ?_⟩
  have p9 : t9 := by rw [e9]; exact pJk_of ml mm (mayBB_good lr kr mr) (mayBB_good ls ks ms)
  have p8 : i64ok t8 := by
    rw [e8]
    unfold jaE
    exact jkE_is _ _ _ _
  exact ⟨p9, p9, br_is (by rw [e11, e10]; simp) (br_is (by simp) (br_is (by simp) ⟨preI_of p8, br_is (by simp) yes⟩))⟩
def lawTL (l : List IV) (bs : List Blk) : Prop := ∃ v m, l = [.int .u8 v, .int .u16 m] ∧ bs = [] ∧ (0 ≤ v ∧ v ≤ 255) ∧ 0 ≤ m ∧ m ≤ 65535
noncomputable def spTL : Vs.Spec := ⟨lawTL, fun _ _ => (.bool true, [])⟩
set_option maxHeartbeats 2000000 in
theorem c_TetherLine : Contract Try.prog f_perigeelaw18_TetherLine spTL := by
  refine contract_of (N := Ntt5) 3 knowtt5 ?_
  rintro l bs _ _ ⟨v, m, rfl, rfl, hv, hm⟩
  show comes _ _ _ _ _ _ _
  rw [v_TetherLine]
  rw [i64_in v (by omega), i64_in m (by omega), tmod_pos hv.1, i64_in (1 + v % 60) (by omega), mx_of (by omega)]
  obtain ⟨s, hs⟩ : ∃ s, s = 1 + v % 60 := ⟨_, rfl⟩
  rw [← hs]
  have s0 : 1 ≤ s ∧ s ≤ 60 := by omega
  clear hs
  intro t1 e1 j2 q2 t3 e3 j4 q4 t5 e5 j6 q6 t7 e7 j8 q8 t9 e9 t10 e10 t11 e11 t12 e12 t13 e13 t14 e14 t15 e15 t16 e16 t17 e17 t18 e18 t19 e19 t20 e20 t21 e21 c22 e22 e23 q23
  subst e10
  have yes : preNone [] [] ∧ (IV.bool true, ([] : List Blk)) = (IV.bool true, []) := ⟨preNone_ok, rfl⟩
  have gA : goodB (paR (-2 * t10)) := pa_good (by omega)
  have gC : goodB (paR (2 * t10)) := pa_good (by omega)
  have gB := pb_good t10
  have m3 : mayF (liM 3) := li_may (by decide)
  have m5 : mayF (liM 5) := li_may (by decide)
  have mm : mayF (liM m) := li_may (by omega)
  have jA := pr_jk (v := t10) (k := 3) (lim := liM m) (by omega) (by decide)
  have jB := pr_back (v := t10) (k := 3) (lim := liM m) (by omega) (by decide)
  have jW := pr_jk (v := t10) (k := 5) (lim := liM m) (by omega) (by decide)
  have jC := pr_come (v := t10) (k := 3) (lim := liM m) (by omega) (by decide)
  rw [if_neg (by decide)] at jA jB
  rw [if_pos (by decide)] at jW
  have T15 : t15 = 2 * t10 * 18446744073709551616 := by
    rw [e15, e11, e12]
    show -(-2 * t10 * 18446744073709551616 + 0) = _
    omega
  have T16 : t16 = 0 := by rw [e16, e13, e14]; rfl
  have hC : [IV.agg [.int .i64 0, .int .i64 1, .int .i64 3, .int .u64 0, .int .i64 (t9 / 18446744073709551616), .int .u64 (t9 % 18446744073709551616)], IV.agg [.int .i64 (rd [paR (-2 * t10)] 0 0), .int .u64 (rd [paR (-2 * t10)] 0 1), .int .i64 (rd [paR (-2 * t10)] 0 2), .int .u64 (rd [paR (-2 * t10)] 0 3), .int .i64 (rd [paR (-2 * t10)] 0 4), .int .u64 (rd [paR (-2 * t10)] 0 5), .int .i64 (rd [paR (-2 * t10)] 0 6), .int .u64 (rd [paR (-2 * t10)] 0 7), .int .i64 (t15 / 18446744073709551616), .int .u64 (t15 % 18446744073709551616), .int .i64 (t16 / 18446744073709551616), .int .u64 (t16 % 18446744073709551616), .int .i64 (rd [paR (-2 * t10)] 0 12), .int .u64 (rd [paR (-2 * t10)] 0 13), .int .i64 (rd [paR (-2 * t10)] 0 14), .int .u64 (rd [paR (-2 * t10)] 0 15), .int .i64 (rd [paR (-2 * t10)] 0 16), .int .u64 (rd [paR (-2 * t10)] 0 17), .int .i64 (rd [paR (-2 * t10)] 0 18), .int .i64 (rd [paR (-2 * t10)] 0 19)], IV.agg (rowCells ksB [pbR t10] 0 0 20)] = [tetV 0 1 (liM 3) (liM m), bodyR (paR (2 * t10)), bodyR (pbR t10)] := by
    rw [T16, show t15 / 18446744073709551616 = 2 * t10 by omega, show t15 % 18446744073709551616 = 0 by omega, e9]
    rfl
  rw [hC] at e21 ⊢
  have hA : [IV.agg [.int .i64 0, .int .i64 1, .int .i64 3, .int .u64 0, .int .i64 (t9 / 18446744073709551616), .int .u64 (t9 % 18446744073709551616)], IV.agg (rowCells ksB [paR (-2 * t10)] 0 0 20), IV.agg (rowCells ksB [pbR t10] 0 0 20)] = [tetV 0 1 (liM 3) (liM m), bodyR (paR (-2 * t10)), bodyR (pbR t10)] := by rw [e9]; rfl
  have hB : [IV.agg [.int .i64 0, .int .i64 1, .int .i64 3, .int .u64 0, .int .i64 (t9 / 18446744073709551616), .int .u64 (t9 % 18446744073709551616)], IV.agg (rowCells ksB [pbR t10] 0 0 20), IV.agg (rowCells ksB [paR (-2 * t10)] 0 0 20)] = [tetV 0 1 (liM 3) (liM m), bodyR (pbR t10), bodyR (paR (-2 * t10))] := by rw [e9]; rfl
  have hW : [IV.agg [.int .i64 0, .int .i64 1, .int .i64 5, .int .u64 0, .int .i64 (t9 / 18446744073709551616), .int .u64 (t9 % 18446744073709551616)], IV.agg (rowCells ksB [paR (-2 * t10)] 0 0 20), IV.agg (rowCells ksB [pbR t10] 0 0 20)] = [tetV 0 1 (liM 5) (liM m), bodyR (paR (-2 * t10)), bodyR (pbR t10)] := by rw [e9]; rfl
  rw [← e9] at e3
  rw [hA] at e3 e17 e20 ⊢
  rw [hB] at e18 ⊢
  rw [hW] at e19 ⊢
  obtain ⟨w1, w2, w3, w4, w5⟩ := ja_of rfl rfl rfl jW
  obtain ⟨c1, c2, c3, c4, c5⟩ := ja_of rfl rfl rfl jC
  rw [w5] at e19
  rw [c5] at e21
  have z5 : i64ok 0 := ⟨by decide, by decide⟩
  have z64 : u64ok 0 := ⟨by decide, by decide⟩
  have pv : vmay1 [IV.agg [.int .i64 t11, .int .u64 t12, .int .i64 t13, .int .u64 t14]] [] := by
    refine ⟨-2 * t10 * 18446744073709551616, 0, ?_, rfl, ⟨by omega, by omega⟩, may_zero⟩
    have := vx_cells (a := t11) (b := t12) (c := t13) (d := t14) (by rw [e12]; exact z64) (by rw [e14]; exact z64)
    rw [this, e11, e12, e13, e14]
    show [vx (-2 * t10 * 18446744073709551616 + 0) (0 * 18446744073709551616 + 0)] = _
    rw [show -2 * t10 * 18446744073709551616 + 0 = -2 * t10 * 18446744073709551616 by omega]
    rfl
  have gom : t10 * 18446744073709551616 > liM m ↔ t10 > m := by unfold liM; omega
  by_cases hbr : t10 > m
  · rw [if_pos (gom.2 hbr)] at jA jB
    obtain ⟨a1, a2, a3, a4, a5⟩ := ja_of rfl rfl rfl jA
    obtain ⟨b1, b2, b3, b4, b5⟩ := ja_of rfl rfl rfl jB
    rw [a5] at e17
    rw [b5] at e18
    rw [a2] at e20
    rw [a1] at e3
    refine ⟨by decide, ⟨t10, m, rfl, rfl, by omega, by omega⟩, pJk_of m3 mm gA gB, pJk_of m3 mm gB gA, preI_of ⟨by decide, by decide⟩, pJk_of m5 mm gA gB, preI_of ⟨by decide, by decide⟩, pv, pJk_of m3 mm gC gB, by rw [e17]; exact preI_of z5, by rw [e18]; exact preI_of z5, by rw [e19]; exact preI_of z5, by rw [e21]; exact preI_of z5, ?_⟩
    rw [e17, e18, e19, e21]
    refine br_no (by decide) (br_no w3 (br_no w4 (br_no c3 (br_no c4 (br_no (by rw [b3, b4]; rfl) (br_no (by simp; omega) (br_is (decide_eq_true (by omega)) (br_is a4 (br_is (by rw [a3]; rfl) (br_is (by rw [q23, e22, e3, e20]; rfl) yes))))))))))
  · rw [if_neg (fun h => hbr (gom.1 h))] at jA jB
    obtain ⟨a1, a2, a3, a4, a5⟩ := ja_of rfl rfl rfl jA
    obtain ⟨b1, b2, b3, b4, b5⟩ := ja_of rfl rfl rfl jB
    rw [a5] at e17
    rw [b5] at e18
    rw [a2] at e20
    rw [a1] at e3
    have m1 : mayF t1 := ⟨by omega, by omega⟩
    have T5 : t5 = 0 := by rw [e5, q4, q2, e3, e1, Int.sub_self]; rfl
    have T7 : t7 = 0 := by rw [e7, q6, T5]; rfl
    refine ⟨by decide, ⟨t10, m, rfl, rfl, by omega, by omega⟩, pJk_of m3 mm gA gB, pJk_of m3 mm gB gA, preI_of ⟨by decide, by decide⟩, pJk_of m5 mm gA gB, preI_of ⟨by decide, by decide⟩, pv, pJk_of m3 mm gC gB, by rw [e17]; exact preI_of z5, by rw [e18]; exact preI_of z5, by rw [e19]; exact preI_of z5, by rw [e21]; exact preI_of z5, ?_⟩
    rw [e17, e18, e19, e21]
    refine br_no (by decide) (br_no w3 (br_no w4 (br_no c3 (br_no c4 (br_no (by rw [b3, b4]; rfl) ?_)))))
    rw [br_beq]
    refine ⟨fun _ => br_is (by rw [a3, a4]; rfl) yes, fun hne => ?_⟩
    refine br_no (decide_eq_false (by omega)) ⟨preI_of ⟨by omega, by omega⟩, may2_of (by rw [e3, ← e1]; exact m1) m1, br_is a3 (br_is (by rw [a4]; rfl) (br_is (by rw [e22, e20]; rfl) ⟨may1_of (by rw [T5]; exact may_zero), ?_, br_is (by rw [q8, T7]; rfl) yes⟩))⟩
    rw [T7]
    exact p22_of (a := 1048576) (b := 0) ⟨by decide, by decide⟩ ⟨by decide, by decide⟩
/-! the laws' rows -/
theorem lawTA_of {x0 x1 x2 : List Int} (l0 : x0.length = 6) (k0 : ∀ j, j < 6 → inK (([.i64, .i64, .i64, .u64, .i64, .u64] : List IntKind).getD j .i64) (x0.getD j 0)) (l1 : x1.length = 20) (k1 : ∀ j, j < 20 → inK (ksB.getD j .i64) (x1.getD j 0)) (l2 : x2.length = 20) (k2 : ∀ j, j < 20 → inK (ksB.getD j .i64) (x2.getD j 0)) :
    lawTA [.agg (rowCells [.i64, .i64, .i64, .u64, .i64, .u64] [x0] 0 0 6), .agg (rowCells ksB [x1] 0 0 20), .agg (rowCells ksB [x2] 0 0 20)] [] := by
  match x0, l0 with
  | [a, b, c, d, e, f], _ =>
    have hc := k0 2 (by decide)
    have hd := k0 3 (by decide)
    have he := k0 4 (by decide)
    have hf := k0 5 (by decide)
    have c1 : (-9223372036854775808 : Int) ≤ c ∧ c ≤ 9223372036854775807 := hc
    have d1 : (0 : Int) ≤ d ∧ d ≤ 18446744073709551615 := hd
    have e1 : (-9223372036854775808 : Int) ≤ e ∧ e ≤ 9223372036854775807 := he
    have f1 : (0 : Int) ≤ f ∧ f ≤ 18446744073709551615 := hf
    refine ⟨a, b, c * 18446744073709551616 + d, e * 18446744073709551616 + f, x1, x2, ?_, rfl, ⟨by omega, by omega⟩, ⟨by omega, by omega⟩, ⟨l1, k1⟩, l2, k2⟩
    unfold tetV
    rw [show (c * 18446744073709551616 + d) / 18446744073709551616 = c by omega, show (c * 18446744073709551616 + d) % 18446744073709551616 = d by omega, show (e * 18446744073709551616 + f) / 18446744073709551616 = e by omega, show (e * 18446744073709551616 + f) % 18446744073709551616 = f by omega]
    rfl
theorem lawTL_of {v m : Int} (k0 : inK .u8 v) (k1 : inK .u16 m) : lawTL [.int .u8 v, .int .u16 m] [] := by
  have h0 : 0 ≤ v ∧ v ≤ 255 := k0
  have h1 : 0 ≤ m ∧ m ≤ 65535 := k1
  exact ⟨v, m, rfl, rfl, h0, h1⟩
end Go.Vs.RF
