import Derived.Test.YtdolejkcipnabaaR2A
set_option linter.unusedVariables false
/- FixOrder, FixSums, FixHalves, FixWhole, FixNear: what they come to -/
namespace Go.Vs.RF
open Go Go.Proofs Go.Vs
noncomputable def spTrue (pre : List IV → List Blk → Prop) : Vs.Spec := ⟨pre, fun _ _ => (.bool true, [])⟩
def preNone (l : List IV) (bs : List Blk) : Prop := l = [] ∧ bs = []
noncomputable def Γj : FuncId → Option Vs.Spec := fun g =>
  if g = f_fix_Sub then some spFSub else if g = f_fix_Mul then some spFMul else if g = f_fix_Div then some spFDiv else if g = f_fix_Sqrt then some spFSqrt else if g = f_fix_Half then some spFHalf else if g = f_fix_Round then some spFRound
  else if g = f_fix_Neg then some spNeg else if g = f_fix_Cmp then some spCmp else if g = f_fix_May then some spMay else if g = f_fix_Int then some spInt else if g = f_fix_Floor then some spFloor
  else if g = f_perigeeref1_May then some spMay else if g = f_perigeelaw1_Num then some spNum else Γi g
noncomputable def Nj : Know := ⟨Γj, fun _ _ => none, fun _ => none⟩
noncomputable def Γk : FuncId → Option Vs.Spec := fun g => if g = f_perigeelaw2_awake then some (spTrue preNone) else Γj g
noncomputable def Nk : Know := ⟨Γk, fun _ _ => none, fun _ => none⟩
theorem v_awake2 (K : IV → List Blk → Prop) : (comes Try.prog Nj 3 f_perigeelaw2_awake [] [] K) = (preI [IV.int IntKind.i64 (1 : Int)] [] ∧ preI [IV.int IntKind.i64 (3 : Int)] [] ∧ may2 [IV.agg [IV.int IntKind.i64 (1 : Int), IV.int IntKind.u64 (0 : Int)], IV.agg [IV.int IntKind.i64 (3 : Int), IV.int IntKind.u64 (0 : Int)]] [] ∧ preI [IV.int IntKind.i64 (0 : Int)] [] ∧ preI [IV.int IntKind.i64 (-2 : Int)] [] ∧ preF [IV.agg [IV.int IntKind.i64 (-9223372036854775808 : Int), IV.int IntKind.u64 (0 : Int)]] [] ∧ K (IV.bool true) []) := by kernel_rfl
theorem v_FixOrder (a b c : Int) (K : IV → List Blk → Prop) : (comes Try.prog Nk 3 f_perigeelaw2_FixOrder [fx a, fx b, fx c] [] K) = (∀ (j1 : Int), j1 = a → ∀ (j2 : Int), j2 = b → ∀ (j3 : Int), j3 = c → ∀ (t4 : Int), t4 = -j1 → ∀ (j5 : Int), j5 = t4 → ∀ (t6 : Int), t6 = -j2 → ∀ (j7 : Int), j7 = t6 → ∀ (t8 : Int), t8 = cmpI j1 j2 → ∀ (t9 : Int), t9 = cmpI j2 j1 → ∀ (t10 : Int), t10 = cmpI j2 j3 → ∀ (t11 : Int), t11 = cmpI j1 j3 → ∀ (b12 : Bool), b12 = decide (a = b) → preF [fx a] [] ∧ br (!decide ((-170141183460469231731687303715884105728 : Int) < j1)) (preNone [] [] ∧ K (IV.bool true) []) (preF [fx b] [] ∧ br (!decide ((-170141183460469231731687303715884105728 : Int) < j2)) (preNone [] [] ∧ K (IV.bool true) []) (preF [fx c] [] ∧ br (!decide ((-170141183460469231731687303715884105728 : Int) < j3)) (preNone [] [] ∧ K (IV.bool true) []) (preFF [fx a, fx b] [] ∧ preFF [fx b, fx a] [] ∧ br (t8 == IntKind.i64.wrap ((0 : Int) - t9)) (br ((t8 == (0 : Int)) == b12) (br (decide (t8 > (0 : Int))) ((preF [fx a] [] ∧ (-170141183460469231731687303715884105728 : Int) < j1) ∧ (preF [fx b] [] ∧ (-170141183460469231731687303715884105728 : Int) < j2) ∧ preFF [fx t4, fx t6] [] ∧ br (cmpI j5 j7 == t9) (preNone [] [] ∧ K (IV.bool true) []) (K (IV.bool false) [])) (preFF [fx b, fx c] [] ∧ br (decide (t10 > (0 : Int))) ((preF [fx a] [] ∧ (-170141183460469231731687303715884105728 : Int) < j1) ∧ (preF [fx b] [] ∧ (-170141183460469231731687303715884105728 : Int) < j2) ∧ preFF [fx t4, fx t6] [] ∧ br (cmpI j5 j7 == t9) (preNone [] [] ∧ K (IV.bool true) []) (K (IV.bool false) [])) (preFF [fx a, fx c] [] ∧ br (decide (t11 ≤ (0 : Int))) ((preF [fx a] [] ∧ (-170141183460469231731687303715884105728 : Int) < j1) ∧ (preF [fx b] [] ∧ (-170141183460469231731687303715884105728 : Int) < j2) ∧ preFF [fx t4, fx t6] [] ∧ br (cmpI j5 j7 == t9) (preNone [] [] ∧ K (IV.bool true) []) (K (IV.bool false) [])) (K (IV.bool false) [])))) (K (IV.bool false) [])) (K (IV.bool false) []))))) := by refine nj ?_; refine nj ?_; refine nj ?_; refine nm ?_; refine nj ?_; refine nm ?_; refine nj ?_; refine nm ?_; refine nm ?_; refine nm ?_; refine nm ?_; refine nb ?_; kernel_rfl
theorem v_FixSums (a b : Int) (K : IV → List Blk → Prop) : (comes Try.prog Nk 3 f_perigeelaw2_FixSums [fx a, fx b] [] K) = (∀ (j1 : Int), j1 = a → ∀ (j2 : Int), j2 = b → ∀ (t3 : Int), t3 = -j2 → ∀ (j4 : Int), j4 = t3 → ∀ (t5 : Int), t5 = numF (j1 + j2) → ∀ (j6 : Int), j6 = t5 → ∀ (t7 : Int), t7 = cmpI j6 j1 → ∀ (t8 : Int), t8 = cmpI j2 (0 : Int) → ∀ (t9 : Int), t9 = numF (j2 + j1) → ∀ (t10 : Int), t10 = errF (j1 + j2) → ∀ (t11 : Int), t11 = numF (j1 - j2) → ∀ (t12 : Int), t12 = numF (j1 + j4) → ∀ (t13 : Int), t13 = numF (j6 - j2) → ∀ (t14 : Int), t14 = errF (j6 - j2) → ∀ (t15 : Int), t15 = numF (j1 + (0 : Int)) → ∀ (t16 : Int), t16 = errF (j1 + (0 : Int)) → ∀ (b17 : Bool), b17 = decide (t5 = t9) → ∀ (b18 : Bool), b18 = decide (t11 = t12) → ∀ (b19 : Bool), b19 = decide (t15 = a) → ∀ (b20 : Bool), b20 = decide (t13 = a) → preF [fx a] [] ∧ br (!decide ((-170141183460469231731687303715884105728 : Int) < j1)) (preNone [] [] ∧ K (IV.bool true) []) (preF [fx b] [] ∧ br (!decide ((-170141183460469231731687303715884105728 : Int) < j2)) (preNone [] [] ∧ K (IV.bool true) []) (may2 [fx a, fx b] [] ∧ may2 [fx b, fx a] [] ∧ may2 [fx a, fx b] [] ∧ (preF [fx b] [] ∧ (-170141183460469231731687303715884105728 : Int) < j2) ∧ may2 [fx a, fx t3] [] ∧ may2 [fx a, IV.agg [IV.int IntKind.i64 (0 : Int), IV.int IntKind.u64 (0 : Int)]] [] ∧ br (!b17) (K (IV.bool false) []) (br (t10 != errF (j2 + j1)) (K (IV.bool false) []) (br (!b18) (K (IV.bool false) []) (br (errF (j1 - j2) != errF (j1 + j4)) (K (IV.bool false) []) (br (!b19) (K (IV.bool false) []) (preI [IV.int IntKind.i64 t16] [] ∧ br (t16 != (0 : Int)) (K (IV.bool false) []) (preI [IV.int IntKind.i64 t10] [] ∧ br (t10 != (0 : Int)) (preI [IV.int IntKind.i64 t10] [] ∧ br (t10 != (3 : Int)) (K (IV.bool false) []) (preI [IV.int IntKind.i64 t10] [] ∧ br (t10 == (0 : Int)) (may2 [fx t5, fx b] [] ∧ br b20 (preI [IV.int IntKind.i64 t14] [] ∧ br (t14 == (0 : Int)) (preFF [fx t5, fx a] [] ∧ preFF [fx b, IV.agg [IV.int IntKind.i64 (0 : Int), IV.int IntKind.u64 (0 : Int)]] [] ∧ br (decide (t7 > (0 : Int)) == decide (t8 > (0 : Int))) (preNone [] [] ∧ K (IV.bool true) []) (K (IV.bool false) [])) (K (IV.bool false) [])) (K (IV.bool false) [])) (br (decide (a / (18446744073709551616 : Int) < (0 : Int)) == decide (b / (18446744073709551616 : Int) < (0 : Int))) (preNone [] [] ∧ K (IV.bool true) []) (K (IV.bool false) [])))) (preI [IV.int IntKind.i64 t10] [] ∧ br (t10 == (0 : Int)) (may2 [fx t5, fx b] [] ∧ br b20 (preI [IV.int IntKind.i64 t14] [] ∧ br (t14 == (0 : Int)) (preFF [fx t5, fx a] [] ∧ preFF [fx b, IV.agg [IV.int IntKind.i64 (0 : Int), IV.int IntKind.u64 (0 : Int)]] [] ∧ br (decide (t7 > (0 : Int)) == decide (t8 > (0 : Int))) (preNone [] [] ∧ K (IV.bool true) []) (K (IV.bool false) [])) (K (IV.bool false) [])) (K (IV.bool false) [])) (br (decide (a / (18446744073709551616 : Int) < (0 : Int)) == decide (b / (18446744073709551616 : Int) < (0 : Int))) (preNone [] [] ∧ K (IV.bool true) []) (K (IV.bool false) [])))))))))))) := by refine nj ?_; refine nj ?_; refine nm ?_; refine nj ?_; refine nm ?_; refine nj ?_; refine nm ?_; refine nm ?_; refine nm ?_; refine nm ?_; refine nm ?_; refine nm ?_; refine nm ?_; refine nm ?_; refine nm ?_; refine nm ?_; refine nb ?_; refine nb ?_; refine nb ?_; refine nb ?_; kernel_rfl
theorem v_FixHalves (a : Int) (K : IV → List Blk → Prop) : (comes Try.prog Nk 3 f_perigeelaw2_FixHalves [fx a] [] K) = (∀ (j1 : Int), j1 = a → ∀ (t2 : Int), t2 = halfI j1 → ∀ (j3 : Int), j3 = t2 → ∀ (t4 : Int), t4 = numF (j1 - j3) → ∀ (j5 : Int), j5 = t4 → ∀ (t6 : Int), t6 = divE j1 (36893488147419103232 : Int) → ∀ (t7 : Int), t7 = divN j1 (36893488147419103232 : Int) → ∀ (t8 : Int), t8 = errF (j1 - j3) → ∀ (t9 : Int), t9 = errF (j5 + (1 : Int)) → ∀ (t10 : Int), t10 = numF (j5 + (1 : Int)) → ∀ (t11 : Int), t11 = errF (j5 + (0 : Int)) → ∀ (t12 : Int), t12 = numF (j5 + (0 : Int)) → ∀ (t13 : Int), t13 = errF (j5 + (-1 : Int)) → ∀ (t14 : Int), t14 = numF (j5 + (-1 : Int)) → ∀ (b15 : Bool), b15 = decide (t14 = t2) → ∀ (b16 : Bool), b16 = decide (t7 = t2) → ∀ (b17 : Bool), b17 = decide (t10 = t2) → ∀ (b18 : Bool), b18 = decide (t12 = t2) → preF [fx a] [] ∧ br (!decide ((-170141183460469231731687303715884105728 : Int) < j1)) (preNone [] [] ∧ K (IV.bool true) []) (may1 [fx a] [] ∧ may2 [fx a, fx t2] [] ∧ br (IntKind.u64.wrap (↑(BitVec.ofInt (64 : Nat) (a % (18446744073709551616 : Int)) &&& BitVec.ofInt (64 : Nat) (1 : Int)).toNat : Int) == (1 : Int)) (br (decide (a / (18446744073709551616 : Int) < (0 : Int))) ((preF [IV.agg [IV.int IntKind.i64 (0 : Int), IV.int IntKind.u64 (1 : Int)]] [] ∧ (-170141183460469231731687303715884105728 : Int) < (1 : Int)) ∧ may2 [fx t4, IV.agg [IV.int IntKind.i64 (-1 : Int), IV.int IntKind.u64 (18446744073709551615 : Int)]] [] ∧ preI [IV.int IntKind.i64 (2 : Int)] [] ∧ may2 [fx a, IV.agg [IV.int IntKind.i64 (2 : Int), IV.int IntKind.u64 (0 : Int)]] [] ∧ preI [IV.int IntKind.i64 t8] [] ∧ preI [IV.int IntKind.i64 t13] [] ∧ preI [IV.int IntKind.i64 t6] [] ∧ br (IntKind.i64.wrap (IntKind.i64.wrap (t8 + t13) + t6) == (0 : Int)) (br b15 (br b16 (preNone [] [] ∧ K (IV.bool true) []) (K (IV.bool false) [])) (K (IV.bool false) [])) (K (IV.bool false) [])) (may2 [fx t4, IV.agg [IV.int IntKind.i64 (0 : Int), IV.int IntKind.u64 (1 : Int)]] [] ∧ preI [IV.int IntKind.i64 (2 : Int)] [] ∧ may2 [fx a, IV.agg [IV.int IntKind.i64 (2 : Int), IV.int IntKind.u64 (0 : Int)]] [] ∧ preI [IV.int IntKind.i64 t8] [] ∧ preI [IV.int IntKind.i64 t9] [] ∧ preI [IV.int IntKind.i64 t6] [] ∧ br (IntKind.i64.wrap (IntKind.i64.wrap (t8 + t9) + t6) == (0 : Int)) (br b17 (br b16 (preNone [] [] ∧ K (IV.bool true) []) (K (IV.bool false) [])) (K (IV.bool false) [])) (K (IV.bool false) []))) (may2 [fx t4, IV.agg [IV.int IntKind.i64 (0 : Int), IV.int IntKind.u64 (0 : Int)]] [] ∧ preI [IV.int IntKind.i64 (2 : Int)] [] ∧ may2 [fx a, IV.agg [IV.int IntKind.i64 (2 : Int), IV.int IntKind.u64 (0 : Int)]] [] ∧ preI [IV.int IntKind.i64 t8] [] ∧ preI [IV.int IntKind.i64 t11] [] ∧ preI [IV.int IntKind.i64 t6] [] ∧ br (IntKind.i64.wrap (IntKind.i64.wrap (t8 + t11) + t6) == (0 : Int)) (br b18 (br b16 (preNone [] [] ∧ K (IV.bool true) []) (K (IV.bool false) [])) (K (IV.bool false) [])) (K (IV.bool false) [])))) := by refine nj ?_; refine nm ?_; refine nj ?_; refine nm ?_; refine nj ?_; refine nm ?_; refine nm ?_; refine nm ?_; refine nm ?_; refine nm ?_; refine nm ?_; refine nm ?_; refine nm ?_; refine nm ?_; refine nb ?_; refine nb ?_; refine nb ?_; refine nb ?_; kernel_rfl
theorem v_FixWhole (a : Int) (K : IV → List Blk → Prop) : (comes Try.prog Nk 3 f_perigeelaw2_FixWhole [fx a] [] K) = (∀ (j1 : Int), j1 = a → ∀ (t2 : Int), t2 = mx IntKind.i64 (roundI j1) (-9223372036854775807 : Int) * (18446744073709551616 : Int) → ∀ (j3 : Int), j3 = t2 → ∀ (t4 : Int), t4 = numF (j1 - j3) → ∀ (j5 : Int), j5 = t4 → ∀ (t6 : Int), t6 = -j5 → ∀ (j7 : Int), j7 = t6 → ∀ (t8 : Int), t8 = mx IntKind.i64 (j1 / (18446744073709551616 : Int)) (-9223372036854775807 : Int) * (18446744073709551616 : Int) → ∀ (j9 : Int), j9 = t8 → ∀ (t10 : Int), t10 = mx IntKind.i64 (IntKind.i64.wrap (j1 / (18446744073709551616 : Int) + (1 : Int))) (-9223372036854775807 : Int) * (18446744073709551616 : Int) → ∀ (j11 : Int), j11 = t10 → ∀ (t12 : Int), t12 = roundI j1 → ∀ (t13 : Int), t13 = cmpI j9 j1 → ∀ (t14 : Int), t14 = cmpI j11 j1 → ∀ (t15 : Int), t15 = cmpI j5 (9223372036854775808 : Int) → ∀ (t16 : Int), t16 = cmpI j7 (9223372036854775808 : Int) → ∀ (t17 : Int), t17 = errF (j1 - j3) → ∀ (t18 : Int), t18 = IntKind.i64.wrap (j1 / (18446744073709551616 : Int) + (1 : Int)) → preF [fx a] [] ∧ br (!decide ((-170141183460469231731687303715884105728 : Int) < j1)) (preNone [] [] ∧ K (IV.bool true) []) (br (decide (a / (18446744073709551616 : Int) > (4611686018427387904 : Int))) (preNone [] [] ∧ K (IV.bool true) []) (br (decide (a / (18446744073709551616 : Int) < (-4611686018427387904 : Int))) (preNone [] [] ∧ K (IV.bool true) []) (preF [fx a] [] ∧ may1 [fx a] [] ∧ preI [IV.int IntKind.i64 t12] [] ∧ may2 [fx a, fx t2] [] ∧ preI [IV.int IntKind.i64 (j1 / (18446744073709551616 : Int))] [] ∧ preFF [fx t8, fx a] [] ∧ br (decide (t13 ≤ (0 : Int))) (preI [IV.int IntKind.i64 t18] [] ∧ preFF [fx t10, fx a] [] ∧ br (decide (t14 > (0 : Int))) (br (t12 == j1 / (18446744073709551616 : Int)) (preI [IV.int IntKind.i64 t17] [] ∧ br (t17 == (0 : Int)) (preFF [fx t4, IV.agg [IV.int IntKind.i64 (0 : Int), IV.int IntKind.u64 (9223372036854775808 : Int)]] [] ∧ br (decide (t15 ≤ (0 : Int))) ((preF [fx t4] [] ∧ (-170141183460469231731687303715884105728 : Int) < j5) ∧ preFF [fx t6, IV.agg [IV.int IntKind.i64 (0 : Int), IV.int IntKind.u64 (9223372036854775808 : Int)]] [] ∧ br (decide (t16 ≤ (0 : Int))) (preNone [] [] ∧ K (IV.bool true) []) (K (IV.bool false) [])) (K (IV.bool false) [])) (K (IV.bool false) [])) (br (t12 == t18) (preI [IV.int IntKind.i64 t17] [] ∧ br (t17 == (0 : Int)) (preFF [fx t4, IV.agg [IV.int IntKind.i64 (0 : Int), IV.int IntKind.u64 (9223372036854775808 : Int)]] [] ∧ br (decide (t15 ≤ (0 : Int))) ((preF [fx t4] [] ∧ (-170141183460469231731687303715884105728 : Int) < j5) ∧ preFF [fx t6, IV.agg [IV.int IntKind.i64 (0 : Int), IV.int IntKind.u64 (9223372036854775808 : Int)]] [] ∧ br (decide (t16 ≤ (0 : Int))) (preNone [] [] ∧ K (IV.bool true) []) (K (IV.bool false) [])) (K (IV.bool false) [])) (K (IV.bool false) [])) (K (IV.bool false) []))) (K (IV.bool false) [])) (K (IV.bool false) []))))) := by refine nj ?_; refine nm ?_; refine nj ?_; refine nm ?_; refine nj ?_; refine nm ?_; refine nj ?_; refine nm ?_; refine nj ?_; refine nm ?_; refine nj ?_; refine nm ?_; refine nm ?_; refine nm ?_; refine nm ?_; refine nm ?_; refine nm ?_; refine nm ?_; kernel_rfl
theorem v_FixNear (a m n : Int) (K : IV → List Blk → Prop) : (comes Try.prog Nk 3 f_perigeelaw2_FixNear [fx a, .int .i32 m, .int .i32 n] [] K) = (∀ (j1 : Int), j1 = a → ∀ (t2 : Int), t2 = mx IntKind.i64 (IntKind.i64.wrap m) (-9223372036854775807 : Int) * (18446744073709551616 : Int) → ∀ (j3 : Int), j3 = t2 → ∀ (t4 : Int), t4 = mx IntKind.i64 (IntKind.i64.wrap n) (-9223372036854775807 : Int) * (18446744073709551616 : Int) → ∀ (j5 : Int), j5 = t4 → ∀ (t6 : Int), t6 = numF (mulI j3 j5) → ∀ (j7 : Int), j7 = t6 → ∀ (t8 : Int), t8 = divN j7 j5 → ∀ (t9 : Int), t9 = divE j7 j5 → ∀ (t10 : Int), t10 = errF (mulI j3 j5) → ∀ (t11 : Int), t11 = mulI j1 (18446744073709551616 : Int) → ∀ (t12 : Int), t12 = divN j1 (18446744073709551616 : Int) → ∀ (t13 : Int), t13 = divE j1 (18446744073709551616 : Int) → ∀ (t14 : Int), t14 = numF t11 → ∀ (t15 : Int), t15 = errF t11 → ∀ (t16 : Int), t16 = mx IntKind.i64 (IntKind.i64.wrap (IntKind.i64.wrap m * IntKind.i64.wrap n)) (-9223372036854775807 : Int) * (18446744073709551616 : Int) → ∀ (b17 : Bool), b17 = decide (t6 = t16) → ∀ (b18 : Bool), b18 = decide (t14 = a) → ∀ (b19 : Bool), b19 = decide (t12 = a) → ∀ (b20 : Bool), b20 = decide (t8 = t2) → preF [fx a] [] ∧ br (!decide ((-170141183460469231731687303715884105728 : Int) < j1)) (preNone [] [] ∧ K (IV.bool true) []) (preI [IV.int IntKind.i64 (IntKind.i64.wrap m)] [] ∧ preI [IV.int IntKind.i64 (IntKind.i64.wrap n)] [] ∧ may2 [fx t2, fx t4] [] ∧ preI [IV.int IntKind.i64 (1 : Int)] [] ∧ may2 [fx a, IV.agg [IV.int IntKind.i64 (1 : Int), IV.int IntKind.u64 (0 : Int)]] [] ∧ preI [IV.int IntKind.i64 (1 : Int)] [] ∧ may2 [fx a, IV.agg [IV.int IntKind.i64 (1 : Int), IV.int IntKind.u64 (0 : Int)]] [] ∧ may2 [fx a, IV.agg [IV.int IntKind.i64 (0 : Int), IV.int IntKind.u64 (0 : Int)]] [] ∧ preI [IV.int IntKind.i64 (IntKind.i64.wrap (IntKind.i64.wrap m * IntKind.i64.wrap n))] [] ∧ br (!b17) (K (IV.bool false) []) (br (!b18) (K (IV.bool false) []) (br (!b19) (K (IV.bool false) []) (preI [IV.int IntKind.i64 t10] [] ∧ preI [IV.int IntKind.i64 t15] [] ∧ preI [IV.int IntKind.i64 t13] [] ∧ br (IntKind.i64.wrap (IntKind.i64.wrap (t10 + t15) + t13) != (0 : Int)) (K (IV.bool false) []) (preI [IV.int IntKind.i64 (divE j1 (0 : Int))] [] ∧ br (n == (0 : Int)) (preNone [] [] ∧ K (IV.bool true) []) (may2 [fx t6, fx t4] [] ∧ br b20 (preI [IV.int IntKind.i64 t9] [] ∧ br (t9 == (0 : Int)) (preNone [] [] ∧ K (IV.bool true) []) (K (IV.bool false) [])) (K (IV.bool false) [])))))))) := by refine nj ?_; refine nm ?_; refine nj ?_; refine nm ?_; refine nj ?_; refine nm ?_; refine nj ?_; refine nm ?_; refine nm ?_; refine nm ?_; refine nm ?_; refine nm ?_; refine nm ?_; refine nm ?_; refine nm ?_; refine nm ?_; refine nb ?_; refine nb ?_; refine nb ?_; refine nb ?_; kernel_rfl


end Go.Vs.RF
set_option linter.unusedVariables false
set_option linter.unusedSimpArgs false
set_option maxRecDepth 100000
/- FixOrder, FixSums, FixHalves, FixWhole, FixNear: from what the code comes to -/
namespace Go.Vs.RF
open Go Go.Proofs Go.Vs Go.IntWalk

theorem ext_ok {Γ : FuncId → Option Vs.Spec} {f : FuncId} {sp : Vs.Spec} (hf : Contract Try.prog f sp) (hΓ : ∀ {g : FuncId} {s : Vs.Spec}, Γ g = some s → Contract Try.prog g s) : ∀ {g : FuncId} {s : Vs.Spec}, (if g = f then some sp else Γ g) = some s → Contract Try.prog g s := by
  intro g s h
  by_cases e : g = f
  · rw [if_pos e] at h; cases h; rw [e]; exact hf
  · rw [if_neg e] at h; exact hΓ h
theorem ctrsj : ∀ {g : FuncId} {sp : Vs.Spec}, Γj g = some sp → Contract Try.prog g sp :=
  ext_ok c_fix_Sub (ext_ok c_fix_Mul (ext_ok c_fix_Div (ext_ok c_fix_Sqrt (ext_ok c_fix_Half (ext_ok c_fix_Round (ext_ok c_fix_Neg (ext_ok c_fix_Cmp (ext_ok c_fix_May (ext_ok c_fix_Int (ext_ok c_fix_Floor (ext_ok c_ref_May (ext_ok c_Num ctrsi))))))))))))
theorem br_tt {A B : Prop} : br true A B = A := rfl
theorem br_ff {A B : Prop} : br false A B = B := rfl
theorem br_or {b : Bool} {A B : Prop} (hA : b = true → A) (hB : b = false → B) : br b A B := by cases b; exact hB rfl; exact hA rfl
theorem not_dec {p : Prop} [Decidable p] : (!decide p) = decide (¬ p) := by simp
/-- a guard: where it does not hold the law answers at once -/
theorem br_guard {p : Prop} [Decidable p] {A B : Prop} (hA : A) (hB : p → B) : br (!decide p) A B := br_or (fun _ => hA) (fun h => hB (by simpa using h))
theorem br_hold {p : Prop} [Decidable p] {A B : Prop} (h : p) (hA : A) : br (decide p) A B := by rw [decide_eq_true h]; exact hA
theorem br_fails {p : Prop} [Decidable p] {A B : Prop} (h : ¬ p) (hB : B) : br (decide p) A B := by rw [decide_eq_false h]; exact hB
theorem br_is {b : Bool} {A B : Prop} (h : b = true) (hA : A) : br b A B := by rw [h]; exact hA
theorem br_no {b : Bool} {A B : Prop} (h : b = false) (hB : B) : br b A B := by rw [h]; exact hB
theorem preF_in {x : Int} (h : inF x) : preF [fx x] [] := ⟨rfl, rfl, (ix_of h).1, (ix_of h).2⟩
theorem preFF_in {x y : Int} (h : inF x) (h' : inF y) : preFF [fx x, fx y] [] := ⟨rfl, rfl, ix_of h, ix_of h'⟩
theorem preI_of {n : Int} (h : i64ok n) : preI [.int .i64 n] [] := ⟨rfl, rfl, h⟩
theorem may1_of {x : Int} (h : mayF x) : may1 [fx x] [] := ⟨x, rfl, rfl, h⟩
theorem may2_of {x y : Int} (h : mayF x) (h' : mayF y) : may2 [fx x, fx y] [] := ⟨x, y, rfl, rfl, h, h'⟩
theorem mayF_of {x : Int} (h : inF x) (h' : -170141183460469231731687303715884105728 < x) : mayF x := ⟨h', h.2⟩
theorem num_may {s : Int} (h : mayF s) : numF s = s := if_pos h
theorem num_not {s : Int} (h : ¬ mayF s) : numF s = 0 := if_neg h
theorem err_may {s : Int} (h : mayF s) : errF s = 0 := if_pos h
theorem err_not {s : Int} (h : ¬ mayF s) : errF s = 3 := if_neg h
theorem num_is (s : Int) : mayF (numF s) := by
  by_cases h : mayF s
  · rw [num_may h]; exact h
  · rw [num_not h]; exact ⟨by decide, by decide⟩
theorem err_is (s : Int) : i64ok (errF s) := by
  by_cases h : mayF s
  · rw [err_may h]; exact ⟨by decide, by decide⟩
  · rw [err_not h]; exact ⟨by decide, by decide⟩
theorem may_zero : mayF 0 := ⟨by decide, by decide⟩
theorem fx_zero : IV.agg [.int .i64 0, .int .u64 0] = fx 0 := rfl
theorem preNone_ok : preNone [] [] := ⟨rfl, rfl⟩

theorem c_awake2 : Contract Try.prog f_perigeelaw2_awake (spTrue preNone) := by
  refine contract_of (N := Nj) 3 (knowOf (fun g sp h => ctrsj h) (fun _ _ => rfl) (fun _ => rfl) 3) ?_
  intro l bs _ _ hp
  obtain ⟨rfl, rfl⟩ := hp
  rw [v_awake2]
  exact ⟨preI_of ⟨by decide, by decide⟩, preI_of ⟨by decide, by decide⟩, ⟨18446744073709551616, 55340232221128654848, rfl, rfl, ⟨by decide, by decide⟩, ⟨by decide, by decide⟩⟩, preI_of ⟨by decide, by decide⟩, preI_of ⟨by decide, by decide⟩, ⟨rfl, rfl, ⟨by decide, by decide⟩, ⟨by decide, by decide⟩⟩, rfl⟩
theorem ctrsk : ∀ {g : FuncId} {sp : Vs.Spec}, Γk g = some sp → Contract Try.prog g sp := ext_ok c_awake2 ctrsj

def lawF1 (l : List IV) (bs : List Blk) : Prop := ∃ a, l = [fx a] ∧ bs = [] ∧ inF a
def lawF2 (l : List IV) (bs : List Blk) : Prop := ∃ a b, l = [fx a, fx b] ∧ bs = [] ∧ inF a ∧ inF b
def lawF3 (l : List IV) (bs : List Blk) : Prop := ∃ a b c, l = [fx a, fx b, fx c] ∧ bs = [] ∧ inF a ∧ inF b ∧ inF c
def lawFnn (l : List IV) (bs : List Blk) : Prop := ∃ a m n, l = [fx a, .int .i32 m, .int .i32 n] ∧ bs = [] ∧ inF a ∧ (-2147483648 ≤ m ∧ m < 2147483648) ∧ -2147483648 ≤ n ∧ n < 2147483648

theorem cmp_range (a b : Int) : -1 ≤ cmpI a b ∧ cmpI a b ≤ 1 := by unfold cmpI; split; omega; split <;> omega
theorem cmp_flip (a b : Int) : cmpI a b = IntKind.i64.wrap (0 - cmpI b a) := by
  rw [i64_in _ (by have := cmp_range b a; omega)]
  unfold cmpI
  rcases Int.lt_trichotomy a b with h | h | h
  · rw [if_pos h, if_neg (by omega), if_pos (by omega)]; rfl
  · subst h; rw [if_neg (by omega), if_neg (by omega)]; rfl
  · rw [if_neg (by omega), if_pos (by omega), if_pos (by omega)]; rfl
theorem cmp_neg (a b : Int) : cmpI (-a) (-b) = cmpI b a := by
  unfold cmpI
  rcases Int.lt_trichotomy a b with h | h | h
  · rw [if_neg (by omega), if_pos (by omega), if_neg (by omega), if_pos (by omega)]
  · subst h; simp
  · rw [if_pos (by omega), if_pos (by omega)]
theorem cmp_gt {a b : Int} : cmpI a b > 0 ↔ b < a := by
  unfold cmpI; split
  · omega
  split <;> omega
theorem cmp_zero {a b : Int} : cmpI a b = 0 ↔ a = b := by
  unfold cmpI; split
  · omega
  split <;> omega
theorem may_neg {x : Int} (h : mayF x) : mayF (-x) := by unfold mayF at *; omega

theorem c_FixOrder : Contract Try.prog f_perigeelaw2_FixOrder (spTrue lawF3) := by
  refine contract_of (N := Nk) 3 (knowOf (fun g sp h => ctrsk h) (fun _ _ => rfl) (fun _ => rfl) 3) ?_
  intro l bs _ _ hp
  obtain ⟨a, b, c, rfl, rfl, ha, hb, hc⟩ := hp
  rw [v_FixOrder]
  rintro a rfl b rfl c rfl t4 e4 j5 rfl t6 e6 j7 rfl t8 e8 t9 e9 t10 e10 t11 e11 b12 e12
  refine ⟨preF_in ha, br_guard ⟨preNone_ok, rfl⟩ fun ma => ⟨preF_in hb, br_guard ⟨preNone_ok, rfl⟩ fun mb => ⟨preF_in hc, br_guard ⟨preNone_ok, rfl⟩ fun mc => ⟨preFF_in ha hb, preFF_in hb ha, ?_⟩⟩⟩⟩
  have h1 : (t8 == IntKind.i64.wrap (0 - t9)) = true := by rw [e8, e9, ← cmp_flip]; simp
  have h2 : ((t8 == 0) == b12) = true := by
    rw [e8, e12, beq_iff_eq, Bool.eq_iff_iff, beq_iff_eq, decide_eq_true_iff, cmp_zero]
  have h3 : (cmpI j5 j7 == t9) = true := by rw [e4, e6, e9, cmp_neg]; simp
  have na := may_neg (mayF_of ha ma)
  have nb := may_neg (mayF_of hb mb)
  rw [← e4] at na
  rw [← e6] at nb
  rw [h1, h2, h3]
  simp only [br_tt]
  have last : (preF [fx a] [] ∧ -170141183460469231731687303715884105728 < a) ∧ (preF [fx b] [] ∧ -170141183460469231731687303715884105728 < b) ∧ preFF [fx j5, fx j7] [] ∧ preNone [] [] ∧ ((spTrue lawF3).F [fx a, fx b, fx c] [] = (IV.bool true, [])) :=
    ⟨⟨preF_in ha, ma⟩, ⟨preF_in hb, mb⟩, preFF_in (inF_of na) (inF_of nb), preNone_ok, rfl⟩
  refine br_or (fun _ => last) fun h => ⟨preFF_in hb hc, br_or (fun _ => last) fun h' => ⟨preFF_in ha hc, br_hold ?_ last⟩⟩
  rw [decide_eq_false_iff_not, e8, cmp_gt] at h
  rw [decide_eq_false_iff_not, e10, cmp_gt] at h'
  rw [e11, cmpI_le]
  omega

theorem c_FixSums : Contract Try.prog f_perigeelaw2_FixSums (spTrue lawF2) := by
  refine contract_of (N := Nk) 3 (knowOf (fun g sp h => ctrsk h) (fun _ _ => rfl) (fun _ => rfl) 3) ?_
  intro l bs _ _ hp
  obtain ⟨a, b, rfl, rfl, ha, hb⟩ := hp
  rw [v_FixSums]
  rintro a rfl b rfl t3 e3 j4 rfl t5 e5 j6 rfl t7 e7 t8 e8 t9 e9 t10 e10 t11 e11 t12 e12 t13 e13 t14 e14 t15 e15 t16 e16 b17 e17 b18 e18 b19 e19 b20 e20
  refine ⟨preF_in ha, br_guard ⟨preNone_ok, rfl⟩ fun ma => ⟨preF_in hb, br_guard ⟨preNone_ok, rfl⟩ fun mb => ?_⟩⟩
  have A := mayF_of ha ma
  have B := mayF_of hb mb
  have N := may_neg B
  rw [← e3] at N
  have h17 : b17 = true := by rw [e17, e5, e9, Int.add_comm b a]; simp
  have s4 : a - b = a + j4 := by rw [e3]; omega
  have h18 : b18 = true := by rw [e18, e11, e12, s4]; simp
  have h19 : b19 = true := by rw [e19, e15, Int.add_zero, num_may A]; simp
  have h10 : (t10 != errF (b + a)) = false := by rw [e10, Int.add_comm b a]; simp
  have h11 : (errF (a - b) != errF (a + j4)) = false := by rw [s4]; simp
  have h16 : t16 = 0 := by rw [e16, Int.add_zero, err_may A]
  have T : mayF j6 := by rw [e5]; exact num_is _
  have E : i64ok t10 := by rw [e10]; exact err_is _
  rw [h17, h10, h18, h11, h19, h16]
  refine ⟨may2_of A B, may2_of B A, may2_of A B, ⟨preF_in hb, mb⟩, may2_of A N, may2_of A may_zero, ?_⟩
  refine ⟨preI_of ⟨by decide, by decide⟩, preI_of E, ?_⟩
  by_cases hm : mayF (a + b)
  · have h0 : t10 = 0 := by rw [e10, err_may hm]
    have h6 : j6 = a + b := by rw [e5, num_may hm]
    have e6 : j6 - b = a := by omega
    have h20 : b20 = true := by rw [e20, e13, e6, num_may A]; simp
    have h14 : t14 = 0 := by rw [e14, e6, err_may A]
    rw [h0, h20, h14]
    refine ⟨preI_of ⟨by decide, by decide⟩, may2_of T B, preI_of ⟨by decide, by decide⟩, preFF_in (inF_of T) ha, preFF_in hb (inF_of may_zero), br_is ?_ ⟨preNone_ok, rfl⟩⟩
    rw [e7, e8, beq_iff_eq, Bool.eq_iff_iff, decide_eq_true_iff, decide_eq_true_iff, cmp_gt, cmp_gt]
    omega
  · have h0 : t10 = 3 := by rw [e10, err_not hm]
    rw [h0]
    simp only [show ((3 : Int) == 0) = false from rfl, br_ff]
    refine ⟨preI_of ⟨by decide, by decide⟩, preI_of ⟨by decide, by decide⟩, br_is ?_ ⟨preNone_ok, rfl⟩⟩
    rw [beq_iff_eq, Bool.eq_iff_iff, decide_eq_true_iff, decide_eq_true_iff]
    unfold mayF at *
    omega

theorem half_range {a : Int} (h : mayF a) : mayF (halfI a) ∧ mayF (a - halfI a) := by
  unfold halfI sgnI absI
  unfold mayF at *
  by_cases h0 : a < 0 <;> simp only [h0, decide_true, decide_false, if_true, if_false, Bool.false_eq_true] <;> omega
theorem quo_half (a : Int) : quoI a 36893488147419103232 = halfI a := by
  unfold quoI halfI
  have e1 : (2 * (absI a * 18446744073709551616) + absI 36893488147419103232) / (2 * absI 36893488147419103232) = (absI a + 1) / 2 := by
    rw [show absI 36893488147419103232 = 36893488147419103232 from rfl]; omega
  rw [e1, show decide ((36893488147419103232 : Int) < 0) = false from rfl, Bool.bne_false]
theorem odd_bit {a : Int} : IntKind.u64.wrap ((BitVec.ofInt 64 (a % 18446744073709551616) &&& BitVec.ofInt 64 1).toNat : Int) = a % 2 := by
  have := and_m (x := a % 18446744073709551616) 2 1 rfl (by decide) (by omega) (by omega) (by decide)
  rw [show (2 : Int) - 1 = 1 from rfl] at this
  rw [this, wu]
  omega
theorem fx_part : IV.agg [.int .i64 0, .int .u64 1] = fx 1 := rfl
theorem fx_minus : IV.agg [.int .i64 (-1), .int .u64 18446744073709551615] = fx (-1) := rfl
theorem fx_two : IV.agg [.int .i64 2, .int .u64 0] = fx 36893488147419103232 := rfl
theorem fx_one : IV.agg [.int .i64 1, .int .u64 0] = fx 18446744073709551616 := rfl
theorem fx_half : IV.agg [.int .i64 0, .int .u64 9223372036854775808] = fx 9223372036854775808 := rfl
theorem c_FixHalves : Contract Try.prog f_perigeelaw2_FixHalves (spTrue lawF1) := by
  refine contract_of (N := Nk) 3 (knowOf (fun g sp h => ctrsk h) (fun _ _ => rfl) (fun _ => rfl) 3) ?_
  intro l bs _ _ hp
  obtain ⟨a, rfl, rfl, ha⟩ := hp
  rw [v_FixHalves]
  rintro a rfl t2 e2 j3 rfl t4 e4 j5 rfl t6 e6 t7 e7 t8 e8 t9 e9 t10 e10 t11 e11 t12 e12 t13 e13 t14 e14 b15 e15 b16 e16 b17 e17 b18 e18
  refine ⟨preF_in ha, br_guard ⟨preNone_ok, rfl⟩ fun ma => ?_⟩
  have A := mayF_of ha ma
  obtain ⟨H, D⟩ := half_range A
  have h5 : j5 = a - halfI a := by rw [e4, e2, num_may D]
  have J : mayF j5 := by rw [h5]; exact D
  have H3 : mayF j3 := by rw [e2]; exact H
  have h6 : t6 = 0 := by
    rw [e6]; unfold divE; rw [if_neg (by decide), quo_half, err_may H]
  have h16 : b16 = true := by
    rw [e16, e7]; unfold divN; rw [if_neg (by decide), quo_half, num_may H, e2]; simp
  have h8 : t8 = 0 := by rw [e8, e2, err_may D]
  have two : mayF 36893488147419103232 := ⟨by decide, by decide⟩
  have one : mayF 1 := ⟨by decide, by decide⟩
  have mone : mayF (-1) := ⟨by decide, by decide⟩
  have ok0 : i64ok 0 := ⟨by decide, by decide⟩
  have ok2 : i64ok 2 := ⟨by decide, by decide⟩
  rw [h6, h8, h16, odd_bit]
  have cases3 : (a % 2 = 1 ∧ a < 0 → j5 + -1 = halfI a) ∧ (a % 2 = 1 ∧ ¬ a < 0 → j5 + 1 = halfI a) ∧ (¬ a % 2 = 1 → j5 + 0 = halfI a) := by
    rw [h5]; unfold halfI sgnI absI
    by_cases h0 : a < 0 <;> simp only [h0, decide_true, decide_false, if_true, if_false, Bool.false_eq_true] <;> refine ⟨fun ⟨h, h'⟩ => ?_, fun ⟨h, h'⟩ => ?_, fun h => ?_⟩ <;> first | omega | exact absurd trivial h' | exact h'.elim
  refine ⟨may1_of A, may2_of A H3, ?_⟩
  rw [br_beq]
  refine ⟨fun h1 => ?_, fun h1 => ?_⟩
  · rw [br_dec]
    refine ⟨fun h2 => ?_, fun h2 => ?_⟩
    · have e := cases3.1 ⟨h1, by omega⟩
      have h13 : t13 = 0 := by rw [e13, e, err_may H]
      have h15 : b15 = true := by rw [e15, e14, e, num_may H, e2]; simp
      rw [h13, h15]
      exact ⟨⟨preF_in (inF_of one), by decide⟩, may2_of J mone, preI_of ok2, may2_of A two, preI_of ok0, preI_of ok0, preI_of ok0, preNone_ok, rfl⟩
    · have e := cases3.2.1 ⟨h1, by omega⟩
      have h9 : t9 = 0 := by rw [e9, e, err_may H]
      have h17 : b17 = true := by rw [e17, e10, e, num_may H, e2]; simp
      rw [h9, h17]
      exact ⟨may2_of J one, preI_of ok2, may2_of A two, preI_of ok0, preI_of ok0, preI_of ok0, preNone_ok, rfl⟩
  · have e := cases3.2.2 h1
    have h11 : t11 = 0 := by rw [e11, e, err_may H]
    have h18 : b18 = true := by rw [e18, e12, e, num_may H, e2]; simp
    rw [h11, h18]
    exact ⟨may2_of J may_zero, preI_of ok2, may2_of A two, preI_of ok0, preI_of ok0, preI_of ok0, preNone_ok, rfl⟩

theorem c_FixWhole : Contract Try.prog f_perigeelaw2_FixWhole (spTrue lawF1) := by
  refine contract_of (N := Nk) 3 (knowOf (fun g sp h => ctrsk h) (fun _ _ => rfl) (fun _ => rfl) 3) ?_
  intro l bs _ _ hp
  obtain ⟨a, rfl, rfl, ha⟩ := hp
  rw [v_FixWhole]
  rintro a rfl t2 e2 j3 rfl t4 e4 j5 rfl t6 e6 j7 rfl t8 e8 j9 rfl t10 e10 j11 rfl t12 e12 t13 e13 t14 e14 t15 e15 t16 e16 t17 e17 t18 e18
  refine ⟨preF_in ha, br_guard ⟨preNone_ok, rfl⟩ fun ma => br_or (fun _ => ⟨preNone_ok, rfl⟩) fun g1 => br_or (fun _ => ⟨preNone_ok, rfl⟩) fun g2 => ?_⟩
  rw [decide_eq_false_iff_not] at g1 g2
  have A := mayF_of ha ma
  have h18 : t18 = a / 18446744073709551616 + 1 := by rw [e18, i64_in _ (by omega)]
  have h9 : j9 = a / 18446744073709551616 * 18446744073709551616 := by rw [e8]; unfold mx; rw [if_neg (by omega)]
  have h11 : j11 = (a / 18446744073709551616 + 1) * 18446744073709551616 := by rw [e10, ← e18, h18]; unfold mx; rw [if_neg (by omega)]
  have hr : (t12 = a / 18446744073709551616 ∨ t12 = a / 18446744073709551616 + 1) ∧ -9223372036854775808 ≤ a - t12 * 18446744073709551616 ∧ a - t12 * 18446744073709551616 ≤ 9223372036854775808 := by
    rw [e12]; unfold roundI sgnI absI
    by_cases h0 : a < 0 <;> simp only [h0, decide_true, decide_false, if_true, if_false, Bool.false_eq_true]
    · rw [if_neg (by omega)]; omega
    · rw [if_neg (by omega)]; omega
  have h3 : j3 = t12 * 18446744073709551616 := by rw [e2, ← e12]; unfold mx; rw [if_neg (by omega)]
  have D : mayF (a - j3) := by unfold mayF; omega
  have h5 : j5 = a - j3 := by rw [e4, num_may D]
  have J3 : mayF j3 := by unfold mayF; omega
  have J5 : mayF j5 := by rw [h5]; exact D
  have N7 : mayF j7 := by rw [e6]; exact may_neg J5
  have H : mayF 9223372036854775808 := ⟨by decide, by decide⟩
  have J9 : mayF j9 := by unfold mayF; omega
  have J11 : mayF j11 := by unfold mayF; omega
  have h17 : t17 = 0 := by rw [e17, err_may D]
  have tail : preI [.int .i64 t17] [] ∧ br (t17 == 0) (preFF [fx j5, .agg [.int .i64 0, .int .u64 9223372036854775808]] [] ∧ br (decide (t15 ≤ 0)) ((preF [fx j5] [] ∧ -170141183460469231731687303715884105728 < j5) ∧ preFF [fx j7, .agg [.int .i64 0, .int .u64 9223372036854775808]] [] ∧ br (decide (t16 ≤ 0)) (preNone [] [] ∧ (spTrue lawF1).F [fx a] [] = (IV.bool true, [])) ((spTrue lawF1).F [fx a] [] = (IV.bool false, []))) ((spTrue lawF1).F [fx a] [] = (IV.bool false, []))) ((spTrue lawF1).F [fx a] [] = (IV.bool false, [])) := by
    rw [h17]
    refine ⟨preI_of ⟨by decide, by decide⟩, preFF_in (inF_of J5) (inF_of H), br_hold ?_ ⟨⟨preF_in (inF_of J5), J5.1⟩, preFF_in (inF_of N7) (inF_of H), br_hold ?_ ⟨preNone_ok, rfl⟩⟩⟩
    · rw [e15, cmpI_le]; omega
    · rw [e16, cmpI_le, e6]; omega
  refine ⟨preF_in ha, may1_of A, preI_of (by unfold i64ok; omega), may2_of A J3, preI_of (by unfold i64ok; omega), preFF_in (inF_of J9) ha, br_hold (by rw [e13, cmpI_le]; omega) ⟨preI_of (by unfold i64ok; omega), preFF_in (inF_of J11) ha, br_hold (by rw [e14, cmp_gt]; omega) ?_⟩⟩
  rw [br_beq]
  refine ⟨fun _ => tail, fun h => ?_⟩
  have h4 : (t12 == t18) = true := by rw [beq_iff_eq]; omega
  rw [h4]
  exact tail

/-! products of whole numbers -/
theorem abs_eq (x : Int) : absI x = (x.natAbs : Int) := by unfold absI; split <;> omega
theorem abs_mul (x y : Int) : absI (x * y) = absI x * absI y := by rw [abs_eq, abs_eq, abs_eq, Int.natAbs_mul]; simp
theorem sgn_mul (x y : Int) : sgnI (decide (x < 0) != decide (y < 0)) (absI x * absI y) = x * y := by
  unfold sgnI absI
  by_cases h0 : x < 0 <;> by_cases h1 : y < 0 <;> simp [h0, h1, Int.neg_mul, Int.mul_neg]
theorem neg_scaled (m : Int) : decide (m * 18446744073709551616 < 0) = decide (m < 0) := by
  rw [Bool.eq_iff_iff, decide_eq_true_iff, decide_eq_true_iff]; omega
theorem abs_scaled (m : Int) : absI (m * 18446744073709551616) = absI m * 18446744073709551616 := by unfold absI; split <;> split <;> omega
theorem mulI_whole (m y : Int) : mulI (m * 18446744073709551616) y = m * y := by
  unfold mulI
  rw [neg_scaled, abs_scaled]
  have e : absI m * 18446744073709551616 * absI y = absI m * absI y * 18446744073709551616 := by rw [Int.mul_assoc, Int.mul_comm 18446744073709551616, ← Int.mul_assoc]
  rw [e]
  have : (absI m * absI y * 18446744073709551616 + 9223372036854775808) / 18446744073709551616 = absI m * absI y := by
    generalize absI m * absI y = q; omega
  rw [this, sgn_mul]
theorem mulI_comm (x y : Int) : mulI x y = mulI y x := by
  unfold mulI
  rw [Int.mul_comm, bne_comm]
theorem quo_exact (m y : Int) (hy : y ≠ 0) : quoI (m * y) y = m * 18446744073709551616 := by
  unfold quoI
  have hp : 0 < absI y := by unfold absI; split <;> omega
  rw [abs_mul]
  have e : (2 * (absI m * absI y * 18446744073709551616) + absI y) / (2 * absI y) = absI m * 18446744073709551616 := by
    have e2 : 2 * (absI m * absI y * 18446744073709551616) + absI y = absI y + 2 * absI y * (absI m * 18446744073709551616) := by
      rw [Int.mul_comm (absI m) (absI y), Int.mul_assoc (absI y), Int.mul_assoc 2 (absI y)]; omega
    rw [e2, Int.add_mul_ediv_left _ _ (by omega), Int.ediv_eq_zero_of_lt (by omega) (by omega)]; omega
  rw [e]
  rcases Int.lt_trichotomy m 0 with hm | hm | hm
  · rcases Int.lt_or_lt_of_ne hy with h | h
    · have : ¬ m * y < 0 := by have := Int.mul_pos_of_neg_of_neg hm h; omega
      unfold sgnI absI; simp [h, hm, this] <;> omega
    · have : m * y < 0 := Int.mul_neg_of_neg_of_pos hm h
      have h' : ¬ y < 0 := by omega
      unfold sgnI absI; simp [h', hm, this] <;> omega
  · subst hm
    rw [Int.zero_mul, show absI 0 = 0 from rfl]
    unfold sgnI; split <;> rfl
  · rcases Int.lt_or_lt_of_ne hy with h | h
    · have : m * y < 0 := Int.mul_neg_of_pos_of_neg hm h
      have h' : ¬ m < 0 := by omega
      unfold sgnI absI; simp [h, h', this]
    · have : ¬ m * y < 0 := by have := Int.mul_pos hm h; omega
      have h' : ¬ y < 0 := by omega
      have h'' : ¬ m < 0 := by omega
      unfold sgnI absI; simp [h', h'', this]
theorem quo_one (a : Int) : quoI a 18446744073709551616 = a := by
  unfold quoI
  have e1 : (2 * (absI a * 18446744073709551616) + absI 18446744073709551616) / (2 * absI 18446744073709551616) = absI a := by
    rw [show absI 18446744073709551616 = 18446744073709551616 from rfl]; omega
  rw [e1, show decide ((18446744073709551616 : Int) < 0) = false from rfl, Bool.bne_false]
  unfold sgnI absI
  by_cases h : a < 0 <;> simp [h]
theorem mul_one' (a : Int) : mulI a 18446744073709551616 = a := by
  rw [mulI_comm, show (18446744073709551616 : Int) = 1 * 18446744073709551616 from rfl, mulI_whole]; omega
theorem i32_mul {m n : Int} (hm : -2147483648 ≤ m ∧ m < 2147483648) (hn : -2147483648 ≤ n ∧ n < 2147483648) : -4611686018427387904 ≤ m * n ∧ m * n ≤ 4611686018427387904 := by
  have := part_le (x := absI m) (y := absI n) (m := 2147483648) (n := 2147483648) (by unfold absI; split <;> omega) (by unfold absI; split <;> omega) (by unfold absI; split <;> omega) (by unfold absI; split <;> omega)
  rw [← abs_mul] at this
  generalize m * n = q at *
  unfold absI at this
  split at this <;> omega
theorem c_FixNear : Contract Try.prog f_perigeelaw2_FixNear (spTrue lawFnn) := by
  refine contract_of (N := Nk) 3 (knowOf (fun g sp h => ctrsk h) (fun _ _ => rfl) (fun _ => rfl) 3) ?_
  intro l bs _ _ hp
  obtain ⟨a, m, n, rfl, rfl, ha, hm, hn⟩ := hp
  rw [v_FixNear]
  have wm : IntKind.i64.wrap m = m := i64_in _ (by omega)
  have wn : IntKind.i64.wrap n = n := i64_in _ (by omega)
  have hmn := i32_mul hm hn
  have wmn : IntKind.i64.wrap (m * n) = m * n := i64_in _ (by omega)
  have mxe : ∀ {k : Int}, -9223372036854775807 ≤ k → mx .i64 k (-9223372036854775807) = k := fun h => by unfold mx; rw [if_neg (by omega)]
  rw [wm, wn, wmn, mxe (by omega), mxe (by omega), mxe (by omega)]
  rintro a rfl t2 e2 j3 rfl t4 e4 j5 rfl t6 e6 j7 rfl t8 e8 t9 e9 t10 e10 t11 e11 t12 e12 t13 e13 t14 e14 t15 e15 t16 e16 b17 e17 b18 e18 b19 e19 b20 e20
  refine ⟨preF_in ha, br_guard ⟨preNone_ok, rfl⟩ fun ma => ?_⟩
  have A := mayF_of ha ma
  have M3 : mayF j3 := by unfold mayF; omega
  have M5 : mayF j5 := by unfold mayF; omega
  have p : mulI j3 j5 = m * n * 18446744073709551616 := by rw [e2, mulI_whole, e4, Int.mul_assoc]
  have P : mayF (m * n * 18446744073709551616) := by unfold mayF; omega
  have h7 : j7 = m * n * 18446744073709551616 := by rw [e6, p, num_may P]
  have h17 : b17 = true := by rw [e17, e16, h7]; simp
  have h18 : b18 = true := by rw [e18, e14, e11, mul_one', num_may A]; simp
  have h19 : b19 = true := by rw [e19, e12]; unfold divN; rw [if_neg (by decide), quo_one, num_may A]; simp
  have h10 : t10 = 0 := by rw [e10, p, err_may P]
  have h15 : t15 = 0 := by rw [e15, e11, mul_one', err_may A]
  have h13 : t13 = 0 := by rw [e13]; unfold divE; rw [if_neg (by decide), quo_one, err_may A]
  have hz : divE a 0 = 2 := by unfold divE; rw [if_pos rfl]
  have one : mayF 18446744073709551616 := ⟨by decide, by decide⟩
  have ok0 : i64ok 0 := ⟨by decide, by decide⟩
  have ok1 : i64ok 1 := ⟨by decide, by decide⟩
  have J7 : mayF j7 := by rw [h7]; exact P
  rw [h17, h18, h19, h10, h15, h13, hz]
  refine ⟨preI_of ⟨by omega, by omega⟩, preI_of ⟨by omega, by omega⟩, may2_of M3 M5, preI_of ok1, may2_of A one, preI_of ok1, may2_of A one, may2_of A may_zero, preI_of ⟨by omega, by omega⟩, preI_of ok0, preI_of ok0, preI_of ok0, preI_of ⟨by decide, by decide⟩, ?_⟩
  rw [br_beq]
  refine ⟨fun _ => ⟨preNone_ok, rfl⟩, fun h0 => ?_⟩
  have q : quoI j7 j5 = m * 18446744073709551616 := by
    rw [h7, e4, Int.mul_assoc]; exact quo_exact m _ (by omega)
  have M : mayF (m * 18446744073709551616) := by rw [← e2]; exact M3
  have h20 : b20 = true := by
    rw [e20, e8]; unfold divN; rw [if_neg (by omega), q, num_may M, e2]; simp
  have h9 : t9 = 0 := by rw [e9]; unfold divE; rw [if_neg (by omega), q, err_may M]
  rw [h20, h9]
  exact ⟨may2_of J7 M5, preI_of ok0, preNone_ok, rfl⟩
end Go.Vs.RF

set_option linter.unusedVariables false
set_option linter.unusedSimpArgs false
set_option maxRecDepth 100000
/- what the laws are handed -/
namespace Go.Vs.RF
open Go Go.Proofs Go.Vs Go.IntWalk

theorem fxArg {x : List Int} (l : x.length = 2) (k : ∀ j, j < 2 → inK (([.i64, .u64] : List IntKind).getD j .i64) (x.getD j 0)) : ∃ a, IV.agg (rowCells [.i64, .u64] [x] 0 0 2) = fx a ∧ inF a := by
  match x, l with
  | [p, q], _ =>
    have h0 : -9223372036854775808 ≤ p ∧ p ≤ 9223372036854775807 := k 0 (by decide)
    have h1 : 0 ≤ q ∧ q ≤ 18446744073709551615 := k 1 (by decide)
    refine ⟨p * 18446744073709551616 + q, ?_, by unfold inF; omega⟩
    show IV.agg [.int .i64 p, .int .u64 q] = fx _
    unfold fx
    rw [show (p * 18446744073709551616 + q) / 18446744073709551616 = p by omega, show (p * 18446744073709551616 + q) % 18446744073709551616 = q by omega]
theorem lawF1_of {x0 : List Int} (l0 : x0.length = 2) (k0 : ∀ j, j < 2 → inK (([.i64, .u64] : List IntKind).getD j .i64) (x0.getD j 0)) : lawF1 [.agg (rowCells [.i64, .u64] [x0] 0 0 2)] [] := by
  obtain ⟨a, e0, h0⟩ := fxArg l0 k0
  exact ⟨a, by rw [e0], rfl, h0⟩
theorem lawF2_of {x0 x1 : List Int} (l0 : x0.length = 2) (k0 : ∀ j, j < 2 → inK (([.i64, .u64] : List IntKind).getD j .i64) (x0.getD j 0)) (l1 : x1.length = 2) (k1 : ∀ j, j < 2 → inK (([.i64, .u64] : List IntKind).getD j .i64) (x1.getD j 0)) :
    lawF2 [.agg (rowCells [.i64, .u64] [x0] 0 0 2), .agg (rowCells [.i64, .u64] [x1] 0 0 2)] [] := by
  obtain ⟨a, e0, h0⟩ := fxArg l0 k0
  obtain ⟨b, e1, h1⟩ := fxArg l1 k1
  exact ⟨a, b, by rw [e0, e1], rfl, h0, h1⟩
theorem lawF3_of {x0 x1 x2 : List Int} (l0 : x0.length = 2) (k0 : ∀ j, j < 2 → inK (([.i64, .u64] : List IntKind).getD j .i64) (x0.getD j 0)) (l1 : x1.length = 2) (k1 : ∀ j, j < 2 → inK (([.i64, .u64] : List IntKind).getD j .i64) (x1.getD j 0)) (l2 : x2.length = 2) (k2 : ∀ j, j < 2 → inK (([.i64, .u64] : List IntKind).getD j .i64) (x2.getD j 0)) :
    lawF3 [.agg (rowCells [.i64, .u64] [x0] 0 0 2), .agg (rowCells [.i64, .u64] [x1] 0 0 2), .agg (rowCells [.i64, .u64] [x2] 0 0 2)] [] := by
  obtain ⟨a, e0, h0⟩ := fxArg l0 k0
  obtain ⟨b, e1, h1⟩ := fxArg l1 k1
  obtain ⟨c, e2, h2⟩ := fxArg l2 k2
  exact ⟨a, b, c, by rw [e0, e1, e2], rfl, h0, h1, h2⟩
theorem lawFnn_of {x0 : List Int} {x1 x2 : Int} (l0 : x0.length = 2) (k0 : ∀ j, j < 2 → inK (([.i64, .u64] : List IntKind).getD j .i64) (x0.getD j 0)) (k1 : inK .i32 x1) (k2 : inK .i32 x2) :
    lawFnn [.agg (rowCells [.i64, .u64] [x0] 0 0 2), .int .i32 x1, .int .i32 x2] [] := by
  obtain ⟨a, e0, h0⟩ := fxArg l0 k0
  have h1 : -2147483648 ≤ x1 ∧ x1 ≤ 2147483647 := k1
  have h2 : -2147483648 ≤ x2 ∧ x2 ≤ 2147483647 := k2
  exact ⟨a, x1, x2, by rw [e0], rfl, h0, by omega, by omega⟩
end Go.Vs.RF
