import Derived.Test.YtoccmfelheinhaaR3G
import Derived.Test.YtoccmfelheinhaaR3E
set_option linter.unusedVariables false
/- the laws of drift -/
namespace Go.Vs.RF
open Go Go.Proofs Go.Vs
noncomputable def Γe3 : FuncId → Option Vs.Spec := fun g => if g = f_perigeeref22_MayBody then some spMayBody else if g = f_drift_Move then some spMove else if g = f_perigeeref10_Move then some spRMove else if g = f_perigeeref10_SameVecs then some spSame else if g = f_perigeelaw9_Body then some spBody else if g = f_perigeelaw9_Bodies then some spBodies else Γe2 g
noncomputable def Ne3 : Know := ⟨Γe3, fun _ _ => none, fun _ => none⟩
def pNo13 (l : List IV) (bs : List Blk) : Prop := l = [] ∧ bs = []
noncomputable def spAwk13 : Vs.Spec := ⟨pNo13, fun _ _ => (.bool true, [])⟩
theorem v_awake13 (K : IV → List Blk → Prop) : (comes Try.prog Ne3 3 f_perigeelaw13_awake [] [] K) = (∀ (t1 : Prop), t1 = ((0 : Int) ≤ (0 : Int) ∧ (0 : Int) < (1 : Int)) → ∀ (t2 : Prop), t2 = (preI [IV.int IntKind.i64 (5 : Int)] [] ∧ pMove [IV.sl (0 : Nat), IV.agg [IV.int IntKind.i64 (5 : Int), IV.int IntKind.u64 (0 : Int)]] [Blk.ro ksB [[(2 : Int), (0 : Int), (0 : Int), (0 : Int), (0 : Int), (0 : Int), (0 : Int), (0 : Int), (6 : Int), (0 : Int), (0 : Int), (0 : Int), (0 : Int), (0 : Int), (0 : Int), (0 : Int), (0 : Int), (0 : Int), (0 : Int), (0 : Int)]]] ∧ preI [IV.int IntKind.i64 (0 : Int)] [] ∧ t1 ∧ t1 ∧ preI [IV.int IntKind.i64 (15 : Int)] [] ∧ K (IV.bool true) []) → preI [IV.int IntKind.i64 (2 : Int)] [] ∧ preI [IV.int IntKind.i64 (6 : Int)] [] ∧ t2 ∧ t2) := by refine nm ?_; refine nm ?_; kernel_rfl
noncomputable def Γe4 : FuncId → Option Vs.Spec := fun g => if g = f_perigeelaw13_awake then some spAwk13 else Γe3 g
noncomputable def Ne4 : Know := ⟨Γe4, fun _ _ => none, fun _ => none⟩
theorem v_DriftEdges (n m s : Int) (K : IV → List Blk → Prop) : (comes Try.prog Ne4 3 f_perigeelaw13_DriftEdges [.int .i32 n, .int .u8 m, .int .u8 s] [] K) = (∀ (t1 : Int), t1 = -((19807040628566084398385987584 : Int) + IntKind.u64.wrap (m.tmod (2 : Int))) → ∀ (j2 : Int), j2 = t1 → ∀ (t3 : Int), t3 = mx IntKind.i64 (IntKind.i64.wrap n) (-9223372036854775807 : Int) * (18446744073709551616 : Int) → ∀ (j4 : Int), j4 = t3 → ∀ (t5 : Prop), t5 = preI [IV.int IntKind.i64 (IntKind.i64.wrap n)] [] → ∀ (t6 : Prop), t6 = preI [IV.int IntKind.i64 (1 : Int)] [] → ∀ (t7 : Int), t7 = (19807040628566084398385987584 : Int) + IntKind.u64.wrap (m.tmod (2 : Int)) → ∀ (t8 : Int), t8 = -((1208925819614629174706176 : Int) + IntKind.u64.wrap (m.tmod (2 : Int))) → ∀ (t9 : Prop), t9 = vin1 [IV.agg [IV.int IntKind.i64 (1073741824 : Int), IV.int IntKind.u64 (IntKind.u64.wrap (m.tmod (2 : Int))), IV.int IntKind.i64 (0 : Int), IV.int IntKind.u64 (0 : Int)]] [] → ∀ (t10 : Prop), t10 = vin1 [IV.agg [IV.int IntKind.i64 (0 : Int), IV.int IntKind.u64 (0 : Int), IV.int IntKind.i64 (1073741824 : Int), IV.int IntKind.u64 (IntKind.u64.wrap (m.tmod (2 : Int)))]] [] → ∀ (t11 : Prop), t11 = vin1 [IV.agg [IV.int IntKind.i64 (t1 / (18446744073709551616 : Int)), IV.int IntKind.u64 (t1 % (18446744073709551616 : Int)), IV.int IntKind.i64 (0 : Int), IV.int IntKind.u64 (0 : Int)]] [] → ∀ (t12 : Prop), t12 = vin1 [IV.agg [IV.int IntKind.i64 (0 : Int), IV.int IntKind.u64 (0 : Int), IV.int IntKind.i64 (t1 / (18446744073709551616 : Int)), IV.int IntKind.u64 (t1 % (18446744073709551616 : Int))]] [] → ∀ (t13 : Prop), t13 = vin1 [IV.agg [IV.int IntKind.i64 (t3 / (18446744073709551616 : Int)), IV.int IntKind.u64 (t3 % (18446744073709551616 : Int)), IV.int IntKind.i64 (0 : Int), IV.int IntKind.u64 (0 : Int)]] [] → ∀ (t14 : Prop), t14 = pB [IV.agg [IV.int IntKind.i64 (1 : Int), IV.int IntKind.u64 (0 : Int), IV.int IntKind.i64 (0 : Int), IV.int IntKind.u64 (0 : Int), IV.int IntKind.i64 (0 : Int), IV.int IntKind.u64 (0 : Int), IV.int IntKind.i64 (0 : Int), IV.int IntKind.u64 (0 : Int), IV.int IntKind.i64 (0 : Int), IV.int IntKind.u64 (0 : Int), IV.int IntKind.i64 (65536 : Int), IV.int IntKind.u64 (IntKind.u64.wrap (m.tmod (2 : Int))), IV.int IntKind.i64 (0 : Int), IV.int IntKind.u64 (0 : Int), IV.int IntKind.i64 (0 : Int), IV.int IntKind.u64 (0 : Int), IV.int IntKind.i64 (0 : Int), IV.int IntKind.u64 (0 : Int), IV.int IntKind.i64 (0 : Int), IV.int IntKind.i64 (0 : Int)]] [] → ∀ (t15 : Int), t15 = spdE (rowA [IV.agg [IV.int IntKind.i64 (1 : Int), IV.int IntKind.u64 (0 : Int), IV.int IntKind.i64 (0 : Int), IV.int IntKind.u64 (0 : Int), IV.int IntKind.i64 (0 : Int), IV.int IntKind.u64 (0 : Int), IV.int IntKind.i64 (0 : Int), IV.int IntKind.u64 (0 : Int), IV.int IntKind.i64 (0 : Int), IV.int IntKind.u64 (0 : Int), IV.int IntKind.i64 (65536 : Int), IV.int IntKind.u64 (IntKind.u64.wrap (m.tmod (2 : Int))), IV.int IntKind.i64 (0 : Int), IV.int IntKind.u64 (0 : Int), IV.int IntKind.i64 (0 : Int), IV.int IntKind.u64 (0 : Int), IV.int IntKind.i64 (0 : Int), IV.int IntKind.u64 (0 : Int), IV.int IntKind.i64 (0 : Int), IV.int IntKind.i64 (0 : Int)]] (0 : Nat)) → ∀ (t16 : Prop), t16 = pB [IV.agg [IV.int IntKind.i64 (1 : Int), IV.int IntKind.u64 (0 : Int), IV.int IntKind.i64 (0 : Int), IV.int IntKind.u64 (0 : Int), IV.int IntKind.i64 (0 : Int), IV.int IntKind.u64 (0 : Int), IV.int IntKind.i64 (0 : Int), IV.int IntKind.u64 (0 : Int), IV.int IntKind.i64 (0 : Int), IV.int IntKind.u64 (0 : Int), IV.int IntKind.i64 (t8 / (18446744073709551616 : Int)), IV.int IntKind.u64 (t8 % (18446744073709551616 : Int)), IV.int IntKind.i64 (0 : Int), IV.int IntKind.u64 (0 : Int), IV.int IntKind.i64 (0 : Int), IV.int IntKind.u64 (0 : Int), IV.int IntKind.i64 (0 : Int), IV.int IntKind.u64 (0 : Int), IV.int IntKind.i64 (0 : Int), IV.int IntKind.i64 (0 : Int)]] [] → ∀ (t17 : Int), t17 = spdE (rowA [IV.agg [IV.int IntKind.i64 (1 : Int), IV.int IntKind.u64 (0 : Int), IV.int IntKind.i64 (0 : Int), IV.int IntKind.u64 (0 : Int), IV.int IntKind.i64 (0 : Int), IV.int IntKind.u64 (0 : Int), IV.int IntKind.i64 (0 : Int), IV.int IntKind.u64 (0 : Int), IV.int IntKind.i64 (0 : Int), IV.int IntKind.u64 (0 : Int), IV.int IntKind.i64 (t8 / (18446744073709551616 : Int)), IV.int IntKind.u64 (t8 % (18446744073709551616 : Int)), IV.int IntKind.i64 (0 : Int), IV.int IntKind.u64 (0 : Int), IV.int IntKind.i64 (0 : Int), IV.int IntKind.u64 (0 : Int), IV.int IntKind.i64 (0 : Int), IV.int IntKind.u64 (0 : Int), IV.int IntKind.i64 (0 : Int), IV.int IntKind.i64 (0 : Int)]] (0 : Nat)) → ∀ (t18 : Prop), t18 = ((2 : Int) ≠ (0 : Int) ∧ br (slowB (rowA [IV.agg [IV.int IntKind.i64 (1 : Int), IV.int IntKind.u64 (0 : Int), IV.int IntKind.i64 (0 : Int), IV.int IntKind.u64 (0 : Int), IV.int IntKind.i64 (0 : Int), IV.int IntKind.u64 (0 : Int), IV.int IntKind.i64 (0 : Int), IV.int IntKind.u64 (0 : Int), IV.int IntKind.i64 (0 : Int), IV.int IntKind.u64 (0 : Int), IV.int IntKind.i64 (65536 : Int), IV.int IntKind.u64 (IntKind.u64.wrap (m.tmod (2 : Int))), IV.int IntKind.i64 (0 : Int), IV.int IntKind.u64 (0 : Int), IV.int IntKind.i64 (0 : Int), IV.int IntKind.u64 (0 : Int), IV.int IntKind.i64 (0 : Int), IV.int IntKind.u64 (0 : Int), IV.int IntKind.i64 (0 : Int), IV.int IntKind.i64 (0 : Int)]] (0 : Nat)) == (m.tmod (2 : Int) == (0 : Int))) (preI [IV.int IntKind.i64 t15] [] ∧ br (t15 == (0 : Int)) (pNo13 [] [] ∧ K (IV.bool true) []) (K (IV.bool false) [])) (K (IV.bool false) [])) → ∀ (t19 : Prop), t19 = ((2 : Int) ≠ (0 : Int) ∧ br (slowB (rowA [IV.agg [IV.int IntKind.i64 (1 : Int), IV.int IntKind.u64 (0 : Int), IV.int IntKind.i64 (0 : Int), IV.int IntKind.u64 (0 : Int), IV.int IntKind.i64 (0 : Int), IV.int IntKind.u64 (0 : Int), IV.int IntKind.i64 (0 : Int), IV.int IntKind.u64 (0 : Int), IV.int IntKind.i64 (0 : Int), IV.int IntKind.u64 (0 : Int), IV.int IntKind.i64 (t8 / (18446744073709551616 : Int)), IV.int IntKind.u64 (t8 % (18446744073709551616 : Int)), IV.int IntKind.i64 (0 : Int), IV.int IntKind.u64 (0 : Int), IV.int IntKind.i64 (0 : Int), IV.int IntKind.u64 (0 : Int), IV.int IntKind.i64 (0 : Int), IV.int IntKind.u64 (0 : Int), IV.int IntKind.i64 (0 : Int), IV.int IntKind.i64 (0 : Int)]] (0 : Nat)) == (m.tmod (2 : Int) == (0 : Int))) (preI [IV.int IntKind.i64 t17] [] ∧ br (t17 == (0 : Int)) (pNo13 [] [] ∧ K (IV.bool true) []) (K (IV.bool false) [])) (K (IV.bool false) [])) → (2 : Int) ≠ (0 : Int) ∧ (2 : Int) ≠ (0 : Int) ∧ (2 : Int) ≠ (0 : Int) ∧ br (s.tmod (2 : Int) == (1 : Int)) (may1 [IV.agg [IV.int IntKind.i64 (1073741824 : Int), IV.int IntKind.u64 (IntKind.u64.wrap (m.tmod (2 : Int)))]] [] ∧ may1 [IV.agg [IV.int IntKind.i64 (65536 : Int), IV.int IntKind.u64 (IntKind.u64.wrap (m.tmod (2 : Int)))]] [] ∧ br (decide (IntKind.i64.wrap n ≥ (-1073741824 : Int))) (t6 ∧ t16 ∧ t11 ∧ (2 : Int) ≠ (0 : Int) ∧ br (wiB (1073741824 : Int) j2 (0 : Int) == (m.tmod (2 : Int) == (0 : Int))) (t12 ∧ (2 : Int) ≠ (0 : Int) ∧ br (wiB (1073741824 : Int) (0 : Int) j2 == (m.tmod (2 : Int) == (0 : Int))) (t5 ∧ t13 ∧ br (wiB (1073741824 : Int) j4 (0 : Int) == decide (IntKind.i64.wrap n ≤ (1073741824 : Int))) t19 (K (IV.bool false) [])) (K (IV.bool false) [])) (K (IV.bool false) [])) (t6 ∧ t16 ∧ t11 ∧ (2 : Int) ≠ (0 : Int) ∧ br (wiB (1073741824 : Int) j2 (0 : Int) == (m.tmod (2 : Int) == (0 : Int))) (t12 ∧ (2 : Int) ≠ (0 : Int) ∧ br (wiB (1073741824 : Int) (0 : Int) j2 == (m.tmod (2 : Int) == (0 : Int))) (t5 ∧ t13 ∧ br (wiB (1073741824 : Int) j4 (0 : Int) == false) t19 (K (IV.bool false) [])) (K (IV.bool false) [])) (K (IV.bool false) []))) (br (decide (IntKind.i64.wrap n ≥ (-1073741824 : Int))) (t6 ∧ t14 ∧ t9 ∧ (2 : Int) ≠ (0 : Int) ∧ br (wiB (1073741824 : Int) t7 (0 : Int) == (m.tmod (2 : Int) == (0 : Int))) (t10 ∧ (2 : Int) ≠ (0 : Int) ∧ br (wiB (1073741824 : Int) (0 : Int) t7 == (m.tmod (2 : Int) == (0 : Int))) (t5 ∧ t13 ∧ br (wiB (1073741824 : Int) j4 (0 : Int) == decide (IntKind.i64.wrap n ≤ (1073741824 : Int))) t18 (K (IV.bool false) [])) (K (IV.bool false) [])) (K (IV.bool false) [])) (t6 ∧ t14 ∧ t9 ∧ (2 : Int) ≠ (0 : Int) ∧ br (wiB (1073741824 : Int) t7 (0 : Int) == (m.tmod (2 : Int) == (0 : Int))) (t10 ∧ (2 : Int) ≠ (0 : Int) ∧ br (wiB (1073741824 : Int) (0 : Int) t7 == (m.tmod (2 : Int) == (0 : Int))) (t5 ∧ t13 ∧ br (wiB (1073741824 : Int) j4 (0 : Int) == false) t18 (K (IV.bool false) [])) (K (IV.bool false) [])) (K (IV.bool false) [])))) := by refine nm ?_; refine nj ?_; refine nm ?_; refine nj ?_; refine nm ?_; refine nm ?_; refine nm ?_; refine nm ?_; refine nm ?_; refine nm ?_; refine nm ?_; refine nm ?_; refine nm ?_; refine nm ?_; refine nm ?_; refine nm ?_; refine nm ?_; refine nm ?_; refine nm ?_; kernel_rfl
/-! may all be? -/
def Smy (xs : List (List Int)) (i : Int) : St := ⟨T 23 [(0, .sl 0), (3, .int .i64 i)], [some (.ro ksB xs)]⟩
theorem rMay13 (Λ : FuncId → Nat → Option LoopS) (d : Nat) (xs : List (List Int)) (i : Int) (k : Out → St → Prop) : (round (envOf Try.prog ⟨Γe3, Λ, fun _ => none⟩ d) f_perigeelaw13_may 1 0 (lp Try.prog f_perigeelaw13_may 0) (Smy xs i) k) = (∀ (t1 : Prop), t1 = ((0 : Int) ≤ i ∧ i < (↑xs.length : Int)) → ∀ (t2 : Prop), t2 = k (Out.exit (0 : Nat)) (St.mk (T (23 : Nat) [((0 : Nat), IV.sl (0 : Nat))]) [some (Blk.ro ksB xs)]) → br (decide (i < (↑xs.length : Int))) (br (decide (i ≤ (32 : Int))) (t1 ∧ t1 ∧ pBody0 [IV.agg (rowCells ksB xs i.toNat (0 : Nat) (20 : Nat))] [] ∧ br (!mayBB (rowA [IV.agg (rowCells ksB xs i.toNat (0 : Nat) (20 : Nat))] (0 : Nat))) (k Out.ret (St.mk (T (23 : Nat) [((2 : Nat), IV.bool false)]) [some (Blk.ro ksB xs)])) (k Out.normal (St.mk (T (23 : Nat) [((0 : Nat), IV.sl (0 : Nat)), ((3 : Nat), IV.int IntKind.i64 (IntKind.i64.wrap (i + (1 : Int))))]) [some (Blk.ro ksB xs)]))) t2) t2) := by refine nm ?_; refine nm ?_; kernel_rfl
def allB (n : Nat) (xs : List (List Int)) : Bool := (xs.take n).all mayBB
def pMy (n0 : Nat) (st : St) (xs : List (List Int)) : Prop := okRows ksB xs ∧ (∀ r ∈ xs, r.length = 20) ∧ xs.length ≤ maxLen ∧ n0 = 1 ∧ st = Smy xs 0
noncomputable def LMy : LoopS := fun n0 st K => ∃ xs, pMy n0 st xs ∧ br (allB 33 xs) (K (.exit 0) ⟨T 23 [(0, .sl 0)], [some (.ro ksB xs)]⟩) (K .ret ⟨T 23 [(2, .bool false)], [some (.ro ksB xs)]⟩)
noncomputable def NMy : Know := ⟨Γe3, fun f i => if f = f_perigeelaw13_may then (if i = 0 then some LMy else none) else none, fun _ => none⟩
theorem v_may13 (xs : List (List Int)) (K : IV → List Blk → Prop) : (comes Try.prog NMy 3 f_perigeelaw13_may [.sl 0] [.ro ksB xs] K) = (∃ xs_1, pMy (1 : Nat) (St.mk (T (23 : Nat) [((0 : Nat), IV.sl (0 : Nat)), ((3 : Nat), IV.int IntKind.i64 (0 : Int))]) [some (Blk.ro ksB xs)]) xs_1 ∧ br (allB (33 : Nat) xs_1) (K (IV.bool (decide ((↑xs_1.length : Int) ≤ (32 : Int)))) []) (K (IV.bool false) [])) := by kernel_rfl
def mayAll (xs : List (List Int)) : Bool := allB 33 xs && decide ((xs.length : Int) ≤ 32)
def pMay13 (l : List IV) (bs : List Blk) : Prop := ∃ xs, l = [.sl 0] ∧ bs = [.ro ksB xs] ∧ ∀ r ∈ xs, r.length = 20
noncomputable def spMay13 : Vs.Spec := ⟨pMay13, fun _ bs => (.bool (mayAll (xsOf bs 0)), [])⟩
noncomputable def Γe5 : FuncId → Option Vs.Spec := fun g => if g = f_perigeelaw13_may then some spMay13 else Γe4 g
end Go.Vs.RF


set_option linter.unusedVariables false
/- the laws of drift: loops -/
namespace Go.Vs.RF
open Go Go.Proofs Go.Vs
/-- some cells of a row written anew -/
def putR (f g : Nat) (ys r : List Int) : List Int := (List.range 20).map fun j => if f ≤ j ∧ j < g then ys.getD (j - f) 0 else r.getD j 0
/-- the first rows changed -/
def mixI (g : Nat → List Int → List Int) (n : Nat) (xs : List (List Int)) : List (List Int) := xs.mapIdx fun p r => if p < n then g p r else r
def SdA (xs zs : List (List Int)) (x y e i : Int) : St := ⟨T 117 [(0, .sl 0), (5, .ptr 1 0), (7, .sl 2), (8, .int .i64 e), (9, .ptr 3 0), (10, .int .i64 i)], [some (.ro ksB xs), some (.var 30 (vx x y).cells), some (.row 30 ksV zs), some (.var 58 [.sl 4, .int .i64 e]), some (.row 30 ksV zs)]⟩
theorem rDriftAll (Λ : FuncId → Nat → Option LoopS) (d : Nat) (xs zs : List (List Int)) (x y e i : Int) (k : Out → St → Prop) : (round (envOf Try.prog ⟨Γe5, Λ, fun _ => none⟩ d) f_perigeelaw13_DriftAll 1 0 (lp Try.prog f_perigeelaw13_DriftAll 0) (SdA xs zs x y e i) k) = (∀ (t1 : Prop), t1 = ((0 : Int) ≤ i ∧ i < (↑xs.length : Int)) → ∀ (t2 : Prop), t2 = pB [IV.agg (rowCells ksB xs i.toNat (0 : Nat) (20 : Nat))] [] → ∀ (t3 : Int), t3 = spdX (rowA [IV.agg (rowCells ksB xs i.toNat (0 : Nat) (20 : Nat))] (0 : Nat)) → ∀ (t4 : Int), t4 = spdY (rowA [IV.agg (rowCells ksB xs i.toNat (0 : Nat) (20 : Nat))] (0 : Nat)) → ∀ (t5 : Int), t5 = spdE (rowA [IV.agg (rowCells ksB xs i.toNat (0 : Nat) (20 : Nat))] (0 : Nat)) → ∀ (t6 : Prop), t6 = preI [IV.int IntKind.i64 t5] [] → ∀ (b7 : Bool), b7 = decide (t4 = t4) → ∀ (d8 : Bool), d8 = (decide (t3 = t3) && b7) → br (decide (i < (↑xs.length : Int))) (t1 ∧ t1 ∧ t2 ∧ t1 ∧ t1 ∧ t2 ∧ t1 ∧ t1 ∧ t2 ∧ t1 ∧ t1 ∧ t2 ∧ br (!d8) (k Out.ret (St.mk (T (117 : Nat) [((6 : Nat), IV.bool false)]) [some (Blk.ro ksB xs)])) (t6 ∧ br (t5 != t5) (k Out.ret (St.mk (T (117 : Nat) [((6 : Nat), IV.bool false)]) [some (Blk.ro ksB xs)])) (br (!slowB (rowA [IV.agg (rowCells ksB xs i.toNat (0 : Nat) (20 : Nat))] (0 : Nat)) == slowB (rowA [IV.agg (rowCells ksB xs i.toNat (0 : Nat) (20 : Nat))] (0 : Nat))) (k Out.ret (St.mk (T (117 : Nat) [((6 : Nat), IV.bool false)]) [some (Blk.ro ksB xs)])) (t6 ∧ br (t5 != t5) (k Out.ret (St.mk (T (117 : Nat) [((6 : Nat), IV.bool false)]) [some (Blk.ro ksB xs)])) (k Out.normal (St.mk (T (117 : Nat) [((0 : Nat), IV.sl (0 : Nat)), ((5 : Nat), IV.ptr (1 : Nat) (0 : Nat)), ((7 : Nat), IV.sl (2 : Nat)), ((8 : Nat), IV.int IntKind.i64 e), ((9 : Nat), IV.ptr (3 : Nat) (0 : Nat)), ((10 : Nat), IV.int IntKind.i64 (IntKind.i64.wrap (i + (1 : Int))))]) [some (Blk.ro ksB xs), some (Blk.var (30 : Nat) [IV.int IntKind.i64 (x / (18446744073709551616 : Int)), IV.int IntKind.u64 (x % (18446744073709551616 : Int)), IV.int IntKind.i64 (y / (18446744073709551616 : Int)), IV.int IntKind.u64 (y % (18446744073709551616 : Int))]), some (Blk.row (30 : Nat) ksV zs), some (Blk.var (58 : Nat) [IV.sl (4 : Nat), IV.int IntKind.i64 e]), some (Blk.row (30 : Nat) ksV zs)])))))) (k (Out.exit (0 : Nat)) (St.mk (T (117 : Nat) [((5 : Nat), IV.ptr (1 : Nat) (0 : Nat)), ((7 : Nat), IV.sl (2 : Nat)), ((8 : Nat), IV.int IntKind.i64 e), ((9 : Nat), IV.ptr (3 : Nat) (0 : Nat))]) [some (Blk.ro ksB xs), some (Blk.var (30 : Nat) [IV.int IntKind.i64 (x / (18446744073709551616 : Int)), IV.int IntKind.u64 (x % (18446744073709551616 : Int)), IV.int IntKind.i64 (y / (18446744073709551616 : Int)), IV.int IntKind.u64 (y % (18446744073709551616 : Int))]), some (Blk.row (30 : Nat) ksV zs), some (Blk.var (58 : Nat) [IV.sl (4 : Nat), IV.int IntKind.i64 e]), some (Blk.row (30 : Nat) ksV zs)]))) := by refine nm ?_; refine nm ?_; refine nm ?_; refine nm ?_; refine nm ?_; refine nm ?_; refine nb ?_; refine nbr ?_; kernel_rfl
def SdM (ns xs : List (List Int)) (f h i : Int) : St := ⟨T 97 [(2, .int .u8 f), (4, .ptr 1 0), (7, .sl 2), (8, .int .i64 i)], [some (.ro [.u8] ns), some (.var 28 (fx h).cells), some (.row 32 ksB xs)]⟩
theorem rDriftFast (Λ : FuncId → Nat → Option LoopS) (d : Nat) (ns xs : List (List Int)) (f h i : Int) (k : Out → St → Prop) : (round (envOf Try.prog ⟨Γe5, Λ, fun _ => none⟩ d) f_perigeelaw13_DriftMade 1 0 (lp Try.prog f_perigeelaw13_DriftMade 0) (SdM ns xs f h i) k) = (∀ (t1 : Prop), t1 = ((0 : Int) ≤ i ∧ i < (↑xs.length : Int)) → br (decide (i < (↑xs.length : Int))) (t1 ∧ t1 ∧ (24 : Int) ≠ (0 : Int) ∧ (0 : Int) ≤ f.tmod (24 : Int) ∧ t1 ∧ t1 ∧ k Out.normal (St.mk (T (97 : Nat) [((2 : Nat), IV.int IntKind.u8 f), ((4 : Nat), IV.ptr (1 : Nat) (0 : Nat)), ((7 : Nat), IV.sl (2 : Nat)), ((8 : Nat), IV.int IntKind.i64 (IntKind.i64.wrap (i + (1 : Int))))]) [some (Blk.ro [IntKind.u8] ns), some (Blk.var (28 : Nat) [IV.int IntKind.i64 (h / (18446744073709551616 : Int)), IV.int IntKind.u64 (h % (18446744073709551616 : Int))]), some (Blk.row (32 : Nat) ksB (xs.modify i.toNat fun x => List.map (fun j => if (8 : Nat) ≤ j ∧ j < (9 : Nat) then [IntKind.i64.wrap (rd xs i.toNat (8 : Nat) * (2 : Int) ^ min (f.tmod (24 : Int)).toNat (64 : Nat))].getD (j - (8 : Nat)) (0 : Int) else x.getD j (0 : Int)) (List.range (20 : Nat))))])) (k (Out.exit (0 : Nat)) (St.mk (T (97 : Nat) [((4 : Nat), IV.ptr (1 : Nat) (0 : Nat)), ((7 : Nat), IV.sl (2 : Nat))]) [some (Blk.ro [IntKind.u8] ns), some (Blk.var (28 : Nat) [IV.int IntKind.i64 (h / (18446744073709551616 : Int)), IV.int IntKind.u64 (h % (18446744073709551616 : Int))]), some (Blk.row (32 : Nat) ksB xs)]))) := by refine nm ?_; kernel_rfl
def SdB (ns xs zs ws : List (List Int)) (h i : Int) : St := ⟨T 100 [(3, .ptr 1 0), (5, .sl 2), (6, .sl 3), (8, .sl 4), (9, .int .i64 i)], [some (.ro [.u8] ns), some (.var 28 (fx h).cells), some (.row 32 ksB xs), some (.row 30 ksV zs), some (.row 32 ksB ws)]⟩
theorem rDriftSet (Λ : FuncId → Nat → Option LoopS) (d : Nat) (ns xs zs ws : List (List Int)) (h i : Int) (k : Out → St → Prop) : (round (envOf Try.prog ⟨Γe5, Λ, fun _ => none⟩ d) f_perigeelaw13_DriftBack 1 0 (lp Try.prog f_perigeelaw13_DriftBack 0) (SdB ns xs zs ws h i) k) = (∀ (t1 : Prop), t1 = ((0 : Int) ≤ i ∧ i < (↑zs.length : Int)) → ∀ (t2 : Prop), t2 = ((0 : Int) ≤ i ∧ i < (↑xs.length : Int)) → br (decide (i < (↑xs.length : Int))) (t1 ∧ t1 ∧ t2 ∧ t2 ∧ k Out.normal (St.mk (T (100 : Nat) [((3 : Nat), IV.ptr (1 : Nat) (0 : Nat)), ((5 : Nat), IV.sl (2 : Nat)), ((6 : Nat), IV.sl (3 : Nat)), ((8 : Nat), IV.sl (4 : Nat)), ((9 : Nat), IV.int IntKind.i64 (IntKind.i64.wrap (i + (1 : Int))))]) [some (Blk.ro [IntKind.u8] ns), some (Blk.var (28 : Nat) [IV.int IntKind.i64 (h / (18446744073709551616 : Int)), IV.int IntKind.u64 (h % (18446744073709551616 : Int))]), some (Blk.row (32 : Nat) ksB (xs.modify i.toNat fun x => List.map (fun j => if (4 : Nat) ≤ j ∧ j < (8 : Nat) then [rd zs i.toNat (0 : Nat), rd zs i.toNat (1 : Nat), rd zs i.toNat (2 : Nat), rd zs i.toNat (3 : Nat)].getD (j - (4 : Nat)) (0 : Int) else x.getD j (0 : Int)) (List.range (20 : Nat)))), some (Blk.row (30 : Nat) ksV zs), some (Blk.row (32 : Nat) ksB ws)])) (k (Out.exit (0 : Nat)) (St.mk (T (100 : Nat) [((3 : Nat), IV.ptr (1 : Nat) (0 : Nat)), ((5 : Nat), IV.sl (2 : Nat)), ((8 : Nat), IV.sl (3 : Nat))]) [some (Blk.ro [IntKind.u8] ns), some (Blk.var (28 : Nat) [IV.int IntKind.i64 (h / (18446744073709551616 : Int)), IV.int IntKind.u64 (h % (18446744073709551616 : Int))]), some (Blk.row (32 : Nat) ksB xs), some (Blk.row (32 : Nat) ksB ws)]))) := by refine nm ?_; refine nm ?_; kernel_rfl
def SdW (ns xs : List (List Int)) (v u h i : Int) : St := ⟨T 162 [(0, .sl 0), (1, .int .i16 v), (2, .int .i16 u), (3, .int .u8 h), (9, .sl 1), (10, .int .i64 i)], [some (.ro [.u8] ns), some (.row 32 ksB xs)]⟩
theorem rWholeMake (Λ : FuncId → Nat → Option LoopS) (d : Nat) (ns xs : List (List Int)) (v u h i : Int) (k : Out → St → Prop) : (round (envOf Try.prog ⟨Γe5, Λ, fun _ => none⟩ d) f_perigeelaw13_DriftWhole 1 0 (lp Try.prog f_perigeelaw13_DriftWhole 0) (SdW ns xs v u h i) k) = (∀ (t1 : Prop), t1 = ((0 : Int) ≤ i ∧ i < (↑ns.length : Int)) → ∀ (t2 : Int), t2 = mx IntKind.i64 i (-9223372036854775807 : Int) * (18446744073709551616 : Int) → ∀ (t3 : Int), t3 = IntKind.i64.wrap ((1 : Int) + IntKind.i64.wrap (rd ns i.toNat (0 : Nat))) → ∀ (t4 : Int), t4 = IntKind.i64.wrap (t3 * IntKind.i64.wrap v) → ∀ (t5 : Int), t5 = mx IntKind.i64 t3 (-9223372036854775807 : Int) * (18446744073709551616 : Int) → ∀ (t6 : Int), t6 = IntKind.i64.wrap (IntKind.i64.wrap ((0 : Int) - t3) * IntKind.i64.wrap u) → ∀ (t7 : Int), t7 = mx IntKind.i64 t4 (-9223372036854775807 : Int) * (18446744073709551616 : Int) → ∀ (t8 : Int), t8 = mx IntKind.i64 t6 (-9223372036854775807 : Int) * (18446744073709551616 : Int) → br (decide (i < (↑ns.length : Int))) (t1 ∧ t1 ∧ preI [IV.int IntKind.i64 t3] [] ∧ preI [IV.int IntKind.i64 i] [] ∧ preI [IV.int IntKind.i64 t4] [] ∧ preI [IV.int IntKind.i64 t6] [] ∧ (xs.length + (1 : Nat)) * (160 : Nat) ≤ (140737488355328 : Nat) ∧ k Out.normal (St.mk (T (162 : Nat) [((0 : Nat), IV.sl (0 : Nat)), ((1 : Nat), IV.int IntKind.i16 v), ((2 : Nat), IV.int IntKind.i16 u), ((3 : Nat), IV.int IntKind.u8 h), ((9 : Nat), IV.sl (1 : Nat)), ((10 : Nat), IV.int IntKind.i64 (IntKind.i64.wrap (i + (1 : Int))))]) [some (Blk.ro [IntKind.u8] ns), some (Blk.row (32 : Nat) ksB (xs ++ (List.replicate (1 : Nat) (List.replicate (20 : Nat) (0 : Int))).set (0 : Nat) [(0 : Int), (0 : Int), (0 : Int), (0 : Int), (0 : Int), (0 : Int), (0 : Int), (0 : Int), t8 % (18446744073709551616 : Int), t8 / (18446744073709551616 : Int), t7 % (18446744073709551616 : Int), t7 / (18446744073709551616 : Int), (0 : Int), (0 : Int), t2 % (18446744073709551616 : Int), t2 / (18446744073709551616 : Int), (0 : Int), (0 : Int), t5 % (18446744073709551616 : Int), t5 / (18446744073709551616 : Int)].reverse))])) (k (Out.exit (0 : Nat)) (St.mk (T (162 : Nat) [((1 : Nat), IV.int IntKind.i16 v), ((2 : Nat), IV.int IntKind.i16 u), ((3 : Nat), IV.int IntKind.u8 h), ((9 : Nat), IV.sl (1 : Nat))]) [some (Blk.ro [IntKind.u8] ns), some (Blk.row (32 : Nat) ksB xs)]))) := by refine nm ?_; refine nm ?_; refine nm ?_; refine nm ?_; refine nm ?_; refine nm ?_; refine nm ?_; refine nm ?_; kernel_rfl
def pDa (n0 : Nat) (st : St) (xs zs : List (List Int)) (x y e : Int) : Prop := goodBs xs ∧ xs.length ≤ 1000 ∧ i64ok e ∧ n0 = 1 ∧ st = SdA xs zs x y e 0
noncomputable def LDa : LoopS := fun n0 st K => ∃ xs zs x y e, pDa n0 st xs zs x y e ∧ K (.exit 0) ⟨T 117 [(5, .ptr 1 0), (7, .sl 2), (8, .int .i64 e), (9, .ptr 3 0)], [some (.ro ksB xs), some (.var 30 (vx x y).cells), some (.row 30 ksV zs), some (.var 58 [.sl 4, .int .i64 e]), some (.row 30 ksV zs)]⟩
noncomputable def NDa : Know := ⟨Γe5, fun f i => if f = f_perigeelaw13_DriftAll then (if i = 0 then some LDa else none) else none, fun _ => none⟩
theorem v_DriftAll (xs : List (List Int)) (h x y : Int) (K : IV → List Blk → Prop) : (comes Try.prog NDa 3 f_perigeelaw13_DriftAll [.sl 0, fx h, vx x y] [.ro ksB xs] K) = (∀ (j1 : Int), j1 = h → ∀ (j2 : Int), j2 = x → ∀ (j3 : Int), j3 = y → ∀ (t4 : Prop), t4 = pMove [IV.sl (0 : Nat), fx h] [Blk.ro ksB xs] → pMay13 [IV.sl (0 : Nat)] [Blk.ro ksB xs] ∧ br (!mayAll xs) (pNo13 [] [] ∧ K (IV.bool true) []) (preF [fx h] [] ∧ br (!decide ((-170141183460469231731687303715884105728 : Int) < j1)) (pNo13 [] [] ∧ K (IV.bool true) []) (vin1 [vx x y] [] ∧ br (!(decide ((-170141183460469231731687303715884105728 : Int) < j2) && decide ((-170141183460469231731687303715884105728 : Int) < j3))) (pNo13 [] [] ∧ K (IV.bool true) []) (t4 ∧ t4 ∧ ∃ xs_1 zs x_1 y_1 e, pDa (1 : Nat) (St.mk (T (117 : Nat) [((0 : Nat), IV.sl (0 : Nat)), ((5 : Nat), IV.ptr (1 : Nat) (0 : Nat)), ((7 : Nat), IV.sl (2 : Nat)), ((8 : Nat), IV.int IntKind.i64 (movE j1 xs)), ((9 : Nat), IV.ptr (3 : Nat) (0 : Nat)), ((10 : Nat), IV.int IntKind.i64 (0 : Int))]) [some (Blk.ro ksB xs), some (Blk.var (30 : Nat) [IV.int IntKind.i64 (x / (18446744073709551616 : Int)), IV.int IntKind.u64 (x % (18446744073709551616 : Int)), IV.int IntKind.i64 (y / (18446744073709551616 : Int)), IV.int IntKind.u64 (y % (18446744073709551616 : Int))]), some (Blk.row (30 : Nat) ksV (movL j1 xs)), some (Blk.var (58 : Nat) [IV.sl (4 : Nat), IV.int IntKind.i64 (movE j1 xs)]), some (Blk.row (30 : Nat) ksV (movL j1 xs))]) xs_1 zs x_1 y_1 e ∧ pSame [IV.sl (0 : Nat), IV.sl (1 : Nat)] [Blk.ro ksV zs, Blk.ro ksV zs] ∧ br (bp (zs = zs)) (preI [IV.int IntKind.i64 e] [] ∧ br (e == e) (vin1 [vx x_1 y_1] [] ∧ vin1 [vx x_1 y_1] [] ∧ br (wiB (1073741824 : Int) (x_1 / (18446744073709551616 : Int) * (18446744073709551616 : Int) + x_1 % (18446744073709551616 : Int)) (y_1 / (18446744073709551616 : Int) * (18446744073709551616 : Int) + y_1 % (18446744073709551616 : Int)) == wiB (1073741824 : Int) (x_1 / (18446744073709551616 : Int) * (18446744073709551616 : Int) + x_1 % (18446744073709551616 : Int)) (y_1 / (18446744073709551616 : Int) * (18446744073709551616 : Int) + y_1 % (18446744073709551616 : Int))) (pNo13 [] [] ∧ K (IV.bool true) []) (K (IV.bool false) [])) (K (IV.bool false) [])) (K (IV.bool false) []))))) := by refine nj ?_; refine nj ?_; refine nj ?_; refine nm ?_; kernel_rfl
/-- a body made faster -/
def fastR (f : Int) (r : List Int) : List Int := putR 8 9 [IntKind.i64.wrap (r.getD 8 0 * 2 ^ min (f.tmod 24).toNat 64)] r
def pDf (n0 : Nat) (st : St) (ns xs : List (List Int)) (f h : Int) : Prop := xs.length ≤ 1000 ∧ 0 ≤ f ∧ f ≤ 255 ∧ n0 = 1 ∧ st = SdM ns xs f h 0
noncomputable def LDf : LoopS := fun n0 st K => ∃ ns xs f h, pDf n0 st ns xs f h ∧ K (.exit 0) ⟨T 97 [(4, .ptr 1 0), (7, .sl 2)], [some (.ro [.u8] ns), some (.var 28 (fx h).cells), some (.row 32 ksB (xs.map (fastR f)))]⟩
def pDs (n0 : Nat) (st : St) (ns xs zs ws : List (List Int)) (h : Int) : Prop := xs.length ≤ 1000 ∧ zs.length = xs.length ∧ n0 = 1 ∧ st = SdB ns xs zs ws h 0
/-- all at the places of a list -/
def atR (zs : List (List Int)) (p : Nat) (r : List Int) : List Int := putR 4 8 [rd zs p 0, rd zs p 1, rd zs p 2, rd zs p 3] r
def atAll (xs zs : List (List Int)) : List (List Int) := xs.mapIdx (atR zs)
noncomputable def LDs : LoopS := fun n0 st K => ∃ ns xs zs ws h, pDs n0 st ns xs zs ws h ∧ K (.exit 0) ⟨T 100 [(3, .ptr 1 0), (5, .sl 2), (8, .sl 3)], [some (.ro [.u8] ns), some (.var 28 (fx h).cells), some (.row 32 ksB (atAll xs zs)), some (.row 32 ksB ws)]⟩
/-- bodies of whole speeds -/
def whoR (v u : Int) (p : Nat) (n : List Int) : List Int := [1 + n.getD 0 0, 0, 0, 0, (p : Int), 0, 0, 0, (1 + n.getD 0 0) * v, 0, -((1 + n.getD 0 0) * u), 0, 0, 0, 0, 0, 0, 0, 0, 0]
def whoAll (v u : Int) (ns : List (List Int)) : List (List Int) := ns.mapIdx (whoR v u)
def pDw (n0 : Nat) (st : St) (ns : List (List Int)) (v u h : Int) : Prop := okRows [.u8] ns ∧ ns.length ≤ 10 ∧ (-32768 ≤ v ∧ v ≤ 32767) ∧ (-32768 ≤ u ∧ u ≤ 32767) ∧ n0 = 1 ∧ st = SdW ns [] v u h 0
noncomputable def LDw : LoopS := fun n0 st K => ∃ ns v u h, pDw n0 st ns v u h ∧ K (.exit 0) ⟨T 162 [(1, .int .i16 v), (2, .int .i16 u), (3, .int .u8 h), (9, .sl 1)], [some (.ro [.u8] ns), some (.row 32 ksB (whoAll v u ns))]⟩
def SdN (ns xs zs : List (List Int)) (e i : Int) : St := ⟨T 97 [(7, .sl 1), (9, .sl 2), (10, .int .i64 e), (11, .ptr 3 0), (12, .int .i64 i)], [some (.ro [.u8] ns), some (.row 32 ksB xs), some (.row 30 ksV zs), some (.var 58 [.sl 4, .int .i64 e]), some (.row 30 ksV zs)]⟩
theorem rDriftMade (Λ : FuncId → Nat → Option LoopS) (d : Nat) (ns xs zs : List (List Int)) (e i : Int) (k : Out → St → Prop) : (round (envOf Try.prog ⟨Γe5, Λ, fun _ => none⟩ d) f_perigeelaw13_DriftMade 1 1 (lp Try.prog f_perigeelaw13_DriftMade 1) (SdN ns xs zs e i) k) = (∀ (t1 : Prop), t1 = ((0 : Int) ≤ i ∧ i < (↑xs.length : Int)) → ∀ (t2 : Prop), t2 = pB [IV.agg (rowCells ksB xs i.toNat (0 : Nat) (20 : Nat))] [] → ∀ (t3 : Int), t3 = spdE (rowA [IV.agg (rowCells ksB xs i.toNat (0 : Nat) (20 : Nat))] (0 : Nat)) → br (decide (i < (↑xs.length : Int))) (t1 ∧ t1 ∧ t2 ∧ t1 ∧ t1 ∧ t2 ∧ br (!slowB (rowA [IV.agg (rowCells ksB xs i.toNat (0 : Nat) (20 : Nat))] (0 : Nat)) == slowB (rowA [IV.agg (rowCells ksB xs i.toNat (0 : Nat) (20 : Nat))] (0 : Nat))) (k Out.ret (St.mk (T (97 : Nat) [((6 : Nat), IV.bool false)]) [some (Blk.ro [IntKind.u8] ns)])) (preI [IV.int IntKind.i64 t3] [] ∧ br (t3 != t3) (k Out.ret (St.mk (T (97 : Nat) [((6 : Nat), IV.bool false)]) [some (Blk.ro [IntKind.u8] ns)])) (k Out.normal (St.mk (T (97 : Nat) [((7 : Nat), IV.sl (1 : Nat)), ((9 : Nat), IV.sl (2 : Nat)), ((10 : Nat), IV.int IntKind.i64 e), ((11 : Nat), IV.ptr (3 : Nat) (0 : Nat)), ((12 : Nat), IV.int IntKind.i64 (IntKind.i64.wrap (i + (1 : Int))))]) [some (Blk.ro [IntKind.u8] ns), some (Blk.row (32 : Nat) ksB xs), some (Blk.row (30 : Nat) ksV zs), some (Blk.var (58 : Nat) [IV.sl (4 : Nat), IV.int IntKind.i64 e]), some (Blk.row (30 : Nat) ksV zs)])))) (k (Out.exit (2 : Nat)) (St.mk (T (97 : Nat) [((9 : Nat), IV.sl (1 : Nat)), ((10 : Nat), IV.int IntKind.i64 e), ((11 : Nat), IV.ptr (2 : Nat) (0 : Nat))]) [some (Blk.ro [IntKind.u8] ns), some (Blk.row (30 : Nat) ksV zs), some (Blk.var (58 : Nat) [IV.sl (3 : Nat), IV.int IntKind.i64 e]), some (Blk.row (30 : Nat) ksV zs)]))) := by refine nm ?_; refine nm ?_; refine nm ?_; kernel_rfl
def pDn (n0 : Nat) (st : St) (ns xs zs : List (List Int)) (e : Int) : Prop := goodBs xs ∧ xs.length ≤ 1000 ∧ i64ok e ∧ n0 = 1 ∧ st = SdN ns xs zs e 0
noncomputable def LDn : LoopS := fun n0 st K => ∃ ns xs zs e, pDn n0 st ns xs zs e ∧ K (.exit 2) ⟨T 97 [(9, .sl 1), (10, .int .i64 e), (11, .ptr 2 0)], [some (.ro [.u8] ns), some (.row 30 ksV zs), some (.var 58 [.sl 3, .int .i64 e]), some (.row 30 ksV zs)]⟩
noncomputable def NDm : Know := ⟨Γe5, fun f i => if f = f_perigeelaw13_DriftMade then (if i = 0 then some LDf else if i = 1 then some LDn else none) else none, fun _ => none⟩
theorem v_DriftMade (ns : List (List Int)) (h f : Int) (K : IV → List Blk → Prop) : (comes Try.prog NDm 3 f_perigeelaw13_DriftMade [.sl 0, fx h, .int .u8 f] [.ro [.u8] ns] K) = (∀ (j1 : Int), j1 = h → preF [fx h] [] ∧ br (!decide ((-170141183460469231731687303715884105728 : Int) < j1)) (pNo13 [] [] ∧ K (IV.bool true) []) (pBodies [IV.sl (0 : Nat), IV.int IntKind.i64 (12 : Int)] [Blk.ro [IntKind.u8] ns] ∧ ∃ ns_1 xs f_1 h_1, pDf (1 : Nat) (St.mk (T (97 : Nat) [((2 : Nat), IV.int IntKind.u8 f), ((4 : Nat), IV.ptr (1 : Nat) (0 : Nat)), ((7 : Nat), IV.sl (2 : Nat)), ((8 : Nat), IV.int IntKind.i64 (0 : Int))]) [some (Blk.ro [IntKind.u8] ns), some (Blk.var (28 : Nat) [IV.int IntKind.i64 (h / (18446744073709551616 : Int)), IV.int IntKind.u64 (h % (18446744073709551616 : Int))]), some (Blk.row (32 : Nat) ksB (bodiesF ns (howMany ns (12 : Int))))]) ns_1 xs f_1 h_1 ∧ pMove [IV.sl (0 : Nat), fx h_1] [Blk.ro ksB (List.map (fastR f_1) xs)] ∧ pMove [IV.sl (0 : Nat), fx h_1] [Blk.ro ksB (List.map (fastR f_1) xs)] ∧ ∃ ns xs_1 zs e, pDn (1 : Nat) (St.mk (T (97 : Nat) [((7 : Nat), IV.sl (1 : Nat)), ((9 : Nat), IV.sl (2 : Nat)), ((10 : Nat), IV.int IntKind.i64 (movE (h_1 / (18446744073709551616 : Int) * (18446744073709551616 : Int) + h_1 % (18446744073709551616 : Int)) (List.map (fastR f_1) xs))), ((11 : Nat), IV.ptr (3 : Nat) (0 : Nat)), ((12 : Nat), IV.int IntKind.i64 (0 : Int))]) [some (Blk.ro [IntKind.u8] ns_1), some (Blk.row (32 : Nat) ksB (List.map (fastR f_1) xs)), some (Blk.row (30 : Nat) ksV (movL (h_1 / (18446744073709551616 : Int) * (18446744073709551616 : Int) + h_1 % (18446744073709551616 : Int)) (List.map (fastR f_1) xs))), some (Blk.var (58 : Nat) [IV.sl (4 : Nat), IV.int IntKind.i64 (movE (h_1 / (18446744073709551616 : Int) * (18446744073709551616 : Int) + h_1 % (18446744073709551616 : Int)) (List.map (fastR f_1) xs))]), some (Blk.row (30 : Nat) ksV (movL (h_1 / (18446744073709551616 : Int) * (18446744073709551616 : Int) + h_1 % (18446744073709551616 : Int)) (List.map (fastR f_1) xs)))]) ns xs_1 zs e ∧ pSame [IV.sl (0 : Nat), IV.sl (1 : Nat)] [Blk.ro ksV zs, Blk.ro ksV zs] ∧ br (bp (zs = zs)) (preI [IV.int IntKind.i64 e] [] ∧ br (e == e) (pNo13 [] [] ∧ K (IV.bool true) []) (K (IV.bool false) [])) (K (IV.bool false) []))) := by refine nj ?_; kernel_rfl
def SdC (ns xs ws zs : List (List Int)) (i : Int) : St := ⟨T 100 [(5, .sl 1), (8, .sl 2), (10, .sl 3), (12, .int .i64 i)], [some (.ro [.u8] ns), some (.row 32 ksB xs), some (.row 32 ksB ws), some (.row 30 ksV zs)]⟩
theorem rDriftSee (Λ : FuncId → Nat → Option LoopS) (d : Nat) (ns xs ws zs : List (List Int)) (i : Int) (k : Out → St → Prop) : (round (envOf Try.prog ⟨Γe5, Λ, fun _ => none⟩ d) f_perigeelaw13_DriftBack 1 1 (lp Try.prog f_perigeelaw13_DriftBack 1) (SdC ns xs ws zs i) k) = (∀ (t1 : Int), t1 = rd zs i.toNat (0 : Nat) → ∀ (t2 : Int), t2 = rd ws i.toNat (4 : Nat) → ∀ (t3 : Int), t3 = rd zs i.toNat (1 : Nat) → ∀ (t4 : Int), t4 = rd ws i.toNat (5 : Nat) → ∀ (t5 : Int), t5 = rd zs i.toNat (2 : Nat) → ∀ (t6 : Int), t6 = rd ws i.toNat (6 : Nat) → ∀ (t7 : Int), t7 = rd zs i.toNat (3 : Nat) → ∀ (t8 : Int), t8 = rd ws i.toNat (7 : Nat) → ∀ (t9 : Prop), t9 = ((0 : Int) ≤ i ∧ i < (↑zs.length : Int)) → ∀ (t10 : Prop), t10 = ((0 : Int) ≤ i ∧ i < (↑ws.length : Int)) → br (decide (i < (↑xs.length : Int))) (t9 ∧ t9 ∧ t10 ∧ t10 ∧ br (!(decide (t1 = t2) && (decide (t3 = t4) && (decide (t5 = t6) && (decide (t7 = t8) && true))))) (k Out.ret (St.mk (T (100 : Nat) [((4 : Nat), IV.bool false)]) [some (Blk.ro [IntKind.u8] ns)])) (k Out.normal (St.mk (T (100 : Nat) [((5 : Nat), IV.sl (1 : Nat)), ((8 : Nat), IV.sl (2 : Nat)), ((10 : Nat), IV.sl (3 : Nat)), ((12 : Nat), IV.int IntKind.i64 (IntKind.i64.wrap (i + (1 : Int))))]) [some (Blk.ro [IntKind.u8] ns), some (Blk.row (32 : Nat) ksB xs), some (Blk.row (32 : Nat) ksB ws), some (Blk.row (30 : Nat) ksV zs)]))) (k (Out.exit (2 : Nat)) (St.mk (T (100 : Nat) []) [some (Blk.ro [IntKind.u8] ns)]))) := by refine nm ?_; refine nm ?_; refine nm ?_; refine nm ?_; refine nm ?_; refine nm ?_; refine nm ?_; refine nm ?_; refine nm ?_; refine nm ?_; kernel_rfl
def backP (ws zs : List (List Int)) (p : Nat) : Prop := rd zs p 0 = rd ws p 4 ∧ rd zs p 1 = rd ws p 5 ∧ rd zs p 2 = rd ws p 6 ∧ rd zs p 3 = rd ws p 7
def pDc (n0 : Nat) (st : St) (ns xs ws zs : List (List Int)) : Prop := xs.length ≤ 1000 ∧ ws.length = xs.length ∧ zs.length = xs.length ∧ (∀ p, p < xs.length → backP ws zs p) ∧ n0 = 1 ∧ st = SdC ns xs ws zs 0
noncomputable def LDc : LoopS := fun n0 st K => ∃ ns xs ws zs, pDc n0 st ns xs ws zs ∧ K (.exit 2) ⟨T 100 [], [some (.ro [.u8] ns)]⟩
noncomputable def NDb : Know := ⟨Γe5, fun f i => if f = f_perigeelaw13_DriftBack then (if i = 0 then some LDs else if i = 1 then some LDc else none) else none, fun _ => none⟩
theorem v_DriftBack (ns : List (List Int)) (h : Int) (K : IV → List Blk → Prop) : (comes Try.prog NDb 3 f_perigeelaw13_DriftBack [.sl 0, fx h] [.ro [.u8] ns] K) = (∀ (j1 : Int), j1 = h → ∀ (t2 : Int), t2 = movE j1 (bodiesF ns (howMany ns (12 : Int))) → ∀ (t3 : Int), t3 = (↑(movL j1 (bodiesF ns (howMany ns (12 : Int)))).length : Int) → ∀ (t4 : Prop), t4 = preI [IV.int IntKind.i64 t2] [] → preF [fx h] [] ∧ br (!decide ((-170141183460469231731687303715884105728 : Int) < j1)) (pNo13 [] [] ∧ K (IV.bool true) []) (pBodies [IV.sl (0 : Nat), IV.int IntKind.i64 (12 : Int)] [Blk.ro [IntKind.u8] ns] ∧ pMove [IV.sl (0 : Nat), fx h] [Blk.ro ksB (bodiesF ns (howMany ns (12 : Int)))] ∧ t4 ∧ br (t2 != (0 : Int)) (t4 ∧ br (t2 == (3 : Int)) (br (t3 == (0 : Int)) (pNo13 [] [] ∧ K (IV.bool true) []) (K (IV.bool false) [])) (t4 ∧ br (t2 == (5 : Int)) (br (t3 == (0 : Int)) (pNo13 [] [] ∧ K (IV.bool true) []) (K (IV.bool false) [])) (K (IV.bool false) []))) (br (t3 != (↑(bodiesF ns (howMany ns (12 : Int))).length : Int)) (K (IV.bool false) []) (((0 : Nat) + (bodiesF ns (howMany ns (12 : Int))).length) * (160 : Nat) ≤ (140737488355328 : Nat) ∧ ∃ ns_1 xs zs ws h_1, pDs (1 : Nat) (St.mk (T (100 : Nat) [((3 : Nat), IV.ptr (1 : Nat) (0 : Nat)), ((5 : Nat), IV.sl (2 : Nat)), ((6 : Nat), IV.sl (3 : Nat)), ((8 : Nat), IV.sl (4 : Nat)), ((9 : Nat), IV.int IntKind.i64 (0 : Int))]) [some (Blk.ro [IntKind.u8] ns), some (Blk.var (28 : Nat) [IV.int IntKind.i64 (h / (18446744073709551616 : Int)), IV.int IntKind.u64 (h % (18446744073709551616 : Int))]), some (Blk.row (32 : Nat) ksB (bodiesF ns (howMany ns (12 : Int)))), some (Blk.row (30 : Nat) ksV (movL j1 (bodiesF ns (howMany ns (12 : Int))))), some (Blk.row (32 : Nat) ksB (List.replicate (0 : Nat) (List.replicate (20 : Nat) (0 : Int)) ++ bodiesF ns (howMany ns (12 : Int))))]) ns_1 xs zs ws h_1 ∧ may1 [fx h_1] [] ∧ pMove [IV.sl (0 : Nat), fx (-(h_1 / (18446744073709551616 : Int) * (18446744073709551616 : Int) + h_1 % (18446744073709551616 : Int)))] [Blk.ro ksB (atAll xs zs)] ∧ preI [IV.int IntKind.i64 (movE (-(h_1 / (18446744073709551616 : Int) * (18446744073709551616 : Int) + h_1 % (18446744073709551616 : Int)) / (18446744073709551616 : Int) * (18446744073709551616 : Int) + -(h_1 / (18446744073709551616 : Int) * (18446744073709551616 : Int) + h_1 % (18446744073709551616 : Int)) % (18446744073709551616 : Int)) (atAll xs zs))] [] ∧ br (movE (-(h_1 / (18446744073709551616 : Int) * (18446744073709551616 : Int) + h_1 % (18446744073709551616 : Int)) / (18446744073709551616 : Int) * (18446744073709551616 : Int) + -(h_1 / (18446744073709551616 : Int) * (18446744073709551616 : Int) + h_1 % (18446744073709551616 : Int)) % (18446744073709551616 : Int)) (atAll xs zs) != (0 : Int)) (K (IV.bool false) []) (br ((↑(movL (-(h_1 / (18446744073709551616 : Int) * (18446744073709551616 : Int) + h_1 % (18446744073709551616 : Int)) / (18446744073709551616 : Int) * (18446744073709551616 : Int) + -(h_1 / (18446744073709551616 : Int) * (18446744073709551616 : Int) + h_1 % (18446744073709551616 : Int)) % (18446744073709551616 : Int)) (atAll xs zs)).length : Int) != (↑(atAll xs zs).length : Int)) (K (IV.bool false) []) (∃ ns xs_1 ws_1 zs_1, pDc (1 : Nat) (St.mk (T (100 : Nat) [((5 : Nat), IV.sl (1 : Nat)), ((8 : Nat), IV.sl (2 : Nat)), ((10 : Nat), IV.sl (3 : Nat)), ((12 : Nat), IV.int IntKind.i64 (0 : Int))]) [some (Blk.ro [IntKind.u8] ns_1), some (Blk.row (32 : Nat) ksB (atAll xs zs)), some (Blk.row (32 : Nat) ksB ws), some (Blk.row (30 : Nat) ksV (movL (-(h_1 / (18446744073709551616 : Int) * (18446744073709551616 : Int) + h_1 % (18446744073709551616 : Int)) / (18446744073709551616 : Int) * (18446744073709551616 : Int) + -(h_1 / (18446744073709551616 : Int) * (18446744073709551616 : Int) + h_1 % (18446744073709551616 : Int)) % (18446744073709551616 : Int)) (atAll xs zs)))]) ns xs_1 ws_1 zs_1 ∧ pNo13 [] [] ∧ K (IV.bool true) [])))))) := by refine nj ?_; refine nm ?_; refine nm ?_; refine nm ?_; kernel_rfl
end Go.Vs.RF


set_option linter.unusedVariables false
set_option linter.unusedSimpArgs false
set_option maxRecDepth 100000
/- the laws of drift: edges; may all be? -/
namespace Go.Vs.RF
open Go Go.Proofs Go.Vs Go.IntWalk

theorem ctrse3b : ∀ {g : FuncId} {sp : Vs.Spec}, Γe3 g = some sp → Contract Try.prog g sp := ext_ok c_MayBody (ext_ok c_Move (ext_ok c_RMove (ext_ok c_SameVecs (ext_ok c_Body (ext_ok c_Bodies ctrse2)))))
theorem c_awake13 : Contract Try.prog f_perigeelaw13_awake spAwk13 := by
  refine contract_of (N := Ne3) 3 (knowOf (fun g sp h => ctrse3b h) (fun _ _ => rfl) (fun _ => rfl) 3) ?_
  rintro l bs _ _ ⟨rfl, rfl⟩
  show comes _ _ _ _ _ _ _
  rw [v_awake13]
  have pi : ∀ {n : Int}, 0 ≤ n → n ≤ 100 → preI [.int .i64 n] [] := fun h1 h2 => preI_of ⟨by omega, by omega⟩
  have U : ∀ {n : Int}, 0 ≤ n → n ≤ 100 → inK .u64 n := fun h1 h2 => ⟨h1, by show _ ≤ (18446744073709551615 : Int); omega⟩
  have I : ∀ {n : Int}, 0 ≤ n → n ≤ 100 → inK .i64 n := fun h1 h2 => ⟨by show (-9223372036854775808 : Int) ≤ _; omega, by show _ ≤ (9223372036854775807 : Int); omega⟩
  rintro t1 e1 t2 e2
  have p1 : t1 := by rw [e1]; decide
  have p2 : t2 := by
    rw [e2]
    refine ⟨pi (by decide) (by decide), ⟨_, 92233720368547758080, rfl, rfl, ?_, ⟨by decide, by decide⟩, by decide⟩, pi (by decide) (by decide), p1, p1, pi (by decide) (by decide), rfl⟩
    intro r hr
    rw [List.mem_singleton.1 hr]
    refine ⟨rfl, ?_, ⟨by decide, by decide⟩, ⟨by decide, by decide⟩, ⟨by decide, by decide⟩, ⟨by decide, by decide⟩, by decide, by decide⟩
    intro j hj
    rcases j with _|_|_|_|_|_|_|_|_|_|_|_|_|_|_|_|_|_|_|_|j
    all_goals first
      | exact I (by decide) (by decide)
      | exact U (by decide) (by decide)
      | omega
  exact ⟨pi (by decide) (by decide), pi (by decide) (by decide), p2, p2⟩
theorem ctrse4 : ∀ {g : FuncId} {sp : Vs.Spec}, Γe4 g = some sp → Contract Try.prog g sp := ext_ok c_awake13 ctrse3b

/-! may all be? -/
theorem all_succ {xs : List (List Int)} {n : Nat} (h : n < xs.length) : allB (n + 1) xs = (allB n xs && mayBB xs[n]) := by
  unfold allB
  rw [List.take_add_one, List.getElem?_eq_getElem h, Option.toList_some, List.all_append]
  simp
theorem all_stop {xs : List (List Int)} {n m : Nat} (h : n ≤ m) (hb : allB n xs = false) : allB m xs = false := by
  unfold allB at *
  cases hm : (xs.take m).all mayBB with
  | false => rfl
  | true =>
    rw [List.all_eq_true] at hm
    have : (xs.take n).all mayBB = true := by
      rw [List.all_eq_true]
      intro x hx
      refine hm x ?_
      have e : xs.take n = (xs.take m).take n := by rw [List.take_take, Nat.min_eq_left h]
      rw [e] at hx
      exact List.mem_of_mem_take hx
    rw [this] at hb; cases hb
theorem all_over {xs : List (List Int)} {n m : Nat} (h : n ≤ m) (hl : xs.length ≤ n) : allB m xs = allB n xs := by
  unfold allB; rw [List.take_of_length_le hl, List.take_of_length_le (by omega)]
theorem lMay13 (d n0 : Nat) : LoopOk (envOf Try.prog NMy d) f_perigeelaw13_may n0 0 (lp Try.prog f_perigeelaw13_may 0) LMy := by
  intro st K hst
  obtain ⟨xs, ⟨hr, hl20, hl, rfl, rfl⟩, hK⟩ := hst
  have hl' : xs.length ≤ 9223372036854775807 := hl
  rw [br_bool] at hK
  refine loop_of (fun i : Nat => Smy xs i) (fun i => i ≤ 33 ∧ i ≤ xs.length ∧ allB i xs = true) (fun i => xs.length - i) ?_ (a := 0) ⟨by omega, Nat.zero_le _, rfl⟩
  rintro i ⟨h33, hle, hall⟩ k hn hk
  show round (envOf Try.prog ⟨Γe3, _, fun _ => none⟩ d) _ _ _ _ _ k
  rw [rMay13]
  rw [show ((i : Nat) : Int).toNat = i by omega]
  rintro t1 e1 t2 e2
  have stop : (33 ≤ i ∨ xs.length ≤ i) → t2 := by
    intro h
    rw [e2]
    refine hk _ _ (by simp) (hK.1 ?_)
    rcases h with h | h
    · rw [show (33 : Nat) = i by omega]; exact hall
    · rw [all_over (n := i) (by omega) h]; exact hall
  rw [br_dec]
  refine ⟨fun hi => ?_, fun hi => stop (.inr (by omega))⟩
  rw [br_dec]
  refine ⟨fun hi2 => ?_, fun hi2 => stop (.inl (by omega))⟩
  have hi' : i < xs.length := by omega
  have p1 : t1 := by rw [e1]; omega
  have hlr := hl20 _ (List.getElem_mem hi')
  have hrow : rowB xs[i] := hr _ (List.getElem_mem hi')
  have hra : rowA [IV.agg (rowCells ksB xs i 0 20)] 0 = xs[i] := rowA_body _ 0 _ hlr (by rw [bodyR_row, get_row hi']; rfl)
  rw [hra]
  refine ⟨p1, p1, ⟨xs[i], by rw [bodyR_row, get_row hi'], rfl, hlr, hrow⟩, ?_⟩
  rw [br_bool, Bool.not_eq_true', Bool.not_eq_false']
  constructor
  · intro hb
    refine hk _ _ (by simp) (hK.2 (all_stop (n := i + 1) (by omega) ?_))
    rw [all_succ hi', hb, Bool.and_false]
  · intro hb
    rw [show IntKind.i64.wrap ((i : Int) + 1) = ((i + 1 : Nat) : Int) by rw [i64_in _ (by omega)]; rfl]
    exact hn (i + 1) ⟨by omega, hi', by rw [all_succ hi', hall, hb]; rfl⟩ (by omega)
theorem c_may13 : Contract Try.prog f_perigeelaw13_may spMay13 := by
  refine contract_of (N := NMy) 3 (know_loop (f0 := f_perigeelaw13_may) (L := LMy) (fun g sp h => ctrse3b h) rfl (fun g G h => noT h) lMay13 3) ?_
  rintro l bs _ hB ⟨xs, rfl, rfl, hl⟩
  have hb : okRows ksB xs ∧ 0 < ksB.length ∧ xs.length ≤ maxLen := hB (.ro ksB xs) (List.mem_singleton.2 rfl)
  show comes _ _ _ _ _ _ fun v bs' => (IV.bool (mayAll xs), ([] : List Blk)) = (v, bs')
  rw [v_may13]
  refine ⟨xs, ⟨hb.1, hl, hb.2.2, rfl, rfl⟩, ?_⟩
  unfold mayAll
  rw [br_bool]
  exact ⟨fun h => by rw [h, Bool.true_and], fun h => by rw [h, Bool.false_and]⟩
theorem ctrse5 : ∀ {g : FuncId} {sp : Vs.Spec}, Γe5 g = some sp → Contract Try.prog g sp := ext_ok c_may13 ctrse4
theorem mayAll_good {xs : List (List Int)} (hr : okRows ksB xs) (hl : ∀ r ∈ xs, r.length = 20) (h : mayAll xs = true) : goodBs xs ∧ xs.length ≤ 32 := by
  unfold mayAll allB at h
  rw [Bool.and_eq_true, decide_eq_true_iff] at h
  have h32 : xs.length ≤ 32 := by omega
  rw [List.take_of_length_le (by omega), List.all_eq_true] at h
  exact ⟨fun r hr' => mayBB_good (hl r hr') (hr r hr') (h.1 r hr'), h32⟩

/-! edges -/
def pEdges (l : List IV) (bs : List Blk) : Prop := ∃ n m s, l = [.int .i32 n, .int .u8 m, .int .u8 s] ∧ bs = [] ∧ (-2147483648 ≤ n ∧ n ≤ 2147483647) ∧ (0 ≤ m ∧ m ≤ 255) ∧ 0 ≤ s ∧ s ≤ 255
noncomputable def spEdges : Vs.Spec := ⟨pEdges, fun _ _ => (.bool true, [])⟩
theorem unit_speed {r : List Int} {y : Int} (h0 : fr r 0 = 18446744073709551616) (h8 : fr r 8 = 0) (h10 : fr r 10 = y) (hy : mayF y) : spdE r = 0 ∧ slowB r = wiB 65536 0 y := by
  have d8 : divE 0 18446744073709551616 = 0 ∧ divN 0 18446744073709551616 = 0 := by
    unfold divE divN; rw [quo_one]; exact ⟨by decide, by decide⟩
  have d10 : divE y 18446744073709551616 = 0 ∧ divN y 18446744073709551616 = y := by
    unfold divE divN; rw [quo_one]; exact ⟨by rw [if_neg (by decide), err_may hy], by rw [if_neg (by decide), num_may hy]⟩
  have hE : spdE r = 0 := by unfold spdE ovE; rw [h0, h8, h10, d8.1, d10.1]; rfl
  refine ⟨hE, ?_⟩
  unfold slowB
  rw [hE]
  have hX : spdX r = 0 := by unfold spdX ovX; rw [show ovE (fr r 8) (fr r 10) (fr r 0) = 0 from hE, if_pos rfl, h8, h0, d8.2]
  have hY : spdY r = y := by unfold spdY ovY; rw [show ovE (fr r 8) (fr r 10) (fr r 0) = 0 from hE, if_pos rfl, h10, h0, d10.2]
  rw [hX, hY]; rfl
theorem c_DriftEdges : Contract Try.prog f_perigeelaw13_DriftEdges spEdges := by
  refine contract_of (N := Ne4) 3 (knowOf (fun g sp h => ctrse4 h) (fun _ _ => rfl) (fun _ => rfl) 3) ?_
  rintro l bs _ _ ⟨n, m, s, rfl, rfl, hn, hm, hs⟩
  show comes _ _ _ _ _ _ _
  rw [v_DriftEdges]
  have hb : m.tmod 2 = m % 2 := tmod_pos hm.1
  rw [hb, tmod_pos hs.1, u64_in (m % 2) (by omega), i64_in n (by omega), mx_of (by omega)]
  have hb2 : 0 ≤ m % 2 ∧ m % 2 ≤ 1 := by omega
  generalize m % 2 = b at *
  rintro t1 e1 j2 rfl t3 e3 j4 rfl t5 e5 t6 e6 t7 e7 t8 e8 t9 e9 t10 e10 t11 e11 t12 e12 t13 e13 t14 e14 t15 e15 t16 e16 t17 e17 t18 e18 t19 e19
  have wi : ∀ {x : Int}, -(1073741824 * 18446744073709551616) - 1 ≤ x → x ≤ 1073741824 * 18446744073709551616 + 1 → inF x := fun h1 h2 => ⟨by omega, by omega⟩
  have z0 : inF 0 := ⟨by decide, by decide⟩
  have p5 : t5 := by rw [e5]; exact preI_of ⟨by omega, by omega⟩
  have p6 : t6 := by rw [e6]; exact preI_of ⟨by decide, by decide⟩
  have ub : u64ok b := ⟨by omega, by omega⟩
  have vp : ∀ (a c : Int), [IV.agg [.int .i64 a, .int .u64 b, .int .i64 c, .int .u64 0]] = [vx (a * 18446744073709551616 + b) (c * 18446744073709551616 + 0)] := fun a c => vx_cells ub ⟨by decide, by decide⟩
  have vq : ∀ (a c : Int), [IV.agg [.int .i64 a, .int .u64 0, .int .i64 c, .int .u64 b]] = [vx (a * 18446744073709551616 + 0) (c * 18446744073709551616 + b)] := fun a c => vx_cells ⟨by decide, by decide⟩ ub
  have p9 : t9 := by rw [e9, vp]; exact vin1_of (wi (by omega) (by omega)) z0
  have p10 : t10 := by rw [e10, vq]; exact vin1_of z0 (wi (by omega) (by omega))
  have p11 : t11 := by rw [e11]; exact vin1_of (y := 0) (wi (by omega) (by omega)) z0
  have p12 : t12 := by rw [e12]; exact vin1_of (x := 0) z0 (wi (by omega) (by omega))
  have p13 : t13 := by rw [e13]; exact vin1_of (y := 0) (by rw [e3]; exact inF_whole ⟨by omega, by omega⟩) z0
  have U : ∀ {n : Int}, 0 ≤ n → n < 18446744073709551616 → inK .u64 n := fun h1 h2 => ⟨h1, by show _ ≤ (18446744073709551615 : Int); omega⟩
  have I : ∀ {n : Int}, -100000000 ≤ n → n ≤ 100000000 → inK .i64 n := fun h1 h2 => ⟨by show (-9223372036854775808 : Int) ≤ _; omega, by show _ ≤ (9223372036854775807 : Int); omega⟩
  have mk : ∀ (p q y : Int), y = p * 18446744073709551616 + q → 0 ≤ q → q < 18446744073709551616 → -70000 ≤ p → p ≤ 70000 →
      pB [IV.agg [.int .i64 1, .int .u64 0, .int .i64 0, .int .u64 0, .int .i64 0, .int .u64 0, .int .i64 0, .int .u64 0, .int .i64 0, .int .u64 0, .int .i64 p, .int .u64 q, .int .i64 0, .int .u64 0, .int .i64 0, .int .u64 0, .int .i64 0, .int .u64 0, .int .i64 0, .int .i64 0]] [] ∧
      spdE (rowA [IV.agg [.int .i64 1, .int .u64 0, .int .i64 0, .int .u64 0, .int .i64 0, .int .u64 0, .int .i64 0, .int .u64 0, .int .i64 0, .int .u64 0, .int .i64 p, .int .u64 q, .int .i64 0, .int .u64 0, .int .i64 0, .int .u64 0, .int .i64 0, .int .u64 0, .int .i64 0, .int .i64 0]] 0) = 0 ∧
      slowB (rowA [IV.agg [.int .i64 1, .int .u64 0, .int .i64 0, .int .u64 0, .int .i64 0, .int .u64 0, .int .i64 0, .int .u64 0, .int .i64 0, .int .u64 0, .int .i64 p, .int .u64 q, .int .i64 0, .int .u64 0, .int .i64 0, .int .u64 0, .int .i64 0, .int .u64 0, .int .i64 0, .int .i64 0]] 0) = wiB 65536 0 y := by
    intro p q y hy h1 h2 h3 h4
    have er : rowA [IV.agg [.int .i64 1, .int .u64 0, .int .i64 0, .int .u64 0, .int .i64 0, .int .u64 0, .int .i64 0, .int .u64 0, .int .i64 0, .int .u64 0, .int .i64 p, .int .u64 q, .int .i64 0, .int .u64 0, .int .i64 0, .int .u64 0, .int .i64 0, .int .u64 0, .int .i64 0, .int .i64 0]] 0 = [1, 0, 0, 0, 0, 0, 0, 0, 0, 0, p, q, 0, 0, 0, 0, 0, 0, 0, 0] := rfl
    have my : mayF y := ⟨by omega, by omega⟩
    have m1 : mayF 18446744073709551616 := ⟨by decide, by decide⟩
    rw [er]
    refine ⟨⟨[1, 0, 0, 0, 0, 0, 0, 0, 0, 0, p, q, 0, 0, 0, 0, 0, 0, 0, 0], rfl, rfl, rfl, ?_, m1, may_zero, may_zero, may_zero, ?_⟩, unit_speed (y := y) rfl rfl hy.symm my⟩
    · intro j hj
      rcases j with _|_|_|_|_|_|_|_|_|_|_|_|_|_|_|_|_|_|_|_|j
      · exact I (n := 1) (by decide) (by decide)
      · exact U (n := 0) (by decide) (by decide)
      · exact I (n := 0) (by decide) (by decide)
      · exact U (n := 0) (by decide) (by decide)
      · exact I (n := 0) (by decide) (by decide)
      · exact U (n := 0) (by decide) (by decide)
      · exact I (n := 0) (by decide) (by decide)
      · exact U (n := 0) (by decide) (by decide)
      · exact I (n := 0) (by decide) (by decide)
      · exact U (n := 0) (by decide) (by decide)
      · exact I (n := p) (by omega) (by omega)
      · exact U (n := q) (by omega) (by omega)
      · exact I (n := 0) (by decide) (by decide)
      · exact U (n := 0) (by decide) (by decide)
      · exact I (n := 0) (by decide) (by decide)
      · exact U (n := 0) (by decide) (by decide)
      · exact I (n := 0) (by decide) (by decide)
      · exact U (n := 0) (by decide) (by decide)
      · exact I (n := 0) (by decide) (by decide)
      · exact I (n := 0) (by decide) (by decide)
      · omega
    · show mayF (p * 18446744073709551616 + q)
      rw [← hy]; exact my
  obtain ⟨a1, a2, a3⟩ := mk 65536 b (1208925819614629174706176 + b) (by omega) (by omega) (by omega) (by decide) (by decide)
  obtain ⟨c1, c2, c3⟩ := mk (t8 / 18446744073709551616) (t8 % 18446744073709551616) t8 (by omega) (by omega) (by omega) (by omega) (by omega)
  rw [a2] at e15
  rw [c2] at e17
  have p14 : t14 := by rw [e14]; exact a1
  have p16 : t16 := by rw [e16]; exact c1
  have wib : ∀ {m x y : Int} {q : Prop} [Decidable q], ((-(m * 18446744073709551616) ≤ x ∧ x ≤ m * 18446744073709551616) ∧ -(m * 18446744073709551616) ≤ y ∧ y ≤ m * 18446744073709551616 ↔ q) → wiB m x y = decide q := by
    intro m x y q _ h
    unfold wiB inB
    rw [← Bool.decide_and, decide_eq_decide]; exact h
  have beqd : (b == 0) = decide (b = 0) := by by_cases h : b = 0 <;> simp [h]
  have ok15 : preI [.int .i64 t15] [] := by rw [e15]; exact preI_of ⟨by decide, by decide⟩
  have ok17 : preI [.int .i64 t17] [] := by rw [e17]; exact preI_of ⟨by decide, by decide⟩
  have p18 : t18 := by
    rw [e18, a3, wib (q := b = 0) (by omega), beqd, beq_self_eq_true]
    exact ⟨by decide, ok15, by rw [e15]; exact ⟨⟨rfl, rfl⟩, rfl⟩⟩
  have p19 : t19 := by
    rw [e19, c3, wib (q := b = 0) (by omega), beqd, beq_self_eq_true]
    exact ⟨by decide, ok17, by rw [e17]; exact ⟨⟨rfl, rfl⟩, rfl⟩⟩
  have one : mayF 0 := may_zero
  have agg1 : IV.agg [.int .i64 1073741824, .int .u64 b] = fx (1073741824 * 18446744073709551616 + b) := (fx_mk2 ub rfl).symm
  have agg2 : IV.agg [.int .i64 65536, .int .u64 b] = fx (65536 * 18446744073709551616 + b) := (fx_mk2 ub rfl).symm
  rw [beqd]
  refine ⟨by decide, by decide, by decide, ?_⟩
  rw [br_beq]
  refine ⟨fun _ => ⟨by rw [agg1]; exact may1_of ⟨by omega, by omega⟩, by rw [agg2]; exact may1_of ⟨by omega, by omega⟩, ?_⟩, fun _ => ?_⟩
  · rw [br_dec]
    refine ⟨fun hge => ⟨p6, p16, p11, by decide, ?_⟩, fun hge => ⟨p6, p16, p11, by decide, ?_⟩⟩
    · rw [wib (q := b = 0) (by omega), beq_self_eq_true]
      refine ⟨p12, by decide, ?_⟩
      rw [wib (q := b = 0) (by omega), beq_self_eq_true]
      refine ⟨p5, p13, ?_⟩
      rw [wib (q := n ≤ 1073741824) (by omega), beq_self_eq_true]
      exact p19
    · rw [wib (q := b = 0) (by omega), beq_self_eq_true]
      refine ⟨p12, by decide, ?_⟩
      rw [wib (q := b = 0) (by omega), beq_self_eq_true]
      refine ⟨p5, p13, ?_⟩
      rw [show wiB 1073741824 j4 0 = false by unfold wiB inB; rw [decide_eq_false (by omega)]; rfl]
      exact p19
  · rw [br_dec]
    refine ⟨fun hge => ⟨p6, p14, p9, by decide, ?_⟩, fun hge => ⟨p6, p14, p9, by decide, ?_⟩⟩
    · rw [wib (q := b = 0) (by omega), beq_self_eq_true]
      refine ⟨p10, by decide, ?_⟩
      rw [wib (q := b = 0) (by omega), beq_self_eq_true]
      refine ⟨p5, p13, ?_⟩
      rw [wib (q := n ≤ 1073741824) (by omega), beq_self_eq_true]
      exact p18
    · rw [wib (q := b = 0) (by omega), beq_self_eq_true]
      refine ⟨p10, by decide, ?_⟩
      rw [wib (q := b = 0) (by omega), beq_self_eq_true]
      refine ⟨p5, p13, ?_⟩
      rw [show wiB 1073741824 j4 0 = false by unfold wiB inB; rw [decide_eq_false (by omega)]; rfl]
      exact p18
end Go.Vs.RF

set_option linter.unusedVariables false
set_option linter.unusedSimpArgs false
set_option maxRecDepth 100000
/- the laws of drift: all, by numbers, and back -/
namespace Go.Vs.RF
open Go Go.Proofs Go.Vs Go.IntWalk

theorem spd_i64 (r : List Int) : i64ok (spdE r) := by
  unfold spdE ovE
  have h1 := divE_is (fr r 8) (fr r 0)
  have h2 := divE_is (fr r 10) (fr r 0)
  split <;> assumption
theorem onE_is (x p m h : Int) : i64ok (onE x p m h) := by
  unfold onE
  split
  · exact err_is _
  · split
    · exact divE_is _ _
    · exact err_is _
theorem mvE_is (r : List Int) (h : Int) : i64ok (mvE r h) := by
  unfold mvE
  split
  · exact onE_is _ _ _ _
  · split
    · exact onE_is _ _ _ _
    · split <;> exact ⟨by decide, by decide⟩
theorem movE_is (h : Int) : ∀ xs, i64ok (movE h xs)
  | [] => by unfold movE; exact ⟨by decide, by decide⟩
  | r :: l => by
    unfold movE
    split
    · exact mvE_is r h
    · exact movE_is h l
theorem movL_len4 (h : Int) (xs : List (List Int)) : ∀ z ∈ movL h xs, z.length = 4 := by
  intro z hz
  unfold movL at hz
  split at hz
  · unfold movL0 at hz
    rw [List.mem_map] at hz
    obtain ⟨r, _, rfl⟩ := hz
    rfl
  · cases hz
theorem movL_le (h : Int) (xs : List (List Int)) : (movL h xs).length ≤ xs.length := by
  unfold movL
  split
  · rw [movL0_len]; omega
  · simp
theorem row_at {xs : List (List Int)} {i : Nat} (hi : i < xs.length) (hl : xs[i].length = 20) : rowA [IV.agg (rowCells ksB xs i 0 20)] 0 = xs[i] := rowA_body _ 0 _ hl (by rw [bodyR_row, get_row hi]; rfl)
theorem pB_at {xs : List (List Int)} {i : Nat} (hi : i < xs.length) (hg : goodBs xs) : pB [IV.agg (rowCells ksB xs i 0 20)] [] := by rw [bodyR_row, get_row hi]; exact pB_of (good_row hg hi)
theorem lDa (d n0 : Nat) : LoopOk (envOf Try.prog NDa d) f_perigeelaw13_DriftAll n0 0 (lp Try.prog f_perigeelaw13_DriftAll 0) LDa := by
  intro st K hst
  obtain ⟨xs, zs, x, y, e, ⟨hg, hl, he, rfl, rfl⟩, hK⟩ := hst
  refine loop_of (fun i : Nat => SdA xs zs x y e i) (fun i => i ≤ xs.length) (fun i => xs.length - i) ?_ (a := 0) (Nat.zero_le _)
  intro i hle k hn hk
  show round (envOf Try.prog ⟨Γe5, _, fun _ => none⟩ d) _ _ _ _ _ k
  rw [rDriftAll]
  rw [show ((i : Nat) : Int).toNat = i by omega]
  rintro t1 e1 t2 e2 t3 e3 t4 e4 t5 e5 t6 e6 b7 e7 d8 e8
  rw [br_dec]
  constructor
  · intro hi
    have hi' : i < xs.length := by omega
    have p1 : t1 := by rw [e1]; omega
    have p2 : t2 := by rw [e2]; exact pB_at hi' hg
    have p6 : t6 := by rw [e6, e5]; exact preI_of (spd_i64 _)
    have q9 : d8 = true := by rw [e8, e7]; simp
    refine ⟨p1, p1, p2, p1, p1, p2, p1, p1, p2, p1, p1, p2, br_no (by rw [q9]; rfl) ⟨p6, br_no (by simp) (br_no (by simp) ⟨p6, br_no (by simp) ?_⟩)⟩⟩
    rw [show IntKind.i64.wrap ((i : Int) + 1) = ((i + 1 : Nat) : Int) by rw [i64_in _ (by omega)]; rfl]
    exact hn (i + 1) hi' (by omega)
  · intro hi
    exact hk _ _ (by simp) hK
def pDriftAll (l : List IV) (bs : List Blk) : Prop := ∃ xs h x y, l = [.sl 0, fx h, vx x y] ∧ bs = [.ro ksB xs] ∧ (∀ r ∈ xs, r.length = 20) ∧ inF h ∧ inF x ∧ inF y
noncomputable def spDriftAll : Vs.Spec := ⟨pDriftAll, fun _ _ => (.bool true, [])⟩
theorem c_DriftAll : Contract Try.prog f_perigeelaw13_DriftAll spDriftAll := by
  refine contract_of (N := NDa) 3 (know_loop (f0 := f_perigeelaw13_DriftAll) (L := LDa) (fun g sp h => ctrse5 h) rfl (fun g G h => noT h) lDa 3) ?_
  rintro l bs _ hB ⟨xs, h, x, y, rfl, rfl, hl, hh, hx, hy⟩
  have hb : okRows ksB xs ∧ 0 < ksB.length ∧ xs.length ≤ maxLen := hB (.ro ksB xs) (List.mem_singleton.2 rfl)
  show comes _ _ _ _ _ _ _
  rw [v_DriftAll]
  rintro j1 rfl j2 rfl j3 rfl t4 e4
  refine ⟨⟨xs, rfl, rfl, hl⟩, ?_⟩
  rw [br_bool, Bool.not_eq_true', Bool.not_eq_false']
  refine ⟨fun _ => ⟨⟨rfl, rfl⟩, rfl⟩, fun hm => ⟨preF_in hh, br_guard ⟨⟨rfl, rfl⟩, rfl⟩ (fun hh' => ⟨vin1_of hx hy, br_guard2 ⟨⟨rfl, rfl⟩, rfl⟩ (fun hx' hy' => ?_)⟩)⟩⟩
  obtain ⟨hg, h32⟩ := mayAll_good hb.1 hl hm
  have p4 : t4 := by rw [e4]; exact ⟨xs, j1, rfl, rfl, hg, mayF_of hh hh', by omega⟩
  refine ⟨p4, p4, xs, movL j1 xs, j2, j3, movE j1 xs, ⟨hg, by omega, movE_is _ _, rfl, rfl⟩, ⟨movL j1 xs, movL j1 xs, rfl, rfl, by have := movL_le j1 xs; omega, movL_len4 j1 xs, movL_len4 j1 xs⟩, ?_⟩
  rw [bp_true rfl]
  refine ⟨preI_of (movE_is _ _), br_is (by simp) ⟨vin1_of hx hy, vin1_of hx hy, br_is (by simp) ⟨⟨rfl, rfl⟩, rfl⟩⟩⟩

/-! rows changed -/
theorem mix_zero (g : Nat → List Int → List Int) (xs : List (List Int)) : mixI g 0 xs = xs := by
  unfold mixI
  apply List.ext_getElem?
  intro p
  simp
theorem mix_len (g : Nat → List Int → List Int) (n : Nat) (xs : List (List Int)) : (mixI g n xs).length = xs.length := by unfold mixI; simp
theorem mix_get (g : Nat → List Int → List Int) (n : Nat) (xs : List (List Int)) (p : Nat) : (mixI g n xs)[p]? = (xs[p]?).map fun r => if p < n then g p r else r := by
  unfold mixI; rw [List.getElem?_mapIdx]
theorem mix_step (g : Nat → List Int → List Int) (n : Nat) (xs : List (List Int)) : (mixI g n xs).modify n (g n) = mixI g (n + 1) xs := by
  apply List.ext_getElem?
  intro p
  rw [List.getElem?_modify, mix_get, mix_get]
  show Option.map _ (Option.map _ _) = _
  rw [Option.map_map]
  congr 1
  funext r
  simp only [Function.comp]
  by_cases h : n = p
  · subst h; simp
  · rw [if_neg h]
    by_cases h2 : p < n
    · rw [if_pos h2, if_pos (by omega)]
    · rw [if_neg h2, if_neg (by omega)]
theorem mix_all (g : Nat → List Int → List Int) {n : Nat} {xs : List (List Int)} (h : xs.length ≤ n) : mixI g n xs = xs.mapIdx g := by
  apply List.ext_getElem?
  intro p
  rw [mix_get, List.getElem?_mapIdx]
  by_cases hp : p < xs.length
  · rw [List.getElem?_eq_getElem hp]
    simp only [Option.map_some]
    rw [if_pos (by omega)]
  · rw [List.getElem?_eq_none (by omega)]; rfl
theorem mix_rd (g : Nat → List Int → List Int) (n : Nat) (xs : List (List Int)) (j : Nat) : rd (mixI g n xs) n j = rd xs n j := by
  have : (mixI g n xs).getD n [] = xs.getD n [] := by
    simp only [List.getD, mix_get]
    congr 1
    cases xs[n]? with
    | none => rfl
    | some r => simp
  unfold rd; rw [this]
theorem modify_at {xs : List (List Int)} {n : Nat} {f g : List Int → List Int} (h : ∀ r, xs[n]? = some r → f r = g r) : xs.modify n f = xs.modify n g := by
  apply List.ext_getElem?
  intro p
  rw [List.getElem?_modify, List.getElem?_modify]
  by_cases e : n = p
  · subst e
    simp only [if_true]
    cases hx : xs[n]? with
    | none => rfl
    | some r => show some (f r) = some (g r); rw [h r hx]
  · simp only [if_neg e]
theorem lDf (d n0 : Nat) : LoopOk (envOf Try.prog NDm d) f_perigeelaw13_DriftMade n0 0 (lp Try.prog f_perigeelaw13_DriftMade 0) LDf := by
  intro st K hst
  obtain ⟨ns, xs, f, h, ⟨hl, f0, f1, rfl, rfl⟩, hK⟩ := hst
  rw [show SdM ns xs f h 0 = SdM ns (mixI (fun _ => fastR f) 0 xs) f h ((0 : Nat) : Int) by rw [mix_zero]; rfl]
  refine loop_of (fun i : Nat => SdM ns (mixI (fun _ => fastR f) i xs) f h i) (fun i => i ≤ xs.length) (fun i => xs.length - i) ?_ (a := 0) (Nat.zero_le _)
  intro i hle k hn hk
  show round (envOf Try.prog ⟨Γe5, _, fun _ => none⟩ d) _ _ _ _ _ k
  rw [rDriftFast, mix_len]
  rw [show ((i : Nat) : Int).toNat = i by omega]
  rintro t1 e1
  rw [br_dec]
  constructor
  · intro hi
    have p1 : t1 := by rw [e1]; omega
    have hf24 : 0 ≤ f.tmod 24 := Int.tmod_nonneg _ f0
    refine ⟨p1, p1, by decide, hf24, p1, p1, ?_⟩
    have := hn (i + 1) (by omega) (by omega)
    rw [← mix_step] at this
    rw [mix_rd, show IntKind.i64.wrap ((i : Int) + 1) = ((i + 1 : Nat) : Int) by rw [i64_in _ (by omega)]; rfl]
    rw [modify_at (g := fastR f) (fun r hr => ?_)]
    · exact this
    · have e : rd xs i 8 = r.getD 8 0 := by
        rw [mix_get] at hr
        cases hx : xs[i]? with
        | none => rw [hx] at hr; cases hr
        | some q =>
          rw [hx, Option.map_some, if_neg (Nat.lt_irrefl i)] at hr
          cases hr
          unfold rd
          simp [List.getD, hx]
      rw [e]
      rfl
  · intro hi
    have hi' : i = xs.length := by omega
    subst hi'
    rw [mix_all _ (Nat.le_refl _)]
    have e : xs.mapIdx (fun _ => fastR f) = xs.map (fastR f) := by
      apply List.ext_getElem?
      intro p
      rw [List.getElem?_mapIdx, List.getElem?_map]
    rw [e]
    exact hk _ _ (by simp) hK
theorem lDn (d n0 : Nat) : LoopOk (envOf Try.prog NDm d) f_perigeelaw13_DriftMade n0 1 (lp Try.prog f_perigeelaw13_DriftMade 1) LDn := by
  intro st K hst
  obtain ⟨ns, xs, zs, e, ⟨hg, hl, he, rfl, rfl⟩, hK⟩ := hst
  refine loop_of (fun i : Nat => SdN ns xs zs e i) (fun i => i ≤ xs.length) (fun i => xs.length - i) ?_ (a := 0) (Nat.zero_le _)
  intro i hle k hn hk
  show round (envOf Try.prog ⟨Γe5, _, fun _ => none⟩ d) _ _ _ _ _ k
  rw [rDriftMade]
  rw [show ((i : Nat) : Int).toNat = i by omega]
  rintro t1 e1 t2 e2 t3 e3
  rw [br_dec]
  constructor
  · intro hi
    have hi' : i < xs.length := by omega
    have p1 : t1 := by rw [e1]; omega
    have p2 : t2 := by rw [e2]; exact pB_at hi' hg
    refine ⟨p1, p1, p2, p1, p1, p2, br_no (by simp) ⟨by rw [e3]; exact preI_of (spd_i64 _), br_no (by simp) ?_⟩⟩
    rw [show IntKind.i64.wrap ((i : Int) + 1) = ((i + 1 : Nat) : Int) by rw [i64_in _ (by omega)]; rfl]
    exact hn (i + 1) hi' (by omega)
  · intro hi
    exact hk _ _ (by simp) hK
theorem know_two {N : Know} {f0 : FuncId} {L1 L2 : LoopS} (hΓ : ∀ g sp, N.Γ g = some sp → Contract Try.prog g sp) (hΛ : N.Λ = fun f i => if f = f0 then (if i = 0 then some L1 else if i = 1 then some L2 else none) else none) (hΤ : ∀ g G, N.Τ g = some G → FunOk Try.prog g G)
    (h1 : ∀ d n0, LoopOk (envOf Try.prog N d) f0 n0 0 (lp Try.prog f0 0) L1) (h2 : ∀ d n0, LoopOk (envOf Try.prog N d) f0 n0 1 (lp Try.prog f0 1) L2) (d : Nat) : KnowOk Try.prog N d := by
  refine ⟨mixedOrders, hΓ, ?_, hΤ⟩
  intro d' _ f i S n0 hS
  rw [hΛ] at hS
  simp only at hS
  split at hS
  · split at hS
    · cases hS
      rename_i hf hi
      subst hf; subst hi
      exact h1 d' n0
    · split at hS
      · cases hS
        rename_i hf _ hi
        subst hf; subst hi
        exact h2 d' n0
      · cases hS
  · cases hS
/-! bodies by numbers are good -/
theorem put_get (f g : Nat) (ys r : List Int) {j : Nat} (hj : j < 20) : (putR f g ys r).getD j 0 = if f ≤ j ∧ j < g then ys.getD (j - f) 0 else r.getD j 0 := by
  unfold putR; rw [getD_map_range hj]
theorem put_len (f g : Nat) (ys r : List Int) : (putR f g ys r).length = 20 := by unfold putR; simp
theorem bodyL_fr' (a b c d : Int) : fr (bodyL a b c d) 0 = (1 + c % 9) * 18446744073709551616 ∧ fr (bodyL a b c d) 4 = (a - 128) * 18446744073709551616 + b * 72057594037927936 ∧ fr (bodyL a b c d) 6 = (b - 128) * 18446744073709551616 + c * 1099511627776 ∧
    fr (bodyL a b c d) 8 = (d % 7 - 3) * 18446744073709551616 + a ∧ fr (bodyL a b c d) 10 = (c % 5 - 2) * 18446744073709551616 + d * 1152921504606846976 % 18446744073709551616 := by
  refine ⟨?_, rfl, rfl, rfl, rfl⟩
  show (1 + c % 9) * 18446744073709551616 + 0 = _
  omega
theorem bodyL_row' {a b c d : Int} (ha : u8ok a) (hb : u8ok b) (hc : u8ok c) (hd : u8ok d) : rowB (bodyL a b c d) := by
  unfold u8ok at ha hb hc hd
  have I : ∀ {n : Int}, -9223372036854775808 ≤ n → n ≤ 9223372036854775807 → inK .i64 n := fun h1 h2 => ⟨h1, h2⟩
  have U : ∀ {n : Int}, 0 ≤ n → n ≤ 18446744073709551615 → inK .u64 n := fun h1 h2 => ⟨h1, h2⟩
  intro j hj
  rcases j with _|_|_|_|_|_|_|_|_|_|_|_|_|_|_|_|_|_|_|_|j
  · show inK .i64 (1 + c % 9); exact I (by omega) (by omega)
  · show inK .u64 0; exact U (by omega) (by omega)
  · show inK .i64 (d % 3); exact I (by omega) (by omega)
  · show inK .u64 4611686018427387904; exact U (by omega) (by omega)
  · show inK .i64 (a - 128); exact I (by omega) (by omega)
  · show inK .u64 (b * 72057594037927936); exact U (by omega) (by omega)
  · show inK .i64 (b - 128); exact I (by omega) (by omega)
  · show inK .u64 (c * 1099511627776); exact U (by omega) (by omega)
  · show inK .i64 (d % 7 - 3); exact I (by omega) (by omega)
  · show inK .u64 a; exact U (by omega) (by omega)
  · show inK .i64 (c % 5 - 2); exact I (by omega) (by omega)
  · show inK .u64 (d * 1152921504606846976 % 18446744073709551616); exact U (by omega) (by omega)
  · show inK .i64 0; exact I (by omega) (by omega)
  · show inK .u64 (d * 1125899906842624); exact U (by omega) (by omega)
  · show inK .i64 0; exact I (by omega) (by omega)
  · show inK .u64 (a * 1125899906842624); exact U (by omega) (by omega)
  · show inK .i64 (b % 4); exact I (by omega) (by omega)
  · show inK .u64 0; exact U (by omega) (by omega)
  · show inK .i64 0; exact I (by omega) (by omega)
  · show inK .i64 (d * 257); exact I (by omega) (by omega)
  · omega
def madeB (r : List Int) : Prop := ∃ a b c d, u8ok a ∧ u8ok b ∧ u8ok c ∧ u8ok d ∧ r = bodyL a b c d
theorem bodies_madeB {ns : List (List Int)} (h : okRows [.u8] ns) (n : Nat) : ∀ r ∈ bodiesF ns n, madeB r := by
  intro r hr
  unfold bodiesF at hr
  rw [List.mem_map] at hr
  obtain ⟨i, _, rfl⟩ := hr
  exact ⟨_, _, _, _, u8_rd h _, u8_rd h _, u8_rd h _, u8_rd h _, rfl⟩
/-- of a body by numbers: how great its numbers are -/
theorem madeB_nums {r : List Int} (h : madeB r) : (18446744073709551616 ≤ fr r 0 ∧ fr r 0 ≤ 166020696663385964544) ∧ (-2361183241434822606848 ≤ fr r 4 ∧ fr r 4 ≤ 2361183241434822606848) ∧ (-2361183241434822606848 ≤ fr r 6 ∧ fr r 6 ≤ 2361183241434822606848) ∧
    (-73786976294838206464 ≤ fr r 8 ∧ fr r 8 ≤ 73786976294838206464) ∧ -73786976294838206464 ≤ fr r 10 ∧ fr r 10 ≤ 73786976294838206464 := by
  obtain ⟨a, b, c, d, ha, hb, hc, hd, rfl⟩ := h
  obtain ⟨e0, e4, e6, e8, e10⟩ := bodyL_fr' a b c d
  unfold u8ok at ha hb hc hd
  rw [e0, e4, e6, e8, e10]
  omega
theorem madeB_good {r : List Int} (h : madeB r) : goodB r := by
  obtain ⟨h0, h4, h6, h8, h10⟩ := madeB_nums h
  obtain ⟨a, b, c, d, ha, hb, hc, hd, rfl⟩ := h
  exact ⟨rfl, bodyL_row' ha hb hc hd, ⟨by omega, by omega⟩, ⟨by omega, by omega⟩, ⟨by omega, by omega⟩, ⟨by omega, by omega⟩, ⟨by omega, by omega⟩⟩
theorem pow24 {f : Int} (h0 : 0 ≤ f) : (2 : Int) ^ min (f.tmod 24).toNat 64 ≤ 8388608 ∧ (1 : Int) ≤ 2 ^ min (f.tmod 24).toNat 64 := by
  rw [tmod_pos h0]
  have : ∀ n : Nat, n < 24 → (2 : Int) ^ min n 64 ≤ 8388608 ∧ (1 : Int) ≤ 2 ^ min n 64 := by decide
  exact this _ (by omega)
theorem fast_good {f : Int} (h0 : 0 ≤ f) {r : List Int} (h : madeB r) : goodB (fastR f r) := by
  have hg := madeB_good h
  obtain ⟨a, b, c, d, ha, hb, hc, hd, rfl⟩ := h
  unfold u8ok at ha hb hc hd
  obtain ⟨q1, q2⟩ := pow24 h0
  generalize hq : (2 : Int) ^ min (f.tmod 24).toNat 64 = q at *
  have hv : -25165824 ≤ (d % 7 - 3) * q ∧ (d % 7 - 3) * q ≤ 25165824 := by
    have a1 : (d % 7 - 3) * q ≤ 3 * q := Int.mul_le_mul_of_nonneg_right (by omega) (by omega)
    have a2 : -3 * q ≤ (d % 7 - 3) * q := Int.mul_le_mul_of_nonneg_right (by omega) (by omega)
    omega
  have e8 : (fastR f (bodyL a b c d)).getD 8 0 = (d % 7 - 3) * q := by
    unfold fastR
    rw [put_get _ _ _ _ (by decide), if_pos (by decide)]
    show IntKind.i64.wrap ((d % 7 - 3) * 2 ^ min (f.tmod 24).toNat 64) = _
    rw [hq, i64_in _ (by omega)]
  have ej : ∀ j, j < 20 → j ≠ 8 → (fastR f (bodyL a b c d)).getD j 0 = (bodyL a b c d).getD j 0 := by
    intro j hj hne
    unfold fastR
    rw [put_get _ _ _ _ hj, if_neg (by omega)]
  obtain ⟨_, hr, m0, m4, m6, m8, m10⟩ := hg
  have efr : ∀ j, j + 1 < 20 → j ≠ 8 → j + 1 ≠ 8 → fr (fastR f (bodyL a b c d)) j = fr (bodyL a b c d) j := by
    intro j hj h1 h2
    unfold fr
    rw [ej j (by omega) h1, ej (j + 1) hj h2]
  refine ⟨put_len _ _ _ _, ?_, by rw [efr 0 (by decide) (by decide) (by decide)]; exact m0, by rw [efr 4 (by decide) (by decide) (by decide)]; exact m4, by rw [efr 6 (by decide) (by decide) (by decide)]; exact m6, ?_, by rw [efr 10 (by decide) (by decide) (by decide)]; exact m10⟩
  · intro j hj
    by_cases e : j = 8
    · subst e
      rw [e8]
      exact ⟨by show (-9223372036854775808 : Int) ≤ _; omega, by show _ ≤ (9223372036854775807 : Int); omega⟩
    · rw [ej j hj e]; exact hr j hj
  · unfold fr
    rw [e8, ej 9 (by decide) (by decide), show (bodyL a b c d).getD 9 0 = a from rfl]
    exact ⟨by omega, by omega⟩
def pMade13 (l : List IV) (bs : List Blk) : Prop := ∃ ns h f, l = [.sl 0, fx h, .int .u8 f] ∧ bs = [.ro [.u8] ns] ∧ inF h ∧ 0 ≤ f ∧ f ≤ 255
noncomputable def spMade13 : Vs.Spec := ⟨pMade13, fun _ _ => (.bool true, [])⟩
theorem c_DriftMade : Contract Try.prog f_perigeelaw13_DriftMade spMade13 := by
  refine contract_of (N := NDm) 3 (know_two (f0 := f_perigeelaw13_DriftMade) (L1 := LDf) (L2 := LDn) (fun g sp h => ctrse5 h) rfl (fun g G h => noT h) lDf lDn 3) ?_
  rintro l bs _ hB ⟨ns, h, f, rfl, rfl, hh, f0, f1⟩
  have hb : okRows [.u8] ns ∧ 0 < [IntKind.u8].length ∧ ns.length ≤ maxLen := hB (.ro [.u8] ns) (List.mem_singleton.2 rfl)
  show comes _ _ _ _ _ _ _
  rw [v_DriftMade]
  rintro j1 rfl
  refine ⟨preF_in hh, br_guard ⟨⟨rfl, rfl⟩, rfl⟩ (fun hh' => ?_)⟩
  have hmade := bodies_madeB hb.1 (howMany ns 12)
  have hlen := bodies_len ns (howMany ns 12)
  have h12 : howMany ns 12 ≤ 12 := Nat.min_le_right _ _
  generalize bodiesF ns (howMany ns 12) = xs at *
  have hg : goodBs (xs.map (fastR f)) := by
    intro r hr
    rw [List.mem_map] at hr
    obtain ⟨r0, h0, rfl⟩ := hr
    exact fast_good f0 (hmade r0 h0)
  have pm : pMove [.sl 0, fx j1] [.ro ksB (xs.map (fastR f))] := ⟨_, j1, rfl, rfl, hg, mayF_of hh hh', by rw [List.length_map]; omega⟩
  refine ⟨⟨ns, 12, rfl, rfl, by decide, by decide⟩, ns, xs, f, j1, ⟨by omega, f0, f1, rfl, rfl⟩, pm, pm, ?_⟩
  simp only [join]
  refine ⟨ns, xs.map (fastR f), movL j1 (xs.map (fastR f)), movE j1 (xs.map (fastR f)), ⟨hg, by rw [List.length_map]; omega, movE_is _ _, rfl, rfl⟩, ⟨_, _, rfl, rfl, by have := movL_le j1 (xs.map (fastR f)); rw [List.length_map] at this; omega, movL_len4 _ _, movL_len4 _ _⟩, ?_⟩
  refine br_is (bp_true (by trivial)) ?_
  exact ⟨preI_of (movE_is _ _), br_is (by simp) ⟨⟨rfl, rfl⟩, rfl⟩⟩
end Go.Vs.RF

set_option linter.unusedVariables false
set_option linter.unusedSimpArgs false
set_option maxRecDepth 100000
/- DriftBack -/
namespace Go.Vs.RF
open Go Go.Proofs Go.Vs Go.IntWalk

theorem lDs (d n0 : Nat) : LoopOk (envOf Try.prog NDb d) f_perigeelaw13_DriftBack n0 0 (lp Try.prog f_perigeelaw13_DriftBack 0) LDs := by
  intro st K hst
  obtain ⟨ns, xs, zs, ws, h, ⟨hl, hz, rfl, rfl⟩, hK⟩ := hst
  rw [show SdB ns xs zs ws h 0 = SdB ns (mixI (atR zs) 0 xs) zs ws h ((0 : Nat) : Int) by rw [mix_zero]; rfl]
  refine loop_of (fun i : Nat => SdB ns (mixI (atR zs) i xs) zs ws h i) (fun i => i ≤ xs.length) (fun i => xs.length - i) ?_ (a := 0) (Nat.zero_le _)
  intro i hle k hn hk
  show round (envOf Try.prog ⟨Γe5, _, fun _ => none⟩ d) _ _ _ _ _ k
  rw [rDriftSet, mix_len]
  rw [show ((i : Nat) : Int).toNat = i by omega]
  rintro t1 e1 t2 e2
  rw [br_dec]
  constructor
  · intro hi
    have p1 : t1 := by rw [e1]; omega
    have p2 : t2 := by rw [e2]; omega
    refine ⟨p1, p1, p2, p2, ?_⟩
    have := hn (i + 1) (by omega) (by omega)
    rw [← mix_step] at this
    rw [show IntKind.i64.wrap ((i : Int) + 1) = ((i + 1 : Nat) : Int) by rw [i64_in _ (by omega)]; rfl]
    exact this
  · intro hi
    have hi' : i = xs.length := by omega
    subst hi'
    rw [mix_all _ (Nat.le_refl _)]
    exact hk _ _ (by simp) hK
theorem lDc (d n0 : Nat) : LoopOk (envOf Try.prog NDb d) f_perigeelaw13_DriftBack n0 1 (lp Try.prog f_perigeelaw13_DriftBack 1) LDc := by
  intro st K hst
  obtain ⟨ns, xs, ws, zs, ⟨hl, hw, hz, hb, rfl, rfl⟩, hK⟩ := hst
  refine loop_of (fun i : Nat => SdC ns xs ws zs i) (fun i => i ≤ xs.length) (fun i => xs.length - i) ?_ (a := 0) (Nat.zero_le _)
  intro i hle k hn hk
  show round (envOf Try.prog ⟨Γe5, _, fun _ => none⟩ d) _ _ _ _ _ k
  rw [rDriftSee]
  rw [show ((i : Nat) : Int).toNat = i by omega]
  rintro t1 rfl t2 rfl t3 rfl t4 rfl t5 rfl t6 rfl t7 rfl t8 rfl t9 e9 t10 e10
  rw [br_dec]
  constructor
  · intro hi
    have p9 : t9 := by rw [e9]; omega
    have p10 : t10 := by rw [e10]; omega
    obtain ⟨b0, b1, b2, b3⟩ := hb i (by omega)
    refine ⟨p9, p9, p10, p10, br_no (by rw [b0, b1, b2, b3]; simp) ?_⟩
    rw [show IntKind.i64.wrap ((i : Int) + 1) = ((i + 1 : Nat) : Int) by rw [i64_in _ (by omega)]; rfl]
    exact hn (i + 1) (by omega) (by omega)
  · intro hi
    exact hk _ _ (by simp) hK
theorem quoI_negl2 (x y : Int) (hy : y ≠ 0) : quoI (-x) y = -quoI x y := by
  by_cases h0 : x = 0
  · subst h0; rw [show (-0 : Int) = 0 from rfl, quoI_zero y hy]; rfl
  · unfold quoI
    rw [abs_neg, show decide (-x < 0) = !decide (x < 0) by by_cases h : x < 0 <;> simp [h] <;> omega, show ((!decide (x < 0)) != decide (y < 0)) = !(decide (x < 0) != decide (y < 0)) by cases decide (x < 0) <;> cases decide (y < 0) <;> rfl, sgnI_not]
theorem div_back (x y : Int) : divN (-x) y = -divN x y ∧ divE (-x) y = divE x y := by
  unfold divN divE
  split
  · exact ⟨rfl, rfl⟩
  · rename_i h; rw [quoI_negl2 _ _ h, numF_neg, errF_neg]; exact ⟨rfl, rfl⟩
/-- moved on, and back -/
theorem on_back {x p m h : Int} (hx : mayF x) (he : onE x p m h = 0) : onE (onN x p m h) p m (-h) = 0 ∧ onN (onN x p m h) p m (-h) = x := by
  have hN : onN x p m h = x + divN (mulI p h) m := by unfold onN; rw [if_pos he]
  unfold onE at he
  split at he
  · rename_i h1; exact absurd he h1
  · rename_i h1
    split at he
    · rename_i h2; exact absurd he h2
    · rename_i h2
      have h1' : errF (mulI p h) = 0 := Classical.not_not.1 h1
      have h2' : divE (mulI p h) m = 0 := Classical.not_not.1 h2
      have hE : onE (onN x p m h) p m (-h) = 0 := by
        unfold onE
        rw [mulI_negr, errF_neg, if_neg (fun hh => hh h1'), (div_back _ _).2, if_neg (fun hh => hh h2'), (div_back _ _).1, hN]
        rw [show x + divN (mulI p h) m + -divN (mulI p h) m = x by omega]
        exact err_may hx
      refine ⟨hE, ?_⟩
      have hy : ∀ y, onE y p m (-h) = 0 → onN y p m (-h) = y + divN (mulI p (-h)) m := fun y hy => by unfold onN; rw [if_pos hy]
      rw [hy _ hE, mulI_negr, (div_back _ _).1, hN]
      omega
theorem at_fr {zs : List (List Int)} {p : Nat} {r : List Int} : fr (atR zs p r) 4 = rd zs p 0 * 18446744073709551616 + rd zs p 1 ∧ fr (atR zs p r) 6 = rd zs p 2 * 18446744073709551616 + rd zs p 3 ∧
    ∀ j, j + 1 < 20 → (j + 1 < 4 ∨ 8 ≤ j) → fr (atR zs p r) j = fr r j := by
  refine ⟨?_, ?_, ?_⟩
  · unfold fr atR
    rw [put_get _ _ _ _ (by decide), put_get _ _ _ _ (by decide), if_pos (by decide), if_pos (by decide)]
    rfl
  · unfold fr atR
    rw [put_get _ _ _ _ (by decide), put_get _ _ _ _ (by decide), if_pos (by decide), if_pos (by decide)]
    rfl
  · intro j hj h
    unfold fr atR
    rw [put_get _ _ _ _ (by omega), put_get _ _ _ _ (by omega), if_neg (by omega), if_neg (by omega)]
theorem at_good {zs : List (List Int)} {p : Nat} {r : List Int} {x y : Int} (h : goodB r) (hx : mayF x) (hy : mayF y) (hz : zs.getD p [] = vecRow x y) : goodB (atR zs p r) := by
  have e : ∀ j, rd zs p j = (vecRow x y).getD j 0 := fun j => by unfold rd; rw [hz]
  obtain ⟨f4, f6, fo⟩ := at_fr (zs := zs) (p := p) (r := r)
  obtain ⟨_, hr, m0, m4, m6, m8, m10⟩ := h
  have ox := ix_of (inF_of hx)
  have oy := ix_of (inF_of hy)
  refine ⟨put_len _ _ _ _, ?_, by rw [fo 0 (by decide) (by decide)]; exact m0, ?_, ?_, by rw [fo 8 (by decide) (by decide)]; exact m8, by rw [fo 10 (by decide) (by decide)]; exact m10⟩
  · intro j hj
    unfold atR
    rw [put_get _ _ _ _ hj]
    split
    · rename_i hj2
      have hI : ∀ {n : Int}, i64ok n → inK .i64 n := fun h => ⟨h.1, by show _ ≤ (9223372036854775807 : Int); have := h.2; omega⟩
      have hU : ∀ {n : Int}, u64ok n → inK .u64 n := fun h => ⟨h.1, by show _ ≤ (18446744073709551615 : Int); have := h.2; omega⟩
      rw [e 0, e 1, e 2, e 3]
      have : j = 4 ∨ j = 5 ∨ j = 6 ∨ j = 7 := by omega
      rcases this with rfl | rfl | rfl | rfl
      · exact hI ox.1
      · exact hU ox.2
      · exact hI oy.1
      · exact hU oy.2
    · exact hr j hj
  · rw [f4, e 0, e 1, show (vecRow x y).getD 0 0 * 18446744073709551616 + (vecRow x y).getD 1 0 = x from jn x]; exact hx
  · rw [f6, e 2, e 3, show (vecRow x y).getD 2 0 * 18446744073709551616 + (vecRow x y).getD 3 0 = y from jn y]; exact hy
theorem mov_zero {h : Int} : ∀ {xs : List (List Int)}, movE h xs = 0 → ∀ r ∈ xs, mvE r h = 0
  | [], _, r, hr => by cases hr
  | x :: l, he, r, hr => by
    unfold movE at he
    split at he
    · rename_i h1; exact absurd he h1
    · rename_i h1
      rcases List.mem_cons.1 hr with rfl | hr
      · exact Classical.not_not.1 h1
      · exact mov_zero he r hr
theorem mov_none {h : Int} : ∀ {xs : List (List Int)}, (∀ r ∈ xs, mvE r h = 0) → movE h xs = 0
  | [], _ => rfl
  | x :: l, he => by
    unfold movE
    rw [if_neg (fun hh => hh (he x (by simp)))]
    exact mov_none (fun r hr => he r (List.mem_cons_of_mem _ hr))
theorem mv_parts {r : List Int} {h : Int} (he : mvE r h = 0) : onE (fr r 4) (fr r 8) (fr r 0) h = 0 ∧ onE (fr r 6) (fr r 10) (fr r 0) h = 0 ∧ wiB 1073741824 (mvx r h) (mvy r h) = true ∧ mvX r h = mvx r h ∧ mvY r h = mvy r h := by
  refine ⟨?_, ?_, ?_, by unfold mvX; rw [if_pos he], by unfold mvY; rw [if_pos he]⟩
  all_goals
    unfold mvE at he
    split at he
    · rename_i h1; exact absurd he h1
    · rename_i h1
      split at he
      · rename_i h2; exact absurd he h2
      · rename_i h2
        split at he
        · rename_i h3
          first
            | exact Classical.not_not.1 h1
            | exact Classical.not_not.1 h2
            | exact h3
        · cases he
theorem mv_ok {r : List Int} {h : Int} (h1 : onE (fr r 4) (fr r 8) (fr r 0) h = 0) (h2 : onE (fr r 6) (fr r 10) (fr r 0) h = 0) (h3 : wiB 1073741824 (mvx r h) (mvy r h) = true) : mvE r h = 0 := by
  unfold mvE
  rw [if_neg (fun hh => hh h1), if_neg (fun hh => hh h2), if_pos h3]
/-- which errors there are, where there is a mass -/
theorem mv_codes {r : List Int} {h : Int} (hm : fr r 0 ≠ 0) : mvE r h = 0 ∨ mvE r h = 3 ∨ mvE r h = 5 := by
  have eF : ∀ s, errF s = 0 ∨ errF s = 3 := fun s => by unfold errF; split <;> simp
  have eO : ∀ x p, onE x p (fr r 0) h = 0 ∨ onE x p (fr r 0) h = 3 := by
    intro x p
    unfold onE divE
    rw [if_neg hm]
    split
    · exact eF _
    · split
      · exact eF _
      · exact eF _
  unfold mvE
  split
  · rcases eO (fr r 4) (fr r 8) with h1 | h1 <;> simp [h1]
  · split
    · rcases eO (fr r 6) (fr r 10) with h1 | h1 <;> simp [h1]
    · split <;> simp
theorem mov_codes {h : Int} : ∀ {xs : List (List Int)}, (∀ r ∈ xs, fr r 0 ≠ 0) → movE h xs = 0 ∨ movE h xs = 3 ∨ movE h xs = 5
  | [], _ => .inl rfl
  | x :: l, hm => by
    unfold movE
    split
    · exact mv_codes (hm x (by simp))
    · exact mov_codes (fun r hr => hm r (List.mem_cons_of_mem _ hr))
theorem vrow_rd (x y : Int) : (vecRow x y).getD 0 0 = x / 18446744073709551616 ∧ (vecRow x y).getD 1 0 = x % 18446744073709551616 ∧ (vecRow x y).getD 2 0 = y / 18446744073709551616 ∧ (vecRow x y).getD 3 0 = y % 18446744073709551616 := ⟨rfl, rfl, rfl, rfl⟩
def pBack13 (l : List IV) (bs : List Blk) : Prop := ∃ ns h, l = [.sl 0, fx h] ∧ bs = [.ro [.u8] ns] ∧ inF h
noncomputable def spBack13 : Vs.Spec := ⟨pBack13, fun _ _ => (.bool true, [])⟩
theorem c_DriftBack : Contract Try.prog f_perigeelaw13_DriftBack spBack13 := by
  refine contract_of (N := NDb) 3 (know_two (f0 := f_perigeelaw13_DriftBack) (L1 := LDs) (L2 := LDc) (fun g sp h => ctrse5 h) rfl (fun g G h => noT h) lDs lDc 3) ?_
  rintro l bs _ hB ⟨ns, h, rfl, rfl, hh⟩
  have hb : okRows [.u8] ns ∧ 0 < [IntKind.u8].length ∧ ns.length ≤ maxLen := hB (.ro [.u8] ns) (List.mem_singleton.2 rfl)
  show comes _ _ _ _ _ _ _
  rw [v_DriftBack]
  rintro j1 rfl t2 e2 t3 e3 t4 e4
  refine ⟨preF_in hh, br_guard ⟨⟨rfl, rfl⟩, rfl⟩ (fun hh' => ?_)⟩
  have hmade := bodies_madeB hb.1 (howMany ns 12)
  have hlen := bodies_len ns (howMany ns 12)
  have h12 : howMany ns 12 ≤ 12 := Nat.min_le_right _ _
  generalize bodiesF ns (howMany ns 12) = xs at *
  have hg : goodBs xs := fun r hr => madeB_good (hmade r hr)
  have mh := mayF_of hh hh'
  have p4 : t4 := by rw [e4, e2]; exact preI_of (movE_is _ _)
  refine ⟨⟨ns, 12, rfl, rfl, by decide, by decide⟩, ⟨xs, j1, rfl, rfl, hg, mh, by omega⟩, p4, ?_⟩
  rw [br_bne]
  constructor
  · intro hne
    have hz : t3 = 0 := by rw [e3, movL_no (by rw [← e2]; exact hne)]; rfl
    have fin : br (t3 == 0) (pNo13 [] [] ∧ (spBack13.F [.sl 0, fx j1] [.ro [.u8] ns] = (IV.bool true, []))) (spBack13.F [.sl 0, fx j1] [.ro [.u8] ns] = (IV.bool false, [])) := by
      rw [hz]; exact ⟨⟨rfl, rfl⟩, rfl⟩
    refine ⟨p4, ?_⟩
    rw [br_beq]
    refine ⟨fun _ => fin, fun h3 => ⟨p4, ?_⟩⟩
    rw [br_beq]
    refine ⟨fun _ => fin, fun h5 => ?_⟩
    exfalso
    rcases mov_codes (h := j1) (xs := xs) (fun r hr => by have := (madeB_nums (hmade r hr)).1; omega) with h0 | h0 | h0
    · exact hne (by rw [e2, h0])
    · exact h3 (by rw [e2, h0])
    · exact h5 (by rw [e2, h0])
  · intro he
    have he' : movE j1 xs = 0 := by rw [← e2]; exact he
    have hzs : movL j1 xs = movL0 j1 xs := movL_ok he'
    have hparts := mov_zero he'
    have hL : (movL j1 xs).length = xs.length := by rw [hzs, movL0_len]
    have zrow : ∀ p, ∀ hp : p < xs.length, (movL j1 xs).getD p [] = vecRow (mvx xs[p] j1) (mvy xs[p] j1) := by
      intro p hp
      obtain ⟨_, _, _, q4, q5⟩ := mv_parts (hparts _ (List.getElem_mem hp))
      rw [hzs]
      unfold movL0
      simp [List.getD, hp, q4, q5]
    rw [e3, hL]
    refine br_no (by simp) ⟨by omega, ns, xs, movL j1 xs, xs, j1, ⟨by omega, hL, rfl, rfl⟩, may1_of mh, ?_⟩
    have hat : ∀ p, ∀ hp : p < xs.length, (atAll xs (movL j1 xs))[p]? = some (atR (movL j1 xs) p xs[p]) := by
      intro p hp
      unfold atAll
      rw [List.getElem?_mapIdx, List.getElem?_eq_getElem hp]; rfl
    have hatl : (atAll xs (movL j1 xs)).length = xs.length := by unfold atAll; simp
    have hmem : ∀ r ∈ atAll xs (movL j1 xs), ∃ p, ∃ hp : p < xs.length, r = atR (movL j1 xs) p xs[p] := by
      intro r hr
      obtain ⟨p, hp, hpe⟩ := List.mem_iff_getElem.1 hr
      have hp' : p < xs.length := by rw [hatl] at hp; exact hp
      have := hat p hp'
      rw [List.getElem?_eq_getElem hp, hpe] at this
      exact ⟨p, hp', Option.some.inj this⟩
    have backr : ∀ p, ∀ hp : p < xs.length, mvE (atR (movL j1 xs) p xs[p]) (-j1) = 0 ∧ mvX (atR (movL j1 xs) p xs[p]) (-j1) = fr xs[p] 4 ∧ mvY (atR (movL j1 xs) p xs[p]) (-j1) = fr xs[p] 6 := by
      intro p hp
      have hm := hmade _ (List.getElem_mem hp)
      obtain ⟨n0, n4, n6, n8, n10⟩ := madeB_nums hm
      obtain ⟨_, _, m0, m4, m6, m8, m10⟩ := madeB_good hm
      obtain ⟨q1, q2, q3, q4, q5⟩ := mv_parts (hparts _ (List.getElem_mem hp))
      obtain ⟨f4, f6, fo⟩ := at_fr (zs := movL j1 xs) (p := p) (r := xs[p])
      have e : ∀ j, rd (movL j1 xs) p j = (vecRow (mvx xs[p] j1) (mvy xs[p] j1)).getD j 0 := fun j => by unfold rd; rw [zrow p hp]
      obtain ⟨v0, v1, v2, v3⟩ := vrow_rd (mvx xs[p] j1) (mvy xs[p] j1)
      rw [e, e, v0, v1, jn] at f4
      rw [e, e, v2, v3, jn] at f6
      have g0 := fo 0 (by decide) (by decide)
      have g8 := fo 8 (by decide) (by decide)
      have g10 := fo 10 (by decide) (by decide)
      obtain ⟨bx1, bx2⟩ := on_back (p := fr xs[p] 8) (m := fr xs[p] 0) (h := j1) m4 q1
      obtain ⟨by1, by2⟩ := on_back (p := fr xs[p] 10) (m := fr xs[p] 0) (h := j1) m6 q2
      have ex : mvx (atR (movL j1 xs) p xs[p]) (-j1) = fr xs[p] 4 := by unfold mvx; rw [f4, g8, g0]; exact bx2
      have ey : mvy (atR (movL j1 xs) p xs[p]) (-j1) = fr xs[p] 6 := by unfold mvy; rw [f6, g10, g0]; exact by2
      have hE : mvE (atR (movL j1 xs) p xs[p]) (-j1) = 0 := mv_ok (by rw [f4, g8, g0]; exact bx1) (by rw [f6, g10, g0]; exact by1) (by
        rw [ex, ey]
        unfold wiB inB
        rw [decide_eq_true (by omega), decide_eq_true (by omega)]; rfl)
      exact ⟨hE, by unfold mvX; rw [if_pos hE, ex], by unfold mvY; rw [if_pos hE, ey]⟩
    have hgood2 : goodBs (atAll xs (movL j1 xs)) := by
      intro r hr
      obtain ⟨p, hp, rfl⟩ := hmem r hr
      exact at_good (good_row hg hp) (onN_is _ _ _ _) (onN_is _ _ _ _) (zrow p hp)
    have hE2 : movE (-j1) (atAll xs (movL j1 xs)) = 0 := mov_none (fun r hr => by
      obtain ⟨p, hp, rfl⟩ := hmem r hr
      exact (backr p hp).1)
    have hL2 : (movL (-j1) (atAll xs (movL j1 xs))).length = xs.length := by rw [movL_ok hE2, movL0_len, hatl]
    simp only [join, hE2]
    refine ⟨⟨_, -j1, rfl, rfl, hgood2, may_neg mh, by rw [hatl]; omega⟩, preI_of ⟨by decide, by decide⟩, br_no (by simp) (br_no (by rw [hL2, hatl]; simp) ⟨ns, atAll xs (movL j1 xs), xs, movL (-j1) (atAll xs (movL j1 xs)), ⟨by rw [hatl]; omega, hatl.symm, by rw [hL2, hatl], ?_, rfl, rfl⟩, ⟨rfl, rfl⟩, rfl⟩)⟩
    intro p hp
    rw [hatl] at hp
    obtain ⟨_, b2, b3⟩ := backr p hp
    have hr2 := (good_row hg hp).2.1
    have zz : (movL (-j1) (atAll xs (movL j1 xs))).getD p [] = vecRow (fr xs[p] 4) (fr xs[p] 6) := by
      rw [movL_ok hE2]
      unfold movL0
      have := hat p hp
      simp [List.getD, List.getElem?_map, this, b2, b3]
    have er : ∀ j, rd xs p j = xs[p].getD j 0 := fun j => by unfold rd; rw [get_row hp]
    have ez : ∀ j, rd (movL (-j1) (atAll xs (movL j1 xs))) p j = (vecRow (fr xs[p] 4) (fr xs[p] 6)).getD j 0 := fun j => by unfold rd; rw [zz]
    have u5 := row_lo hr2 5 (by decide) rfl
    have u7 := row_lo hr2 7 (by decide) rfl
    unfold u64ok at u5 u7
    obtain ⟨v0, v1, v2, v3⟩ := vrow_rd (fr xs[p] 4) (fr xs[p] 6)
    have x4 : fr xs[p] 4 = xs[p].getD 4 0 * 18446744073709551616 + xs[p].getD 5 0 := rfl
    have x6 : fr xs[p] 6 = xs[p].getD 6 0 * 18446744073709551616 + xs[p].getD 7 0 := rfl
    unfold backP
    rw [ez, ez, ez, ez, v0, v1, v2, v3, er, er, er, er]
    omega
end Go.Vs.RF

set_option linter.unusedVariables false
/- DriftWhole -/
namespace Go.Vs.RF
open Go Go.Proofs Go.Vs
def SdV (ns : List (List Int)) (B : Blk) (zs : List (List Int)) (v u h i : Int) : St := ⟨T 162 [(1, .int .i16 v), (2, .int .i16 u), (3, .int .u8 h), (9, .sl 1), (12, .sl 2), (14, .int .i64 i)], [some (.ro [.u8] ns), some B, some (.row 30 ksV zs)]⟩
theorem rWholeRow (Λ : FuncId → Nat → Option LoopS) (d : Nat) (ns xs zs : List (List Int)) (v u h i : Int) (k : Out → St → Prop) : (round (envOf Try.prog ⟨Γe5, Λ, fun _ => none⟩ d) f_perigeelaw13_DriftWhole 1 1 (lp Try.prog f_perigeelaw13_DriftWhole 1) (SdV ns (.row 32 ksB xs) zs v u h i) k) = (∀ (t1 : Int), t1 = mx IntKind.i64 (IntKind.i64.wrap h) (-9223372036854775807 : Int) * (18446744073709551616 : Int) → ∀ (j2 : Int), j2 = t1 → ∀ (t3 : Int), t3 = rd zs i.toNat (0 : Nat) → ∀ (t4 : Int), t4 = rd zs i.toNat (1 : Nat) → ∀ (t5 : Int), t5 = rd zs i.toNat (2 : Nat) → ∀ (t6 : Int), t6 = rd zs i.toNat (3 : Nat) → ∀ (t7 : Prop), t7 = preI [IV.int IntKind.i64 (IntKind.i64.wrap h)] [] → ∀ (t8 : Prop), t8 = ((0 : Int) ≤ i ∧ i < (↑zs.length : Int)) → ∀ (t9 : Prop), t9 = ((0 : Int) ≤ i ∧ i < (↑xs.length : Int)) → ∀ (t10 : Int), t10 = IntKind.i64.wrap (i + IntKind.i64.wrap (IntKind.i64.wrap v * IntKind.i64.wrap h)) → ∀ (t11 : Int), t11 = mx IntKind.i64 (IntKind.i64.wrap v) (-9223372036854775807 : Int) * (18446744073709551616 : Int) → ∀ (t12 : Int), t12 = movE j2 (List.drop i.toNat (List.take (IntKind.i64.wrap (i + (1 : Int))).toNat xs)) → ∀ (t13 : Int), t13 = IntKind.i64.wrap (IntKind.i64.wrap ((0 : Int) - IntKind.i64.wrap u) * IntKind.i64.wrap h) → ∀ (t14 : Int), t14 = (↑(movL j2 (List.drop i.toNat (List.take (IntKind.i64.wrap (i + (1 : Int))).toNat xs))).length : Int) → ∀ (t15 : Int), t15 = rd (movL j2 (List.drop i.toNat (List.take (IntKind.i64.wrap (i + (1 : Int))).toNat xs))) (0 : Nat) (0 : Nat) → ∀ (t16 : Int), t16 = rd (movL j2 (List.drop i.toNat (List.take (IntKind.i64.wrap (i + (1 : Int))).toNat xs))) (0 : Nat) (1 : Nat) → ∀ (t17 : Int), t17 = rd (movL j2 (List.drop i.toNat (List.take (IntKind.i64.wrap (i + (1 : Int))).toNat xs))) (0 : Nat) (2 : Nat) → ∀ (t18 : Int), t18 = rd (movL j2 (List.drop i.toNat (List.take (IntKind.i64.wrap (i + (1 : Int))).toNat xs))) (0 : Nat) (3 : Nat) → ∀ (t19 : Int), t19 = mx IntKind.i64 (IntKind.i64.wrap ((0 : Int) - IntKind.i64.wrap u)) (-9223372036854775807 : Int) * (18446744073709551616 : Int) → ∀ (t20 : Int), t20 = mx IntKind.i64 t10 (-9223372036854775807 : Int) * (18446744073709551616 : Int) → ∀ (t21 : Int), t21 = mx IntKind.i64 t13 (-9223372036854775807 : Int) * (18446744073709551616 : Int) → ∀ (t22 : Prop), t22 = ((0 : Int) ≤ i ∧ i ≤ IntKind.i64.wrap (i + (1 : Int)) ∧ IntKind.i64.wrap (i + (1 : Int)) ≤ (↑xs.length : Int)) → ∀ (t23 : Prop), t23 = ((0 : Int) ≤ (0 : Int) ∧ (0 : Int) < t14) → ∀ (t24 : Int), t24 = spdE (rowA [IV.agg (rowCells ksB xs i.toNat (0 : Nat) (20 : Nat))] (0 : Nat)) → ∀ (t25 : Int), t25 = spdX (rowA [IV.agg (rowCells ksB xs i.toNat (0 : Nat) (20 : Nat))] (0 : Nat)) → ∀ (t26 : Int), t26 = spdY (rowA [IV.agg (rowCells ksB xs i.toNat (0 : Nat) (20 : Nat))] (0 : Nat)) → ∀ (t27 : Prop), t27 = (pMove [IV.sl (0 : Nat), fx t1] [Blk.ro ksB (List.drop i.toNat (List.take (IntKind.i64.wrap (i + (1 : Int))).toNat xs))] ∧ preI [IV.int IntKind.i64 t12] [] ∧ br (t12 != (0 : Int)) (k Out.ret (St.mk (T (162 : Nat) [((8 : Nat), IV.bool false)]) [some (Blk.ro [IntKind.u8] ns)])) (br (t14 != (1 : Int)) (k Out.ret (St.mk (T (162 : Nat) [((8 : Nat), IV.bool false)]) [some (Blk.ro [IntKind.u8] ns)])) (t23 ∧ t23 ∧ t8 ∧ t8 ∧ br (!(decide (t15 = t3) && (decide (t16 = t4) && (decide (t17 = t5) && (decide (t18 = t6) && true))))) (k Out.ret (St.mk (T (162 : Nat) [((8 : Nat), IV.bool false)]) [some (Blk.ro [IntKind.u8] ns)])) (t8 ∧ t8 ∧ preI [IV.int IntKind.i64 t10] [] ∧ preI [IV.int IntKind.i64 t13] [] ∧ br (!(decide (t3 = t20 / (18446744073709551616 : Int)) && (decide (t4 = t20 % (18446744073709551616 : Int)) && (decide (t5 = t21 / (18446744073709551616 : Int)) && (decide (t6 = t21 % (18446744073709551616 : Int)) && true))))) (k Out.ret (St.mk (T (162 : Nat) [((8 : Nat), IV.bool false)]) [some (Blk.ro [IntKind.u8] ns)])) (t9 ∧ t9 ∧ pB [IV.agg (rowCells ksB xs i.toNat (0 : Nat) (20 : Nat))] [] ∧ preI [IV.int IntKind.i64 t24] [] ∧ br (t24 != (0 : Int)) (k Out.ret (St.mk (T (162 : Nat) [((8 : Nat), IV.bool false)]) [some (Blk.ro [IntKind.u8] ns)])) (preI [IV.int IntKind.i64 (IntKind.i64.wrap v)] [] ∧ preI [IV.int IntKind.i64 (IntKind.i64.wrap ((0 : Int) - IntKind.i64.wrap u))] [] ∧ br (!(decide (t25 / (18446744073709551616 : Int) = t11 / (18446744073709551616 : Int)) && (decide (t25 % (18446744073709551616 : Int) = t11 % (18446744073709551616 : Int)) && (decide (t26 / (18446744073709551616 : Int) = t19 / (18446744073709551616 : Int)) && (decide (t26 % (18446744073709551616 : Int) = t19 % (18446744073709551616 : Int)) && true))))) (k Out.ret (St.mk (T (162 : Nat) [((8 : Nat), IV.bool false)]) [some (Blk.ro [IntKind.u8] ns)])) (k Out.normal (St.mk (T (162 : Nat) [((1 : Nat), IV.int IntKind.i16 v), ((2 : Nat), IV.int IntKind.i16 u), ((3 : Nat), IV.int IntKind.u8 h), ((9 : Nat), IV.sl (1 : Nat)), ((12 : Nat), IV.sl (2 : Nat)), ((14 : Nat), IV.int IntKind.i64 (IntKind.i64.wrap (i + (1 : Int))))]) [some (Blk.ro [IntKind.u8] ns), some (Blk.ro ksB xs), some (Blk.row (30 : Nat) ksV zs)])))))))) → br (decide (i < (↑xs.length : Int))) ((t22 ∧ t7 ∧ t27) ∧ t7 ∧ t22 ∧ t27) (k (Out.exit (2 : Nat)) (St.mk (T (162 : Nat) [((12 : Nat), IV.sl (1 : Nat))]) [some (Blk.ro [IntKind.u8] ns), some (Blk.row (30 : Nat) ksV zs)]))) := by refine nm ?_; refine nj ?_; refine nm ?_; refine nm ?_; refine nm ?_; refine nm ?_; refine nm ?_; refine nm ?_; refine nm ?_; refine nm ?_; refine nm ?_; refine nm ?_; refine nm ?_; refine nm ?_; refine nm ?_; refine nm ?_; refine nm ?_; refine nm ?_; refine nm ?_; refine nm ?_; refine nm ?_; refine nm ?_; refine nm ?_; refine nm ?_; refine nm ?_; refine nm ?_; refine nm ?_; kernel_rfl
theorem rWholeRo (Λ : FuncId → Nat → Option LoopS) (d : Nat) (ns xs zs : List (List Int)) (v u h i : Int) (k : Out → St → Prop) : (round (envOf Try.prog ⟨Γe5, Λ, fun _ => none⟩ d) f_perigeelaw13_DriftWhole 1 1 (lp Try.prog f_perigeelaw13_DriftWhole 1) (SdV ns (.ro ksB xs) zs v u h i) k) = (∀ (t1 : Int), t1 = mx IntKind.i64 (IntKind.i64.wrap h) (-9223372036854775807 : Int) * (18446744073709551616 : Int) → ∀ (j2 : Int), j2 = t1 → ∀ (t3 : Int), t3 = rd zs i.toNat (0 : Nat) → ∀ (t4 : Int), t4 = rd zs i.toNat (1 : Nat) → ∀ (t5 : Int), t5 = rd zs i.toNat (2 : Nat) → ∀ (t6 : Int), t6 = rd zs i.toNat (3 : Nat) → ∀ (t7 : Prop), t7 = preI [IV.int IntKind.i64 (IntKind.i64.wrap h)] [] → ∀ (t8 : Prop), t8 = ((0 : Int) ≤ i ∧ i < (↑zs.length : Int)) → ∀ (t9 : Prop), t9 = ((0 : Int) ≤ i ∧ i < (↑xs.length : Int)) → ∀ (t10 : Int), t10 = IntKind.i64.wrap (i + IntKind.i64.wrap (IntKind.i64.wrap v * IntKind.i64.wrap h)) → ∀ (t11 : Int), t11 = mx IntKind.i64 (IntKind.i64.wrap v) (-9223372036854775807 : Int) * (18446744073709551616 : Int) → ∀ (t12 : Int), t12 = movE j2 (List.drop i.toNat (List.take (IntKind.i64.wrap (i + (1 : Int))).toNat xs)) → ∀ (t13 : Int), t13 = IntKind.i64.wrap (IntKind.i64.wrap ((0 : Int) - IntKind.i64.wrap u) * IntKind.i64.wrap h) → ∀ (t14 : Int), t14 = (↑(movL j2 (List.drop i.toNat (List.take (IntKind.i64.wrap (i + (1 : Int))).toNat xs))).length : Int) → ∀ (t15 : Int), t15 = rd (movL j2 (List.drop i.toNat (List.take (IntKind.i64.wrap (i + (1 : Int))).toNat xs))) (0 : Nat) (0 : Nat) → ∀ (t16 : Int), t16 = rd (movL j2 (List.drop i.toNat (List.take (IntKind.i64.wrap (i + (1 : Int))).toNat xs))) (0 : Nat) (1 : Nat) → ∀ (t17 : Int), t17 = rd (movL j2 (List.drop i.toNat (List.take (IntKind.i64.wrap (i + (1 : Int))).toNat xs))) (0 : Nat) (2 : Nat) → ∀ (t18 : Int), t18 = rd (movL j2 (List.drop i.toNat (List.take (IntKind.i64.wrap (i + (1 : Int))).toNat xs))) (0 : Nat) (3 : Nat) → ∀ (t19 : Int), t19 = mx IntKind.i64 (IntKind.i64.wrap ((0 : Int) - IntKind.i64.wrap u)) (-9223372036854775807 : Int) * (18446744073709551616 : Int) → ∀ (t20 : Int), t20 = mx IntKind.i64 t10 (-9223372036854775807 : Int) * (18446744073709551616 : Int) → ∀ (t21 : Int), t21 = mx IntKind.i64 t13 (-9223372036854775807 : Int) * (18446744073709551616 : Int) → ∀ (t22 : Prop), t22 = ((0 : Int) ≤ i ∧ i ≤ IntKind.i64.wrap (i + (1 : Int)) ∧ IntKind.i64.wrap (i + (1 : Int)) ≤ (↑xs.length : Int)) → ∀ (t23 : Prop), t23 = ((0 : Int) ≤ (0 : Int) ∧ (0 : Int) < t14) → ∀ (t24 : Int), t24 = spdE (rowA [IV.agg (rowCells ksB xs i.toNat (0 : Nat) (20 : Nat))] (0 : Nat)) → ∀ (t25 : Int), t25 = spdX (rowA [IV.agg (rowCells ksB xs i.toNat (0 : Nat) (20 : Nat))] (0 : Nat)) → ∀ (t26 : Int), t26 = spdY (rowA [IV.agg (rowCells ksB xs i.toNat (0 : Nat) (20 : Nat))] (0 : Nat)) → ∀ (t27 : Prop), t27 = (pMove [IV.sl (0 : Nat), fx t1] [Blk.ro ksB (List.drop i.toNat (List.take (IntKind.i64.wrap (i + (1 : Int))).toNat xs))] ∧ preI [IV.int IntKind.i64 t12] [] ∧ br (t12 != (0 : Int)) (k Out.ret (St.mk (T (162 : Nat) [((8 : Nat), IV.bool false)]) [some (Blk.ro [IntKind.u8] ns)])) (br (t14 != (1 : Int)) (k Out.ret (St.mk (T (162 : Nat) [((8 : Nat), IV.bool false)]) [some (Blk.ro [IntKind.u8] ns)])) (t23 ∧ t23 ∧ t8 ∧ t8 ∧ br (!(decide (t15 = t3) && (decide (t16 = t4) && (decide (t17 = t5) && (decide (t18 = t6) && true))))) (k Out.ret (St.mk (T (162 : Nat) [((8 : Nat), IV.bool false)]) [some (Blk.ro [IntKind.u8] ns)])) (t8 ∧ t8 ∧ preI [IV.int IntKind.i64 t10] [] ∧ preI [IV.int IntKind.i64 t13] [] ∧ br (!(decide (t3 = t20 / (18446744073709551616 : Int)) && (decide (t4 = t20 % (18446744073709551616 : Int)) && (decide (t5 = t21 / (18446744073709551616 : Int)) && (decide (t6 = t21 % (18446744073709551616 : Int)) && true))))) (k Out.ret (St.mk (T (162 : Nat) [((8 : Nat), IV.bool false)]) [some (Blk.ro [IntKind.u8] ns)])) (t9 ∧ t9 ∧ pB [IV.agg (rowCells ksB xs i.toNat (0 : Nat) (20 : Nat))] [] ∧ preI [IV.int IntKind.i64 t24] [] ∧ br (t24 != (0 : Int)) (k Out.ret (St.mk (T (162 : Nat) [((8 : Nat), IV.bool false)]) [some (Blk.ro [IntKind.u8] ns)])) (preI [IV.int IntKind.i64 (IntKind.i64.wrap v)] [] ∧ preI [IV.int IntKind.i64 (IntKind.i64.wrap ((0 : Int) - IntKind.i64.wrap u))] [] ∧ br (!(decide (t25 / (18446744073709551616 : Int) = t11 / (18446744073709551616 : Int)) && (decide (t25 % (18446744073709551616 : Int) = t11 % (18446744073709551616 : Int)) && (decide (t26 / (18446744073709551616 : Int) = t19 / (18446744073709551616 : Int)) && (decide (t26 % (18446744073709551616 : Int) = t19 % (18446744073709551616 : Int)) && true))))) (k Out.ret (St.mk (T (162 : Nat) [((8 : Nat), IV.bool false)]) [some (Blk.ro [IntKind.u8] ns)])) (k Out.normal (St.mk (T (162 : Nat) [((1 : Nat), IV.int IntKind.i16 v), ((2 : Nat), IV.int IntKind.i16 u), ((3 : Nat), IV.int IntKind.u8 h), ((9 : Nat), IV.sl (1 : Nat)), ((12 : Nat), IV.sl (2 : Nat)), ((14 : Nat), IV.int IntKind.i64 (IntKind.i64.wrap (i + (1 : Int))))]) [some (Blk.ro [IntKind.u8] ns), some (Blk.ro ksB xs), some (Blk.row (30 : Nat) ksV zs)])))))))) → br (decide (i < (↑xs.length : Int))) ((t22 ∧ t7 ∧ t27) ∧ t7 ∧ t22 ∧ t27) (k (Out.exit (2 : Nat)) (St.mk (T (162 : Nat) [((12 : Nat), IV.sl (1 : Nat))]) [some (Blk.ro [IntKind.u8] ns), some (Blk.row (30 : Nat) ksV zs)]))) := by refine nm ?_; refine nj ?_; refine nm ?_; refine nm ?_; refine nm ?_; refine nm ?_; refine nm ?_; refine nm ?_; refine nm ?_; refine nm ?_; refine nm ?_; refine nm ?_; refine nm ?_; refine nm ?_; refine nm ?_; refine nm ?_; refine nm ?_; refine nm ?_; refine nm ?_; refine nm ?_; refine nm ?_; refine nm ?_; refine nm ?_; refine nm ?_; refine nm ?_; refine nm ?_; refine nm ?_; kernel_rfl
def pDv (n0 : Nat) (st : St) (ns zs : List (List Int)) (v u h : Int) : Prop := okRows [.u8] ns ∧ ns.length ≤ 10 ∧ (-32768 ≤ v ∧ v ≤ 32767) ∧ (-32768 ≤ u ∧ u ≤ 32767) ∧ (0 ≤ h ∧ h ≤ 255) ∧ zs = movL (h * 18446744073709551616) (whoAll v u ns) ∧ n0 = 1 ∧ st = SdV ns (.row 32 ksB (whoAll v u ns)) zs v u h 0
noncomputable def LDv : LoopS := fun n0 st K => ∃ ns zs v u h, pDv n0 st ns zs v u h ∧ K (.exit 2) ⟨T 162 [(12, .sl 1)], [some (.ro [.u8] ns), some (.row 30 ksV zs)]⟩
noncomputable def NDw : Know := ⟨Γe5, fun f i => if f = f_perigeelaw13_DriftWhole then (if i = 0 then some LDw else if i = 1 then some LDv else none) else none, fun _ => none⟩
theorem v_DriftWhole (ns : List (List Int)) (v u h : Int) (K : IV → List Blk → Prop) : (comes Try.prog NDw 3 f_perigeelaw13_DriftWhole [.sl 0, .int .i16 v, .int .i16 u, .int .u8 h] [.ro [.u8] ns] K) = (br (decide ((↑ns.length : Int) > (10 : Int))) (pNo13 [] [] ∧ K (IV.bool true) []) (∃ ns_1 v_1 u_1 h_1, pDw (1 : Nat) (St.mk (T (162 : Nat) [((0 : Nat), IV.sl (0 : Nat)), ((1 : Nat), IV.int IntKind.i16 v), ((2 : Nat), IV.int IntKind.i16 u), ((3 : Nat), IV.int IntKind.u8 h), ((9 : Nat), IV.sl (1 : Nat)), ((10 : Nat), IV.int IntKind.i64 (0 : Int))]) [some (Blk.ro [IntKind.u8] ns), some (Blk.row (32 : Nat) ksB [])]) ns_1 v_1 u_1 h_1 ∧ preI [IV.int IntKind.i64 (IntKind.i64.wrap h_1)] [] ∧ pMove [IV.sl (0 : Nat), fx (mx IntKind.i64 (IntKind.i64.wrap h_1) (-9223372036854775807 : Int) * (18446744073709551616 : Int))] [Blk.ro ksB (whoAll v_1 u_1 ns_1)] ∧ preI [IV.int IntKind.i64 (movE (mx IntKind.i64 (IntKind.i64.wrap h_1) (-9223372036854775807 : Int) * (18446744073709551616 : Int) / (18446744073709551616 : Int) * (18446744073709551616 : Int) + mx IntKind.i64 (IntKind.i64.wrap h_1) (-9223372036854775807 : Int) * (18446744073709551616 : Int) % (18446744073709551616 : Int)) (whoAll v_1 u_1 ns_1))] [] ∧ br (movE (mx IntKind.i64 (IntKind.i64.wrap h_1) (-9223372036854775807 : Int) * (18446744073709551616 : Int) / (18446744073709551616 : Int) * (18446744073709551616 : Int) + mx IntKind.i64 (IntKind.i64.wrap h_1) (-9223372036854775807 : Int) * (18446744073709551616 : Int) % (18446744073709551616 : Int)) (whoAll v_1 u_1 ns_1) != (0 : Int)) (K (IV.bool false) []) (br ((↑(movL (mx IntKind.i64 (IntKind.i64.wrap h_1) (-9223372036854775807 : Int) * (18446744073709551616 : Int) / (18446744073709551616 : Int) * (18446744073709551616 : Int) + mx IntKind.i64 (IntKind.i64.wrap h_1) (-9223372036854775807 : Int) * (18446744073709551616 : Int) % (18446744073709551616 : Int)) (whoAll v_1 u_1 ns_1)).length : Int) != (↑(whoAll v_1 u_1 ns_1).length : Int)) (K (IV.bool false) []) (∃ ns zs v u h, pDv (1 : Nat) (St.mk (T (162 : Nat) [((1 : Nat), IV.int IntKind.i16 v_1), ((2 : Nat), IV.int IntKind.i16 u_1), ((3 : Nat), IV.int IntKind.u8 h_1), ((9 : Nat), IV.sl (1 : Nat)), ((12 : Nat), IV.sl (2 : Nat)), ((14 : Nat), IV.int IntKind.i64 (0 : Int))]) [some (Blk.ro [IntKind.u8] ns_1), some (Blk.row (32 : Nat) ksB (whoAll v_1 u_1 ns_1)), some (Blk.row (30 : Nat) ksV (movL (mx IntKind.i64 (IntKind.i64.wrap h_1) (-9223372036854775807 : Int) * (18446744073709551616 : Int) / (18446744073709551616 : Int) * (18446744073709551616 : Int) + mx IntKind.i64 (IntKind.i64.wrap h_1) (-9223372036854775807 : Int) * (18446744073709551616 : Int) % (18446744073709551616 : Int)) (whoAll v_1 u_1 ns_1)))]) ns zs v u h ∧ pSame [IV.sl (0 : Nat), IV.sl (1 : Nat)] [Blk.ro ksV zs, Blk.ro ksV zs] ∧ br (bp (zs = zs)) (pNo13 [] [] ∧ K (IV.bool true) []) (K (IV.bool false) []))))) := by kernel_rfl
end Go.Vs.RF


set_option linter.unusedVariables false
set_option linter.unusedSimpArgs false
set_option maxRecDepth 100000
/- DriftWhole -/
namespace Go.Vs.RF
open Go Go.Proofs Go.Vs Go.IntWalk

theorem smul {v h : Int} (hv : -32768 ≤ v ∧ v ≤ 32767) (hh : 0 ≤ h ∧ h ≤ 256) : -8388608 ≤ v * h ∧ v * h ≤ 8388608 := by
  have q1 : v * h ≤ 32767 * h := Int.mul_le_mul_of_nonneg_right hv.2 hh.1
  have q2 : -32768 * h ≤ v * h := Int.mul_le_mul_of_nonneg_right hv.1 hh.1
  omega
theorem gmul {v h : Int} (hv : -32768 ≤ v ∧ v ≤ 32767) (hh : 0 ≤ h ∧ h ≤ 256) : -8388608 ≤ h * v ∧ h * v ≤ 8388608 := by rw [Int.mul_comm]; exact smul hv hh
theorem ns_rd {ns : List (List Int)} (h : okRows [.u8] ns) {i : Nat} (hi : i < ns.length) : ns[i].getD 0 0 = rd ns i 0 ∧ u8ok (ns[i].getD 0 0) := by
  have e : rd ns i 0 = ns[i].getD 0 0 := by unfold rd; rw [get_row hi]
  exact ⟨e.symm, by rw [← e]; exact u8_rd h i⟩
theorem lDw (d n0 : Nat) : LoopOk (envOf Try.prog NDw d) f_perigeelaw13_DriftWhole n0 0 (lp Try.prog f_perigeelaw13_DriftWhole 0) LDw := by
  intro st K hst
  obtain ⟨ns, v, u, h, ⟨hr, hl, hv, hu, rfl, rfl⟩, hK⟩ := hst
  refine loop_of (fun i : Nat => SdW ns (whoAll v u (ns.take i)) v u h i) (fun i => i ≤ ns.length) (fun i => ns.length - i) ?_ (a := 0) (Nat.zero_le _)
  intro i hle k hn hk
  show round (envOf Try.prog ⟨Γe5, _, fun _ => none⟩ d) _ _ _ _ _ k
  rw [rWholeMake]
  rw [show ((i : Nat) : Int).toNat = i by omega]
  rintro t1 e1 t2 e2 t3 e3 t4 e4 t5 e5 t6 e6 t7 e7 t8 e8
  rw [br_dec]
  constructor
  · intro hi
    have hi' : i < ns.length := by omega
    obtain ⟨en, hn8⟩ := ns_rd hr hi'
    unfold u8ok at hn8
    rw [← en] at e3
    generalize hm : ns[i].getD 0 0 = n at *
    have p1 : t1 := by rw [e1]; omega
    have mv := gmul (v := v) (h := 1 + n) hv (by omega)
    have mu := gmul (v := u) (h := 1 + n) hu (by omega)
    rw [i64_in n (by omega), i64_in (1 + n) (by omega)] at e3
    rw [e3, i64_in v (by omega), i64_in _ (by omega)] at e4
    rw [e3, i64_in u (by omega), i64_in (0 - (1 + n)) (by omega), show (0 - (1 + n)) * u = -((1 + n) * u) by rw [Int.zero_sub, Int.neg_mul], i64_in _ (by omega)] at e6
    rw [mx_of (by omega)] at e2 e5 e7 e8
    have hz : (whoAll v u (ns.take i)).length = i := by unfold whoAll; rw [List.length_mapIdx, List.length_take]; omega
    refine ⟨p1, p1, preI_of ⟨by omega, by omega⟩, preI_of ⟨by omega, by omega⟩, preI_of ⟨by omega, by omega⟩, preI_of ⟨by omega, by omega⟩, by rw [hz]; omega, ?_⟩
    have := hn (i + 1) hi' (by omega)
    have hs : whoAll v u (ns.take (i + 1)) = whoAll v u (ns.take i) ++ [whoR v u i ns[i]] := by
      unfold whoAll
      rw [List.take_add_one, List.getElem?_eq_getElem hi', Option.toList_some, List.mapIdx_append]
      simp [List.length_take, Nat.min_eq_left (Nat.le_of_lt hi')]
    rw [hs] at this
    have hrow : [t5 / 18446744073709551616, t5 % 18446744073709551616, 0, 0, t2 / 18446744073709551616, t2 % 18446744073709551616, 0, 0, t7 / 18446744073709551616, t7 % 18446744073709551616, t8 / 18446744073709551616, t8 % 18446744073709551616, 0, 0, 0, 0, 0, 0, 0, 0] = whoR v u i ns[i] := by
      unfold whoR
      rw [hm, e5, e2, e7, e8, e3, e4, e6]
      simp only [Int.mul_emod_left, Int.mul_ediv_cancel _ (show (18446744073709551616 : Int) ≠ 0 by decide)]
    rw [← hrow] at this
    rw [show IntKind.i64.wrap ((i : Int) + 1) = ((i + 1 : Nat) : Int) by rw [i64_in _ (by omega)]; rfl]
    exact this
  · intro hi
    have hi' : i = ns.length := by omega
    subst hi'
    rw [List.take_length]
    exact hk _ _ (by simp) hK
/-- what such a body is -/
theorem who_nums {v u : Int} {p : Nat} {n : List Int} (hn : u8ok (n.getD 0 0)) (hp : p ≤ 10) (hv : -32768 ≤ v ∧ v ≤ 32767) (hu : -32768 ≤ u ∧ u ≤ 32767) :
    fr (whoR v u p n) 0 = (1 + n.getD 0 0) * 18446744073709551616 ∧ fr (whoR v u p n) 4 = (p : Int) * 18446744073709551616 ∧ fr (whoR v u p n) 6 = 0 ∧ fr (whoR v u p n) 8 = (1 + n.getD 0 0) * v * 18446744073709551616 ∧ fr (whoR v u p n) 10 = -((1 + n.getD 0 0) * u) * 18446744073709551616 ∧ goodB (whoR v u p n) := by
  have e0 : fr (whoR v u p n) 0 = (1 + n.getD 0 0) * 18446744073709551616 := Int.add_zero _
  have e4 : fr (whoR v u p n) 4 = (p : Int) * 18446744073709551616 := Int.add_zero _
  have e6 : fr (whoR v u p n) 6 = 0 := by show (0 : Int) * 18446744073709551616 + 0 = 0; decide
  have e8 : fr (whoR v u p n) 8 = (1 + n.getD 0 0) * v * 18446744073709551616 := Int.add_zero _
  have e10 : fr (whoR v u p n) 10 = -((1 + n.getD 0 0) * u) * 18446744073709551616 := Int.add_zero _
  refine ⟨e0, e4, e6, e8, e10, rfl, ?_, ?_⟩
  · unfold u8ok at hn
    have mv := gmul (v := v) (h := 1 + n.getD 0 0) hv (by omega)
    have mu := gmul (v := u) (h := 1 + n.getD 0 0) hu (by omega)
    have I : ∀ {n : Int}, -9223372036854775808 ≤ n → n ≤ 9223372036854775807 → inK .i64 n := fun h1 h2 => ⟨h1, h2⟩
    have U : inK .u64 0 := ⟨by decide, by decide⟩
    have I0 : inK .i64 0 := ⟨by decide, by decide⟩
    intro j hj
    rcases j with _|_|_|_|_|_|_|_|_|_|_|_|_|_|_|_|_|_|_|_|j
    · show inK .i64 (1 + n.getD 0 0); exact I (by omega) (by omega)
    · exact U
    · exact I0
    · exact U
    · show inK .i64 (p : Int); exact I (by omega) (by omega)
    · exact U
    · exact I0
    · exact U
    · show inK .i64 ((1 + n.getD 0 0) * v); exact I (by omega) (by omega)
    · exact U
    · show inK .i64 (-((1 + n.getD 0 0) * u)); exact I (by omega) (by omega)
    · exact U
    · exact I0
    · exact U
    · exact I0
    · exact U
    · exact I0
    · exact U
    · exact I0
    · exact I0
    · omega
  · unfold u8ok at hn
    have mv := gmul (v := v) (h := 1 + n.getD 0 0) hv (by omega)
    have mu := gmul (v := u) (h := 1 + n.getD 0 0) hu (by omega)
    unfold mayB
    rw [e0, e4, e6, e8, e10]
    exact ⟨⟨by omega, by omega⟩, ⟨by omega, by omega⟩, may_zero, ⟨by omega, by omega⟩, ⟨by omega, by omega⟩⟩
theorem div_whole {a m : Int} (hm : 1 ≤ m) (ha : -1000000000 ≤ a ∧ a ≤ 1000000000) : divE (a * (m * 18446744073709551616)) (m * 18446744073709551616) = 0 ∧ divN (a * (m * 18446744073709551616)) (m * 18446744073709551616) = a * 18446744073709551616 := by
  have hne : m * 18446744073709551616 ≠ 0 := by omega
  have hm2 : mayF (a * 18446744073709551616) := ⟨by omega, by omega⟩
  unfold divE divN
  rw [if_neg hne, if_neg hne, quo_exact _ _ hne, err_may hm2, num_may hm2]
  exact ⟨rfl, rfl⟩
theorem on_whole {x k m h : Int} (hm : 1 ≤ m) (hk : -70000 ≤ k ∧ k ≤ 70000) (hmm : m ≤ 256) (hh : 0 ≤ h ∧ h ≤ 255) (hx : 0 ≤ x ∧ x ≤ 100) (w : Int) (hw : k * h = w) (hwb : -20000000 ≤ w ∧ w ≤ 20000000) :
    onE (x * 18446744073709551616) (m * k * 18446744073709551616) (m * 18446744073709551616) (h * 18446744073709551616) = 0 ∧ onN (x * 18446744073709551616) (m * k * 18446744073709551616) (m * 18446744073709551616) (h * 18446744073709551616) = (x + w) * 18446744073709551616 := by
  have e1 : mulI (m * k * 18446744073709551616) (h * 18446744073709551616) = w * (m * 18446744073709551616) := by
    rw [mulI_whole, ← hw]
    ac_rfl
  have b1 : -(256 * 20000000) ≤ w * m ∧ w * m ≤ 256 * 20000000 := by
    have q1 : w * m ≤ 20000000 * m := Int.mul_le_mul_of_nonneg_right hwb.2 (by omega)
    have q2 : -20000000 * m ≤ w * m := Int.mul_le_mul_of_nonneg_right hwb.1 (by omega)
    omega
  have m1 : mayF (w * (m * 18446744073709551616)) := by
    rw [← Int.mul_assoc]; exact ⟨by omega, by omega⟩
  obtain ⟨d1, d2⟩ := div_whole (a := w) hm ⟨by omega, by omega⟩
  have m2 : mayF (x * 18446744073709551616 + w * 18446744073709551616) := ⟨by omega, by omega⟩
  have hE : onE (x * 18446744073709551616) (m * k * 18446744073709551616) (m * 18446744073709551616) (h * 18446744073709551616) = 0 := by
    unfold onE
    rw [e1, if_neg (fun hh => hh (err_may m1)), if_neg (fun hh => hh d1), d2, err_may m2]
  refine ⟨hE, ?_⟩
  unfold onN
  rw [if_pos hE, e1, d2]
  omega
/-- what becomes of such a body -/
theorem who_goes {v u h : Int} {p : Nat} {n : List Int} (hn : u8ok (n.getD 0 0)) (hp : p ≤ 10) (hv : -32768 ≤ v ∧ v ≤ 32767) (hu : -32768 ≤ u ∧ u ≤ 32767) (hh : 0 ≤ h ∧ h ≤ 255) :
    mvE (whoR v u p n) (h * 18446744073709551616) = 0 ∧ mvX (whoR v u p n) (h * 18446744073709551616) = ((p : Int) + v * h) * 18446744073709551616 ∧ mvY (whoR v u p n) (h * 18446744073709551616) = (-u * h) * 18446744073709551616 ∧
    spdE (whoR v u p n) = 0 ∧ spdX (whoR v u p n) = v * 18446744073709551616 ∧ spdY (whoR v u p n) = -u * 18446744073709551616 := by
  obtain ⟨e0, e4, e6, e8, e10, _⟩ := who_nums (p := p) hn hp hv hu
  unfold u8ok at hn
  generalize n.getD 0 0 = q at *
  have vh := smul (v := v) (h := h) hv (by omega)
  have uh := smul (v := u) (h := h) hu (by omega)
  have nuh : -u * h = -(u * h) := Int.neg_mul _ _
  obtain ⟨a1, a2⟩ := on_whole (x := p) (k := v) (m := 1 + q) (h := h) (by omega) ⟨by omega, by omega⟩ (by omega) hh ⟨by omega, by omega⟩ (v * h) rfl ⟨by omega, by omega⟩
  obtain ⟨b1, b2⟩ := on_whole (x := 0) (k := -u) (m := 1 + q) (h := h) (by omega) ⟨by omega, by omega⟩ (by omega) hh ⟨by omega, by omega⟩ (-u * h) rfl ⟨by omega, by omega⟩
  rw [show (0 : Int) * 18446744073709551616 = 0 by decide, show (1 + q) * -u = -((1 + q) * u) from Int.mul_neg _ _] at b1 b2
  rw [Int.zero_add] at b2
  have ex : mvx (whoR v u p n) (h * 18446744073709551616) = ((p : Int) + v * h) * 18446744073709551616 := by unfold mvx; rw [e4, e8, e0, a2]
  have ey : mvy (whoR v u p n) (h * 18446744073709551616) = (-u * h) * 18446744073709551616 := by unfold mvy; rw [e6, e10, e0, b2]
  have hE : mvE (whoR v u p n) (h * 18446744073709551616) = 0 := mv_ok (by rw [e4, e8, e0]; exact a1) (by rw [e6, e10, e0]; exact b1) (by
    rw [ex, ey]
    unfold wiB inB
    rw [decide_eq_true (by omega), decide_eq_true (by omega)]; rfl)
  obtain ⟨c1, c2⟩ := div_whole (a := v) (m := 1 + q) (by omega) ⟨by omega, by omega⟩
  obtain ⟨d1, d2⟩ := div_whole (a := -u) (m := 1 + q) (by omega) ⟨by omega, by omega⟩
  have r8 : (1 + q) * v * 18446744073709551616 = v * ((1 + q) * 18446744073709551616) := by ac_rfl
  have r10 : -((1 + q) * u) * 18446744073709551616 = -u * ((1 + q) * 18446744073709551616) := by
    rw [Int.neg_mul, Int.neg_mul]; congr 1; ac_rfl
  have hO : ovE (fr (whoR v u p n) 8) (fr (whoR v u p n) 10) (fr (whoR v u p n) 0) = 0 := by
    unfold ovE
    rw [e8, e10, e0, r8, r10, if_neg (fun hh => hh c1), d1]
  refine ⟨hE, by unfold mvX; rw [if_pos hE, ex], by unfold mvY; rw [if_pos hE, ey], hO, ?_, ?_⟩
  · unfold spdX ovX; rw [if_pos hO, e8, e0, r8, c2]
  · unfold spdY ovY; rw [if_pos hO, e10, e0, r10, d2]
theorem who_get {v u : Int} {ns : List (List Int)} {i : Nat} (hi : i < ns.length) : (whoAll v u ns)[i]? = some (whoR v u i ns[i]) := by
  unfold whoAll; rw [List.getElem?_mapIdx, List.getElem?_eq_getElem hi]; rfl
theorem who_len (v u : Int) (ns : List (List Int)) : (whoAll v u ns).length = ns.length := by unfold whoAll; simp
theorem who_mem {v u : Int} {ns : List (List Int)} {r : List Int} (hr : r ∈ whoAll v u ns) : ∃ i, ∃ hi : i < ns.length, r = whoR v u i ns[i] := by
  obtain ⟨i, hi, he⟩ := List.mem_iff_getElem.1 hr
  have hi' : i < ns.length := by rw [who_len] at hi; exact hi
  have := who_get (v := v) (u := u) hi'
  rw [List.getElem?_eq_getElem hi, he] at this
  exact ⟨i, hi', Option.some.inj this⟩
theorem lDv (d n0 : Nat) : LoopOk (envOf Try.prog NDw d) f_perigeelaw13_DriftWhole n0 1 (lp Try.prog f_perigeelaw13_DriftWhole 1) LDv := by
  intro st K hst
  obtain ⟨ns, zs, v, u, h, ⟨hr, hl, hv, hu, hh, hz, rfl, rfl⟩, hK⟩ := hst
  refine loop_of (fun q : Nat × Bool => SdV ns (if q.2 then .row 32 ksB (whoAll v u ns) else .ro ksB (whoAll v u ns)) zs v u h q.1) (fun q => q.1 ≤ ns.length) (fun q => ns.length - q.1) ?_ (a := (0, true)) (Nat.zero_le _)
  rintro ⟨i, b⟩ hle k hn hk
  simp only at hle
  have hstep := hn (i + 1, false)
  simp only at hstep
  have hend : ∀ o st, o ≠ Out.normal → K o st → k o st := hk
  have main : ∀ (B : Blk), (B = .row 32 ksB (whoAll v u ns) ∨ B = .ro ksB (whoAll v u ns)) → round (envOf Try.prog NDw d) f_perigeelaw13_DriftWhole 1 1 (lp Try.prog f_perigeelaw13_DriftWhole 1) (SdV ns B zs v u h i) k := by
    intro B hB
    have vh := smul (v := v) (h := h) hv (by omega)
    have uh := smul (v := u) (h := h) hu (by omega)
    have nuh : -u * h = -(u * h) := Int.neg_mul _ _
    have es : IntKind.i64.wrap ((i : Int) + 1) = ((i + 1 : Nat) : Int) := by rw [i64_in _ (by omega)]; rfl
    have wh : IntKind.i64.wrap h = h := i64_in _ (by omega)
    have wv : IntKind.i64.wrap v = v := i64_in _ (by omega)
    have wu : IntKind.i64.wrap (0 - IntKind.i64.wrap u) = -u := by rw [i64_in u (by omega), i64_in _ (by omega)]; omega
    have wvh : IntKind.i64.wrap (v * h) = v * h := i64_in _ (by omega)
    have wix : IntKind.i64.wrap ((i : Int) + v * h) = (i : Int) + v * h := i64_in _ (by omega)
    have wuh : IntKind.i64.wrap (-u * h) = -u * h := i64_in _ (by omega)
    have ei : ((i : Nat) : Int).toNat = i := by omega
    have ei1 : ((i + 1 : Nat) : Int).toNat = i + 1 := by omega
    have hlen := who_len v u ns
    have hzs : ∀ p, ∀ hp : p < ns.length, zs.getD p [] = vecRow (((p : Int) + v * h) * 18446744073709551616) ((-u * h) * 18446744073709551616) := by
      intro p hp
      have hgo : ∀ r ∈ whoAll v u ns, mvE r (h * 18446744073709551616) = 0 := fun r hr' => by
        obtain ⟨j, hj, rfl⟩ := who_mem hr'
        exact (who_goes (ns_rd hr hj).2 (by omega) hv hu hh).1
      obtain ⟨_, g2, g3, _⟩ := who_goes (p := p) (ns_rd hr hp).2 (by omega) hv hu hh
      rw [hz, movL_ok (mov_none hgo)]
      unfold movL0
      have := who_get (v := v) (u := u) hp
      simp [List.getD, List.getElem?_map, this, g2, g3]
    have hzl : zs.length = ns.length := by
      have hgo : ∀ r ∈ whoAll v u ns, mvE r (h * 18446744073709551616) = 0 := fun r hr' => by
        obtain ⟨j, hj, rfl⟩ := who_mem hr'
        exact (who_goes (ns_rd hr hj).2 (by omega) hv hu hh).1
      rw [hz, movL_ok (mov_none hgo), movL0_len, hlen]
    rcases hB with rfl | rfl
    all_goals
      show round (envOf Try.prog ⟨Γe5, _, fun _ => none⟩ d) _ _ _ _ _ k
      first
        | rw [rWholeRow]
        | rw [rWholeRo]
      rw [es, wh, wv, wu, wvh, wix, wuh, ei, ei1, mx_of (by omega), mx_of (by omega), mx_of (by omega), hlen]
      rintro t1 e1 j2 rfl t3 e3 t4 e4 t5 e5 t6 e6 t7 e7 t8 e8 t9 e9 t10 e10 t11 e11 t12 e12 t13 e13 t14 e14 t15 e15 t16 e16 t17 e17 t18 e18 t19 e19 t20 e20 t21 e21 t22 e22 t23 e23 t24 e24 t25 e25 t26 e26 t27 e27
      rw [mx_of (by omega)] at e20 e21
      rw [br_dec]
      constructor
      · intro hi
        have hi' : i < ns.length := by omega
        obtain ⟨g1, g2, g3, g4, g5, g6⟩ := who_goes (p := i) (ns_rd hr hi').2 (by omega) hv hu hh
        obtain ⟨_, _, _, _, _, hgood⟩ := who_nums (p := i) (ns_rd hr hi').2 (by omega) hv hu
        have hone : List.drop i (List.take (i + 1) (whoAll v u ns)) = [whoR v u i ns[i]] := by
          rw [List.take_add_one, who_get hi', Option.toList_some, List.drop_append_of_le_length (by rw [List.length_take, hlen]; omega), List.drop_eq_nil_of_le (by rw [List.length_take]; omega)]
          rfl
        have hra : rowA [IV.agg (rowCells ksB (whoAll v u ns) i 0 20)] 0 = whoR v u i ns[i] := rowA_body _ 0 _ rfl (by
          rw [bodyR_row]
          have : (whoAll v u ns).getD i [] = whoR v u i ns[i] := by simp [List.getD, who_get hi']
          rw [this]; rfl)
        have hE1 : movE j2 [whoR v u i ns[i]] = 0 := by
          unfold movE; rw [e1, if_neg (fun hh => hh g1)]; rfl
        have hL1 : movL j2 [whoR v u i ns[i]] = [vecRow (((i : Int) + v * h) * 18446744073709551616) ((-u * h) * 18446744073709551616)] := by
          rw [movL_ok hE1]; unfold movL0; rw [List.map_cons, List.map_nil, e1, g2, g3]
        rw [hone, hE1] at e12
        rw [hone, hL1] at e14 e15 e16 e17 e18
        rw [hra] at e24 e25 e26
        rw [g4] at e24
        rw [g5] at e25
        rw [g6] at e26
        have ez : ∀ j, rd zs i j = (vecRow (((i : Int) + v * h) * 18446744073709551616) ((-u * h) * 18446744073709551616)).getD j 0 := fun j => by unfold rd; rw [hzs i hi']
        rw [ez] at e3 e4 e5 e6
        have p7 : t7 := by rw [e7]; exact preI_of ⟨by omega, by omega⟩
        have p8 : t8 := by rw [e8, hzl]; omega
        have p9 : t9 := by rw [e9]; omega
        have p22 : t22 := by rw [e22]; omega
        have p23 : t23 := by rw [e23, e14]; exact ⟨Int.le_refl 0, by simp⟩
        have z12 : t12 = 0 := e12
        have z14 : t14 = 1 := e14
        have p27 : t27 := by
          rw [e27, hone]
          refine ⟨⟨_, j2, rfl, rfl, fun r hr' => by rw [List.mem_singleton.1 hr']; exact hgood, by rw [e1]; exact ⟨by omega, by omega⟩, by simp⟩, by rw [z12]; exact preI_of ⟨by decide, by decide⟩, br_no (by rw [z12]; rfl) (br_no (by rw [z14]; rfl) ⟨p23, p23, p8, p8, br_no ?_ ⟨p8, p8, by rw [e10]; exact preI_of ⟨by omega, by omega⟩, by rw [e13]; exact preI_of ⟨by omega, by omega⟩, br_no ?_ ⟨p9, p9, ?_, by rw [e24]; exact preI_of ⟨by decide, by decide⟩, br_no (by rw [e24]; rfl) ⟨preI_of ⟨by omega, by omega⟩, preI_of ⟨by omega, by omega⟩, br_no ?_ (hstep hi' (by omega))⟩⟩⟩⟩)⟩
          · rw [e15, e16, e17, e18, e3, e4, e5, e6]
            simp [rd]
          · rw [e3, e4, e5, e6, e20, e21, e10, e13]
            simp [vecRow]
          · rw [bodyR_row]
            have : (whoAll v u ns).getD i [] = whoR v u i ns[i] := by simp [List.getD, who_get hi']
            rw [this]
            exact pB_of hgood
          · rw [e25, e26, e11, e19]
            simp
        exact ⟨⟨p22, p7, p27⟩, p7, p22, p27⟩
      · intro hi
        exact hk _ _ (by simp) hK
  cases b
  · exact main _ (.inr rfl)
  · exact main _ (.inl rfl)
def pWhole13 (l : List IV) (bs : List Blk) : Prop := ∃ ns v u h, l = [.sl 0, .int .i16 v, .int .i16 u, .int .u8 h] ∧ bs = [.ro [.u8] ns] ∧ (-32768 ≤ v ∧ v ≤ 32767) ∧ (-32768 ≤ u ∧ u ≤ 32767) ∧ 0 ≤ h ∧ h ≤ 255
noncomputable def spWhole13 : Vs.Spec := ⟨pWhole13, fun _ _ => (.bool true, [])⟩
theorem c_DriftWhole : Contract Try.prog f_perigeelaw13_DriftWhole spWhole13 := by
  refine contract_of (N := NDw) 3 (know_two (f0 := f_perigeelaw13_DriftWhole) (L1 := LDw) (L2 := LDv) (fun g sp h => ctrse5 h) rfl (fun g G h => noT h) lDw lDv 3) ?_
  rintro l bs _ hB ⟨ns, v, u, h, rfl, rfl, hv, hu, hh⟩
  have hb : okRows [.u8] ns ∧ 0 < [IntKind.u8].length ∧ ns.length ≤ maxLen := hB (.ro [.u8] ns) (List.mem_singleton.2 rfl)
  show comes _ _ _ _ _ _ _
  rw [v_DriftWhole, br_dec]
  refine ⟨fun _ => ⟨⟨rfl, rfl⟩, rfl⟩, fun hl => ?_⟩
  have hl' : ns.length ≤ 10 := by omega
  have hgo : ∀ r ∈ whoAll v u ns, mvE r (h * 18446744073709551616) = 0 := fun r hr' => by
    obtain ⟨j, hj, rfl⟩ := who_mem hr'
    exact (who_goes (ns_rd hb.1 hj).2 (by omega) hv hu hh).1
  have hE := mov_none hgo
  have hg : goodBs (whoAll v u ns) := fun r hr' => by
    obtain ⟨j, hj, rfl⟩ := who_mem hr'
    exact (who_nums (ns_rd hb.1 hj).2 (by omega) hv hu).2.2.2.2.2
  refine ⟨ns, v, u, h, ⟨hb.1, hl', hv, hu, rfl, rfl⟩, ?_⟩
  rw [i64_in h (by omega), mx_of (by omega)]
  simp only [join, hE]
  refine ⟨preI_of ⟨by omega, by omega⟩, ⟨_, _, rfl, rfl, hg, ⟨by omega, by omega⟩, by rw [who_len]; omega⟩, preI_of ⟨by decide, by decide⟩, br_no (by simp) (br_no (by rw [movL_ok hE, movL0_len]; simp) ?_)⟩
  refine ⟨ns, movL (h * 18446744073709551616) (whoAll v u ns), v, u, h, ⟨hb.1, hl', hv, hu, hh, rfl, rfl, rfl⟩, ⟨_, _, rfl, rfl, ?_, movL_len4 _ _, movL_len4 _ _⟩, br_is (bp_true (by trivial)) ⟨⟨rfl, rfl⟩, rfl⟩⟩
  have := movL_le (h * 18446744073709551616) (whoAll v u ns)
  rw [who_len] at this
  omega
/-! a struct that a law is handed -/
theorem fxArg13 {x : List Int} (l : x.length = 2) (k : ∀ j, j < 2 → inK (([.i64, .u64] : List IntKind).getD j .i64) (x.getD j 0)) : ∃ a, IV.agg (rowCells [.i64, .u64] [x] 0 0 2) = fx a ∧ inF a := by
  have k0 : (-9223372036854775808 : Int) ≤ x.getD 0 0 ∧ x.getD 0 0 ≤ 9223372036854775807 := k 0 (by decide)
  have k1 : (0 : Int) ≤ x.getD 1 0 ∧ x.getD 1 0 ≤ 18446744073709551615 := k 1 (by decide)
  refine ⟨x.getD 0 0 * 18446744073709551616 + x.getD 1 0, (fx_mk2 (b := x.getD 1 0) ⟨k1.1, by omega⟩ rfl).symm, ?_⟩
  unfold inF; omega
theorem vxArg13 {x : List Int} (l : x.length = 4) (k : ∀ j, j < 4 → inK (([.i64, .u64, .i64, .u64] : List IntKind).getD j .i64) (x.getD j 0)) : ∃ a b, IV.agg (rowCells [.i64, .u64, .i64, .u64] [x] 0 0 4) = vx a b ∧ inF a ∧ inF b := by
  have k0 : (-9223372036854775808 : Int) ≤ x.getD 0 0 ∧ x.getD 0 0 ≤ 9223372036854775807 := k 0 (by decide)
  have k1 : (0 : Int) ≤ x.getD 1 0 ∧ x.getD 1 0 ≤ 18446744073709551615 := k 1 (by decide)
  have k2 : (-9223372036854775808 : Int) ≤ x.getD 2 0 ∧ x.getD 2 0 ≤ 9223372036854775807 := k 2 (by decide)
  have k3 : (0 : Int) ≤ x.getD 3 0 ∧ x.getD 3 0 ≤ 18446744073709551615 := k 3 (by decide)
  refine ⟨x.getD 0 0 * 18446744073709551616 + x.getD 1 0, x.getD 2 0 * 18446744073709551616 + x.getD 3 0, ?_, ?_, ?_⟩
  · have := vx_cells (a := x.getD 0 0) (b := x.getD 1 0) (c := x.getD 2 0) (d := x.getD 3 0) ⟨k1.1, by omega⟩ ⟨k3.1, by omega⟩
    exact List.cons.inj this |>.1
  · unfold inF; omega
  · unfold inF; omega
theorem lawBack_of (ns : List (List Int)) {x : List Int} (l : x.length = 2) (k : ∀ j, j < 2 → inK (([.i64, .u64] : List IntKind).getD j .i64) (x.getD j 0)) : pBack13 [.sl 0, .agg (rowCells [.i64, .u64] [x] 0 0 2)] [.ro [.u8] ns] := by
  obtain ⟨a, e, ha⟩ := fxArg13 l k
  exact ⟨ns, a, by rw [e], rfl, ha⟩
theorem lawMade_of (ns : List (List Int)) {x : List Int} (l : x.length = 2) (k : ∀ j, j < 2 → inK (([.i64, .u64] : List IntKind).getD j .i64) (x.getD j 0)) {f : Int} (kf : inK .u8 f) : pMade13 [.sl 0, .agg (rowCells [.i64, .u64] [x] 0 0 2), .int .u8 f] [.ro [.u8] ns] := by
  obtain ⟨a, e, ha⟩ := fxArg13 l k
  have h : 0 ≤ f ∧ f ≤ 255 := kf
  exact ⟨ns, a, f, by rw [e], rfl, ha, h.1, h.2⟩
theorem lawAll_of (xs : List (List Int)) (hl : ∀ r ∈ xs, r.length = 20) {x : List Int} (l : x.length = 2) (k : ∀ j, j < 2 → inK (([.i64, .u64] : List IntKind).getD j .i64) (x.getD j 0)) {y : List Int} (ly : y.length = 4) (ky : ∀ j, j < 4 → inK (([.i64, .u64, .i64, .u64] : List IntKind).getD j .i64) (y.getD j 0)) :
    pDriftAll [.sl 0, .agg (rowCells [.i64, .u64] [x] 0 0 2), .agg (rowCells [.i64, .u64, .i64, .u64] [y] 0 0 4)] [.ro ksB xs] := by
  obtain ⟨a, e, ha⟩ := fxArg13 l k
  obtain ⟨b, c, e2, hb, hc⟩ := vxArg13 ly ky
  exact ⟨xs, a, b, c, by rw [e, e2], rfl, hl, ha, hb, hc⟩
theorem lawWhole_of (ns : List (List Int)) {v u h : Int} (kv : inK .i16 v) (ku : inK .i16 u) (kh : inK .u8 h) : pWhole13 [.sl 0, .int .i16 v, .int .i16 u, .int .u8 h] [.ro [.u8] ns] := ⟨ns, v, u, h, rfl, rfl, kv, ku, kh⟩
theorem lawEdges_of {n m s : Int} (kn : inK .i32 n) (km : inK .u8 m) (ks : inK .u8 s) : pEdges [.int .i32 n, .int .u8 m, .int .u8 s] [] := ⟨n, m, s, rfl, rfl, kn, km, ks⟩
end Go.Vs.RF
