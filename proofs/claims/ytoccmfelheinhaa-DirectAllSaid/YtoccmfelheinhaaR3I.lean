import Derived.Test.YtoccmfelheinhaaR3D
import Derived.Test.YtoccmfelheinhaaR3G
set_option linter.unusedVariables false
/- direct: a pair's pull -/
namespace Go.Vs.RF
open Go Go.Proofs Go.Vs
def ksT : List IntKind := [.i64, .i64, .i64, .u64, .i64, .u64]
def ksR : List IntKind := [.i64, .i64, .u64, .i64, .u64, .i64, .i64, .i64, .i64, .u64]
def ksE : List IntKind := [.i64, .i64, .i64, .i64]
def worldC (z : List Int) (a b c d e : Nat) : List IV := [.int .i64 (z.getD 0 0), .int .i64 (z.getD 1 0), .int .u64 (z.getD 2 0), .int .i64 (z.getD 3 0), .int .u64 (z.getD 4 0), .int .i64 (z.getD 5 0), .int .u64 (z.getD 6 0), .int .i64 (z.getD 7 0), .int .u64 (z.getD 8 0), .int .i64 (z.getD 9 0), .int .u64 (z.getD 10 0), .int .i64 (z.getD 11 0), .int .i64 (z.getD 12 0),
  .sl a, .sl b, .sl c, .sl d, .int .i64 (z.getD 13 0), .int .u64 (z.getD 14 0), .int .i64 (z.getD 15 0), .int .u64 (z.getD 16 0), .int .i64 (z.getD 17 0), .int .u64 (z.getD 18 0), .sl e]
def worldB (xs ts rs us es : List (List Int)) : List Blk := [.ro ksB xs, .ro ksT ts, .ro ksR rs, .ro [.i64] us, .ro ksE es]
noncomputable def Γf0 : FuncId → Option Vs.Spec := fun g => if g = f_perigeeref10_SameVecs then some spSame else if g = f_perigeelaw9_Body then some spBody else if g = f_perigeelaw9_Bodies then some spBodies else Γe2 g
noncomputable def Γf1 : FuncId → Option Vs.Spec := fun g => if g = f_pair_Pull then some spPull else if g = f_perigeeref10_Pull then some spRPull else Γf0 g
noncomputable def Nf1 : Know := ⟨Γf1, fun _ _ => none, fun _ => none⟩
theorem v_pulled (z : List Int) (xs ts rs us es : List (List Int)) (i j px py qx qy h : Int) (K : IV → List Blk → Prop) : (comes Try.prog Nf1 3 f_direct_pulled [.agg (worldC z 0 1 2 3 4), .int .i64 i, .int .i64 j, vx px py, vx qx qy, fx h] (worldB xs ts rs us es) K) = (∀ (j1 : Int), j1 = h → ∀ (j2 : Int), j2 = px → ∀ (j3 : Int), j3 = py → ∀ (j4 : Int), j4 = qx → ∀ (j5 : Int), j5 = qy → ∀ (t6 : Int), t6 = n2 (rd xs j.toNat (4 : Nat) * (18446744073709551616 : Int) + rd xs j.toNat (5 : Nat) - (rd xs i.toNat (4 : Nat) * (18446744073709551616 : Int) + rd xs i.toNat (5 : Nat))) (rd xs j.toNat (6 : Nat) * (18446744073709551616 : Int) + rd xs j.toNat (7 : Nat) - (rd xs i.toNat (6 : Nat) * (18446744073709551616 : Int) + rd xs i.toNat (7 : Nat))) (rd xs j.toNat (4 : Nat) * (18446744073709551616 : Int) + rd xs j.toNat (5 : Nat) - (rd xs i.toNat (4 : Nat) * (18446744073709551616 : Int) + rd xs i.toNat (5 : Nat))) → ∀ (j7 : Int), j7 = t6 → ∀ (t8 : Int), t8 = n2 (rd xs j.toNat (4 : Nat) * (18446744073709551616 : Int) + rd xs j.toNat (5 : Nat) - (rd xs i.toNat (4 : Nat) * (18446744073709551616 : Int) + rd xs i.toNat (5 : Nat))) (rd xs j.toNat (6 : Nat) * (18446744073709551616 : Int) + rd xs j.toNat (7 : Nat) - (rd xs i.toNat (6 : Nat) * (18446744073709551616 : Int) + rd xs i.toNat (7 : Nat))) (rd xs j.toNat (6 : Nat) * (18446744073709551616 : Int) + rd xs j.toNat (7 : Nat) - (rd xs i.toNat (6 : Nat) * (18446744073709551616 : Int) + rd xs i.toNat (7 : Nat))) → ∀ (j9 : Int), j9 = t8 → ∀ (t10 : Int), t10 = plX (z.getD (3 : Nat) (0 : Int) * (18446744073709551616 : Int) + z.getD (4 : Nat) (0 : Int)) (rd xs i.toNat (0 : Nat) * (18446744073709551616 : Int) + rd xs i.toNat (1 : Nat)) (rd xs j.toNat (0 : Nat) * (18446744073709551616 : Int) + rd xs j.toNat (1 : Nat)) j7 j9 (z.getD (5 : Nat) (0 : Int) * (18446744073709551616 : Int) + z.getD (6 : Nat) (0 : Int)) j1 → ∀ (j11 : Int), j11 = t10 → ∀ (t12 : Int), t12 = plY (z.getD (3 : Nat) (0 : Int) * (18446744073709551616 : Int) + z.getD (4 : Nat) (0 : Int)) (rd xs i.toNat (0 : Nat) * (18446744073709551616 : Int) + rd xs i.toNat (1 : Nat)) (rd xs j.toNat (0 : Nat) * (18446744073709551616 : Int) + rd xs j.toNat (1 : Nat)) j7 j9 (z.getD (5 : Nat) (0 : Int) * (18446744073709551616 : Int) + z.getD (6 : Nat) (0 : Int)) j1 → ∀ (j13 : Int), j13 = t12 → ∀ (t14 : Int), t14 = rd xs j.toNat (4 : Nat) → ∀ (t15 : Int), t15 = rd xs j.toNat (5 : Nat) → ∀ (t16 : Int), t16 = rd xs j.toNat (6 : Nat) → ∀ (t17 : Int), t17 = rd xs j.toNat (7 : Nat) → ∀ (t18 : Int), t18 = rd xs i.toNat (4 : Nat) → ∀ (t19 : Int), t19 = rd xs i.toNat (5 : Nat) → ∀ (t20 : Int), t20 = rd xs i.toNat (6 : Nat) → ∀ (t21 : Int), t21 = rd xs i.toNat (7 : Nat) → ∀ (t22 : Int), t22 = rd xs i.toNat (0 : Nat) → ∀ (t23 : Int), t23 = rd xs i.toNat (1 : Nat) → ∀ (t24 : Int), t24 = rd xs j.toNat (0 : Nat) → ∀ (t25 : Int), t25 = rd xs j.toNat (1 : Nat) → ∀ (t26 : Int), t26 = z.getD (3 : Nat) (0 : Int) → ∀ (t27 : Int), t27 = z.getD (4 : Nat) (0 : Int) → ∀ (t28 : Int), t28 = z.getD (5 : Nat) (0 : Int) → ∀ (t29 : Int), t29 = z.getD (6 : Nat) (0 : Int) → ∀ (t30 : Int), t30 = e2 (j2 + j11) (j3 + j13) → ∀ (t31 : Prop), t31 = ((0 : Int) ≤ i ∧ i < (↑xs.length : Int)) → ∀ (t32 : Prop), t32 = ((0 : Int) ≤ j ∧ j < (↑xs.length : Int)) → ∀ (t33 : Int), t33 = n2 (j2 + j11) (j3 + j13) (j2 + j11) → ∀ (t34 : Int), t34 = n2 (j2 + j11) (j3 + j13) (j3 + j13) → ∀ (t35 : Int), t35 = n2 (j4 - j11) (j5 - j13) (j4 - j11) → ∀ (t36 : Int), t36 = n2 (j4 - j11) (j5 - j13) (j5 - j13) → ∀ (t37 : Int), t37 = e2 (t14 * (18446744073709551616 : Int) + t15 - (t18 * (18446744073709551616 : Int) + t19)) (t16 * (18446744073709551616 : Int) + t17 - (t20 * (18446744073709551616 : Int) + t21)) → ∀ (t38 : Int), t38 = plE (t26 * (18446744073709551616 : Int) + t27) (t22 * (18446744073709551616 : Int) + t23) (t24 * (18446744073709551616 : Int) + t25) j7 j9 (t28 * (18446744073709551616 : Int) + t29) j1 → ∀ (t39 : Prop), t39 = K (IV.tup [vx t33 t34, vx qx qy, IV.int IntKind.i64 t30]) [] → ∀ (t40 : Prop), t40 = K (IV.tup [vx px py, vx qx qy, IV.int IntKind.i64 t37]) [] → ∀ (t41 : Prop), t41 = K (IV.tup [vx px py, vx qx qy, IV.int IntKind.i64 t38]) [] → ∀ (t42 : Prop), t42 = K (IV.tup [vx t33 t34, vx t35 t36, IV.int IntKind.i64 (e2 (j4 - j11) (j5 - j13))]) [] → ∀ (t43 : Prop), t43 = (t39 ∧ t39) → ∀ (t44 : Prop), t44 = (t40 ∧ t40) → ∀ (t45 : Prop), t45 = (t41 ∧ t41) → ∀ (t46 : Prop), t46 = (t42 ∧ t42) → ∀ (t47 : Prop), t47 = (t39 ∧ t43) → ∀ (t48 : Prop), t48 = (t43 ∧ t39) → ∀ (t49 : Prop), t49 = (t40 ∧ t44) → ∀ (t50 : Prop), t50 = (t44 ∧ t40) → ∀ (t51 : Prop), t51 = (t41 ∧ t45) → ∀ (t52 : Prop), t52 = (t45 ∧ t41) → ∀ (t53 : Prop), t53 = (t42 ∧ t46) → ∀ (t54 : Prop), t54 = (t46 ∧ t42) → t31 ∧ t31 ∧ t32 ∧ t32 ∧ vmay2 [IV.agg [IV.int IntKind.i64 t14, IV.int IntKind.u64 t15, IV.int IntKind.i64 t16, IV.int IntKind.u64 t17], IV.agg [IV.int IntKind.i64 t18, IV.int IntKind.u64 t19, IV.int IntKind.i64 t20, IV.int IntKind.u64 t21]] [] ∧ br (t37 != (0 : Int)) ((t49 ∧ t44 ∧ t50) ∧ (t49 ∧ t40) ∧ t50) (mayPl [IV.agg [IV.int IntKind.i64 t26, IV.int IntKind.u64 t27], IV.agg [IV.int IntKind.i64 t22, IV.int IntKind.u64 t23], IV.agg [IV.int IntKind.i64 t24, IV.int IntKind.u64 t25], vx t6 t8, IV.agg [IV.int IntKind.i64 t28, IV.int IntKind.u64 t29], fx h] [] ∧ br (t38 != (0 : Int)) ((t51 ∧ t45 ∧ t52) ∧ (t51 ∧ t41) ∧ t52) (vmay2 [vx px py, vx t10 t12] [] ∧ br (t30 != (0 : Int)) ((t47 ∧ t43 ∧ t48) ∧ (t47 ∧ t39) ∧ t48) (vmay2 [vx qx qy, vx t10 t12] [] ∧ (t53 ∧ t46 ∧ t54) ∧ (t53 ∧ t42) ∧ t54)))) := by refine nj ?_; refine nj ?_; refine nj ?_; refine nj ?_; refine nj ?_; refine nm ?_; refine nj ?_; refine nm ?_; refine nj ?_; refine nm ?_; refine nj ?_; refine nm ?_; refine nj ?_; refine nm ?_; refine nm ?_; refine nm ?_; refine nm ?_; refine nm ?_; refine nm ?_; refine nm ?_; refine nm ?_; refine nm ?_; refine nm ?_; refine nm ?_; refine nm ?_; refine nm ?_; refine nm ?_; refine nm ?_; refine nm ?_; refine nm ?_; refine nm ?_; refine nm ?_; refine nm ?_; refine nm ?_; refine nm ?_; refine nm ?_; refine nm ?_; refine nm ?_; refine nm ?_; refine nm ?_; refine nm ?_; refine nm ?_; refine nm ?_; refine nm ?_; refine nm ?_; refine nm ?_; refine nm ?_; refine nm ?_; refine nm ?_; refine nm ?_; refine nm ?_; refine nm ?_; refine nm ?_; refine nm ?_; kernel_rfl
theorem v_Rpulled (z : List Int) (xs ts rs us es : List (List Int)) (i m ax ay h : Int) (K : IV → List Blk → Prop) : (comes Try.prog Nf1 3 f_perigeeref10_pulled [.agg (worldC z 0 1 2 3 4), .int .i64 i, fx m, vx ax ay, fx h] (worldB xs ts rs us es) K) = (∀ (j1 : Int), j1 = ax → ∀ (j2 : Int), j2 = ay → ∀ (j3 : Int), j3 = m → ∀ (j4 : Int), j4 = h → ∀ (t5 : Int), t5 = n2 (j1 - (rd xs i.toNat (4 : Nat) * (18446744073709551616 : Int) + rd xs i.toNat (5 : Nat))) (j2 - (rd xs i.toNat (6 : Nat) * (18446744073709551616 : Int) + rd xs i.toNat (7 : Nat))) (j1 - (rd xs i.toNat (4 : Nat) * (18446744073709551616 : Int) + rd xs i.toNat (5 : Nat))) → ∀ (j6 : Int), j6 = t5 → ∀ (t7 : Int), t7 = n2 (j1 - (rd xs i.toNat (4 : Nat) * (18446744073709551616 : Int) + rd xs i.toNat (5 : Nat))) (j2 - (rd xs i.toNat (6 : Nat) * (18446744073709551616 : Int) + rd xs i.toNat (7 : Nat))) (j2 - (rd xs i.toNat (6 : Nat) * (18446744073709551616 : Int) + rd xs i.toNat (7 : Nat))) → ∀ (j8 : Int), j8 = t7 → ∀ (t9 : Int), t9 = rd xs i.toNat (4 : Nat) → ∀ (t10 : Int), t10 = rd xs i.toNat (5 : Nat) → ∀ (t11 : Int), t11 = rd xs i.toNat (6 : Nat) → ∀ (t12 : Int), t12 = rd xs i.toNat (7 : Nat) → ∀ (t13 : Int), t13 = rd xs i.toNat (0 : Nat) → ∀ (t14 : Int), t14 = rd xs i.toNat (1 : Nat) → ∀ (t15 : Int), t15 = z.getD (3 : Nat) (0 : Int) → ∀ (t16 : Int), t16 = z.getD (4 : Nat) (0 : Int) → ∀ (t17 : Int), t17 = z.getD (5 : Nat) (0 : Int) → ∀ (t18 : Int), t18 = z.getD (6 : Nat) (0 : Int) → ∀ (t19 : Prop), t19 = ((0 : Int) ≤ i ∧ i < (↑xs.length : Int)) → ∀ (t20 : Int), t20 = t13 * (18446744073709551616 : Int) + t14 → ∀ (t21 : Int), t21 = t15 * (18446744073709551616 : Int) + t16 → ∀ (t22 : Int), t22 = t17 * (18446744073709551616 : Int) + t18 → ∀ (t23 : Int), t23 = e2 (j1 - (t9 * (18446744073709551616 : Int) + t10)) (j2 - (t11 * (18446744073709551616 : Int) + t12)) → ∀ (t24 : Int), t24 = plX t21 t20 j3 j6 j8 t22 j4 → ∀ (t25 : Int), t25 = plY t21 t20 j3 j6 j8 t22 j4 → t19 ∧ t19 ∧ vmay2 [vx ax ay, IV.agg [IV.int IntKind.i64 t9, IV.int IntKind.u64 t10, IV.int IntKind.i64 t11, IV.int IntKind.u64 t12]] [] ∧ br (t23 != (0 : Int)) (K (IV.agg [IV.int IntKind.i64 (t5 / (18446744073709551616 : Int)), IV.int IntKind.u64 (t5 % (18446744073709551616 : Int)), IV.int IntKind.i64 (t7 / (18446744073709551616 : Int)), IV.int IntKind.u64 (t7 % (18446744073709551616 : Int)), IV.int IntKind.i64 t23]) []) (t19 ∧ t19 ∧ mayPl [IV.agg [IV.int IntKind.i64 t15, IV.int IntKind.u64 t16], IV.agg [IV.int IntKind.i64 t13, IV.int IntKind.u64 t14], fx m, vx t5 t7, IV.agg [IV.int IntKind.i64 t17, IV.int IntKind.u64 t18], fx h] [] ∧ K (IV.agg [IV.int IntKind.i64 (t24 / (18446744073709551616 : Int)), IV.int IntKind.u64 (t24 % (18446744073709551616 : Int)), IV.int IntKind.i64 (t25 / (18446744073709551616 : Int)), IV.int IntKind.u64 (t25 % (18446744073709551616 : Int)), IV.int IntKind.i64 (plE t21 t20 j3 j6 j8 t22 j4)]) [])) := by refine nj ?_; refine nj ?_; refine nj ?_; refine nj ?_; refine nm ?_; refine nj ?_; refine nm ?_; refine nj ?_; refine nm ?_; refine nm ?_; refine nm ?_; refine nm ?_; refine nm ?_; refine nm ?_; refine nm ?_; refine nm ?_; refine nm ?_; refine nm ?_; refine nm ?_; refine nm ?_; refine nm ?_; refine nm ?_; refine nm ?_; refine nm ?_; refine nm ?_; kernel_rfl
noncomputable def gvE (z : List Int) (h : Int) (r : List Int) (m ax ay : Int) : Int := if e2 (ax - fr r 4) (ay - fr r 6) ≠ 0 then e2 (ax - fr r 4) (ay - fr r 6) else plE (fr z 3) (fr r 0) m (ax - fr r 4) (ay - fr r 6) (fr z 5) h
noncomputable def gvX (z : List Int) (h : Int) (r : List Int) (m ax ay : Int) : Int := if e2 (ax - fr r 4) (ay - fr r 6) ≠ 0 then 0 else plX (fr z 3) (fr r 0) m (ax - fr r 4) (ay - fr r 6) (fr z 5) h
noncomputable def gvY (z : List Int) (h : Int) (r : List Int) (m ax ay : Int) : Int := if e2 (ax - fr r 4) (ay - fr r 6) ≠ 0 then 0 else plY (fr z 3) (fr r 0) m (ax - fr r 4) (ay - fr r 6) (fr z 5) h
noncomputable def worN (l : List IV) (i : Nat) : List Int := [argI l i 0, argI l i 1, argI l i 2, argI l i 3, argI l i 4, argI l i 5, argI l i 6, argI l i 7, argI l i 8, argI l i 9, argI l i 10, argI l i 11, argI l i 12, argI l i 17, argI l i 18, argI l i 19, argI l i 20, argI l i 21, argI l i 22]
def ksZ : List IntKind := [.i64, .i64, .u64, .i64, .u64, .i64, .u64, .i64, .u64, .i64, .u64, .i64, .i64, .i64, .u64, .i64, .u64, .i64, .u64]
def rowZ (z : List Int) : Prop := z.length = 19 ∧ ∀ j, j < 19 → inK (ksZ.getD j .i64) (z.getD j 0)
def mayZ (z : List Int) : Prop := rowZ z ∧ mayF (fr z 3) ∧ mayF (fr z 5)
def pPd (l : List IV) (bs : List Blk) : Prop := ∃ z xs ts rs us es i j px py qx qy h, l = [.agg (worldC z 0 1 2 3 4), .int .i64 i, .int .i64 j, vx px py, vx qx qy, fx h] ∧ bs = worldB xs ts rs us es ∧ mayZ z ∧ goodBs xs ∧ (0 ≤ i ∧ i < xs.length) ∧ (0 ≤ j ∧ j < xs.length) ∧ (mayF px ∧ mayF py) ∧ (mayF qx ∧ mayF qy) ∧ mayF h
noncomputable def prE (z : List Int) (h : Int) (r s : List Int) (px py qx qy : Int) : Int := if gvE z h r (fr s 0) (fr s 4) (fr s 6) ≠ 0 then gvE z h r (fr s 0) (fr s 4) (fr s 6) else if e2 (px + gvX z h r (fr s 0) (fr s 4) (fr s 6)) (py + gvY z h r (fr s 0) (fr s 4) (fr s 6)) ≠ 0 then e2 (px + gvX z h r (fr s 0) (fr s 4) (fr s 6)) (py + gvY z h r (fr s 0) (fr s 4) (fr s 6)) else e2 (qx - gvX z h r (fr s 0) (fr s 4) (fr s 6)) (qy - gvY z h r (fr s 0) (fr s 4) (fr s 6))
noncomputable def prP (z : List Int) (h : Int) (r s : List Int) (px py v k : Int) : Int := if gvE z h r (fr s 0) (fr s 4) (fr s 6) ≠ 0 then v else n2 (px + gvX z h r (fr s 0) (fr s 4) (fr s 6)) (py + gvY z h r (fr s 0) (fr s 4) (fr s 6)) (v + k)
noncomputable def prQ (z : List Int) (h : Int) (r s : List Int) (px py qx qy v k : Int) : Int := if gvE z h r (fr s 0) (fr s 4) (fr s 6) ≠ 0 then v else if e2 (px + gvX z h r (fr s 0) (fr s 4) (fr s 6)) (py + gvY z h r (fr s 0) (fr s 4) (fr s 6)) ≠ 0 then v else n2 (qx - gvX z h r (fr s 0) (fr s 4) (fr s 6)) (qy - gvY z h r (fr s 0) (fr s 4) (fr s 6)) (v - k)
noncomputable def prV (z : List Int) (h : Int) (r s : List Int) (px py qx qy : Int) : IV := .tup [vx (prP z h r s px py px (gvX z h r (fr s 0) (fr s 4) (fr s 6))) (prP z h r s px py py (gvY z h r (fr s 0) (fr s 4) (fr s 6))), vx (prQ z h r s px py qx qy qx (gvX z h r (fr s 0) (fr s 4) (fr s 6))) (prQ z h r s px py qx qy qy (gvY z h r (fr s 0) (fr s 4) (fr s 6))), .int .i64 (prE z h r s px py qx qy)]
noncomputable def prXp (z : List Int) (h : Int) (r s : List Int) (px py qx qy : Int) : Int := prP z h r s px py px (gvX z h r (fr s 0) (fr s 4) (fr s 6))
noncomputable def prYp (z : List Int) (h : Int) (r s : List Int) (px py qx qy : Int) : Int := prP z h r s px py py (gvY z h r (fr s 0) (fr s 4) (fr s 6))
noncomputable def prXq (z : List Int) (h : Int) (r s : List Int) (px py qx qy : Int) : Int := prQ z h r s px py qx qy qx (gvX z h r (fr s 0) (fr s 4) (fr s 6))
noncomputable def prYq (z : List Int) (h : Int) (r s : List Int) (px py qx qy : Int) : Int := prQ z h r s px py qx qy qy (gvY z h r (fr s 0) (fr s 4) (fr s 6))
noncomputable def spPd : Vs.Spec := ⟨pPd, fun l bs => (.tup [vx (prXp (worN l 0) (v2 l 5) ((xsOf bs 0).getD (argI l 1 0).toNat []) ((xsOf bs 0).getD (argI l 2 0).toNat []) (v2 l 3) (vy l 3) (v2 l 4) (vy l 4)) (prYp (worN l 0) (v2 l 5) ((xsOf bs 0).getD (argI l 1 0).toNat []) ((xsOf bs 0).getD (argI l 2 0).toNat []) (v2 l 3) (vy l 3) (v2 l 4) (vy l 4)),
  vx (prXq (worN l 0) (v2 l 5) ((xsOf bs 0).getD (argI l 1 0).toNat []) ((xsOf bs 0).getD (argI l 2 0).toNat []) (v2 l 3) (vy l 3) (v2 l 4) (vy l 4)) (prYq (worN l 0) (v2 l 5) ((xsOf bs 0).getD (argI l 1 0).toNat []) ((xsOf bs 0).getD (argI l 2 0).toNat []) (v2 l 3) (vy l 3) (v2 l 4) (vy l 4)), .int .i64 (prE (worN l 0) (v2 l 5) ((xsOf bs 0).getD (argI l 1 0).toNat []) ((xsOf bs 0).getD (argI l 2 0).toNat []) (v2 l 3) (vy l 3) (v2 l 4) (vy l 4))], [])⟩
def pRp (l : List IV) (bs : List Blk) : Prop := ∃ z xs ts rs us es i m ax ay h, l = [.agg (worldC z 0 1 2 3 4), .int .i64 i, fx m, vx ax ay, fx h] ∧ bs = worldB xs ts rs us es ∧ mayZ z ∧ goodBs xs ∧ (0 ≤ i ∧ i < xs.length) ∧ mayF m ∧ (mayF ax ∧ mayF ay) ∧ mayF h
noncomputable def spRp : Vs.Spec := ⟨pRp, fun l bs => (wayG (gvX (worN l 0) (v2 l 4) ((xsOf bs 0).getD (argI l 1 0).toNat []) (v2 l 2) (v2 l 3) (vy l 3)) (gvY (worN l 0) (v2 l 4) ((xsOf bs 0).getD (argI l 1 0).toNat []) (v2 l 2) (v2 l 3) (vy l 3)) (gvE (worN l 0) (v2 l 4) ((xsOf bs 0).getD (argI l 1 0).toNat []) (v2 l 2) (v2 l 3) (vy l 3)), [])⟩
end Go.Vs.RF


set_option linter.unusedVariables false
set_option linter.unusedSimpArgs false
set_option maxRecDepth 100000
/- direct: a pair's pull -/
namespace Go.Vs.RF
open Go Go.Proofs Go.Vs Go.IntWalk

theorem ctrsf0 : ∀ {g : FuncId} {sp : Vs.Spec}, Γf0 g = some sp → Contract Try.prog g sp := ext_ok c_SameVecs (ext_ok c_Body (ext_ok c_Bodies ctrse2))
theorem ctrsf1 : ∀ {g : FuncId} {sp : Vs.Spec}, Γf1 g = some sp → Contract Try.prog g sp := ext_ok c_Pull (ext_ok c_r_Pull ctrsf0)
theorem knowf1 : KnowOk Try.prog Nf1 3 := knowOf (fun g sp h => ctrsf1 h) (fun _ _ => rfl) (fun _ => rfl) 3
theorem row19 {z : List Int} (h : z.length = 19) : [z.getD 0 0, z.getD 1 0, z.getD 2 0, z.getD 3 0, z.getD 4 0, z.getD 5 0, z.getD 6 0, z.getD 7 0, z.getD 8 0, z.getD 9 0, z.getD 10 0, z.getD 11 0, z.getD 12 0, z.getD 13 0, z.getD 14 0, z.getD 15 0, z.getD 16 0, z.getD 17 0, z.getD 18 0] = z := by
  match z, h with
  | [_, _, _, _, _, _, _, _, _, _, _, _, _, _, _, _, _, _, _], _ => rfl
theorem worN_of (l : List IV) (z : List Int) (a b c d e : Nat) (h : z.length = 19) (hl : nthR l 0 = some (.agg (worldC z a b c d e))) : worN l 0 = z := by
  have q : ∀ j, argI l 0 j = argI [.agg (worldC z a b c d e)] 0 j := by intro j; unfold argI; rw [hl]; rfl
  unfold worN
  simp only [q]
  exact row19 h
theorem z_lo {z : List Int} (h : rowZ z) (j : Nat) (hj : j < 19) (hk : ksZ.getD j .i64 = .u64) : u64ok (z.getD j 0) := by
  have := h.2 j hj
  rw [hk] at this
  have h1 : (0 : Int) ≤ z.getD j 0 ∧ z.getD j 0 ≤ 18446744073709551615 := this
  unfold u64ok; omega
theorem fx_z {z : List Int} (h : rowZ z) (j : Nat) (hj : j + 1 < 19) (hk : ksZ.getD (j + 1) .i64 = .u64) : IV.agg [.int .i64 (z.getD j 0), .int .u64 (z.getD (j + 1) 0)] = fx (fr z j) := (fx_mk2 (z_lo h (j + 1) hj hk) rfl).symm
theorem pl_err {g a b x y s h : Int} (he : plE g a b x y s h ≠ 0) : plX g a b x y s h = 0 ∧ plY g a b x y s h = 0 := by
  unfold plE at he
  rw [seal_eq] at he
  unfold plX plY
  rw [seal_eq, seal_eq]
  by_cases hk : kE g a b x y s h = 0
  · rw [if_pos hk] at he
    rw [if_pos hk, if_pos hk]
    unfold e2 at he
    unfold n2
    split at he
    · exact absurd rfl he
    · rename_i hh; rw [if_neg hh, if_neg hh]; exact ⟨rfl, rfl⟩
  · rw [if_neg hk, if_neg hk]; exact ⟨rfl, rfl⟩
theorem pl_may (g a b x y s h : Int) : mayF (plX g a b x y s h) ∧ mayF (plY g a b x y s h) := by
  unfold plX plY
  rw [seal_eq, seal_eq]
  constructor
  · split; exact n2_is1 _ _; exact may_zero
  · split; exact n2_is2 _ _; exact may_zero
theorem gv_may (z : List Int) (h : Int) (r : List Int) (m ax ay : Int) : mayF (gvX z h r m ax ay) ∧ mayF (gvY z h r m ax ay) := by
  unfold gvX gvY
  constructor
  · split; exact may_zero; exact (pl_may _ _ _ _ _ _ _).1
  · split; exact may_zero; exact (pl_may _ _ _ _ _ _ _).2
theorem gv_err {z : List Int} {h : Int} {r : List Int} {m ax ay : Int} (he : gvE z h r m ax ay ≠ 0) : gvX z h r m ax ay = 0 ∧ gvY z h r m ax ay = 0 := by
  unfold gvX gvY gvE at *
  split
  · exact ⟨rfl, rfl⟩
  · rename_i h1
    rw [if_neg h1] at he
    exact pl_err he
theorem e2_zero {s t : Int} : e2 s t = 0 ↔ mayF s ∧ mayF t := by
  unfold e2; split
  · rename_i h; exact ⟨fun _ => h, fun _ => rfl⟩
  · rename_i h; exact ⟨fun h' => absurd h' (by decide), fun h' => absurd h' h⟩
theorem pd_F {z : List Int} {xs ts rs us es : List (List Int)} {i j px py qx qy h : Int} (hz : z.length = 19) : spPd.F [.agg (worldC z 0 1 2 3 4), .int .i64 i, .int .i64 j, vx px py, vx qx qy, fx h] (worldB xs ts rs us es) =
    (prV z h (xs.getD i.toNat []) (xs.getD j.toNat []) px py qx qy, []) := by
  show (IV.tup [vx (prXp (worN _ 0) (v2 _ 5) (xs.getD i.toNat []) (xs.getD j.toNat []) (v2 _ 3) (vy _ 3) (v2 _ 4) (vy _ 4)) (prYp (worN _ 0) (v2 _ 5) (xs.getD i.toNat []) (xs.getD j.toNat []) (v2 _ 3) (vy _ 3) (v2 _ 4) (vy _ 4)),
    vx (prXq (worN _ 0) (v2 _ 5) (xs.getD i.toNat []) (xs.getD j.toNat []) (v2 _ 3) (vy _ 3) (v2 _ 4) (vy _ 4)) (prYq (worN _ 0) (v2 _ 5) (xs.getD i.toNat []) (xs.getD j.toNat []) (v2 _ 3) (vy _ 3) (v2 _ 4) (vy _ 4)), .int .i64 (prE (worN _ 0) (v2 _ 5) (xs.getD i.toNat []) (xs.getD j.toNat []) (v2 _ 3) (vy _ 3) (v2 _ 4) (vy _ 4))], ([] : List Blk)) = _
  rw [worN_of _ z 0 1 2 3 4 hz rfl, v2_fx _ h 5 rfl, (v_vx _ px py 3 rfl).1, (v_vx _ px py 3 rfl).2, (v_vx _ qx qy 4 rfl).1, (v_vx _ qx qy 4 rfl).2]
  rfl
theorem rp_F {z : List Int} {xs ts rs us es : List (List Int)} {i m ax ay h : Int} (hz : z.length = 19) : spRp.F [.agg (worldC z 0 1 2 3 4), .int .i64 i, fx m, vx ax ay, fx h] (worldB xs ts rs us es) =
    (wayG (gvX z h (xs.getD i.toNat []) m ax ay) (gvY z h (xs.getD i.toNat []) m ax ay) (gvE z h (xs.getD i.toNat []) m ax ay), []) := by
  show (wayG (gvX (worN _ 0) (v2 _ 4) (xs.getD i.toNat []) (v2 _ 2) (v2 _ 3) (vy _ 3)) (gvY (worN _ 0) (v2 _ 4) (xs.getD i.toNat []) (v2 _ 2) (v2 _ 3) (vy _ 3)) (gvE (worN _ 0) (v2 _ 4) (xs.getD i.toNat []) (v2 _ 2) (v2 _ 3) (vy _ 3)), ([] : List Blk)) = _
  rw [worN_of _ z 0 1 2 3 4 hz rfl, v2_fx _ h 4 rfl, v2_fx _ m 2 rfl, (v_vx _ ax ay 3 rfl).1, (v_vx _ ax ay 3 rfl).2]
theorem c_Rpulled : Contract Try.prog f_perigeeref10_pulled spRp := by
  refine contract_of (N := Nf1) 3 knowf1 ?_
  rintro l bs _ _ ⟨z, xs, ts, rs, us, es, i, m, ax, ay, h, rfl, rfl, ⟨hz, hg3, hg5⟩, hg, ⟨hi0, hi1⟩, hm, ⟨hax, hay⟩, hh⟩
  rw [rp_F hz.1, v_Rpulled]
  have hil : i.toNat < xs.length := by omega
  rw [get_row hil]
  obtain ⟨g1, g2, m0, m4, m6, m8, m10⟩ := good_row hg hil
  rw [fr_of hil 4, fr_of hil 6]
  rintro j1 rfl j2 rfl j3 rfl j4 rfl t5 e5 j6 rfl t7 e7 j8 rfl t9 rfl t10 rfl t11 rfl t12 rfl t13 rfl t14 rfl t15 rfl t16 rfl t17 rfl t18 rfl t19 e19 t20 e20 t21 e21 t22 e22 t23 e23 t24 e24 t25 e25
  rw [fr_of hil 4, fr_of hil 6] at e23
  rw [fr_of hil 0] at e20
  have p19 : t19 := by rw [e19]; omega
  have okr : okRows ksB xs := fun r hr => (hg r hr).2.1
  have a0 : IV.agg [.int .i64 (rd xs i.toNat 0), .int .u64 (rd xs i.toNat 1)] = fx (fr xs[i.toNat] 0) := (fx_mk2 (lo_in okr _ 1 (by decide) rfl) (fr_of hil 0).symm).symm
  have av : vmay2 [vx j1 j2, IV.agg [.int .i64 (rd xs i.toNat 4), .int .u64 (rd xs i.toNat 5), .int .i64 (rd xs i.toNat 6), .int .u64 (rd xs i.toNat 7)]] [] := by
    have := vx_cells (a := rd xs i.toNat 4) (b := rd xs i.toNat 5) (c := rd xs i.toNat 6) (d := rd xs i.toNat 7) (lo_in okr _ 5 (by decide) rfl) (lo_in okr _ 7 (by decide) rfl)
    rw [fr_of hil 4, fr_of hil 6] at this
    rw [List.cons.inj this |>.1]
    exact vmay2_of hax hay m4 m6
  refine ⟨p19, p19, av, ?_⟩
  rw [br_bne]
  refine ⟨fun hne => ?_, fun he => ⟨p19, p19, ?_, ?_⟩⟩
  · have hne' : e2 (j1 - fr xs[i.toNat] 4) (j2 - fr xs[i.toNat] 6) ≠ 0 := by rw [← e23]; exact hne
    have hno := fun hh => hne' (e2_zero.2 hh)
    unfold gvX gvY gvE
    rw [if_pos hne', if_pos hne', if_pos hne', e5, e7, n2_no _ hno, n2_no _ hno, e23]
    rfl
  · have he' := e2_zero.1 (by rw [← e23]; exact he)
    rw [a0, fx_z hz 3 (by decide) rfl, fx_z hz 5 (by decide) rfl]
    exact ⟨_, _, _, _, _, _, _, rfl, rfl, hg3, m0, hm, ⟨by rw [e5]; exact n2_is1 _ _, by rw [e7]; exact n2_is2 _ _⟩, hg5, hh⟩
  · have he' := e2_zero.1 (by rw [← e23]; exact he)
    rw [n2_ok _ he'.1 he'.2] at e5 e7
    have hz0 : ¬ e2 (j1 - fr xs[i.toNat] 4) (j2 - fr xs[i.toNat] 6) ≠ 0 := fun hh => hh (by rw [← e23]; exact he)
    unfold gvX gvY gvE
    rw [if_neg hz0, if_neg hz0, if_neg hz0, e24, e25, e20, show t21 = fr z 3 from e21, show t22 = fr z 5 from e22, e5, e7]
    rfl
set_option maxHeartbeats 1000000 in
theorem c_pulled : Contract Try.prog f_direct_pulled spPd := by
  refine contract_of (N := Nf1) 3 knowf1 ?_
  rintro l bs _ _ ⟨z, xs, ts, rs, us, es, i, j, px, py, qx, qy, h, rfl, rfl, ⟨hz, hg3, hg5⟩, hg, ⟨hi0, hi1⟩, ⟨hj0, hj1⟩, ⟨hpx, hpy⟩, ⟨hqx, hqy⟩, hh⟩
  rw [pd_F hz.1, v_pulled]
  have hil : i.toNat < xs.length := by omega
  have hjl : j.toNat < xs.length := by omega
  rw [get_row hil, get_row hjl]
  obtain ⟨_, _, m0, m4, m6, _, _⟩ := good_row hg hil
  obtain ⟨_, _, k0, k4, k6, _, _⟩ := good_row hg hjl
  rw [fr_of hil 4, fr_of hil 6, fr_of hjl 4, fr_of hjl 6, fr_of hil 0, fr_of hjl 0]
  rintro j1 rfl j2 rfl j3 rfl j4 rfl j5 rfl t6 e6 j7 rfl t8 e8 j9 rfl t10 e10 j11 rfl t12 e12 j13 rfl t14 rfl t15 rfl t16 rfl t17 rfl t18 rfl t19 rfl t20 rfl t21 rfl t22 rfl t23 rfl t24 rfl t25 rfl t26 rfl t27 rfl t28 rfl t29 rfl t30 e30 t31 e31 t32 e32 t33 e33 t34 e34 t35 e35 t36 e36 t37 e37 t38 e38 _ rfl _ rfl _ rfl _ rfl _ rfl _ rfl _ rfl _ rfl _ rfl _ rfl _ rfl _ rfl _ rfl _ rfl _ rfl _ rfl
  simp only [and_self]
  rw [fr_of hil 4, fr_of hil 6, fr_of hjl 4, fr_of hjl 6] at e37
  rw [fr_of hil 0, fr_of hjl 0] at e38
  have okr : okRows ksB xs := fun r hr => (hg r hr).2.1
  have a0 : IV.agg [.int .i64 (rd xs i.toNat 0), .int .u64 (rd xs i.toNat 1)] = fx (fr xs[i.toNat] 0) := (fx_mk2 (lo_in okr _ 1 (by decide) rfl) (fr_of hil 0).symm).symm
  have b0 : IV.agg [.int .i64 (rd xs j.toNat 0), .int .u64 (rd xs j.toNat 1)] = fx (fr xs[j.toNat] 0) := (fx_mk2 (lo_in okr _ 1 (by decide) rfl) (fr_of hjl 0).symm).symm
  have av : vmay2 [IV.agg [.int .i64 (rd xs j.toNat 4), .int .u64 (rd xs j.toNat 5), .int .i64 (rd xs j.toNat 6), .int .u64 (rd xs j.toNat 7)], IV.agg [.int .i64 (rd xs i.toNat 4), .int .u64 (rd xs i.toNat 5), .int .i64 (rd xs i.toNat 6), .int .u64 (rd xs i.toNat 7)]] [] := by
    have h1 := vx_cells (a := rd xs i.toNat 4) (b := rd xs i.toNat 5) (c := rd xs i.toNat 6) (d := rd xs i.toNat 7) (lo_in okr _ 5 (by decide) rfl) (lo_in okr _ 7 (by decide) rfl)
    have h2 := vx_cells (a := rd xs j.toNat 4) (b := rd xs j.toNat 5) (c := rd xs j.toNat 6) (d := rd xs j.toNat 7) (lo_in okr _ 5 (by decide) rfl) (lo_in okr _ 7 (by decide) rfl)
    rw [fr_of hil 4, fr_of hil 6] at h1
    rw [fr_of hjl 4, fr_of hjl 6] at h2
    rw [List.cons.inj h1 |>.1, List.cons.inj h2 |>.1]
    exact vmay2_of k4 k6 m4 m6
  have p31 : t31 := by rw [e31]; omega
  have p32 : t32 := by rw [e32]; omega
  refine ⟨p31, p31, p32, p32, av, ?_⟩
  rw [br_bne]
  refine ⟨fun hne => ?_, fun he => ⟨?_, ?_⟩⟩
  · have hne' : e2 (fr xs[j.toNat] 4 - fr xs[i.toNat] 4) (fr xs[j.toNat] 6 - fr xs[i.toNat] 6) ≠ 0 := by rw [← e37]; exact hne
    have hgv : gvE z j1 xs[i.toNat] (fr xs[j.toNat] 0) (fr xs[j.toNat] 4) (fr xs[j.toNat] 6) = t37 := by unfold gvE; rw [if_pos hne', e37]
    unfold prV prP prQ prE
    rw [hgv]
    simp only [if_pos hne]
  · have he' := e2_zero.1 (by rw [← e37]; exact he)
    rw [a0, b0, fx_z hz 3 (by decide) rfl, fx_z hz 5 (by decide) rfl]
    exact ⟨_, _, _, _, _, _, _, rfl, rfl, hg3, m0, k0, ⟨by rw [e6]; exact n2_is1 _ _, by rw [e8]; exact n2_is2 _ _⟩, hg5, hh⟩
  · have he' := e2_zero.1 (by rw [← e37]; exact he)
    have hz0 : ¬ e2 (fr xs[j.toNat] 4 - fr xs[i.toNat] 4) (fr xs[j.toNat] 6 - fr xs[i.toNat] 6) ≠ 0 := fun hh => hh (by rw [← e37]; exact he)
    rw [n2_ok _ he'.1 he'.2] at e6 e8
    have hE : gvE z j1 xs[i.toNat] (fr xs[j.toNat] 0) (fr xs[j.toNat] 4) (fr xs[j.toNat] 6) = t38 := by
      unfold gvE; rw [if_neg hz0, e38, e6, e8]; rfl
    have hX : gvX z j1 xs[i.toNat] (fr xs[j.toNat] 0) (fr xs[j.toNat] 4) (fr xs[j.toNat] 6) = j11 := by
      unfold gvX; rw [if_neg hz0, e10, e6, e8]; rfl
    have hY : gvY z j1 xs[i.toNat] (fr xs[j.toNat] 0) (fr xs[j.toNat] 4) (fr xs[j.toNat] 6) = j13 := by
      unfold gvY; rw [if_neg hz0, e12, e6, e8]; rfl
    obtain ⟨mX, mY⟩ := gv_may z j1 xs[i.toNat] (fr xs[j.toNat] 0) (fr xs[j.toNat] 4) (fr xs[j.toNat] 6)
    rw [hX] at mX
    rw [hY] at mY
    unfold prV prP prQ prE
    rw [hE, hX, hY, br_bne]
    refine ⟨fun h38 => ?_, fun h38 => ⟨vmay2_of hpx hpy mX mY, ?_⟩⟩
    · simp only [if_pos h38]
    · have n38 : ¬ t38 ≠ 0 := fun hh => hh h38
      simp only [if_neg n38]
      rw [← e30, ← e33, ← e34, br_bne]
      refine ⟨fun h30 => ?_, fun h30 => ⟨vmay2_of hqx hqy mX mY, ?_⟩⟩
      · simp only [if_pos h30]
      · have n30 : ¬ t30 ≠ 0 := fun hh => hh h30
        simp only [if_neg n30]
        rw [← e35, ← e36]
end Go.Vs.RF

set_option linter.unusedVariables false
/- direct: each pulls each -/
namespace Go.Vs.RF
open Go Go.Proofs Go.Vs
noncomputable def Γf2 : FuncId → Option Vs.Spec := fun g => if g = f_direct_pulled then some spPd else if g = f_perigeeref10_pulled then some spRp else Γf1 g
def worldO (xs ts rs us es : List (List Int)) : List (Option Blk) := [some (.ro ksB xs), some (.ro ksT ts), some (.ro ksR rs), some (.ro [.i64] us), some (.ro ksE es)]
def Smo (z : List Int) (xs ts rs us es zs : List (List Int)) (i : Int) : St := ⟨T 22 [(1, .ptr 5 0), (3, .sl 6), (4, .int .i64 i)], worldO xs ts rs us es ++ [some (.var 86 (worldC z 0 1 2 3 4)), some (.row 30 ksV zs)]⟩
theorem rMom (Λ : FuncId → Nat → Option LoopS) (d : Nat) (z : List Int) (xs ts rs us es zs : List (List Int)) (i : Int) (k : Out → St → Prop) : (round (envOf Try.prog ⟨Γf2, Λ, fun _ => none⟩ d) f_perigeeref10_momenta 5 0 (lp Try.prog f_perigeeref10_momenta 0) (Smo z xs ts rs us es zs i) k) = (∀ (t1 : Prop), t1 = ((0 : Int) ≤ i ∧ i < (↑xs.length : Int)) → br (decide (i < (↑xs.length : Int))) (t1 ∧ t1 ∧ (zs.length + (1 : Nat)) * (32 : Nat) ≤ (140737488355328 : Nat) ∧ k Out.normal (St.mk (T (22 : Nat) [((1 : Nat), IV.ptr (5 : Nat) (0 : Nat)), ((3 : Nat), IV.sl (6 : Nat)), ((4 : Nat), IV.int IntKind.i64 (IntKind.i64.wrap (i + (1 : Int))))]) [some (Blk.ro ksB xs), some (Blk.ro ksT ts), some (Blk.ro ksR rs), some (Blk.ro [IntKind.i64] us), some (Blk.ro ksE es), some (Blk.var (86 : Nat) (worldC z 0 1 2 3 4)), some (Blk.row (30 : Nat) ksV (zs ++ (List.replicate (1 : Nat) (List.replicate (4 : Nat) (0 : Int))).set (0 : Nat) [rd xs i.toNat (8 : Nat), rd xs i.toNat (9 : Nat), rd xs i.toNat (10 : Nat), rd xs i.toNat (11 : Nat)]))])) (k (Out.exit (0 : Nat)) (St.mk (T (22 : Nat) [((3 : Nat), IV.sl (5 : Nat))]) [some (Blk.ro ksB xs), some (Blk.ro ksT ts), some (Blk.ro ksR rs), some (Blk.ro [IntKind.i64] us), some (Blk.ro ksE es), some (Blk.row (30 : Nat) ksV zs)]))) := by refine nm ?_; kernel_rfl
def momR (r : List Int) : List Int := [r.getD 8 0, r.getD 9 0, r.getD 10 0, r.getD 11 0]
def pMo (n0 : Nat) (st : St) (z : List Int) (xs ts rs us es : List (List Int)) : Prop := xs.length ≤ 1000 ∧ n0 = 5 ∧ st = Smo z xs ts rs us es [] 0
noncomputable def LMo : LoopS := fun n0 st K => ∃ z xs ts rs us es, pMo n0 st z xs ts rs us es ∧ K (.exit 0) ⟨T 22 [(3, .sl 5)], worldO xs ts rs us es ++ [some (.row 30 ksV (xs.map momR))]⟩
noncomputable def NMo : Know := ⟨Γf2, fun f i => if f = f_perigeeref10_momenta then (if i = 0 then some LMo else none) else none, fun _ => none⟩
theorem v_momenta (z : List Int) (xs ts rs us es : List (List Int)) (K : IV → List Blk → Prop) : (comes Try.prog NMo 3 f_perigeeref10_momenta [.agg (worldC z 0 1 2 3 4)] (worldB xs ts rs us es) K) = (∃ z_1 xs_1 ts_1 rs_1 us_1 es_1, pMo (5 : Nat) (St.mk (T (22 : Nat) [((1 : Nat), IV.ptr (5 : Nat) (0 : Nat)), ((3 : Nat), IV.sl (6 : Nat)), ((4 : Nat), IV.int IntKind.i64 (0 : Int))]) [some (Blk.ro ksB xs), some (Blk.ro ksT ts), some (Blk.ro ksR rs), some (Blk.ro [IntKind.i64] us), some (Blk.ro ksE es), some (Blk.var (86 : Nat) (worldC z 0 1 2 3 4)), some (Blk.row (30 : Nat) ksV [])]) z_1 xs_1 ts_1 rs_1 us_1 es_1 ∧ K (IV.sl (0 : Nat)) [Blk.row (30 : Nat) ksV (List.map momR xs_1)]) := by kernel_rfl
def pWor (l : List IV) (bs : List Blk) : Prop := ∃ z xs ts rs us es, l = [.agg (worldC z 0 1 2 3 4)] ∧ bs = worldB xs ts rs us es ∧ xs.length ≤ 1000
noncomputable def spMom : Vs.Spec := ⟨pWor, fun _ bs => (.sl 0, [.row 30 ksV ((xsOf bs 0).map momR)])⟩
noncomputable def Γf3 : FuncId → Option Vs.Spec := fun g => if g = f_perigeeref10_momenta then some spMom else Γf2 g
noncomputable def dsE (z : List Int) (h : Int) (xs ps : List (List Int)) (i j : Nat) : Int := prE z h (xs.getD i []) (xs.getD j []) (fr (ps.getD i []) 0) (fr (ps.getD i []) 2) (fr (ps.getD j []) 0) (fr (ps.getD j []) 2)
noncomputable def dsP (z : List Int) (h : Int) (xs ps : List (List Int)) (i j : Nat) : List Int := vecRow (prXp z h (xs.getD i []) (xs.getD j []) (fr (ps.getD i []) 0) (fr (ps.getD i []) 2) (fr (ps.getD j []) 0) (fr (ps.getD j []) 2)) (prYp z h (xs.getD i []) (xs.getD j []) (fr (ps.getD i []) 0) (fr (ps.getD i []) 2) (fr (ps.getD j []) 0) (fr (ps.getD j []) 2))
noncomputable def dsQ (z : List Int) (h : Int) (xs ps : List (List Int)) (i j : Nat) : List Int := vecRow (prXq z h (xs.getD i []) (xs.getD j []) (fr (ps.getD i []) 0) (fr (ps.getD i []) 2) (fr (ps.getD j []) 0) (fr (ps.getD j []) 2)) (prYq z h (xs.getD i []) (xs.getD j []) (fr (ps.getD i []) 0) (fr (ps.getD i []) 2) (fr (ps.getD j []) 0) (fr (ps.getD j []) 2))
noncomputable def dIn (z : List Int) (h : Int) (xs : List (List Int)) (i : Nat) : Nat → Nat → List (List Int) → List (List Int) × Int
  | 0, _, ps => (ps, 0)
  | m + 1, j, ps => if dsE z h xs ps i j ≠ 0 then ([], dsE z h xs ps i j) else dIn z h xs i m (j + 1) ((ps.set i (dsP z h xs ps i j)).set j (dsQ z h xs ps i j))
noncomputable def dOut (z : List Int) (h : Int) (xs : List (List Int)) : Nat → Nat → List (List Int) → List (List Int) × Int
  | 0, _, ps => (ps, 0)
  | m + 1, i, ps => if (dIn z h xs i (xs.length - (i + 1)) (i + 1) ps).2 ≠ 0 then ([], (dIn z h xs i (xs.length - (i + 1)) (i + 1) ps).2) else dOut z h xs m (i + 1) (dIn z h xs i (xs.length - (i + 1)) (i + 1) ps).1
noncomputable def dirL (z : List Int) (h : Int) (xs : List (List Int)) : List (List Int) := (dOut z h xs xs.length 0 (xs.map momR)).1
noncomputable def dirE (z : List Int) (h : Int) (xs : List (List Int)) : Int := (dOut z h xs xs.length 0 (xs.map momR)).2
def SkA (z : List Int) (xs ts rs us es zs : List (List Int)) (h i : Int) : St := ⟨T 70 [(2, .ptr 5 0), (3, .ptr 6 0), (6, .sl 7), (15, .sl 0), (16, .int .i64 xs.length), (17, .int .i64 i)], worldO xs ts rs us es ++ [some (.var 86 (worldC z 0 1 2 3 4)), some (.var 28 (fx h).cells), some (.row 30 ksV zs)]⟩
theorem rKickA (Λ : FuncId → Nat → Option LoopS) (d : Nat) (z : List Int) (xs ts rs us es zs : List (List Int)) (h i : Int) (k : Out → St → Prop) : (round (envOf Try.prog ⟨Γf3, Λ, fun _ => none⟩ d) f_direct_Kick 5 0 (lp Try.prog f_direct_Kick 0) (SkA z xs ts rs us es zs h i) k) = (∀ (t1 : Prop), t1 = ((0 : Int) ≤ i ∧ i < (↑xs.length : Int)) → br (decide (i < (↑xs.length : Int))) (t1 ∧ t1 ∧ (zs.length + (1 : Nat)) * (32 : Nat) ≤ (140737488355328 : Nat) ∧ k Out.normal (St.mk (T (70 : Nat) [((2 : Nat), IV.ptr (5 : Nat) (0 : Nat)), ((3 : Nat), IV.ptr (6 : Nat) (0 : Nat)), ((6 : Nat), IV.sl (7 : Nat)), ((15 : Nat), IV.sl (0 : Nat)), ((16 : Nat), IV.int IntKind.i64 (↑xs.length : Int)), ((17 : Nat), IV.int IntKind.i64 (IntKind.i64.wrap (i + (1 : Int))))]) [some (Blk.ro ksB xs), some (Blk.ro ksT ts), some (Blk.ro ksR rs), some (Blk.ro [IntKind.i64] us), some (Blk.ro ksE es), some (Blk.var (86 : Nat) (worldC z 0 1 2 3 4)), some (Blk.var (28 : Nat) [IV.int IntKind.i64 (h / (18446744073709551616 : Int)), IV.int IntKind.u64 (h % (18446744073709551616 : Int))]), some (Blk.row (30 : Nat) ksV (zs ++ (List.replicate (1 : Nat) (List.replicate (4 : Nat) (0 : Int))).set (0 : Nat) [rd xs i.toNat (8 : Nat), rd xs i.toNat (9 : Nat), rd xs i.toNat (10 : Nat), rd xs i.toNat (11 : Nat)]))])) (k (Out.exit (0 : Nat)) (St.mk (T (70 : Nat) [((2 : Nat), IV.ptr (5 : Nat) (0 : Nat)), ((3 : Nat), IV.ptr (6 : Nat) (0 : Nat)), ((6 : Nat), IV.sl (7 : Nat))]) [some (Blk.ro ksB xs), some (Blk.ro ksT ts), some (Blk.ro ksR rs), some (Blk.ro [IntKind.i64] us), some (Blk.ro ksE es), some (Blk.var (86 : Nat) (worldC z 0 1 2 3 4)), some (Blk.var (28 : Nat) [IV.int IntKind.i64 (h / (18446744073709551616 : Int)), IV.int IntKind.u64 (h % (18446744073709551616 : Int))]), some (Blk.row (30 : Nat) ksV zs)]))) := by refine nm ?_; kernel_rfl
def pKa (n0 : Nat) (st : St) (z : List Int) (xs ts rs us es : List (List Int)) (h : Int) : Prop := xs.length ≤ 1000 ∧ n0 = 5 ∧ st = SkA z xs ts rs us es [] h 0
noncomputable def LKa : LoopS := fun n0 st K => ∃ z xs ts rs us es h, pKa n0 st z xs ts rs us es h ∧ K (.exit 0) ⟨T 70 [(2, .ptr 5 0), (3, .ptr 6 0), (6, .sl 7)], worldO xs ts rs us es ++ [some (.var 86 (worldC z 0 1 2 3 4)), some (.var 28 (fx h).cells), some (.row 30 ksV (xs.map momR))]⟩
def SkB (z : List Int) (xs ts rs us es zs : List (List Int)) (h n i : Int) : St := ⟨T 70 [(2, .ptr 5 0), (3, .ptr 6 0), (6, .sl 7), (28, .int .i64 n), (29, .int .i64 i)], worldO xs ts rs us es ++ [some (.var 86 (worldC z 0 1 2 3 4)), some (.var 28 (fx h).cells), some (.row 30 ksV zs)]⟩
def SrA (z : List Int) (xs ts rs us es zs : List (List Int)) (h i : Int) : St := ⟨T 87 [(2, .ptr 5 0), (3, .ptr 6 0), (4, .ptr 7 0), (5, .sl 8), (6, .int .i64 i)], worldO xs ts rs us es ++ [some (.var 86 (worldC z 0 1 2 3 4)), some (.var 28 (fx h).cells), some (.var 58 [.sl 9, .int .i64 0]), some (.row 30 ksV zs), some (.row 30 ksV [])]⟩
def SkC (z : List Int) (xs ts rs us es zs : List (List Int)) (h n i j : Int) : St := ⟨T 70 [(2, .ptr 5 0), (3, .ptr 6 0), (6, .sl 7), (9, .int .i64 i), (10, .int .i64 j), (28, .int .i64 n), (29, .int .i64 i)], worldO xs ts rs us es ++ [some (.var 86 (worldC z 0 1 2 3 4)), some (.var 28 (fx h).cells), some (.row 30 ksV zs)]⟩
theorem rKickC (Λ : FuncId → Nat → Option LoopS) (d : Nat) (z : List Int) (xs ts rs us es zs : List (List Int)) (h n i j : Int) (k : Out → St → Prop) : (round (envOf Try.prog ⟨Γf3, Λ, fun _ => none⟩ d) f_direct_Kick 5 2 (lp Try.prog f_direct_Kick 2) (SkC z xs ts rs us es zs h n i j) k) = (∀ (j1 : Int), j1 = h → ∀ (t2 : Int), t2 = rd zs i.toNat (0 : Nat) → ∀ (t3 : Int), t3 = rd zs i.toNat (1 : Nat) → ∀ (t4 : Int), t4 = rd zs i.toNat (2 : Nat) → ∀ (t5 : Int), t5 = rd zs i.toNat (3 : Nat) → ∀ (t6 : Int), t6 = rd zs j.toNat (0 : Nat) → ∀ (t7 : Int), t7 = rd zs j.toNat (1 : Nat) → ∀ (t8 : Int), t8 = rd zs j.toNat (2 : Nat) → ∀ (t9 : Int), t9 = rd zs j.toNat (3 : Nat) → ∀ (t10 : Prop), t10 = ((0 : Int) ≤ i ∧ i < (↑zs.length : Int)) → ∀ (t11 : Prop), t11 = ((0 : Int) ≤ j ∧ j < (↑zs.length : Int)) → ∀ (t12 : Int), t12 = t2 * (18446744073709551616 : Int) + t3 → ∀ (t13 : Int), t13 = t4 * (18446744073709551616 : Int) + t5 → ∀ (t14 : Int), t14 = t6 * (18446744073709551616 : Int) + t7 → ∀ (t15 : Int), t15 = t8 * (18446744073709551616 : Int) + t9 → ∀ (t16 : Prop), t16 = pPd [IV.agg (worldC z 0 1 2 3 4), IV.int IntKind.i64 i, IV.int IntKind.i64 j, IV.agg [IV.int IntKind.i64 t2, IV.int IntKind.u64 t3, IV.int IntKind.i64 t4, IV.int IntKind.u64 t5], IV.agg [IV.int IntKind.i64 t6, IV.int IntKind.u64 t7, IV.int IntKind.i64 t8, IV.int IntKind.u64 t9], fx h] [Blk.ro ksB xs, Blk.ro ksT ts, Blk.ro ksR rs, Blk.ro [IntKind.i64] us, Blk.ro ksE es] → ∀ (t17 : Int), t17 = prE (worN [IV.agg (worldC z 0 1 2 3 4), IV.int IntKind.i64 i, IV.int IntKind.i64 j, IV.agg [IV.int IntKind.i64 t2, IV.int IntKind.u64 t3, IV.int IntKind.i64 t4, IV.int IntKind.u64 t5], IV.agg [IV.int IntKind.i64 t6, IV.int IntKind.u64 t7, IV.int IntKind.i64 t8, IV.int IntKind.u64 t9], fx h] (0 : Nat)) j1 (xs.getD i.toNat []) (xs.getD j.toNat []) t12 t13 t14 t15 → ∀ (t18 : Int), t18 = prXp (worN [IV.agg (worldC z 0 1 2 3 4), IV.int IntKind.i64 i, IV.int IntKind.i64 j, IV.agg [IV.int IntKind.i64 t2, IV.int IntKind.u64 t3, IV.int IntKind.i64 t4, IV.int IntKind.u64 t5], IV.agg [IV.int IntKind.i64 t6, IV.int IntKind.u64 t7, IV.int IntKind.i64 t8, IV.int IntKind.u64 t9], fx h] (0 : Nat)) j1 (xs.getD i.toNat []) (xs.getD j.toNat []) t12 t13 t14 t15 → ∀ (t19 : Int), t19 = prYp (worN [IV.agg (worldC z 0 1 2 3 4), IV.int IntKind.i64 i, IV.int IntKind.i64 j, IV.agg [IV.int IntKind.i64 t2, IV.int IntKind.u64 t3, IV.int IntKind.i64 t4, IV.int IntKind.u64 t5], IV.agg [IV.int IntKind.i64 t6, IV.int IntKind.u64 t7, IV.int IntKind.i64 t8, IV.int IntKind.u64 t9], fx h] (0 : Nat)) j1 (xs.getD i.toNat []) (xs.getD j.toNat []) t12 t13 t14 t15 → ∀ (t20 : Int), t20 = prXq (worN [IV.agg (worldC z 0 1 2 3 4), IV.int IntKind.i64 i, IV.int IntKind.i64 j, IV.agg [IV.int IntKind.i64 t2, IV.int IntKind.u64 t3, IV.int IntKind.i64 t4, IV.int IntKind.u64 t5], IV.agg [IV.int IntKind.i64 t6, IV.int IntKind.u64 t7, IV.int IntKind.i64 t8, IV.int IntKind.u64 t9], fx h] (0 : Nat)) j1 (xs.getD i.toNat []) (xs.getD j.toNat []) t12 t13 t14 t15 → ∀ (t21 : Int), t21 = prYq (worN [IV.agg (worldC z 0 1 2 3 4), IV.int IntKind.i64 i, IV.int IntKind.i64 j, IV.agg [IV.int IntKind.i64 t2, IV.int IntKind.u64 t3, IV.int IntKind.i64 t4, IV.int IntKind.u64 t5], IV.agg [IV.int IntKind.i64 t6, IV.int IntKind.u64 t7, IV.int IntKind.i64 t8, IV.int IntKind.u64 t9], fx h] (0 : Nat)) j1 (xs.getD i.toNat []) (xs.getD j.toNat []) t12 t13 t14 t15 → ∀ (t22 : Prop), t22 = k Out.ret (St.mk (T (70 : Nat) [((4 : Nat), IV.sl (5 : Nat)), ((5 : Nat), IV.int IntKind.i64 t17)]) [some (Blk.ro ksB xs), some (Blk.ro ksT ts), some (Blk.ro ksR rs), some (Blk.ro [IntKind.i64] us), some (Blk.ro ksE es), some (Blk.row (30 : Nat) ksV [])]) → ∀ (t23 : Prop), t23 = ((0 : Int) ≤ j ∧ j < (↑(zs.modify i.toNat fun x => [t18 / (18446744073709551616 : Int), t18 % (18446744073709551616 : Int), t19 / (18446744073709551616 : Int), t19 % (18446744073709551616 : Int)]).length : Int)) → ∀ (t24 : Prop), t24 = k Out.normal (St.mk (T (70 : Nat) [((2 : Nat), IV.ptr (5 : Nat) (0 : Nat)), ((3 : Nat), IV.ptr (6 : Nat) (0 : Nat)), ((6 : Nat), IV.sl (7 : Nat)), ((9 : Nat), IV.int IntKind.i64 i), ((10 : Nat), IV.int IntKind.i64 (IntKind.i64.wrap (j + (1 : Int)))), ((28 : Nat), IV.int IntKind.i64 n), ((29 : Nat), IV.int IntKind.i64 i)]) [some (Blk.ro ksB xs), some (Blk.ro ksT ts), some (Blk.ro ksR rs), some (Blk.ro [IntKind.i64] us), some (Blk.ro ksE es), some (Blk.var (86 : Nat) (worldC z 0 1 2 3 4)), some (Blk.var (28 : Nat) [IV.int IntKind.i64 (h / (18446744073709551616 : Int)), IV.int IntKind.u64 (h % (18446744073709551616 : Int))]), some (Blk.row (30 : Nat) ksV ((zs.modify i.toNat fun x => [t18 / (18446744073709551616 : Int), t18 % (18446744073709551616 : Int), t19 / (18446744073709551616 : Int), t19 % (18446744073709551616 : Int)]).modify j.toNat fun x => [t20 / (18446744073709551616 : Int), t20 % (18446744073709551616 : Int), t21 / (18446744073709551616 : Int), t21 % (18446744073709551616 : Int)]))]) → ∀ (t25 : St), t25 = St.mk (T (70 : Nat) [((2 : Nat), IV.ptr (5 : Nat) (0 : Nat)), ((3 : Nat), IV.ptr (6 : Nat) (0 : Nat)), ((6 : Nat), IV.sl (7 : Nat)), ((9 : Nat), IV.int IntKind.i64 i), ((10 : Nat), IV.int IntKind.i64 j), ((11 : Nat), IV.ptr (8 : Nat) (0 : Nat)), ((12 : Nat), IV.ptr (9 : Nat) (0 : Nat)), ((13 : Nat), IV.int IntKind.i64 t17), ((28 : Nat), IV.int IntKind.i64 n), ((29 : Nat), IV.int IntKind.i64 i), ((34 : Nat), IV.int IntKind.i64 j), ((35 : Nat), IV.sl (7 : Nat)), ((36 : Nat), IV.int IntKind.i64 (↑zs.length : Int)), ((37 : Nat), IV.bool (decide (j < (↑zs.length : Int)))), ((40 : Nat), IV.tup [vx t18 t19, vx t20 t21, IV.int IntKind.i64 t17]), ((41 : Nat), IV.agg (worldC z 0 1 2 3 4)), ((42 : Nat), IV.int IntKind.i64 i), ((43 : Nat), IV.int IntKind.i64 j), ((44 : Nat), IV.sl (7 : Nat)), ((45 : Nat), IV.int IntKind.i64 i), ((46 : Nat), IV.prow (7 : Nat) i (4 : Nat) (0 : Nat)), ((47 : Nat), IV.agg [IV.int IntKind.i64 t2, IV.int IntKind.u64 t3, IV.int IntKind.i64 t4, IV.int IntKind.u64 t5]), ((48 : Nat), IV.sl (7 : Nat)), ((49 : Nat), IV.int IntKind.i64 j), ((50 : Nat), IV.prow (7 : Nat) j (4 : Nat) (0 : Nat)), ((51 : Nat), IV.agg [IV.int IntKind.i64 t6, IV.int IntKind.u64 t7, IV.int IntKind.i64 t8, IV.int IntKind.u64 t9]), ((52 : Nat), fx h), ((53 : Nat), IV.tup [vx t18 t19, vx t20 t21, IV.int IntKind.i64 t17]), ((54 : Nat), vx t18 t19), ((55 : Nat), vx t20 t21), ((56 : Nat), IV.int IntKind.i64 t17), ((57 : Nat), IV.int IntKind.i64 t17), ((58 : Nat), IV.bool (t17 != (0 : Int))), ((60 : Nat), IV.sl (7 : Nat)), ((61 : Nat), IV.int IntKind.i64 i), ((62 : Nat), IV.sl (7 : Nat)), ((63 : Nat), IV.int IntKind.i64 j), ((64 : Nat), vx t18 t19), ((65 : Nat), vx t20 t21), ((66 : Nat), IV.prow (7 : Nat) i (4 : Nat) (0 : Nat)), ((67 : Nat), IV.prow (7 : Nat) j (4 : Nat) (0 : Nat))]) [some (Blk.ro ksB xs), some (Blk.ro ksT ts), some (Blk.ro ksR rs), some (Blk.ro [IntKind.i64] us), some (Blk.ro ksE es), some (Blk.var (86 : Nat) (worldC z 0 1 2 3 4)), some (Blk.var (28 : Nat) [IV.int IntKind.i64 (h / (18446744073709551616 : Int)), IV.int IntKind.u64 (h % (18446744073709551616 : Int))]), some (Blk.row (30 : Nat) ksV ((zs.modify i.toNat fun x => [t18 / (18446744073709551616 : Int), t18 % (18446744073709551616 : Int), t19 / (18446744073709551616 : Int), t19 % (18446744073709551616 : Int)]).modify j.toNat fun x => [t20 / (18446744073709551616 : Int), t20 % (18446744073709551616 : Int), t21 / (18446744073709551616 : Int), t21 % (18446744073709551616 : Int)])), some (Blk.var (30 : Nat) [IV.int IntKind.i64 (t18 / (18446744073709551616 : Int)), IV.int IntKind.u64 (t18 % (18446744073709551616 : Int)), IV.int IntKind.i64 (t19 / (18446744073709551616 : Int)), IV.int IntKind.u64 (t19 % (18446744073709551616 : Int))]), some (Blk.var (30 : Nat) [IV.int IntKind.i64 (t20 / (18446744073709551616 : Int)), IV.int IntKind.u64 (t20 % (18446744073709551616 : Int)), IV.int IntKind.i64 (t21 / (18446744073709551616 : Int)), IV.int IntKind.u64 (t21 % (18446744073709551616 : Int))])] → ∀ (t26 : St), t26 = St.mk (T (70 : Nat) [((2 : Nat), IV.ptr (5 : Nat) (0 : Nat)), ((3 : Nat), IV.ptr (6 : Nat) (0 : Nat)), ((6 : Nat), IV.sl (7 : Nat)), ((9 : Nat), IV.int IntKind.i64 i), ((10 : Nat), IV.int IntKind.i64 j), ((11 : Nat), IV.ptr (9 : Nat) (0 : Nat)), ((12 : Nat), IV.ptr (8 : Nat) (0 : Nat)), ((13 : Nat), IV.int IntKind.i64 t17), ((28 : Nat), IV.int IntKind.i64 n), ((29 : Nat), IV.int IntKind.i64 i), ((34 : Nat), IV.int IntKind.i64 j), ((35 : Nat), IV.sl (7 : Nat)), ((36 : Nat), IV.int IntKind.i64 (↑zs.length : Int)), ((37 : Nat), IV.bool (decide (j < (↑zs.length : Int)))), ((40 : Nat), IV.tup [vx t18 t19, vx t20 t21, IV.int IntKind.i64 t17]), ((41 : Nat), IV.agg (worldC z 0 1 2 3 4)), ((42 : Nat), IV.int IntKind.i64 i), ((43 : Nat), IV.int IntKind.i64 j), ((44 : Nat), IV.sl (7 : Nat)), ((45 : Nat), IV.int IntKind.i64 i), ((46 : Nat), IV.prow (7 : Nat) i (4 : Nat) (0 : Nat)), ((47 : Nat), IV.agg [IV.int IntKind.i64 t2, IV.int IntKind.u64 t3, IV.int IntKind.i64 t4, IV.int IntKind.u64 t5]), ((48 : Nat), IV.sl (7 : Nat)), ((49 : Nat), IV.int IntKind.i64 j), ((50 : Nat), IV.prow (7 : Nat) j (4 : Nat) (0 : Nat)), ((51 : Nat), IV.agg [IV.int IntKind.i64 t6, IV.int IntKind.u64 t7, IV.int IntKind.i64 t8, IV.int IntKind.u64 t9]), ((52 : Nat), fx h), ((53 : Nat), IV.tup [vx t18 t19, vx t20 t21, IV.int IntKind.i64 t17]), ((54 : Nat), vx t18 t19), ((55 : Nat), vx t20 t21), ((56 : Nat), IV.int IntKind.i64 t17), ((57 : Nat), IV.int IntKind.i64 t17), ((58 : Nat), IV.bool (t17 != (0 : Int))), ((60 : Nat), IV.sl (7 : Nat)), ((61 : Nat), IV.int IntKind.i64 i), ((62 : Nat), IV.sl (7 : Nat)), ((63 : Nat), IV.int IntKind.i64 j), ((64 : Nat), vx t18 t19), ((65 : Nat), vx t20 t21), ((66 : Nat), IV.prow (7 : Nat) i (4 : Nat) (0 : Nat)), ((67 : Nat), IV.prow (7 : Nat) j (4 : Nat) (0 : Nat))]) [some (Blk.ro ksB xs), some (Blk.ro ksT ts), some (Blk.ro ksR rs), some (Blk.ro [IntKind.i64] us), some (Blk.ro ksE es), some (Blk.var (86 : Nat) (worldC z 0 1 2 3 4)), some (Blk.var (28 : Nat) [IV.int IntKind.i64 (h / (18446744073709551616 : Int)), IV.int IntKind.u64 (h % (18446744073709551616 : Int))]), some (Blk.row (30 : Nat) ksV ((zs.modify i.toNat fun x => [t18 / (18446744073709551616 : Int), t18 % (18446744073709551616 : Int), t19 / (18446744073709551616 : Int), t19 % (18446744073709551616 : Int)]).modify j.toNat fun x => [t20 / (18446744073709551616 : Int), t20 % (18446744073709551616 : Int), t21 / (18446744073709551616 : Int), t21 % (18446744073709551616 : Int)])), some (Blk.var (30 : Nat) [IV.int IntKind.i64 (t20 / (18446744073709551616 : Int)), IV.int IntKind.u64 (t20 % (18446744073709551616 : Int)), IV.int IntKind.i64 (t21 / (18446744073709551616 : Int)), IV.int IntKind.u64 (t21 % (18446744073709551616 : Int))]), some (Blk.var (30 : Nat) [IV.int IntKind.i64 (t18 / (18446744073709551616 : Int)), IV.int IntKind.u64 (t18 % (18446744073709551616 : Int)), IV.int IntKind.i64 (t19 / (18446744073709551616 : Int)), IV.int IntKind.u64 (t19 % (18446744073709551616 : Int))])] → ∀ (t27 : Prop), t27 = (t16 ∧ br (t17 != (0 : Int)) t22 (t10 ∧ t10 ∧ t23 ∧ t23 ∧ (t10 ∧ t10 ∧ t23 ∧ t23 ∧ t25 = t25) ∧ t24)) → ∀ (t28 : Prop), t28 = (t16 ∧ br (t17 != (0 : Int)) t22 (t10 ∧ t10 ∧ t23 ∧ t23 ∧ (t10 ∧ t10 ∧ t23 ∧ t23 ∧ t26 = t26) ∧ t24)) → br (decide (j < (↑zs.length : Int))) (t10 ∧ t10 ∧ t11 ∧ t11 ∧ (t16 ∧ br (t17 != (0 : Int)) t22 (t10 ∧ t10 ∧ t23 ∧ t23 ∧ (t10 ∧ t10 ∧ t23 ∧ t23 ∧ t25 = t25) ∧ t24) ∧ br (t17 != (0 : Int)) t22 (t10 ∧ t10 ∧ t23 ∧ t23 ∧ (t10 ∧ t10 ∧ t23 ∧ t23 ∧ t26 = t26) ∧ t24)) ∧ (t27 ∧ t27) ∧ t28 ∧ t28) (k (Out.exit (4 : Nat)) (St.mk (T (70 : Nat) [((2 : Nat), IV.ptr (5 : Nat) (0 : Nat)), ((3 : Nat), IV.ptr (6 : Nat) (0 : Nat)), ((6 : Nat), IV.sl (7 : Nat)), ((28 : Nat), IV.int IntKind.i64 n), ((29 : Nat), IV.int IntKind.i64 i)]) [some (Blk.ro ksB xs), some (Blk.ro ksT ts), some (Blk.ro ksR rs), some (Blk.ro [IntKind.i64] us), some (Blk.ro ksE es), some (Blk.var (86 : Nat) (worldC z 0 1 2 3 4)), some (Blk.var (28 : Nat) [IV.int IntKind.i64 (h / (18446744073709551616 : Int)), IV.int IntKind.u64 (h % (18446744073709551616 : Int))]), some (Blk.row (30 : Nat) ksV zs)]))) := by refine nj ?_; refine nm ?_; refine nm ?_; refine nm ?_; refine nm ?_; refine nm ?_; refine nm ?_; refine nm ?_; refine nm ?_; refine nm ?_; refine nm ?_; refine nm ?_; refine nm ?_; refine nm ?_; refine nm ?_; refine nm ?_; refine nm ?_; refine nm ?_; refine nm ?_; refine nm ?_; refine nm ?_; refine nm ?_; refine nm ?_; refine nm ?_; refine nm ?_; refine nm ?_; refine nm ?_; refine nm ?_; kernel_rfl
def SrB (z : List Int) (xs ts rs us es zs : List (List Int)) (h i j : Int) : St := ⟨T 87 [(2, .ptr 5 0), (3, .ptr 6 0), (4, .ptr 7 0), (5, .sl 8), (6, .int .i64 i), (7, .int .i64 j)], worldO xs ts rs us es ++ [some (.var 86 (worldC z 0 1 2 3 4)), some (.var 28 (fx h).cells), some (.var 58 [.sl 9, .int .i64 0]), some (.row 30 ksV zs), some (.row 30 ksV [])]⟩
theorem rDirB (Λ : FuncId → Nat → Option LoopS) (d : Nat) (z : List Int) (xs ts rs us es zs : List (List Int)) (h i j : Int) (k : Out → St → Prop) : (round (envOf Try.prog ⟨Γf3, Λ, fun _ => none⟩ d) f_perigeeref10_Direct 5 1 (lp Try.prog f_perigeeref10_Direct 1) (SrB z xs ts rs us es zs h i j) k) = (∀ (j1 : Int), j1 = h → ∀ (t2 : Int), t2 = gvX (worN [IV.agg (worldC z 0 1 2 3 4), IV.int IntKind.i64 i, IV.agg [IV.int IntKind.i64 (rd xs j.toNat (0 : Nat)), IV.int IntKind.u64 (rd xs j.toNat (1 : Nat))], IV.agg [IV.int IntKind.i64 (rd xs j.toNat (4 : Nat)), IV.int IntKind.u64 (rd xs j.toNat (5 : Nat)), IV.int IntKind.i64 (rd xs j.toNat (6 : Nat)), IV.int IntKind.u64 (rd xs j.toNat (7 : Nat))], fx h] (0 : Nat)) j1 (xs.getD i.toNat []) (rd xs j.toNat (0 : Nat) * (18446744073709551616 : Int) + rd xs j.toNat (1 : Nat)) (rd xs j.toNat (4 : Nat) * (18446744073709551616 : Int) + rd xs j.toNat (5 : Nat)) (rd xs j.toNat (6 : Nat) * (18446744073709551616 : Int) + rd xs j.toNat (7 : Nat)) → ∀ (j3 : Int), j3 = t2 → ∀ (t4 : Int), t4 = gvY (worN [IV.agg (worldC z 0 1 2 3 4), IV.int IntKind.i64 i, IV.agg [IV.int IntKind.i64 (rd xs j.toNat (0 : Nat)), IV.int IntKind.u64 (rd xs j.toNat (1 : Nat))], IV.agg [IV.int IntKind.i64 (rd xs j.toNat (4 : Nat)), IV.int IntKind.u64 (rd xs j.toNat (5 : Nat)), IV.int IntKind.i64 (rd xs j.toNat (6 : Nat)), IV.int IntKind.u64 (rd xs j.toNat (7 : Nat))], fx h] (0 : Nat)) j1 (xs.getD i.toNat []) (rd xs j.toNat (0 : Nat) * (18446744073709551616 : Int) + rd xs j.toNat (1 : Nat)) (rd xs j.toNat (4 : Nat) * (18446744073709551616 : Int) + rd xs j.toNat (5 : Nat)) (rd xs j.toNat (6 : Nat) * (18446744073709551616 : Int) + rd xs j.toNat (7 : Nat)) → ∀ (j5 : Int), j5 = t4 → ∀ (t6 : Int), t6 = rd xs j.toNat (0 : Nat) → ∀ (t7 : Int), t7 = rd xs j.toNat (1 : Nat) → ∀ (t8 : Int), t8 = rd xs j.toNat (4 : Nat) → ∀ (t9 : Int), t9 = rd xs j.toNat (5 : Nat) → ∀ (t10 : Int), t10 = rd xs j.toNat (6 : Nat) → ∀ (t11 : Int), t11 = rd xs j.toNat (7 : Nat) → ∀ (t12 : Int), t12 = rd zs i.toNat (0 : Nat) → ∀ (t13 : Int), t13 = rd zs i.toNat (1 : Nat) → ∀ (t14 : Int), t14 = rd zs i.toNat (2 : Nat) → ∀ (t15 : Int), t15 = rd zs i.toNat (3 : Nat) → ∀ (t16 : Int), t16 = rd zs j.toNat (0 : Nat) → ∀ (t17 : Int), t17 = rd zs j.toNat (1 : Nat) → ∀ (t18 : Int), t18 = rd zs j.toNat (2 : Nat) → ∀ (t19 : Int), t19 = rd zs j.toNat (3 : Nat) → ∀ (t20 : Prop), t20 = ((0 : Int) ≤ j ∧ j < (↑xs.length : Int)) → ∀ (t21 : Prop), t21 = ((0 : Int) ≤ i ∧ i < (↑zs.length : Int)) → ∀ (t22 : Prop), t22 = ((0 : Int) ≤ j ∧ j < (↑zs.length : Int)) → ∀ (t23 : Int), t23 = t12 * (18446744073709551616 : Int) + t13 + j3 → ∀ (t24 : Int), t24 = t14 * (18446744073709551616 : Int) + t15 + j5 → ∀ (t25 : Int), t25 = t16 * (18446744073709551616 : Int) + t17 - j3 → ∀ (t26 : Int), t26 = t18 * (18446744073709551616 : Int) + t19 - j5 → ∀ (t27 : Int), t27 = e2 t23 t24 → ∀ (t28 : Int), t28 = e2 t25 t26 → ∀ (t29 : Int), t29 = n2 t23 t24 t23 → ∀ (t30 : Int), t30 = n2 t23 t24 t24 → ∀ (t31 : Int), t31 = n2 t25 t26 t25 → ∀ (t32 : Int), t32 = n2 t25 t26 t26 → ∀ (t33 : Int), t33 = gvE (worN [IV.agg (worldC z 0 1 2 3 4), IV.int IntKind.i64 i, IV.agg [IV.int IntKind.i64 t6, IV.int IntKind.u64 t7], IV.agg [IV.int IntKind.i64 t8, IV.int IntKind.u64 t9, IV.int IntKind.i64 t10, IV.int IntKind.u64 t11], fx h] (0 : Nat)) j1 (xs.getD i.toNat []) (t6 * (18446744073709551616 : Int) + t7) (t8 * (18446744073709551616 : Int) + t9) (t10 * (18446744073709551616 : Int) + t11) → ∀ (t34 : Prop), t34 = ((0 : Int) ≤ j ∧ j < (↑(zs.modify i.toNat fun x => [t29 / (18446744073709551616 : Int), t29 % (18446744073709551616 : Int), t30 / (18446744073709551616 : Int), t30 % (18446744073709551616 : Int)]).length : Int)) → ∀ (t35 : Prop), t35 = (pRp [IV.agg (worldC z 0 1 2 3 4), IV.int IntKind.i64 i, IV.agg [IV.int IntKind.i64 t6, IV.int IntKind.u64 t7], IV.agg [IV.int IntKind.i64 t8, IV.int IntKind.u64 t9, IV.int IntKind.i64 t10, IV.int IntKind.u64 t11], fx h] [Blk.ro ksB xs, Blk.ro ksT ts, Blk.ro ksR rs, Blk.ro [IntKind.i64] us, Blk.ro ksE es] ∧ br (t33 != (0 : Int)) (k Out.ret (St.mk (T (87 : Nat) [((4 : Nat), IV.ptr (5 : Nat) (0 : Nat))]) [some (Blk.ro ksB xs), some (Blk.ro ksT ts), some (Blk.ro ksR rs), some (Blk.ro [IntKind.i64] us), some (Blk.ro ksE es), some (Blk.var (58 : Nat) [IV.sl (6 : Nat), IV.int IntKind.i64 t33]), some (Blk.row (30 : Nat) ksV [])])) (t21 ∧ t21 ∧ vmay2 [IV.agg [IV.int IntKind.i64 t12, IV.int IntKind.u64 t13, IV.int IntKind.i64 t14, IV.int IntKind.u64 t15], vx t2 t4] [] ∧ br (t27 != (0 : Int)) (k Out.ret (St.mk (T (87 : Nat) [((4 : Nat), IV.ptr (5 : Nat) (0 : Nat))]) [some (Blk.ro ksB xs), some (Blk.ro ksT ts), some (Blk.ro ksR rs), some (Blk.ro [IntKind.i64] us), some (Blk.ro ksE es), some (Blk.var (58 : Nat) [IV.sl (6 : Nat), IV.int IntKind.i64 t27]), some (Blk.row (30 : Nat) ksV [])])) (t22 ∧ t22 ∧ vmay2 [IV.agg [IV.int IntKind.i64 t16, IV.int IntKind.u64 t17, IV.int IntKind.i64 t18, IV.int IntKind.u64 t19], vx t2 t4] [] ∧ br (t28 != (0 : Int)) (k Out.ret (St.mk (T (87 : Nat) [((4 : Nat), IV.ptr (5 : Nat) (0 : Nat))]) [some (Blk.ro ksB xs), some (Blk.ro ksT ts), some (Blk.ro ksR rs), some (Blk.ro [IntKind.i64] us), some (Blk.ro ksE es), some (Blk.var (58 : Nat) [IV.sl (6 : Nat), IV.int IntKind.i64 t28]), some (Blk.row (30 : Nat) ksV [])])) (t21 ∧ t21 ∧ t34 ∧ t34 ∧ k Out.normal (St.mk (T (87 : Nat) [((2 : Nat), IV.ptr (5 : Nat) (0 : Nat)), ((3 : Nat), IV.ptr (6 : Nat) (0 : Nat)), ((4 : Nat), IV.ptr (7 : Nat) (0 : Nat)), ((5 : Nat), IV.sl (8 : Nat)), ((6 : Nat), IV.int IntKind.i64 i), ((7 : Nat), IV.int IntKind.i64 (IntKind.i64.wrap (j + (1 : Int))))]) [some (Blk.ro ksB xs), some (Blk.ro ksT ts), some (Blk.ro ksR rs), some (Blk.ro [IntKind.i64] us), some (Blk.ro ksE es), some (Blk.var (86 : Nat) (worldC z 0 1 2 3 4)), some (Blk.var (28 : Nat) [IV.int IntKind.i64 (h / (18446744073709551616 : Int)), IV.int IntKind.u64 (h % (18446744073709551616 : Int))]), some (Blk.var (58 : Nat) [IV.sl (9 : Nat), IV.int IntKind.i64 (0 : Int)]), some (Blk.row (30 : Nat) ksV ((zs.modify i.toNat fun x => [t29 / (18446744073709551616 : Int), t29 % (18446744073709551616 : Int), t30 / (18446744073709551616 : Int), t30 % (18446744073709551616 : Int)]).modify j.toNat fun x => [t31 / (18446744073709551616 : Int), t31 % (18446744073709551616 : Int), t32 / (18446744073709551616 : Int), t32 % (18446744073709551616 : Int)])), some (Blk.row (30 : Nat) ksV [])]))))) → br (decide (j < (↑zs.length : Int))) (t20 ∧ t20 ∧ t20 ∧ t20 ∧ t35 ∧ t35) (k (Out.exit (2 : Nat)) (St.mk (T (87 : Nat) [((2 : Nat), IV.ptr (5 : Nat) (0 : Nat)), ((3 : Nat), IV.ptr (6 : Nat) (0 : Nat)), ((4 : Nat), IV.ptr (7 : Nat) (0 : Nat)), ((5 : Nat), IV.sl (8 : Nat)), ((6 : Nat), IV.int IntKind.i64 i)]) [some (Blk.ro ksB xs), some (Blk.ro ksT ts), some (Blk.ro ksR rs), some (Blk.ro [IntKind.i64] us), some (Blk.ro ksE es), some (Blk.var (86 : Nat) (worldC z 0 1 2 3 4)), some (Blk.var (28 : Nat) [IV.int IntKind.i64 (h / (18446744073709551616 : Int)), IV.int IntKind.u64 (h % (18446744073709551616 : Int))]), some (Blk.var (58 : Nat) [IV.sl (9 : Nat), IV.int IntKind.i64 (0 : Int)]), some (Blk.row (30 : Nat) ksV zs), some (Blk.row (30 : Nat) ksV [])]))) := by refine nj ?_; refine nm ?_; refine nj ?_; refine nm ?_; refine nj ?_; refine nm ?_; refine nm ?_; refine nm ?_; refine nm ?_; refine nm ?_; refine nm ?_; refine nm ?_; refine nm ?_; refine nm ?_; refine nm ?_; refine nm ?_; refine nm ?_; refine nm ?_; refine nm ?_; refine nm ?_; refine nm ?_; refine nm ?_; refine nm ?_; refine nm ?_; refine nm ?_; refine nm ?_; refine nm ?_; refine nm ?_; refine nm ?_; refine nm ?_; refine nm ?_; refine nm ?_; refine nm ?_; refine nm ?_; refine nm ?_; kernel_rfl
end Go.Vs.RF


set_option linter.unusedVariables false
/- direct: each pulls each, whole -/
namespace Go.Vs.RF
open Go Go.Proofs Go.Vs
def isV (p : List Int) : Prop := ∃ x y, p = vecRow x y ∧ mayF x ∧ mayF y
def allV (zs : List (List Int)) : Prop := ∀ p ∈ zs, isV p
def dirOk (z : List Int) (xs zs : List (List Int)) (h : Int) : Prop := mayZ z ∧ goodBs xs ∧ mayF h ∧ allV zs ∧ zs.length = xs.length ∧ xs.length ≤ 1000
def pKc (n0 : Nat) (st : St) (z : List Int) (xs ts rs us es zs : List (List Int)) (h : Int) (i : Nat) : Prop := dirOk z xs zs h ∧ i < xs.length ∧ n0 = 5 ∧ st = SkC z xs ts rs us es zs h xs.length i (IntKind.i64.wrap ((i : Int) + 1))
noncomputable def inn (z : List Int) (h : Int) (xs : List (List Int)) (i : Nat) (zs : List (List Int)) : List (List Int) × Int := dIn z h xs i (xs.length - (i + 1)) (i + 1) zs
noncomputable def innL (z : List Int) (h : Int) (xs : List (List Int)) (i : Nat) (zs : List (List Int)) : List (List Int) := (inn z h xs i zs).1
noncomputable def innE (z : List Int) (h : Int) (xs : List (List Int)) (i : Nat) (zs : List (List Int)) : Int := (inn z h xs i zs).2
noncomputable def LKc : LoopS := fun n0 st K => ∃ z xs ts rs us es zs h i, pKc n0 st z xs ts rs us es zs h i ∧ br (innE z h xs i zs != 0) (K .ret ⟨T 70 [(4, .sl 5), (5, .int .i64 (innE z h xs i zs))], worldO xs ts rs us es ++ [some (.row 30 ksV [])]⟩)
  (K (.exit 4) ⟨T 70 [(2, .ptr 5 0), (3, .ptr 6 0), (6, .sl 7), (28, .int .i64 xs.length), (29, .int .i64 i)], worldO xs ts rs us es ++ [some (.var 86 (worldC z 0 1 2 3 4)), some (.var 28 (fx h).cells), some (.row 30 ksV (innL z h xs i zs))]⟩)
theorem rKickB (Λ : FuncId → Nat → Option LoopS) (d : Nat) (z : List Int) (xs ts rs us es zs : List (List Int)) (h n i : Int) (k : Out → St → Prop) : (round (envOf Try.prog ⟨Γf3, fun f i => if f = f_direct_Kick then (if i = 2 then some LKc else Λ f i) else Λ f i, fun _ => none⟩ d) f_direct_Kick 5 1 (lp Try.prog f_direct_Kick 1) (SkB z xs ts rs us es zs h n i) k) = (br (decide (i < n)) (∃ z_1 xs_1 ts_1 rs_1 us_1 es_1 zs_1 h_1 i_1, pKc (5 : Nat) (St.mk (T (70 : Nat) [((2 : Nat), IV.ptr (5 : Nat) (0 : Nat)), ((3 : Nat), IV.ptr (6 : Nat) (0 : Nat)), ((6 : Nat), IV.sl (7 : Nat)), ((9 : Nat), IV.int IntKind.i64 i), ((10 : Nat), IV.int IntKind.i64 (IntKind.i64.wrap (i + (1 : Int)))), ((28 : Nat), IV.int IntKind.i64 n), ((29 : Nat), IV.int IntKind.i64 i)]) [some (Blk.ro ksB xs), some (Blk.ro ksT ts), some (Blk.ro ksR rs), some (Blk.ro [IntKind.i64] us), some (Blk.ro ksE es), some (Blk.var (86 : Nat) (worldC z 0 1 2 3 4)), some (Blk.var (28 : Nat) [IV.int IntKind.i64 (h / (18446744073709551616 : Int)), IV.int IntKind.u64 (h % (18446744073709551616 : Int))]), some (Blk.row (30 : Nat) ksV zs)]) z_1 xs_1 ts_1 rs_1 us_1 es_1 zs_1 h_1 i_1 ∧ br (innE z_1 h_1 xs_1 i_1 zs_1 != (0 : Int)) (k Out.ret (St.mk (T (70 : Nat) [((4 : Nat), IV.sl (5 : Nat)), ((5 : Nat), IV.int IntKind.i64 (innE z_1 h_1 xs_1 i_1 zs_1))]) [some (Blk.ro ksB xs_1), some (Blk.ro ksT ts_1), some (Blk.ro ksR rs_1), some (Blk.ro [IntKind.i64] us_1), some (Blk.ro ksE es_1), some (Blk.row (30 : Nat) ksV [])])) (k Out.normal (St.mk (T (70 : Nat) [((2 : Nat), IV.ptr (5 : Nat) (0 : Nat)), ((3 : Nat), IV.ptr (6 : Nat) (0 : Nat)), ((6 : Nat), IV.sl (7 : Nat)), ((28 : Nat), IV.int IntKind.i64 (↑xs_1.length : Int)), ((29 : Nat), IV.int IntKind.i64 (IntKind.i64.wrap ((↑i_1 : Int) + (1 : Int))))]) [some (Blk.ro ksB xs_1), some (Blk.ro ksT ts_1), some (Blk.ro ksR rs_1), some (Blk.ro [IntKind.i64] us_1), some (Blk.ro ksE es_1), some (Blk.var (86 : Nat) (worldC z_1 0 1 2 3 4)), some (Blk.var (28 : Nat) [IV.int IntKind.i64 (h_1 / (18446744073709551616 : Int)), IV.int IntKind.u64 (h_1 % (18446744073709551616 : Int))]), some (Blk.row (30 : Nat) ksV (innL z_1 h_1 xs_1 i_1 zs_1))]))) (k (Out.exit (2 : Nat)) (St.mk (T (70 : Nat) [((6 : Nat), IV.sl (5 : Nat))]) [some (Blk.ro ksB xs), some (Blk.ro ksT ts), some (Blk.ro ksR rs), some (Blk.ro [IntKind.i64] us), some (Blk.ro ksE es), some (Blk.row (30 : Nat) ksV zs)]))) := by kernel_rfl
def pKb (n0 : Nat) (st : St) (z : List Int) (xs ts rs us es zs : List (List Int)) (h : Int) : Prop := dirOk z xs zs h ∧ n0 = 5 ∧ st = SkB z xs ts rs us es zs h xs.length 0
noncomputable def outL (z : List Int) (h : Int) (xs zs : List (List Int)) : List (List Int) := (dOut z h xs xs.length 0 zs).1
noncomputable def outE (z : List Int) (h : Int) (xs zs : List (List Int)) : Int := (dOut z h xs xs.length 0 zs).2
noncomputable def LKb : LoopS := fun n0 st K => ∃ z xs ts rs us es zs h, pKb n0 st z xs ts rs us es zs h ∧ br (outE z h xs zs != 0) (K .ret ⟨T 70 [(4, .sl 5), (5, .int .i64 (outE z h xs zs))], worldO xs ts rs us es ++ [some (.row 30 ksV [])]⟩) (K (.exit 2) ⟨T 70 [(6, .sl 5)], worldO xs ts rs us es ++ [some (.row 30 ksV (outL z h xs zs))]⟩)
noncomputable def NKk : Know := ⟨Γf3, fun f i => if f = f_direct_Kick then (if i = 2 then some LKc else if i = 0 then some LKa else if i = 1 then some LKb else none) else none, fun _ => none⟩
theorem v_Kick (z : List Int) (xs ts rs us es : List (List Int)) (h : Int) (K : IV → List Blk → Prop) : (comes Try.prog NKk 3 f_direct_Kick [.agg (worldC z 0 1 2 3 4), fx h] (worldB xs ts rs us es) K) = (∃ z_1 xs_1 ts_1 rs_1 us_1 es_1 h_1, pKa (5 : Nat) (St.mk (T (70 : Nat) [((2 : Nat), IV.ptr (5 : Nat) (0 : Nat)), ((3 : Nat), IV.ptr (6 : Nat) (0 : Nat)), ((6 : Nat), IV.sl (7 : Nat)), ((15 : Nat), IV.sl (0 : Nat)), ((16 : Nat), IV.int IntKind.i64 (↑xs.length : Int)), ((17 : Nat), IV.int IntKind.i64 (0 : Int))]) [some (Blk.ro ksB xs), some (Blk.ro ksT ts), some (Blk.ro ksR rs), some (Blk.ro [IntKind.i64] us), some (Blk.ro ksE es), some (Blk.var (86 : Nat) (worldC z 0 1 2 3 4)), some (Blk.var (28 : Nat) [IV.int IntKind.i64 (h / (18446744073709551616 : Int)), IV.int IntKind.u64 (h % (18446744073709551616 : Int))]), some (Blk.row (30 : Nat) ksV [])]) z_1 xs_1 ts_1 rs_1 us_1 es_1 h_1 ∧ ∃ z xs ts rs us es zs h, pKb (5 : Nat) (St.mk (T (70 : Nat) [((2 : Nat), IV.ptr (5 : Nat) (0 : Nat)), ((3 : Nat), IV.ptr (6 : Nat) (0 : Nat)), ((6 : Nat), IV.sl (7 : Nat)), ((28 : Nat), IV.int IntKind.i64 (↑(List.map momR xs_1).length : Int)), ((29 : Nat), IV.int IntKind.i64 (0 : Int))]) [some (Blk.ro ksB xs_1), some (Blk.ro ksT ts_1), some (Blk.ro ksR rs_1), some (Blk.ro [IntKind.i64] us_1), some (Blk.ro ksE es_1), some (Blk.var (86 : Nat) (worldC z_1 0 1 2 3 4)), some (Blk.var (28 : Nat) [IV.int IntKind.i64 (h_1 / (18446744073709551616 : Int)), IV.int IntKind.u64 (h_1 % (18446744073709551616 : Int))]), some (Blk.row (30 : Nat) ksV (List.map momR xs_1))]) z xs ts rs us es zs h ∧ br (outE z h xs zs != (0 : Int)) (K (IV.tup [IV.sl (0 : Nat), IV.int IntKind.i64 (outE z h xs zs)]) [Blk.row (30 : Nat) ksV []]) (K (IV.tup [IV.sl (0 : Nat), IV.int IntKind.i64 (0 : Int)]) [Blk.row (30 : Nat) ksV (outL z h xs zs)])) := by kernel_rfl
def pDb (n0 : Nat) (st : St) (z : List Int) (xs ts rs us es zs : List (List Int)) (h : Int) (i : Nat) : Prop := dirOk z xs zs h ∧ i < xs.length ∧ n0 = 5 ∧ st = SrB z xs ts rs us es zs h i (IntKind.i64.wrap ((i : Int) + 1))
noncomputable def LDb : LoopS := fun n0 st K => ∃ z xs ts rs us es zs h i, pDb n0 st z xs ts rs us es zs h i ∧ br (innE z h xs i zs != 0) (K .ret ⟨T 87 [(4, .ptr 5 0)], worldO xs ts rs us es ++ [some (.var 58 [.sl 6, .int .i64 (innE z h xs i zs)]), some (.row 30 ksV [])]⟩)
  (K (.exit 2) ⟨T 87 [(2, .ptr 5 0), (3, .ptr 6 0), (4, .ptr 7 0), (5, .sl 8), (6, .int .i64 i)], worldO xs ts rs us es ++ [some (.var 86 (worldC z 0 1 2 3 4)), some (.var 28 (fx h).cells), some (.var 58 [.sl 9, .int .i64 0]), some (.row 30 ksV (innL z h xs i zs)), some (.row 30 ksV [])]⟩)
theorem rDirA (Λ : FuncId → Nat → Option LoopS) (d : Nat) (z : List Int) (xs ts rs us es zs : List (List Int)) (h i : Int) (k : Out → St → Prop) : (round (envOf Try.prog ⟨Γf3, fun f i => if f = f_perigeeref10_Direct then (if i = 1 then some LDb else Λ f i) else Λ f i, fun _ => none⟩ d) f_perigeeref10_Direct 5 0 (lp Try.prog f_perigeeref10_Direct 0) (SrA z xs ts rs us es zs h i) k) = (br (decide (i < (↑zs.length : Int))) (∃ z_1 xs_1 ts_1 rs_1 us_1 es_1 zs_1 h_1 i_1, pDb (5 : Nat) (St.mk (T (87 : Nat) [((2 : Nat), IV.ptr (5 : Nat) (0 : Nat)), ((3 : Nat), IV.ptr (6 : Nat) (0 : Nat)), ((4 : Nat), IV.ptr (7 : Nat) (0 : Nat)), ((5 : Nat), IV.sl (8 : Nat)), ((6 : Nat), IV.int IntKind.i64 i), ((7 : Nat), IV.int IntKind.i64 (IntKind.i64.wrap (i + (1 : Int))))]) [some (Blk.ro ksB xs), some (Blk.ro ksT ts), some (Blk.ro ksR rs), some (Blk.ro [IntKind.i64] us), some (Blk.ro ksE es), some (Blk.var (86 : Nat) (worldC z 0 1 2 3 4)), some (Blk.var (28 : Nat) [IV.int IntKind.i64 (h / (18446744073709551616 : Int)), IV.int IntKind.u64 (h % (18446744073709551616 : Int))]), some (Blk.var (58 : Nat) [IV.sl (9 : Nat), IV.int IntKind.i64 (0 : Int)]), some (Blk.row (30 : Nat) ksV zs), some (Blk.row (30 : Nat) ksV [])]) z_1 xs_1 ts_1 rs_1 us_1 es_1 zs_1 h_1 i_1 ∧ br (innE z_1 h_1 xs_1 i_1 zs_1 != (0 : Int)) (k Out.ret (St.mk (T (87 : Nat) [((4 : Nat), IV.ptr (5 : Nat) (0 : Nat))]) [some (Blk.ro ksB xs_1), some (Blk.ro ksT ts_1), some (Blk.ro ksR rs_1), some (Blk.ro [IntKind.i64] us_1), some (Blk.ro ksE es_1), some (Blk.var (58 : Nat) [IV.sl (6 : Nat), IV.int IntKind.i64 (innE z_1 h_1 xs_1 i_1 zs_1)]), some (Blk.row (30 : Nat) ksV [])])) (k Out.normal (St.mk (T (87 : Nat) [((2 : Nat), IV.ptr (5 : Nat) (0 : Nat)), ((3 : Nat), IV.ptr (6 : Nat) (0 : Nat)), ((4 : Nat), IV.ptr (7 : Nat) (0 : Nat)), ((5 : Nat), IV.sl (8 : Nat)), ((6 : Nat), IV.int IntKind.i64 (IntKind.i64.wrap ((↑i_1 : Int) + (1 : Int))))]) [some (Blk.ro ksB xs_1), some (Blk.ro ksT ts_1), some (Blk.ro ksR rs_1), some (Blk.ro [IntKind.i64] us_1), some (Blk.ro ksE es_1), some (Blk.var (86 : Nat) (worldC z_1 0 1 2 3 4)), some (Blk.var (28 : Nat) [IV.int IntKind.i64 (h_1 / (18446744073709551616 : Int)), IV.int IntKind.u64 (h_1 % (18446744073709551616 : Int))]), some (Blk.var (58 : Nat) [IV.sl (9 : Nat), IV.int IntKind.i64 (0 : Int)]), some (Blk.row (30 : Nat) ksV (innL z_1 h_1 xs_1 i_1 zs_1)), some (Blk.row (30 : Nat) ksV [])]))) (k (Out.exit (0 : Nat)) (St.mk (T (87 : Nat) [((4 : Nat), IV.ptr (5 : Nat) (0 : Nat)), ((5 : Nat), IV.sl (6 : Nat))]) [some (Blk.ro ksB xs), some (Blk.ro ksT ts), some (Blk.ro ksR rs), some (Blk.ro [IntKind.i64] us), some (Blk.ro ksE es), some (Blk.var (58 : Nat) [IV.sl (7 : Nat), IV.int IntKind.i64 (0 : Int)]), some (Blk.row (30 : Nat) ksV zs), some (Blk.row (30 : Nat) ksV [])]))) := by kernel_rfl
def pDaa (n0 : Nat) (st : St) (z : List Int) (xs ts rs us es zs : List (List Int)) (h : Int) : Prop := dirOk z xs zs h ∧ n0 = 5 ∧ st = SrA z xs ts rs us es zs h 0
noncomputable def LDaa : LoopS := fun n0 st K => ∃ z xs ts rs us es zs h, pDaa n0 st z xs ts rs us es zs h ∧ br (outE z h xs zs != 0) (K .ret ⟨T 87 [(4, .ptr 5 0)], worldO xs ts rs us es ++ [some (.var 58 [.sl 6, .int .i64 (outE z h xs zs)]), some (.row 30 ksV [])]⟩)
  (K (.exit 0) ⟨T 87 [(4, .ptr 5 0), (5, .sl 6)], worldO xs ts rs us es ++ [some (.var 58 [.sl 7, .int .i64 0]), some (.row 30 ksV (outL z h xs zs)), some (.row 30 ksV [])]⟩)
noncomputable def NDd : Know := ⟨Γf3, fun f i => if f = f_perigeeref10_Direct then (if i = 1 then some LDb else if i = 0 then some LDaa else none) else none, fun _ => none⟩
theorem v_Direct (z : List Int) (xs ts rs us es : List (List Int)) (h : Int) (K : IV → List Blk → Prop) : (comes Try.prog NDd 3 f_perigeeref10_Direct [.agg (worldC z 0 1 2 3 4), fx h] (worldB xs ts rs us es) K) = (pWor [IV.agg (worldC z 0 1 2 3 4)] [Blk.ro ksB xs, Blk.ro ksT ts, Blk.ro ksR rs, Blk.ro [IntKind.i64] us, Blk.ro ksE es] ∧ ∃ z_1 xs_1 ts_1 rs_1 us_1 es_1 zs h_1, pDaa (5 : Nat) (St.mk (T (87 : Nat) [((2 : Nat), IV.ptr (5 : Nat) (0 : Nat)), ((3 : Nat), IV.ptr (6 : Nat) (0 : Nat)), ((4 : Nat), IV.ptr (7 : Nat) (0 : Nat)), ((5 : Nat), IV.sl (8 : Nat)), ((6 : Nat), IV.int IntKind.i64 (0 : Int))]) [some (Blk.ro ksB xs), some (Blk.ro ksT ts), some (Blk.ro ksR rs), some (Blk.ro [IntKind.i64] us), some (Blk.ro ksE es), some (Blk.var (86 : Nat) (worldC z 0 1 2 3 4)), some (Blk.var (28 : Nat) [IV.int IntKind.i64 (h / (18446744073709551616 : Int)), IV.int IntKind.u64 (h % (18446744073709551616 : Int))]), some (Blk.var (58 : Nat) [IV.sl (9 : Nat), IV.int IntKind.i64 (0 : Int)]), some (Blk.row (30 : Nat) ksV (List.map momR xs)), some (Blk.row (30 : Nat) ksV [])]) z_1 xs_1 ts_1 rs_1 us_1 es_1 zs h_1 ∧ br (outE z_1 h_1 xs_1 zs != (0 : Int)) (K (IV.agg [IV.sl (0 : Nat), IV.int IntKind.i64 (outE z_1 h_1 xs_1 zs)]) [Blk.row (30 : Nat) ksV []]) (K (IV.agg [IV.sl (0 : Nat), IV.int IntKind.i64 (0 : Int)]) [Blk.row (30 : Nat) ksV (outL z_1 h_1 xs_1 zs)])) := by kernel_rfl
def pKick (l : List IV) (bs : List Blk) : Prop := ∃ z xs ts rs us es h, l = [.agg (worldC z 0 1 2 3 4), fx h] ∧ bs = worldB xs ts rs us es ∧ mayZ z ∧ goodBs xs ∧ mayF h ∧ xs.length ≤ 1000
noncomputable def spKick : Vs.Spec := ⟨pKick, fun l bs => (.tup [.sl 0, .int .i64 (dirE (worN l 0) (v2 l 1) (xsOf bs 0))], [.row 30 ksV (dirL (worN l 0) (v2 l 1) (xsOf bs 0))])⟩
noncomputable def spDirect : Vs.Spec := ⟨pKick, fun l bs => (.agg [.sl 0, .int .i64 (dirE (worN l 0) (v2 l 1) (xsOf bs 0))], [.row 30 ksV (dirL (worN l 0) (v2 l 1) (xsOf bs 0))])⟩
end Go.Vs.RF


set_option linter.unusedVariables false
set_option linter.unusedSimpArgs false
set_option maxRecDepth 100000
/- direct: each pulls each, proved -/
namespace Go.Vs.RF
open Go Go.Proofs Go.Vs Go.IntWalk

theorem know_own {N : Know} (hΓ : ∀ g sp, N.Γ g = some sp → Contract Try.prog g sp) (hL : ∀ f i S, N.Λ f i = some S → ∀ d n0, LoopOk (envOf Try.prog N d) f n0 i (lp Try.prog f i) S) (hΤ : ∀ g G, N.Τ g = some G → FunOk Try.prog g G) (d : Nat) : KnowOk Try.prog N d :=
  ⟨mixedOrders, hΓ, fun d' _ f i S n0 hS => hL f i S hS d' n0, hΤ⟩
theorem ctrsf2 : ∀ {g : FuncId} {sp : Vs.Spec}, Γf2 g = some sp → Contract Try.prog g sp := ext_ok c_pulled (ext_ok c_Rpulled ctrsf1)
theorem momT_succ {xs : List (List Int)} {i : Nat} (hi : i < xs.length) : (xs.take (i + 1)).map momR = (xs.take i).map momR ++ [[rd xs i 8, rd xs i 9, rd xs i 10, rd xs i 11]] := by
  have e : momR xs[i] = [rd xs i 8, rd xs i 9, rd xs i 10, rd xs i 11] := by unfold momR rd; rw [get_row hi]
  rw [List.take_add_one, List.getElem?_eq_getElem hi, Option.toList_some, List.map_append, ← e]; rfl
theorem lMo (d n0 : Nat) : LoopOk (envOf Try.prog NMo d) f_perigeeref10_momenta n0 0 (lp Try.prog f_perigeeref10_momenta 0) LMo := by
  intro st K hst
  obtain ⟨z, xs, ts, rs, us, es, ⟨hl, rfl, rfl⟩, hK⟩ := hst
  refine loop_of (fun i : Nat => Smo z xs ts rs us es ((xs.take i).map momR) i) (fun i => i ≤ xs.length) (fun i => xs.length - i) ?_ (a := 0) (Nat.zero_le _)
  intro i hle k hn hk
  show round (envOf Try.prog ⟨Γf2, _, fun _ => none⟩ d) _ _ _ _ _ k
  rw [rMom]
  rw [show ((i : Nat) : Int).toNat = i by omega]
  rintro t1 e1
  rw [br_dec]
  constructor
  · intro hi
    have hi' : i < xs.length := by omega
    have p1 : t1 := by rw [e1]; omega
    refine ⟨p1, p1, by rw [List.length_map, List.length_take]; omega, ?_⟩
    have := hn (i + 1) hi' (by omega)
    rw [momT_succ hi'] at this
    rw [show IntKind.i64.wrap ((i : Int) + 1) = ((i + 1 : Nat) : Int) by rw [i64_in _ (by omega)]; rfl]
    exact this
  · intro hi
    rw [show i = xs.length by omega, List.take_length]
    exact hk _ _ (by simp) hK
theorem knowMo : KnowOk Try.prog NMo 3 := know_loop (f0 := f_perigeeref10_momenta) (L := LMo) (fun g sp h => ctrsf2 h) rfl (fun g G h => noT h) lMo 3
theorem c_momenta : Contract Try.prog f_perigeeref10_momenta spMom := by
  refine contract_of (N := NMo) 3 knowMo ?_
  rintro l bs _ _ ⟨z, xs, ts, rs, us, es, rfl, rfl, hl⟩
  rw [v_momenta]
  exact ⟨z, xs, ts, rs, us, es, ⟨hl, rfl, rfl⟩, rfl⟩
theorem ctrsf3 : ∀ {g : FuncId} {sp : Vs.Spec}, Γf3 g = some sp → Contract Try.prog g sp := ext_ok c_momenta ctrsf2

theorem set_modify {α : Type} (l : List α) (i : Nat) (a : α) : l.set i a = l.modify i (fun _ => a) := by
  apply List.ext_getElem?
  intro p
  rw [List.getElem?_set, List.getElem?_modify]
  by_cases h : i = p
  · subst h
    rw [if_pos rfl]
    by_cases hl : i < l.length
    · rw [if_pos hl, List.getElem?_eq_getElem hl]; simp
    · rw [if_neg hl, List.getElem?_eq_none (by omega)]; rfl
  · rw [if_neg h]; simp [h]

theorem vec_cell {zs : List (List Int)} {i : Nat} {x y : Int} (h : zs.getD i [] = vecRow x y) : IV.agg [.int .i64 (rd zs i 0), .int .u64 (rd zs i 1), .int .i64 (rd zs i 2), .int .u64 (rd zs i 3)] = vx x y ∧ rd zs i 0 * 18446744073709551616 + rd zs i 1 = x ∧ rd zs i 2 * 18446744073709551616 + rd zs i 3 = y := by
  have e : ∀ j, rd zs i j = (vecRow x y).getD j 0 := by intro j; unfold rd; rw [h]
  rw [e, e, e, e]
  refine ⟨rfl, ?_, ?_⟩
  · show x / 18446744073709551616 * 18446744073709551616 + x % 18446744073709551616 = x; omega
  · show y / 18446744073709551616 * 18446744073709551616 + y % 18446744073709551616 = y; omega
theorem vec_fr {zs : List (List Int)} {i : Nat} {x y : Int} (h : zs.getD i [] = vecRow x y) : fr (zs.getD i []) 0 = x ∧ fr (zs.getD i []) 2 = y := (vec_cell h).2
theorem allV_at {zs : List (List Int)} (h : allV zs) {i : Nat} (hi : i < zs.length) : ∃ x y, zs.getD i [] = vecRow x y ∧ mayF x ∧ mayF y := by
  rw [get_row hi]; exact h _ (List.getElem_mem hi)
theorem allV_set {zs : List (List Int)} (h : allV zs) (i : Nat) {x y : Int} (hx : mayF x) (hy : mayF y) : allV (zs.set i (vecRow x y)) := by
  intro p hp
  rcases List.mem_or_eq_of_mem_set hp with hp | rfl
  · exact h p hp
  · exact ⟨x, y, rfl, hx, hy⟩
theorem pr_may (z : List Int) (h : Int) (r s : List Int) {px py qx qy : Int} (h1 : mayF px) (h2 : mayF py) (h3 : mayF qx) (h4 : mayF qy) :
    (mayF (prXp z h r s px py qx qy) ∧ mayF (prYp z h r s px py qx qy)) ∧ mayF (prXq z h r s px py qx qy) ∧ mayF (prYq z h r s px py qx qy) := by
  unfold prXp prYp prXq prYq prP prQ
  refine ⟨⟨?_, ?_⟩, ?_, ?_⟩
  · split; exact h1; exact n2_is1 _ _
  · split; exact h2; exact n2_is2 _ _
  · split; exact h3; split; exact h3; exact n2_is1 _ _
  · split; exact h4; split; exact h4; exact n2_is2 _ _
theorem step_ok (z : List Int) (h : Int) (xs : List (List Int)) {ps : List (List Int)} (hv : allV ps) {i j : Nat} (hi : i < ps.length) (hj : j < ps.length) : allV ((ps.set i (dsP z h xs ps i j)).set j (dsQ z h xs ps i j)) := by
  obtain ⟨a, b, e1, ha, hb⟩ := allV_at hv hi
  obtain ⟨c, d, e2, hc, hd⟩ := allV_at hv hj
  unfold dsP dsQ
  rw [(vec_fr e1).1, (vec_fr e1).2, (vec_fr e2).1, (vec_fr e2).2]
  obtain ⟨⟨m1, m2⟩, m3, m4⟩ := pr_may z h (xs.getD i []) (xs.getD j []) ha hb hc hd
  exact allV_set (allV_set hv i m1 m2) j m3 m4
theorem dIn_ok (z : List Int) (h : Int) (xs : List (List Int)) (i : Nat) : ∀ (m j : Nat) (ps : List (List Int)), allV ps → i < ps.length → j + m ≤ ps.length → (dIn z h xs i m j ps).2 = 0 → allV (dIn z h xs i m j ps).1 ∧ (dIn z h xs i m j ps).1.length = ps.length
  | 0, j, ps, hv, _, _, _ => ⟨hv, rfl⟩
  | m + 1, j, ps, hv, hi, hj, he => by
    unfold dIn at he ⊢
    by_cases hd : dsE z h xs ps i j ≠ 0
    · rw [if_pos hd] at he; exact absurd he hd
    · rw [if_neg hd] at he ⊢
      have l2 : ((ps.set i (dsP z h xs ps i j)).set j (dsQ z h xs ps i j)).length = ps.length := by simp
      obtain ⟨q1, q2⟩ := dIn_ok z h xs i m (j + 1) _ (step_ok z h xs hv hi (by omega)) (by rw [l2]; exact hi) (by rw [l2]; omega) he
      exact ⟨q1, by rw [q2, l2]⟩
theorem dIn_err (z : List Int) (h : Int) (xs : List (List Int)) (i : Nat) : ∀ (m j : Nat) (ps : List (List Int)), (dIn z h xs i m j ps).2 ≠ 0 → (dIn z h xs i m j ps).1 = []
  | 0, j, ps, he => absurd rfl he
  | m + 1, j, ps, he => by
    unfold dIn at he ⊢
    by_cases hd : dsE z h xs ps i j ≠ 0
    · rw [if_pos hd]
    · rw [if_neg hd] at he ⊢
      exact dIn_err z h xs i m (j + 1) _ he
theorem dOut_ok (z : List Int) (h : Int) (xs : List (List Int)) : ∀ (m i : Nat) (ps : List (List Int)), i + m = xs.length → allV ps → ps.length = xs.length → (dOut z h xs m i ps).2 = 0 → allV (dOut z h xs m i ps).1 ∧ (dOut z h xs m i ps).1.length = xs.length
  | 0, i, ps, _, hv, hl, _ => ⟨hv, hl⟩
  | m + 1, i, ps, hm, hv, hl, he => by
    unfold dOut at he ⊢
    by_cases hd : (dIn z h xs i (xs.length - (i + 1)) (i + 1) ps).2 ≠ 0
    · rw [if_pos hd] at he; exact absurd he hd
    · rw [if_neg hd] at he ⊢
      obtain ⟨q1, q2⟩ := dIn_ok z h xs i _ _ _ hv (by omega) (by omega) (Decidable.not_not.1 hd)
      exact dOut_ok z h xs m (i + 1) _ (by omega) q1 (by omega) he
theorem dOut_err (z : List Int) (h : Int) (xs : List (List Int)) : ∀ (m i : Nat) (ps : List (List Int)), (dOut z h xs m i ps).2 ≠ 0 → (dOut z h xs m i ps).1 = []
  | 0, i, ps, he => absurd rfl he
  | m + 1, i, ps, he => by
    unfold dOut at he ⊢
    by_cases hd : (dIn z h xs i (xs.length - (i + 1)) (i + 1) ps).2 ≠ 0
    · rw [if_pos hd]
    · rw [if_neg hd] at he ⊢
      exact dOut_err z h xs m (i + 1) _ he
theorem momV {r : List Int} (h : goodB r) : isV (momR r) := by
  obtain ⟨h1, h2, m0, m4, m6, m8, m10⟩ := h
  have l9 : u64ok (r.getD 9 0) := by have : inK .u64 (r.getD 9 0) := h2 9 (by decide); have e2 : r.getD 9 0 ≤ 18446744073709551615 := this.2; exact ⟨this.1, by omega⟩
  have l11 : u64ok (r.getD 11 0) := by have : inK .u64 (r.getD 11 0) := h2 11 (by decide); have e2 : r.getD 11 0 ≤ 18446744073709551615 := this.2; exact ⟨this.1, by omega⟩
  refine ⟨fr r 8, fr r 10, ?_, m8, m10⟩
  unfold u64ok at l9 l11
  unfold momR vecRow fr
  rw [show (r.getD 8 0 * 18446744073709551616 + r.getD (8 + 1) 0) / 18446744073709551616 = r.getD 8 0 by show (r.getD 8 0 * 18446744073709551616 + r.getD 9 0) / _ = _; omega,
    show (r.getD 8 0 * 18446744073709551616 + r.getD (8 + 1) 0) % 18446744073709551616 = r.getD 9 0 by show (r.getD 8 0 * 18446744073709551616 + r.getD 9 0) % _ = _; omega,
    show (r.getD 10 0 * 18446744073709551616 + r.getD (10 + 1) 0) / 18446744073709551616 = r.getD 10 0 by show (r.getD 10 0 * 18446744073709551616 + r.getD 11 0) / _ = _; omega,
    show (r.getD 10 0 * 18446744073709551616 + r.getD (10 + 1) 0) % 18446744073709551616 = r.getD 11 0 by show (r.getD 10 0 * 18446744073709551616 + r.getD 11 0) % _ = _; omega]
theorem mom_all {xs : List (List Int)} (h : goodBs xs) : allV (xs.map momR) := by
  intro p hp
  rw [List.mem_map] at hp
  obtain ⟨r, hr, rfl⟩ := hp
  exact momV (h r hr)

theorem lKa (d n0 : Nat) : LoopOk (envOf Try.prog NKk d) f_direct_Kick n0 0 (lp Try.prog f_direct_Kick 0) LKa := by
  intro st K hst
  obtain ⟨z, xs, ts, rs, us, es, h, ⟨hl, rfl, rfl⟩, hK⟩ := hst
  refine loop_of (fun i : Nat => SkA z xs ts rs us es ((xs.take i).map momR) h i) (fun i => i ≤ xs.length) (fun i => xs.length - i) ?_ (a := 0) (Nat.zero_le _)
  intro i hle k hn hk
  show round (envOf Try.prog ⟨Γf3, _, fun _ => none⟩ d) _ _ _ _ _ k
  rw [rKickA]
  rw [show ((i : Nat) : Int).toNat = i by omega]
  rintro t1 e1
  rw [br_dec]
  constructor
  · intro hi
    have hi' : i < xs.length := by omega
    have p1 : t1 := by rw [e1]; omega
    refine ⟨p1, p1, by rw [List.length_map, List.length_take]; omega, ?_⟩
    have := hn (i + 1) hi' (by omega)
    rw [momT_succ hi'] at this
    rw [show IntKind.i64.wrap ((i : Int) + 1) = ((i + 1 : Nat) : Int) by rw [i64_in _ (by omega)]; rfl]
    exact this
  · intro hi
    rw [show i = xs.length by omega, List.take_length]
    exact hk _ _ (by simp) hK
theorem dIn_step (z : List Int) (h : Int) (xs : List (List Int)) (i j : Nat) (zs : List (List Int)) (hj : j < xs.length) : dIn z h xs i (xs.length - j) j zs =
    if dsE z h xs zs i j ≠ 0 then ([], dsE z h xs zs i j) else dIn z h xs i (xs.length - (j + 1)) (j + 1) ((zs.set i (dsP z h xs zs i j)).set j (dsQ z h xs zs i j)) := by
  rw [show xs.length - j = (xs.length - (j + 1)) + 1 by omega]; rfl
theorem dOut_step (z : List Int) (h : Int) (xs : List (List Int)) (i : Nat) (zs : List (List Int)) (hi : i < xs.length) : dOut z h xs (xs.length - i) i zs =
    if innE z h xs i zs ≠ 0 then ([], innE z h xs i zs) else dOut z h xs (xs.length - (i + 1)) (i + 1) (innL z h xs i zs) := by
  rw [show xs.length - i = (xs.length - (i + 1)) + 1 by omega]; rfl
theorem lKc (d n0 : Nat) : LoopOk (envOf Try.prog NKk d) f_direct_Kick n0 2 (lp Try.prog f_direct_Kick 2) LKc := by
  intro st K hst
  obtain ⟨z, xs, ts, rs, us, es, zs0, h, i, ⟨⟨hz, hg, hh, hv0, hl0, hl⟩, hi, rfl, rfl⟩, hK⟩ := hst
  rw [show IntKind.i64.wrap ((i : Int) + 1) = ((i + 1 : Nat) : Int) by rw [i64_in _ (by omega)]; rfl]
  refine loop_of (fun p : Nat × List (List Int) => SkC z xs ts rs us es p.2 h xs.length i p.1) (fun p => allV p.2 ∧ p.2.length = xs.length ∧ p.1 ≤ xs.length ∧ dIn z h xs i (xs.length - p.1) p.1 p.2 = inn z h xs i zs0) (fun p => xs.length - p.1) ?_ (a := (i + 1, zs0)) ⟨hv0, hl0, hi, rfl⟩
  rintro ⟨j, zs⟩ ⟨hv, hlz, hle, hin⟩ k hn hk
  simp only at hv hlz hle hin
  show round (envOf Try.prog ⟨Γf3, _, fun _ => none⟩ d) _ _ _ _ _ k
  rw [show SkC z xs ts rs us es (j, zs).2 h (xs.length) i (j, zs).1 = SkC z xs ts rs us es zs h xs.length i j from rfl]
  rw [rKickC]
  rw [show ((i : Nat) : Int).toNat = i by omega, show ((j : Nat) : Int).toNat = j by omega]
  rintro j1 rfl t2 rfl t3 rfl t4 rfl t5 rfl t6 rfl t7 rfl t8 rfl t9 rfl t10 e10 t11 e11 t12 e12 t13 e13 t14 e14 t15 e15 t16 e16 t17 e17 t18 e18 t19 e19 t20 e20 t21 e21 t22 e22 t23 e23 t24 e24 t25 _ t26 _ t27 e27 t28 e28
  rw [worN_of _ z 0 1 2 3 4 hz.1.1 rfl] at e17 e18 e19 e20 e21
  rw [br_dec]
  constructor
  · intro hj
    have hj' : j < xs.length := by omega
    obtain ⟨px, py, q1, hpx, hpy⟩ := allV_at hv (i := i) (by omega)
    obtain ⟨qx, qy, q2, hqx, hqy⟩ := allV_at hv (i := j) (by omega)
    obtain ⟨c1, c2, c3⟩ := vec_cell q1
    obtain ⟨c4, c5, c6⟩ := vec_cell q2
    rw [c2] at e12
    rw [c3] at e13
    rw [c5] at e14
    rw [c6] at e15
    rw [c1, c4] at e16
    subst e12; subst e13; subst e14; subst e15
    have p10 : t10 := by rw [e10]; omega
    have p11 : t11 := by rw [e11]; omega
    have p23 : t23 := by rw [e23, List.length_modify]; omega
    have p16 : t16 := by rw [e16]; exact ⟨_, _, _, _, _, _, _, _, _, _, _, _, _, rfl, rfl, hz, hg, ⟨by omega, by omega⟩, ⟨by omega, by omega⟩, ⟨hpx, hpy⟩, ⟨hqx, hqy⟩, hh⟩
    have eE : dsE z j1 xs zs i j = t17 := by unfold dsE; rw [(vec_fr q1).1, (vec_fr q1).2, (vec_fr q2).1, (vec_fr q2).2, e17]
    have eP : dsP z j1 xs zs i j = vecRow t18 t19 := by unfold dsP; rw [(vec_fr q1).1, (vec_fr q1).2, (vec_fr q2).1, (vec_fr q2).2, e18, e19]
    have eQ : dsQ z j1 xs zs i j = vecRow t20 t21 := by unfold dsQ; rw [(vec_fr q1).1, (vec_fr q1).2, (vec_fr q2).1, (vec_fr q2).2, e20, e21]
    rw [dIn_step z j1 xs i j zs hj', eE] at hin
    have h22 : t17 ≠ 0 → t22 := by
      intro hne
      rw [e22]
      rw [if_pos hne] at hin
      have i1 : innE z j1 xs i zs0 = t17 := by unfold innE; rw [← hin]
      rw [i1, br_bne] at hK
      exact hk _ _ (by simp) (hK.1 hne)
    have h24 : t17 = 0 → t24 := by
      intro he
      rw [if_neg (fun hh' => hh' he)] at hin
      have l2 : ((zs.set i (dsP z j1 xs zs i j)).set j (dsQ z j1 xs zs i j)).length = xs.length := by simp [hlz]
      have := hn (j + 1, (zs.set i (dsP z j1 xs zs i j)).set j (dsQ z j1 xs zs i j)) ⟨step_ok z j1 xs hv (by omega) (by omega), l2, hj', hin⟩ (by show xs.length - (j + 1) < xs.length - j; omega)
      rw [e24, show IntKind.i64.wrap ((j : Int) + 1) = ((j + 1 : Nat) : Int) by rw [i64_in _ (by omega)]; rfl]
      simp only at this
      rw [eP, eQ, set_modify, set_modify] at this
      exact this
    have hb : ∀ {A : Prop}, A → br (t17 != 0) t22 (t10 ∧ t10 ∧ t23 ∧ t23 ∧ (t10 ∧ t10 ∧ t23 ∧ t23 ∧ A) ∧ t24) := by
      intro A ha
      rw [br_bne]
      exact ⟨h22, fun he => ⟨p10, p10, p23, p23, ⟨p10, p10, p23, p23, ha⟩, h24 he⟩⟩
    have p27 : t27 := by rw [e27]; exact ⟨p16, hb rfl⟩
    have p28 : t28 := by rw [e28]; exact ⟨p16, hb rfl⟩
    exact ⟨p10, p10, p11, p11, ⟨p16, hb rfl, hb rfl⟩, ⟨p27, p27⟩, p28, p28⟩
  · intro hj
    have hj' : j = xs.length := by omega
    subst hj'
    rw [Nat.sub_self] at hin
    have i1 : innE z j1 xs i zs0 = 0 := by unfold innE; rw [← hin]; rfl
    have i2 : innL z j1 xs i zs0 = zs := by unfold innL; rw [← hin]; rfl
    rw [i1, i2, br_bne] at hK
    exact hk _ _ (by simp) (hK.2 rfl)
theorem lamK : (fun f i => if f = f_direct_Kick then (if i = 2 then some LKc else NKk.Λ f i) else NKk.Λ f i) = NKk.Λ := by
  funext f i
  show (if f = f_direct_Kick then (if i = 2 then some LKc else NKk.Λ f i) else NKk.Λ f i) = NKk.Λ f i
  by_cases h : f = f_direct_Kick
  · by_cases h2 : i = 2
    · rw [if_pos h, if_pos h2]; subst h; subst h2; rfl
    · rw [if_pos h, if_neg h2]
  · rw [if_neg h]
theorem inn_ok {z : List Int} {h : Int} {xs zs : List (List Int)} {i : Nat} (hv : allV zs) (hl : zs.length = xs.length) (hi : i < xs.length) (he : innE z h xs i zs = 0) : allV (innL z h xs i zs) ∧ (innL z h xs i zs).length = xs.length := by
  obtain ⟨q1, q2⟩ := dIn_ok z h xs i (xs.length - (i + 1)) (i + 1) zs hv (by omega) (by omega) he
  exact ⟨q1, by show (dIn z h xs i (xs.length - (i + 1)) (i + 1) zs).1.length = _; rw [q2, hl]⟩
theorem lKb (d n0 : Nat) : LoopOk (envOf Try.prog NKk d) f_direct_Kick n0 1 (lp Try.prog f_direct_Kick 1) LKb := by
  intro st K hst
  obtain ⟨z, xs, ts, rs, us, es, zs0, h, ⟨⟨hz, hg, hh, hv0, hl0, hl⟩, rfl, rfl⟩, hK⟩ := hst
  refine loop_of (fun p : Nat × List (List Int) => SkB z xs ts rs us es p.2 h xs.length p.1) (fun p => allV p.2 ∧ p.2.length = xs.length ∧ p.1 ≤ xs.length ∧ dOut z h xs (xs.length - p.1) p.1 p.2 = dOut z h xs xs.length 0 zs0) (fun p => xs.length - p.1) ?_ (a := (0, zs0)) ⟨hv0, hl0, Nat.zero_le _, rfl⟩
  rintro ⟨i, zs⟩ ⟨hv, hlz, hle, hin⟩ k hn hk
  simp only at hv hlz hle hin
  have key := rKickB NKk.Λ d z xs ts rs us es zs h xs.length i k
  rw [lamK] at key
  show round (envOf Try.prog NKk d) _ _ _ _ (SkB z xs ts rs us es zs h xs.length i) k
  refine key.mpr ?_
  rw [br_dec]
  constructor
  · intro hi
    have hi' : i < xs.length := by omega
    refine ⟨z, xs, ts, rs, us, es, zs, h, i, ⟨⟨hz, hg, hh, hv, hlz, hl⟩, hi', rfl, rfl⟩, ?_⟩
    rw [dOut_step z h xs i zs hi'] at hin
    rw [br_bne]
    constructor
    · intro hne
      rw [if_pos hne] at hin
      have i1 : outE z h xs zs0 = innE z h xs i zs := by unfold outE; rw [← hin]
      rw [i1, br_bne] at hK
      exact hk _ _ (by simp) (hK.1 hne)
    · intro he
      rw [if_neg (fun hh' => hh' he)] at hin
      obtain ⟨q1, q2⟩ := inn_ok hv hlz hi' he
      have := hn (i + 1, innL z h xs i zs) ⟨q1, q2, hi', hin⟩ (by show xs.length - (i + 1) < xs.length - i; omega)
      rw [show IntKind.i64.wrap ((i : Int) + 1) = ((i + 1 : Nat) : Int) by rw [i64_in _ (by omega)]; rfl]
      exact this
  · intro hi
    have hi' : i = xs.length := by omega
    subst hi'
    rw [Nat.sub_self] at hin
    have i1 : outE z h xs zs0 = 0 := by unfold outE; rw [← hin]; rfl
    have i2 : outL z h xs zs0 = zs := by unfold outL; rw [← hin]; rfl
    rw [i1, i2, br_bne] at hK
    exact hk _ _ (by simp) (hK.2 rfl)
theorem knowKk : KnowOk Try.prog NKk 3 := by
  refine know_own (fun g sp h => ctrsf3 h) ?_ (fun g G h => noT h) 3
  intro f i S hS
  change (if f = f_direct_Kick then (if i = 2 then some LKc else if i = 0 then some LKa else if i = 1 then some LKb else none) else none) = some S at hS
  split at hS
  · rename_i hf
    subst hf
    split at hS
    · rename_i hi; subst hi; cases hS; exact lKc
    · split at hS
      · rename_i hi; subst hi; cases hS; exact lKa
      · split at hS
        · rename_i hi; subst hi; cases hS; exact lKb
        · cases hS
  · cases hS
theorem kick_F {z : List Int} {xs ts rs us es : List (List Int)} {h : Int} (hz : z.length = 19) : spKick.F [.agg (worldC z 0 1 2 3 4), fx h] (worldB xs ts rs us es) = (.tup [.sl 0, .int .i64 (dirE z h xs)], [.row 30 ksV (dirL z h xs)]) := by
  show (IV.tup [.sl 0, .int .i64 (dirE (worN _ 0) (v2 _ 1) xs)], [Blk.row 30 ksV (dirL (worN _ 0) (v2 _ 1) xs)]) = _
  rw [worN_of _ z 0 1 2 3 4 hz rfl, v2_fx _ h 1 rfl]
theorem direct_F {z : List Int} {xs ts rs us es : List (List Int)} {h : Int} (hz : z.length = 19) : spDirect.F [.agg (worldC z 0 1 2 3 4), fx h] (worldB xs ts rs us es) = (.agg [.sl 0, .int .i64 (dirE z h xs)], [.row 30 ksV (dirL z h xs)]) := by
  show (IV.agg [.sl 0, .int .i64 (dirE (worN _ 0) (v2 _ 1) xs)], [Blk.row 30 ksV (dirL (worN _ 0) (v2 _ 1) xs)]) = _
  rw [worN_of _ z 0 1 2 3 4 hz rfl, v2_fx _ h 1 rfl]
theorem c_Kick : Contract Try.prog f_direct_Kick spKick := by
  refine contract_of (N := NKk) 3 knowKk ?_
  rintro l bs _ _ ⟨z, xs, ts, rs, us, es, h, rfl, rfl, hz, hg, hh, hl⟩
  rw [kick_F hz.1.1, v_Kick]
  refine ⟨z, xs, ts, rs, us, es, h, ⟨hl, rfl, rfl⟩, z, xs, ts, rs, us, es, xs.map momR, h, ⟨⟨hz, hg, hh, mom_all hg, List.length_map _, hl⟩, rfl, by rw [List.length_map]; rfl⟩, ?_⟩
  rw [br_bne]
  constructor
  · intro hne
    have : dirL z h xs = [] := dOut_err z h xs _ _ _ hne
    rw [this]
    rfl
  · intro he
    have : dirE z h xs = 0 := he
    rw [this]
    rfl
end Go.Vs.RF

set_option linter.unusedVariables false
set_option linter.unusedSimpArgs false
set_option maxRecDepth 100000
/- direct: r10's, proved -/
namespace Go.Vs.RF
open Go Go.Proofs Go.Vs Go.IntWalk

theorem ds_of (z : List Int) (h : Int) (xs zs : List (List Int)) (i j : Nat) {px py qx qy : Int} (q1 : zs.getD i [] = vecRow px py) (q2 : zs.getD j [] = vecRow qx qy) :
    dsE z h xs zs i j = prE z h (xs.getD i []) (xs.getD j []) px py qx qy ∧ dsP z h xs zs i j = vecRow (prXp z h (xs.getD i []) (xs.getD j []) px py qx qy) (prYp z h (xs.getD i []) (xs.getD j []) px py qx qy) ∧ dsQ z h xs zs i j = vecRow (prXq z h (xs.getD i []) (xs.getD j []) px py qx qy) (prYq z h (xs.getD i []) (xs.getD j []) px py qx qy) := by
  unfold dsE dsP dsQ
  rw [(vec_fr q1).1, (vec_fr q1).2, (vec_fr q2).1, (vec_fr q2).2]
  exact ⟨rfl, rfl, rfl⟩
set_option maxHeartbeats 1000000 in
theorem lDb (d n0 : Nat) : LoopOk (envOf Try.prog NDd d) f_perigeeref10_Direct n0 1 (lp Try.prog f_perigeeref10_Direct 1) LDb := by
  intro st K hst
  obtain ⟨z, xs, ts, rs, us, es, zs0, h, i, ⟨⟨hz, hg, hh, hv0, hl0, hl⟩, hi, rfl, rfl⟩, hK⟩ := hst
  rw [show IntKind.i64.wrap ((i : Int) + 1) = ((i + 1 : Nat) : Int) by rw [i64_in _ (by omega)]; rfl]
  refine loop_of (fun p : Nat × List (List Int) => SrB z xs ts rs us es p.2 h i p.1) (fun p => allV p.2 ∧ p.2.length = xs.length ∧ p.1 ≤ xs.length ∧ dIn z h xs i (xs.length - p.1) p.1 p.2 = inn z h xs i zs0) (fun p => xs.length - p.1) ?_ (a := (i + 1, zs0)) ⟨hv0, hl0, hi, rfl⟩
  rintro ⟨j, zs⟩ ⟨hv, hlz, hle, hin⟩ k hn hk
  simp only at hv hlz hle hin
  show round (envOf Try.prog ⟨Γf3, _, fun _ => none⟩ d) _ _ _ _ _ k
  rw [show SrB z xs ts rs us es (j, zs).2 h i (j, zs).1 = SrB z xs ts rs us es zs h i j from rfl]
  rw [rDirB]
  rw [show ((i : Nat) : Int).toNat = i by omega, show ((j : Nat) : Int).toNat = j by omega]
  rintro j1 rfl t2 e2 j3 rfl t4 e4 j5 rfl t6 rfl t7 rfl t8 rfl t9 rfl t10 rfl t11 rfl t12 rfl t13 rfl t14 rfl t15 rfl t16 rfl t17 rfl t18 rfl t19 rfl t20 e20 t21 e21 t22 e22 t23 e23 t24 e24 t25 e25 t26 e26 t27 e27 t28 e28 t29 e29 t30 e30 t31 e31 t32 e32 t33 e33 t34 e34 t35 e35
  rw [worN_of _ z 0 1 2 3 4 hz.1.1 rfl] at e2 e4 e33
  rw [br_dec]
  constructor
  · intro hj
    have hj' : j < xs.length := by omega
    obtain ⟨px, py, q1, hpx, hpy⟩ := allV_at hv (i := i) (by omega)
    obtain ⟨qx, qy, q2, hqx, hqy⟩ := allV_at hv (i := j) (by omega)
    obtain ⟨c1, c2, c3⟩ := vec_cell q1
    obtain ⟨c4, c5, c6⟩ := vec_cell q2
    rw [c1, c4] at e35
    rw [c2] at e23
    rw [c3] at e24
    rw [c5] at e25
    rw [c6] at e26
    have okr : okRows ksB xs := fun r hr => (hg r hr).2.1
    obtain ⟨_, _, k0, k4, k6, _, _⟩ := good_row hg hj'
    have b0 : IV.agg [.int .i64 (rd xs j 0), .int .u64 (rd xs j 1)] = fx (fr xs[j] 0) := (fx_mk2 (lo_in okr _ 1 (by decide) rfl) (fr_of hj' 0).symm).symm
    have b4 : IV.agg [.int .i64 (rd xs j 4), .int .u64 (rd xs j 5), .int .i64 (rd xs j 6), .int .u64 (rd xs j 7)] = vx (fr xs[j] 4) (fr xs[j] 6) := by
      have h1 := vx_cells (a := rd xs j 4) (b := rd xs j 5) (c := rd xs j 6) (d := rd xs j 7) (lo_in okr _ 5 (by decide) rfl) (lo_in okr _ 7 (by decide) rfl)
      rw [fr_of hj' 4, fr_of hj' 6] at h1
      exact (List.cons.inj h1).1
    rw [fr_of hj' 0, fr_of hj' 4, fr_of hj' 6] at e2 e4 e33
    rw [b0, b4] at e35
    have p20 : t20 := by rw [e20]; omega
    have p21 : t21 := by rw [e21]; omega
    have p22 : t22 := by rw [e22]; omega
    have p34 : t34 := by rw [e34, List.length_modify]; omega
    have p16 : pRp [IV.agg (worldC z 0 1 2 3 4), .int .i64 i, fx (fr xs[j] 0), vx (fr xs[j] 4) (fr xs[j] 6), fx j1] (worldB xs ts rs us es) := ⟨_, _, _, _, _, _, _, _, _, _, _, rfl, rfl, hz, hg, ⟨by omega, by omega⟩, k0, ⟨k4, k6⟩, hh⟩
    obtain ⟨mX, mY⟩ := gv_may z j1 (xs.getD i []) (fr xs[j] 0) (fr xs[j] 4) (fr xs[j] 6)
    rw [← e2] at mX
    rw [← e4] at mY
    obtain ⟨eE, eP, eQ⟩ := ds_of z j1 xs zs i j q1 q2
    unfold prE at eE
    unfold prXp prYp prP at eP
    unfold prXq prYq prQ at eQ
    rw [get_row hj'] at eE eP eQ
    rw [← e33, ← e2, ← e4, ← e23, ← e24, ← e25, ← e26, ← e27, ← e28] at eE
    rw [← e33, ← e2, ← e4, ← e23, ← e24, ← e29, ← e30] at eP
    rw [← e33, ← e2, ← e4, ← e23, ← e24, ← e25, ← e26, ← e27, ← e31, ← e32] at eQ
    rw [dIn_step z j1 xs i j zs hj', eE] at hin
    have hret : ∀ {t : Int}, t ≠ 0 → inn z j1 xs i zs0 = ([], t) → k Out.ret ⟨T 87 [(4, .ptr 5 0)], worldO xs ts rs us es ++ [some (.var 58 [.sl 6, .int .i64 t]), some (.row 30 ksV [])]⟩ := by
      intro t hne hin
      have i1 : innE z j1 xs i zs0 = t := by unfold innE; rw [hin]
      rw [i1, br_bne] at hK
      exact hk _ _ (by simp) (hK.1 hne)
    have p35 : t35 := by
      rw [e35]
      refine ⟨p16, ?_⟩
      rw [br_bne]
      refine ⟨fun h33 => ?_, fun h33 => ⟨p21, p21, vmay2_of hpx hpy mX mY, ?_⟩⟩
      · simp only [if_pos h33] at hin
        exact hret h33 hin.symm
      · have n33 : ¬ t33 ≠ 0 := fun hh => hh h33
        simp only [if_neg n33] at hin eP eQ
        rw [br_bne]
        refine ⟨fun h27 => ?_, fun h27 => ⟨p22, p22, vmay2_of hqx hqy mX mY, ?_⟩⟩
        · simp only [if_pos h27] at hin
          exact hret h27 hin.symm
        · have n27 : ¬ t27 ≠ 0 := fun hh => hh h27
          simp only [if_neg n27] at hin eQ
          rw [br_bne]
          refine ⟨fun h28 => ?_, fun h28 => ⟨p21, p21, p34, p34, ?_⟩⟩
          · rw [if_pos h28] at hin
            exact hret h28 hin.symm
          · have n28 : ¬ t28 ≠ 0 := fun hh => hh h28
            rw [if_neg n28] at hin
            have l2 : ((zs.set i (dsP z j1 xs zs i j)).set j (dsQ z j1 xs zs i j)).length = xs.length := by simp [hlz]
            have := hn (j + 1, (zs.set i (dsP z j1 xs zs i j)).set j (dsQ z j1 xs zs i j)) ⟨step_ok z j1 xs hv (by omega) (by omega), l2, hj', hin⟩ (by show xs.length - (j + 1) < xs.length - j; omega)
            rw [show IntKind.i64.wrap ((j : Int) + 1) = ((j + 1 : Nat) : Int) by rw [i64_in _ (by omega)]; rfl]
            simp only at this
            rw [eP, eQ, set_modify, set_modify] at this
            exact this
    exact ⟨p20, p20, p20, p20, p35, p35⟩
  · intro hj
    have hj' : j = xs.length := by omega
    subst hj'
    rw [Nat.sub_self] at hin
    have i1 : innE z j1 xs i zs0 = 0 := by unfold innE; rw [← hin]; rfl
    have i2 : innL z j1 xs i zs0 = zs := by unfold innL; rw [← hin]; rfl
    rw [i1, i2, br_bne] at hK
    exact hk _ _ (by simp) (hK.2 rfl)
theorem lamD : (fun f i => if f = f_perigeeref10_Direct then (if i = 1 then some LDb else NDd.Λ f i) else NDd.Λ f i) = NDd.Λ := by
  funext f i
  show (if f = f_perigeeref10_Direct then (if i = 1 then some LDb else NDd.Λ f i) else NDd.Λ f i) = NDd.Λ f i
  by_cases h : f = f_perigeeref10_Direct
  · by_cases h2 : i = 1
    · rw [if_pos h, if_pos h2]; subst h; subst h2; rfl
    · rw [if_pos h, if_neg h2]
  · rw [if_neg h]
theorem lDaa (d n0 : Nat) : LoopOk (envOf Try.prog NDd d) f_perigeeref10_Direct n0 0 (lp Try.prog f_perigeeref10_Direct 0) LDaa := by
  intro st K hst
  obtain ⟨z, xs, ts, rs, us, es, zs0, h, ⟨⟨hz, hg, hh, hv0, hl0, hl⟩, rfl, rfl⟩, hK⟩ := hst
  refine loop_of (fun p : Nat × List (List Int) => SrA z xs ts rs us es p.2 h p.1) (fun p => allV p.2 ∧ p.2.length = xs.length ∧ p.1 ≤ xs.length ∧ dOut z h xs (xs.length - p.1) p.1 p.2 = dOut z h xs xs.length 0 zs0) (fun p => xs.length - p.1) ?_ (a := (0, zs0)) ⟨hv0, hl0, Nat.zero_le _, rfl⟩
  rintro ⟨i, zs⟩ ⟨hv, hlz, hle, hin⟩ k hn hk
  simp only at hv hlz hle hin
  have key := rDirA NDd.Λ d z xs ts rs us es zs h i k
  rw [lamD] at key
  show round (envOf Try.prog NDd d) _ _ _ _ (SrA z xs ts rs us es zs h i) k
  refine key.mpr ?_
  rw [br_dec, hlz]
  constructor
  · intro hi
    have hi' : i < xs.length := by omega
    refine ⟨z, xs, ts, rs, us, es, zs, h, i, ⟨⟨hz, hg, hh, hv, hlz, hl⟩, hi', rfl, rfl⟩, ?_⟩
    rw [dOut_step z h xs i zs hi'] at hin
    rw [br_bne]
    constructor
    · intro hne
      rw [if_pos hne] at hin
      have i1 : outE z h xs zs0 = innE z h xs i zs := by unfold outE; rw [← hin]
      rw [i1, br_bne] at hK
      exact hk _ _ (by simp) (hK.1 hne)
    · intro he
      rw [if_neg (fun hh' => hh' he)] at hin
      obtain ⟨q1, q2⟩ := inn_ok hv hlz hi' he
      have := hn (i + 1, innL z h xs i zs) ⟨q1, q2, hi', hin⟩ (by show xs.length - (i + 1) < xs.length - i; omega)
      rw [show IntKind.i64.wrap ((i : Int) + 1) = ((i + 1 : Nat) : Int) by rw [i64_in _ (by omega)]; rfl]
      exact this
  · intro hi
    have hi' : i = xs.length := by omega
    subst hi'
    rw [Nat.sub_self] at hin
    have i1 : outE z h xs zs0 = 0 := by unfold outE; rw [← hin]; rfl
    have i2 : outL z h xs zs0 = zs := by unfold outL; rw [← hin]; rfl
    rw [i1, i2, br_bne] at hK
    exact hk _ _ (by simp) (hK.2 rfl)
theorem knowDd : KnowOk Try.prog NDd 3 := by
  refine know_own (fun g sp h => ctrsf3 h) ?_ (fun g G h => noT h) 3
  intro f i S hS
  change (if f = f_perigeeref10_Direct then (if i = 1 then some LDb else if i = 0 then some LDaa else none) else none) = some S at hS
  split at hS
  · rename_i hf
    subst hf
    split at hS
    · rename_i hi; subst hi; cases hS; exact lDb
    · split at hS
      · rename_i hi; subst hi; cases hS; exact lDaa
      · cases hS
  · cases hS
theorem c_Direct : Contract Try.prog f_perigeeref10_Direct spDirect := by
  refine contract_of (N := NDd) 3 knowDd ?_
  rintro l bs _ _ ⟨z, xs, ts, rs, us, es, h, rfl, rfl, hz, hg, hh, hl⟩
  rw [direct_F hz.1.1, v_Direct]
  refine ⟨⟨z, xs, ts, rs, us, es, rfl, rfl, hl⟩, z, xs, ts, rs, us, es, xs.map momR, h, ⟨⟨hz, hg, hh, mom_all hg, List.length_map _, hl⟩, rfl, rfl⟩, ?_⟩
  rw [br_bne]
  constructor
  · intro hne
    have : dirL z h xs = [] := dOut_err z h xs _ _ _ hne
    rw [this]
    rfl
  · intro he
    have : dirE z h xs = 0 := he
    rw [this]
    rfl
end Go.Vs.RF

set_option linter.unusedVariables false
/- direct: worlds by numbers -/
namespace Go.Vs.RF
open Go Go.Proofs Go.Vs
noncomputable def Γf4 : FuncId → Option Vs.Spec := fun g => if g = f_perigeelaw9_Bodies then some spBodies else if g = f_direct_Kick then some spKick else if g = f_perigeeref10_Direct then some spDirect else Γf3 g
def z0 : List Int := [0, 0, 0, 0, 0, 0, 0, 0, 0, 0, 0, 0, 0, 0, 0, 0, 0, 0, 0]
def nilW (xs us : List (List Int)) : List (Option Blk) := [some (.row 32 ksB xs), some (.row 115 ksT []), some (.row 167 ksR []), some (.row 3 [.i64] us), some (.row 169 ksE [])]
def SWo (z : List Int) (ns xs us : List (List Int)) (i : Int) : St := ⟨T 51 [(6, .ptr 1 0), (7, .ptr 2 0), (8, .int .i64 i)], [some (.ro [.u8] ns), some (.var 86 (worldC z0 3 4 5 6 7)), some (.var 86 (worldC z 8 9 10 11 12))] ++ nilW [] [] ++ nilW xs us⟩
theorem rWorld (Λ : FuncId → Nat → Option LoopS) (d : Nat) (z : List Int) (ns xs us : List (List Int)) (i : Int) (k : Out → St → Prop) : (round (envOf Try.prog ⟨Γf4, Λ, fun _ => none⟩ d) f_perigeelaw11_World 1 0 (lp Try.prog f_perigeelaw11_World 0) (SWo z ns xs us i) k) = (br (decide (i < (↑xs.length : Int))) ((us.length + (1 : Nat)) * (8 : Nat) ≤ (140737488355328 : Nat) ∧ k Out.normal (St.mk (T (51 : Nat) [((6 : Nat), IV.ptr (1 : Nat) (0 : Nat)), ((7 : Nat), IV.ptr (2 : Nat) (0 : Nat)), ((8 : Nat), IV.int IntKind.i64 (IntKind.i64.wrap (i + (1 : Int))))]) [some (Blk.ro [IntKind.u8] ns), some (Blk.var (86 : Nat) [IV.int IntKind.i64 (0 : Int), IV.int IntKind.i64 (0 : Int), IV.int IntKind.u64 (0 : Int), IV.int IntKind.i64 (0 : Int), IV.int IntKind.u64 (0 : Int), IV.int IntKind.i64 (0 : Int), IV.int IntKind.u64 (0 : Int), IV.int IntKind.i64 (0 : Int), IV.int IntKind.u64 (0 : Int), IV.int IntKind.i64 (0 : Int), IV.int IntKind.u64 (0 : Int), IV.int IntKind.i64 (0 : Int), IV.int IntKind.i64 (0 : Int), IV.sl (3 : Nat), IV.sl (4 : Nat), IV.sl (5 : Nat), IV.sl (6 : Nat), IV.int IntKind.i64 (0 : Int), IV.int IntKind.u64 (0 : Int), IV.int IntKind.i64 (0 : Int), IV.int IntKind.u64 (0 : Int), IV.int IntKind.i64 (0 : Int), IV.int IntKind.u64 (0 : Int), IV.sl (7 : Nat)]), some (Blk.var (86 : Nat) (worldC z 8 9 10 11 12)), some (Blk.row (32 : Nat) ksB []), some (Blk.row (115 : Nat) ksT []), some (Blk.row (167 : Nat) ksR []), some (Blk.row (3 : Nat) [IntKind.i64] []), some (Blk.row (169 : Nat) ksE []), some (Blk.row (32 : Nat) ksB xs), some (Blk.row (115 : Nat) ksT []), some (Blk.row (167 : Nat) ksR []), some (Blk.row (3 : Nat) [IntKind.i64] (us ++ (List.replicate (1 : Nat) (List.replicate (1 : Nat) (0 : Int))).set (0 : Nat) [(-1 : Int)])), some (Blk.row (169 : Nat) ksE [])])) (k (Out.exit (0 : Nat)) (St.mk (T (51 : Nat) [((6 : Nat), IV.ptr (1 : Nat) (0 : Nat)), ((7 : Nat), IV.ptr (2 : Nat) (0 : Nat))]) [some (Blk.ro [IntKind.u8] ns), some (Blk.var (86 : Nat) [IV.int IntKind.i64 (0 : Int), IV.int IntKind.i64 (0 : Int), IV.int IntKind.u64 (0 : Int), IV.int IntKind.i64 (0 : Int), IV.int IntKind.u64 (0 : Int), IV.int IntKind.i64 (0 : Int), IV.int IntKind.u64 (0 : Int), IV.int IntKind.i64 (0 : Int), IV.int IntKind.u64 (0 : Int), IV.int IntKind.i64 (0 : Int), IV.int IntKind.u64 (0 : Int), IV.int IntKind.i64 (0 : Int), IV.int IntKind.i64 (0 : Int), IV.sl (3 : Nat), IV.sl (4 : Nat), IV.sl (5 : Nat), IV.sl (6 : Nat), IV.int IntKind.i64 (0 : Int), IV.int IntKind.u64 (0 : Int), IV.int IntKind.i64 (0 : Int), IV.int IntKind.u64 (0 : Int), IV.int IntKind.i64 (0 : Int), IV.int IntKind.u64 (0 : Int), IV.sl (7 : Nat)]), some (Blk.var (86 : Nat) (worldC z 8 9 10 11 12)), some (Blk.row (32 : Nat) ksB []), some (Blk.row (115 : Nat) ksT []), some (Blk.row (167 : Nat) ksR []), some (Blk.row (3 : Nat) [IntKind.i64] []), some (Blk.row (169 : Nat) ksE []), some (Blk.row (32 : Nat) ksB xs), some (Blk.row (115 : Nat) ksT []), some (Blk.row (167 : Nat) ksR []), some (Blk.row (3 : Nat) [IntKind.i64] us), some (Blk.row (169 : Nat) ksE [])]))) := by kernel_rfl
def pWo (ns xs : List (List Int)) : Prop := okRows [.u8] ns ∧ xs.length ≤ 1000
def neg1 (n : Nat) : List (List Int) := List.replicate n [-1]
def pLWo (n0 : Nat) (st : St) (z : List Int) (ns xs : List (List Int)) : Prop := xs.length ≤ 1000 ∧ n0 = 1 ∧ st = SWo z ns xs [] 0
noncomputable def LWo : LoopS := fun n0 st K => ∃ z ns xs, pLWo n0 st z ns xs ∧ K (.exit 0) ⟨T 51 [(6, .ptr 1 0), (7, .ptr 2 0)], [some (.ro [.u8] ns), some (.var 86 (worldC z0 3 4 5 6 7)), some (.var 86 (worldC z 8 9 10 11 12))] ++ nilW [] [] ++ nilW xs (neg1 xs.length)⟩
noncomputable def NWo : Know := ⟨Γf4, fun f i => if f = f_perigeelaw11_World then (if i = 0 then some LWo else none) else none, fun _ => none⟩
theorem v_World (ns : List (List Int)) (m how : Int) (K : IV → List Blk → Prop) : (comes Try.prog NWo 3 f_perigeelaw11_World [.sl 0, .int .i64 m, .int .u8 how] [.ro [.u8] ns] K) = (∀ (t1 : Int), t1 = IntKind.i64.wrap ((1 : Int) + (IntKind.i64.wrap how).tmod (3 : Int)) → ∀ (t2 : Int), t2 = mx IntKind.i64 t1 (-9223372036854775807 : Int) * (18446744073709551616 : Int) → (3 : Int) ≠ (0 : Int) ∧ preI [IV.int IntKind.i64 t1] [] ∧ (0 : Int) ≤ (56 : Int) ∧ (4 : Int) ≠ (0 : Int) ∧ (0 : Int) ≤ (62 : Int) ∧ (4 : Int) ≠ (0 : Int) ∧ (2 : Int) ≠ (0 : Int) ∧ (8 : Int) ≠ (0 : Int) ∧ (2 : Int) ≠ (0 : Int) ∧ pBodies [IV.sl (0 : Nat), IV.int IntKind.i64 m] [Blk.ro [IntKind.u8] ns] ∧ ∃ z ns_1 xs, pLWo (1 : Nat) (St.mk (T (51 : Nat) [((6 : Nat), IV.ptr (1 : Nat) (0 : Nat)), ((7 : Nat), IV.ptr (2 : Nat) (0 : Nat)), ((8 : Nat), IV.int IntKind.i64 (0 : Int))]) [some (Blk.ro [IntKind.u8] ns), some (Blk.var (86 : Nat) [IV.int IntKind.i64 (0 : Int), IV.int IntKind.i64 (0 : Int), IV.int IntKind.u64 (0 : Int), IV.int IntKind.i64 (0 : Int), IV.int IntKind.u64 (0 : Int), IV.int IntKind.i64 (0 : Int), IV.int IntKind.u64 (0 : Int), IV.int IntKind.i64 (0 : Int), IV.int IntKind.u64 (0 : Int), IV.int IntKind.i64 (0 : Int), IV.int IntKind.u64 (0 : Int), IV.int IntKind.i64 (0 : Int), IV.int IntKind.i64 (0 : Int), IV.sl (3 : Nat), IV.sl (4 : Nat), IV.sl (5 : Nat), IV.sl (6 : Nat), IV.int IntKind.i64 (0 : Int), IV.int IntKind.u64 (0 : Int), IV.int IntKind.i64 (0 : Int), IV.int IntKind.u64 (0 : Int), IV.int IntKind.i64 (0 : Int), IV.int IntKind.u64 (0 : Int), IV.sl (7 : Nat)]), some (Blk.var (86 : Nat) [IV.int IntKind.i64 (0 : Int), IV.int IntKind.i64 (0 : Int), IV.int IntKind.u64 (1152921504606846976 : Int), IV.int IntKind.i64 (t2 / (18446744073709551616 : Int)), IV.int IntKind.u64 (t2 % (18446744073709551616 : Int)), IV.int IntKind.i64 (0 : Int), IV.int IntKind.u64 (4611686018427387904 : Int), IV.int IntKind.i64 (0 : Int), IV.int IntKind.u64 (IntKind.u64.wrap (IntKind.u64.wrap how * (72057594037927936 : Int))), IV.int IntKind.i64 (0 : Int), IV.int IntKind.u64 (IntKind.u64.wrap (IntKind.u64.wrap (how.tmod (4 : Int)) * (4611686018427387904 : Int))), IV.int IntKind.i64 ((IntKind.i64.wrap ((IntKind.i64.wrap how).tdiv (4 : Int))).tmod (2 : Int)), IV.int IntKind.i64 ((IntKind.i64.wrap ((IntKind.i64.wrap how).tdiv (8 : Int))).tmod (2 : Int)), IV.sl (8 : Nat), IV.sl (9 : Nat), IV.sl (10 : Nat), IV.sl (11 : Nat), IV.int IntKind.i64 (0 : Int), IV.int IntKind.u64 (0 : Int), IV.int IntKind.i64 (0 : Int), IV.int IntKind.u64 (0 : Int), IV.int IntKind.i64 (0 : Int), IV.int IntKind.u64 (0 : Int), IV.sl (12 : Nat)]), some (Blk.row (32 : Nat) ksB []), some (Blk.row (115 : Nat) ksT []), some (Blk.row (167 : Nat) ksR []), some (Blk.row (3 : Nat) [IntKind.i64] []), some (Blk.row (169 : Nat) ksE []), some (Blk.row (32 : Nat) ksB (bodiesF ns (howMany ns m))), some (Blk.row (115 : Nat) ksT []), some (Blk.row (167 : Nat) ksR []), some (Blk.row (3 : Nat) [IntKind.i64] []), some (Blk.row (169 : Nat) ksE [])]) z ns_1 xs ∧ K (IV.agg (worldC z 0 1 2 3 4)) [Blk.row (32 : Nat) ksB xs, Blk.row (115 : Nat) ksT [], Blk.row (167 : Nat) ksR [], Blk.row (3 : Nat) [IntKind.i64] (neg1 xs.length), Blk.row (169 : Nat) ksE []]) := by refine nm ?_; refine nm ?_; kernel_rfl
def wz (how : Int) : List Int := [0, 0, 1152921504606846976, 1 + how % 3, 0, 0, 4611686018427387904, 0, how * 72057594037927936, 0, how % 4 * 4611686018427387904, how / 4 % 2, how / 8 % 2, 0, 0, 0, 0, 0, 0]
def pWorld (l : List IV) (bs : List Blk) : Prop := ∃ ns m how, l = [.sl 0, .int .i64 m, .int .u8 how] ∧ bs = [.ro [.u8] ns] ∧ (0 ≤ m ∧ m ≤ 1000) ∧ u8ok how
noncomputable def wbs (ns : List (List Int)) (m : Int) : List (List Int) := bodiesF ns (howMany ns m)
noncomputable def spWorld : Vs.Spec := ⟨pWorld, fun l bs => (.agg (worldC (wz (argI l 2 0)) 0 1 2 3 4), [.row 32 ksB (wbs (xsOf bs 0) (argI l 1 0)), .row 115 ksT [], .row 167 ksR [], .row 3 [.i64] (neg1 (wbs (xsOf bs 0) (argI l 1 0)).length), .row 169 ksE []])⟩
noncomputable def Γf5 : FuncId → Option Vs.Spec := fun g => if g = f_perigeelaw11_World then some spWorld else Γf4 g
noncomputable def Nf5 : Know := ⟨Γf5, fun _ _ => none, fun _ => none⟩
theorem v_awake11 (K : IV → List Blk → Prop) : (comes Try.prog Nf5 3 f_perigeelaw11_awake [] [] K) = (∀ (t1 : Prop), t1 = ((0 : Int) ≤ (0 : Int) ∧ (0 : Int) < (2 : Int)) → ∀ (t2 : Int), t2 = dirE (worN [IV.agg [IV.int IntKind.i64 (0 : Int), IV.int IntKind.i64 (0 : Int), IV.int IntKind.u64 (1152921504606846976 : Int), IV.int IntKind.i64 (1 : Int), IV.int IntKind.u64 (0 : Int), IV.int IntKind.i64 (0 : Int), IV.int IntKind.u64 (4611686018427387904 : Int), IV.int IntKind.i64 (0 : Int), IV.int IntKind.u64 (0 : Int), IV.int IntKind.i64 (0 : Int), IV.int IntKind.u64 (0 : Int), IV.int IntKind.i64 (0 : Int), IV.int IntKind.i64 (0 : Int), IV.sl (0 : Nat), IV.sl (1 : Nat), IV.sl (2 : Nat), IV.sl (3 : Nat), IV.int IntKind.i64 (0 : Int), IV.int IntKind.u64 (0 : Int), IV.int IntKind.i64 (0 : Int), IV.int IntKind.u64 (0 : Int), IV.int IntKind.i64 (0 : Int), IV.int IntKind.u64 (0 : Int), IV.sl (4 : Nat)], IV.agg [IV.int IntKind.i64 (1 : Int), IV.int IntKind.u64 (0 : Int)]] (0 : Nat)) (18446744073709551616 : Int) [[(2 : Int), (0 : Int), (2 : Int), (4611686018427387904 : Int), (0 : Int), (9223372036854775808 : Int), (0 : Int), (1099511627776 : Int), (-1 : Int), (128 : Int), (-1 : Int), (2305843009213693952 : Int), (0 : Int), (2251799813685248 : Int), (0 : Int), (144115188075855872 : Int), (0 : Int), (0 : Int), (0 : Int), (514 : Int)], [(2 : Int), (0 : Int), (2 : Int), (4611686018427387904 : Int), (2 : Int), (9223372036854775808 : Int), (0 : Int), (1099511627776 : Int), (-1 : Int), (130 : Int), (-1 : Int), (2305843009213693952 : Int), (0 : Int), (2251799813685248 : Int), (0 : Int), (146366987889541120 : Int), (0 : Int), (0 : Int), (0 : Int), (514 : Int)]] → ∀ (t3 : Int), t3 = (↑(dirL (worN [IV.agg [IV.int IntKind.i64 (0 : Int), IV.int IntKind.i64 (0 : Int), IV.int IntKind.u64 (1152921504606846976 : Int), IV.int IntKind.i64 (1 : Int), IV.int IntKind.u64 (0 : Int), IV.int IntKind.i64 (0 : Int), IV.int IntKind.u64 (4611686018427387904 : Int), IV.int IntKind.i64 (0 : Int), IV.int IntKind.u64 (0 : Int), IV.int IntKind.i64 (0 : Int), IV.int IntKind.u64 (0 : Int), IV.int IntKind.i64 (0 : Int), IV.int IntKind.i64 (0 : Int), IV.sl (0 : Nat), IV.sl (1 : Nat), IV.sl (2 : Nat), IV.sl (3 : Nat), IV.int IntKind.i64 (0 : Int), IV.int IntKind.u64 (0 : Int), IV.int IntKind.i64 (0 : Int), IV.int IntKind.u64 (0 : Int), IV.int IntKind.i64 (0 : Int), IV.int IntKind.u64 (0 : Int), IV.sl (4 : Nat)], IV.agg [IV.int IntKind.i64 (1 : Int), IV.int IntKind.u64 (0 : Int)]] (0 : Nat)) (18446744073709551616 : Int) [[(2 : Int), (0 : Int), (2 : Int), (4611686018427387904 : Int), (0 : Int), (9223372036854775808 : Int), (0 : Int), (1099511627776 : Int), (-1 : Int), (128 : Int), (-1 : Int), (2305843009213693952 : Int), (0 : Int), (2251799813685248 : Int), (0 : Int), (144115188075855872 : Int), (0 : Int), (0 : Int), (0 : Int), (514 : Int)], [(2 : Int), (0 : Int), (2 : Int), (4611686018427387904 : Int), (2 : Int), (9223372036854775808 : Int), (0 : Int), (1099511627776 : Int), (-1 : Int), (130 : Int), (-1 : Int), (2305843009213693952 : Int), (0 : Int), (2251799813685248 : Int), (0 : Int), (146366987889541120 : Int), (0 : Int), (0 : Int), (0 : Int), (514 : Int)]]).length : Int) → ∀ (t4 : Int), t4 = rd (dirL (worN [IV.agg [IV.int IntKind.i64 (0 : Int), IV.int IntKind.i64 (0 : Int), IV.int IntKind.u64 (1152921504606846976 : Int), IV.int IntKind.i64 (1 : Int), IV.int IntKind.u64 (0 : Int), IV.int IntKind.i64 (0 : Int), IV.int IntKind.u64 (4611686018427387904 : Int), IV.int IntKind.i64 (0 : Int), IV.int IntKind.u64 (0 : Int), IV.int IntKind.i64 (0 : Int), IV.int IntKind.u64 (0 : Int), IV.int IntKind.i64 (0 : Int), IV.int IntKind.i64 (0 : Int), IV.sl (0 : Nat), IV.sl (1 : Nat), IV.sl (2 : Nat), IV.sl (3 : Nat), IV.int IntKind.i64 (0 : Int), IV.int IntKind.u64 (0 : Int), IV.int IntKind.i64 (0 : Int), IV.int IntKind.u64 (0 : Int), IV.int IntKind.i64 (0 : Int), IV.int IntKind.u64 (0 : Int), IV.sl (4 : Nat)], IV.agg [IV.int IntKind.i64 (1 : Int), IV.int IntKind.u64 (0 : Int)]] (0 : Nat)) (18446744073709551616 : Int) [[(2 : Int), (0 : Int), (2 : Int), (4611686018427387904 : Int), (0 : Int), (9223372036854775808 : Int), (0 : Int), (1099511627776 : Int), (-1 : Int), (128 : Int), (-1 : Int), (2305843009213693952 : Int), (0 : Int), (2251799813685248 : Int), (0 : Int), (144115188075855872 : Int), (0 : Int), (0 : Int), (0 : Int), (514 : Int)], [(2 : Int), (0 : Int), (2 : Int), (4611686018427387904 : Int), (2 : Int), (9223372036854775808 : Int), (0 : Int), (1099511627776 : Int), (-1 : Int), (130 : Int), (-1 : Int), (2305843009213693952 : Int), (0 : Int), (2251799813685248 : Int), (0 : Int), (146366987889541120 : Int), (0 : Int), (0 : Int), (0 : Int), (514 : Int)]]) (0 : Nat) (0 : Nat) → ∀ (t5 : Int), t5 = rd (dirL (worN [IV.agg [IV.int IntKind.i64 (0 : Int), IV.int IntKind.i64 (0 : Int), IV.int IntKind.u64 (1152921504606846976 : Int), IV.int IntKind.i64 (1 : Int), IV.int IntKind.u64 (0 : Int), IV.int IntKind.i64 (0 : Int), IV.int IntKind.u64 (4611686018427387904 : Int), IV.int IntKind.i64 (0 : Int), IV.int IntKind.u64 (0 : Int), IV.int IntKind.i64 (0 : Int), IV.int IntKind.u64 (0 : Int), IV.int IntKind.i64 (0 : Int), IV.int IntKind.i64 (0 : Int), IV.sl (0 : Nat), IV.sl (1 : Nat), IV.sl (2 : Nat), IV.sl (3 : Nat), IV.int IntKind.i64 (0 : Int), IV.int IntKind.u64 (0 : Int), IV.int IntKind.i64 (0 : Int), IV.int IntKind.u64 (0 : Int), IV.int IntKind.i64 (0 : Int), IV.int IntKind.u64 (0 : Int), IV.sl (4 : Nat)], IV.agg [IV.int IntKind.i64 (1 : Int), IV.int IntKind.u64 (0 : Int)]] (0 : Nat)) (18446744073709551616 : Int) [[(2 : Int), (0 : Int), (2 : Int), (4611686018427387904 : Int), (0 : Int), (9223372036854775808 : Int), (0 : Int), (1099511627776 : Int), (-1 : Int), (128 : Int), (-1 : Int), (2305843009213693952 : Int), (0 : Int), (2251799813685248 : Int), (0 : Int), (144115188075855872 : Int), (0 : Int), (0 : Int), (0 : Int), (514 : Int)], [(2 : Int), (0 : Int), (2 : Int), (4611686018427387904 : Int), (2 : Int), (9223372036854775808 : Int), (0 : Int), (1099511627776 : Int), (-1 : Int), (130 : Int), (-1 : Int), (2305843009213693952 : Int), (0 : Int), (2251799813685248 : Int), (0 : Int), (146366987889541120 : Int), (0 : Int), (0 : Int), (0 : Int), (514 : Int)]]) (0 : Nat) (1 : Nat) → ∀ (t6 : Int), t6 = rd (dirL (worN [IV.agg [IV.int IntKind.i64 (0 : Int), IV.int IntKind.i64 (0 : Int), IV.int IntKind.u64 (1152921504606846976 : Int), IV.int IntKind.i64 (1 : Int), IV.int IntKind.u64 (0 : Int), IV.int IntKind.i64 (0 : Int), IV.int IntKind.u64 (4611686018427387904 : Int), IV.int IntKind.i64 (0 : Int), IV.int IntKind.u64 (0 : Int), IV.int IntKind.i64 (0 : Int), IV.int IntKind.u64 (0 : Int), IV.int IntKind.i64 (0 : Int), IV.int IntKind.i64 (0 : Int), IV.sl (0 : Nat), IV.sl (1 : Nat), IV.sl (2 : Nat), IV.sl (3 : Nat), IV.int IntKind.i64 (0 : Int), IV.int IntKind.u64 (0 : Int), IV.int IntKind.i64 (0 : Int), IV.int IntKind.u64 (0 : Int), IV.int IntKind.i64 (0 : Int), IV.int IntKind.u64 (0 : Int), IV.sl (4 : Nat)], IV.agg [IV.int IntKind.i64 (1 : Int), IV.int IntKind.u64 (0 : Int)]] (0 : Nat)) (18446744073709551616 : Int) [[(2 : Int), (0 : Int), (2 : Int), (4611686018427387904 : Int), (0 : Int), (9223372036854775808 : Int), (0 : Int), (1099511627776 : Int), (-1 : Int), (128 : Int), (-1 : Int), (2305843009213693952 : Int), (0 : Int), (2251799813685248 : Int), (0 : Int), (144115188075855872 : Int), (0 : Int), (0 : Int), (0 : Int), (514 : Int)], [(2 : Int), (0 : Int), (2 : Int), (4611686018427387904 : Int), (2 : Int), (9223372036854775808 : Int), (0 : Int), (1099511627776 : Int), (-1 : Int), (130 : Int), (-1 : Int), (2305843009213693952 : Int), (0 : Int), (2251799813685248 : Int), (0 : Int), (146366987889541120 : Int), (0 : Int), (0 : Int), (0 : Int), (514 : Int)]]) (0 : Nat) (2 : Nat) → ∀ (t7 : Int), t7 = rd (dirL (worN [IV.agg [IV.int IntKind.i64 (0 : Int), IV.int IntKind.i64 (0 : Int), IV.int IntKind.u64 (1152921504606846976 : Int), IV.int IntKind.i64 (1 : Int), IV.int IntKind.u64 (0 : Int), IV.int IntKind.i64 (0 : Int), IV.int IntKind.u64 (4611686018427387904 : Int), IV.int IntKind.i64 (0 : Int), IV.int IntKind.u64 (0 : Int), IV.int IntKind.i64 (0 : Int), IV.int IntKind.u64 (0 : Int), IV.int IntKind.i64 (0 : Int), IV.int IntKind.i64 (0 : Int), IV.sl (0 : Nat), IV.sl (1 : Nat), IV.sl (2 : Nat), IV.sl (3 : Nat), IV.int IntKind.i64 (0 : Int), IV.int IntKind.u64 (0 : Int), IV.int IntKind.i64 (0 : Int), IV.int IntKind.u64 (0 : Int), IV.int IntKind.i64 (0 : Int), IV.int IntKind.u64 (0 : Int), IV.sl (4 : Nat)], IV.agg [IV.int IntKind.i64 (1 : Int), IV.int IntKind.u64 (0 : Int)]] (0 : Nat)) (18446744073709551616 : Int) [[(2 : Int), (0 : Int), (2 : Int), (4611686018427387904 : Int), (0 : Int), (9223372036854775808 : Int), (0 : Int), (1099511627776 : Int), (-1 : Int), (128 : Int), (-1 : Int), (2305843009213693952 : Int), (0 : Int), (2251799813685248 : Int), (0 : Int), (144115188075855872 : Int), (0 : Int), (0 : Int), (0 : Int), (514 : Int)], [(2 : Int), (0 : Int), (2 : Int), (4611686018427387904 : Int), (2 : Int), (9223372036854775808 : Int), (0 : Int), (1099511627776 : Int), (-1 : Int), (130 : Int), (-1 : Int), (2305843009213693952 : Int), (0 : Int), (2251799813685248 : Int), (0 : Int), (146366987889541120 : Int), (0 : Int), (0 : Int), (0 : Int), (514 : Int)]]) (0 : Nat) (3 : Nat) → ∀ (t8 : Prop), t8 = ((0 : Int) ≤ (0 : Int) ∧ (0 : Int) < t3) → pWorld [IV.sl (0 : Nat), IV.int IntKind.i64 (2 : Int), IV.int IntKind.u8 (0 : Int)] [Blk.ro [IntKind.u8] [[(128 : Int)], [(128 : Int)], [(1 : Int)], [(2 : Int)], [(130 : Int)], [(128 : Int)], [(1 : Int)], [(2 : Int)]]] ∧ preI [IV.int IntKind.i64 (1 : Int)] [] ∧ pKick [IV.agg [IV.int IntKind.i64 (0 : Int), IV.int IntKind.i64 (0 : Int), IV.int IntKind.u64 (1152921504606846976 : Int), IV.int IntKind.i64 (1 : Int), IV.int IntKind.u64 (0 : Int), IV.int IntKind.i64 (0 : Int), IV.int IntKind.u64 (4611686018427387904 : Int), IV.int IntKind.i64 (0 : Int), IV.int IntKind.u64 (0 : Int), IV.int IntKind.i64 (0 : Int), IV.int IntKind.u64 (0 : Int), IV.int IntKind.i64 (0 : Int), IV.int IntKind.i64 (0 : Int), IV.sl (0 : Nat), IV.sl (1 : Nat), IV.sl (2 : Nat), IV.sl (3 : Nat), IV.int IntKind.i64 (0 : Int), IV.int IntKind.u64 (0 : Int), IV.int IntKind.i64 (0 : Int), IV.int IntKind.u64 (0 : Int), IV.int IntKind.i64 (0 : Int), IV.int IntKind.u64 (0 : Int), IV.sl (4 : Nat)], IV.agg [IV.int IntKind.i64 (1 : Int), IV.int IntKind.u64 (0 : Int)]] [Blk.ro ksB [[(2 : Int), (0 : Int), (2 : Int), (4611686018427387904 : Int), (0 : Int), (9223372036854775808 : Int), (0 : Int), (1099511627776 : Int), (-1 : Int), (128 : Int), (-1 : Int), (2305843009213693952 : Int), (0 : Int), (2251799813685248 : Int), (0 : Int), (144115188075855872 : Int), (0 : Int), (0 : Int), (0 : Int), (514 : Int)], [(2 : Int), (0 : Int), (2 : Int), (4611686018427387904 : Int), (2 : Int), (9223372036854775808 : Int), (0 : Int), (1099511627776 : Int), (-1 : Int), (130 : Int), (-1 : Int), (2305843009213693952 : Int), (0 : Int), (2251799813685248 : Int), (0 : Int), (146366987889541120 : Int), (0 : Int), (0 : Int), (0 : Int), (514 : Int)]], Blk.ro ksT [], Blk.ro ksR [], Blk.ro [IntKind.i64] [[(-1 : Int)], [(-1 : Int)]], Blk.ro ksE []] ∧ preI [IV.int IntKind.i64 t2] [] ∧ br (t2 == (0 : Int)) (br (t3 == (2 : Int)) (t8 ∧ t8 ∧ t1 ∧ t1 ∧ K (IV.bool !(decide (t4 = (-1 : Int)) && (decide (t5 = (128 : Int)) && (decide (t6 = (-1 : Int)) && (decide (t7 = (2305843009213693952 : Int)) && true))))) []) (K (IV.bool false) [])) (K (IV.bool false) [])) := by refine nm ?_; refine nm ?_; refine nm ?_; refine nm ?_; refine nm ?_; refine nm ?_; refine nm ?_; refine nm ?_; kernel_rfl
end Go.Vs.RF


set_option linter.unusedVariables false
set_option linter.unusedSimpArgs false
set_option maxRecDepth 100000
/- direct: worlds by numbers -/
namespace Go.Vs.RF
open Go Go.Proofs Go.Vs Go.IntWalk

theorem ctrsf4 : ∀ {g : FuncId} {sp : Vs.Spec}, Γf4 g = some sp → Contract Try.prog g sp := ext_ok c_Bodies (ext_ok c_Kick (ext_ok c_Direct ctrsf3))
theorem neg1_succ (n : Nat) : neg1 n ++ [[-1]] = neg1 (n + 1) := by unfold neg1; rw [List.replicate_succ']
theorem lWo (d n0 : Nat) : LoopOk (envOf Try.prog NWo d) f_perigeelaw11_World n0 0 (lp Try.prog f_perigeelaw11_World 0) LWo := by
  intro st K hst
  obtain ⟨z, ns, xs, ⟨hl, rfl, rfl⟩, hK⟩ := hst
  refine loop_of (fun i : Nat => SWo z ns xs (neg1 i) i) (fun i => i ≤ xs.length) (fun i => xs.length - i) ?_ (a := 0) (Nat.zero_le _)
  intro i hle k hn hk
  show round (envOf Try.prog ⟨Γf4, _, fun _ => none⟩ d) _ _ _ _ _ k
  rw [rWorld, br_dec]
  constructor
  · intro hi
    have hi' : i < xs.length := by omega
    refine ⟨by unfold neg1; rw [List.length_replicate]; omega, ?_⟩
    have := hn (i + 1) hi' (by omega)
    rw [← neg1_succ] at this
    rw [show IntKind.i64.wrap ((i : Int) + 1) = ((i + 1 : Nat) : Int) by rw [i64_in _ (by omega)]; rfl]
    exact this
  · intro hi
    have hi' : i = xs.length := by omega
    subst hi'
    exact hk _ _ (by simp) hK
theorem knowWo : KnowOk Try.prog NWo 3 := know_loop (f0 := f_perigeelaw11_World) (L := LWo) (fun g sp h => ctrsf4 h) rfl (fun g G h => noT h) lWo 3
theorem wbs_len {ns : List (List Int)} {m : Int} (h : 0 ≤ m ∧ m ≤ 1000) : (wbs ns m).length ≤ 1000 ∧ (wbs ns m).length ≤ m.toNat := by
  unfold wbs howMany; rw [bodies_len]
  have : min (ns.length / 4) m.toNat ≤ m.toNat := Nat.min_le_right _ _
  omega
theorem c_World : Contract Try.prog f_perigeelaw11_World spWorld := by
  refine contract_of (N := NWo) 3 knowWo ?_
  rintro l bs _ hB ⟨ns, m, how, rfl, rfl, hm, hh⟩
  unfold u8ok at hh
  show comes _ _ _ _ _ _ fun v bs' => ((IV.agg (worldC (wz how) 0 1 2 3 4), ([.row 32 ksB (wbs ns m), .row 115 ksT [], .row 167 ksR [], .row 3 [.i64] (neg1 (wbs ns m).length), .row 169 ksE []] : List Blk)) = (v, bs'))
  rw [v_World]
  rintro t1 e1 t2 e2
  rw [i64_in how (by omega), tmod_pos hh.1, i64_in (1 + how % 3) (by omega)] at e1
  rw [e1, mxe (by omega)] at e2
  have k1 : t2 / 18446744073709551616 = 1 + how % 3 := by omega
  have k2 : t2 % 18446744073709551616 = 0 := by omega
  rw [k1, k2, i64_in how (by omega), u64_in how (by omega), u64_in (how * 72057594037927936) (by omega), tmod_pos hh.1, u64_in (how % 4) (by omega), u64_in (how % 4 * 4611686018427387904) (by omega),
    Int.tdiv_eq_ediv_of_nonneg hh.1, Int.tdiv_eq_ediv_of_nonneg hh.1, i64_in (how / 4) (by omega), i64_in (how / 8) (by omega), tmod_pos (show 0 ≤ how / 4 by omega), tmod_pos (show 0 ≤ how / 8 by omega)]
  refine ⟨by decide, by rw [e1]; exact preI_of (by unfold i64ok; omega), by decide, by decide, by decide, by decide, by decide, by decide, by decide, ⟨ns, m, rfl, rfl, hm⟩, wz how, ns, wbs ns m, ⟨(wbs_len hm).1, rfl, rfl⟩, rfl⟩
theorem ctrsf5 : ∀ {g : FuncId} {sp : Vs.Spec}, Γf5 g = some sp → Contract Try.prog g sp := ext_ok c_World ctrsf4

theorem dir_nil (z : List Int) (h : Int) : dirE z h [] = 0 ∧ dirL z h [] = [] := ⟨rfl, rfl⟩
theorem dir_one (z : List Int) (h : Int) (r : List Int) : dirE z h [r] = 0 ∧ dirL z h [r] = [momR r] := by
  unfold dirE dirL
  have h1 : dOut z h [r] [r].length 0 ([r].map momR) = ([momR r], 0) := by
    show dOut z h [r] (0 + 1) 0 [momR r] = _
    unfold dOut
    show (if (dIn z h [r] 0 0 1 [momR r]).2 ≠ 0 then _ else dOut z h [r] 0 1 (dIn z h [r] 0 0 1 [momR r]).1) = _
    have h0 : dIn z h [r] 0 0 1 [momR r] = ([momR r], 0) := rfl
    rw [h0, if_neg (fun hh => hh rfl)]
    rfl
  rw [h1]
  exact ⟨rfl, rfl⟩
theorem dir_two (z : List Int) (h : Int) (r s : List Int) : dirE z h [r, s] = prE z h r s (fr r 8) (fr r 10) (fr s 8) (fr s 10) ∧
    (prE z h r s (fr r 8) (fr r 10) (fr s 8) (fr s 10) = 0 → dirL z h [r, s] = [vecRow (prXp z h r s (fr r 8) (fr r 10) (fr s 8) (fr s 10)) (prYp z h r s (fr r 8) (fr r 10) (fr s 8) (fr s 10)), vecRow (prXq z h r s (fr r 8) (fr r 10) (fr s 8) (fr s 10)) (prYq z h r s (fr r 8) (fr r 10) (fr s 8) (fr s 10))]) := by
  unfold dirE dirL
  have eE : dsE z h [r, s] [momR r, momR s] 0 1 = prE z h r s (fr r 8) (fr r 10) (fr s 8) (fr s 10) := rfl
  have hd : dOut z h [r, s] [r, s].length 0 ([r, s].map momR) = if (dIn z h [r, s] 0 1 1 [momR r, momR s]).2 ≠ 0 then ([], (dIn z h [r, s] 0 1 1 [momR r, momR s]).2) else dOut z h [r, s] 1 1 (dIn z h [r, s] 0 1 1 [momR r, momR s]).1 := rfl
  have hi : dIn z h [r, s] 0 1 1 [momR r, momR s] = if dsE z h [r, s] [momR r, momR s] 0 1 ≠ 0 then ([], dsE z h [r, s] [momR r, momR s] 0 1) else ([dsP z h [r, s] [momR r, momR s] 0 1, dsQ z h [r, s] [momR r, momR s] 0 1], 0) := rfl
  rw [hd, hi, eE]
  by_cases h0 : prE z h r s (fr r 8) (fr r 10) (fr s 8) (fr s 10) ≠ 0
  · rw [if_pos h0]
    simp only [if_pos h0]
    exact ⟨trivial, fun hh => absurd hh h0⟩
  · rw [if_neg h0]
    have h0' : prE z h r s (fr r 8) (fr r 10) (fr s 8) (fr s 10) = 0 := Decidable.not_not.1 h0
    rw [if_neg (fun hh => hh rfl), h0']
    exact ⟨rfl, fun _ => rfl⟩

def wa : List (List Int) := [[2, 0, 2, 4611686018427387904, 0, 9223372036854775808, 0, 1099511627776, -1, 128, -1, 2305843009213693952, 0, 2251799813685248, 0, 144115188075855872, 0, 0, 0, 514], [2, 0, 2, 4611686018427387904, 2, 9223372036854775808, 0, 1099511627776, -1, 130, -1, 2305843009213693952, 0, 2251799813685248, 0, 146366987889541120, 0, 0, 0, 514]]
theorem pl_wake : plE 18446744073709551616 36893488147419103232 36893488147419103232 36893488147419103232 0 4611686018427387904 18446744073709551616 = 0 ∧ plX 18446744073709551616 36893488147419103232 36893488147419103232 36893488147419103232 0 4611686018427387904 18446744073709551616 = 18022691487252623560 ∧ plY 18446744073709551616 36893488147419103232 36893488147419103232 36893488147419103232 0 4611686018427387904 18446744073709551616 = 0 := by
  refine pl_ok (d := 9011345743626311780) (k_ok (R := 74939897799445053440) (F := 37180601334786296162) (m1 := 73786976294838206464) (m2 := 73786976294838206464) (m3 := 73786976294838206464) (d1 := 18162948011037096976)
    ?_ ?_ ?_ ?_ ?_ ⟨by decide, by decide⟩ (by decide) (sqrtI_eq ⟨by decide, by decide, by decide⟩) (by decide) ?_ ⟨by decide, by decide⟩ ?_ ⟨by decide, by decide⟩ ?_ ⟨by decide, by decide⟩ ?_ ⟨by decide, by decide⟩ ?_ ⟨by decide, by decide⟩) ?_ ?_ ⟨by decide, by decide⟩ may_zero <;> first | rfl | (constructor <;> decide)
theorem wake_dir : dirE (wz 0) 18446744073709551616 wa = 0 ∧ (dirL (wz 0) 18446744073709551616 wa).length = 2 ∧ rd (dirL (wz 0) 18446744073709551616 wa) 0 0 = -1 ∧ rd (dirL (wz 0) 18446744073709551616 wa) 0 1 = 18022691487252623688 := by
  obtain ⟨a1, a2, a3⟩ := pl_wake
  have g1 : gvE (wz 0) 18446744073709551616 (wa.getD 0 []) (fr (wa.getD 1 []) 0) (fr (wa.getD 1 []) 4) (fr (wa.getD 1 []) 6) = 0 := by
    unfold gvE; rw [if_neg (by decide)]; exact a1
  have g2 : gvX (wz 0) 18446744073709551616 (wa.getD 0 []) (fr (wa.getD 1 []) 0) (fr (wa.getD 1 []) 4) (fr (wa.getD 1 []) 6) = 18022691487252623560 := by
    unfold gvX; rw [if_neg (by decide)]; exact a2
  have g3 : gvY (wz 0) 18446744073709551616 (wa.getD 0 []) (fr (wa.getD 1 []) 0) (fr (wa.getD 1 []) 4) (fr (wa.getD 1 []) 6) = 0 := by
    unfold gvY; rw [if_neg (by decide)]; exact a3
  obtain ⟨d1, d2⟩ := dir_two (wz 0) 18446744073709551616 (wa.getD 0 []) (wa.getD 1 [])
  have e0 : prE (wz 0) 18446744073709551616 (wa.getD 0 []) (wa.getD 1 []) (fr (wa.getD 0 []) 8) (fr (wa.getD 0 []) 10) (fr (wa.getD 1 []) 8) (fr (wa.getD 1 []) 10) = 0 := by
    unfold prE; rw [g1, g2, g3, if_neg (by decide), if_neg (by decide)]; decide
  have e1 : prXp (wz 0) 18446744073709551616 (wa.getD 0 []) (wa.getD 1 []) (fr (wa.getD 0 []) 8) (fr (wa.getD 0 []) 10) (fr (wa.getD 1 []) 8) (fr (wa.getD 1 []) 10) = -424052586456927928 := by
    unfold prXp prP; rw [g1, g2, g3, if_neg (by decide)]; decide
  have hl := d2 e0
  rw [e1] at hl
  have hw : wa = [wa.getD 0 [], wa.getD 1 []] := rfl
  rw [hw]
  rw [hl]
  exact ⟨d1.trans e0, rfl, by decide, by decide⟩
end Go.Vs.RF

set_option linter.unusedVariables false
/- the laws of direct -/
namespace Go.Vs.RF
open Go Go.Proofs Go.Vs
def pAwk11 (l : List IV) (bs : List Blk) : Prop := l = [] ∧ bs = []
noncomputable def spAwk11 : Vs.Spec := ⟨pAwk11, fun _ _ => (.bool true, [])⟩
noncomputable def Γf6 : FuncId → Option Vs.Spec := fun g => if g = f_perigeelaw11_awake then some spAwk11 else if g = f_perigeeref10_Pull then some spRPull else Γf5 g
noncomputable def Nf6 : Know := ⟨Γf6, fun _ _ => none, fun _ => none⟩
theorem v_DirectMade (ns : List (List Int)) (how h : Int) (K : IV → List Blk → Prop) : (comes Try.prog Nf6 3 f_perigeelaw11_DirectMade [.sl 0, .int .u8 how, .int .u64 h] [.ro [.u8] ns] K) = (∀ (t1 : Int), t1 = dirE (worN [IV.agg (worldC (wz how) 0 1 2 3 4), IV.agg [IV.int IntKind.i64 (0 : Int), IV.int IntKind.u64 h]] (0 : Nat)) ((0 : Int) + h) (wbs ns (10 : Int)) → ∀ (t2 : Prop), t2 = pKick [IV.agg (worldC (wz how) 0 1 2 3 4), IV.agg [IV.int IntKind.i64 (0 : Int), IV.int IntKind.u64 h]] [Blk.ro ksB (wbs ns (10 : Int)), Blk.ro ksT [], Blk.ro ksR [], Blk.ro [IntKind.i64] (neg1 (wbs ns (10 : Int)).length), Blk.ro ksE []] → pWorld [IV.sl (0 : Nat), IV.int IntKind.i64 (10 : Int), IV.int IntKind.u8 how] [Blk.ro [IntKind.u8] ns] ∧ t2 ∧ t2 ∧ pSame [IV.sl (0 : Nat), IV.sl (1 : Nat)] [Blk.ro ksV (dirL (worN [IV.agg (worldC (wz how) 0 1 2 3 4), IV.agg [IV.int IntKind.i64 (0 : Int), IV.int IntKind.u64 h]] (0 : Nat)) ((0 : Int) + h) (wbs ns (10 : Int))), Blk.ro ksV (dirL (worN [IV.agg (worldC (wz how) 0 1 2 3 4), IV.agg [IV.int IntKind.i64 (0 : Int), IV.int IntKind.u64 h]] (0 : Nat)) ((0 : Int) + h) (wbs ns (10 : Int)))] ∧ br (bp (dirL (worN [IV.agg (worldC (wz how) 0 1 2 3 4), IV.agg [IV.int IntKind.i64 (0 : Int), IV.int IntKind.u64 h]] (0 : Nat)) ((0 : Int) + h) (wbs ns (10 : Int)) = dirL (worN [IV.agg (worldC (wz how) 0 1 2 3 4), IV.agg [IV.int IntKind.i64 (0 : Int), IV.int IntKind.u64 h]] (0 : Nat)) ((0 : Int) + h) (wbs ns (10 : Int)))) (preI [IV.int IntKind.i64 t1] [] ∧ br (t1 == t1) (br (t1 != (0 : Int)) (pAwk11 [] [] ∧ K (IV.bool true) []) (br ((↑(dirL (worN [IV.agg (worldC (wz how) 0 1 2 3 4), IV.agg [IV.int IntKind.i64 (0 : Int), IV.int IntKind.u64 h]] (0 : Nat)) ((0 : Int) + h) (wbs ns (10 : Int))).length : Int) == (↑(wbs ns (10 : Int)).length : Int)) (pAwk11 [] [] ∧ K (IV.bool true) []) (K (IV.bool false) []))) (K (IV.bool false) [])) (K (IV.bool false) [])) := by refine nm ?_; refine nm ?_; kernel_rfl
theorem v_DirectAlone (a b c d h : Int) (K : IV → List Blk → Prop) : (comes Try.prog Nf6 3 f_perigeelaw11_DirectAlone [.int .u8 a, .int .u8 b, .int .u8 c, .int .u8 d, .int .u64 h] [] K) = (∀ (t1 : Prop), t1 = ((0 : Int) ≤ (0 : Int) ∧ (0 : Int) < (↑(1 : Nat) : Int)) → ∀ (t2 : Int), t2 = [(1 : Int) + c % (9 : Int), (0 : Int), d % (3 : Int), (4611686018427387904 : Int), a - (128 : Int), b * (72057594037927936 : Int), b - (128 : Int), c * (1099511627776 : Int), d % (7 : Int) - (3 : Int), a, c % (5 : Int) - (2 : Int), d * (1152921504606846976 : Int) % (18446744073709551616 : Int), (0 : Int), d * (1125899906842624 : Int), (0 : Int), a * (1125899906842624 : Int), b % (4 : Int), (0 : Int), (0 : Int), d * (257 : Int)].getD (8 : Nat) (0 : Int) → ∀ (t3 : Int), t3 = [(1 : Int) + c % (9 : Int), (0 : Int), d % (3 : Int), (4611686018427387904 : Int), a - (128 : Int), b * (72057594037927936 : Int), b - (128 : Int), c * (1099511627776 : Int), d % (7 : Int) - (3 : Int), a, c % (5 : Int) - (2 : Int), d * (1152921504606846976 : Int) % (18446744073709551616 : Int), (0 : Int), d * (1125899906842624 : Int), (0 : Int), a * (1125899906842624 : Int), b % (4 : Int), (0 : Int), (0 : Int), d * (257 : Int)].getD (9 : Nat) (0 : Int) → ∀ (t4 : Int), t4 = [(1 : Int) + c % (9 : Int), (0 : Int), d % (3 : Int), (4611686018427387904 : Int), a - (128 : Int), b * (72057594037927936 : Int), b - (128 : Int), c * (1099511627776 : Int), d % (7 : Int) - (3 : Int), a, c % (5 : Int) - (2 : Int), d * (1152921504606846976 : Int) % (18446744073709551616 : Int), (0 : Int), d * (1125899906842624 : Int), (0 : Int), a * (1125899906842624 : Int), b % (4 : Int), (0 : Int), (0 : Int), d * (257 : Int)].getD (10 : Nat) (0 : Int) → ∀ (t5 : Int), t5 = [(1 : Int) + c % (9 : Int), (0 : Int), d % (3 : Int), (4611686018427387904 : Int), a - (128 : Int), b * (72057594037927936 : Int), b - (128 : Int), c * (1099511627776 : Int), d % (7 : Int) - (3 : Int), a, c % (5 : Int) - (2 : Int), d * (1152921504606846976 : Int) % (18446744073709551616 : Int), (0 : Int), d * (1125899906842624 : Int), (0 : Int), a * (1125899906842624 : Int), b % (4 : Int), (0 : Int), (0 : Int), d * (257 : Int)].getD (11 : Nat) (0 : Int) → ∀ (t6 : Int), t6 = rd [[(1 : Int) + c % (9 : Int), (0 : Int), d % (3 : Int), (4611686018427387904 : Int), a - (128 : Int), b * (72057594037927936 : Int), b - (128 : Int), c * (1099511627776 : Int), d % (7 : Int) - (3 : Int), a, c % (5 : Int) - (2 : Int), d * (1152921504606846976 : Int) % (18446744073709551616 : Int), (0 : Int), d * (1125899906842624 : Int), (0 : Int), a * (1125899906842624 : Int), b % (4 : Int), (0 : Int), (0 : Int), d * (257 : Int)]] (0 : Nat) (8 : Nat) → ∀ (t7 : Int), t7 = rd [[(1 : Int) + c % (9 : Int), (0 : Int), d % (3 : Int), (4611686018427387904 : Int), a - (128 : Int), b * (72057594037927936 : Int), b - (128 : Int), c * (1099511627776 : Int), d % (7 : Int) - (3 : Int), a, c % (5 : Int) - (2 : Int), d * (1152921504606846976 : Int) % (18446744073709551616 : Int), (0 : Int), d * (1125899906842624 : Int), (0 : Int), a * (1125899906842624 : Int), b % (4 : Int), (0 : Int), (0 : Int), d * (257 : Int)]] (0 : Nat) (9 : Nat) → ∀ (t8 : Int), t8 = rd [[(1 : Int) + c % (9 : Int), (0 : Int), d % (3 : Int), (4611686018427387904 : Int), a - (128 : Int), b * (72057594037927936 : Int), b - (128 : Int), c * (1099511627776 : Int), d % (7 : Int) - (3 : Int), a, c % (5 : Int) - (2 : Int), d * (1152921504606846976 : Int) % (18446744073709551616 : Int), (0 : Int), d * (1125899906842624 : Int), (0 : Int), a * (1125899906842624 : Int), b % (4 : Int), (0 : Int), (0 : Int), d * (257 : Int)]] (0 : Nat) (10 : Nat) → ∀ (t9 : Int), t9 = rd [[(1 : Int) + c % (9 : Int), (0 : Int), d % (3 : Int), (4611686018427387904 : Int), a - (128 : Int), b * (72057594037927936 : Int), b - (128 : Int), c * (1099511627776 : Int), d % (7 : Int) - (3 : Int), a, c % (5 : Int) - (2 : Int), d * (1152921504606846976 : Int) % (18446744073709551616 : Int), (0 : Int), d * (1125899906842624 : Int), (0 : Int), a * (1125899906842624 : Int), b % (4 : Int), (0 : Int), (0 : Int), d * (257 : Int)]] (0 : Nat) (11 : Nat) → pWorld [IV.sl (0 : Nat), IV.int IntKind.i64 (1 : Int), IV.int IntKind.u8 (0 : Int)] [Blk.ro [IntKind.u8] [[a], [b], [c], [d]]] ∧ pKick [IV.agg [IV.int IntKind.i64 (0 : Int), IV.int IntKind.i64 (0 : Int), IV.int IntKind.u64 (1152921504606846976 : Int), IV.int IntKind.i64 (1 : Int), IV.int IntKind.u64 (0 : Int), IV.int IntKind.i64 (0 : Int), IV.int IntKind.u64 (4611686018427387904 : Int), IV.int IntKind.i64 (0 : Int), IV.int IntKind.u64 (0 : Int), IV.int IntKind.i64 (0 : Int), IV.int IntKind.u64 (0 : Int), IV.int IntKind.i64 (0 : Int), IV.int IntKind.i64 (0 : Int), IV.sl (0 : Nat), IV.sl (1 : Nat), IV.sl (2 : Nat), IV.sl (3 : Nat), IV.int IntKind.i64 (0 : Int), IV.int IntKind.u64 (0 : Int), IV.int IntKind.i64 (0 : Int), IV.int IntKind.u64 (0 : Int), IV.int IntKind.i64 (0 : Int), IV.int IntKind.u64 (0 : Int), IV.sl (4 : Nat)], IV.agg [IV.int IntKind.i64 (0 : Int), IV.int IntKind.u64 h]] [Blk.ro ksB [[(1 : Int) + c % (9 : Int), (0 : Int), d % (3 : Int), (4611686018427387904 : Int), a - (128 : Int), b * (72057594037927936 : Int), b - (128 : Int), c * (1099511627776 : Int), d % (7 : Int) - (3 : Int), a, c % (5 : Int) - (2 : Int), d * (1152921504606846976 : Int) % (18446744073709551616 : Int), (0 : Int), d * (1125899906842624 : Int), (0 : Int), a * (1125899906842624 : Int), b % (4 : Int), (0 : Int), (0 : Int), d * (257 : Int)]], Blk.ro ksT [], Blk.ro ksR [], Blk.ro [IntKind.i64] [[(-1 : Int)]], Blk.ro ksE []] ∧ pWorld [IV.sl (0 : Nat), IV.int IntKind.i64 (0 : Int), IV.int IntKind.u8 (0 : Int)] [Blk.ro [IntKind.u8] []] ∧ pKick [IV.agg [IV.int IntKind.i64 (0 : Int), IV.int IntKind.i64 (0 : Int), IV.int IntKind.u64 (1152921504606846976 : Int), IV.int IntKind.i64 (1 : Int), IV.int IntKind.u64 (0 : Int), IV.int IntKind.i64 (0 : Int), IV.int IntKind.u64 (4611686018427387904 : Int), IV.int IntKind.i64 (0 : Int), IV.int IntKind.u64 (0 : Int), IV.int IntKind.i64 (0 : Int), IV.int IntKind.u64 (0 : Int), IV.int IntKind.i64 (0 : Int), IV.int IntKind.i64 (0 : Int), IV.sl (0 : Nat), IV.sl (1 : Nat), IV.sl (2 : Nat), IV.sl (3 : Nat), IV.int IntKind.i64 (0 : Int), IV.int IntKind.u64 (0 : Int), IV.int IntKind.i64 (0 : Int), IV.int IntKind.u64 (0 : Int), IV.int IntKind.i64 (0 : Int), IV.int IntKind.u64 (0 : Int), IV.sl (4 : Nat)], IV.agg [IV.int IntKind.i64 (0 : Int), IV.int IntKind.u64 h]] [Blk.ro ksB [], Blk.ro ksT [], Blk.ro ksR [], Blk.ro [IntKind.i64] [], Blk.ro ksE []] ∧ preI [IV.int IntKind.i64 (dirE (worN [IV.agg [IV.int IntKind.i64 (0 : Int), IV.int IntKind.i64 (0 : Int), IV.int IntKind.u64 (1152921504606846976 : Int), IV.int IntKind.i64 (1 : Int), IV.int IntKind.u64 (0 : Int), IV.int IntKind.i64 (0 : Int), IV.int IntKind.u64 (4611686018427387904 : Int), IV.int IntKind.i64 (0 : Int), IV.int IntKind.u64 (0 : Int), IV.int IntKind.i64 (0 : Int), IV.int IntKind.u64 (0 : Int), IV.int IntKind.i64 (0 : Int), IV.int IntKind.i64 (0 : Int), IV.sl (0 : Nat), IV.sl (1 : Nat), IV.sl (2 : Nat), IV.sl (3 : Nat), IV.int IntKind.i64 (0 : Int), IV.int IntKind.u64 (0 : Int), IV.int IntKind.i64 (0 : Int), IV.int IntKind.u64 (0 : Int), IV.int IntKind.i64 (0 : Int), IV.int IntKind.u64 (0 : Int), IV.sl (4 : Nat)], IV.agg [IV.int IntKind.i64 (0 : Int), IV.int IntKind.u64 h]] (0 : Nat)) ((0 : Int) + h) [[(1 : Int) + c % (9 : Int), (0 : Int), d % (3 : Int), (4611686018427387904 : Int), a - (128 : Int), b * (72057594037927936 : Int), b - (128 : Int), c * (1099511627776 : Int), d % (7 : Int) - (3 : Int), a, c % (5 : Int) - (2 : Int), d * (1152921504606846976 : Int) % (18446744073709551616 : Int), (0 : Int), d * (1125899906842624 : Int), (0 : Int), a * (1125899906842624 : Int), b % (4 : Int), (0 : Int), (0 : Int), d * (257 : Int)]])] [] ∧ preI [IV.int IntKind.i64 (dirE (worN [IV.agg [IV.int IntKind.i64 (0 : Int), IV.int IntKind.i64 (0 : Int), IV.int IntKind.u64 (1152921504606846976 : Int), IV.int IntKind.i64 (1 : Int), IV.int IntKind.u64 (0 : Int), IV.int IntKind.i64 (0 : Int), IV.int IntKind.u64 (4611686018427387904 : Int), IV.int IntKind.i64 (0 : Int), IV.int IntKind.u64 (0 : Int), IV.int IntKind.i64 (0 : Int), IV.int IntKind.u64 (0 : Int), IV.int IntKind.i64 (0 : Int), IV.int IntKind.i64 (0 : Int), IV.sl (0 : Nat), IV.sl (1 : Nat), IV.sl (2 : Nat), IV.sl (3 : Nat), IV.int IntKind.i64 (0 : Int), IV.int IntKind.u64 (0 : Int), IV.int IntKind.i64 (0 : Int), IV.int IntKind.u64 (0 : Int), IV.int IntKind.i64 (0 : Int), IV.int IntKind.u64 (0 : Int), IV.sl (4 : Nat)], IV.agg [IV.int IntKind.i64 (0 : Int), IV.int IntKind.u64 h]] (0 : Nat)) ((0 : Int) + h) [])] [] ∧ t1 ∧ t1 ∧ t1 ∧ t1 ∧ br (decide (t2 = t6) && (decide (t3 = t7) && (decide (t4 = t8) && (decide (t5 = t9) && true)))) (pAwk11 [] [] ∧ K (IV.bool true) []) (K (IV.bool false) [])) := by refine nm ?_; refine nm ?_; refine nm ?_; refine nm ?_; refine nm ?_; refine nm ?_; refine nm ?_; refine nm ?_; refine nm ?_; kernel_rfl
end Go.Vs.RF


set_option linter.unusedVariables false
set_option linter.unusedSimpArgs false
set_option maxRecDepth 100000
/- the laws of direct: by numbers, alone -/
namespace Go.Vs.RF
open Go Go.Proofs Go.Vs Go.IntWalk

theorem wz_may {how : Int} (h : u8ok how) : mayZ (wz how) := by
  unfold u8ok at h
  have I : ∀ {n : Int}, -9223372036854775808 ≤ n → n ≤ 9223372036854775807 → inK .i64 n := fun h1 h2 => ⟨h1, h2⟩
  have U : ∀ {n : Int}, 0 ≤ n → n ≤ 18446744073709551615 → inK .u64 n := fun h1 h2 => ⟨h1, h2⟩
  refine ⟨⟨rfl, ?_⟩, ?_, ?_⟩
  · intro j hj
    rcases j with _|_|_|_|_|_|_|_|_|_|_|_|_|_|_|_|_|_|_|j
    · show inK .i64 0; exact I (by omega) (by omega)
    · show inK .i64 0; exact I (by omega) (by omega)
    · show inK .u64 1152921504606846976; exact U (by omega) (by omega)
    · show inK .i64 (1 + how % 3); exact I (by omega) (by omega)
    · show inK .u64 0; exact U (by omega) (by omega)
    · show inK .i64 0; exact I (by omega) (by omega)
    · show inK .u64 4611686018427387904; exact U (by omega) (by omega)
    · show inK .i64 0; exact I (by omega) (by omega)
    · show inK .u64 (how * 72057594037927936); exact U (by omega) (by omega)
    · show inK .i64 0; exact I (by omega) (by omega)
    · show inK .u64 (how % 4 * 4611686018427387904); exact U (by omega) (by omega)
    · show inK .i64 (how / 4 % 2); exact I (by omega) (by omega)
    · show inK .i64 (how / 8 % 2); exact I (by omega) (by omega)
    · show inK .i64 0; exact I (by omega) (by omega)
    · show inK .u64 0; exact U (by omega) (by omega)
    · show inK .i64 0; exact I (by omega) (by omega)
    · show inK .u64 0; exact U (by omega) (by omega)
    · show inK .i64 0; exact I (by omega) (by omega)
    · show inK .u64 0; exact U (by omega) (by omega)
    · omega
  · show mayF ((1 + how % 3) * 18446744073709551616 + 0); exact ⟨by omega, by omega⟩
  · show mayF (0 * 18446744073709551616 + 4611686018427387904); exact ⟨by decide, by decide⟩
theorem wbs_good {ns : List (List Int)} (h : okRows [.u8] ns) (m : Int) : goodBs (wbs ns m) := fun r hr => madeB_good (bodies_madeB h _ r hr)
theorem hour_may {h : Int} (k : u64ok h) : mayF h := by unfold u64ok at k; exact ⟨by omega, by omega⟩
theorem hour_fx {h : Int} (k : u64ok h) : IV.agg [.int .i64 0, .int .u64 h] = fx h := (fx_mk2 k (by omega)).symm
theorem gvE_is (z : List Int) (h : Int) (r : List Int) (m ax ay : Int) : i64ok (gvE z h r m ax ay) := by
  unfold gvE; split
  · exact e2_is _ _
  · exact plE_is _ _ _ _ _ _ _
theorem prE_is (z : List Int) (h : Int) (r s : List Int) (px py qx qy : Int) : i64ok (prE z h r s px py qx qy) := by
  unfold prE; split
  · exact gvE_is _ _ _ _ _ _
  · split
    · exact e2_is _ _
    · exact e2_is _ _
theorem dIn_is (z : List Int) (h : Int) (xs : List (List Int)) (i : Nat) : ∀ (m j : Nat) (ps : List (List Int)), i64ok (dIn z h xs i m j ps).2
  | 0, j, ps => ⟨by show (-9223372036854775808 : Int) ≤ 0; decide, by show (0 : Int) < 9223372036854775808; decide⟩
  | m + 1, j, ps => by
    unfold dIn; split
    · exact prE_is _ _ _ _ _ _ _ _
    · exact dIn_is z h xs i m (j + 1) _
theorem dOut_is (z : List Int) (h : Int) (xs : List (List Int)) : ∀ (m i : Nat) (ps : List (List Int)), i64ok (dOut z h xs m i ps).2
  | 0, i, ps => ⟨by show (-9223372036854775808 : Int) ≤ 0; decide, by show (0 : Int) < 9223372036854775808; decide⟩
  | m + 1, i, ps => by
    unfold dOut; split
    · exact dIn_is _ _ _ _ _ _ _
    · exact dOut_is z h xs m (i + 1) _
theorem dirE_is (z : List Int) (h : Int) (xs : List (List Int)) : i64ok (dirE z h xs) := dOut_is _ _ _ _ _ _
theorem dirL_ok {z : List Int} {h : Int} {xs : List (List Int)} (hg : goodBs xs) (he : dirE z h xs = 0) : allV (dirL z h xs) ∧ (dirL z h xs).length = xs.length :=
  dOut_ok z h xs xs.length 0 _ (by omega) (mom_all hg) (List.length_map _) he
theorem dirL_err {z : List Int} {h : Int} {xs : List (List Int)} (he : dirE z h xs ≠ 0) : dirL z h xs = [] := dOut_err z h xs _ _ _ he
theorem dirL_four {z : List Int} {h : Int} {xs : List (List Int)} (hg : goodBs xs) : ∀ r ∈ dirL z h xs, r.length = 4 := by
  intro r hr
  by_cases he : dirE z h xs = 0
  · obtain ⟨x, y, rfl, _, _⟩ := (dirL_ok hg he).1 r hr; rfl
  · rw [dirL_err he] at hr; cases hr
theorem dirL_le {z : List Int} {h : Int} {xs : List (List Int)} (hg : goodBs xs) : (dirL z h xs).length ≤ xs.length := by
  by_cases he : dirE z h xs = 0
  · rw [(dirL_ok hg he).2]; omega
  · rw [dirL_err he]; simp
theorem okr_b {l : List Int} (h : ∀ n ∈ l, u8ok n) : okRows [.u8] (l.map fun n => [n]) := by
  intro r hr j hj
  rw [List.mem_map] at hr
  obtain ⟨n, hn, rfl⟩ := hr
  have := h n hn
  unfold u8ok at this
  have hj0 : j = 0 := by simp at hj; exact hj
  subst hj0
  exact ⟨this.1, by show n ≤ 255; omega⟩
theorem wa_eq : wa = wbs ([128, 128, 1, 2, 130, 128, 1, 2].map fun n => [n]) 2 := rfl
theorem wa_good : goodBs wa := by
  rw [wa_eq]
  exact wbs_good (okr_b (by intro n hn; simp at hn; unfold u8ok; omega)) 2
theorem c_awake11 : Contract Try.prog f_perigeelaw11_awake spAwk11 := by
  refine contract_of (N := Nf5) 3 (knowOf (fun g sp h => ctrsf5 h) (fun _ _ => rfl) (fun _ => rfl) 3) ?_
  rintro l bs _ _ ⟨rfl, rfl⟩
  show comes _ _ _ _ _ _ _
  rw [v_awake11]
  obtain ⟨w1, w2, w3, w4⟩ := wake_dir
  rintro t1 e1 t2 e2 t3 e3 t4 e4 t5 e5 t6 e6 t7 e7 t8 e8
  have e2' : t2 = 0 := e2.trans w1
  have e3' : t3 = 2 := e3.trans (by show ((dirL (wz 0) 18446744073709551616 wa).length : Int) = 2; rw [w2]; rfl)
  have e5' : t5 = 18022691487252623688 := e5.trans w4
  have p1 : t1 := by rw [e1]; decide
  have p8 : t8 := by rw [e8, e3']; decide
  refine ⟨⟨_, 2, 0, rfl, rfl, ⟨by decide, by decide⟩, ⟨by decide, by decide⟩⟩, preI_of ⟨by decide, by decide⟩, ⟨wz 0, wa, [], [], [[-1], [-1]], [], 18446744073709551616, rfl, rfl, wz_may ⟨by decide, by decide⟩, wa_good, may_one, by decide⟩, preI_of (by rw [e2']; exact ⟨by decide, by decide⟩), ?_⟩
  refine br_is (by rw [e2']; rfl) (br_is (by rw [e3']; rfl) ⟨p8, p8, p1, p1, ?_⟩)
  rw [e5', decide_eq_false (show ¬ (18022691487252623688 : Int) = 128 by decide)]
  simp
  rfl
theorem ctrsf6 : ∀ {g : FuncId} {sp : Vs.Spec}, Γf6 g = some sp → Contract Try.prog g sp := ext_ok c_awake11 (ext_ok c_r_Pull ctrsf5)
theorem knowf6 : KnowOk Try.prog Nf6 3 := knowOf (fun g sp h => ctrsf6 h) (fun _ _ => rfl) (fun _ => rfl) 3
def pDMade (l : List IV) (bs : List Blk) : Prop := ∃ ns how h, l = [.sl 0, .int .u8 how, .int .u64 h] ∧ bs = [.ro [.u8] ns] ∧ u8ok how ∧ u64ok h
noncomputable def spDMade : Vs.Spec := ⟨pDMade, fun _ _ => (.bool true, [])⟩
theorem pAwk_ok : pAwk11 [] [] := ⟨rfl, rfl⟩
theorem c_DirectMade : Contract Try.prog f_perigeelaw11_DirectMade spDMade := by
  refine contract_of (N := Nf6) 3 knowf6 ?_
  rintro l bs _ hB ⟨ns, how, h, rfl, rfl, hh, hu⟩
  have hb : okRows [.u8] ns ∧ 0 < [IntKind.u8].length ∧ ns.length ≤ maxLen := hB (.ro [.u8] ns) (List.mem_singleton.2 rfl)
  show comes _ _ _ _ _ _ _
  rw [v_DirectMade]
  have hw : ∀ v, worN [IV.agg (worldC (wz how) 0 1 2 3 4), v] 0 = wz how := fun v => worN_of _ (wz how) 0 1 2 3 4 rfl rfl
  rw [hw, hour_fx hu, Int.zero_add]
  rintro t1 e1 t2 e2
  have hg := wbs_good hb.1 10
  have hl := (wbs_len (ns := ns) (m := 10) ⟨by decide, by decide⟩).1
  have p2 : t2 := by rw [e2]; exact ⟨wz how, wbs ns 10, [], [], neg1 (wbs ns 10).length, [], h, rfl, rfl, wz_may hh, hg, hour_may hu, hl⟩
  have i1 : i64ok t1 := by rw [e1]; exact dirE_is _ _ _
  refine ⟨⟨ns, 10, how, rfl, rfl, ⟨by decide, by decide⟩, hh⟩, p2, p2, ⟨_, _, rfl, rfl, by have := dirL_le (z := wz how) (h := h) hg; omega, dirL_four hg, dirL_four hg⟩, ?_⟩
  rw [bp_true rfl]
  refine ⟨preI_of i1, br_is (by simp) ?_⟩
  rw [br_bne]
  refine ⟨fun _ => ⟨pAwk_ok, rfl⟩, fun h0 => br_is ?_ ⟨pAwk_ok, rfl⟩⟩
  rw [(dirL_ok hg (e1.symm.trans h0)).2]
  simp
def pDAlone (l : List IV) (bs : List Blk) : Prop := ∃ a b c d h, l = [.int .u8 a, .int .u8 b, .int .u8 c, .int .u8 d, .int .u64 h] ∧ bs = [] ∧ u8ok a ∧ u8ok b ∧ u8ok c ∧ u8ok d ∧ u64ok h
noncomputable def spDAlone : Vs.Spec := ⟨pDAlone, fun _ _ => (.bool true, [])⟩
theorem c_DirectAlone : Contract Try.prog f_perigeelaw11_DirectAlone spDAlone := by
  refine contract_of (N := Nf6) 3 knowf6 ?_
  rintro l bs _ hB ⟨a, b, c, d, h, rfl, rfl, ha, hb, hc, hd, hu⟩
  show comes _ _ _ _ _ _ _
  rw [v_DirectAlone]
  rintro t1 e1 t2 e2 t3 e3 t4 e4 t5 e5 t6 e6 t7 e7 t8 e8 t9 e9
  have p1 : t1 := by rw [e1]; decide
  have h26 : t2 = t6 := e2.trans e6.symm
  have h37 : t3 = t7 := e3.trans e7.symm
  have h48 : t4 = t8 := e4.trans e8.symm
  have h59 : t5 = t9 := e5.trans e9.symm
  rw [hour_fx hu]
  have hz : mayZ (wz 0) := wz_may ⟨by decide, by decide⟩
  have hg : goodBs [bodyL a b c d] := by intro r hr; rw [List.mem_singleton.1 hr]; exact madeB_good ⟨a, b, c, d, ha, hb, hc, hd, rfl⟩
  refine ⟨⟨_, 1, 0, rfl, rfl, ⟨by decide, by decide⟩, ⟨by decide, by decide⟩⟩, ⟨wz 0, [bodyL a b c d], [], [], [[-1]], [], h, rfl, rfl, hz, hg, hour_may hu, by simp⟩, ⟨_, 0, 0, rfl, rfl, ⟨by decide, by decide⟩, ⟨by decide, by decide⟩⟩, ⟨wz 0, [], [], [], [], [], h, rfl, rfl, hz, (fun r hr => by cases hr), hour_may hu, by decide⟩, preI_of (dirE_is _ _ _), preI_of (dirE_is _ _ _), p1, p1, p1, p1, ?_⟩
  rw [h26, h37, h48, h59]
  refine br_is (by simp) ⟨pAwk_ok, rfl⟩
theorem lawDM_of (ns : List (List Int)) {how h : Int} (k1 : inK .u8 how) (k2 : inK .u64 h) : pDMade [.sl 0, .int .u8 how, .int .u64 h] [.ro [.u8] ns] := by
  have h1 : 0 ≤ how ∧ how ≤ 255 := k1
  have h2 : 0 ≤ h ∧ h ≤ 18446744073709551615 := k2
  exact ⟨ns, how, h, rfl, rfl, ⟨h1.1, by omega⟩, ⟨h2.1, by omega⟩⟩
theorem lawDA_of {a b c d h : Int} (ka : inK .u8 a) (kb : inK .u8 b) (kc : inK .u8 c) (kd : inK .u8 d) (kh : inK .u64 h) : pDAlone [.int .u8 a, .int .u8 b, .int .u8 c, .int .u8 d, .int .u64 h] [] := by
  have h1 : 0 ≤ a ∧ a ≤ 255 := ka
  have h2 : 0 ≤ b ∧ b ≤ 255 := kb
  have h3 : 0 ≤ c ∧ c ≤ 255 := kc
  have h4 : 0 ≤ d ∧ d ≤ 255 := kd
  have h5 : 0 ≤ h ∧ h ≤ 18446744073709551615 := kh
  exact ⟨a, b, c, d, h, rfl, rfl, ⟨h1.1, by omega⟩, ⟨h2.1, by omega⟩, ⟨h3.1, by omega⟩, ⟨h4.1, by omega⟩, ⟨h5.1, by omega⟩⟩
end Go.Vs.RF
