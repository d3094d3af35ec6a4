import Derived.Test.YtoccmfelheinhaaR3EB
import Derived.Test.YtoccmfelheinhaaR3EC
set_option linter.unusedVariables false
/- the laws of mass's centre -/
namespace Go.Vs.RF
open Go Go.Proofs Go.Vs
def pNil (l : List IV) (bs : List Blk) : Prop := l = [] ∧ bs = []
noncomputable def spAwk9 : Vs.Spec := ⟨pNil, fun _ _ => (.bool true, [])⟩
noncomputable def Γw2 : FuncId → Option Vs.Spec := fun g => if g = f_mass_Centre then some spCen else if g = f_perigeelaw9_Bodies then some spBodies else Γw1 g
noncomputable def Nw2 : Know := ⟨Γw2, fun _ _ => none, fun _ => none⟩
theorem v_awake9 (K : IV → List Blk → Prop) : (comes Try.prog Nw2 3 f_perigeelaw9_awake [] [] K) = (∀ (t1 : Prop), t1 = preI [IV.int IntKind.i64 (1 : Int)] [] → ∀ (t2 : Prop), t2 = preI [IV.int IntKind.i64 (3 : Int)] [] → t1 ∧ t2 ∧ pBs [IV.sl (0 : Nat)] [Blk.ro ksB [[(1 : Int), (0 : Int), (0 : Int), (0 : Int), (3 : Int), (0 : Int), (0 : Int), (0 : Int), (0 : Int), (0 : Int), (0 : Int), (0 : Int), (0 : Int), (0 : Int), (0 : Int), (0 : Int), (0 : Int), (0 : Int), (0 : Int), (0 : Int)]]] ∧ preI [IV.int IntKind.i64 (0 : Int)] [] ∧ t1 ∧ t2 ∧ K (IV.bool true) []) := by refine nm ?_; refine nm ?_; kernel_rfl
noncomputable def Γw3 : FuncId → Option Vs.Spec := fun g => if g = f_perigeelaw9_awake then some spAwk9 else Γw2 g
noncomputable def Nw3 : Know := ⟨Γw3, fun _ _ => none, fun _ => none⟩
def bodyW (m x y : Int) : List Int := [m, 0, 0, 0, x, 0, y, 0, 0, 0, 0, 0, 0, 0, 0, 0, 0, 0, 0, 0]
theorem v_MassWhole (m a b c d : Int) (K : IV → List Blk → Prop) : (comes Try.prog Nw3 3 f_perigeelaw9_MassWhole [.int .u8 m, .int .i16 a, .int .i16 b, .int .i16 c, .int .i16 d] [] K) = (∀ (t1 : Int), t1 = mx IntKind.i64 (IntKind.i64.wrap (IntKind.i64.wrap a + IntKind.i64.wrap c)) (-9223372036854775807 : Int) * (18446744073709551616 : Int) → ∀ (j2 : Int), j2 = t1 → ∀ (t3 : Int), t3 = mx IntKind.i64 (IntKind.i64.wrap (IntKind.i64.wrap b + IntKind.i64.wrap d)) (-9223372036854775807 : Int) * (18446744073709551616 : Int) → ∀ (j4 : Int), j4 = t3 → ∀ (t5 : Int), t5 = mx IntKind.i64 (IntKind.i64.wrap ((1 : Int) + IntKind.i64.wrap m)) (-9223372036854775807 : Int) * (18446744073709551616 : Int) → ∀ (j6 : Int), j6 = t5 → ∀ (t7 : Int), t7 = halfI j2 → ∀ (t8 : Int), t8 = halfI j4 → ∀ (t9 : Int), t9 = numF (j6 + j6) → ∀ (t10 : Int), t10 = mx IntKind.i64 (IntKind.i64.wrap a) (-9223372036854775807 : Int) * (18446744073709551616 : Int) → ∀ (t11 : Int), t11 = mx IntKind.i64 (IntKind.i64.wrap b) (-9223372036854775807 : Int) * (18446744073709551616 : Int) → ∀ (t12 : Int), t12 = mx IntKind.i64 (IntKind.i64.wrap c) (-9223372036854775807 : Int) * (18446744073709551616 : Int) → ∀ (t13 : Int), t13 = mx IntKind.i64 (IntKind.i64.wrap d) (-9223372036854775807 : Int) * (18446744073709551616 : Int) → ∀ (t14 : Int), t14 = cE ((List.replicate (1 : Nat) (List.replicate (20 : Nat) (0 : Int))).set (0 : Nat) [(0 : Int), (0 : Int), (0 : Int), (0 : Int), (0 : Int), (0 : Int), (0 : Int), (0 : Int), (0 : Int), (0 : Int), (0 : Int), (0 : Int), t11 % (18446744073709551616 : Int), t11 / (18446744073709551616 : Int), t10 % (18446744073709551616 : Int), t10 / (18446744073709551616 : Int), (0 : Int), (0 : Int), t5 % (18446744073709551616 : Int), t5 / (18446744073709551616 : Int)].reverse) → ∀ (t15 : Int), t15 = cM ((List.replicate (1 : Nat) (List.replicate (20 : Nat) (0 : Int))).set (0 : Nat) [(0 : Int), (0 : Int), (0 : Int), (0 : Int), (0 : Int), (0 : Int), (0 : Int), (0 : Int), (0 : Int), (0 : Int), (0 : Int), (0 : Int), t11 % (18446744073709551616 : Int), t11 / (18446744073709551616 : Int), t10 % (18446744073709551616 : Int), t10 / (18446744073709551616 : Int), (0 : Int), (0 : Int), t5 % (18446744073709551616 : Int), t5 / (18446744073709551616 : Int)].reverse) → ∀ (t16 : Int), t16 = cX ((List.replicate (1 : Nat) (List.replicate (20 : Nat) (0 : Int))).set (0 : Nat) [(0 : Int), (0 : Int), (0 : Int), (0 : Int), (0 : Int), (0 : Int), (0 : Int), (0 : Int), (0 : Int), (0 : Int), (0 : Int), (0 : Int), t11 % (18446744073709551616 : Int), t11 / (18446744073709551616 : Int), t10 % (18446744073709551616 : Int), t10 / (18446744073709551616 : Int), (0 : Int), (0 : Int), t5 % (18446744073709551616 : Int), t5 / (18446744073709551616 : Int)].reverse) → ∀ (t17 : Int), t17 = cY ((List.replicate (1 : Nat) (List.replicate (20 : Nat) (0 : Int))).set (0 : Nat) [(0 : Int), (0 : Int), (0 : Int), (0 : Int), (0 : Int), (0 : Int), (0 : Int), (0 : Int), (0 : Int), (0 : Int), (0 : Int), (0 : Int), t11 % (18446744073709551616 : Int), t11 / (18446744073709551616 : Int), t10 % (18446744073709551616 : Int), t10 / (18446744073709551616 : Int), (0 : Int), (0 : Int), t5 % (18446744073709551616 : Int), t5 / (18446744073709551616 : Int)].reverse) → ∀ (t18 : Int), t18 = cE (((List.replicate (2 : Nat) (List.replicate (20 : Nat) (0 : Int))).set (0 : Nat) [(0 : Int), (0 : Int), (0 : Int), (0 : Int), (0 : Int), (0 : Int), (0 : Int), (0 : Int), (0 : Int), (0 : Int), (0 : Int), (0 : Int), t11 % (18446744073709551616 : Int), t11 / (18446744073709551616 : Int), t10 % (18446744073709551616 : Int), t10 / (18446744073709551616 : Int), (0 : Int), (0 : Int), t5 % (18446744073709551616 : Int), t5 / (18446744073709551616 : Int)].reverse).set (1 : Nat) [(0 : Int), (0 : Int), (0 : Int), (0 : Int), (0 : Int), (0 : Int), (0 : Int), (0 : Int), (0 : Int), (0 : Int), (0 : Int), (0 : Int), t13 % (18446744073709551616 : Int), t13 / (18446744073709551616 : Int), t12 % (18446744073709551616 : Int), t12 / (18446744073709551616 : Int), (0 : Int), (0 : Int), t5 % (18446744073709551616 : Int), t5 / (18446744073709551616 : Int)].reverse) → ∀ (t19 : Int), t19 = cM (((List.replicate (2 : Nat) (List.replicate (20 : Nat) (0 : Int))).set (0 : Nat) [(0 : Int), (0 : Int), (0 : Int), (0 : Int), (0 : Int), (0 : Int), (0 : Int), (0 : Int), (0 : Int), (0 : Int), (0 : Int), (0 : Int), t11 % (18446744073709551616 : Int), t11 / (18446744073709551616 : Int), t10 % (18446744073709551616 : Int), t10 / (18446744073709551616 : Int), (0 : Int), (0 : Int), t5 % (18446744073709551616 : Int), t5 / (18446744073709551616 : Int)].reverse).set (1 : Nat) [(0 : Int), (0 : Int), (0 : Int), (0 : Int), (0 : Int), (0 : Int), (0 : Int), (0 : Int), (0 : Int), (0 : Int), (0 : Int), (0 : Int), t13 % (18446744073709551616 : Int), t13 / (18446744073709551616 : Int), t12 % (18446744073709551616 : Int), t12 / (18446744073709551616 : Int), (0 : Int), (0 : Int), t5 % (18446744073709551616 : Int), t5 / (18446744073709551616 : Int)].reverse) → ∀ (t20 : Int), t20 = cX (((List.replicate (2 : Nat) (List.replicate (20 : Nat) (0 : Int))).set (0 : Nat) [(0 : Int), (0 : Int), (0 : Int), (0 : Int), (0 : Int), (0 : Int), (0 : Int), (0 : Int), (0 : Int), (0 : Int), (0 : Int), (0 : Int), t11 % (18446744073709551616 : Int), t11 / (18446744073709551616 : Int), t10 % (18446744073709551616 : Int), t10 / (18446744073709551616 : Int), (0 : Int), (0 : Int), t5 % (18446744073709551616 : Int), t5 / (18446744073709551616 : Int)].reverse).set (1 : Nat) [(0 : Int), (0 : Int), (0 : Int), (0 : Int), (0 : Int), (0 : Int), (0 : Int), (0 : Int), (0 : Int), (0 : Int), (0 : Int), (0 : Int), t13 % (18446744073709551616 : Int), t13 / (18446744073709551616 : Int), t12 % (18446744073709551616 : Int), t12 / (18446744073709551616 : Int), (0 : Int), (0 : Int), t5 % (18446744073709551616 : Int), t5 / (18446744073709551616 : Int)].reverse) → ∀ (t21 : Int), t21 = cY (((List.replicate (2 : Nat) (List.replicate (20 : Nat) (0 : Int))).set (0 : Nat) [(0 : Int), (0 : Int), (0 : Int), (0 : Int), (0 : Int), (0 : Int), (0 : Int), (0 : Int), (0 : Int), (0 : Int), (0 : Int), (0 : Int), t11 % (18446744073709551616 : Int), t11 / (18446744073709551616 : Int), t10 % (18446744073709551616 : Int), t10 / (18446744073709551616 : Int), (0 : Int), (0 : Int), t5 % (18446744073709551616 : Int), t5 / (18446744073709551616 : Int)].reverse).set (1 : Nat) [(0 : Int), (0 : Int), (0 : Int), (0 : Int), (0 : Int), (0 : Int), (0 : Int), (0 : Int), (0 : Int), (0 : Int), (0 : Int), (0 : Int), t13 % (18446744073709551616 : Int), t13 / (18446744073709551616 : Int), t12 % (18446744073709551616 : Int), t12 / (18446744073709551616 : Int), (0 : Int), (0 : Int), t5 % (18446744073709551616 : Int), t5 / (18446744073709551616 : Int)].reverse) → ∀ (b22 : Bool), b22 = decide (t19 = t9) → ∀ (b23 : Bool), b23 = decide (t21 = t8) → ∀ (d24 : Bool), d24 = (decide (t20 = t7) && b23) → ∀ (b25 : Bool), b25 = decide (t15 = t5) → ∀ (b26 : Bool), b26 = decide (t17 = t11) → ∀ (d27 : Bool), d27 = (decide (t16 = t10) && b26) → preI [IV.int IntKind.i64 (IntKind.i64.wrap ((1 : Int) + IntKind.i64.wrap m))] [] ∧ preI [IV.int IntKind.i64 (IntKind.i64.wrap a)] [] ∧ preI [IV.int IntKind.i64 (IntKind.i64.wrap b)] [] ∧ preI [IV.int IntKind.i64 (IntKind.i64.wrap c)] [] ∧ preI [IV.int IntKind.i64 (IntKind.i64.wrap d)] [] ∧ pBs [IV.sl (0 : Nat)] [Blk.ro ksB [[t5 / (18446744073709551616 : Int), t5 % (18446744073709551616 : Int), (0 : Int), (0 : Int), t10 / (18446744073709551616 : Int), t10 % (18446744073709551616 : Int), t11 / (18446744073709551616 : Int), t11 % (18446744073709551616 : Int), (0 : Int), (0 : Int), (0 : Int), (0 : Int), (0 : Int), (0 : Int), (0 : Int), (0 : Int), (0 : Int), (0 : Int), (0 : Int), (0 : Int)], [t5 / (18446744073709551616 : Int), t5 % (18446744073709551616 : Int), (0 : Int), (0 : Int), t12 / (18446744073709551616 : Int), t12 % (18446744073709551616 : Int), t13 / (18446744073709551616 : Int), t13 % (18446744073709551616 : Int), (0 : Int), (0 : Int), (0 : Int), (0 : Int), (0 : Int), (0 : Int), (0 : Int), (0 : Int), (0 : Int), (0 : Int), (0 : Int), (0 : Int)]]] ∧ pBs [IV.sl (0 : Nat)] [Blk.ro ksB [[t5 / (18446744073709551616 : Int), t5 % (18446744073709551616 : Int), (0 : Int), (0 : Int), t10 / (18446744073709551616 : Int), t10 % (18446744073709551616 : Int), t11 / (18446744073709551616 : Int), t11 % (18446744073709551616 : Int), (0 : Int), (0 : Int), (0 : Int), (0 : Int), (0 : Int), (0 : Int), (0 : Int), (0 : Int), (0 : Int), (0 : Int), (0 : Int), (0 : Int)]]] ∧ pBs [IV.sl (0 : Nat)] [Blk.ro ksB []] ∧ preI [IV.int IntKind.i64 (IntKind.i64.wrap (IntKind.i64.wrap a + IntKind.i64.wrap c))] [] ∧ may1 [fx t1] [] ∧ preI [IV.int IntKind.i64 (IntKind.i64.wrap (IntKind.i64.wrap b + IntKind.i64.wrap d))] [] ∧ may1 [fx t3] [] ∧ preI [IV.int IntKind.i64 t18] [] ∧ preI [IV.int IntKind.i64 t14] [] ∧ br (IntKind.i64.wrap (t18 + t14) == (0 : Int)) (preI [IV.int IntKind.i64 (1 : Int)] [] ∧ may2 [fx t5, fx t5] [] ∧ br b22 (br d24 (br b25 (br d27 (pNil [] [] ∧ K (IV.bool true) []) (K (IV.bool false) [])) (K (IV.bool false) [])) (K (IV.bool false) [])) (K (IV.bool false) [])) (K (IV.bool false) [])) := by refine nm ?_; refine nj ?_; refine nm ?_; refine nj ?_; refine nm ?_; refine nj ?_; refine nm ?_; refine nm ?_; refine nm ?_; refine nm ?_; refine nm ?_; refine nm ?_; refine nm ?_; refine nm ?_; refine nm ?_; refine nm ?_; refine nm ?_; refine nm ?_; refine nm ?_; refine nm ?_; refine nm ?_; refine nb ?_; refine nb ?_; refine nbr ?_; refine nb ?_; refine nb ?_; refine nbr ?_; kernel_rfl
def SNb (ns xs zs : List (List Int)) (i : Int) : St := ⟨T 136 [(3, .sl 1), (4, .sl 2), (5, .int .i64 i)], [some (.ro [.u8] ns), some (.row 32 ksB xs), some (.row 32 ksB zs)]⟩
theorem rNearBack (Λ : FuncId → Nat → Option LoopS) (d : Nat) (ns xs zs : List (List Int)) (i : Int) (k : Out → St → Prop) : (round (envOf Try.prog ⟨Γw3, Λ, fun _ => none⟩ d) f_perigeelaw9_MassNear 1 0 (lp Try.prog f_perigeelaw9_MassNear 0) (SNb ns xs zs i) k) = (∀ (t1 : Prop), t1 = ((0 : Int) ≤ i ∧ i < (↑xs.length : Int)) → br (decide (i ≥ (0 : Int))) (t1 ∧ t1 ∧ (zs.length + (1 : Nat)) * (160 : Nat) ≤ (140737488355328 : Nat) ∧ k Out.normal (St.mk (T (136 : Nat) [((3 : Nat), IV.sl (1 : Nat)), ((4 : Nat), IV.sl (2 : Nat)), ((5 : Nat), IV.int IntKind.i64 (IntKind.i64.wrap (i - (1 : Int))))]) [some (Blk.ro [IntKind.u8] ns), some (Blk.row (32 : Nat) ksB xs), some (Blk.row (32 : Nat) ksB (zs ++ (List.replicate (1 : Nat) (List.replicate (20 : Nat) (0 : Int))).set (0 : Nat) [rd xs i.toNat (19 : Nat), rd xs i.toNat (18 : Nat), rd xs i.toNat (17 : Nat), rd xs i.toNat (16 : Nat), rd xs i.toNat (15 : Nat), rd xs i.toNat (14 : Nat), rd xs i.toNat (13 : Nat), rd xs i.toNat (12 : Nat), rd xs i.toNat (11 : Nat), rd xs i.toNat (10 : Nat), rd xs i.toNat (9 : Nat), rd xs i.toNat (8 : Nat), rd xs i.toNat (7 : Nat), rd xs i.toNat (6 : Nat), rd xs i.toNat (5 : Nat), rd xs i.toNat (4 : Nat), rd xs i.toNat (3 : Nat), rd xs i.toNat (2 : Nat), rd xs i.toNat (1 : Nat), rd xs i.toNat (0 : Nat)].reverse))])) (k (Out.exit (0 : Nat)) (St.mk (T (136 : Nat) [((3 : Nat), IV.sl (1 : Nat)), ((4 : Nat), IV.sl (2 : Nat))]) [some (Blk.ro [IntKind.u8] ns), some (Blk.row (32 : Nat) ksB xs), some (Blk.row (32 : Nat) ksB zs)]))) := by refine nm ?_; kernel_rfl
def pNb (n0 : Nat) (st : St) (ns xs : List (List Int)) : Prop := n0 = 1 ∧ (∀ r ∈ xs, r.length = 20) ∧ 0 < xs.length ∧ xs.length ≤ 1000 ∧ st = SNb ns xs [] (IntKind.i64.wrap (xs.length - 1))
noncomputable def LNb : LoopS := fun n0 st K => ∃ ns xs, pNb n0 st ns xs ∧ K (.exit 0) ⟨T 136 [(3, .sl 1), (4, .sl 2)], [some (.ro [.u8] ns), some (.row 32 ksB xs), some (.row 32 ksB xs.reverse)]⟩
structure Two9 where
  m : Int
  x : Int
  y : Int
  e : Int
  n : Int
  u : Int
  v : Int
  f : Int
def SNl (ns xs : List (List Int)) (z : Two9) (lo hi i : Int) : St := ⟨T 136 [(3, .sl 1), (6, .ptr 2 0), (7, .ptr 3 0), (8, .int .i64 z.e), (9, .ptr 4 0), (10, .ptr 5 0), (11, .int .i64 z.f), (12, .ptr 6 0), (13, .ptr 7 0), (14, .int .i64 i)],
  [some (.ro [.u8] ns), some (.row 32 ksB xs), some (.var 28 (fx z.m).cells), some (.var 30 (vx z.x z.y).cells), some (.var 28 (fx z.n).cells), some (.var 30 (vx z.u z.v).cells), some (.var 28 (fx lo).cells), some (.var 28 (fx hi).cells)]⟩
theorem rNearLow (Λ : FuncId → Nat → Option LoopS) (d : Nat) (ns xs : List (List Int)) (m x y e n u v f lo hi i : Int) (k : Out → St → Prop) : (round (envOf Try.prog ⟨Γw3, Λ, fun _ => none⟩ d) f_perigeelaw9_MassNear 1 1 (lp Try.prog f_perigeelaw9_MassNear 1) (SNl ns xs ⟨m, x, y, e, n, u, v, f⟩ lo hi i) k) = (∀ (j1 : Int), j1 = lo → ∀ (j2 : Int), j2 = hi → ∀ (t3 : Int), t3 = rd xs i.toNat (4 : Nat) → ∀ (t4 : Int), t4 = rd xs i.toNat (5 : Nat) → ∀ (t5 : Prop), t5 = ((0 : Int) ≤ i ∧ i < (↑xs.length : Int)) → ∀ (t6 : Int), t6 = t3 * (18446744073709551616 : Int) + t4 → ∀ (t7 : Int), t7 = cmpI t6 j1 → ∀ (t8 : Int), t8 = cmpI t6 j2 → ∀ (t9 : Prop), t9 = preFF [IV.agg [IV.int IntKind.i64 t3, IV.int IntKind.u64 t4], fx hi] [] → br (decide (i < (↑xs.length : Int))) (t5 ∧ t5 ∧ preFF [IV.agg [IV.int IntKind.i64 t3, IV.int IntKind.u64 t4], fx lo] [] ∧ br (decide (t7 < (0 : Int))) (t5 ∧ t5 ∧ t5 ∧ t5 ∧ t9 ∧ br (decide (t8 > (0 : Int))) (t5 ∧ t5 ∧ k Out.normal (St.mk (T (136 : Nat) [((3 : Nat), IV.sl (1 : Nat)), ((6 : Nat), IV.ptr (2 : Nat) (0 : Nat)), ((7 : Nat), IV.ptr (3 : Nat) (0 : Nat)), ((8 : Nat), IV.int IntKind.i64 e), ((9 : Nat), IV.ptr (4 : Nat) (0 : Nat)), ((10 : Nat), IV.ptr (5 : Nat) (0 : Nat)), ((11 : Nat), IV.int IntKind.i64 f), ((12 : Nat), IV.ptr (6 : Nat) (0 : Nat)), ((13 : Nat), IV.ptr (7 : Nat) (0 : Nat)), ((14 : Nat), IV.int IntKind.i64 (IntKind.i64.wrap (i + (1 : Int))))]) [some (Blk.ro [IntKind.u8] ns), some (Blk.row (32 : Nat) ksB xs), some (Blk.var (28 : Nat) [IV.int IntKind.i64 (m / (18446744073709551616 : Int)), IV.int IntKind.u64 (m % (18446744073709551616 : Int))]), some (Blk.var (30 : Nat) [IV.int IntKind.i64 (x / (18446744073709551616 : Int)), IV.int IntKind.u64 (x % (18446744073709551616 : Int)), IV.int IntKind.i64 (y / (18446744073709551616 : Int)), IV.int IntKind.u64 (y % (18446744073709551616 : Int))]), some (Blk.var (28 : Nat) [IV.int IntKind.i64 (n / (18446744073709551616 : Int)), IV.int IntKind.u64 (n % (18446744073709551616 : Int))]), some (Blk.var (30 : Nat) [IV.int IntKind.i64 (u / (18446744073709551616 : Int)), IV.int IntKind.u64 (u % (18446744073709551616 : Int)), IV.int IntKind.i64 (v / (18446744073709551616 : Int)), IV.int IntKind.u64 (v % (18446744073709551616 : Int))]), some (Blk.var (28 : Nat) [IV.int IntKind.i64 t3, IV.int IntKind.u64 t4]), some (Blk.var (28 : Nat) [IV.int IntKind.i64 t3, IV.int IntKind.u64 t4])])) (k Out.normal (St.mk (T (136 : Nat) [((3 : Nat), IV.sl (1 : Nat)), ((6 : Nat), IV.ptr (2 : Nat) (0 : Nat)), ((7 : Nat), IV.ptr (3 : Nat) (0 : Nat)), ((8 : Nat), IV.int IntKind.i64 e), ((9 : Nat), IV.ptr (4 : Nat) (0 : Nat)), ((10 : Nat), IV.ptr (5 : Nat) (0 : Nat)), ((11 : Nat), IV.int IntKind.i64 f), ((12 : Nat), IV.ptr (6 : Nat) (0 : Nat)), ((13 : Nat), IV.ptr (7 : Nat) (0 : Nat)), ((14 : Nat), IV.int IntKind.i64 (IntKind.i64.wrap (i + (1 : Int))))]) [some (Blk.ro [IntKind.u8] ns), some (Blk.row (32 : Nat) ksB xs), some (Blk.var (28 : Nat) [IV.int IntKind.i64 (m / (18446744073709551616 : Int)), IV.int IntKind.u64 (m % (18446744073709551616 : Int))]), some (Blk.var (30 : Nat) [IV.int IntKind.i64 (x / (18446744073709551616 : Int)), IV.int IntKind.u64 (x % (18446744073709551616 : Int)), IV.int IntKind.i64 (y / (18446744073709551616 : Int)), IV.int IntKind.u64 (y % (18446744073709551616 : Int))]), some (Blk.var (28 : Nat) [IV.int IntKind.i64 (n / (18446744073709551616 : Int)), IV.int IntKind.u64 (n % (18446744073709551616 : Int))]), some (Blk.var (30 : Nat) [IV.int IntKind.i64 (u / (18446744073709551616 : Int)), IV.int IntKind.u64 (u % (18446744073709551616 : Int)), IV.int IntKind.i64 (v / (18446744073709551616 : Int)), IV.int IntKind.u64 (v % (18446744073709551616 : Int))]), some (Blk.var (28 : Nat) [IV.int IntKind.i64 t3, IV.int IntKind.u64 t4]), some (Blk.var (28 : Nat) [IV.int IntKind.i64 (hi / (18446744073709551616 : Int)), IV.int IntKind.u64 (hi % (18446744073709551616 : Int))])]))) (t5 ∧ t5 ∧ t9 ∧ br (decide (t8 > (0 : Int))) (t5 ∧ t5 ∧ k Out.normal (St.mk (T (136 : Nat) [((3 : Nat), IV.sl (1 : Nat)), ((6 : Nat), IV.ptr (2 : Nat) (0 : Nat)), ((7 : Nat), IV.ptr (3 : Nat) (0 : Nat)), ((8 : Nat), IV.int IntKind.i64 e), ((9 : Nat), IV.ptr (4 : Nat) (0 : Nat)), ((10 : Nat), IV.ptr (5 : Nat) (0 : Nat)), ((11 : Nat), IV.int IntKind.i64 f), ((12 : Nat), IV.ptr (6 : Nat) (0 : Nat)), ((13 : Nat), IV.ptr (7 : Nat) (0 : Nat)), ((14 : Nat), IV.int IntKind.i64 (IntKind.i64.wrap (i + (1 : Int))))]) [some (Blk.ro [IntKind.u8] ns), some (Blk.row (32 : Nat) ksB xs), some (Blk.var (28 : Nat) [IV.int IntKind.i64 (m / (18446744073709551616 : Int)), IV.int IntKind.u64 (m % (18446744073709551616 : Int))]), some (Blk.var (30 : Nat) [IV.int IntKind.i64 (x / (18446744073709551616 : Int)), IV.int IntKind.u64 (x % (18446744073709551616 : Int)), IV.int IntKind.i64 (y / (18446744073709551616 : Int)), IV.int IntKind.u64 (y % (18446744073709551616 : Int))]), some (Blk.var (28 : Nat) [IV.int IntKind.i64 (n / (18446744073709551616 : Int)), IV.int IntKind.u64 (n % (18446744073709551616 : Int))]), some (Blk.var (30 : Nat) [IV.int IntKind.i64 (u / (18446744073709551616 : Int)), IV.int IntKind.u64 (u % (18446744073709551616 : Int)), IV.int IntKind.i64 (v / (18446744073709551616 : Int)), IV.int IntKind.u64 (v % (18446744073709551616 : Int))]), some (Blk.var (28 : Nat) [IV.int IntKind.i64 (lo / (18446744073709551616 : Int)), IV.int IntKind.u64 (lo % (18446744073709551616 : Int))]), some (Blk.var (28 : Nat) [IV.int IntKind.i64 t3, IV.int IntKind.u64 t4])])) (k Out.normal (St.mk (T (136 : Nat) [((3 : Nat), IV.sl (1 : Nat)), ((6 : Nat), IV.ptr (2 : Nat) (0 : Nat)), ((7 : Nat), IV.ptr (3 : Nat) (0 : Nat)), ((8 : Nat), IV.int IntKind.i64 e), ((9 : Nat), IV.ptr (4 : Nat) (0 : Nat)), ((10 : Nat), IV.ptr (5 : Nat) (0 : Nat)), ((11 : Nat), IV.int IntKind.i64 f), ((12 : Nat), IV.ptr (6 : Nat) (0 : Nat)), ((13 : Nat), IV.ptr (7 : Nat) (0 : Nat)), ((14 : Nat), IV.int IntKind.i64 (IntKind.i64.wrap (i + (1 : Int))))]) [some (Blk.ro [IntKind.u8] ns), some (Blk.row (32 : Nat) ksB xs), some (Blk.var (28 : Nat) [IV.int IntKind.i64 (m / (18446744073709551616 : Int)), IV.int IntKind.u64 (m % (18446744073709551616 : Int))]), some (Blk.var (30 : Nat) [IV.int IntKind.i64 (x / (18446744073709551616 : Int)), IV.int IntKind.u64 (x % (18446744073709551616 : Int)), IV.int IntKind.i64 (y / (18446744073709551616 : Int)), IV.int IntKind.u64 (y % (18446744073709551616 : Int))]), some (Blk.var (28 : Nat) [IV.int IntKind.i64 (n / (18446744073709551616 : Int)), IV.int IntKind.u64 (n % (18446744073709551616 : Int))]), some (Blk.var (30 : Nat) [IV.int IntKind.i64 (u / (18446744073709551616 : Int)), IV.int IntKind.u64 (u % (18446744073709551616 : Int)), IV.int IntKind.i64 (v / (18446744073709551616 : Int)), IV.int IntKind.u64 (v % (18446744073709551616 : Int))]), some (Blk.var (28 : Nat) [IV.int IntKind.i64 (lo / (18446744073709551616 : Int)), IV.int IntKind.u64 (lo % (18446744073709551616 : Int))]), some (Blk.var (28 : Nat) [IV.int IntKind.i64 (hi / (18446744073709551616 : Int)), IV.int IntKind.u64 (hi % (18446744073709551616 : Int))])])))) (k (Out.exit (2 : Nat)) (St.mk (T (136 : Nat) [((6 : Nat), IV.ptr (1 : Nat) (0 : Nat)), ((7 : Nat), IV.ptr (2 : Nat) (0 : Nat)), ((8 : Nat), IV.int IntKind.i64 e), ((9 : Nat), IV.ptr (3 : Nat) (0 : Nat)), ((10 : Nat), IV.ptr (4 : Nat) (0 : Nat)), ((11 : Nat), IV.int IntKind.i64 f), ((12 : Nat), IV.ptr (5 : Nat) (0 : Nat)), ((13 : Nat), IV.ptr (6 : Nat) (0 : Nat))]) [some (Blk.ro [IntKind.u8] ns), some (Blk.var (28 : Nat) [IV.int IntKind.i64 (m / (18446744073709551616 : Int)), IV.int IntKind.u64 (m % (18446744073709551616 : Int))]), some (Blk.var (30 : Nat) [IV.int IntKind.i64 (x / (18446744073709551616 : Int)), IV.int IntKind.u64 (x % (18446744073709551616 : Int)), IV.int IntKind.i64 (y / (18446744073709551616 : Int)), IV.int IntKind.u64 (y % (18446744073709551616 : Int))]), some (Blk.var (28 : Nat) [IV.int IntKind.i64 (n / (18446744073709551616 : Int)), IV.int IntKind.u64 (n % (18446744073709551616 : Int))]), some (Blk.var (30 : Nat) [IV.int IntKind.i64 (u / (18446744073709551616 : Int)), IV.int IntKind.u64 (u % (18446744073709551616 : Int)), IV.int IntKind.i64 (v / (18446744073709551616 : Int)), IV.int IntKind.u64 (v % (18446744073709551616 : Int))]), some (Blk.var (28 : Nat) [IV.int IntKind.i64 (lo / (18446744073709551616 : Int)), IV.int IntKind.u64 (lo % (18446744073709551616 : Int))]), some (Blk.var (28 : Nat) [IV.int IntKind.i64 (hi / (18446744073709551616 : Int)), IV.int IntKind.u64 (hi % (18446744073709551616 : Int))])]))) := by refine nj ?_; refine nj ?_; refine nm ?_; refine nm ?_; refine nm ?_; refine nm ?_; refine nm ?_; refine nm ?_; refine nm ?_; kernel_rfl
def lowF (xs : List (List Int)) : Nat → Int
  | 0 => fr (xs.getD 0 []) 4
  | n + 1 => if fr (xs.getD n []) 4 < lowF xs n then fr (xs.getD n []) 4 else lowF xs n
def highF (xs : List (List Int)) : Nat → Int
  | 0 => fr (xs.getD 0 []) 4
  | n + 1 => if highF xs n < fr (xs.getD n []) 4 then fr (xs.getD n []) 4 else highF xs n
def pNl (n0 : Nat) (st : St) (ns xs : List (List Int)) (m x y e n u v f : Int) : Prop := n0 = 1 ∧ okRows ksB xs ∧ mayRs xs ∧ 0 < xs.length ∧ xs.length ≤ 1000 ∧ st = SNl ns xs ⟨m, x, y, e, n, u, v, f⟩ (lowF xs 0) (highF xs 0) 0
noncomputable def LNl : LoopS := fun n0 st K => ∃ ns xs m x y e n u v f, pNl n0 st ns xs m x y e n u v f ∧ K (.exit 2) ⟨T 136 [(6, .ptr 1 0), (7, .ptr 2 0), (8, .int .i64 e), (9, .ptr 3 0), (10, .ptr 4 0), (11, .int .i64 f), (12, .ptr 5 0), (13, .ptr 6 0)],
  [some (.ro [.u8] ns), some (.var 28 (fx m).cells), some (.var 30 (vx x y).cells), some (.var 28 (fx n).cells), some (.var 30 (vx u v).cells), some (.var 28 (fx (lowF xs xs.length)).cells), some (.var 28 (fx (highF xs xs.length)).cells)]⟩
noncomputable def NNear : Know := ⟨Γw3, fun f i => if f = f_perigeelaw9_MassNear then (if i = 0 then some LNb else if i = 1 then some LNl else none) else none, fun _ => none⟩
theorem v_MassNear (ns : List (List Int)) (K : IV → List Blk → Prop) : (comes Try.prog NNear 3 f_perigeelaw9_MassNear [.sl 0] [.ro [.u8] ns] K) = (∀ (t1 : Int), t1 = (↑(bodiesF ns (howMany ns (12 : Int))).length : Int) → pBodies [IV.sl (0 : Nat), IV.int IntKind.i64 (12 : Int)] [Blk.ro [IntKind.u8] ns] ∧ br (t1 == (0 : Int)) (pNil [] [] ∧ K (IV.bool true) []) (∃ ns_1 xs, pNb (1 : Nat) (St.mk (T (136 : Nat) [((3 : Nat), IV.sl (1 : Nat)), ((4 : Nat), IV.sl (2 : Nat)), ((5 : Nat), IV.int IntKind.i64 (IntKind.i64.wrap (t1 - (1 : Int))))]) [some (Blk.ro [IntKind.u8] ns), some (Blk.row (32 : Nat) ksB (bodiesF ns (howMany ns (12 : Int)))), some (Blk.row (32 : Nat) ksB [])]) ns_1 xs ∧ pBs [IV.sl (0 : Nat)] [Blk.ro ksB xs] ∧ pBs [IV.sl (0 : Nat)] [Blk.ro ksB xs.reverse] ∧ ((0 : Int) ≤ (0 : Int) ∧ (0 : Int) < (↑xs.length : Int)) ∧ ((0 : Int) ≤ (0 : Int) ∧ (0 : Int) < (↑xs.length : Int)) ∧ ((0 : Int) ≤ (0 : Int) ∧ (0 : Int) < (↑xs.length : Int)) ∧ ((0 : Int) ≤ (0 : Int) ∧ (0 : Int) < (↑xs.length : Int)) ∧ ∃ ns xs_1 m x y e n u v f, pNl (1 : Nat) (St.mk (T (136 : Nat) [((3 : Nat), IV.sl (1 : Nat)), ((6 : Nat), IV.ptr (2 : Nat) (0 : Nat)), ((7 : Nat), IV.ptr (3 : Nat) (0 : Nat)), ((8 : Nat), IV.int IntKind.i64 (cE xs)), ((9 : Nat), IV.ptr (4 : Nat) (0 : Nat)), ((10 : Nat), IV.ptr (5 : Nat) (0 : Nat)), ((11 : Nat), IV.int IntKind.i64 (cE xs.reverse)), ((12 : Nat), IV.ptr (6 : Nat) (0 : Nat)), ((13 : Nat), IV.ptr (7 : Nat) (0 : Nat)), ((14 : Nat), IV.int IntKind.i64 (0 : Int))]) [some (Blk.ro [IntKind.u8] ns_1), some (Blk.row (32 : Nat) ksB xs), some (Blk.var (28 : Nat) [IV.int IntKind.i64 (cM xs / (18446744073709551616 : Int)), IV.int IntKind.u64 (cM xs % (18446744073709551616 : Int))]), some (Blk.var (30 : Nat) [IV.int IntKind.i64 (cX xs / (18446744073709551616 : Int)), IV.int IntKind.u64 (cX xs % (18446744073709551616 : Int)), IV.int IntKind.i64 (cY xs / (18446744073709551616 : Int)), IV.int IntKind.u64 (cY xs % (18446744073709551616 : Int))]), some (Blk.var (28 : Nat) [IV.int IntKind.i64 (cM xs.reverse / (18446744073709551616 : Int)), IV.int IntKind.u64 (cM xs.reverse % (18446744073709551616 : Int))]), some (Blk.var (30 : Nat) [IV.int IntKind.i64 (cX xs.reverse / (18446744073709551616 : Int)), IV.int IntKind.u64 (cX xs.reverse % (18446744073709551616 : Int)), IV.int IntKind.i64 (cY xs.reverse / (18446744073709551616 : Int)), IV.int IntKind.u64 (cY xs.reverse % (18446744073709551616 : Int))]), some (Blk.var (28 : Nat) [IV.int IntKind.i64 (rd xs (0 : Nat) (4 : Nat)), IV.int IntKind.u64 (rd xs (0 : Nat) (5 : Nat))]), some (Blk.var (28 : Nat) [IV.int IntKind.i64 (rd xs (0 : Nat) (4 : Nat)), IV.int IntKind.u64 (rd xs (0 : Nat) (5 : Nat))])]) ns xs_1 m x y e n u v f ∧ may2 [fx (lowF xs_1 xs_1.length), IV.agg [IV.int IntKind.i64 (0 : Int), IV.int IntKind.u64 (1024 : Int)]] [] ∧ may2 [fx (highF xs_1 xs_1.length), IV.agg [IV.int IntKind.i64 (0 : Int), IV.int IntKind.u64 (1024 : Int)]] [] ∧ preI [IV.int IntKind.i64 e] [] ∧ preI [IV.int IntKind.i64 f] [] ∧ br (IntKind.i64.wrap (e + f) == (0 : Int)) (br (decide (m / (18446744073709551616 : Int) = n / (18446744073709551616 : Int)) && (decide (m % (18446744073709551616 : Int) = n % (18446744073709551616 : Int)) && true)) (br (decide (x / (18446744073709551616 : Int) = u / (18446744073709551616 : Int)) && (decide (x % (18446744073709551616 : Int) = u % (18446744073709551616 : Int)) && (decide (y / (18446744073709551616 : Int) = v / (18446744073709551616 : Int)) && (decide (y % (18446744073709551616 : Int) = v % (18446744073709551616 : Int)) && true)))) (preFF [fx x, fx (numF (lowF xs_1 xs_1.length / (18446744073709551616 : Int) * (18446744073709551616 : Int) + lowF xs_1 xs_1.length % (18446744073709551616 : Int) - (1024 : Int)))] [] ∧ br (decide (cmpI (x / (18446744073709551616 : Int) * (18446744073709551616 : Int) + x % (18446744073709551616 : Int)) (numF (lowF xs_1 xs_1.length / (18446744073709551616 : Int) * (18446744073709551616 : Int) + lowF xs_1 xs_1.length % (18446744073709551616 : Int) - (1024 : Int)) / (18446744073709551616 : Int) * (18446744073709551616 : Int) + numF (lowF xs_1 xs_1.length / (18446744073709551616 : Int) * (18446744073709551616 : Int) + lowF xs_1 xs_1.length % (18446744073709551616 : Int) - (1024 : Int)) % (18446744073709551616 : Int)) ≥ (0 : Int))) (preFF [fx x, fx (numF (highF xs_1 xs_1.length / (18446744073709551616 : Int) * (18446744073709551616 : Int) + highF xs_1 xs_1.length % (18446744073709551616 : Int) + (1024 : Int)))] [] ∧ br (decide (cmpI (x / (18446744073709551616 : Int) * (18446744073709551616 : Int) + x % (18446744073709551616 : Int)) (numF (highF xs_1 xs_1.length / (18446744073709551616 : Int) * (18446744073709551616 : Int) + highF xs_1 xs_1.length % (18446744073709551616 : Int) + (1024 : Int)) / (18446744073709551616 : Int) * (18446744073709551616 : Int) + numF (highF xs_1 xs_1.length / (18446744073709551616 : Int) * (18446744073709551616 : Int) + highF xs_1 xs_1.length % (18446744073709551616 : Int) + (1024 : Int)) % (18446744073709551616 : Int)) ≤ (0 : Int))) (pNil [] [] ∧ K (IV.bool true) []) (K (IV.bool false) [])) (K (IV.bool false) [])) (K (IV.bool false) [])) (K (IV.bool false) [])) (K (IV.bool false) []))) := by refine nm ?_; kernel_rfl
end Go.Vs.RF


set_option linter.unusedVariables false
set_option linter.unusedSimpArgs false
set_option maxRecDepth 100000
/- mass: sums that fit; the laws of the centre -/
namespace Go.Vs.RF
open Go Go.Proofs Go.Vs Go.IntWalk

def totI (f : List Int → Int) : List (List Int) → Int
  | [] => 0
  | r :: l => f r + totI f l
theorem tot_app (f : List Int → Int) : ∀ (xs ys : List (List Int)), totI f (xs ++ ys) = totI f xs + totI f ys
  | [], ys => by simp [totI]
  | x :: xs, ys => by simp only [List.cons_append, totI]; rw [tot_app f xs ys]; omega
theorem tot_rev (f : List Int → Int) : ∀ (xs : List (List Int)), totI f xs.reverse = totI f xs
  | [] => rfl
  | x :: xs => by rw [List.reverse_cons, tot_app, tot_rev f xs]; simp only [totI]; omega
theorem tot_le {f g : List Int → Int} : ∀ (xs : List (List Int)), (∀ r ∈ xs, f r ≤ g r) → totI f xs ≤ totI g xs
  | [], _ => Int.le_refl _
  | x :: xs, h => by
    simp only [totI]
    have h1 := h x (by simp)
    have h2 := tot_le xs (fun r hr => h r (List.mem_cons_of_mem _ hr))
    omega
theorem tot_mul (c : Int) (f : List Int → Int) : ∀ (xs : List (List Int)), totI (fun r => c * f r) xs = c * totI f xs
  | [] => by simp [totI]
  | x :: xs => by simp only [totI]; rw [tot_mul c f xs, Int.mul_add]
theorem tot_congr {f g : List Int → Int} : ∀ (xs : List (List Int)), (∀ r ∈ xs, f r = g r) → totI f xs = totI g xs
  | [], _ => rfl
  | x :: xs, h => by
    simp only [totI]
    rw [h x (by simp), tot_congr xs (fun r hr => h r (List.mem_cons_of_mem _ hr))]
theorem tot_const (c : Int) : ∀ (xs : List (List Int)), totI (fun _ => c) xs = (xs.length : Int) * c
  | [] => by simp [totI]
  | x :: xs => by simp only [totI, List.length_cons]; rw [tot_const c xs, Int.natCast_add, Int.add_mul]; omega
theorem tot_pos {f : List Int → Int} {xs : List (List Int)} (h : ∀ r ∈ xs, 1 ≤ f r) (h0 : 0 < xs.length) : 1 ≤ totI f xs := by
  have := tot_le (f := fun _ => 1) (g := f) xs h
  rw [tot_const] at this
  omega
theorem sum_fits (w : Nat) (f : List Int → Int) (M : Int) (hM : 0 ≤ M) : ∀ (xs : List (List Int)) (a : Int), (∀ r ∈ xs, tmE w r = 0 ∧ tmN w r = f r ∧ -M ≤ f r ∧ f r ≤ M) →
    -170141183460469231731687303715884105728 < a - xs.length * M → a + xs.length * M < 170141183460469231731687303715884105728 → sumG w xs a = (a + totI f xs, 0)
  | [], a, _, _, _ => by simp [sumG, totI]
  | r :: l, a, h, h1, h2 => by
    obtain ⟨e1, e2, e3, e4⟩ := h r (by simp)
    simp only [List.length_cons] at h1 h2
    rw [Int.natCast_add, Int.add_mul] at h1 h2
    have hl : 0 ≤ (l.length : Int) * M := Int.mul_nonneg (by omega) hM
    simp only [sumG]
    rw [if_neg (by rw [e1]; simp), e2]
    have hm : mayF (a + f r) := ⟨by omega, by omega⟩
    rw [if_neg (by rw [err_may hm]; simp), sum_fits w f M hM l (a + f r) (fun r hr => h r (List.mem_cons_of_mem _ hr)) (by omega) (by omega)]
    simp only [totI]
    rw [Int.add_assoc]

theorem quoI_pos' {x y : Int} (hx : 0 ≤ x) (hy : 0 < y) : quoI x y = (2 * (x * 18446744073709551616) + y) / (2 * y) := by
  unfold quoI absI
  rw [if_neg (show ¬ x < 0 by omega), if_neg (show ¬ y < 0 by omega), decide_eq_false (show ¬ x < 0 by omega), decide_eq_false (show ¬ y < 0 by omega)]
  rfl
theorem quoI_negl' (x y : Int) (hy : y ≠ 0) : quoI (-x) y = -quoI x y := by
  by_cases h0 : x = 0
  · subst h0; rw [show (-0 : Int) = 0 from rfl, quoI_zero y hy]; rfl
  · unfold quoI
    rw [abs_neg, show decide (-x < 0) = !decide (x < 0) by by_cases h : x < 0 <;> simp [h] <;> omega, show ((!decide (x < 0)) != decide (y < 0)) = !(decide (x < 0) != decide (y < 0)) by cases decide (x < 0) <;> cases decide (y < 0) <;> rfl, sgnI_not]
theorem quo_cancel (k x y : Int) (hk : 0 < k) (hy : y ≠ 0) : quoI (k * x) (k * y) = quoI x y := by
  have pos : ∀ {x y : Int}, 0 ≤ x → 0 < y → quoI (k * x) (k * y) = quoI x y := by
    intro x y hx hy
    rw [quoI_pos' (Int.mul_nonneg (by omega) hx) (Int.mul_pos hk hy), quoI_pos' hx hy]
    rw [show 2 * (k * x * 18446744073709551616) + k * y = k * (2 * (x * 18446744073709551616) + y) by rw [Int.mul_add, Int.mul_assoc, ← Int.mul_assoc 2 k, Int.mul_comm 2 k, Int.mul_assoc k 2], show 2 * (k * y) = k * (2 * y) by rw [← Int.mul_assoc, Int.mul_comm 2 k, Int.mul_assoc]]
    exact Int.mul_ediv_mul_of_pos _ _ hk
  have nonneg : ∀ {x : Int}, 0 ≤ x → quoI (k * x) (k * y) = quoI x y := by
    intro x hx
    rcases Int.lt_trichotomy y 0 with h | h | h
    · have := pos (x := x) (y := -y) hx (by omega)
      rw [Int.mul_neg, quoI_negr _ _ (by intro h0; rcases Int.mul_eq_zero.1 h0 with h1 | h1 <;> omega), quoI_negr _ _ hy] at this
      omega
    · exact absurd h hy
    · exact pos hx h
  by_cases hx : 0 ≤ x
  · exact nonneg hx
  · have := nonneg (x := -x) (by omega)
    rw [Int.mul_neg, quoI_negl' _ _ (by intro h0; rcases Int.mul_eq_zero.1 h0 with h1 | h1 <;> omega), quoI_negl' _ _ hy] at this
    omega
theorem quo_mean {n k lo hi : Int} (hk : 1 ≤ k) (h1 : k * lo ≤ n) (h2 : n ≤ k * hi) : lo ≤ quoI n (k * 18446744073709551616) ∧ quoI n (k * 18446744073709551616) ≤ hi := by
  have pos : ∀ {n lo hi : Int}, 0 ≤ n → k * lo ≤ n → n ≤ k * hi → lo ≤ quoI n (k * 18446744073709551616) ∧ quoI n (k * 18446744073709551616) ≤ hi := by
    intro n lo hi hn h1 h2
    have e : quoI n (k * 18446744073709551616) = (2 * n + k) / (2 * k) := by
      rw [quoI_pos' hn (by omega), show 2 * (n * 18446744073709551616) + k * 18446744073709551616 = (2 * n + k) * 18446744073709551616 by omega, show 2 * (k * 18446744073709551616) = (2 * k) * 18446744073709551616 by omega]
      exact Int.mul_ediv_mul_of_pos_left _ _ (by decide)
    rw [e]
    constructor
    · rw [Int.le_ediv_iff_mul_le (by omega), show lo * (2 * k) = 2 * (k * lo) by rw [Int.mul_comm lo, Int.mul_assoc]]
      omega
    · refine Int.lt_add_one_iff.1 ?_
      rw [Int.ediv_lt_iff_lt_mul (by omega), Int.add_mul, show hi * (2 * k) = 2 * (k * hi) by rw [Int.mul_comm hi, Int.mul_assoc]]
      omega
  by_cases hn : 0 ≤ n
  · exact pos hn h1 h2
  · have := pos (n := -n) (lo := -hi) (hi := -lo) (by omega) (by rw [Int.mul_neg]; omega) (by rw [Int.mul_neg]; omega)
    rw [quoI_negl' _ _ (by omega)] at this
    omega
structure Plain (k : List Int → Int) (B C : Int) (xs : List (List Int)) : Prop where
  mass : ∀ r ∈ xs, fr r 0 = k r * 18446744073709551616 ∧ 1 ≤ k r ∧ k r ≤ B
  pX : ∀ r ∈ xs, -C ≤ fr r 4 ∧ fr r 4 ≤ C
  pY : ∀ r ∈ xs, -C ≤ fr r 6 ∧ fr r 6 ≤ C
theorem tm_whole {k : Int} {r : List Int} {w : Nat} {B C : Int} (hw : w ≠ 0) (h0 : fr r 0 = k * 18446744073709551616) (h1 : 1 ≤ k) (h2 : k ≤ B) (h3 : -C ≤ fr r w) (h4 : fr r w ≤ C) (hb : B * C < 170141183460469231731687303715884105728) :
    tmE w r = 0 ∧ tmN w r = k * fr r w ∧ -(B * C) ≤ k * fr r w ∧ k * fr r w ≤ B * C := by
  have hC : 0 ≤ C := by omega
  have a1 : k * fr r w ≤ k * C := Int.mul_le_mul_of_nonneg_left h4 (by omega)
  have a2 : k * (-C) ≤ k * fr r w := Int.mul_le_mul_of_nonneg_left h3 (by omega)
  have a3 : k * C ≤ B * C := Int.mul_le_mul_of_nonneg_right h2 hC
  rw [Int.mul_neg] at a2
  have hm : mayF (k * fr r w) := ⟨by omega, by omega⟩
  unfold tmE tmN
  rw [if_neg hw, if_neg hw, h0, mulI_whole, err_may hm, num_may hm]
  exact ⟨rfl, rfl, by omega, by omega⟩
theorem cen_plain {k : List Int → Int} {B C : Int} {xs : List (List Int)} (h : Plain k B C xs) (h0 : 0 < xs.length) (hl : xs.length ≤ 1000) (hB0 : 1 ≤ B) (hB : B ≤ 100000) (hC0 : 0 ≤ C) (hC : C ≤ 1208925819614629174706176) :
    cE xs = 0 ∧ cM xs = totI k xs * 18446744073709551616 ∧ cX xs = quoI (totI (fun r => k r * fr r 4) xs) (totI k xs * 18446744073709551616) ∧ cY xs = quoI (totI (fun r => k r * fr r 6) xs) (totI k xs * 18446744073709551616) ∧ 1 ≤ totI k xs ∧
    (∀ lo, (∀ r ∈ xs, lo ≤ fr r 4) → lo ≤ cX xs) ∧ (∀ hi, (∀ r ∈ xs, fr r 4 ≤ hi) → cX xs ≤ hi) := by
  have hBC : B * C ≤ 100000 * 1208925819614629174706176 := Int.le_trans (Int.mul_le_mul_of_nonneg_right hB hC0) (Int.mul_le_mul_of_nonneg_left hC (by decide))
  have hBC0 : 0 ≤ B * C := Int.mul_nonneg (by omega) hC0
  have hLBC : (xs.length : Int) * (B * C) ≤ 1000 * (100000 * 1208925819614629174706176) := Int.le_trans (Int.mul_le_mul_of_nonneg_right (by omega) hBC0) (Int.mul_le_mul_of_nonneg_left hBC (by decide))
  have hLBC0 : 0 ≤ (xs.length : Int) * (B * C) := Int.mul_nonneg (by omega) hBC0
  have hLB : (xs.length : Int) * (B * 18446744073709551616) ≤ 1000 * (100000 * 18446744073709551616) := Int.le_trans (Int.mul_le_mul_of_nonneg_right (by omega) (by omega)) (Int.mul_le_mul_of_nonneg_left (by omega) (by decide))
  have hLB0 : 0 ≤ (xs.length : Int) * (B * 18446744073709551616) := Int.mul_nonneg (by omega) (by omega)
  have t0 : ∀ r ∈ xs, tmE 0 r = 0 ∧ tmN 0 r = 18446744073709551616 * k r ∧ -(B * 18446744073709551616) ≤ 18446744073709551616 * k r ∧ 18446744073709551616 * k r ≤ B * 18446744073709551616 := by
    intro r hr
    obtain ⟨h1, h2, h3⟩ := h.mass r hr
    exact ⟨rfl, by rw [show tmN 0 r = fr r 0 from rfl, h1]; omega, by omega, by omega⟩
  have t4 := fun r hr => tm_whole (w := 4) (by decide) (h.mass r hr).1 (h.mass r hr).2.1 (h.mass r hr).2.2 (h.pX r hr).1 (h.pX r hr).2 (by omega)
  have t6 := fun r hr => tm_whole (w := 6) (by decide) (h.mass r hr).1 (h.mass r hr).2.1 (h.mass r hr).2.2 (h.pY r hr).1 (h.pY r hr).2 (by omega)
  have s0 := sum_fits 0 (fun r => 18446744073709551616 * k r) (B * 18446744073709551616) (by omega) xs 0 t0 (by omega) (by omega)
  have s4 := sum_fits 4 (fun r => k r * fr r 4) (B * C) hBC0 xs 0 t4 (by omega) (by omega)
  have s6 := sum_fits 6 (fun r => k r * fr r 6) (B * C) hBC0 xs 0 t6 (by omega) (by omega)
  rw [tot_mul, Int.zero_add] at s0
  rw [Int.zero_add] at s4 s6
  have kp : 1 ≤ totI k xs := tot_pos (fun r hr => (h.mass r hr).2.1) h0
  have n0 : sumN 0 xs = totI k xs * 18446744073709551616 := by unfold sumN; rw [s0, Int.mul_comm]
  have e0 : sumE 0 xs = 0 := by unfold sumE; rw [s0]
  have n4 : sumN 4 xs = totI (fun r => k r * fr r 4) xs := by unfold sumN; rw [s4]
  have e4 : sumE 4 xs = 0 := by unfold sumE; rw [s4]
  have n6 : sumN 6 xs = totI (fun r => k r * fr r 6) xs := by unfold sumN; rw [s6]
  have e6 : sumE 6 xs = 0 := by unfold sumE; rw [s6]
  have bnd : ∀ (w : Nat) (lo hi : Int), (∀ r ∈ xs, lo ≤ fr r w) → (∀ r ∈ xs, fr r w ≤ hi) → lo ≤ quoI (totI (fun r => k r * fr r w) xs) (totI k xs * 18446744073709551616) ∧ quoI (totI (fun r => k r * fr r w) xs) (totI k xs * 18446744073709551616) ≤ hi := by
    intro w lo hi h1 h2
    refine quo_mean kp ?_ ?_
    · have := tot_le (f := fun r => lo * k r) (g := fun r => k r * fr r w) xs (fun r hr => by
        rw [Int.mul_comm]
        exact Int.mul_le_mul_of_nonneg_left (h1 r hr) (by have := (h.mass r hr).2.1; omega))
      rw [tot_mul, Int.mul_comm] at this
      exact this
    · have := tot_le (f := fun r => k r * fr r w) (g := fun r => hi * k r) xs (fun r hr => by
        rw [Int.mul_comm hi]
        exact Int.mul_le_mul_of_nonneg_left (h2 r hr) (by have := (h.mass r hr).2.1; omega))
      rw [tot_mul, Int.mul_comm] at this
      exact this
  have b4 := bnd 4 (-C) C (fun r hr => (h.pX r hr).1) (fun r hr => (h.pX r hr).2)
  have b6 := bnd 6 (-C) C (fun r hr => (h.pY r hr).1) (fun r hr => (h.pY r hr).2)
  have hne : totI k xs * 18446744073709551616 ≠ 0 := by omega
  have m4 : mayF (quoI (totI (fun r => k r * fr r 4) xs) (totI k xs * 18446744073709551616)) := ⟨by omega, by omega⟩
  have m6 : mayF (quoI (totI (fun r => k r * fr r 6) xs) (totI k xs * 18446744073709551616)) := ⟨by omega, by omega⟩
  have a4 : axE 4 xs = 0 := by unfold axE divE; rw [if_pos e4, n0, n4, if_neg hne, err_may m4]
  have a6 : axE 6 xs = 0 := by unfold axE divE; rw [if_pos e6, n0, n6, if_neg hne, err_may m6]
  have c0 : cE xs = 0 := by unfold cE; rw [if_neg (by omega), if_neg (by rw [e0]; simp), if_neg (by rw [a4]; simp), a6]
  have x4 : cX xs = quoI (totI (fun r => k r * fr r 4) xs) (totI k xs * 18446744073709551616) := by
    unfold cX axN divN
    rw [if_pos c0, if_pos e4, n0, n4, if_neg hne, num_may m4]
  refine ⟨c0, by unfold cM; rw [if_pos c0, n0], x4, ?_, kp, fun lo hlo => ?_, fun hi hhi => ?_⟩
  · unfold cY axN divN
    rw [if_pos c0, if_pos e6, n0, n6, if_neg hne, num_may m6]
  · rw [x4]
    exact (bnd 4 lo C hlo (fun r hr => (h.pX r hr).2)).1
  · rw [x4]
    exact (bnd 4 (-C) hi (fun r hr => (h.pX r hr).1) hhi).2
end Go.Vs.RF

set_option linter.unusedVariables false
set_option linter.unusedSimpArgs false
set_option maxRecDepth 100000
/- the laws of the centre -/
namespace Go.Vs.RF
open Go Go.Proofs Go.Vs Go.IntWalk

theorem ctrsw2 : ∀ {g : FuncId} {sp : Vs.Spec}, Γw2 g = some sp → Contract Try.prog g sp := ext_ok c_Centre (ext_ok c_Bodies ctrsw1)
theorem knoww2 : KnowOk Try.prog Nw2 3 := knowOf (fun g sp h => ctrsw2 h) (fun _ _ => rfl) (fun _ => rfl) 3
theorem c_awake9 : Contract Try.prog f_perigeelaw9_awake spAwk9 := by
  refine contract_of (N := Nw2) 3 knoww2 ?_
  rintro l bs _ _ ⟨rfl, rfl⟩
  show comes _ _ _ _ _ _ _
  rw [v_awake9]
  rintro t1 rfl t2 rfl
  refine ⟨preI_of ⟨by decide, by decide⟩, preI_of ⟨by decide, by decide⟩, ⟨_, rfl, rfl, ?_⟩, preI_of ⟨by decide, by decide⟩, preI_of ⟨by decide, by decide⟩, preI_of ⟨by decide, by decide⟩, rfl⟩
  intro r hr
  rw [List.mem_singleton.1 hr]
  exact ⟨by decide, by decide, by decide⟩
theorem ctrsw3 : ∀ {g : FuncId} {sp : Vs.Spec}, Γw3 g = some sp → Contract Try.prog g sp := ext_ok c_awake9 ctrsw2
theorem knoww3 : KnowOk Try.prog Nw3 3 := knowOf (fun g sp h => ctrsw3 h) (fun _ _ => rfl) (fun _ => rfl) 3

def i16ok (n : Int) : Prop := -32768 ≤ n ∧ n < 32768
def pMW (l : List IV) (bs : List Blk) : Prop := ∃ m a b c d, l = [.int .u8 m, .int .i16 a, .int .i16 b, .int .i16 c, .int .i16 d] ∧ bs = [] ∧ u8ok m ∧ i16ok a ∧ i16ok b ∧ i16ok c ∧ i16ok d
noncomputable def spMW : Vs.Spec := ⟨pMW, fun _ _ => (.bool true, [])⟩
def rowM (k x y : Int) : List Int := [k / 18446744073709551616, k % 18446744073709551616, 0, 0, x / 18446744073709551616, x % 18446744073709551616, y / 18446744073709551616, y % 18446744073709551616, 0, 0, 0, 0, 0, 0, 0, 0, 0, 0, 0, 0]
theorem rowM_fr (k x y : Int) : fr (rowM k x y) 0 = k ∧ fr (rowM k x y) 4 = x ∧ fr (rowM k x y) 6 = y := ⟨jn k, jn x, jn y⟩
theorem quo_pair (k s : Int) (hk : 0 < k) : quoI (k * s) ((k + (k + 0)) * 18446744073709551616) = halfI s := by
  rw [show (k + (k + 0)) * 18446744073709551616 = k * 36893488147419103232 by omega, quo_cancel k s 36893488147419103232 hk (by decide), quo_half]
theorem c_MassWhole : Contract Try.prog f_perigeelaw9_MassWhole spMW := by
  refine contract_of (N := Nw3) 3 knoww3 ?_
  rintro l bs _ _ ⟨m, a, b, c, d, rfl, rfl, hm, ha, hb, hc, hd⟩
  unfold u8ok at hm; unfold i16ok at ha hb hc hd
  show comes _ _ _ _ _ _ _
  rw [v_MassWhole]
  rintro t1 e1 j2 rfl t3 e3 j4 rfl t5 e5 j6 rfl t7 e7 t8 e8 t9 e9 t10 e10 t11 e11 t12 e12 t13 e13 t14 e14 t15 e15 t16 e16 t17 e17 t18 e18 t19 e19 t20 e20 t21 e21 b22 e22 b23 e23 d24 e24 b25 e25 b26 e26 d27 e27
  rw [i64_in a (by omega), i64_in c (by omega), i64_in (a + c) (by omega), mxe (by omega)] at e1
  rw [i64_in b (by omega), i64_in d (by omega), i64_in (b + d) (by omega), mxe (by omega)] at e3
  rw [i64_in m (by omega), i64_in (1 + m) (by omega), mxe (by omega)] at e5
  rw [i64_in a (by omega), mxe (by omega)] at e10
  rw [i64_in b (by omega), mxe (by omega)] at e11
  rw [i64_in c (by omega), mxe (by omega)] at e12
  rw [i64_in d (by omega), mxe (by omega)] at e13
  have q1 : (List.replicate 1 (List.replicate 20 (0 : Int))).set 0 [0, 0, 0, 0, 0, 0, 0, 0, 0, 0, 0, 0, t11 % 18446744073709551616, t11 / 18446744073709551616, t10 % 18446744073709551616, t10 / 18446744073709551616, 0, 0, j6 % 18446744073709551616, j6 / 18446744073709551616].reverse = [rowM j6 t10 t11] := rfl
  have q2 : ((List.replicate 2 (List.replicate 20 (0 : Int))).set 0 [0, 0, 0, 0, 0, 0, 0, 0, 0, 0, 0, 0, t11 % 18446744073709551616, t11 / 18446744073709551616, t10 % 18446744073709551616, t10 / 18446744073709551616, 0, 0, j6 % 18446744073709551616, j6 / 18446744073709551616].reverse).set 1 [0, 0, 0, 0, 0, 0, 0, 0, 0, 0, 0, 0, t13 % 18446744073709551616, t13 / 18446744073709551616, t12 % 18446744073709551616, t12 / 18446744073709551616, 0, 0, j6 % 18446744073709551616, j6 / 18446744073709551616].reverse = [rowM j6 t10 t11, rowM j6 t12 t13] := rfl
  rw [q1] at e14 e15 e16 e17
  rw [q2] at e18 e19 e20 e21
  have hp1 : Plain (fun _ => 1 + m) 1000 1000000000000000000000000 [rowM j6 t10 t11] := by
    refine ⟨fun r hr => ?_, fun r hr => ?_, fun r hr => ?_⟩
    all_goals
      rw [List.mem_singleton.1 hr]
      first
        | rw [(rowM_fr j6 t10 t11).1]
        | rw [(rowM_fr j6 t10 t11).2.1]
        | rw [(rowM_fr j6 t10 t11).2.2]
      omega
  have hp2 : Plain (fun _ => 1 + m) 1000 1000000000000000000000000 [rowM j6 t10 t11, rowM j6 t12 t13] := by
    refine ⟨fun r hr => ?_, fun r hr => ?_, fun r hr => ?_⟩
    all_goals
      rcases List.mem_cons.1 hr with rfl | hr
      · first
          | rw [(rowM_fr j6 t10 t11).1]
          | rw [(rowM_fr j6 t10 t11).2.1]
          | rw [(rowM_fr j6 t10 t11).2.2]
        omega
      · rw [List.mem_singleton.1 hr]
        first
          | rw [(rowM_fr j6 t12 t13).1]
          | rw [(rowM_fr j6 t12 t13).2.1]
          | rw [(rowM_fr j6 t12 t13).2.2]
        omega
  obtain ⟨k1, k2, k3, k4, k5, _, _⟩ := cen_plain hp1 (by simp) (by simp) (by decide) (by decide) (by decide) (by decide)
  obtain ⟨l1, l2, l3, l4, l5, _, _⟩ := cen_plain hp2 (by simp) (by simp) (by decide) (by decide) (by decide) (by decide)
  simp only [totI] at k2 k3 k4 k5 l2 l3 l4 l5
  rw [(rowM_fr j6 t10 t11).2.1, show (1 + m) * t10 + 0 = (1 + m) * t10 by omega, show (1 + m + 0) * 18446744073709551616 = (1 + m) * 18446744073709551616 by omega, quo_cancel _ _ _ (by omega) (by decide), quo_one] at k3
  rw [(rowM_fr j6 t10 t11).2.2, show (1 + m) * t11 + 0 = (1 + m) * t11 by omega, show (1 + m + 0) * 18446744073709551616 = (1 + m) * 18446744073709551616 by omega, quo_cancel _ _ _ (by omega) (by decide), quo_one] at k4
  rw [(rowM_fr j6 t10 t11).2.1, (rowM_fr j6 t12 t13).2.1, show (1 + m) * t10 + ((1 + m) * t12 + 0) = (1 + m) * (t10 + t12) by rw [Int.mul_add]; omega, quo_pair _ _ (by omega)] at l3
  rw [(rowM_fr j6 t10 t11).2.2, (rowM_fr j6 t12 t13).2.2, show (1 + m) * t11 + ((1 + m) * t13 + 0) = (1 + m) * (t11 + t13) by rw [Int.mul_add]; omega, quo_pair _ _ (by omega)] at l4
  rw [← e14] at k1; rw [← e15] at k2; rw [← e16] at k3; rw [← e17] at k4
  rw [← e18] at l1; rw [← e19] at l2; rw [← e20] at l3; rw [← e21] at l4
  have mf : ∀ {x : Int}, -1208925819614629174706176 ≤ x → x ≤ 1208925819614629174706176 → mayF x := fun h1 h2 => ⟨by omega, by omega⟩
  have hr1 : mayR (rowM j6 t10 t11) := by
    unfold mayR; rw [(rowM_fr j6 t10 t11).1, (rowM_fr j6 t10 t11).2.1, (rowM_fr j6 t10 t11).2.2]
    exact ⟨mf (by omega) (by omega), mf (by omega) (by omega), mf (by omega) (by omega)⟩
  have hr2 : mayR (rowM j6 t12 t13) := by
    unfold mayR; rw [(rowM_fr j6 t12 t13).1, (rowM_fr j6 t12 t13).2.1, (rowM_fr j6 t12 t13).2.2]
    exact ⟨mf (by omega) (by omega), mf (by omega) (by omega), mf (by omega) (by omega)⟩
  have i64 : ∀ {n : Int}, -1000000 ≤ n → n ≤ 1000000 → preI [.int .i64 n] [] := fun h1 h2 => preI_of (by unfold i64ok; omega)
  refine ⟨by rw [i64_in m (by omega), i64_in (1 + m) (by omega)]; exact i64 (by omega) (by omega), by rw [i64_in a (by omega)]; exact i64 (by omega) (by omega), by rw [i64_in b (by omega)]; exact i64 (by omega) (by omega), by rw [i64_in c (by omega)]; exact i64 (by omega) (by omega), by rw [i64_in d (by omega)]; exact i64 (by omega) (by omega),
    ⟨_, rfl, rfl, fun r hr => ?_⟩, ⟨_, rfl, rfl, fun r hr => ?_⟩, ⟨_, rfl, rfl, fun r hr => by cases hr⟩, ?_, may1_of (mf (by omega) (by omega)), ?_, may1_of (mf (by omega) (by omega)), by rw [l1]; exact i64 (by omega) (by omega), by rw [k1]; exact i64 (by omega) (by omega), ?_⟩
  · rcases List.mem_cons.1 hr with rfl | hr
    · exact hr1
    · rw [List.mem_singleton.1 hr]; exact hr2
  · rw [List.mem_singleton.1 hr]; exact hr1
  · rw [i64_in a (by omega), i64_in c (by omega), i64_in (a + c) (by omega)]; exact i64 (by omega) (by omega)
  · rw [i64_in b (by omega), i64_in d (by omega), i64_in (b + d) (by omega)]; exact i64 (by omega) (by omega)
  rw [k1, l1, show (IntKind.i64.wrap (0 + 0) == 0) = true from rfl, br_tt]
  refine ⟨i64 (by omega) (by omega), may2_of (mf (by omega) (by omega)) (mf (by omega) (by omega)), ?_⟩
  have z22 : b22 = true := by
    rw [e22, decide_eq_true_iff, l2, e9, num_may (mf (by omega) (by omega))]; omega
  have z24 : d24 = true := by
    rw [e24, e23, Bool.and_eq_true, decide_eq_true_iff, decide_eq_true_iff, l3, l4, e7, e8, show t10 + t12 = j2 by omega, show t11 + t13 = j4 by omega]
    exact ⟨rfl, rfl⟩
  have z25 : b25 = true := by rw [e25, decide_eq_true_iff, k2]; omega
  have z27 : d27 = true := by
    rw [e27, e26, Bool.and_eq_true, decide_eq_true_iff, decide_eq_true_iff, k3, k4]
    exact ⟨rfl, rfl⟩
  rw [z22, z24, z25, z27]
  exact ⟨⟨rfl, rfl⟩, rfl⟩
end Go.Vs.RF

set_option linter.unusedVariables false
set_option linter.unusedSimpArgs false
set_option maxRecDepth 100000
/- MassNear -/
namespace Go.Vs.RF
open Go Go.Proofs Go.Vs Go.IntWalk

theorem bodyL_len (a b c d : Int) : (bodyL a b c d).length = 20 := rfl
theorem bodyL_fr (a b c d : Int) : fr (bodyL a b c d) 0 = (1 + c % 9) * 18446744073709551616 ∧ fr (bodyL a b c d) 4 = (a - 128) * 18446744073709551616 + b * 72057594037927936 ∧ fr (bodyL a b c d) 6 = (b - 128) * 18446744073709551616 + c * 1099511627776 ∧
    fr (bodyL a b c d) 8 = (d % 7 - 3) * 18446744073709551616 + a ∧ fr (bodyL a b c d) 10 = (c % 5 - 2) * 18446744073709551616 + d * 1152921504606846976 % 18446744073709551616 := by
  refine ⟨?_, rfl, rfl, rfl, rfl⟩
  show (1 + c % 9) * 18446744073709551616 + 0 = _
  omega
theorem bodyL_row {a b c d : Int} (ha : u8ok a) (hb : u8ok b) (hc : u8ok c) (hd : u8ok d) : rowB (bodyL a b c d) := by
  unfold u8ok at ha hb hc hd
  have I : ∀ {n : Int}, -9223372036854775808 ≤ n → n ≤ 9223372036854775807 → inK .i64 n := fun h1 h2 => ⟨h1, h2⟩
  have U : ∀ {n : Int}, 0 ≤ n → n ≤ 18446744073709551615 → inK .u64 n := fun h1 h2 => ⟨h1, h2⟩
  intro j hj
  rcases j with _|_|_|_|_|_|_|_|_|_|_|_|_|_|_|_|_|_|_|_|j
  · show inK .i64 (1 + c % 9); exact I (by omega) (by omega)
  · show inK .u64 0; exact U (by omega) (by omega)
  · show inK .i64 (d % 3); exact I (by omega) (by omega)
  · show inK .u64 4611686018427387904; exact U (by omega) (by omega)
  · show inK .i64 (a - 128); exact I (by omega) (by omega)
  · show inK .u64 (b * 72057594037927936); exact U (by omega) (by omega)
  · show inK .i64 (b - 128); exact I (by omega) (by omega)
  · show inK .u64 (c * 1099511627776); exact U (by omega) (by omega)
  · show inK .i64 (d % 7 - 3); exact I (by omega) (by omega)
  · show inK .u64 a; exact U (by omega) (by omega)
  · show inK .i64 (c % 5 - 2); exact I (by omega) (by omega)
  · show inK .u64 (d * 1152921504606846976 % 18446744073709551616); exact U (by omega) (by omega)
  · show inK .i64 0; exact I (by omega) (by omega)
  · show inK .u64 (d * 1125899906842624); exact U (by omega) (by omega)
  · show inK .i64 0; exact I (by omega) (by omega)
  · show inK .u64 (a * 1125899906842624); exact U (by omega) (by omega)
  · show inK .i64 (b % 4); exact I (by omega) (by omega)
  · show inK .u64 0; exact U (by omega) (by omega)
  · show inK .i64 0; exact I (by omega) (by omega)
  · show inK .i64 (d * 257); exact I (by omega) (by omega)
  · omega
def made (r : List Int) : Prop := ∃ a b c d, u8ok a ∧ u8ok b ∧ u8ok c ∧ u8ok d ∧ r = bodyL a b c d
theorem bodies_made {ns : List (List Int)} (h : okRows [.u8] ns) (n : Nat) : ∀ r ∈ bodiesF ns n, made r := by
  intro r hr
  unfold bodiesF at hr
  rw [List.mem_map] at hr
  obtain ⟨i, _, rfl⟩ := hr
  exact ⟨_, _, _, _, u8_rd h _, u8_rd h _, u8_rd h _, u8_rd h _, rfl⟩
theorem made_len {xs : List (List Int)} (h : ∀ r ∈ xs, made r) : ∀ r ∈ xs, r.length = 20 := by
  intro r hr
  obtain ⟨a, b, c, d, _, _, _, _, rfl⟩ := h r hr
  rfl
theorem made_rows {xs : List (List Int)} (h : ∀ r ∈ xs, made r) : okRows ksB xs := by
  intro r hr
  obtain ⟨a, b, c, d, ha, hb, hc, hd, rfl⟩ := h r hr
  exact bodyL_row ha hb hc hd
theorem made_may {xs : List (List Int)} (h : ∀ r ∈ xs, made r) : mayRs xs := by
  intro r hr
  obtain ⟨a, b, c, d, ha, hb, hc, hd, rfl⟩ := h r hr
  obtain ⟨e0, e4, e6, _, _⟩ := bodyL_fr a b c d
  unfold u8ok at ha hb hc hd
  unfold mayR
  rw [e0, e4, e6]
  exact ⟨⟨by omega, by omega⟩, ⟨by omega, by omega⟩, ⟨by omega, by omega⟩⟩
theorem made_plain {xs : List (List Int)} (h : ∀ r ∈ xs, made r) : Plain (fun r => r.getD 0 0) 9 2361183241434822606848 xs := by
  refine ⟨fun r hr => ?_, fun r hr => ?_, fun r hr => ?_⟩
  all_goals
    obtain ⟨a, b, c, d, ha, hb, hc, hd, rfl⟩ := h r hr
    obtain ⟨e0, e4, e6, _, _⟩ := bodyL_fr a b c d
    unfold u8ok at ha hb hc hd
  · rw [e0]
    show (1 + c % 9) * 18446744073709551616 = (1 + c % 9) * 18446744073709551616 ∧ 1 ≤ 1 + c % 9 ∧ 1 + c % 9 ≤ 9
    omega
  · rw [e4]; omega
  · rw [e6]; omega

theorem row20 {r : List Int} (h : r.length = 20) : [r.getD 0 0, r.getD 1 0, r.getD 2 0, r.getD 3 0, r.getD 4 0, r.getD 5 0, r.getD 6 0, r.getD 7 0, r.getD 8 0, r.getD 9 0, r.getD 10 0, r.getD 11 0, r.getD 12 0, r.getD 13 0, r.getD 14 0, r.getD 15 0, r.getD 16 0, r.getD 17 0, r.getD 18 0, r.getD 19 0] = r := by
  match r, h with
  | [_, _, _, _, _, _, _, _, _, _, _, _, _, _, _, _, _, _, _, _], _ => rfl
theorem lNb (d n0 : Nat) : LoopOk (envOf Try.prog NNear d) f_perigeelaw9_MassNear n0 0 (lp Try.prog f_perigeelaw9_MassNear 0) LNb := by
  intro st K hst
  obtain ⟨ns, xs, ⟨rfl, hr, h0, hl, rfl⟩, hK⟩ := hst
  have e0 : IntKind.i64.wrap ((xs.length : Int) - 1) = ((xs.length : Nat) : Int) - 1 := i64_in _ (by omega)
  rw [e0]
  refine loop_of (fun n : Nat => SNb ns xs (xs.drop n).reverse ((n : Int) - 1)) (fun n => n ≤ xs.length) (fun n => n) ?_ (a := xs.length) (Nat.le_refl _) |> (fun h => by
    simp only [List.drop_length, List.reverse_nil] at h
    exact h)
  intro n hle k hn hk
  show round (envOf Try.prog ⟨Γw3, _, fun _ => none⟩ d) _ _ _ _ _ k
  rw [rNearBack]
  rintro t1 e1
  rw [br_dec]
  constructor
  · intro h1
    obtain ⟨m, rfl⟩ : ∃ m, n = m + 1 := ⟨n - 1, by omega⟩
    have p1 : t1 := by rw [e1]; omega
    have em : (((m + 1 : Nat) : Int) - 1).toNat = m := by omega
    refine ⟨p1, p1, by rw [List.length_reverse, List.length_drop]; omega, ?_⟩
    rw [em, i64_in _ (by omega)]
    have hm : m < xs.length := by omega
    have := hn m (by omega) (by omega)
    rw [List.drop_eq_getElem_cons hm, List.reverse_cons] at this
    rw [show ((m + 1 : Nat) : Int) - 1 - 1 = (m : Int) - 1 by omega]
    have hrow : (List.replicate 1 (List.replicate 20 (0 : Int))).set 0 [rd xs m 19, rd xs m 18, rd xs m 17, rd xs m 16, rd xs m 15, rd xs m 14, rd xs m 13, rd xs m 12, rd xs m 11, rd xs m 10, rd xs m 9, rd xs m 8, rd xs m 7, rd xs m 6, rd xs m 5, rd xs m 4, rd xs m 3, rd xs m 2, rd xs m 1, rd xs m 0].reverse = [xs[m]] := by
      unfold rd
      rw [get_row hm]
      show [[_, _, _, _, _, _, _, _, _, _, _, _, _, _, _, _, _, _, _, _]] = _
      rw [row20 (hr _ (List.getElem_mem hm))]
    rw [hrow]
    exact this
  · intro h1
    have : n = 0 := by omega
    subst this
    rw [List.drop_zero]
    exact hk _ _ (by simp) hK

theorem low_in {xs : List (List Int)} (h : ∀ i, mayF (fr (xs.getD i []) 4)) : ∀ n, mayF (lowF xs n) ∧ mayF (highF xs n)
  | 0 => ⟨h 0, h 0⟩
  | n + 1 => by
    obtain ⟨h1, h2⟩ := low_in h n
    simp only [lowF, highF]
    constructor
    · split; exact h n; exact h1
    · split; exact h n; exact h2
theorem low_le {xs : List (List Int)} : ∀ n i, i < n → lowF xs n ≤ fr (xs.getD i []) 4 ∧ fr (xs.getD i []) 4 ≤ highF xs n
  | n + 1, i, hi => by
    simp only [lowF, highF]
    by_cases e : i = n
    · subst e
      constructor
      · split <;> omega
      · split <;> omega
    · obtain ⟨h1, h2⟩ := low_le (xs := xs) n i (by omega)
      constructor
      · split <;> omega
      · split <;> omega
theorem may_rows {xs : List (List Int)} (h : mayRs xs) (i : Nat) : mayR (xs.getD i []) := by
  by_cases hi : i < xs.length
  · rw [get_row hi]; exact h _ (List.getElem_mem hi)
  · have : xs.getD i [] = [] := by simp [List.getD, hi]
    rw [this]; exact ⟨by decide, by decide, by decide⟩
theorem cmp_lt {a b : Int} : cmpI a b < 0 ↔ a < b := by
  unfold cmpI; split
  · omega
  · split <;> omega
theorem lNl (d n0 : Nat) : LoopOk (envOf Try.prog NNear d) f_perigeelaw9_MassNear n0 1 (lp Try.prog f_perigeelaw9_MassNear 1) LNl := by
  intro st K hst
  obtain ⟨ns, xs, m, x, y, e, n, u, v, f, ⟨rfl, hr, hm, h0, hl, rfl⟩, hK⟩ := hst
  have hmi := fun i => (may_rows hm i).2.1
  refine loop_of (fun q : Nat => SNl ns xs ⟨m, x, y, e, n, u, v, f⟩ (lowF xs q) (highF xs q) q) (fun q => q ≤ xs.length) (fun q => xs.length - q) ?_ (a := 0) (Nat.zero_le _)
  intro q hle k hn hk
  show round (envOf Try.prog ⟨Γw3, _, fun _ => none⟩ d) _ _ _ _ _ k
  rw [rNearLow]
  rintro j1 e1 j2 e2 t3 e3 t4 e4 t5 e5 t6 e6 t7 e7 t8 e8 t9 e9
  obtain ⟨l1, l2⟩ := low_in hmi q
  rw [br_dec]
  constructor
  · intro hq
    have hq' : q < xs.length := by omega
    have eq : ((q : Nat) : Int).toNat = q := by omega
    rw [eq] at e3 e4
    have ok4 : u64ok t4 := by rw [e4]; exact lo_in hr q 5 (by decide) rfl
    have e6' : t6 = fr (xs.getD q []) 4 := by rw [e6, e3, e4]; rfl
    have ex : fr (xs.getD q []) 4 = t3 * 18446744073709551616 + t4 := by rw [← e6', e6]
    have p5 : t5 := by rw [e5]; omega
    have agg : IV.agg [.int .i64 t3, .int .u64 t4] = fx (fr (xs.getD q []) 4) := (fx_mk2 ok4 ex).symm
    have cells : ([.int .i64 t3, .int .u64 t4] : List IV) = [.int .i64 (fr (xs.getD q []) 4 / 18446744073709551616), .int .u64 (fr (xs.getD q []) 4 % 18446744073709551616)] := by
      unfold u64ok at ok4
      rw [ex, show (t3 * 18446744073709551616 + t4) / 18446744073709551616 = t3 by omega, show (t3 * 18446744073709551616 + t4) % 18446744073709551616 = t4 by omega]
    have p9 : t9 := by rw [e9, agg]; exact preFF_fx (hmi q) l2
    have next := hn (q + 1) hq' (by omega)
    have es : IntKind.i64.wrap ((q : Int) + 1) = ((q + 1 : Nat) : Int) := by rw [i64_in _ (by omega)]; rfl
    rw [es]
    have d7 : (t7 < 0) ↔ fr (xs.getD q []) 4 < lowF xs q := by rw [e7, e1, e6']; exact cmp_lt
    have d8 : (t8 > 0) ↔ highF xs q < fr (xs.getD q []) 4 := by rw [e8, e2, e6']; exact cmp_gt
    refine ⟨p5, p5, by rw [agg]; exact preFF_fx (hmi q) l1, ?_⟩
    rw [br_dec]
    simp only [lowF, highF] at next
    constructor
    · intro h7
      rw [if_pos (d7.1 h7)] at next
      refine ⟨p5, p5, p5, p5, p9, ?_⟩
      rw [br_dec]
      constructor
      · intro h8
        rw [if_pos (d8.1 h8)] at next
        refine ⟨p5, p5, ?_⟩
        rw [cells]
        exact next
      · intro h8
        rw [if_neg (fun h => h8 (d8.2 h))] at next
        rw [cells]
        exact next
    · intro h7
      rw [if_neg (fun h => h7 (d7.2 h))] at next
      refine ⟨p5, p5, p9, ?_⟩
      rw [br_dec]
      constructor
      · intro h8
        rw [if_pos (d8.1 h8)] at next
        refine ⟨p5, p5, ?_⟩
        rw [cells]
        exact next
      · intro h8
        rw [if_neg (fun h => h8 (d8.2 h))] at next
        exact next
  · intro hq
    have : q = xs.length := by omega
    subst this
    exact hk _ _ (by simp) hK
theorem knowNear : KnowOk Try.prog NNear 3 := by
  refine ⟨mixedOrders, fun g sp h => ctrsw3 h, ?_, fun g G h => by cases h⟩
  intro d' _ f i S n0 hS
  simp only [NNear] at hS
  split at hS
  · split at hS
    · cases hS
      rename_i hf hi
      subst hf; subst hi
      exact lNb d' n0
    · split at hS
      · cases hS
        rename_i hf _ hi
        subst hf; subst hi
        exact lNl d' n0
      · cases hS
  · cases hS
def pU8s (l : List IV) (bs : List Blk) : Prop := ∃ ns, l = [.sl 0] ∧ bs = [.ro [.u8] ns]
noncomputable def spMN : Vs.Spec := ⟨pU8s, fun _ _ => (.bool true, [])⟩
theorem c_MassNear : Contract Try.prog f_perigeelaw9_MassNear spMN := by
  refine contract_of (N := NNear) 3 knowNear ?_
  rintro l bs _ hB ⟨ns, rfl, rfl⟩
  have hb : okRows [.u8] ns ∧ 0 < [IntKind.u8].length ∧ ns.length ≤ maxLen := hB (.ro [.u8] ns) (List.mem_singleton.2 rfl)
  show comes _ _ _ _ _ _ _
  rw [v_MassNear]
  rintro t1 e1
  rw [bodies_len] at e1
  refine ⟨⟨ns, 12, rfl, rfl, by decide, by decide⟩, ?_⟩
  have hmade := bodies_made hb.1 (howMany ns 12)
  have hhow : howMany ns 12 ≤ 12 := Nat.min_le_right _ _
  rw [br_beq]
  refine ⟨fun _ => ⟨⟨rfl, rfl⟩, rfl⟩, fun h0 => ?_⟩
  have hlen := bodies_len ns (howMany ns 12)
  generalize bodiesF ns (howMany ns 12) = xs at *
  have hmb : ∀ r ∈ xs.reverse, made r := fun r hr => hmade r (List.mem_reverse.1 hr)
  have h0' : 0 < xs.length := by omega
  obtain ⟨k1, k2, k3, k4, k5, k6, k7⟩ := cen_plain (made_plain hmade) h0' (by omega) (by decide) (by decide) (by decide) (by decide)
  obtain ⟨l1, l2, l3, l4, l5, l6, l7⟩ := cen_plain (made_plain hmb) (by rw [List.length_reverse]; exact h0') (by rw [List.length_reverse]; omega) (by decide) (by decide) (by decide) (by decide)
  rw [tot_rev] at l2 l3 l4
  rw [tot_rev] at l3 l4
  have eX : cX xs.reverse = cX xs := by rw [l3, k3]
  have eY : cY xs.reverse = cY xs := by rw [l4, k4]
  have eM : cM xs.reverse = cM xs := by rw [l2, k2]
  have hmi := fun i => (may_rows (made_may hmade) i).2.1
  have hpl := made_plain hmade
  have b4 : ∀ i, i < xs.length → -2361183241434822606848 ≤ fr (xs.getD i []) 4 ∧ fr (xs.getD i []) 4 ≤ 2361183241434822606848 := fun i hi => by rw [get_row hi]; exact hpl.pX _ (List.getElem_mem hi)
  have lowb : ∀ n, n ≤ xs.length → (-2361183241434822606848 ≤ lowF xs n ∧ lowF xs n ≤ 2361183241434822606848) ∧ -2361183241434822606848 ≤ highF xs n ∧ highF xs n ≤ 2361183241434822606848 := by
    intro n
    induction n with
    | zero => intro _; exact ⟨b4 0 h0', b4 0 h0'⟩
    | succ n ih =>
      intro hn
      obtain ⟨i1, i2⟩ := ih (by omega)
      have := b4 n (by omega)
      simp only [lowF, highF]
      constructor
      · split <;> assumption
      · split <;> assumption
  obtain ⟨lb1, lb2⟩ := lowb xs.length (Nat.le_refl _)
  have hlo : lowF xs xs.length ≤ cX xs := k6 _ (fun r hr => by
    obtain ⟨i, hi, rfl⟩ := List.mem_iff_getElem.1 hr
    have := (low_le (xs := xs) xs.length i hi).1
    rw [get_row hi] at this
    exact this)
  have hhi : cX xs ≤ highF xs xs.length := k7 _ (fun r hr => by
    obtain ⟨i, hi, rfl⟩ := List.mem_iff_getElem.1 hr
    have := (low_le (xs := xs) xs.length i hi).2
    rw [get_row hi] at this
    exact this)
  have mX : mayF (cX xs) := ⟨by omega, by omega⟩
  refine ⟨ns, xs, ⟨rfl, made_len hmade, h0', by omega, by rw [e1, ← hlen]; rfl⟩, ⟨_, rfl, rfl, made_may hmade⟩, ⟨_, rfl, rfl, made_may hmb⟩, ⟨by decide, by omega⟩, ⟨by decide, by omega⟩, ⟨by decide, by omega⟩, ⟨by decide, by omega⟩,
    ns, xs, cM xs, cX xs, cY xs, cE xs, cM xs.reverse, cX xs.reverse, cY xs.reverse, cE xs.reverse, ⟨rfl, made_rows hmade, made_may hmade, h0', by omega, ?_⟩, ?_⟩
  · have ok5 : u64ok (rd xs 0 5) := lo_in (made_rows hmade) 0 5 (by decide) rfl
    have c0 : ([.int .i64 (rd xs 0 4), .int .u64 (rd xs 0 5)] : List IV) = (fx (fr (xs.getD 0 []) 4)).cells := by
      have ex : fr (xs.getD 0 []) 4 = rd xs 0 4 * 18446744073709551616 + rd xs 0 5 := rfl
      have := fx_mk2 ok5 ex
      rw [this]; rfl
    rw [c0]
    rfl
  have half : mayF 1024 := ⟨by decide, by decide⟩
  have mlo : mayF (lowF xs xs.length - 1024) := ⟨by omega, by omega⟩
  have mhi : mayF (highF xs xs.length + 1024) := ⟨by omega, by omega⟩
  refine ⟨⟨_, 1024, rfl, rfl, ⟨by omega, by omega⟩, half⟩, ⟨_, 1024, rfl, rfl, ⟨by omega, by omega⟩, half⟩, by rw [k1]; exact preI_of ⟨by decide, by decide⟩, by rw [l1]; exact preI_of ⟨by decide, by decide⟩, ?_⟩
  rw [k1, l1, eM, eX, eY]
  simp only [join, num_may mlo, num_may mhi, decide_true, Bool.and_true, Bool.and_self]
  refine br_is rfl (br_is rfl (br_is rfl ⟨preFF_fx mX mlo, br_is (decide_eq_true (cmpI_ge.2 (by omega))) ⟨preFF_fx mX mhi, br_is (decide_eq_true (cmpI_le.2 (by omega))) ⟨⟨rfl, rfl⟩, rfl⟩⟩⟩))
theorem lawMW_of {m a b c d : Int} (k0 : inK .u8 m) (k1 : inK .i16 a) (k2 : inK .i16 b) (k3 : inK .i16 c) (k4 : inK .i16 d) : pMW [.int .u8 m, .int .i16 a, .int .i16 b, .int .i16 c, .int .i16 d] [] := by
  have h0 : 0 ≤ m ∧ m ≤ 255 := k0
  have h1 : -32768 ≤ a ∧ a ≤ 32767 := k1
  have h2 : -32768 ≤ b ∧ b ≤ 32767 := k2
  have h3 : -32768 ≤ c ∧ c ≤ 32767 := k3
  have h4 : -32768 ≤ d ∧ d ≤ 32767 := k4
  unfold pMW u8ok i16ok
  exact ⟨m, a, b, c, d, rfl, rfl, by omega, by omega, by omega, by omega, by omega⟩
theorem lawNs_of (ns : List (List Int)) : pU8s [.sl 0] [.ro [.u8] ns] := ⟨ns, rfl, rfl⟩
end Go.Vs.RF
