import Derived.Test.YtoccmfelheinhaaR3C
set_option linter.unusedVariables false
/- mass: sums over bodies, the centre -/
namespace Go.Vs.RF
open Go Go.Proofs Go.Vs
def ksB : List IntKind := [.i64, .u64, .i64, .u64, .i64, .u64, .i64, .u64, .i64, .u64, .i64, .u64, .i64, .u64, .i64, .u64, .i64, .u64, .i64, .i64]
abbrev t_ofV : TypeId := 134
def fr (r : List Int) (j : Nat) : Int := r.getD j 0 * 18446744073709551616 + r.getD (j + 1) 0
def tmN (w : Nat) (r : List Int) : Int := if w = 0 then fr r 0 else numF (mulI (fr r 0) (fr r w))
def tmE (w : Nat) (r : List Int) : Int := if w = 0 then 0 else errF (mulI (fr r 0) (fr r w))
def sumG (w : Nat) : List (List Int) → Int → Int × Int
  | [], a => (a, 0)
  | r :: l, a => if tmE w r ≠ 0 then (0, tmE w r) else if errF (a + tmN w r) ≠ 0 then (0, errF (a + tmN w r)) else sumG w l (a + tmN w r)
def sumN (w : Nat) (xs : List (List Int)) : Int := (sumG w xs 0).1
def sumE (w : Nat) (xs : List (List Int)) : Int := (sumG w xs 0).2
def mayR (r : List Int) : Prop := mayF (fr r 0) ∧ mayF (fr r 4) ∧ mayF (fr r 6)
def mayRs (xs : List (List Int)) : Prop := ∀ r ∈ xs, mayR r
def bodyR (r : List Int) : IV := .agg (rowCells ksB [r] 0 0 20)
def rowB (r : List Int) : Prop := ∀ j, j < 20 → inK (ksB.getD j .i64) (r.getD j 0)
def pVX (l : List IV) (bs : List Blk) : Prop := ∃ x y, l = [vx x y] ∧ bs = []
def pB1 (l : List IV) (bs : List Blk) : Prop := ∃ r, l = [bodyR r] ∧ bs = []
noncomputable def spPX : Vs.Spec := ⟨pVX, fun l _ => (fx (v2 l 0), [])⟩
noncomputable def spPY : Vs.Spec := ⟨pVX, fun l _ => (fx (vy l 0), [])⟩
noncomputable def spC1 : Vs.Spec := ⟨pB1, fun l _ => (.tup [.agg [.int .i64 (argI l 0 0), .int .u64 (argI l 0 1)], .int .i64 0], [])⟩
noncomputable def Γu : FuncId → Option Vs.Spec := fun g => if g = f_mass_Centre_3 then some spPX else if g = f_mass_Centre_4 then some spPY else if g = f_mass_Centre_1 then some spC1 else Γt3 g
noncomputable def Nu : Know := ⟨Γu, fun _ _ => none, fun _ => none⟩
theorem v_PX (x y : Int) (K : IV → List Blk → Prop) : (comes Try.prog Nt3 3 f_mass_Centre_3 [vx x y] [] K) = (K (fx x) []) := by kernel_rfl
theorem v_PY (x y : Int) (K : IV → List Blk → Prop) : (comes Try.prog Nt3 3 f_mass_Centre_4 [vx x y] [] K) = (K (fx y) []) := by kernel_rfl
theorem v_C1 (r : List Int) (K : IV → List Blk → Prop) : (comes Try.prog Nt3 3 f_mass_Centre_1 [bodyR r] [] K) = (K (IV.tup [IV.agg [IV.int IntKind.i64 (rd [r] (0 : Nat) (0 : Nat)), IV.int IntKind.u64 (rd [r] (0 : Nat) (1 : Nat))], IV.int IntKind.i64 (0 : Int)]) []) := by kernel_rfl
noncomputable def whF (b : List (Option Blk)) : Nat := match look b 0 with
  | some (.var _ [.fn g _]) => if g = f_mass_Centre_3 then 4 else 6
  | _ => 0
def p21 (args : List IV) (b : List (Option Blk)) : Prop := ∃ r, args = [bodyR r, .ptr 0 0] ∧ rowB r ∧ mayR r ∧ (b = [some (.var 134 [.fn f_mass_Centre_3 []])] ∨ b = [some (.var 134 [.fn f_mass_Centre_4 []])])
noncomputable def G21 : FunS := fun args b K => p21 args b ∧ K (.tup [fx (numF (mulI (v2 args 0) (argI args 0 (whF b) * 18446744073709551616 + argI args 0 (whF b + 1)))), .int .i64 (errF (mulI (v2 args 0) (argI args 0 (whF b) * 18446744073709551616 + argI args 0 (whF b + 1))))]) b
theorem v_21X (r : List Int) (K : IV → List (Option Blk) → Prop) : (runFn Try.prog Nu 3 f_mass_Centre_2_1 [bodyR r, .ptr 0 0] [some (.var 134 [.fn f_mass_Centre_3 []])] fun v b1 => gcV 1 v b1 K) = (∀ (t1 : Int), t1 = rd [r] (0 : Nat) (4 : Nat) * (18446744073709551616 : Int) + rd [r] (0 : Nat) (5 : Nat) → ∀ (j2 : Int), j2 = t1 → ∀ (t3 : Int), t3 = rd [r] (0 : Nat) (0 : Nat) → ∀ (t4 : Int), t4 = rd [r] (0 : Nat) (1 : Nat) → ∀ (t5 : Int), t5 = mulI (t3 * (18446744073709551616 : Int) + t4) j2 → ∀ (t6 : Int), t6 = numF t5 → ∀ (t7 : Prop), t7 = may2 [IV.agg [IV.int IntKind.i64 t3, IV.int IntKind.u64 t4], fx t1] [] → ∀ (t8 : Prop), t8 = pVX [IV.agg [IV.int IntKind.i64 (rd [r] (0 : Nat) (4 : Nat)), IV.int IntKind.u64 (rd [r] (0 : Nat) (5 : Nat)), IV.int IntKind.i64 (rd [r] (0 : Nat) (6 : Nat)), IV.int IntKind.u64 (rd [r] (0 : Nat) (7 : Nat))]] [] → ∀ (t9 : St), t9 = St.mk [some (IV.agg [IV.int IntKind.i64 t3, IV.int IntKind.u64 t4, IV.int IntKind.i64 (rd [r] (0 : Nat) (2 : Nat)), IV.int IntKind.u64 (rd [r] (0 : Nat) (3 : Nat)), IV.int IntKind.i64 (rd [r] (0 : Nat) (4 : Nat)), IV.int IntKind.u64 (rd [r] (0 : Nat) (5 : Nat)), IV.int IntKind.i64 (rd [r] (0 : Nat) (6 : Nat)), IV.int IntKind.u64 (rd [r] (0 : Nat) (7 : Nat)), IV.int IntKind.i64 (rd [r] (0 : Nat) (8 : Nat)), IV.int IntKind.u64 (rd [r] (0 : Nat) (9 : Nat)), IV.int IntKind.i64 (rd [r] (0 : Nat) (10 : Nat)), IV.int IntKind.u64 (rd [r] (0 : Nat) (11 : Nat)), IV.int IntKind.i64 (rd [r] (0 : Nat) (12 : Nat)), IV.int IntKind.u64 (rd [r] (0 : Nat) (13 : Nat)), IV.int IntKind.i64 (rd [r] (0 : Nat) (14 : Nat)), IV.int IntKind.u64 (rd [r] (0 : Nat) (15 : Nat)), IV.int IntKind.i64 (rd [r] (0 : Nat) (16 : Nat)), IV.int IntKind.u64 (rd [r] (0 : Nat) (17 : Nat)), IV.int IntKind.i64 (rd [r] (0 : Nat) (18 : Nat)), IV.int IntKind.i64 (rd [r] (0 : Nat) (19 : Nat))]), some (IV.ptr (0 : Nat) (0 : Nat)), some (IV.ptr (1 : Nat) (0 : Nat)), some (IV.ptr (2 : Nat) (0 : Nat)), some (IV.int IntKind.i64 (errF t5)), some (IV.ptr (1 : Nat) (0 : Nat)), some (IV.agg [IV.int IntKind.i64 t3, IV.int IntKind.u64 t4]), some (IV.fn (86 : Nat) []), some (IV.ptr (1 : Nat) (4 : Nat)), some (IV.agg [IV.int IntKind.i64 (rd [r] (0 : Nat) (4 : Nat)), IV.int IntKind.u64 (rd [r] (0 : Nat) (5 : Nat)), IV.int IntKind.i64 (rd [r] (0 : Nat) (6 : Nat)), IV.int IntKind.u64 (rd [r] (0 : Nat) (7 : Nat))]), some (fx t1), some (IV.tup [fx t6, IV.int IntKind.i64 (errF t5)]), some (fx t6), some (IV.int IntKind.i64 (errF t5))] [some (Blk.var (134 : Nat) [IV.fn (86 : Nat) []]), some (Blk.var (32 : Nat) [IV.int IntKind.i64 t3, IV.int IntKind.u64 t4, IV.int IntKind.i64 (rd [r] (0 : Nat) (2 : Nat)), IV.int IntKind.u64 (rd [r] (0 : Nat) (3 : Nat)), IV.int IntKind.i64 (rd [r] (0 : Nat) (4 : Nat)), IV.int IntKind.u64 (rd [r] (0 : Nat) (5 : Nat)), IV.int IntKind.i64 (rd [r] (0 : Nat) (6 : Nat)), IV.int IntKind.u64 (rd [r] (0 : Nat) (7 : Nat)), IV.int IntKind.i64 (rd [r] (0 : Nat) (8 : Nat)), IV.int IntKind.u64 (rd [r] (0 : Nat) (9 : Nat)), IV.int IntKind.i64 (rd [r] (0 : Nat) (10 : Nat)), IV.int IntKind.u64 (rd [r] (0 : Nat) (11 : Nat)), IV.int IntKind.i64 (rd [r] (0 : Nat) (12 : Nat)), IV.int IntKind.u64 (rd [r] (0 : Nat) (13 : Nat)), IV.int IntKind.i64 (rd [r] (0 : Nat) (14 : Nat)), IV.int IntKind.u64 (rd [r] (0 : Nat) (15 : Nat)), IV.int IntKind.i64 (rd [r] (0 : Nat) (16 : Nat)), IV.int IntKind.u64 (rd [r] (0 : Nat) (17 : Nat)), IV.int IntKind.i64 (rd [r] (0 : Nat) (18 : Nat)), IV.int IntKind.i64 (rd [r] (0 : Nat) (19 : Nat))]), some (Blk.var (28 : Nat) [IV.int IntKind.i64 (t6 / (18446744073709551616 : Int)), IV.int IntKind.u64 (t6 % (18446744073709551616 : Int))])] → t8 ∧ t7 ∧ (t8 ∧ t7 ∧ t9 = t9) ∧ K (IV.tup [fx t6, IV.int IntKind.i64 (errF t5)]) [some (Blk.var (134 : Nat) [IV.fn (86 : Nat) []])]) := by refine nm ?_; refine nj ?_; refine nm ?_; refine nm ?_; refine nm ?_; refine nm ?_; refine nm ?_; refine nm ?_; refine nm ?_; kernel_rfl
theorem v_21Y (r : List Int) (K : IV → List (Option Blk) → Prop) : (runFn Try.prog Nu 3 f_mass_Centre_2_1 [bodyR r, .ptr 0 0] [some (.var 134 [.fn f_mass_Centre_4 []])] fun v b1 => gcV 1 v b1 K) = (∀ (t1 : Int), t1 = rd [r] (0 : Nat) (6 : Nat) * (18446744073709551616 : Int) + rd [r] (0 : Nat) (7 : Nat) → ∀ (j2 : Int), j2 = t1 → ∀ (t3 : Int), t3 = rd [r] (0 : Nat) (0 : Nat) → ∀ (t4 : Int), t4 = rd [r] (0 : Nat) (1 : Nat) → ∀ (t5 : Int), t5 = mulI (t3 * (18446744073709551616 : Int) + t4) j2 → ∀ (t6 : Int), t6 = numF t5 → ∀ (t7 : Prop), t7 = may2 [IV.agg [IV.int IntKind.i64 t3, IV.int IntKind.u64 t4], fx t1] [] → ∀ (t8 : Prop), t8 = pVX [IV.agg [IV.int IntKind.i64 (rd [r] (0 : Nat) (4 : Nat)), IV.int IntKind.u64 (rd [r] (0 : Nat) (5 : Nat)), IV.int IntKind.i64 (rd [r] (0 : Nat) (6 : Nat)), IV.int IntKind.u64 (rd [r] (0 : Nat) (7 : Nat))]] [] → ∀ (t9 : St), t9 = St.mk [some (IV.agg [IV.int IntKind.i64 t3, IV.int IntKind.u64 t4, IV.int IntKind.i64 (rd [r] (0 : Nat) (2 : Nat)), IV.int IntKind.u64 (rd [r] (0 : Nat) (3 : Nat)), IV.int IntKind.i64 (rd [r] (0 : Nat) (4 : Nat)), IV.int IntKind.u64 (rd [r] (0 : Nat) (5 : Nat)), IV.int IntKind.i64 (rd [r] (0 : Nat) (6 : Nat)), IV.int IntKind.u64 (rd [r] (0 : Nat) (7 : Nat)), IV.int IntKind.i64 (rd [r] (0 : Nat) (8 : Nat)), IV.int IntKind.u64 (rd [r] (0 : Nat) (9 : Nat)), IV.int IntKind.i64 (rd [r] (0 : Nat) (10 : Nat)), IV.int IntKind.u64 (rd [r] (0 : Nat) (11 : Nat)), IV.int IntKind.i64 (rd [r] (0 : Nat) (12 : Nat)), IV.int IntKind.u64 (rd [r] (0 : Nat) (13 : Nat)), IV.int IntKind.i64 (rd [r] (0 : Nat) (14 : Nat)), IV.int IntKind.u64 (rd [r] (0 : Nat) (15 : Nat)), IV.int IntKind.i64 (rd [r] (0 : Nat) (16 : Nat)), IV.int IntKind.u64 (rd [r] (0 : Nat) (17 : Nat)), IV.int IntKind.i64 (rd [r] (0 : Nat) (18 : Nat)), IV.int IntKind.i64 (rd [r] (0 : Nat) (19 : Nat))]), some (IV.ptr (0 : Nat) (0 : Nat)), some (IV.ptr (1 : Nat) (0 : Nat)), some (IV.ptr (2 : Nat) (0 : Nat)), some (IV.int IntKind.i64 (errF t5)), some (IV.ptr (1 : Nat) (0 : Nat)), some (IV.agg [IV.int IntKind.i64 t3, IV.int IntKind.u64 t4]), some (IV.fn (87 : Nat) []), some (IV.ptr (1 : Nat) (4 : Nat)), some (IV.agg [IV.int IntKind.i64 (rd [r] (0 : Nat) (4 : Nat)), IV.int IntKind.u64 (rd [r] (0 : Nat) (5 : Nat)), IV.int IntKind.i64 (rd [r] (0 : Nat) (6 : Nat)), IV.int IntKind.u64 (rd [r] (0 : Nat) (7 : Nat))]), some (fx t1), some (IV.tup [fx t6, IV.int IntKind.i64 (errF t5)]), some (fx t6), some (IV.int IntKind.i64 (errF t5))] [some (Blk.var (134 : Nat) [IV.fn (87 : Nat) []]), some (Blk.var (32 : Nat) [IV.int IntKind.i64 t3, IV.int IntKind.u64 t4, IV.int IntKind.i64 (rd [r] (0 : Nat) (2 : Nat)), IV.int IntKind.u64 (rd [r] (0 : Nat) (3 : Nat)), IV.int IntKind.i64 (rd [r] (0 : Nat) (4 : Nat)), IV.int IntKind.u64 (rd [r] (0 : Nat) (5 : Nat)), IV.int IntKind.i64 (rd [r] (0 : Nat) (6 : Nat)), IV.int IntKind.u64 (rd [r] (0 : Nat) (7 : Nat)), IV.int IntKind.i64 (rd [r] (0 : Nat) (8 : Nat)), IV.int IntKind.u64 (rd [r] (0 : Nat) (9 : Nat)), IV.int IntKind.i64 (rd [r] (0 : Nat) (10 : Nat)), IV.int IntKind.u64 (rd [r] (0 : Nat) (11 : Nat)), IV.int IntKind.i64 (rd [r] (0 : Nat) (12 : Nat)), IV.int IntKind.u64 (rd [r] (0 : Nat) (13 : Nat)), IV.int IntKind.i64 (rd [r] (0 : Nat) (14 : Nat)), IV.int IntKind.u64 (rd [r] (0 : Nat) (15 : Nat)), IV.int IntKind.i64 (rd [r] (0 : Nat) (16 : Nat)), IV.int IntKind.u64 (rd [r] (0 : Nat) (17 : Nat)), IV.int IntKind.i64 (rd [r] (0 : Nat) (18 : Nat)), IV.int IntKind.i64 (rd [r] (0 : Nat) (19 : Nat))]), some (Blk.var (28 : Nat) [IV.int IntKind.i64 (t6 / (18446744073709551616 : Int)), IV.int IntKind.u64 (t6 % (18446744073709551616 : Int))])] → t8 ∧ t7 ∧ (t8 ∧ t7 ∧ t9 = t9) ∧ K (IV.tup [fx t6, IV.int IntKind.i64 (errF t5)]) [some (Blk.var (134 : Nat) [IV.fn (87 : Nat) []])]) := by refine nm ?_; refine nj ?_; refine nm ?_; refine nm ?_; refine nm ?_; refine nm ?_; refine nm ?_; refine nm ?_; refine nm ?_; kernel_rfl
noncomputable def Τu : FuncId → Option FunS := fun g => if g = f_mass_Centre_2_1 then some G21 else none
def SsA (xs : List (List Int)) (a i : Int) : St := ⟨T 39 [(1, .fn f_mass_Centre_1 []), (4, .ptr 1 0), (6, .ptr 2 0), (11, .sl 0), (12, .int .i64 xs.length), (13, .int .i64 i)], [some (.ro ksB xs), some (.var 28 [.int .i64 0, .int .u64 0]), some (.var 28 (fx a).cells)]⟩
def SsB (g : FuncId) (xs : List (List Int)) (a i : Int) : St := ⟨T 39 [(1, .fn f_mass_Centre_2_1 [.ptr 1 0]), (4, .ptr 2 0), (6, .ptr 3 0), (11, .sl 0), (12, .int .i64 xs.length), (13, .int .i64 i)], [some (.ro ksB xs), some (.var 134 [.fn g []]), some (.var 28 [.int .i64 0, .int .u64 0]), some (.var 28 (fx a).cells)]⟩
theorem rSumA (Λ : FuncId → Nat → Option LoopS) (d : Nat) (xs : List (List Int)) (a i : Int) (k : Out → St → Prop) : (round (envOf Try.prog ⟨Γu, Λ, Τu⟩ d) f_mass_sum 1 0 (lp Try.prog f_mass_sum 0) (SsA xs a i) k) = (∀ (j1 : Int), j1 = a → ∀ (t2 : Int), t2 = rd xs i.toNat (0 : Nat) → ∀ (t3 : Int), t3 = rd xs i.toNat (1 : Nat) → ∀ (t4 : Int), t4 = j1 + (t2 * (18446744073709551616 : Int) + t3) → ∀ (t5 : Int), t5 = errF t4 → ∀ (t6 : Int), t6 = numF t4 → br (decide (i < (↑xs.length : Int))) (((0 : Int) ≤ i ∧ i < (↑xs.length : Int)) ∧ ((0 : Int) ≤ i ∧ i < (↑xs.length : Int)) ∧ pB1 [IV.agg [IV.int IntKind.i64 t2, IV.int IntKind.u64 t3, IV.int IntKind.i64 (rd xs i.toNat (2 : Nat)), IV.int IntKind.u64 (rd xs i.toNat (3 : Nat)), IV.int IntKind.i64 (rd xs i.toNat (4 : Nat)), IV.int IntKind.u64 (rd xs i.toNat (5 : Nat)), IV.int IntKind.i64 (rd xs i.toNat (6 : Nat)), IV.int IntKind.u64 (rd xs i.toNat (7 : Nat)), IV.int IntKind.i64 (rd xs i.toNat (8 : Nat)), IV.int IntKind.u64 (rd xs i.toNat (9 : Nat)), IV.int IntKind.i64 (rd xs i.toNat (10 : Nat)), IV.int IntKind.u64 (rd xs i.toNat (11 : Nat)), IV.int IntKind.i64 (rd xs i.toNat (12 : Nat)), IV.int IntKind.u64 (rd xs i.toNat (13 : Nat)), IV.int IntKind.i64 (rd xs i.toNat (14 : Nat)), IV.int IntKind.u64 (rd xs i.toNat (15 : Nat)), IV.int IntKind.i64 (rd xs i.toNat (16 : Nat)), IV.int IntKind.u64 (rd xs i.toNat (17 : Nat)), IV.int IntKind.i64 (rd xs i.toNat (18 : Nat)), IV.int IntKind.i64 (rd xs i.toNat (19 : Nat))]] [] ∧ may2 [fx a, IV.agg [IV.int IntKind.i64 t2, IV.int IntKind.u64 t3]] [] ∧ br (t5 != (0 : Int)) (k Out.ret (St.mk (T (39 : Nat) [((4 : Nat), IV.ptr (1 : Nat) (0 : Nat)), ((5 : Nat), IV.int IntKind.i64 t5)]) [some (Blk.ro ksB xs), some (Blk.var (28 : Nat) [IV.int IntKind.i64 (0 : Int), IV.int IntKind.u64 (0 : Int)])])) (k Out.normal (St.mk (T (39 : Nat) [((1 : Nat), IV.fn (81 : Nat) []), ((4 : Nat), IV.ptr (1 : Nat) (0 : Nat)), ((6 : Nat), IV.ptr (2 : Nat) (0 : Nat)), ((11 : Nat), IV.sl (0 : Nat)), ((12 : Nat), IV.int IntKind.i64 (↑xs.length : Int)), ((13 : Nat), IV.int IntKind.i64 (IntKind.i64.wrap (i + (1 : Int))))]) [some (Blk.ro ksB xs), some (Blk.var (28 : Nat) [IV.int IntKind.i64 (0 : Int), IV.int IntKind.u64 (0 : Int)]), some (Blk.var (28 : Nat) [IV.int IntKind.i64 (t6 / (18446744073709551616 : Int)), IV.int IntKind.u64 (t6 % (18446744073709551616 : Int))])]))) (k (Out.exit (0 : Nat)) (St.mk (T (39 : Nat) [((4 : Nat), IV.ptr (1 : Nat) (0 : Nat)), ((6 : Nat), IV.ptr (2 : Nat) (0 : Nat))]) [some (Blk.ro ksB xs), some (Blk.var (28 : Nat) [IV.int IntKind.i64 (0 : Int), IV.int IntKind.u64 (0 : Int)]), some (Blk.var (28 : Nat) [IV.int IntKind.i64 (a / (18446744073709551616 : Int)), IV.int IntKind.u64 (a % (18446744073709551616 : Int))])]))) := by refine nj ?_; refine nm ?_; refine nm ?_; refine nm ?_; refine nm ?_; refine nm ?_; kernel_rfl
theorem rSumX (Λ : FuncId → Nat → Option LoopS) (d : Nat) (xs : List (List Int)) (a i : Int) (k : Out → St → Prop) : (round (envOf Try.prog ⟨Γu, Λ, Τu⟩ d) f_mass_sum 2 0 (lp Try.prog f_mass_sum 0) (SsB f_mass_Centre_3 xs a i) k) = (∀ (j1 : Int), j1 = a → ∀ (t2 : Int), t2 = numF (mulI (rd xs i.toNat (0 : Nat) * (18446744073709551616 : Int) + rd xs i.toNat (1 : Nat)) (rd xs i.toNat (4 : Nat) * (18446744073709551616 : Int) + rd xs i.toNat (5 : Nat))) → ∀ (j3 : Int), j3 = t2 → ∀ (t4 : Int), t4 = rd xs i.toNat (0 : Nat) → ∀ (t5 : Int), t5 = rd xs i.toNat (1 : Nat) → ∀ (t6 : Int), t6 = rd xs i.toNat (4 : Nat) → ∀ (t7 : Int), t7 = rd xs i.toNat (5 : Nat) → ∀ (t8 : Int), t8 = errF (j1 + j3) → ∀ (t9 : Int), t9 = numF (j1 + j3) → ∀ (t10 : Int), t10 = errF (mulI (t4 * (18446744073709551616 : Int) + t5) (t6 * (18446744073709551616 : Int) + t7)) → br (decide (i < (↑xs.length : Int))) (((0 : Int) ≤ i ∧ i < (↑xs.length : Int)) ∧ ((0 : Int) ≤ i ∧ i < (↑xs.length : Int)) ∧ p21 [IV.agg [IV.int IntKind.i64 t4, IV.int IntKind.u64 t5, IV.int IntKind.i64 (rd xs i.toNat (2 : Nat)), IV.int IntKind.u64 (rd xs i.toNat (3 : Nat)), IV.int IntKind.i64 t6, IV.int IntKind.u64 t7, IV.int IntKind.i64 (rd xs i.toNat (6 : Nat)), IV.int IntKind.u64 (rd xs i.toNat (7 : Nat)), IV.int IntKind.i64 (rd xs i.toNat (8 : Nat)), IV.int IntKind.u64 (rd xs i.toNat (9 : Nat)), IV.int IntKind.i64 (rd xs i.toNat (10 : Nat)), IV.int IntKind.u64 (rd xs i.toNat (11 : Nat)), IV.int IntKind.i64 (rd xs i.toNat (12 : Nat)), IV.int IntKind.u64 (rd xs i.toNat (13 : Nat)), IV.int IntKind.i64 (rd xs i.toNat (14 : Nat)), IV.int IntKind.u64 (rd xs i.toNat (15 : Nat)), IV.int IntKind.i64 (rd xs i.toNat (16 : Nat)), IV.int IntKind.u64 (rd xs i.toNat (17 : Nat)), IV.int IntKind.i64 (rd xs i.toNat (18 : Nat)), IV.int IntKind.i64 (rd xs i.toNat (19 : Nat))], IV.ptr (0 : Nat) (0 : Nat)] [some (Blk.var (134 : Nat) [IV.fn (86 : Nat) []])] ∧ br (t10 != (0 : Int)) (k Out.ret (St.mk (T (39 : Nat) [((4 : Nat), IV.ptr (2 : Nat) (0 : Nat)), ((5 : Nat), IV.int IntKind.i64 t10)]) [some (Blk.ro ksB xs), some (Blk.var (134 : Nat) [IV.fn (86 : Nat) []]), some (Blk.var (28 : Nat) [IV.int IntKind.i64 (0 : Int), IV.int IntKind.u64 (0 : Int)])])) (may2 [fx a, fx t2] [] ∧ br (t8 != (0 : Int)) (k Out.ret (St.mk (T (39 : Nat) [((4 : Nat), IV.ptr (2 : Nat) (0 : Nat)), ((5 : Nat), IV.int IntKind.i64 t8)]) [some (Blk.ro ksB xs), some (Blk.var (134 : Nat) [IV.fn (86 : Nat) []]), some (Blk.var (28 : Nat) [IV.int IntKind.i64 (0 : Int), IV.int IntKind.u64 (0 : Int)])])) (k Out.normal (St.mk (T (39 : Nat) [((1 : Nat), IV.fn (83 : Nat) [IV.ptr (1 : Nat) (0 : Nat)]), ((4 : Nat), IV.ptr (2 : Nat) (0 : Nat)), ((6 : Nat), IV.ptr (3 : Nat) (0 : Nat)), ((11 : Nat), IV.sl (0 : Nat)), ((12 : Nat), IV.int IntKind.i64 (↑xs.length : Int)), ((13 : Nat), IV.int IntKind.i64 (IntKind.i64.wrap (i + (1 : Int))))]) [some (Blk.ro ksB xs), some (Blk.var (134 : Nat) [IV.fn (86 : Nat) []]), some (Blk.var (28 : Nat) [IV.int IntKind.i64 (0 : Int), IV.int IntKind.u64 (0 : Int)]), some (Blk.var (28 : Nat) [IV.int IntKind.i64 (t9 / (18446744073709551616 : Int)), IV.int IntKind.u64 (t9 % (18446744073709551616 : Int))])])))) (k (Out.exit (0 : Nat)) (St.mk (T (39 : Nat) [((4 : Nat), IV.ptr (2 : Nat) (0 : Nat)), ((6 : Nat), IV.ptr (3 : Nat) (0 : Nat))]) [some (Blk.ro ksB xs), some (Blk.var (134 : Nat) [IV.fn (86 : Nat) []]), some (Blk.var (28 : Nat) [IV.int IntKind.i64 (0 : Int), IV.int IntKind.u64 (0 : Int)]), some (Blk.var (28 : Nat) [IV.int IntKind.i64 (a / (18446744073709551616 : Int)), IV.int IntKind.u64 (a % (18446744073709551616 : Int))])]))) := by refine nj ?_; refine nm ?_; refine nj ?_; refine nm ?_; refine nm ?_; refine nm ?_; refine nm ?_; refine nm ?_; refine nm ?_; refine nm ?_; kernel_rfl
theorem rSumY (Λ : FuncId → Nat → Option LoopS) (d : Nat) (xs : List (List Int)) (a i : Int) (k : Out → St → Prop) : (round (envOf Try.prog ⟨Γu, Λ, Τu⟩ d) f_mass_sum 2 0 (lp Try.prog f_mass_sum 0) (SsB f_mass_Centre_4 xs a i) k) = (∀ (j1 : Int), j1 = a → ∀ (t2 : Int), t2 = numF (mulI (rd xs i.toNat (0 : Nat) * (18446744073709551616 : Int) + rd xs i.toNat (1 : Nat)) (rd xs i.toNat (6 : Nat) * (18446744073709551616 : Int) + rd xs i.toNat (7 : Nat))) → ∀ (j3 : Int), j3 = t2 → ∀ (t4 : Int), t4 = rd xs i.toNat (0 : Nat) → ∀ (t5 : Int), t5 = rd xs i.toNat (1 : Nat) → ∀ (t6 : Int), t6 = rd xs i.toNat (6 : Nat) → ∀ (t7 : Int), t7 = rd xs i.toNat (7 : Nat) → ∀ (t8 : Int), t8 = errF (j1 + j3) → ∀ (t9 : Int), t9 = numF (j1 + j3) → ∀ (t10 : Int), t10 = errF (mulI (t4 * (18446744073709551616 : Int) + t5) (t6 * (18446744073709551616 : Int) + t7)) → br (decide (i < (↑xs.length : Int))) (((0 : Int) ≤ i ∧ i < (↑xs.length : Int)) ∧ ((0 : Int) ≤ i ∧ i < (↑xs.length : Int)) ∧ p21 [IV.agg [IV.int IntKind.i64 t4, IV.int IntKind.u64 t5, IV.int IntKind.i64 (rd xs i.toNat (2 : Nat)), IV.int IntKind.u64 (rd xs i.toNat (3 : Nat)), IV.int IntKind.i64 (rd xs i.toNat (4 : Nat)), IV.int IntKind.u64 (rd xs i.toNat (5 : Nat)), IV.int IntKind.i64 t6, IV.int IntKind.u64 t7, IV.int IntKind.i64 (rd xs i.toNat (8 : Nat)), IV.int IntKind.u64 (rd xs i.toNat (9 : Nat)), IV.int IntKind.i64 (rd xs i.toNat (10 : Nat)), IV.int IntKind.u64 (rd xs i.toNat (11 : Nat)), IV.int IntKind.i64 (rd xs i.toNat (12 : Nat)), IV.int IntKind.u64 (rd xs i.toNat (13 : Nat)), IV.int IntKind.i64 (rd xs i.toNat (14 : Nat)), IV.int IntKind.u64 (rd xs i.toNat (15 : Nat)), IV.int IntKind.i64 (rd xs i.toNat (16 : Nat)), IV.int IntKind.u64 (rd xs i.toNat (17 : Nat)), IV.int IntKind.i64 (rd xs i.toNat (18 : Nat)), IV.int IntKind.i64 (rd xs i.toNat (19 : Nat))], IV.ptr (0 : Nat) (0 : Nat)] [some (Blk.var (134 : Nat) [IV.fn (87 : Nat) []])] ∧ br (t10 != (0 : Int)) (k Out.ret (St.mk (T (39 : Nat) [((4 : Nat), IV.ptr (2 : Nat) (0 : Nat)), ((5 : Nat), IV.int IntKind.i64 t10)]) [some (Blk.ro ksB xs), some (Blk.var (134 : Nat) [IV.fn (87 : Nat) []]), some (Blk.var (28 : Nat) [IV.int IntKind.i64 (0 : Int), IV.int IntKind.u64 (0 : Int)])])) (may2 [fx a, fx t2] [] ∧ br (t8 != (0 : Int)) (k Out.ret (St.mk (T (39 : Nat) [((4 : Nat), IV.ptr (2 : Nat) (0 : Nat)), ((5 : Nat), IV.int IntKind.i64 t8)]) [some (Blk.ro ksB xs), some (Blk.var (134 : Nat) [IV.fn (87 : Nat) []]), some (Blk.var (28 : Nat) [IV.int IntKind.i64 (0 : Int), IV.int IntKind.u64 (0 : Int)])])) (k Out.normal (St.mk (T (39 : Nat) [((1 : Nat), IV.fn (83 : Nat) [IV.ptr (1 : Nat) (0 : Nat)]), ((4 : Nat), IV.ptr (2 : Nat) (0 : Nat)), ((6 : Nat), IV.ptr (3 : Nat) (0 : Nat)), ((11 : Nat), IV.sl (0 : Nat)), ((12 : Nat), IV.int IntKind.i64 (↑xs.length : Int)), ((13 : Nat), IV.int IntKind.i64 (IntKind.i64.wrap (i + (1 : Int))))]) [some (Blk.ro ksB xs), some (Blk.var (134 : Nat) [IV.fn (87 : Nat) []]), some (Blk.var (28 : Nat) [IV.int IntKind.i64 (0 : Int), IV.int IntKind.u64 (0 : Int)]), some (Blk.var (28 : Nat) [IV.int IntKind.i64 (t9 / (18446744073709551616 : Int)), IV.int IntKind.u64 (t9 % (18446744073709551616 : Int))])])))) (k (Out.exit (0 : Nat)) (St.mk (T (39 : Nat) [((4 : Nat), IV.ptr (2 : Nat) (0 : Nat)), ((6 : Nat), IV.ptr (3 : Nat) (0 : Nat))]) [some (Blk.ro ksB xs), some (Blk.var (134 : Nat) [IV.fn (87 : Nat) []]), some (Blk.var (28 : Nat) [IV.int IntKind.i64 (0 : Int), IV.int IntKind.u64 (0 : Int)]), some (Blk.var (28 : Nat) [IV.int IntKind.i64 (a / (18446744073709551616 : Int)), IV.int IntKind.u64 (a % (18446744073709551616 : Int))])]))) := by refine nj ?_; refine nm ?_; refine nj ?_; refine nm ?_; refine nm ?_; refine nm ?_; refine nm ?_; refine nm ?_; refine nm ?_; refine nm ?_; kernel_rfl
def pSum (n0 : Nat) (st : St) (xs : List (List Int)) : Prop := okRows ksB xs ∧ xs.length ≤ maxLen ∧ mayRs xs ∧ n0 = 1 ∧ st = SsA xs 0 0
def pSumB (n0 : Nat) (st : St) (g : FuncId) (xs : List (List Int)) : Prop := okRows ksB xs ∧ xs.length ≤ maxLen ∧ mayRs xs ∧ n0 = 2 ∧ st = SsB g xs 0 0
noncomputable def LSumA : LoopS := fun n0 st K => ∃ xs, pSum n0 st xs ∧ br (sumE 0 xs != 0) (K .ret ⟨T 39 [(4, .ptr 1 0), (5, .int .i64 (sumE 0 xs))], [some (.ro ksB xs), some (.var 28 [.int .i64 0, .int .u64 0])]⟩)
  (K (.exit 0) ⟨T 39 [(4, .ptr 1 0), (6, .ptr 2 0)], [some (.ro ksB xs), some (.var 28 [.int .i64 0, .int .u64 0]), some (.var 28 (fx (sumN 0 xs)).cells)]⟩)
noncomputable def LSumB (g : FuncId) (w : Nat) : LoopS := fun n0 st K => ∃ xs, pSumB n0 st g xs ∧ br (sumE w xs != 0) (K .ret ⟨T 39 [(4, .ptr 2 0), (5, .int .i64 (sumE w xs))], [some (.ro ksB xs), some (.var 134 [.fn g []]), some (.var 28 [.int .i64 0, .int .u64 0])]⟩)
  (K (.exit 0) ⟨T 39 [(4, .ptr 2 0), (6, .ptr 3 0)], [some (.ro ksB xs), some (.var 134 [.fn g []]), some (.var 28 [.int .i64 0, .int .u64 0]), some (.var 28 (fx (sumN w xs)).cells)]⟩)
noncomputable def NsA : Know := ⟨Γu, fun f i => if f = f_mass_sum then (if i = 0 then some LSumA else none) else none, Τu⟩
noncomputable def NsX : Know := ⟨Γu, fun f i => if f = f_mass_sum then (if i = 0 then some (LSumB f_mass_Centre_3 4) else none) else none, Τu⟩
noncomputable def NsY : Know := ⟨Γu, fun f i => if f = f_mass_sum then (if i = 0 then some (LSumB f_mass_Centre_4 6) else none) else none, Τu⟩
theorem v_sumA (xs : List (List Int)) (K : IV → List (Option Blk) → Prop) : (runFn Try.prog NsA 3 f_mass_sum [.sl 0, .fn f_mass_Centre_1 []] [some (.ro ksB xs)] fun v b1 => gcV 1 v b1 K) = (∃ xs_1, pSum (1 : Nat) (St.mk (T (39 : Nat) [((1 : Nat), IV.fn (81 : Nat) []), ((4 : Nat), IV.ptr (1 : Nat) (0 : Nat)), ((6 : Nat), IV.ptr (2 : Nat) (0 : Nat)), ((11 : Nat), IV.sl (0 : Nat)), ((12 : Nat), IV.int IntKind.i64 (↑xs.length : Int)), ((13 : Nat), IV.int IntKind.i64 (0 : Int))]) [some (Blk.ro ksB xs), some (Blk.var (28 : Nat) [IV.int IntKind.i64 (0 : Int), IV.int IntKind.u64 (0 : Int)]), some (Blk.var (28 : Nat) [IV.int IntKind.i64 (0 : Int), IV.int IntKind.u64 (0 : Int)])]) xs_1 ∧ br (sumE (0 : Nat) xs_1 != (0 : Int)) (K (IV.tup [IV.agg [IV.int IntKind.i64 (0 : Int), IV.int IntKind.u64 (0 : Int)], IV.int IntKind.i64 (sumE (0 : Nat) xs_1)]) [some (Blk.ro ksB xs_1)]) (K (IV.tup [fx (sumN (0 : Nat) xs_1), IV.int IntKind.i64 (0 : Int)]) [some (Blk.ro ksB xs_1)])) := by kernel_rfl
theorem v_sumX (xs : List (List Int)) (K : IV → List (Option Blk) → Prop) : (runFn Try.prog NsX 3 f_mass_sum [.sl 0, .fn f_mass_Centre_2_1 [.ptr 1 0]] [some (.ro ksB xs), some (.var 134 [.fn f_mass_Centre_3 []])] fun v b1 => gcV 2 v b1 K) = (∃ xs_1, pSumB (2 : Nat) (St.mk (T (39 : Nat) [((1 : Nat), IV.fn (83 : Nat) [IV.ptr (1 : Nat) (0 : Nat)]), ((4 : Nat), IV.ptr (2 : Nat) (0 : Nat)), ((6 : Nat), IV.ptr (3 : Nat) (0 : Nat)), ((11 : Nat), IV.sl (0 : Nat)), ((12 : Nat), IV.int IntKind.i64 (↑xs.length : Int)), ((13 : Nat), IV.int IntKind.i64 (0 : Int))]) [some (Blk.ro ksB xs), some (Blk.var (134 : Nat) [IV.fn (86 : Nat) []]), some (Blk.var (28 : Nat) [IV.int IntKind.i64 (0 : Int), IV.int IntKind.u64 (0 : Int)]), some (Blk.var (28 : Nat) [IV.int IntKind.i64 (0 : Int), IV.int IntKind.u64 (0 : Int)])]) (86 : Nat) xs_1 ∧ br (sumE (4 : Nat) xs_1 != (0 : Int)) (K (IV.tup [IV.agg [IV.int IntKind.i64 (0 : Int), IV.int IntKind.u64 (0 : Int)], IV.int IntKind.i64 (sumE (4 : Nat) xs_1)]) [some (Blk.ro ksB xs_1), some (Blk.var (134 : Nat) [IV.fn (86 : Nat) []])]) (K (IV.tup [fx (sumN (4 : Nat) xs_1), IV.int IntKind.i64 (0 : Int)]) [some (Blk.ro ksB xs_1), some (Blk.var (134 : Nat) [IV.fn (86 : Nat) []])])) := by kernel_rfl
theorem v_sumY (xs : List (List Int)) (K : IV → List (Option Blk) → Prop) : (runFn Try.prog NsY 3 f_mass_sum [.sl 0, .fn f_mass_Centre_2_1 [.ptr 1 0]] [some (.ro ksB xs), some (.var 134 [.fn f_mass_Centre_4 []])] fun v b1 => gcV 2 v b1 K) = (∃ xs_1, pSumB (2 : Nat) (St.mk (T (39 : Nat) [((1 : Nat), IV.fn (83 : Nat) [IV.ptr (1 : Nat) (0 : Nat)]), ((4 : Nat), IV.ptr (2 : Nat) (0 : Nat)), ((6 : Nat), IV.ptr (3 : Nat) (0 : Nat)), ((11 : Nat), IV.sl (0 : Nat)), ((12 : Nat), IV.int IntKind.i64 (↑xs.length : Int)), ((13 : Nat), IV.int IntKind.i64 (0 : Int))]) [some (Blk.ro ksB xs), some (Blk.var (134 : Nat) [IV.fn (87 : Nat) []]), some (Blk.var (28 : Nat) [IV.int IntKind.i64 (0 : Int), IV.int IntKind.u64 (0 : Int)]), some (Blk.var (28 : Nat) [IV.int IntKind.i64 (0 : Int), IV.int IntKind.u64 (0 : Int)])]) (87 : Nat) xs_1 ∧ br (sumE (6 : Nat) xs_1 != (0 : Int)) (K (IV.tup [IV.agg [IV.int IntKind.i64 (0 : Int), IV.int IntKind.u64 (0 : Int)], IV.int IntKind.i64 (sumE (6 : Nat) xs_1)]) [some (Blk.ro ksB xs_1), some (Blk.var (134 : Nat) [IV.fn (87 : Nat) []])]) (K (IV.tup [fx (sumN (6 : Nat) xs_1), IV.int IntKind.i64 (0 : Int)]) [some (Blk.ro ksB xs_1), some (Blk.var (134 : Nat) [IV.fn (87 : Nat) []])])) := by kernel_rfl
end Go.Vs.RF


set_option linter.unusedVariables false
set_option linter.unusedSimpArgs false
set_option maxRecDepth 100000
/- mass: sums over bodies -/
namespace Go.Vs.RF
open Go Go.Proofs Go.Vs Go.IntWalk

theorem rows_in {ks : List IntKind} {xs : List (List Int)} (h : okRows ks xs) (i j : Nat) (hj : j < ks.length) : inK (ks.getD j .i64) (rd xs i j) := by
  unfold rd
  by_cases hi : i < xs.length
  · have : xs.getD i [] = xs[i] := by simp [List.getD, hi]
    rw [this]
    exact h _ (List.getElem_mem hi) j hj
  · have : xs.getD i [] = [] := by simp [List.getD, hi]
    rw [this]
    show inK (ks.getD j .i64) 0
    generalize ks.getD j .i64 = k
    cases k <;> exact ⟨by decide, by decide⟩
theorem lo_in {xs : List (List Int)} (h : okRows ksB xs) (i j : Nat) (hj : j < 20) (hk : ksB.getD j .i64 = .u64) : u64ok (rd xs i j) := by
  have := rows_in h i j hj
  rw [hk] at this
  have h1 : (0 : Int) ≤ rd xs i j ∧ rd xs i j ≤ 18446744073709551615 := this
  unfold u64ok; omega
theorem get_row {xs : List (List Int)} {i : Nat} (hi : i < xs.length) : xs.getD i [] = xs[i] := by simp [List.getD, hi]
theorem fr_of {xs : List (List Int)} {i : Nat} (hi : i < xs.length) (j : Nat) : rd xs i j * 18446744073709551616 + rd xs i (j + 1) = fr xs[i] j := by
  unfold rd; rw [get_row hi]; rfl
theorem knowt3 : KnowOk Try.prog Nt3 3 := knowOf (fun g sp h => ctrst3 h) (fun _ _ => rfl) (fun _ => rfl) 3
theorem c_PX : Contract Try.prog f_mass_Centre_3 spPX := by
  refine contract_of (N := Nt3) 3 knowt3 ?_
  rintro l bs _ _ ⟨x, y, rfl, rfl⟩
  show comes _ _ _ _ _ _ _
  rw [v_PX]
  show (fx (v2 [vx x y] 0), ([] : List Blk)) = _
  rw [(v_vx _ x y 0 rfl).1]
theorem c_PY : Contract Try.prog f_mass_Centre_4 spPY := by
  refine contract_of (N := Nt3) 3 knowt3 ?_
  rintro l bs _ _ ⟨x, y, rfl, rfl⟩
  show comes _ _ _ _ _ _ _
  rw [v_PY]
  show (fx (vy [vx x y] 0), ([] : List Blk)) = _
  rw [(v_vx _ x y 0 rfl).2]
theorem c_C1 : Contract Try.prog f_mass_Centre_1 spC1 := by
  refine contract_of (N := Nt3) 3 knowt3 ?_
  rintro l bs _ _ ⟨r, rfl, rfl⟩
  show comes _ _ _ _ _ _ _
  rw [v_C1]
  rfl
theorem ctrsu : ∀ {g : FuncId} {sp : Vs.Spec}, Γu g = some sp → Contract Try.prog g sp := ext_ok c_PX (ext_ok c_PY (ext_ok c_C1 ctrst3))
theorem knowu : KnowOk Try.prog Nu 3 := knowOf (fun g sp h => ctrsu h) (fun _ _ => rfl) (fun _ => rfl) 3
theorem row_lo {r : List Int} (h : rowB r) (j : Nat) (hj : j < 20) (hk : ksB.getD j .i64 = .u64) : u64ok (r.getD j 0) := by
  have := h j hj
  rw [hk] at this
  have h1 : (0 : Int) ≤ r.getD j 0 ∧ r.getD j 0 ≤ 18446744073709551615 := this
  unfold u64ok; omega
theorem vx_cells {a b c d : Int} (hb : u64ok b) (hd : u64ok d) : [IV.agg [.int .i64 a, .int .u64 b, .int .i64 c, .int .u64 d]] = [IV.agg [.int .i64 ((a * 18446744073709551616 + b) / 18446744073709551616), .int .u64 ((a * 18446744073709551616 + b) % 18446744073709551616), .int .i64 ((c * 18446744073709551616 + d) / 18446744073709551616), .int .u64 ((c * 18446744073709551616 + d) % 18446744073709551616)]] := by
  unfold u64ok at hb hd
  rw [show (a * 18446744073709551616 + b) / 18446744073709551616 = a by omega, show (a * 18446744073709551616 + b) % 18446744073709551616 = b by omega, show (c * 18446744073709551616 + d) / 18446744073709551616 = c by omega, show (c * 18446744073709551616 + d) % 18446744073709551616 = d by omega]
theorem g21X (r : List Int) (hr : rowB r) (hm : mayR r) (K : IV → List (Option Blk) → Prop) (hK : K (.tup [fx (numF (mulI (fr r 0) (fr r 4))), .int .i64 (errF (mulI (fr r 0) (fr r 4)))]) [some (.var 134 [.fn f_mass_Centre_3 []])]) :
    runFn Try.prog Nu 3 f_mass_Centre_2_1 [bodyR r, .ptr 0 0] [some (.var 134 [.fn f_mass_Centre_3 []])] fun v b1 => gcV 1 v b1 K := by
  rw [v_21X]
  rintro t1 e1 j2 rfl t3 e3 t4 e4 t5 e5 t6 e6 t7 e7 t8 e8 t9 e9
  have p8 : t8 := by
    rw [e8]
    exact ⟨fr r 4, fr r 6, by unfold vx; rw [show fr r 4 = rd [r] 0 4 * 18446744073709551616 + rd [r] 0 5 from rfl, show fr r 6 = rd [r] 0 6 * 18446744073709551616 + rd [r] 0 7 from rfl]; exact vx_cells (row_lo hr 5 (by decide) rfl) (row_lo hr 7 (by decide) rfl), rfl⟩
  have e34 : t3 * 18446744073709551616 + t4 = fr r 0 := by rw [e3, e4]; rfl
  have ok4 : u64ok t4 := by rw [e4]; exact row_lo hr 1 (by decide) rfl
  have p7 : t7 := by rw [e7]; exact ⟨fr r 0, j2, by rw [fx_mk2 ok4 e34.symm], rfl, hm.1, by rw [e1]; exact hm.2.1⟩
  refine ⟨p8, p7, ⟨p8, p7, rfl⟩, ?_⟩
  rw [e6, e5, e34, e1]
  exact hK
theorem g21Y (r : List Int) (hr : rowB r) (hm : mayR r) (K : IV → List (Option Blk) → Prop) (hK : K (.tup [fx (numF (mulI (fr r 0) (fr r 6))), .int .i64 (errF (mulI (fr r 0) (fr r 6)))]) [some (.var 134 [.fn f_mass_Centre_4 []])]) :
    runFn Try.prog Nu 3 f_mass_Centre_2_1 [bodyR r, .ptr 0 0] [some (.var 134 [.fn f_mass_Centre_4 []])] fun v b1 => gcV 1 v b1 K := by
  rw [v_21Y]
  rintro t1 e1 j2 rfl t3 e3 t4 e4 t5 e5 t6 e6 t7 e7 t8 e8 t9 e9
  have p8 : t8 := by
    rw [e8]
    exact ⟨fr r 4, fr r 6, by unfold vx; rw [show fr r 4 = rd [r] 0 4 * 18446744073709551616 + rd [r] 0 5 from rfl, show fr r 6 = rd [r] 0 6 * 18446744073709551616 + rd [r] 0 7 from rfl]; exact vx_cells (row_lo hr 5 (by decide) rfl) (row_lo hr 7 (by decide) rfl), rfl⟩
  have e34 : t3 * 18446744073709551616 + t4 = fr r 0 := by rw [e3, e4]; rfl
  have ok4 : u64ok t4 := by rw [e4]; exact row_lo hr 1 (by decide) rfl
  have p7 : t7 := by rw [e7]; exact ⟨fr r 0, j2, by rw [fx_mk2 ok4 e34.symm], rfl, hm.1, by rw [e1]; exact hm.2.2⟩
  refine ⟨p8, p7, ⟨p8, p7, rfl⟩, ?_⟩
  rw [e6, e5, e34, e1]
  exact hK
theorem fun21 : FunOk Try.prog f_mass_Centre_2_1 G21 := by
  refine funOk_gc (N := Nu) 3 knowu ?_
  rintro args b K ⟨⟨r, rfl, hr, hm, hb⟩, hK⟩
  rcases hb with rfl | rfl
  · exact g21X r hr hm K hK
  · exact g21Y r hr hm K hK
theorem funsu : ∀ g G, Τu g = some G → FunOk Try.prog g G := by
  intro g G h
  unfold Τu at h
  split at h
  · rename_i hg; subst hg; cases h; exact fun21
  · cases h
theorem err_bne {s : Int} {A B : Prop} : br (errF s != 0) A B ↔ (¬ mayF s → A) ∧ (mayF s → B) := by
  rw [br_bne]
  constructor
  · rintro ⟨h1, h2⟩
    exact ⟨fun h => h1 fun h0 => h (err_zero.1 h0), fun h => h2 (err_zero.2 h)⟩
  · rintro ⟨h1, h2⟩
    exact ⟨fun h => h1 fun h0 => h (err_zero.2 h0), fun h => h2 (err_zero.1 h)⟩
theorem sum_drop (w : Nat) {xs : List (List Int)} {i : Nat} (hi : i < xs.length) (a : Int) : sumG w (xs.drop i) a = if tmE w xs[i] ≠ 0 then (0, tmE w xs[i]) else if errF (a + tmN w xs[i]) ≠ 0 then (0, errF (a + tmN w xs[i])) else sumG w (xs.drop (i + 1)) (a + tmN w xs[i]) := by
  rw [List.drop_eq_getElem_cons hi]; rfl
theorem sum_over (w : Nat) {xs : List (List Int)} {i : Nat} (hi : ¬ i < xs.length) (a : Int) : sumG w (xs.drop i) a = (a, 0) := by
  rw [List.drop_eq_nil_of_le (by omega)]; rfl
def ISum (w : Nat) (xs : List (List Int)) (p : Int × Nat) : Prop := p.2 ≤ xs.length ∧ mayF p.1 ∧ sumG w (xs.drop p.2) p.1 = sumG w xs 0
theorem nat_succ {n m : Nat} (h : n < m) (hm : m ≤ maxLen) : IntKind.i64.wrap ((n : Int) + 1) = ((n + 1 : Nat) : Int) := by
  have hm' : m ≤ 9223372036854775807 := hm
  rw [i64_in _ (by omega)]; rfl
theorem lSumA (d n0 : Nat) : LoopOk (envOf Try.prog NsA d) f_mass_sum n0 0 (lp Try.prog f_mass_sum 0) LSumA := by
  intro st K hst
  obtain ⟨xs, ⟨hr, hm, hmay, rfl, rfl⟩, hK⟩ := hst
  have hm' : xs.length ≤ 9223372036854775807 := hm
  refine loop_of (fun p : Int × Nat => SsA xs p.1 p.2) (ISum 0 xs) (fun p => xs.length - p.2) ?_ (a := (0, 0)) ⟨by simp, may_zero, rfl⟩
  rintro ⟨a, i⟩ ⟨h1, h2, h3⟩ k hn hk
  simp only at h1 h2 h3
  show round (envOf Try.prog ⟨Γu, _, Τu⟩ d) _ _ _ _ (SsA xs a i) k
  rw [rSumA]
  rintro a rfl t2 e2 t3 e3 t4 e4 t5 e5 t6 e6
  rw [br_dec]
  constructor
  · intro hi
    have hi' : i < xs.length := by omega
    have et : (i : Int).toNat = i := by omega
    rw [et] at e2 e3
    have hmi := (hmay _ (List.getElem_mem hi')).1
    have ex : t2 * 18446744073709551616 + t3 = fr xs[i] 0 := by rw [e2, e3]; exact fr_of hi' 0
    have ok3 : u64ok t3 := by rw [e3]; exact lo_in hr i 1 (by decide) rfl
    refine ⟨⟨by omega, hi⟩, ⟨by omega, hi⟩, ⟨xs.getD i [], by rw [et, e2, e3]; rfl, rfl⟩, ⟨a, fr xs[i] 0, by rw [fx_mk2 ok3 ex.symm], rfl, h2, hmi⟩, ?_⟩
    rw [ex] at e4
    rw [sum_drop 0 hi', if_neg (show ¬ tmE 0 xs[i] ≠ 0 from fun h => h rfl), show tmN 0 xs[i] = fr xs[i] 0 from rfl, ← e4] at h3
    rw [e5, err_bne]
    constructor
    · intro hno
      rw [if_pos (by rw [err_not hno]; decide)] at h3
      have hE : sumE 0 xs = errF t4 := (congrArg Prod.snd h3).symm
      rw [hE, err_bne] at hK
      exact hk _ _ (by simp) (hK.1 hno)
    · intro hmy
      rw [if_neg (by rw [err_may hmy]; simp)] at h3
      rw [nat_succ hi' hm, e6, num_may hmy]
      exact hn (t4, i + 1) ⟨hi', hmy, h3⟩ (by simp; omega)
  · intro hi
    have hi' : ¬ i < xs.length := by omega
    rw [sum_over 0 hi'] at h3
    have hE : sumE 0 xs = 0 := (congrArg Prod.snd h3).symm
    have hN : sumN 0 xs = a := (congrArg Prod.fst h3).symm
    rw [hE, hN, br_bne] at hK
    exact hk _ _ (by simp) (hK.2 rfl)
theorem lSumX (d n0 : Nat) : LoopOk (envOf Try.prog NsX d) f_mass_sum n0 0 (lp Try.prog f_mass_sum 0) (LSumB f_mass_Centre_3 4) := by
  intro st K hst
  obtain ⟨xs, ⟨hr, hm, hmay, rfl, rfl⟩, hK⟩ := hst
  have hm' : xs.length ≤ 9223372036854775807 := hm
  refine loop_of (fun p : Int × Nat => SsB f_mass_Centre_3 xs p.1 p.2) (ISum 4 xs) (fun p => xs.length - p.2) ?_ (a := (0, 0)) ⟨by simp, may_zero, rfl⟩
  rintro ⟨a, i⟩ ⟨h1, h2, h3⟩ k hn hk
  simp only at h1 h2 h3
  show round (envOf Try.prog ⟨Γu, _, Τu⟩ d) _ _ _ _ (SsB f_mass_Centre_3 xs a i) k
  rw [rSumX]
  rintro a rfl t2 e2 j3 rfl t4 e4 t5 e5 t6 e6 t7 e7 t8 e8 t9 e9 t10 e10
  rw [br_dec]
  constructor
  · intro hi
    have hi' : i < xs.length := by omega
    have et : (i : Int).toNat = i := by omega
    have hmi := hmay _ (List.getElem_mem hi')
    have e0 : fr xs[i] 0 = rd xs (i : Int).toNat 0 * 18446744073709551616 + rd xs (i : Int).toNat 1 := by rw [et]; exact (fr_of hi' 0).symm
    have ew : fr xs[i] 4 = rd xs (i : Int).toNat 4 * 18446744073709551616 + rd xs (i : Int).toNat 5 := by rw [et]; exact (fr_of hi' 4).symm
    have hrow : rowB (xs.getD i []) := by rw [get_row hi']; exact hr _ (List.getElem_mem hi')
    refine ⟨⟨by omega, hi⟩, ⟨by omega, hi⟩, ⟨xs.getD i [], by rw [e4, e5, e6, e7, et]; rfl, hrow, by rw [get_row hi']; exact hmi, .inl rfl⟩, ?_⟩
    rw [sum_drop 4 hi', show tmE 4 xs[i] = errF (mulI (fr xs[i] 0) (fr xs[i] 4)) from rfl, show tmN 4 xs[i] = numF (mulI (fr xs[i] 0) (fr xs[i] 4)) from rfl] at h3
    rw [e4, e5, e6, e7, ← e0, ← ew] at e10
    rw [← e0, ← ew] at e2
    rw [e10, err_bne]
    constructor
    · intro hno
      rw [if_pos (by rw [err_not hno]; decide)] at h3
      have hE : sumE 4 xs = errF (mulI (fr xs[i] 0) (fr xs[i] 4)) := (congrArg Prod.snd h3).symm
      rw [hE, err_bne] at hK
      exact hk _ _ (by simp) (hK.1 hno)
    intro hmm
    rw [if_neg (by rw [err_may hmm]; simp), ← e2] at h3
    refine ⟨may2_of h2 (by rw [e2]; exact num_is _), ?_⟩
    rw [e8, err_bne]
    constructor
    · intro hno
      rw [if_pos (by rw [err_not hno]; decide)] at h3
      have hE : sumE 4 xs = errF (a + j3) := (congrArg Prod.snd h3).symm
      rw [hE, err_bne] at hK
      exact hk _ _ (by simp) (hK.1 hno)
    · intro hmy
      rw [if_neg (by rw [err_may hmy]; simp)] at h3
      rw [nat_succ hi' hm, e9, num_may hmy]
      exact hn (a + j3, i + 1) ⟨hi', hmy, h3⟩ (by simp; omega)
  · intro hi
    have hi' : ¬ i < xs.length := by omega
    rw [sum_over 4 hi'] at h3
    have hE : sumE 4 xs = 0 := (congrArg Prod.snd h3).symm
    have hN : sumN 4 xs = a := (congrArg Prod.fst h3).symm
    rw [hE, hN, br_bne] at hK
    exact hk _ _ (by simp) (hK.2 rfl)
theorem lSumY (d n0 : Nat) : LoopOk (envOf Try.prog NsY d) f_mass_sum n0 0 (lp Try.prog f_mass_sum 0) (LSumB f_mass_Centre_4 6) := by
  intro st K hst
  obtain ⟨xs, ⟨hr, hm, hmay, rfl, rfl⟩, hK⟩ := hst
  have hm' : xs.length ≤ 9223372036854775807 := hm
  refine loop_of (fun p : Int × Nat => SsB f_mass_Centre_4 xs p.1 p.2) (ISum 6 xs) (fun p => xs.length - p.2) ?_ (a := (0, 0)) ⟨by simp, may_zero, rfl⟩
  rintro ⟨a, i⟩ ⟨h1, h2, h3⟩ k hn hk
  simp only at h1 h2 h3
  show round (envOf Try.prog ⟨Γu, _, Τu⟩ d) _ _ _ _ (SsB f_mass_Centre_4 xs a i) k
  rw [rSumY]
  rintro a rfl t2 e2 j3 rfl t4 e4 t5 e5 t6 e6 t7 e7 t8 e8 t9 e9 t10 e10
  rw [br_dec]
  constructor
  · intro hi
    have hi' : i < xs.length := by omega
    have et : (i : Int).toNat = i := by omega
    have hmi := hmay _ (List.getElem_mem hi')
    have e0 : fr xs[i] 0 = rd xs (i : Int).toNat 0 * 18446744073709551616 + rd xs (i : Int).toNat 1 := by rw [et]; exact (fr_of hi' 0).symm
    have ew : fr xs[i] 6 = rd xs (i : Int).toNat 6 * 18446744073709551616 + rd xs (i : Int).toNat 7 := by rw [et]; exact (fr_of hi' 6).symm
    have hrow : rowB (xs.getD i []) := by rw [get_row hi']; exact hr _ (List.getElem_mem hi')
    refine ⟨⟨by omega, hi⟩, ⟨by omega, hi⟩, ⟨xs.getD i [], by rw [e4, e5, e6, e7, et]; rfl, hrow, by rw [get_row hi']; exact hmi, .inr rfl⟩, ?_⟩
    rw [sum_drop 6 hi', show tmE 6 xs[i] = errF (mulI (fr xs[i] 0) (fr xs[i] 6)) from rfl, show tmN 6 xs[i] = numF (mulI (fr xs[i] 0) (fr xs[i] 6)) from rfl] at h3
    rw [e4, e5, e6, e7, ← e0, ← ew] at e10
    rw [← e0, ← ew] at e2
    rw [e10, err_bne]
    constructor
    · intro hno
      rw [if_pos (by rw [err_not hno]; decide)] at h3
      have hE : sumE 6 xs = errF (mulI (fr xs[i] 0) (fr xs[i] 6)) := (congrArg Prod.snd h3).symm
      rw [hE, err_bne] at hK
      exact hk _ _ (by simp) (hK.1 hno)
    intro hmm
    rw [if_neg (by rw [err_may hmm]; simp), ← e2] at h3
    refine ⟨may2_of h2 (by rw [e2]; exact num_is _), ?_⟩
    rw [e8, err_bne]
    constructor
    · intro hno
      rw [if_pos (by rw [err_not hno]; decide)] at h3
      have hE : sumE 6 xs = errF (a + j3) := (congrArg Prod.snd h3).symm
      rw [hE, err_bne] at hK
      exact hk _ _ (by simp) (hK.1 hno)
    · intro hmy
      rw [if_neg (by rw [err_may hmy]; simp)] at h3
      rw [nat_succ hi' hm, e9, num_may hmy]
      exact hn (a + j3, i + 1) ⟨hi', hmy, h3⟩ (by simp; omega)
  · intro hi
    have hi' : ¬ i < xs.length := by omega
    rw [sum_over 6 hi'] at h3
    have hE : sumE 6 xs = 0 := (congrArg Prod.snd h3).symm
    have hN : sumN 6 xs = a := (congrArg Prod.fst h3).symm
    rw [hE, hN, br_bne] at hK
    exact hk _ _ (by simp) (hK.2 rfl)
theorem know_loop {N : Know} {f0 : FuncId} {L : LoopS} (hΓ : ∀ g sp, N.Γ g = some sp → Contract Try.prog g sp) (hΛ : N.Λ = fun f i => if f = f0 then (if i = 0 then some L else none) else none) (hΤ : ∀ g G, N.Τ g = some G → FunOk Try.prog g G)
    (h : ∀ d n0, LoopOk (envOf Try.prog N d) f0 n0 0 (lp Try.prog f0 0) L) (d : Nat) : KnowOk Try.prog N d := by
  refine ⟨mixedOrders, hΓ, ?_, hΤ⟩
  intro d' _ f i S n0 hS
  rw [hΛ] at hS
  simp only at hS
  split at hS
  · split at hS
    · cases hS
      rename_i hf hi
      subst hf; subst hi
      exact h d' n0
    · cases hS
  · cases hS
theorem know_fun {N : Know} {f0 : FuncId} {G : FunS} (hΓ : ∀ g sp, N.Γ g = some sp → Contract Try.prog g sp) (hΛ : ∀ f i, N.Λ f i = none) (hΤ : N.Τ = fun g => if g = f0 then some G else none)
    (h : FunOk Try.prog f0 G) (d : Nat) : KnowOk Try.prog N d := by
  refine ⟨mixedOrders, hΓ, loops_none hΛ d, ?_⟩
  intro g G' hG
  rw [hΤ] at hG
  simp only at hG
  split at hG
  · rename_i hg; subst hg; cases hG; exact h
  · cases hG
end Go.Vs.RF
