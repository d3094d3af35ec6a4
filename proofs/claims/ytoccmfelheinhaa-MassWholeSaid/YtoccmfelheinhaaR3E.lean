import Derived.Test.YtoccmfelheinhaaR3C
set_option linter.unusedVariables false
/- mass: sums over bodies, the centre -/
namespace Go.Vs.RF
open Go Go.Proofs Go.Vs
def ksB : List IntKind := [.i64, .u64, .i64, .u64, .i64, .u64, .i64, .u64, .i64, .u64, .i64, .u64, .i64, .u64, .i64, .u64, .i64, .u64, .i64, .i64]
abbrev t_ofV : TypeId := 134
/-- a number of a row -/
def fr (r : List Int) (j : Nat) : Int := r.getD j 0 * 18446744073709551616 + r.getD (j + 1) 0
/-- what is summed: the mass, or a product of it -/
def tmN (w : Nat) (r : List Int) : Int := if w = 0 then fr r 0 else numF (mulI (fr r 0) (fr r w))
def tmE (w : Nat) (r : List Int) : Int := if w = 0 then 0 else errF (mulI (fr r 0) (fr r w))
/-- a sum, from a number on, and its error -/
def sumG (w : Nat) : List (List Int) → Int → Int × Int
  | [], a => (a, 0)
  | r :: l, a => if tmE w r ≠ 0 then (0, tmE w r) else if errF (a + tmN w r) ≠ 0 then (0, errF (a + tmN w r)) else sumG w l (a + tmN w r)
def sumN (w : Nat) (xs : List (List Int)) : Int := (sumG w xs 0).1
def sumE (w : Nat) (xs : List (List Int)) : Int := (sumG w xs 0).2
/-- mass, and place, of a body may be -/
def mayR (r : List Int) : Prop := mayF (fr r 0) ∧ mayF (fr r 4) ∧ mayF (fr r 6)
def mayRs (xs : List (List Int)) : Prop := ∀ r ∈ xs, mayR r
/-- a body as a function is handed it -/
def bodyR (r : List Int) : IV := .agg (rowCells ksB [r] 0 0 20)
def rowB (r : List Int) : Prop := ∀ j, j < 20 → inK (ksB.getD j .i64) (r.getD j 0)
def pVX (l : List IV) (bs : List Blk) : Prop := ∃ x y, l = [vx x y] ∧ bs = []
def pB1 (l : List IV) (bs : List Blk) : Prop := ∃ r, l = [bodyR r] ∧ bs = []
noncomputable def spPX : Vs.Spec := ⟨pVX, fun l _ => (fx (v2 l 0), [])⟩
noncomputable def spPY : Vs.Spec := ⟨pVX, fun l _ => (fx (vy l 0), [])⟩
noncomputable def spC1 : Vs.Spec := ⟨pB1, fun l _ => (.tup [.agg [.int .i64 (argI l 0 0), .int .u64 (argI l 0 1)], .int .i64 0], [])⟩
noncomputable def Γu : FuncId → Option Vs.Spec := fun g => if g = f_mass_Centre_3 then some spPX else if g = f_mass_Centre_4 then some spPY else if g = f_mass_Centre_1 then some spC1 else Γt3 g
noncomputable def Nu : Know := ⟨Γu, fun _ _ => none, fun _ => none⟩
theorem v_PX (x y : Int) (K : IV → List Blk → Prop) : (comes Try.prog Nt3 3 f_mass_Centre_3 [vx x y] [] K) = (K (fx x) []) := by kernel_rfl
theorem v_PY (x y : Int) (K : IV → List Blk → Prop) : (comes Try.prog Nt3 3 f_mass_Centre_4 [vx x y] [] K) = (K (fx y) []) := by kernel_rfl
theorem v_C1 (r : List Int) (K : IV → List Blk → Prop) : (comes Try.prog Nt3 3 f_mass_Centre_1 [bodyR r] [] K) = (K (IV.tup [IV.agg [IV.int IntKind.i64 (rd [r] (0 : Nat) (0 : Nat)), IV.int IntKind.u64 (rd [r] (0 : Nat) (1 : Nat))], IV.int IntKind.i64 (0 : Int)]) []) := by kernel_rfl
/-- which part of a place a function looks at -/
noncomputable def whF (b : List (Option Blk)) : Nat := match look b 0 with
  | some (.var _ [.fn g _]) => if g = f_mass_Centre_3 then 4 else 6
  | _ => 0
def p21 (args : List IV) (b : List (Option Blk)) : Prop := ∃ r, args = [bodyR r, .ptr 0 0] ∧ rowB r ∧ mayR r ∧ (b = [some (.var 134 [.fn f_mass_Centre_3 []])] ∨ b = [some (.var 134 [.fn f_mass_Centre_4 []])])
noncomputable def G21 : FunS := fun args b K => p21 args b ∧ K (.tup [fx (numF (mulI (v2 args 0) (argI args 0 (whF b) * 18446744073709551616 + argI args 0 (whF b + 1)))), .int .i64 (errF (mulI (v2 args 0) (argI args 0 (whF b) * 18446744073709551616 + argI args 0 (whF b + 1))))]) b
theorem v_21X (r : List Int) (K : IV → List (Option Blk) → Prop) : (runFn Try.prog Nu 3 f_mass_Centre_2_1 [bodyR r, .ptr 0 0] [some (.var 134 [.fn f_mass_Centre_3 []])] fun v b1 => gcV 1 v b1 K) = (∀ (t1 : Int), t1 = rd [r] (0 : Nat) (4 : Nat) * (18446744073709551616 : Int) + rd [r] (0 : Nat) (5 : Nat) → ∀ (j2 : Int), j2 = t1 → ∀ (t3 : Int), t3 = rd [r] (0 : Nat) (0 : Nat) → ∀ (t4 : Int), t4 = rd [r] (0 : Nat) (1 : Nat) → ∀ (t5 : Int), t5 = mulI (t3 * (18446744073709551616 : Int) + t4) j2 → ∀ (t6 : Int), t6 = numF t5 → ∀ (t7 : Prop), t7 = may2 [IV.agg [IV.int IntKind.i64 t3, IV.int IntKind.u64 t4], fx t1] [] → ∀ (t8 : Prop), t8 = pVX [IV.agg [IV.int IntKind.i64 (rd [r] (0 : Nat) (4 : Nat)), IV.int IntKind.u64 (rd [r] (0 : Nat) (5 : Nat)), IV.int IntKind.i64 (rd [r] (0 : Nat) (6 : Nat)), IV.int IntKind.u64 (rd [r] (0 : Nat) (7 : Nat))]] [] → ∀ (t9 : St), t9 = St.mk [some (IV.agg [IV.int IntKind.i64 t3, IV.int IntKind.u64 t4, IV.int IntKind.i64 (rd [r] (0 : Nat) (2 : Nat)), IV.int IntKind.u64 (rd [r] (0 : Nat) (3 : Nat)), IV.int IntKind.i64 (rd [r] (0 : Nat) (4 : Nat)), IV.int IntKind.u64 (rd [r] (0 : Nat) (5 : Nat)), IV.int IntKind.i64 (rd [r] (0 : Nat) (6 : Nat)), IV.int IntKind.u64 (rd [r] (0 : Nat) (7 : Nat)), IV.int IntKind.i64 (rd [r] (0 : Nat) (8 : Nat)), IV.int IntKind.u64 (rd [r] (0 : Nat) (9 : Nat)), IV.int IntKind.i64 (rd [r] (0 : Nat) (10 : Nat)), IV.int IntKind.u64 (rd [r] (0 : Nat) (11 : Nat)), IV.int IntKind.i64 (rd [r] (0 : Nat) (12 : Nat)), IV.int IntKind.u64 (rd [r] (0 : Nat) (13 : Nat)), IV.int IntKind.i64 (rd [r] (0 : Nat) (14 : Nat)), IV.int IntKind.u64 (rd [r] (0 : Nat) (15 : Nat)), IV.int IntKind.i64 (rd [r] (0 : Nat) (16 : Nat)), IV.int IntKind.u64 (rd [r] (0 : Nat) (17 : Nat)), IV.int IntKind.i64 (rd [r] (0 : Nat) (18 : Nat)), IV.int IntKind.i64 (rd [r] (0 : Nat) (19 : Nat))]), some (IV.ptr (0 : Nat) (0 : Nat)), some (IV.ptr (1 : Nat) (0 : Nat)), some (IV.ptr (2 : Nat) (0 : Nat)), some (IV.int IntKind.i64 (errF t5)), some (IV.ptr (1 : Nat) (0 : Nat)), some (IV.agg [IV.int IntKind.i64 t3, IV.int IntKind.u64 t4]), some (IV.fn (86 : Nat) []), some (IV.ptr (1 : Nat) (4 : Nat)), some (IV.agg [IV.int IntKind.i64 (rd [r] (0 : Nat) (4 : Nat)), IV.int IntKind.u64 (rd [r] (0 : Nat) (5 : Nat)), IV.int IntKind.i64 (rd [r] (0 : Nat) (6 : Nat)), IV.int IntKind.u64 (rd [r] (0 : Nat) (7 : Nat))]), some (fx t1), some (IV.tup [fx t6, IV.int IntKind.i64 (errF t5)]), some (fx t6), some (IV.int IntKind.i64 (errF t5))] [some (Blk.var (134 : Nat) [IV.fn (86 : Nat) []]), some (Blk.var (32 : Nat) [IV.int IntKind.i64 t3, IV.int IntKind.u64 t4, IV.int IntKind.i64 (rd [r] (0 : Nat) (2 : Nat)), IV.int IntKind.u64 (rd [r] (0 : Nat) (3 : Nat)), IV.int IntKind.i64 (rd [r] (0 : Nat) (4 : Nat)), IV.int IntKind.u64 (rd [r] (0 : Nat) (5 : Nat)), IV.int IntKind.i64 (rd [r] (0 : Nat) (6 : Nat)), IV.int IntKind.u64 (rd [r] (0 : Nat) (7 : Nat)), IV.int IntKind.i64 (rd [r] (0 : Nat) (8 : Nat)), IV.int IntKind.u64 (rd [r] (0 : Nat) (9 : Nat)), IV.int IntKind.i64 (rd [r] (0 : Nat) (10 : Nat)), IV.int IntKind.u64 (rd [r] (0 : Nat) (11 : Nat)), IV.int IntKind.i64 (rd [r] (0 : Nat) (12 : Nat)), IV.int IntKind.u64 (rd [r] (0 : Nat) (13 : Nat)), IV.int IntKind.i64 (rd [r] (0 : Nat) (14 : Nat)), IV.int IntKind.u64 (rd [r] (0 : Nat) (15 : Nat)), IV.int IntKind.i64 (rd [r] (0 : Nat) (16 : Nat)), IV.int IntKind.u64 (rd [r] (0 : Nat) (17 : Nat)), IV.int IntKind.i64 (rd [r] (0 : Nat) (18 : Nat)), IV.int IntKind.i64 (rd [r] (0 : Nat) (19 : Nat))]), some (Blk.var (28 : Nat) [IV.int IntKind.i64 (t6 / (18446744073709551616 : Int)), IV.int IntKind.u64 (t6 % (18446744073709551616 : Int))])] → t8 ∧ t7 ∧ (t8 ∧ t7 ∧ t9 = t9) ∧ K (IV.tup [fx t6, IV.int IntKind.i64 (errF t5)]) [some (Blk.var (134 : Nat) [IV.fn (86 : Nat) []])]) := by refine nm ?_; refine nj ?_; refine nm ?_; refine nm ?_; refine nm ?_; refine nm ?_; refine nm ?_; refine nm ?_; refine nm ?_; kernel_rfl
theorem v_21Y (r : List Int) (K : IV → List (Option Blk) → Prop) : (runFn Try.prog Nu 3 f_mass_Centre_2_1 [bodyR r, .ptr 0 0] [some (.var 134 [.fn f_mass_Centre_4 []])] fun v b1 => gcV 1 v b1 K) = (∀ (t1 : Int), t1 = rd [r] (0 : Nat) (6 : Nat) * (18446744073709551616 : Int) + rd [r] (0 : Nat) (7 : Nat) → ∀ (j2 : Int), j2 = t1 → ∀ (t3 : Int), t3 = rd [r] (0 : Nat) (0 : Nat) → ∀ (t4 : Int), t4 = rd [r] (0 : Nat) (1 : Nat) → ∀ (t5 : Int), t5 = mulI (t3 * (18446744073709551616 : Int) + t4) j2 → ∀ (t6 : Int), t6 = numF t5 → ∀ (t7 : Prop), t7 = may2 [IV.agg [IV.int IntKind.i64 t3, IV.int IntKind.u64 t4], fx t1] [] → ∀ (t8 : Prop), t8 = pVX [IV.agg [IV.int IntKind.i64 (rd [r] (0 : Nat) (4 : Nat)), IV.int IntKind.u64 (rd [r] (0 : Nat) (5 : Nat)), IV.int IntKind.i64 (rd [r] (0 : Nat) (6 : Nat)), IV.int IntKind.u64 (rd [r] (0 : Nat) (7 : Nat))]] [] → ∀ (t9 : St), t9 = St.mk [some (IV.agg [IV.int IntKind.i64 t3, IV.int IntKind.u64 t4, IV.int IntKind.i64 (rd [r] (0 : Nat) (2 : Nat)), IV.int IntKind.u64 (rd [r] (0 : Nat) (3 : Nat)), IV.int IntKind.i64 (rd [r] (0 : Nat) (4 : Nat)), IV.int IntKind.u64 (rd [r] (0 : Nat) (5 : Nat)), IV.int IntKind.i64 (rd [r] (0 : Nat) (6 : Nat)), IV.int IntKind.u64 (rd [r] (0 : Nat) (7 : Nat)), IV.int IntKind.i64 (rd [r] (0 : Nat) (8 : Nat)), IV.int IntKind.u64 (rd [r] (0 : Nat) (9 : Nat)), IV.int IntKind.i64 (rd [r] (0 : Nat) (10 : Nat)), IV.int IntKind.u64 (rd [r] (0 : Nat) (11 : Nat)), IV.int IntKind.i64 (rd [r] (0 : Nat) (12 : Nat)), IV.int IntKind.u64 (rd [r] (0 : Nat) (13 : Nat)), IV.int IntKind.i64 (rd [r] (0 : Nat) (14 : Nat)), IV.int IntKind.u64 (rd [r] (0 : Nat) (15 : Nat)), IV.int IntKind.i64 (rd [r] (0 : Nat) (16 : Nat)), IV.int IntKind.u64 (rd [r] (0 : Nat) (17 : Nat)), IV.int IntKind.i64 (rd [r] (0 : Nat) (18 : Nat)), IV.int IntKind.i64 (rd [r] (0 : Nat) (19 : Nat))]), some (IV.ptr (0 : Nat) (0 : Nat)), some (IV.ptr (1 : Nat) (0 : Nat)), some (IV.ptr (2 : Nat) (0 : Nat)), some (IV.int IntKind.i64 (errF t5)), some (IV.ptr (1 : Nat) (0 : Nat)), some (IV.agg [IV.int IntKind.i64 t3, IV.int IntKind.u64 t4]), some (IV.fn (87 : Nat) []), some (IV.ptr (1 : Nat) (4 : Nat)), some (IV.agg [IV.int IntKind.i64 (rd [r] (0 : Nat) (4 : Nat)), IV.int IntKind.u64 (rd [r] (0 : Nat) (5 : Nat)), IV.int IntKind.i64 (rd [r] (0 : Nat) (6 : Nat)), IV.int IntKind.u64 (rd [r] (0 : Nat) (7 : Nat))]), some (fx t1), some (IV.tup [fx t6, IV.int IntKind.i64 (errF t5)]), some (fx t6), some (IV.int IntKind.i64 (errF t5))] [some (Blk.var (134 : Nat) [IV.fn (87 : Nat) []]), some (Blk.var (32 : Nat) [IV.int IntKind.i64 t3, IV.int IntKind.u64 t4, IV.int IntKind.i64 (rd [r] (0 : Nat) (2 : Nat)), IV.int IntKind.u64 (rd [r] (0 : Nat) (3 : Nat)), IV.int IntKind.i64 (rd [r] (0 : Nat) (4 : Nat)), IV.int IntKind.u64 (rd [r] (0 : Nat) (5 : Nat)), IV.int IntKind.i64 (rd [r] (0 : Nat) (6 : Nat)), IV.int IntKind.u64 (rd [r] (0 : Nat) (7 : Nat)), IV.int IntKind.i64 (rd [r] (0 : Nat) (8 : Nat)), IV.int IntKind.u64 (rd [r] (0 : Nat) (9 : Nat)), IV.int IntKind.i64 (rd [r] (0 : Nat) (10 : Nat)), IV.int IntKind.u64 (rd [r] (0 : Nat) (11 : Nat)), IV.int IntKind.i64 (rd [r] (0 : Nat) (12 : Nat)), IV.int IntKind.u64 (rd [r] (0 : Nat) (13 : Nat)), IV.int IntKind.i64 (rd [r] (0 : Nat) (14 : Nat)), IV.int IntKind.u64 (rd [r] (0 : Nat) (15 : Nat)), IV.int IntKind.i64 (rd [r] (0 : Nat) (16 : Nat)), IV.int IntKind.u64 (rd [r] (0 : Nat) (17 : Nat)), IV.int IntKind.i64 (rd [r] (0 : Nat) (18 : Nat)), IV.int IntKind.i64 (rd [r] (0 : Nat) (19 : Nat))]), some (Blk.var (28 : Nat) [IV.int IntKind.i64 (t6 / (18446744073709551616 : Int)), IV.int IntKind.u64 (t6 % (18446744073709551616 : Int))])] → t8 ∧ t7 ∧ (t8 ∧ t7 ∧ t9 = t9) ∧ K (IV.tup [fx t6, IV.int IntKind.i64 (errF t5)]) [some (Blk.var (134 : Nat) [IV.fn (87 : Nat) []])]) := by refine nm ?_; refine nj ?_; refine nm ?_; refine nm ?_; refine nm ?_; refine nm ?_; refine nm ?_; refine nm ?_; refine nm ?_; kernel_rfl
noncomputable def Τu : FuncId → Option FunS := fun g => if g = f_mass_Centre_2_1 then some G21 else none
def SsA (xs : List (List Int)) (a i : Int) : St := ⟨T 39 [(1, .fn f_mass_Centre_1 []), (4, .ptr 1 0), (6, .ptr 2 0), (11, .sl 0), (12, .int .i64 xs.length), (13, .int .i64 i)], [some (.ro ksB xs), some (.var 28 [.int .i64 0, .int .u64 0]), some (.var 28 (fx a).cells)]⟩
def SsB (g : FuncId) (xs : List (List Int)) (a i : Int) : St := ⟨T 39 [(1, .fn f_mass_Centre_2_1 [.ptr 1 0]), (4, .ptr 2 0), (6, .ptr 3 0), (11, .sl 0), (12, .int .i64 xs.length), (13, .int .i64 i)], [some (.ro ksB xs), some (.var 134 [.fn g []]), some (.var 28 [.int .i64 0, .int .u64 0]), some (.var 28 (fx a).cells)]⟩
theorem rSumA (Λ : FuncId → Nat → Option LoopS) (d : Nat) (xs : List (List Int)) (a i : Int) (k : Out → St → Prop) : (round (envOf Try.prog ⟨Γu, Λ, Τu⟩ d) f_mass_sum 1 0 (lp Try.prog f_mass_sum 0) (SsA xs a i) k) = (∀ (j1 : Int), j1 = a → ∀ (t2 : Int), t2 = rd xs i.toNat (0 : Nat) → ∀ (t3 : Int), t3 = rd xs i.toNat (1 : Nat) → ∀ (t4 : Int), t4 = j1 + (t2 * (18446744073709551616 : Int) + t3) → ∀ (t5 : Int), t5 = errF t4 → ∀ (t6 : Int), t6 = numF t4 → br (decide (i < (↑xs.length : Int))) (((0 : Int) ≤ i ∧ i < (↑xs.length : Int)) ∧ ((0 : Int) ≤ i ∧ i < (↑xs.length : Int)) ∧ pB1 [IV.agg [IV.int IntKind.i64 t2, IV.int IntKind.u64 t3, IV.int IntKind.i64 (rd xs i.toNat (2 : Nat)), IV.int IntKind.u64 (rd xs i.toNat (3 : Nat)), IV.int IntKind.i64 (rd xs i.toNat (4 : Nat)), IV.int IntKind.u64 (rd xs i.toNat (5 : Nat)), IV.int IntKind.i64 (rd xs i.toNat (6 : Nat)), IV.int IntKind.u64 (rd xs i.toNat (7 : Nat)), IV.int IntKind.i64 (rd xs i.toNat (8 : Nat)), IV.int IntKind.u64 (rd xs i.toNat (9 : Nat)), IV.int IntKind.i64 (rd xs i.toNat (10 : Nat)), IV.int IntKind.u64 (rd xs i.toNat (11 : Nat)), IV.int IntKind.i64 (rd xs i.toNat (12 : Nat)), IV.int IntKind.u64 (rd xs i.toNat (13 : Nat)), IV.int IntKind.i64 (rd xs i.toNat (14 : Nat)), IV.int IntKind.u64 (rd xs i.toNat (15 : Nat)), IV.int IntKind.i64 (rd xs i.toNat (16 : Nat)), IV.int IntKind.u64 (rd xs i.toNat (17 : Nat)), IV.int IntKind.i64 (rd xs i.toNat (18 : Nat)), IV.int IntKind.i64 (rd xs i.toNat (19 : Nat))]] [] ∧ may2 [fx a, IV.agg [IV.int IntKind.i64 t2, IV.int IntKind.u64 t3]] [] ∧ br (t5 != (0 : Int)) (k Out.ret (St.mk (T (39 : Nat) [((4 : Nat), IV.ptr (1 : Nat) (0 : Nat)), ((5 : Nat), IV.int IntKind.i64 t5)]) [some (Blk.ro ksB xs), some (Blk.var (28 : Nat) [IV.int IntKind.i64 (0 : Int), IV.int IntKind.u64 (0 : Int)])])) (k Out.normal (St.mk (T (39 : Nat) [((1 : Nat), IV.fn (81 : Nat) []), ((4 : Nat), IV.ptr (1 : Nat) (0 : Nat)), ((6 : Nat), IV.ptr (2 : Nat) (0 : Nat)), ((11 : Nat), IV.sl (0 : Nat)), ((12 : Nat), IV.int IntKind.i64 (↑xs.length : Int)), ((13 : Nat), IV.int IntKind.i64 (IntKind.i64.wrap (i + (1 : Int))))]) [some (Blk.ro ksB xs), some (Blk.var (28 : Nat) [IV.int IntKind.i64 (0 : Int), IV.int IntKind.u64 (0 : Int)]), some (Blk.var (28 : Nat) [IV.int IntKind.i64 (t6 / (18446744073709551616 : Int)), IV.int IntKind.u64 (t6 % (18446744073709551616 : Int))])]))) (k (Out.exit (0 : Nat)) (St.mk (T (39 : Nat) [((4 : Nat), IV.ptr (1 : Nat) (0 : Nat)), ((6 : Nat), IV.ptr (2 : Nat) (0 : Nat))]) [some (Blk.ro ksB xs), some (Blk.var (28 : Nat) [IV.int IntKind.i64 (0 : Int), IV.int IntKind.u64 (0 : Int)]), some (Blk.var (28 : Nat) [IV.int IntKind.i64 (a / (18446744073709551616 : Int)), IV.int IntKind.u64 (a % (18446744073709551616 : Int))])]))) := by refine nj ?_; refine nm ?_; refine nm ?_; refine nm ?_; refine nm ?_; refine nm ?_; kernel_rfl
theorem rSumX (Λ : FuncId → Nat → Option LoopS) (d : Nat) (xs : List (List Int)) (a i : Int) (k : Out → St → Prop) : (round (envOf Try.prog ⟨Γu, Λ, Τu⟩ d) f_mass_sum 2 0 (lp Try.prog f_mass_sum 0) (SsB f_mass_Centre_3 xs a i) k) = (∀ (j1 : Int), j1 = a → ∀ (t2 : Int), t2 = numF (mulI (rd xs i.toNat (0 : Nat) * (18446744073709551616 : Int) + rd xs i.toNat (1 : Nat)) (rd xs i.toNat (4 : Nat) * (18446744073709551616 : Int) + rd xs i.toNat (5 : Nat))) → ∀ (j3 : Int), j3 = t2 → ∀ (t4 : Int), t4 = rd xs i.toNat (0 : Nat) → ∀ (t5 : Int), t5 = rd xs i.toNat (1 : Nat) → ∀ (t6 : Int), t6 = rd xs i.toNat (4 : Nat) → ∀ (t7 : Int), t7 = rd xs i.toNat (5 : Nat) → ∀ (t8 : Int), t8 = errF (j1 + j3) → ∀ (t9 : Int), t9 = numF (j1 + j3) → ∀ (t10 : Int), t10 = errF (mulI (t4 * (18446744073709551616 : Int) + t5) (t6 * (18446744073709551616 : Int) + t7)) → br (decide (i < (↑xs.length : Int))) (((0 : Int) ≤ i ∧ i < (↑xs.length : Int)) ∧ ((0 : Int) ≤ i ∧ i < (↑xs.length : Int)) ∧ p21 [IV.agg [IV.int IntKind.i64 t4, IV.int IntKind.u64 t5, IV.int IntKind.i64 (rd xs i.toNat (2 : Nat)), IV.int IntKind.u64 (rd xs i.toNat (3 : Nat)), IV.int IntKind.i64 t6, IV.int IntKind.u64 t7, IV.int IntKind.i64 (rd xs i.toNat (6 : Nat)), IV.int IntKind.u64 (rd xs i.toNat (7 : Nat)), IV.int IntKind.i64 (rd xs i.toNat (8 : Nat)), IV.int IntKind.u64 (rd xs i.toNat (9 : Nat)), IV.int IntKind.i64 (rd xs i.toNat (10 : Nat)), IV.int IntKind.u64 (rd xs i.toNat (11 : Nat)), IV.int IntKind.i64 (rd xs i.toNat (12 : Nat)), IV.int IntKind.u64 (rd xs i.toNat (13 : Nat)), IV.int IntKind.i64 (rd xs i.toNat (14 : Nat)), IV.int IntKind.u64 (rd xs i.toNat (15 : Nat)), IV.int IntKind.i64 (rd xs i.toNat (16 : Nat)), IV.int IntKind.u64 (rd xs i.toNat (17 : Nat)), IV.int IntKind.i64 (rd xs i.toNat (18 : Nat)), IV.int IntKind.i64 (rd xs i.toNat (19 : Nat))], IV.ptr (0 : Nat) (0 : Nat)] [some (Blk.var (134 : Nat) [IV.fn (86 : Nat) []])] ∧ br (t10 != (0 : Int)) (k Out.ret (St.mk (T (39 : Nat) [((4 : Nat), IV.ptr (2 : Nat) (0 : Nat)), ((5 : Nat), IV.int IntKind.i64 t10)]) [some (Blk.ro ksB xs), some (Blk.var (134 : Nat) [IV.fn (86 : Nat) []]), some (Blk.var (28 : Nat) [IV.int IntKind.i64 (0 : Int), IV.int IntKind.u64 (0 : Int)])])) (may2 [fx a, fx t2] [] ∧ br (t8 != (0 : Int)) (k Out.ret (St.mk (T (39 : Nat) [((4 : Nat), IV.ptr (2 : Nat) (0 : Nat)), ((5 : Nat), IV.int IntKind.i64 t8)]) [some (Blk.ro ksB xs), some (Blk.var (134 : Nat) [IV.fn (86 : Nat) []]), some (Blk.var (28 : Nat) [IV.int IntKind.i64 (0 : Int), IV.int IntKind.u64 (0 : Int)])])) (k Out.normal (St.mk (T (39 : Nat) [((1 : Nat), IV.fn (83 : Nat) [IV.ptr (1 : Nat) (0 : Nat)]), ((4 : Nat), IV.ptr (2 : Nat) (0 : Nat)), ((6 : Nat), IV.ptr (3 : Nat) (0 : Nat)), ((11 : Nat), IV.sl (0 : Nat)), ((12 : Nat), IV.int IntKind.i64 (↑xs.length : Int)), ((13 : Nat), IV.int IntKind.i64 (IntKind.i64.wrap (i + (1 : Int))))]) [some (Blk.ro ksB xs), some (Blk.var (134 : Nat) [IV.fn (86 : Nat) []]), some (Blk.var (28 : Nat) [IV.int IntKind.i64 (0 : Int), IV.int IntKind.u64 (0 : Int)]), some (Blk.var (28 : Nat) [IV.int IntKind.i64 (t9 / (18446744073709551616 : Int)), IV.int IntKind.u64 (t9 % (18446744073709551616 : Int))])])))) (k (Out.exit (0 : Nat)) (St.mk (T (39 : Nat) [((4 : Nat), IV.ptr (2 : Nat) (0 : Nat)), ((6 : Nat), IV.ptr (3 : Nat) (0 : Nat))]) [some (Blk.ro ksB xs), some (Blk.var (134 : Nat) [IV.fn (86 : Nat) []]), some (Blk.var (28 : Nat) [IV.int IntKind.i64 (0 : Int), IV.int IntKind.u64 (0 : Int)]), some (Blk.var (28 : Nat) [IV.int IntKind.i64 (a / (18446744073709551616 : Int)), IV.int IntKind.u64 (a % (18446744073709551616 : Int))])]))) := by refine nj ?_; refine nm ?_; refine nj ?_; refine nm ?_; refine nm ?_; refine nm ?_; refine nm ?_; refine nm ?_; refine nm ?_; refine nm ?_; kernel_rfl
theorem rSumY (Λ : FuncId → Nat → Option LoopS) (d : Nat) (xs : List (List Int)) (a i : Int) (k : Out → St → Prop) : (round (envOf Try.prog ⟨Γu, Λ, Τu⟩ d) f_mass_sum 2 0 (lp Try.prog f_mass_sum 0) (SsB f_mass_Centre_4 xs a i) k) = (∀ (j1 : Int), j1 = a → ∀ (t2 : Int), t2 = numF (mulI (rd xs i.toNat (0 : Nat) * (18446744073709551616 : Int) + rd xs i.toNat (1 : Nat)) (rd xs i.toNat (6 : Nat) * (18446744073709551616 : Int) + rd xs i.toNat (7 : Nat))) → ∀ (j3 : Int), j3 = t2 → ∀ (t4 : Int), t4 = rd xs i.toNat (0 : Nat) → ∀ (t5 : Int), t5 = rd xs i.toNat (1 : Nat) → ∀ (t6 : Int), t6 = rd xs i.toNat (6 : Nat) → ∀ (t7 : Int), t7 = rd xs i.toNat (7 : Nat) → ∀ (t8 : Int), t8 = errF (j1 + j3) → ∀ (t9 : Int), t9 = numF (j1 + j3) → ∀ (t10 : Int), t10 = errF (mulI (t4 * (18446744073709551616 : Int) + t5) (t6 * (18446744073709551616 : Int) + t7)) → br (decide (i < (↑xs.length : Int))) (((0 : Int) ≤ i ∧ i < (↑xs.length : Int)) ∧ ((0 : Int) ≤ i ∧ i < (↑xs.length : Int)) ∧ p21 [IV.agg [IV.int IntKind.i64 t4, IV.int IntKind.u64 t5, IV.int IntKind.i64 (rd xs i.toNat (2 : Nat)), IV.int IntKind.u64 (rd xs i.toNat (3 : Nat)), IV.int IntKind.i64 (rd xs i.toNat (4 : Nat)), IV.int IntKind.u64 (rd xs i.toNat (5 : Nat)), IV.int IntKind.i64 t6, IV.int IntKind.u64 t7, IV.int IntKind.i64 (rd xs i.toNat (8 : Nat)), IV.int IntKind.u64 (rd xs i.toNat (9 : Nat)), IV.int IntKind.i64 (rd xs i.toNat (10 : Nat)), IV.int IntKind.u64 (rd xs i.toNat (11 : Nat)), IV.int IntKind.i64 (rd xs i.toNat (12 : Nat)), IV.int IntKind.u64 (rd xs i.toNat (13 : Nat)), IV.int IntKind.i64 (rd xs i.toNat (14 : Nat)), IV.int IntKind.u64 (rd xs i.toNat (15 : Nat)), IV.int IntKind.i64 (rd xs i.toNat (16 : Nat)), IV.int IntKind.u64 (rd xs i.toNat (17 : Nat)), IV.int IntKind.i64 (rd xs i.toNat (18 : Nat)), IV.int IntKind.i64 (rd xs i.toNat (19 : Nat))], IV.ptr (0 : Nat) (0 : Nat)] [some (Blk.var (134 : Nat) [IV.fn (87 : Nat) []])] ∧ br (t10 != (0 : Int)) (k Out.ret (St.mk (T (39 : Nat) [((4 : Nat), IV.ptr (2 : Nat) (0 : Nat)), ((5 : Nat), IV.int IntKind.i64 t10)]) [some (Blk.ro ksB xs), some (Blk.var (134 : Nat) [IV.fn (87 : Nat) []]), some (Blk.var (28 : Nat) [IV.int IntKind.i64 (0 : Int), IV.int IntKind.u64 (0 : Int)])])) (may2 [fx a, fx t2] [] ∧ br (t8 != (0 : Int)) (k Out.ret (St.mk (T (39 : Nat) [((4 : Nat), IV.ptr (2 : Nat) (0 : Nat)), ((5 : Nat), IV.int IntKind.i64 t8)]) [some (Blk.ro ksB xs), some (Blk.var (134 : Nat) [IV.fn (87 : Nat) []]), some (Blk.var (28 : Nat) [IV.int IntKind.i64 (0 : Int), IV.int IntKind.u64 (0 : Int)])])) (k Out.normal (St.mk (T (39 : Nat) [((1 : Nat), IV.fn (83 : Nat) [IV.ptr (1 : Nat) (0 : Nat)]), ((4 : Nat), IV.ptr (2 : Nat) (0 : Nat)), ((6 : Nat), IV.ptr (3 : Nat) (0 : Nat)), ((11 : Nat), IV.sl (0 : Nat)), ((12 : Nat), IV.int IntKind.i64 (↑xs.length : Int)), ((13 : Nat), IV.int IntKind.i64 (IntKind.i64.wrap (i + (1 : Int))))]) [some (Blk.ro ksB xs), some (Blk.var (134 : Nat) [IV.fn (87 : Nat) []]), some (Blk.var (28 : Nat) [IV.int IntKind.i64 (0 : Int), IV.int IntKind.u64 (0 : Int)]), some (Blk.var (28 : Nat) [IV.int IntKind.i64 (t9 / (18446744073709551616 : Int)), IV.int IntKind.u64 (t9 % (18446744073709551616 : Int))])])))) (k (Out.exit (0 : Nat)) (St.mk (T (39 : Nat) [((4 : Nat), IV.ptr (2 : Nat) (0 : Nat)), ((6 : Nat), IV.ptr (3 : Nat) (0 : Nat))]) [some (Blk.ro ksB xs), some (Blk.var (134 : Nat) [IV.fn (87 : Nat) []]), some (Blk.var (28 : Nat) [IV.int IntKind.i64 (0 : Int), IV.int IntKind.u64 (0 : Int)]), some (Blk.var (28 : Nat) [IV.int IntKind.i64 (a / (18446744073709551616 : Int)), IV.int IntKind.u64 (a % (18446744073709551616 : Int))])]))) := by refine nj ?_; refine nm ?_; refine nj ?_; refine nm ?_; refine nm ?_; refine nm ?_; refine nm ?_; refine nm ?_; refine nm ?_; refine nm ?_; kernel_rfl
def pSum (n0 : Nat) (st : St) (xs : List (List Int)) : Prop := okRows ksB xs ∧ xs.length ≤ maxLen ∧ mayRs xs ∧ n0 = 1 ∧ st = SsA xs 0 0
def pSumB (n0 : Nat) (st : St) (g : FuncId) (xs : List (List Int)) : Prop := okRows ksB xs ∧ xs.length ≤ maxLen ∧ mayRs xs ∧ n0 = 2 ∧ st = SsB g xs 0 0
noncomputable def LSumA : LoopS := fun n0 st K => ∃ xs, pSum n0 st xs ∧ br (sumE 0 xs != 0) (K .ret ⟨T 39 [(4, .ptr 1 0), (5, .int .i64 (sumE 0 xs))], [some (.ro ksB xs), some (.var 28 [.int .i64 0, .int .u64 0])]⟩)
  (K (.exit 0) ⟨T 39 [(4, .ptr 1 0), (6, .ptr 2 0)], [some (.ro ksB xs), some (.var 28 [.int .i64 0, .int .u64 0]), some (.var 28 (fx (sumN 0 xs)).cells)]⟩)
noncomputable def LSumB (g : FuncId) (w : Nat) : LoopS := fun n0 st K => ∃ xs, pSumB n0 st g xs ∧ br (sumE w xs != 0) (K .ret ⟨T 39 [(4, .ptr 2 0), (5, .int .i64 (sumE w xs))], [some (.ro ksB xs), some (.var 134 [.fn g []]), some (.var 28 [.int .i64 0, .int .u64 0])]⟩)
  (K (.exit 0) ⟨T 39 [(4, .ptr 2 0), (6, .ptr 3 0)], [some (.ro ksB xs), some (.var 134 [.fn g []]), some (.var 28 [.int .i64 0, .int .u64 0]), some (.var 28 (fx (sumN w xs)).cells)]⟩)
noncomputable def NsA : Know := ⟨Γu, fun f i => if f = f_mass_sum then (if i = 0 then some LSumA else none) else none, Τu⟩
noncomputable def NsX : Know := ⟨Γu, fun f i => if f = f_mass_sum then (if i = 0 then some (LSumB f_mass_Centre_3 4) else none) else none, Τu⟩
noncomputable def NsY : Know := ⟨Γu, fun f i => if f = f_mass_sum then (if i = 0 then some (LSumB f_mass_Centre_4 6) else none) else none, Τu⟩
theorem v_sumA (xs : List (List Int)) (K : IV → List (Option Blk) → Prop) : (runFn Try.prog NsA 3 f_mass_sum [.sl 0, .fn f_mass_Centre_1 []] [some (.ro ksB xs)] fun v b1 => gcV 1 v b1 K) = (∃ xs_1, pSum (1 : Nat) (St.mk (T (39 : Nat) [((1 : Nat), IV.fn (81 : Nat) []), ((4 : Nat), IV.ptr (1 : Nat) (0 : Nat)), ((6 : Nat), IV.ptr (2 : Nat) (0 : Nat)), ((11 : Nat), IV.sl (0 : Nat)), ((12 : Nat), IV.int IntKind.i64 (↑xs.length : Int)), ((13 : Nat), IV.int IntKind.i64 (0 : Int))]) [some (Blk.ro ksB xs), some (Blk.var (28 : Nat) [IV.int IntKind.i64 (0 : Int), IV.int IntKind.u64 (0 : Int)]), some (Blk.var (28 : Nat) [IV.int IntKind.i64 (0 : Int), IV.int IntKind.u64 (0 : Int)])]) xs_1 ∧ br (sumE (0 : Nat) xs_1 != (0 : Int)) (K (IV.tup [IV.agg [IV.int IntKind.i64 (0 : Int), IV.int IntKind.u64 (0 : Int)], IV.int IntKind.i64 (sumE (0 : Nat) xs_1)]) [some (Blk.ro ksB xs_1)]) (K (IV.tup [fx (sumN (0 : Nat) xs_1), IV.int IntKind.i64 (0 : Int)]) [some (Blk.ro ksB xs_1)])) := by kernel_rfl
theorem v_sumX (xs : List (List Int)) (K : IV → List (Option Blk) → Prop) : (runFn Try.prog NsX 3 f_mass_sum [.sl 0, .fn f_mass_Centre_2_1 [.ptr 1 0]] [some (.ro ksB xs), some (.var 134 [.fn f_mass_Centre_3 []])] fun v b1 => gcV 2 v b1 K) = (∃ xs_1, pSumB (2 : Nat) (St.mk (T (39 : Nat) [((1 : Nat), IV.fn (83 : Nat) [IV.ptr (1 : Nat) (0 : Nat)]), ((4 : Nat), IV.ptr (2 : Nat) (0 : Nat)), ((6 : Nat), IV.ptr (3 : Nat) (0 : Nat)), ((11 : Nat), IV.sl (0 : Nat)), ((12 : Nat), IV.int IntKind.i64 (↑xs.length : Int)), ((13 : Nat), IV.int IntKind.i64 (0 : Int))]) [some (Blk.ro ksB xs), some (Blk.var (134 : Nat) [IV.fn (86 : Nat) []]), some (Blk.var (28 : Nat) [IV.int IntKind.i64 (0 : Int), IV.int IntKind.u64 (0 : Int)]), some (Blk.var (28 : Nat) [IV.int IntKind.i64 (0 : Int), IV.int IntKind.u64 (0 : Int)])]) (86 : Nat) xs_1 ∧ br (sumE (4 : Nat) xs_1 != (0 : Int)) (K (IV.tup [IV.agg [IV.int IntKind.i64 (0 : Int), IV.int IntKind.u64 (0 : Int)], IV.int IntKind.i64 (sumE (4 : Nat) xs_1)]) [some (Blk.ro ksB xs_1), some (Blk.var (134 : Nat) [IV.fn (86 : Nat) []])]) (K (IV.tup [fx (sumN (4 : Nat) xs_1), IV.int IntKind.i64 (0 : Int)]) [some (Blk.ro ksB xs_1), some (Blk.var (134 : Nat) [IV.fn (86 : Nat) []])])) := by kernel_rfl
theorem v_sumY (xs : List (List Int)) (K : IV → List (Option Blk) → Prop) : (runFn Try.prog NsY 3 f_mass_sum [.sl 0, .fn f_mass_Centre_2_1 [.ptr 1 0]] [some (.ro ksB xs), some (.var 134 [.fn f_mass_Centre_4 []])] fun v b1 => gcV 2 v b1 K) = (∃ xs_1, pSumB (2 : Nat) (St.mk (T (39 : Nat) [((1 : Nat), IV.fn (83 : Nat) [IV.ptr (1 : Nat) (0 : Nat)]), ((4 : Nat), IV.ptr (2 : Nat) (0 : Nat)), ((6 : Nat), IV.ptr (3 : Nat) (0 : Nat)), ((11 : Nat), IV.sl (0 : Nat)), ((12 : Nat), IV.int IntKind.i64 (↑xs.length : Int)), ((13 : Nat), IV.int IntKind.i64 (0 : Int))]) [some (Blk.ro ksB xs), some (Blk.var (134 : Nat) [IV.fn (87 : Nat) []]), some (Blk.var (28 : Nat) [IV.int IntKind.i64 (0 : Int), IV.int IntKind.u64 (0 : Int)]), some (Blk.var (28 : Nat) [IV.int IntKind.i64 (0 : Int), IV.int IntKind.u64 (0 : Int)])]) (87 : Nat) xs_1 ∧ br (sumE (6 : Nat) xs_1 != (0 : Int)) (K (IV.tup [IV.agg [IV.int IntKind.i64 (0 : Int), IV.int IntKind.u64 (0 : Int)], IV.int IntKind.i64 (sumE (6 : Nat) xs_1)]) [some (Blk.ro ksB xs_1), some (Blk.var (134 : Nat) [IV.fn (87 : Nat) []])]) (K (IV.tup [fx (sumN (6 : Nat) xs_1), IV.int IntKind.i64 (0 : Int)]) [some (Blk.ro ksB xs_1), some (Blk.var (134 : Nat) [IV.fn (87 : Nat) []])])) := by kernel_rfl
end Go.Vs.RF


set_option linter.unusedVariables false
set_option linter.unusedSimpArgs false
set_option maxRecDepth 100000
/- mass: sums over bodies -/
namespace Go.Vs.RF
open Go Go.Proofs Go.Vs Go.IntWalk

theorem rows_in {ks : List IntKind} {xs : List (List Int)} (h : okRows ks xs) (i j : Nat) (hj : j < ks.length) : inK (ks.getD j .i64) (rd xs i j) := by
  unfold rd
  by_cases hi : i < xs.length
  · have : xs.getD i [] = xs[i] := by simp [List.getD, hi]
    rw [this]
    exact h _ (List.getElem_mem hi) j hj
  · have : xs.getD i [] = [] := by simp [List.getD, hi]
    rw [this]
    show inK (ks.getD j .i64) 0
    generalize ks.getD j .i64 = k
    cases k <;> exact ⟨by decide, by decide⟩
theorem lo_in {xs : List (List Int)} (h : okRows ksB xs) (i j : Nat) (hj : j < 20) (hk : ksB.getD j .i64 = .u64) : u64ok (rd xs i j) := by
  have := rows_in h i j hj
  rw [hk] at this
  have h1 : (0 : Int) ≤ rd xs i j ∧ rd xs i j ≤ 18446744073709551615 := this
  unfold u64ok; omega
theorem get_row {xs : List (List Int)} {i : Nat} (hi : i < xs.length) : xs.getD i [] = xs[i] := by simp [List.getD, hi]
theorem fr_of {xs : List (List Int)} {i : Nat} (hi : i < xs.length) (j : Nat) : rd xs i j * 18446744073709551616 + rd xs i (j + 1) = fr xs[i] j := by
  unfold rd; rw [get_row hi]; rfl
theorem knowt3 : KnowOk Try.prog Nt3 3 := knowOf (fun g sp h => ctrst3 h) (fun _ _ => rfl) (fun _ => rfl) 3
theorem c_PX : Contract Try.prog f_mass_Centre_3 spPX := by
  refine contract_of (N := Nt3) 3 knowt3 ?_
  rintro l bs _ _ ⟨x, y, rfl, rfl⟩
  show comes _ _ _ _ _ _ _
  rw [v_PX]
  show (fx (v2 [vx x y] 0), ([] : List Blk)) = _
  rw [(v_vx _ x y 0 rfl).1]
theorem c_PY : Contract Try.prog f_mass_Centre_4 spPY := by
  refine contract_of (N := Nt3) 3 knowt3 ?_
  rintro l bs _ _ ⟨x, y, rfl, rfl⟩
  show comes _ _ _ _ _ _ _
  rw [v_PY]
  show (fx (vy [vx x y] 0), ([] : List Blk)) = _
  rw [(v_vx _ x y 0 rfl).2]
theorem c_C1 : Contract Try.prog f_mass_Centre_1 spC1 := by
  refine contract_of (N := Nt3) 3 knowt3 ?_
  rintro l bs _ _ ⟨r, rfl, rfl⟩
  show comes _ _ _ _ _ _ _
  rw [v_C1]
  rfl
theorem ctrsu : ∀ {g : FuncId} {sp : Vs.Spec}, Γu g = some sp → Contract Try.prog g sp := ext_ok c_PX (ext_ok c_PY (ext_ok c_C1 ctrst3))
theorem knowu : KnowOk Try.prog Nu 3 := knowOf (fun g sp h => ctrsu h) (fun _ _ => rfl) (fun _ => rfl) 3
theorem row_lo {r : List Int} (h : rowB r) (j : Nat) (hj : j < 20) (hk : ksB.getD j .i64 = .u64) : u64ok (r.getD j 0) := by
  have := h j hj
  rw [hk] at this
  have h1 : (0 : Int) ≤ r.getD j 0 ∧ r.getD j 0 ≤ 18446744073709551615 := this
  unfold u64ok; omega
theorem vx_cells {a b c d : Int} (hb : u64ok b) (hd : u64ok d) : [IV.agg [.int .i64 a, .int .u64 b, .int .i64 c, .int .u64 d]] = [IV.agg [.int .i64 ((a * 18446744073709551616 + b) / 18446744073709551616), .int .u64 ((a * 18446744073709551616 + b) % 18446744073709551616), .int .i64 ((c * 18446744073709551616 + d) / 18446744073709551616), .int .u64 ((c * 18446744073709551616 + d) % 18446744073709551616)]] := by
  unfold u64ok at hb hd
  rw [show (a * 18446744073709551616 + b) / 18446744073709551616 = a by omega, show (a * 18446744073709551616 + b) % 18446744073709551616 = b by omega, show (c * 18446744073709551616 + d) / 18446744073709551616 = c by omega, show (c * 18446744073709551616 + d) % 18446744073709551616 = d by omega]
theorem g21X (r : List Int) (hr : rowB r) (hm : mayR r) (K : IV → List (Option Blk) → Prop) (hK : K (.tup [fx (numF (mulI (fr r 0) (fr r 4))), .int .i64 (errF (mulI (fr r 0) (fr r 4)))]) [some (.var 134 [.fn f_mass_Centre_3 []])]) :
    runFn Try.prog Nu 3 f_mass_Centre_2_1 [bodyR r, .ptr 0 0] [some (.var 134 [.fn f_mass_Centre_3 []])] fun v b1 => gcV 1 v b1 K := by
  rw [v_21X]
  rintro t1 e1 j2 rfl t3 e3 t4 e4 t5 e5 t6 e6 t7 e7 t8 e8 t9 e9
  have p8 : t8 := by
    rw [e8]
    exact ⟨fr r 4, fr r 6, by unfold vx; rw [show fr r 4 = rd [r] 0 4 * 18446744073709551616 + rd [r] 0 5 from rfl, show fr r 6 = rd [r] 0 6 * 18446744073709551616 + rd [r] 0 7 from rfl]; exact vx_cells (row_lo hr 5 (by decide) rfl) (row_lo hr 7 (by decide) rfl), rfl⟩
  have e34 : t3 * 18446744073709551616 + t4 = fr r 0 := by rw [e3, e4]; rfl
  have ok4 : u64ok t4 := by rw [e4]; exact row_lo hr 1 (by decide) rfl
  have p7 : t7 := by rw [e7]; exact ⟨fr r 0, j2, by rw [fx_mk2 ok4 e34.symm], rfl, hm.1, by rw [e1]; exact hm.2.1⟩
  refine ⟨p8, p7, ⟨p8, p7, rfl⟩, ?_⟩
  rw [e6, e5, e34, e1]
  exact hK
theorem g21Y (r : List Int) (hr : rowB r) (hm : mayR r) (K : IV → List (Option Blk) → Prop) (hK : K (.tup [fx (numF (mulI (fr r 0) (fr r 6))), .int .i64 (errF (mulI (fr r 0) (fr r 6)))]) [some (.var 134 [.fn f_mass_Centre_4 []])]) :
    runFn Try.prog Nu 3 f_mass_Centre_2_1 [bodyR r, .ptr 0 0] [some (.var 134 [.fn f_mass_Centre_4 []])] fun v b1 => gcV 1 v b1 K := by
  rw [v_21Y]
  rintro t1 e1 j2 rfl t3 e3 t4 e4 t5 e5 t6 e6 t7 e7 t8 e8 t9 e9
  have p8 : t8 := by
    rw [e8]
    exact ⟨fr r 4, fr r 6, by unfold vx; rw [show fr r 4 = rd [r] 0 4 * 18446744073709551616 + rd [r] 0 5 from rfl, show fr r 6 = rd [r] 0 6 * 18446744073709551616 + rd [r] 0 7 from rfl]; exact vx_cells (row_lo hr 5 (by decide) rfl) (row_lo hr 7 (by decide) rfl), rfl⟩
  have e34 : t3 * 18446744073709551616 + t4 = fr r 0 := by rw [e3, e4]; rfl
  have ok4 : u64ok t4 := by rw [e4]; exact row_lo hr 1 (by decide) rfl
  have p7 : t7 := by rw [e7]; exact ⟨fr r 0, j2, by rw [fx_mk2 ok4 e34.symm], rfl, hm.1, by rw [e1]; exact hm.2.2⟩
  refine ⟨p8, p7, ⟨p8, p7, rfl⟩, ?_⟩
  rw [e6, e5, e34, e1]
  exact hK
theorem fun21 : FunOk Try.prog f_mass_Centre_2_1 G21 := by
  refine funOk_gc (N := Nu) 3 knowu ?_
  rintro args b K ⟨⟨r, rfl, hr, hm, hb⟩, hK⟩
  rcases hb with rfl | rfl
  · exact g21X r hr hm K hK
  · exact g21Y r hr hm K hK
theorem funsu : ∀ g G, Τu g = some G → FunOk Try.prog g G := by
  intro g G h
  unfold Τu at h
  split at h
  · rename_i hg; subst hg; cases h; exact fun21
  · cases h
theorem err_bne {s : Int} {A B : Prop} : br (errF s != 0) A B ↔ (¬ mayF s → A) ∧ (mayF s → B) := by
  rw [br_bne]
  constructor
  · rintro ⟨h1, h2⟩
    exact ⟨fun h => h1 fun h0 => h (err_zero.1 h0), fun h => h2 (err_zero.2 h)⟩
  · rintro ⟨h1, h2⟩
    exact ⟨fun h => h1 fun h0 => h (err_zero.2 h0), fun h => h2 (err_zero.1 h)⟩
theorem sum_drop (w : Nat) {xs : List (List Int)} {i : Nat} (hi : i < xs.length) (a : Int) : sumG w (xs.drop i) a = if tmE w xs[i] ≠ 0 then (0, tmE w xs[i]) else if errF (a + tmN w xs[i]) ≠ 0 then (0, errF (a + tmN w xs[i])) else sumG w (xs.drop (i + 1)) (a + tmN w xs[i]) := by
  rw [List.drop_eq_getElem_cons hi]; rfl
theorem sum_over (w : Nat) {xs : List (List Int)} {i : Nat} (hi : ¬ i < xs.length) (a : Int) : sumG w (xs.drop i) a = (a, 0) := by
  rw [List.drop_eq_nil_of_le (by omega)]; rfl
/-- what holds at the head of a sum's loop -/
def ISum (w : Nat) (xs : List (List Int)) (p : Int × Nat) : Prop := p.2 ≤ xs.length ∧ mayF p.1 ∧ sumG w (xs.drop p.2) p.1 = sumG w xs 0
theorem nat_succ {n m : Nat} (h : n < m) (hm : m ≤ maxLen) : IntKind.i64.wrap ((n : Int) + 1) = ((n + 1 : Nat) : Int) := by
  have hm' : m ≤ 9223372036854775807 := hm
  rw [i64_in _ (by omega)]; rfl
theorem lSumA (d n0 : Nat) : LoopOk (envOf Try.prog NsA d) f_mass_sum n0 0 (lp Try.prog f_mass_sum 0) LSumA := by
  intro st K hst
  obtain ⟨xs, ⟨hr, hm, hmay, rfl, rfl⟩, hK⟩ := hst
  have hm' : xs.length ≤ 9223372036854775807 := hm
  refine loop_of (fun p : Int × Nat => SsA xs p.1 p.2) (ISum 0 xs) (fun p => xs.length - p.2) ?_ (a := (0, 0)) ⟨by simp, may_zero, rfl⟩
  rintro ⟨a, i⟩ ⟨h1, h2, h3⟩ k hn hk
  simp only at h1 h2 h3
  show round (envOf Try.prog ⟨Γu, _, Τu⟩ d) _ _ _ _ (SsA xs a i) k
  rw [rSumA]
  rintro a rfl t2 e2 t3 e3 t4 e4 t5 e5 t6 e6
  rw [br_dec]
  constructor
  · intro hi
    have hi' : i < xs.length := by omega
    have et : (i : Int).toNat = i := by omega
    rw [et] at e2 e3
    have hmi := (hmay _ (List.getElem_mem hi')).1
    have ex : t2 * 18446744073709551616 + t3 = fr xs[i] 0 := by rw [e2, e3]; exact fr_of hi' 0
    have ok3 : u64ok t3 := by rw [e3]; exact lo_in hr i 1 (by decide) rfl
    refine ⟨⟨by omega, hi⟩, ⟨by omega, hi⟩, ⟨xs.getD i [], by rw [et, e2, e3]; rfl, rfl⟩, ⟨a, fr xs[i] 0, by rw [fx_mk2 ok3 ex.symm], rfl, h2, hmi⟩, ?_⟩
    rw [ex] at e4
    rw [sum_drop 0 hi', if_neg (show ¬ tmE 0 xs[i] ≠ 0 from fun h => h rfl), show tmN 0 xs[i] = fr xs[i] 0 from rfl, ← e4] at h3
    rw [e5, err_bne]
    constructor
    · intro hno
      rw [if_pos (by rw [err_not hno]; decide)] at h3
      have hE : sumE 0 xs = errF t4 := (congrArg Prod.snd h3).symm
      rw [hE, err_bne] at hK
      exact hk _ _ (by simp) (hK.1 hno)
    · intro hmy
      rw [if_neg (by rw [err_may hmy]; simp)] at h3
      rw [nat_succ hi' hm, e6, num_may hmy]
      exact hn (t4, i + 1) ⟨hi', hmy, h3⟩ (by simp; omega)
  · intro hi
    have hi' : ¬ i < xs.length := by omega
    rw [sum_over 0 hi'] at h3
    have hE : sumE 0 xs = 0 := (congrArg Prod.snd h3).symm
    have hN : sumN 0 xs = a := (congrArg Prod.fst h3).symm
    rw [hE, hN, br_bne] at hK
    exact hk _ _ (by simp) (hK.2 rfl)
theorem lSumX (d n0 : Nat) : LoopOk (envOf Try.prog NsX d) f_mass_sum n0 0 (lp Try.prog f_mass_sum 0) (LSumB f_mass_Centre_3 4) := by
  intro st K hst
  obtain ⟨xs, ⟨hr, hm, hmay, rfl, rfl⟩, hK⟩ := hst
  have hm' : xs.length ≤ 9223372036854775807 := hm
  refine loop_of (fun p : Int × Nat => SsB f_mass_Centre_3 xs p.1 p.2) (ISum 4 xs) (fun p => xs.length - p.2) ?_ (a := (0, 0)) ⟨by simp, may_zero, rfl⟩
  rintro ⟨a, i⟩ ⟨h1, h2, h3⟩ k hn hk
  simp only at h1 h2 h3
  show round (envOf Try.prog ⟨Γu, _, Τu⟩ d) _ _ _ _ (SsB f_mass_Centre_3 xs a i) k
  rw [rSumX]
  rintro a rfl t2 e2 j3 rfl t4 e4 t5 e5 t6 e6 t7 e7 t8 e8 t9 e9 t10 e10
  rw [br_dec]
  constructor
  · intro hi
    have hi' : i < xs.length := by omega
    have et : (i : Int).toNat = i := by omega
    have hmi := hmay _ (List.getElem_mem hi')
    have e0 : fr xs[i] 0 = rd xs (i : Int).toNat 0 * 18446744073709551616 + rd xs (i : Int).toNat 1 := by rw [et]; exact (fr_of hi' 0).symm
    have ew : fr xs[i] 4 = rd xs (i : Int).toNat 4 * 18446744073709551616 + rd xs (i : Int).toNat 5 := by rw [et]; exact (fr_of hi' 4).symm
    have hrow : rowB (xs.getD i []) := by rw [get_row hi']; exact hr _ (List.getElem_mem hi')
    refine ⟨⟨by omega, hi⟩, ⟨by omega, hi⟩, ⟨xs.getD i [], by rw [e4, e5, e6, e7, et]; rfl, hrow, by rw [get_row hi']; exact hmi, .inl rfl⟩, ?_⟩
    rw [sum_drop 4 hi', show tmE 4 xs[i] = errF (mulI (fr xs[i] 0) (fr xs[i] 4)) from rfl, show tmN 4 xs[i] = numF (mulI (fr xs[i] 0) (fr xs[i] 4)) from rfl] at h3
    rw [e4, e5, e6, e7, ← e0, ← ew] at e10
    rw [← e0, ← ew] at e2
    rw [e10, err_bne]
    constructor
    · intro hno
      rw [if_pos (by rw [err_not hno]; decide)] at h3
      have hE : sumE 4 xs = errF (mulI (fr xs[i] 0) (fr xs[i] 4)) := (congrArg Prod.snd h3).symm
      rw [hE, err_bne] at hK
      exact hk _ _ (by simp) (hK.1 hno)
    intro hmm
    rw [if_neg (by rw [err_may hmm]; simp), ← e2] at h3
    refine ⟨may2_of h2 (by rw [e2]; exact num_is _), ?_⟩
    rw [e8, err_bne]
    constructor
    · intro hno
      rw [if_pos (by rw [err_not hno]; decide)] at h3
      have hE : sumE 4 xs = errF (a + j3) := (congrArg Prod.snd h3).symm
      rw [hE, err_bne] at hK
      exact hk _ _ (by simp) (hK.1 hno)
    · intro hmy
      rw [if_neg (by rw [err_may hmy]; simp)] at h3
      rw [nat_succ hi' hm, e9, num_may hmy]
      exact hn (a + j3, i + 1) ⟨hi', hmy, h3⟩ (by simp; omega)
  · intro hi
    have hi' : ¬ i < xs.length := by omega
    rw [sum_over 4 hi'] at h3
    have hE : sumE 4 xs = 0 := (congrArg Prod.snd h3).symm
    have hN : sumN 4 xs = a := (congrArg Prod.fst h3).symm
    rw [hE, hN, br_bne] at hK
    exact hk _ _ (by simp) (hK.2 rfl)
theorem lSumY (d n0 : Nat) : LoopOk (envOf Try.prog NsY d) f_mass_sum n0 0 (lp Try.prog f_mass_sum 0) (LSumB f_mass_Centre_4 6) := by
  intro st K hst
  obtain ⟨xs, ⟨hr, hm, hmay, rfl, rfl⟩, hK⟩ := hst
  have hm' : xs.length ≤ 9223372036854775807 := hm
  refine loop_of (fun p : Int × Nat => SsB f_mass_Centre_4 xs p.1 p.2) (ISum 6 xs) (fun p => xs.length - p.2) ?_ (a := (0, 0)) ⟨by simp, may_zero, rfl⟩
  rintro ⟨a, i⟩ ⟨h1, h2, h3⟩ k hn hk
  simp only at h1 h2 h3
  show round (envOf Try.prog ⟨Γu, _, Τu⟩ d) _ _ _ _ (SsB f_mass_Centre_4 xs a i) k
  rw [rSumY]
  rintro a rfl t2 e2 j3 rfl t4 e4 t5 e5 t6 e6 t7 e7 t8 e8 t9 e9 t10 e10
  rw [br_dec]
  constructor
  · intro hi
    have hi' : i < xs.length := by omega
    have et : (i : Int).toNat = i := by omega
    have hmi := hmay _ (List.getElem_mem hi')
    have e0 : fr xs[i] 0 = rd xs (i : Int).toNat 0 * 18446744073709551616 + rd xs (i : Int).toNat 1 := by rw [et]; exact (fr_of hi' 0).symm
    have ew : fr xs[i] 6 = rd xs (i : Int).toNat 6 * 18446744073709551616 + rd xs (i : Int).toNat 7 := by rw [et]; exact (fr_of hi' 6).symm
    have hrow : rowB (xs.getD i []) := by rw [get_row hi']; exact hr _ (List.getElem_mem hi')
    refine ⟨⟨by omega, hi⟩, ⟨by omega, hi⟩, ⟨xs.getD i [], by rw [e4, e5, e6, e7, et]; rfl, hrow, by rw [get_row hi']; exact hmi, .inr rfl⟩, ?_⟩
    rw [sum_drop 6 hi', show tmE 6 xs[i] = errF (mulI (fr xs[i] 0) (fr xs[i] 6)) from rfl, show tmN 6 xs[i] = numF (mulI (fr xs[i] 0) (fr xs[i] 6)) from rfl] at h3
    rw [e4, e5, e6, e7, ← e0, ← ew] at e10
    rw [← e0, ← ew] at e2
    rw [e10, err_bne]
    constructor
    · intro hno
      rw [if_pos (by rw [err_not hno]; decide)] at h3
      have hE : sumE 6 xs = errF (mulI (fr xs[i] 0) (fr xs[i] 6)) := (congrArg Prod.snd h3).symm
      rw [hE, err_bne] at hK
      exact hk _ _ (by simp) (hK.1 hno)
    intro hmm
    rw [if_neg (by rw [err_may hmm]; simp), ← e2] at h3
    refine ⟨may2_of h2 (by rw [e2]; exact num_is _), ?_⟩
    rw [e8, err_bne]
    constructor
    · intro hno
      rw [if_pos (by rw [err_not hno]; decide)] at h3
      have hE : sumE 6 xs = errF (a + j3) := (congrArg Prod.snd h3).symm
      rw [hE, err_bne] at hK
      exact hk _ _ (by simp) (hK.1 hno)
    · intro hmy
      rw [if_neg (by rw [err_may hmy]; simp)] at h3
      rw [nat_succ hi' hm, e9, num_may hmy]
      exact hn (a + j3, i + 1) ⟨hi', hmy, h3⟩ (by simp; omega)
  · intro hi
    have hi' : ¬ i < xs.length := by omega
    rw [sum_over 6 hi'] at h3
    have hE : sumE 6 xs = 0 := (congrArg Prod.snd h3).symm
    have hN : sumN 6 xs = a := (congrArg Prod.fst h3).symm
    rw [hE, hN, br_bne] at hK
    exact hk _ _ (by simp) (hK.2 rfl)
end Go.Vs.RF

set_option linter.unusedVariables false
/- mass: the centre -/
namespace Go.Vs.RF
open Go Go.Proofs Go.Vs
/-- which part of a place is summed, by the function's captured variable -/
noncomputable def whS (b : List (Option Blk)) : Nat := match look b 1 with
  | some (.var _ [.fn g _]) => if g = f_mass_Centre_3 then 4 else 6
  | _ => 0
def pGs (args : List IV) (b : List (Option Blk)) : Prop := ∃ xs, okRows ksB xs ∧ xs.length ≤ maxLen ∧ mayRs xs ∧ ((args = [.sl 0, .fn f_mass_Centre_1 []] ∧ b = [some (.ro ksB xs)]) ∨ (args = [.sl 0, .fn f_mass_Centre_2_1 [.ptr 1 0]] ∧ (b = [some (.ro ksB xs), some (.var 134 [.fn f_mass_Centre_3 []])] ∨ b = [some (.ro ksB xs), some (.var 134 [.fn f_mass_Centre_4 []])])))
noncomputable def Gsum : FunS := fun args b K => pGs args b ∧ K (.tup [fx (sumN (whS b) (argX b 0)), .int .i64 (sumE (whS b) (argX b 0))]) b
noncomputable def Ncen : Know := ⟨Γt3, fun _ _ => none, fun g => if g = f_mass_sum then some Gsum else none⟩
theorem v_Centre (xs : List (List Int)) (K : IV → List Blk → Prop) : (comes Try.prog Ncen 3 f_mass_Centre [.sl 0] [.ro ksB xs] K) = (∀ (t1 : Int), t1 = sumN (6 : Nat) xs → ∀ (j2 : Int), j2 = t1 → ∀ (t3 : Int), t3 = sumN (0 : Nat) xs → ∀ (j4 : Int), j4 = t3 → ∀ (t5 : Int), t5 = sumN (4 : Nat) xs → ∀ (j6 : Int), j6 = t5 → ∀ (t7 : Int), t7 = divE j2 j4 → ∀ (t8 : Int), t8 = divN j2 j4 → ∀ (t9 : Int), t9 = divE j6 j4 → ∀ (t10 : Int), t10 = divN j6 j4 → ∀ (t11 : Int), t11 = sumE (0 : Nat) xs → ∀ (t12 : Int), t12 = sumE (6 : Nat) xs → ∀ (t13 : Int), t13 = sumE (4 : Nat) xs → ∀ (t14 : Prop), t14 = K (IV.tup [IV.agg [IV.int IntKind.i64 (0 : Int), IV.int IntKind.u64 (0 : Int)], IV.agg [IV.int IntKind.i64 (0 : Int), IV.int IntKind.u64 (0 : Int), IV.int IntKind.i64 (0 : Int), IV.int IntKind.u64 (0 : Int)], IV.int IntKind.i64 t7]) [] → ∀ (t15 : Prop), t15 = K (IV.tup [IV.agg [IV.int IntKind.i64 (0 : Int), IV.int IntKind.u64 (0 : Int)], IV.agg [IV.int IntKind.i64 (0 : Int), IV.int IntKind.u64 (0 : Int), IV.int IntKind.i64 (0 : Int), IV.int IntKind.u64 (0 : Int)], IV.int IntKind.i64 t9]) [] → ∀ (t16 : Prop), t16 = K (IV.tup [IV.agg [IV.int IntKind.i64 (0 : Int), IV.int IntKind.u64 (0 : Int)], IV.agg [IV.int IntKind.i64 (0 : Int), IV.int IntKind.u64 (0 : Int), IV.int IntKind.i64 (0 : Int), IV.int IntKind.u64 (0 : Int)], IV.int IntKind.i64 (1 : Int)]) [] → ∀ (t17 : Prop), t17 = K (IV.tup [IV.agg [IV.int IntKind.i64 (0 : Int), IV.int IntKind.u64 (0 : Int)], IV.agg [IV.int IntKind.i64 (0 : Int), IV.int IntKind.u64 (0 : Int), IV.int IntKind.i64 (0 : Int), IV.int IntKind.u64 (0 : Int)], IV.int IntKind.i64 t11]) [] → ∀ (t18 : Prop), t18 = K (IV.tup [IV.agg [IV.int IntKind.i64 (0 : Int), IV.int IntKind.u64 (0 : Int)], IV.agg [IV.int IntKind.i64 (0 : Int), IV.int IntKind.u64 (0 : Int), IV.int IntKind.i64 (0 : Int), IV.int IntKind.u64 (0 : Int)], IV.int IntKind.i64 t12]) [] → ∀ (t19 : Prop), t19 = K (IV.tup [IV.agg [IV.int IntKind.i64 (0 : Int), IV.int IntKind.u64 (0 : Int)], IV.agg [IV.int IntKind.i64 (0 : Int), IV.int IntKind.u64 (0 : Int), IV.int IntKind.i64 (0 : Int), IV.int IntKind.u64 (0 : Int)], IV.int IntKind.i64 t13]) [] → ∀ (t20 : Prop), t20 = may2 [fx t1, fx t3] [] → ∀ (t21 : Prop), t21 = K (IV.tup [fx t3, IV.agg [IV.int IntKind.i64 (0 : Int), IV.int IntKind.u64 (0 : Int), IV.int IntKind.i64 (0 : Int), IV.int IntKind.u64 (0 : Int)], IV.int IntKind.i64 (0 : Int)]) [] → ∀ (t22 : Prop), t22 = K (IV.tup [fx t3, IV.agg [IV.int IntKind.i64 (0 : Int), IV.int IntKind.u64 (0 : Int), IV.int IntKind.i64 (t1 / (18446744073709551616 : Int)), IV.int IntKind.u64 (t1 % (18446744073709551616 : Int))], IV.int IntKind.i64 (0 : Int)]) [] → ∀ (t23 : Prop), t23 = K (IV.tup [fx t3, IV.agg [IV.int IntKind.i64 (t5 / (18446744073709551616 : Int)), IV.int IntKind.u64 (t5 % (18446744073709551616 : Int)), IV.int IntKind.i64 (0 : Int), IV.int IntKind.u64 (0 : Int)], IV.int IntKind.i64 (0 : Int)]) [] → ∀ (t24 : Prop), t24 = K (IV.tup [fx t3, IV.agg [IV.int IntKind.i64 (0 : Int), IV.int IntKind.u64 (0 : Int), IV.int IntKind.i64 (t8 / (18446744073709551616 : Int)), IV.int IntKind.u64 (t8 % (18446744073709551616 : Int))], IV.int IntKind.i64 (0 : Int)]) [] → ∀ (t25 : Prop), t25 = K (IV.tup [fx t3, IV.agg [IV.int IntKind.i64 (t10 / (18446744073709551616 : Int)), IV.int IntKind.u64 (t10 % (18446744073709551616 : Int)), IV.int IntKind.i64 (0 : Int), IV.int IntKind.u64 (0 : Int)], IV.int IntKind.i64 (0 : Int)]) [] → ∀ (t26 : Prop), t26 = K (IV.tup [fx t3, vx t5 t1, IV.int IntKind.i64 (0 : Int)]) [] → ∀ (t27 : Prop), t27 = pGs [IV.sl (0 : Nat), IV.fn (83 : Nat) [IV.ptr (1 : Nat) (0 : Nat)]] [some (Blk.ro ksB xs), some (Blk.var (134 : Nat) [IV.fn (87 : Nat) []])] → ∀ (t28 : Prop), t28 = K (IV.tup [fx t3, vx t10 t1, IV.int IntKind.i64 (0 : Int)]) [] → ∀ (t29 : Prop), t29 = K (IV.tup [fx t3, vx t5 t8, IV.int IntKind.i64 (0 : Int)]) [] → ∀ (t30 : Prop), t30 = K (IV.tup [fx t3, vx t10 t8, IV.int IntKind.i64 (0 : Int)]) [] → ∀ (t31 : Prop), t31 = (t14 ∧ t14) → ∀ (t32 : Prop), t32 = (t15 ∧ t15) → ∀ (t33 : Prop), t33 = (t17 ∧ t17) → ∀ (t34 : Prop), t34 = (t18 ∧ t18) → ∀ (t35 : Prop), t35 = (t19 ∧ t19) → ∀ (t36 : Prop), t36 = (t14 ∧ t31) → ∀ (t37 : Prop), t37 = (t31 ∧ t14) → ∀ (t38 : Prop), t38 = (t15 ∧ t32) → ∀ (t39 : Prop), t39 = (t32 ∧ t15) → ∀ (t40 : Prop), t40 = (t17 ∧ t33) → ∀ (t41 : Prop), t41 = (t33 ∧ t17) → ∀ (t42 : Prop), t42 = (t18 ∧ t34) → ∀ (t43 : Prop), t43 = (t34 ∧ t18) → ∀ (t44 : Prop), t44 = (t19 ∧ t35) → ∀ (t45 : Prop), t45 = (t35 ∧ t19) → ∀ (t46 : Prop), t46 = ((t36 ∧ t31 ∧ t37) ∧ (t36 ∧ t14) ∧ t37) → ∀ (t47 : Prop), t47 = ((t40 ∧ t33 ∧ t41) ∧ (t40 ∧ t17) ∧ t41) → ∀ (t48 : Prop), t48 = ((t42 ∧ t34 ∧ t43) ∧ (t42 ∧ t18) ∧ t43) → br ((↑xs.length : Int) == (0 : Int)) ((t16 ∧ t16) ∧ t16) (pGs [IV.sl (0 : Nat), IV.fn (81 : Nat) []] [some (Blk.ro ksB xs)] ∧ br (t11 != (0 : Int)) t47 (br (t11 != (0 : Int)) (br (t11 != (0 : Int)) (br (t11 != (0 : Int)) t47 ((t21 ∧ t21) ∧ t21)) (t27 ∧ br (t12 == (0 : Int)) (t20 ∧ br (t7 != (0 : Int)) t46 ((t24 ∧ t24) ∧ t24)) (br (t12 != (0 : Int)) t48 ((t22 ∧ t22) ∧ t22)))) (pGs [IV.sl (0 : Nat), IV.fn (83 : Nat) [IV.ptr (1 : Nat) (0 : Nat)]] [some (Blk.ro ksB xs), some (Blk.var (134 : Nat) [IV.fn (86 : Nat) []])] ∧ br (t13 == (0 : Int)) (may2 [fx t5, fx t3] [] ∧ br (t9 != (0 : Int)) (br (t9 != (0 : Int)) ((t38 ∧ t32 ∧ t39) ∧ (t38 ∧ t15) ∧ t39) ((t25 ∧ t25) ∧ t25)) (t27 ∧ br (t12 == (0 : Int)) (t20 ∧ br (t7 != (0 : Int)) t46 ((t30 ∧ t30) ∧ t30)) (br (t12 != (0 : Int)) t48 ((t28 ∧ t28) ∧ t28)))) (br (t13 != (0 : Int)) (br (t13 != (0 : Int)) ((t44 ∧ t35 ∧ t45) ∧ (t44 ∧ t19) ∧ t45) ((t23 ∧ t23) ∧ t23)) (t27 ∧ br (t12 == (0 : Int)) (t20 ∧ br (t7 != (0 : Int)) t46 ((t29 ∧ t29) ∧ t29)) (br (t12 != (0 : Int)) t48 ((t26 ∧ t26) ∧ t26)))))))) := by refine nm ?_; refine nj ?_; refine nm ?_; refine nj ?_; refine nm ?_; refine nj ?_; refine nm ?_; refine nm ?_; refine nm ?_; refine nm ?_; refine nm ?_; refine nm ?_; refine nm ?_; refine nm ?_; refine nm ?_; refine nm ?_; refine nm ?_; refine nm ?_; refine nm ?_; refine nm ?_; refine nm ?_; refine nm ?_; refine nm ?_; refine nm ?_; refine nm ?_; refine nm ?_; refine nm ?_; refine nm ?_; refine nm ?_; refine nm ?_; refine nm ?_; refine nm ?_; refine nm ?_; refine nm ?_; refine nm ?_; refine nm ?_; refine nm ?_; refine nm ?_; refine nm ?_; refine nm ?_; refine nm ?_; refine nm ?_; refine nm ?_; refine nm ?_; refine nm ?_; refine nm ?_; refine nm ?_; refine nm ?_; kernel_rfl
/-- a part of the centre, its error; the centre -/
def axE (w : Nat) (xs : List (List Int)) : Int := if sumE w xs = 0 then divE (sumN w xs) (sumN 0 xs) else sumE w xs
def axN (w : Nat) (xs : List (List Int)) : Int := if sumE w xs = 0 then divN (sumN w xs) (sumN 0 xs) else 0
def cE (xs : List (List Int)) : Int := if xs.length = 0 then 1 else if sumE 0 xs ≠ 0 then sumE 0 xs else if axE 4 xs ≠ 0 then axE 4 xs else axE 6 xs
def cM (xs : List (List Int)) : Int := if cE xs = 0 then sumN 0 xs else 0
def cX (xs : List (List Int)) : Int := if cE xs = 0 then axN 4 xs else 0
def cY (xs : List (List Int)) : Int := if cE xs = 0 then axN 6 xs else 0
def pBs (l : List IV) (bs : List Blk) : Prop := ∃ xs, l = [.sl 0] ∧ bs = [.ro ksB xs] ∧ mayRs xs
noncomputable def cenV (xs : List (List Int)) : IV := .tup [fx (cM xs), vx (cX xs) (cY xs), .int .i64 (cE xs)]
noncomputable def midV (xs : List (List Int)) : IV := .agg [.int .i64 (cM xs / 18446744073709551616), .int .u64 (cM xs % 18446744073709551616), .int .i64 (cX xs / 18446744073709551616), .int .u64 (cX xs % 18446744073709551616), .int .i64 (cY xs / 18446744073709551616), .int .u64 (cY xs % 18446744073709551616), .int .i64 (cE xs)]
noncomputable def spCen : Vs.Spec := ⟨pBs, fun _ bs => (cenV (xsOf bs 0), [])⟩
noncomputable def spRCen : Vs.Spec := ⟨pBs, fun _ bs => (midV (xsOf bs 0), [])⟩
end Go.Vs.RF


set_option linter.unusedVariables false
set_option linter.unusedSimpArgs false
set_option maxRecDepth 100000
/- mass: the centre -/
namespace Go.Vs.RF
open Go Go.Proofs Go.Vs Go.IntWalk

theorem sum_err (w : Nat) : ∀ (xs : List (List Int)) (a : Int), (sumG w xs a).2 ≠ 0 → (sumG w xs a).1 = 0
  | [], a, h => absurd rfl h
  | r :: l, a, h => by
    unfold sumG at h ⊢
    split
    · rfl
    · rename_i h1
      rw [if_neg h1] at h
      split
      · rfl
      · rename_i h2
        rw [if_neg h2] at h
        exact sum_err w l _ h
theorem sum_may (w : Nat) : ∀ (xs : List (List Int)) (a : Int), mayF a → mayF (sumG w xs a).1
  | [], a, h => h
  | r :: l, a, h => by
    unfold sumG
    split
    · exact may_zero
    · split
      · exact may_zero
      · rename_i h2
        exact sum_may w l _ (err_zero.1 (by simpa using h2))
theorem sumN_may (w : Nat) (xs : List (List Int)) : mayF (sumN w xs) := sum_may w xs 0 may_zero
theorem know_loop {N : Know} {f0 : FuncId} {L : LoopS} (hΓ : ∀ g sp, N.Γ g = some sp → Contract Try.prog g sp) (hΛ : N.Λ = fun f i => if f = f0 then (if i = 0 then some L else none) else none) (hΤ : ∀ g G, N.Τ g = some G → FunOk Try.prog g G)
    (h : ∀ d n0, LoopOk (envOf Try.prog N d) f0 n0 0 (lp Try.prog f0 0) L) (d : Nat) : KnowOk Try.prog N d := by
  refine ⟨mixedOrders, hΓ, ?_, hΤ⟩
  intro d' _ f i S n0 hS
  rw [hΛ] at hS
  simp only at hS
  split at hS
  · split at hS
    · cases hS
      rename_i hf hi
      subst hf; subst hi
      exact h d' n0
    · cases hS
  · cases hS
theorem know_fun {N : Know} {f0 : FuncId} {G : FunS} (hΓ : ∀ g sp, N.Γ g = some sp → Contract Try.prog g sp) (hΛ : ∀ f i, N.Λ f i = none) (hΤ : N.Τ = fun g => if g = f0 then some G else none)
    (h : FunOk Try.prog f0 G) (d : Nat) : KnowOk Try.prog N d := by
  refine ⟨mixedOrders, hΓ, loops_none hΛ d, ?_⟩
  intro g G' hG
  rw [hΤ] at hG
  simp only at hG
  split at hG
  · rename_i hg; subst hg; cases hG; exact h
  · cases hG
theorem ctxA : KnowOk Try.prog NsA 3 := know_loop (f0 := f_mass_sum) (L := LSumA) (fun g sp h => ctrsu h) rfl funsu lSumA 3
theorem ctxX : KnowOk Try.prog NsX 3 := know_loop (f0 := f_mass_sum) (L := LSumB f_mass_Centre_3 4) (fun g sp h => ctrsu h) rfl funsu lSumX 3
theorem ctxY : KnowOk Try.prog NsY 3 := know_loop (f0 := f_mass_sum) (L := LSumB f_mass_Centre_4 6) (fun g sp h => ctrsu h) rfl funsu lSumY 3
theorem sum_ends {w : Nat} {xs : List (List Int)} {b : List (Option Blk)} {K : IV → List (Option Blk) → Prop} (hK : K (.tup [fx (sumN w xs), .int .i64 (sumE w xs)]) b) :
    br (sumE w xs != 0) (K (.tup [.agg [.int .i64 0, .int .u64 0], .int .i64 (sumE w xs)]) b) (K (.tup [fx (sumN w xs), .int .i64 0]) b) := by
  rw [br_bne]
  constructor
  · intro h
    rw [show sumN w xs = 0 from sum_err w xs 0 h] at hK
    exact hK
  · intro h
    rw [h] at hK
    exact hK
theorem funSumA : FunOk Try.prog f_mass_sum (fun args b K => (∃ xs, okRows ksB xs ∧ xs.length ≤ maxLen ∧ mayRs xs ∧ args = [.sl 0, .fn f_mass_Centre_1 []] ∧ b = [some (.ro ksB xs)]) ∧ K (.tup [fx (sumN 0 (argX b 0)), .int .i64 (sumE 0 (argX b 0))]) b) := by
  refine funOk_gc (N := NsA) 3 ctxA ?_
  rintro args b K ⟨⟨xs, hr, hl, hm, rfl, rfl⟩, hK⟩
  show runFn _ _ _ _ _ _ fun v b1 => gcV 1 v b1 K
  rw [v_sumA]
  exact ⟨xs, ⟨hr, hl, hm, rfl, rfl⟩, sum_ends hK⟩
theorem funSumX : FunOk Try.prog f_mass_sum (fun args b K => (∃ xs, okRows ksB xs ∧ xs.length ≤ maxLen ∧ mayRs xs ∧ args = [.sl 0, .fn f_mass_Centre_2_1 [.ptr 1 0]] ∧ b = [some (.ro ksB xs), some (.var 134 [.fn f_mass_Centre_3 []])]) ∧ K (.tup [fx (sumN 4 (argX b 0)), .int .i64 (sumE 4 (argX b 0))]) b) := by
  refine funOk_gc (N := NsX) 3 ctxX ?_
  rintro args b K ⟨⟨xs, hr, hl, hm, rfl, rfl⟩, hK⟩
  show runFn _ _ _ _ _ _ fun v b1 => gcV 2 v b1 K
  rw [v_sumX]
  exact ⟨xs, ⟨hr, hl, hm, rfl, rfl⟩, sum_ends hK⟩
theorem funSumY : FunOk Try.prog f_mass_sum (fun args b K => (∃ xs, okRows ksB xs ∧ xs.length ≤ maxLen ∧ mayRs xs ∧ args = [.sl 0, .fn f_mass_Centre_2_1 [.ptr 1 0]] ∧ b = [some (.ro ksB xs), some (.var 134 [.fn f_mass_Centre_4 []])]) ∧ K (.tup [fx (sumN 6 (argX b 0)), .int .i64 (sumE 6 (argX b 0))]) b) := by
  refine funOk_gc (N := NsY) 3 ctxY ?_
  rintro args b K ⟨⟨xs, hr, hl, hm, rfl, rfl⟩, hK⟩
  show runFn _ _ _ _ _ _ fun v b1 => gcV 2 v b1 K
  rw [v_sumY]
  exact ⟨xs, ⟨hr, hl, hm, rfl, rfl⟩, sum_ends hK⟩
theorem funSum : FunOk Try.prog f_mass_sum Gsum := by
  rintro args b K ⟨⟨xs, hr, hl, hm, h⟩, hK⟩
  rcases h with ⟨rfl, rfl⟩ | ⟨rfl, rfl | rfl⟩
  · exact funSumA _ _ _ ⟨⟨xs, hr, hl, hm, rfl, rfl⟩, hK⟩
  · exact funSumX _ _ _ ⟨⟨xs, hr, hl, hm, rfl, rfl⟩, hK⟩
  · exact funSumY _ _ _ ⟨⟨xs, hr, hl, hm, rfl, rfl⟩, hK⟩
theorem knowCen : KnowOk Try.prog Ncen 3 := know_fun (f0 := f_mass_sum) (G := Gsum) (fun g sp h => ctrst3 h) (fun _ _ => rfl) rfl funSum 3
theorem cen_stop {xs : List (List Int)} {e : Int} (he : e ≠ 0) (h : cE xs = e) : (cenV xs, ([] : List Blk)) = (.tup [.agg [.int .i64 0, .int .u64 0], .agg [.int .i64 0, .int .u64 0, .int .i64 0, .int .u64 0], .int .i64 e], []) := by
  unfold cenV cM cX cY
  rw [h, if_neg he, if_neg he, if_neg he]
  rfl
theorem c_Centre : Contract Try.prog f_mass_Centre spCen := by
  refine contract_of (N := Ncen) 3 knowCen ?_
  rintro l bs _ hB ⟨xs, rfl, rfl, hm⟩
  have hb : okRows ksB xs ∧ 0 < ksB.length ∧ xs.length ≤ maxLen := hB (.ro ksB xs) (List.mem_singleton.2 rfl)
  show comes _ _ _ _ _ _ fun v bs' => (cenV xs, ([] : List Blk)) = (v, bs')
  rw [v_Centre]
  rintro t1 e1 j2 rfl t3 e3 j4 rfl t5 e5 j6 rfl t7 e7 t8 e8 t9 e9 t10 e10 t11 e11 t12 e12 t13 e13 _ rfl _ rfl _ rfl _ rfl _ rfl _ rfl t20 e20 _ rfl _ rfl _ rfl _ rfl _ rfl _ rfl t27 e27 _ rfl _ rfl _ rfl _ rfl _ rfl _ rfl _ rfl _ rfl _ rfl _ rfl _ rfl _ rfl _ rfl _ rfl _ rfl _ rfl _ rfl _ rfl _ rfl _ rfl _ rfl
  simp only [and_self]
  have k20 : t20 := by rw [e20]; exact may2_of (by rw [e1]; exact sumN_may 6 xs) (by rw [e3]; exact sumN_may 0 xs)
  have k27 : t27 := by rw [e27]; exact ⟨xs, hb.1, hb.2.2, hm, .inr ⟨rfl, .inr rfl⟩⟩
  rw [br_beq]
  refine ⟨fun h0 => ?_, fun h0 => ?_⟩
  · exact cen_stop (by decide) (if_pos (by omega))
  have hlen : ¬ xs.length = 0 := by omega
  refine ⟨⟨xs, hb.1, hb.2.2, hm, .inl ⟨rfl, rfl⟩⟩, ?_⟩
  rw [br_bne]
  refine ⟨fun h => cen_stop h (by unfold cE; rw [if_neg hlen, if_pos (by rw [← e11]; exact h), e11]), fun h => ?_⟩
  have hs0 : ¬ sumE 0 xs ≠ 0 := by rw [← e11]; simpa using h
  rw [br_bne]
  refine ⟨fun h' => absurd h h', fun _ => ?_⟩
  refine ⟨⟨xs, hb.1, hb.2.2, hm, .inr ⟨rfl, .inl rfl⟩⟩, ?_⟩
  have fin : ∀ {a b : Int}, axE 4 xs = 0 → axN 4 xs = a → axE 6 xs = 0 → axN 6 xs = b → (cenV xs, ([] : List Blk)) = (.tup [fx j4, vx a b, .int .i64 0], []) := by
    intro a b h1 h2 h3 h4
    have hc : cE xs = 0 := by unfold cE; rw [if_neg hlen, if_neg hs0, if_neg (by simpa using h1), h3]
    unfold cenV cM cX cY
    rw [hc, if_pos rfl, if_pos rfl, if_pos rfl, h2, h4, e3]
  have stop4 : ∀ {e : Int}, e ≠ 0 → axE 4 xs = e → (cenV xs, ([] : List Blk)) = (.tup [.agg [.int .i64 0, .int .u64 0], .agg [.int .i64 0, .int .u64 0, .int .i64 0, .int .u64 0], .int .i64 e], []) := by
    intro e he h
    exact cen_stop he (by unfold cE; rw [if_neg hlen, if_neg hs0, if_pos (by rw [h]; exact he), h])
  have stop6 : ∀ {e : Int}, axE 4 xs = 0 → e ≠ 0 → axE 6 xs = e → (cenV xs, ([] : List Blk)) = (.tup [.agg [.int .i64 0, .int .u64 0], .agg [.int .i64 0, .int .u64 0, .int .i64 0, .int .u64 0], .int .i64 e], []) := by
    intro e h4 he h
    exact cen_stop he (by unfold cE; rw [if_neg hlen, if_neg hs0, if_neg (by simpa using h4), h])
  have ax4 : t13 = 0 → axE 4 xs = t9 ∧ axN 4 xs = t10 := by
    intro h
    unfold axE axN
    rw [if_pos (by rw [← e13]; exact h), if_pos (by rw [← e13]; exact h), e9, e10, e5, e3]
    exact ⟨rfl, rfl⟩
  have ax6 : t12 = 0 → axE 6 xs = t7 ∧ axN 6 xs = t8 := by
    intro h
    unfold axE axN
    rw [if_pos (by rw [← e12]; exact h), if_pos (by rw [← e12]; exact h), e7, e8, e1, e3]
    exact ⟨rfl, rfl⟩
  have ax4' : t13 ≠ 0 → axE 4 xs = t13 := by
    intro h
    unfold axE
    rw [if_neg (by rw [← e13]; exact h), e13]
  have ax6' : t12 ≠ 0 → axE 6 xs = t12 := by
    intro h
    unfold axE
    rw [if_neg (by rw [← e12]; exact h), e12]
  rw [br_beq]
  refine ⟨fun h13 => ?_, fun h13 => ?_⟩
  · refine ⟨may2_of (by rw [e5]; exact sumN_may 4 xs) (by rw [e3]; exact sumN_may 0 xs), ?_⟩
    rw [br_bne]
    refine ⟨fun h => ?_, fun h9 => ?_⟩
    · rw [br_bne]
      exact ⟨fun h9 => stop4 h9 (ax4 h13).1, fun h9 => absurd h9 h⟩
    refine ⟨k27, ?_⟩
    rw [br_beq]
    refine ⟨fun h12 => ⟨k20, ?_⟩, fun h12 => ?_⟩
    · rw [br_bne]
      exact ⟨fun h7 => stop6 (by rw [(ax4 h13).1, h9]) h7 (ax6 h12).1, fun h7 => fin (by rw [(ax4 h13).1, h9]) (ax4 h13).2 (by rw [(ax6 h12).1, h7]) (ax6 h12).2⟩
    · rw [br_bne]
      exact ⟨fun _ => stop6 (by rw [(ax4 h13).1, h9]) h12 (ax6' h12), fun h => absurd h h12⟩
  · rw [br_bne]
    refine ⟨fun _ => ?_, fun h => absurd h h13⟩
    rw [br_bne]
    exact ⟨fun _ => stop4 h13 (ax4' h13), fun h => absurd h h13⟩
end Go.Vs.RF

set_option linter.unusedVariables false
/- mass: bodies by numbers -/
namespace Go.Vs.RF
open Go Go.Proofs Go.Vs
/-- a body by four numbers -/
def bodyL (a b c d : Int) : List Int := [1 + c % 9, 0, d % 3, 4611686018427387904, a - 128, b * 72057594037927936, b - 128, c * 1099511627776, d % 7 - 3, a, c % 5 - 2, d * 1152921504606846976 % 18446744073709551616, 0, d * 1125899906842624, 0, a * 1125899906842624, b % 4, 0, 0, d * 257]
def u8ok (n : Int) : Prop := 0 ≤ n ∧ n < 256
def pBody (l : List IV) (bs : List Blk) : Prop := ∃ a b c d, l = [.int .u8 a, .int .u8 b, .int .u8 c, .int .u8 d] ∧ bs = [] ∧ u8ok a ∧ u8ok b ∧ u8ok c ∧ u8ok d
noncomputable def spBody : Vs.Spec := ⟨pBody, fun l _ => (bodyR (bodyL (argI l 0 0) (argI l 1 0) (argI l 2 0) (argI l 3 0)), [])⟩
theorem v_Body (a b c d : Int) (K : IV → List Blk → Prop) : (comes Try.prog Nt3 3 f_perigeelaw9_Body [.int .u8 a, .int .u8 b, .int .u8 c, .int .u8 d] [] K) = (∀ (t1 : Int), t1 = IntKind.i64.wrap ((1 : Int) + (IntKind.i64.wrap c).tmod (9 : Int)) → ∀ (t2 : Int), t2 = mx IntKind.i64 ((IntKind.i64.wrap b).tmod (4 : Int)) (-9223372036854775807 : Int) * (18446744073709551616 : Int) → ∀ (t3 : Int), t3 = mx IntKind.i64 t1 (-9223372036854775807 : Int) * (18446744073709551616 : Int) → (0 : Int) ≤ (56 : Int) ∧ (0 : Int) ≤ (40 : Int) ∧ (9 : Int) ≠ (0 : Int) ∧ preI [IV.int IntKind.i64 t1] [] ∧ (3 : Int) ≠ (0 : Int) ∧ (7 : Int) ≠ (0 : Int) ∧ (5 : Int) ≠ (0 : Int) ∧ (0 : Int) ≤ (60 : Int) ∧ (0 : Int) ≤ (50 : Int) ∧ (0 : Int) ≤ (50 : Int) ∧ (4 : Int) ≠ (0 : Int) ∧ preI [IV.int IntKind.i64 ((IntKind.i64.wrap b).tmod (4 : Int))] [] ∧ K (IV.agg [IV.int IntKind.i64 (t3 / (18446744073709551616 : Int)), IV.int IntKind.u64 (t3 % (18446744073709551616 : Int)), IV.int IntKind.i64 (IntKind.i64.wrap (d.tmod (3 : Int))), IV.int IntKind.u64 (4611686018427387904 : Int), IV.int IntKind.i64 (IntKind.i64.wrap (IntKind.i64.wrap a - (128 : Int))), IV.int IntKind.u64 (IntKind.u64.wrap (IntKind.u64.wrap b * (72057594037927936 : Int))), IV.int IntKind.i64 (IntKind.i64.wrap (IntKind.i64.wrap b - (128 : Int))), IV.int IntKind.u64 (IntKind.u64.wrap (IntKind.u64.wrap c * (1099511627776 : Int))), IV.int IntKind.i64 (IntKind.i64.wrap (IntKind.i64.wrap (d.tmod (7 : Int)) - (3 : Int))), IV.int IntKind.u64 (IntKind.u64.wrap a), IV.int IntKind.i64 (IntKind.i64.wrap (IntKind.i64.wrap (c.tmod (5 : Int)) - (2 : Int))), IV.int IntKind.u64 (IntKind.u64.wrap (IntKind.u64.wrap d * (1152921504606846976 : Int))), IV.int IntKind.i64 (0 : Int), IV.int IntKind.u64 (IntKind.u64.wrap (IntKind.u64.wrap d * (1125899906842624 : Int))), IV.int IntKind.i64 (0 : Int), IV.int IntKind.u64 (IntKind.u64.wrap (IntKind.u64.wrap a * (1125899906842624 : Int))), IV.int IntKind.i64 (t2 / (18446744073709551616 : Int)), IV.int IntKind.u64 (t2 % (18446744073709551616 : Int)), IV.int IntKind.i64 (0 : Int), IV.int IntKind.i64 (IntKind.i64.wrap (IntKind.i64.wrap d * (257 : Int)))]) []) := by refine nm ?_; refine nm ?_; refine nm ?_; kernel_rfl
noncomputable def Γw1 : FuncId → Option Vs.Spec := fun g => if g = f_perigeelaw9_Body then some spBody else Γt3 g
noncomputable def Nw1 : Know := ⟨Γw1, fun _ _ => none, fun _ => none⟩
def bodyAt (ns : List (List Int)) (i : Nat) : List Int := bodyL (rd ns (4 * i) 0) (rd ns (4 * i + 1) 0) (rd ns (4 * i + 2) 0) (rd ns (4 * i + 3) 0)
def bodiesF (ns : List (List Int)) (n : Nat) : List (List Int) := (List.range n).map (bodyAt ns)
def howMany (ns : List (List Int)) (m : Int) : Nat := min (ns.length / 4) m.toNat
def Sbs (ns zs : List (List Int)) (m i : Int) : St := ⟨T 44 [(0, .sl 0), (1, .int .i64 m), (5, .sl 1), (6, .int .i64 i)], [some (.ro [.u8] ns), some (.row 32 ksB zs)]⟩
theorem rBodies (Λ : FuncId → Nat → Option LoopS) (d : Nat) (ns zs : List (List Int)) (m i : Int) (k : Out → St → Prop) : (round (envOf Try.prog ⟨Γw1, Λ, fun _ => none⟩ d) f_perigeelaw9_Bodies 1 0 (lp Try.prog f_perigeelaw9_Bodies 0) (Sbs ns zs m i) k) = (∀ (t1 : Int), t1 = rd ns i.toNat (0 : Nat) → ∀ (t2 : Prop), t2 = ((0 : Int) ≤ i ∧ i < (↑ns.length : Int)) → ∀ (t3 : Int), t3 = rd ns (IntKind.i64.wrap (i + (1 : Int))).toNat (0 : Nat) → ∀ (t4 : Int), t4 = rd ns (IntKind.i64.wrap (i + (2 : Int))).toNat (0 : Nat) → ∀ (t5 : Int), t5 = rd ns (IntKind.i64.wrap (i + (3 : Int))).toNat (0 : Nat) → ∀ (t6 : Prop), t6 = ((0 : Int) ≤ IntKind.i64.wrap (i + (1 : Int)) ∧ IntKind.i64.wrap (i + (1 : Int)) < (↑ns.length : Int)) → ∀ (t7 : Prop), t7 = ((0 : Int) ≤ IntKind.i64.wrap (i + (2 : Int)) ∧ IntKind.i64.wrap (i + (2 : Int)) < (↑ns.length : Int)) → ∀ (t8 : Prop), t8 = ((0 : Int) ≤ IntKind.i64.wrap (i + (3 : Int)) ∧ IntKind.i64.wrap (i + (3 : Int)) < (↑ns.length : Int)) → ∀ (t9 : Prop), t9 = k (Out.exit (0 : Nat)) (St.mk (T (44 : Nat) [((5 : Nat), IV.sl (1 : Nat))]) [some (Blk.ro [IntKind.u8] ns), some (Blk.row (32 : Nat) ksB zs)]) → br (decide (IntKind.i64.wrap (i + (3 : Int)) < (↑ns.length : Int))) (br (decide ((↑zs.length : Int) < m)) (t2 ∧ t2 ∧ t6 ∧ t6 ∧ t7 ∧ t7 ∧ t8 ∧ t8 ∧ pBody [IV.int IntKind.u8 t1, IV.int IntKind.u8 t3, IV.int IntKind.u8 t4, IV.int IntKind.u8 t5] [] ∧ (zs.length + (1 : Nat)) * (160 : Nat) ≤ (140737488355328 : Nat) ∧ k Out.normal (St.mk (T (44 : Nat) [((0 : Nat), IV.sl (0 : Nat)), ((1 : Nat), IV.int IntKind.i64 m), ((5 : Nat), IV.sl (1 : Nat)), ((6 : Nat), IV.int IntKind.i64 (IntKind.i64.wrap (i + (4 : Int))))]) [some (Blk.ro [IntKind.u8] ns), some (Blk.row (32 : Nat) ksB (zs ++ (List.replicate (1 : Nat) (List.replicate (20 : Nat) (0 : Int))).set (0 : Nat) [rd [bodyL t1 t3 t4 t5] (0 : Nat) (19 : Nat), rd [bodyL t1 t3 t4 t5] (0 : Nat) (18 : Nat), rd [bodyL t1 t3 t4 t5] (0 : Nat) (17 : Nat), rd [bodyL t1 t3 t4 t5] (0 : Nat) (16 : Nat), rd [bodyL t1 t3 t4 t5] (0 : Nat) (15 : Nat), rd [bodyL t1 t3 t4 t5] (0 : Nat) (14 : Nat), rd [bodyL t1 t3 t4 t5] (0 : Nat) (13 : Nat), rd [bodyL t1 t3 t4 t5] (0 : Nat) (12 : Nat), rd [bodyL t1 t3 t4 t5] (0 : Nat) (11 : Nat), rd [bodyL t1 t3 t4 t5] (0 : Nat) (10 : Nat), rd [bodyL t1 t3 t4 t5] (0 : Nat) (9 : Nat), rd [bodyL t1 t3 t4 t5] (0 : Nat) (8 : Nat), rd [bodyL t1 t3 t4 t5] (0 : Nat) (7 : Nat), rd [bodyL t1 t3 t4 t5] (0 : Nat) (6 : Nat), rd [bodyL t1 t3 t4 t5] (0 : Nat) (5 : Nat), rd [bodyL t1 t3 t4 t5] (0 : Nat) (4 : Nat), rd [bodyL t1 t3 t4 t5] (0 : Nat) (3 : Nat), rd [bodyL t1 t3 t4 t5] (0 : Nat) (2 : Nat), rd [bodyL t1 t3 t4 t5] (0 : Nat) (1 : Nat), rd [bodyL t1 t3 t4 t5] (0 : Nat) (0 : Nat)].reverse))])) t9) t9) := by refine nm ?_; refine nm ?_; refine nm ?_; refine nm ?_; refine nm ?_; refine nm ?_; refine nm ?_; refine nm ?_; refine nm ?_; kernel_rfl
def pBodies0 (ns : List (List Int)) (m : Int) : Prop := okRows [.u8] ns ∧ ns.length ≤ maxLen ∧ 0 ≤ m ∧ m ≤ 1000
def pLBodies (n0 : Nat) (st : St) (ns : List (List Int)) (m : Int) : Prop := pBodies0 ns m ∧ n0 = 1 ∧ st = Sbs ns [] m 0
noncomputable def LBodies : LoopS := fun n0 st K => ∃ ns m, pLBodies n0 st ns m ∧ K (.exit 0) ⟨T 44 [(5, .sl 1)], [some (.ro [.u8] ns), some (.row 32 ksB (bodiesF ns (howMany ns m)))]⟩
noncomputable def NBodies : Know := ⟨Γw1, fun f i => if f = f_perigeelaw9_Bodies then (if i = 0 then some LBodies else none) else none, fun _ => none⟩
theorem v_Bodies (ns : List (List Int)) (m : Int) (K : IV → List Blk → Prop) : (comes Try.prog NBodies 3 f_perigeelaw9_Bodies [.sl 0, .int .i64 m] [.ro [.u8] ns] K) = (∃ ns_1 m_1, pLBodies (1 : Nat) (St.mk (T (44 : Nat) [((0 : Nat), IV.sl (0 : Nat)), ((1 : Nat), IV.int IntKind.i64 m), ((5 : Nat), IV.sl (1 : Nat)), ((6 : Nat), IV.int IntKind.i64 (0 : Int))]) [some (Blk.ro [IntKind.u8] ns), some (Blk.row (32 : Nat) ksB [])]) ns_1 m_1 ∧ K (IV.sl (0 : Nat)) [Blk.row (32 : Nat) ksB (bodiesF ns_1 (howMany ns_1 m_1))]) := by kernel_rfl
def pBodies (l : List IV) (bs : List Blk) : Prop := ∃ ns m, l = [.sl 0, .int .i64 m] ∧ bs = [.ro [.u8] ns] ∧ 0 ≤ m ∧ m ≤ 1000
noncomputable def spBodies : Vs.Spec := ⟨pBodies, fun l bs => (.sl 0, [.row 32 ksB (bodiesF (xsOf bs 0) (howMany (xsOf bs 0) (argI l 1 0)))])⟩
end Go.Vs.RF


set_option linter.unusedVariables false
set_option linter.unusedSimpArgs false
set_option maxRecDepth 100000
/- mass: bodies by numbers -/
namespace Go.Vs.RF
open Go Go.Proofs Go.Vs Go.IntWalk

theorem tmod_pos {a b : Int} (h : 0 ≤ a) : a.tmod b = a % b := Int.tmod_eq_emod_of_nonneg h
theorem c_Body : Contract Try.prog f_perigeelaw9_Body spBody := by
  refine contract_of (N := Nt3) 3 knowt3 ?_
  rintro l bs _ _ ⟨a, b, c, d, rfl, rfl, ha, hb, hc, hd⟩
  unfold u8ok at ha hb hc hd
  show comes _ _ _ _ _ _ fun v bs' => (bodyR (bodyL a b c d), ([] : List Blk)) = (v, bs')
  rw [v_Body]
  rintro t1 e1 t2 e2 t3 e3
  rw [i64_in c (by omega), tmod_pos hc.1, i64_in (1 + c % 9) (by omega)] at e1
  rw [i64_in b (by omega), tmod_pos hb.1, mxe (by omega)] at e2
  rw [e1, mxe (by omega)] at e3
  refine ⟨by decide, by decide, by decide, preI_of (by unfold i64ok; omega), by decide, by decide, by decide, by decide, by decide, by decide, by decide, preI_of (by rw [i64_in b (by omega), tmod_pos hb.1]; unfold i64ok; omega), ?_⟩
  rw [tmod_pos hd.1, tmod_pos hd.1, tmod_pos hc.1, i64_in a (by omega), i64_in b (by omega), i64_in (d % 3) (by omega), i64_in (a - 128) (by omega), i64_in (b - 128) (by omega), u64_in b (by omega), u64_in c (by omega), u64_in a (by omega), u64_in d (by omega),
    u64_in (b * 72057594037927936) (by omega), u64_in (c * 1099511627776) (by omega), i64_in (d % 7) (by omega), i64_in (d % 7 - 3) (by omega), i64_in (c % 5) (by omega), i64_in (c % 5 - 2) (by omega), u64_in (d * 1125899906842624) (by omega), u64_in (a * 1125899906842624) (by omega), i64_in d (by omega), i64_in (d * 257) (by omega)]
  have k1 : t3 / 18446744073709551616 = 1 + c % 9 := by omega
  have k2 : t3 % 18446744073709551616 = 0 := by omega
  have k3 : t2 / 18446744073709551616 = b % 4 := by omega
  have k4 : t2 % 18446744073709551616 = 0 := by omega
  have k5 : IntKind.u64.wrap (d * 1152921504606846976) = d * 1152921504606846976 % 18446744073709551616 := by exact wu _
  rw [k1, k2, k3, k4, k5]
  rfl
theorem ctrsw1 : ∀ {g : FuncId} {sp : Vs.Spec}, Γw1 g = some sp → Contract Try.prog g sp := ext_ok c_Body ctrst3
theorem u8_rd {ns : List (List Int)} (h : okRows [.u8] ns) (i : Nat) : u8ok (rd ns i 0) := by
  have := rows_in h i 0 (by decide)
  have h1 : (0 : Int) ≤ rd ns i 0 ∧ rd ns i 0 ≤ 255 := this
  unfold u8ok; omega
theorem bodies_succ (ns : List (List Int)) (n : Nat) : bodiesF ns (n + 1) = bodiesF ns n ++ [bodyAt ns n] := by
  unfold bodiesF; rw [List.range_succ, List.map_append]; rfl
theorem bodies_len (ns : List (List Int)) (n : Nat) : (bodiesF ns n).length = n := by unfold bodiesF; simp
theorem lBodies (d n0 : Nat) : LoopOk (envOf Try.prog NBodies d) f_perigeelaw9_Bodies n0 0 (lp Try.prog f_perigeelaw9_Bodies 0) LBodies := by
  intro st K hst
  obtain ⟨ns, m, ⟨⟨hr, hl, hm0, hm1⟩, rfl, rfl⟩, hK⟩ := hst
  have hl' : ns.length ≤ 9223372036854775807 := hl
  refine loop_of (fun n : Nat => Sbs ns (bodiesF ns n) m (4 * n)) (fun n => n ≤ howMany ns m) (fun n => howMany ns m - n) ?_ (a := 0) (Nat.zero_le _)
  intro n hle k hn hk
  show round (envOf Try.prog ⟨Γw1, _, fun _ => none⟩ d) _ _ _ _ _ k
  rw [rBodies]
  have hm2 : howMany ns m ≤ m.toNat := Nat.min_le_right _ _
  have hm3 : howMany ns m ≤ ns.length / 4 := Nat.min_le_left _ _
  rw [bodies_len, i64_in (4 * (n : Int) + 1) (by omega), i64_in (4 * (n : Int) + 2) (by omega), i64_in (4 * (n : Int) + 3) (by omega), i64_in (4 * (n : Int) + 4) (by omega)]
  rintro t1 e1 t2 e2 t3 e3 t4 e4 t5 e5 t6 e6 t7 e7 t8 e8 t9 e9
  have stop : n = howMany ns m → t9 := by
    rintro rfl
    rw [e9]
    exact hk _ _ (by simp) hK
  rw [br_dec]
  refine ⟨fun h1 => ?_, fun h1 => stop (by unfold howMany at *; omega)⟩
  rw [br_dec]
  refine ⟨fun h2 => ?_, fun h2 => stop (by unfold howMany at *; omega)⟩
  have hlt : n < howMany ns m := by unfold howMany; omega
  have p2 : t2 := by rw [e2]; omega
  have p6 : t6 := by rw [e6]; omega
  have p7 : t7 := by rw [e7]; omega
  have p8 : t8 := by rw [e8]; omega
  rw [show (4 * (n : Int)).toNat = 4 * n by omega] at e1
  rw [show (4 * (n : Int) + 1).toNat = 4 * n + 1 by omega] at e3
  rw [show (4 * (n : Int) + 2).toNat = 4 * n + 2 by omega] at e4
  rw [show (4 * (n : Int) + 3).toNat = 4 * n + 3 by omega] at e5
  refine ⟨p2, p2, p6, p6, p7, p7, p8, p8, ⟨t1, t3, t4, t5, rfl, rfl, by rw [e1]; exact u8_rd hr _, by rw [e3]; exact u8_rd hr _, by rw [e4]; exact u8_rd hr _, by rw [e5]; exact u8_rd hr _⟩, by omega, ?_⟩
  have := hn (n + 1) hlt (by omega)
  rw [bodies_succ] at this
  rw [show ((4 * ((n + 1 : Nat) : Int))) = 4 * (n : Int) + 4 by omega] at this
  rw [e1, e3, e4, e5]
  exact this
theorem c_Bodies : Contract Try.prog f_perigeelaw9_Bodies spBodies := by
  refine contract_of (N := NBodies) 3 (know_loop (f0 := f_perigeelaw9_Bodies) (L := LBodies) (fun g sp h => ctrsw1 h) rfl (fun g G h => by cases h) lBodies 3) ?_
  rintro l bs _ hB ⟨ns, m, rfl, rfl, h0, h1⟩
  have hb : okRows [.u8] ns ∧ 0 < [IntKind.u8].length ∧ ns.length ≤ maxLen := hB (.ro [.u8] ns) (List.mem_singleton.2 rfl)
  show comes _ _ _ _ _ _ _
  rw [v_Bodies]
  exact ⟨ns, m, ⟨⟨hb.1, hb.2.2, h0, h1⟩, rfl, rfl⟩, rfl⟩
end Go.Vs.RF

set_option linter.unusedVariables false
/- the laws of mass's centre -/
namespace Go.Vs.RF
open Go Go.Proofs Go.Vs
def pNil (l : List IV) (bs : List Blk) : Prop := l = [] ∧ bs = []
noncomputable def spAwk9 : Vs.Spec := ⟨pNil, fun _ _ => (.bool true, [])⟩
noncomputable def Γw2 : FuncId → Option Vs.Spec := fun g => if g = f_mass_Centre then some spCen else if g = f_perigeelaw9_Bodies then some spBodies else Γw1 g
noncomputable def Nw2 : Know := ⟨Γw2, fun _ _ => none, fun _ => none⟩
theorem v_awake9 (K : IV → List Blk → Prop) : (comes Try.prog Nw2 3 f_perigeelaw9_awake [] [] K) = (∀ (t1 : Prop), t1 = preI [IV.int IntKind.i64 (1 : Int)] [] → ∀ (t2 : Prop), t2 = preI [IV.int IntKind.i64 (3 : Int)] [] → t1 ∧ t2 ∧ pBs [IV.sl (0 : Nat)] [Blk.ro ksB [[(1 : Int), (0 : Int), (0 : Int), (0 : Int), (3 : Int), (0 : Int), (0 : Int), (0 : Int), (0 : Int), (0 : Int), (0 : Int), (0 : Int), (0 : Int), (0 : Int), (0 : Int), (0 : Int), (0 : Int), (0 : Int), (0 : Int), (0 : Int)]]] ∧ preI [IV.int IntKind.i64 (0 : Int)] [] ∧ t1 ∧ t2 ∧ K (IV.bool true) []) := by refine nm ?_; refine nm ?_; kernel_rfl
noncomputable def Γw3 : FuncId → Option Vs.Spec := fun g => if g = f_perigeelaw9_awake then some spAwk9 else Γw2 g
noncomputable def Nw3 : Know := ⟨Γw3, fun _ _ => none, fun _ => none⟩
/-- bodies of whole numbers -/
def bodyW (m x y : Int) : List Int := [m, 0, 0, 0, x, 0, y, 0, 0, 0, 0, 0, 0, 0, 0, 0, 0, 0, 0, 0]
theorem v_MassWhole (m a b c d : Int) (K : IV → List Blk → Prop) : (comes Try.prog Nw3 3 f_perigeelaw9_MassWhole [.int .u8 m, .int .i16 a, .int .i16 b, .int .i16 c, .int .i16 d] [] K) = (∀ (t1 : Int), t1 = mx IntKind.i64 (IntKind.i64.wrap (IntKind.i64.wrap a + IntKind.i64.wrap c)) (-9223372036854775807 : Int) * (18446744073709551616 : Int) → ∀ (j2 : Int), j2 = t1 → ∀ (t3 : Int), t3 = mx IntKind.i64 (IntKind.i64.wrap (IntKind.i64.wrap b + IntKind.i64.wrap d)) (-9223372036854775807 : Int) * (18446744073709551616 : Int) → ∀ (j4 : Int), j4 = t3 → ∀ (t5 : Int), t5 = mx IntKind.i64 (IntKind.i64.wrap ((1 : Int) + IntKind.i64.wrap m)) (-9223372036854775807 : Int) * (18446744073709551616 : Int) → ∀ (j6 : Int), j6 = t5 → ∀ (t7 : Int), t7 = halfI j2 → ∀ (t8 : Int), t8 = halfI j4 → ∀ (t9 : Int), t9 = numF (j6 + j6) → ∀ (t10 : Int), t10 = mx IntKind.i64 (IntKind.i64.wrap a) (-9223372036854775807 : Int) * (18446744073709551616 : Int) → ∀ (t11 : Int), t11 = mx IntKind.i64 (IntKind.i64.wrap b) (-9223372036854775807 : Int) * (18446744073709551616 : Int) → ∀ (t12 : Int), t12 = mx IntKind.i64 (IntKind.i64.wrap c) (-9223372036854775807 : Int) * (18446744073709551616 : Int) → ∀ (t13 : Int), t13 = mx IntKind.i64 (IntKind.i64.wrap d) (-9223372036854775807 : Int) * (18446744073709551616 : Int) → ∀ (t14 : Int), t14 = cE ((List.replicate (1 : Nat) (List.replicate (20 : Nat) (0 : Int))).set (0 : Nat) [(0 : Int), (0 : Int), (0 : Int), (0 : Int), (0 : Int), (0 : Int), (0 : Int), (0 : Int), (0 : Int), (0 : Int), (0 : Int), (0 : Int), t11 % (18446744073709551616 : Int), t11 / (18446744073709551616 : Int), t10 % (18446744073709551616 : Int), t10 / (18446744073709551616 : Int), (0 : Int), (0 : Int), t5 % (18446744073709551616 : Int), t5 / (18446744073709551616 : Int)].reverse) → ∀ (t15 : Int), t15 = cM ((List.replicate (1 : Nat) (List.replicate (20 : Nat) (0 : Int))).set (0 : Nat) [(0 : Int), (0 : Int), (0 : Int), (0 : Int), (0 : Int), (0 : Int), (0 : Int), (0 : Int), (0 : Int), (0 : Int), (0 : Int), (0 : Int), t11 % (18446744073709551616 : Int), t11 / (18446744073709551616 : Int), t10 % (18446744073709551616 : Int), t10 / (18446744073709551616 : Int), (0 : Int), (0 : Int), t5 % (18446744073709551616 : Int), t5 / (18446744073709551616 : Int)].reverse) → ∀ (t16 : Int), t16 = cX ((List.replicate (1 : Nat) (List.replicate (20 : Nat) (0 : Int))).set (0 : Nat) [(0 : Int), (0 : Int), (0 : Int), (0 : Int), (0 : Int), (0 : Int), (0 : Int), (0 : Int), (0 : Int), (0 : Int), (0 : Int), (0 : Int), t11 % (18446744073709551616 : Int), t11 / (18446744073709551616 : Int), t10 % (18446744073709551616 : Int), t10 / (18446744073709551616 : Int), (0 : Int), (0 : Int), t5 % (18446744073709551616 : Int), t5 / (18446744073709551616 : Int)].reverse) → ∀ (t17 : Int), t17 = cY ((List.replicate (1 : Nat) (List.replicate (20 : Nat) (0 : Int))).set (0 : Nat) [(0 : Int), (0 : Int), (0 : Int), (0 : Int), (0 : Int), (0 : Int), (0 : Int), (0 : Int), (0 : Int), (0 : Int), (0 : Int), (0 : Int), t11 % (18446744073709551616 : Int), t11 / (18446744073709551616 : Int), t10 % (18446744073709551616 : Int), t10 / (18446744073709551616 : Int), (0 : Int), (0 : Int), t5 % (18446744073709551616 : Int), t5 / (18446744073709551616 : Int)].reverse) → ∀ (t18 : Int), t18 = cE (((List.replicate (2 : Nat) (List.replicate (20 : Nat) (0 : Int))).set (0 : Nat) [(0 : Int), (0 : Int), (0 : Int), (0 : Int), (0 : Int), (0 : Int), (0 : Int), (0 : Int), (0 : Int), (0 : Int), (0 : Int), (0 : Int), t11 % (18446744073709551616 : Int), t11 / (18446744073709551616 : Int), t10 % (18446744073709551616 : Int), t10 / (18446744073709551616 : Int), (0 : Int), (0 : Int), t5 % (18446744073709551616 : Int), t5 / (18446744073709551616 : Int)].reverse).set (1 : Nat) [(0 : Int), (0 : Int), (0 : Int), (0 : Int), (0 : Int), (0 : Int), (0 : Int), (0 : Int), (0 : Int), (0 : Int), (0 : Int), (0 : Int), t13 % (18446744073709551616 : Int), t13 / (18446744073709551616 : Int), t12 % (18446744073709551616 : Int), t12 / (18446744073709551616 : Int), (0 : Int), (0 : Int), t5 % (18446744073709551616 : Int), t5 / (18446744073709551616 : Int)].reverse) → ∀ (t19 : Int), t19 = cM (((List.replicate (2 : Nat) (List.replicate (20 : Nat) (0 : Int))).set (0 : Nat) [(0 : Int), (0 : Int), (0 : Int), (0 : Int), (0 : Int), (0 : Int), (0 : Int), (0 : Int), (0 : Int), (0 : Int), (0 : Int), (0 : Int), t11 % (18446744073709551616 : Int), t11 / (18446744073709551616 : Int), t10 % (18446744073709551616 : Int), t10 / (18446744073709551616 : Int), (0 : Int), (0 : Int), t5 % (18446744073709551616 : Int), t5 / (18446744073709551616 : Int)].reverse).set (1 : Nat) [(0 : Int), (0 : Int), (0 : Int), (0 : Int), (0 : Int), (0 : Int), (0 : Int), (0 : Int), (0 : Int), (0 : Int), (0 : Int), (0 : Int), t13 % (18446744073709551616 : Int), t13 / (18446744073709551616 : Int), t12 % (18446744073709551616 : Int), t12 / (18446744073709551616 : Int), (0 : Int), (0 : Int), t5 % (18446744073709551616 : Int), t5 / (18446744073709551616 : Int)].reverse) → ∀ (t20 : Int), t20 = cX (((List.replicate (2 : Nat) (List.replicate (20 : Nat) (0 : Int))).set (0 : Nat) [(0 : Int), (0 : Int), (0 : Int), (0 : Int), (0 : Int), (0 : Int), (0 : Int), (0 : Int), (0 : Int), (0 : Int), (0 : Int), (0 : Int), t11 % (18446744073709551616 : Int), t11 / (18446744073709551616 : Int), t10 % (18446744073709551616 : Int), t10 / (18446744073709551616 : Int), (0 : Int), (0 : Int), t5 % (18446744073709551616 : Int), t5 / (18446744073709551616 : Int)].reverse).set (1 : Nat) [(0 : Int), (0 : Int), (0 : Int), (0 : Int), (0 : Int), (0 : Int), (0 : Int), (0 : Int), (0 : Int), (0 : Int), (0 : Int), (0 : Int), t13 % (18446744073709551616 : Int), t13 / (18446744073709551616 : Int), t12 % (18446744073709551616 : Int), t12 / (18446744073709551616 : Int), (0 : Int), (0 : Int), t5 % (18446744073709551616 : Int), t5 / (18446744073709551616 : Int)].reverse) → ∀ (t21 : Int), t21 = cY (((List.replicate (2 : Nat) (List.replicate (20 : Nat) (0 : Int))).set (0 : Nat) [(0 : Int), (0 : Int), (0 : Int), (0 : Int), (0 : Int), (0 : Int), (0 : Int), (0 : Int), (0 : Int), (0 : Int), (0 : Int), (0 : Int), t11 % (18446744073709551616 : Int), t11 / (18446744073709551616 : Int), t10 % (18446744073709551616 : Int), t10 / (18446744073709551616 : Int), (0 : Int), (0 : Int), t5 % (18446744073709551616 : Int), t5 / (18446744073709551616 : Int)].reverse).set (1 : Nat) [(0 : Int), (0 : Int), (0 : Int), (0 : Int), (0 : Int), (0 : Int), (0 : Int), (0 : Int), (0 : Int), (0 : Int), (0 : Int), (0 : Int), t13 % (18446744073709551616 : Int), t13 / (18446744073709551616 : Int), t12 % (18446744073709551616 : Int), t12 / (18446744073709551616 : Int), (0 : Int), (0 : Int), t5 % (18446744073709551616 : Int), t5 / (18446744073709551616 : Int)].reverse) → ∀ (b22 : Bool), b22 = decide (t19 = t9) → ∀ (b23 : Bool), b23 = decide (t21 = t8) → ∀ (d24 : Bool), d24 = (decide (t20 = t7) && b23) → ∀ (b25 : Bool), b25 = decide (t15 = t5) → ∀ (b26 : Bool), b26 = decide (t17 = t11) → ∀ (d27 : Bool), d27 = (decide (t16 = t10) && b26) → preI [IV.int IntKind.i64 (IntKind.i64.wrap ((1 : Int) + IntKind.i64.wrap m))] [] ∧ preI [IV.int IntKind.i64 (IntKind.i64.wrap a)] [] ∧ preI [IV.int IntKind.i64 (IntKind.i64.wrap b)] [] ∧ preI [IV.int IntKind.i64 (IntKind.i64.wrap c)] [] ∧ preI [IV.int IntKind.i64 (IntKind.i64.wrap d)] [] ∧ pBs [IV.sl (0 : Nat)] [Blk.ro ksB [[t5 / (18446744073709551616 : Int), t5 % (18446744073709551616 : Int), (0 : Int), (0 : Int), t10 / (18446744073709551616 : Int), t10 % (18446744073709551616 : Int), t11 / (18446744073709551616 : Int), t11 % (18446744073709551616 : Int), (0 : Int), (0 : Int), (0 : Int), (0 : Int), (0 : Int), (0 : Int), (0 : Int), (0 : Int), (0 : Int), (0 : Int), (0 : Int), (0 : Int)], [t5 / (18446744073709551616 : Int), t5 % (18446744073709551616 : Int), (0 : Int), (0 : Int), t12 / (18446744073709551616 : Int), t12 % (18446744073709551616 : Int), t13 / (18446744073709551616 : Int), t13 % (18446744073709551616 : Int), (0 : Int), (0 : Int), (0 : Int), (0 : Int), (0 : Int), (0 : Int), (0 : Int), (0 : Int), (0 : Int), (0 : Int), (0 : Int), (0 : Int)]]] ∧ pBs [IV.sl (0 : Nat)] [Blk.ro ksB [[t5 / (18446744073709551616 : Int), t5 % (18446744073709551616 : Int), (0 : Int), (0 : Int), t10 / (18446744073709551616 : Int), t10 % (18446744073709551616 : Int), t11 / (18446744073709551616 : Int), t11 % (18446744073709551616 : Int), (0 : Int), (0 : Int), (0 : Int), (0 : Int), (0 : Int), (0 : Int), (0 : Int), (0 : Int), (0 : Int), (0 : Int), (0 : Int), (0 : Int)]]] ∧ pBs [IV.sl (0 : Nat)] [Blk.ro ksB []] ∧ preI [IV.int IntKind.i64 (IntKind.i64.wrap (IntKind.i64.wrap a + IntKind.i64.wrap c))] [] ∧ may1 [fx t1] [] ∧ preI [IV.int IntKind.i64 (IntKind.i64.wrap (IntKind.i64.wrap b + IntKind.i64.wrap d))] [] ∧ may1 [fx t3] [] ∧ preI [IV.int IntKind.i64 t18] [] ∧ preI [IV.int IntKind.i64 t14] [] ∧ br (IntKind.i64.wrap (t18 + t14) == (0 : Int)) (preI [IV.int IntKind.i64 (1 : Int)] [] ∧ may2 [fx t5, fx t5] [] ∧ br b22 (br d24 (br b25 (br d27 (pNil [] [] ∧ K (IV.bool true) []) (K (IV.bool false) [])) (K (IV.bool false) [])) (K (IV.bool false) [])) (K (IV.bool false) [])) (K (IV.bool false) [])) := by refine nm ?_; refine nj ?_; refine nm ?_; refine nj ?_; refine nm ?_; refine nj ?_; refine nm ?_; refine nm ?_; refine nm ?_; refine nm ?_; refine nm ?_; refine nm ?_; refine nm ?_; refine nm ?_; refine nm ?_; refine nm ?_; refine nm ?_; refine nm ?_; refine nm ?_; refine nm ?_; refine nm ?_; refine nb ?_; refine nb ?_; refine nbr ?_; refine nb ?_; refine nb ?_; refine nbr ?_; kernel_rfl
def SNb (ns xs zs : List (List Int)) (i : Int) : St := ⟨T 136 [(3, .sl 1), (4, .sl 2), (5, .int .i64 i)], [some (.ro [.u8] ns), some (.row 32 ksB xs), some (.row 32 ksB zs)]⟩
theorem rNearBack (Λ : FuncId → Nat → Option LoopS) (d : Nat) (ns xs zs : List (List Int)) (i : Int) (k : Out → St → Prop) : (round (envOf Try.prog ⟨Γw3, Λ, fun _ => none⟩ d) f_perigeelaw9_MassNear 1 0 (lp Try.prog f_perigeelaw9_MassNear 0) (SNb ns xs zs i) k) = (∀ (t1 : Prop), t1 = ((0 : Int) ≤ i ∧ i < (↑xs.length : Int)) → br (decide (i ≥ (0 : Int))) (t1 ∧ t1 ∧ (zs.length + (1 : Nat)) * (160 : Nat) ≤ (140737488355328 : Nat) ∧ k Out.normal (St.mk (T (136 : Nat) [((3 : Nat), IV.sl (1 : Nat)), ((4 : Nat), IV.sl (2 : Nat)), ((5 : Nat), IV.int IntKind.i64 (IntKind.i64.wrap (i - (1 : Int))))]) [some (Blk.ro [IntKind.u8] ns), some (Blk.row (32 : Nat) ksB xs), some (Blk.row (32 : Nat) ksB (zs ++ (List.replicate (1 : Nat) (List.replicate (20 : Nat) (0 : Int))).set (0 : Nat) [rd xs i.toNat (19 : Nat), rd xs i.toNat (18 : Nat), rd xs i.toNat (17 : Nat), rd xs i.toNat (16 : Nat), rd xs i.toNat (15 : Nat), rd xs i.toNat (14 : Nat), rd xs i.toNat (13 : Nat), rd xs i.toNat (12 : Nat), rd xs i.toNat (11 : Nat), rd xs i.toNat (10 : Nat), rd xs i.toNat (9 : Nat), rd xs i.toNat (8 : Nat), rd xs i.toNat (7 : Nat), rd xs i.toNat (6 : Nat), rd xs i.toNat (5 : Nat), rd xs i.toNat (4 : Nat), rd xs i.toNat (3 : Nat), rd xs i.toNat (2 : Nat), rd xs i.toNat (1 : Nat), rd xs i.toNat (0 : Nat)].reverse))])) (k (Out.exit (0 : Nat)) (St.mk (T (136 : Nat) [((3 : Nat), IV.sl (1 : Nat)), ((4 : Nat), IV.sl (2 : Nat))]) [some (Blk.ro [IntKind.u8] ns), some (Blk.row (32 : Nat) ksB xs), some (Blk.row (32 : Nat) ksB zs)]))) := by refine nm ?_; kernel_rfl
def pNb (n0 : Nat) (st : St) (ns xs : List (List Int)) : Prop := n0 = 1 ∧ (∀ r ∈ xs, r.length = 20) ∧ 0 < xs.length ∧ xs.length ≤ 1000 ∧ st = SNb ns xs [] (IntKind.i64.wrap (xs.length - 1))
noncomputable def LNb : LoopS := fun n0 st K => ∃ ns xs, pNb n0 st ns xs ∧ K (.exit 0) ⟨T 136 [(3, .sl 1), (4, .sl 2)], [some (.ro [.u8] ns), some (.row 32 ksB xs), some (.row 32 ksB xs.reverse)]⟩
/-- what both centres are -/
structure Two9 where
  m : Int
  x : Int
  y : Int
  e : Int
  n : Int
  u : Int
  v : Int
  f : Int
def SNl (ns xs : List (List Int)) (z : Two9) (lo hi i : Int) : St := ⟨T 136 [(3, .sl 1), (6, .ptr 2 0), (7, .ptr 3 0), (8, .int .i64 z.e), (9, .ptr 4 0), (10, .ptr 5 0), (11, .int .i64 z.f), (12, .ptr 6 0), (13, .ptr 7 0), (14, .int .i64 i)],
  [some (.ro [.u8] ns), some (.row 32 ksB xs), some (.var 28 (fx z.m).cells), some (.var 30 (vx z.x z.y).cells), some (.var 28 (fx z.n).cells), some (.var 30 (vx z.u z.v).cells), some (.var 28 (fx lo).cells), some (.var 28 (fx hi).cells)]⟩
theorem rNearLow (Λ : FuncId → Nat → Option LoopS) (d : Nat) (ns xs : List (List Int)) (m x y e n u v f lo hi i : Int) (k : Out → St → Prop) : (round (envOf Try.prog ⟨Γw3, Λ, fun _ => none⟩ d) f_perigeelaw9_MassNear 1 1 (lp Try.prog f_perigeelaw9_MassNear 1) (SNl ns xs ⟨m, x, y, e, n, u, v, f⟩ lo hi i) k) = (∀ (j1 : Int), j1 = lo → ∀ (j2 : Int), j2 = hi → ∀ (t3 : Int), t3 = rd xs i.toNat (4 : Nat) → ∀ (t4 : Int), t4 = rd xs i.toNat (5 : Nat) → ∀ (t5 : Prop), t5 = ((0 : Int) ≤ i ∧ i < (↑xs.length : Int)) → ∀ (t6 : Int), t6 = t3 * (18446744073709551616 : Int) + t4 → ∀ (t7 : Int), t7 = cmpI t6 j1 → ∀ (t8 : Int), t8 = cmpI t6 j2 → ∀ (t9 : Prop), t9 = preFF [IV.agg [IV.int IntKind.i64 t3, IV.int IntKind.u64 t4], fx hi] [] → br (decide (i < (↑xs.length : Int))) (t5 ∧ t5 ∧ preFF [IV.agg [IV.int IntKind.i64 t3, IV.int IntKind.u64 t4], fx lo] [] ∧ br (decide (t7 < (0 : Int))) (t5 ∧ t5 ∧ t5 ∧ t5 ∧ t9 ∧ br (decide (t8 > (0 : Int))) (t5 ∧ t5 ∧ k Out.normal (St.mk (T (136 : Nat) [((3 : Nat), IV.sl (1 : Nat)), ((6 : Nat), IV.ptr (2 : Nat) (0 : Nat)), ((7 : Nat), IV.ptr (3 : Nat) (0 : Nat)), ((8 : Nat), IV.int IntKind.i64 e), ((9 : Nat), IV.ptr (4 : Nat) (0 : Nat)), ((10 : Nat), IV.ptr (5 : Nat) (0 : Nat)), ((11 : Nat), IV.int IntKind.i64 f), ((12 : Nat), IV.ptr (6 : Nat) (0 : Nat)), ((13 : Nat), IV.ptr (7 : Nat) (0 : Nat)), ((14 : Nat), IV.int IntKind.i64 (IntKind.i64.wrap (i + (1 : Int))))]) [some (Blk.ro [IntKind.u8] ns), some (Blk.row (32 : Nat) ksB xs), some (Blk.var (28 : Nat) [IV.int IntKind.i64 (m / (18446744073709551616 : Int)), IV.int IntKind.u64 (m % (18446744073709551616 : Int))]), some (Blk.var (30 : Nat) [IV.int IntKind.i64 (x / (18446744073709551616 : Int)), IV.int IntKind.u64 (x % (18446744073709551616 : Int)), IV.int IntKind.i64 (y / (18446744073709551616 : Int)), IV.int IntKind.u64 (y % (18446744073709551616 : Int))]), some (Blk.var (28 : Nat) [IV.int IntKind.i64 (n / (18446744073709551616 : Int)), IV.int IntKind.u64 (n % (18446744073709551616 : Int))]), some (Blk.var (30 : Nat) [IV.int IntKind.i64 (u / (18446744073709551616 : Int)), IV.int IntKind.u64 (u % (18446744073709551616 : Int)), IV.int IntKind.i64 (v / (18446744073709551616 : Int)), IV.int IntKind.u64 (v % (18446744073709551616 : Int))]), some (Blk.var (28 : Nat) [IV.int IntKind.i64 t3, IV.int IntKind.u64 t4]), some (Blk.var (28 : Nat) [IV.int IntKind.i64 t3, IV.int IntKind.u64 t4])])) (k Out.normal (St.mk (T (136 : Nat) [((3 : Nat), IV.sl (1 : Nat)), ((6 : Nat), IV.ptr (2 : Nat) (0 : Nat)), ((7 : Nat), IV.ptr (3 : Nat) (0 : Nat)), ((8 : Nat), IV.int IntKind.i64 e), ((9 : Nat), IV.ptr (4 : Nat) (0 : Nat)), ((10 : Nat), IV.ptr (5 : Nat) (0 : Nat)), ((11 : Nat), IV.int IntKind.i64 f), ((12 : Nat), IV.ptr (6 : Nat) (0 : Nat)), ((13 : Nat), IV.ptr (7 : Nat) (0 : Nat)), ((14 : Nat), IV.int IntKind.i64 (IntKind.i64.wrap (i + (1 : Int))))]) [some (Blk.ro [IntKind.u8] ns), some (Blk.row (32 : Nat) ksB xs), some (Blk.var (28 : Nat) [IV.int IntKind.i64 (m / (18446744073709551616 : Int)), IV.int IntKind.u64 (m % (18446744073709551616 : Int))]), some (Blk.var (30 : Nat) [IV.int IntKind.i64 (x / (18446744073709551616 : Int)), IV.int IntKind.u64 (x % (18446744073709551616 : Int)), IV.int IntKind.i64 (y / (18446744073709551616 : Int)), IV.int IntKind.u64 (y % (18446744073709551616 : Int))]), some (Blk.var (28 : Nat) [IV.int IntKind.i64 (n / (18446744073709551616 : Int)), IV.int IntKind.u64 (n % (18446744073709551616 : Int))]), some (Blk.var (30 : Nat) [IV.int IntKind.i64 (u / (18446744073709551616 : Int)), IV.int IntKind.u64 (u % (18446744073709551616 : Int)), IV.int IntKind.i64 (v / (18446744073709551616 : Int)), IV.int IntKind.u64 (v % (18446744073709551616 : Int))]), some (Blk.var (28 : Nat) [IV.int IntKind.i64 t3, IV.int IntKind.u64 t4]), some (Blk.var (28 : Nat) [IV.int IntKind.i64 (hi / (18446744073709551616 : Int)), IV.int IntKind.u64 (hi % (18446744073709551616 : Int))])]))) (t5 ∧ t5 ∧ t9 ∧ br (decide (t8 > (0 : Int))) (t5 ∧ t5 ∧ k Out.normal (St.mk (T (136 : Nat) [((3 : Nat), IV.sl (1 : Nat)), ((6 : Nat), IV.ptr (2 : Nat) (0 : Nat)), ((7 : Nat), IV.ptr (3 : Nat) (0 : Nat)), ((8 : Nat), IV.int IntKind.i64 e), ((9 : Nat), IV.ptr (4 : Nat) (0 : Nat)), ((10 : Nat), IV.ptr (5 : Nat) (0 : Nat)), ((11 : Nat), IV.int IntKind.i64 f), ((12 : Nat), IV.ptr (6 : Nat) (0 : Nat)), ((13 : Nat), IV.ptr (7 : Nat) (0 : Nat)), ((14 : Nat), IV.int IntKind.i64 (IntKind.i64.wrap (i + (1 : Int))))]) [some (Blk.ro [IntKind.u8] ns), some (Blk.row (32 : Nat) ksB xs), some (Blk.var (28 : Nat) [IV.int IntKind.i64 (m / (18446744073709551616 : Int)), IV.int IntKind.u64 (m % (18446744073709551616 : Int))]), some (Blk.var (30 : Nat) [IV.int IntKind.i64 (x / (18446744073709551616 : Int)), IV.int IntKind.u64 (x % (18446744073709551616 : Int)), IV.int IntKind.i64 (y / (18446744073709551616 : Int)), IV.int IntKind.u64 (y % (18446744073709551616 : Int))]), some (Blk.var (28 : Nat) [IV.int IntKind.i64 (n / (18446744073709551616 : Int)), IV.int IntKind.u64 (n % (18446744073709551616 : Int))]), some (Blk.var (30 : Nat) [IV.int IntKind.i64 (u / (18446744073709551616 : Int)), IV.int IntKind.u64 (u % (18446744073709551616 : Int)), IV.int IntKind.i64 (v / (18446744073709551616 : Int)), IV.int IntKind.u64 (v % (18446744073709551616 : Int))]), some (Blk.var (28 : Nat) [IV.int IntKind.i64 (lo / (18446744073709551616 : Int)), IV.int IntKind.u64 (lo % (18446744073709551616 : Int))]), some (Blk.var (28 : Nat) [IV.int IntKind.i64 t3, IV.int IntKind.u64 t4])])) (k Out.normal (St.mk (T (136 : Nat) [((3 : Nat), IV.sl (1 : Nat)), ((6 : Nat), IV.ptr (2 : Nat) (0 : Nat)), ((7 : Nat), IV.ptr (3 : Nat) (0 : Nat)), ((8 : Nat), IV.int IntKind.i64 e), ((9 : Nat), IV.ptr (4 : Nat) (0 : Nat)), ((10 : Nat), IV.ptr (5 : Nat) (0 : Nat)), ((11 : Nat), IV.int IntKind.i64 f), ((12 : Nat), IV.ptr (6 : Nat) (0 : Nat)), ((13 : Nat), IV.ptr (7 : Nat) (0 : Nat)), ((14 : Nat), IV.int IntKind.i64 (IntKind.i64.wrap (i + (1 : Int))))]) [some (Blk.ro [IntKind.u8] ns), some (Blk.row (32 : Nat) ksB xs), some (Blk.var (28 : Nat) [IV.int IntKind.i64 (m / (18446744073709551616 : Int)), IV.int IntKind.u64 (m % (18446744073709551616 : Int))]), some (Blk.var (30 : Nat) [IV.int IntKind.i64 (x / (18446744073709551616 : Int)), IV.int IntKind.u64 (x % (18446744073709551616 : Int)), IV.int IntKind.i64 (y / (18446744073709551616 : Int)), IV.int IntKind.u64 (y % (18446744073709551616 : Int))]), some (Blk.var (28 : Nat) [IV.int IntKind.i64 (n / (18446744073709551616 : Int)), IV.int IntKind.u64 (n % (18446744073709551616 : Int))]), some (Blk.var (30 : Nat) [IV.int IntKind.i64 (u / (18446744073709551616 : Int)), IV.int IntKind.u64 (u % (18446744073709551616 : Int)), IV.int IntKind.i64 (v / (18446744073709551616 : Int)), IV.int IntKind.u64 (v % (18446744073709551616 : Int))]), some (Blk.var (28 : Nat) [IV.int IntKind.i64 (lo / (18446744073709551616 : Int)), IV.int IntKind.u64 (lo % (18446744073709551616 : Int))]), some (Blk.var (28 : Nat) [IV.int IntKind.i64 (hi / (18446744073709551616 : Int)), IV.int IntKind.u64 (hi % (18446744073709551616 : Int))])])))) (k (Out.exit (2 : Nat)) (St.mk (T (136 : Nat) [((6 : Nat), IV.ptr (1 : Nat) (0 : Nat)), ((7 : Nat), IV.ptr (2 : Nat) (0 : Nat)), ((8 : Nat), IV.int IntKind.i64 e), ((9 : Nat), IV.ptr (3 : Nat) (0 : Nat)), ((10 : Nat), IV.ptr (4 : Nat) (0 : Nat)), ((11 : Nat), IV.int IntKind.i64 f), ((12 : Nat), IV.ptr (5 : Nat) (0 : Nat)), ((13 : Nat), IV.ptr (6 : Nat) (0 : Nat))]) [some (Blk.ro [IntKind.u8] ns), some (Blk.var (28 : Nat) [IV.int IntKind.i64 (m / (18446744073709551616 : Int)), IV.int IntKind.u64 (m % (18446744073709551616 : Int))]), some (Blk.var (30 : Nat) [IV.int IntKind.i64 (x / (18446744073709551616 : Int)), IV.int IntKind.u64 (x % (18446744073709551616 : Int)), IV.int IntKind.i64 (y / (18446744073709551616 : Int)), IV.int IntKind.u64 (y % (18446744073709551616 : Int))]), some (Blk.var (28 : Nat) [IV.int IntKind.i64 (n / (18446744073709551616 : Int)), IV.int IntKind.u64 (n % (18446744073709551616 : Int))]), some (Blk.var (30 : Nat) [IV.int IntKind.i64 (u / (18446744073709551616 : Int)), IV.int IntKind.u64 (u % (18446744073709551616 : Int)), IV.int IntKind.i64 (v / (18446744073709551616 : Int)), IV.int IntKind.u64 (v % (18446744073709551616 : Int))]), some (Blk.var (28 : Nat) [IV.int IntKind.i64 (lo / (18446744073709551616 : Int)), IV.int IntKind.u64 (lo % (18446744073709551616 : Int))]), some (Blk.var (28 : Nat) [IV.int IntKind.i64 (hi / (18446744073709551616 : Int)), IV.int IntKind.u64 (hi % (18446744073709551616 : Int))])]))) := by refine nj ?_; refine nj ?_; refine nm ?_; refine nm ?_; refine nm ?_; refine nm ?_; refine nm ?_; refine nm ?_; refine nm ?_; kernel_rfl
def lowF (xs : List (List Int)) : Nat → Int
  | 0 => fr (xs.getD 0 []) 4
  | n + 1 => if fr (xs.getD n []) 4 < lowF xs n then fr (xs.getD n []) 4 else lowF xs n
def highF (xs : List (List Int)) : Nat → Int
  | 0 => fr (xs.getD 0 []) 4
  | n + 1 => if highF xs n < fr (xs.getD n []) 4 then fr (xs.getD n []) 4 else highF xs n
def pNl (n0 : Nat) (st : St) (ns xs : List (List Int)) (m x y e n u v f : Int) : Prop := n0 = 1 ∧ okRows ksB xs ∧ mayRs xs ∧ 0 < xs.length ∧ xs.length ≤ 1000 ∧ st = SNl ns xs ⟨m, x, y, e, n, u, v, f⟩ (lowF xs 0) (highF xs 0) 0
noncomputable def LNl : LoopS := fun n0 st K => ∃ ns xs m x y e n u v f, pNl n0 st ns xs m x y e n u v f ∧ K (.exit 2) ⟨T 136 [(6, .ptr 1 0), (7, .ptr 2 0), (8, .int .i64 e), (9, .ptr 3 0), (10, .ptr 4 0), (11, .int .i64 f), (12, .ptr 5 0), (13, .ptr 6 0)],
  [some (.ro [.u8] ns), some (.var 28 (fx m).cells), some (.var 30 (vx x y).cells), some (.var 28 (fx n).cells), some (.var 30 (vx u v).cells), some (.var 28 (fx (lowF xs xs.length)).cells), some (.var 28 (fx (highF xs xs.length)).cells)]⟩
noncomputable def NNear : Know := ⟨Γw3, fun f i => if f = f_perigeelaw9_MassNear then (if i = 0 then some LNb else if i = 1 then some LNl else none) else none, fun _ => none⟩
theorem v_MassNear (ns : List (List Int)) (K : IV → List Blk → Prop) : (comes Try.prog NNear 3 f_perigeelaw9_MassNear [.sl 0] [.ro [.u8] ns] K) = (∀ (t1 : Int), t1 = (↑(bodiesF ns (howMany ns (12 : Int))).length : Int) → pBodies [IV.sl (0 : Nat), IV.int IntKind.i64 (12 : Int)] [Blk.ro [IntKind.u8] ns] ∧ br (t1 == (0 : Int)) (pNil [] [] ∧ K (IV.bool true) []) (∃ ns_1 xs, pNb (1 : Nat) (St.mk (T (136 : Nat) [((3 : Nat), IV.sl (1 : Nat)), ((4 : Nat), IV.sl (2 : Nat)), ((5 : Nat), IV.int IntKind.i64 (IntKind.i64.wrap (t1 - (1 : Int))))]) [some (Blk.ro [IntKind.u8] ns), some (Blk.row (32 : Nat) ksB (bodiesF ns (howMany ns (12 : Int)))), some (Blk.row (32 : Nat) ksB [])]) ns_1 xs ∧ pBs [IV.sl (0 : Nat)] [Blk.ro ksB xs] ∧ pBs [IV.sl (0 : Nat)] [Blk.ro ksB xs.reverse] ∧ ((0 : Int) ≤ (0 : Int) ∧ (0 : Int) < (↑xs.length : Int)) ∧ ((0 : Int) ≤ (0 : Int) ∧ (0 : Int) < (↑xs.length : Int)) ∧ ((0 : Int) ≤ (0 : Int) ∧ (0 : Int) < (↑xs.length : Int)) ∧ ((0 : Int) ≤ (0 : Int) ∧ (0 : Int) < (↑xs.length : Int)) ∧ ∃ ns xs_1 m x y e n u v f, pNl (1 : Nat) (St.mk (T (136 : Nat) [((3 : Nat), IV.sl (1 : Nat)), ((6 : Nat), IV.ptr (2 : Nat) (0 : Nat)), ((7 : Nat), IV.ptr (3 : Nat) (0 : Nat)), ((8 : Nat), IV.int IntKind.i64 (cE xs)), ((9 : Nat), IV.ptr (4 : Nat) (0 : Nat)), ((10 : Nat), IV.ptr (5 : Nat) (0 : Nat)), ((11 : Nat), IV.int IntKind.i64 (cE xs.reverse)), ((12 : Nat), IV.ptr (6 : Nat) (0 : Nat)), ((13 : Nat), IV.ptr (7 : Nat) (0 : Nat)), ((14 : Nat), IV.int IntKind.i64 (0 : Int))]) [some (Blk.ro [IntKind.u8] ns_1), some (Blk.row (32 : Nat) ksB xs), some (Blk.var (28 : Nat) [IV.int IntKind.i64 (cM xs / (18446744073709551616 : Int)), IV.int IntKind.u64 (cM xs % (18446744073709551616 : Int))]), some (Blk.var (30 : Nat) [IV.int IntKind.i64 (cX xs / (18446744073709551616 : Int)), IV.int IntKind.u64 (cX xs % (18446744073709551616 : Int)), IV.int IntKind.i64 (cY xs / (18446744073709551616 : Int)), IV.int IntKind.u64 (cY xs % (18446744073709551616 : Int))]), some (Blk.var (28 : Nat) [IV.int IntKind.i64 (cM xs.reverse / (18446744073709551616 : Int)), IV.int IntKind.u64 (cM xs.reverse % (18446744073709551616 : Int))]), some (Blk.var (30 : Nat) [IV.int IntKind.i64 (cX xs.reverse / (18446744073709551616 : Int)), IV.int IntKind.u64 (cX xs.reverse % (18446744073709551616 : Int)), IV.int IntKind.i64 (cY xs.reverse / (18446744073709551616 : Int)), IV.int IntKind.u64 (cY xs.reverse % (18446744073709551616 : Int))]), some (Blk.var (28 : Nat) [IV.int IntKind.i64 (rd xs (0 : Nat) (4 : Nat)), IV.int IntKind.u64 (rd xs (0 : Nat) (5 : Nat))]), some (Blk.var (28 : Nat) [IV.int IntKind.i64 (rd xs (0 : Nat) (4 : Nat)), IV.int IntKind.u64 (rd xs (0 : Nat) (5 : Nat))])]) ns xs_1 m x y e n u v f ∧ may2 [fx (lowF xs_1 xs_1.length), IV.agg [IV.int IntKind.i64 (0 : Int), IV.int IntKind.u64 (1024 : Int)]] [] ∧ may2 [fx (highF xs_1 xs_1.length), IV.agg [IV.int IntKind.i64 (0 : Int), IV.int IntKind.u64 (1024 : Int)]] [] ∧ preI [IV.int IntKind.i64 e] [] ∧ preI [IV.int IntKind.i64 f] [] ∧ br (IntKind.i64.wrap (e + f) == (0 : Int)) (br (decide (m / (18446744073709551616 : Int) = n / (18446744073709551616 : Int)) && (decide (m % (18446744073709551616 : Int) = n % (18446744073709551616 : Int)) && true)) (br (decide (x / (18446744073709551616 : Int) = u / (18446744073709551616 : Int)) && (decide (x % (18446744073709551616 : Int) = u % (18446744073709551616 : Int)) && (decide (y / (18446744073709551616 : Int) = v / (18446744073709551616 : Int)) && (decide (y % (18446744073709551616 : Int) = v % (18446744073709551616 : Int)) && true)))) (preFF [fx x, fx (numF (lowF xs_1 xs_1.length / (18446744073709551616 : Int) * (18446744073709551616 : Int) + lowF xs_1 xs_1.length % (18446744073709551616 : Int) - (1024 : Int)))] [] ∧ br (decide (cmpI (x / (18446744073709551616 : Int) * (18446744073709551616 : Int) + x % (18446744073709551616 : Int)) (numF (lowF xs_1 xs_1.length / (18446744073709551616 : Int) * (18446744073709551616 : Int) + lowF xs_1 xs_1.length % (18446744073709551616 : Int) - (1024 : Int)) / (18446744073709551616 : Int) * (18446744073709551616 : Int) + numF (lowF xs_1 xs_1.length / (18446744073709551616 : Int) * (18446744073709551616 : Int) + lowF xs_1 xs_1.length % (18446744073709551616 : Int) - (1024 : Int)) % (18446744073709551616 : Int)) ≥ (0 : Int))) (preFF [fx x, fx (numF (highF xs_1 xs_1.length / (18446744073709551616 : Int) * (18446744073709551616 : Int) + highF xs_1 xs_1.length % (18446744073709551616 : Int) + (1024 : Int)))] [] ∧ br (decide (cmpI (x / (18446744073709551616 : Int) * (18446744073709551616 : Int) + x % (18446744073709551616 : Int)) (numF (highF xs_1 xs_1.length / (18446744073709551616 : Int) * (18446744073709551616 : Int) + highF xs_1 xs_1.length % (18446744073709551616 : Int) + (1024 : Int)) / (18446744073709551616 : Int) * (18446744073709551616 : Int) + numF (highF xs_1 xs_1.length / (18446744073709551616 : Int) * (18446744073709551616 : Int) + highF xs_1 xs_1.length % (18446744073709551616 : Int) + (1024 : Int)) % (18446744073709551616 : Int)) ≤ (0 : Int))) (pNil [] [] ∧ K (IV.bool true) []) (K (IV.bool false) [])) (K (IV.bool false) [])) (K (IV.bool false) [])) (K (IV.bool false) [])) (K (IV.bool false) []))) := by refine nm ?_; kernel_rfl
end Go.Vs.RF


set_option linter.unusedVariables false
set_option linter.unusedSimpArgs false
set_option maxRecDepth 100000
/- mass: sums that fit; the laws of the centre -/
namespace Go.Vs.RF
open Go Go.Proofs Go.Vs Go.IntWalk

def totI (f : List Int → Int) : List (List Int) → Int
  | [] => 0
  | r :: l => f r + totI f l
theorem tot_app (f : List Int → Int) : ∀ (xs ys : List (List Int)), totI f (xs ++ ys) = totI f xs + totI f ys
  | [], ys => by simp [totI]
  | x :: xs, ys => by simp only [List.cons_append, totI]; rw [tot_app f xs ys]; omega
theorem tot_rev (f : List Int → Int) : ∀ (xs : List (List Int)), totI f xs.reverse = totI f xs
  | [] => rfl
  | x :: xs => by rw [List.reverse_cons, tot_app, tot_rev f xs]; simp only [totI]; omega
theorem tot_le {f g : List Int → Int} : ∀ (xs : List (List Int)), (∀ r ∈ xs, f r ≤ g r) → totI f xs ≤ totI g xs
  | [], _ => Int.le_refl _
  | x :: xs, h => by
    simp only [totI]
    have h1 := h x (by simp)
    have h2 := tot_le xs (fun r hr => h r (List.mem_cons_of_mem _ hr))
    omega
theorem tot_mul (c : Int) (f : List Int → Int) : ∀ (xs : List (List Int)), totI (fun r => c * f r) xs = c * totI f xs
  | [] => by simp [totI]
  | x :: xs => by simp only [totI]; rw [tot_mul c f xs, Int.mul_add]
theorem tot_congr {f g : List Int → Int} : ∀ (xs : List (List Int)), (∀ r ∈ xs, f r = g r) → totI f xs = totI g xs
  | [], _ => rfl
  | x :: xs, h => by
    simp only [totI]
    rw [h x (by simp), tot_congr xs (fun r hr => h r (List.mem_cons_of_mem _ hr))]
theorem tot_const (c : Int) : ∀ (xs : List (List Int)), totI (fun _ => c) xs = (xs.length : Int) * c
  | [] => by simp [totI]
  | x :: xs => by simp only [totI, List.length_cons]; rw [tot_const c xs, Int.natCast_add, Int.add_mul]; omega
theorem tot_pos {f : List Int → Int} {xs : List (List Int)} (h : ∀ r ∈ xs, 1 ≤ f r) (h0 : 0 < xs.length) : 1 ≤ totI f xs := by
  have := tot_le (f := fun _ => 1) (g := f) xs h
  rw [tot_const] at this
  omega
/-- where nothing goes beyond, a sum is the sum -/
theorem sum_fits (w : Nat) (f : List Int → Int) (M : Int) (hM : 0 ≤ M) : ∀ (xs : List (List Int)) (a : Int), (∀ r ∈ xs, tmE w r = 0 ∧ tmN w r = f r ∧ -M ≤ f r ∧ f r ≤ M) →
    -170141183460469231731687303715884105728 < a - xs.length * M → a + xs.length * M < 170141183460469231731687303715884105728 → sumG w xs a = (a + totI f xs, 0)
  | [], a, _, _, _ => by simp [sumG, totI]
  | r :: l, a, h, h1, h2 => by
    obtain ⟨e1, e2, e3, e4⟩ := h r (by simp)
    simp only [List.length_cons] at h1 h2
    rw [Int.natCast_add, Int.add_mul] at h1 h2
    have hl : 0 ≤ (l.length : Int) * M := Int.mul_nonneg (by omega) hM
    simp only [sumG]
    rw [if_neg (by rw [e1]; simp), e2]
    have hm : mayF (a + f r) := ⟨by omega, by omega⟩
    rw [if_neg (by rw [err_may hm]; simp), sum_fits w f M hM l (a + f r) (fun r hr => h r (List.mem_cons_of_mem _ hr)) (by omega) (by omega)]
    simp only [totI]
    rw [Int.add_assoc]

/-! quotients by whole numbers -/
theorem quoI_pos' {x y : Int} (hx : 0 ≤ x) (hy : 0 < y) : quoI x y = (2 * (x * 18446744073709551616) + y) / (2 * y) := by
  unfold quoI absI
  rw [if_neg (show ¬ x < 0 by omega), if_neg (show ¬ y < 0 by omega), decide_eq_false (show ¬ x < 0 by omega), decide_eq_false (show ¬ y < 0 by omega)]
  rfl
theorem quoI_negl' (x y : Int) (hy : y ≠ 0) : quoI (-x) y = -quoI x y := by
  by_cases h0 : x = 0
  · subst h0; rw [show (-0 : Int) = 0 from rfl, quoI_zero y hy]; rfl
  · unfold quoI
    rw [abs_neg, show decide (-x < 0) = !decide (x < 0) by by_cases h : x < 0 <;> simp [h] <;> omega, show ((!decide (x < 0)) != decide (y < 0)) = !(decide (x < 0) != decide (y < 0)) by cases decide (x < 0) <;> cases decide (y < 0) <;> rfl, sgnI_not]
theorem quo_cancel (k x y : Int) (hk : 0 < k) (hy : y ≠ 0) : quoI (k * x) (k * y) = quoI x y := by
  have pos : ∀ {x y : Int}, 0 ≤ x → 0 < y → quoI (k * x) (k * y) = quoI x y := by
    intro x y hx hy
    rw [quoI_pos' (Int.mul_nonneg (by omega) hx) (Int.mul_pos hk hy), quoI_pos' hx hy]
    rw [show 2 * (k * x * 18446744073709551616) + k * y = k * (2 * (x * 18446744073709551616) + y) by rw [Int.mul_add, Int.mul_assoc, ← Int.mul_assoc 2 k, Int.mul_comm 2 k, Int.mul_assoc k 2], show 2 * (k * y) = k * (2 * y) by rw [← Int.mul_assoc, Int.mul_comm 2 k, Int.mul_assoc]]
    exact Int.mul_ediv_mul_of_pos _ _ hk
  have nonneg : ∀ {x : Int}, 0 ≤ x → quoI (k * x) (k * y) = quoI x y := by
    intro x hx
    rcases Int.lt_trichotomy y 0 with h | h | h
    · have := pos (x := x) (y := -y) hx (by omega)
      rw [Int.mul_neg, quoI_negr _ _ (by intro h0; rcases Int.mul_eq_zero.1 h0 with h1 | h1 <;> omega), quoI_negr _ _ hy] at this
      omega
    · exact absurd h hy
    · exact pos hx h
  by_cases hx : 0 ≤ x
  · exact nonneg hx
  · have := nonneg (x := -x) (by omega)
    rw [Int.mul_neg, quoI_negl' _ _ (by intro h0; rcases Int.mul_eq_zero.1 h0 with h1 | h1 <;> omega), quoI_negl' _ _ hy] at this
    omega
/-- a mean is between the least and the greatest -/
theorem quo_mean {n k lo hi : Int} (hk : 1 ≤ k) (h1 : k * lo ≤ n) (h2 : n ≤ k * hi) : lo ≤ quoI n (k * 18446744073709551616) ∧ quoI n (k * 18446744073709551616) ≤ hi := by
  have pos : ∀ {n lo hi : Int}, 0 ≤ n → k * lo ≤ n → n ≤ k * hi → lo ≤ quoI n (k * 18446744073709551616) ∧ quoI n (k * 18446744073709551616) ≤ hi := by
    intro n lo hi hn h1 h2
    have e : quoI n (k * 18446744073709551616) = (2 * n + k) / (2 * k) := by
      rw [quoI_pos' hn (by omega), show 2 * (n * 18446744073709551616) + k * 18446744073709551616 = (2 * n + k) * 18446744073709551616 by omega, show 2 * (k * 18446744073709551616) = (2 * k) * 18446744073709551616 by omega]
      exact Int.mul_ediv_mul_of_pos_left _ _ (by decide)
    rw [e]
    constructor
    · rw [Int.le_ediv_iff_mul_le (by omega), show lo * (2 * k) = 2 * (k * lo) by rw [Int.mul_comm lo, Int.mul_assoc]]
      omega
    · refine Int.lt_add_one_iff.1 ?_
      rw [Int.ediv_lt_iff_lt_mul (by omega), Int.add_mul, show hi * (2 * k) = 2 * (k * hi) by rw [Int.mul_comm hi, Int.mul_assoc]]
      omega
  by_cases hn : 0 ≤ n
  · exact pos hn h1 h2
  · have := pos (n := -n) (lo := -hi) (hi := -lo) (by omega) (by rw [Int.mul_neg]; omega) (by rw [Int.mul_neg]; omega)
    rw [quoI_negl' _ _ (by omega)] at this
    omega
/-- of whole masses, and places that are not far, the centre is the mean -/
structure Plain (k : List Int → Int) (B C : Int) (xs : List (List Int)) : Prop where
  mass : ∀ r ∈ xs, fr r 0 = k r * 18446744073709551616 ∧ 1 ≤ k r ∧ k r ≤ B
  pX : ∀ r ∈ xs, -C ≤ fr r 4 ∧ fr r 4 ≤ C
  pY : ∀ r ∈ xs, -C ≤ fr r 6 ∧ fr r 6 ≤ C
theorem tm_whole {k : Int} {r : List Int} {w : Nat} {B C : Int} (hw : w ≠ 0) (h0 : fr r 0 = k * 18446744073709551616) (h1 : 1 ≤ k) (h2 : k ≤ B) (h3 : -C ≤ fr r w) (h4 : fr r w ≤ C) (hb : B * C < 170141183460469231731687303715884105728) :
    tmE w r = 0 ∧ tmN w r = k * fr r w ∧ -(B * C) ≤ k * fr r w ∧ k * fr r w ≤ B * C := by
  have hC : 0 ≤ C := by omega
  have a1 : k * fr r w ≤ k * C := Int.mul_le_mul_of_nonneg_left h4 (by omega)
  have a2 : k * (-C) ≤ k * fr r w := Int.mul_le_mul_of_nonneg_left h3 (by omega)
  have a3 : k * C ≤ B * C := Int.mul_le_mul_of_nonneg_right h2 hC
  rw [Int.mul_neg] at a2
  have hm : mayF (k * fr r w) := ⟨by omega, by omega⟩
  unfold tmE tmN
  rw [if_neg hw, if_neg hw, h0, mulI_whole, err_may hm, num_may hm]
  exact ⟨rfl, rfl, by omega, by omega⟩
theorem cen_plain {k : List Int → Int} {B C : Int} {xs : List (List Int)} (h : Plain k B C xs) (h0 : 0 < xs.length) (hl : xs.length ≤ 1000) (hB0 : 1 ≤ B) (hB : B ≤ 100000) (hC0 : 0 ≤ C) (hC : C ≤ 1208925819614629174706176) :
    cE xs = 0 ∧ cM xs = totI k xs * 18446744073709551616 ∧ cX xs = quoI (totI (fun r => k r * fr r 4) xs) (totI k xs * 18446744073709551616) ∧ cY xs = quoI (totI (fun r => k r * fr r 6) xs) (totI k xs * 18446744073709551616) ∧ 1 ≤ totI k xs ∧
    (∀ lo, (∀ r ∈ xs, lo ≤ fr r 4) → lo ≤ cX xs) ∧ (∀ hi, (∀ r ∈ xs, fr r 4 ≤ hi) → cX xs ≤ hi) := by
  have hBC : B * C ≤ 100000 * 1208925819614629174706176 := Int.le_trans (Int.mul_le_mul_of_nonneg_right hB hC0) (Int.mul_le_mul_of_nonneg_left hC (by decide))
  have hBC0 : 0 ≤ B * C := Int.mul_nonneg (by omega) hC0
  have hLBC : (xs.length : Int) * (B * C) ≤ 1000 * (100000 * 1208925819614629174706176) := Int.le_trans (Int.mul_le_mul_of_nonneg_right (by omega) hBC0) (Int.mul_le_mul_of_nonneg_left hBC (by decide))
  have hLBC0 : 0 ≤ (xs.length : Int) * (B * C) := Int.mul_nonneg (by omega) hBC0
  have hLB : (xs.length : Int) * (B * 18446744073709551616) ≤ 1000 * (100000 * 18446744073709551616) := Int.le_trans (Int.mul_le_mul_of_nonneg_right (by omega) (by omega)) (Int.mul_le_mul_of_nonneg_left (by omega) (by decide))
  have hLB0 : 0 ≤ (xs.length : Int) * (B * 18446744073709551616) := Int.mul_nonneg (by omega) (by omega)
  have t0 : ∀ r ∈ xs, tmE 0 r = 0 ∧ tmN 0 r = 18446744073709551616 * k r ∧ -(B * 18446744073709551616) ≤ 18446744073709551616 * k r ∧ 18446744073709551616 * k r ≤ B * 18446744073709551616 := by
    intro r hr
    obtain ⟨h1, h2, h3⟩ := h.mass r hr
    exact ⟨rfl, by rw [show tmN 0 r = fr r 0 from rfl, h1]; omega, by omega, by omega⟩
  have t4 := fun r hr => tm_whole (w := 4) (by decide) (h.mass r hr).1 (h.mass r hr).2.1 (h.mass r hr).2.2 (h.pX r hr).1 (h.pX r hr).2 (by omega)
  have t6 := fun r hr => tm_whole (w := 6) (by decide) (h.mass r hr).1 (h.mass r hr).2.1 (h.mass r hr).2.2 (h.pY r hr).1 (h.pY r hr).2 (by omega)
  have s0 := sum_fits 0 (fun r => 18446744073709551616 * k r) (B * 18446744073709551616) (by omega) xs 0 t0 (by omega) (by omega)
  have s4 := sum_fits 4 (fun r => k r * fr r 4) (B * C) hBC0 xs 0 t4 (by omega) (by omega)
  have s6 := sum_fits 6 (fun r => k r * fr r 6) (B * C) hBC0 xs 0 t6 (by omega) (by omega)
  rw [tot_mul, Int.zero_add] at s0
  rw [Int.zero_add] at s4 s6
  have kp : 1 ≤ totI k xs := tot_pos (fun r hr => (h.mass r hr).2.1) h0
  have n0 : sumN 0 xs = totI k xs * 18446744073709551616 := by unfold sumN; rw [s0, Int.mul_comm]
  have e0 : sumE 0 xs = 0 := by unfold sumE; rw [s0]
  have n4 : sumN 4 xs = totI (fun r => k r * fr r 4) xs := by unfold sumN; rw [s4]
  have e4 : sumE 4 xs = 0 := by unfold sumE; rw [s4]
  have n6 : sumN 6 xs = totI (fun r => k r * fr r 6) xs := by unfold sumN; rw [s6]
  have e6 : sumE 6 xs = 0 := by unfold sumE; rw [s6]
  have bnd : ∀ (w : Nat) (lo hi : Int), (∀ r ∈ xs, lo ≤ fr r w) → (∀ r ∈ xs, fr r w ≤ hi) → lo ≤ quoI (totI (fun r => k r * fr r w) xs) (totI k xs * 18446744073709551616) ∧ quoI (totI (fun r => k r * fr r w) xs) (totI k xs * 18446744073709551616) ≤ hi := by
    intro w lo hi h1 h2
    refine quo_mean kp ?_ ?_
    · have := tot_le (f := fun r => lo * k r) (g := fun r => k r * fr r w) xs (fun r hr => by
        rw [Int.mul_comm]
        exact Int.mul_le_mul_of_nonneg_left (h1 r hr) (by have := (h.mass r hr).2.1; omega))
      rw [tot_mul, Int.mul_comm] at this
      exact this
    · have := tot_le (f := fun r => k r * fr r w) (g := fun r => hi * k r) xs (fun r hr => by
        rw [Int.mul_comm hi]
        exact Int.mul_le_mul_of_nonneg_left (h2 r hr) (by have := (h.mass r hr).2.1; omega))
      rw [tot_mul, Int.mul_comm] at this
      exact this
  have b4 := bnd 4 (-C) C (fun r hr => (h.pX r hr).1) (fun r hr => (h.pX r hr).2)
  have b6 := bnd 6 (-C) C (fun r hr => (h.pY r hr).1) (fun r hr => (h.pY r hr).2)
  have hne : totI k xs * 18446744073709551616 ≠ 0 := by omega
  have m4 : mayF (quoI (totI (fun r => k r * fr r 4) xs) (totI k xs * 18446744073709551616)) := ⟨by omega, by omega⟩
  have m6 : mayF (quoI (totI (fun r => k r * fr r 6) xs) (totI k xs * 18446744073709551616)) := ⟨by omega, by omega⟩
  have a4 : axE 4 xs = 0 := by unfold axE divE; rw [if_pos e4, n0, n4, if_neg hne, err_may m4]
  have a6 : axE 6 xs = 0 := by unfold axE divE; rw [if_pos e6, n0, n6, if_neg hne, err_may m6]
  have c0 : cE xs = 0 := by unfold cE; rw [if_neg (by omega), if_neg (by rw [e0]; simp), if_neg (by rw [a4]; simp), a6]
  have x4 : cX xs = quoI (totI (fun r => k r * fr r 4) xs) (totI k xs * 18446744073709551616) := by
    unfold cX axN divN
    rw [if_pos c0, if_pos e4, n0, n4, if_neg hne, num_may m4]
  refine ⟨c0, by unfold cM; rw [if_pos c0, n0], x4, ?_, kp, fun lo hlo => ?_, fun hi hhi => ?_⟩
  · unfold cY axN divN
    rw [if_pos c0, if_pos e6, n0, n6, if_neg hne, num_may m6]
  · rw [x4]
    exact (bnd 4 lo C hlo (fun r hr => (h.pX r hr).2)).1
  · rw [x4]
    exact (bnd 4 (-C) hi (fun r hr => (h.pX r hr).1) hhi).2
end Go.Vs.RF

set_option linter.unusedVariables false
set_option linter.unusedSimpArgs false
set_option maxRecDepth 100000
/- the laws of the centre -/
namespace Go.Vs.RF
open Go Go.Proofs Go.Vs Go.IntWalk

theorem ctrsw2 : ∀ {g : FuncId} {sp : Vs.Spec}, Γw2 g = some sp → Contract Try.prog g sp := ext_ok c_Centre (ext_ok c_Bodies ctrsw1)
theorem knoww2 : KnowOk Try.prog Nw2 3 := knowOf (fun g sp h => ctrsw2 h) (fun _ _ => rfl) (fun _ => rfl) 3
theorem c_awake9 : Contract Try.prog f_perigeelaw9_awake spAwk9 := by
  refine contract_of (N := Nw2) 3 knoww2 ?_
  rintro l bs _ _ ⟨rfl, rfl⟩
  show comes _ _ _ _ _ _ _
  rw [v_awake9]
  rintro t1 rfl t2 rfl
  refine ⟨preI_of ⟨by decide, by decide⟩, preI_of ⟨by decide, by decide⟩, ⟨_, rfl, rfl, ?_⟩, preI_of ⟨by decide, by decide⟩, preI_of ⟨by decide, by decide⟩, preI_of ⟨by decide, by decide⟩, rfl⟩
  intro r hr
  rw [List.mem_singleton.1 hr]
  exact ⟨by decide, by decide, by decide⟩
theorem ctrsw3 : ∀ {g : FuncId} {sp : Vs.Spec}, Γw3 g = some sp → Contract Try.prog g sp := ext_ok c_awake9 ctrsw2
theorem knoww3 : KnowOk Try.prog Nw3 3 := knowOf (fun g sp h => ctrsw3 h) (fun _ _ => rfl) (fun _ => rfl) 3

/-! MassWhole -/
def i16ok (n : Int) : Prop := -32768 ≤ n ∧ n < 32768
def pMW (l : List IV) (bs : List Blk) : Prop := ∃ m a b c d, l = [.int .u8 m, .int .i16 a, .int .i16 b, .int .i16 c, .int .i16 d] ∧ bs = [] ∧ u8ok m ∧ i16ok a ∧ i16ok b ∧ i16ok c ∧ i16ok d
noncomputable def spMW : Vs.Spec := ⟨pMW, fun _ _ => (.bool true, [])⟩
def rowM (k x y : Int) : List Int := [k / 18446744073709551616, k % 18446744073709551616, 0, 0, x / 18446744073709551616, x % 18446744073709551616, y / 18446744073709551616, y % 18446744073709551616, 0, 0, 0, 0, 0, 0, 0, 0, 0, 0, 0, 0]
theorem rowM_fr (k x y : Int) : fr (rowM k x y) 0 = k ∧ fr (rowM k x y) 4 = x ∧ fr (rowM k x y) 6 = y := ⟨jn k, jn x, jn y⟩
theorem quo_pair (k s : Int) (hk : 0 < k) : quoI (k * s) ((k + (k + 0)) * 18446744073709551616) = halfI s := by
  rw [show (k + (k + 0)) * 18446744073709551616 = k * 36893488147419103232 by omega, quo_cancel k s 36893488147419103232 hk (by decide), quo_half]
theorem c_MassWhole : Contract Try.prog f_perigeelaw9_MassWhole spMW := by
  refine contract_of (N := Nw3) 3 knoww3 ?_
  rintro l bs _ _ ⟨m, a, b, c, d, rfl, rfl, hm, ha, hb, hc, hd⟩
  unfold u8ok at hm; unfold i16ok at ha hb hc hd
  show comes _ _ _ _ _ _ _
  rw [v_MassWhole]
  rintro t1 e1 j2 rfl t3 e3 j4 rfl t5 e5 j6 rfl t7 e7 t8 e8 t9 e9 t10 e10 t11 e11 t12 e12 t13 e13 t14 e14 t15 e15 t16 e16 t17 e17 t18 e18 t19 e19 t20 e20 t21 e21 b22 e22 b23 e23 d24 e24 b25 e25 b26 e26 d27 e27
  rw [i64_in a (by omega), i64_in c (by omega), i64_in (a + c) (by omega), mxe (by omega)] at e1
  rw [i64_in b (by omega), i64_in d (by omega), i64_in (b + d) (by omega), mxe (by omega)] at e3
  rw [i64_in m (by omega), i64_in (1 + m) (by omega), mxe (by omega)] at e5
  rw [i64_in a (by omega), mxe (by omega)] at e10
  rw [i64_in b (by omega), mxe (by omega)] at e11
  rw [i64_in c (by omega), mxe (by omega)] at e12
  rw [i64_in d (by omega), mxe (by omega)] at e13
  have q1 : (List.replicate 1 (List.replicate 20 (0 : Int))).set 0 [0, 0, 0, 0, 0, 0, 0, 0, 0, 0, 0, 0, t11 % 18446744073709551616, t11 / 18446744073709551616, t10 % 18446744073709551616, t10 / 18446744073709551616, 0, 0, j6 % 18446744073709551616, j6 / 18446744073709551616].reverse = [rowM j6 t10 t11] := rfl
  have q2 : ((List.replicate 2 (List.replicate 20 (0 : Int))).set 0 [0, 0, 0, 0, 0, 0, 0, 0, 0, 0, 0, 0, t11 % 18446744073709551616, t11 / 18446744073709551616, t10 % 18446744073709551616, t10 / 18446744073709551616, 0, 0, j6 % 18446744073709551616, j6 / 18446744073709551616].reverse).set 1 [0, 0, 0, 0, 0, 0, 0, 0, 0, 0, 0, 0, t13 % 18446744073709551616, t13 / 18446744073709551616, t12 % 18446744073709551616, t12 / 18446744073709551616, 0, 0, j6 % 18446744073709551616, j6 / 18446744073709551616].reverse = [rowM j6 t10 t11, rowM j6 t12 t13] := rfl
  rw [q1] at e14 e15 e16 e17
  rw [q2] at e18 e19 e20 e21
  have hp1 : Plain (fun _ => 1 + m) 1000 1000000000000000000000000 [rowM j6 t10 t11] := by
    refine ⟨fun r hr => ?_, fun r hr => ?_, fun r hr => ?_⟩
    all_goals
      rw [List.mem_singleton.1 hr]
      first
        | rw [(rowM_fr j6 t10 t11).1]
        | rw [(rowM_fr j6 t10 t11).2.1]
        | rw [(rowM_fr j6 t10 t11).2.2]
      omega
  have hp2 : Plain (fun _ => 1 + m) 1000 1000000000000000000000000 [rowM j6 t10 t11, rowM j6 t12 t13] := by
    refine ⟨fun r hr => ?_, fun r hr => ?_, fun r hr => ?_⟩
    all_goals
      rcases List.mem_cons.1 hr with rfl | hr
      · first
          | rw [(rowM_fr j6 t10 t11).1]
          | rw [(rowM_fr j6 t10 t11).2.1]
          | rw [(rowM_fr j6 t10 t11).2.2]
        omega
      · rw [List.mem_singleton.1 hr]
        first
          | rw [(rowM_fr j6 t12 t13).1]
          | rw [(rowM_fr j6 t12 t13).2.1]
          | rw [(rowM_fr j6 t12 t13).2.2]
        omega
  obtain ⟨k1, k2, k3, k4, k5, _, _⟩ := cen_plain hp1 (by simp) (by simp) (by decide) (by decide) (by decide) (by decide)
  obtain ⟨l1, l2, l3, l4, l5, _, _⟩ := cen_plain hp2 (by simp) (by simp) (by decide) (by decide) (by decide) (by decide)
  simp only [totI] at k2 k3 k4 k5 l2 l3 l4 l5
  rw [(rowM_fr j6 t10 t11).2.1, show (1 + m) * t10 + 0 = (1 + m) * t10 by omega, show (1 + m + 0) * 18446744073709551616 = (1 + m) * 18446744073709551616 by omega, quo_cancel _ _ _ (by omega) (by decide), quo_one] at k3
  rw [(rowM_fr j6 t10 t11).2.2, show (1 + m) * t11 + 0 = (1 + m) * t11 by omega, show (1 + m + 0) * 18446744073709551616 = (1 + m) * 18446744073709551616 by omega, quo_cancel _ _ _ (by omega) (by decide), quo_one] at k4
  rw [(rowM_fr j6 t10 t11).2.1, (rowM_fr j6 t12 t13).2.1, show (1 + m) * t10 + ((1 + m) * t12 + 0) = (1 + m) * (t10 + t12) by rw [Int.mul_add]; omega, quo_pair _ _ (by omega)] at l3
  rw [(rowM_fr j6 t10 t11).2.2, (rowM_fr j6 t12 t13).2.2, show (1 + m) * t11 + ((1 + m) * t13 + 0) = (1 + m) * (t11 + t13) by rw [Int.mul_add]; omega, quo_pair _ _ (by omega)] at l4
  rw [← e14] at k1; rw [← e15] at k2; rw [← e16] at k3; rw [← e17] at k4
  rw [← e18] at l1; rw [← e19] at l2; rw [← e20] at l3; rw [← e21] at l4
  have mf : ∀ {x : Int}, -1208925819614629174706176 ≤ x → x ≤ 1208925819614629174706176 → mayF x := fun h1 h2 => ⟨by omega, by omega⟩
  have hr1 : mayR (rowM j6 t10 t11) := by
    unfold mayR; rw [(rowM_fr j6 t10 t11).1, (rowM_fr j6 t10 t11).2.1, (rowM_fr j6 t10 t11).2.2]
    exact ⟨mf (by omega) (by omega), mf (by omega) (by omega), mf (by omega) (by omega)⟩
  have hr2 : mayR (rowM j6 t12 t13) := by
    unfold mayR; rw [(rowM_fr j6 t12 t13).1, (rowM_fr j6 t12 t13).2.1, (rowM_fr j6 t12 t13).2.2]
    exact ⟨mf (by omega) (by omega), mf (by omega) (by omega), mf (by omega) (by omega)⟩
  have i64 : ∀ {n : Int}, -1000000 ≤ n → n ≤ 1000000 → preI [.int .i64 n] [] := fun h1 h2 => preI_of (by unfold i64ok; omega)
  refine ⟨by rw [i64_in m (by omega), i64_in (1 + m) (by omega)]; exact i64 (by omega) (by omega), by rw [i64_in a (by omega)]; exact i64 (by omega) (by omega), by rw [i64_in b (by omega)]; exact i64 (by omega) (by omega), by rw [i64_in c (by omega)]; exact i64 (by omega) (by omega), by rw [i64_in d (by omega)]; exact i64 (by omega) (by omega),
    ⟨_, rfl, rfl, fun r hr => ?_⟩, ⟨_, rfl, rfl, fun r hr => ?_⟩, ⟨_, rfl, rfl, fun r hr => by cases hr⟩, ?_, may1_of (mf (by omega) (by omega)), ?_, may1_of (mf (by omega) (by omega)), by rw [l1]; exact i64 (by omega) (by omega), by rw [k1]; exact i64 (by omega) (by omega), ?_⟩
  · rcases List.mem_cons.1 hr with rfl | hr
    · exact hr1
    · rw [List.mem_singleton.1 hr]; exact hr2
  · rw [List.mem_singleton.1 hr]; exact hr1
  · rw [i64_in a (by omega), i64_in c (by omega), i64_in (a + c) (by omega)]; exact i64 (by omega) (by omega)
  · rw [i64_in b (by omega), i64_in d (by omega), i64_in (b + d) (by omega)]; exact i64 (by omega) (by omega)
  rw [k1, l1, show (IntKind.i64.wrap (0 + 0) == 0) = true from rfl, br_tt]
  refine ⟨i64 (by omega) (by omega), may2_of (mf (by omega) (by omega)) (mf (by omega) (by omega)), ?_⟩
  have z22 : b22 = true := by
    rw [e22, decide_eq_true_iff, l2, e9, num_may (mf (by omega) (by omega))]; omega
  have z24 : d24 = true := by
    rw [e24, e23, Bool.and_eq_true, decide_eq_true_iff, decide_eq_true_iff, l3, l4, e7, e8, show t10 + t12 = j2 by omega, show t11 + t13 = j4 by omega]
    exact ⟨rfl, rfl⟩
  have z25 : b25 = true := by rw [e25, decide_eq_true_iff, k2]; omega
  have z27 : d27 = true := by
    rw [e27, e26, Bool.and_eq_true, decide_eq_true_iff, decide_eq_true_iff, k3, k4]
    exact ⟨rfl, rfl⟩
  rw [z22, z24, z25, z27]
  exact ⟨⟨rfl, rfl⟩, rfl⟩
end Go.Vs.RF

set_option linter.unusedVariables false
set_option linter.unusedSimpArgs false
set_option maxRecDepth 100000
/- MassNear -/
namespace Go.Vs.RF
open Go Go.Proofs Go.Vs Go.IntWalk

/-! bodies by numbers -/
theorem bodyL_len (a b c d : Int) : (bodyL a b c d).length = 20 := rfl
theorem bodyL_fr (a b c d : Int) : fr (bodyL a b c d) 0 = (1 + c % 9) * 18446744073709551616 ∧ fr (bodyL a b c d) 4 = (a - 128) * 18446744073709551616 + b * 72057594037927936 ∧ fr (bodyL a b c d) 6 = (b - 128) * 18446744073709551616 + c * 1099511627776 ∧
    fr (bodyL a b c d) 8 = (d % 7 - 3) * 18446744073709551616 + a ∧ fr (bodyL a b c d) 10 = (c % 5 - 2) * 18446744073709551616 + d * 1152921504606846976 % 18446744073709551616 := by
  refine ⟨?_, rfl, rfl, rfl, rfl⟩
  show (1 + c % 9) * 18446744073709551616 + 0 = _
  omega
theorem bodyL_row {a b c d : Int} (ha : u8ok a) (hb : u8ok b) (hc : u8ok c) (hd : u8ok d) : rowB (bodyL a b c d) := by
  unfold u8ok at ha hb hc hd
  have I : ∀ {n : Int}, -9223372036854775808 ≤ n → n ≤ 9223372036854775807 → inK .i64 n := fun h1 h2 => ⟨h1, h2⟩
  have U : ∀ {n : Int}, 0 ≤ n → n ≤ 18446744073709551615 → inK .u64 n := fun h1 h2 => ⟨h1, h2⟩
  intro j hj
  rcases j with _|_|_|_|_|_|_|_|_|_|_|_|_|_|_|_|_|_|_|_|j
  · show inK .i64 (1 + c % 9); exact I (by omega) (by omega)
  · show inK .u64 0; exact U (by omega) (by omega)
  · show inK .i64 (d % 3); exact I (by omega) (by omega)
  · show inK .u64 4611686018427387904; exact U (by omega) (by omega)
  · show inK .i64 (a - 128); exact I (by omega) (by omega)
  · show inK .u64 (b * 72057594037927936); exact U (by omega) (by omega)
  · show inK .i64 (b - 128); exact I (by omega) (by omega)
  · show inK .u64 (c * 1099511627776); exact U (by omega) (by omega)
  · show inK .i64 (d % 7 - 3); exact I (by omega) (by omega)
  · show inK .u64 a; exact U (by omega) (by omega)
  · show inK .i64 (c % 5 - 2); exact I (by omega) (by omega)
  · show inK .u64 (d * 1152921504606846976 % 18446744073709551616); exact U (by omega) (by omega)
  · show inK .i64 0; exact I (by omega) (by omega)
  · show inK .u64 (d * 1125899906842624); exact U (by omega) (by omega)
  · show inK .i64 0; exact I (by omega) (by omega)
  · show inK .u64 (a * 1125899906842624); exact U (by omega) (by omega)
  · show inK .i64 (b % 4); exact I (by omega) (by omega)
  · show inK .u64 0; exact U (by omega) (by omega)
  · show inK .i64 0; exact I (by omega) (by omega)
  · show inK .i64 (d * 257); exact I (by omega) (by omega)
  · omega
def made (r : List Int) : Prop := ∃ a b c d, u8ok a ∧ u8ok b ∧ u8ok c ∧ u8ok d ∧ r = bodyL a b c d
theorem bodies_made {ns : List (List Int)} (h : okRows [.u8] ns) (n : Nat) : ∀ r ∈ bodiesF ns n, made r := by
  intro r hr
  unfold bodiesF at hr
  rw [List.mem_map] at hr
  obtain ⟨i, _, rfl⟩ := hr
  exact ⟨_, _, _, _, u8_rd h _, u8_rd h _, u8_rd h _, u8_rd h _, rfl⟩
theorem made_len {xs : List (List Int)} (h : ∀ r ∈ xs, made r) : ∀ r ∈ xs, r.length = 20 := by
  intro r hr
  obtain ⟨a, b, c, d, _, _, _, _, rfl⟩ := h r hr
  rfl
theorem made_rows {xs : List (List Int)} (h : ∀ r ∈ xs, made r) : okRows ksB xs := by
  intro r hr
  obtain ⟨a, b, c, d, ha, hb, hc, hd, rfl⟩ := h r hr
  exact bodyL_row ha hb hc hd
theorem made_may {xs : List (List Int)} (h : ∀ r ∈ xs, made r) : mayRs xs := by
  intro r hr
  obtain ⟨a, b, c, d, ha, hb, hc, hd, rfl⟩ := h r hr
  obtain ⟨e0, e4, e6, _, _⟩ := bodyL_fr a b c d
  unfold u8ok at ha hb hc hd
  unfold mayR
  rw [e0, e4, e6]
  exact ⟨⟨by omega, by omega⟩, ⟨by omega, by omega⟩, ⟨by omega, by omega⟩⟩
theorem made_plain {xs : List (List Int)} (h : ∀ r ∈ xs, made r) : Plain (fun r => r.getD 0 0) 9 2361183241434822606848 xs := by
  refine ⟨fun r hr => ?_, fun r hr => ?_, fun r hr => ?_⟩
  all_goals
    obtain ⟨a, b, c, d, ha, hb, hc, hd, rfl⟩ := h r hr
    obtain ⟨e0, e4, e6, _, _⟩ := bodyL_fr a b c d
    unfold u8ok at ha hb hc hd
  · rw [e0]
    show (1 + c % 9) * 18446744073709551616 = (1 + c % 9) * 18446744073709551616 ∧ 1 ≤ 1 + c % 9 ∧ 1 + c % 9 ≤ 9
    omega
  · rw [e4]; omega
  · rw [e6]; omega

/-! back to front -/
theorem row20 {r : List Int} (h : r.length = 20) : [r.getD 0 0, r.getD 1 0, r.getD 2 0, r.getD 3 0, r.getD 4 0, r.getD 5 0, r.getD 6 0, r.getD 7 0, r.getD 8 0, r.getD 9 0, r.getD 10 0, r.getD 11 0, r.getD 12 0, r.getD 13 0, r.getD 14 0, r.getD 15 0, r.getD 16 0, r.getD 17 0, r.getD 18 0, r.getD 19 0] = r := by
  match r, h with
  | [_, _, _, _, _, _, _, _, _, _, _, _, _, _, _, _, _, _, _, _], _ => rfl
theorem lNb (d n0 : Nat) : LoopOk (envOf Try.prog NNear d) f_perigeelaw9_MassNear n0 0 (lp Try.prog f_perigeelaw9_MassNear 0) LNb := by
  intro st K hst
  obtain ⟨ns, xs, ⟨rfl, hr, h0, hl, rfl⟩, hK⟩ := hst
  have e0 : IntKind.i64.wrap ((xs.length : Int) - 1) = ((xs.length : Nat) : Int) - 1 := i64_in _ (by omega)
  rw [e0]
  refine loop_of (fun n : Nat => SNb ns xs (xs.drop n).reverse ((n : Int) - 1)) (fun n => n ≤ xs.length) (fun n => n) ?_ (a := xs.length) (Nat.le_refl _) |> (fun h => by
    simp only [List.drop_length, List.reverse_nil] at h
    exact h)
  intro n hle k hn hk
  show round (envOf Try.prog ⟨Γw3, _, fun _ => none⟩ d) _ _ _ _ _ k
  rw [rNearBack]
  rintro t1 e1
  rw [br_dec]
  constructor
  · intro h1
    obtain ⟨m, rfl⟩ : ∃ m, n = m + 1 := ⟨n - 1, by omega⟩
    have p1 : t1 := by rw [e1]; omega
    have em : (((m + 1 : Nat) : Int) - 1).toNat = m := by omega
    refine ⟨p1, p1, by rw [List.length_reverse, List.length_drop]; omega, ?_⟩
    rw [em, i64_in _ (by omega)]
    have hm : m < xs.length := by omega
    have := hn m (by omega) (by omega)
    rw [List.drop_eq_getElem_cons hm, List.reverse_cons] at this
    rw [show ((m + 1 : Nat) : Int) - 1 - 1 = (m : Int) - 1 by omega]
    have hrow : (List.replicate 1 (List.replicate 20 (0 : Int))).set 0 [rd xs m 19, rd xs m 18, rd xs m 17, rd xs m 16, rd xs m 15, rd xs m 14, rd xs m 13, rd xs m 12, rd xs m 11, rd xs m 10, rd xs m 9, rd xs m 8, rd xs m 7, rd xs m 6, rd xs m 5, rd xs m 4, rd xs m 3, rd xs m 2, rd xs m 1, rd xs m 0].reverse = [xs[m]] := by
      unfold rd
      rw [get_row hm]
      show [[_, _, _, _, _, _, _, _, _, _, _, _, _, _, _, _, _, _, _, _]] = _
      rw [row20 (hr _ (List.getElem_mem hm))]
    rw [hrow]
    exact this
  · intro h1
    have : n = 0 := by omega
    subst this
    rw [List.drop_zero]
    exact hk _ _ (by simp) hK

/-! the least, and the greatest -/
theorem low_in {xs : List (List Int)} (h : ∀ i, mayF (fr (xs.getD i []) 4)) : ∀ n, mayF (lowF xs n) ∧ mayF (highF xs n)
  | 0 => ⟨h 0, h 0⟩
  | n + 1 => by
    obtain ⟨h1, h2⟩ := low_in h n
    simp only [lowF, highF]
    constructor
    · split; exact h n; exact h1
    · split; exact h n; exact h2
theorem low_le {xs : List (List Int)} : ∀ n i, i < n → lowF xs n ≤ fr (xs.getD i []) 4 ∧ fr (xs.getD i []) 4 ≤ highF xs n
  | n + 1, i, hi => by
    simp only [lowF, highF]
    by_cases e : i = n
    · subst e
      constructor
      · split <;> omega
      · split <;> omega
    · obtain ⟨h1, h2⟩ := low_le (xs := xs) n i (by omega)
      constructor
      · split <;> omega
      · split <;> omega
theorem may_rows {xs : List (List Int)} (h : mayRs xs) (i : Nat) : mayR (xs.getD i []) := by
  by_cases hi : i < xs.length
  · rw [get_row hi]; exact h _ (List.getElem_mem hi)
  · have : xs.getD i [] = [] := by simp [List.getD, hi]
    rw [this]; exact ⟨by decide, by decide, by decide⟩
theorem cmp_lt {a b : Int} : cmpI a b < 0 ↔ a < b := by
  unfold cmpI; split
  · omega
  · split <;> omega
theorem lNl (d n0 : Nat) : LoopOk (envOf Try.prog NNear d) f_perigeelaw9_MassNear n0 1 (lp Try.prog f_perigeelaw9_MassNear 1) LNl := by
  intro st K hst
  obtain ⟨ns, xs, m, x, y, e, n, u, v, f, ⟨rfl, hr, hm, h0, hl, rfl⟩, hK⟩ := hst
  have hmi := fun i => (may_rows hm i).2.1
  refine loop_of (fun q : Nat => SNl ns xs ⟨m, x, y, e, n, u, v, f⟩ (lowF xs q) (highF xs q) q) (fun q => q ≤ xs.length) (fun q => xs.length - q) ?_ (a := 0) (Nat.zero_le _)
  intro q hle k hn hk
  show round (envOf Try.prog ⟨Γw3, _, fun _ => none⟩ d) _ _ _ _ _ k
  rw [rNearLow]
  rintro j1 e1 j2 e2 t3 e3 t4 e4 t5 e5 t6 e6 t7 e7 t8 e8 t9 e9
  obtain ⟨l1, l2⟩ := low_in hmi q
  rw [br_dec]
  constructor
  · intro hq
    have hq' : q < xs.length := by omega
    have eq : ((q : Nat) : Int).toNat = q := by omega
    rw [eq] at e3 e4
    have ok4 : u64ok t4 := by rw [e4]; exact lo_in hr q 5 (by decide) rfl
    have e6' : t6 = fr (xs.getD q []) 4 := by rw [e6, e3, e4]; rfl
    have ex : fr (xs.getD q []) 4 = t3 * 18446744073709551616 + t4 := by rw [← e6', e6]
    have p5 : t5 := by rw [e5]; omega
    have agg : IV.agg [.int .i64 t3, .int .u64 t4] = fx (fr (xs.getD q []) 4) := (fx_mk2 ok4 ex).symm
    have cells : ([.int .i64 t3, .int .u64 t4] : List IV) = [.int .i64 (fr (xs.getD q []) 4 / 18446744073709551616), .int .u64 (fr (xs.getD q []) 4 % 18446744073709551616)] := by
      unfold u64ok at ok4
      rw [ex, show (t3 * 18446744073709551616 + t4) / 18446744073709551616 = t3 by omega, show (t3 * 18446744073709551616 + t4) % 18446744073709551616 = t4 by omega]
    have p9 : t9 := by rw [e9, agg]; exact preFF_fx (hmi q) l2
    have next := hn (q + 1) hq' (by omega)
    have es : IntKind.i64.wrap ((q : Int) + 1) = ((q + 1 : Nat) : Int) := by rw [i64_in _ (by omega)]; rfl
    rw [es]
    have d7 : (t7 < 0) ↔ fr (xs.getD q []) 4 < lowF xs q := by rw [e7, e1, e6']; exact cmp_lt
    have d8 : (t8 > 0) ↔ highF xs q < fr (xs.getD q []) 4 := by rw [e8, e2, e6']; exact cmp_gt
    refine ⟨p5, p5, by rw [agg]; exact preFF_fx (hmi q) l1, ?_⟩
    rw [br_dec]
    simp only [lowF, highF] at next
    constructor
    · intro h7
      rw [if_pos (d7.1 h7)] at next
      refine ⟨p5, p5, p5, p5, p9, ?_⟩
      rw [br_dec]
      constructor
      · intro h8
        rw [if_pos (d8.1 h8)] at next
        refine ⟨p5, p5, ?_⟩
        rw [cells]
        exact next
      · intro h8
        rw [if_neg (fun h => h8 (d8.2 h))] at next
        rw [cells]
        exact next
    · intro h7
      rw [if_neg (fun h => h7 (d7.2 h))] at next
      refine ⟨p5, p5, p9, ?_⟩
      rw [br_dec]
      constructor
      · intro h8
        rw [if_pos (d8.1 h8)] at next
        refine ⟨p5, p5, ?_⟩
        rw [cells]
        exact next
      · intro h8
        rw [if_neg (fun h => h8 (d8.2 h))] at next
        exact next
  · intro hq
    have : q = xs.length := by omega
    subst this
    exact hk _ _ (by simp) hK
theorem knowNear : KnowOk Try.prog NNear 3 := by
  refine ⟨mixedOrders, fun g sp h => ctrsw3 h, ?_, fun g G h => by cases h⟩
  intro d' _ f i S n0 hS
  simp only [NNear] at hS
  split at hS
  · split at hS
    · cases hS
      rename_i hf hi
      subst hf; subst hi
      exact lNb d' n0
    · split at hS
      · cases hS
        rename_i hf _ hi
        subst hf; subst hi
        exact lNl d' n0
      · cases hS
  · cases hS
def pU8s (l : List IV) (bs : List Blk) : Prop := ∃ ns, l = [.sl 0] ∧ bs = [.ro [.u8] ns]
noncomputable def spMN : Vs.Spec := ⟨pU8s, fun _ _ => (.bool true, [])⟩
theorem c_MassNear : Contract Try.prog f_perigeelaw9_MassNear spMN := by
  refine contract_of (N := NNear) 3 knowNear ?_
  rintro l bs _ hB ⟨ns, rfl, rfl⟩
  have hb : okRows [.u8] ns ∧ 0 < [IntKind.u8].length ∧ ns.length ≤ maxLen := hB (.ro [.u8] ns) (List.mem_singleton.2 rfl)
  show comes _ _ _ _ _ _ _
  rw [v_MassNear]
  rintro t1 e1
  rw [bodies_len] at e1
  refine ⟨⟨ns, 12, rfl, rfl, by decide, by decide⟩, ?_⟩
  have hmade := bodies_made hb.1 (howMany ns 12)
  have hhow : howMany ns 12 ≤ 12 := Nat.min_le_right _ _
  rw [br_beq]
  refine ⟨fun _ => ⟨⟨rfl, rfl⟩, rfl⟩, fun h0 => ?_⟩
  have hlen := bodies_len ns (howMany ns 12)
  generalize bodiesF ns (howMany ns 12) = xs at *
  have hmb : ∀ r ∈ xs.reverse, made r := fun r hr => hmade r (List.mem_reverse.1 hr)
  have h0' : 0 < xs.length := by omega
  obtain ⟨k1, k2, k3, k4, k5, k6, k7⟩ := cen_plain (made_plain hmade) h0' (by omega) (by decide) (by decide) (by decide) (by decide)
  obtain ⟨l1, l2, l3, l4, l5, l6, l7⟩ := cen_plain (made_plain hmb) (by rw [List.length_reverse]; exact h0') (by rw [List.length_reverse]; omega) (by decide) (by decide) (by decide) (by decide)
  rw [tot_rev] at l2 l3 l4
  rw [tot_rev] at l3 l4
  have eX : cX xs.reverse = cX xs := by rw [l3, k3]
  have eY : cY xs.reverse = cY xs := by rw [l4, k4]
  have eM : cM xs.reverse = cM xs := by rw [l2, k2]
  have hmi := fun i => (may_rows (made_may hmade) i).2.1
  have hpl := made_plain hmade
  have b4 : ∀ i, i < xs.length → -2361183241434822606848 ≤ fr (xs.getD i []) 4 ∧ fr (xs.getD i []) 4 ≤ 2361183241434822606848 := fun i hi => by rw [get_row hi]; exact hpl.pX _ (List.getElem_mem hi)
  have lowb : ∀ n, n ≤ xs.length → (-2361183241434822606848 ≤ lowF xs n ∧ lowF xs n ≤ 2361183241434822606848) ∧ -2361183241434822606848 ≤ highF xs n ∧ highF xs n ≤ 2361183241434822606848 := by
    intro n
    induction n with
    | zero => intro _; exact ⟨b4 0 h0', b4 0 h0'⟩
    | succ n ih =>
      intro hn
      obtain ⟨i1, i2⟩ := ih (by omega)
      have := b4 n (by omega)
      simp only [lowF, highF]
      constructor
      · split <;> assumption
      · split <;> assumption
  obtain ⟨lb1, lb2⟩ := lowb xs.length (Nat.le_refl _)
  have hlo : lowF xs xs.length ≤ cX xs := k6 _ (fun r hr => by
    obtain ⟨i, hi, rfl⟩ := List.mem_iff_getElem.1 hr
    have := (low_le (xs := xs) xs.length i hi).1
    rw [get_row hi] at this
    exact this)
  have hhi : cX xs ≤ highF xs xs.length := k7 _ (fun r hr => by
    obtain ⟨i, hi, rfl⟩ := List.mem_iff_getElem.1 hr
    have := (low_le (xs := xs) xs.length i hi).2
    rw [get_row hi] at this
    exact this)
  have mX : mayF (cX xs) := ⟨by omega, by omega⟩
  refine ⟨ns, xs, ⟨rfl, made_len hmade, h0', by omega, by rw [e1, ← hlen]; rfl⟩, ⟨_, rfl, rfl, made_may hmade⟩, ⟨_, rfl, rfl, made_may hmb⟩, ⟨by decide, by omega⟩, ⟨by decide, by omega⟩, ⟨by decide, by omega⟩, ⟨by decide, by omega⟩,
    ns, xs, cM xs, cX xs, cY xs, cE xs, cM xs.reverse, cX xs.reverse, cY xs.reverse, cE xs.reverse, ⟨rfl, made_rows hmade, made_may hmade, h0', by omega, ?_⟩, ?_⟩
  · have ok5 : u64ok (rd xs 0 5) := lo_in (made_rows hmade) 0 5 (by decide) rfl
    have c0 : ([.int .i64 (rd xs 0 4), .int .u64 (rd xs 0 5)] : List IV) = (fx (fr (xs.getD 0 []) 4)).cells := by
      have ex : fr (xs.getD 0 []) 4 = rd xs 0 4 * 18446744073709551616 + rd xs 0 5 := rfl
      have := fx_mk2 ok5 ex
      rw [this]; rfl
    rw [c0]
    rfl
  have half : mayF 1024 := ⟨by decide, by decide⟩
  have mlo : mayF (lowF xs xs.length - 1024) := ⟨by omega, by omega⟩
  have mhi : mayF (highF xs xs.length + 1024) := ⟨by omega, by omega⟩
  refine ⟨⟨_, 1024, rfl, rfl, ⟨by omega, by omega⟩, half⟩, ⟨_, 1024, rfl, rfl, ⟨by omega, by omega⟩, half⟩, by rw [k1]; exact preI_of ⟨by decide, by decide⟩, by rw [l1]; exact preI_of ⟨by decide, by decide⟩, ?_⟩
  rw [k1, l1, eM, eX, eY]
  simp only [join, num_may mlo, num_may mhi, decide_true, Bool.and_true, Bool.and_self]
  refine br_is rfl (br_is rfl (br_is rfl ⟨preFF_fx mX mlo, br_is (decide_eq_true (cmpI_ge.2 (by omega))) ⟨preFF_fx mX mhi, br_is (decide_eq_true (cmpI_le.2 (by omega))) ⟨⟨rfl, rfl⟩, rfl⟩⟩⟩))
theorem lawMW_of {m a b c d : Int} (k0 : inK .u8 m) (k1 : inK .i16 a) (k2 : inK .i16 b) (k3 : inK .i16 c) (k4 : inK .i16 d) : pMW [.int .u8 m, .int .i16 a, .int .i16 b, .int .i16 c, .int .i16 d] [] := by
  have h0 : 0 ≤ m ∧ m ≤ 255 := k0
  have h1 : -32768 ≤ a ∧ a ≤ 32767 := k1
  have h2 : -32768 ≤ b ∧ b ≤ 32767 := k2
  have h3 : -32768 ≤ c ∧ c ≤ 32767 := k3
  have h4 : -32768 ≤ d ∧ d ≤ 32767 := k4
  unfold pMW u8ok i16ok
  exact ⟨m, a, b, c, d, rfl, rfl, by omega, by omega, by omega, by omega, by omega⟩
theorem lawNs_of (ns : List (List Int)) : pU8s [.sl 0] [.ro [.u8] ns] := ⟨ns, rfl, rfl⟩
end Go.Vs.RF
