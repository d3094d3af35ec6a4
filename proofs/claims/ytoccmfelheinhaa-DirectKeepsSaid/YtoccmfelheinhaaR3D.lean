import Derived.Test.YtoccmfelheinhaaR3C
set_option linter.unusedVariables false
/- pair: the reckoner; what one body gets of another one -/
namespace Go.Vs.RF
open Go Go.Proofs Go.Vs
def opN (f : FuncId) (a b : Int) : Int := if f = f_fix_Add then numF (a + b) else if f = f_fix_Mul then numF (mulI a b) else divN a b
noncomputable def opNs (f : FuncId) (a b : Int) : Int := if f = f_pair_Pull_1 then sqN a else opN f a b
def opE (f : FuncId) (a b : Int) : Int := if f = f_fix_Add then errF (a + b) else if f = f_fix_Mul then errF (mulI a b) else if f = f_pair_Pull_1 then sqE a else divE a b
noncomputable def doN (f : FuncId) (e a b : Int) : Int := if e = 0 then opNs f a b else 0
def doE (f : FuncId) (e a b : Int) : Int := if e = 0 then opE f a b else e
def opOk (f : FuncId) : Prop := f = f_fix_Add ∨ f = f_fix_Mul ∨ f = f_fix_Div ∨ f = f_pair_Pull_1
def pDo (args : List IV) (b : List (Option Blk)) : Prop := ∃ f a c e, args = [.ptr 0 0, .fn f [], fx a, fx c] ∧ b = [some (.var t_pair_reckoner [.int .i64 e])] ∧ opOk f ∧ mayF a ∧ mayF c
noncomputable def Gdo : FunS := fun args b K => pDo args b ∧ K (fx (doN (argFn args 1) (argC b 0 0) (v2 args 2) (v2 args 3))) [some (.var t_pair_reckoner [.int .i64 (doE (argFn args 1) (argC b 0 0) (v2 args 2) (v2 args 3))])]
def q1E (e s : Int) : Int := doE f_fix_Mul e s s
noncomputable def q1N (e s : Int) : Int := doN f_fix_Mul e s s
def q2E (n e q s : Int) : Int := doE f_fix_Add (q1E e s) n q
noncomputable def q2N (n e s : Int) : Int := doN f_fix_Add (q1E e s) n (q1N e s)
noncomputable def q2e (n e s : Int) : Int := q2E n e (q1N e s) s
noncomputable def q3E (n e s : Int) : Int := doE f_pair_Pull_1 (q2e n e s) (q2N n e s) (q2N n e s)
noncomputable def q3N (n e s : Int) : Int := doN f_pair_Pull_1 (q2e n e s) (q2N n e s) (q2N n e s)
noncomputable def q4E (n e s a b : Int) : Int := doE f_fix_Mul (q3E n e s) a b
noncomputable def q4N (n e s a b : Int) : Int := doN f_fix_Mul (q3E n e s) a b
noncomputable def q5E (n e s a b g : Int) : Int := doE f_fix_Mul (q4E n e s a b) g (q4N n e s a b)
noncomputable def q5N (n e s a b g : Int) : Int := doN f_fix_Mul (q4E n e s a b) g (q4N n e s a b)
noncomputable def q6E (n e s a b g h : Int) : Int := doE f_fix_Mul (q5E n e s a b g) (q5N n e s a b g) h
noncomputable def q6N (n e s a b g h : Int) : Int := doN f_fix_Mul (q5E n e s a b g) (q5N n e s a b g) h
noncomputable def q7E (n e s a b g h : Int) : Int := doE f_fix_Div (q6E n e s a b g h) (q6N n e s a b g h) (q2N n e s)
noncomputable def q7N (n e s a b g h : Int) : Int := doN f_fix_Div (q6E n e s a b g h) (q6N n e s a b g h) (q2N n e s)
noncomputable def q8E (n e s a b g h : Int) : Int := doE f_fix_Div (q7E n e s a b g h) (q7N n e s a b g h) (q3N n e s)
noncomputable def q8N (n e s a b g h : Int) : Int := doN f_fix_Div (q7E n e s a b g h) (q7N n e s a b g h) (q3N n e s)
noncomputable def kE (g a b x y s h : Int) : Int := q8E (dotN (mulI x x) (mulI y y)) (dotE (mulI x x) (mulI y y)) s a b g h
noncomputable def kN (g a b x y s h : Int) : Int := q8N (dotN (mulI x x) (mulI y y)) (dotE (mulI x x) (mulI y y)) s a b g h
/-- a number that the kernel leaves alone -/
noncomputable def sealI (v : Int) : Int := Classical.choose (⟨v, rfl⟩ : ∃ w, w = v)
theorem seal_eq (v : Int) : sealI v = v := Classical.choose_spec (⟨v, rfl⟩ : ∃ w, w = v)
/-- what one body gets of another one -/
noncomputable def plX (g a b x y s h : Int) : Int := sealI (if kE g a b x y s h = 0 then n2 (mulI x (kN g a b x y s h)) (mulI y (kN g a b x y s h)) (mulI x (kN g a b x y s h)) else 0)
noncomputable def plY (g a b x y s h : Int) : Int := sealI (if kE g a b x y s h = 0 then n2 (mulI x (kN g a b x y s h)) (mulI y (kN g a b x y s h)) (mulI y (kN g a b x y s h)) else 0)
noncomputable def plE (g a b x y s h : Int) : Int := sealI (if kE g a b x y s h = 0 then e2 (mulI x (kN g a b x y s h)) (mulI y (kN g a b x y s h)) else kE g a b x y s h)
def mayPl (l : List IV) (bs : List Blk) : Prop := ∃ g a b x y s h, l = [fx g, fx a, fx b, vx x y, fx s, fx h] ∧ bs = [] ∧ mayF g ∧ mayF a ∧ mayF b ∧ (mayF x ∧ mayF y) ∧ mayF s ∧ mayF h
noncomputable def spPull : Vs.Spec := ⟨mayPl, fun l _ => (.tup [vx (plX (v2 l 0) (v2 l 1) (v2 l 2) (v2 l 3) (vy l 3) (v2 l 4) (v2 l 5)) (plY (v2 l 0) (v2 l 1) (v2 l 2) (v2 l 3) (vy l 3) (v2 l 4) (v2 l 5)), .int .i64 (plE (v2 l 0) (v2 l 1) (v2 l 2) (v2 l 3) (vy l 3) (v2 l 4) (v2 l 5))], [])⟩
noncomputable def spRPull : Vs.Spec := ⟨mayPl, fun l _ => (wayG (plX (v2 l 0) (v2 l 1) (v2 l 2) (v2 l 3) (vy l 3) (v2 l 4) (v2 l 5)) (plY (v2 l 0) (v2 l 1) (v2 l 2) (v2 l 3) (vy l 3) (v2 l 4) (v2 l 5)) (plE (v2 l 0) (v2 l 1) (v2 l 2) (v2 l 3) (vy l 3) (v2 l 4) (v2 l 5)), [])⟩
theorem v_doAdd (a b e : Int) (K : IV → List (Option Blk) → Prop) : (runFn Try.prog Nt3 3 f_pair_reckoner_do [.ptr 0 0, .fn f_fix_Add [], fx a, fx b] [some (.var t_pair_reckoner [.int .i64 e])] fun v b1 => gcV 1 v b1 K) = (∀ (j1 : Int), j1 = a → ∀ (j2 : Int), j2 = b → ∀ (t3 : Int), t3 = numF (j1 + j2) → br (e != (0 : Int)) (K (IV.agg [IV.int IntKind.i64 (0 : Int), IV.int IntKind.u64 (0 : Int)]) [some (Blk.var (152 : Nat) [IV.int IntKind.i64 e])]) (may2 [fx a, fx b] [] ∧ K (fx t3) [some (Blk.var (152 : Nat) [IV.int IntKind.i64 (errF (j1 + j2))])])) := by refine nj ?_; refine nj ?_; refine nm ?_; kernel_rfl
theorem v_doMul (a b e : Int) (K : IV → List (Option Blk) → Prop) : (runFn Try.prog Nt3 3 f_pair_reckoner_do [.ptr 0 0, .fn f_fix_Mul [], fx a, fx b] [some (.var t_pair_reckoner [.int .i64 e])] fun v b1 => gcV 1 v b1 K) = (∀ (j1 : Int), j1 = a → ∀ (j2 : Int), j2 = b → ∀ (t3 : Int), t3 = mulI j1 j2 → ∀ (t4 : Int), t4 = numF t3 → br (e != (0 : Int)) (K (IV.agg [IV.int IntKind.i64 (0 : Int), IV.int IntKind.u64 (0 : Int)]) [some (Blk.var (152 : Nat) [IV.int IntKind.i64 e])]) (may2 [fx a, fx b] [] ∧ K (fx t4) [some (Blk.var (152 : Nat) [IV.int IntKind.i64 (errF t3)])])) := by refine nj ?_; refine nj ?_; refine nm ?_; refine nm ?_; kernel_rfl
theorem v_doDiv (a b e : Int) (K : IV → List (Option Blk) → Prop) : (runFn Try.prog Nt3 3 f_pair_reckoner_do [.ptr 0 0, .fn f_fix_Div [], fx a, fx b] [some (.var t_pair_reckoner [.int .i64 e])] fun v b1 => gcV 1 v b1 K) = (∀ (j1 : Int), j1 = a → ∀ (j2 : Int), j2 = b → ∀ (t3 : Int), t3 = divN j1 j2 → br (e != (0 : Int)) (K (IV.agg [IV.int IntKind.i64 (0 : Int), IV.int IntKind.u64 (0 : Int)]) [some (Blk.var (152 : Nat) [IV.int IntKind.i64 e])]) (may2 [fx a, fx b] [] ∧ K (fx t3) [some (Blk.var (152 : Nat) [IV.int IntKind.i64 (divE j1 j2)])])) := by refine nj ?_; refine nj ?_; refine nm ?_; kernel_rfl
theorem v_doSq (a b e : Int) (K : IV → List (Option Blk) → Prop) : (runFn Try.prog Nt3 3 f_pair_reckoner_do [.ptr 0 0, .fn f_pair_Pull_1 [], fx a, fx b] [some (.var t_pair_reckoner [.int .i64 e])] fun v b1 => gcV 1 v b1 K) = (∀ (j1 : Int), j1 = a → ∀ (t2 : Int), t2 = sqN j1 → br (e != (0 : Int)) (K (IV.agg [IV.int IntKind.i64 (0 : Int), IV.int IntKind.u64 (0 : Int)]) [some (Blk.var (152 : Nat) [IV.int IntKind.i64 e])]) (may1 [fx a] [] ∧ K (fx t2) [some (Blk.var (152 : Nat) [IV.int IntKind.i64 (sqE j1)])])) := by refine nj ?_; refine nm ?_; kernel_rfl
noncomputable def Ndo : Know := ⟨Γt3, fun _ _ => none, fun g => if g = f_pair_reckoner_do then some Gdo else none⟩
theorem v_Pull (g a b x y s h : Int) (K : IV → List Blk → Prop) : (comes Try.prog Ndo 3 f_pair_Pull [fx g, fx a, fx b, vx x y, fx s, fx h] [] K) = (∀ (j1 : Int), j1 = x → ∀ (j2 : Int), j2 = y → ∀ (j3 : Int), j3 = s → ∀ (j4 : Int), j4 = a → ∀ (j5 : Int), j5 = b → ∀ (j6 : Int), j6 = g → ∀ (j7 : Int), j7 = h → ∀ (t8 : Int), t8 = dotN (mulI j1 j1) (mulI j2 j2) → ∀ (j9 : Int), j9 = t8 → ∀ (t10 : Int), t10 = doN (84 : Nat) (dotE (mulI j1 j1) (mulI j2 j2)) j3 j3 → ∀ (j11 : Int), j11 = t10 → ∀ (t12 : Int), t12 = doN (99 : Nat) (doE (84 : Nat) (dotE (mulI j1 j1) (mulI j2 j2)) j3 j3) j9 j11 → ∀ (j13 : Int), j13 = t12 → ∀ (t14 : Int), t14 = doN (100 : Nat) (doE (99 : Nat) (doE (84 : Nat) (dotE (mulI j1 j1) (mulI j2 j2)) j3 j3) j9 j11) j13 j13 → ∀ (j15 : Int), j15 = t14 → ∀ (t16 : Int), t16 = doN (84 : Nat) (doE (100 : Nat) (doE (99 : Nat) (doE (84 : Nat) (dotE (mulI j1 j1) (mulI j2 j2)) j3 j3) j9 j11) j13 j13) j4 j5 → ∀ (j17 : Int), j17 = t16 → ∀ (t18 : Int), t18 = doN (84 : Nat) (doE (84 : Nat) (doE (100 : Nat) (doE (99 : Nat) (doE (84 : Nat) (dotE (mulI j1 j1) (mulI j2 j2)) j3 j3) j9 j11) j13 j13) j4 j5) j6 j17 → ∀ (j19 : Int), j19 = t18 → ∀ (t20 : Int), t20 = doN (84 : Nat) (doE (84 : Nat) (doE (84 : Nat) (doE (100 : Nat) (doE (99 : Nat) (doE (84 : Nat) (dotE (mulI j1 j1) (mulI j2 j2)) j3 j3) j9 j11) j13 j13) j4 j5) j6 j17) j19 j7 → ∀ (j21 : Int), j21 = t20 → ∀ (t22 : Int), t22 = doN (85 : Nat) (doE (84 : Nat) (doE (84 : Nat) (doE (84 : Nat) (doE (100 : Nat) (doE (99 : Nat) (doE (84 : Nat) (dotE (mulI j1 j1) (mulI j2 j2)) j3 j3) j9 j11) j13 j13) j4 j5) j6 j17) j19 j7) j21 j13 → ∀ (j23 : Int), j23 = t22 → ∀ (t24 : Int), t24 = doN (85 : Nat) (doE (85 : Nat) (doE (84 : Nat) (doE (84 : Nat) (doE (84 : Nat) (doE (100 : Nat) (doE (99 : Nat) (doE (84 : Nat) (dotE (mulI j1 j1) (mulI j2 j2)) j3 j3) j9 j11) j13 j13) j4 j5) j6 j17) j19 j7) j21 j13) j23 j15 → ∀ (j25 : Int), j25 = t24 → ∀ (t26 : Int), t26 = mulI j1 j25 → ∀ (t27 : Int), t27 = mulI j2 j25 → ∀ (t28 : Int), t28 = dotE (mulI j1 j1) (mulI j2 j2) → ∀ (t29 : Int), t29 = n2 t26 t27 t26 → ∀ (t30 : Int), t30 = n2 t26 t27 t27 → ∀ (t31 : Int), t31 = doE (84 : Nat) t28 j3 j3 → ∀ (t32 : Int), t32 = doE (99 : Nat) t31 j9 j11 → ∀ (t33 : Int), t33 = doE (100 : Nat) t32 j13 j13 → ∀ (t34 : Int), t34 = doE (84 : Nat) t33 j4 j5 → ∀ (t35 : Int), t35 = doE (84 : Nat) t34 j6 j17 → ∀ (t36 : Int), t36 = doE (84 : Nat) t35 j19 j7 → ∀ (t37 : Int), t37 = doE (85 : Nat) t36 j21 j13 → ∀ (t38 : Int), t38 = doE (85 : Nat) t37 j23 j15 → ∀ (t39 : Prop), t39 = pDo [IV.ptr (0 : Nat) (0 : Nat), IV.fn (84 : Nat) [], fx s, fx s] [some (Blk.var (152 : Nat) [IV.int IntKind.i64 t28])] → ∀ (t40 : Prop), t40 = pDo [IV.ptr (0 : Nat) (0 : Nat), IV.fn (99 : Nat) [], fx t8, fx t10] [some (Blk.var (152 : Nat) [IV.int IntKind.i64 t31])] → ∀ (t41 : Prop), t41 = pDo [IV.ptr (0 : Nat) (0 : Nat), IV.fn (84 : Nat) [], fx a, fx b] [some (Blk.var (152 : Nat) [IV.int IntKind.i64 t33])] → ∀ (t42 : Prop), t42 = pDo [IV.ptr (0 : Nat) (0 : Nat), IV.fn (84 : Nat) [], fx g, fx t16] [some (Blk.var (152 : Nat) [IV.int IntKind.i64 t34])] → ∀ (t43 : Prop), t43 = pDo [IV.ptr (0 : Nat) (0 : Nat), IV.fn (84 : Nat) [], fx t18, fx h] [some (Blk.var (152 : Nat) [IV.int IntKind.i64 t35])] → ∀ (t44 : Prop), t44 = pDo [IV.ptr (0 : Nat) (0 : Nat), IV.fn (85 : Nat) [], fx t20, fx t12] [some (Blk.var (152 : Nat) [IV.int IntKind.i64 t36])] → ∀ (t45 : Prop), t45 = pDo [IV.ptr (0 : Nat) (0 : Nat), IV.fn (85 : Nat) [], fx t22, fx t14] [some (Blk.var (152 : Nat) [IV.int IntKind.i64 t37])] → ∀ (t46 : St), t46 = St.mk (T (72 : Nat) [((0 : Nat), fx g), ((1 : Nat), fx a), ((2 : Nat), fx b), ((3 : Nat), vx x y), ((4 : Nat), fx s), ((5 : Nat), fx h), ((6 : Nat), IV.ptr (0 : Nat) (0 : Nat)), ((7 : Nat), IV.ptr (1 : Nat) (0 : Nat)), ((8 : Nat), IV.ptr (2 : Nat) (0 : Nat)), ((9 : Nat), IV.ptr (3 : Nat) (0 : Nat)), ((10 : Nat), IV.ptr (4 : Nat) (0 : Nat)), ((11 : Nat), IV.ptr (5 : Nat) (0 : Nat)), ((12 : Nat), IV.ptr (6 : Nat) (0 : Nat)), ((13 : Nat), IV.int IntKind.i64 (0 : Int)), ((14 : Nat), IV.ptr (7 : Nat) (0 : Nat)), ((15 : Nat), IV.int IntKind.i64 t28), ((16 : Nat), IV.ptr (8 : Nat) (0 : Nat)), ((17 : Nat), IV.ptr (9 : Nat) (0 : Nat)), ((21 : Nat), IV.tup [fx t8, IV.int IntKind.i64 t28]), ((22 : Nat), vx x y), ((23 : Nat), IV.tup [fx t8, IV.int IntKind.i64 t28]), ((24 : Nat), fx t8), ((25 : Nat), IV.int IntKind.i64 t28), ((26 : Nat), IV.int IntKind.i64 t28), ((27 : Nat), IV.agg [IV.int IntKind.i64 t28]), ((28 : Nat), IV.ptr (8 : Nat) (0 : Nat)), ((29 : Nat), IV.ptr (8 : Nat) (0 : Nat)), ((30 : Nat), fx t8), ((31 : Nat), IV.ptr (8 : Nat) (0 : Nat)), ((32 : Nat), fx s), ((33 : Nat), fx s), ((34 : Nat), fx t10), ((35 : Nat), fx t12)]) [some (Blk.var (28 : Nat) [IV.int IntKind.i64 (g / (18446744073709551616 : Int)), IV.int IntKind.u64 (g % (18446744073709551616 : Int))]), some (Blk.var (28 : Nat) [IV.int IntKind.i64 (a / (18446744073709551616 : Int)), IV.int IntKind.u64 (a % (18446744073709551616 : Int))]), some (Blk.var (28 : Nat) [IV.int IntKind.i64 (b / (18446744073709551616 : Int)), IV.int IntKind.u64 (b % (18446744073709551616 : Int))]), some (Blk.var (30 : Nat) [IV.int IntKind.i64 (x / (18446744073709551616 : Int)), IV.int IntKind.u64 (x % (18446744073709551616 : Int)), IV.int IntKind.i64 (y / (18446744073709551616 : Int)), IV.int IntKind.u64 (y % (18446744073709551616 : Int))]), some (Blk.var (28 : Nat) [IV.int IntKind.i64 (s / (18446744073709551616 : Int)), IV.int IntKind.u64 (s % (18446744073709551616 : Int))]), some (Blk.var (28 : Nat) [IV.int IntKind.i64 (h / (18446744073709551616 : Int)), IV.int IntKind.u64 (h % (18446744073709551616 : Int))]), some (Blk.var (30 : Nat) [IV.int IntKind.i64 (0 : Int), IV.int IntKind.u64 (0 : Int), IV.int IntKind.i64 (0 : Int), IV.int IntKind.u64 (0 : Int)]), some (Blk.var (28 : Nat) [IV.int IntKind.i64 (t8 / (18446744073709551616 : Int)), IV.int IntKind.u64 (t8 % (18446744073709551616 : Int))]), some (Blk.var (152 : Nat) [IV.int IntKind.i64 t32]), some (Blk.var (28 : Nat) [IV.int IntKind.i64 (t12 / (18446744073709551616 : Int)), IV.int IntKind.u64 (t12 % (18446744073709551616 : Int))])] → ∀ (t47 : St), t47 = St.mk (T (72 : Nat) [((0 : Nat), fx g), ((1 : Nat), fx a), ((2 : Nat), fx b), ((3 : Nat), vx x y), ((4 : Nat), fx s), ((5 : Nat), fx h), ((6 : Nat), IV.ptr (0 : Nat) (0 : Nat)), ((7 : Nat), IV.ptr (1 : Nat) (0 : Nat)), ((8 : Nat), IV.ptr (2 : Nat) (0 : Nat)), ((9 : Nat), IV.ptr (3 : Nat) (0 : Nat)), ((10 : Nat), IV.ptr (4 : Nat) (0 : Nat)), ((11 : Nat), IV.ptr (5 : Nat) (0 : Nat)), ((12 : Nat), IV.ptr (6 : Nat) (0 : Nat)), ((13 : Nat), IV.int IntKind.i64 (0 : Int)), ((14 : Nat), IV.ptr (7 : Nat) (0 : Nat)), ((15 : Nat), IV.int IntKind.i64 t28), ((16 : Nat), IV.ptr (8 : Nat) (0 : Nat)), ((17 : Nat), IV.ptr (9 : Nat) (0 : Nat)), ((18 : Nat), IV.ptr (10 : Nat) (0 : Nat)), ((19 : Nat), IV.ptr (11 : Nat) (0 : Nat)), ((21 : Nat), IV.tup [fx t8, IV.int IntKind.i64 t28]), ((22 : Nat), vx x y), ((23 : Nat), IV.tup [fx t8, IV.int IntKind.i64 t28]), ((24 : Nat), fx t8), ((25 : Nat), IV.int IntKind.i64 t28), ((26 : Nat), IV.int IntKind.i64 t28), ((27 : Nat), IV.agg [IV.int IntKind.i64 t28]), ((28 : Nat), IV.ptr (8 : Nat) (0 : Nat)), ((29 : Nat), IV.ptr (8 : Nat) (0 : Nat)), ((30 : Nat), fx t8), ((31 : Nat), IV.ptr (8 : Nat) (0 : Nat)), ((32 : Nat), fx s), ((33 : Nat), fx s), ((34 : Nat), fx t10), ((35 : Nat), fx t12), ((36 : Nat), IV.ptr (8 : Nat) (0 : Nat)), ((37 : Nat), fx t12), ((38 : Nat), fx t12), ((39 : Nat), fx t14), ((40 : Nat), IV.ptr (8 : Nat) (0 : Nat)), ((41 : Nat), IV.ptr (8 : Nat) (0 : Nat)), ((42 : Nat), fx g), ((43 : Nat), IV.ptr (8 : Nat) (0 : Nat)), ((44 : Nat), fx a), ((45 : Nat), fx b), ((46 : Nat), fx t16), ((47 : Nat), fx t18), ((48 : Nat), fx h), ((49 : Nat), fx t20)]) [some (Blk.var (28 : Nat) [IV.int IntKind.i64 (g / (18446744073709551616 : Int)), IV.int IntKind.u64 (g % (18446744073709551616 : Int))]), some (Blk.var (28 : Nat) [IV.int IntKind.i64 (a / (18446744073709551616 : Int)), IV.int IntKind.u64 (a % (18446744073709551616 : Int))]), some (Blk.var (28 : Nat) [IV.int IntKind.i64 (b / (18446744073709551616 : Int)), IV.int IntKind.u64 (b % (18446744073709551616 : Int))]), some (Blk.var (30 : Nat) [IV.int IntKind.i64 (x / (18446744073709551616 : Int)), IV.int IntKind.u64 (x % (18446744073709551616 : Int)), IV.int IntKind.i64 (y / (18446744073709551616 : Int)), IV.int IntKind.u64 (y % (18446744073709551616 : Int))]), some (Blk.var (28 : Nat) [IV.int IntKind.i64 (s / (18446744073709551616 : Int)), IV.int IntKind.u64 (s % (18446744073709551616 : Int))]), some (Blk.var (28 : Nat) [IV.int IntKind.i64 (h / (18446744073709551616 : Int)), IV.int IntKind.u64 (h % (18446744073709551616 : Int))]), some (Blk.var (30 : Nat) [IV.int IntKind.i64 (0 : Int), IV.int IntKind.u64 (0 : Int), IV.int IntKind.i64 (0 : Int), IV.int IntKind.u64 (0 : Int)]), some (Blk.var (28 : Nat) [IV.int IntKind.i64 (t8 / (18446744073709551616 : Int)), IV.int IntKind.u64 (t8 % (18446744073709551616 : Int))]), some (Blk.var (152 : Nat) [IV.int IntKind.i64 t36]), some (Blk.var (28 : Nat) [IV.int IntKind.i64 (t12 / (18446744073709551616 : Int)), IV.int IntKind.u64 (t12 % (18446744073709551616 : Int))]), some (Blk.var (28 : Nat) [IV.int IntKind.i64 (t14 / (18446744073709551616 : Int)), IV.int IntKind.u64 (t14 % (18446744073709551616 : Int))]), some (Blk.var (28 : Nat) [IV.int IntKind.i64 (t20 / (18446744073709551616 : Int)), IV.int IntKind.u64 (t20 % (18446744073709551616 : Int))])] → ∀ (t48 : St), t48 = St.mk (T (72 : Nat) [((0 : Nat), fx g), ((1 : Nat), fx a), ((2 : Nat), fx b), ((3 : Nat), vx x y), ((4 : Nat), fx s), ((5 : Nat), fx h), ((6 : Nat), IV.ptr (0 : Nat) (0 : Nat)), ((7 : Nat), IV.ptr (1 : Nat) (0 : Nat)), ((8 : Nat), IV.ptr (2 : Nat) (0 : Nat)), ((9 : Nat), IV.ptr (3 : Nat) (0 : Nat)), ((10 : Nat), IV.ptr (4 : Nat) (0 : Nat)), ((11 : Nat), IV.ptr (5 : Nat) (0 : Nat)), ((12 : Nat), IV.ptr (6 : Nat) (0 : Nat)), ((13 : Nat), IV.int IntKind.i64 (0 : Int)), ((14 : Nat), IV.ptr (7 : Nat) (0 : Nat)), ((15 : Nat), IV.int IntKind.i64 t28), ((16 : Nat), IV.ptr (8 : Nat) (0 : Nat)), ((17 : Nat), IV.ptr (9 : Nat) (0 : Nat)), ((18 : Nat), IV.ptr (10 : Nat) (0 : Nat)), ((19 : Nat), IV.ptr (11 : Nat) (0 : Nat)), ((20 : Nat), IV.ptr (12 : Nat) (0 : Nat)), ((21 : Nat), IV.tup [fx t8, IV.int IntKind.i64 t28]), ((22 : Nat), vx x y), ((23 : Nat), IV.tup [fx t8, IV.int IntKind.i64 t28]), ((24 : Nat), fx t8), ((25 : Nat), IV.int IntKind.i64 t28), ((26 : Nat), IV.int IntKind.i64 t28), ((27 : Nat), IV.agg [IV.int IntKind.i64 t28]), ((28 : Nat), IV.ptr (8 : Nat) (0 : Nat)), ((29 : Nat), IV.ptr (8 : Nat) (0 : Nat)), ((30 : Nat), fx t8), ((31 : Nat), IV.ptr (8 : Nat) (0 : Nat)), ((32 : Nat), fx s), ((33 : Nat), fx s), ((34 : Nat), fx t10), ((35 : Nat), fx t12), ((36 : Nat), IV.ptr (8 : Nat) (0 : Nat)), ((37 : Nat), fx t12), ((38 : Nat), fx t12), ((39 : Nat), fx t14), ((40 : Nat), IV.ptr (8 : Nat) (0 : Nat)), ((41 : Nat), IV.ptr (8 : Nat) (0 : Nat)), ((42 : Nat), fx g), ((43 : Nat), IV.ptr (8 : Nat) (0 : Nat)), ((44 : Nat), fx a), ((45 : Nat), fx b), ((46 : Nat), fx t16), ((47 : Nat), fx t18), ((48 : Nat), fx h), ((49 : Nat), fx t20), ((50 : Nat), IV.ptr (8 : Nat) (0 : Nat)), ((51 : Nat), IV.ptr (8 : Nat) (0 : Nat)), ((52 : Nat), fx t20), ((53 : Nat), fx t12), ((54 : Nat), fx t22), ((55 : Nat), fx t14), ((56 : Nat), fx t24)]) [some (Blk.var (28 : Nat) [IV.int IntKind.i64 (g / (18446744073709551616 : Int)), IV.int IntKind.u64 (g % (18446744073709551616 : Int))]), some (Blk.var (28 : Nat) [IV.int IntKind.i64 (a / (18446744073709551616 : Int)), IV.int IntKind.u64 (a % (18446744073709551616 : Int))]), some (Blk.var (28 : Nat) [IV.int IntKind.i64 (b / (18446744073709551616 : Int)), IV.int IntKind.u64 (b % (18446744073709551616 : Int))]), some (Blk.var (30 : Nat) [IV.int IntKind.i64 (x / (18446744073709551616 : Int)), IV.int IntKind.u64 (x % (18446744073709551616 : Int)), IV.int IntKind.i64 (y / (18446744073709551616 : Int)), IV.int IntKind.u64 (y % (18446744073709551616 : Int))]), some (Blk.var (28 : Nat) [IV.int IntKind.i64 (s / (18446744073709551616 : Int)), IV.int IntKind.u64 (s % (18446744073709551616 : Int))]), some (Blk.var (28 : Nat) [IV.int IntKind.i64 (h / (18446744073709551616 : Int)), IV.int IntKind.u64 (h % (18446744073709551616 : Int))]), some (Blk.var (30 : Nat) [IV.int IntKind.i64 (0 : Int), IV.int IntKind.u64 (0 : Int), IV.int IntKind.i64 (0 : Int), IV.int IntKind.u64 (0 : Int)]), some (Blk.var (28 : Nat) [IV.int IntKind.i64 (t8 / (18446744073709551616 : Int)), IV.int IntKind.u64 (t8 % (18446744073709551616 : Int))]), some (Blk.var (152 : Nat) [IV.int IntKind.i64 t38]), some (Blk.var (28 : Nat) [IV.int IntKind.i64 (t12 / (18446744073709551616 : Int)), IV.int IntKind.u64 (t12 % (18446744073709551616 : Int))]), some (Blk.var (28 : Nat) [IV.int IntKind.i64 (t14 / (18446744073709551616 : Int)), IV.int IntKind.u64 (t14 % (18446744073709551616 : Int))]), some (Blk.var (28 : Nat) [IV.int IntKind.i64 (t20 / (18446744073709551616 : Int)), IV.int IntKind.u64 (t20 % (18446744073709551616 : Int))]), some (Blk.var (28 : Nat) [IV.int IntKind.i64 (t24 / (18446744073709551616 : Int)), IV.int IntKind.u64 (t24 % (18446744073709551616 : Int))])] → vmay1 [vx x y] [] ∧ t39 ∧ t40 ∧ ((t39 ∧ (t40 ∧ t46 = t46) ∧ t40 ∧ t46 = t46) ∧ t39 ∧ t40 ∧ t46 = t46) ∧ pDo [IV.ptr (0 : Nat) (0 : Nat), IV.fn (100 : Nat) [], fx t12, fx t12] [some (Blk.var (152 : Nat) [IV.int IntKind.i64 t32])] ∧ t41 ∧ t42 ∧ t43 ∧ ((t41 ∧ (t42 ∧ (t43 ∧ t47 = t47) ∧ t43 ∧ t47 = t47) ∧ t42 ∧ t43 ∧ t47 = t47) ∧ t41 ∧ t42 ∧ t43 ∧ t47 = t47) ∧ t44 ∧ t45 ∧ ((t44 ∧ (t45 ∧ t48 = t48) ∧ t45 ∧ t48 = t48) ∧ t44 ∧ t45 ∧ t48 = t48) ∧ br (t38 != (0 : Int)) (((((K (IV.tup [IV.agg [IV.int IntKind.i64 (0 : Int), IV.int IntKind.u64 (0 : Int), IV.int IntKind.i64 (0 : Int), IV.int IntKind.u64 (0 : Int)], IV.int IntKind.i64 t38]) [] ∧ K (IV.tup [IV.agg [IV.int IntKind.i64 (0 : Int), IV.int IntKind.u64 (0 : Int), IV.int IntKind.i64 (0 : Int), IV.int IntKind.u64 (0 : Int)], IV.int IntKind.i64 t38]) []) ∧ K (IV.tup [IV.agg [IV.int IntKind.i64 (0 : Int), IV.int IntKind.u64 (0 : Int), IV.int IntKind.i64 (0 : Int), IV.int IntKind.u64 (0 : Int)], IV.int IntKind.i64 t38]) []) ∧ K (IV.tup [IV.agg [IV.int IntKind.i64 (0 : Int), IV.int IntKind.u64 (0 : Int), IV.int IntKind.i64 (0 : Int), IV.int IntKind.u64 (0 : Int)], IV.int IntKind.i64 t38]) []) ∧ K (IV.tup [IV.agg [IV.int IntKind.i64 (0 : Int), IV.int IntKind.u64 (0 : Int), IV.int IntKind.i64 (0 : Int), IV.int IntKind.u64 (0 : Int)], IV.int IntKind.i64 t38]) []) ∧ (((K (IV.tup [IV.agg [IV.int IntKind.i64 (0 : Int), IV.int IntKind.u64 (0 : Int), IV.int IntKind.i64 (0 : Int), IV.int IntKind.u64 (0 : Int)], IV.int IntKind.i64 t38]) [] ∧ K (IV.tup [IV.agg [IV.int IntKind.i64 (0 : Int), IV.int IntKind.u64 (0 : Int), IV.int IntKind.i64 (0 : Int), IV.int IntKind.u64 (0 : Int)], IV.int IntKind.i64 t38]) []) ∧ K (IV.tup [IV.agg [IV.int IntKind.i64 (0 : Int), IV.int IntKind.u64 (0 : Int), IV.int IntKind.i64 (0 : Int), IV.int IntKind.u64 (0 : Int)], IV.int IntKind.i64 t38]) []) ∧ K (IV.tup [IV.agg [IV.int IntKind.i64 (0 : Int), IV.int IntKind.u64 (0 : Int), IV.int IntKind.i64 (0 : Int), IV.int IntKind.u64 (0 : Int)], IV.int IntKind.i64 t38]) []) ∧ ((K (IV.tup [IV.agg [IV.int IntKind.i64 (0 : Int), IV.int IntKind.u64 (0 : Int), IV.int IntKind.i64 (0 : Int), IV.int IntKind.u64 (0 : Int)], IV.int IntKind.i64 t38]) [] ∧ K (IV.tup [IV.agg [IV.int IntKind.i64 (0 : Int), IV.int IntKind.u64 (0 : Int), IV.int IntKind.i64 (0 : Int), IV.int IntKind.u64 (0 : Int)], IV.int IntKind.i64 t38]) []) ∧ K (IV.tup [IV.agg [IV.int IntKind.i64 (0 : Int), IV.int IntKind.u64 (0 : Int), IV.int IntKind.i64 (0 : Int), IV.int IntKind.u64 (0 : Int)], IV.int IntKind.i64 t38]) []) ∧ (K (IV.tup [IV.agg [IV.int IntKind.i64 (0 : Int), IV.int IntKind.u64 (0 : Int), IV.int IntKind.i64 (0 : Int), IV.int IntKind.u64 (0 : Int)], IV.int IntKind.i64 t38]) [] ∧ K (IV.tup [IV.agg [IV.int IntKind.i64 (0 : Int), IV.int IntKind.u64 (0 : Int), IV.int IntKind.i64 (0 : Int), IV.int IntKind.u64 (0 : Int)], IV.int IntKind.i64 t38]) []) ∧ K (IV.tup [IV.agg [IV.int IntKind.i64 (0 : Int), IV.int IntKind.u64 (0 : Int), IV.int IntKind.i64 (0 : Int), IV.int IntKind.u64 (0 : Int)], IV.int IntKind.i64 t38]) []) (vmayk [vx x y, fx t24] [] ∧ K (IV.tup [vx t29 t30, IV.int IntKind.i64 (e2 t26 t27)]) [])) := by refine nj ?_; refine nj ?_; refine nj ?_; refine nj ?_; refine nj ?_; refine nj ?_; refine nj ?_; refine nm ?_; refine nj ?_; refine nm ?_; refine nj ?_; refine nm ?_; refine nj ?_; refine nm ?_; refine nj ?_; refine nm ?_; refine nj ?_; refine nm ?_; refine nj ?_; refine nm ?_; refine nj ?_; refine nm ?_; refine nj ?_; refine nm ?_; refine nj ?_; refine nm ?_; refine nm ?_; refine nm ?_; refine nm ?_; refine nm ?_; refine nm ?_; refine nm ?_; refine nm ?_; refine nm ?_; refine nm ?_; refine nm ?_; refine nm ?_; refine nm ?_; refine nm ?_; refine nm ?_; refine nm ?_; refine nm ?_; refine nm ?_; refine nm ?_; refine nm ?_; refine nm ?_; refine nm ?_; refine nm ?_; kernel_rfl
theorem v_r10_Pull (g a b x y s h : Int) (K : IV → List Blk → Prop) : (comes Try.prog Nt3 3 f_perigeeref10_Pull [fx g, fx a, fx b, vx x y, fx s, fx h] [] K) = (∀ (j1 : Int), j1 = x → ∀ (j2 : Int), j2 = y → ∀ (j3 : Int), j3 = s → ∀ (j4 : Int), j4 = a → ∀ (j5 : Int), j5 = b → ∀ (j6 : Int), j6 = g → ∀ (j7 : Int), j7 = h → ∀ (t8 : Int), t8 = numF (mulI j3 j3) → ∀ (j9 : Int), j9 = t8 → ∀ (t10 : Int), t10 = numF (mulI j4 j5) → ∀ (j11 : Int), j11 = t10 → ∀ (t12 : Int), t12 = numF (mulI j6 j11) → ∀ (j13 : Int), j13 = t12 → ∀ (t14 : Int), t14 = numF (mulI j13 j7) → ∀ (j15 : Int), j15 = t14 → ∀ (t16 : Int), t16 = dotN (mulI j1 j1) (mulI j2 j2) → ∀ (j17 : Int), j17 = t16 → ∀ (t18 : Int), t18 = numF (j17 + j9) → ∀ (j19 : Int), j19 = t18 → ∀ (t20 : Int), t20 = sqN j19 → ∀ (j21 : Int), j21 = t20 → ∀ (t22 : Int), t22 = divN j15 j19 → ∀ (j23 : Int), j23 = t22 → ∀ (t24 : Int), t24 = divN j23 j21 → ∀ (j25 : Int), j25 = t24 → ∀ (t26 : Int), t26 = sqE j19 → ∀ (t27 : Int), t27 = divE j15 j19 → ∀ (t28 : Int), t28 = divE j23 j21 → ∀ (t29 : Int), t29 = mulI j1 j25 → ∀ (t30 : Int), t30 = mulI j2 j25 → ∀ (t31 : Int), t31 = errF (mulI j3 j3) → ∀ (t32 : Int), t32 = errF (mulI j4 j5) → ∀ (t33 : Int), t33 = errF (mulI j6 j11) → ∀ (t34 : Int), t34 = errF (mulI j13 j7) → ∀ (t35 : Int), t35 = dotE (mulI j1 j1) (mulI j2 j2) → ∀ (t36 : Int), t36 = errF (j17 + j9) → ∀ (t37 : Int), t37 = n2 t29 t30 t29 → ∀ (t38 : Int), t38 = n2 t29 t30 t30 → vmay1 [vx x y] [] ∧ br (t35 != (0 : Int)) (K (IV.agg [IV.int IntKind.i64 (0 : Int), IV.int IntKind.u64 (0 : Int), IV.int IntKind.i64 (0 : Int), IV.int IntKind.u64 (0 : Int), IV.int IntKind.i64 t35]) []) (may2 [fx s, fx s] [] ∧ br (t31 != (0 : Int)) (K (IV.agg [IV.int IntKind.i64 (0 : Int), IV.int IntKind.u64 (0 : Int), IV.int IntKind.i64 (0 : Int), IV.int IntKind.u64 (0 : Int), IV.int IntKind.i64 t31]) []) (may2 [fx t16, fx t8] [] ∧ br (t36 != (0 : Int)) (K (IV.agg [IV.int IntKind.i64 (0 : Int), IV.int IntKind.u64 (0 : Int), IV.int IntKind.i64 (0 : Int), IV.int IntKind.u64 (0 : Int), IV.int IntKind.i64 t36]) []) (may1 [fx t18] [] ∧ br (t26 != (0 : Int)) (K (IV.agg [IV.int IntKind.i64 (0 : Int), IV.int IntKind.u64 (0 : Int), IV.int IntKind.i64 (0 : Int), IV.int IntKind.u64 (0 : Int), IV.int IntKind.i64 t26]) []) (may2 [fx a, fx b] [] ∧ br (t32 != (0 : Int)) (K (IV.agg [IV.int IntKind.i64 (0 : Int), IV.int IntKind.u64 (0 : Int), IV.int IntKind.i64 (0 : Int), IV.int IntKind.u64 (0 : Int), IV.int IntKind.i64 t32]) []) (may2 [fx g, fx t10] [] ∧ br (t33 != (0 : Int)) (K (IV.agg [IV.int IntKind.i64 (0 : Int), IV.int IntKind.u64 (0 : Int), IV.int IntKind.i64 (0 : Int), IV.int IntKind.u64 (0 : Int), IV.int IntKind.i64 t33]) []) (may2 [fx t12, fx h] [] ∧ br (t34 != (0 : Int)) (K (IV.agg [IV.int IntKind.i64 (0 : Int), IV.int IntKind.u64 (0 : Int), IV.int IntKind.i64 (0 : Int), IV.int IntKind.u64 (0 : Int), IV.int IntKind.i64 t34]) []) (may2 [fx t14, fx t18] [] ∧ br (t27 != (0 : Int)) (K (IV.agg [IV.int IntKind.i64 (0 : Int), IV.int IntKind.u64 (0 : Int), IV.int IntKind.i64 (0 : Int), IV.int IntKind.u64 (0 : Int), IV.int IntKind.i64 t27]) []) (may2 [fx t22, fx t20] [] ∧ br (t28 != (0 : Int)) (K (IV.agg [IV.int IntKind.i64 (0 : Int), IV.int IntKind.u64 (0 : Int), IV.int IntKind.i64 (0 : Int), IV.int IntKind.u64 (0 : Int), IV.int IntKind.i64 t28]) []) (vmayk [vx x y, fx t24] [] ∧ K (IV.agg [IV.int IntKind.i64 (t37 / (18446744073709551616 : Int)), IV.int IntKind.u64 (t37 % (18446744073709551616 : Int)), IV.int IntKind.i64 (t38 / (18446744073709551616 : Int)), IV.int IntKind.u64 (t38 % (18446744073709551616 : Int)), IV.int IntKind.i64 (e2 t29 t30)]) [])))))))))) := by refine nj ?_; refine nj ?_; refine nj ?_; refine nj ?_; refine nj ?_; refine nj ?_; refine nj ?_; refine nm ?_; refine nj ?_; refine nm ?_; refine nj ?_; refine nm ?_; refine nj ?_; refine nm ?_; refine nj ?_; refine nm ?_; refine nj ?_; refine nm ?_; refine nj ?_; refine nm ?_; refine nj ?_; refine nm ?_; refine nj ?_; refine nm ?_; refine nj ?_; refine nm ?_; refine nm ?_; refine nm ?_; refine nm ?_; refine nm ?_; refine nm ?_; refine nm ?_; refine nm ?_; refine nm ?_; refine nm ?_; refine nm ?_; refine nm ?_; refine nm ?_; kernel_rfl
end Go.Vs.RF


set_option linter.unusedVariables false
set_option linter.unusedSimpArgs false
set_option maxRecDepth 100000
/- pair: what is proved of it -/
namespace Go.Vs.RF
open Go Go.Proofs Go.Vs Go.IntWalk

theorem div_is (x y : Int) : mayF (divN x y) := by
  unfold divN; split
  · unfold mayF; omega
  · exact num_is _
theorem sq_is {x : Int} (h : mayF x) : mayF (sqN x) := (sqN_may h).1
theorem know3 : KnowOk Try.prog Nt3 3 := knowOf (fun g sp h => ctrst3 h) (fun _ _ => rfl) (fun _ => rfl) 3
theorem funDo : FunOk Try.prog f_pair_reckoner_do Gdo := by
  refine funOk_gc (N := Nt3) 3 know3 ?_
  rintro args b K ⟨⟨f, a, c, e, rfl, rfl, ho, ha, hc⟩, hK⟩
  rw [v2_fx _ a 2 rfl, v2_fx _ c 3 rfl, show argFn _ 1 = f from rfl, show argC _ 0 0 = e from rfl] at hK
  rcases ho with rfl | rfl | rfl | rfl
  · show runFn Try.prog Nt3 3 f_pair_reckoner_do _ _ (fun v b1 => gcV 1 v b1 K)
    rw [v_doAdd]
    rintro x rfl y rfl t3 rfl
    rw [br_bne]
    refine ⟨fun h => ?_, fun h => ⟨may2_of ha hc, ?_⟩⟩
    · unfold doN doE at hK; rw [if_neg h, if_neg h] at hK; exact hK
    · subst h; exact hK
  · show runFn Try.prog Nt3 3 f_pair_reckoner_do _ _ (fun v b1 => gcV 1 v b1 K)
    rw [v_doMul]
    rintro x rfl y rfl t3 rfl t4 rfl
    rw [br_bne]
    refine ⟨fun h => ?_, fun h => ⟨may2_of ha hc, ?_⟩⟩
    · unfold doN doE at hK; rw [if_neg h, if_neg h] at hK; exact hK
    · subst h; exact hK
  · show runFn Try.prog Nt3 3 f_pair_reckoner_do _ _ (fun v b1 => gcV 1 v b1 K)
    rw [v_doDiv]
    rintro x rfl y rfl t3 rfl
    rw [br_bne]
    refine ⟨fun h => ?_, fun h => ⟨may2_of ha hc, ?_⟩⟩
    · unfold doN doE at hK; rw [if_neg h, if_neg h] at hK; exact hK
    · subst h; exact hK
  · show runFn Try.prog Nt3 3 f_pair_reckoner_do _ _ (fun v b1 => gcV 1 v b1 K)
    rw [v_doSq]
    rintro x rfl t3 rfl
    rw [br_bne]
    refine ⟨fun h => ?_, fun h => ⟨may1_of ha, ?_⟩⟩
    · unfold doN doE at hK; rw [if_neg h, if_neg h] at hK; exact hK
    · subst h; exact hK
theorem knowDo : KnowOk Try.prog Ndo 3 := by
  refine ⟨mixedOrders, fun g sp h => ctrst3 h, loops_none (fun _ _ => rfl) 3, fun g G h => ?_⟩
  simp only [Ndo] at h
  split at h
  · rename_i hg; subst hg; cases h; exact funDo
  · cases h
theorem doN_is {f : FuncId} {e a b : Int} (hf : opOk f) (ha : mayF a) : mayF (doN f e a b) := by
  unfold doN; split
  · unfold opNs opN
    rcases hf with rfl | rfl | rfl | rfl
    · exact num_is _
    · exact num_is _
    · exact div_is _ _
    · exact sq_is ha
  · unfold mayF; omega
theorem pl_F (g a b x y s h : Int) : spPull.F [fx g, fx a, fx b, vx x y, fx s, fx h] [] = (.tup [vx (plX g a b x y s h) (plY g a b x y s h), .int .i64 (plE g a b x y s h)], []) := by
  show (IV.tup [vx (plX (v2 _ 0) (v2 _ 1) (v2 _ 2) (v2 _ 3) (vy _ 3) (v2 _ 4) (v2 _ 5)) (plY (v2 _ 0) (v2 _ 1) (v2 _ 2) (v2 _ 3) (vy _ 3) (v2 _ 4) (v2 _ 5)), .int .i64 (plE (v2 _ 0) (v2 _ 1) (v2 _ 2) (v2 _ 3) (vy _ 3) (v2 _ 4) (v2 _ 5))], ([] : List Blk)) = _
  rw [v2_fx _ g 0 rfl, v2_fx _ a 1 rfl, v2_fx _ b 2 rfl, (v_vx _ x y 3 rfl).1, (v_vx _ x y 3 rfl).2, v2_fx _ s 4 rfl, v2_fx _ h 5 rfl]
theorem rpl_F (g a b x y s h : Int) : spRPull.F [fx g, fx a, fx b, vx x y, fx s, fx h] [] = (wayG (plX g a b x y s h) (plY g a b x y s h) (plE g a b x y s h), []) := by
  show (wayG (plX (v2 _ 0) (v2 _ 1) (v2 _ 2) (v2 _ 3) (vy _ 3) (v2 _ 4) (v2 _ 5)) (plY (v2 _ 0) (v2 _ 1) (v2 _ 2) (v2 _ 3) (vy _ 3) (v2 _ 4) (v2 _ 5)) (plE (v2 _ 0) (v2 _ 1) (v2 _ 2) (v2 _ 3) (vy _ 3) (v2 _ 4) (v2 _ 5)), ([] : List Blk)) = _
  rw [v2_fx _ g 0 rfl, v2_fx _ a 1 rfl, v2_fx _ b 2 rfl, (v_vx _ x y 3 rfl).1, (v_vx _ x y 3 rfl).2, v2_fx _ s 4 rfl, v2_fx _ h 5 rfl]
theorem pDo_of {f : FuncId} {a c e : Int} (hf : opOk f) (ha : mayF a) (hc : mayF c) : pDo [.ptr 0 0, .fn f [], fx a, fx c] [some (.var t_pair_reckoner [.int .i64 e])] := ⟨f, a, c, e, rfl, rfl, hf, ha, hc⟩
theorem o_mul : opOk f_fix_Mul := .inr (.inl rfl)
theorem o_add : opOk f_fix_Add := .inl rfl
theorem o_div : opOk f_fix_Div := .inr (.inr (.inl rfl))
theorem o_sq : opOk f_pair_Pull_1 := .inr (.inr (.inr rfl))
theorem br_all {c : Bool} {A A' B : Prop} (h : A → A') (k : br c A B) : br c A' B := by cases c; exact k; exact h k
set_option maxHeartbeats 4000000 in
theorem c_Pull : Contract Try.prog f_pair_Pull spPull := by
  refine contract_of (N := Ndo) 3 knowDo ?_
  intro l bs _ _ hp
  obtain ⟨g, a, b, x, y, s, h, rfl, rfl, hg, ha, hb, ⟨hx, hy⟩, hs, hh⟩ := hp
  rw [pl_F, v_Pull]
  rintro x rfl y rfl s rfl a rfl b rfl g rfl h rfl t8 e8 j9 rfl t10 e10 j11 rfl t12 e12 j13 rfl t14 e14 j15 rfl t16 e16 j17 rfl t18 e18 j19 rfl t20 e20 j21 rfl t22 e22 j23 rfl t24 e24 j25 rfl t26 e26 t27 e27 t28 e28 t29 e29 t30 e30 t31 e31 t32 e32 t33 e33 t34 e34 t35 e35 t36 e36 t37 e37 t38 e38 t39 e39 t40 e40 t41 e41 t42 e42 t43 e43 t44 e44 t45 e45 t46 e46 t47 e47 t48 e48
  have k25 : j25 = kN g a b x y s h := by rw [e24, e22, e20, e18, e16, e14, e12, e10, e8]; rfl
  have k38 : t38 = kE g a b x y s h := by rw [e38, e37, e36, e35, e34, e33, e32, e31, e28, e22, e20, e18, e16, e14, e12, e10, e8]; rfl
  have m9 : mayF j9 := by rw [e8]; exact dotN_is _ _
  have m11 : mayF j11 := by rw [e10]; exact doN_is o_mul hs
  have m13 : mayF j13 := by rw [e12]; exact doN_is o_add m9
  have m15 : mayF j15 := by rw [e14]; exact doN_is o_sq m13
  have m17 : mayF j17 := by rw [e16]; exact doN_is o_mul ha
  have m19 : mayF j19 := by rw [e18]; exact doN_is o_mul hg
  have m21 : mayF j21 := by rw [e20]; exact doN_is o_mul m19
  have m23 : mayF j23 := by rw [e22]; exact doN_is o_div m21
  have m25 : mayF j25 := by rw [e24]; exact doN_is o_div m23
  have p39 : t39 := by rw [e39]; exact pDo_of o_mul hs hs
  have p40 : t40 := by rw [e40]; exact pDo_of o_add m9 m11
  have p41 : t41 := by rw [e41]; exact pDo_of o_mul ha hb
  have p42 : t42 := by rw [e42]; exact pDo_of o_mul hg m17
  have p43 : t43 := by rw [e43]; exact pDo_of o_mul m19 hh
  have p44 : t44 := by rw [e44]; exact pDo_of o_div m21 m13
  have p45 : t45 := by rw [e45]; exact pDo_of o_div m23 m15
  refine ⟨vmay1_of hx hy, p39, p40, ⟨⟨p39, ⟨p40, rfl⟩, p40, rfl⟩, p39, p40, rfl⟩, pDo_of o_sq m13 m13, p41, p42, p43, ⟨⟨p41, ⟨p42, ⟨p43, rfl⟩, p43, rfl⟩, p42, p43, rfl⟩, p41, p42, p43, rfl⟩, p44, p45, ⟨⟨p44, ⟨p45, rfl⟩, p45, rfl⟩, p44, p45, rfl⟩, ?_⟩
  rw [br_bne]
  unfold plX plY plE
  rw [seal_eq, seal_eq, seal_eq, ← k38, ← k25]
  refine ⟨fun h => ?_, fun h => ⟨vmayk_of hx hy m25, ?_⟩⟩
  · rw [if_neg h, if_neg h, if_neg h]
    simp only [and_self]
    rfl
  · rw [if_pos h, if_pos h, if_pos h, e29, e30, e26, e27]
theorem doE_n {f : FuncId} {e a b : Int} (h : e ≠ 0) : doE f e a b = e := if_neg h
theorem doE_z (f : FuncId) (a b : Int) : doE f 0 a b = opE f a b := if_pos rfl
theorem doN_z (f : FuncId) (a b : Int) : doN f 0 a b = opNs f a b := if_pos rfl
section
variable {n e s a b g h : Int}
theorem st7 (z : q7E n e s a b g h ≠ 0) : q8E n e s a b g h = q7E n e s a b g h := doE_n z
theorem st6 (z : q6E n e s a b g h ≠ 0) : q8E n e s a b g h = q6E n e s a b g h := by
  have k : q7E n e s a b g h = q6E n e s a b g h := doE_n z
  rw [st7 (by rw [k]; exact z), k]
theorem st5 (z : q5E n e s a b g ≠ 0) : q8E n e s a b g h = q5E n e s a b g := by
  have k : q6E n e s a b g h = q5E n e s a b g := doE_n z
  rw [st6 (by rw [k]; exact z), k]
theorem st4 (z : q4E n e s a b ≠ 0) : q8E n e s a b g h = q4E n e s a b := by
  have k : q5E n e s a b g = q4E n e s a b := doE_n z
  rw [st5 (by rw [k]; exact z), k]
theorem st3 (z : q3E n e s ≠ 0) : q8E n e s a b g h = q3E n e s := by
  have k : q4E n e s a b = q3E n e s := doE_n z
  rw [st4 (by rw [k]; exact z), k]
theorem st2 (z : q2e n e s ≠ 0) : q8E n e s a b g h = q2e n e s := by
  have k : q3E n e s = q2e n e s := doE_n z
  rw [st3 (by rw [k]; exact z), k]
theorem st1 (z : q1E e s ≠ 0) : q8E n e s a b g h = q1E e s := by
  have k : q2e n e s = q1E e s := doE_n z
  rw [st2 (by rw [k]; exact z), k]
theorem st0 (z : e ≠ 0) : q8E n e s a b g h = e := by
  have k : q1E e s = e := doE_n z
  rw [st1 (by rw [k]; exact z), k]
end
set_option maxHeartbeats 4000000 in
theorem c_r_Pull : Contract Try.prog f_perigeeref10_Pull spRPull := by
  refine contract_of (N := Nt3) 3 know3 ?_
  intro l bs _ _ hp
  obtain ⟨g, a, b, x, y, s, h, rfl, rfl, hg, ha, hb, ⟨hx, hy⟩, hs, hh⟩ := hp
  rw [rpl_F, v_r10_Pull]
  rintro x rfl y rfl s rfl a rfl b rfl g rfl h rfl t8 e8 j9 rfl t10 e10 j11 rfl t12 e12 j13 rfl t14 e14 j15 rfl t16 e16 j17 rfl t18 e18 j19 rfl t20 e20 j21 rfl t22 e22 j23 rfl t24 e24 j25 rfl t26 e26 t27 e27 t28 e28 t29 e29 t30 e30 t31 e31 t32 e32 t33 e33 t34 e34 t35 e35 t36 e36 t37 e37 t38 e38
  have m9 : mayF j9 := by rw [e8]; exact num_is _
  have m11 : mayF j11 := by rw [e10]; exact num_is _
  have m13 : mayF j13 := by rw [e12]; exact num_is _
  have m15 : mayF j15 := by rw [e14]; exact num_is _
  have m17 : mayF j17 := by rw [e16]; exact dotN_is _ _
  have m19 : mayF j19 := by rw [e18]; exact num_is _
  have m21 : mayF j21 := by rw [e20]; exact sq_is m19
  have m23 : mayF j23 := by rw [e22]; exact div_is _ _
  have m25 : mayF j25 := by rw [e24]; exact div_is _ _
  have stop : ∀ {e : Int}, e ≠ 0 → kE g a b x y s h = e → (wayG (plX g a b x y s h) (plY g a b x y s h) (plE g a b x y s h), ([] : List Blk)) = (wayG 0 0 e, []) := by
    intro e he hk
    unfold plX plY plE
    rw [seal_eq, seal_eq, seal_eq, hk, if_neg he, if_neg he, if_neg he]
  unfold kE at stop
  rw [← e16, ← e35] at stop
  refine ⟨vmay1_of hx hy, ?_⟩
  rw [br_bne]
  refine ⟨fun z => stop z (st0 z), fun z0 => ⟨may2_of hs hs, ?_⟩⟩
  have u1 : q1E t35 s = t31 := by rw [z0, e31]; exact doE_z _ _ _
  have w1 : q1N t35 s = j9 := by rw [z0, e8]; exact doN_z _ _ _
  rw [br_bne]
  refine ⟨fun z => stop z (by rw [st1 (by rw [u1]; exact z), u1]), fun z1 => ⟨may2_of m17 m9, ?_⟩⟩
  have u2 : q2e j17 t35 s = t36 := by unfold q2e q2E; rw [u1, w1, z1, e36]; exact doE_z _ _ _
  have w2 : q2N j17 t35 s = j19 := by unfold q2N; rw [u1, w1, z1, e18]; exact doN_z _ _ _
  rw [br_bne]
  refine ⟨fun z => stop z (by rw [st2 (by rw [u2]; exact z), u2]), fun z2 => ⟨may1_of m19, ?_⟩⟩
  have u3 : q3E j17 t35 s = t26 := by unfold q3E; rw [u2, w2, z2, e26]; exact doE_z _ _ _
  have w3 : q3N j17 t35 s = j21 := by unfold q3N; rw [u2, w2, z2, e20]; exact doN_z _ _ _
  rw [br_bne]
  refine ⟨fun z => stop z (by rw [st3 (by rw [u3]; exact z), u3]), fun z3 => ⟨may2_of ha hb, ?_⟩⟩
  have u4 : q4E j17 t35 s a b = t32 := by unfold q4E; rw [u3, z3, e32]; exact doE_z _ _ _
  have w4 : q4N j17 t35 s a b = j11 := by unfold q4N; rw [u3, z3, e10]; exact doN_z _ _ _
  rw [br_bne]
  refine ⟨fun z => stop z (by rw [st4 (by rw [u4]; exact z), u4]), fun z4 => ⟨may2_of hg m11, ?_⟩⟩
  have u5 : q5E j17 t35 s a b g = t33 := by unfold q5E; rw [u4, w4, z4, e33]; exact doE_z _ _ _
  have w5 : q5N j17 t35 s a b g = j13 := by unfold q5N; rw [u4, w4, z4, e12]; exact doN_z _ _ _
  rw [br_bne]
  refine ⟨fun z => stop z (by rw [st5 (by rw [u5]; exact z), u5]), fun z5 => ⟨may2_of m13 hh, ?_⟩⟩
  have u6 : q6E j17 t35 s a b g h = t34 := by unfold q6E; rw [u5, w5, z5, e34]; exact doE_z _ _ _
  have w6 : q6N j17 t35 s a b g h = j15 := by unfold q6N; rw [u5, w5, z5, e14]; exact doN_z _ _ _
  rw [br_bne]
  refine ⟨fun z => stop z (by rw [st6 (by rw [u6]; exact z), u6]), fun z6 => ⟨may2_of m15 m19, ?_⟩⟩
  have u7 : q7E j17 t35 s a b g h = t27 := by unfold q7E; rw [u6, w6, w2, z6, e27]; exact doE_z _ _ _
  have w7 : q7N j17 t35 s a b g h = j23 := by unfold q7N; rw [u6, w6, w2, z6, e22]; exact doN_z _ _ _
  rw [br_bne]
  refine ⟨fun z => stop z (by rw [st7 (by rw [u7]; exact z), u7]), fun z7 => ⟨may2_of m23 m21, ?_⟩⟩
  have u8 : q8E j17 t35 s a b g h = t28 := by unfold q8E; rw [u7, w7, w3, z7, e28]; exact doE_z _ _ _
  have w8 : q8N j17 t35 s a b g h = j25 := by unfold q8N; rw [u7, w7, w3, z7, e24]; exact doN_z _ _ _
  rw [br_bne]
  refine ⟨fun z => stop z (by rw [u8]), fun z8 => ⟨vmayk_of hx hy m25, ?_⟩⟩
  unfold plX plY plE kE kN
  rw [seal_eq, seal_eq, seal_eq, ← e16, ← e35, u8, w8, if_pos z8, if_pos z8, if_pos z8, ← e29, ← e30, ← e37, ← e38]
  rfl
end Go.Vs.RF

set_option linter.unusedVariables false
/- the laws of pair: what they come to -/
namespace Go.Vs.RF
open Go Go.Proofs Go.Vs
noncomputable def Γv : FuncId → Option Vs.Spec := fun g => if g = f_pair_Pull then some spPull else if g = f_perigeeref10_Pull then some spRPull else Γt3 g
noncomputable def Nv : Know := ⟨Γv, fun _ _ => none, fun _ => none⟩
def pNone (l : List IV) (bs : List Blk) : Prop := l = [] ∧ bs = []
noncomputable def spAwake : Vs.Spec := ⟨pNone, fun _ _ => (.bool true, [])⟩
def inPl (l : List IV) (bs : List Blk) : Prop := ∃ g a b x y s h, l = [fx g, fx a, fx b, vx x y, fx s, fx h] ∧ bs = [] ∧ inF g ∧ inF a ∧ inF b ∧ (inF x ∧ inF y) ∧ inF s ∧ inF h
def allMay (g a b x y s h : Int) : Bool := decide (mayF g ∧ mayF a ∧ mayF b ∧ (mayF x ∧ mayF y) ∧ mayF s ∧ mayF h)
noncomputable def spMayPl : Vs.Spec := ⟨inPl, fun l _ => (.bool (allMay (v2 l 0) (v2 l 1) (v2 l 2) (v2 l 3) (vy l 3) (v2 l 4) (v2 l 5)), [])⟩
noncomputable def Γv1 : FuncId → Option Vs.Spec := fun g => if g = f_perigeelaw10_awake then some spAwake else if g = f_perigeelaw10_may then some spMayPl else Γv g
noncomputable def Nv1 : Know := ⟨Γv1, fun _ _ => none, fun _ => none⟩
theorem v_awake10 (K : IV → List Blk → Prop) : (comes Try.prog Nv 3 f_perigeelaw10_awake [] [] K) = (∀ (t1 : Int), t1 = plE (18446744073709551616 : Int) (18446744073709551616 : Int) (18446744073709551616 : Int) (0 : Int) (0 : Int) (0 : Int) (18446744073709551616 : Int) → ∀ (t2 : Int), t2 = plE (18446744073709551616 : Int) (18446744073709551616 : Int) (18446744073709551616 : Int) (18446744073709551616 : Int) (0 : Int) (0 : Int) (18446744073709551616 : Int) → ∀ (t3 : Int), t3 = plX (18446744073709551616 : Int) (18446744073709551616 : Int) (18446744073709551616 : Int) (18446744073709551616 : Int) (0 : Int) (0 : Int) (18446744073709551616 : Int) → ∀ (t4 : Int), t4 = plY (18446744073709551616 : Int) (18446744073709551616 : Int) (18446744073709551616 : Int) (18446744073709551616 : Int) (0 : Int) (0 : Int) (18446744073709551616 : Int) → ∀ (c5 : Bool), c5 = decide (t4 = (0 : Int)) → ∀ (e6 : Bool), e6 = (decide (t3 = (18446744073709551616 : Int)) && c5) → preI [IV.int IntKind.i64 (1 : Int)] [] ∧ mayPl [IV.agg [IV.int IntKind.i64 (1 : Int), IV.int IntKind.u64 (0 : Int)], IV.agg [IV.int IntKind.i64 (1 : Int), IV.int IntKind.u64 (0 : Int)], IV.agg [IV.int IntKind.i64 (1 : Int), IV.int IntKind.u64 (0 : Int)], IV.agg [IV.int IntKind.i64 (0 : Int), IV.int IntKind.u64 (0 : Int), IV.int IntKind.i64 (0 : Int), IV.int IntKind.u64 (0 : Int)], IV.agg [IV.int IntKind.i64 (0 : Int), IV.int IntKind.u64 (0 : Int)], IV.agg [IV.int IntKind.i64 (1 : Int), IV.int IntKind.u64 (0 : Int)]] [] ∧ mayPl [IV.agg [IV.int IntKind.i64 (1 : Int), IV.int IntKind.u64 (0 : Int)], IV.agg [IV.int IntKind.i64 (1 : Int), IV.int IntKind.u64 (0 : Int)], IV.agg [IV.int IntKind.i64 (1 : Int), IV.int IntKind.u64 (0 : Int)], IV.agg [IV.int IntKind.i64 (1 : Int), IV.int IntKind.u64 (0 : Int), IV.int IntKind.i64 (0 : Int), IV.int IntKind.u64 (0 : Int)], IV.agg [IV.int IntKind.i64 (0 : Int), IV.int IntKind.u64 (0 : Int)], IV.agg [IV.int IntKind.i64 (1 : Int), IV.int IntKind.u64 (0 : Int)]] [] ∧ preI [IV.int IntKind.i64 t1] [] ∧ br (t1 == (2 : Int)) (preI [IV.int IntKind.i64 t2] [] ∧ br (t2 == (0 : Int)) (K (IV.bool e6) []) (K (IV.bool false) [])) (K (IV.bool false) [])) := by refine nm ?_; refine nm ?_; refine nm ?_; refine nm ?_; refine nbc (c := 0) (d := 0) (by decide) ?_; refine nbcr (c := 1) (d := 0) (by decide) ?_; kernel_rfl
theorem v_may10 (g a b x y s h : Int) (K : IV → List Blk → Prop) : (comes Try.prog Nv 3 f_perigeelaw10_may [fx g, fx a, fx b, vx x y, fx s, fx h] [] K) = (∀ (j1 : Int), j1 = g → ∀ (j2 : Int), j2 = a → ∀ (j3 : Int), j3 = b → ∀ (j4 : Int), j4 = x → ∀ (j5 : Int), j5 = y → ∀ (j6 : Int), j6 = s → ∀ (j7 : Int), j7 = h → preF [fx g] [] ∧ br (decide ((-170141183460469231731687303715884105728 : Int) < j1)) (preF [fx a] [] ∧ br (decide ((-170141183460469231731687303715884105728 : Int) < j2)) (preF [fx b] [] ∧ br (decide ((-170141183460469231731687303715884105728 : Int) < j3)) (vin1 [vx x y] [] ∧ br (decide ((-170141183460469231731687303715884105728 : Int) < j4) && decide ((-170141183460469231731687303715884105728 : Int) < j5)) (preF [fx s] [] ∧ br (decide ((-170141183460469231731687303715884105728 : Int) < j6)) (preF [fx h] [] ∧ K (IV.bool (decide ((-170141183460469231731687303715884105728 : Int) < j7))) []) (K (IV.bool false) [])) (K (IV.bool false) [])) (K (IV.bool false) [])) (K (IV.bool false) [])) (K (IV.bool false) [])) := by refine nj ?_; refine nj ?_; refine nj ?_; refine nj ?_; refine nj ?_; refine nj ?_; refine nj ?_; kernel_rfl
theorem v_PairAll (g a b x y s h : Int) (K : IV → List Blk → Prop) : (comes Try.prog Nv1 3 f_perigeelaw10_PairAll [fx g, fx a, fx b, vx x y, fx s, fx h] [] K) = (∀ (j1 : Int), j1 = g → ∀ (j2 : Int), j2 = a → ∀ (j3 : Int), j3 = b → ∀ (j4 : Int), j4 = x → ∀ (j5 : Int), j5 = y → ∀ (j6 : Int), j6 = s → ∀ (j7 : Int), j7 = h → ∀ (t8 : Int), t8 = plX j1 j2 j3 j4 j5 j6 j7 → ∀ (t9 : Int), t9 = plY j1 j2 j3 j4 j5 j6 j7 → ∀ (t10 : Int), t10 = plE j1 j2 j3 j4 j5 j6 j7 → ∀ (t11 : Prop), t11 = mayPl [fx g, fx a, fx b, vx x y, fx s, fx h] [] → ∀ (b12 : Bool), b12 = decide (t9 = t9) → ∀ (d13 : Bool), d13 = (decide (t8 = t8) && b12) → inPl [fx g, fx a, fx b, vx x y, fx s, fx h] [] ∧ br (!allMay j1 j2 j3 j4 j5 j6 j7) (pNone [] [] ∧ K (IV.bool true) []) (t11 ∧ t11 ∧ br d13 (preI [IV.int IntKind.i64 t10] [] ∧ br (t10 == t10) (pNone [] [] ∧ K (IV.bool true) []) (K (IV.bool false) [])) (K (IV.bool false) []))) := by refine nj ?_; refine nj ?_; refine nj ?_; refine nj ?_; refine nj ?_; refine nj ?_; refine nj ?_; refine nm ?_; refine nm ?_; refine nm ?_; refine nm ?_; refine nb ?_; refine nbr ?_; kernel_rfl
theorem v_PairTurned (g a b x y s h : Int) (K : IV → List Blk → Prop) : (comes Try.prog Nv1 3 f_perigeelaw10_PairTurned [fx g, fx a, fx b, vx x y, fx s, fx h] [] K) = (∀ (j1 : Int), j1 = g → ∀ (j2 : Int), j2 = a → ∀ (j3 : Int), j3 = b → ∀ (j4 : Int), j4 = x → ∀ (j5 : Int), j5 = y → ∀ (j6 : Int), j6 = s → ∀ (j7 : Int), j7 = h → ∀ (t8 : Int), t8 = -j4 → ∀ (j9 : Int), j9 = t8 → ∀ (t10 : Int), t10 = -j5 → ∀ (j11 : Int), j11 = t10 → ∀ (t12 : Int), t12 = -j7 → ∀ (j13 : Int), j13 = t12 → ∀ (t14 : Int), t14 = plX j1 j2 j3 j4 j5 j6 j7 → ∀ (j15 : Int), j15 = t14 → ∀ (t16 : Int), t16 = plY j1 j2 j3 j4 j5 j6 j7 → ∀ (j17 : Int), j17 = t16 → ∀ (t18 : Int), t18 = plE j1 j2 j3 j4 j5 j6 j7 → ∀ (t19 : Int), t19 = plX j1 j2 j3 j9 j11 j6 j7 → ∀ (t20 : Int), t20 = plY j1 j2 j3 j9 j11 j6 j7 → ∀ (t21 : Int), t21 = plX j1 j2 j3 j4 j5 j6 j13 → ∀ (t22 : Int), t22 = plY j1 j2 j3 j4 j5 j6 j13 → ∀ (t23 : Int), t23 = plX j1 j3 j2 j4 j5 j6 j7 → ∀ (t24 : Int), t24 = plY j1 j3 j2 j4 j5 j6 j7 → ∀ (t25 : Prop), t25 = vmay1 [vx t14 t16] [] → ∀ (b26 : Bool), b26 = decide (t24 = t16) → ∀ (d27 : Bool), d27 = (decide (t23 = t14) && b26) → ∀ (b28 : Bool), b28 = decide (t20 = -j17) → ∀ (d29 : Bool), d29 = (decide (t19 = -j15) && b28) → ∀ (b30 : Bool), b30 = decide (t22 = -j17) → ∀ (d31 : Bool), d31 = (decide (t21 = -j15) && b30) → inPl [fx g, fx a, fx b, vx x y, fx s, fx h] [] ∧ br (!allMay j1 j2 j3 j4 j5 j6 j7) (pNone [] [] ∧ K (IV.bool true) []) (mayPl [fx g, fx a, fx b, vx x y, fx s, fx h] [] ∧ vmay1 [vx x y] [] ∧ mayPl [fx g, fx a, fx b, vx t8 t10, fx s, fx h] [] ∧ may1 [fx h] [] ∧ mayPl [fx g, fx a, fx b, vx x y, fx s, fx t12] [] ∧ mayPl [fx g, fx b, fx a, vx x y, fx s, fx h] [] ∧ br (t18 == plE j1 j2 j3 j9 j11 j6 j7) (br (t18 == plE j1 j2 j3 j4 j5 j6 j13) (br (t18 == plE j1 j3 j2 j4 j5 j6 j7) (t25 ∧ br d29 (t25 ∧ br d31 (br d27 (pNone [] [] ∧ K (IV.bool true) []) (K (IV.bool false) [])) (K (IV.bool false) [])) (K (IV.bool false) [])) (K (IV.bool false) [])) (K (IV.bool false) [])) (K (IV.bool false) []))) := by refine nj ?_; refine nj ?_; refine nj ?_; refine nj ?_; refine nj ?_; refine nj ?_; refine nj ?_; refine nm ?_; refine nj ?_; refine nm ?_; refine nj ?_; refine nm ?_; refine nj ?_; refine nm ?_; refine nj ?_; refine nm ?_; refine nj ?_; refine nm ?_; refine nm ?_; refine nm ?_; refine nm ?_; refine nm ?_; refine nm ?_; refine nm ?_; refine nm ?_; refine nb ?_; refine nbr ?_; refine nb ?_; refine nbr ?_; refine nb ?_; refine nbr ?_; kernel_rfl
theorem v_PairFar (m n f : Int) (K : IV → List Blk → Prop) : (comes Try.prog Nv1 3 f_perigeelaw10_PairFar [.int .u8 m, .int .u8 n, .int .u8 f] [] K) = (∀ (t1 : Int), t1 = mx IntKind.i64 (IntKind.i64.wrap ((1 : Int) + IntKind.i64.wrap m)) (-9223372036854775807 : Int) * (18446744073709551616 : Int) → ∀ (j2 : Int), j2 = t1 → ∀ (t3 : Int), t3 = mx IntKind.i64 (IntKind.i64.wrap ((1 : Int) + IntKind.i64.wrap n)) (-9223372036854775807 : Int) * (18446744073709551616 : Int) → ∀ (j4 : Int), j4 = t3 → ∀ (t5 : Int), t5 = mx IntKind.i64 (IntKind.i64.wrap (IntKind.i64.wrap ((1 : Int) + IntKind.i64.wrap m) * IntKind.i64.wrap ((1 : Int) + IntKind.i64.wrap n))) (-9223372036854775807 : Int) * (18446744073709551616 : Int) → ∀ (j6 : Int), j6 = t5 → ∀ (t7 : Int), t7 = mx IntKind.i64 (IntKind.i64.wrap ((1 : Int) * (2 : Int) ^ min ((IntKind.i64.wrap f).tmod (8 : Int)).toNat (64 : Nat))) (-9223372036854775807 : Int) * (18446744073709551616 : Int) → ∀ (j8 : Int), j8 = t7 → ∀ (t9 : Int), t9 = mx IntKind.i64 (IntKind.i64.wrap (IntKind.i64.wrap ((0 : Int) - IntKind.i64.wrap ((1 : Int) + IntKind.i64.wrap m)) * IntKind.i64.wrap ((1 : Int) + IntKind.i64.wrap n))) (-9223372036854775807 : Int) * (18446744073709551616 : Int) → ∀ (j10 : Int), j10 = t9 → ∀ (t11 : Int), t11 = mx IntKind.i64 (IntKind.i64.wrap ((-2 : Int) * IntKind.i64.wrap ((1 : Int) * (2 : Int) ^ min ((IntKind.i64.wrap f).tmod (8 : Int)).toNat (64 : Nat)))) (-9223372036854775807 : Int) * (18446744073709551616 : Int) → ∀ (j12 : Int), j12 = t11 → ∀ (t13 : Int), t13 = mx IntKind.i64 (IntKind.i64.wrap (IntKind.i64.wrap ((1 : Int) * (2 : Int) ^ min ((IntKind.i64.wrap f).tmod (8 : Int)).toNat (64 : Nat)) * IntKind.i64.wrap ((1 : Int) * (2 : Int) ^ min ((IntKind.i64.wrap f).tmod (8 : Int)).toNat (64 : Nat)))) (-9223372036854775807 : Int) * (18446744073709551616 : Int) → ∀ (j14 : Int), j14 = t13 → ∀ (t15 : Int), t15 = mx IntKind.i64 (IntKind.i64.wrap (IntKind.i64.wrap ((4 : Int) * IntKind.i64.wrap ((1 : Int) * (2 : Int) ^ min ((IntKind.i64.wrap f).tmod (8 : Int)).toNat (64 : Nat))) * IntKind.i64.wrap ((1 : Int) * (2 : Int) ^ min ((IntKind.i64.wrap f).tmod (8 : Int)).toNat (64 : Nat)))) (-9223372036854775807 : Int) * (18446744073709551616 : Int) → ∀ (j16 : Int), j16 = t15 → ∀ (t17 : Int), t17 = divN j6 j14 → ∀ (t18 : Int), t18 = divN j10 j16 → ∀ (t19 : Int), t19 = plE (18446744073709551616 : Int) j2 j4 j8 (0 : Int) (0 : Int) (18446744073709551616 : Int) → ∀ (t20 : Int), t20 = plE (18446744073709551616 : Int) j2 j4 (0 : Int) j12 (0 : Int) (18446744073709551616 : Int) → ∀ (t21 : Int), t21 = plX (18446744073709551616 : Int) j2 j4 j8 (0 : Int) (0 : Int) (18446744073709551616 : Int) → ∀ (t22 : Int), t22 = plY (18446744073709551616 : Int) j2 j4 j8 (0 : Int) (0 : Int) (18446744073709551616 : Int) → ∀ (t23 : Int), t23 = plX (18446744073709551616 : Int) j2 j4 (0 : Int) j12 (0 : Int) (18446744073709551616 : Int) → ∀ (t24 : Int), t24 = plY (18446744073709551616 : Int) j2 j4 (0 : Int) j12 (0 : Int) (18446744073709551616 : Int) → ∀ (t25 : Prop), t25 = preI [IV.int IntKind.i64 (IntKind.i64.wrap ((1 : Int) + IntKind.i64.wrap m))] [] → ∀ (t26 : Prop), t26 = preI [IV.int IntKind.i64 (IntKind.i64.wrap ((1 : Int) + IntKind.i64.wrap n))] [] → ∀ (t27 : Int), t27 = IntKind.i64.wrap ((1 : Int) * (2 : Int) ^ min ((IntKind.i64.wrap f).tmod (8 : Int)).toNat (64 : Nat)) → ∀ (c28 : Bool), c28 = decide (t22 = (0 : Int)) → ∀ (d29 : Bool), d29 = (decide (t21 = t17) && c28) → ∀ (b30 : Bool), b30 = decide (t24 = t18) → ∀ (e31 : Bool), e31 = (decide (t23 = (0 : Int)) && b30) → (8 : Int) ≠ (0 : Int) ∧ (0 : Int) ≤ (IntKind.i64.wrap f).tmod (8 : Int) ∧ preI [IV.int IntKind.i64 (1 : Int)] [] ∧ t25 ∧ t26 ∧ preI [IV.int IntKind.i64 t27] [] ∧ mayPl [IV.agg [IV.int IntKind.i64 (1 : Int), IV.int IntKind.u64 (0 : Int)], fx t1, fx t3, IV.agg [IV.int IntKind.i64 (t7 / (18446744073709551616 : Int)), IV.int IntKind.u64 (t7 % (18446744073709551616 : Int)), IV.int IntKind.i64 (0 : Int), IV.int IntKind.u64 (0 : Int)], IV.agg [IV.int IntKind.i64 (0 : Int), IV.int IntKind.u64 (0 : Int)], IV.agg [IV.int IntKind.i64 (1 : Int), IV.int IntKind.u64 (0 : Int)]] [] ∧ t25 ∧ t26 ∧ preI [IV.int IntKind.i64 (IntKind.i64.wrap ((-2 : Int) * t27))] [] ∧ mayPl [IV.agg [IV.int IntKind.i64 (1 : Int), IV.int IntKind.u64 (0 : Int)], fx t1, fx t3, IV.agg [IV.int IntKind.i64 (0 : Int), IV.int IntKind.u64 (0 : Int), IV.int IntKind.i64 (t11 / (18446744073709551616 : Int)), IV.int IntKind.u64 (t11 % (18446744073709551616 : Int))], IV.agg [IV.int IntKind.i64 (0 : Int), IV.int IntKind.u64 (0 : Int)], IV.agg [IV.int IntKind.i64 (1 : Int), IV.int IntKind.u64 (0 : Int)]] [] ∧ preI [IV.int IntKind.i64 (IntKind.i64.wrap (IntKind.i64.wrap ((1 : Int) + IntKind.i64.wrap m) * IntKind.i64.wrap ((1 : Int) + IntKind.i64.wrap n)))] [] ∧ preI [IV.int IntKind.i64 (IntKind.i64.wrap (t27 * t27))] [] ∧ may2 [fx t5, fx t13] [] ∧ preI [IV.int IntKind.i64 (IntKind.i64.wrap (IntKind.i64.wrap ((0 : Int) - IntKind.i64.wrap ((1 : Int) + IntKind.i64.wrap m)) * IntKind.i64.wrap ((1 : Int) + IntKind.i64.wrap n)))] [] ∧ preI [IV.int IntKind.i64 (IntKind.i64.wrap (IntKind.i64.wrap ((4 : Int) * t27) * t27))] [] ∧ may2 [fx t9, fx t15] [] ∧ preI [IV.int IntKind.i64 t19] [] ∧ preI [IV.int IntKind.i64 t20] [] ∧ br (IntKind.i64.wrap (t19 + t20) == (0 : Int)) (br d29 (br e31 (pNone [] [] ∧ K (IV.bool true) []) (K (IV.bool false) [])) (K (IV.bool false) [])) (K (IV.bool false) [])) := by refine nm ?_; refine nj ?_; refine nm ?_; refine nj ?_; refine nm ?_; refine nj ?_; refine nm ?_; refine nj ?_; refine nm ?_; refine nj ?_; refine nm ?_; refine nj ?_; refine nm ?_; refine nj ?_; refine nm ?_; refine nj ?_; refine nm ?_; refine nm ?_; refine nm ?_; refine nm ?_; refine nm ?_; refine nm ?_; refine nm ?_; refine nm ?_; refine nm ?_; refine nm ?_; refine nm ?_; refine nbc (c := 0) (d := 0) (by decide) ?_; refine nbr ?_; refine nb ?_; refine nbcr (c := 0) (d := 0) (by decide) ?_; kernel_rfl
theorem v_PairEps (m n f a b : Int) (K : IV → List Blk → Prop) : (comes Try.prog Nv1 3 f_perigeelaw10_PairEps [.int .u8 m, .int .u8 n, .int .u8 f, .int .u8 a, .int .u8 b] [] K) = (∀ (t1 : Int), t1 = mx IntKind.i64 (IntKind.i64.wrap (mn IntKind.u8 a b)) (-9223372036854775807 : Int) * (18446744073709551616 : Int) → ∀ (j2 : Int), j2 = t1 → ∀ (t3 : Int), t3 = mx IntKind.i64 (IntKind.i64.wrap (mx IntKind.u8 a b)) (-9223372036854775807 : Int) * (18446744073709551616 : Int) → ∀ (j4 : Int), j4 = t3 → ∀ (t5 : Int), t5 = mx IntKind.i64 (IntKind.i64.wrap ((1 : Int) + IntKind.i64.wrap m)) (-9223372036854775807 : Int) * (18446744073709551616 : Int) → ∀ (j6 : Int), j6 = t5 → ∀ (t7 : Int), t7 = mx IntKind.i64 (IntKind.i64.wrap ((1 : Int) + IntKind.i64.wrap n)) (-9223372036854775807 : Int) * (18446744073709551616 : Int) → ∀ (j8 : Int), j8 = t7 → ∀ (t9 : Int), t9 = mx IntKind.i64 (IntKind.i64.wrap ((1 : Int) + IntKind.i64.wrap f)) (-9223372036854775807 : Int) * (18446744073709551616 : Int) → ∀ (j10 : Int), j10 = t9 → ∀ (t11 : Int), t11 = plX (18446744073709551616 : Int) j6 j8 j10 (0 : Int) j2 (18446744073709551616 : Int) → ∀ (j12 : Int), j12 = t11 → ∀ (t13 : Int), t13 = plX (18446744073709551616 : Int) j6 j8 j10 (0 : Int) j4 (18446744073709551616 : Int) → ∀ (j14 : Int), j14 = t13 → ∀ (t15 : Int), t15 = cmpI j14 j12 → ∀ (t16 : Int), t16 = cmpI j12 (0 : Int) → ∀ (t17 : Int), t17 = plE (18446744073709551616 : Int) j6 j8 j10 (0 : Int) j4 (18446744073709551616 : Int) → ∀ (t18 : Int), t18 = plY (18446744073709551616 : Int) j6 j8 j10 (0 : Int) j2 (18446744073709551616 : Int) → ∀ (t19 : Int), t19 = plY (18446744073709551616 : Int) j6 j8 j10 (0 : Int) j4 (18446744073709551616 : Int) → ∀ (t20 : Prop), t20 = preI [IV.int IntKind.i64 (IntKind.i64.wrap ((1 : Int) + IntKind.i64.wrap m))] [] → ∀ (t21 : Prop), t21 = preI [IV.int IntKind.i64 (IntKind.i64.wrap ((1 : Int) + IntKind.i64.wrap n))] [] → ∀ (t22 : Int), t22 = (1 : Int) * (18446744073709551616 : Int) + (0 : Int) → ∀ (c23 : Bool), c23 = decide (t18 = (0 : Int)) → ∀ (c24 : Bool), c24 = decide (t19 = (0 : Int)) → preI [IV.int IntKind.i64 (1 : Int)] [] ∧ preI [IV.int IntKind.i64 (IntKind.i64.wrap ((1 : Int) + IntKind.i64.wrap f))] [] ∧ t20 ∧ t21 ∧ preI [IV.int IntKind.i64 (IntKind.i64.wrap (mn IntKind.u8 a b))] [] ∧ mayPl [IV.agg [IV.int IntKind.i64 (1 : Int), IV.int IntKind.u64 (0 : Int)], fx t5, fx t7, IV.agg [IV.int IntKind.i64 (t9 / (18446744073709551616 : Int)), IV.int IntKind.u64 (t9 % (18446744073709551616 : Int)), IV.int IntKind.i64 (0 : Int), IV.int IntKind.u64 (0 : Int)], fx t1, IV.agg [IV.int IntKind.i64 (1 : Int), IV.int IntKind.u64 (0 : Int)]] [] ∧ t20 ∧ t21 ∧ preI [IV.int IntKind.i64 (IntKind.i64.wrap (mx IntKind.u8 a b))] [] ∧ mayPl [IV.agg [IV.int IntKind.i64 (1 : Int), IV.int IntKind.u64 (0 : Int)], fx t5, fx t7, IV.agg [IV.int IntKind.i64 (t9 / (18446744073709551616 : Int)), IV.int IntKind.u64 (t9 % (18446744073709551616 : Int)), IV.int IntKind.i64 (0 : Int), IV.int IntKind.u64 (0 : Int)], fx t3, IV.agg [IV.int IntKind.i64 (1 : Int), IV.int IntKind.u64 (0 : Int)]] [] ∧ preI [IV.int IntKind.i64 (plE t22 j6 j8 j10 ((0 : Int) * (18446744073709551616 : Int) + (0 : Int)) j2 t22)] [] ∧ preI [IV.int IntKind.i64 t17] [] ∧ br (IntKind.i64.wrap (plE (18446744073709551616 : Int) j6 j8 j10 (0 : Int) j2 (18446744073709551616 : Int) + t17) == (0 : Int)) (preFF [fx t11, IV.agg [IV.int IntKind.i64 (0 : Int), IV.int IntKind.u64 (0 : Int)]] [] ∧ br (decide (t16 ≥ (0 : Int))) (preFF [fx t13, fx t11] [] ∧ br (decide (t15 ≤ (0 : Int))) (br c23 (br c24 (pNone [] [] ∧ K (IV.bool true) []) (K (IV.bool false) [])) (K (IV.bool false) [])) (K (IV.bool false) [])) (K (IV.bool false) [])) (K (IV.bool false) [])) := by refine nm ?_; refine nj ?_; refine nm ?_; refine nj ?_; refine nm ?_; refine nj ?_; refine nm ?_; refine nj ?_; refine nm ?_; refine nj ?_; refine nm ?_; refine nj ?_; refine nm ?_; refine nj ?_; refine nm ?_; refine nm ?_; refine nm ?_; refine nm ?_; refine nm ?_; refine nm ?_; refine nm ?_; refine nm ?_; refine nbc (c := 0) (d := 0) (by decide) ?_; refine nbc (c := 0) (d := 0) (by decide) ?_; kernel_rfl
theorem v_PairAcross (a b x y h : Int) (K : IV → List Blk → Prop) : (comes Try.prog Nv1 3 f_perigeelaw10_PairAcross [fx a, fx b, .int .i32 x, .int .i32 y, .int .u64 h] [] K) = (∀ (j1 : Int), j1 = a → ∀ (j2 : Int), j2 = b → ∀ (t3 : Int), t3 = (IntKind.i64.wrap x).fdiv (256 : Int) * (18446744073709551616 : Int) + IntKind.u64.wrap y → ∀ (t4 : Int), t4 = (IntKind.i64.wrap y).fdiv (256 : Int) * (18446744073709551616 : Int) + IntKind.u64.wrap x → ∀ (t5 : Int), t5 = plX (18446744073709551616 : Int) j1 j2 t3 t4 (18446744073709551616 : Int) ((0 : Int) + h) → ∀ (t6 : Int), t6 = plY (18446744073709551616 : Int) j1 j2 t4 t3 (18446744073709551616 : Int) ((0 : Int) + h) → ∀ (t7 : Int), t7 = plY (18446744073709551616 : Int) j1 j2 t3 t4 (18446744073709551616 : Int) ((0 : Int) + h) → ∀ (t8 : Int), t8 = plX (18446744073709551616 : Int) j1 j2 t4 t3 (18446744073709551616 : Int) ((0 : Int) + h) → ∀ (b9 : Bool), b9 = decide (t7 = t8) → ∀ (d10 : Bool), d10 = (decide (t5 = t6) && b9) → preF [fx a] [] ∧ br (!decide ((-170141183460469231731687303715884105728 : Int) < j1)) (pNone [] [] ∧ K (IV.bool true) []) (preF [fx b] [] ∧ br (!decide ((-170141183460469231731687303715884105728 : Int) < j2)) (pNone [] [] ∧ K (IV.bool true) []) (preI [IV.int IntKind.i64 (1 : Int)] [] ∧ (0 : Int) ≤ (8 : Int) ∧ (0 : Int) ≤ (8 : Int) ∧ mayPl [IV.agg [IV.int IntKind.i64 (1 : Int), IV.int IntKind.u64 (0 : Int)], fx a, fx b, IV.agg [IV.int IntKind.i64 ((IntKind.i64.wrap x).fdiv (256 : Int)), IV.int IntKind.u64 (IntKind.u64.wrap y), IV.int IntKind.i64 ((IntKind.i64.wrap y).fdiv (256 : Int)), IV.int IntKind.u64 (IntKind.u64.wrap x)], IV.agg [IV.int IntKind.i64 (1 : Int), IV.int IntKind.u64 (0 : Int)], IV.agg [IV.int IntKind.i64 (0 : Int), IV.int IntKind.u64 h]] [] ∧ mayPl [IV.agg [IV.int IntKind.i64 (1 : Int), IV.int IntKind.u64 (0 : Int)], fx a, fx b, IV.agg [IV.int IntKind.i64 ((IntKind.i64.wrap y).fdiv (256 : Int)), IV.int IntKind.u64 (IntKind.u64.wrap x), IV.int IntKind.i64 ((IntKind.i64.wrap x).fdiv (256 : Int)), IV.int IntKind.u64 (IntKind.u64.wrap y)], IV.agg [IV.int IntKind.i64 (1 : Int), IV.int IntKind.u64 (0 : Int)], IV.agg [IV.int IntKind.i64 (0 : Int), IV.int IntKind.u64 h]] [] ∧ br (plE (18446744073709551616 : Int) j1 j2 t3 t4 (18446744073709551616 : Int) ((0 : Int) + h) == plE (18446744073709551616 : Int) j1 j2 t4 t3 (18446744073709551616 : Int) ((0 : Int) + h)) (br d10 (pNone [] [] ∧ K (IV.bool true) []) (K (IV.bool false) [])) (K (IV.bool false) [])))) := by refine nj ?_; refine nj ?_; refine nm ?_; refine nm ?_; refine nm ?_; refine nm ?_; refine nm ?_; refine nm ?_; refine nb ?_; refine nbr ?_; kernel_rfl
end Go.Vs.RF


set_option linter.unusedVariables false
set_option linter.unusedSimpArgs false
set_option maxRecDepth 100000
/- pair: what the reckoning comes to -/
namespace Go.Vs.RF
open Go Go.Proofs Go.Vs Go.IntWalk

theorem quoI_pos {x y : Int} (hx : 0 ≤ x) (hy : 0 < y) : quoI x y = (2 * (x * 18446744073709551616) + y) / (2 * y) := by
  unfold quoI absI
  rw [if_neg (show ¬ x < 0 by omega), if_neg (show ¬ y < 0 by omega), decide_eq_false (show ¬ x < 0 by omega), decide_eq_false (show ¬ y < 0 by omega)]
  rfl
theorem quoI_negl (x y : Int) (hy : y ≠ 0) : quoI (-x) y = -quoI x y := by
  by_cases h0 : x = 0
  · subst h0; rw [show (-0 : Int) = 0 from rfl, quoI_zero y hy]; rfl
  · unfold quoI
    rw [abs_neg, show decide (-x < 0) = !decide (x < 0) by by_cases h : x < 0 <;> simp [h] <;> omega, show ((!decide (x < 0)) != decide (y < 0)) = !(decide (x < 0) != decide (y < 0)) by cases decide (x < 0) <;> cases decide (y < 0) <;> rfl, sgnI_not]
theorem divN_negl (x y : Int) : divN (-x) y = -divN x y := by
  unfold divN; split
  · rfl
  · rename_i h; rw [quoI_negl _ _ h, numF_neg]
theorem divE_negl (x y : Int) : divE (-x) y = divE x y := by
  unfold divE; split
  · rfl
  · rename_i h; rw [quoI_negl _ _ h, errF_neg]
theorem quoI_mono {x x' y y' : Int} (hx : 0 ≤ x) (h : x ≤ x') (hy : 0 < y') (h' : y' ≤ y) : quoI x y ≤ quoI x' y' := by
  rw [quoI_pos hx (by omega), quoI_pos (by omega) hy]
  rw [Int.le_ediv_iff_mul_le (by omega)]
  generalize hq : (2 * (x * 18446744073709551616) + y) / (2 * y) = q
  have h1 : q * (2 * y) ≤ 2 * (x * 18446744073709551616) + y := by rw [← hq]; exact Int.ediv_mul_le _ (by omega)
  have q0 : 0 ≤ q := by rw [← hq]; exact Int.ediv_nonneg (by omega) (by omega)
  by_cases hz : q = 0
  · subst hz; omega
  · have h2 : (2 * q - 1) * y' ≤ (2 * q - 1) * y := Int.mul_le_mul_of_nonneg_left h' (by omega)
    have h3 : q * (2 * y) = (2 * q - 1) * y + y := by rw [Int.sub_mul, Int.one_mul, Int.mul_comm q, Int.mul_assoc, Int.mul_assoc, Int.mul_comm y q]; omega
    have h4 : q * (2 * y') = (2 * q - 1) * y' + y' := by rw [Int.sub_mul, Int.one_mul, Int.mul_comm q, Int.mul_assoc, Int.mul_assoc, Int.mul_comm y' q]; omega
    omega
theorem quoI_nonneg {x y : Int} (hx : 0 ≤ x) (hy : 0 < y) : 0 ≤ quoI x y := by
  rw [quoI_pos hx hy]; exact Int.ediv_nonneg (by omega) (by omega)
theorem opE_div (a b : Int) : opE f_fix_Div a b = divE a b := rfl
theorem opN_div (a b : Int) : opNs f_fix_Div a b = divN a b := rfl
theorem opE_sq (a b : Int) : opE f_pair_Pull_1 a b = sqE a := rfl
theorem opN_sq (a b : Int) : opNs f_pair_Pull_1 a b = sqN a := rfl
theorem div_ok {a b d : Int} (hb : b ≠ 0) (h : quoI a b = d) (m : mayF d) : divE a b = 0 ∧ divN a b = d := by
  unfold divE divN
  rw [if_neg hb, if_neg hb, h, err_may m, num_may m]
  exact ⟨rfl, rfl⟩
section
variable {g a b x y s h : Int}
theorem k_ok {R F m1 m2 m3 d1 d2 : Int} (p : mayF (mulI x x)) (q : mayF (mulI y y)) (r : mayF (mulI x x + mulI y y)) (t : mayF (mulI s s)) (hR : mulI x x + mulI y y + mulI s s = R) (u : mayF R) (u0 : 0 < R)
    (hF : sqrtI (R * 18446744073709551616) = F) (F0 : F ≠ 0) (e1 : mulI a b = m1) (v1 : mayF m1) (e2 : mulI g m1 = m2) (v2 : mayF m2) (e3 : mulI m2 h = m3) (v3 : mayF m3)
    (e4 : quoI m3 R = d1) (v4 : mayF d1) (e5 : quoI d1 F = d2) (v5 : mayF d2) : kE g a b x y s h = 0 ∧ kN g a b x y s h = d2 := by
  unfold kE kN
  rw [dotN_ok p q, num_may r, dotE_ok p q, err_may r]
  generalize hn : mulI x x + mulI y y = n at *
  have u1 : q1E 0 s = 0 := (doE_z _ _ _).trans (err_may t)
  have w1 : q1N 0 s = mulI s s := (doN_z _ _ _).trans (num_may t)
  have u2 : q2e n 0 s = 0 := by unfold q2e q2E; rw [u1, w1]; exact (doE_z _ _ _).trans (err_may (by rw [hR]; exact u))
  have w2 : q2N n 0 s = R := by unfold q2N; rw [u1, w1]; exact (doN_z _ _ _).trans ((num_may (by rw [hR]; exact u)).trans hR)
  have u3 : q3E n 0 s = 0 := by unfold q3E; rw [u2, w2]; rw [doE_z, opE_sq]; exact if_neg (by omega)
  have w3 : q3N n 0 s = F := by unfold q3N; rw [u2, w2]; rw [doN_z, opN_sq]; exact (if_neg (show ¬ R < 0 by omega)).trans hF
  have u4 : q4E n 0 s a b = 0 := by unfold q4E; rw [u3]; exact (doE_z _ _ _).trans (err_may (by rw [e1]; exact v1))
  have w4 : q4N n 0 s a b = m1 := by unfold q4N; rw [u3]; exact (doN_z _ _ _).trans ((num_may (by rw [e1]; exact v1)).trans e1)
  have u5 : q5E n 0 s a b g = 0 := by unfold q5E; rw [u4, w4]; exact (doE_z _ _ _).trans (err_may (by rw [e2]; exact v2))
  have w5 : q5N n 0 s a b g = m2 := by unfold q5N; rw [u4, w4]; exact (doN_z _ _ _).trans ((num_may (by rw [e2]; exact v2)).trans e2)
  have u6 : q6E n 0 s a b g h = 0 := by unfold q6E; rw [u5, w5]; exact (doE_z _ _ _).trans (err_may (by rw [e3]; exact v3))
  have w6 : q6N n 0 s a b g h = m3 := by unfold q6N; rw [u5, w5]; exact (doN_z _ _ _).trans ((num_may (by rw [e3]; exact v3)).trans e3)
  have u7 : q7E n 0 s a b g h = 0 := by unfold q7E; rw [u6, w6, w2]; rw [doE_z, opE_div]; exact (div_ok (by omega) e4 v4).1
  have w7 : q7N n 0 s a b g h = d1 := by unfold q7N; rw [u6, w6, w2]; rw [doN_z, opN_div]; exact (div_ok (by omega) e4 v4).2
  constructor
  · unfold q8E; rw [u7, w7, w3]; rw [doE_z, opE_div]; exact (div_ok F0 e5 v5).1
  · unfold q8N; rw [u7, w7, w3]; rw [doN_z, opN_div]; exact (div_ok F0 e5 v5).2
theorem pl_ok {d X Y : Int} (k : kE g a b x y s h = 0 ∧ kN g a b x y s h = d) (hX : mulI x d = X) (hY : mulI y d = Y) (mX : mayF X) (mY : mayF Y) :
    plE g a b x y s h = 0 ∧ plX g a b x y s h = X ∧ plY g a b x y s h = Y := by
  unfold plE plX plY
  rw [seal_eq, seal_eq, seal_eq, if_pos k.1, if_pos k.1, if_pos k.1, k.2, hX, hY]
  exact ⟨e2_ok mX mY, n2_ok _ mX mY, n2_ok _ mX mY⟩
/-- both masses may change places -/
theorem kE_masses : kE g b a x y s h = kE g a b x y s h ∧ kN g b a x y s h = kN g a b x y s h := by
  have e (e : Int) : doE f_fix_Mul e b a = doE f_fix_Mul e a b := by
    show (if e = 0 then errF (mulI b a) else e) = if e = 0 then errF (mulI a b) else e
    rw [mulI_comm]
  have n (e : Int) : doN f_fix_Mul e b a = doN f_fix_Mul e a b := by
    show (if e = 0 then numF (mulI b a) else 0) = if e = 0 then numF (mulI a b) else 0
    rw [mulI_comm]
  unfold kE kN q8E q8N q7E q7N q6E q6N q5E q5N q4E q4N
  rw [e, n]
  exact ⟨rfl, rfl⟩
theorem pl_masses : plE g b a x y s h = plE g a b x y s h ∧ plX g b a x y s h = plX g a b x y s h ∧ plY g b a x y s h = plY g a b x y s h := by
  unfold plE plX plY
  rw [seal_eq, seal_eq, seal_eq, seal_eq, seal_eq, seal_eq, kE_masses.1, kE_masses.2]
  exact ⟨rfl, rfl, rfl⟩
/-- turned about -/
theorem kE_way : kE g a b (-x) (-y) s h = kE g a b x y s h ∧ kN g a b (-x) (-y) s h = kN g a b x y s h := by
  unfold kE kN
  rw [mulI_neg2, mulI_neg2]
  exact ⟨rfl, rfl⟩
theorem pl_way : plE g a b (-x) (-y) s h = plE g a b x y s h ∧ plX g a b (-x) (-y) s h = -plX g a b x y s h ∧ plY g a b (-x) (-y) s h = -plY g a b x y s h := by
  unfold plE plX plY
  rw [seal_eq, seal_eq, seal_eq, seal_eq, seal_eq, seal_eq, kE_way.1, kE_way.2, mulI_negl, mulI_negl]
  refine ⟨by rw [e2_neg], ?_, ?_⟩
  · split
    · exact n2_neg _ _ _
    · rfl
  · split
    · exact n2_neg _ _ _
    · rfl
theorem doMul_neg {e c d : Int} : doE f_fix_Mul e c (-d) = doE f_fix_Mul e c d ∧ doN f_fix_Mul e c (-d) = -doN f_fix_Mul e c d := by
  constructor
  · show (if e = 0 then errF (mulI c (-d)) else e) = if e = 0 then errF (mulI c d) else e
    rw [mulI_negr, errF_neg]
  · show (if e = 0 then numF (mulI c (-d)) else 0) = -if e = 0 then numF (mulI c d) else 0
    rw [mulI_negr, numF_neg]; split <;> rfl
theorem doDiv_neg {e c d : Int} : doE f_fix_Div e (-c) d = doE f_fix_Div e c d ∧ doN f_fix_Div e (-c) d = -doN f_fix_Div e c d := by
  constructor
  · show (if e = 0 then divE (-c) d else e) = if e = 0 then divE c d else e
    rw [divE_negl]
  · show (if e = 0 then divN (-c) d else 0) = -if e = 0 then divN c d else 0
    rw [divN_negl]; split <;> rfl
theorem kE_time : kE g a b x y s (-h) = kE g a b x y s h ∧ kN g a b x y s (-h) = -kN g a b x y s h := by
  unfold kE kN q8E q8N q7E q7N q6E q6N
  rw [doMul_neg.1, doMul_neg.2, doDiv_neg.1, doDiv_neg.2, doDiv_neg.1, doDiv_neg.2]
  exact ⟨rfl, rfl⟩
theorem pl_time : plE g a b x y s (-h) = plE g a b x y s h ∧ plX g a b x y s (-h) = -plX g a b x y s h ∧ plY g a b x y s (-h) = -plY g a b x y s h := by
  unfold plE plX plY
  rw [seal_eq, seal_eq, seal_eq, seal_eq, seal_eq, seal_eq, kE_time.1, kE_time.2, mulI_negr, mulI_negr]
  refine ⟨by rw [e2_neg], ?_, ?_⟩
  · split
    · exact n2_neg _ _ _
    · rfl
  · split
    · exact n2_neg _ _ _
    · rfl
/-- both ways changed for one another -/
theorem dot_comm {p q : Int} : dotN p q = dotN q p ∧ dotE p q = dotE q p := by
  unfold dotN dotE
  rw [Int.add_comm q p]
  constructor <;> (by_cases h : mayF p <;> by_cases h' : mayF q <;> simp [h, h'])
theorem n2_comm {p q v : Int} : n2 p q v = n2 q p v := by
  unfold n2
  by_cases h : mayF p <;> by_cases h' : mayF q <;> simp [h, h']
theorem e2_comm {p q : Int} : e2 p q = e2 q p := by
  unfold e2
  by_cases h : mayF p <;> by_cases h' : mayF q <;> simp [h, h']
theorem pl_across : plE g a b y x s h = plE g a b x y s h ∧ plX g a b y x s h = plY g a b x y s h ∧ plY g a b y x s h = plX g a b x y s h := by
  have k : kE g a b y x s h = kE g a b x y s h ∧ kN g a b y x s h = kN g a b x y s h := by
    unfold kE kN
    rw [dot_comm.1, dot_comm.2]
    exact ⟨rfl, rfl⟩
  unfold plE plX plY
  rw [seal_eq, seal_eq, seal_eq, seal_eq, seal_eq, seal_eq, k.1, k.2]
  refine ⟨by rw [e2_comm], ?_, ?_⟩
  · rw [n2_comm]
  · rw [n2_comm]
end
end Go.Vs.RF

set_option linter.unusedVariables false
set_option linter.unusedSimpArgs false
set_option maxRecDepth 100000
/- the laws of pair -/
namespace Go.Vs.RF
open Go Go.Proofs Go.Vs Go.IntWalk

theorem knowv : KnowOk Try.prog Nv 3 := knowOf (fun g sp h => ext_ok c_Pull (ext_ok c_r_Pull ctrst3) h) (fun _ _ => rfl) (fun _ => rfl) 3
theorem mayPl_of {g a b x y s h : Int} (hg : mayF g) (ha : mayF a) (hb : mayF b) (hx : mayF x) (hy : mayF y) (hs : mayF s) (hh : mayF h) : mayPl [fx g, fx a, fx b, vx x y, fx s, fx h] [] := ⟨g, a, b, x, y, s, h, rfl, rfl, hg, ha, hb, ⟨hx, hy⟩, hs, hh⟩
theorem pl_zero : plE 18446744073709551616 18446744073709551616 18446744073709551616 0 0 0 18446744073709551616 = 2 := by
  have k : kE 18446744073709551616 18446744073709551616 18446744073709551616 0 0 0 18446744073709551616 = 2 := by rfl
  unfold plE
  rw [seal_eq, k]; rfl
theorem may_one : mayF 18446744073709551616 := ⟨by decide, by decide⟩
/-- whole things on a line -/
theorem one_mulI (y : Int) : mulI 18446744073709551616 y = y := by
  have := mulI_whole 1 y
  simpa using this
theorem mulI_one (y : Int) : mulI y 18446744073709551616 = y := by rw [mulI_comm, one_mulI]
theorem zero_mulI (y : Int) : mulI 0 y = 0 := by
  have := mulI_whole 0 y
  simpa using this
theorem pl_one : plE 18446744073709551616 18446744073709551616 18446744073709551616 18446744073709551616 0 0 18446744073709551616 = 0 ∧ plX 18446744073709551616 18446744073709551616 18446744073709551616 18446744073709551616 0 0 18446744073709551616 = 18446744073709551616 ∧ plY 18446744073709551616 18446744073709551616 18446744073709551616 18446744073709551616 0 0 18446744073709551616 = 0 := by
  refine pl_ok (d := 18446744073709551616) (k_ok (R := 18446744073709551616) (F := 18446744073709551616) (m1 := 18446744073709551616) (m2 := 18446744073709551616) (m3 := 18446744073709551616) (d1 := 18446744073709551616)
    ?_ ?_ ?_ ?_ ?_ may_one (by decide) (sqrtI_eq ⟨by decide, by decide, by decide⟩) (by decide) ?_ may_one ?_ may_one ?_ may_one ?_ may_one ?_ may_one) ?_ ?_ may_one may_zero <;> first | rfl | (constructor <;> decide)
theorem c_awake10 : Contract Try.prog f_perigeelaw10_awake spAwake := by
  refine contract_of (N := Nv) 3 knowv ?_
  intro l bs _ _ hp
  obtain ⟨rfl, rfl⟩ := hp
  rw [v_awake10]
  rintro t1 e1 t2 e2 t3 e3 t4 e4 c5 e5 e6 e6
  rw [pl_zero] at e1
  rw [pl_one.1] at e2
  rw [pl_one.2.1] at e3
  rw [pl_one.2.2] at e4
  subst e1; subst e2; subst e3; subst e4; subst e5; subst e6
  exact ⟨preI_of ⟨by decide, by decide⟩, mayPl_of may_one may_one may_one may_zero may_zero may_zero may_one, mayPl_of may_one may_one may_one may_one may_zero may_zero may_one, preI_of ⟨by decide, by decide⟩, preI_of ⟨by decide, by decide⟩, rfl⟩
theorem inPl_F (g a b x y s h : Int) : spMayPl.F [fx g, fx a, fx b, vx x y, fx s, fx h] [] = (.bool (allMay g a b x y s h), []) := by
  show (IV.bool (allMay (v2 _ 0) (v2 _ 1) (v2 _ 2) (v2 _ 3) (vy _ 3) (v2 _ 4) (v2 _ 5)), ([] : List Blk)) = _
  rw [v2_fx _ g 0 rfl, v2_fx _ a 1 rfl, v2_fx _ b 2 rfl, (v_vx _ x y 3 rfl).1, (v_vx _ x y 3 rfl).2, v2_fx _ s 4 rfl, v2_fx _ h 5 rfl]
theorem may_dec {x : Int} (h : inF x) : mayF x ↔ -170141183460469231731687303715884105728 < x := ⟨fun k => k.1, fun k => ⟨k, h.2⟩⟩
theorem c_may10 : Contract Try.prog f_perigeelaw10_may spMayPl := by
  refine contract_of (N := Nv) 3 knowv ?_
  intro l bs _ _ hp
  obtain ⟨g, a, b, x, y, s, h, rfl, rfl, hg, ha, hb, ⟨hx, hy⟩, hs, hh⟩ := hp
  rw [inPl_F, v_may10]
  rintro g rfl a rfl b rfl x rfl y rfl s rfl h rfl
  have e : allMay g a b x y s h = decide (-170141183460469231731687303715884105728 < g ∧ -170141183460469231731687303715884105728 < a ∧ -170141183460469231731687303715884105728 < b ∧ (-170141183460469231731687303715884105728 < x ∧ -170141183460469231731687303715884105728 < y) ∧ -170141183460469231731687303715884105728 < s ∧ -170141183460469231731687303715884105728 < h) := by
    unfold allMay
    exact decide_eq_decide.2 (by rw [may_dec hg, may_dec ha, may_dec hb, may_dec hx, may_dec hy, may_dec hs, may_dec hh])
  rw [e]
  refine ⟨preF_in hg, br_or (fun k1 => ⟨preF_in ha, br_or (fun k2 => ⟨preF_in hb, br_or (fun k3 => ⟨vin1_of hx hy, br_or (fun k4 => ⟨preF_in hs, br_or (fun k5 => ⟨preF_in hh, ?_⟩) (fun k => ?_)⟩) (fun k => ?_)⟩) (fun k => ?_)⟩) (fun k => ?_)⟩) (fun k => ?_)⟩
  · simp only [decide_eq_true_eq, Bool.and_eq_true] at k1 k2 k3 k4 k5
    exact pay2 (congrArg IV.bool (decide_eq_decide.2 (by simp only [k1, k2, k3, k4, k5, true_and, and_self])))
  all_goals
    refine pay2 (congrArg IV.bool (decide_eq_false ?_))
    simp only [decide_eq_true_eq, Bool.and_eq_true, decide_eq_false_iff_not, Bool.and_eq_false_iff] at *
  · exact fun z => k z.2.2.2.2.1
  · exact fun z => k.elim (fun c => c z.2.2.2.1.1) (fun c => c z.2.2.2.1.2)
  · exact fun z => k z.2.2.1
  · exact fun z => k z.2.1
  · exact fun z => k z.1
theorem ctrv1 : ∀ {g : FuncId} {sp : Vs.Spec}, Γv1 g = some sp → Contract Try.prog g sp := ext_ok c_awake10 (ext_ok c_may10 (ext_ok c_Pull (ext_ok c_r_Pull ctrst3)))
theorem knowv1 : KnowOk Try.prog Nv1 3 := knowOf (fun g sp h => ctrv1 h) (fun _ _ => rfl) (fun _ => rfl) 3
theorem doE_is {f : FuncId} {e a b : Int} (h : i64ok e) : i64ok (doE f e a b) := by
  unfold doE opE
  split
  · split
    · exact err_is _
    · split
      · exact err_is _
      · split
        · exact sqE_is _
        · exact divE_is _ _
  · exact h
theorem plE_is (g a b x y s h : Int) : i64ok (plE g a b x y s h) := by
  unfold plE; rw [seal_eq]; split
  · exact e2_is _ _
  · exact doE_is (doE_is (doE_is (doE_is (doE_is (doE_is (doE_is (doE_is (dotE_is _ _))))))))
theorem plX_is (g a b x y s h : Int) : mayF (plX g a b x y s h) := by
  unfold plX; rw [seal_eq]; split
  · exact n2_is1 _ _
  · exact may_zero
theorem plY_is (g a b x y s h : Int) : mayF (plY g a b x y s h) := by
  unfold plY; rw [seal_eq]; split
  · exact n2_is2 _ _
  · exact may_zero
theorem pNone_ok : pNone [] [] := ⟨rfl, rfl⟩
noncomputable def spPl : Vs.Spec := ⟨inPl, fun _ _ => (.bool true, [])⟩
theorem all_may {g a b x y s h : Int} (k : allMay g a b x y s h = true) : mayF g ∧ mayF a ∧ mayF b ∧ (mayF x ∧ mayF y) ∧ mayF s ∧ mayF h := by simpa [allMay] using k
set_option maxHeartbeats 4000000 in
theorem c_PairAll : Contract Try.prog f_perigeelaw10_PairAll spPl := by
  refine contract_of (N := Nv1) 3 knowv1 ?_
  intro l bs _ _ hp
  obtain ⟨g, a, b, x, y, s, h, rfl, rfl, hg, ha, hb, ⟨hx, hy⟩, hs, hh⟩ := hp
  rw [v_PairAll]
  rintro g rfl a rfl b rfl x rfl y rfl s rfl h rfl t8 e8 t9 e9 t10 e10 t11 e11 b12 e12 d13 e13
  refine ⟨⟨g, a, b, x, y, s, h, rfl, rfl, hg, ha, hb, ⟨hx, hy⟩, hs, hh⟩, br_or (fun _ => ⟨pNone_ok, rfl⟩) (fun k => ?_)⟩
  obtain ⟨mg, ma, mb, ⟨mx', my⟩, ms, mh⟩ := all_may (by simpa using k)
  have p11 : t11 := by rw [e11]; exact mayPl_of mg ma mb mx' my ms mh
  refine ⟨p11, p11, br_is (by rw [e13, e12]; simp) ⟨preI_of (by rw [e10]; exact plE_is _ _ _ _ _ _ _), br_is (by simp) ⟨pNone_ok, rfl⟩⟩⟩
set_option maxHeartbeats 4000000 in
theorem c_PairTurned : Contract Try.prog f_perigeelaw10_PairTurned spPl := by
  refine contract_of (N := Nv1) 3 knowv1 ?_
  intro l bs _ _ hp
  obtain ⟨g, a, b, x, y, s, h, rfl, rfl, hg, ha, hb, ⟨hx, hy⟩, hs, hh⟩ := hp
  rw [v_PairTurned]
  rintro g rfl a rfl b rfl x rfl y rfl s rfl h rfl t8 e8 j9 rfl t10 e10 j11 rfl t12 e12 j13 rfl t14 e14 j15 rfl t16 e16 j17 rfl t18 e18 t19 e19 t20 e20 t21 e21 t22 e22 t23 e23 t24 e24 t25 e25 b26 e26 d27 e27 b28 e28 d29 e29 b30 e30 d31 e31
  refine ⟨⟨g, a, b, x, y, s, h, rfl, rfl, hg, ha, hb, ⟨hx, hy⟩, hs, hh⟩, br_or (fun _ => ⟨pNone_ok, rfl⟩) (fun k => ?_)⟩
  obtain ⟨mg, ma, mb, ⟨mx', my⟩, ms, mh⟩ := all_may (by simpa using k)
  rw [e8, e10, pl_way.2.1] at e19
  rw [e8, e10, pl_way.2.2] at e20
  rw [e12, pl_time.2.1] at e21
  rw [e12, pl_time.2.2] at e22
  rw [pl_masses.2.1] at e23
  rw [pl_masses.2.2] at e24
  rw [← e14] at e19 e21 e23
  rw [← e16] at e20 e22 e24
  have p25 : t25 := by rw [e25, e14, e16]; exact vmay1_of (plX_is _ _ _ _ _ _ _) (plY_is _ _ _ _ _ _ _)
  refine ⟨mayPl_of mg ma mb mx' my ms mh, vmay1_of mx' my, mayPl_of mg ma mb (by rw [e8]; exact may_neg mx') (by rw [e10]; exact may_neg my) ms mh, may1_of mh, mayPl_of mg ma mb mx' my ms (by rw [e12]; exact may_neg mh), mayPl_of mg mb ma mx' my ms mh, ?_⟩
  refine br_is (by rw [e8, e10, pl_way.1, ← e18]; simp) (br_is (by rw [e12, pl_time.1, ← e18]; simp) (br_is (by rw [pl_masses.1, ← e18]; simp) ⟨p25, br_is (by rw [e29, e28, e19, e20]; simp) ⟨p25, br_is (by rw [e31, e30, e21, e22]; simp) (br_is (by rw [e27, e26, e23, e24]; simp) ⟨pNone_ok, rfl⟩)⟩⟩))
def lawPA (l : List IV) (bs : List Blk) : Prop := ∃ a b x y h, l = [fx a, fx b, .int .i32 x, .int .i32 y, .int .u64 h] ∧ bs = [] ∧ inF a ∧ inF b ∧ (-2147483648 ≤ x ∧ x ≤ 2147483647) ∧ (-2147483648 ≤ y ∧ y ≤ 2147483647) ∧ 0 ≤ h ∧ h ≤ 18446744073709551615
noncomputable def spPA : Vs.Spec := ⟨lawPA, fun _ _ => (.bool true, [])⟩
theorem fdiv256 (x : Int) : x.fdiv 256 = x / 256 := Int.fdiv_eq_ediv_of_nonneg x (by decide)
theorem across_may {x y : Int} (hx : -2147483648 ≤ x ∧ x ≤ 2147483647) : ∃ n, (IntKind.i64.wrap x).fdiv 256 * 18446744073709551616 + IntKind.u64.wrap y = n ∧ mayF n ∧ n / 18446744073709551616 = (IntKind.i64.wrap x).fdiv 256 ∧ n % 18446744073709551616 = IntKind.u64.wrap y := by
  have wx : IntKind.i64.wrap x = x := i64_in _ (by omega)
  have wy : 0 ≤ IntKind.u64.wrap y ∧ IntKind.u64.wrap y ≤ 18446744073709551615 := wrap_in .u64 y
  refine ⟨_, rfl, ?_⟩
  rw [wx, fdiv256]
  generalize IntKind.u64.wrap y = w at *
  unfold mayF
  omega
set_option maxHeartbeats 4000000 in
theorem c_PairAcross : Contract Try.prog f_perigeelaw10_PairAcross spPA := by
  refine contract_of (N := Nv1) 3 knowv1 ?_
  intro l bs _ _ hp
  obtain ⟨a, b, x, y, h, rfl, rfl, ha, hb, hx, hy, hh⟩ := hp
  rw [v_PairAcross]
  rintro a rfl b rfl t3 e3 t4 e4 t5 e5 t6 e6 t7 e7 t8 e8 b9 e9 d10 e10
  obtain ⟨n, en, mn, dn, rn⟩ := across_may (y := y) hx
  obtain ⟨m, em, mm, dm, rm⟩ := across_may (y := x) hy
  rw [en] at e3
  rw [em] at e4
  subst e3; subst e4
  rw [← dn, ← rn, ← dm, ← rm]
  have mh : mayF h := by unfold mayF; omega
  have hh' : IV.agg [.int .i64 0, .int .u64 h] = fx h := by
    unfold fx; rw [show h / 18446744073709551616 = 0 by omega, show h % 18446744073709551616 = h by omega]
  rw [hh']
  rw [show (0 + h) = h by omega] at *
  rw [pl_across.2.2] at e6
  rw [pl_across.2.1] at e8
  refine ⟨preF_in ha, br_guard ⟨pNone_ok, rfl⟩ fun k1 => ⟨preF_in hb, br_guard ⟨pNone_ok, rfl⟩ fun k2 => ?_⟩⟩
  have ma := mayF_of ha k1
  have mb := mayF_of hb k2
  refine ⟨preI_of ⟨by decide, by decide⟩, by decide, by decide, mayPl_of may_one ma mb mn mm may_one mh, mayPl_of may_one ma mb mm mn may_one mh, br_is (by rw [pl_across.1]; simp) (br_is (by rw [e10, e9, e5, e6, e7, e8]; simp) ⟨pNone_ok, rfl⟩)⟩
end Go.Vs.RF
