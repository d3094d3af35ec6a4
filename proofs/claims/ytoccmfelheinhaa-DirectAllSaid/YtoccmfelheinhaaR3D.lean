import Derived.Test.YtoccmfelheinhaaR3C
set_option linter.unusedVariables false
/- pair: the reckoner; what one body gets of another one -/
namespace Go.Vs.RF
open Go Go.Proofs Go.Vs
def opN (f : FuncId) (a b : Int) : Int := if f = f_fix_Add then numF (a + b) else if f = f_fix_Mul then numF (mulI a b) else divN a b
noncomputable def opNs (f : FuncId) (a b : Int) : Int := if f = f_pair_Pull_1 then sqN a else opN f a b
def opE (f : FuncId) (a b : Int) : Int := if f = f_fix_Add then errF (a + b) else if f = f_fix_Mul then errF (mulI a b) else if f = f_pair_Pull_1 then sqE a else divE a b
noncomputable def doN (f : FuncId) (e a b : Int) : Int := if e = 0 then opNs f a b else 0
def doE (f : FuncId) (e a b : Int) : Int := if e = 0 then opE f a b else e
def opOk (f : FuncId) : Prop := f = f_fix_Add ∨ f = f_fix_Mul ∨ f = f_fix_Div ∨ f = f_pair_Pull_1
def pDo (args : List IV) (b : List (Option Blk)) : Prop := ∃ f a c e, args = [.ptr 0 0, .fn f [], fx a, fx c] ∧ b = [some (.var t_pair_reckoner [.int .i64 e])] ∧ opOk f ∧ mayF a ∧ mayF c
noncomputable def Gdo : FunS := fun args b K => pDo args b ∧ K (fx (doN (argFn args 1) (argC b 0 0) (v2 args 2) (v2 args 3))) [some (.var t_pair_reckoner [.int .i64 (doE (argFn args 1) (argC b 0 0) (v2 args 2) (v2 args 3))])]
def q1E (e s : Int) : Int := doE f_fix_Mul e s s
noncomputable def q1N (e s : Int) : Int := doN f_fix_Mul e s s
def q2E (n e q s : Int) : Int := doE f_fix_Add (q1E e s) n q
noncomputable def q2N (n e s : Int) : Int := doN f_fix_Add (q1E e s) n (q1N e s)
noncomputable def q2e (n e s : Int) : Int := q2E n e (q1N e s) s
noncomputable def q3E (n e s : Int) : Int := doE f_pair_Pull_1 (q2e n e s) (q2N n e s) (q2N n e s)
noncomputable def q3N (n e s : Int) : Int := doN f_pair_Pull_1 (q2e n e s) (q2N n e s) (q2N n e s)
noncomputable def q4E (n e s a b : Int) : Int := doE f_fix_Mul (q3E n e s) a b
noncomputable def q4N (n e s a b : Int) : Int := doN f_fix_Mul (q3E n e s) a b
noncomputable def q5E (n e s a b g : Int) : Int := doE f_fix_Mul (q4E n e s a b) g (q4N n e s a b)
noncomputable def q5N (n e s a b g : Int) : Int := doN f_fix_Mul (q4E n e s a b) g (q4N n e s a b)
noncomputable def q6E (n e s a b g h : Int) : Int := doE f_fix_Mul (q5E n e s a b g) (q5N n e s a b g) h
noncomputable def q6N (n e s a b g h : Int) : Int := doN f_fix_Mul (q5E n e s a b g) (q5N n e s a b g) h
noncomputable def q7E (n e s a b g h : Int) : Int := doE f_fix_Div (q6E n e s a b g h) (q6N n e s a b g h) (q2N n e s)
noncomputable def q7N (n e s a b g h : Int) : Int := doN f_fix_Div (q6E n e s a b g h) (q6N n e s a b g h) (q2N n e s)
noncomputable def q8E (n e s a b g h : Int) : Int := doE f_fix_Div (q7E n e s a b g h) (q7N n e s a b g h) (q3N n e s)
noncomputable def q8N (n e s a b g h : Int) : Int := doN f_fix_Div (q7E n e s a b g h) (q7N n e s a b g h) (q3N n e s)
noncomputable def kE (g a b x y s h : Int) : Int := q8E (dotN (mulI x x) (mulI y y)) (dotE (mulI x x) (mulI y y)) s a b g h
noncomputable def kN (g a b x y s h : Int) : Int := q8N (dotN (mulI x x) (mulI y y)) (dotE (mulI x x) (mulI y y)) s a b g h
noncomputable def sealI (v : Int) : Int := Classical.choose (⟨v, rfl⟩ : ∃ w, w = v)
theorem seal_eq (v : Int) : sealI v = v := Classical.choose_spec (⟨v, rfl⟩ : ∃ w, w = v)
noncomputable def plX (g a b x y s h : Int) : Int := sealI (if kE g a b x y s h = 0 then n2 (mulI x (kN g a b x y s h)) (mulI y (kN g a b x y s h)) (mulI x (kN g a b x y s h)) else 0)
noncomputable def plY (g a b x y s h : Int) : Int := sealI (if kE g a b x y s h = 0 then n2 (mulI x (kN g a b x y s h)) (mulI y (kN g a b x y s h)) (mulI y (kN g a b x y s h)) else 0)
noncomputable def plE (g a b x y s h : Int) : Int := sealI (if kE g a b x y s h = 0 then e2 (mulI x (kN g a b x y s h)) (mulI y (kN g a b x y s h)) else kE g a b x y s h)
def mayPl (l : List IV) (bs : List Blk) : Prop := ∃ g a b x y s h, l = [fx g, fx a, fx b, vx x y, fx s, fx h] ∧ bs = [] ∧ mayF g ∧ mayF a ∧ mayF b ∧ (mayF x ∧ mayF y) ∧ mayF s ∧ mayF h
noncomputable def spPull : Vs.Spec := ⟨mayPl, fun l _ => (.tup [vx (plX (v2 l 0) (v2 l 1) (v2 l 2) (v2 l 3) (vy l 3) (v2 l 4) (v2 l 5)) (plY (v2 l 0) (v2 l 1) (v2 l 2) (v2 l 3) (vy l 3) (v2 l 4) (v2 l 5)), .int .i64 (plE (v2 l 0) (v2 l 1) (v2 l 2) (v2 l 3) (vy l 3) (v2 l 4) (v2 l 5))], [])⟩
noncomputable def spRPull : Vs.Spec := ⟨mayPl, fun l _ => (wayG (plX (v2 l 0) (v2 l 1) (v2 l 2) (v2 l 3) (vy l 3) (v2 l 4) (v2 l 5)) (plY (v2 l 0) (v2 l 1) (v2 l 2) (v2 l 3) (vy l 3) (v2 l 4) (v2 l 5)) (plE (v2 l 0) (v2 l 1) (v2 l 2) (v2 l 3) (vy l 3) (v2 l 4) (v2 l 5)), [])⟩
theorem v_doAdd (a b e : Int) (K : IV → List (Option Blk) → Prop) : (runFn Try.prog Nt3 3 f_pair_reckoner_do [.ptr 0 0, .fn f_fix_Add [], fx a, fx b] [some (.var t_pair_reckoner [.int .i64 e])] fun v b1 => gcV 1 v b1 K) = (∀ (j1 : Int), j1 = a → ∀ (j2 : Int), j2 = b → ∀ (t3 : Int), t3 = numF (j1 + j2) → br (e != (0 : Int)) (K (IV.agg [IV.int IntKind.i64 (0 : Int), IV.int IntKind.u64 (0 : Int)]) [some (Blk.var (152 : Nat) [IV.int IntKind.i64 e])]) (may2 [fx a, fx b] [] ∧ K (fx t3) [some (Blk.var (152 : Nat) [IV.int IntKind.i64 (errF (j1 + j2))])])) := by refine nj ?_; refine nj ?_; refine nm ?_; kernel_rfl
theorem v_doMul (a b e : Int) (K : IV → List (Option Blk) → Prop) : (runFn Try.prog Nt3 3 f_pair_reckoner_do [.ptr 0 0, .fn f_fix_Mul [], fx a, fx b] [some (.var t_pair_reckoner [.int .i64 e])] fun v b1 => gcV 1 v b1 K) = (∀ (j1 : Int), j1 = a → ∀ (j2 : Int), j2 = b → ∀ (t3 : Int), t3 = mulI j1 j2 → ∀ (t4 : Int), t4 = numF t3 → br (e != (0 : Int)) (K (IV.agg [IV.int IntKind.i64 (0 : Int), IV.int IntKind.u64 (0 : Int)]) [some (Blk.var (152 : Nat) [IV.int IntKind.i64 e])]) (may2 [fx a, fx b] [] ∧ K (fx t4) [some (Blk.var (152 : Nat) [IV.int IntKind.i64 (errF t3)])])) := by refine nj ?_; refine nj ?_; refine nm ?_; refine nm ?_; kernel_rfl
theorem v_doDiv (a b e : Int) (K : IV → List (Option Blk) → Prop) : (runFn Try.prog Nt3 3 f_pair_reckoner_do [.ptr 0 0, .fn f_fix_Div [], fx a, fx b] [some (.var t_pair_reckoner [.int .i64 e])] fun v b1 => gcV 1 v b1 K) = (∀ (j1 : Int), j1 = a → ∀ (j2 : Int), j2 = b → ∀ (t3 : Int), t3 = divN j1 j2 → br (e != (0 : Int)) (K (IV.agg [IV.int IntKind.i64 (0 : Int), IV.int IntKind.u64 (0 : Int)]) [some (Blk.var (152 : Nat) [IV.int IntKind.i64 e])]) (may2 [fx a, fx b] [] ∧ K (fx t3) [some (Blk.var (152 : Nat) [IV.int IntKind.i64 (divE j1 j2)])])) := by refine nj ?_; refine nj ?_; refine nm ?_; kernel_rfl
theorem v_doSq (a b e : Int) (K : IV → List (Option Blk) → Prop) : (runFn Try.prog Nt3 3 f_pair_reckoner_do [.ptr 0 0, .fn f_pair_Pull_1 [], fx a, fx b] [some (.var t_pair_reckoner [.int .i64 e])] fun v b1 => gcV 1 v b1 K) = (∀ (j1 : Int), j1 = a → ∀ (t2 : Int), t2 = sqN j1 → br (e != (0 : Int)) (K (IV.agg [IV.int IntKind.i64 (0 : Int), IV.int IntKind.u64 (0 : Int)]) [some (Blk.var (152 : Nat) [IV.int IntKind.i64 e])]) (may1 [fx a] [] ∧ K (fx t2) [some (Blk.var (152 : Nat) [IV.int IntKind.i64 (sqE j1)])])) := by refine nj ?_; refine nm ?_; kernel_rfl
noncomputable def Ndo : Know := ⟨Γt3, fun _ _ => none, fun g => if g = f_pair_reckoner_do then some Gdo else none⟩
theorem v_Pull (g a b x y s h : Int) (K : IV → List Blk → Prop) : (comes Try.prog Ndo 3 f_pair_Pull [fx g, fx a, fx b, vx x y, fx s, fx h] [] K) = (∀ (j1 : Int), j1 = x → ∀ (j2 : Int), j2 = y → ∀ (j3 : Int), j3 = s → ∀ (j4 : Int), j4 = a → ∀ (j5 : Int), j5 = b → ∀ (j6 : Int), j6 = g → ∀ (j7 : Int), j7 = h → ∀ (t8 : Int), t8 = dotN (mulI j1 j1) (mulI j2 j2) → ∀ (j9 : Int), j9 = t8 → ∀ (t10 : Int), t10 = doN (84 : Nat) (dotE (mulI j1 j1) (mulI j2 j2)) j3 j3 → ∀ (j11 : Int), j11 = t10 → ∀ (t12 : Int), t12 = doN (99 : Nat) (doE (84 : Nat) (dotE (mulI j1 j1) (mulI j2 j2)) j3 j3) j9 j11 → ∀ (j13 : Int), j13 = t12 → ∀ (t14 : Int), t14 = doN (100 : Nat) (doE (99 : Nat) (doE (84 : Nat) (dotE (mulI j1 j1) (mulI j2 j2)) j3 j3) j9 j11) j13 j13 → ∀ (j15 : Int), j15 = t14 → ∀ (t16 : Int), t16 = doN (84 : Nat) (doE (100 : Nat) (doE (99 : Nat) (doE (84 : Nat) (dotE (mulI j1 j1) (mulI j2 j2)) j3 j3) j9 j11) j13 j13) j4 j5 → ∀ (j17 : Int), j17 = t16 → ∀ (t18 : Int), t18 = doN (84 : Nat) (doE (84 : Nat) (doE (100 : Nat) (doE (99 : Nat) (doE (84 : Nat) (dotE (mulI j1 j1) (mulI j2 j2)) j3 j3) j9 j11) j13 j13) j4 j5) j6 j17 → ∀ (j19 : Int), j19 = t18 → ∀ (t20 : Int), t20 = doN (84 : Nat) (doE (84 : Nat) (doE (84 : Nat) (doE (100 : Nat) (doE (99 : Nat) (doE (84 : Nat) (dotE (mulI j1 j1) (mulI j2 j2)) j3 j3) j9 j11) j13 j13) j4 j5) j6 j17) j19 j7 → ∀ (j21 : Int), j21 = t20 → ∀ (t22 : Int), t22 = doN (85 : Nat) (doE (84 : Nat) (doE (84 : Nat) (doE (84 : Nat) (doE (100 : Nat) (doE (99 : Nat) (doE (84 : Nat) (dotE (mulI j1 j1) (mulI j2 j2)) j3 j3) j9 j11) j13 j13) j4 j5) j6 j17) j19 j7) j21 j13 → ∀ (j23 : Int), j23 = t22 → ∀ (t24 : Int), t24 = doN (85 : Nat) (doE (85 : Nat) (doE (84 : Nat) (doE (84 : Nat) (doE (84 : Nat) (doE (100 : Nat) (doE (99 : Nat) (doE (84 : Nat) (dotE (mulI j1 j1) (mulI j2 j2)) j3 j3) j9 j11) j13 j13) j4 j5) j6 j17) j19 j7) j21 j13) j23 j15 → ∀ (j25 : Int), j25 = t24 → ∀ (t26 : Int), t26 = mulI j1 j25 → ∀ (t27 : Int), t27 = mulI j2 j25 → ∀ (t28 : Int), t28 = dotE (mulI j1 j1) (mulI j2 j2) → ∀ (t29 : Int), t29 = n2 t26 t27 t26 → ∀ (t30 : Int), t30 = n2 t26 t27 t27 → ∀ (t31 : Int), t31 = doE (84 : Nat) t28 j3 j3 → ∀ (t32 : Int), t32 = doE (99 : Nat) t31 j9 j11 → ∀ (t33 : Int), t33 = doE (100 : Nat) t32 j13 j13 → ∀ (t34 : Int), t34 = doE (84 : Nat) t33 j4 j5 → ∀ (t35 : Int), t35 = doE (84 : Nat) t34 j6 j17 → ∀ (t36 : Int), t36 = doE (84 : Nat) t35 j19 j7 → ∀ (t37 : Int), t37 = doE (85 : Nat) t36 j21 j13 → ∀ (t38 : Int), t38 = doE (85 : Nat) t37 j23 j15 → ∀ (t39 : Prop), t39 = pDo [IV.ptr (0 : Nat) (0 : Nat), IV.fn (84 : Nat) [], fx s, fx s] [some (Blk.var (152 : Nat) [IV.int IntKind.i64 t28])] → ∀ (t40 : Prop), t40 = pDo [IV.ptr (0 : Nat) (0 : Nat), IV.fn (99 : Nat) [], fx t8, fx t10] [some (Blk.var (152 : Nat) [IV.int IntKind.i64 t31])] → ∀ (t41 : Prop), t41 = pDo [IV.ptr (0 : Nat) (0 : Nat), IV.fn (84 : Nat) [], fx a, fx b] [some (Blk.var (152 : Nat) [IV.int IntKind.i64 t33])] → ∀ (t42 : Prop), t42 = pDo [IV.ptr (0 : Nat) (0 : Nat), IV.fn (84 : Nat) [], fx g, fx t16] [some (Blk.var (152 : Nat) [IV.int IntKind.i64 t34])] → ∀ (t43 : Prop), t43 = pDo [IV.ptr (0 : Nat) (0 : Nat), IV.fn (84 : Nat) [], fx t18, fx h] [some (Blk.var (152 : Nat) [IV.int IntKind.i64 t35])] → ∀ (t44 : Prop), t44 = pDo [IV.ptr (0 : Nat) (0 : Nat), IV.fn (85 : Nat) [], fx t20, fx t12] [some (Blk.var (152 : Nat) [IV.int IntKind.i64 t36])] → ∀ (t45 : Prop), t45 = pDo [IV.ptr (0 : Nat) (0 : Nat), IV.fn (85 : Nat) [], fx t22, fx t14] [some (Blk.var (152 : Nat) [IV.int IntKind.i64 t37])] → ∀ (t46 : St), t46 = St.mk (T (72 : Nat) [((0 : Nat), fx g), ((1 : Nat), fx a), ((2 : Nat), fx b), ((3 : Nat), vx x y), ((4 : Nat), fx s), ((5 : Nat), fx h), ((6 : Nat), IV.ptr (0 : Nat) (0 : Nat)), ((7 : Nat), IV.ptr (1 : Nat) (0 : Nat)), ((8 : Nat), IV.ptr (2 : Nat) (0 : Nat)), ((9 : Nat), IV.ptr (3 : Nat) (0 : Nat)), ((10 : Nat), IV.ptr (4 : Nat) (0 : Nat)), ((11 : Nat), IV.ptr (5 : Nat) (0 : Nat)), ((12 : Nat), IV.ptr (6 : Nat) (0 : Nat)), ((13 : Nat), IV.int IntKind.i64 (0 : Int)), ((14 : Nat), IV.ptr (7 : Nat) (0 : Nat)), ((15 : Nat), IV.int IntKind.i64 t28), ((16 : Nat), IV.ptr (8 : Nat) (0 : Nat)), ((17 : Nat), IV.ptr (9 : Nat) (0 : Nat)), ((21 : Nat), IV.tup [fx t8, IV.int IntKind.i64 t28]), ((22 : Nat), vx x y), ((23 : Nat), IV.tup [fx t8, IV.int IntKind.i64 t28]), ((24 : Nat), fx t8), ((25 : Nat), IV.int IntKind.i64 t28), ((26 : Nat), IV.int IntKind.i64 t28), ((27 : Nat), IV.agg [IV.int IntKind.i64 t28]), ((28 : Nat), IV.ptr (8 : Nat) (0 : Nat)), ((29 : Nat), IV.ptr (8 : Nat) (0 : Nat)), ((30 : Nat), fx t8), ((31 : Nat), IV.ptr (8 : Nat) (0 : Nat)), ((32 : Nat), fx s), ((33 : Nat), fx s), ((34 : Nat), fx t10), ((35 : Nat), fx t12)]) [some (Blk.var (28 : Nat) [IV.int IntKind.i64 (g / (18446744073709551616 : Int)), IV.int IntKind.u64 (g % (18446744073709551616 : Int))]), some (Blk.var (28 : Nat) [IV.int IntKind.i64 (a / (18446744073709551616 : Int)), IV.int IntKind.u64 (a % (18446744073709551616 : Int))]), some (Blk.var (28 : Nat) [IV.int IntKind.i64 (b / (18446744073709551616 : Int)), IV.int IntKind.u64 (b % (18446744073709551616 : Int))]), some (Blk.var (30 : Nat) [IV.int IntKind.i64 (x / (18446744073709551616 : Int)), IV.int IntKind.u64 (x % (18446744073709551616 : Int)), IV.int IntKind.i64 (y / (18446744073709551616 : Int)), IV.int IntKind.u64 (y % (18446744073709551616 : Int))]), some (Blk.var (28 : Nat) [IV.int IntKind.i64 (s / (18446744073709551616 : Int)), IV.int IntKind.u64 (s % (18446744073709551616 : Int))]), some (Blk.var (28 : Nat) [IV.int IntKind.i64 (h / (18446744073709551616 : Int)), IV.int IntKind.u64 (h % (18446744073709551616 : Int))]), some (Blk.var (30 : Nat) [IV.int IntKind.i64 (0 : Int), IV.int IntKind.u64 (0 : Int), IV.int IntKind.i64 (0 : Int), IV.int IntKind.u64 (0 : Int)]), some (Blk.var (28 : Nat) [IV.int IntKind.i64 (t8 / (18446744073709551616 : Int)), IV.int IntKind.u64 (t8 % (18446744073709551616 : Int))]), some (Blk.var (152 : Nat) [IV.int IntKind.i64 t32]), some (Blk.var (28 : Nat) [IV.int IntKind.i64 (t12 / (18446744073709551616 : Int)), IV.int IntKind.u64 (t12 % (18446744073709551616 : Int))])] → ∀ (t47 : St), t47 = St.mk (T (72 : Nat) [((0 : Nat), fx g), ((1 : Nat), fx a), ((2 : Nat), fx b), ((3 : Nat), vx x y), ((4 : Nat), fx s), ((5 : Nat), fx h), ((6 : Nat), IV.ptr (0 : Nat) (0 : Nat)), ((7 : Nat), IV.ptr (1 : Nat) (0 : Nat)), ((8 : Nat), IV.ptr (2 : Nat) (0 : Nat)), ((9 : Nat), IV.ptr (3 : Nat) (0 : Nat)), ((10 : Nat), IV.ptr (4 : Nat) (0 : Nat)), ((11 : Nat), IV.ptr (5 : Nat) (0 : Nat)), ((12 : Nat), IV.ptr (6 : Nat) (0 : Nat)), ((13 : Nat), IV.int IntKind.i64 (0 : Int)), ((14 : Nat), IV.ptr (7 : Nat) (0 : Nat)), ((15 : Nat), IV.int IntKind.i64 t28), ((16 : Nat), IV.ptr (8 : Nat) (0 : Nat)), ((17 : Nat), IV.ptr (9 : Nat) (0 : Nat)), ((18 : Nat), IV.ptr (10 : Nat) (0 : Nat)), ((19 : Nat), IV.ptr (11 : Nat) (0 : Nat)), ((21 : Nat), IV.tup [fx t8, IV.int IntKind.i64 t28]), ((22 : Nat), vx x y), ((23 : Nat), IV.tup [fx t8, IV.int IntKind.i64 t28]), ((24 : Nat), fx t8), ((25 : Nat), IV.int IntKind.i64 t28), ((26 : Nat), IV.int IntKind.i64 t28), ((27 : Nat), IV.agg [IV.int IntKind.i64 t28]), ((28 : Nat), IV.ptr (8 : Nat) (0 : Nat)), ((29 : Nat), IV.ptr (8 : Nat) (0 : Nat)), ((30 : Nat), fx t8), ((31 : Nat), IV.ptr (8 : Nat) (0 : Nat)), ((32 : Nat), fx s), ((33 : Nat), fx s), ((34 : Nat), fx t10), ((35 : Nat), fx t12), ((36 : Nat), IV.ptr (8 : Nat) (0 : Nat)), ((37 : Nat), fx t12), ((38 : Nat), fx t12), ((39 : Nat), fx t14), ((40 : Nat), IV.ptr (8 : Nat) (0 : Nat)), ((41 : Nat), IV.ptr (8 : Nat) (0 : Nat)), ((42 : Nat), fx g), ((43 : Nat), IV.ptr (8 : Nat) (0 : Nat)), ((44 : Nat), fx a), ((45 : Nat), fx b), ((46 : Nat), fx t16), ((47 : Nat), fx t18), ((48 : Nat), fx h), ((49 : Nat), fx t20)]) [some (Blk.var (28 : Nat) [IV.int IntKind.i64 (g / (18446744073709551616 : Int)), IV.int IntKind.u64 (g % (18446744073709551616 : Int))]), some (Blk.var (28 : Nat) [IV.int IntKind.i64 (a / (18446744073709551616 : Int)), IV.int IntKind.u64 (a % (18446744073709551616 : Int))]), some (Blk.var (28 : Nat) [IV.int IntKind.i64 (b / (18446744073709551616 : Int)), IV.int IntKind.u64 (b % (18446744073709551616 : Int))]), some (Blk.var (30 : Nat) [IV.int IntKind.i64 (x / (18446744073709551616 : Int)), IV.int IntKind.u64 (x % (18446744073709551616 : Int)), IV.int IntKind.i64 (y / (18446744073709551616 : Int)), IV.int IntKind.u64 (y % (18446744073709551616 : Int))]), some (Blk.var (28 : Nat) [IV.int IntKind.i64 (s / (18446744073709551616 : Int)), IV.int IntKind.u64 (s % (18446744073709551616 : Int))]), some (Blk.var (28 : Nat) [IV.int IntKind.i64 (h / (18446744073709551616 : Int)), IV.int IntKind.u64 (h % (18446744073709551616 : Int))]), some (Blk.var (30 : Nat) [IV.int IntKind.i64 (0 : Int), IV.int IntKind.u64 (0 : Int), IV.int IntKind.i64 (0 : Int), IV.int IntKind.u64 (0 : Int)]), some (Blk.var (28 : Nat) [IV.int IntKind.i64 (t8 / (18446744073709551616 : Int)), IV.int IntKind.u64 (t8 % (18446744073709551616 : Int))]), some (Blk.var (152 : Nat) [IV.int IntKind.i64 t36]), some (Blk.var (28 : Nat) [IV.int IntKind.i64 (t12 / (18446744073709551616 : Int)), IV.int IntKind.u64 (t12 % (18446744073709551616 : Int))]), some (Blk.var (28 : Nat) [IV.int IntKind.i64 (t14 / (18446744073709551616 : Int)), IV.int IntKind.u64 (t14 % (18446744073709551616 : Int))]), some (Blk.var (28 : Nat) [IV.int IntKind.i64 (t20 / (18446744073709551616 : Int)), IV.int IntKind.u64 (t20 % (18446744073709551616 : Int))])] → ∀ (t48 : St), t48 = St.mk (T (72 : Nat) [((0 : Nat), fx g), ((1 : Nat), fx a), ((2 : Nat), fx b), ((3 : Nat), vx x y), ((4 : Nat), fx s), ((5 : Nat), fx h), ((6 : Nat), IV.ptr (0 : Nat) (0 : Nat)), ((7 : Nat), IV.ptr (1 : Nat) (0 : Nat)), ((8 : Nat), IV.ptr (2 : Nat) (0 : Nat)), ((9 : Nat), IV.ptr (3 : Nat) (0 : Nat)), ((10 : Nat), IV.ptr (4 : Nat) (0 : Nat)), ((11 : Nat), IV.ptr (5 : Nat) (0 : Nat)), ((12 : Nat), IV.ptr (6 : Nat) (0 : Nat)), ((13 : Nat), IV.int IntKind.i64 (0 : Int)), ((14 : Nat), IV.ptr (7 : Nat) (0 : Nat)), ((15 : Nat), IV.int IntKind.i64 t28), ((16 : Nat), IV.ptr (8 : Nat) (0 : Nat)), ((17 : Nat), IV.ptr (9 : Nat) (0 : Nat)), ((18 : Nat), IV.ptr (10 : Nat) (0 : Nat)), ((19 : Nat), IV.ptr (11 : Nat) (0 : Nat)), ((20 : Nat), IV.ptr (12 : Nat) (0 : Nat)), ((21 : Nat), IV.tup [fx t8, IV.int IntKind.i64 t28]), ((22 : Nat), vx x y), ((23 : Nat), IV.tup [fx t8, IV.int IntKind.i64 t28]), ((24 : Nat), fx t8), ((25 : Nat), IV.int IntKind.i64 t28), ((26 : Nat), IV.int IntKind.i64 t28), ((27 : Nat), IV.agg [IV.int IntKind.i64 t28]), ((28 : Nat), IV.ptr (8 : Nat) (0 : Nat)), ((29 : Nat), IV.ptr (8 : Nat) (0 : Nat)), ((30 : Nat), fx t8), ((31 : Nat), IV.ptr (8 : Nat) (0 : Nat)), ((32 : Nat), fx s), ((33 : Nat), fx s), ((34 : Nat), fx t10), ((35 : Nat), fx t12), ((36 : Nat), IV.ptr (8 : Nat) (0 : Nat)), ((37 : Nat), fx t12), ((38 : Nat), fx t12), ((39 : Nat), fx t14), ((40 : Nat), IV.ptr (8 : Nat) (0 : Nat)), ((41 : Nat), IV.ptr (8 : Nat) (0 : Nat)), ((42 : Nat), fx g), ((43 : Nat), IV.ptr (8 : Nat) (0 : Nat)), ((44 : Nat), fx a), ((45 : Nat), fx b), ((46 : Nat), fx t16), ((47 : Nat), fx t18), ((48 : Nat), fx h), ((49 : Nat), fx t20), ((50 : Nat), IV.ptr (8 : Nat) (0 : Nat)), ((51 : Nat), IV.ptr (8 : Nat) (0 : Nat)), ((52 : Nat), fx t20), ((53 : Nat), fx t12), ((54 : Nat), fx t22), ((55 : Nat), fx t14), ((56 : Nat), fx t24)]) [some (Blk.var (28 : Nat) [IV.int IntKind.i64 (g / (18446744073709551616 : Int)), IV.int IntKind.u64 (g % (18446744073709551616 : Int))]), some (Blk.var (28 : Nat) [IV.int IntKind.i64 (a / (18446744073709551616 : Int)), IV.int IntKind.u64 (a % (18446744073709551616 : Int))]), some (Blk.var (28 : Nat) [IV.int IntKind.i64 (b / (18446744073709551616 : Int)), IV.int IntKind.u64 (b % (18446744073709551616 : Int))]), some (Blk.var (30 : Nat) [IV.int IntKind.i64 (x / (18446744073709551616 : Int)), IV.int IntKind.u64 (x % (18446744073709551616 : Int)), IV.int IntKind.i64 (y / (18446744073709551616 : Int)), IV.int IntKind.u64 (y % (18446744073709551616 : Int))]), some (Blk.var (28 : Nat) [IV.int IntKind.i64 (s / (18446744073709551616 : Int)), IV.int IntKind.u64 (s % (18446744073709551616 : Int))]), some (Blk.var (28 : Nat) [IV.int IntKind.i64 (h / (18446744073709551616 : Int)), IV.int IntKind.u64 (h % (18446744073709551616 : Int))]), some (Blk.var (30 : Nat) [IV.int IntKind.i64 (0 : Int), IV.int IntKind.u64 (0 : Int), IV.int IntKind.i64 (0 : Int), IV.int IntKind.u64 (0 : Int)]), some (Blk.var (28 : Nat) [IV.int IntKind.i64 (t8 / (18446744073709551616 : Int)), IV.int IntKind.u64 (t8 % (18446744073709551616 : Int))]), some (Blk.var (152 : Nat) [IV.int IntKind.i64 t38]), some (Blk.var (28 : Nat) [IV.int IntKind.i64 (t12 / (18446744073709551616 : Int)), IV.int IntKind.u64 (t12 % (18446744073709551616 : Int))]), some (Blk.var (28 : Nat) [IV.int IntKind.i64 (t14 / (18446744073709551616 : Int)), IV.int IntKind.u64 (t14 % (18446744073709551616 : Int))]), some (Blk.var (28 : Nat) [IV.int IntKind.i64 (t20 / (18446744073709551616 : Int)), IV.int IntKind.u64 (t20 % (18446744073709551616 : Int))]), some (Blk.var (28 : Nat) [IV.int IntKind.i64 (t24 / (18446744073709551616 : Int)), IV.int IntKind.u64 (t24 % (18446744073709551616 : Int))])] → vmay1 [vx x y] [] ∧ t39 ∧ t40 ∧ ((t39 ∧ (t40 ∧ t46 = t46) ∧ t40 ∧ t46 = t46) ∧ t39 ∧ t40 ∧ t46 = t46) ∧ pDo [IV.ptr (0 : Nat) (0 : Nat), IV.fn (100 : Nat) [], fx t12, fx t12] [some (Blk.var (152 : Nat) [IV.int IntKind.i64 t32])] ∧ t41 ∧ t42 ∧ t43 ∧ ((t41 ∧ (t42 ∧ (t43 ∧ t47 = t47) ∧ t43 ∧ t47 = t47) ∧ t42 ∧ t43 ∧ t47 = t47) ∧ t41 ∧ t42 ∧ t43 ∧ t47 = t47) ∧ t44 ∧ t45 ∧ ((t44 ∧ (t45 ∧ t48 = t48) ∧ t45 ∧ t48 = t48) ∧ t44 ∧ t45 ∧ t48 = t48) ∧ br (t38 != (0 : Int)) (((((K (IV.tup [IV.agg [IV.int IntKind.i64 (0 : Int), IV.int IntKind.u64 (0 : Int), IV.int IntKind.i64 (0 : Int), IV.int IntKind.u64 (0 : Int)], IV.int IntKind.i64 t38]) [] ∧ K (IV.tup [IV.agg [IV.int IntKind.i64 (0 : Int), IV.int IntKind.u64 (0 : Int), IV.int IntKind.i64 (0 : Int), IV.int IntKind.u64 (0 : Int)], IV.int IntKind.i64 t38]) []) ∧ K (IV.tup [IV.agg [IV.int IntKind.i64 (0 : Int), IV.int IntKind.u64 (0 : Int), IV.int IntKind.i64 (0 : Int), IV.int IntKind.u64 (0 : Int)], IV.int IntKind.i64 t38]) []) ∧ K (IV.tup [IV.agg [IV.int IntKind.i64 (0 : Int), IV.int IntKind.u64 (0 : Int), IV.int IntKind.i64 (0 : Int), IV.int IntKind.u64 (0 : Int)], IV.int IntKind.i64 t38]) []) ∧ K (IV.tup [IV.agg [IV.int IntKind.i64 (0 : Int), IV.int IntKind.u64 (0 : Int), IV.int IntKind.i64 (0 : Int), IV.int IntKind.u64 (0 : Int)], IV.int IntKind.i64 t38]) []) ∧ (((K (IV.tup [IV.agg [IV.int IntKind.i64 (0 : Int), IV.int IntKind.u64 (0 : Int), IV.int IntKind.i64 (0 : Int), IV.int IntKind.u64 (0 : Int)], IV.int IntKind.i64 t38]) [] ∧ K (IV.tup [IV.agg [IV.int IntKind.i64 (0 : Int), IV.int IntKind.u64 (0 : Int), IV.int IntKind.i64 (0 : Int), IV.int IntKind.u64 (0 : Int)], IV.int IntKind.i64 t38]) []) ∧ K (IV.tup [IV.agg [IV.int IntKind.i64 (0 : Int), IV.int IntKind.u64 (0 : Int), IV.int IntKind.i64 (0 : Int), IV.int IntKind.u64 (0 : Int)], IV.int IntKind.i64 t38]) []) ∧ K (IV.tup [IV.agg [IV.int IntKind.i64 (0 : Int), IV.int IntKind.u64 (0 : Int), IV.int IntKind.i64 (0 : Int), IV.int IntKind.u64 (0 : Int)], IV.int IntKind.i64 t38]) []) ∧ ((K (IV.tup [IV.agg [IV.int IntKind.i64 (0 : Int), IV.int IntKind.u64 (0 : Int), IV.int IntKind.i64 (0 : Int), IV.int IntKind.u64 (0 : Int)], IV.int IntKind.i64 t38]) [] ∧ K (IV.tup [IV.agg [IV.int IntKind.i64 (0 : Int), IV.int IntKind.u64 (0 : Int), IV.int IntKind.i64 (0 : Int), IV.int IntKind.u64 (0 : Int)], IV.int IntKind.i64 t38]) []) ∧ K (IV.tup [IV.agg [IV.int IntKind.i64 (0 : Int), IV.int IntKind.u64 (0 : Int), IV.int IntKind.i64 (0 : Int), IV.int IntKind.u64 (0 : Int)], IV.int IntKind.i64 t38]) []) ∧ (K (IV.tup [IV.agg [IV.int IntKind.i64 (0 : Int), IV.int IntKind.u64 (0 : Int), IV.int IntKind.i64 (0 : Int), IV.int IntKind.u64 (0 : Int)], IV.int IntKind.i64 t38]) [] ∧ K (IV.tup [IV.agg [IV.int IntKind.i64 (0 : Int), IV.int IntKind.u64 (0 : Int), IV.int IntKind.i64 (0 : Int), IV.int IntKind.u64 (0 : Int)], IV.int IntKind.i64 t38]) []) ∧ K (IV.tup [IV.agg [IV.int IntKind.i64 (0 : Int), IV.int IntKind.u64 (0 : Int), IV.int IntKind.i64 (0 : Int), IV.int IntKind.u64 (0 : Int)], IV.int IntKind.i64 t38]) []) (vmayk [vx x y, fx t24] [] ∧ K (IV.tup [vx t29 t30, IV.int IntKind.i64 (e2 t26 t27)]) [])) := by refine nj ?_; refine nj ?_; refine nj ?_; refine nj ?_; refine nj ?_; refine nj ?_; refine nj ?_; refine nm ?_; refine nj ?_; refine nm ?_; refine nj ?_; refine nm ?_; refine nj ?_; refine nm ?_; refine nj ?_; refine nm ?_; refine nj ?_; refine nm ?_; refine nj ?_; refine nm ?_; refine nj ?_; refine nm ?_; refine nj ?_; refine nm ?_; refine nj ?_; refine nm ?_; refine nm ?_; refine nm ?_; refine nm ?_; refine nm ?_; refine nm ?_; refine nm ?_; refine nm ?_; refine nm ?_; refine nm ?_; refine nm ?_; refine nm ?_; refine nm ?_; refine nm ?_; refine nm ?_; refine nm ?_; refine nm ?_; refine nm ?_; refine nm ?_; refine nm ?_; refine nm ?_; refine nm ?_; refine nm ?_; kernel_rfl
theorem v_r10_Pull (g a b x y s h : Int) (K : IV → List Blk → Prop) : (comes Try.prog Nt3 3 f_perigeeref10_Pull [fx g, fx a, fx b, vx x y, fx s, fx h] [] K) = (∀ (j1 : Int), j1 = x → ∀ (j2 : Int), j2 = y → ∀ (j3 : Int), j3 = s → ∀ (j4 : Int), j4 = a → ∀ (j5 : Int), j5 = b → ∀ (j6 : Int), j6 = g → ∀ (j7 : Int), j7 = h → ∀ (t8 : Int), t8 = numF (mulI j3 j3) → ∀ (j9 : Int), j9 = t8 → ∀ (t10 : Int), t10 = numF (mulI j4 j5) → ∀ (j11 : Int), j11 = t10 → ∀ (t12 : Int), t12 = numF (mulI j6 j11) → ∀ (j13 : Int), j13 = t12 → ∀ (t14 : Int), t14 = numF (mulI j13 j7) → ∀ (j15 : Int), j15 = t14 → ∀ (t16 : Int), t16 = dotN (mulI j1 j1) (mulI j2 j2) → ∀ (j17 : Int), j17 = t16 → ∀ (t18 : Int), t18 = numF (j17 + j9) → ∀ (j19 : Int), j19 = t18 → ∀ (t20 : Int), t20 = sqN j19 → ∀ (j21 : Int), j21 = t20 → ∀ (t22 : Int), t22 = divN j15 j19 → ∀ (j23 : Int), j23 = t22 → ∀ (t24 : Int), t24 = divN j23 j21 → ∀ (j25 : Int), j25 = t24 → ∀ (t26 : Int), t26 = sqE j19 → ∀ (t27 : Int), t27 = divE j15 j19 → ∀ (t28 : Int), t28 = divE j23 j21 → ∀ (t29 : Int), t29 = mulI j1 j25 → ∀ (t30 : Int), t30 = mulI j2 j25 → ∀ (t31 : Int), t31 = errF (mulI j3 j3) → ∀ (t32 : Int), t32 = errF (mulI j4 j5) → ∀ (t33 : Int), t33 = errF (mulI j6 j11) → ∀ (t34 : Int), t34 = errF (mulI j13 j7) → ∀ (t35 : Int), t35 = dotE (mulI j1 j1) (mulI j2 j2) → ∀ (t36 : Int), t36 = errF (j17 + j9) → ∀ (t37 : Int), t37 = n2 t29 t30 t29 → ∀ (t38 : Int), t38 = n2 t29 t30 t30 → vmay1 [vx x y] [] ∧ br (t35 != (0 : Int)) (K (IV.agg [IV.int IntKind.i64 (0 : Int), IV.int IntKind.u64 (0 : Int), IV.int IntKind.i64 (0 : Int), IV.int IntKind.u64 (0 : Int), IV.int IntKind.i64 t35]) []) (may2 [fx s, fx s] [] ∧ br (t31 != (0 : Int)) (K (IV.agg [IV.int IntKind.i64 (0 : Int), IV.int IntKind.u64 (0 : Int), IV.int IntKind.i64 (0 : Int), IV.int IntKind.u64 (0 : Int), IV.int IntKind.i64 t31]) []) (may2 [fx t16, fx t8] [] ∧ br (t36 != (0 : Int)) (K (IV.agg [IV.int IntKind.i64 (0 : Int), IV.int IntKind.u64 (0 : Int), IV.int IntKind.i64 (0 : Int), IV.int IntKind.u64 (0 : Int), IV.int IntKind.i64 t36]) []) (may1 [fx t18] [] ∧ br (t26 != (0 : Int)) (K (IV.agg [IV.int IntKind.i64 (0 : Int), IV.int IntKind.u64 (0 : Int), IV.int IntKind.i64 (0 : Int), IV.int IntKind.u64 (0 : Int), IV.int IntKind.i64 t26]) []) (may2 [fx a, fx b] [] ∧ br (t32 != (0 : Int)) (K (IV.agg [IV.int IntKind.i64 (0 : Int), IV.int IntKind.u64 (0 : Int), IV.int IntKind.i64 (0 : Int), IV.int IntKind.u64 (0 : Int), IV.int IntKind.i64 t32]) []) (may2 [fx g, fx t10] [] ∧ br (t33 != (0 : Int)) (K (IV.agg [IV.int IntKind.i64 (0 : Int), IV.int IntKind.u64 (0 : Int), IV.int IntKind.i64 (0 : Int), IV.int IntKind.u64 (0 : Int), IV.int IntKind.i64 t33]) []) (may2 [fx t12, fx h] [] ∧ br (t34 != (0 : Int)) (K (IV.agg [IV.int IntKind.i64 (0 : Int), IV.int IntKind.u64 (0 : Int), IV.int IntKind.i64 (0 : Int), IV.int IntKind.u64 (0 : Int), IV.int IntKind.i64 t34]) []) (may2 [fx t14, fx t18] [] ∧ br (t27 != (0 : Int)) (K (IV.agg [IV.int IntKind.i64 (0 : Int), IV.int IntKind.u64 (0 : Int), IV.int IntKind.i64 (0 : Int), IV.int IntKind.u64 (0 : Int), IV.int IntKind.i64 t27]) []) (may2 [fx t22, fx t20] [] ∧ br (t28 != (0 : Int)) (K (IV.agg [IV.int IntKind.i64 (0 : Int), IV.int IntKind.u64 (0 : Int), IV.int IntKind.i64 (0 : Int), IV.int IntKind.u64 (0 : Int), IV.int IntKind.i64 t28]) []) (vmayk [vx x y, fx t24] [] ∧ K (IV.agg [IV.int IntKind.i64 (t37 / (18446744073709551616 : Int)), IV.int IntKind.u64 (t37 % (18446744073709551616 : Int)), IV.int IntKind.i64 (t38 / (18446744073709551616 : Int)), IV.int IntKind.u64 (t38 % (18446744073709551616 : Int)), IV.int IntKind.i64 (e2 t29 t30)]) [])))))))))) := by refine nj ?_; refine nj ?_; refine nj ?_; refine nj ?_; refine nj ?_; refine nj ?_; refine nj ?_; refine nm ?_; refine nj ?_; refine nm ?_; refine nj ?_; refine nm ?_; refine nj ?_; refine nm ?_; refine nj ?_; refine nm ?_; refine nj ?_; refine nm ?_; refine nj ?_; refine nm ?_; refine nj ?_; refine nm ?_; refine nj ?_; refine nm ?_; refine nj ?_; refine nm ?_; refine nm ?_; refine nm ?_; refine nm ?_; refine nm ?_; refine nm ?_; refine nm ?_; refine nm ?_; refine nm ?_; refine nm ?_; refine nm ?_; refine nm ?_; refine nm ?_; kernel_rfl
end Go.Vs.RF


set_option linter.unusedVariables false
set_option linter.unusedSimpArgs false
set_option maxRecDepth 100000
/- pair: what is proved of it -/
namespace Go.Vs.RF
open Go Go.Proofs Go.Vs Go.IntWalk

theorem div_is (x y : Int) : mayF (divN x y) := by
  unfold divN; split
  · unfold mayF; omega
  · exact num_is _
theorem sq_is {x : Int} (h : mayF x) : mayF (sqN x) := (sqN_may h).1
theorem know3 : KnowOk Try.prog Nt3 3 := knowOf (fun g sp h => ctrst3 h) (fun _ _ => rfl) (fun _ => rfl) 3
theorem funDo : FunOk Try.prog f_pair_reckoner_do Gdo := by
  refine funOk_gc (N := Nt3) 3 know3 ?_
  rintro args b K ⟨⟨f, a, c, e, rfl, rfl, ho, ha, hc⟩, hK⟩
  rw [v2_fx _ a 2 rfl, v2_fx _ c 3 rfl, show argFn _ 1 = f from rfl, show argC _ 0 0 = e from rfl] at hK
  rcases ho with rfl | rfl | rfl | rfl
  · show runFn Try.prog Nt3 3 f_pair_reckoner_do _ _ (fun v b1 => gcV 1 v b1 K)
    rw [v_doAdd]
    rintro x rfl y rfl t3 rfl
    rw [br_bne]
    refine ⟨fun h => ?_, fun h => ⟨may2_of ha hc, ?_⟩⟩
    · unfold doN doE at hK; rw [if_neg h, if_neg h] at hK; exact hK
    · subst h; exact hK
  · show runFn Try.prog Nt3 3 f_pair_reckoner_do _ _ (fun v b1 => gcV 1 v b1 K)
    rw [v_doMul]
    rintro x rfl y rfl t3 rfl t4 rfl
    rw [br_bne]
    refine ⟨fun h => ?_, fun h => ⟨may2_of ha hc, ?_⟩⟩
    · unfold doN doE at hK; rw [if_neg h, if_neg h] at hK; exact hK
    · subst h; exact hK
  · show runFn Try.prog Nt3 3 f_pair_reckoner_do _ _ (fun v b1 => gcV 1 v b1 K)
    rw [v_doDiv]
    rintro x rfl y rfl t3 rfl
    rw [br_bne]
    refine ⟨fun h => ?_, fun h => ⟨may2_of ha hc, ?_⟩⟩
    · unfold doN doE at hK; rw [if_neg h, if_neg h] at hK; exact hK
    · subst h; exact hK
  · show runFn Try.prog Nt3 3 f_pair_reckoner_do _ _ (fun v b1 => gcV 1 v b1 K)
    rw [v_doSq]
    rintro x rfl t3 rfl
    rw [br_bne]
    refine ⟨fun h => ?_, fun h => ⟨may1_of ha, ?_⟩⟩
    · unfold doN doE at hK; rw [if_neg h, if_neg h] at hK; exact hK
    · subst h; exact hK
theorem knowDo : KnowOk Try.prog Ndo 3 := by
  refine ⟨mixedOrders, fun g sp h => ctrst3 h, loops_none (fun _ _ => rfl) 3, fun g G h => ?_⟩
  simp only [Ndo] at h
  split at h
  · rename_i hg; subst hg; cases h; exact funDo
  · cases h
theorem doN_is {f : FuncId} {e a b : Int} (hf : opOk f) (ha : mayF a) : mayF (doN f e a b) := by
  unfold doN; split
  · unfold opNs opN
    rcases hf with rfl | rfl | rfl | rfl
    · exact num_is _
    · exact num_is _
    · exact div_is _ _
    · exact sq_is ha
  · unfold mayF; omega
theorem pl_F (g a b x y s h : Int) : spPull.F [fx g, fx a, fx b, vx x y, fx s, fx h] [] = (.tup [vx (plX g a b x y s h) (plY g a b x y s h), .int .i64 (plE g a b x y s h)], []) := by
  show (IV.tup [vx (plX (v2 _ 0) (v2 _ 1) (v2 _ 2) (v2 _ 3) (vy _ 3) (v2 _ 4) (v2 _ 5)) (plY (v2 _ 0) (v2 _ 1) (v2 _ 2) (v2 _ 3) (vy _ 3) (v2 _ 4) (v2 _ 5)), .int .i64 (plE (v2 _ 0) (v2 _ 1) (v2 _ 2) (v2 _ 3) (vy _ 3) (v2 _ 4) (v2 _ 5))], ([] : List Blk)) = _
  rw [v2_fx _ g 0 rfl, v2_fx _ a 1 rfl, v2_fx _ b 2 rfl, (v_vx _ x y 3 rfl).1, (v_vx _ x y 3 rfl).2, v2_fx _ s 4 rfl, v2_fx _ h 5 rfl]
theorem rpl_F (g a b x y s h : Int) : spRPull.F [fx g, fx a, fx b, vx x y, fx s, fx h] [] = (wayG (plX g a b x y s h) (plY g a b x y s h) (plE g a b x y s h), []) := by
  show (wayG (plX (v2 _ 0) (v2 _ 1) (v2 _ 2) (v2 _ 3) (vy _ 3) (v2 _ 4) (v2 _ 5)) (plY (v2 _ 0) (v2 _ 1) (v2 _ 2) (v2 _ 3) (vy _ 3) (v2 _ 4) (v2 _ 5)) (plE (v2 _ 0) (v2 _ 1) (v2 _ 2) (v2 _ 3) (vy _ 3) (v2 _ 4) (v2 _ 5)), ([] : List Blk)) = _
  rw [v2_fx _ g 0 rfl, v2_fx _ a 1 rfl, v2_fx _ b 2 rfl, (v_vx _ x y 3 rfl).1, (v_vx _ x y 3 rfl).2, v2_fx _ s 4 rfl, v2_fx _ h 5 rfl]
theorem pDo_of {f : FuncId} {a c e : Int} (hf : opOk f) (ha : mayF a) (hc : mayF c) : pDo [.ptr 0 0, .fn f [], fx a, fx c] [some (.var t_pair_reckoner [.int .i64 e])] := ⟨f, a, c, e, rfl, rfl, hf, ha, hc⟩
theorem o_mul : opOk f_fix_Mul := .inr (.inl rfl)
theorem o_add : opOk f_fix_Add := .inl rfl
theorem o_div : opOk f_fix_Div := .inr (.inr (.inl rfl))
theorem o_sq : opOk f_pair_Pull_1 := .inr (.inr (.inr rfl))
theorem br_all {c : Bool} {A A' B : Prop} (h : A → A') (k : br c A B) : br c A' B := by cases c; exact k; exact h k
set_option maxHeartbeats 4000000 in
theorem c_Pull : Contract Try.prog f_pair_Pull spPull := by
  refine contract_of (N := Ndo) 3 knowDo ?_
  intro l bs _ _ hp
  obtain ⟨g, a, b, x, y, s, h, rfl, rfl, hg, ha, hb, ⟨hx, hy⟩, hs, hh⟩ := hp
  rw [pl_F, v_Pull]
  rintro x rfl y rfl s rfl a rfl b rfl g rfl h rfl t8 e8 j9 rfl t10 e10 j11 rfl t12 e12 j13 rfl t14 e14 j15 rfl t16 e16 j17 rfl t18 e18 j19 rfl t20 e20 j21 rfl t22 e22 j23 rfl t24 e24 j25 rfl t26 e26 t27 e27 t28 e28 t29 e29 t30 e30 t31 e31 t32 e32 t33 e33 t34 e34 t35 e35 t36 e36 t37 e37 t38 e38 t39 e39 t40 e40 t41 e41 t42 e42 t43 e43 t44 e44 t45 e45 t46 e46 t47 e47 t48 e48
  have k25 : j25 = kN g a b x y s h := by rw [e24, e22, e20, e18, e16, e14, e12, e10, e8]; rfl
  have k38 : t38 = kE g a b x y s h := by rw [e38, e37, e36, e35, e34, e33, e32, e31, e28, e22, e20, e18, e16, e14, e12, e10, e8]; rfl
  have m9 : mayF j9 := by rw [e8]; exact dotN_is _ _
  have m11 : mayF j11 := by rw [e10]; exact doN_is o_mul hs
  have m13 : mayF j13 := by rw [e12]; exact doN_is o_add m9
  have m15 : mayF j15 := by rw [e14]; exact doN_is o_sq m13
  have m17 : mayF j17 := by rw [e16]; exact doN_is o_mul ha
  have m19 : mayF j19 := by rw [e18]; exact doN_is o_mul hg
  have m21 : mayF j21 := by rw [e20]; exact doN_is o_mul m19
  have m23 : mayF j23 := by rw [e22]; exact doN_is o_div m21
  have m25 : mayF j25 := by rw [e24]; exact doN_is o_div m23
  have p39 : t39 := by rw [e39]; exact pDo_of o_mul hs hs
  have p40 : t40 := by rw [e40]; exact pDo_of o_add m9 m11
  have p41 : t41 := by rw [e41]; exact pDo_of o_mul ha hb
  have p42 : t42 := by rw [e42]; exact pDo_of o_mul hg m17
  have p43 : t43 := by rw [e43]; exact pDo_of o_mul m19 hh
  have p44 : t44 := by rw [e44]; exact pDo_of o_div m21 m13
  have p45 : t45 := by rw [e45]; exact pDo_of o_div m23 m15
  refine ⟨vmay1_of hx hy, p39, p40, ⟨⟨p39, ⟨p40, rfl⟩, p40, rfl⟩, p39, p40, rfl⟩, pDo_of o_sq m13 m13, p41, p42, p43, ⟨⟨p41, ⟨p42, ⟨p43, rfl⟩, p43, rfl⟩, p42, p43, rfl⟩, p41, p42, p43, rfl⟩, p44, p45, ⟨⟨p44, ⟨p45, rfl⟩, p45, rfl⟩, p44, p45, rfl⟩, ?_⟩
  rw [br_bne]
  unfold plX plY plE
  rw [seal_eq, seal_eq, seal_eq, ← k38, ← k25]
  refine ⟨fun h => ?_, fun h => ⟨vmayk_of hx hy m25, ?_⟩⟩
  · rw [if_neg h, if_neg h, if_neg h]
    simp only [and_self]
    rfl
  · rw [if_pos h, if_pos h, if_pos h, e29, e30, e26, e27]
theorem doE_n {f : FuncId} {e a b : Int} (h : e ≠ 0) : doE f e a b = e := if_neg h
theorem doE_z (f : FuncId) (a b : Int) : doE f 0 a b = opE f a b := if_pos rfl
theorem doN_z (f : FuncId) (a b : Int) : doN f 0 a b = opNs f a b := if_pos rfl
section
variable {n e s a b g h : Int}
theorem st7 (z : q7E n e s a b g h ≠ 0) : q8E n e s a b g h = q7E n e s a b g h := doE_n z
theorem st6 (z : q6E n e s a b g h ≠ 0) : q8E n e s a b g h = q6E n e s a b g h := by
  have k : q7E n e s a b g h = q6E n e s a b g h := doE_n z
  rw [st7 (by rw [k]; exact z), k]
theorem st5 (z : q5E n e s a b g ≠ 0) : q8E n e s a b g h = q5E n e s a b g := by
  have k : q6E n e s a b g h = q5E n e s a b g := doE_n z
  rw [st6 (by rw [k]; exact z), k]
theorem st4 (z : q4E n e s a b ≠ 0) : q8E n e s a b g h = q4E n e s a b := by
  have k : q5E n e s a b g = q4E n e s a b := doE_n z
  rw [st5 (by rw [k]; exact z), k]
theorem st3 (z : q3E n e s ≠ 0) : q8E n e s a b g h = q3E n e s := by
  have k : q4E n e s a b = q3E n e s := doE_n z
  rw [st4 (by rw [k]; exact z), k]
theorem st2 (z : q2e n e s ≠ 0) : q8E n e s a b g h = q2e n e s := by
  have k : q3E n e s = q2e n e s := doE_n z
  rw [st3 (by rw [k]; exact z), k]
theorem st1 (z : q1E e s ≠ 0) : q8E n e s a b g h = q1E e s := by
  have k : q2e n e s = q1E e s := doE_n z
  rw [st2 (by rw [k]; exact z), k]
theorem st0 (z : e ≠ 0) : q8E n e s a b g h = e := by
  have k : q1E e s = e := doE_n z
  rw [st1 (by rw [k]; exact z), k]
end
set_option maxHeartbeats 4000000 in
theorem c_r_Pull : Contract Try.prog f_perigeeref10_Pull spRPull := by
  refine contract_of (N := Nt3) 3 know3 ?_
  intro l bs _ _ hp
  obtain ⟨g, a, b, x, y, s, h, rfl, rfl, hg, ha, hb, ⟨hx, hy⟩, hs, hh⟩ := hp
  rw [rpl_F, v_r10_Pull]
  rintro x rfl y rfl s rfl a rfl b rfl g rfl h rfl t8 e8 j9 rfl t10 e10 j11 rfl t12 e12 j13 rfl t14 e14 j15 rfl t16 e16 j17 rfl t18 e18 j19 rfl t20 e20 j21 rfl t22 e22 j23 rfl t24 e24 j25 rfl t26 e26 t27 e27 t28 e28 t29 e29 t30 e30 t31 e31 t32 e32 t33 e33 t34 e34 t35 e35 t36 e36 t37 e37 t38 e38
  have m9 : mayF j9 := by rw [e8]; exact num_is _
  have m11 : mayF j11 := by rw [e10]; exact num_is _
  have m13 : mayF j13 := by rw [e12]; exact num_is _
  have m15 : mayF j15 := by rw [e14]; exact num_is _
  have m17 : mayF j17 := by rw [e16]; exact dotN_is _ _
  have m19 : mayF j19 := by rw [e18]; exact num_is _
  have m21 : mayF j21 := by rw [e20]; exact sq_is m19
  have m23 : mayF j23 := by rw [e22]; exact div_is _ _
  have m25 : mayF j25 := by rw [e24]; exact div_is _ _
  have stop : ∀ {e : Int}, e ≠ 0 → kE g a b x y s h = e → (wayG (plX g a b x y s h) (plY g a b x y s h) (plE g a b x y s h), ([] : List Blk)) = (wayG 0 0 e, []) := by
    intro e he hk
    unfold plX plY plE
    rw [seal_eq, seal_eq, seal_eq, hk, if_neg he, if_neg he, if_neg he]
  unfold kE at stop
  rw [← e16, ← e35] at stop
  refine ⟨vmay1_of hx hy, ?_⟩
  rw [br_bne]
  refine ⟨fun z => stop z (st0 z), fun z0 => ⟨may2_of hs hs, ?_⟩⟩
  have u1 : q1E t35 s = t31 := by rw [z0, e31]; exact doE_z _ _ _
  have w1 : q1N t35 s = j9 := by rw [z0, e8]; exact doN_z _ _ _
  rw [br_bne]
  refine ⟨fun z => stop z (by rw [st1 (by rw [u1]; exact z), u1]), fun z1 => ⟨may2_of m17 m9, ?_⟩⟩
  have u2 : q2e j17 t35 s = t36 := by unfold q2e q2E; rw [u1, w1, z1, e36]; exact doE_z _ _ _
  have w2 : q2N j17 t35 s = j19 := by unfold q2N; rw [u1, w1, z1, e18]; exact doN_z _ _ _
  rw [br_bne]
  refine ⟨fun z => stop z (by rw [st2 (by rw [u2]; exact z), u2]), fun z2 => ⟨may1_of m19, ?_⟩⟩
  have u3 : q3E j17 t35 s = t26 := by unfold q3E; rw [u2, w2, z2, e26]; exact doE_z _ _ _
  have w3 : q3N j17 t35 s = j21 := by unfold q3N; rw [u2, w2, z2, e20]; exact doN_z _ _ _
  rw [br_bne]
  refine ⟨fun z => stop z (by rw [st3 (by rw [u3]; exact z), u3]), fun z3 => ⟨may2_of ha hb, ?_⟩⟩
  have u4 : q4E j17 t35 s a b = t32 := by unfold q4E; rw [u3, z3, e32]; exact doE_z _ _ _
  have w4 : q4N j17 t35 s a b = j11 := by unfold q4N; rw [u3, z3, e10]; exact doN_z _ _ _
  rw [br_bne]
  refine ⟨fun z => stop z (by rw [st4 (by rw [u4]; exact z), u4]), fun z4 => ⟨may2_of hg m11, ?_⟩⟩
  have u5 : q5E j17 t35 s a b g = t33 := by unfold q5E; rw [u4, w4, z4, e33]; exact doE_z _ _ _
  have w5 : q5N j17 t35 s a b g = j13 := by unfold q5N; rw [u4, w4, z4, e12]; exact doN_z _ _ _
  rw [br_bne]
  refine ⟨fun z => stop z (by rw [st5 (by rw [u5]; exact z), u5]), fun z5 => ⟨may2_of m13 hh, ?_⟩⟩
  have u6 : q6E j17 t35 s a b g h = t34 := by unfold q6E; rw [u5, w5, z5, e34]; exact doE_z _ _ _
  have w6 : q6N j17 t35 s a b g h = j15 := by unfold q6N; rw [u5, w5, z5, e14]; exact doN_z _ _ _
  rw [br_bne]
  refine ⟨fun z => stop z (by rw [st6 (by rw [u6]; exact z), u6]), fun z6 => ⟨may2_of m15 m19, ?_⟩⟩
  have u7 : q7E j17 t35 s a b g h = t27 := by unfold q7E; rw [u6, w6, w2, z6, e27]; exact doE_z _ _ _
  have w7 : q7N j17 t35 s a b g h = j23 := by unfold q7N; rw [u6, w6, w2, z6, e22]; exact doN_z _ _ _
  rw [br_bne]
  refine ⟨fun z => stop z (by rw [st7 (by rw [u7]; exact z), u7]), fun z7 => ⟨may2_of m23 m21, ?_⟩⟩
  have u8 : q8E j17 t35 s a b g h = t28 := by unfold q8E; rw [u7, w7, w3, z7, e28]; exact doE_z _ _ _
  have w8 : q8N j17 t35 s a b g h = j25 := by unfold q8N; rw [u7, w7, w3, z7, e24]; exact doN_z _ _ _
  rw [br_bne]
  refine ⟨fun z => stop z (by rw [u8]), fun z8 => ⟨vmayk_of hx hy m25, ?_⟩⟩
  unfold plX plY plE kE kN
  rw [seal_eq, seal_eq, seal_eq, ← e16, ← e35, u8, w8, if_pos z8, if_pos z8, if_pos z8, ← e29, ← e30, ← e37, ← e38]
  rfl
theorem quoI_pos {x y : Int} (hx : 0 ≤ x) (hy : 0 < y) : quoI x y = (2 * (x * 18446744073709551616) + y) / (2 * y) := by
  unfold quoI absI
  rw [if_neg (show ¬ x < 0 by omega), if_neg (show ¬ y < 0 by omega), decide_eq_false (show ¬ x < 0 by omega), decide_eq_false (show ¬ y < 0 by omega)]
  rfl
theorem quoI_negl (x y : Int) (hy : y ≠ 0) : quoI (-x) y = -quoI x y := by
  by_cases h0 : x = 0
  · subst h0; rw [show (-0 : Int) = 0 from rfl, quoI_zero y hy]; rfl
  · unfold quoI
    rw [abs_neg, show decide (-x < 0) = !decide (x < 0) by by_cases h : x < 0 <;> simp [h] <;> omega, show ((!decide (x < 0)) != decide (y < 0)) = !(decide (x < 0) != decide (y < 0)) by cases decide (x < 0) <;> cases decide (y < 0) <;> rfl, sgnI_not]
theorem divN_negl (x y : Int) : divN (-x) y = -divN x y := by
  unfold divN; split
  · rfl
  · rename_i h; rw [quoI_negl _ _ h, numF_neg]
theorem divE_negl (x y : Int) : divE (-x) y = divE x y := by
  unfold divE; split
  · rfl
  · rename_i h; rw [quoI_negl _ _ h, errF_neg]
theorem quoI_mono {x x' y y' : Int} (hx : 0 ≤ x) (h : x ≤ x') (hy : 0 < y') (h' : y' ≤ y) : quoI x y ≤ quoI x' y' := by
  rw [quoI_pos hx (by omega), quoI_pos (by omega) hy]
  rw [Int.le_ediv_iff_mul_le (by omega)]
  generalize hq : (2 * (x * 18446744073709551616) + y) / (2 * y) = q
  have h1 : q * (2 * y) ≤ 2 * (x * 18446744073709551616) + y := by rw [← hq]; exact Int.ediv_mul_le _ (by omega)
  have q0 : 0 ≤ q := by rw [← hq]; exact Int.ediv_nonneg (by omega) (by omega)
  by_cases hz : q = 0
  · subst hz; omega
  · have h2 : (2 * q - 1) * y' ≤ (2 * q - 1) * y := Int.mul_le_mul_of_nonneg_left h' (by omega)
    have h3 : q * (2 * y) = (2 * q - 1) * y + y := by rw [Int.sub_mul, Int.one_mul, Int.mul_comm q, Int.mul_assoc, Int.mul_assoc, Int.mul_comm y q]; omega
    have h4 : q * (2 * y') = (2 * q - 1) * y' + y' := by rw [Int.sub_mul, Int.one_mul, Int.mul_comm q, Int.mul_assoc, Int.mul_assoc, Int.mul_comm y' q]; omega
    omega
theorem quoI_nonneg {x y : Int} (hx : 0 ≤ x) (hy : 0 < y) : 0 ≤ quoI x y := by
  rw [quoI_pos hx hy]; exact Int.ediv_nonneg (by omega) (by omega)
theorem opE_div (a b : Int) : opE f_fix_Div a b = divE a b := rfl
theorem opN_div (a b : Int) : opNs f_fix_Div a b = divN a b := rfl
theorem opE_sq (a b : Int) : opE f_pair_Pull_1 a b = sqE a := rfl
theorem opN_sq (a b : Int) : opNs f_pair_Pull_1 a b = sqN a := rfl
theorem div_ok {a b d : Int} (hb : b ≠ 0) (h : quoI a b = d) (m : mayF d) : divE a b = 0 ∧ divN a b = d := by
  unfold divE divN
  rw [if_neg hb, if_neg hb, h, err_may m, num_may m]
  exact ⟨rfl, rfl⟩
section
variable {g a b x y s h : Int}
theorem k_ok {R F m1 m2 m3 d1 d2 : Int} (p : mayF (mulI x x)) (q : mayF (mulI y y)) (r : mayF (mulI x x + mulI y y)) (t : mayF (mulI s s)) (hR : mulI x x + mulI y y + mulI s s = R) (u : mayF R) (u0 : 0 < R)
    (hF : sqrtI (R * 18446744073709551616) = F) (F0 : F ≠ 0) (e1 : mulI a b = m1) (v1 : mayF m1) (e2 : mulI g m1 = m2) (v2 : mayF m2) (e3 : mulI m2 h = m3) (v3 : mayF m3)
    (e4 : quoI m3 R = d1) (v4 : mayF d1) (e5 : quoI d1 F = d2) (v5 : mayF d2) : kE g a b x y s h = 0 ∧ kN g a b x y s h = d2 := by
  unfold kE kN
  rw [dotN_ok p q, num_may r, dotE_ok p q, err_may r]
  generalize hn : mulI x x + mulI y y = n at *
  have u1 : q1E 0 s = 0 := (doE_z _ _ _).trans (err_may t)
  have w1 : q1N 0 s = mulI s s := (doN_z _ _ _).trans (num_may t)
  have u2 : q2e n 0 s = 0 := by unfold q2e q2E; rw [u1, w1]; exact (doE_z _ _ _).trans (err_may (by rw [hR]; exact u))
  have w2 : q2N n 0 s = R := by unfold q2N; rw [u1, w1]; exact (doN_z _ _ _).trans ((num_may (by rw [hR]; exact u)).trans hR)
  have u3 : q3E n 0 s = 0 := by unfold q3E; rw [u2, w2]; rw [doE_z, opE_sq]; exact if_neg (by omega)
  have w3 : q3N n 0 s = F := by unfold q3N; rw [u2, w2]; rw [doN_z, opN_sq]; exact (if_neg (show ¬ R < 0 by omega)).trans hF
  have u4 : q4E n 0 s a b = 0 := by unfold q4E; rw [u3]; exact (doE_z _ _ _).trans (err_may (by rw [e1]; exact v1))
  have w4 : q4N n 0 s a b = m1 := by unfold q4N; rw [u3]; exact (doN_z _ _ _).trans ((num_may (by rw [e1]; exact v1)).trans e1)
  have u5 : q5E n 0 s a b g = 0 := by unfold q5E; rw [u4, w4]; exact (doE_z _ _ _).trans (err_may (by rw [e2]; exact v2))
  have w5 : q5N n 0 s a b g = m2 := by unfold q5N; rw [u4, w4]; exact (doN_z _ _ _).trans ((num_may (by rw [e2]; exact v2)).trans e2)
  have u6 : q6E n 0 s a b g h = 0 := by unfold q6E; rw [u5, w5]; exact (doE_z _ _ _).trans (err_may (by rw [e3]; exact v3))
  have w6 : q6N n 0 s a b g h = m3 := by unfold q6N; rw [u5, w5]; exact (doN_z _ _ _).trans ((num_may (by rw [e3]; exact v3)).trans e3)
  have u7 : q7E n 0 s a b g h = 0 := by unfold q7E; rw [u6, w6, w2]; rw [doE_z, opE_div]; exact (div_ok (by omega) e4 v4).1
  have w7 : q7N n 0 s a b g h = d1 := by unfold q7N; rw [u6, w6, w2]; rw [doN_z, opN_div]; exact (div_ok (by omega) e4 v4).2
  constructor
  · unfold q8E; rw [u7, w7, w3]; rw [doE_z, opE_div]; exact (div_ok F0 e5 v5).1
  · unfold q8N; rw [u7, w7, w3]; rw [doN_z, opN_div]; exact (div_ok F0 e5 v5).2
end
theorem pl_ok {g a b x y s h d X Y : Int} (k : kE g a b x y s h = 0 ∧ kN g a b x y s h = d) (hX : mulI x d = X) (hY : mulI y d = Y) (mX : mayF X) (mY : mayF Y) :
    plE g a b x y s h = 0 ∧ plX g a b x y s h = X ∧ plY g a b x y s h = Y := by
  unfold plE plX plY
  rw [seal_eq, seal_eq, seal_eq, if_pos k.1, if_pos k.1, if_pos k.1, k.2, hX, hY]
  exact ⟨e2_ok mX mY, n2_ok _ mX mY, n2_ok _ mX mY⟩
theorem may_one : mayF 18446744073709551616 := ⟨by decide, by decide⟩
theorem doE_is {f : FuncId} {e a b : Int} (h : i64ok e) : i64ok (doE f e a b) := by
  unfold doE opE
  split
  · split
    · exact err_is _
    · split
      · exact err_is _
      · split
        · exact sqE_is _
        · exact divE_is _ _
  · exact h
theorem plE_is (g a b x y s h : Int) : i64ok (plE g a b x y s h) := by
  unfold plE; rw [seal_eq]; split
  · exact e2_is _ _
  · exact doE_is (doE_is (doE_is (doE_is (doE_is (doE_is (doE_is (doE_is (dotE_is _ _))))))))
end Go.Vs.RF
