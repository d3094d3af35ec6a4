import Derived.Test.YtoccmfelheinhaaR3J
set_option linter.unusedVariables false
/- the laws of direct: keeps -/
namespace Go.Vs.RF
open Go Go.Proofs Go.Vs
def waC (x y e : Int) : List IV := [.int .i64 (x / 18446744073709551616), .int .u64 (x % 18446744073709551616), .int .i64 (y / 18446744073709551616), .int .u64 (y % 18446744073709551616), .int .i64 e]
def SK0 (z : List Int) (ns ps us xs zs : List (List Int)) (h ax ay ae bx by' be i : Int) : St := ⟨T 121 [(7, .ptr 1 0), (8, .ptr 2 0), (9, .sl 3), (11, .ptr 4 0), (12, .ptr 5 0), (13, .ptr 6 0), (14, .int .i64 i)], [some (.ro [.u8] ns), some (.var 86 (worldC z 7 8 9 10 11)), some (.var 28 (fx h).cells), some (.row 30 ksV ps), some (.var 61 (waC ax ay ae)), some (.var 61 (waC bx by' be)), some (.var 86 (worldC z 12 8 9 10 11)), some (.row 32 ksB xs), some (.row 115 ksT []), some (.row 167 ksR []), some (.row 3 [.i64] us), some (.row 169 ksE []), some (.row 32 ksB zs)]⟩
theorem rK0 (Λ : FuncId → Nat → Option LoopS) (d : Nat) (z : List Int) (ns ps us xs zs : List (List Int)) (h ax ay ae bx by' be i : Int) (k : Out → St → Prop) : (round (envOf Try.prog ⟨Γf6, Λ, fun _ => none⟩ d) f_perigeelaw11_DirectKeeps 1 0 (lp Try.prog f_perigeelaw11_DirectKeeps 0) (SK0 z ns ps us xs zs h ax ay ae bx by' be i) k) = (∀ (j1 : Int), j1 = ax → ∀ (j2 : Int), j2 = ay → ∀ (j3 : Int), j3 = bx → ∀ (j4 : Int), j4 = by' → ∀ (t5 : Int), t5 = rd xs i.toNat (8 : Nat) → ∀ (t6 : Int), t6 = rd xs i.toNat (9 : Nat) → ∀ (t7 : Int), t7 = rd xs i.toNat (10 : Nat) → ∀ (t8 : Int), t8 = rd xs i.toNat (11 : Nat) → ∀ (t9 : Int), t9 = rd ps i.toNat (0 : Nat) → ∀ (t10 : Int), t10 = rd ps i.toNat (1 : Nat) → ∀ (t11 : Int), t11 = rd ps i.toNat (2 : Nat) → ∀ (t12 : Int), t12 = rd ps i.toNat (3 : Nat) → ∀ (t13 : Prop), t13 = ((0 : Int) ≤ i ∧ i < (↑xs.length : Int)) → ∀ (t14 : Prop), t14 = ((0 : Int) ≤ i ∧ i < (↑ps.length : Int)) → ∀ (t15 : Prop), t15 = ((0 : Int) ≤ i ∧ i < (↑zs.length : Int)) → ∀ (t16 : Int), t16 = j1 + (t5 * (18446744073709551616 : Int) + t6) → ∀ (t17 : Int), t17 = j2 + (t7 * (18446744073709551616 : Int) + t8) → ∀ (t18 : Int), t18 = j3 + (t9 * (18446744073709551616 : Int) + t10) → ∀ (t19 : Int), t19 = j4 + (t11 * (18446744073709551616 : Int) + t12) → ∀ (t20 : Int), t20 = n2 t16 t17 t16 → ∀ (t21 : Int), t21 = n2 t16 t17 t17 → ∀ (t22 : Int), t22 = n2 t18 t19 t18 → ∀ (t23 : Int), t23 = n2 t18 t19 t19 → br (decide (i < (↑ps.length : Int))) (t13 ∧ t13 ∧ vmay2 [vx ax ay, IV.agg [IV.int IntKind.i64 t5, IV.int IntKind.u64 t6, IV.int IntKind.i64 t7, IV.int IntKind.u64 t8]] [] ∧ t14 ∧ t14 ∧ vmay2 [vx bx by', IV.agg [IV.int IntKind.i64 t9, IV.int IntKind.u64 t10, IV.int IntKind.i64 t11, IV.int IntKind.u64 t12]] [] ∧ t14 ∧ t14 ∧ t15 ∧ t15 ∧ k Out.normal (St.mk (T (121 : Nat) [((7 : Nat), IV.ptr (1 : Nat) (0 : Nat)), ((8 : Nat), IV.ptr (2 : Nat) (0 : Nat)), ((9 : Nat), IV.sl (3 : Nat)), ((11 : Nat), IV.ptr (4 : Nat) (0 : Nat)), ((12 : Nat), IV.ptr (5 : Nat) (0 : Nat)), ((13 : Nat), IV.ptr (6 : Nat) (0 : Nat)), ((14 : Nat), IV.int IntKind.i64 (IntKind.i64.wrap (i + (1 : Int))))]) [some (Blk.ro [IntKind.u8] ns), some (Blk.var (86 : Nat) (worldC z 7 8 9 10 11)), some (Blk.var (28 : Nat) [IV.int IntKind.i64 (h / (18446744073709551616 : Int)), IV.int IntKind.u64 (h % (18446744073709551616 : Int))]), some (Blk.row (30 : Nat) ksV ps), some (Blk.var (61 : Nat) [IV.int IntKind.i64 (t20 / (18446744073709551616 : Int)), IV.int IntKind.u64 (t20 % (18446744073709551616 : Int)), IV.int IntKind.i64 (t21 / (18446744073709551616 : Int)), IV.int IntKind.u64 (t21 % (18446744073709551616 : Int)), IV.int IntKind.i64 (e2 t16 t17)]), some (Blk.var (61 : Nat) [IV.int IntKind.i64 (t22 / (18446744073709551616 : Int)), IV.int IntKind.u64 (t22 % (18446744073709551616 : Int)), IV.int IntKind.i64 (t23 / (18446744073709551616 : Int)), IV.int IntKind.u64 (t23 % (18446744073709551616 : Int)), IV.int IntKind.i64 (e2 t18 t19)]), some (Blk.var (86 : Nat) (worldC z 12 8 9 10 11)), some (Blk.row (32 : Nat) ksB xs), some (Blk.row (115 : Nat) ksT []), some (Blk.row (167 : Nat) ksR []), some (Blk.row (3 : Nat) [IntKind.i64] us), some (Blk.row (169 : Nat) ksE []), some (Blk.row (32 : Nat) ksB (zs.modify i.toNat fun x => List.map (fun j => if (8 : Nat) ≤ j ∧ j < (12 : Nat) then [t9, t10, t11, t12].getD (j - (8 : Nat)) (0 : Int) else x.getD j (0 : Int)) (List.range (20 : Nat))))])) (k (Out.exit (0 : Nat)) (St.mk (T (121 : Nat) [((7 : Nat), IV.ptr (1 : Nat) (0 : Nat)), ((8 : Nat), IV.ptr (2 : Nat) (0 : Nat)), ((9 : Nat), IV.sl (3 : Nat)), ((11 : Nat), IV.ptr (4 : Nat) (0 : Nat)), ((12 : Nat), IV.ptr (5 : Nat) (0 : Nat)), ((13 : Nat), IV.ptr (6 : Nat) (0 : Nat))]) [some (Blk.ro [IntKind.u8] ns), some (Blk.var (86 : Nat) (worldC z 7 8 9 10 11)), some (Blk.var (28 : Nat) [IV.int IntKind.i64 (h / (18446744073709551616 : Int)), IV.int IntKind.u64 (h % (18446744073709551616 : Int))]), some (Blk.row (30 : Nat) ksV ps), some (Blk.var (61 : Nat) [IV.int IntKind.i64 (ax / (18446744073709551616 : Int)), IV.int IntKind.u64 (ax % (18446744073709551616 : Int)), IV.int IntKind.i64 (ay / (18446744073709551616 : Int)), IV.int IntKind.u64 (ay % (18446744073709551616 : Int)), IV.int IntKind.i64 ae]), some (Blk.var (61 : Nat) [IV.int IntKind.i64 (bx / (18446744073709551616 : Int)), IV.int IntKind.u64 (bx % (18446744073709551616 : Int)), IV.int IntKind.i64 (by' / (18446744073709551616 : Int)), IV.int IntKind.u64 (by' % (18446744073709551616 : Int)), IV.int IntKind.i64 be]), some (Blk.var (86 : Nat) (worldC z 12 8 9 10 11)), some (Blk.row (32 : Nat) ksB xs), some (Blk.row (115 : Nat) ksT []), some (Blk.row (167 : Nat) ksR []), some (Blk.row (3 : Nat) [IntKind.i64] us), some (Blk.row (169 : Nat) ksE []), some (Blk.row (32 : Nat) ksB zs)]))) := by refine nj ?_; refine nj ?_; refine nj ?_; refine nj ?_; refine nm ?_; refine nm ?_; refine nm ?_; refine nm ?_; refine nm ?_; refine nm ?_; refine nm ?_; refine nm ?_; refine nm ?_; refine nm ?_; refine nm ?_; refine nm ?_; refine nm ?_; refine nm ?_; refine nm ?_; refine nm ?_; refine nm ?_; refine nm ?_; refine nm ?_; kernel_rfl
/-- the sums, and the bodies with what they have got -/
def putP (p r : List Int) : List Int := List.map (fun j => if 8 ≤ j ∧ j < 12 then [p.getD 0 0, p.getD 1 0, p.getD 2 0, p.getD 3 0].getD (j - 8) 0 else r.getD j 0) (List.range 20)
def putPs (ps : List (List Int)) (n : Nat) (xs : List (List Int)) : List (List Int) := xs.mapIdx fun i r => if i < n then putP (ps.getD i []) r else r
def sumF (f : Nat → Int) : Nat → Int
  | 0 => 0
  | n + 1 => sumF f n + f n
def pX (ps : List (List Int)) (j k : Nat) : Int := fr (ps.getD k []) j
def smallP (ps : List (List Int)) : Prop := ∀ r ∈ ps, ∃ x y, r = vecRow x y ∧ (-100000000000000000000000000000 ≤ x ∧ x ≤ 100000000000000000000000000000) ∧ -100000000000000000000000000000 ≤ y ∧ y ≤ 100000000000000000000000000000
def pK0 (n0 : Nat) (st : St) (z : List Int) (ns ps us xs : List (List Int)) (h : Int) : Prop := (∀ r ∈ xs, madeB r) ∧ smallP ps ∧ ps.length = xs.length ∧ xs.length ≤ 10 ∧ n0 = 1 ∧ st = SK0 z ns ps us xs xs h 0 0 0 0 0 0 0
noncomputable def LK0 : LoopS := fun n0 st K => ∃ z ns ps us xs h, pK0 n0 st z ns ps us xs h ∧ K (.exit 0) ⟨T 121 [(7, .ptr 1 0), (8, .ptr 2 0), (9, .sl 3), (11, .ptr 4 0), (12, .ptr 5 0), (13, .ptr 6 0)], [some (.ro [.u8] ns), some (.var 86 (worldC z 7 8 9 10 11)), some (.var 28 (fx h).cells), some (.row 30 ksV ps), some (.var 61 (waC (sumF (pX xs 8) xs.length) (sumF (pX xs 10) xs.length) 0)), some (.var 61 (waC (sumF (pX ps 0) xs.length) (sumF (pX ps 2) xs.length) 0)), some (.var 86 (worldC z 12 8 9 10 11)), some (.row 32 ksB xs), some (.row 115 ksT []), some (.row 167 ksR []), some (.row 3 [.i64] us), some (.row 169 ksE []), some (.row 32 ksB (putPs ps xs.length xs))]⟩
end Go.Vs.RF


set_option linter.unusedVariables false
/- the laws of direct: keeps, whole -/
namespace Go.Vs.RF
open Go Go.Proofs Go.Vs
def SK1 (z : List Int) (ns us xs qs : List (List Int)) (i : Int) : St := ⟨T 121 [(7, .ptr 1 0), (15, .sl 2), (17, .int .i64 i)], [some (.ro [.u8] ns), some (.var 86 (worldC z 3 4 5 6 7)), some (.row 30 ksV qs), some (.row 32 ksB xs), some (.row 115 ksT []), some (.row 167 ksR []), some (.row 3 [.i64] us), some (.row 169 ksE [])]⟩
theorem rK1 (Λ : FuncId → Nat → Option LoopS) (d : Nat) (z : List Int) (ns us xs qs : List (List Int)) (i : Int) (k : Out → St → Prop) : (round (envOf Try.prog ⟨Γf6, Λ, fun _ => none⟩ d) f_perigeelaw11_DirectKeeps 1 1 (lp Try.prog f_perigeelaw11_DirectKeeps 1) (SK1 z ns us xs qs i) k) = (∀ (t1 : Int), t1 = rd qs i.toNat (0 : Nat) → ∀ (t2 : Int), t2 = rd xs i.toNat (8 : Nat) → ∀ (t3 : Int), t3 = rd qs i.toNat (1 : Nat) → ∀ (t4 : Int), t4 = rd xs i.toNat (9 : Nat) → ∀ (t5 : Int), t5 = rd qs i.toNat (2 : Nat) → ∀ (t6 : Int), t6 = rd xs i.toNat (10 : Nat) → ∀ (t7 : Int), t7 = rd qs i.toNat (3 : Nat) → ∀ (t8 : Int), t8 = rd xs i.toNat (11 : Nat) → ∀ (t9 : Prop), t9 = ((0 : Int) ≤ i ∧ i < (↑qs.length : Int)) → ∀ (t10 : Prop), t10 = ((0 : Int) ≤ i ∧ i < (↑xs.length : Int)) → br (decide (i < (↑qs.length : Int))) (t9 ∧ t9 ∧ t10 ∧ t10 ∧ br (!(decide (t1 = t2) && (decide (t3 = t4) && (decide (t5 = t6) && (decide (t7 = t8) && true))))) (k Out.ret (St.mk (T (121 : Nat) [((6 : Nat), IV.bool false)]) [some (Blk.ro [IntKind.u8] ns)])) (k Out.normal (St.mk (T (121 : Nat) [((7 : Nat), IV.ptr (1 : Nat) (0 : Nat)), ((15 : Nat), IV.sl (2 : Nat)), ((17 : Nat), IV.int IntKind.i64 (IntKind.i64.wrap (i + (1 : Int))))]) [some (Blk.ro [IntKind.u8] ns), some (Blk.var (86 : Nat) (worldC z 3 4 5 6 7)), some (Blk.row (30 : Nat) ksV qs), some (Blk.row (32 : Nat) ksB xs), some (Blk.row (115 : Nat) ksT []), some (Blk.row (167 : Nat) ksR []), some (Blk.row (3 : Nat) [IntKind.i64] us), some (Blk.row (169 : Nat) ksE [])]))) (k (Out.exit (2 : Nat)) (St.mk (T (121 : Nat) []) [some (Blk.ro [IntKind.u8] ns)]))) := by refine nm ?_; refine nm ?_; refine nm ?_; refine nm ?_; refine nm ?_; refine nm ?_; refine nm ?_; refine nm ?_; refine nm ?_; refine nm ?_; kernel_rfl
def pK1 (n0 : Nat) (st : St) (z : List Int) (ns us xs qs : List (List Int)) : Prop := qs = xs.map momR ∧ xs.length ≤ 10 ∧ n0 = 1 ∧ st = SK1 z ns us xs qs 0
noncomputable def LK1 : LoopS := fun n0 st K => ∃ z ns us xs qs, pK1 n0 st z ns us xs qs ∧ K (.exit 2) ⟨T 121 [], [some (.ro [.u8] ns)]⟩
noncomputable def NK : Know := ⟨Γf6, fun f i => if f = f_perigeelaw11_DirectKeeps then (if i = 0 then some LK0 else if i = 1 then some LK1 else none) else none, fun _ => none⟩
theorem v_DirectKeeps (ns : List (List Int)) (how h : Int) (K : IV → List Blk → Prop) : (comes Try.prog NK 3 f_perigeelaw11_DirectKeeps [.sl 0, .int .u8 how, .int .u64 h] [.ro [.u8] ns] K) = (∀ (t1 : Int), t1 = dirE (worN [IV.agg (worldC (wz how) 0 1 2 3 4), IV.agg [IV.int IntKind.i64 (0 : Int), IV.int IntKind.u64 h]] (0 : Nat)) ((0 : Int) + h) (wbs ns (10 : Int)) → ∀ (t2 : Int), t2 = (↑(dirL (worN [IV.agg (worldC (wz how) 0 1 2 3 4), IV.agg [IV.int IntKind.i64 (0 : Int), IV.int IntKind.u64 h]] (0 : Nat)) ((0 : Int) + h) (wbs ns (10 : Int))).length : Int) → pWorld [IV.sl (0 : Nat), IV.int IntKind.i64 (10 : Int), IV.int IntKind.u8 how] [Blk.ro [IntKind.u8] ns] ∧ pKick [IV.agg (worldC (wz how) 0 1 2 3 4), IV.agg [IV.int IntKind.i64 (0 : Int), IV.int IntKind.u64 h]] [Blk.ro ksB (wbs ns (10 : Int)), Blk.ro ksT [], Blk.ro ksR [], Blk.ro [IntKind.i64] (neg1 (wbs ns (10 : Int)).length), Blk.ro ksE []] ∧ preI [IV.int IntKind.i64 t1] [] ∧ br (t1 != (0 : Int)) (br (t2 == (0 : Int)) (pAwk11 [] [] ∧ K (IV.bool true) []) (K (IV.bool false) [])) (br (t2 != (↑(wbs ns (10 : Int)).length : Int)) (K (IV.bool false) []) (((0 : Nat) + (wbs ns (10 : Int)).length) * (160 : Nat) ≤ (140737488355328 : Nat) ∧ ∃ z ns_1 ps us xs h_1, pK0 (1 : Nat) (St.mk (T (121 : Nat) [((7 : Nat), IV.ptr (1 : Nat) (0 : Nat)), ((8 : Nat), IV.ptr (2 : Nat) (0 : Nat)), ((9 : Nat), IV.sl (3 : Nat)), ((11 : Nat), IV.ptr (4 : Nat) (0 : Nat)), ((12 : Nat), IV.ptr (5 : Nat) (0 : Nat)), ((13 : Nat), IV.ptr (6 : Nat) (0 : Nat)), ((14 : Nat), IV.int IntKind.i64 (0 : Int))]) [some (Blk.ro [IntKind.u8] ns), some (Blk.var (86 : Nat) (worldC (wz how) 7 8 9 10 11)), some (Blk.var (28 : Nat) [IV.int IntKind.i64 (0 : Int), IV.int IntKind.u64 h]), some (Blk.row (30 : Nat) ksV (dirL (worN [IV.agg (worldC (wz how) 0 1 2 3 4), IV.agg [IV.int IntKind.i64 (0 : Int), IV.int IntKind.u64 h]] (0 : Nat)) ((0 : Int) + h) (wbs ns (10 : Int)))), some (Blk.var (61 : Nat) [IV.int IntKind.i64 (0 : Int), IV.int IntKind.u64 (0 : Int), IV.int IntKind.i64 (0 : Int), IV.int IntKind.u64 (0 : Int), IV.int IntKind.i64 (0 : Int)]), some (Blk.var (61 : Nat) [IV.int IntKind.i64 (0 : Int), IV.int IntKind.u64 (0 : Int), IV.int IntKind.i64 (0 : Int), IV.int IntKind.u64 (0 : Int), IV.int IntKind.i64 (0 : Int)]), some (Blk.var (86 : Nat) (worldC (wz how) 12 8 9 10 11)), some (Blk.row (32 : Nat) ksB (wbs ns (10 : Int))), some (Blk.row (115 : Nat) ksT []), some (Blk.row (167 : Nat) ksR []), some (Blk.row (3 : Nat) [IntKind.i64] (neg1 (wbs ns (10 : Int)).length)), some (Blk.row (169 : Nat) ksE []), some (Blk.row (32 : Nat) ksB (List.replicate (0 : Nat) (List.replicate (20 : Nat) (0 : Int)) ++ wbs ns (10 : Int)))]) z ns_1 ps us xs h_1 ∧ may1 [fx h_1] [] ∧ pKick [IV.agg (worldC z 0 1 2 3 4), fx (-(h_1 / (18446744073709551616 : Int) * (18446744073709551616 : Int) + h_1 % (18446744073709551616 : Int)))] [Blk.ro ksB (putPs ps xs.length xs), Blk.ro ksT [], Blk.ro ksR [], Blk.ro [IntKind.i64] us, Blk.ro ksE []] ∧ br (!(decide (sumF (pX xs (8 : Nat)) xs.length / (18446744073709551616 : Int) = sumF (pX ps (0 : Nat)) xs.length / (18446744073709551616 : Int)) && (decide (sumF (pX xs (8 : Nat)) xs.length % (18446744073709551616 : Int) = sumF (pX ps (0 : Nat)) xs.length % (18446744073709551616 : Int)) && (decide (sumF (pX xs (10 : Nat)) xs.length / (18446744073709551616 : Int) = sumF (pX ps (2 : Nat)) xs.length / (18446744073709551616 : Int)) && (decide (sumF (pX xs (10 : Nat)) xs.length % (18446744073709551616 : Int) = sumF (pX ps (2 : Nat)) xs.length % (18446744073709551616 : Int)) && true))))) (K (IV.bool false) []) (preI [IV.int IntKind.i64 (dirE (worN [IV.agg (worldC z 0 1 2 3 4), fx (-(h_1 / (18446744073709551616 : Int) * (18446744073709551616 : Int) + h_1 % (18446744073709551616 : Int)))] (0 : Nat)) (-(h_1 / (18446744073709551616 : Int) * (18446744073709551616 : Int) + h_1 % (18446744073709551616 : Int)) / (18446744073709551616 : Int) * (18446744073709551616 : Int) + -(h_1 / (18446744073709551616 : Int) * (18446744073709551616 : Int) + h_1 % (18446744073709551616 : Int)) % (18446744073709551616 : Int)) (putPs ps xs.length xs))] [] ∧ br (dirE (worN [IV.agg (worldC z 0 1 2 3 4), fx (-(h_1 / (18446744073709551616 : Int) * (18446744073709551616 : Int) + h_1 % (18446744073709551616 : Int)))] (0 : Nat)) (-(h_1 / (18446744073709551616 : Int) * (18446744073709551616 : Int) + h_1 % (18446744073709551616 : Int)) / (18446744073709551616 : Int) * (18446744073709551616 : Int) + -(h_1 / (18446744073709551616 : Int) * (18446744073709551616 : Int) + h_1 % (18446744073709551616 : Int)) % (18446744073709551616 : Int)) (putPs ps xs.length xs) != (0 : Int)) (K (IV.bool false) []) (br ((↑(dirL (worN [IV.agg (worldC z 0 1 2 3 4), fx (-(h_1 / (18446744073709551616 : Int) * (18446744073709551616 : Int) + h_1 % (18446744073709551616 : Int)))] (0 : Nat)) (-(h_1 / (18446744073709551616 : Int) * (18446744073709551616 : Int) + h_1 % (18446744073709551616 : Int)) / (18446744073709551616 : Int) * (18446744073709551616 : Int) + -(h_1 / (18446744073709551616 : Int) * (18446744073709551616 : Int) + h_1 % (18446744073709551616 : Int)) % (18446744073709551616 : Int)) (putPs ps xs.length xs)).length : Int) != (↑ps.length : Int)) (K (IV.bool false) []) (∃ z_1 ns us_1 xs_1 qs, pK1 (1 : Nat) (St.mk (T (121 : Nat) [((7 : Nat), IV.ptr (1 : Nat) (0 : Nat)), ((15 : Nat), IV.sl (2 : Nat)), ((17 : Nat), IV.int IntKind.i64 (0 : Int))]) [some (Blk.ro [IntKind.u8] ns_1), some (Blk.var (86 : Nat) (worldC z 3 4 5 6 7)), some (Blk.row (30 : Nat) ksV (dirL (worN [IV.agg (worldC z 0 1 2 3 4), fx (-(h_1 / (18446744073709551616 : Int) * (18446744073709551616 : Int) + h_1 % (18446744073709551616 : Int)))] (0 : Nat)) (-(h_1 / (18446744073709551616 : Int) * (18446744073709551616 : Int) + h_1 % (18446744073709551616 : Int)) / (18446744073709551616 : Int) * (18446744073709551616 : Int) + -(h_1 / (18446744073709551616 : Int) * (18446744073709551616 : Int) + h_1 % (18446744073709551616 : Int)) % (18446744073709551616 : Int)) (putPs ps xs.length xs))), some (Blk.row (32 : Nat) ksB xs), some (Blk.row (115 : Nat) ksT []), some (Blk.row (167 : Nat) ksR []), some (Blk.row (3 : Nat) [IntKind.i64] us), some (Blk.row (169 : Nat) ksE [])]) z_1 ns us_1 xs_1 qs ∧ pAwk11 [] [] ∧ K (IV.bool true) [])))))) := by refine nm ?_; refine nm ?_; kernel_rfl
end Go.Vs.RF


set_option linter.unusedVariables false
set_option linter.unusedSimpArgs false
set_option maxRecDepth 100000
/- direct keeps: the plain law -/
namespace Go.Vs.RF
open Go Go.Proofs Go.Vs Go.IntWalk

/-! what all pulls come to for each -/
def oneG (g : Int) (i j k : Nat) : Int := if k = i then g else if k = j then -g else 0
def dXi (G : Nat → Nat → Int) (i : Nat) : Nat → Nat → Nat → Int
  | 0, _, _ => 0
  | m + 1, j, k => oneG (G i j) i j k + dXi G i m (j + 1) k
def dXo (G : Nat → Nat → Int) (n : Nat) : Nat → Nat → Nat → Int
  | 0, _, _ => 0
  | m + 1, i, k => dXi G i (n - (i + 1)) (i + 1) k + dXo G n m (i + 1) k
theorem oneG_neg (g : Int) (i j k : Nat) : oneG (-g) i j k = -oneG g i j k := by unfold oneG; split; rfl; split <;> omega
theorem dXi_neg {G G' : Nat → Nat → Int} {n : Nat} (h : ∀ i j, i < n → j < n → G' i j = -G i j) (i : Nat) (hi : i < n) : ∀ m j k, j + m ≤ n → dXi G' i m j k = -dXi G i m j k
  | 0, j, k, _ => rfl
  | m + 1, j, k, hj => by
    unfold dXi
    rw [h i j hi (by omega), oneG_neg, dXi_neg h i hi m (j + 1) k (by omega)]; omega
theorem dXo_neg {G G' : Nat → Nat → Int} {n : Nat} (h : ∀ i j, i < n → j < n → G' i j = -G i j) : ∀ m i k, i + m ≤ n → dXo G' n m i k = -dXo G n m i k
  | 0, i, k, _ => rfl
  | m + 1, i, k, hi => by
    unfold dXo
    rw [dXi_neg h i (by omega) _ _ _ (by omega), dXo_neg h m (i + 1) k (by omega)]; omega
theorem sumF_add (f g : Nat → Int) : ∀ n, sumF (fun k => f k + g k) n = sumF f n + sumF g n
  | 0 => rfl
  | n + 1 => by unfold sumF; rw [sumF_add f g n]; omega
theorem sumF_zero : ∀ n, sumF (fun _ => 0) n = 0
  | 0 => rfl
  | n + 1 => by unfold sumF; rw [sumF_zero n]; rfl
theorem sumF_eq {f g : Nat → Int} : ∀ n, (∀ k, k < n → f k = g k) → sumF f n = sumF g n
  | 0, _ => rfl
  | n + 1, h => by unfold sumF; rw [sumF_eq n (fun k hk => h k (by omega)), h n (by omega)]
theorem sumF_one (g : Int) {i j : Nat} (hij : i ≠ j) : ∀ n, sumF (oneG g i j) n = (if i < n then g else 0) - (if j < n then g else 0)
  | 0 => rfl
  | n + 1 => by
    unfold sumF
    rw [sumF_one g hij n]
    unfold oneG
    (repeat' split) <;> omega
theorem sumF_dXi (G : Nat → Nat → Int) (i n : Nat) : ∀ m j, i < j → j + m ≤ n → sumF (dXi G i m j) n = 0
  | 0, j, _, _ => sumF_zero n
  | m + 1, j, hj, hn => by
    show sumF (fun k => oneG (G i j) i j k + dXi G i m (j + 1) k) n = 0
    rw [sumF_add, sumF_dXi G i n m (j + 1) (by omega) (by omega)]
    show sumF (oneG (G i j) i j) n + 0 = 0
    rw [sumF_one _ (by omega), if_pos (by omega), if_pos (by omega)]; omega
theorem sumF_dXo (G : Nat → Nat → Int) (n : Nat) : ∀ m i, i + m ≤ n → sumF (dXo G n m i) n = 0
  | 0, i, _ => sumF_zero n
  | m + 1, i, hi => by
    show sumF (fun k => dXi G i (n - (i + 1)) (i + 1) k + dXo G n m (i + 1) k) n = 0
    rw [sumF_add, sumF_dXo G n m (i + 1) (by omega)]
    show sumF (dXi G i (n - (i + 1)) (i + 1)) n + 0 = 0
    rw [sumF_dXi G i n _ _ (by omega) (by omega)]; rfl

/-! a step, exactly -/
noncomputable def gXf (z : List Int) (h : Int) (xs : List (List Int)) (i j : Nat) : Int := gvX z h (xs.getD i []) (fr (xs.getD j []) 0) (fr (xs.getD j []) 4) (fr (xs.getD j []) 6)
noncomputable def gYf (z : List Int) (h : Int) (xs : List (List Int)) (i j : Nat) : Int := gvY z h (xs.getD i []) (fr (xs.getD j []) 0) (fr (xs.getD j []) 4) (fr (xs.getD j []) 6)
def okG (z : List Int) (h : Int) (xs : List (List Int)) : Prop := ∀ i j, i < xs.length → j < xs.length → gvE z h (xs.getD i []) (fr (xs.getD j []) 0) (fr (xs.getD j []) 4) (fr (xs.getD j []) 6) = 0 ∧
  (-80000000000000000000000000 ≤ gXf z h xs i j ∧ gXf z h xs i j ≤ 80000000000000000000000000) ∧ -80000000000000000000000000 ≤ gYf z h xs i j ∧ gYf z h xs i j ≤ 80000000000000000000000000
def smallN (n : Nat) (ps : List (List Int)) : Prop := ∀ k, k < ps.length → ∃ x y, ps.getD k [] = vecRow x y ∧ (-100000000000000000000000000 * ((n : Int) + 1) ≤ x ∧ x ≤ 100000000000000000000000000 * ((n : Int) + 1)) ∧ -100000000000000000000000000 * ((n : Int) + 1) ≤ y ∧ y ≤ 100000000000000000000000000 * ((n : Int) + 1)
theorem vr_fr (x y : Int) : fr (vecRow x y) 0 = x ∧ fr (vecRow x y) 2 = y := vec_fr (zs := [vecRow x y]) (i := 0) rfl
theorem set2_get {ps : List (List Int)} {i j : Nat} (a b : List Int) (hi : i < ps.length) (hj : j < ps.length) (k : Nat) : ((ps.set i a).set j b).getD k [] = if k = j then b else if k = i then a else ps.getD k [] := by
  simp only [List.getD, List.getElem?_set, List.length_set]
  by_cases h1 : k = j
  · subst h1; simp [hj]
  · rw [if_neg (fun h => h1 h.symm), if_neg h1]
    by_cases h2 : k = i
    · subst h2; simp [hi]
    · rw [if_neg (fun h => h2 h.symm), if_neg h2]
theorem ds_step {z : List Int} {h : Int} {xs ps : List (List Int)} {n i j : Nat} (hG : okG z h xs) (hs : smallN n ps) (hl : ps.length = xs.length) (hn : n ≤ 1000) (hi : i < xs.length) (hj : j < xs.length) (hij : i ≠ j) :
    dsE z h xs ps i j = 0 ∧ smallN (n + 1) ((ps.set i (dsP z h xs ps i j)).set j (dsQ z h xs ps i j)) ∧ ∀ k, k < xs.length → fr (((ps.set i (dsP z h xs ps i j)).set j (dsQ z h xs ps i j)).getD k []) 0 = fr (ps.getD k []) 0 + oneG (gXf z h xs i j) i j k ∧ fr (((ps.set i (dsP z h xs ps i j)).set j (dsQ z h xs ps i j)).getD k []) 2 = fr (ps.getD k []) 2 + oneG (gYf z h xs i j) i j k := by
  obtain ⟨px, py, q1, hx1, hy1⟩ := hs i (by omega)
  obtain ⟨qx, qy, q2, hx2, hy2⟩ := hs j (by omega)
  obtain ⟨g0, gx, gy⟩ := hG i j hi hj
  obtain ⟨eE, eP, eQ⟩ := ds_of z h xs ps i j q1 q2
  unfold prE at eE
  unfold prXp prYp prP at eP
  unfold prXq prYq prQ at eQ
  have eX : gvX z h (xs.getD i []) (fr (xs.getD j []) 0) (fr (xs.getD j []) 4) (fr (xs.getD j []) 6) = gXf z h xs i j := rfl
  have eY : gvY z h (xs.getD i []) (fr (xs.getD j []) 0) (fr (xs.getD j []) 4) (fr (xs.getD j []) 6) = gYf z h xs i j := rfl
  rw [g0, eX, eY] at eE eP eQ
  generalize gXf z h xs i j = u at *
  generalize gYf z h xs i j = v at *
  have z1 : mayF (px + u) := ⟨by omega, by omega⟩
  have z2 : mayF (py + v) := ⟨by omega, by omega⟩
  have z3 : mayF (qx - u) := ⟨by omega, by omega⟩
  have z4 : mayF (qy - v) := ⟨by omega, by omega⟩
  rw [e2_ok z1 z2, e2_ok z3 z4, if_neg (fun hc => hc rfl), if_neg (fun hc => hc rfl)] at eE
  rw [if_neg (fun hc => hc rfl), if_neg (fun hc => hc rfl), n2_ok _ z1 z2, n2_ok _ z1 z2] at eP
  rw [e2_ok z1 z2, if_neg (fun hc => hc rfl), if_neg (fun hc => hc rfl), if_neg (fun hc => hc rfl), if_neg (fun hc => hc rfl), n2_ok _ z3 z4, n2_ok _ z3 z4] at eQ
  rw [eP, eQ]
  have hi' : i < ps.length := by omega
  have hj' : j < ps.length := by omega
  refine ⟨eE, ?_, ?_⟩
  · intro k hk
    rw [set2_get _ _ hi' hj']
    have hk' : k < ps.length := by simpa using hk
    by_cases h1 : k = j
    · rw [if_pos h1]; exact ⟨_, _, rfl, ⟨by omega, by omega⟩, by omega, by omega⟩
    · rw [if_neg h1]
      by_cases h2 : k = i
      · rw [if_pos h2]; exact ⟨_, _, rfl, ⟨by omega, by omega⟩, by omega, by omega⟩
      · rw [if_neg h2]
        obtain ⟨x, y, e, e1, e2⟩ := hs k hk'
        exact ⟨x, y, e, ⟨by omega, by omega⟩, by omega, by omega⟩
  · intro k hk
    rw [set2_get _ _ hi' hj']
    unfold oneG
    by_cases h1 : k = j
    · subst h1
      rw [if_pos rfl, if_neg (fun hc => hij hc.symm), if_pos rfl, if_neg (fun hc => hij hc.symm), if_pos rfl, (vr_fr _ _).1, (vr_fr _ _).2, (vec_fr q2).1, (vec_fr q2).2]
      omega
    · rw [if_neg h1]
      by_cases h2 : k = i
      · subst h2
        rw [if_pos rfl, if_pos rfl, if_pos rfl, (vr_fr _ _).1, (vr_fr _ _).2, (vec_fr q1).1, (vec_fr q1).2]
        exact ⟨rfl, rfl⟩
      · rw [if_neg h2, if_neg h2, if_neg h1, if_neg h2, if_neg h1]; omega
theorem dIn_step' {z : List Int} {h : Int} {xs : List (List Int)} {i : Nat} (hG : okG z h xs) (hi : i < xs.length) : ∀ (m j : Nat) (ps : List (List Int)) (n : Nat), smallN n ps → ps.length = xs.length → i < j → j + m ≤ xs.length → n + m ≤ 1000 →
    (dIn z h xs i m j ps).2 = 0 ∧ (dIn z h xs i m j ps).1.length = xs.length ∧ smallN (n + m) (dIn z h xs i m j ps).1 ∧ ∀ k, k < xs.length → fr ((dIn z h xs i m j ps).1.getD k []) 0 = fr (ps.getD k []) 0 + dXi (gXf z h xs) i m j k ∧ fr ((dIn z h xs i m j ps).1.getD k []) 2 = fr (ps.getD k []) 2 + dXi (gYf z h xs) i m j k
  | 0, j, ps, n, hs, hl, _, _, _ => ⟨rfl, hl, hs, fun k _ => ⟨by show _ = _ + 0; rw [Int.add_zero]; rfl, by show _ = _ + 0; rw [Int.add_zero]; rfl⟩⟩
  | m + 1, j, ps, n, hs, hl, hj, hm, hn => by
    obtain ⟨s1, s2, s3⟩ := ds_step hG hs hl (by omega) hi (show j < xs.length by omega) (by omega)
    unfold dIn
    rw [if_neg (fun hc => hc s1)]
    obtain ⟨r1, r2, r3, r4⟩ := dIn_step' hG hi m (j + 1) _ (n + 1) s2 (by simpa using hl) (by omega) (by omega) (by omega)
    refine ⟨r1, r2, by rw [show n + (m + 1) = n + 1 + m by omega]; exact r3, fun k hk => ?_⟩
    rw [(r4 k hk).1, (r4 k hk).2, (s3 k hk).1, (s3 k hk).2]
    exact ⟨Int.add_assoc _ _ _, Int.add_assoc _ _ _⟩
theorem dOut_step' {z : List Int} {h : Int} {xs : List (List Int)} (hG : okG z h xs) (h10 : xs.length ≤ 10) : ∀ (m i : Nat) (ps : List (List Int)) (n : Nat), smallN n ps → ps.length = xs.length → i + m = xs.length → n + 10 * m ≤ 1000 →
    (dOut z h xs m i ps).2 = 0 ∧ (dOut z h xs m i ps).1.length = xs.length ∧ smallN (n + 10 * m) (dOut z h xs m i ps).1 ∧ ∀ k, k < xs.length → fr ((dOut z h xs m i ps).1.getD k []) 0 = fr (ps.getD k []) 0 + dXo (gXf z h xs) xs.length m i k ∧ fr ((dOut z h xs m i ps).1.getD k []) 2 = fr (ps.getD k []) 2 + dXo (gYf z h xs) xs.length m i k
  | 0, i, ps, n, hs, hl, _, _ => ⟨rfl, hl, hs, fun k _ => ⟨by show _ = _ + 0; rw [Int.add_zero]; rfl, by show _ = _ + 0; rw [Int.add_zero]; rfl⟩⟩
  | m + 1, i, ps, n, hs, hl, hm, hn => by
    obtain ⟨s1, s2, s3, s4⟩ := dIn_step' hG (i := i) (by omega) (xs.length - (i + 1)) (i + 1) ps n hs hl (by omega) (by omega) (by omega)
    have s3' : smallN (n + 10) (dIn z h xs i (xs.length - (i + 1)) (i + 1) ps).1 := by
      intro k hk
      obtain ⟨x, y, e, e1, e2⟩ := s3 k hk
      exact ⟨x, y, e, ⟨by omega, by omega⟩, by omega, by omega⟩
    unfold dOut
    rw [if_neg (fun hc => hc s1)]
    obtain ⟨r1, r2, r3, r4⟩ := dOut_step' hG h10 m (i + 1) _ (n + 10) s3' s2 (by omega) (by omega)
    refine ⟨r1, r2, by rw [show n + 10 * (m + 1) = n + 10 + 10 * m by omega]; exact r3, fun k hk => ?_⟩
    rw [(r4 k hk).1, (r4 k hk).2, (s4 k hk).1, (s4 k hk).2]
    exact ⟨Int.add_assoc _ _ _, Int.add_assoc _ _ _⟩
end Go.Vs.RF

set_option linter.unusedVariables false
set_option linter.unusedSimpArgs false
set_option maxRecDepth 100000
/- direct keeps: the law -/
namespace Go.Vs.RF
open Go Go.Proofs Go.Vs Go.IntWalk

theorem mom_vec {r : List Int} (h : goodB r) : momR r = vecRow (fr r 8) (fr r 10) := by
  obtain ⟨x, y, e, _, _⟩ := momV h
  have e1 : fr (momR r) 0 = x := by rw [e]; exact (vr_fr x y).1
  have e2 : fr (momR r) 2 = y := by rw [e]; exact (vr_fr x y).2
  have e3 : fr (momR r) 0 = fr r 8 := rfl
  have e4 : fr (momR r) 2 = fr r 10 := rfl
  rw [e, ← e1, ← e2, e3, e4]
theorem map_mom {xs : List (List Int)} {k : Nat} (hk : k < xs.length) : (xs.map momR).getD k [] = momR (xs.getD k []) := by simp [List.getD, hk]
theorem all_at {Q : List Int → Prop} {xs : List (List Int)} (h : ∀ r ∈ xs, Q r) {k : Nat} (hk : k < xs.length) : Q (xs.getD k []) := by rw [get_row hk]; exact h _ (List.getElem_mem hk)
theorem kick_of {z : List Int} {h : Int} {xs : List (List Int)} {n : Nat} (hG : okG z h xs) (h10 : xs.length ≤ 10) (hs : smallN n (xs.map momR)) (hn : n ≤ 900) :
    dirE z h xs = 0 ∧ (dirL z h xs).length = xs.length ∧ smallN (n + 100) (dirL z h xs) ∧ ∀ k, k < xs.length → fr ((dirL z h xs).getD k []) 0 = fr (xs.getD k []) 8 + dXo (gXf z h xs) xs.length xs.length 0 k ∧ fr ((dirL z h xs).getD k []) 2 = fr (xs.getD k []) 10 + dXo (gYf z h xs) xs.length xs.length 0 k := by
  obtain ⟨r1, r2, r3, r4⟩ := dOut_step' hG h10 xs.length 0 (xs.map momR) n hs (List.length_map _) (by omega) (by omega)
  refine ⟨r1, r2, ?_, ?_⟩
  · intro k hk
    obtain ⟨x, y, e, e1, e2⟩ := r3 k hk
    exact ⟨x, y, e, ⟨by omega, by omega⟩, by omega, by omega⟩
  · intro k hk
    have := r4 k hk
    rw [map_mom hk] at this
    exact this
theorem okG_made {how h : Int} {xs : List (List Int)} (hm : ∀ r ∈ xs, madeB r) (hw : u8ok how) (hh : 0 ≤ h ∧ h ≤ 18446744073709551616) : okG (wz how) h xs := by
  intro i j hi hj
  obtain ⟨⟨g1, g2, g3⟩, g4, g5, g6⟩ := gv_made (all_at hm hi) (all_at hm hj) hh hw
  unfold gXf gYf
  rw [g2, g3]
  exact ⟨g1, g5, g6⟩
theorem made_small {xs : List (List Int)} (hm : ∀ r ∈ xs, madeB r) : smallN 0 (xs.map momR) := by
  intro k hk
  have hk' : k < xs.length := by simpa using hk
  have hr := all_at hm hk'
  obtain ⟨a0, a4, a6, a8, a10⟩ := madeB_nums hr
  exact ⟨_, _, by rw [map_mom hk', mom_vec (madeB_good hr)], ⟨by omega, by omega⟩, by omega, by omega⟩
/-! bodies that have got their momenta -/
theorem putPs_get {ps xs : List (List Int)} {n k : Nat} (hk : k < xs.length) (hn : k < n) : (putPs ps n xs).getD k [] = putP (ps.getD k []) (xs.getD k []) := by
  unfold putPs
  simp only [List.getD, List.getElem?_mapIdx, List.getElem?_eq_getElem hk, Option.map_some, if_pos hn, Option.getD_some]
theorem putPs_len (ps xs : List (List Int)) (n : Nat) : (putPs ps n xs).length = xs.length := by unfold putPs; simp
theorem putPs_zero (ps xs : List (List Int)) : putPs ps 0 xs = xs := by
  unfold putPs
  apply List.ext_getElem?
  intro p
  rw [List.getElem?_mapIdx]
  cases xs[p]? <;> simp
theorem putPs_step (ps xs : List (List Int)) (n : Nat) : (putPs ps n xs).modify n (putP (ps.getD n [])) = putPs ps (n + 1) xs := by
  unfold putPs
  apply List.ext_getElem?
  intro p
  rw [List.getElem?_modify, List.getElem?_mapIdx, List.getElem?_mapIdx]
  cases xs[p]? with
  | none => rfl
  | some r =>
    show some (if n = p then putP (ps.getD n []) (if p < n then putP (ps.getD p []) r else r) else (if p < n then putP (ps.getD p []) r else r)) = some (if p < n + 1 then putP (ps.getD p []) r else r)
    by_cases h : n = p
    · subst h; simp
    · rw [if_neg h]
      by_cases h2 : p < n
      · rw [if_pos h2, if_pos (by omega)]
      · rw [if_neg h2, if_neg (by omega)]
theorem putP_fr (p r : List Int) : fr (putP p r) 0 = fr r 0 ∧ fr (putP p r) 4 = fr r 4 ∧ fr (putP p r) 6 = fr r 6 ∧ fr (putP p r) 8 = fr p 0 ∧ fr (putP p r) 10 = fr p 2 := ⟨rfl, rfl, rfl, rfl, rfl⟩
theorem putP_good {r : List Int} {x y : Int} (h : goodB r) (hx : mayF x) (hy : mayF y) : goodB (putP (vecRow x y) r) := by
  obtain ⟨h1, h2, m0, m4, m6, m8, m10⟩ := h
  refine ⟨rfl, ?_, m0, m4, m6, ?_, ?_⟩
  · intro j hj
    have hx' := hx.1
    have hx2 := hx.2
    have hy' := hy.1
    have hy2 := hy.2
    rcases j with _|_|_|_|_|_|_|_|_|_|_|_|_|_|_|_|_|_|_|_|j
    · exact h2 0 (by decide)
    · exact h2 1 (by decide)
    · exact h2 2 (by decide)
    · exact h2 3 (by decide)
    · exact h2 4 (by decide)
    · exact h2 5 (by decide)
    · exact h2 6 (by decide)
    · exact h2 7 (by decide)
    · show (-9223372036854775808 : Int) ≤ x / 18446744073709551616 ∧ x / 18446744073709551616 ≤ 9223372036854775807; omega
    · show (0 : Int) ≤ x % 18446744073709551616 ∧ x % 18446744073709551616 ≤ 18446744073709551615; omega
    · show (-9223372036854775808 : Int) ≤ y / 18446744073709551616 ∧ y / 18446744073709551616 ≤ 9223372036854775807; omega
    · show (0 : Int) ≤ y % 18446744073709551616 ∧ y % 18446744073709551616 ≤ 18446744073709551615; omega
    · exact h2 12 (by decide)
    · exact h2 13 (by decide)
    · exact h2 14 (by decide)
    · exact h2 15 (by decide)
    · exact h2 16 (by decide)
    · exact h2 17 (by decide)
    · exact h2 18 (by decide)
    · exact h2 19 (by decide)
    · omega
  · show mayF (fr (putP (vecRow x y) r) 8); rw [(putP_fr _ _).2.2.2.1, (vr_fr x y).1]; exact hx
  · show mayF (fr (putP (vecRow x y) r) 10); rw [(putP_fr _ _).2.2.2.2, (vr_fr x y).2]; exact hy
theorem putP_mom (x y : Int) (r : List Int) : momR (putP (vecRow x y) r) = vecRow x y := rfl
theorem gv_back {z : List Int} {h m ax ay : Int} {r r' : List Int} (e0 : fr r' 0 = fr r 0) (e4 : fr r' 4 = fr r 4) (e6 : fr r' 6 = fr r 6) : gvE z (-h) r' m ax ay = gvE z h r m ax ay ∧ gvX z (-h) r' m ax ay = -gvX z h r m ax ay ∧ gvY z (-h) r' m ax ay = -gvY z h r m ax ay := by
  unfold gvE gvX gvY
  rw [e0, e4, e6, pl_time.1, pl_time.2.1, pl_time.2.2]
  split
  · exact ⟨rfl, rfl, rfl⟩
  · exact ⟨rfl, rfl, rfl⟩
theorem back_G {z : List Int} {h : Int} {xs ps : List (List Int)} (hG : okG z h xs) : okG z (-h) (putPs ps xs.length xs) ∧ (∀ i j, i < xs.length → j < xs.length → gXf z (-h) (putPs ps xs.length xs) i j = -gXf z h xs i j) ∧ ∀ i j, i < xs.length → j < xs.length → gYf z (-h) (putPs ps xs.length xs) i j = -gYf z h xs i j := by
  have key : ∀ i j, i < xs.length → j < xs.length → gvE z (-h) ((putPs ps xs.length xs).getD i []) (fr ((putPs ps xs.length xs).getD j []) 0) (fr ((putPs ps xs.length xs).getD j []) 4) (fr ((putPs ps xs.length xs).getD j []) 6) = gvE z h (xs.getD i []) (fr (xs.getD j []) 0) (fr (xs.getD j []) 4) (fr (xs.getD j []) 6) ∧ gXf z (-h) (putPs ps xs.length xs) i j = -gXf z h xs i j ∧ gYf z (-h) (putPs ps xs.length xs) i j = -gYf z h xs i j := by
    intro i j hi hj
    unfold gXf gYf
    rw [putPs_get hi hi, putPs_get hj hj]
    obtain ⟨a0, a4, a6, _, _⟩ := putP_fr (ps.getD i []) (xs.getD i [])
    obtain ⟨b0, b4, b6, _, _⟩ := putP_fr (ps.getD j []) (xs.getD j [])
    rw [b0, b4, b6]
    exact gv_back a0 a4 a6
  refine ⟨?_, fun i j hi hj => (key i j hi hj).2.1, fun i j hi hj => (key i j hi hj).2.2⟩
  intro i j hi hj
  rw [putPs_len] at hi hj
  obtain ⟨k1, k2, k3⟩ := key i j hi hj
  obtain ⟨g1, g2, g3⟩ := hG i j hi hj
  rw [k1, k2, k3]
  exact ⟨g1, ⟨by omega, by omega⟩, by omega, by omega⟩
/-- back again -/
theorem kick_back {how h : Int} {xs : List (List Int)} (hm : ∀ r ∈ xs, madeB r) (h10 : xs.length ≤ 10) (hw : u8ok how) (hh : 0 ≤ h ∧ h ≤ 18446744073709551616) :
    dirE (wz how) (-h) (putPs (dirL (wz how) h xs) xs.length xs) = 0 ∧ dirL (wz how) (-h) (putPs (dirL (wz how) h xs) xs.length xs) = xs.map momR ∧ goodBs (putPs (dirL (wz how) h xs) xs.length xs) := by
  have hG := okG_made hm hw hh
  obtain ⟨k1, k2, k3, k4⟩ := kick_of hG h10 (made_small hm) (by omega)
  obtain ⟨b1, b2, b3⟩ := back_G (ps := dirL (wz how) h xs) hG
  generalize hps : dirL (wz how) h xs = ps at *
  have hl := putPs_len ps xs xs.length
  have hs : smallN 100 ((putPs ps xs.length xs).map momR) := by
    intro k hk
    have hk' : k < xs.length := by simpa [hl] using hk
    obtain ⟨x, y, e, e1, e2⟩ := k3 k (by omega)
    exact ⟨x, y, by rw [map_mom (by omega), putPs_get hk' hk', e, putP_mom], ⟨by omega, by omega⟩, by omega, by omega⟩
  obtain ⟨q1, q2, q3, q4⟩ := kick_of b1 (by omega) hs (by omega)
  refine ⟨q1, ?_, ?_⟩
  · apply List.ext_getElem?
    intro k
    by_cases hk : k < xs.length
    · have e1 : (dirL (wz how) (-h) (putPs ps xs.length xs)).getD k [] = momR (xs.getD k []) := by
        obtain ⟨x, y, e, _, _⟩ := q3 k (by omega)
        obtain ⟨u, v⟩ := q4 k (by omega)
        rw [e, hl, putPs_get hk hk, (putP_fr _ _).2.2.2.1, (vr_fr x y).1, (k4 k hk).1, dXo_neg b2 _ _ _ (by omega)] at u
        rw [e, hl, putPs_get hk hk, (putP_fr _ _).2.2.2.2, (vr_fr x y).2, (k4 k hk).2, dXo_neg b3 _ _ _ (by omega)] at v
        rw [e, mom_vec (madeB_good (all_at hm hk)), show x = fr (xs.getD k []) 8 by omega, show y = fr (xs.getD k []) 10 by omega]
      rw [get_row (by omega), get_row hk] at e1
      rw [List.getElem?_eq_getElem (by omega), List.getElem?_map, List.getElem?_eq_getElem hk, e1]
      rfl
    · rw [List.getElem?_eq_none (by omega), List.getElem?_eq_none (by simp; omega)]
  · intro r hr
    obtain ⟨k, hk, rfl⟩ := List.getElem_of_mem hr
    have hk' : k < xs.length := by omega
    rw [← get_row hk, putPs_get hk' hk']
    obtain ⟨x, y, e, e1, e2⟩ := k3 k (by omega)
    rw [e]
    exact putP_good (madeB_good (all_at hm hk')) ⟨by omega, by omega⟩ ⟨by omega, by omega⟩
end Go.Vs.RF

set_option linter.unusedVariables false
set_option linter.unusedSimpArgs false
set_option maxRecDepth 100000
/- direct keeps: the law, joined -/
namespace Go.Vs.RF
open Go Go.Proofs Go.Vs Go.IntWalk

theorem sumF_bd {f : Nat → Int} : ∀ {n : Nat}, (∀ k, k < n → -100000000000000000000000000000 ≤ f k ∧ f k ≤ 100000000000000000000000000000) → -100000000000000000000000000000 * (n : Int) ≤ sumF f n ∧ sumF f n ≤ 100000000000000000000000000000 * (n : Int)
  | 0, _ => ⟨by show _ ≤ (0 : Int); omega, by show (0 : Int) ≤ _; omega⟩
  | n + 1, h => by
    have h1 := sumF_bd (n := n) (fun k hk => h k (by omega))
    have h2 := h n (by omega)
    unfold sumF
    omega
theorem lK0 (d n0 : Nat) : LoopOk (envOf Try.prog NK d) f_perigeelaw11_DirectKeeps n0 0 (lp Try.prog f_perigeelaw11_DirectKeeps 0) LK0 := by
  intro st K hst
  obtain ⟨z, ns, ps, us, xs, h, ⟨hm, hs, hl, h10, rfl, rfl⟩, hK⟩ := hst
  have hok : okRows ksB xs := fun r hr => (madeB_good (hm r hr)).2.1
  have bX : ∀ k, k < xs.length → (-73786976294838206464 ≤ pX xs 8 k ∧ pX xs 8 k ≤ 73786976294838206464) ∧ -73786976294838206464 ≤ pX xs 10 k ∧ pX xs 10 k ≤ 73786976294838206464 := by
    intro k hk
    obtain ⟨a0, a4, a6, a8, a10⟩ := madeB_nums (all_at hm hk)
    exact ⟨a8, a10⟩
  have bP : ∀ k, k < ps.length → ∃ x y, ps.getD k [] = vecRow x y ∧ (-100000000000000000000000000000 ≤ x ∧ x ≤ 100000000000000000000000000000) ∧ -100000000000000000000000000000 ≤ y ∧ y ≤ 100000000000000000000000000000 := by
    intro k hk
    rw [get_row hk]
    exact hs _ (List.getElem_mem hk)
  have cX : ∀ i, i ≤ xs.length → mayF (sumF (pX xs 8) i) ∧ mayF (sumF (pX xs 10) i) ∧ mayF (sumF (pX ps 0) i) ∧ mayF (sumF (pX ps 2) i) := by
    intro i hi
    have s1 := sumF_bd (f := pX xs 8) (n := i) (fun k hk => by have := bX k (by omega); omega)
    have s2 := sumF_bd (f := pX xs 10) (n := i) (fun k hk => by have := bX k (by omega); omega)
    have s3 := sumF_bd (f := pX ps 0) (n := i) (fun k hk => by obtain ⟨x, y, e, e1, e2⟩ := bP k (by omega); unfold pX; rw [(vec_fr e).1]; exact e1)
    have s4 := sumF_bd (f := pX ps 2) (n := i) (fun k hk => by obtain ⟨x, y, e, e1, e2⟩ := bP k (by omega); unfold pX; rw [(vec_fr e).2]; exact e2)
    exact ⟨⟨by omega, by omega⟩, ⟨by omega, by omega⟩, ⟨by omega, by omega⟩, by omega, by omega⟩
  rw [show SK0 z ns ps us xs xs h 0 0 0 0 0 0 0 = SK0 z ns ps us xs (putPs ps 0 xs) h (sumF (pX xs 8) 0) (sumF (pX xs 10) 0) 0 (sumF (pX ps 0) 0) (sumF (pX ps 2) 0) 0 ((0 : Nat) : Int) by rw [putPs_zero]; rfl]
  refine loop_of (fun i : Nat => SK0 z ns ps us xs (putPs ps i xs) h (sumF (pX xs 8) i) (sumF (pX xs 10) i) 0 (sumF (pX ps 0) i) (sumF (pX ps 2) i) 0 i) (fun i => i ≤ xs.length) (fun i => xs.length - i) ?_ (a := 0) (Nat.zero_le _)
  intro i hle k hn hk
  show round (envOf Try.prog ⟨Γf6, _, fun _ => none⟩ d) _ _ _ _ _ k
  rw [rK0]
  rw [show ((i : Nat) : Int).toNat = i by omega]
  rintro j1 e1 j2 e2' j3 e3 j4 e4 t5 rfl t6 rfl t7 rfl t8 rfl t9 rfl t10 rfl t11 rfl t12 rfl t13 e13 t14 e14 t15 e15 t16 e16 t17 e17 t18 e18 t19 e19 t20 e20 t21 e21 t22 e22 t23 e23
  rw [br_dec]
  constructor
  · intro hi
    have hi' : i < xs.length := by omega
    obtain ⟨m1, m2, m3, m4⟩ := cX i hle
    obtain ⟨n1, n2', n3, n4⟩ := cX (i + 1) hi'
    have q16 : t16 = sumF (pX xs 8) (i + 1) := by rw [e16, e1]; rfl
    have q17 : t17 = sumF (pX xs 10) (i + 1) := by rw [e17, e2']; rfl
    have q18 : t18 = sumF (pX ps 0) (i + 1) := by rw [e18, e3]; rfl
    have q19 : t19 = sumF (pX ps 2) (i + 1) := by rw [e19, e4]; rfl
    rw [q16, q17, n2_ok _ n1 n2'] at e20 e21
    rw [q18, q19, n2_ok _ n3 n4] at e22 e23
    have p13 : t13 := by rw [e13]; omega
    have p14 : t14 := by rw [e14]; omega
    have p15 : t15 := by rw [e15, putPs_len]; omega
    have v1 : vmay2 [vx (sumF (pX xs 8) i) (sumF (pX xs 10) i), IV.agg [.int .i64 (rd xs i 8), .int .u64 (rd xs i 9), .int .i64 (rd xs i 10), .int .u64 (rd xs i 11)]] [] := by
      have h1 := vx_cells (a := rd xs i 8) (b := rd xs i 9) (c := rd xs i 10) (d := rd xs i 11) (lo_in hok _ 9 (by decide) rfl) (lo_in hok _ 11 (by decide) rfl)
      rw [(List.cons.inj h1).1]
      have b := bX i hi'
      exact vmay2_of m1 m2 (show mayF (pX xs 8 i) from ⟨by omega, by omega⟩) (show mayF (pX xs 10 i) from ⟨by omega, by omega⟩)
    have v2' : vmay2 [vx (sumF (pX ps 0) i) (sumF (pX ps 2) i), IV.agg [.int .i64 (rd ps i 0), .int .u64 (rd ps i 1), .int .i64 (rd ps i 2), .int .u64 (rd ps i 3)]] [] := by
      obtain ⟨x, y, e, f1, f2⟩ := bP i (by omega)
      rw [(vec_cell e).1]
      exact vmay2_of m3 m4 ⟨by omega, by omega⟩ ⟨by omega, by omega⟩
    refine ⟨p13, p13, v1, p14, p14, v2', p14, p14, p15, p15, ?_⟩
    rw [e20, e21, e22, e23, q16, q17, q18, q19, e2_ok n1 n2', e2_ok n3 n4]
    have := hn (i + 1) hi' (by omega)
    rw [← putPs_step] at this
    rw [show IntKind.i64.wrap ((i : Int) + 1) = ((i + 1 : Nat) : Int) by rw [i64_in _ (by omega)]; rfl]
    exact this
  · intro hi
    have hi' : i = xs.length := by omega
    subst hi'
    exact hk _ _ (by simp) hK
theorem lK1 (d n0 : Nat) : LoopOk (envOf Try.prog NK d) f_perigeelaw11_DirectKeeps n0 1 (lp Try.prog f_perigeelaw11_DirectKeeps 1) LK1 := by
  intro st K hst
  obtain ⟨z, ns, us, xs, qs, ⟨rfl, h10, rfl, rfl⟩, hK⟩ := hst
  refine loop_of (fun i : Nat => SK1 z ns us xs (xs.map momR) i) (fun i => i ≤ xs.length) (fun i => xs.length - i) ?_ (a := 0) (Nat.zero_le _)
  intro i hle k hn hk
  show round (envOf Try.prog ⟨Γf6, _, fun _ => none⟩ d) _ _ _ _ _ k
  rw [rK1, List.length_map]
  rw [show ((i : Nat) : Int).toNat = i by omega]
  rintro t1 e1 t2 e2 t3 e3 t4 e4 t5 e5 t6 e6 t7 e7 t8 e8 t9 e9 t10 e10
  rw [br_dec]
  constructor
  · intro hi
    have hi' : i < xs.length := by omega
    have p9 : t9 := by rw [e9]; omega
    have p10 : t10 := by rw [e10]; omega
    have hr : ∀ j, rd (xs.map momR) i j = (momR (xs.getD i [])).getD j 0 := by intro j; unfold rd; rw [map_mom hi']
    have q1 : t1 = t2 := by rw [e1, e2, hr]; rfl
    have q2 : t3 = t4 := by rw [e3, e4, hr]; rfl
    have q3 : t5 = t6 := by rw [e5, e6, hr]; rfl
    have q4 : t7 = t8 := by rw [e7, e8, hr]; rfl
    refine ⟨p9, p9, p10, p10, br_no (by rw [q1, q2, q3, q4]; simp) ?_⟩
    rw [show IntKind.i64.wrap ((i : Int) + 1) = ((i + 1 : Nat) : Int) by rw [i64_in _ (by omega)]; rfl]
    exact hn (i + 1) hi' (by omega)
  · intro hi
    exact hk _ _ (by simp) hK
theorem knowKeeps : KnowOk Try.prog NK 3 := know_own (fun g sp h => ctrsf6 h) (by
  intro f i S hS
  change (if f = f_perigeelaw11_DirectKeeps then (if i = 0 then some LK0 else if i = 1 then some LK1 else none) else none) = some S at hS
  split at hS
  · rename_i hf
    subst hf
    split at hS
    · rename_i hi; subst hi; cases hS; exact lK0
    · split at hS
      · rename_i hi; subst hi; cases hS; exact lK1
      · cases hS
  · cases hS) (fun g G h => noT h) 3
def pDKeeps (l : List IV) (bs : List Blk) : Prop := ∃ ns how h, l = [.sl 0, .int .u8 how, .int .u64 h] ∧ bs = [.ro [.u8] ns] ∧ u8ok how ∧ u64ok h
noncomputable def spDKeeps : Vs.Spec := ⟨pDKeeps, fun _ _ => (.bool true, [])⟩
theorem c_DirectKeeps : Contract Try.prog f_perigeelaw11_DirectKeeps spDKeeps := by
  refine contract_of (N := NK) 3 knowKeeps ?_
  rintro l bs _ hB ⟨ns, how, h, rfl, rfl, hh, hu⟩
  have hb : okRows [.u8] ns ∧ 0 < [IntKind.u8].length ∧ ns.length ≤ maxLen := hB (.ro [.u8] ns) (List.mem_singleton.2 rfl)
  show comes _ _ _ _ _ _ _
  rw [v_DirectKeeps]
  have hw : ∀ v, worN [IV.agg (worldC (wz how) 0 1 2 3 4), v] 0 = wz how := fun v => worN_of _ (wz how) 0 1 2 3 4 rfl rfl
  rw [hw, hour_fx hu, Int.zero_add]
  have hm : ∀ r ∈ wbs ns 10, madeB r := bodies_madeB hb.1 _
  have hg := wbs_good hb.1 10
  have h10 : (wbs ns 10).length ≤ 10 := by have := (wbs_len (ns := ns) (m := 10) ⟨by decide, by decide⟩).2; omega
  have hu' : 0 ≤ h ∧ h < 18446744073709551616 := hu
  have hh' : 0 ≤ h ∧ h ≤ 18446744073709551616 := ⟨hu'.1, by omega⟩
  obtain ⟨k1, k2, k3, k4⟩ := kick_of (okG_made hm hh hh') h10 (made_small hm) (by omega)
  obtain ⟨b1, b2, b3⟩ := kick_back hm h10 hh hh'
  have ch : h / 18446744073709551616 * 18446744073709551616 + h % 18446744073709551616 = h := by omega
  have ch2 : -h / 18446744073709551616 * 18446744073709551616 + -h % 18446744073709551616 = -h := by omega
  rintro t1 e1 t2 e2
  have q1 : t1 = 0 := e1.trans k1
  have q2 : t2 = ((wbs ns 10).length : Int) := by rw [e2, k2]
  have hsm : smallP (dirL (wz how) h (wbs ns 10)) := by
    intro r hr
    obtain ⟨k, hk, rfl⟩ := List.getElem_of_mem hr
    obtain ⟨x, y, e, f1, f2⟩ := k3 k hk
    rw [get_row hk] at e
    exact ⟨x, y, e, ⟨by omega, by omega⟩, by omega, by omega⟩
  refine ⟨⟨ns, 10, how, rfl, rfl, ⟨by decide, by decide⟩, hh⟩, ⟨wz how, wbs ns 10, [], [], neg1 (wbs ns 10).length, [], h, rfl, rfl, wz_may hh, hg, hour_may hu, by omega⟩, preI_of (by rw [q1]; exact ⟨by decide, by decide⟩), br_no (by rw [q1]; rfl) (br_no (by rw [q2]; simp) ⟨by omega, wz how, ns, dirL (wz how) h (wbs ns 10), neg1 (wbs ns 10).length, wbs ns 10, h, ⟨hm, hsm, k2, h10, rfl, by unfold SK0; rw [← hour_fx hu]; rfl⟩, ?_⟩)⟩
  rw [ch, ch2, hw, b1, b2]
  refine ⟨⟨h, rfl, rfl, hour_may hu⟩, ⟨wz how, _, [], [], _, [], -h, rfl, rfl, wz_may hh, b3, ⟨by omega, by omega⟩, by rw [putPs_len]; omega⟩, ?_⟩
  have s1 : sumF (pX (wbs ns 10) 8) (wbs ns 10).length = sumF (pX (dirL (wz how) h (wbs ns 10)) 0) (wbs ns 10).length := by
    rw [sumF_eq (f := pX (dirL (wz how) h (wbs ns 10)) 0) (g := fun k => pX (wbs ns 10) 8 k + dXo (gXf (wz how) h (wbs ns 10)) (wbs ns 10).length (wbs ns 10).length 0 k) _ (fun k hk => (k4 k hk).1), sumF_add, show sumF (fun k => dXo (gXf (wz how) h (wbs ns 10)) (wbs ns 10).length (wbs ns 10).length 0 k) (wbs ns 10).length = 0 from sumF_dXo _ _ _ _ (by omega), Int.add_zero]
  have s2 : sumF (pX (wbs ns 10) 10) (wbs ns 10).length = sumF (pX (dirL (wz how) h (wbs ns 10)) 2) (wbs ns 10).length := by
    rw [sumF_eq (f := pX (dirL (wz how) h (wbs ns 10)) 2) (g := fun k => pX (wbs ns 10) 10 k + dXo (gYf (wz how) h (wbs ns 10)) (wbs ns 10).length (wbs ns 10).length 0 k) _ (fun k hk => (k4 k hk).2), sumF_add, show sumF (fun k => dXo (gYf (wz how) h (wbs ns 10)) (wbs ns 10).length (wbs ns 10).length 0 k) (wbs ns 10).length = 0 from sumF_dXo _ _ _ _ (by omega), Int.add_zero]
  rw [s1, s2]
  refine br_no (by simp) ⟨preI_of ⟨by decide, by decide⟩, br_no (by rfl) (br_no (by rw [List.length_map, k2]; simp) ⟨wz how, ns, neg1 (wbs ns 10).length, wbs ns 10, (wbs ns 10).map momR, ⟨rfl, h10, rfl, rfl⟩, pAwk_ok, rfl⟩)⟩
theorem lawDK_of (ns : List (List Int)) {how h : Int} (k1 : inK .u8 how) (k2 : inK .u64 h) : pDKeeps [.sl 0, .int .u8 how, .int .u64 h] [.ro [.u8] ns] := by
  have h1 : 0 ≤ how ∧ how ≤ 255 := k1
  have h2 : 0 ≤ h ∧ h ≤ 18446744073709551615 := k2
  exact ⟨ns, how, h, rfl, rfl, ⟨h1.1, by omega⟩, ⟨h2.1, by omega⟩⟩
end Go.Vs.RF
