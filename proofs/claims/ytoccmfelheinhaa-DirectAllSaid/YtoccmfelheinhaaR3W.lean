import Derived.Test.YtoccmfelheinhaaR3I
import Derived.Test.YtoccmfelheinhaaVs3
set_option linter.unusedVariables false
/- which worlds may be; are two one? -/
namespace Go.Vs.RF
open Go Go.Proofs Go.Vs
noncomputable def Γmy1 : FuncId → Option Vs.Spec := fun g => if g = f_perigeeref22_MayBody then some spMayBody else Γf6 g
noncomputable def Nmy1 : Know := ⟨Γmy1, fun _ _ => none, fun _ => none⟩
def rlB (r : List Int) (i : Int) : Bool := decide (r.getD 0 0 ≥ -1) && (decide (r.getD 0 0 < i) && (frB (fr r 1) 0 4951760157141521099596496896 && (frB (fr r 3) 0 17293822569102704640 && (decide (r.getD 5 0 ≥ 0) && (decide (r.getD 5 0 ≤ 65535) && (decide (r.getD 6 0 ≥ 0) && (decide (r.getD 6 0 ≤ 65535) && (decide (r.getD 7 0 ≥ 1) && (decide (r.getD 7 0 ≤ 1073741824) && frB (fr r 8) 0 19807040628566084398385987584)))))))))
noncomputable def rowU (l : List IV) : List Int := [argI l 0 0, argI l 0 1, argI l 0 2, argI l 0 3, argI l 0 4, argI l 0 5, argI l 0 6, argI l 0 7, argI l 0 8, argI l 0 9]
def pRl (l : List IV) (bs : List Blk) : Prop := ∃ r i, l = [.agg (rowCells ksR [r] 0 0 10), .int .i64 i] ∧ bs = [] ∧ r.length = 10 ∧ ∀ j, j < 10 → inK (ksR.getD j .i64) (r.getD j 0)
noncomputable def spRl : Vs.Spec := ⟨pRl, fun l _ => (.bool (rlB (rowU l) (argI l 1 0)), [])⟩
theorem v_MayRail (r : List Int) (i : Int) (K : IV → List Blk → Prop) : (comes Try.prog Nmy1 3 f_perigeeref22_MayRail [.agg (rowCells ksR [r] 0 0 10), .int .i64 i] [] K) = (∀ (t1 : Int), t1 = rd [r] (0 : Nat) (0 : Nat) → ∀ (t2 : Int), t2 = rd [r] (0 : Nat) (1 : Nat) → ∀ (t3 : Int), t3 = rd [r] (0 : Nat) (2 : Nat) → ∀ (t4 : Int), t4 = rd [r] (0 : Nat) (3 : Nat) → ∀ (t5 : Int), t5 = rd [r] (0 : Nat) (4 : Nat) → ∀ (t6 : Int), t6 = rd [r] (0 : Nat) (5 : Nat) → ∀ (t7 : Int), t7 = rd [r] (0 : Nat) (6 : Nat) → ∀ (t8 : Int), t8 = rd [r] (0 : Nat) (7 : Nat) → ∀ (t9 : Int), t9 = rd [r] (0 : Nat) (8 : Nat) → ∀ (t10 : Int), t10 = rd [r] (0 : Nat) (9 : Nat) → br (decide (t1 ≥ (-1 : Int))) (br (decide (t1 < i)) (pTo [IV.agg [IV.int IntKind.i64 t2, IV.int IntKind.u64 t3], IV.int IntKind.i64 (268435456 : Int)] [] ∧ br (frB (t2 * (18446744073709551616 : Int) + t3) (0 : Int) (4951760157141521099596496896 : Int)) (pFrom [IV.agg [IV.int IntKind.i64 t4, IV.int IntKind.u64 t5], IV.agg [IV.int IntKind.i64 (0 : Int), IV.int IntKind.u64 (0 : Int)], IV.agg [IV.int IntKind.i64 (0 : Int), IV.int IntKind.u64 (17293822569102704640 : Int)]] [] ∧ br (frB (t4 * (18446744073709551616 : Int) + t5) (0 : Int) (17293822569102704640 : Int)) (br (decide (t6 ≥ (0 : Int))) (br (decide (t6 ≤ (65535 : Int))) (br (decide (t7 ≥ (0 : Int))) (br (decide (t7 ≤ (65535 : Int))) (br (decide (t8 ≥ (1 : Int))) (br (decide (t8 ≤ (1073741824 : Int))) (pTo [IV.agg [IV.int IntKind.i64 t9, IV.int IntKind.u64 t10], IV.int IntKind.i64 (1073741824 : Int)] [] ∧ K (IV.bool (frB (t9 * (18446744073709551616 : Int) + t10) (0 : Int) (19807040628566084398385987584 : Int))) []) (K (IV.bool false) [])) (K (IV.bool false) [])) (K (IV.bool false) [])) (K (IV.bool false) [])) (K (IV.bool false) [])) (K (IV.bool false) [])) (K (IV.bool false) [])) (K (IV.bool false) [])) (K (IV.bool false) [])) (K (IV.bool false) [])) := by refine nm ?_; refine nm ?_; refine nm ?_; refine nm ?_; refine nm ?_; refine nm ?_; refine nm ?_; refine nm ?_; refine nm ?_; refine nm ?_; kernel_rfl
def wnB (n lo hi : Int) : Bool := decide (lo ≤ n ∧ n ≤ hi)
def pWn (l : List IV) (bs : List Blk) : Prop := ∃ n lo hi, l = [.int .i64 n, .int .i64 lo, .int .i64 hi] ∧ bs = []
noncomputable def spWn : Vs.Spec := ⟨pWn, fun l _ => (.bool (wnB (argI l 0 0) (argI l 1 0) (argI l 2 0)), [])⟩
theorem v_within22 (n lo hi : Int) (K : IV → List Blk → Prop) : (comes Try.prog Nmy1 3 f_perigeeref22_within [.int .i64 n, .int .i64 lo, .int .i64 hi] [] K) = (br (decide (n ≥ lo)) (K (IV.bool (decide (n ≤ hi))) []) (K (IV.bool false) [])) := by kernel_rfl
noncomputable def Γmy2 : FuncId → Option Vs.Spec := fun g => if g = f_perigeeref22_MayRail then some spRl else if g = f_perigeeref22_within then some spWn else Γmy1 g
def wB (z : List Int) (xs ts rs us es : List (List Int)) : List (Option Blk) := [some (.ro ksB xs), some (.ro ksT ts), some (.ro ksR rs), some (.ro [.i64] us), some (.ro ksE es), some (.var 86 (worldC z 0 1 2 3 4))]
def Sm0 (z : List Int) (xs ts rs us es : List (List Int)) (i : Int) : St := ⟨T 144 [(1, .ptr 5 0), (3, .int .i64 xs.length), (4, .int .i64 i)], wB z xs ts rs us es⟩
def Sm1 (z : List Int) (xs ts rs us es : List (List Int)) (i : Int) : St := ⟨T 144 [(1, .ptr 5 0), (3, .int .i64 xs.length), (5, .int .i64 i)], wB z xs ts rs us es⟩
def Sm2 (z : List Int) (xs ts rs us es : List (List Int)) (i : Int) : St := ⟨T 144 [(1, .ptr 5 0), (7, .int .i64 i)], wB z xs ts rs us es⟩
def Sm3 (z : List Int) (xs ts rs us es : List (List Int)) (m i : Int) : St := ⟨T 144 [(1, .ptr 5 0), (8, .int .i64 m), (9, .int .i64 i)], wB z xs ts rs us es⟩
theorem rm0 (Λ : FuncId → Nat → Option LoopS) (d : Nat) (z : List Int) (xs ts rs us es : List (List Int)) (i : Int) (k : Out → St → Prop) : (round (envOf Try.prog ⟨Γmy2, Λ, fun _ => none⟩ d) f_perigeeref22_mayParts 5 0 (lp Try.prog f_perigeeref22_mayParts 0) (Sm0 z xs ts rs us es i) k) = (∀ (t1 : Int), t1 = rd us i.toNat (0 : Nat) → ∀ (t2 : Prop), t2 = ((0 : Int) ≤ i ∧ i < (↑xs.length : Int)) → ∀ (t3 : Prop), t3 = ((0 : Int) ≤ i ∧ i < (↑us.length : Int)) → ∀ (t4 : Prop), t4 = k Out.ret (St.mk (T (144 : Nat) [((2 : Nat), IV.bool false)]) [some (Blk.ro ksB xs), some (Blk.ro ksT ts), some (Blk.ro ksR rs), some (Blk.ro [IntKind.i64] us), some (Blk.ro ksE es)]) → br (decide (i < (↑xs.length : Int))) (t2 ∧ t2 ∧ pBody0 [IV.agg (rowCells ksB xs i.toNat (0 : Nat) (20 : Nat))] [] ∧ br (!mayBB (rowA [IV.agg (rowCells ksB xs i.toNat (0 : Nat) (20 : Nat))] (0 : Nat))) t4 (t3 ∧ t3 ∧ pWn [IV.int IntKind.i64 t1, IV.int IntKind.i64 (-1 : Int), IV.int IntKind.i64 (IntKind.i64.wrap ((↑rs.length : Int) - (1 : Int)))] [] ∧ br (!wnB t1 (-1 : Int) (IntKind.i64.wrap ((↑rs.length : Int) - (1 : Int)))) t4 (k Out.normal (St.mk (T (144 : Nat) [((1 : Nat), IV.ptr (5 : Nat) (0 : Nat)), ((3 : Nat), IV.int IntKind.i64 (↑xs.length : Int)), ((4 : Nat), IV.int IntKind.i64 (IntKind.i64.wrap (i + (1 : Int))))]) [some (Blk.ro ksB xs), some (Blk.ro ksT ts), some (Blk.ro ksR rs), some (Blk.ro [IntKind.i64] us), some (Blk.ro ksE es), some (Blk.var (86 : Nat) (worldC z 0 1 2 3 4))])))) (k (Out.exit (0 : Nat)) (St.mk (T (144 : Nat) [((1 : Nat), IV.ptr (5 : Nat) (0 : Nat)), ((3 : Nat), IV.int IntKind.i64 (↑xs.length : Int))]) [some (Blk.ro ksB xs), some (Blk.ro ksT ts), some (Blk.ro ksR rs), some (Blk.ro [IntKind.i64] us), some (Blk.ro ksE es), some (Blk.var (86 : Nat) (worldC z 0 1 2 3 4))]))) := by refine nm ?_; refine nm ?_; refine nm ?_; refine nm ?_; kernel_rfl
theorem rm1 (Λ : FuncId → Nat → Option LoopS) (d : Nat) (z : List Int) (xs ts rs us es : List (List Int)) (i : Int) (k : Out → St → Prop) : (round (envOf Try.prog ⟨Γmy2, Λ, fun _ => none⟩ d) f_perigeeref22_mayParts 5 1 (lp Try.prog f_perigeeref22_mayParts 1) (Sm1 z xs ts rs us es i) k) = (∀ (t1 : Int), t1 = rd ts i.toNat (0 : Nat) → ∀ (t2 : Int), t2 = rd ts i.toNat (1 : Nat) → ∀ (t3 : Int), t3 = rd ts i.toNat (2 : Nat) → ∀ (t4 : Int), t4 = rd ts i.toNat (3 : Nat) → ∀ (t5 : Int), t5 = rd ts i.toNat (4 : Nat) → ∀ (t6 : Int), t6 = rd ts i.toNat (5 : Nat) → ∀ (t7 : Prop), t7 = ((0 : Int) ≤ i ∧ i < (↑ts.length : Int)) → ∀ (t8 : Prop), t8 = k Out.ret (St.mk (T (144 : Nat) [((2 : Nat), IV.bool false)]) [some (Blk.ro ksB xs), some (Blk.ro ksT ts), some (Blk.ro ksR rs), some (Blk.ro [IntKind.i64] us), some (Blk.ro ksE es)]) → br (decide (i < (↑ts.length : Int))) (t7 ∧ t7 ∧ pWn [IV.int IntKind.i64 t1, IV.int IntKind.i64 (0 : Int), IV.int IntKind.i64 (IntKind.i64.wrap ((↑xs.length : Int) - (1 : Int)))] [] ∧ br (!wnB t1 (0 : Int) (IntKind.i64.wrap ((↑xs.length : Int) - (1 : Int)))) t8 (pWn [IV.int IntKind.i64 t2, IV.int IntKind.i64 (0 : Int), IV.int IntKind.i64 (IntKind.i64.wrap ((↑xs.length : Int) - (1 : Int)))] [] ∧ br (!wnB t2 (0 : Int) (IntKind.i64.wrap ((↑xs.length : Int) - (1 : Int)))) t8 (br (t1 == t2) t8 (pTo [IV.agg [IV.int IntKind.i64 t3, IV.int IntKind.u64 t4], IV.int IntKind.i64 (1073741824 : Int)] [] ∧ br (!frB (t3 * (18446744073709551616 : Int) + t4) (0 : Int) (19807040628566084398385987584 : Int)) t8 (br (decide (t3 = (0 : Int)) && (decide (t4 = (0 : Int)) && true)) t8 (pTo [IV.agg [IV.int IntKind.i64 t5, IV.int IntKind.u64 t6], IV.int IntKind.i64 (1099511627776 : Int)] [] ∧ br (!frB (t5 * (18446744073709551616 : Int) + t6) (0 : Int) (20282409603651670423947251286016 : Int)) t8 (k Out.normal (St.mk (T (144 : Nat) [((1 : Nat), IV.ptr (5 : Nat) (0 : Nat)), ((3 : Nat), IV.int IntKind.i64 (↑xs.length : Int)), ((5 : Nat), IV.int IntKind.i64 (IntKind.i64.wrap (i + (1 : Int))))]) [some (Blk.ro ksB xs), some (Blk.ro ksT ts), some (Blk.ro ksR rs), some (Blk.ro [IntKind.i64] us), some (Blk.ro ksE es), some (Blk.var (86 : Nat) (worldC z 0 1 2 3 4))])))))))) (k (Out.exit (2 : Nat)) (St.mk (T (144 : Nat) [((1 : Nat), IV.ptr (5 : Nat) (0 : Nat))]) [some (Blk.ro ksB xs), some (Blk.ro ksT ts), some (Blk.ro ksR rs), some (Blk.ro [IntKind.i64] us), some (Blk.ro ksE es), some (Blk.var (86 : Nat) (worldC z 0 1 2 3 4))]))) := by refine nm ?_; refine nm ?_; refine nm ?_; refine nm ?_; refine nm ?_; refine nm ?_; refine nm ?_; refine nm ?_; kernel_rfl
theorem rm2 (Λ : FuncId → Nat → Option LoopS) (d : Nat) (z : List Int) (xs ts rs us es : List (List Int)) (i : Int) (k : Out → St → Prop) : (round (envOf Try.prog ⟨Γmy2, Λ, fun _ => none⟩ d) f_perigeeref22_mayParts 5 2 (lp Try.prog f_perigeeref22_mayParts 2) (Sm2 z xs ts rs us es i) k) = (∀ (t1 : Prop), t1 = ((0 : Int) ≤ i ∧ i < (↑rs.length : Int)) → br (decide (i < (↑rs.length : Int))) (t1 ∧ t1 ∧ pRl [IV.agg (rowCells ksR rs i.toNat (0 : Nat) (10 : Nat)), IV.int IntKind.i64 i] [] ∧ br (!rlB (rowU [IV.agg (rowCells ksR rs i.toNat (0 : Nat) (10 : Nat)), IV.int IntKind.i64 i]) i) (k Out.ret (St.mk (T (144 : Nat) [((2 : Nat), IV.bool false)]) [some (Blk.ro ksB xs), some (Blk.ro ksT ts), some (Blk.ro ksR rs), some (Blk.ro [IntKind.i64] us), some (Blk.ro ksE es)])) (k Out.normal (St.mk (T (144 : Nat) [((1 : Nat), IV.ptr (5 : Nat) (0 : Nat)), ((7 : Nat), IV.int IntKind.i64 (IntKind.i64.wrap (i + (1 : Int))))]) [some (Blk.ro ksB xs), some (Blk.ro ksT ts), some (Blk.ro ksR rs), some (Blk.ro [IntKind.i64] us), some (Blk.ro ksE es), some (Blk.var (86 : Nat) (worldC z 0 1 2 3 4))]))) (k (Out.exit (4 : Nat)) (St.mk (T (144 : Nat) [((1 : Nat), IV.ptr (5 : Nat) (0 : Nat))]) [some (Blk.ro ksB xs), some (Blk.ro ksT ts), some (Blk.ro ksR rs), some (Blk.ro [IntKind.i64] us), some (Blk.ro ksE es), some (Blk.var (86 : Nat) (worldC z 0 1 2 3 4))]))) := by refine nm ?_; kernel_rfl
theorem rm3 (Λ : FuncId → Nat → Option LoopS) (d : Nat) (z : List Int) (xs ts rs us es : List (List Int)) (m i : Int) (k : Out → St → Prop) : (round (envOf Try.prog ⟨Γmy2, Λ, fun _ => none⟩ d) f_perigeeref22_mayParts 5 3 (lp Try.prog f_perigeeref22_mayParts 3) (Sm3 z xs ts rs us es m i) k) = (∀ (t1 : Int), t1 = rd es i.toNat (0 : Nat) → ∀ (t2 : Int), t2 = rd es i.toNat (1 : Nat) → ∀ (t3 : Int), t3 = rd es i.toNat (2 : Nat) → ∀ (t4 : Int), t4 = rd es i.toNat (3 : Nat) → ∀ (t5 : Int), t5 = z.getD (0 : Nat) (0 : Int) → ∀ (t6 : Prop), t6 = ((0 : Int) ≤ i ∧ i < (↑es.length : Int)) → ∀ (t7 : Prop), t7 = k Out.ret (St.mk (T (144 : Nat) [((2 : Nat), IV.bool false)]) [some (Blk.ro ksB xs), some (Blk.ro ksT ts), some (Blk.ro ksR rs), some (Blk.ro [IntKind.i64] us), some (Blk.ro ksE es)]) → br (decide (i < (↑es.length : Int))) (t6 ∧ t6 ∧ pWn [IV.int IntKind.i64 t1, IV.int IntKind.i64 m, IV.int IntKind.i64 t5] [] ∧ br (!wnB t1 m t5) t7 (pWn [IV.int IntKind.i64 t2, IV.int IntKind.i64 (1 : Int), IV.int IntKind.i64 (8 : Int)] [] ∧ br (!wnB t2 (1 : Int) (8 : Int)) t7 (pWn [IV.int IntKind.i64 t3, IV.int IntKind.i64 (-1 : Int), IV.int IntKind.i64 (65535 : Int)] [] ∧ br (!wnB t3 (-1 : Int) (65535 : Int)) t7 (pWn [IV.int IntKind.i64 t4, IV.int IntKind.i64 (-1 : Int), IV.int IntKind.i64 (65535 : Int)] [] ∧ br (!wnB t4 (-1 : Int) (65535 : Int)) t7 (k Out.normal (St.mk (T (144 : Nat) [((1 : Nat), IV.ptr (5 : Nat) (0 : Nat)), ((8 : Nat), IV.int IntKind.i64 t1), ((9 : Nat), IV.int IntKind.i64 (IntKind.i64.wrap (i + (1 : Int))))]) [some (Blk.ro ksB xs), some (Blk.ro ksT ts), some (Blk.ro ksR rs), some (Blk.ro [IntKind.i64] us), some (Blk.ro ksE es), some (Blk.var (86 : Nat) [IV.int IntKind.i64 t5, IV.int IntKind.i64 (z.getD (1 : Nat) (0 : Int)), IV.int IntKind.u64 (z.getD (2 : Nat) (0 : Int)), IV.int IntKind.i64 (z.getD (3 : Nat) (0 : Int)), IV.int IntKind.u64 (z.getD (4 : Nat) (0 : Int)), IV.int IntKind.i64 (z.getD (5 : Nat) (0 : Int)), IV.int IntKind.u64 (z.getD (6 : Nat) (0 : Int)), IV.int IntKind.i64 (z.getD (7 : Nat) (0 : Int)), IV.int IntKind.u64 (z.getD (8 : Nat) (0 : Int)), IV.int IntKind.i64 (z.getD (9 : Nat) (0 : Int)), IV.int IntKind.u64 (z.getD (10 : Nat) (0 : Int)), IV.int IntKind.i64 (z.getD (11 : Nat) (0 : Int)), IV.int IntKind.i64 (z.getD (12 : Nat) (0 : Int)), IV.sl (0 : Nat), IV.sl (1 : Nat), IV.sl (2 : Nat), IV.sl (3 : Nat), IV.int IntKind.i64 (z.getD (13 : Nat) (0 : Int)), IV.int IntKind.u64 (z.getD (14 : Nat) (0 : Int)), IV.int IntKind.i64 (z.getD (15 : Nat) (0 : Int)), IV.int IntKind.u64 (z.getD (16 : Nat) (0 : Int)), IV.int IntKind.i64 (z.getD (17 : Nat) (0 : Int)), IV.int IntKind.u64 (z.getD (18 : Nat) (0 : Int)), IV.sl (4 : Nat)])])))))) (k (Out.exit (6 : Nat)) (St.mk (T (144 : Nat) []) [some (Blk.ro ksB xs), some (Blk.ro ksT ts), some (Blk.ro ksR rs), some (Blk.ro [IntKind.i64] us), some (Blk.ro ksE es)]))) := by refine nm ?_; refine nm ?_; refine nm ?_; refine nm ?_; refine nm ?_; refine nm ?_; refine nm ?_; kernel_rfl
def wS (z : List Int) (xs ts rs us es : List (List Int)) : List (Option Blk) := [some (.ro ksB xs), some (.ro ksT ts), some (.ro ksR rs), some (.ro [.i64] us), some (.ro ksE es), some (.ro ksB xs), some (.ro ksT ts), some (.ro ksR rs), some (.ro [.i64] us), some (.ro ksE es), some (.var 86 (worldC z 0 1 2 3 4)), some (.var 86 (worldC z 5 6 7 8 9))]
def Ss (n : Nat) (z : List Int) (xs ts rs us es : List (List Int)) (i : Int) : St := ⟨T 211 [(2, .ptr 10 0), (3, .ptr 11 0), (n, .int .i64 i)], wS z xs ts rs us es⟩
theorem rs0 (Λ : FuncId → Nat → Option LoopS) (d : Nat) (z : List Int) (xs ts rs us es : List (List Int)) (i : Int) (k : Out → St → Prop) : (round (envOf Try.prog ⟨Γmy2, Λ, fun _ => none⟩ d) f_perigeeref22_Same 10 0 (lp Try.prog f_perigeeref22_Same 0) (Ss 5 z xs ts rs us es i) k) = (∀ (t1 : Int), t1 = rd xs i.toNat (0 : Nat) → ∀ (t2 : Int), t2 = rd xs i.toNat (1 : Nat) → ∀ (t3 : Int), t3 = rd xs i.toNat (2 : Nat) → ∀ (t4 : Int), t4 = rd xs i.toNat (3 : Nat) → ∀ (t5 : Int), t5 = rd xs i.toNat (4 : Nat) → ∀ (t6 : Int), t6 = rd xs i.toNat (5 : Nat) → ∀ (t7 : Int), t7 = rd xs i.toNat (6 : Nat) → ∀ (t8 : Int), t8 = rd xs i.toNat (7 : Nat) → ∀ (t9 : Int), t9 = rd xs i.toNat (8 : Nat) → ∀ (t10 : Int), t10 = rd xs i.toNat (9 : Nat) → ∀ (t11 : Int), t11 = rd xs i.toNat (10 : Nat) → ∀ (t12 : Int), t12 = rd xs i.toNat (11 : Nat) → ∀ (t13 : Int), t13 = rd xs i.toNat (12 : Nat) → ∀ (t14 : Int), t14 = rd xs i.toNat (13 : Nat) → ∀ (t15 : Int), t15 = rd xs i.toNat (14 : Nat) → ∀ (t16 : Int), t16 = rd xs i.toNat (15 : Nat) → ∀ (t17 : Int), t17 = rd xs i.toNat (16 : Nat) → ∀ (t18 : Int), t18 = rd xs i.toNat (17 : Nat) → ∀ (t19 : Int), t19 = rd xs i.toNat (18 : Nat) → ∀ (t20 : Int), t20 = rd xs i.toNat (19 : Nat) → ∀ (t21 : Prop), t21 = ((0 : Int) ≤ i ∧ i < (↑xs.length : Int)) → br (decide (i < (↑xs.length : Int))) (t21 ∧ t21 ∧ t21 ∧ t21 ∧ br (!(decide (t1 = t1) && (decide (t2 = t2) && (decide (t3 = t3) && (decide (t4 = t4) && (decide (t5 = t5) && (decide (t6 = t6) && (decide (t7 = t7) && (decide (t8 = t8) && (decide (t9 = t9) && (decide (t10 = t10) && (decide (t11 = t11) && (decide (t12 = t12) && (decide (t13 = t13) && (decide (t14 = t14) && (decide (t15 = t15) && (decide (t16 = t16) && (decide (t17 = t17) && (decide (t18 = t18) && (decide (t19 = t19) && (decide (t20 = t20) && true))))))))))))))))))))) (k Out.ret (St.mk (T (211 : Nat) [((4 : Nat), IV.bool false)]) [some (Blk.ro ksB xs), some (Blk.ro ksT ts), some (Blk.ro ksR rs), some (Blk.ro [IntKind.i64] us), some (Blk.ro ksE es), some (Blk.ro ksB xs), some (Blk.ro ksT ts), some (Blk.ro ksR rs), some (Blk.ro [IntKind.i64] us), some (Blk.ro ksE es)])) (k Out.normal (St.mk (T (211 : Nat) [((2 : Nat), IV.ptr (10 : Nat) (0 : Nat)), ((3 : Nat), IV.ptr (11 : Nat) (0 : Nat)), ((5 : Nat), IV.int IntKind.i64 (IntKind.i64.wrap (i + (1 : Int))))]) [some (Blk.ro ksB xs), some (Blk.ro ksT ts), some (Blk.ro ksR rs), some (Blk.ro [IntKind.i64] us), some (Blk.ro ksE es), some (Blk.ro ksB xs), some (Blk.ro ksT ts), some (Blk.ro ksR rs), some (Blk.ro [IntKind.i64] us), some (Blk.ro ksE es), some (Blk.var (86 : Nat) (worldC z 0 1 2 3 4)), some (Blk.var (86 : Nat) (worldC z 5 6 7 8 9))]))) (k (Out.exit (0 : Nat)) (St.mk (T (211 : Nat) [((2 : Nat), IV.ptr (10 : Nat) (0 : Nat)), ((3 : Nat), IV.ptr (11 : Nat) (0 : Nat))]) [some (Blk.ro ksB xs), some (Blk.ro ksT ts), some (Blk.ro ksR rs), some (Blk.ro [IntKind.i64] us), some (Blk.ro ksE es), some (Blk.ro ksB xs), some (Blk.ro ksT ts), some (Blk.ro ksR rs), some (Blk.ro [IntKind.i64] us), some (Blk.ro ksE es), some (Blk.var (86 : Nat) (worldC z 0 1 2 3 4)), some (Blk.var (86 : Nat) (worldC z 5 6 7 8 9))]))) := by refine nm ?_; refine nm ?_; refine nm ?_; refine nm ?_; refine nm ?_; refine nm ?_; refine nm ?_; refine nm ?_; refine nm ?_; refine nm ?_; refine nm ?_; refine nm ?_; refine nm ?_; refine nm ?_; refine nm ?_; refine nm ?_; refine nm ?_; refine nm ?_; refine nm ?_; refine nm ?_; refine nm ?_; kernel_rfl
theorem rs1 (Λ : FuncId → Nat → Option LoopS) (d : Nat) (z : List Int) (xs ts rs us es : List (List Int)) (i : Int) (k : Out → St → Prop) : (round (envOf Try.prog ⟨Γmy2, Λ, fun _ => none⟩ d) f_perigeeref22_Same 10 1 (lp Try.prog f_perigeeref22_Same 1) (Ss 6 z xs ts rs us es i) k) = (∀ (t1 : Int), t1 = rd ts i.toNat (0 : Nat) → ∀ (t2 : Int), t2 = rd ts i.toNat (1 : Nat) → ∀ (t3 : Int), t3 = rd ts i.toNat (2 : Nat) → ∀ (t4 : Int), t4 = rd ts i.toNat (3 : Nat) → ∀ (t5 : Int), t5 = rd ts i.toNat (4 : Nat) → ∀ (t6 : Int), t6 = rd ts i.toNat (5 : Nat) → ∀ (t7 : Prop), t7 = ((0 : Int) ≤ i ∧ i < (↑ts.length : Int)) → br (decide (i < (↑ts.length : Int))) (t7 ∧ t7 ∧ t7 ∧ t7 ∧ br (!(decide (t1 = t1) && (decide (t2 = t2) && (decide (t3 = t3) && (decide (t4 = t4) && (decide (t5 = t5) && (decide (t6 = t6) && true))))))) (k Out.ret (St.mk (T (211 : Nat) [((4 : Nat), IV.bool false)]) [some (Blk.ro ksB xs), some (Blk.ro ksT ts), some (Blk.ro ksR rs), some (Blk.ro [IntKind.i64] us), some (Blk.ro ksE es), some (Blk.ro ksB xs), some (Blk.ro ksT ts), some (Blk.ro ksR rs), some (Blk.ro [IntKind.i64] us), some (Blk.ro ksE es)])) (k Out.normal (St.mk (T (211 : Nat) [((2 : Nat), IV.ptr (10 : Nat) (0 : Nat)), ((3 : Nat), IV.ptr (11 : Nat) (0 : Nat)), ((6 : Nat), IV.int IntKind.i64 (IntKind.i64.wrap (i + (1 : Int))))]) [some (Blk.ro ksB xs), some (Blk.ro ksT ts), some (Blk.ro ksR rs), some (Blk.ro [IntKind.i64] us), some (Blk.ro ksE es), some (Blk.ro ksB xs), some (Blk.ro ksT ts), some (Blk.ro ksR rs), some (Blk.ro [IntKind.i64] us), some (Blk.ro ksE es), some (Blk.var (86 : Nat) (worldC z 0 1 2 3 4)), some (Blk.var (86 : Nat) (worldC z 5 6 7 8 9))]))) (k (Out.exit (2 : Nat)) (St.mk (T (211 : Nat) [((2 : Nat), IV.ptr (10 : Nat) (0 : Nat)), ((3 : Nat), IV.ptr (11 : Nat) (0 : Nat))]) [some (Blk.ro ksB xs), some (Blk.ro ksT ts), some (Blk.ro ksR rs), some (Blk.ro [IntKind.i64] us), some (Blk.ro ksE es), some (Blk.ro ksB xs), some (Blk.ro ksT ts), some (Blk.ro ksR rs), some (Blk.ro [IntKind.i64] us), some (Blk.ro ksE es), some (Blk.var (86 : Nat) (worldC z 0 1 2 3 4)), some (Blk.var (86 : Nat) (worldC z 5 6 7 8 9))]))) := by refine nm ?_; refine nm ?_; refine nm ?_; refine nm ?_; refine nm ?_; refine nm ?_; refine nm ?_; kernel_rfl
theorem rs2 (Λ : FuncId → Nat → Option LoopS) (d : Nat) (z : List Int) (xs ts rs us es : List (List Int)) (i : Int) (k : Out → St → Prop) : (round (envOf Try.prog ⟨Γmy2, Λ, fun _ => none⟩ d) f_perigeeref22_Same 10 2 (lp Try.prog f_perigeeref22_Same 2) (Ss 7 z xs ts rs us es i) k) = (∀ (t1 : Int), t1 = rd rs i.toNat (0 : Nat) → ∀ (t2 : Int), t2 = rd rs i.toNat (1 : Nat) → ∀ (t3 : Int), t3 = rd rs i.toNat (2 : Nat) → ∀ (t4 : Int), t4 = rd rs i.toNat (3 : Nat) → ∀ (t5 : Int), t5 = rd rs i.toNat (4 : Nat) → ∀ (t6 : Int), t6 = rd rs i.toNat (5 : Nat) → ∀ (t7 : Int), t7 = rd rs i.toNat (6 : Nat) → ∀ (t8 : Int), t8 = rd rs i.toNat (7 : Nat) → ∀ (t9 : Int), t9 = rd rs i.toNat (8 : Nat) → ∀ (t10 : Int), t10 = rd rs i.toNat (9 : Nat) → ∀ (t11 : Prop), t11 = ((0 : Int) ≤ i ∧ i < (↑rs.length : Int)) → br (decide (i < (↑rs.length : Int))) (t11 ∧ t11 ∧ t11 ∧ t11 ∧ br (!(decide (t1 = t1) && (decide (t2 = t2) && (decide (t3 = t3) && (decide (t4 = t4) && (decide (t5 = t5) && (decide (t6 = t6) && (decide (t7 = t7) && (decide (t8 = t8) && (decide (t9 = t9) && (decide (t10 = t10) && true))))))))))) (k Out.ret (St.mk (T (211 : Nat) [((4 : Nat), IV.bool false)]) [some (Blk.ro ksB xs), some (Blk.ro ksT ts), some (Blk.ro ksR rs), some (Blk.ro [IntKind.i64] us), some (Blk.ro ksE es), some (Blk.ro ksB xs), some (Blk.ro ksT ts), some (Blk.ro ksR rs), some (Blk.ro [IntKind.i64] us), some (Blk.ro ksE es)])) (k Out.normal (St.mk (T (211 : Nat) [((2 : Nat), IV.ptr (10 : Nat) (0 : Nat)), ((3 : Nat), IV.ptr (11 : Nat) (0 : Nat)), ((7 : Nat), IV.int IntKind.i64 (IntKind.i64.wrap (i + (1 : Int))))]) [some (Blk.ro ksB xs), some (Blk.ro ksT ts), some (Blk.ro ksR rs), some (Blk.ro [IntKind.i64] us), some (Blk.ro ksE es), some (Blk.ro ksB xs), some (Blk.ro ksT ts), some (Blk.ro ksR rs), some (Blk.ro [IntKind.i64] us), some (Blk.ro ksE es), some (Blk.var (86 : Nat) (worldC z 0 1 2 3 4)), some (Blk.var (86 : Nat) (worldC z 5 6 7 8 9))]))) (k (Out.exit (4 : Nat)) (St.mk (T (211 : Nat) [((2 : Nat), IV.ptr (10 : Nat) (0 : Nat)), ((3 : Nat), IV.ptr (11 : Nat) (0 : Nat))]) [some (Blk.ro ksB xs), some (Blk.ro ksT ts), some (Blk.ro ksR rs), some (Blk.ro [IntKind.i64] us), some (Blk.ro ksE es), some (Blk.ro ksB xs), some (Blk.ro ksT ts), some (Blk.ro ksR rs), some (Blk.ro [IntKind.i64] us), some (Blk.ro ksE es), some (Blk.var (86 : Nat) (worldC z 0 1 2 3 4)), some (Blk.var (86 : Nat) (worldC z 5 6 7 8 9))]))) := by refine nm ?_; refine nm ?_; refine nm ?_; refine nm ?_; refine nm ?_; refine nm ?_; refine nm ?_; refine nm ?_; refine nm ?_; refine nm ?_; refine nm ?_; kernel_rfl
theorem rs3 (Λ : FuncId → Nat → Option LoopS) (d : Nat) (z : List Int) (xs ts rs us es : List (List Int)) (i : Int) (k : Out → St → Prop) : (round (envOf Try.prog ⟨Γmy2, Λ, fun _ => none⟩ d) f_perigeeref22_Same 10 3 (lp Try.prog f_perigeeref22_Same 3) (Ss 8 z xs ts rs us es i) k) = (∀ (t1 : Int), t1 = rd us i.toNat (0 : Nat) → ∀ (t2 : Prop), t2 = ((0 : Int) ≤ i ∧ i < (↑us.length : Int)) → br (decide (i < (↑us.length : Int))) (t2 ∧ t2 ∧ t2 ∧ t2 ∧ br (t1 != t1) (k Out.ret (St.mk (T (211 : Nat) [((4 : Nat), IV.bool false)]) [some (Blk.ro ksB xs), some (Blk.ro ksT ts), some (Blk.ro ksR rs), some (Blk.ro [IntKind.i64] us), some (Blk.ro ksE es), some (Blk.ro ksB xs), some (Blk.ro ksT ts), some (Blk.ro ksR rs), some (Blk.ro [IntKind.i64] us), some (Blk.ro ksE es)])) (k Out.normal (St.mk (T (211 : Nat) [((2 : Nat), IV.ptr (10 : Nat) (0 : Nat)), ((3 : Nat), IV.ptr (11 : Nat) (0 : Nat)), ((8 : Nat), IV.int IntKind.i64 (IntKind.i64.wrap (i + (1 : Int))))]) [some (Blk.ro ksB xs), some (Blk.ro ksT ts), some (Blk.ro ksR rs), some (Blk.ro [IntKind.i64] us), some (Blk.ro ksE es), some (Blk.ro ksB xs), some (Blk.ro ksT ts), some (Blk.ro ksR rs), some (Blk.ro [IntKind.i64] us), some (Blk.ro ksE es), some (Blk.var (86 : Nat) (worldC z 0 1 2 3 4)), some (Blk.var (86 : Nat) (worldC z 5 6 7 8 9))]))) (k (Out.exit (6 : Nat)) (St.mk (T (211 : Nat) [((2 : Nat), IV.ptr (10 : Nat) (0 : Nat)), ((3 : Nat), IV.ptr (11 : Nat) (0 : Nat))]) [some (Blk.ro ksB xs), some (Blk.ro ksT ts), some (Blk.ro ksR rs), some (Blk.ro [IntKind.i64] us), some (Blk.ro ksE es), some (Blk.ro ksB xs), some (Blk.ro ksT ts), some (Blk.ro ksR rs), some (Blk.ro [IntKind.i64] us), some (Blk.ro ksE es), some (Blk.var (86 : Nat) (worldC z 0 1 2 3 4)), some (Blk.var (86 : Nat) (worldC z 5 6 7 8 9))]))) := by refine nm ?_; refine nm ?_; kernel_rfl
theorem rs4 (Λ : FuncId → Nat → Option LoopS) (d : Nat) (z : List Int) (xs ts rs us es : List (List Int)) (i : Int) (k : Out → St → Prop) : (round (envOf Try.prog ⟨Γmy2, Λ, fun _ => none⟩ d) f_perigeeref22_Same 10 4 (lp Try.prog f_perigeeref22_Same 4) (Ss 9 z xs ts rs us es i) k) = (∀ (t1 : Int), t1 = rd es i.toNat (0 : Nat) → ∀ (t2 : Int), t2 = rd es i.toNat (1 : Nat) → ∀ (t3 : Int), t3 = rd es i.toNat (2 : Nat) → ∀ (t4 : Int), t4 = rd es i.toNat (3 : Nat) → ∀ (t5 : Prop), t5 = ((0 : Int) ≤ i ∧ i < (↑es.length : Int)) → br (decide (i < (↑es.length : Int))) (t5 ∧ t5 ∧ t5 ∧ t5 ∧ br (!(decide (t1 = t1) && (decide (t2 = t2) && (decide (t3 = t3) && (decide (t4 = t4) && true))))) (k Out.ret (St.mk (T (211 : Nat) [((4 : Nat), IV.bool false)]) [some (Blk.ro ksB xs), some (Blk.ro ksT ts), some (Blk.ro ksR rs), some (Blk.ro [IntKind.i64] us), some (Blk.ro ksE es), some (Blk.ro ksB xs), some (Blk.ro ksT ts), some (Blk.ro ksR rs), some (Blk.ro [IntKind.i64] us), some (Blk.ro ksE es)])) (k Out.normal (St.mk (T (211 : Nat) [((2 : Nat), IV.ptr (10 : Nat) (0 : Nat)), ((3 : Nat), IV.ptr (11 : Nat) (0 : Nat)), ((9 : Nat), IV.int IntKind.i64 (IntKind.i64.wrap (i + (1 : Int))))]) [some (Blk.ro ksB xs), some (Blk.ro ksT ts), some (Blk.ro ksR rs), some (Blk.ro [IntKind.i64] us), some (Blk.ro ksE es), some (Blk.ro ksB xs), some (Blk.ro ksT ts), some (Blk.ro ksR rs), some (Blk.ro [IntKind.i64] us), some (Blk.ro ksE es), some (Blk.var (86 : Nat) (worldC z 0 1 2 3 4)), some (Blk.var (86 : Nat) (worldC z 5 6 7 8 9))]))) (k (Out.exit (8 : Nat)) (St.mk (T (211 : Nat) []) [some (Blk.ro ksB xs), some (Blk.ro ksT ts), some (Blk.ro ksR rs), some (Blk.ro [IntKind.i64] us), some (Blk.ro ksE es), some (Blk.ro ksB xs), some (Blk.ro ksT ts), some (Blk.ro ksR rs), some (Blk.ro [IntKind.i64] us), some (Blk.ro ksE es)]))) := by refine nm ?_; refine nm ?_; refine nm ?_; refine nm ?_; refine nm ?_; kernel_rfl
def scan (p : Nat → Bool) (n : Nat) : Bool := (List.range n).all p
def mq0 (xs us : List (List Int)) (m : Int) (i : Nat) : Bool := mayBB (xs.getD i []) && wnB ((us.getD i []).getD 0 0) (-1) m
def tB (t : List Int) (n : Int) : Bool := wnB (t.getD 0 0) 0 n && (wnB (t.getD 1 0) 0 n && (!(t.getD 0 0 == t.getD 1 0) && (frB (fr t 2) 0 19807040628566084398385987584 && (!(decide (t.getD 2 0 = 0) && (decide (t.getD 3 0 = 0) && true)) && frB (fr t 4) 0 20282409603651670423947251286016))))
def mq1 (ts : List (List Int)) (n : Int) (i : Nat) : Bool := tB (ts.getD i []) n
def mq2 (rs : List (List Int)) (i : Nat) : Bool := rlB (rs.getD i []) i
def lastE (es : List (List Int)) (i : Nat) : Int := if i = 0 then 0 else (es.getD (i - 1) []).getD 0 0
def eB (e : List Int) (m n : Int) : Bool := wnB (e.getD 0 0) m n && (wnB (e.getD 1 0) 1 8 && (wnB (e.getD 2 0) (-1) 65535 && wnB (e.getD 3 0) (-1) 65535))
def mq3 (es : List (List Int)) (n : Int) (i : Nat) : Bool := eB (es.getD i []) (lastE es i) n
def lenIs (n : Nat) (xs : List (List Int)) : Prop := ∀ r ∈ xs, r.length = n
def wOk (z : List Int) (xs ts rs us es : List (List Int)) : Prop := (okRows ksB xs ∧ okRows ksT ts ∧ okRows ksR rs ∧ okRows [.i64] us ∧ okRows ksE es) ∧ (lenIs 20 xs ∧ lenIs 6 ts ∧ lenIs 10 rs ∧ lenIs 1 us ∧ lenIs 4 es) ∧ (xs.length ≤ maxLen ∧ ts.length ≤ maxLen ∧ rs.length ≤ maxLen ∧ us.length ≤ maxLen ∧ es.length ≤ maxLen) ∧ z.length = 19
def wR (xs ts rs us es : List (List Int)) : List (Option Blk) := [some (.ro ksB xs), some (.ro ksT ts), some (.ro ksR rs), some (.ro [.i64] us), some (.ro ksE es)]
def Rm (xs ts rs us es : List (List Int)) : St := ⟨T 144 [(2, .bool false)], wR xs ts rs us es⟩
def pm0 (n0 : Nat) (st : St) (z : List Int) (xs ts rs us es : List (List Int)) : Prop := wOk z xs ts rs us es ∧ us.length = xs.length ∧ n0 = 5 ∧ st = Sm0 z xs ts rs us es 0
def pm1 (n0 : Nat) (st : St) (z : List Int) (xs ts rs us es : List (List Int)) : Prop := wOk z xs ts rs us es ∧ n0 = 5 ∧ st = Sm1 z xs ts rs us es 0
def pm2 (n0 : Nat) (st : St) (z : List Int) (xs ts rs us es : List (List Int)) : Prop := wOk z xs ts rs us es ∧ n0 = 5 ∧ st = Sm2 z xs ts rs us es 0
def pm3 (n0 : Nat) (st : St) (z : List Int) (xs ts rs us es : List (List Int)) : Prop := wOk z xs ts rs us es ∧ n0 = 5 ∧ st = Sm3 z xs ts rs us es 0 0
noncomputable def Lm0 : LoopS := fun n0 st K => ∃ z xs ts rs us es, pm0 n0 st z xs ts rs us es ∧ br (scan (mq0 xs us ((rs.length : Int) - 1)) xs.length) (K (.exit 0) ⟨T 144 [(1, .ptr 5 0), (3, .int .i64 xs.length)], wB z xs ts rs us es⟩) (K .ret (Rm xs ts rs us es))
noncomputable def Lm1 : LoopS := fun n0 st K => ∃ z xs ts rs us es, pm1 n0 st z xs ts rs us es ∧ br (scan (mq1 ts ((xs.length : Int) - 1)) ts.length) (K (.exit 2) ⟨T 144 [(1, .ptr 5 0)], wB z xs ts rs us es⟩) (K .ret (Rm xs ts rs us es))
noncomputable def Lm2 : LoopS := fun n0 st K => ∃ z xs ts rs us es, pm2 n0 st z xs ts rs us es ∧ br (scan (mq2 rs) rs.length) (K (.exit 4) ⟨T 144 [(1, .ptr 5 0)], wB z xs ts rs us es⟩) (K .ret (Rm xs ts rs us es))
noncomputable def Lm3 : LoopS := fun n0 st K => ∃ z xs ts rs us es, pm3 n0 st z xs ts rs us es ∧ br (scan (mq3 es (z.getD 0 0)) es.length) (K (.exit 6) ⟨T 144 [], wR xs ts rs us es⟩) (K .ret (Rm xs ts rs us es))
noncomputable def Nmp : Know := ⟨Γmy2, fun f i => if f = f_perigeeref22_mayParts then (if i = 0 then some Lm0 else if i = 1 then some Lm1 else if i = 2 then some Lm2 else if i = 3 then some Lm3 else none) else none, fun _ => none⟩
theorem v_mayParts (z : List Int) (xs ts rs us es : List (List Int)) (K : IV → List Blk → Prop) : (comes Try.prog Nmp 3 f_perigeeref22_mayParts [.agg (worldC z 0 1 2 3 4)] (worldB xs ts rs us es) K) = (∃ z_1 xs_1 ts_1 rs_1 us_1 es_1, pm0 (5 : Nat) (St.mk (T (144 : Nat) [((1 : Nat), IV.ptr (5 : Nat) (0 : Nat)), ((3 : Nat), IV.int IntKind.i64 (↑xs.length : Int)), ((4 : Nat), IV.int IntKind.i64 (0 : Int))]) [some (Blk.ro ksB xs), some (Blk.ro ksT ts), some (Blk.ro ksR rs), some (Blk.ro [IntKind.i64] us), some (Blk.ro ksE es), some (Blk.var (86 : Nat) (worldC z 0 1 2 3 4))]) z_1 xs_1 ts_1 rs_1 us_1 es_1 ∧ br (scan (mq0 xs_1 us_1 ((↑rs_1.length : Int) - (1 : Int))) xs_1.length) (∃ z xs ts rs us es, pm1 (5 : Nat) (St.mk (T (144 : Nat) [((1 : Nat), IV.ptr (5 : Nat) (0 : Nat)), ((3 : Nat), IV.int IntKind.i64 (↑xs_1.length : Int)), ((5 : Nat), IV.int IntKind.i64 (0 : Int))]) [some (Blk.ro ksB xs_1), some (Blk.ro ksT ts_1), some (Blk.ro ksR rs_1), some (Blk.ro [IntKind.i64] us_1), some (Blk.ro ksE es_1), some (Blk.var (86 : Nat) (worldC z_1 0 1 2 3 4))]) z xs ts rs us es ∧ br (scan (mq1 ts ((↑xs.length : Int) - (1 : Int))) ts.length) (∃ z_2 xs_2 ts_2 rs_2 us_2 es_2, pm2 (5 : Nat) (St.mk (T (144 : Nat) [((1 : Nat), IV.ptr (5 : Nat) (0 : Nat)), ((7 : Nat), IV.int IntKind.i64 (0 : Int))]) [some (Blk.ro ksB xs), some (Blk.ro ksT ts), some (Blk.ro ksR rs), some (Blk.ro [IntKind.i64] us), some (Blk.ro ksE es), some (Blk.var (86 : Nat) (worldC z 0 1 2 3 4))]) z_2 xs_2 ts_2 rs_2 us_2 es_2 ∧ br (scan (mq2 rs_2) rs_2.length) (∃ z xs ts rs us es, pm3 (5 : Nat) (St.mk (T (144 : Nat) [((1 : Nat), IV.ptr (5 : Nat) (0 : Nat)), ((8 : Nat), IV.int IntKind.i64 (0 : Int)), ((9 : Nat), IV.int IntKind.i64 (0 : Int))]) [some (Blk.ro ksB xs_2), some (Blk.ro ksT ts_2), some (Blk.ro ksR rs_2), some (Blk.ro [IntKind.i64] us_2), some (Blk.ro ksE es_2), some (Blk.var (86 : Nat) (worldC z_2 0 1 2 3 4))]) z xs ts rs us es ∧ br (scan (mq3 es (z.getD (0 : Nat) (0 : Int))) es.length) (K (IV.bool true) []) (K (IV.bool false) [])) (K (IV.bool false) [])) (K (IV.bool false) [])) (K (IV.bool false) [])) := by kernel_rfl
def wSr (xs ts rs us es : List (List Int)) : List (Option Blk) := [some (.ro ksB xs), some (.ro ksT ts), some (.ro ksR rs), some (.ro [.i64] us), some (.ro ksE es), some (.ro ksB xs), some (.ro ksT ts), some (.ro ksR rs), some (.ro [.i64] us), some (.ro ksE es)]
def pSm (n : Nat) (n0 : Nat) (st : St) (z : List Int) (xs ts rs us es : List (List Int)) : Prop := wOk z xs ts rs us es ∧ n0 = 10 ∧ st = Ss n z xs ts rs us es 0
noncomputable def Ls (n : Nat) (e : Nat) : LoopS := fun n0 st K => ∃ z xs ts rs us es, pSm n n0 st z xs ts rs us es ∧ K (.exit e) ⟨T 211 [(2, .ptr 10 0), (3, .ptr 11 0)], wS z xs ts rs us es⟩
noncomputable def Ls9 : LoopS := fun n0 st K => ∃ z xs ts rs us es, pSm 9 n0 st z xs ts rs us es ∧ K (.exit 8) ⟨T 211 [], wSr xs ts rs us es⟩
noncomputable def Nsm : Know := ⟨Γmy2, fun f i => if f = f_perigeeref22_Same then (if i = 0 then some (Ls 5 0) else if i = 1 then some (Ls 6 2) else if i = 2 then some (Ls 7 4) else if i = 3 then some (Ls 8 6) else if i = 4 then some Ls9 else none) else none, fun _ => none⟩
theorem v_SameW (z : List Int) (xs ts rs us es : List (List Int)) (K : IV → List Blk → Prop) : (comes Try.prog Nsm 3 f_perigeeref22_Same [.agg (worldC z 0 1 2 3 4), .agg (worldC z 5 6 7 8 9)] (worldB xs ts rs us es ++ worldB xs ts rs us es) K) = (∀ (t1 : Int), t1 = z.getD (0 : Nat) (0 : Int) → ∀ (t2 : Int), t2 = z.getD (1 : Nat) (0 : Int) → ∀ (t3 : Int), t3 = z.getD (2 : Nat) (0 : Int) → ∀ (t4 : Int), t4 = z.getD (3 : Nat) (0 : Int) → ∀ (t5 : Int), t5 = z.getD (4 : Nat) (0 : Int) → ∀ (t6 : Int), t6 = z.getD (5 : Nat) (0 : Int) → ∀ (t7 : Int), t7 = z.getD (6 : Nat) (0 : Int) → ∀ (t8 : Int), t8 = z.getD (7 : Nat) (0 : Int) → ∀ (t9 : Int), t9 = z.getD (8 : Nat) (0 : Int) → ∀ (t10 : Int), t10 = z.getD (9 : Nat) (0 : Int) → ∀ (t11 : Int), t11 = z.getD (10 : Nat) (0 : Int) → ∀ (t12 : Int), t12 = z.getD (11 : Nat) (0 : Int) → ∀ (t13 : Int), t13 = z.getD (12 : Nat) (0 : Int) → ∀ (t14 : Int), t14 = z.getD (13 : Nat) (0 : Int) → ∀ (t15 : Int), t15 = z.getD (14 : Nat) (0 : Int) → ∀ (t16 : Int), t16 = z.getD (15 : Nat) (0 : Int) → ∀ (t17 : Int), t17 = z.getD (16 : Nat) (0 : Int) → ∀ (t18 : Int), t18 = z.getD (17 : Nat) (0 : Int) → ∀ (t19 : Int), t19 = z.getD (18 : Nat) (0 : Int) → br (t1 != t1) (K (IV.bool false) []) (br (!(decide (t2 = t2) && (decide (t3 = t3) && true))) (K (IV.bool false) []) (br (!(decide (t4 = t4) && (decide (t5 = t5) && true))) (K (IV.bool false) []) (br (!(decide (t6 = t6) && (decide (t7 = t7) && true))) (K (IV.bool false) []) (br (!(decide (t8 = t8) && (decide (t9 = t9) && true))) (K (IV.bool false) []) (br (!(decide (t10 = t10) && (decide (t11 = t11) && true))) (K (IV.bool false) []) (br (t12 != t12) (K (IV.bool false) []) (br (t13 != t13) (K (IV.bool false) []) (br (!(decide (t14 = t14) && (decide (t15 = t15) && true))) (K (IV.bool false) []) (br (!(decide (t16 = t16) && (decide (t17 = t17) && (decide (t18 = t18) && (decide (t19 = t19) && true))))) (K (IV.bool false) []) (br ((↑xs.length : Int) != (↑xs.length : Int)) (K (IV.bool false) []) (br ((↑ts.length : Int) != (↑ts.length : Int)) (K (IV.bool false) []) (br ((↑rs.length : Int) != (↑rs.length : Int)) (K (IV.bool false) []) (br ((↑us.length : Int) != (↑us.length : Int)) (K (IV.bool false) []) (br ((↑es.length : Int) != (↑es.length : Int)) (K (IV.bool false) []) (∃ z xs_1 ts_1 rs_1 us_1 es_1, pSm (5 : Nat) (10 : Nat) (St.mk (T (211 : Nat) [((2 : Nat), IV.ptr (10 : Nat) (0 : Nat)), ((3 : Nat), IV.ptr (11 : Nat) (0 : Nat)), ((5 : Nat), IV.int IntKind.i64 (0 : Int))]) [some (Blk.ro ksB xs), some (Blk.ro ksT ts), some (Blk.ro ksR rs), some (Blk.ro [IntKind.i64] us), some (Blk.ro ksE es), some (Blk.ro ksB xs), some (Blk.ro ksT ts), some (Blk.ro ksR rs), some (Blk.ro [IntKind.i64] us), some (Blk.ro ksE es), some (Blk.var (86 : Nat) [IV.int IntKind.i64 t1, IV.int IntKind.i64 t2, IV.int IntKind.u64 t3, IV.int IntKind.i64 t4, IV.int IntKind.u64 t5, IV.int IntKind.i64 t6, IV.int IntKind.u64 t7, IV.int IntKind.i64 t8, IV.int IntKind.u64 t9, IV.int IntKind.i64 t10, IV.int IntKind.u64 t11, IV.int IntKind.i64 t12, IV.int IntKind.i64 t13, IV.sl (0 : Nat), IV.sl (1 : Nat), IV.sl (2 : Nat), IV.sl (3 : Nat), IV.int IntKind.i64 t14, IV.int IntKind.u64 t15, IV.int IntKind.i64 t16, IV.int IntKind.u64 t17, IV.int IntKind.i64 t18, IV.int IntKind.u64 t19, IV.sl (4 : Nat)]), some (Blk.var (86 : Nat) [IV.int IntKind.i64 t1, IV.int IntKind.i64 t2, IV.int IntKind.u64 t3, IV.int IntKind.i64 t4, IV.int IntKind.u64 t5, IV.int IntKind.i64 t6, IV.int IntKind.u64 t7, IV.int IntKind.i64 t8, IV.int IntKind.u64 t9, IV.int IntKind.i64 t10, IV.int IntKind.u64 t11, IV.int IntKind.i64 t12, IV.int IntKind.i64 t13, IV.sl (5 : Nat), IV.sl (6 : Nat), IV.sl (7 : Nat), IV.sl (8 : Nat), IV.int IntKind.i64 t14, IV.int IntKind.u64 t15, IV.int IntKind.i64 t16, IV.int IntKind.u64 t17, IV.int IntKind.i64 t18, IV.int IntKind.u64 t19, IV.sl (9 : Nat)])]) z xs_1 ts_1 rs_1 us_1 es_1 ∧ ∃ z_1 xs ts rs us es, pSm (6 : Nat) (10 : Nat) (St.mk (T (211 : Nat) [((2 : Nat), IV.ptr (10 : Nat) (0 : Nat)), ((3 : Nat), IV.ptr (11 : Nat) (0 : Nat)), ((6 : Nat), IV.int IntKind.i64 (0 : Int))]) [some (Blk.ro ksB xs_1), some (Blk.ro ksT ts_1), some (Blk.ro ksR rs_1), some (Blk.ro [IntKind.i64] us_1), some (Blk.ro ksE es_1), some (Blk.ro ksB xs_1), some (Blk.ro ksT ts_1), some (Blk.ro ksR rs_1), some (Blk.ro [IntKind.i64] us_1), some (Blk.ro ksE es_1), some (Blk.var (86 : Nat) (worldC z 0 1 2 3 4)), some (Blk.var (86 : Nat) (worldC z 5 6 7 8 9))]) z_1 xs ts rs us es ∧ ∃ z xs_2 ts_2 rs_2 us_2 es_2, pSm (7 : Nat) (10 : Nat) (St.mk (T (211 : Nat) [((2 : Nat), IV.ptr (10 : Nat) (0 : Nat)), ((3 : Nat), IV.ptr (11 : Nat) (0 : Nat)), ((7 : Nat), IV.int IntKind.i64 (0 : Int))]) [some (Blk.ro ksB xs), some (Blk.ro ksT ts), some (Blk.ro ksR rs), some (Blk.ro [IntKind.i64] us), some (Blk.ro ksE es), some (Blk.ro ksB xs), some (Blk.ro ksT ts), some (Blk.ro ksR rs), some (Blk.ro [IntKind.i64] us), some (Blk.ro ksE es), some (Blk.var (86 : Nat) (worldC z_1 0 1 2 3 4)), some (Blk.var (86 : Nat) (worldC z_1 5 6 7 8 9))]) z xs_2 ts_2 rs_2 us_2 es_2 ∧ ∃ z_2 xs ts rs us es, pSm (8 : Nat) (10 : Nat) (St.mk (T (211 : Nat) [((2 : Nat), IV.ptr (10 : Nat) (0 : Nat)), ((3 : Nat), IV.ptr (11 : Nat) (0 : Nat)), ((8 : Nat), IV.int IntKind.i64 (0 : Int))]) [some (Blk.ro ksB xs_2), some (Blk.ro ksT ts_2), some (Blk.ro ksR rs_2), some (Blk.ro [IntKind.i64] us_2), some (Blk.ro ksE es_2), some (Blk.ro ksB xs_2), some (Blk.ro ksT ts_2), some (Blk.ro ksR rs_2), some (Blk.ro [IntKind.i64] us_2), some (Blk.ro ksE es_2), some (Blk.var (86 : Nat) (worldC z 0 1 2 3 4)), some (Blk.var (86 : Nat) (worldC z 5 6 7 8 9))]) z_2 xs ts rs us es ∧ ∃ z xs_3 ts_3 rs_3 us_3 es_3, pSm (9 : Nat) (10 : Nat) (St.mk (T (211 : Nat) [((2 : Nat), IV.ptr (10 : Nat) (0 : Nat)), ((3 : Nat), IV.ptr (11 : Nat) (0 : Nat)), ((9 : Nat), IV.int IntKind.i64 (0 : Int))]) [some (Blk.ro ksB xs), some (Blk.ro ksT ts), some (Blk.ro ksR rs), some (Blk.ro [IntKind.i64] us), some (Blk.ro ksE es), some (Blk.ro ksB xs), some (Blk.ro ksT ts), some (Blk.ro ksR rs), some (Blk.ro [IntKind.i64] us), some (Blk.ro ksE es), some (Blk.var (86 : Nat) (worldC z_2 0 1 2 3 4)), some (Blk.var (86 : Nat) (worldC z_2 5 6 7 8 9))]) z xs_3 ts_3 rs_3 us_3 es_3 ∧ K (IV.bool true) [])))))))))))))))) := by refine nm ?_; refine nm ?_; refine nm ?_; refine nm ?_; refine nm ?_; refine nm ?_; refine nm ?_; refine nm ?_; refine nm ?_; refine nm ?_; refine nm ?_; refine nm ?_; refine nm ?_; refine nm ?_; refine nm ?_; refine nm ?_; refine nm ?_; refine nm ?_; refine nm ?_; kernel_rfl
def mpB (z : List Int) (xs ts rs us es : List (List Int)) : Bool := scan (mq0 xs us ((rs.length : Int) - 1)) xs.length && (scan (mq1 ts ((xs.length : Int) - 1)) ts.length && (scan (mq2 rs) rs.length && scan (mq3 es (z.getD 0 0)) es.length))
def pMp (l : List IV) (bs : List Blk) : Prop := ∃ z xs ts rs us es, l = [.agg (worldC z 0 1 2 3 4)] ∧ bs = worldB xs ts rs us es ∧ wOk z xs ts rs us es ∧ us.length = xs.length
noncomputable def spMp : Vs.Spec := ⟨pMp, fun l bs => (.bool (mpB (worN l 0) (xsOf bs 0) (xsOf bs 1) (xsOf bs 2) (xsOf bs 3) (xsOf bs 4)), [])⟩
def pSw (l : List IV) (bs : List Blk) : Prop := ∃ z xs ts rs us es, l = [.agg (worldC z 0 1 2 3 4), .agg (worldC z 5 6 7 8 9)] ∧ bs = worldB xs ts rs us es ++ worldB xs ts rs us es ∧ wOk z xs ts rs us es
noncomputable def spSw : Vs.Spec := ⟨pSw, fun _ _ => (.bool true, [])⟩
noncomputable def Γmy3 : FuncId → Option Vs.Spec := fun g => if g = f_perigeeref22_mayParts then some spMp else if g = f_perigeeref22_Same then some spSw else Γmy2 g
noncomputable def Nmy3 : Know := ⟨Γmy3, fun _ _ => none, fun _ => none⟩
end Go.Vs.RF


set_option linter.unusedVariables false
set_option linter.unusedSimpArgs false
set_option maxRecDepth 100000
/- which worlds may be; two that are one: the loops, the contracts -/
namespace Go.Vs.RF
open Go Go.Proofs Go.Vs Go.IntWalk

theorem scan_succ {p : Nat → Bool} {n : Nat} : scan p (n + 1) = (scan p n && p n) := by unfold scan; rw [List.range_succ, List.all_append]; simp
theorem scan_stop {p : Nat → Bool} {i n : Nat} (h : i < n) (hp : p i = false) : scan p n = false := by
  cases hs : scan p n with
  | false => rfl
  | true =>
    unfold scan at hs
    rw [List.all_eq_true] at hs
    rw [hs i (by simpa using h)] at hp
    cases hp
theorem scan_at {p : Nat → Bool} {i n : Nat} (h : scan p n = true) (hi : i < n) : p i = true := by
  unfold scan at h
  rw [List.all_eq_true] at h
  exact h i (by simpa using hi)
theorem getD_mem {xs : List (List Int)} {i : Nat} (h : i < xs.length) : xs.getD i [] ∈ xs := by
  rw [List.getD_eq_getElem?_getD, List.getElem?_eq_getElem h]; exact List.getElem_mem h
theorem ctrsmy1 : ∀ {g : FuncId} {sp : Vs.Spec}, Γmy1 g = some sp → Contract Try.prog g sp := ext_ok c_MayBody ctrsf6
theorem knowmy1 : KnowOk Try.prog Nmy1 3 := knowOf (fun g sp h => ctrsmy1 h) (fun _ _ => rfl) (fun _ => rfl) 3
theorem c_within22 : Contract Try.prog f_perigeeref22_within spWn := by
  refine contract_of (N := Nmy1) 3 knowmy1 ?_
  rintro l bs _ _ ⟨n, lo, hi, rfl, rfl⟩
  show comes _ _ _ _ _ _ fun v bs' => (IV.bool (wnB n lo hi), ([] : List Blk)) = (v, bs')
  rw [v_within22, br_dec]
  unfold wnB
  refine ⟨fun h => ?_, fun h => ?_⟩
  · rw [show decide (lo ≤ n ∧ n ≤ hi) = decide (n ≤ hi) by rw [Bool.eq_iff_iff, decide_eq_true_iff, decide_eq_true_iff]; omega]
  · rw [decide_eq_false (by omega)]
theorem u64_row {r : List Int} {j : Nat} (h : inK .u64 (r.getD j 0)) : u64ok (r.getD j 0) := by
  have h1 : 0 ≤ r.getD j 0 ∧ r.getD j 0 ≤ 18446744073709551615 := h
  exact ⟨h1.1, by omega⟩
theorem fx_in {a b : Int} (ha : inK .i64 a) (hb : inK .u64 b) : inF (a * 18446744073709551616 + b) := by
  have h1 : -9223372036854775808 ≤ a ∧ a ≤ 9223372036854775807 := ha
  have h2 : 0 ≤ b ∧ b ≤ 18446744073709551615 := hb
  exact ⟨by omega, by omega⟩
theorem pTo_of {a b m : Int} (ha : inK .i64 a) (hb : inK .u64 b) (h0 : 0 ≤ m) (h1 : m ≤ 1099511627776) : pTo [.agg [.int .i64 a, .int .u64 b], .int .i64 m] [] := by
  have h2 : 0 ≤ b ∧ b ≤ 18446744073709551615 := hb
  refine ⟨a * 18446744073709551616 + b, m, ?_, rfl, fx_in ha hb, h0, h1⟩
  rw [fx_mk2 (n := a * 18446744073709551616 + b) (a := a) (b := b) ⟨h2.1, by omega⟩ rfl]
theorem c_MayRail : Contract Try.prog f_perigeeref22_MayRail spRl := by
  refine contract_of (N := Nmy1) 3 knowmy1 ?_
  rintro l bs _ _ ⟨r, i, rfl, rfl, hl, hk⟩
  have hr : rowU [IV.agg (rowCells ksR [r] 0 0 10), .int .i64 i] = r := by
    match r, hl with
    | [_, _, _, _, _, _, _, _, _, _], _ => rfl
  show comes _ _ _ _ _ _ fun v bs' => (IV.bool (rlB (rowU [IV.agg (rowCells ksR [r] 0 0 10), .int .i64 i]) i), ([] : List Blk)) = (v, bs')
  rw [hr, v_MayRail]
  rintro t1 rfl t2 rfl t3 rfl t4 rfl t5 rfl t6 rfl t7 rfl t8 rfl t9 rfl t10 rfl
  show br (decide (r.getD 0 0 ≥ -1)) (br (decide (r.getD 0 0 < i)) (_ ∧ br (frB (fr r 1) 0 _) (_ ∧ br (frB (fr r 3) 0 _) (br (decide (r.getD 5 0 ≥ 0)) (br (decide (r.getD 5 0 ≤ 65535)) (br (decide (r.getD 6 0 ≥ 0)) (br (decide (r.getD 6 0 ≤ 65535)) (br (decide (r.getD 7 0 ≥ 1)) (br (decide (r.getD 7 0 ≤ 1073741824)) (_ ∧ _ = (IV.bool (frB (fr r 8) 0 _), _)) _) _) _) _) _) _) _) _) _) _
  unfold rlB
  have k1 : inK .i64 (r.getD 1 0) := hk 1 (by decide)
  have k2 : inK .u64 (r.getD 2 0) := hk 2 (by decide)
  have k3 : inK .i64 (r.getD 3 0) := hk 3 (by decide)
  have k4 : inK .u64 (r.getD 4 0) := hk 4 (by decide)
  have k8 : inK .i64 (r.getD 8 0) := hk 8 (by decide)
  have k9 : inK .u64 (r.getD 9 0) := hk 9 (by decide)
  have h4 : 0 ≤ r.getD 4 0 ∧ r.getD 4 0 ≤ 18446744073709551615 := k4
  have pf : pFrom [IV.agg [.int .i64 (rd [r] 0 3), .int .u64 (rd [r] 0 4)], IV.agg [.int .i64 0, .int .u64 0], IV.agg [.int .i64 0, .int .u64 17293822569102704640]] [] := by
    refine ⟨fr r 3, 0, 17293822569102704640, ?_, rfl, fx_in k3 k4, ⟨by decide, by decide⟩, ⟨by decide, by decide⟩⟩
    rw [fx_mk2 (n := fr r 3) (a := r.getD 3 0) (b := r.getD 4 0) ⟨h4.1, by omega⟩ rfl]
    rfl
  rw [br_bool]; refine ⟨fun h => ?_, fun h => by rw [h]; rfl⟩; rw [h]
  rw [br_bool]; refine ⟨fun h => ?_, fun h => by rw [h]; rfl⟩; rw [h]
  refine ⟨pTo_of k1 k2 (by decide) (by decide), ?_⟩
  rw [br_bool]; refine ⟨fun h => ?_, fun h => by rw [h]; rfl⟩; rw [h]
  refine ⟨pf, ?_⟩
  rw [br_bool]; refine ⟨fun h => ?_, fun h => by rw [h]; rfl⟩; rw [h]
  rw [br_bool]; refine ⟨fun h => ?_, fun h => by rw [h]; rfl⟩; rw [h]
  rw [br_bool]; refine ⟨fun h => ?_, fun h => by rw [h]; rfl⟩; rw [h]
  rw [br_bool]; refine ⟨fun h => ?_, fun h => by rw [h]; rfl⟩; rw [h]
  rw [br_bool]; refine ⟨fun h => ?_, fun h => by rw [h]; rfl⟩; rw [h]
  rw [br_bool]; refine ⟨fun h => ?_, fun h => by rw [h]; rfl⟩; rw [h]
  rw [br_bool]; refine ⟨fun h => ?_, fun h => by rw [h]; rfl⟩; rw [h]
  exact ⟨pTo_of k8 k9 (by decide) (by decide), rfl⟩
theorem ctrsmy2 : ∀ {g : FuncId} {sp : Vs.Spec}, Γmy2 g = some sp → Contract Try.prog g sp := ext_ok c_MayRail (ext_ok c_within22 ctrsmy1)
theorem next_i {i : Nat} (h : (i : Int) < 9223372036854775807) : IntKind.i64.wrap ((i : Int) + 1) = ((i + 1 : Nat) : Int) := by rw [i64_in _ (by omega)]; rfl
theorem no_out {o : Out} : Out.ret ≠ .normal := by simp
theorem lm0 (d n0 : Nat) : LoopOk (envOf Try.prog Nmp d) f_perigeeref22_mayParts n0 0 (lp Try.prog f_perigeeref22_mayParts 0) Lm0 := by
  intro st K hst
  obtain ⟨z, xs, ts, rs, us, es, ⟨hw, hu, rfl, rfl⟩, hK⟩ := hst
  obtain ⟨⟨kx, kt, kr, ku, ke⟩, ⟨lx, lt, lr, lu, le⟩, ⟨mx, mt, mr, mu, me⟩, hz⟩ := hw
  have mx' : xs.length ≤ 9223372036854775807 := mx
  have mr' : rs.length ≤ 9223372036854775807 := mr
  rw [br_bool] at hK
  refine loop_of (fun i : Nat => Sm0 z xs ts rs us es i) (fun i => i ≤ xs.length ∧ scan (mq0 xs us ((rs.length : Int) - 1)) i = true) (fun i => xs.length - i) ?_ (a := 0) ⟨Nat.zero_le _, rfl⟩
  rintro i ⟨hle, hall⟩ k hn hk
  show round (envOf Try.prog ⟨Γmy2, _, fun _ => none⟩ d) _ _ _ _ _ k
  rw [rm0]
  rw [show ((i : Nat) : Int).toNat = i by omega]
  rintro t1 e1 t2 e2 t3 e3 t4 e4
  have bad : mq0 xs us ((rs.length : Int) - 1) i = false → i < xs.length → t4 := fun h hi => by rw [e4]; exact hk _ _ (by simp) (hK.2 (scan_stop hi h))
  rw [br_dec]
  constructor
  · intro hi
    have hi' : i < xs.length := by omega
    have p2 : t2 := by rw [e2]; omega
    have p3 : t3 := by rw [e3, hu]; omega
    have hlr := lx _ (getD_mem hi')
    have hra : rowA [IV.agg (rowCells ksB xs i 0 20)] 0 = xs.getD i [] := rowA_body _ 0 _ hlr (by rw [bodyR_row]; rfl)
    refine ⟨p2, p2, ⟨xs.getD i [], by rw [bodyR_row], rfl, hlr, kx _ (getD_mem hi')⟩, ?_⟩
    rw [hra, br_bool, Bool.not_eq_true', Bool.not_eq_false']
    refine ⟨fun h => bad (by unfold mq0; rw [h]; rfl) hi', fun h => ⟨p3, p3, ⟨_, _, _, rfl, rfl⟩, ?_⟩⟩
    rw [i64_in ((rs.length : Int) - 1) (by omega), br_bool, Bool.not_eq_true', Bool.not_eq_false', e1]
    refine ⟨fun h2 => bad (by unfold mq0; rw [h, Bool.true_and]; exact h2) hi', fun h2 => ?_⟩
    rw [next_i (by omega)]
    exact hn (i + 1) ⟨hi', by rw [scan_succ, hall]; unfold mq0; rw [h, Bool.true_and, Bool.true_and]; exact h2⟩ (by omega)
  · intro hi
    have hi' : i = xs.length := by omega
    rw [← hi'] at hK
    exact hk _ _ (by simp) (by have := hK.1 hall; rw [hi'] at this; exact this)
theorem lm1 (d n0 : Nat) : LoopOk (envOf Try.prog Nmp d) f_perigeeref22_mayParts n0 1 (lp Try.prog f_perigeeref22_mayParts 1) Lm1 := by
  intro st K hst
  obtain ⟨z, xs, ts, rs, us, es, ⟨hw, rfl, rfl⟩, hK⟩ := hst
  obtain ⟨⟨kx, kt, kr, ku, ke⟩, ⟨lx, lt, lr, lu, le⟩, ⟨mx, mt, mr, mu, me⟩, hz⟩ := hw
  have mx' : xs.length ≤ 9223372036854775807 := mx
  have mt' : ts.length ≤ 9223372036854775807 := mt
  rw [br_bool] at hK
  refine loop_of (fun i : Nat => Sm1 z xs ts rs us es i) (fun i => i ≤ ts.length ∧ scan (mq1 ts ((xs.length : Int) - 1)) i = true) (fun i => ts.length - i) ?_ (a := 0) ⟨Nat.zero_le _, rfl⟩
  rintro i ⟨hle, hall⟩ k hn hk
  show round (envOf Try.prog ⟨Γmy2, _, fun _ => none⟩ d) _ _ _ _ _ k
  rw [rm1]
  rw [show ((i : Nat) : Int).toNat = i by omega]
  intro t1 e1 t2 e2 t3 e3 t4 e4 t5 e5 t6 e6 t7 e7 t8 e8
  have bad : mq1 ts ((xs.length : Int) - 1) i = false → i < ts.length → t8 := fun h hi => by rw [e8]; exact hk _ _ (by simp) (hK.2 (scan_stop hi h))
  rw [br_dec]
  constructor
  · intro hi
    have hi' : i < ts.length := by omega
    have p7 : t7 := by rw [e7]; omega
    have hrow := kt _ (getD_mem hi')
    have q2 : inK .i64 t3 := by rw [e3]; exact hrow 2 (by decide)
    have q3 : inK .u64 t4 := by rw [e4]; exact hrow 3 (by decide)
    have q4 : inK .i64 t5 := by rw [e5]; exact hrow 4 (by decide)
    have q5 : inK .u64 t6 := by rw [e6]; exact hrow 5 (by decide)
    have hm : mq1 ts ((xs.length : Int) - 1) i = (wnB t1 0 ((xs.length : Int) - 1) && (wnB t2 0 ((xs.length : Int) - 1) && (!(t1 == t2) && (frB (t3 * 18446744073709551616 + t4) 0 19807040628566084398385987584 && (!(decide (t3 = 0) && (decide (t4 = 0) && true)) && frB (t5 * 18446744073709551616 + t6) 0 20282409603651670423947251286016))))) := by
      rw [e1, e2, e3, e4, e5, e6]; rfl
    refine ⟨p7, p7, ⟨_, _, _, rfl, rfl⟩, ?_⟩
    rw [i64_in ((xs.length : Int) - 1) (by omega), br_bool, Bool.not_eq_true', Bool.not_eq_false']
    refine ⟨fun h => bad (by rw [hm, h]; rfl) hi', fun h1 => ⟨⟨_, _, _, rfl, rfl⟩, ?_⟩⟩
    rw [br_bool, Bool.not_eq_true', Bool.not_eq_false']
    refine ⟨fun h => bad (by rw [hm, h1, h]; rfl) hi', fun h2 => ?_⟩
    rw [br_bool]
    refine ⟨fun h => bad (by rw [hm, h1, h2, h]; rfl) hi', fun h3 => ⟨pTo_of q2 q3 (by decide) (by decide), ?_⟩⟩
    rw [br_bool, Bool.not_eq_true', Bool.not_eq_false']
    refine ⟨fun h => bad (by rw [hm, h1, h2, h3, h]; rfl) hi', fun h4 => ?_⟩
    rw [br_bool]
    refine ⟨fun h => bad (by rw [hm, h1, h2, h3, h4, h]; rfl) hi', fun h5 => ⟨pTo_of q4 q5 (by decide) (by decide), ?_⟩⟩
    rw [br_bool, Bool.not_eq_true', Bool.not_eq_false']
    refine ⟨fun h => bad (by rw [hm, h1, h2, h3, h4, h5, h]; rfl) hi', fun h6 => ?_⟩
    rw [next_i (by omega)]
    exact hn (i + 1) ⟨hi', by rw [scan_succ, hall, hm, h1, h2, h3, h4, h5, h6]; rfl⟩ (by omega)
  · intro hi
    have hi' : i = ts.length := by omega
    rw [hi'] at hall
    exact hk _ _ (by simp) (hK.1 hall)
theorem lm2 (d n0 : Nat) : LoopOk (envOf Try.prog Nmp d) f_perigeeref22_mayParts n0 2 (lp Try.prog f_perigeeref22_mayParts 2) Lm2 := by
  intro st K hst
  obtain ⟨z, xs, ts, rs, us, es, ⟨hw, rfl, rfl⟩, hK⟩ := hst
  obtain ⟨⟨kx, kt, kr, ku, ke⟩, ⟨lx, lt, lr, lu, le⟩, ⟨mx, mt, mr, mu, me⟩, hz⟩ := hw
  have mr' : rs.length ≤ 9223372036854775807 := mr
  rw [br_bool] at hK
  refine loop_of (fun i : Nat => Sm2 z xs ts rs us es i) (fun i => i ≤ rs.length ∧ scan (mq2 rs) i = true) (fun i => rs.length - i) ?_ (a := 0) ⟨Nat.zero_le _, rfl⟩
  rintro i ⟨hle, hall⟩ k hn hk
  show round (envOf Try.prog ⟨Γmy2, _, fun _ => none⟩ d) _ _ _ _ _ k
  rw [rm2]
  rw [show ((i : Nat) : Int).toNat = i by omega]
  intro t1 e1
  rw [br_dec]
  constructor
  · intro hi
    have hi' : i < rs.length := by omega
    have p1 : t1 := by rw [e1]; omega
    have hlr := lr _ (getD_mem hi')
    have hru : rowU [IV.agg (rowCells ksR rs i 0 10), .int .i64 (i : Int)] = rs.getD i [] := by
      show rowU [IV.agg (rowCells ksR [rs.getD i []] 0 0 10), .int .i64 (i : Int)] = rs.getD i []
      generalize rs.getD i [] = r at hlr
      match r, hlr with
      | [_, _, _, _, _, _, _, _, _, _], _ => rfl
    refine ⟨p1, p1, ⟨rs.getD i [], i, rfl, rfl, hlr, kr _ (getD_mem hi')⟩, ?_⟩
    rw [hru, br_bool, Bool.not_eq_true', Bool.not_eq_false']
    refine ⟨fun h => hk _ _ (by simp) (hK.2 (scan_stop (i := i) hi' h)), fun h => ?_⟩
    rw [next_i (by omega)]
    exact hn (i + 1) ⟨hi', by rw [scan_succ, hall]; exact h⟩ (by omega)
  · intro hi
    have hi' : i = rs.length := by omega
    rw [hi'] at hall
    exact hk _ _ (by simp) (hK.1 hall)
theorem lm3 (d n0 : Nat) : LoopOk (envOf Try.prog Nmp d) f_perigeeref22_mayParts n0 3 (lp Try.prog f_perigeeref22_mayParts 3) Lm3 := by
  intro st K hst
  obtain ⟨z, xs, ts, rs, us, es, ⟨hw, rfl, rfl⟩, hK⟩ := hst
  obtain ⟨⟨kx, kt, kr, ku, ke⟩, ⟨lx, lt, lr, lu, le⟩, ⟨mx, mt, mr, mu, me⟩, hz⟩ := hw
  have me' : es.length ≤ 9223372036854775807 := me
  rw [br_bool] at hK
  refine loop_of (fun i : Nat => Sm3 z xs ts rs us es (lastE es i) i) (fun i => i ≤ es.length ∧ scan (mq3 es (z.getD 0 0)) i = true) (fun i => es.length - i) ?_ (a := 0) ⟨Nat.zero_le _, rfl⟩
  rintro i ⟨hle, hall⟩ k hn hk
  show round (envOf Try.prog ⟨Γmy2, _, fun _ => none⟩ d) _ _ _ _ _ k
  rw [rm3]
  rw [show ((i : Nat) : Int).toNat = i by omega]
  intro t1 e1 t2 e2 t3 e3 t4 e4 t5 e5 t6 e6 t7 e7
  have bad : mq3 es (z.getD 0 0) i = false → i < es.length → t7 := fun h hi => by rw [e7]; exact hk _ _ (by simp) (hK.2 (scan_stop hi h))
  subst e5
  rw [br_dec]
  constructor
  · intro hi
    have hi' : i < es.length := by omega
    have p6 : t6 := by rw [e6]; omega
    have hm : mq3 es (z.getD 0 0) i = (wnB t1 (lastE es i) (z.getD 0 0) && (wnB t2 1 8 && (wnB t3 (-1) 65535 && wnB t4 (-1) 65535))) := by
      rw [e1, e2, e3, e4]; rfl
    refine ⟨p6, p6, ⟨_, _, _, rfl, rfl⟩, ?_⟩
    rw [br_bool, Bool.not_eq_true', Bool.not_eq_false']
    refine ⟨fun h => bad (by rw [hm, h]; rfl) hi', fun h1 => ⟨⟨_, _, _, rfl, rfl⟩, ?_⟩⟩
    rw [br_bool, Bool.not_eq_true', Bool.not_eq_false']
    refine ⟨fun h => bad (by rw [hm, h1, h]; rfl) hi', fun h2 => ⟨⟨_, _, _, rfl, rfl⟩, ?_⟩⟩
    rw [br_bool, Bool.not_eq_true', Bool.not_eq_false']
    refine ⟨fun h => bad (by rw [hm, h1, h2, h]; rfl) hi', fun h3 => ⟨⟨_, _, _, rfl, rfl⟩, ?_⟩⟩
    rw [br_bool, Bool.not_eq_true', Bool.not_eq_false']
    refine ⟨fun h => bad (by rw [hm, h1, h2, h3, h]; rfl) hi', fun h4 => ?_⟩
    rw [next_i (by omega)]
    have hl : lastE es (i + 1) = t1 := by unfold lastE; rw [if_neg (by omega), Nat.add_sub_cancel, e1]; rfl
    have := hn (i + 1) ⟨hi', by rw [scan_succ, hall, hm, h1, h2, h3, h4]; rfl⟩ (by omega)
    rw [hl] at this
    exact this
  · intro hi
    have hi' : i = es.length := by omega
    rw [hi'] at hall
    exact hk _ _ (by simp) (hK.1 hall)
theorem knowMp : KnowOk Try.prog Nmp 3 := by
  refine know_own (fun g sp h => ctrsmy2 h) ?_ (fun g G h => noT h) 3
  intro f i S hS d n0
  simp only [Nmp] at hS
  split at hS
  · rename_i hf
    subst hf
    split at hS
    · rename_i hi; subst hi; cases hS; exact lm0 d n0
    split at hS
    · rename_i hi; subst hi; cases hS; exact lm1 d n0
    split at hS
    · rename_i hi; subst hi; cases hS; exact lm2 d n0
    split at hS
    · rename_i hi; subst hi; cases hS; exact lm3 d n0
    · cases hS
  · cases hS
theorem c_mayParts : Contract Try.prog f_perigeeref22_mayParts spMp := by
  refine contract_of (N := Nmp) 3 knowMp ?_
  rintro l bs _ _ ⟨z, xs, ts, rs, us, es, rfl, rfl, hw, hu⟩
  show comes _ _ _ _ _ _ fun v bs' => (IV.bool (mpB (worN [.agg (worldC z 0 1 2 3 4)] 0) xs ts rs us es), ([] : List Blk)) = (v, bs')
  rw [worN_of _ z 0 1 2 3 4 hw.2.2.2 rfl, v_mayParts]
  refine ⟨z, xs, ts, rs, us, es, ⟨hw, hu, rfl, rfl⟩, ?_⟩
  unfold mpB
  rw [br_bool]
  refine ⟨fun h0 => ⟨z, xs, ts, rs, us, es, ⟨hw, rfl, rfl⟩, ?_⟩, fun h0 => by rw [h0]; rfl⟩
  rw [br_bool]
  refine ⟨fun h1 => ⟨z, xs, ts, rs, us, es, ⟨hw, rfl, rfl⟩, ?_⟩, fun h1 => by rw [h0, h1]; rfl⟩
  rw [br_bool]
  refine ⟨fun h2 => ⟨z, xs, ts, rs, us, es, ⟨hw, rfl, rfl⟩, ?_⟩, fun h2 => by rw [h0, h1, h2]; rfl⟩
  rw [br_bool]
  exact ⟨fun h3 => by rw [h0, h1, h2, h3]; rfl, fun h3 => by rw [h0, h1, h2, h3]; rfl⟩
theorem ls0 (d n0 : Nat) : LoopOk (envOf Try.prog Nsm d) f_perigeeref22_Same n0 0 (lp Try.prog f_perigeeref22_Same 0) (Ls 5 0) := by
  intro st K hst
  obtain ⟨z, xs, ts, rs, us, es, ⟨hw, rfl, rfl⟩, hK⟩ := hst
  obtain ⟨_, _, ⟨mx, mt, mr, mu, me⟩, hz⟩ := hw
  have m' : xs.length ≤ 9223372036854775807 := mx
  refine loop_of (fun i : Nat => Ss 5 z xs ts rs us es i) (fun i => i ≤ xs.length) (fun i => xs.length - i) ?_ (a := 0) (Nat.zero_le _)
  intro i hle k hn hk
  show round (envOf Try.prog ⟨Γmy2, _, fun _ => none⟩ d) _ _ _ _ _ k
  rw [rs0]
  intro t1 e1 t2 e2 t3 e3 t4 e4 t5 e5 t6 e6 t7 e7 t8 e8 t9 e9 t10 e10 t11 e11 t12 e12 t13 e13 t14 e14 t15 e15 t16 e16 t17 e17 t18 e18 t19 e19 t20 e20 t21 e21
  rw [br_dec]
  constructor
  · intro hi
    have p : t21 := by rw [e21]; omega
    refine ⟨p, p, p, p, br_no (by simp) ?_⟩
    rw [next_i (by omega)]
    exact hn (i + 1) (by omega) (by omega)
  · intro hi
    exact hk _ _ (by simp) hK
theorem ls1 (d n0 : Nat) : LoopOk (envOf Try.prog Nsm d) f_perigeeref22_Same n0 1 (lp Try.prog f_perigeeref22_Same 1) (Ls 6 2) := by
  intro st K hst
  obtain ⟨z, xs, ts, rs, us, es, ⟨hw, rfl, rfl⟩, hK⟩ := hst
  obtain ⟨_, _, ⟨mx, mt, mr, mu, me⟩, hz⟩ := hw
  have m' : ts.length ≤ 9223372036854775807 := mt
  refine loop_of (fun i : Nat => Ss 6 z xs ts rs us es i) (fun i => i ≤ ts.length) (fun i => ts.length - i) ?_ (a := 0) (Nat.zero_le _)
  intro i hle k hn hk
  show round (envOf Try.prog ⟨Γmy2, _, fun _ => none⟩ d) _ _ _ _ _ k
  rw [rs1]
  intro t1 e1 t2 e2 t3 e3 t4 e4 t5 e5 t6 e6 t7 e7
  rw [br_dec]
  constructor
  · intro hi
    have p : t7 := by rw [e7]; omega
    refine ⟨p, p, p, p, br_no (by simp) ?_⟩
    rw [next_i (by omega)]
    exact hn (i + 1) (by omega) (by omega)
  · intro hi
    exact hk _ _ (by simp) hK
theorem ls2 (d n0 : Nat) : LoopOk (envOf Try.prog Nsm d) f_perigeeref22_Same n0 2 (lp Try.prog f_perigeeref22_Same 2) (Ls 7 4) := by
  intro st K hst
  obtain ⟨z, xs, ts, rs, us, es, ⟨hw, rfl, rfl⟩, hK⟩ := hst
  obtain ⟨_, _, ⟨mx, mt, mr, mu, me⟩, hz⟩ := hw
  have m' : rs.length ≤ 9223372036854775807 := mr
  refine loop_of (fun i : Nat => Ss 7 z xs ts rs us es i) (fun i => i ≤ rs.length) (fun i => rs.length - i) ?_ (a := 0) (Nat.zero_le _)
  intro i hle k hn hk
  show round (envOf Try.prog ⟨Γmy2, _, fun _ => none⟩ d) _ _ _ _ _ k
  rw [rs2]
  intro t1 e1 t2 e2 t3 e3 t4 e4 t5 e5 t6 e6 t7 e7 t8 e8 t9 e9 t10 e10 t11 e11
  rw [br_dec]
  constructor
  · intro hi
    have p : t11 := by rw [e11]; omega
    refine ⟨p, p, p, p, br_no (by simp) ?_⟩
    rw [next_i (by omega)]
    exact hn (i + 1) (by omega) (by omega)
  · intro hi
    exact hk _ _ (by simp) hK
theorem ls3 (d n0 : Nat) : LoopOk (envOf Try.prog Nsm d) f_perigeeref22_Same n0 3 (lp Try.prog f_perigeeref22_Same 3) (Ls 8 6) := by
  intro st K hst
  obtain ⟨z, xs, ts, rs, us, es, ⟨hw, rfl, rfl⟩, hK⟩ := hst
  obtain ⟨_, _, ⟨mx, mt, mr, mu, me⟩, hz⟩ := hw
  have m' : us.length ≤ 9223372036854775807 := mu
  refine loop_of (fun i : Nat => Ss 8 z xs ts rs us es i) (fun i => i ≤ us.length) (fun i => us.length - i) ?_ (a := 0) (Nat.zero_le _)
  intro i hle k hn hk
  show round (envOf Try.prog ⟨Γmy2, _, fun _ => none⟩ d) _ _ _ _ _ k
  rw [rs3]
  intro t1 e1 t2 e2
  rw [br_dec]
  constructor
  · intro hi
    have p : t2 := by rw [e2]; omega
    refine ⟨p, p, p, p, br_no (by simp) ?_⟩
    rw [next_i (by omega)]
    exact hn (i + 1) (by omega) (by omega)
  · intro hi
    exact hk _ _ (by simp) hK
theorem ls4 (d n0 : Nat) : LoopOk (envOf Try.prog Nsm d) f_perigeeref22_Same n0 4 (lp Try.prog f_perigeeref22_Same 4) Ls9 := by
  intro st K hst
  obtain ⟨z, xs, ts, rs, us, es, ⟨hw, rfl, rfl⟩, hK⟩ := hst
  obtain ⟨_, _, ⟨mx, mt, mr, mu, me⟩, hz⟩ := hw
  have m' : es.length ≤ 9223372036854775807 := me
  refine loop_of (fun i : Nat => Ss 9 z xs ts rs us es i) (fun i => i ≤ es.length) (fun i => es.length - i) ?_ (a := 0) (Nat.zero_le _)
  intro i hle k hn hk
  show round (envOf Try.prog ⟨Γmy2, _, fun _ => none⟩ d) _ _ _ _ _ k
  rw [rs4]
  intro t1 e1 t2 e2 t3 e3 t4 e4 t5 e5
  rw [br_dec]
  constructor
  · intro hi
    have p : t5 := by rw [e5]; omega
    refine ⟨p, p, p, p, br_no (by simp) ?_⟩
    rw [next_i (by omega)]
    exact hn (i + 1) (by omega) (by omega)
  · intro hi
    exact hk _ _ (by simp) hK
theorem knowSm : KnowOk Try.prog Nsm 3 := by
  refine know_own (fun g sp h => ctrsmy2 h) ?_ (fun g G h => noT h) 3
  intro f i S hS d n0
  simp only [Nsm] at hS
  split at hS
  · rename_i hf
    subst hf
    split at hS
    · rename_i hi; subst hi; cases hS; exact ls0 d n0
    split at hS
    · rename_i hi; subst hi; cases hS; exact ls1 d n0
    split at hS
    · rename_i hi; subst hi; cases hS; exact ls2 d n0
    split at hS
    · rename_i hi; subst hi; cases hS; exact ls3 d n0
    split at hS
    · rename_i hi; subst hi; cases hS; exact ls4 d n0
    · cases hS
  · cases hS
theorem c_SameW : Contract Try.prog f_perigeeref22_Same spSw := by
  refine contract_of (N := Nsm) 3 knowSm ?_
  rintro l bs _ _ ⟨z, xs, ts, rs, us, es, rfl, rfl, hw⟩
  show comes _ _ _ _ _ _ fun v bs' => (IV.bool true, ([] : List Blk)) = (v, bs')
  rw [v_SameW]
  rintro t1 rfl t2 rfl t3 rfl t4 rfl t5 rfl t6 rfl t7 rfl t8 rfl t9 rfl t10 rfl t11 rfl t12 rfl t13 rfl t14 rfl t15 rfl t16 rfl t17 rfl t18 rfl t19 rfl
  refine br_no (by simp) (br_no (by simp) (br_no (by simp) (br_no (by simp) (br_no (by simp) (br_no (by simp) (br_no (by simp) (br_no (by simp) (br_no (by simp) (br_no (by simp) (br_no (by simp) (br_no (by simp) (br_no (by simp) (br_no (by simp) (br_no (by simp) ?_))))))))))))))
  exact ⟨z, xs, ts, rs, us, es, ⟨hw, rfl, rfl⟩, z, xs, ts, rs, us, es, ⟨hw, rfl, rfl⟩, z, xs, ts, rs, us, es, ⟨hw, rfl, rfl⟩, z, xs, ts, rs, us, es, ⟨hw, rfl, rfl⟩, z, xs, ts, rs, us, es, ⟨hw, rfl, rfl⟩, rfl⟩
theorem ctrsmy3 : ∀ {g : FuncId} {sp : Vs.Spec}, Γmy3 g = some sp → Contract Try.prog g sp := ext_ok c_mayParts (ext_ok c_SameW ctrsmy2)
theorem knowmy3 : KnowOk Try.prog Nmy3 3 := knowOf (fun g sp h => ctrsmy3 h) (fun _ _ => rfl) (fun _ => rfl) 3
end Go.Vs.RF

set_option linter.unusedVariables false
/- DirectAll -/
namespace Go.Vs.RF
open Go Go.Proofs Go.Vs
theorem v_DirectAll (z : List Int) (xs ts rs us es : List (List Int)) (h : Int) (K : IV → List Blk → Prop) : (comes Try.prog Nmy3 3 f_perigeelaw11_DirectAll [.agg (worldC z 0 1 2 3 4), fx h] (worldB xs ts rs us es) K) = (∀ (j1 : Int), j1 = h → ∀ (t2 : Int), t2 = z.getD (0 : Nat) (0 : Int) → ∀ (t3 : Int), t3 = z.getD (1 : Nat) (0 : Int) → ∀ (t4 : Int), t4 = z.getD (2 : Nat) (0 : Int) → ∀ (t5 : Int), t5 = z.getD (3 : Nat) (0 : Int) → ∀ (t6 : Int), t6 = z.getD (4 : Nat) (0 : Int) → ∀ (t7 : Int), t7 = z.getD (5 : Nat) (0 : Int) → ∀ (t8 : Int), t8 = z.getD (6 : Nat) (0 : Int) → ∀ (t9 : Int), t9 = z.getD (7 : Nat) (0 : Int) → ∀ (t10 : Int), t10 = z.getD (8 : Nat) (0 : Int) → ∀ (t11 : Int), t11 = z.getD (9 : Nat) (0 : Int) → ∀ (t12 : Int), t12 = z.getD (10 : Nat) (0 : Int) → ∀ (t13 : Int), t13 = z.getD (11 : Nat) (0 : Int) → ∀ (t14 : Int), t14 = z.getD (12 : Nat) (0 : Int) → ∀ (t15 : Int), t15 = z.getD (13 : Nat) (0 : Int) → ∀ (t16 : Int), t16 = z.getD (14 : Nat) (0 : Int) → ∀ (t17 : Int), t17 = z.getD (15 : Nat) (0 : Int) → ∀ (t18 : Int), t18 = z.getD (16 : Nat) (0 : Int) → ∀ (t19 : Int), t19 = z.getD (17 : Nat) (0 : Int) → ∀ (t20 : Int), t20 = z.getD (18 : Nat) (0 : Int) → ∀ (t21 : Int), t21 = t17 * (18446744073709551616 : Int) + t18 → ∀ (t22 : Int), t22 = t19 * (18446744073709551616 : Int) + t20 → ∀ (t23 : Int), t23 = dirE (worN [IV.agg [IV.int IntKind.i64 t2, IV.int IntKind.i64 t3, IV.int IntKind.u64 t4, IV.int IntKind.i64 t5, IV.int IntKind.u64 t6, IV.int IntKind.i64 t7, IV.int IntKind.u64 t8, IV.int IntKind.i64 t9, IV.int IntKind.u64 t10, IV.int IntKind.i64 t11, IV.int IntKind.u64 t12, IV.int IntKind.i64 t13, IV.int IntKind.i64 t14, IV.sl (0 : Nat), IV.sl (1 : Nat), IV.sl (2 : Nat), IV.sl (3 : Nat), IV.int IntKind.i64 t15, IV.int IntKind.u64 t16, IV.int IntKind.i64 t17, IV.int IntKind.u64 t18, IV.int IntKind.i64 t19, IV.int IntKind.u64 t20, IV.sl (4 : Nat)], fx h] (0 : Nat)) j1 xs → ∀ (t24 : Prop), t24 = pKick [IV.agg [IV.int IntKind.i64 t2, IV.int IntKind.i64 t3, IV.int IntKind.u64 t4, IV.int IntKind.i64 t5, IV.int IntKind.u64 t6, IV.int IntKind.i64 t7, IV.int IntKind.u64 t8, IV.int IntKind.i64 t9, IV.int IntKind.u64 t10, IV.int IntKind.i64 t11, IV.int IntKind.u64 t12, IV.int IntKind.i64 t13, IV.int IntKind.i64 t14, IV.sl (0 : Nat), IV.sl (1 : Nat), IV.sl (2 : Nat), IV.sl (3 : Nat), IV.int IntKind.i64 t15, IV.int IntKind.u64 t16, IV.int IntKind.i64 t17, IV.int IntKind.u64 t18, IV.int IntKind.i64 t19, IV.int IntKind.u64 t20, IV.sl (4 : Nat)], fx h] [Blk.ro ksB xs, Blk.ro ksT ts, Blk.ro ksR rs, Blk.ro [IntKind.i64] us, Blk.ro ksE es] → br (decide ((↑xs.length : Int) ≤ (10 : Int))) (pWn [IV.int IntKind.i64 t2, IV.int IntKind.i64 (0 : Int), IV.int IntKind.i64 (1099511627776 : Int)] [] ∧ br (!wnB t2 (0 : Int) (1099511627776 : Int)) (pAwk11 [] [] ∧ K (IV.bool true) []) (pTo [IV.agg [IV.int IntKind.i64 t3, IV.int IntKind.u64 t4], IV.int IntKind.i64 (1024 : Int)] [] ∧ br (!frB (t3 * (18446744073709551616 : Int) + t4) (0 : Int) (18889465931478580854784 : Int)) (pAwk11 [] [] ∧ K (IV.bool true) []) (br (decide (t3 = (0 : Int)) && (decide (t4 = (0 : Int)) && true)) (pAwk11 [] [] ∧ K (IV.bool true) []) (pTo [IV.agg [IV.int IntKind.i64 t5, IV.int IntKind.u64 t6], IV.int IntKind.i64 (1048576 : Int)] [] ∧ br (!frB (t5 * (18446744073709551616 : Int) + t6) (0 : Int) (19342813113834066795298816 : Int)) (pAwk11 [] [] ∧ K (IV.bool true) []) (pTo [IV.agg [IV.int IntKind.i64 t7, IV.int IntKind.u64 t8], IV.int IntKind.i64 (65536 : Int)] [] ∧ br (!frB (t7 * (18446744073709551616 : Int) + t8) (0 : Int) (1208925819614629174706176 : Int)) (pAwk11 [] [] ∧ K (IV.bool true) []) (pTo [IV.agg [IV.int IntKind.i64 t9, IV.int IntKind.u64 t10], IV.int IntKind.i64 (1 : Int)] [] ∧ br (!frB (t9 * (18446744073709551616 : Int) + t10) (0 : Int) (18446744073709551616 : Int)) (pAwk11 [] [] ∧ K (IV.bool true) []) (pTo [IV.agg [IV.int IntKind.i64 t11, IV.int IntKind.u64 t12], IV.int IntKind.i64 (1 : Int)] [] ∧ br (!frB (t11 * (18446744073709551616 : Int) + t12) (0 : Int) (18446744073709551616 : Int)) (pAwk11 [] [] ∧ K (IV.bool true) []) (pWn [IV.int IntKind.i64 t13, IV.int IntKind.i64 (0 : Int), IV.int IntKind.i64 (1 : Int)] [] ∧ br (!wnB t13 (0 : Int) (1 : Int)) (pAwk11 [] [] ∧ K (IV.bool true) []) (pWn [IV.int IntKind.i64 t14, IV.int IntKind.i64 (0 : Int), IV.int IntKind.i64 (1 : Int)] [] ∧ br (!wnB t14 (0 : Int) (1 : Int)) (pAwk11 [] [] ∧ K (IV.bool true) []) (br (decide ((↑xs.length : Int) > (32 : Int))) (pAwk11 [] [] ∧ K (IV.bool true) []) (br (decide ((↑ts.length : Int) > (32 : Int))) (pAwk11 [] [] ∧ K (IV.bool true) []) (br (decide ((↑rs.length : Int) > (16 : Int))) (pAwk11 [] [] ∧ K (IV.bool true) []) (br ((↑us.length : Int) != (↑xs.length : Int)) (pAwk11 [] [] ∧ K (IV.bool true) []) (br (decide ((↑es.length : Int) > (400 : Int))) (pAwk11 [] [] ∧ K (IV.bool true) []) (pTo [IV.agg [IV.int IntKind.i64 t15, IV.int IntKind.u64 t16], IV.int IntKind.i64 (67108864 : Int)] [] ∧ br (frB (t15 * (18446744073709551616 : Int) + t16) (0 : Int) (1237940039285380274899124224 : Int)) (vin1 [IV.agg [IV.int IntKind.i64 t17, IV.int IntKind.u64 t18, IV.int IntKind.i64 t19, IV.int IntKind.u64 t20]] [] ∧ br (decide ((-170141183460469231731687303715884105728 : Int) < t21) && decide ((-170141183460469231731687303715884105728 : Int) < t22)) (pMp [IV.agg [IV.int IntKind.i64 t2, IV.int IntKind.i64 t3, IV.int IntKind.u64 t4, IV.int IntKind.i64 t5, IV.int IntKind.u64 t6, IV.int IntKind.i64 t7, IV.int IntKind.u64 t8, IV.int IntKind.i64 t9, IV.int IntKind.u64 t10, IV.int IntKind.i64 t11, IV.int IntKind.u64 t12, IV.int IntKind.i64 t13, IV.int IntKind.i64 t14, IV.sl (0 : Nat), IV.sl (1 : Nat), IV.sl (2 : Nat), IV.sl (3 : Nat), IV.int IntKind.i64 t15, IV.int IntKind.u64 t16, IV.int IntKind.i64 t17, IV.int IntKind.u64 t18, IV.int IntKind.i64 t19, IV.int IntKind.u64 t20, IV.sl (4 : Nat)]] [Blk.ro ksB xs, Blk.ro ksT ts, Blk.ro ksR rs, Blk.ro [IntKind.i64] us, Blk.ro ksE es] ∧ br (!mpB (worN [IV.agg [IV.int IntKind.i64 t2, IV.int IntKind.i64 t3, IV.int IntKind.u64 t4, IV.int IntKind.i64 t5, IV.int IntKind.u64 t6, IV.int IntKind.i64 t7, IV.int IntKind.u64 t8, IV.int IntKind.i64 t9, IV.int IntKind.u64 t10, IV.int IntKind.i64 t11, IV.int IntKind.u64 t12, IV.int IntKind.i64 t13, IV.int IntKind.i64 t14, IV.sl (0 : Nat), IV.sl (1 : Nat), IV.sl (2 : Nat), IV.sl (3 : Nat), IV.int IntKind.i64 t15, IV.int IntKind.u64 t16, IV.int IntKind.i64 t17, IV.int IntKind.u64 t18, IV.int IntKind.i64 t19, IV.int IntKind.u64 t20, IV.sl (4 : Nat)]] (0 : Nat)) xs ts rs us es) (pAwk11 [] [] ∧ K (IV.bool true) []) (preF [fx h] [] ∧ br (!decide ((-170141183460469231731687303715884105728 : Int) < j1)) (pAwk11 [] [] ∧ K (IV.bool true) []) (((0 : Nat) + xs.length) * (160 : Nat) ≤ (140737488355328 : Nat) ∧ t24 ∧ t24 ∧ pSame [IV.sl (0 : Nat), IV.sl (1 : Nat)] [Blk.ro ksV (dirL (worN [IV.agg [IV.int IntKind.i64 t2, IV.int IntKind.i64 t3, IV.int IntKind.u64 t4, IV.int IntKind.i64 t5, IV.int IntKind.u64 t6, IV.int IntKind.i64 t7, IV.int IntKind.u64 t8, IV.int IntKind.i64 t9, IV.int IntKind.u64 t10, IV.int IntKind.i64 t11, IV.int IntKind.u64 t12, IV.int IntKind.i64 t13, IV.int IntKind.i64 t14, IV.sl (0 : Nat), IV.sl (1 : Nat), IV.sl (2 : Nat), IV.sl (3 : Nat), IV.int IntKind.i64 t15, IV.int IntKind.u64 t16, IV.int IntKind.i64 t17, IV.int IntKind.u64 t18, IV.int IntKind.i64 t19, IV.int IntKind.u64 t20, IV.sl (4 : Nat)], fx h] (0 : Nat)) j1 xs), Blk.ro ksV (dirL (worN [IV.agg [IV.int IntKind.i64 t2, IV.int IntKind.i64 t3, IV.int IntKind.u64 t4, IV.int IntKind.i64 t5, IV.int IntKind.u64 t6, IV.int IntKind.i64 t7, IV.int IntKind.u64 t8, IV.int IntKind.i64 t9, IV.int IntKind.u64 t10, IV.int IntKind.i64 t11, IV.int IntKind.u64 t12, IV.int IntKind.i64 t13, IV.int IntKind.i64 t14, IV.sl (0 : Nat), IV.sl (1 : Nat), IV.sl (2 : Nat), IV.sl (3 : Nat), IV.int IntKind.i64 t15, IV.int IntKind.u64 t16, IV.int IntKind.i64 t17, IV.int IntKind.u64 t18, IV.int IntKind.i64 t19, IV.int IntKind.u64 t20, IV.sl (4 : Nat)], fx h] (0 : Nat)) j1 xs)] ∧ br (bp (dirL (worN [IV.agg [IV.int IntKind.i64 t2, IV.int IntKind.i64 t3, IV.int IntKind.u64 t4, IV.int IntKind.i64 t5, IV.int IntKind.u64 t6, IV.int IntKind.i64 t7, IV.int IntKind.u64 t8, IV.int IntKind.i64 t9, IV.int IntKind.u64 t10, IV.int IntKind.i64 t11, IV.int IntKind.u64 t12, IV.int IntKind.i64 t13, IV.int IntKind.i64 t14, IV.sl (0 : Nat), IV.sl (1 : Nat), IV.sl (2 : Nat), IV.sl (3 : Nat), IV.int IntKind.i64 t15, IV.int IntKind.u64 t16, IV.int IntKind.i64 t17, IV.int IntKind.u64 t18, IV.int IntKind.i64 t19, IV.int IntKind.u64 t20, IV.sl (4 : Nat)], fx h] (0 : Nat)) j1 xs = dirL (worN [IV.agg [IV.int IntKind.i64 t2, IV.int IntKind.i64 t3, IV.int IntKind.u64 t4, IV.int IntKind.i64 t5, IV.int IntKind.u64 t6, IV.int IntKind.i64 t7, IV.int IntKind.u64 t8, IV.int IntKind.i64 t9, IV.int IntKind.u64 t10, IV.int IntKind.i64 t11, IV.int IntKind.u64 t12, IV.int IntKind.i64 t13, IV.int IntKind.i64 t14, IV.sl (0 : Nat), IV.sl (1 : Nat), IV.sl (2 : Nat), IV.sl (3 : Nat), IV.int IntKind.i64 t15, IV.int IntKind.u64 t16, IV.int IntKind.i64 t17, IV.int IntKind.u64 t18, IV.int IntKind.i64 t19, IV.int IntKind.u64 t20, IV.sl (4 : Nat)], fx h] (0 : Nat)) j1 xs)) (preI [IV.int IntKind.i64 t23] [] ∧ br (t23 == t23) (pSw [IV.agg [IV.int IntKind.i64 t2, IV.int IntKind.i64 t3, IV.int IntKind.u64 t4, IV.int IntKind.i64 t5, IV.int IntKind.u64 t6, IV.int IntKind.i64 t7, IV.int IntKind.u64 t8, IV.int IntKind.i64 t9, IV.int IntKind.u64 t10, IV.int IntKind.i64 t11, IV.int IntKind.u64 t12, IV.int IntKind.i64 t13, IV.int IntKind.i64 t14, IV.sl (0 : Nat), IV.sl (1 : Nat), IV.sl (2 : Nat), IV.sl (3 : Nat), IV.int IntKind.i64 t15, IV.int IntKind.u64 t16, IV.int IntKind.i64 t17, IV.int IntKind.u64 t18, IV.int IntKind.i64 t19, IV.int IntKind.u64 t20, IV.sl (4 : Nat)], IV.agg [IV.int IntKind.i64 t2, IV.int IntKind.i64 t3, IV.int IntKind.u64 t4, IV.int IntKind.i64 t5, IV.int IntKind.u64 t6, IV.int IntKind.i64 t7, IV.int IntKind.u64 t8, IV.int IntKind.i64 t9, IV.int IntKind.u64 t10, IV.int IntKind.i64 t11, IV.int IntKind.u64 t12, IV.int IntKind.i64 t13, IV.int IntKind.i64 t14, IV.sl (5 : Nat), IV.sl (6 : Nat), IV.sl (7 : Nat), IV.sl (8 : Nat), IV.int IntKind.i64 t15, IV.int IntKind.u64 t16, IV.int IntKind.i64 t17, IV.int IntKind.u64 t18, IV.int IntKind.i64 t19, IV.int IntKind.u64 t20, IV.sl (9 : Nat)]] [Blk.ro ksB xs, Blk.ro ksT ts, Blk.ro ksR rs, Blk.ro [IntKind.i64] us, Blk.ro ksE es, Blk.ro ksB (List.replicate (0 : Nat) (List.replicate (20 : Nat) (0 : Int)) ++ xs), Blk.ro ksT ts, Blk.ro ksR rs, Blk.ro [IntKind.i64] us, Blk.ro ksE es] ∧ pAwk11 [] [] ∧ K (IV.bool true) []) (K (IV.bool false) [])) (K (IV.bool false) [])))) (pAwk11 [] [] ∧ K (IV.bool true) [])) (pAwk11 [] [] ∧ K (IV.bool true) [])))))))))))))))) (pAwk11 [] [] ∧ K (IV.bool true) [])) := by refine nj ?_; refine nm ?_; refine nm ?_; refine nm ?_; refine nm ?_; refine nm ?_; refine nm ?_; refine nm ?_; refine nm ?_; refine nm ?_; refine nm ?_; refine nm ?_; refine nm ?_; refine nm ?_; refine nm ?_; refine nm ?_; refine nm ?_; refine nm ?_; refine nm ?_; refine nm ?_; refine nm ?_; refine nm ?_; refine nm ?_; refine nm ?_; kernel_rfl
end Go.Vs.RF


set_option linter.unusedVariables false
set_option linter.unusedSimpArgs false
set_option maxRecDepth 100000
/- DirectAll -/
namespace Go.Vs.RF
open Go Go.Proofs Go.Vs Go.IntWalk

theorem mpB_good {z : List Int} {xs ts rs us es : List (List Int)} (hx : okRows ksB xs) (hl : lenIs 20 xs) (h : mpB z xs ts rs us es = true) : goodBs xs := by
  unfold mpB at h
  rw [Bool.and_eq_true] at h
  intro r hr
  obtain ⟨i, hi, rfl⟩ := List.getElem_of_mem hr
  have h1 := scan_at h.1 hi
  unfold mq0 at h1
  rw [Bool.and_eq_true, get_row hi] at h1
  exact mayBB_good (hl _ hr) (hx _ hr) h1.1
def lawDAl (l : List IV) (bs : List Blk) : Prop := ∃ z xs ts rs us es h, l = [.agg (worldC z 0 1 2 3 4), fx h] ∧ bs = worldB xs ts rs us es ∧ rowZ z ∧ (lenIs 20 xs ∧ lenIs 6 ts ∧ lenIs 10 rs ∧ lenIs 1 us ∧ lenIs 4 es) ∧ inF h
noncomputable def spDAl : Vs.Spec := ⟨lawDAl, fun _ _ => (.bool true, [])⟩
set_option maxHeartbeats 2000000 in
theorem c_DirectAll : Contract Try.prog f_perigeelaw11_DirectAll spDAl := by
  refine contract_of (N := Nmy3) 3 knowmy3 ?_
  rintro l bs _ hB ⟨z, xs, ts, rs, us, es, h, rfl, rfl, ⟨hz, kz⟩, hlen, hh⟩
  have hb0 : okRows ksB xs ∧ 0 < ksB.length ∧ xs.length ≤ maxLen := hB (.ro ksB xs) (by simp [worldB])
  have hb1 : okRows ksT ts ∧ 0 < ksT.length ∧ ts.length ≤ maxLen := hB (.ro ksT ts) (by simp [worldB])
  have hb2 : okRows ksR rs ∧ 0 < ksR.length ∧ rs.length ≤ maxLen := hB (.ro ksR rs) (by simp [worldB])
  have hb3 : okRows [.i64] us ∧ 0 < [IntKind.i64].length ∧ us.length ≤ maxLen := hB (.ro [.i64] us) (by simp [worldB])
  have hb4 : okRows ksE es ∧ 0 < ksE.length ∧ es.length ≤ maxLen := hB (.ro ksE es) (by simp [worldB])
  have hw : wOk z xs ts rs us es := ⟨⟨hb0.1, hb1.1, hb2.1, hb3.1, hb4.1⟩, hlen, ⟨hb0.2.2, hb1.2.2, hb2.2.2, hb3.2.2, hb4.2.2⟩, hz⟩
  show comes _ _ _ _ _ _ fun v bs' => (IV.bool true, ([] : List Blk)) = (v, bs')
  rw [v_DirectAll]
  rintro j1 rfl t2 rfl t3 rfl t4 rfl t5 rfl t6 rfl t7 rfl t8 rfl t9 rfl t10 rfl t11 rfl t12 rfl t13 rfl t14 rfl t15 rfl t16 rfl t17 rfl t18 rfl t19 rfl t20 rfl t21 e21 t22 e22 t23 e23 t24 e24
  have yes : pAwk11 [] [] ∧ (IV.bool true, ([] : List Blk)) = (IV.bool true, []) := ⟨pAwk_ok, rfl⟩
  have hwN : ∀ v, worN [IV.agg (worldC z 0 1 2 3 4), v] 0 = z := fun v => worN_of _ z 0 1 2 3 4 hz rfl
  have hwM : worN [IV.agg (worldC z 0 1 2 3 4)] 0 = z := worN_of _ z 0 1 2 3 4 hz rfl
  have K : ∀ j, j < 19 → inK (ksZ.getD j .i64) (z.getD j 0) := kz
  have g : ∀ {b : Bool} {A : Prop}, (b = true → A) → br b A (pAwk11 [] [] ∧ (IV.bool true, ([] : List Blk)) = (IV.bool true, [])) := by
    intro b A hA
    rw [br_bool]
    exact ⟨hA, fun _ => yes⟩
  have g' : ∀ {b : Bool} {A : Prop}, (b = false → A) → br b (pAwk11 [] [] ∧ (IV.bool true, ([] : List Blk)) = (IV.bool true, [])) A := by
    intro b A hA
    rw [br_bool]
    exact ⟨fun _ => yes, hA⟩
  refine g fun h10 => ⟨⟨_, _, _, rfl, rfl⟩, g' fun _ => ⟨pTo_of (K 1 (by decide)) (K 2 (by decide)) (by decide) (by decide), g' fun f1 => g' fun _ => ⟨pTo_of (K 3 (by decide)) (K 4 (by decide)) (by decide) (by decide), g' fun f2 => ⟨pTo_of (K 5 (by decide)) (K 6 (by decide)) (by decide) (by decide), g' fun f3 =>
    ⟨pTo_of (K 7 (by decide)) (K 8 (by decide)) (by decide) (by decide), g' fun f4 => ⟨pTo_of (K 9 (by decide)) (K 10 (by decide)) (by decide) (by decide), g' fun f5 => ⟨⟨_, _, _, rfl, rfl⟩, g' fun _ => ⟨⟨_, _, _, rfl, rfl⟩, g' fun _ => g' fun _ => g' fun _ => g' fun _ => g' fun hu => g' fun _ => ⟨pTo_of (K 13 (by decide)) (K 14 (by decide)) (by decide) (by decide), g fun _ => ⟨?_, g fun _ => ⟨?_, g' fun hp => ⟨preF_in hh, g' fun hm => ?_⟩⟩⟩⟩⟩⟩⟩⟩⟩⟩⟩⟩
  · have k16 : 0 ≤ z.getD 16 0 ∧ z.getD 16 0 ≤ 18446744073709551615 := K 16 (by decide)
    have k18 : 0 ≤ z.getD 18 0 ∧ z.getD 18 0 ≤ 18446744073709551615 := K 18 (by decide)
    rw [vx_cells ⟨k16.1, by omega⟩ ⟨k18.1, by omega⟩]
    exact vin1_of (fx_in (K 15 (by decide)) (K 16 (by decide))) (fx_in (K 17 (by decide)) (K 18 (by decide)))
  · refine ⟨z, xs, ts, rs, us, es, rfl, rfl, hw, ?_⟩
    have : (us.length : Int) = xs.length := by simpa using hu
    omega
  have hu' : us.length = xs.length := by
    have : (us.length : Int) = xs.length := by simpa using hu
    omega
  have hx10 : xs.length ≤ 10 := by have := of_decide_eq_true h10; omega
  have F : ∀ {b : Bool}, (!b) = false → b = true := by intro b hb; cases b <;> simp_all
  have hgood : goodBs xs := by
    refine mpB_good (z := z) (ts := ts) (rs := rs) (us := us) (es := es) hb0.1 hlen.1 ?_
    have h2 : mpB (worN [IV.agg (worldC z 0 1 2 3 4)] 0) xs ts rs us es = true := F hp
    rw [hwM] at h2
    exact h2
  have mh : mayF j1 := ⟨by simpa using hm, hh.2⟩
  have mz : mayZ z := by
    have a2 := frB_iff.1 (F f2)
    have a3 := frB_iff.1 (F f3)
    exact ⟨⟨hz, kz⟩, ⟨a2.1, Int.lt_of_le_of_lt a2.2.2 (by decide)⟩, ⟨a3.1, Int.lt_of_le_of_lt a3.2.2 (by decide)⟩⟩
  have p24 : t24 := by rw [e24]; exact ⟨z, xs, ts, rs, us, es, j1, rfl, rfl, mz, hgood, mh, by omega⟩
  have T23 : t23 = dirE z j1 xs := by rw [e23]; exact congrArg (fun w => dirE w j1 xs) (hwN _)
  have hD : dirL (worN [IV.agg (worldC z 0 1 2 3 4), fx j1] 0) j1 xs = dirL z j1 xs := by rw [hwN]
  refine ⟨by omega, p24, p24, ?_, ?_⟩
  · have hs : pSame [.sl 0, .sl 1] [.ro ksV (dirL z j1 xs), .ro ksV (dirL z j1 xs)] := ⟨_, _, rfl, rfl, by have := dirL_le (z := z) (h := j1) hgood; omega, dirL_four hgood, dirL_four hgood⟩
    rw [← hD] at hs
    exact hs
  refine br_is (bp_true rfl) ⟨preI_of (by rw [T23]; exact dirE_is _ _ _), br_is (by simp) ⟨?_, yes⟩⟩
  exact ⟨z, xs, ts, rs, us, es, rfl, rfl, hw⟩
end Go.Vs.RF

set_option linter.unusedVariables false
set_option linter.unusedSimpArgs false
set_option maxRecDepth 100000
/- DirectAll: its row -/
namespace Go.Vs.RF
open Go Go.Proofs Go.Vs Go.IntWalk

def worldFD : List FD := [.flat 3 [.i64], .flat 28 [.i64, .u64], .flat 28 [.i64, .u64], .flat 28 [.i64, .u64], .flat 28 [.i64, .u64], .flat 28 [.i64, .u64], .flat 3 [.i64], .flat 3 [.i64], .sl 23 32 ksB, .sl 81 115 ksT, .sl 82 167 ksR, .sl 83 3 [.i64], .flat 28 [.i64, .u64], .flat 30 [.i64, .u64, .i64, .u64], .sl 84 169 ksE]
theorem fine_len : ∀ {fds : List FD} {c : List (List (List Int))}, allFine fds c → c.length = fds.length
  | [], [], _ => rfl
  | [], _ :: _, h => h.elim
  | _ :: _, [], h => h.elim
  | _ :: fds, _ :: c, h => congrArg (· + 1) (fine_len (fds := fds) (c := c) h.2)
theorem world_of {c : List (List (List Int))} (hc : allFine worldFD c) : ∃ z xs ts rs us es, rowZ z ∧ (lenIs 20 xs ∧ lenIs 6 ts ∧ lenIs 10 rs ∧ lenIs 1 us ∧ lenIs 4 es) ∧ allIvs 0 worldFD c = worldC z 0 1 2 3 4 ∧ allBlks worldFD c = worldB xs ts rs us es := by
  have hlen : c.length = 15 := fine_len hc
  match c, hlen with
  | [c0, c1, c2, c3, c4, c5, c6, c7, c8, c9, c10, c11, c12, c13, c14], _ =>
    obtain ⟨⟨x0, rfl, l0, k0⟩, ⟨x1, rfl, l1, k1⟩, ⟨x2, rfl, l2, k2⟩, ⟨x3, rfl, l3, k3⟩, ⟨x4, rfl, l4, k4⟩, ⟨x5, rfl, l5, k5⟩, ⟨x6, rfl, l6, k6⟩, ⟨x7, rfl, l7, k7⟩, ⟨a8, b8, d8⟩, ⟨a9, b9, d9⟩, ⟨a10, b10, d10⟩, ⟨a11, b11, d11⟩, ⟨x12, rfl, l12, k12⟩, ⟨x13, rfl, l13, k13⟩, ⟨a14, b14, d14⟩, _⟩ := hc
    match x0, l0, x1, l1, x2, l2, x3, l3, x4, l4, x5, l5, x6, l6, x7, l7, x12, l12, x13, l13 with
    | [z0], _, [z1, z2], _, [z3, z4], _, [z5, z6], _, [z7, z8], _, [z9, z10], _, [z11], _, [z12], _, [z13, z14], _, [z15, z16, z17, z18], _ =>
      refine ⟨[z0, z1, z2, z3, z4, z5, z6, z7, z8, z9, z10, z11, z12, z13, z14, z15, z16, z17, z18], c8, c9, c10, c11, c14, ⟨rfl, ?_⟩, ⟨a8, a9, a10, a11, a14⟩, rfl, rfl⟩
      intro j hj
      rcases j with _|_|_|_|_|_|_|_|_|_|_|_|_|_|_|_|_|_|_|j
      · exact k0 0 (by decide)
      · exact k1 0 (by decide)
      · exact k1 1 (by decide)
      · exact k2 0 (by decide)
      · exact k2 1 (by decide)
      · exact k3 0 (by decide)
      · exact k3 1 (by decide)
      · exact k4 0 (by decide)
      · exact k4 1 (by decide)
      · exact k5 0 (by decide)
      · exact k5 1 (by decide)
      · exact k6 0 (by decide)
      · exact k7 0 (by decide)
      · exact k12 0 (by decide)
      · exact k12 1 (by decide)
      · exact k13 0 (by decide)
      · exact k13 1 (by decide)
      · exact k13 2 (by decide)
      · exact k13 3 (by decide)
      · omega
theorem lawDAl_of {c : List (List (List Int))} {x : List Int} (hc : allFine worldFD c) (l1 : x.length = 2) (k1 : ∀ j, j < 2 → inK (([.i64, .u64] : List IntKind).getD j .i64) (x.getD j 0)) :
    lawDAl [.agg (allIvs 0 worldFD c), .agg (rowCells [.i64, .u64] [x] 0 0 2)] (allBlks worldFD c) := by
  obtain ⟨z, xs, ts, rs, us, es, hz, hl, e1, e2⟩ := world_of hc
  match x, l1 with
  | [a, b], _ =>
    have h0 : (-9223372036854775808 : Int) ≤ a ∧ a ≤ 9223372036854775807 := k1 0 (by decide)
    have h1 : (0 : Int) ≤ b ∧ b ≤ 18446744073709551615 := k1 1 (by decide)
    refine ⟨z, xs, ts, rs, us, es, a * 18446744073709551616 + b, ?_, e2, hz, hl, ⟨by omega, by omega⟩⟩
    rw [e1, fx_mk2 (n := a * 18446744073709551616 + b) (a := a) (b := b) ⟨h1.1, by omega⟩ rfl]
    rfl
end Go.Vs.RF
