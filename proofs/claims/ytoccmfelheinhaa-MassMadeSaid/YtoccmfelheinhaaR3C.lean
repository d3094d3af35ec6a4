import Derived.Test.YtoccmfelheinhaaR3B
set_option linter.unusedVariables false
/- FixAll, FixOne: what they come to -/
namespace Go.Vs.RF
open Go Go.Proofs Go.Vs
noncomputable def Γq : FuncId → Option Vs.Spec := fun g => if g = f_perigeeref1_Sub then some spRSub else if g = f_perigeeref1_Mul then some spRMul else if g = f_perigeeref1_Div then some spRDivF else if g = f_perigeeref1_Sqrt then some spRSqrt
  else if g = f_perigeeref1_Half then some spFHalf else if g = f_perigeeref1_Floor then some spFloor else if g = f_perigeeref1_Cmp then some spCmp else Γp1 g
noncomputable def Nq : Know := ⟨Γq, fun _ _ => none, fun _ => none⟩
noncomputable def Γr : FuncId → Option Vs.Spec := Γq
noncomputable def Nr : Know := ⟨Γr, fun _ _ => none, fun _ => none⟩
end Go.Vs.RF

set_option linter.unusedVariables false
set_option linter.unusedSimpArgs false
set_option maxRecDepth 100000
/- FixParts, FixRoots, FixSigns, FixAll, FixOne -/
namespace Go.Vs.RF
open Go Go.Proofs Go.Vs Go.IntWalk

theorem abs_neg (x : Int) : absI (-x) = absI x := by unfold absI; split <;> split <;> omega
theorem sgn_flip (x : Int) (hx : x ≠ 0) : decide (-x < 0) = !decide (x < 0) := by
  rw [Bool.eq_iff_iff]; simp; omega
theorem sgnI_not (b : Bool) (r : Int) : sgnI (!b) r = -sgnI b r := by cases b <;> simp [sgnI]
theorem mulI_negl (x y : Int) : mulI (-x) y = -mulI x y := by
  by_cases hx : x = 0
  · subst hx; unfold mulI; simp [absI, sgnI]
  · unfold mulI
    rw [abs_neg, sgn_flip x hx, ← sgnI_not]
    congr 1
    cases decide (x < 0) <;> cases decide (y < 0) <;> rfl
theorem mulI_negr (x y : Int) : mulI x (-y) = -mulI x y := by rw [mulI_comm, mulI_negl, mulI_comm]
theorem quoI_zero (y : Int) (hy : y ≠ 0) : quoI 0 y = 0 := by
  unfold quoI
  have hp : 0 < absI y := by unfold absI; split <;> omega
  rw [show absI 0 = 0 from rfl, Int.zero_mul, Int.mul_zero, Int.zero_add, Int.ediv_eq_zero_of_lt (by omega) (by omega)]
  unfold sgnI; split <;> rfl
theorem quoI_negr (x y : Int) (hy : y ≠ 0) : quoI x (-y) = -quoI x y := by
  unfold quoI
  rw [abs_neg, sgn_flip y hy, ← sgnI_not]
  congr 1
  cases decide (x < 0) <;> cases decide (y < 0) <;> rfl
theorem numF_neg (s : Int) : numF (-s) = -numF s := by
  by_cases h : mayF s
  · rw [num_may h, num_may (may_neg h)]
  · have : ¬ mayF (-s) := fun h' => h (by have := may_neg h'; rwa [Int.neg_neg] at this)
    rw [num_not h, num_not this]; rfl
theorem errF_neg (s : Int) : errF (-s) = errF s := by
  by_cases h : mayF s
  · rw [err_may h, err_may (may_neg h)]
  · have : ¬ mayF (-s) := fun h' => h (by have := may_neg h'; rwa [Int.neg_neg] at this)
    rw [err_not h, err_not this]
theorem divN_negr (x y : Int) : divN x (-y) = -divN x y := by
  unfold divN
  by_cases h : y = 0
  · subst h; rfl
  · rw [if_neg h, if_neg (by omega), quoI_negr x y h, numF_neg]
theorem divE_negr (x y : Int) : divE x (-y) = divE x y := by
  unfold divE
  by_cases h : y = 0
  · subst h; rfl
  · rw [if_neg h, if_neg (by omega), quoI_negr x y h, errF_neg]
theorem half_neg (x : Int) : halfI (-x) = -halfI x := by
  by_cases hx : x = 0
  · subst hx; rfl
  · unfold halfI; rw [abs_neg, sgn_flip x hx, sgnI_not]
theorem round_neg (x : Int) : roundI (-x) = -roundI x := by
  by_cases hx : x = 0
  · subst hx; rfl
  · unfold roundI; rw [abs_neg, sgn_flip x hx, sgnI_not]
theorem round_range {x : Int} (h : mayF x) : -9223372036854775807 ≤ roundI x ∧ roundI x ≤ 9223372036854775807 := by
  have := abs_may h
  unfold roundI sgnI
  split <;> split <;> omega
theorem divN_is (x y : Int) : mayF (divN x y) := by
  unfold divN; split
  · exact may_zero
  · exact num_is _
theorem divE_is (x y : Int) : i64ok (divE x y) := by
  unfold divE; split
  · exact ⟨by decide, by decide⟩
  · exact err_is _
theorem ctrsq : ∀ {g : FuncId} {sp : Vs.Spec}, Γq g = some sp → Contract Try.prog g sp :=
  ext_ok c_r_Sub (ext_ok c_r_Mul (ext_ok c_r_Div (ext_ok c_r_Sqrt (ext_ok c_r_Half ((ext_ok c_r_Floor (ext_ok c_ref_Cmp ctrsp1)))))))
theorem v2_got (l : List IV) (n e : Int) (i : Nat) (h : nthR l i = some (gotV n e)) : v2 l i = n ∧ argI l i 2 = e := by
  have : ∀ j, argI l i j = argI [gotV n e] 0 j := by
    intro j; unfold argI; rw [h]; rfl
  unfold v2
  rw [this 0, this 1, this 2]
  exact ⟨jn n, rfl⟩
theorem ctrsr : ∀ {g : FuncId} {sp : Vs.Spec}, Γr g = some sp → Contract Try.prog g sp := ctrsq
theorem sqE_is (x : Int) : i64ok (sqE x) := by unfold sqE; split <;> exact ⟨by decide, by decide⟩
end Go.Vs.RF

set_option linter.unusedVariables false
/- vec: what it comes to -/
namespace Go.Vs.RF
open Go Go.Proofs Go.Vs
noncomputable def Γs : FuncId → Option Vs.Spec := Γr
noncomputable def Ns : Know := ⟨Γs, fun _ _ => none, fun _ => none⟩
/-- a way -/
def vx (x y : Int) : IV := .agg [.int .i64 (x / 18446744073709551616), .int .u64 (x % 18446744073709551616), .int .i64 (y / 18446744073709551616), .int .u64 (y % 18446744073709551616)]
theorem v_vec_May (x y : Int) (K : IV → List Blk → Prop) : (comes Try.prog Ns 3 f_vec_May [vx x y] [] K) = (∀ (j1 : Int), j1 = x → ∀ (j2 : Int), j2 = y → preF [fx x] [] ∧ br (decide ((-170141183460469231731687303715884105728 : Int) < j1)) (preF [fx y] [] ∧ K (IV.bool (decide ((-170141183460469231731687303715884105728 : Int) < j2))) []) (K (IV.bool false) [])) := by refine nj ?_; refine nj ?_; kernel_rfl
theorem v_vec_Add (x y z w : Int) (K : IV → List Blk → Prop) : (comes Try.prog Ns 3 f_vec_Add [vx x y, vx z w] [] K) = (∀ (j1 : Int), j1 = x → ∀ (j2 : Int), j2 = z → ∀ (j3 : Int), j3 = y → ∀ (j4 : Int), j4 = w → ∀ (t5 : Int), t5 = errF (j1 + j2) → ∀ (t6 : Int), t6 = errF (j3 + j4) → ∀ (t7 : Int), t7 = numF (j1 + j2) → ∀ (t8 : Int), t8 = numF (j3 + j4) → may2 [fx x, fx z] [] ∧ br (t5 != (0 : Int)) (K (IV.tup [IV.agg [IV.int IntKind.i64 (0 : Int), IV.int IntKind.u64 (0 : Int), IV.int IntKind.i64 (0 : Int), IV.int IntKind.u64 (0 : Int)], IV.int IntKind.i64 t5]) []) (may2 [fx y, fx w] [] ∧ br (t6 != (0 : Int)) (K (IV.tup [IV.agg [IV.int IntKind.i64 (0 : Int), IV.int IntKind.u64 (0 : Int), IV.int IntKind.i64 (0 : Int), IV.int IntKind.u64 (0 : Int)], IV.int IntKind.i64 t6]) []) (K (IV.tup [vx t7 t8, IV.int IntKind.i64 (0 : Int)]) []))) := by refine nj ?_; refine nj ?_; refine nj ?_; refine nj ?_; refine nm ?_; refine nm ?_; refine nm ?_; refine nm ?_; kernel_rfl
theorem v_vec_Sub (x y z w : Int) (K : IV → List Blk → Prop) : (comes Try.prog Ns 3 f_vec_Sub [vx x y, vx z w] [] K) = (∀ (j1 : Int), j1 = x → ∀ (j2 : Int), j2 = z → ∀ (j3 : Int), j3 = y → ∀ (j4 : Int), j4 = w → ∀ (t5 : Int), t5 = errF (j1 - j2) → ∀ (t6 : Int), t6 = errF (j3 - j4) → ∀ (t7 : Int), t7 = numF (j1 - j2) → ∀ (t8 : Int), t8 = numF (j3 - j4) → may2 [fx x, fx z] [] ∧ br (t5 != (0 : Int)) (K (IV.tup [IV.agg [IV.int IntKind.i64 (0 : Int), IV.int IntKind.u64 (0 : Int), IV.int IntKind.i64 (0 : Int), IV.int IntKind.u64 (0 : Int)], IV.int IntKind.i64 t5]) []) (may2 [fx y, fx w] [] ∧ br (t6 != (0 : Int)) (K (IV.tup [IV.agg [IV.int IntKind.i64 (0 : Int), IV.int IntKind.u64 (0 : Int), IV.int IntKind.i64 (0 : Int), IV.int IntKind.u64 (0 : Int)], IV.int IntKind.i64 t6]) []) (K (IV.tup [vx t7 t8, IV.int IntKind.i64 (0 : Int)]) []))) := by refine nj ?_; refine nj ?_; refine nj ?_; refine nj ?_; refine nm ?_; refine nm ?_; refine nm ?_; refine nm ?_; kernel_rfl
theorem v_vec_Scale (x y k : Int) (K : IV → List Blk → Prop) : (comes Try.prog Ns 3 f_vec_Scale [vx x y, fx k] [] K) = (∀ (j1 : Int), j1 = x → ∀ (j2 : Int), j2 = k → ∀ (j3 : Int), j3 = y → ∀ (t4 : Int), t4 = mulI j1 j2 → ∀ (t5 : Int), t5 = mulI j3 j2 → ∀ (t6 : Int), t6 = errF t4 → ∀ (t7 : Int), t7 = errF t5 → ∀ (t8 : Int), t8 = numF t4 → ∀ (t9 : Int), t9 = numF t5 → may2 [fx x, fx k] [] ∧ br (t6 != (0 : Int)) (K (IV.tup [IV.agg [IV.int IntKind.i64 (0 : Int), IV.int IntKind.u64 (0 : Int), IV.int IntKind.i64 (0 : Int), IV.int IntKind.u64 (0 : Int)], IV.int IntKind.i64 t6]) []) (may2 [fx y, fx k] [] ∧ br (t7 != (0 : Int)) (K (IV.tup [IV.agg [IV.int IntKind.i64 (0 : Int), IV.int IntKind.u64 (0 : Int), IV.int IntKind.i64 (0 : Int), IV.int IntKind.u64 (0 : Int)], IV.int IntKind.i64 t7]) []) (K (IV.tup [vx t8 t9, IV.int IntKind.i64 (0 : Int)]) []))) := by refine nj ?_; refine nj ?_; refine nj ?_; refine nm ?_; refine nm ?_; refine nm ?_; refine nm ?_; refine nm ?_; refine nm ?_; kernel_rfl
theorem v_r_MayVec (x y : Int) (K : IV → List Blk → Prop) : (comes Try.prog Ns 3 f_perigeeref1_MayVec [vx x y] [] K) = (∀ (j1 : Int), j1 = x → ∀ (j2 : Int), j2 = y → preF [fx x] [] ∧ br (decide ((-170141183460469231731687303715884105728 : Int) < j1)) (preF [fx y] [] ∧ K (IV.bool (decide ((-170141183460469231731687303715884105728 : Int) < j2))) []) (K (IV.bool false) [])) := by refine nj ?_; refine nj ?_; kernel_rfl
theorem v_r_NegVec (x y : Int) (K : IV → List Blk → Prop) : (comes Try.prog Ns 3 f_perigeeref1_NegVec [vx x y] [] K) = (∀ (j1 : Int), j1 = x → ∀ (j2 : Int), j2 = y → may1 [fx x] [] ∧ may1 [fx y] [] ∧ K (vx (-j1) (-j2)) []) := by refine nj ?_; refine nj ?_; kernel_rfl
theorem v_r_both (x e y f : Int) (K : IV → List Blk → Prop) : (comes Try.prog Ns 3 f_perigeeref1_both [gotV x e, gotV y f] [] K) = (br (e != (0 : Int)) (K (IV.agg [IV.int IntKind.i64 (0 : Int), IV.int IntKind.u64 (0 : Int), IV.int IntKind.i64 (0 : Int), IV.int IntKind.u64 (0 : Int), IV.int IntKind.i64 e]) []) (br (f != (0 : Int)) (K (IV.agg [IV.int IntKind.i64 (0 : Int), IV.int IntKind.u64 (0 : Int), IV.int IntKind.i64 (0 : Int), IV.int IntKind.u64 (0 : Int), IV.int IntKind.i64 f]) []) (K (IV.agg [IV.int IntKind.i64 (x / (18446744073709551616 : Int)), IV.int IntKind.u64 (x % (18446744073709551616 : Int)), IV.int IntKind.i64 (y / (18446744073709551616 : Int)), IV.int IntKind.u64 (y % (18446744073709551616 : Int)), IV.int IntKind.i64 (0 : Int)]) []))) := by kernel_rfl
theorem v_r_AddVec (x y z w : Int) (K : IV → List Blk → Prop) : (comes Try.prog Ns 3 f_perigeeref1_AddVec [vx x y, vx z w] [] K) = (∀ (j1 : Int), j1 = x → ∀ (j2 : Int), j2 = z → ∀ (j3 : Int), j3 = y → ∀ (j4 : Int), j4 = w → ∀ (t5 : Int), t5 = errF (j1 + j2) → ∀ (t6 : Int), t6 = errF (j3 + j4) → ∀ (t7 : Int), t7 = numF (j1 + j2) → ∀ (t8 : Int), t8 = numF (j3 + j4) → may2 [fx x, fx z] [] ∧ may2 [fx y, fx w] [] ∧ br (t5 != (0 : Int)) (K (IV.agg [IV.int IntKind.i64 (0 : Int), IV.int IntKind.u64 (0 : Int), IV.int IntKind.i64 (0 : Int), IV.int IntKind.u64 (0 : Int), IV.int IntKind.i64 t5]) []) (br (t6 != (0 : Int)) (K (IV.agg [IV.int IntKind.i64 (0 : Int), IV.int IntKind.u64 (0 : Int), IV.int IntKind.i64 (0 : Int), IV.int IntKind.u64 (0 : Int), IV.int IntKind.i64 t6]) []) (K (IV.agg [IV.int IntKind.i64 (t7 / (18446744073709551616 : Int)), IV.int IntKind.u64 (t7 % (18446744073709551616 : Int)), IV.int IntKind.i64 (t8 / (18446744073709551616 : Int)), IV.int IntKind.u64 (t8 % (18446744073709551616 : Int)), IV.int IntKind.i64 (0 : Int)]) []))) := by refine nj ?_; refine nj ?_; refine nj ?_; refine nj ?_; refine nm ?_; refine nm ?_; refine nm ?_; refine nm ?_; kernel_rfl
theorem v_r_SubVec (x y z w : Int) (K : IV → List Blk → Prop) : (comes Try.prog Ns 3 f_perigeeref1_SubVec [vx x y, vx z w] [] K) = (∀ (j1 : Int), j1 = x → ∀ (j2 : Int), j2 = z → ∀ (j3 : Int), j3 = y → ∀ (j4 : Int), j4 = w → ∀ (t5 : Int), t5 = errF (j1 - j2) → ∀ (t6 : Int), t6 = errF (j3 - j4) → ∀ (t7 : Int), t7 = numF (j1 - j2) → ∀ (t8 : Int), t8 = numF (j3 - j4) → may2 [fx x, fx z] [] ∧ may2 [fx y, fx w] [] ∧ br (t5 != (0 : Int)) (K (IV.agg [IV.int IntKind.i64 (0 : Int), IV.int IntKind.u64 (0 : Int), IV.int IntKind.i64 (0 : Int), IV.int IntKind.u64 (0 : Int), IV.int IntKind.i64 t5]) []) (br (t6 != (0 : Int)) (K (IV.agg [IV.int IntKind.i64 (0 : Int), IV.int IntKind.u64 (0 : Int), IV.int IntKind.i64 (0 : Int), IV.int IntKind.u64 (0 : Int), IV.int IntKind.i64 t6]) []) (K (IV.agg [IV.int IntKind.i64 (t7 / (18446744073709551616 : Int)), IV.int IntKind.u64 (t7 % (18446744073709551616 : Int)), IV.int IntKind.i64 (t8 / (18446744073709551616 : Int)), IV.int IntKind.u64 (t8 % (18446744073709551616 : Int)), IV.int IntKind.i64 (0 : Int)]) []))) := by refine nj ?_; refine nj ?_; refine nj ?_; refine nj ?_; refine nm ?_; refine nm ?_; refine nm ?_; refine nm ?_; kernel_rfl
theorem v_r_Scale (x y k : Int) (K : IV → List Blk → Prop) : (comes Try.prog Ns 3 f_perigeeref1_Scale [vx x y, fx k] [] K) = (∀ (j1 : Int), j1 = x → ∀ (j2 : Int), j2 = k → ∀ (j3 : Int), j3 = y → ∀ (t4 : Int), t4 = mulI j1 j2 → ∀ (t5 : Int), t5 = mulI j3 j2 → ∀ (t6 : Int), t6 = errF t4 → ∀ (t7 : Int), t7 = errF t5 → ∀ (t8 : Int), t8 = numF t4 → ∀ (t9 : Int), t9 = numF t5 → may2 [fx x, fx k] [] ∧ may2 [fx y, fx k] [] ∧ br (t6 != (0 : Int)) (K (IV.agg [IV.int IntKind.i64 (0 : Int), IV.int IntKind.u64 (0 : Int), IV.int IntKind.i64 (0 : Int), IV.int IntKind.u64 (0 : Int), IV.int IntKind.i64 t6]) []) (br (t7 != (0 : Int)) (K (IV.agg [IV.int IntKind.i64 (0 : Int), IV.int IntKind.u64 (0 : Int), IV.int IntKind.i64 (0 : Int), IV.int IntKind.u64 (0 : Int), IV.int IntKind.i64 t7]) []) (K (IV.agg [IV.int IntKind.i64 (t8 / (18446744073709551616 : Int)), IV.int IntKind.u64 (t8 % (18446744073709551616 : Int)), IV.int IntKind.i64 (t9 / (18446744073709551616 : Int)), IV.int IntKind.u64 (t9 % (18446744073709551616 : Int)), IV.int IntKind.i64 (0 : Int)]) []))) := by refine nj ?_; refine nj ?_; refine nj ?_; refine nm ?_; refine nm ?_; refine nm ?_; refine nm ?_; refine nm ?_; refine nm ?_; kernel_rfl
end Go.Vs.RF

set_option linter.unusedVariables false
set_option linter.unusedSimpArgs false
set_option maxRecDepth 100000
/- vec: ways -/
namespace Go.Vs.RF
open Go Go.Proofs Go.Vs Go.IntWalk

noncomputable def vy (l : List IV) (i : Nat) : Int := argI l i 2 * 18446744073709551616 + argI l i 3
theorem v_vx (l : List IV) (x y : Int) (i : Nat) (h : nthR l i = some (vx x y)) : v2 l i = x ∧ vy l i = y := by
  have : ∀ j, argI l i j = argI [vx x y] 0 j := by
    intro j; unfold argI; rw [h]; rfl
  unfold v2 vy
  rw [this 0, this 1, this 2, this 3]
  exact ⟨jn x, jn y⟩
def n2 (s t v : Int) : Int := if mayF s ∧ mayF t then v else 0
def e2 (s t : Int) : Int := if mayF s ∧ mayF t then 0 else 3
def vecV (s t : Int) : IV := .tup [vx (n2 s t s) (n2 s t t), .int .i64 (e2 s t)]
def wayG (x y e : Int) : IV := .agg [.int .i64 (x / 18446744073709551616), .int .u64 (x % 18446744073709551616), .int .i64 (y / 18446744073709551616), .int .u64 (y % 18446744073709551616), .int .i64 e]
def wayV (s t : Int) : IV := wayG (n2 s t s) (n2 s t t) (e2 s t)
def vin1 (l : List IV) (bs : List Blk) : Prop := ∃ x y, l = [vx x y] ∧ bs = [] ∧ inF x ∧ inF y
def vmay1 (l : List IV) (bs : List Blk) : Prop := ∃ x y, l = [vx x y] ∧ bs = [] ∧ mayF x ∧ mayF y
def vmay2 (l : List IV) (bs : List Blk) : Prop := ∃ x y z w, l = [vx x y, vx z w] ∧ bs = [] ∧ (mayF x ∧ mayF y) ∧ mayF z ∧ mayF w
def vmayk (l : List IV) (bs : List Blk) : Prop := ∃ x y k, l = [vx x y, fx k] ∧ bs = [] ∧ (mayF x ∧ mayF y) ∧ mayF k
def pBoth (l : List IV) (bs : List Blk) : Prop := ∃ x e y f, l = [gotV x e, gotV y f] ∧ bs = []
theorem vmay1_of {x y : Int} (h : mayF x) (h' : mayF y) : vmay1 [vx x y] [] := ⟨x, y, rfl, rfl, h, h'⟩
theorem vin1_of {x y : Int} (h : inF x) (h' : inF y) : vin1 [vx x y] [] := ⟨x, y, rfl, rfl, h, h'⟩
theorem vmay2_of {x y z w : Int} (hx : mayF x) (hy : mayF y) (hz : mayF z) (hw : mayF w) : vmay2 [vx x y, vx z w] [] := ⟨x, y, z, w, rfl, rfl, ⟨hx, hy⟩, hz, hw⟩
theorem vmayk_of {x y k : Int} (hx : mayF x) (hy : mayF y) (hk : mayF k) : vmayk [vx x y, fx k] [] := ⟨x, y, k, rfl, rfl, ⟨hx, hy⟩, hk⟩
noncomputable def spVMay : Vs.Spec := ⟨vin1, fun l _ => (.bool (decide (-170141183460469231731687303715884105728 < v2 l 0) && decide (-170141183460469231731687303715884105728 < vy l 0)), [])⟩
noncomputable def spVNeg : Vs.Spec := ⟨vmay1, fun l _ => (vx (-(v2 l 0)) (-(vy l 0)), [])⟩
noncomputable def spVAdd : Vs.Spec := ⟨vmay2, fun l _ => (vecV (v2 l 0 + v2 l 1) (vy l 0 + vy l 1), [])⟩
noncomputable def spVSub : Vs.Spec := ⟨vmay2, fun l _ => (vecV (v2 l 0 - v2 l 1) (vy l 0 - vy l 1), [])⟩
noncomputable def spVScale : Vs.Spec := ⟨vmayk, fun l _ => (vecV (mulI (v2 l 0) (v2 l 1)) (mulI (vy l 0) (v2 l 1)), [])⟩
noncomputable def spRVAdd : Vs.Spec := ⟨vmay2, fun l _ => (wayV (v2 l 0 + v2 l 1) (vy l 0 + vy l 1), [])⟩
noncomputable def spRVSub : Vs.Spec := ⟨vmay2, fun l _ => (wayV (v2 l 0 - v2 l 1) (vy l 0 - vy l 1), [])⟩
noncomputable def spRVScale : Vs.Spec := ⟨vmayk, fun l _ => (wayV (mulI (v2 l 0) (v2 l 1)) (mulI (vy l 0) (v2 l 1)), [])⟩
theorem ctrss : ∀ {g : FuncId} {sp : Vs.Spec}, Γs g = some sp → Contract Try.prog g sp := ctrsr
theorem may_lemma {f : FuncId} (hv : ∀ (x y : Int) (K : IV → List Blk → Prop), comes Try.prog Ns 3 f [vx x y] [] K = (∀ t, t = x → ∀ u, u = y → preF [fx x] [] ∧ br (decide (-170141183460469231731687303715884105728 < t)) (preF [fx y] [] ∧ K (.bool (decide (-170141183460469231731687303715884105728 < u))) []) (K (.bool false) []))) : Contract Try.prog f spVMay := by
  refine contract_of (N := Ns) 3 (knowOf (fun g sp h => ctrss h) (fun _ _ => rfl) (fun _ => rfl) 3) ?_
  intro l bs _ _ hp
  obtain ⟨x, y, rfl, rfl, hx, hy⟩ := hp
  have hF : spVMay.F [vx x y] [] = (.bool (decide (-170141183460469231731687303715884105728 < x) && decide (-170141183460469231731687303715884105728 < y)), []) := by
    show (IV.bool (decide (-170141183460469231731687303715884105728 < v2 [vx x y] 0) && decide (-170141183460469231731687303715884105728 < vy [vx x y] 0)), ([] : List Blk)) = _
    rw [(v_vx _ x y 0 rfl).1, (v_vx _ x y 0 rfl).2]
  rw [hF, hv]
  rintro x rfl y rfl
  refine ⟨preF_in hx, ?_⟩
  rw [br_dec]
  exact ⟨fun h => ⟨preF_in hy, by rw [decide_eq_true h, Bool.true_and]⟩, fun h => by rw [decide_eq_false h, Bool.false_and]⟩
theorem c_vec_May : Contract Try.prog f_vec_May spVMay := may_lemma v_vec_May
theorem c_r_MayVec : Contract Try.prog f_perigeeref1_MayVec spVMay := may_lemma v_r_MayVec
theorem spVNeg_F (x y : Int) : spVNeg.F [vx x y] [] = (vx (-x) (-y), []) := by
  show (vx (-(v2 [vx x y] 0)) (-(vy [vx x y] 0)), ([] : List Blk)) = _
  rw [(v_vx _ x y 0 rfl).1, (v_vx _ x y 0 rfl).2]
theorem c_r_NegVec : Contract Try.prog f_perigeeref1_NegVec spVNeg := by
  refine contract_of (N := Ns) 3 (knowOf (fun g sp h => ctrss h) (fun _ _ => rfl) (fun _ => rfl) 3) ?_
  intro l bs _ _ hp
  obtain ⟨x, y, rfl, rfl, hx, hy⟩ := hp
  rw [spVNeg_F, v_r_NegVec]
  rintro x rfl y rfl
  exact ⟨may1_of hx, may1_of hy, rfl⟩
theorem vx_zero : IV.agg [.int .i64 0, .int .u64 0, .int .i64 0, .int .u64 0] = vx 0 0 := rfl
theorem n2_ok {s t : Int} (v : Int) (hs : mayF s) (ht : mayF t) : n2 s t v = v := if_pos ⟨hs, ht⟩
theorem e2_ok {s t : Int} (hs : mayF s) (ht : mayF t) : e2 s t = 0 := if_pos ⟨hs, ht⟩
theorem n2_no {s t : Int} (v : Int) (h : ¬ (mayF s ∧ mayF t)) : n2 s t v = 0 := if_neg h
theorem e2_no {s t : Int} (h : ¬ (mayF s ∧ mayF t)) : e2 s t = 3 := if_neg h
theorem e2_is (s t : Int) : i64ok (e2 s t) := by unfold e2; split <;> exact ⟨by decide, by decide⟩
theorem n2_is1 (s t : Int) : mayF (n2 s t s) := by
  unfold n2; split
  · rename_i h; exact h.1
  · exact may_zero
theorem n2_is2 (s t : Int) : mayF (n2 s t t) := by
  unfold n2; split
  · rename_i h; exact h.2
  · exact may_zero
theorem each_lem {s t : Int} {K : IV → Prop} {P Q : Prop} (hP : P) (hQ : Q) (hK : K (vecV s t)) :
    P ∧ br (errF s != 0) (K (.tup [.agg [.int .i64 0, .int .u64 0, .int .i64 0, .int .u64 0], .int .i64 (errF s)])) (Q ∧ br (errF t != 0) (K (.tup [.agg [.int .i64 0, .int .u64 0, .int .i64 0, .int .u64 0], .int .i64 (errF t)])) (K (.tup [vx (numF s) (numF t), .int .i64 0]))) := by
  refine ⟨hP, ?_⟩
  unfold vecV at hK
  by_cases hs : mayF s
  · rw [err_may hs]
    refine ⟨hQ, ?_⟩
    by_cases ht : mayF t
    · rw [err_may ht, num_may hs, num_may ht]
      rw [n2_ok _ hs ht, n2_ok _ hs ht, e2_ok hs ht] at hK
      exact hK
    · rw [err_not ht]
      rw [n2_no _ (fun h => ht h.2), n2_no _ (fun h => ht h.2), e2_no (fun h => ht h.2)] at hK
      exact hK
  · rw [err_not hs]
    rw [n2_no _ (fun h => hs h.1), n2_no _ (fun h => hs h.1), e2_no (fun h => hs h.1)] at hK
    exact hK
theorem way_lem {s t : Int} {K : IV → Prop} (hK : K (wayV s t)) :
    br (errF s != 0) (K (.agg [.int .i64 0, .int .u64 0, .int .i64 0, .int .u64 0, .int .i64 (errF s)])) (br (errF t != 0) (K (.agg [.int .i64 0, .int .u64 0, .int .i64 0, .int .u64 0, .int .i64 (errF t)])) (K (wayG (numF s) (numF t) 0))) := by
  unfold wayV at hK
  by_cases hs : mayF s
  · rw [err_may hs]
    by_cases ht : mayF t
    · rw [err_may ht, num_may hs, num_may ht]
      rw [n2_ok _ hs ht, n2_ok _ hs ht, e2_ok hs ht] at hK
      exact hK
    · rw [err_not ht]
      rw [n2_no _ (fun h => ht h.2), n2_no _ (fun h => ht h.2), e2_no (fun h => ht h.2)] at hK
      exact hK
  · rw [err_not hs]
    rw [n2_no _ (fun h => hs h.1), n2_no _ (fun h => hs h.1), e2_no (fun h => hs h.1)] at hK
    exact hK
theorem c_vec_Add : Contract Try.prog f_vec_Add spVAdd := by
  refine contract_of (N := Ns) 3 (knowOf (fun g sp h => ctrss h) (fun _ _ => rfl) (fun _ => rfl) 3) ?_
  intro l bs _ _ hp
  obtain ⟨x, y, z, w, rfl, rfl, ⟨hx, hy⟩, hz, hw⟩ := hp
  have hF : spVAdd.F [vx x y, vx z w] [] = (vecV (x + z) (y + w), []) := by
    show (vecV (v2 [vx x y, vx z w] 0 + v2 [vx x y, vx z w] 1) (vy [vx x y, vx z w] 0 + vy [vx x y, vx z w] 1), ([] : List Blk)) = _
    rw [(v_vx _ x y 0 rfl).1, (v_vx _ x y 0 rfl).2, (v_vx _ z w 1 rfl).1, (v_vx _ z w 1 rfl).2]
  rw [hF, v_vec_Add]
  rintro x rfl z rfl y rfl w rfl t5 rfl t6 rfl t7 rfl t8 rfl
  exact each_lem (K := fun v => (vecV (x + z) (y + w), ([] : List Blk)) = (v, [])) (may2_of hx hz) (may2_of hy hw) rfl
theorem c_vec_Sub : Contract Try.prog f_vec_Sub spVSub := by
  refine contract_of (N := Ns) 3 (knowOf (fun g sp h => ctrss h) (fun _ _ => rfl) (fun _ => rfl) 3) ?_
  intro l bs _ _ hp
  obtain ⟨x, y, z, w, rfl, rfl, ⟨hx, hy⟩, hz, hw⟩ := hp
  have hF : spVSub.F [vx x y, vx z w] [] = (vecV (x - z) (y - w), []) := by
    show (vecV (v2 [vx x y, vx z w] 0 - v2 [vx x y, vx z w] 1) (vy [vx x y, vx z w] 0 - vy [vx x y, vx z w] 1), ([] : List Blk)) = _
    rw [(v_vx _ x y 0 rfl).1, (v_vx _ x y 0 rfl).2, (v_vx _ z w 1 rfl).1, (v_vx _ z w 1 rfl).2]
  rw [hF, v_vec_Sub]
  rintro x rfl z rfl y rfl w rfl t5 rfl t6 rfl t7 rfl t8 rfl
  exact each_lem (K := fun v => (vecV (x - z) (y - w), ([] : List Blk)) = (v, [])) (may2_of hx hz) (may2_of hy hw) rfl
theorem c_vec_Scale : Contract Try.prog f_vec_Scale spVScale := by
  refine contract_of (N := Ns) 3 (knowOf (fun g sp h => ctrss h) (fun _ _ => rfl) (fun _ => rfl) 3) ?_
  intro l bs _ _ hp
  obtain ⟨x, y, k, rfl, rfl, ⟨hx, hy⟩, hk⟩ := hp
  have hF : spVScale.F [vx x y, fx k] [] = (vecV (mulI x k) (mulI y k), []) := by
    show (vecV (mulI (v2 [vx x y, fx k] 0) (v2 [vx x y, fx k] 1)) (mulI (vy [vx x y, fx k] 0) (v2 [vx x y, fx k] 1)), ([] : List Blk)) = _
    rw [(v_vx _ x y 0 rfl).1, (v_vx _ x y 0 rfl).2, v2_fx _ k 1 rfl]
  rw [hF, v_vec_Scale]
  rintro x rfl k rfl y rfl t4 rfl t5 rfl t6 rfl t7 rfl t8 rfl t9 rfl
  exact each_lem (K := fun v => (vecV (mulI x k) (mulI y k), ([] : List Blk)) = (v, [])) (may2_of hx hk) (may2_of hy hk) rfl
theorem c_r_AddVec : Contract Try.prog f_perigeeref1_AddVec spRVAdd := by
  refine contract_of (N := Ns) 3 (knowOf (fun g sp h => ctrss h) (fun _ _ => rfl) (fun _ => rfl) 3) ?_
  intro l bs _ _ hp
  obtain ⟨x, y, z, w, rfl, rfl, ⟨hx, hy⟩, hz, hw⟩ := hp
  have hF : spRVAdd.F [vx x y, vx z w] [] = (wayV (x + z) (y + w), []) := by
    show (wayV (v2 [vx x y, vx z w] 0 + v2 [vx x y, vx z w] 1) (vy [vx x y, vx z w] 0 + vy [vx x y, vx z w] 1), ([] : List Blk)) = _
    rw [(v_vx _ x y 0 rfl).1, (v_vx _ x y 0 rfl).2, (v_vx _ z w 1 rfl).1, (v_vx _ z w 1 rfl).2]
  rw [hF, v_r_AddVec]
  rintro x rfl z rfl y rfl w rfl t5 rfl t6 rfl t7 rfl t8 rfl
  exact ⟨may2_of hx hz, may2_of hy hw, way_lem (K := fun v => (wayV (x + z) (y + w), ([] : List Blk)) = (v, [])) rfl⟩
theorem c_r_SubVec : Contract Try.prog f_perigeeref1_SubVec spRVSub := by
  refine contract_of (N := Ns) 3 (knowOf (fun g sp h => ctrss h) (fun _ _ => rfl) (fun _ => rfl) 3) ?_
  intro l bs _ _ hp
  obtain ⟨x, y, z, w, rfl, rfl, ⟨hx, hy⟩, hz, hw⟩ := hp
  have hF : spRVSub.F [vx x y, vx z w] [] = (wayV (x - z) (y - w), []) := by
    show (wayV (v2 [vx x y, vx z w] 0 - v2 [vx x y, vx z w] 1) (vy [vx x y, vx z w] 0 - vy [vx x y, vx z w] 1), ([] : List Blk)) = _
    rw [(v_vx _ x y 0 rfl).1, (v_vx _ x y 0 rfl).2, (v_vx _ z w 1 rfl).1, (v_vx _ z w 1 rfl).2]
  rw [hF, v_r_SubVec]
  rintro x rfl z rfl y rfl w rfl t5 rfl t6 rfl t7 rfl t8 rfl
  exact ⟨may2_of hx hz, may2_of hy hw, way_lem (K := fun v => (wayV (x - z) (y - w), ([] : List Blk)) = (v, [])) rfl⟩
theorem c_r_Scale : Contract Try.prog f_perigeeref1_Scale spRVScale := by
  refine contract_of (N := Ns) 3 (knowOf (fun g sp h => ctrss h) (fun _ _ => rfl) (fun _ => rfl) 3) ?_
  intro l bs _ _ hp
  obtain ⟨x, y, k, rfl, rfl, ⟨hx, hy⟩, hk⟩ := hp
  have hF : spRVScale.F [vx x y, fx k] [] = (wayV (mulI x k) (mulI y k), []) := by
    show (wayV (mulI (v2 [vx x y, fx k] 0) (v2 [vx x y, fx k] 1)) (mulI (vy [vx x y, fx k] 0) (v2 [vx x y, fx k] 1)), ([] : List Blk)) = _
    rw [(v_vx _ x y 0 rfl).1, (v_vx _ x y 0 rfl).2, v2_fx _ k 1 rfl]
  rw [hF, v_r_Scale]
  rintro x rfl k rfl y rfl t4 rfl t5 rfl t6 rfl t7 rfl t8 rfl t9 rfl
  exact ⟨may2_of hx hk, may2_of hy hk, way_lem (K := fun v => (wayV (mulI x k) (mulI y k), ([] : List Blk)) = (v, [])) rfl⟩
end Go.Vs.RF

set_option linter.unusedVariables false
/- vec: products, lengths; the laws of stage 4 -/
namespace Go.Vs.RF
open Go Go.Proofs Go.Vs
def dotN (p q : Int) : Int := if mayF p ∧ mayF q then numF (p + q) else 0
def dotE (p q : Int) : Int := if mayF p ∧ mayF q then errF (p + q) else 3
noncomputable def lenN (p q : Int) : Int := if dotE p q = 0 then sqN (dotN p q) else 0
def lenE (p q : Int) : Int := if dotE p q = 0 then sqE (dotN p q) else dotE p q
noncomputable def spDot : Vs.Spec := ⟨vmay2, fun l _ => (.tup [fx (dotN (mulI (v2 l 0) (v2 l 1)) (mulI (vy l 0) (vy l 1))), .int .i64 (dotE (mulI (v2 l 0) (v2 l 1)) (mulI (vy l 0) (vy l 1)))], [])⟩
noncomputable def spLen2 : Vs.Spec := ⟨vmay1, fun l _ => (.tup [fx (dotN (mulI (v2 l 0) (v2 l 0)) (mulI (vy l 0) (vy l 0))), .int .i64 (dotE (mulI (v2 l 0) (v2 l 0)) (mulI (vy l 0) (vy l 0)))], [])⟩
noncomputable def spVLen : Vs.Spec := ⟨vmay1, fun l _ => (.tup [fx (lenN (mulI (v2 l 0) (v2 l 0)) (mulI (vy l 0) (vy l 0))), .int .i64 (lenE (mulI (v2 l 0) (v2 l 0)) (mulI (vy l 0) (vy l 0)))], [])⟩
noncomputable def spRDot : Vs.Spec := ⟨vmay2, fun l _ => (gotV (dotN (mulI (v2 l 0) (v2 l 1)) (mulI (vy l 0) (vy l 1))) (dotE (mulI (v2 l 0) (v2 l 1)) (mulI (vy l 0) (vy l 1))), [])⟩
noncomputable def spRLen2 : Vs.Spec := ⟨vmay1, fun l _ => (gotV (dotN (mulI (v2 l 0) (v2 l 0)) (mulI (vy l 0) (vy l 0))) (dotE (mulI (v2 l 0) (v2 l 0)) (mulI (vy l 0) (vy l 0))), [])⟩
noncomputable def spRLength : Vs.Spec := ⟨vmay1, fun l _ => (gotV (lenN (mulI (v2 l 0) (v2 l 0)) (mulI (vy l 0) (vy l 0))) (lenE (mulI (v2 l 0) (v2 l 0)) (mulI (vy l 0) (vy l 0))), [])⟩
noncomputable def spBoth : Vs.Spec := ⟨pBoth, fun l _ => (wayG (if argI l 0 2 = 0 ∧ argI l 1 2 = 0 then v2 l 0 else 0) (if argI l 0 2 = 0 ∧ argI l 1 2 = 0 then v2 l 1 else 0) (if argI l 0 2 = 0 then argI l 1 2 else argI l 0 2), [])⟩
noncomputable def Γt : FuncId → Option Vs.Spec := fun g => if g = f_perigeeref1_both then some spBoth else if g = f_vec_May then some spVMay else if g = f_perigeeref1_MayVec then some spVMay else if g = f_perigeeref1_NegVec then some spVNeg
  else if g = f_vec_Add then some spVAdd else if g = f_vec_Sub then some spVSub else if g = f_vec_Scale then some spVScale else if g = f_perigeeref1_AddVec then some spRVAdd else if g = f_perigeeref1_SubVec then some spRVSub else if g = f_perigeeref1_Scale then some spRVScale else Γs g
noncomputable def Nt : Know := ⟨Γt, fun _ _ => none, fun _ => none⟩
noncomputable def Γt1 : FuncId → Option Vs.Spec := fun g => if g = f_vec_Dot then some spDot else if g = f_perigeeref1_Dot then some spRDot else Γt g
noncomputable def Nt1 : Know := ⟨Γt1, fun _ _ => none, fun _ => none⟩
noncomputable def Γt2 : FuncId → Option Vs.Spec := fun g => if g = f_vec_Len2 then some spLen2 else if g = f_perigeeref1_Len2 then some spRLen2 else Γt1 g
noncomputable def Nt2 : Know := ⟨Γt2, fun _ _ => none, fun _ => none⟩
noncomputable def Γt3 : FuncId → Option Vs.Spec := fun g => if g = f_vec_Len then some spVLen else if g = f_perigeeref1_Length then some spRLength else Γt2 g
noncomputable def Nt3 : Know := ⟨Γt3, fun _ _ => none, fun _ => none⟩
theorem v_vec_Dot (x y z w : Int) (K : IV → List Blk → Prop) : (comes Try.prog Nt 3 f_vec_Dot [vx x y, vx z w] [] K) = (∀ (j1 : Int), j1 = x → ∀ (j2 : Int), j2 = z → ∀ (j3 : Int), j3 = y → ∀ (j4 : Int), j4 = w → ∀ (t5 : Int), t5 = numF (mulI j1 j2) → ∀ (j6 : Int), j6 = t5 → ∀ (t7 : Int), t7 = numF (mulI j3 j4) → ∀ (j8 : Int), j8 = t7 → ∀ (t9 : Int), t9 = errF (mulI j1 j2) → ∀ (t10 : Int), t10 = errF (mulI j3 j4) → ∀ (t11 : Int), t11 = numF (j6 + j8) → may2 [fx x, fx z] [] ∧ br (t9 != (0 : Int)) (br (t9 != (0 : Int)) (K (IV.tup [IV.agg [IV.int IntKind.i64 (0 : Int), IV.int IntKind.u64 (0 : Int)], IV.int IntKind.i64 t9]) []) (may2 [IV.agg [IV.int IntKind.i64 (0 : Int), IV.int IntKind.u64 (0 : Int)], IV.agg [IV.int IntKind.i64 (0 : Int), IV.int IntKind.u64 (0 : Int)]] [] ∧ K (IV.tup [IV.agg [IV.int IntKind.i64 (0 : Int), IV.int IntKind.u64 (0 : Int)], IV.int IntKind.i64 (0 : Int)]) [])) (may2 [fx y, fx w] [] ∧ br (t10 != (0 : Int)) (br (t10 != (0 : Int)) (K (IV.tup [IV.agg [IV.int IntKind.i64 (0 : Int), IV.int IntKind.u64 (0 : Int)], IV.int IntKind.i64 t10]) []) (may2 [IV.agg [IV.int IntKind.i64 (0 : Int), IV.int IntKind.u64 (0 : Int)], IV.agg [IV.int IntKind.i64 (0 : Int), IV.int IntKind.u64 (0 : Int)]] [] ∧ K (IV.tup [IV.agg [IV.int IntKind.i64 (0 : Int), IV.int IntKind.u64 (0 : Int)], IV.int IntKind.i64 (0 : Int)]) [])) (may2 [fx t5, fx t7] [] ∧ K (IV.tup [fx t11, IV.int IntKind.i64 (errF (j6 + j8))]) []))) := by refine nj ?_; refine nj ?_; refine nj ?_; refine nj ?_; refine nm ?_; refine nj ?_; refine nm ?_; refine nj ?_; refine nm ?_; refine nm ?_; refine nm ?_; kernel_rfl
theorem v_r_Dot (x y z w : Int) (K : IV → List Blk → Prop) : (comes Try.prog Nt 3 f_perigeeref1_Dot [vx x y, vx z w] [] K) = (∀ (j1 : Int), j1 = x → ∀ (j2 : Int), j2 = z → ∀ (j3 : Int), j3 = y → ∀ (j4 : Int), j4 = w → ∀ (t5 : Int), t5 = numF (mulI j1 j2) → ∀ (j6 : Int), j6 = t5 → ∀ (t7 : Int), t7 = numF (mulI j3 j4) → ∀ (j8 : Int), j8 = t7 → ∀ (t9 : Int), (t9 = if errF (mulI j1 j2) = (0 : Int) ∧ errF (mulI j3 j4) = (0 : Int) then j6 else (0 : Int)) → ∀ (j10 : Int), j10 = t9 → ∀ (t11 : Int), (t11 = if errF (mulI j1 j2) = (0 : Int) ∧ errF (mulI j3 j4) = (0 : Int) then j8 else (0 : Int)) → ∀ (j12 : Int), j12 = t11 → ∀ (t13 : Int), t13 = errF (mulI j1 j2) → ∀ (t14 : Int), t14 = errF (mulI j3 j4) → ∀ (t15 : Int), t15 = numF (j10 + j12) → ∀ (t16 : Int), (t16 = if t13 = (0 : Int) then t14 else t13) → may2 [fx x, fx z] [] ∧ may2 [fx y, fx w] [] ∧ pBoth [IV.agg [IV.int IntKind.i64 (t5 / (18446744073709551616 : Int)), IV.int IntKind.u64 (t5 % (18446744073709551616 : Int)), IV.int IntKind.i64 t13], IV.agg [IV.int IntKind.i64 (t7 / (18446744073709551616 : Int)), IV.int IntKind.u64 (t7 % (18446744073709551616 : Int)), IV.int IntKind.i64 t14]] [] ∧ br (t16 != (0 : Int)) (K (IV.agg [IV.int IntKind.i64 (0 : Int), IV.int IntKind.u64 (0 : Int), IV.int IntKind.i64 t16]) []) (may2 [fx t9, fx t11] [] ∧ K (IV.agg [IV.int IntKind.i64 (t15 / (18446744073709551616 : Int)), IV.int IntKind.u64 (t15 % (18446744073709551616 : Int)), IV.int IntKind.i64 (errF (j10 + j12))]) [])) := by refine nj ?_; refine nj ?_; refine nj ?_; refine nj ?_; refine nm ?_; refine nj ?_; refine nm ?_; refine nj ?_; refine nm ?_; refine nj ?_; refine nm ?_; refine nj ?_; refine nm ?_; refine nm ?_; refine nm ?_; refine nm ?_; kernel_rfl
theorem v_vec_Len2 (x y : Int) (K : IV → List Blk → Prop) : (comes Try.prog Nt1 3 f_vec_Len2 [vx x y] [] K) = (∀ (j1 : Int), j1 = x → ∀ (j2 : Int), j2 = y → ∀ (t3 : Int), t3 = mulI j1 j1 → ∀ (t4 : Int), t4 = mulI j2 j2 → ∀ (t5 : Int), t5 = dotN t3 t4 → vmay2 [vx x y, vx x y] [] ∧ K (IV.tup [fx t5, IV.int IntKind.i64 (dotE t3 t4)]) []) := by refine nj ?_; refine nj ?_; refine nm ?_; refine nm ?_; refine nm ?_; kernel_rfl
theorem v_r_Len2 (x y : Int) (K : IV → List Blk → Prop) : (comes Try.prog Nt1 3 f_perigeeref1_Len2 [vx x y] [] K) = (∀ (j1 : Int), j1 = x → ∀ (j2 : Int), j2 = y → ∀ (t3 : Int), t3 = mulI j1 j1 → ∀ (t4 : Int), t4 = mulI j2 j2 → ∀ (t5 : Int), t5 = dotN t3 t4 → vmay2 [vx x y, vx x y] [] ∧ K (IV.agg [IV.int IntKind.i64 (t5 / (18446744073709551616 : Int)), IV.int IntKind.u64 (t5 % (18446744073709551616 : Int)), IV.int IntKind.i64 (dotE t3 t4)]) []) := by refine nj ?_; refine nj ?_; refine nm ?_; refine nm ?_; refine nm ?_; kernel_rfl
theorem v_vec_Len (x y : Int) (K : IV → List Blk → Prop) : (comes Try.prog Nt2 3 f_vec_Len [vx x y] [] K) = (∀ (j1 : Int), j1 = x → ∀ (j2 : Int), j2 = y → ∀ (t3 : Int), t3 = dotN (mulI j1 j1) (mulI j2 j2) → ∀ (j4 : Int), j4 = t3 → ∀ (t5 : Int), t5 = sqN j4 → ∀ (t6 : Int), t6 = dotE (mulI j1 j1) (mulI j2 j2) → vmay1 [vx x y] [] ∧ br (t6 != (0 : Int)) (K (IV.tup [IV.agg [IV.int IntKind.i64 (0 : Int), IV.int IntKind.u64 (0 : Int)], IV.int IntKind.i64 t6]) []) (may1 [fx t3] [] ∧ K (IV.tup [fx t5, IV.int IntKind.i64 (sqE j4)]) [])) := by refine nj ?_; refine nj ?_; refine nm ?_; refine nj ?_; refine nm ?_; refine nm ?_; kernel_rfl
theorem v_r_Length (x y : Int) (K : IV → List Blk → Prop) : (comes Try.prog Nt2 3 f_perigeeref1_Length [vx x y] [] K) = (∀ (j1 : Int), j1 = x → ∀ (j2 : Int), j2 = y → ∀ (t3 : Int), t3 = dotN (mulI j1 j1) (mulI j2 j2) → ∀ (j4 : Int), j4 = t3 → ∀ (t5 : Int), t5 = sqN j4 → ∀ (t6 : Int), t6 = dotE (mulI j1 j1) (mulI j2 j2) → vmay1 [vx x y] [] ∧ br (t6 != (0 : Int)) (K (IV.agg [IV.int IntKind.i64 (t3 / (18446744073709551616 : Int)), IV.int IntKind.u64 (t3 % (18446744073709551616 : Int)), IV.int IntKind.i64 t6]) []) (may1 [fx t3] [] ∧ K (IV.agg [IV.int IntKind.i64 (t5 / (18446744073709551616 : Int)), IV.int IntKind.u64 (t5 % (18446744073709551616 : Int)), IV.int IntKind.i64 (sqE j4)]) [])) := by refine nj ?_; refine nj ?_; refine nm ?_; refine nj ?_; refine nm ?_; refine nm ?_; kernel_rfl
end Go.Vs.RF

set_option linter.unusedVariables false
set_option linter.unusedSimpArgs false
set_option maxRecDepth 100000
/- vec: products, lengths -/
namespace Go.Vs.RF
open Go Go.Proofs Go.Vs Go.IntWalk

theorem err_zero {s : Int} : errF s = 0 ↔ mayF s := by
  by_cases h : mayF s
  · rw [err_may h]; simp [h]
  · rw [err_not h]; simp [h]
theorem c_r_both : Contract Try.prog f_perigeeref1_both spBoth := by
  refine contract_of (N := Ns) 3 (knowOf (fun g sp h => ctrss h) (fun _ _ => rfl) (fun _ => rfl) 3) ?_
  intro l bs _ _ hp
  obtain ⟨x, e, y, f, rfl, rfl⟩ := hp
  have hF : spBoth.F [gotV x e, gotV y f] [] = (wayG (if e = 0 ∧ f = 0 then x else 0) (if e = 0 ∧ f = 0 then y else 0) (if e = 0 then f else e), []) := by
    show (wayG (if argI [gotV x e, gotV y f] 0 2 = 0 ∧ argI [gotV x e, gotV y f] 1 2 = 0 then v2 [gotV x e, gotV y f] 0 else 0) (if argI [gotV x e, gotV y f] 0 2 = 0 ∧ argI [gotV x e, gotV y f] 1 2 = 0 then v2 [gotV x e, gotV y f] 1 else 0) (if argI [gotV x e, gotV y f] 0 2 = 0 then argI [gotV x e, gotV y f] 1 2 else argI [gotV x e, gotV y f] 0 2), ([] : List Blk)) = _
    rw [(v2_got _ x e 0 rfl).1, (v2_got _ x e 0 rfl).2, (v2_got _ y f 1 rfl).1, (v2_got _ y f 1 rfl).2]
  rw [hF, v_r_both, br_bne]
  refine ⟨fun h => ?_, fun h => ?_⟩
  · rw [if_neg (fun h' => h h'.1), if_neg (fun h' => h h'.1), if_neg h]; rfl
  · subst h
    rw [br_bne]
    refine ⟨fun h => ?_, fun h => ?_⟩
    · rw [if_neg (fun h' => h h'.2), if_neg (fun h' => h h'.2), if_pos rfl]; rfl
    · subst h
      rw [if_pos ⟨rfl, rfl⟩, if_pos ⟨rfl, rfl⟩, if_pos rfl]; rfl
theorem ctrst : ∀ {g : FuncId} {sp : Vs.Spec}, Γt g = some sp → Contract Try.prog g sp :=
  ext_ok c_r_both (ext_ok c_vec_May (ext_ok c_r_MayVec ((ext_ok c_r_NegVec (ext_ok c_vec_Add (ext_ok c_vec_Sub (ext_ok c_vec_Scale (ext_ok c_r_AddVec (ext_ok c_r_SubVec (ext_ok c_r_Scale ctrss))))))))))
theorem dotN_ok {p q : Int} (hp : mayF p) (hq : mayF q) : dotN p q = numF (p + q) := if_pos ⟨hp, hq⟩
theorem dotE_ok {p q : Int} (hp : mayF p) (hq : mayF q) : dotE p q = errF (p + q) := if_pos ⟨hp, hq⟩
theorem dotN_no {p q : Int} (h : ¬ (mayF p ∧ mayF q)) : dotN p q = 0 := if_neg h
theorem dotE_no {p q : Int} (h : ¬ (mayF p ∧ mayF q)) : dotE p q = 3 := if_neg h
theorem dotN_is (p q : Int) : mayF (dotN p q) := by
  unfold dotN; split
  · exact num_is _
  · exact may_zero
theorem dotE_is (p q : Int) : i64ok (dotE p q) := by
  unfold dotE; split
  · exact err_is _
  · exact ⟨by decide, by decide⟩
theorem pay2 {A B : IV} (h : A = B) : (A, ([] : List Blk)) = (B, []) := by rw [h]
theorem c_vec_Dot : Contract Try.prog f_vec_Dot spDot := by
  refine contract_of (N := Nt) 3 (knowOf (fun g sp h => ctrst h) (fun _ _ => rfl) (fun _ => rfl) 3) ?_
  intro l bs _ _ hp
  obtain ⟨x, y, z, w, rfl, rfl, ⟨hx, hy⟩, hz, hw⟩ := hp
  have hF : spDot.F [vx x y, vx z w] [] = (.tup [fx (dotN (mulI x z) (mulI y w)), .int .i64 (dotE (mulI x z) (mulI y w))], []) := by
    show (IV.tup [fx (dotN (mulI (v2 [vx x y, vx z w] 0) (v2 [vx x y, vx z w] 1)) (mulI (vy [vx x y, vx z w] 0) (vy [vx x y, vx z w] 1))), .int .i64 (dotE (mulI (v2 [vx x y, vx z w] 0) (v2 [vx x y, vx z w] 1)) (mulI (vy [vx x y, vx z w] 0) (vy [vx x y, vx z w] 1)))], ([] : List Blk)) = _
    rw [(v_vx _ x y 0 rfl).1, (v_vx _ x y 0 rfl).2, (v_vx _ z w 1 rfl).1, (v_vx _ z w 1 rfl).2]
  rw [hF, v_vec_Dot]
  rintro x rfl z rfl y rfl w rfl t5 e5 j6 rfl t7 e7 j8 rfl t9 e9 t10 e10 t11 e11
  refine ⟨may2_of hx hz, ?_⟩
  by_cases hp : mayF (mulI x z)
  · rw [e9, err_may hp]
    refine ⟨may2_of hy hw, ?_⟩
    by_cases hq : mayF (mulI y w)
    · rw [e10, err_may hq]
      have h6 : j6 = mulI x z := by rw [e5, num_may hp]
      have h8 : j8 = mulI y w := by rw [e7, num_may hq]
      refine ⟨may2_of (by rw [h6]; exact hp) (by rw [h8]; exact hq), ?_⟩
      rw [dotN_ok hp hq, dotE_ok hp hq, e11, h6, h8]
    · rw [e10, err_not hq, dotN_no (fun h => hq h.2), dotE_no (fun h => hq h.2)]; rfl
  · rw [e9, err_not hp, dotN_no (fun h => hp h.1), dotE_no (fun h => hp h.1)]; rfl
theorem c_r_Dot : Contract Try.prog f_perigeeref1_Dot spRDot := by
  refine contract_of (N := Nt) 3 (knowOf (fun g sp h => ctrst h) (fun _ _ => rfl) (fun _ => rfl) 3) ?_
  intro l bs _ _ hp
  obtain ⟨x, y, z, w, rfl, rfl, ⟨hx, hy⟩, hz, hw⟩ := hp
  have hF : spRDot.F [vx x y, vx z w] [] = (gotV (dotN (mulI x z) (mulI y w)) (dotE (mulI x z) (mulI y w)), []) := by
    show (gotV (dotN (mulI (v2 [vx x y, vx z w] 0) (v2 [vx x y, vx z w] 1)) (mulI (vy [vx x y, vx z w] 0) (vy [vx x y, vx z w] 1))) (dotE (mulI (v2 [vx x y, vx z w] 0) (v2 [vx x y, vx z w] 1)) (mulI (vy [vx x y, vx z w] 0) (vy [vx x y, vx z w] 1))), ([] : List Blk)) = _
    rw [(v_vx _ x y 0 rfl).1, (v_vx _ x y 0 rfl).2, (v_vx _ z w 1 rfl).1, (v_vx _ z w 1 rfl).2]
  rw [hF, v_r_Dot]
  rintro x rfl z rfl y rfl w rfl t5 e5 j6 rfl t7 e7 j8 rfl t9 e9 j10 rfl t11 e11 j12 rfl t13 e13 t14 e14 t15 e15 t16 e16
  refine ⟨may2_of hx hz, may2_of hy hw, ⟨_, _, _, _, rfl, rfl⟩, ?_⟩
  simp only [err_zero] at e9 e11
  by_cases hb : mayF (mulI x z) ∧ mayF (mulI y w)
  · rw [if_pos hb] at e9 e11
    rw [e13, e14, err_may hb.1, err_may hb.2, if_pos rfl] at e16
    rw [e16]
    have h6 : j10 = mulI x z := by rw [e9, e5, num_may hb.1]
    have h8 : j12 = mulI y w := by rw [e11, e7, num_may hb.2]
    refine ⟨may2_of (by rw [h6]; exact hb.1) (by rw [h8]; exact hb.2), ?_⟩
    rw [dotN_ok hb.1 hb.2, dotE_ok hb.1 hb.2, e15, h6, h8]; rfl
  · rw [dotN_no hb, dotE_no hb]
    have h16 : t16 = 3 := by
      rw [e16, e13, e14]
      by_cases h1 : mayF (mulI x z)
      · rw [err_may h1, if_pos rfl, err_not (fun h => hb ⟨h1, h⟩)]
      · rw [err_not h1, if_neg (by decide)]
    rw [h16]; rfl
theorem ctrst1 : ∀ {g : FuncId} {sp : Vs.Spec}, Γt1 g = some sp → Contract Try.prog g sp := ext_ok c_vec_Dot (ext_ok c_r_Dot ctrst)
theorem c_vec_Len2 : Contract Try.prog f_vec_Len2 spLen2 := by
  refine contract_of (N := Nt1) 3 (knowOf (fun g sp h => ctrst1 h) (fun _ _ => rfl) (fun _ => rfl) 3) ?_
  intro l bs _ _ hp
  obtain ⟨x, y, rfl, rfl, hx, hy⟩ := hp
  have hF : spLen2.F [vx x y] [] = (.tup [fx (dotN (mulI x x) (mulI y y)), .int .i64 (dotE (mulI x x) (mulI y y))], []) := by
    show (IV.tup [fx (dotN (mulI (v2 [vx x y] 0) (v2 [vx x y] 0)) (mulI (vy [vx x y] 0) (vy [vx x y] 0))), .int .i64 (dotE (mulI (v2 [vx x y] 0) (v2 [vx x y] 0)) (mulI (vy [vx x y] 0) (vy [vx x y] 0)))], ([] : List Blk)) = _
    rw [(v_vx _ x y 0 rfl).1, (v_vx _ x y 0 rfl).2]
  rw [hF, v_vec_Len2]
  rintro x rfl y rfl t3 rfl t4 rfl t5 rfl
  exact ⟨vmay2_of hx hy hx hy, rfl⟩
theorem c_r_Len2 : Contract Try.prog f_perigeeref1_Len2 spRLen2 := by
  refine contract_of (N := Nt1) 3 (knowOf (fun g sp h => ctrst1 h) (fun _ _ => rfl) (fun _ => rfl) 3) ?_
  intro l bs _ _ hp
  obtain ⟨x, y, rfl, rfl, hx, hy⟩ := hp
  have hF : spRLen2.F [vx x y] [] = (gotV (dotN (mulI x x) (mulI y y)) (dotE (mulI x x) (mulI y y)), []) := by
    show (gotV (dotN (mulI (v2 [vx x y] 0) (v2 [vx x y] 0)) (mulI (vy [vx x y] 0) (vy [vx x y] 0))) (dotE (mulI (v2 [vx x y] 0) (v2 [vx x y] 0)) (mulI (vy [vx x y] 0) (vy [vx x y] 0))), ([] : List Blk)) = _
    rw [(v_vx _ x y 0 rfl).1, (v_vx _ x y 0 rfl).2]
  rw [hF, v_r_Len2]
  rintro x rfl y rfl t3 rfl t4 rfl t5 rfl
  exact ⟨vmay2_of hx hy hx hy, rfl⟩
theorem ctrst2 : ∀ {g : FuncId} {sp : Vs.Spec}, Γt2 g = some sp → Contract Try.prog g sp := ext_ok c_vec_Len2 (ext_ok c_r_Len2 ctrst1)
theorem dot_zero {p q : Int} (h : dotE p q ≠ 0) : dotN p q = 0 := by
  unfold dotE dotN at *
  split at h
  · rename_i hb
    rw [if_pos hb]
    exact num_not (fun h' => h (err_may h'))
  · rename_i hb; rw [if_neg hb]
theorem c_vec_Len : Contract Try.prog f_vec_Len spVLen := by
  refine contract_of (N := Nt2) 3 (knowOf (fun g sp h => ctrst2 h) (fun _ _ => rfl) (fun _ => rfl) 3) ?_
  intro l bs _ _ hp
  obtain ⟨x, y, rfl, rfl, hx, hy⟩ := hp
  have hF : spVLen.F [vx x y] [] = (.tup [fx (lenN (mulI x x) (mulI y y)), .int .i64 (lenE (mulI x x) (mulI y y))], []) := by
    show (IV.tup [fx (lenN (mulI (v2 [vx x y] 0) (v2 [vx x y] 0)) (mulI (vy [vx x y] 0) (vy [vx x y] 0))), .int .i64 (lenE (mulI (v2 [vx x y] 0) (v2 [vx x y] 0)) (mulI (vy [vx x y] 0) (vy [vx x y] 0)))], ([] : List Blk)) = _
    rw [(v_vx _ x y 0 rfl).1, (v_vx _ x y 0 rfl).2]
  rw [hF, v_vec_Len]
  rintro x rfl y rfl t3 e3 j4 rfl t5 e5 t6 e6
  refine ⟨vmay1_of hx hy, ?_⟩
  unfold lenN lenE
  rw [br_bne, ← e6, ← e3]
  refine ⟨fun h => by rw [if_neg h, if_neg h]; rfl, fun h => ⟨may1_of (by rw [e3]; exact dotN_is _ _), by rw [if_pos h, if_pos h, ← e5]⟩⟩
theorem c_r_Length : Contract Try.prog f_perigeeref1_Length spRLength := by
  refine contract_of (N := Nt2) 3 (knowOf (fun g sp h => ctrst2 h) (fun _ _ => rfl) (fun _ => rfl) 3) ?_
  intro l bs _ _ hp
  obtain ⟨x, y, rfl, rfl, hx, hy⟩ := hp
  have hF : spRLength.F [vx x y] [] = (gotV (lenN (mulI x x) (mulI y y)) (lenE (mulI x x) (mulI y y)), []) := by
    show (gotV (lenN (mulI (v2 [vx x y] 0) (v2 [vx x y] 0)) (mulI (vy [vx x y] 0) (vy [vx x y] 0))) (lenE (mulI (v2 [vx x y] 0) (v2 [vx x y] 0)) (mulI (vy [vx x y] 0) (vy [vx x y] 0))), ([] : List Blk)) = _
    rw [(v_vx _ x y 0 rfl).1, (v_vx _ x y 0 rfl).2]
  rw [hF, v_r_Length]
  rintro x rfl y rfl t3 e3 j4 rfl t5 e5 t6 e6
  refine ⟨vmay1_of hx hy, ?_⟩
  unfold lenN lenE
  rw [br_bne, ← e6, ← e3]
  refine ⟨fun h => ?_, fun h => ⟨may1_of (by rw [e3]; exact dotN_is _ _), by rw [if_pos h, if_pos h, ← e5]; rfl⟩⟩
  rw [if_neg h, if_neg h]
  have : j4 = 0 := by rw [e3]; exact dot_zero (by rw [← e6]; exact h)
  rw [this]; rfl
theorem ctrst3 : ∀ {g : FuncId} {sp : Vs.Spec}, Γt3 g = some sp → Contract Try.prog g sp := ext_ok c_vec_Len (ext_ok c_r_Length ctrst2)
end Go.Vs.RF

set_option linter.unusedVariables false
set_option linter.unusedSimpArgs false
set_option maxRecDepth 100000
/- VecAll, VecSigns, VecSums, VecWhole, VecLengths -/
namespace Go.Vs.RF
open Go Go.Proofs Go.Vs Go.IntWalk

theorem br_guard2 {p q : Prop} [Decidable p] [Decidable q] {A B : Prop} (hA : A) (hB : p → q → B) : br (!(decide p && decide q)) A B :=
  br_or (fun _ => hA) (fun h => by simp at h; exact hB h.1 h.2)
theorem lenE_is (p q : Int) : i64ok (lenE p q) := by
  unfold lenE; split
  · exact sqE_is _
  · exact dotE_is _ _
theorem may_neg_iff (s : Int) : mayF (-s) ↔ mayF s := ⟨fun h => by have := may_neg h; rwa [Int.neg_neg] at this, may_neg⟩
theorem n2_neg (s t v : Int) : n2 (-s) (-t) (-v) = -n2 s t v := by
  unfold n2
  by_cases h : mayF s ∧ mayF t
  · rw [if_pos h, if_pos ⟨may_neg h.1, may_neg h.2⟩]
  · rw [if_neg h, if_neg (fun h' => h ⟨(may_neg_iff s).1 h'.1, (may_neg_iff t).1 h'.2⟩)]; rfl
theorem e2_neg (s t : Int) : e2 (-s) (-t) = e2 s t := by
  unfold e2
  by_cases h : mayF s ∧ mayF t
  · rw [if_pos h, if_pos ⟨may_neg h.1, may_neg h.2⟩]
  · rw [if_neg h, if_neg (fun h' => h ⟨(may_neg_iff s).1 h'.1, (may_neg_iff t).1 h'.2⟩)]
theorem neg_plus (p q : Int) : -p + -q = -(p + q) := by omega
theorem dotN_neg (p q : Int) : dotN (-p) (-q) = -dotN p q := by
  unfold dotN
  rw [neg_plus, numF_neg]
  by_cases h : mayF p ∧ mayF q
  · rw [if_pos h, if_pos ⟨may_neg h.1, may_neg h.2⟩]
  · rw [if_neg h, if_neg (fun h' => h ⟨(may_neg_iff p).1 h'.1, (may_neg_iff q).1 h'.2⟩)]; rfl
theorem dotE_neg (p q : Int) : dotE (-p) (-q) = dotE p q := by
  unfold dotE
  rw [neg_plus, errF_neg]
  by_cases h : mayF p ∧ mayF q
  · rw [if_pos h, if_pos ⟨may_neg h.1, may_neg h.2⟩]
  · rw [if_neg h, if_neg (fun h' => h ⟨(may_neg_iff p).1 h'.1, (may_neg_iff q).1 h'.2⟩)]
theorem mulI_neg2 (x : Int) : mulI (-x) (-x) = mulI x x := by rw [mulI_negl, mulI_negr, Int.neg_neg]
theorem i17_mul {m n : Int} (hm : -65536 ≤ m ∧ m ≤ 65536) (hn : -65536 ≤ n ∧ n ≤ 65536) : -4294967296 ≤ m * n ∧ m * n ≤ 4294967296 := by
  have := part_le (x := absI m) (y := absI n) (m := 65536) (n := 65536) (by unfold absI; split <;> omega) (by unfold absI; split <;> omega) (by unfold absI; split <;> omega) (by unfold absI; split <;> omega)
  rw [← abs_mul] at this
  generalize m * n = q at *
  unfold absI at this
  split at this <;> omega
theorem mxe {k : Int} (h : -9223372036854775807 ≤ k) : mx .i64 k (-9223372036854775807) = k := by unfold mx; rw [if_neg (by omega)]
end Go.Vs.RF

set_option linter.unusedVariables false
set_option linter.unusedSimpArgs false
set_option maxRecDepth 100000
/- VecLengths; what the laws of stage 4 are handed -/
namespace Go.Vs.RF
open Go Go.Proofs Go.Vs Go.IntWalk

theorem mul_self (x : Int) : mulI x x = (absI x * absI x + 9223372036854775808) / 18446744073709551616 := by
  unfold mulI
  rw [show (decide (x < 0) != decide (x < 0)) = false by cases decide (x < 0) <;> rfl]
  rfl
set_option maxHeartbeats 1000000 in
theorem vxArg {x : List Int} (l : x.length = 4) (k : ∀ j, j < 4 → inK (([.i64, .u64, .i64, .u64] : List IntKind).getD j .i64) (x.getD j 0)) : ∃ a b, IV.agg (rowCells [.i64, .u64, .i64, .u64] [x] 0 0 4) = vx a b ∧ inF a ∧ inF b := by
  match x, l with
  | [p, q, r, s], _ =>
    have h0 : -9223372036854775808 ≤ p ∧ p ≤ 9223372036854775807 := k 0 (by decide)
    have h1 : 0 ≤ q ∧ q ≤ 18446744073709551615 := k 1 (by decide)
    have h2 : -9223372036854775808 ≤ r ∧ r ≤ 9223372036854775807 := k 2 (by decide)
    have h3 : 0 ≤ s ∧ s ≤ 18446744073709551615 := k 3 (by decide)
    refine ⟨p * 18446744073709551616 + q, r * 18446744073709551616 + s, ?_, by unfold inF; omega, by unfold inF; omega⟩
    show IV.agg [.int .i64 p, .int .u64 q, .int .i64 r, .int .u64 s] = vx _ _
    unfold vx
    rw [show (p * 18446744073709551616 + q) / 18446744073709551616 = p by omega, show (p * 18446744073709551616 + q) % 18446744073709551616 = q by omega, show (r * 18446744073709551616 + s) / 18446744073709551616 = r by omega, show (r * 18446744073709551616 + s) % 18446744073709551616 = s by omega]
end Go.Vs.RF
