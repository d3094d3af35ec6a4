import Derived.Test.YtdolejkcipnabaaR2C
set_option linter.unusedVariables false
/- vec: what it comes to -/
namespace Go.Vs.RF
open Go Go.Proofs Go.Vs
noncomputable def Γs : FuncId → Option Vs.Spec := Γr
noncomputable def Ns : Know := ⟨Γs, fun _ _ => none, fun _ => none⟩
/-- a way -/
def vx (x y : Int) : IV := .agg [.int .i64 (x / 18446744073709551616), .int .u64 (x % 18446744073709551616), .int .i64 (y / 18446744073709551616), .int .u64 (y % 18446744073709551616)]
theorem v_vec_May (x y : Int) (K : IV → List Blk → Prop) : (comes Try.prog Ns 3 f_vec_May [vx x y] [] K) = (∀ (j1 : Int), j1 = x → ∀ (j2 : Int), j2 = y → preF [fx x] [] ∧ br (decide ((-170141183460469231731687303715884105728 : Int) < j1)) (preF [fx y] [] ∧ K (IV.bool (decide ((-170141183460469231731687303715884105728 : Int) < j2))) []) (K (IV.bool false) [])) := by refine nj ?_; refine nj ?_; kernel_rfl
theorem v_vec_Neg (x y : Int) (K : IV → List Blk → Prop) : (comes Try.prog Ns 3 f_vec_Neg [vx x y] [] K) = (∀ (j1 : Int), j1 = x → ∀ (j2 : Int), j2 = y → (preF [fx x] [] ∧ (-170141183460469231731687303715884105728 : Int) < j1) ∧ (preF [fx y] [] ∧ (-170141183460469231731687303715884105728 : Int) < j2) ∧ K (vx (-j1) (-j2)) []) := by refine nj ?_; refine nj ?_; kernel_rfl
theorem v_vec_Add (x y z w : Int) (K : IV → List Blk → Prop) : (comes Try.prog Ns 3 f_vec_Add [vx x y, vx z w] [] K) = (∀ (j1 : Int), j1 = x → ∀ (j2 : Int), j2 = z → ∀ (j3 : Int), j3 = y → ∀ (j4 : Int), j4 = w → ∀ (t5 : Int), t5 = errF (j1 + j2) → ∀ (t6 : Int), t6 = errF (j3 + j4) → ∀ (t7 : Int), t7 = numF (j1 + j2) → ∀ (t8 : Int), t8 = numF (j3 + j4) → may2 [fx x, fx z] [] ∧ br (t5 != (0 : Int)) (K (IV.tup [IV.agg [IV.int IntKind.i64 (0 : Int), IV.int IntKind.u64 (0 : Int), IV.int IntKind.i64 (0 : Int), IV.int IntKind.u64 (0 : Int)], IV.int IntKind.i64 t5]) []) (may2 [fx y, fx w] [] ∧ br (t6 != (0 : Int)) (K (IV.tup [IV.agg [IV.int IntKind.i64 (0 : Int), IV.int IntKind.u64 (0 : Int), IV.int IntKind.i64 (0 : Int), IV.int IntKind.u64 (0 : Int)], IV.int IntKind.i64 t6]) []) (K (IV.tup [vx t7 t8, IV.int IntKind.i64 (0 : Int)]) []))) := by refine nj ?_; refine nj ?_; refine nj ?_; refine nj ?_; refine nm ?_; refine nm ?_; refine nm ?_; refine nm ?_; kernel_rfl
theorem v_vec_Sub (x y z w : Int) (K : IV → List Blk → Prop) : (comes Try.prog Ns 3 f_vec_Sub [vx x y, vx z w] [] K) = (∀ (j1 : Int), j1 = x → ∀ (j2 : Int), j2 = z → ∀ (j3 : Int), j3 = y → ∀ (j4 : Int), j4 = w → ∀ (t5 : Int), t5 = errF (j1 - j2) → ∀ (t6 : Int), t6 = errF (j3 - j4) → ∀ (t7 : Int), t7 = numF (j1 - j2) → ∀ (t8 : Int), t8 = numF (j3 - j4) → may2 [fx x, fx z] [] ∧ br (t5 != (0 : Int)) (K (IV.tup [IV.agg [IV.int IntKind.i64 (0 : Int), IV.int IntKind.u64 (0 : Int), IV.int IntKind.i64 (0 : Int), IV.int IntKind.u64 (0 : Int)], IV.int IntKind.i64 t5]) []) (may2 [fx y, fx w] [] ∧ br (t6 != (0 : Int)) (K (IV.tup [IV.agg [IV.int IntKind.i64 (0 : Int), IV.int IntKind.u64 (0 : Int), IV.int IntKind.i64 (0 : Int), IV.int IntKind.u64 (0 : Int)], IV.int IntKind.i64 t6]) []) (K (IV.tup [vx t7 t8, IV.int IntKind.i64 (0 : Int)]) []))) := by refine nj ?_; refine nj ?_; refine nj ?_; refine nj ?_; refine nm ?_; refine nm ?_; refine nm ?_; refine nm ?_; kernel_rfl
theorem v_vec_Scale (x y k : Int) (K : IV → List Blk → Prop) : (comes Try.prog Ns 3 f_vec_Scale [vx x y, fx k] [] K) = (∀ (j1 : Int), j1 = x → ∀ (j2 : Int), j2 = k → ∀ (j3 : Int), j3 = y → ∀ (t4 : Int), t4 = mulI j1 j2 → ∀ (t5 : Int), t5 = mulI j3 j2 → ∀ (t6 : Int), t6 = errF t4 → ∀ (t7 : Int), t7 = errF t5 → ∀ (t8 : Int), t8 = numF t4 → ∀ (t9 : Int), t9 = numF t5 → may2 [fx x, fx k] [] ∧ br (t6 != (0 : Int)) (K (IV.tup [IV.agg [IV.int IntKind.i64 (0 : Int), IV.int IntKind.u64 (0 : Int), IV.int IntKind.i64 (0 : Int), IV.int IntKind.u64 (0 : Int)], IV.int IntKind.i64 t6]) []) (may2 [fx y, fx k] [] ∧ br (t7 != (0 : Int)) (K (IV.tup [IV.agg [IV.int IntKind.i64 (0 : Int), IV.int IntKind.u64 (0 : Int), IV.int IntKind.i64 (0 : Int), IV.int IntKind.u64 (0 : Int)], IV.int IntKind.i64 t7]) []) (K (IV.tup [vx t8 t9, IV.int IntKind.i64 (0 : Int)]) []))) := by refine nj ?_; refine nj ?_; refine nj ?_; refine nm ?_; refine nm ?_; refine nm ?_; refine nm ?_; refine nm ?_; refine nm ?_; kernel_rfl
theorem v_r_MayVec (x y : Int) (K : IV → List Blk → Prop) : (comes Try.prog Ns 3 f_perigeeref1_MayVec [vx x y] [] K) = (∀ (j1 : Int), j1 = x → ∀ (j2 : Int), j2 = y → preF [fx x] [] ∧ br (decide ((-170141183460469231731687303715884105728 : Int) < j1)) (preF [fx y] [] ∧ K (IV.bool (decide ((-170141183460469231731687303715884105728 : Int) < j2))) []) (K (IV.bool false) [])) := by refine nj ?_; refine nj ?_; kernel_rfl
theorem v_r_NegVec (x y : Int) (K : IV → List Blk → Prop) : (comes Try.prog Ns 3 f_perigeeref1_NegVec [vx x y] [] K) = (∀ (j1 : Int), j1 = x → ∀ (j2 : Int), j2 = y → may1 [fx x] [] ∧ may1 [fx y] [] ∧ K (vx (-j1) (-j2)) []) := by refine nj ?_; refine nj ?_; kernel_rfl
theorem v_r_both (x e y f : Int) (K : IV → List Blk → Prop) : (comes Try.prog Ns 3 f_perigeeref1_both [gotV x e, gotV y f] [] K) = (br (e != (0 : Int)) (K (IV.agg [IV.int IntKind.i64 (0 : Int), IV.int IntKind.u64 (0 : Int), IV.int IntKind.i64 (0 : Int), IV.int IntKind.u64 (0 : Int), IV.int IntKind.i64 e]) []) (br (f != (0 : Int)) (K (IV.agg [IV.int IntKind.i64 (0 : Int), IV.int IntKind.u64 (0 : Int), IV.int IntKind.i64 (0 : Int), IV.int IntKind.u64 (0 : Int), IV.int IntKind.i64 f]) []) (K (IV.agg [IV.int IntKind.i64 (x / (18446744073709551616 : Int)), IV.int IntKind.u64 (x % (18446744073709551616 : Int)), IV.int IntKind.i64 (y / (18446744073709551616 : Int)), IV.int IntKind.u64 (y % (18446744073709551616 : Int)), IV.int IntKind.i64 (0 : Int)]) []))) := by kernel_rfl
theorem v_r_AddVec (x y z w : Int) (K : IV → List Blk → Prop) : (comes Try.prog Ns 3 f_perigeeref1_AddVec [vx x y, vx z w] [] K) = (∀ (j1 : Int), j1 = x → ∀ (j2 : Int), j2 = z → ∀ (j3 : Int), j3 = y → ∀ (j4 : Int), j4 = w → ∀ (t5 : Int), t5 = errF (j1 + j2) → ∀ (t6 : Int), t6 = errF (j3 + j4) → ∀ (t7 : Int), t7 = numF (j1 + j2) → ∀ (t8 : Int), t8 = numF (j3 + j4) → may2 [fx x, fx z] [] ∧ may2 [fx y, fx w] [] ∧ br (t5 != (0 : Int)) (K (IV.agg [IV.int IntKind.i64 (0 : Int), IV.int IntKind.u64 (0 : Int), IV.int IntKind.i64 (0 : Int), IV.int IntKind.u64 (0 : Int), IV.int IntKind.i64 t5]) []) (br (t6 != (0 : Int)) (K (IV.agg [IV.int IntKind.i64 (0 : Int), IV.int IntKind.u64 (0 : Int), IV.int IntKind.i64 (0 : Int), IV.int IntKind.u64 (0 : Int), IV.int IntKind.i64 t6]) []) (K (IV.agg [IV.int IntKind.i64 (t7 / (18446744073709551616 : Int)), IV.int IntKind.u64 (t7 % (18446744073709551616 : Int)), IV.int IntKind.i64 (t8 / (18446744073709551616 : Int)), IV.int IntKind.u64 (t8 % (18446744073709551616 : Int)), IV.int IntKind.i64 (0 : Int)]) []))) := by refine nj ?_; refine nj ?_; refine nj ?_; refine nj ?_; refine nm ?_; refine nm ?_; refine nm ?_; refine nm ?_; kernel_rfl
theorem v_r_SubVec (x y z w : Int) (K : IV → List Blk → Prop) : (comes Try.prog Ns 3 f_perigeeref1_SubVec [vx x y, vx z w] [] K) = (∀ (j1 : Int), j1 = x → ∀ (j2 : Int), j2 = z → ∀ (j3 : Int), j3 = y → ∀ (j4 : Int), j4 = w → ∀ (t5 : Int), t5 = errF (j1 - j2) → ∀ (t6 : Int), t6 = errF (j3 - j4) → ∀ (t7 : Int), t7 = numF (j1 - j2) → ∀ (t8 : Int), t8 = numF (j3 - j4) → may2 [fx x, fx z] [] ∧ may2 [fx y, fx w] [] ∧ br (t5 != (0 : Int)) (K (IV.agg [IV.int IntKind.i64 (0 : Int), IV.int IntKind.u64 (0 : Int), IV.int IntKind.i64 (0 : Int), IV.int IntKind.u64 (0 : Int), IV.int IntKind.i64 t5]) []) (br (t6 != (0 : Int)) (K (IV.agg [IV.int IntKind.i64 (0 : Int), IV.int IntKind.u64 (0 : Int), IV.int IntKind.i64 (0 : Int), IV.int IntKind.u64 (0 : Int), IV.int IntKind.i64 t6]) []) (K (IV.agg [IV.int IntKind.i64 (t7 / (18446744073709551616 : Int)), IV.int IntKind.u64 (t7 % (18446744073709551616 : Int)), IV.int IntKind.i64 (t8 / (18446744073709551616 : Int)), IV.int IntKind.u64 (t8 % (18446744073709551616 : Int)), IV.int IntKind.i64 (0 : Int)]) []))) := by refine nj ?_; refine nj ?_; refine nj ?_; refine nj ?_; refine nm ?_; refine nm ?_; refine nm ?_; refine nm ?_; kernel_rfl
theorem v_r_Scale (x y k : Int) (K : IV → List Blk → Prop) : (comes Try.prog Ns 3 f_perigeeref1_Scale [vx x y, fx k] [] K) = (∀ (j1 : Int), j1 = x → ∀ (j2 : Int), j2 = k → ∀ (j3 : Int), j3 = y → ∀ (t4 : Int), t4 = mulI j1 j2 → ∀ (t5 : Int), t5 = mulI j3 j2 → ∀ (t6 : Int), t6 = errF t4 → ∀ (t7 : Int), t7 = errF t5 → ∀ (t8 : Int), t8 = numF t4 → ∀ (t9 : Int), t9 = numF t5 → may2 [fx x, fx k] [] ∧ may2 [fx y, fx k] [] ∧ br (t6 != (0 : Int)) (K (IV.agg [IV.int IntKind.i64 (0 : Int), IV.int IntKind.u64 (0 : Int), IV.int IntKind.i64 (0 : Int), IV.int IntKind.u64 (0 : Int), IV.int IntKind.i64 t6]) []) (br (t7 != (0 : Int)) (K (IV.agg [IV.int IntKind.i64 (0 : Int), IV.int IntKind.u64 (0 : Int), IV.int IntKind.i64 (0 : Int), IV.int IntKind.u64 (0 : Int), IV.int IntKind.i64 t7]) []) (K (IV.agg [IV.int IntKind.i64 (t8 / (18446744073709551616 : Int)), IV.int IntKind.u64 (t8 % (18446744073709551616 : Int)), IV.int IntKind.i64 (t9 / (18446744073709551616 : Int)), IV.int IntKind.u64 (t9 % (18446744073709551616 : Int)), IV.int IntKind.i64 (0 : Int)]) []))) := by refine nj ?_; refine nj ?_; refine nj ?_; refine nm ?_; refine nm ?_; refine nm ?_; refine nm ?_; refine nm ?_; refine nm ?_; kernel_rfl


end Go.Vs.RF
set_option linter.unusedVariables false
set_option linter.unusedSimpArgs false
set_option maxRecDepth 100000
/- vec: ways -/
namespace Go.Vs.RF
open Go Go.Proofs Go.Vs Go.IntWalk

noncomputable def vy (l : List IV) (i : Nat) : Int := argI l i 2 * 18446744073709551616 + argI l i 3
theorem v_vx (l : List IV) (x y : Int) (i : Nat) (h : nthR l i = some (vx x y)) : v2 l i = x ∧ vy l i = y := by
  have : ∀ j, argI l i j = argI [vx x y] 0 j := by
    intro j; unfold argI; rw [h]; rfl
  unfold v2 vy
  rw [this 0, this 1, this 2, this 3]
  exact ⟨jn x, jn y⟩
def n2 (s t v : Int) : Int := if mayF s ∧ mayF t then v else 0
def e2 (s t : Int) : Int := if mayF s ∧ mayF t then 0 else 3
def vecV (s t : Int) : IV := .tup [vx (n2 s t s) (n2 s t t), .int .i64 (e2 s t)]
def wayG (x y e : Int) : IV := .agg [.int .i64 (x / 18446744073709551616), .int .u64 (x % 18446744073709551616), .int .i64 (y / 18446744073709551616), .int .u64 (y % 18446744073709551616), .int .i64 e]
def wayV (s t : Int) : IV := wayG (n2 s t s) (n2 s t t) (e2 s t)
def vin1 (l : List IV) (bs : List Blk) : Prop := ∃ x y, l = [vx x y] ∧ bs = [] ∧ inF x ∧ inF y
def vmay1 (l : List IV) (bs : List Blk) : Prop := ∃ x y, l = [vx x y] ∧ bs = [] ∧ mayF x ∧ mayF y
def vmay2 (l : List IV) (bs : List Blk) : Prop := ∃ x y z w, l = [vx x y, vx z w] ∧ bs = [] ∧ (mayF x ∧ mayF y) ∧ mayF z ∧ mayF w
def vmayk (l : List IV) (bs : List Blk) : Prop := ∃ x y k, l = [vx x y, fx k] ∧ bs = [] ∧ (mayF x ∧ mayF y) ∧ mayF k
def pBoth (l : List IV) (bs : List Blk) : Prop := ∃ x e y f, l = [gotV x e, gotV y f] ∧ bs = []
theorem vmay1_of {x y : Int} (h : mayF x) (h' : mayF y) : vmay1 [vx x y] [] := ⟨x, y, rfl, rfl, h, h'⟩
theorem vin1_of {x y : Int} (h : inF x) (h' : inF y) : vin1 [vx x y] [] := ⟨x, y, rfl, rfl, h, h'⟩
theorem vmay2_of {x y z w : Int} (hx : mayF x) (hy : mayF y) (hz : mayF z) (hw : mayF w) : vmay2 [vx x y, vx z w] [] := ⟨x, y, z, w, rfl, rfl, ⟨hx, hy⟩, hz, hw⟩
theorem vmayk_of {x y k : Int} (hx : mayF x) (hy : mayF y) (hk : mayF k) : vmayk [vx x y, fx k] [] := ⟨x, y, k, rfl, rfl, ⟨hx, hy⟩, hk⟩
noncomputable def spVMay : Vs.Spec := ⟨vin1, fun l _ => (.bool (decide (-170141183460469231731687303715884105728 < v2 l 0) && decide (-170141183460469231731687303715884105728 < vy l 0)), [])⟩
noncomputable def spVNeg : Vs.Spec := ⟨vmay1, fun l _ => (vx (-(v2 l 0)) (-(vy l 0)), [])⟩
noncomputable def spVAdd : Vs.Spec := ⟨vmay2, fun l _ => (vecV (v2 l 0 + v2 l 1) (vy l 0 + vy l 1), [])⟩
noncomputable def spVSub : Vs.Spec := ⟨vmay2, fun l _ => (vecV (v2 l 0 - v2 l 1) (vy l 0 - vy l 1), [])⟩
noncomputable def spVScale : Vs.Spec := ⟨vmayk, fun l _ => (vecV (mulI (v2 l 0) (v2 l 1)) (mulI (vy l 0) (v2 l 1)), [])⟩
noncomputable def spRVAdd : Vs.Spec := ⟨vmay2, fun l _ => (wayV (v2 l 0 + v2 l 1) (vy l 0 + vy l 1), [])⟩
noncomputable def spRVSub : Vs.Spec := ⟨vmay2, fun l _ => (wayV (v2 l 0 - v2 l 1) (vy l 0 - vy l 1), [])⟩
noncomputable def spRVScale : Vs.Spec := ⟨vmayk, fun l _ => (wayV (mulI (v2 l 0) (v2 l 1)) (mulI (vy l 0) (v2 l 1)), [])⟩
theorem ctrss : ∀ {g : FuncId} {sp : Vs.Spec}, Γs g = some sp → Contract Try.prog g sp := ctrsr
theorem may_lemma {f : FuncId} (hv : ∀ (x y : Int) (K : IV → List Blk → Prop), comes Try.prog Ns 3 f [vx x y] [] K = (∀ t, t = x → ∀ u, u = y → preF [fx x] [] ∧ br (decide (-170141183460469231731687303715884105728 < t)) (preF [fx y] [] ∧ K (.bool (decide (-170141183460469231731687303715884105728 < u))) []) (K (.bool false) []))) : Contract Try.prog f spVMay := by
  refine contract_of (N := Ns) 3 (knowOf (fun g sp h => ctrss h) (fun _ _ => rfl) (fun _ => rfl) 3) ?_
  intro l bs _ _ hp
  obtain ⟨x, y, rfl, rfl, hx, hy⟩ := hp
  have hF : spVMay.F [vx x y] [] = (.bool (decide (-170141183460469231731687303715884105728 < x) && decide (-170141183460469231731687303715884105728 < y)), []) := by
    show (IV.bool (decide (-170141183460469231731687303715884105728 < v2 [vx x y] 0) && decide (-170141183460469231731687303715884105728 < vy [vx x y] 0)), ([] : List Blk)) = _
    rw [(v_vx _ x y 0 rfl).1, (v_vx _ x y 0 rfl).2]
  rw [hF, hv]
  rintro x rfl y rfl
  refine ⟨preF_in hx, ?_⟩
  rw [br_dec]
  exact ⟨fun h => ⟨preF_in hy, by rw [decide_eq_true h, Bool.true_and]⟩, fun h => by rw [decide_eq_false h, Bool.false_and]⟩
theorem c_vec_May : Contract Try.prog f_vec_May spVMay := may_lemma v_vec_May
theorem c_r_MayVec : Contract Try.prog f_perigeeref1_MayVec spVMay := may_lemma v_r_MayVec
theorem spVNeg_F (x y : Int) : spVNeg.F [vx x y] [] = (vx (-x) (-y), []) := by
  show (vx (-(v2 [vx x y] 0)) (-(vy [vx x y] 0)), ([] : List Blk)) = _
  rw [(v_vx _ x y 0 rfl).1, (v_vx _ x y 0 rfl).2]
theorem c_vec_Neg : Contract Try.prog f_vec_Neg spVNeg := by
  refine contract_of (N := Ns) 3 (knowOf (fun g sp h => ctrss h) (fun _ _ => rfl) (fun _ => rfl) 3) ?_
  intro l bs _ _ hp
  obtain ⟨x, y, rfl, rfl, hx, hy⟩ := hp
  rw [spVNeg_F, v_vec_Neg]
  rintro x rfl y rfl
  exact ⟨⟨preF_fx hx, hx.1⟩, ⟨preF_fx hy, hy.1⟩, rfl⟩
theorem c_r_NegVec : Contract Try.prog f_perigeeref1_NegVec spVNeg := by
  refine contract_of (N := Ns) 3 (knowOf (fun g sp h => ctrss h) (fun _ _ => rfl) (fun _ => rfl) 3) ?_
  intro l bs _ _ hp
  obtain ⟨x, y, rfl, rfl, hx, hy⟩ := hp
  rw [spVNeg_F, v_r_NegVec]
  rintro x rfl y rfl
  exact ⟨may1_of hx, may1_of hy, rfl⟩
theorem vx_zero : IV.agg [.int .i64 0, .int .u64 0, .int .i64 0, .int .u64 0] = vx 0 0 := rfl
theorem n2_ok {s t : Int} (v : Int) (hs : mayF s) (ht : mayF t) : n2 s t v = v := if_pos ⟨hs, ht⟩
theorem e2_ok {s t : Int} (hs : mayF s) (ht : mayF t) : e2 s t = 0 := if_pos ⟨hs, ht⟩
theorem n2_no {s t : Int} (v : Int) (h : ¬ (mayF s ∧ mayF t)) : n2 s t v = 0 := if_neg h
theorem e2_no {s t : Int} (h : ¬ (mayF s ∧ mayF t)) : e2 s t = 3 := if_neg h
theorem e2_is (s t : Int) : i64ok (e2 s t) := by unfold e2; split <;> exact ⟨by decide, by decide⟩
theorem n2_is1 (s t : Int) : mayF (n2 s t s) := by
  unfold n2; split
  · rename_i h; exact h.1
  · exact may_zero
theorem n2_is2 (s t : Int) : mayF (n2 s t t) := by
  unfold n2; split
  · rename_i h; exact h.2
  · exact may_zero
theorem each_lem {s t : Int} {K : IV → Prop} {P Q : Prop} (hP : P) (hQ : Q) (hK : K (vecV s t)) :
    P ∧ br (errF s != 0) (K (.tup [.agg [.int .i64 0, .int .u64 0, .int .i64 0, .int .u64 0], .int .i64 (errF s)])) (Q ∧ br (errF t != 0) (K (.tup [.agg [.int .i64 0, .int .u64 0, .int .i64 0, .int .u64 0], .int .i64 (errF t)])) (K (.tup [vx (numF s) (numF t), .int .i64 0]))) := by
  refine ⟨hP, ?_⟩
  unfold vecV at hK
  by_cases hs : mayF s
  · rw [err_may hs]
    refine ⟨hQ, ?_⟩
    by_cases ht : mayF t
    · rw [err_may ht, num_may hs, num_may ht]
      rw [n2_ok _ hs ht, n2_ok _ hs ht, e2_ok hs ht] at hK
      exact hK
    · rw [err_not ht]
      rw [n2_no _ (fun h => ht h.2), n2_no _ (fun h => ht h.2), e2_no (fun h => ht h.2)] at hK
      exact hK
  · rw [err_not hs]
    rw [n2_no _ (fun h => hs h.1), n2_no _ (fun h => hs h.1), e2_no (fun h => hs h.1)] at hK
    exact hK
theorem way_lem {s t : Int} {K : IV → Prop} (hK : K (wayV s t)) :
    br (errF s != 0) (K (.agg [.int .i64 0, .int .u64 0, .int .i64 0, .int .u64 0, .int .i64 (errF s)])) (br (errF t != 0) (K (.agg [.int .i64 0, .int .u64 0, .int .i64 0, .int .u64 0, .int .i64 (errF t)])) (K (wayG (numF s) (numF t) 0))) := by
  unfold wayV at hK
  by_cases hs : mayF s
  · rw [err_may hs]
    by_cases ht : mayF t
    · rw [err_may ht, num_may hs, num_may ht]
      rw [n2_ok _ hs ht, n2_ok _ hs ht, e2_ok hs ht] at hK
      exact hK
    · rw [err_not ht]
      rw [n2_no _ (fun h => ht h.2), n2_no _ (fun h => ht h.2), e2_no (fun h => ht h.2)] at hK
      exact hK
  · rw [err_not hs]
    rw [n2_no _ (fun h => hs h.1), n2_no _ (fun h => hs h.1), e2_no (fun h => hs h.1)] at hK
    exact hK
theorem c_vec_Add : Contract Try.prog f_vec_Add spVAdd := by
  refine contract_of (N := Ns) 3 (knowOf (fun g sp h => ctrss h) (fun _ _ => rfl) (fun _ => rfl) 3) ?_
  intro l bs _ _ hp
  obtain ⟨x, y, z, w, rfl, rfl, ⟨hx, hy⟩, hz, hw⟩ := hp
  have hF : spVAdd.F [vx x y, vx z w] [] = (vecV (x + z) (y + w), []) := by
    show (vecV (v2 [vx x y, vx z w] 0 + v2 [vx x y, vx z w] 1) (vy [vx x y, vx z w] 0 + vy [vx x y, vx z w] 1), ([] : List Blk)) = _
    rw [(v_vx _ x y 0 rfl).1, (v_vx _ x y 0 rfl).2, (v_vx _ z w 1 rfl).1, (v_vx _ z w 1 rfl).2]
  rw [hF, v_vec_Add]
  rintro x rfl z rfl y rfl w rfl t5 rfl t6 rfl t7 rfl t8 rfl
  exact each_lem (K := fun v => (vecV (x + z) (y + w), ([] : List Blk)) = (v, [])) (may2_of hx hz) (may2_of hy hw) rfl
theorem c_vec_Sub : Contract Try.prog f_vec_Sub spVSub := by
  refine contract_of (N := Ns) 3 (knowOf (fun g sp h => ctrss h) (fun _ _ => rfl) (fun _ => rfl) 3) ?_
  intro l bs _ _ hp
  obtain ⟨x, y, z, w, rfl, rfl, ⟨hx, hy⟩, hz, hw⟩ := hp
  have hF : spVSub.F [vx x y, vx z w] [] = (vecV (x - z) (y - w), []) := by
    show (vecV (v2 [vx x y, vx z w] 0 - v2 [vx x y, vx z w] 1) (vy [vx x y, vx z w] 0 - vy [vx x y, vx z w] 1), ([] : List Blk)) = _
    rw [(v_vx _ x y 0 rfl).1, (v_vx _ x y 0 rfl).2, (v_vx _ z w 1 rfl).1, (v_vx _ z w 1 rfl).2]
  rw [hF, v_vec_Sub]
  rintro x rfl z rfl y rfl w rfl t5 rfl t6 rfl t7 rfl t8 rfl
  exact each_lem (K := fun v => (vecV (x - z) (y - w), ([] : List Blk)) = (v, [])) (may2_of hx hz) (may2_of hy hw) rfl
theorem c_vec_Scale : Contract Try.prog f_vec_Scale spVScale := by
  refine contract_of (N := Ns) 3 (knowOf (fun g sp h => ctrss h) (fun _ _ => rfl) (fun _ => rfl) 3) ?_
  intro l bs _ _ hp
  obtain ⟨x, y, k, rfl, rfl, ⟨hx, hy⟩, hk⟩ := hp
  have hF : spVScale.F [vx x y, fx k] [] = (vecV (mulI x k) (mulI y k), []) := by
    show (vecV (mulI (v2 [vx x y, fx k] 0) (v2 [vx x y, fx k] 1)) (mulI (vy [vx x y, fx k] 0) (v2 [vx x y, fx k] 1)), ([] : List Blk)) = _
    rw [(v_vx _ x y 0 rfl).1, (v_vx _ x y 0 rfl).2, v2_fx _ k 1 rfl]
  rw [hF, v_vec_Scale]
  rintro x rfl k rfl y rfl t4 rfl t5 rfl t6 rfl t7 rfl t8 rfl t9 rfl
  exact each_lem (K := fun v => (vecV (mulI x k) (mulI y k), ([] : List Blk)) = (v, [])) (may2_of hx hk) (may2_of hy hk) rfl
theorem c_r_AddVec : Contract Try.prog f_perigeeref1_AddVec spRVAdd := by
  refine contract_of (N := Ns) 3 (knowOf (fun g sp h => ctrss h) (fun _ _ => rfl) (fun _ => rfl) 3) ?_
  intro l bs _ _ hp
  obtain ⟨x, y, z, w, rfl, rfl, ⟨hx, hy⟩, hz, hw⟩ := hp
  have hF : spRVAdd.F [vx x y, vx z w] [] = (wayV (x + z) (y + w), []) := by
    show (wayV (v2 [vx x y, vx z w] 0 + v2 [vx x y, vx z w] 1) (vy [vx x y, vx z w] 0 + vy [vx x y, vx z w] 1), ([] : List Blk)) = _
    rw [(v_vx _ x y 0 rfl).1, (v_vx _ x y 0 rfl).2, (v_vx _ z w 1 rfl).1, (v_vx _ z w 1 rfl).2]
  rw [hF, v_r_AddVec]
  rintro x rfl z rfl y rfl w rfl t5 rfl t6 rfl t7 rfl t8 rfl
  exact ⟨may2_of hx hz, may2_of hy hw, way_lem (K := fun v => (wayV (x + z) (y + w), ([] : List Blk)) = (v, [])) rfl⟩
theorem c_r_SubVec : Contract Try.prog f_perigeeref1_SubVec spRVSub := by
  refine contract_of (N := Ns) 3 (knowOf (fun g sp h => ctrss h) (fun _ _ => rfl) (fun _ => rfl) 3) ?_
  intro l bs _ _ hp
  obtain ⟨x, y, z, w, rfl, rfl, ⟨hx, hy⟩, hz, hw⟩ := hp
  have hF : spRVSub.F [vx x y, vx z w] [] = (wayV (x - z) (y - w), []) := by
    show (wayV (v2 [vx x y, vx z w] 0 - v2 [vx x y, vx z w] 1) (vy [vx x y, vx z w] 0 - vy [vx x y, vx z w] 1), ([] : List Blk)) = _
    rw [(v_vx _ x y 0 rfl).1, (v_vx _ x y 0 rfl).2, (v_vx _ z w 1 rfl).1, (v_vx _ z w 1 rfl).2]
  rw [hF, v_r_SubVec]
  rintro x rfl z rfl y rfl w rfl t5 rfl t6 rfl t7 rfl t8 rfl
  exact ⟨may2_of hx hz, may2_of hy hw, way_lem (K := fun v => (wayV (x - z) (y - w), ([] : List Blk)) = (v, [])) rfl⟩
theorem c_r_Scale : Contract Try.prog f_perigeeref1_Scale spRVScale := by
  refine contract_of (N := Ns) 3 (knowOf (fun g sp h => ctrss h) (fun _ _ => rfl) (fun _ => rfl) 3) ?_
  intro l bs _ _ hp
  obtain ⟨x, y, k, rfl, rfl, ⟨hx, hy⟩, hk⟩ := hp
  have hF : spRVScale.F [vx x y, fx k] [] = (wayV (mulI x k) (mulI y k), []) := by
    show (wayV (mulI (v2 [vx x y, fx k] 0) (v2 [vx x y, fx k] 1)) (mulI (vy [vx x y, fx k] 0) (v2 [vx x y, fx k] 1)), ([] : List Blk)) = _
    rw [(v_vx _ x y 0 rfl).1, (v_vx _ x y 0 rfl).2, v2_fx _ k 1 rfl]
  rw [hF, v_r_Scale]
  rintro x rfl k rfl y rfl t4 rfl t5 rfl t6 rfl t7 rfl t8 rfl t9 rfl
  exact ⟨may2_of hx hk, may2_of hy hk, way_lem (K := fun v => (wayV (mulI x k) (mulI y k), ([] : List Blk)) = (v, [])) rfl⟩
end Go.Vs.RF

set_option linter.unusedVariables false
/- vec: products, lengths; the laws of stage 4 -/
namespace Go.Vs.RF
open Go Go.Proofs Go.Vs
def dotN (p q : Int) : Int := if mayF p ∧ mayF q then numF (p + q) else 0
def dotE (p q : Int) : Int := if mayF p ∧ mayF q then errF (p + q) else 3
noncomputable def lenN (p q : Int) : Int := if dotE p q = 0 then sqN (dotN p q) else 0
def lenE (p q : Int) : Int := if dotE p q = 0 then sqE (dotN p q) else dotE p q
noncomputable def spDot : Vs.Spec := ⟨vmay2, fun l _ => (.tup [fx (dotN (mulI (v2 l 0) (v2 l 1)) (mulI (vy l 0) (vy l 1))), .int .i64 (dotE (mulI (v2 l 0) (v2 l 1)) (mulI (vy l 0) (vy l 1)))], [])⟩
noncomputable def spLen2 : Vs.Spec := ⟨vmay1, fun l _ => (.tup [fx (dotN (mulI (v2 l 0) (v2 l 0)) (mulI (vy l 0) (vy l 0))), .int .i64 (dotE (mulI (v2 l 0) (v2 l 0)) (mulI (vy l 0) (vy l 0)))], [])⟩
noncomputable def spVLen : Vs.Spec := ⟨vmay1, fun l _ => (.tup [fx (lenN (mulI (v2 l 0) (v2 l 0)) (mulI (vy l 0) (vy l 0))), .int .i64 (lenE (mulI (v2 l 0) (v2 l 0)) (mulI (vy l 0) (vy l 0)))], [])⟩
noncomputable def spRDot : Vs.Spec := ⟨vmay2, fun l _ => (gotV (dotN (mulI (v2 l 0) (v2 l 1)) (mulI (vy l 0) (vy l 1))) (dotE (mulI (v2 l 0) (v2 l 1)) (mulI (vy l 0) (vy l 1))), [])⟩
noncomputable def spRLen2 : Vs.Spec := ⟨vmay1, fun l _ => (gotV (dotN (mulI (v2 l 0) (v2 l 0)) (mulI (vy l 0) (vy l 0))) (dotE (mulI (v2 l 0) (v2 l 0)) (mulI (vy l 0) (vy l 0))), [])⟩
noncomputable def spRLength : Vs.Spec := ⟨vmay1, fun l _ => (gotV (lenN (mulI (v2 l 0) (v2 l 0)) (mulI (vy l 0) (vy l 0))) (lenE (mulI (v2 l 0) (v2 l 0)) (mulI (vy l 0) (vy l 0))), [])⟩
noncomputable def spBoth : Vs.Spec := ⟨pBoth, fun l _ => (wayG (if argI l 0 2 = 0 ∧ argI l 1 2 = 0 then v2 l 0 else 0) (if argI l 0 2 = 0 ∧ argI l 1 2 = 0 then v2 l 1 else 0) (if argI l 0 2 = 0 then argI l 1 2 else argI l 0 2), [])⟩
noncomputable def Γt : FuncId → Option Vs.Spec := fun g => if g = f_perigeeref1_both then some spBoth else if g = f_vec_May then some spVMay else if g = f_perigeeref1_MayVec then some spVMay else if g = f_vec_Neg then some spVNeg else if g = f_perigeeref1_NegVec then some spVNeg
  else if g = f_vec_Add then some spVAdd else if g = f_vec_Sub then some spVSub else if g = f_vec_Scale then some spVScale else if g = f_perigeeref1_AddVec then some spRVAdd else if g = f_perigeeref1_SubVec then some spRVSub else if g = f_perigeeref1_Scale then some spRVScale else Γs g
noncomputable def Nt : Know := ⟨Γt, fun _ _ => none, fun _ => none⟩
noncomputable def Γt1 : FuncId → Option Vs.Spec := fun g => if g = f_vec_Dot then some spDot else if g = f_perigeeref1_Dot then some spRDot else Γt g
noncomputable def Nt1 : Know := ⟨Γt1, fun _ _ => none, fun _ => none⟩
noncomputable def Γt2 : FuncId → Option Vs.Spec := fun g => if g = f_vec_Len2 then some spLen2 else if g = f_perigeeref1_Len2 then some spRLen2 else Γt1 g
noncomputable def Nt2 : Know := ⟨Γt2, fun _ _ => none, fun _ => none⟩
noncomputable def Γt3 : FuncId → Option Vs.Spec := fun g => if g = f_vec_Len then some spVLen else if g = f_perigeeref1_Length then some spRLength else Γt2 g
noncomputable def Nt3 : Know := ⟨Γt3, fun _ _ => none, fun _ => none⟩
noncomputable def Γt4 : FuncId → Option Vs.Spec := fun g => if g = f_perigeelaw4_awake then some (spTrue preNone) else Γt3 g
noncomputable def Nt4 : Know := ⟨Γt4, fun _ _ => none, fun _ => none⟩
theorem v_vec_Dot (x y z w : Int) (K : IV → List Blk → Prop) : (comes Try.prog Nt 3 f_vec_Dot [vx x y, vx z w] [] K) = (∀ (j1 : Int), j1 = x → ∀ (j2 : Int), j2 = z → ∀ (j3 : Int), j3 = y → ∀ (j4 : Int), j4 = w → ∀ (t5 : Int), t5 = numF (mulI j1 j2) → ∀ (j6 : Int), j6 = t5 → ∀ (t7 : Int), t7 = numF (mulI j3 j4) → ∀ (j8 : Int), j8 = t7 → ∀ (t9 : Int), t9 = errF (mulI j1 j2) → ∀ (t10 : Int), t10 = errF (mulI j3 j4) → ∀ (t11 : Int), t11 = numF (j6 + j8) → may2 [fx x, fx z] [] ∧ br (t9 != (0 : Int)) (br (t9 != (0 : Int)) (K (IV.tup [IV.agg [IV.int IntKind.i64 (0 : Int), IV.int IntKind.u64 (0 : Int)], IV.int IntKind.i64 t9]) []) (may2 [IV.agg [IV.int IntKind.i64 (0 : Int), IV.int IntKind.u64 (0 : Int)], IV.agg [IV.int IntKind.i64 (0 : Int), IV.int IntKind.u64 (0 : Int)]] [] ∧ K (IV.tup [IV.agg [IV.int IntKind.i64 (0 : Int), IV.int IntKind.u64 (0 : Int)], IV.int IntKind.i64 (0 : Int)]) [])) (may2 [fx y, fx w] [] ∧ br (t10 != (0 : Int)) (br (t10 != (0 : Int)) (K (IV.tup [IV.agg [IV.int IntKind.i64 (0 : Int), IV.int IntKind.u64 (0 : Int)], IV.int IntKind.i64 t10]) []) (may2 [IV.agg [IV.int IntKind.i64 (0 : Int), IV.int IntKind.u64 (0 : Int)], IV.agg [IV.int IntKind.i64 (0 : Int), IV.int IntKind.u64 (0 : Int)]] [] ∧ K (IV.tup [IV.agg [IV.int IntKind.i64 (0 : Int), IV.int IntKind.u64 (0 : Int)], IV.int IntKind.i64 (0 : Int)]) [])) (may2 [fx t5, fx t7] [] ∧ K (IV.tup [fx t11, IV.int IntKind.i64 (errF (j6 + j8))]) []))) := by refine nj ?_; refine nj ?_; refine nj ?_; refine nj ?_; refine nm ?_; refine nj ?_; refine nm ?_; refine nj ?_; refine nm ?_; refine nm ?_; refine nm ?_; kernel_rfl
theorem v_r_Dot (x y z w : Int) (K : IV → List Blk → Prop) : (comes Try.prog Nt 3 f_perigeeref1_Dot [vx x y, vx z w] [] K) = (∀ (j1 : Int), j1 = x → ∀ (j2 : Int), j2 = z → ∀ (j3 : Int), j3 = y → ∀ (j4 : Int), j4 = w → ∀ (t5 : Int), t5 = numF (mulI j1 j2) → ∀ (j6 : Int), j6 = t5 → ∀ (t7 : Int), t7 = numF (mulI j3 j4) → ∀ (j8 : Int), j8 = t7 → ∀ (t9 : Int), (t9 = if errF (mulI j1 j2) = (0 : Int) ∧ errF (mulI j3 j4) = (0 : Int) then j6 else (0 : Int)) → ∀ (j10 : Int), j10 = t9 → ∀ (t11 : Int), (t11 = if errF (mulI j1 j2) = (0 : Int) ∧ errF (mulI j3 j4) = (0 : Int) then j8 else (0 : Int)) → ∀ (j12 : Int), j12 = t11 → ∀ (t13 : Int), t13 = errF (mulI j1 j2) → ∀ (t14 : Int), t14 = errF (mulI j3 j4) → ∀ (t15 : Int), t15 = numF (j10 + j12) → ∀ (t16 : Int), (t16 = if t13 = (0 : Int) then t14 else t13) → may2 [fx x, fx z] [] ∧ may2 [fx y, fx w] [] ∧ pBoth [IV.agg [IV.int IntKind.i64 (t5 / (18446744073709551616 : Int)), IV.int IntKind.u64 (t5 % (18446744073709551616 : Int)), IV.int IntKind.i64 t13], IV.agg [IV.int IntKind.i64 (t7 / (18446744073709551616 : Int)), IV.int IntKind.u64 (t7 % (18446744073709551616 : Int)), IV.int IntKind.i64 t14]] [] ∧ br (t16 != (0 : Int)) (K (IV.agg [IV.int IntKind.i64 (0 : Int), IV.int IntKind.u64 (0 : Int), IV.int IntKind.i64 t16]) []) (may2 [fx t9, fx t11] [] ∧ K (IV.agg [IV.int IntKind.i64 (t15 / (18446744073709551616 : Int)), IV.int IntKind.u64 (t15 % (18446744073709551616 : Int)), IV.int IntKind.i64 (errF (j10 + j12))]) [])) := by refine nj ?_; refine nj ?_; refine nj ?_; refine nj ?_; refine nm ?_; refine nj ?_; refine nm ?_; refine nj ?_; refine nm ?_; refine nj ?_; refine nm ?_; refine nj ?_; refine nm ?_; refine nm ?_; refine nm ?_; refine nm ?_; kernel_rfl
theorem v_vec_Len2 (x y : Int) (K : IV → List Blk → Prop) : (comes Try.prog Nt1 3 f_vec_Len2 [vx x y] [] K) = (∀ (j1 : Int), j1 = x → ∀ (j2 : Int), j2 = y → ∀ (t3 : Int), t3 = mulI j1 j1 → ∀ (t4 : Int), t4 = mulI j2 j2 → ∀ (t5 : Int), t5 = dotN t3 t4 → vmay2 [vx x y, vx x y] [] ∧ K (IV.tup [fx t5, IV.int IntKind.i64 (dotE t3 t4)]) []) := by refine nj ?_; refine nj ?_; refine nm ?_; refine nm ?_; refine nm ?_; kernel_rfl
theorem v_r_Len2 (x y : Int) (K : IV → List Blk → Prop) : (comes Try.prog Nt1 3 f_perigeeref1_Len2 [vx x y] [] K) = (∀ (j1 : Int), j1 = x → ∀ (j2 : Int), j2 = y → ∀ (t3 : Int), t3 = mulI j1 j1 → ∀ (t4 : Int), t4 = mulI j2 j2 → ∀ (t5 : Int), t5 = dotN t3 t4 → vmay2 [vx x y, vx x y] [] ∧ K (IV.agg [IV.int IntKind.i64 (t5 / (18446744073709551616 : Int)), IV.int IntKind.u64 (t5 % (18446744073709551616 : Int)), IV.int IntKind.i64 (dotE t3 t4)]) []) := by refine nj ?_; refine nj ?_; refine nm ?_; refine nm ?_; refine nm ?_; kernel_rfl
theorem v_vec_Len (x y : Int) (K : IV → List Blk → Prop) : (comes Try.prog Nt2 3 f_vec_Len [vx x y] [] K) = (∀ (j1 : Int), j1 = x → ∀ (j2 : Int), j2 = y → ∀ (t3 : Int), t3 = dotN (mulI j1 j1) (mulI j2 j2) → ∀ (j4 : Int), j4 = t3 → ∀ (t5 : Int), t5 = sqN j4 → ∀ (t6 : Int), t6 = dotE (mulI j1 j1) (mulI j2 j2) → vmay1 [vx x y] [] ∧ br (t6 != (0 : Int)) (K (IV.tup [IV.agg [IV.int IntKind.i64 (0 : Int), IV.int IntKind.u64 (0 : Int)], IV.int IntKind.i64 t6]) []) (may1 [fx t3] [] ∧ K (IV.tup [fx t5, IV.int IntKind.i64 (sqE j4)]) [])) := by refine nj ?_; refine nj ?_; refine nm ?_; refine nj ?_; refine nm ?_; refine nm ?_; kernel_rfl
theorem v_r_Length (x y : Int) (K : IV → List Blk → Prop) : (comes Try.prog Nt2 3 f_perigeeref1_Length [vx x y] [] K) = (∀ (j1 : Int), j1 = x → ∀ (j2 : Int), j2 = y → ∀ (t3 : Int), t3 = dotN (mulI j1 j1) (mulI j2 j2) → ∀ (j4 : Int), j4 = t3 → ∀ (t5 : Int), t5 = sqN j4 → ∀ (t6 : Int), t6 = dotE (mulI j1 j1) (mulI j2 j2) → vmay1 [vx x y] [] ∧ br (t6 != (0 : Int)) (K (IV.agg [IV.int IntKind.i64 (t3 / (18446744073709551616 : Int)), IV.int IntKind.u64 (t3 % (18446744073709551616 : Int)), IV.int IntKind.i64 t6]) []) (may1 [fx t3] [] ∧ K (IV.agg [IV.int IntKind.i64 (t5 / (18446744073709551616 : Int)), IV.int IntKind.u64 (t5 % (18446744073709551616 : Int)), IV.int IntKind.i64 (sqE j4)]) [])) := by refine nj ?_; refine nj ?_; refine nm ?_; refine nj ?_; refine nm ?_; refine nm ?_; kernel_rfl
theorem v_awake4 (K : IV → List Blk → Prop) : (comes Try.prog Nt3 3 f_perigeelaw4_awake [] [] K) = (∀ (t1 : Int), t1 = lenN (166020696663385964544 : Int) (295147905179352825856 : Int) → ∀ (c2 : Bool), c2 = decide (t1 = (92233720368547758080 : Int)) → preI [IV.int IntKind.i64 (3 : Int)] [] ∧ preI [IV.int IntKind.i64 (4 : Int)] [] ∧ vmay1 [IV.agg [IV.int IntKind.i64 (3 : Int), IV.int IntKind.u64 (0 : Int), IV.int IntKind.i64 (4 : Int), IV.int IntKind.u64 (0 : Int)]] [] ∧ preI [IV.int IntKind.i64 (0 : Int)] [] ∧ preI [IV.int IntKind.i64 (5 : Int)] [] ∧ K (IV.bool c2) []) := by refine nm ?_; refine nbc (c := 5) (d := 0) (by decide) ?_; kernel_rfl
theorem v_way (x y e a b f : Int) (K : IV → List Blk → Prop) : (comes Try.prog Nt3 3 f_perigeelaw4_way [vx x y, .int .i64 e, wayG a b f] [] K) = (∀ (b1 : Bool), b1 = decide (y = b) → ∀ (d2 : Bool), d2 = (decide (x = a) && b1) → br d2 (preI [IV.int IntKind.i64 e] [] ∧ K (IV.bool (e == f)) []) (K (IV.bool false) [])) := by refine nb ?_; refine nbr ?_; kernel_rfl
theorem v_got (x e a f : Int) (K : IV → List Blk → Prop) : (comes Try.prog Nt3 3 f_perigeelaw4_got [fx x, .int .i64 e, gotV a f] [] K) = (∀ (b1 : Bool), b1 = decide (x = a) → br b1 (preI [IV.int IntKind.i64 e] [] ∧ K (IV.bool (e == f)) []) (K (IV.bool false) [])) := by refine nb ?_; kernel_rfl


end Go.Vs.RF
set_option linter.unusedVariables false
set_option linter.unusedSimpArgs false
set_option maxRecDepth 100000
/- vec: products, lengths -/
namespace Go.Vs.RF
open Go Go.Proofs Go.Vs Go.IntWalk

theorem err_zero {s : Int} : errF s = 0 ↔ mayF s := by
  by_cases h : mayF s
  · rw [err_may h]; simp [h]
  · rw [err_not h]; simp [h]
theorem c_r_both : Contract Try.prog f_perigeeref1_both spBoth := by
  refine contract_of (N := Ns) 3 (knowOf (fun g sp h => ctrss h) (fun _ _ => rfl) (fun _ => rfl) 3) ?_
  intro l bs _ _ hp
  obtain ⟨x, e, y, f, rfl, rfl⟩ := hp
  have hF : spBoth.F [gotV x e, gotV y f] [] = (wayG (if e = 0 ∧ f = 0 then x else 0) (if e = 0 ∧ f = 0 then y else 0) (if e = 0 then f else e), []) := by
    show (wayG (if argI [gotV x e, gotV y f] 0 2 = 0 ∧ argI [gotV x e, gotV y f] 1 2 = 0 then v2 [gotV x e, gotV y f] 0 else 0) (if argI [gotV x e, gotV y f] 0 2 = 0 ∧ argI [gotV x e, gotV y f] 1 2 = 0 then v2 [gotV x e, gotV y f] 1 else 0) (if argI [gotV x e, gotV y f] 0 2 = 0 then argI [gotV x e, gotV y f] 1 2 else argI [gotV x e, gotV y f] 0 2), ([] : List Blk)) = _
    rw [(v2_got _ x e 0 rfl).1, (v2_got _ x e 0 rfl).2, (v2_got _ y f 1 rfl).1, (v2_got _ y f 1 rfl).2]
  rw [hF, v_r_both, br_bne]
  refine ⟨fun h => ?_, fun h => ?_⟩
  · rw [if_neg (fun h' => h h'.1), if_neg (fun h' => h h'.1), if_neg h]; rfl
  · subst h
    rw [br_bne]
    refine ⟨fun h => ?_, fun h => ?_⟩
    · rw [if_neg (fun h' => h h'.2), if_neg (fun h' => h h'.2), if_pos rfl]; rfl
    · subst h
      rw [if_pos ⟨rfl, rfl⟩, if_pos ⟨rfl, rfl⟩, if_pos rfl]; rfl
theorem ctrst : ∀ {g : FuncId} {sp : Vs.Spec}, Γt g = some sp → Contract Try.prog g sp :=
  ext_ok c_r_both (ext_ok c_vec_May (ext_ok c_r_MayVec (ext_ok c_vec_Neg (ext_ok c_r_NegVec (ext_ok c_vec_Add (ext_ok c_vec_Sub (ext_ok c_vec_Scale (ext_ok c_r_AddVec (ext_ok c_r_SubVec (ext_ok c_r_Scale ctrss))))))))))
theorem dotN_ok {p q : Int} (hp : mayF p) (hq : mayF q) : dotN p q = numF (p + q) := if_pos ⟨hp, hq⟩
theorem dotE_ok {p q : Int} (hp : mayF p) (hq : mayF q) : dotE p q = errF (p + q) := if_pos ⟨hp, hq⟩
theorem dotN_no {p q : Int} (h : ¬ (mayF p ∧ mayF q)) : dotN p q = 0 := if_neg h
theorem dotE_no {p q : Int} (h : ¬ (mayF p ∧ mayF q)) : dotE p q = 3 := if_neg h
theorem dotN_is (p q : Int) : mayF (dotN p q) := by
  unfold dotN; split
  · exact num_is _
  · exact may_zero
theorem dotE_is (p q : Int) : i64ok (dotE p q) := by
  unfold dotE; split
  · exact err_is _
  · exact ⟨by decide, by decide⟩
theorem pay2 {A B : IV} (h : A = B) : (A, ([] : List Blk)) = (B, []) := by rw [h]
theorem c_vec_Dot : Contract Try.prog f_vec_Dot spDot := by
  refine contract_of (N := Nt) 3 (knowOf (fun g sp h => ctrst h) (fun _ _ => rfl) (fun _ => rfl) 3) ?_
  intro l bs _ _ hp
  obtain ⟨x, y, z, w, rfl, rfl, ⟨hx, hy⟩, hz, hw⟩ := hp
  have hF : spDot.F [vx x y, vx z w] [] = (.tup [fx (dotN (mulI x z) (mulI y w)), .int .i64 (dotE (mulI x z) (mulI y w))], []) := by
    show (IV.tup [fx (dotN (mulI (v2 [vx x y, vx z w] 0) (v2 [vx x y, vx z w] 1)) (mulI (vy [vx x y, vx z w] 0) (vy [vx x y, vx z w] 1))), .int .i64 (dotE (mulI (v2 [vx x y, vx z w] 0) (v2 [vx x y, vx z w] 1)) (mulI (vy [vx x y, vx z w] 0) (vy [vx x y, vx z w] 1)))], ([] : List Blk)) = _
    rw [(v_vx _ x y 0 rfl).1, (v_vx _ x y 0 rfl).2, (v_vx _ z w 1 rfl).1, (v_vx _ z w 1 rfl).2]
  rw [hF, v_vec_Dot]
  rintro x rfl z rfl y rfl w rfl t5 e5 j6 rfl t7 e7 j8 rfl t9 e9 t10 e10 t11 e11
  refine ⟨may2_of hx hz, ?_⟩
  by_cases hp : mayF (mulI x z)
  · rw [e9, err_may hp]
    refine ⟨may2_of hy hw, ?_⟩
    by_cases hq : mayF (mulI y w)
    · rw [e10, err_may hq]
      have h6 : j6 = mulI x z := by rw [e5, num_may hp]
      have h8 : j8 = mulI y w := by rw [e7, num_may hq]
      refine ⟨may2_of (by rw [h6]; exact hp) (by rw [h8]; exact hq), ?_⟩
      rw [dotN_ok hp hq, dotE_ok hp hq, e11, h6, h8]
    · rw [e10, err_not hq, dotN_no (fun h => hq h.2), dotE_no (fun h => hq h.2)]; rfl
  · rw [e9, err_not hp, dotN_no (fun h => hp h.1), dotE_no (fun h => hp h.1)]; rfl
theorem c_r_Dot : Contract Try.prog f_perigeeref1_Dot spRDot := by
  refine contract_of (N := Nt) 3 (knowOf (fun g sp h => ctrst h) (fun _ _ => rfl) (fun _ => rfl) 3) ?_
  intro l bs _ _ hp
  obtain ⟨x, y, z, w, rfl, rfl, ⟨hx, hy⟩, hz, hw⟩ := hp
  have hF : spRDot.F [vx x y, vx z w] [] = (gotV (dotN (mulI x z) (mulI y w)) (dotE (mulI x z) (mulI y w)), []) := by
    show (gotV (dotN (mulI (v2 [vx x y, vx z w] 0) (v2 [vx x y, vx z w] 1)) (mulI (vy [vx x y, vx z w] 0) (vy [vx x y, vx z w] 1))) (dotE (mulI (v2 [vx x y, vx z w] 0) (v2 [vx x y, vx z w] 1)) (mulI (vy [vx x y, vx z w] 0) (vy [vx x y, vx z w] 1))), ([] : List Blk)) = _
    rw [(v_vx _ x y 0 rfl).1, (v_vx _ x y 0 rfl).2, (v_vx _ z w 1 rfl).1, (v_vx _ z w 1 rfl).2]
  rw [hF, v_r_Dot]
  rintro x rfl z rfl y rfl w rfl t5 e5 j6 rfl t7 e7 j8 rfl t9 e9 j10 rfl t11 e11 j12 rfl t13 e13 t14 e14 t15 e15 t16 e16
  refine ⟨may2_of hx hz, may2_of hy hw, ⟨_, _, _, _, rfl, rfl⟩, ?_⟩
  simp only [err_zero] at e9 e11
  by_cases hb : mayF (mulI x z) ∧ mayF (mulI y w)
  · rw [if_pos hb] at e9 e11
    rw [e13, e14, err_may hb.1, err_may hb.2, if_pos rfl] at e16
    rw [e16]
    have h6 : j10 = mulI x z := by rw [e9, e5, num_may hb.1]
    have h8 : j12 = mulI y w := by rw [e11, e7, num_may hb.2]
    refine ⟨may2_of (by rw [h6]; exact hb.1) (by rw [h8]; exact hb.2), ?_⟩
    rw [dotN_ok hb.1 hb.2, dotE_ok hb.1 hb.2, e15, h6, h8]; rfl
  · rw [dotN_no hb, dotE_no hb]
    have h16 : t16 = 3 := by
      rw [e16, e13, e14]
      by_cases h1 : mayF (mulI x z)
      · rw [err_may h1, if_pos rfl, err_not (fun h => hb ⟨h1, h⟩)]
      · rw [err_not h1, if_neg (by decide)]
    rw [h16]; rfl
theorem ctrst1 : ∀ {g : FuncId} {sp : Vs.Spec}, Γt1 g = some sp → Contract Try.prog g sp := ext_ok c_vec_Dot (ext_ok c_r_Dot ctrst)
theorem c_vec_Len2 : Contract Try.prog f_vec_Len2 spLen2 := by
  refine contract_of (N := Nt1) 3 (knowOf (fun g sp h => ctrst1 h) (fun _ _ => rfl) (fun _ => rfl) 3) ?_
  intro l bs _ _ hp
  obtain ⟨x, y, rfl, rfl, hx, hy⟩ := hp
  have hF : spLen2.F [vx x y] [] = (.tup [fx (dotN (mulI x x) (mulI y y)), .int .i64 (dotE (mulI x x) (mulI y y))], []) := by
    show (IV.tup [fx (dotN (mulI (v2 [vx x y] 0) (v2 [vx x y] 0)) (mulI (vy [vx x y] 0) (vy [vx x y] 0))), .int .i64 (dotE (mulI (v2 [vx x y] 0) (v2 [vx x y] 0)) (mulI (vy [vx x y] 0) (vy [vx x y] 0)))], ([] : List Blk)) = _
    rw [(v_vx _ x y 0 rfl).1, (v_vx _ x y 0 rfl).2]
  rw [hF, v_vec_Len2]
  rintro x rfl y rfl t3 rfl t4 rfl t5 rfl
  exact ⟨vmay2_of hx hy hx hy, rfl⟩
theorem c_r_Len2 : Contract Try.prog f_perigeeref1_Len2 spRLen2 := by
  refine contract_of (N := Nt1) 3 (knowOf (fun g sp h => ctrst1 h) (fun _ _ => rfl) (fun _ => rfl) 3) ?_
  intro l bs _ _ hp
  obtain ⟨x, y, rfl, rfl, hx, hy⟩ := hp
  have hF : spRLen2.F [vx x y] [] = (gotV (dotN (mulI x x) (mulI y y)) (dotE (mulI x x) (mulI y y)), []) := by
    show (gotV (dotN (mulI (v2 [vx x y] 0) (v2 [vx x y] 0)) (mulI (vy [vx x y] 0) (vy [vx x y] 0))) (dotE (mulI (v2 [vx x y] 0) (v2 [vx x y] 0)) (mulI (vy [vx x y] 0) (vy [vx x y] 0))), ([] : List Blk)) = _
    rw [(v_vx _ x y 0 rfl).1, (v_vx _ x y 0 rfl).2]
  rw [hF, v_r_Len2]
  rintro x rfl y rfl t3 rfl t4 rfl t5 rfl
  exact ⟨vmay2_of hx hy hx hy, rfl⟩
theorem ctrst2 : ∀ {g : FuncId} {sp : Vs.Spec}, Γt2 g = some sp → Contract Try.prog g sp := ext_ok c_vec_Len2 (ext_ok c_r_Len2 ctrst1)
theorem dot_zero {p q : Int} (h : dotE p q ≠ 0) : dotN p q = 0 := by
  unfold dotE dotN at *
  split at h
  · rename_i hb
    rw [if_pos hb]
    exact num_not (fun h' => h (err_may h'))
  · rename_i hb; rw [if_neg hb]
theorem c_vec_Len : Contract Try.prog f_vec_Len spVLen := by
  refine contract_of (N := Nt2) 3 (knowOf (fun g sp h => ctrst2 h) (fun _ _ => rfl) (fun _ => rfl) 3) ?_
  intro l bs _ _ hp
  obtain ⟨x, y, rfl, rfl, hx, hy⟩ := hp
  have hF : spVLen.F [vx x y] [] = (.tup [fx (lenN (mulI x x) (mulI y y)), .int .i64 (lenE (mulI x x) (mulI y y))], []) := by
    show (IV.tup [fx (lenN (mulI (v2 [vx x y] 0) (v2 [vx x y] 0)) (mulI (vy [vx x y] 0) (vy [vx x y] 0))), .int .i64 (lenE (mulI (v2 [vx x y] 0) (v2 [vx x y] 0)) (mulI (vy [vx x y] 0) (vy [vx x y] 0)))], ([] : List Blk)) = _
    rw [(v_vx _ x y 0 rfl).1, (v_vx _ x y 0 rfl).2]
  rw [hF, v_vec_Len]
  rintro x rfl y rfl t3 e3 j4 rfl t5 e5 t6 e6
  refine ⟨vmay1_of hx hy, ?_⟩
  unfold lenN lenE
  rw [br_bne, ← e6, ← e3]
  refine ⟨fun h => by rw [if_neg h, if_neg h]; rfl, fun h => ⟨may1_of (by rw [e3]; exact dotN_is _ _), by rw [if_pos h, if_pos h, ← e5]⟩⟩
theorem c_r_Length : Contract Try.prog f_perigeeref1_Length spRLength := by
  refine contract_of (N := Nt2) 3 (knowOf (fun g sp h => ctrst2 h) (fun _ _ => rfl) (fun _ => rfl) 3) ?_
  intro l bs _ _ hp
  obtain ⟨x, y, rfl, rfl, hx, hy⟩ := hp
  have hF : spRLength.F [vx x y] [] = (gotV (lenN (mulI x x) (mulI y y)) (lenE (mulI x x) (mulI y y)), []) := by
    show (gotV (lenN (mulI (v2 [vx x y] 0) (v2 [vx x y] 0)) (mulI (vy [vx x y] 0) (vy [vx x y] 0))) (lenE (mulI (v2 [vx x y] 0) (v2 [vx x y] 0)) (mulI (vy [vx x y] 0) (vy [vx x y] 0))), ([] : List Blk)) = _
    rw [(v_vx _ x y 0 rfl).1, (v_vx _ x y 0 rfl).2]
  rw [hF, v_r_Length]
  rintro x rfl y rfl t3 e3 j4 rfl t5 e5 t6 e6
  refine ⟨vmay1_of hx hy, ?_⟩
  unfold lenN lenE
  rw [br_bne, ← e6, ← e3]
  refine ⟨fun h => ?_, fun h => ⟨may1_of (by rw [e3]; exact dotN_is _ _), by rw [if_pos h, if_pos h, ← e5]; rfl⟩⟩
  rw [if_neg h, if_neg h]
  have : j4 = 0 := by rw [e3]; exact dot_zero (by rw [← e6]; exact h)
  rw [this]; rfl
theorem ctrst3 : ∀ {g : FuncId} {sp : Vs.Spec}, Γt3 g = some sp → Contract Try.prog g sp := ext_ok c_vec_Len (ext_ok c_r_Length ctrst2)
theorem len_345 : lenN 166020696663385964544 295147905179352825856 = 92233720368547758080 := by
  unfold lenN
  have h1 : mayF 166020696663385964544 := ⟨by decide, by decide⟩
  have h2 : mayF 295147905179352825856 := ⟨by decide, by decide⟩
  have h3 : mayF 461168601842738790400 := ⟨by decide, by decide⟩
  rw [dotE_ok h1 h2, dotN_ok h1 h2, show (166020696663385964544 : Int) + 295147905179352825856 = 461168601842738790400 from rfl, err_may h3, num_may h3, if_pos rfl]
  unfold sqN
  rw [if_neg (by decide)]
  exact sqrtI_eq ⟨by decide, by decide, by decide⟩
theorem c_awake4 : Contract Try.prog f_perigeelaw4_awake (spTrue preNone) := by
  refine contract_of (N := Nt3) 3 (knowOf (fun g sp h => ctrst3 h) (fun _ _ => rfl) (fun _ => rfl) 3) ?_
  intro l bs _ _ hp
  obtain ⟨rfl, rfl⟩ := hp
  rw [v_awake4]
  rintro t1 e1 c2 e2
  have h3 : mayF 55340232221128654848 := ⟨by decide, by decide⟩
  have h4 : mayF 73786976294838206464 := ⟨by decide, by decide⟩
  have : c2 = true := by rw [e2, e1, len_345]; rfl
  rw [this]
  exact ⟨preI_of ⟨by decide, by decide⟩, preI_of ⟨by decide, by decide⟩, ⟨55340232221128654848, 73786976294838206464, rfl, rfl, h3, h4⟩, preI_of ⟨by decide, by decide⟩, preI_of ⟨by decide, by decide⟩, rfl⟩
theorem ctrst4 : ∀ {g : FuncId} {sp : Vs.Spec}, Γt4 g = some sp → Contract Try.prog g sp := ext_ok c_awake4 ctrst3
def pWay (l : List IV) (bs : List Blk) : Prop := ∃ x y e a b f, l = [vx x y, .int .i64 e, wayG a b f] ∧ bs = [] ∧ i64ok e ∧ i64ok f
noncomputable def spWay : Vs.Spec := ⟨pWay, fun l _ => (.bool (decide (v2 l 0 = v2 l 2) && decide (vy l 0 = vy l 2) && decide (argI l 1 0 = argI l 2 4)), [])⟩
theorem v_wayG (l : List IV) (a b e : Int) (i : Nat) (h : nthR l i = some (wayG a b e)) : v2 l i = a ∧ vy l i = b ∧ argI l i 4 = e := by
  have : ∀ j, argI l i j = argI [wayG a b e] 0 j := by
    intro j; unfold argI; rw [h]; rfl
  unfold v2 vy
  rw [this 0, this 1, this 2, this 3, this 4]
  exact ⟨jn a, jn b, rfl⟩
theorem dec_beq (e f : Int) : decide (e = f) = (e == f) := by rw [Bool.eq_iff_iff, decide_eq_true_iff, beq_iff_eq]
theorem c_way : Contract Try.prog f_perigeelaw4_way spWay := by
  refine contract_of (N := Nt3) 3 (knowOf (fun g sp h => ctrst3 h) (fun _ _ => rfl) (fun _ => rfl) 3) ?_
  intro l bs _ _ hp
  obtain ⟨x, y, e, a, b, f, rfl, rfl, he, hf⟩ := hp
  have hF : spWay.F [vx x y, .int .i64 e, wayG a b f] [] = (.bool (decide (x = a) && decide (y = b) && decide (e = f)), []) := by
    show (IV.bool (decide (v2 [vx x y, .int .i64 e, wayG a b f] 0 = v2 [vx x y, .int .i64 e, wayG a b f] 2) && decide (vy [vx x y, .int .i64 e, wayG a b f] 0 = vy [vx x y, .int .i64 e, wayG a b f] 2) && decide (e = argI [vx x y, .int .i64 e, wayG a b f] 2 4)), ([] : List Blk)) = _
    rw [(v_vx _ x y 0 rfl).1, (v_vx _ x y 0 rfl).2, (v_wayG _ a b f 2 rfl).1, (v_wayG _ a b f 2 rfl).2.1, (v_wayG _ a b f 2 rfl).2.2]
  rw [hF, v_way, dec_beq e f]
  rintro b1 rfl d2 rfl
  refine br_or (fun h => ⟨preI_of he, ?_⟩) fun h => ?_
  · rw [h, Bool.true_and]
  · rw [h, Bool.false_and]
def pGot (l : List IV) (bs : List Blk) : Prop := ∃ x e a f, l = [fx x, .int .i64 e, gotV a f] ∧ bs = [] ∧ i64ok e ∧ i64ok f
theorem c_got : Contract Try.prog f_perigeelaw4_got spIs := by
  refine contract_of (N := Nt3) 3 (knowOf (fun g sp h => ctrst3 h) (fun _ _ => rfl) (fun _ => rfl) 3) ?_
  intro l bs _ _ hp
  obtain ⟨x, y, e, f, rfl, rfl, he, hf⟩ := hp
  have hF : spIs.F [fx x, .int .i64 e, gotV y f] [] = (.bool (decide (x = y) && decide (e = f)), []) := by
    show (IV.bool (decide (v2 [fx x, .int .i64 e, gotV y f] 0 = v2 [fx x, .int .i64 e, gotV y f] 2) && decide (e = argI [fx x, .int .i64 e, gotV y f] 2 2)), ([] : List Blk)) = _
    rw [v2_fx _ x 0 rfl, (v2_got _ y f 2 rfl).1, (v2_got _ y f 2 rfl).2]
  rw [hF, v_got, dec_beq e f]
  rintro b1 rfl
  refine br_or (fun h => ⟨preI_of he, ?_⟩) fun h => ?_
  · rw [h, Bool.true_and]
  · rw [h, Bool.false_and]
end Go.Vs.RF

set_option linter.unusedVariables false
/- VecAll, VecSigns, VecSums, VecLengths, VecWhole: what they come to -/
namespace Go.Vs.RF
open Go Go.Proofs Go.Vs
noncomputable def Γu : FuncId → Option Vs.Spec := fun g => if g = f_perigeelaw4_way then some spWay else if g = f_perigeelaw4_got then some spIs else Γt4 g
noncomputable def Nu : Know := ⟨Γu, fun _ _ => none, fun _ => none⟩
theorem v_VecAll (x y z w k : Int) (K : IV → List Blk → Prop) : (comes Try.prog Nu 3 f_perigeelaw4_VecAll [vx x y, vx z w, fx k] [] K) = (∀ (j1 : Int), j1 = x → ∀ (j2 : Int), j2 = y → ∀ (j3 : Int), j3 = z → ∀ (j4 : Int), j4 = w → ∀ (j5 : Int), j5 = k → ∀ (t6 : Int), t6 = dotN (mulI j1 j3) (mulI j2 j4) → ∀ (j7 : Int), j7 = t6 → ∀ (t8 : Int), t8 = dotN (mulI j1 j1) (mulI j2 j2) → ∀ (j9 : Int), j9 = t8 → ∀ (t10 : Int), t10 = lenN (mulI j1 j1) (mulI j2 j2) → ∀ (j11 : Int), j11 = t10 → ∀ (t12 : Int), t12 = n2 (mulI j1 j5) (mulI j2 j5) (mulI j1 j5) → ∀ (j13 : Int), j13 = t12 → ∀ (t14 : Int), t14 = n2 (mulI j1 j5) (mulI j2 j5) (mulI j2 j5) → ∀ (j15 : Int), j15 = t14 → ∀ (t16 : Int), t16 = n2 (j1 + j3) (j2 + j4) (j1 + j3) → ∀ (j17 : Int), j17 = t16 → ∀ (t18 : Int), t18 = n2 (j1 + j3) (j2 + j4) (j2 + j4) → ∀ (j19 : Int), j19 = t18 → ∀ (t20 : Int), t20 = n2 (j1 - j3) (j2 - j4) (j1 - j3) → ∀ (j21 : Int), j21 = t20 → ∀ (t22 : Int), t22 = n2 (j1 - j3) (j2 - j4) (j2 - j4) → ∀ (j23 : Int), j23 = t22 → ∀ (t24 : Int), t24 = mulI j1 j1 → ∀ (t25 : Int), t25 = mulI j2 j2 → ∀ (t26 : Int), t26 = e2 (mulI j1 j5) (mulI j2 j5) → ∀ (t27 : Int), t27 = dotE (mulI j1 j3) (mulI j2 j4) → ∀ (t28 : Int), t28 = dotE t24 t25 → ∀ (t29 : Int), t29 = lenE t24 t25 → ∀ (t30 : Int), t30 = e2 (j1 + j3) (j2 + j4) → ∀ (t31 : Int), t31 = e2 (j1 - j3) (j2 - j4) → ∀ (b32 : Bool), b32 = decide (-j2 = -j2) → ∀ (d33 : Bool), d33 = (decide (-j1 = -j1) && b32) → vin1 [vx x y] [] ∧ vin1 [vx x y] [] ∧ br (!(decide ((-170141183460469231731687303715884105728 : Int) < j1) && decide ((-170141183460469231731687303715884105728 : Int) < j2)) == (decide ((-170141183460469231731687303715884105728 : Int) < j1) && decide ((-170141183460469231731687303715884105728 : Int) < j2))) (K (IV.bool false) []) (vin1 [vx x y] [] ∧ br (!(decide ((-170141183460469231731687303715884105728 : Int) < j1) && decide ((-170141183460469231731687303715884105728 : Int) < j2))) (preNone [] [] ∧ K (IV.bool true) []) (vin1 [vx z w] [] ∧ br (!(decide ((-170141183460469231731687303715884105728 : Int) < j3) && decide ((-170141183460469231731687303715884105728 : Int) < j4))) (preNone [] [] ∧ K (IV.bool true) []) (preF [fx k] [] ∧ br (!decide ((-170141183460469231731687303715884105728 : Int) < j5)) (preNone [] [] ∧ K (IV.bool true) []) (vmay2 [vx x y, vx z w] [] ∧ vmay2 [vx x y, vx z w] [] ∧ vmayk [vx x y, fx k] [] ∧ vmay2 [vx x y, vx z w] [] ∧ vmay1 [vx x y] [] ∧ vmay1 [vx x y] [] ∧ vmay1 [vx x y] [] ∧ vmay1 [vx x y] [] ∧ br d33 (vmay2 [vx x y, vx z w] [] ∧ pWay [vx t16 t18, IV.int IntKind.i64 t30, IV.agg [IV.int IntKind.i64 (t16 / (18446744073709551616 : Int)), IV.int IntKind.u64 (t16 % (18446744073709551616 : Int)), IV.int IntKind.i64 (t18 / (18446744073709551616 : Int)), IV.int IntKind.u64 (t18 % (18446744073709551616 : Int)), IV.int IntKind.i64 t30]] [] ∧ br (decide (j17 = j17) && decide (j19 = j19) && decide (t30 = t30)) (vmay2 [vx x y, vx z w] [] ∧ pWay [vx t20 t22, IV.int IntKind.i64 t31, IV.agg [IV.int IntKind.i64 (t20 / (18446744073709551616 : Int)), IV.int IntKind.u64 (t20 % (18446744073709551616 : Int)), IV.int IntKind.i64 (t22 / (18446744073709551616 : Int)), IV.int IntKind.u64 (t22 % (18446744073709551616 : Int)), IV.int IntKind.i64 t31]] [] ∧ br (decide (j21 = j21) && decide (j23 = j23) && decide (t31 = t31)) (vmayk [vx x y, fx k] [] ∧ pWay [vx t12 t14, IV.int IntKind.i64 t26, IV.agg [IV.int IntKind.i64 (t12 / (18446744073709551616 : Int)), IV.int IntKind.u64 (t12 % (18446744073709551616 : Int)), IV.int IntKind.i64 (t14 / (18446744073709551616 : Int)), IV.int IntKind.u64 (t14 % (18446744073709551616 : Int)), IV.int IntKind.i64 t26]] [] ∧ br (decide (j13 = j13) && decide (j15 = j15) && decide (t26 = t26)) (vmay2 [vx x y, vx z w] [] ∧ preIs [fx t6, IV.int IntKind.i64 t27, IV.agg [IV.int IntKind.i64 (t6 / (18446744073709551616 : Int)), IV.int IntKind.u64 (t6 % (18446744073709551616 : Int)), IV.int IntKind.i64 t27]] [] ∧ br (decide (j7 = j7) && decide (t27 = t27)) (vmay1 [vx x y] [] ∧ preIs [fx t8, IV.int IntKind.i64 t28, IV.agg [IV.int IntKind.i64 (t8 / (18446744073709551616 : Int)), IV.int IntKind.u64 (t8 % (18446744073709551616 : Int)), IV.int IntKind.i64 t28]] [] ∧ br (decide (j9 = j9) && decide (t28 = t28)) (vmay1 [vx x y] [] ∧ preIs [fx t10, IV.int IntKind.i64 t29, IV.agg [IV.int IntKind.i64 (t10 / (18446744073709551616 : Int)), IV.int IntKind.u64 (t10 % (18446744073709551616 : Int)), IV.int IntKind.i64 t29]] [] ∧ br (decide (j11 = j11) && decide (t29 = t29)) (preNone [] [] ∧ K (IV.bool true) []) (K (IV.bool false) [])) (K (IV.bool false) [])) (K (IV.bool false) [])) (K (IV.bool false) [])) (K (IV.bool false) [])) (K (IV.bool false) [])) (K (IV.bool false) [])))))) := by refine nj ?_; refine nj ?_; refine nj ?_; refine nj ?_; refine nj ?_; refine nm ?_; refine nj ?_; refine nm ?_; refine nj ?_; refine nm ?_; refine nj ?_; refine nm ?_; refine nj ?_; refine nm ?_; refine nj ?_; refine nm ?_; refine nj ?_; refine nm ?_; refine nj ?_; refine nm ?_; refine nj ?_; refine nm ?_; refine nj ?_; refine nm ?_; refine nm ?_; refine nm ?_; refine nm ?_; refine nm ?_; refine nm ?_; refine nm ?_; refine nm ?_; refine nb ?_; refine nbr ?_; kernel_rfl
theorem v_VecSigns (x y z w k : Int) (K : IV → List Blk → Prop) : (comes Try.prog Nu 3 f_perigeelaw4_VecSigns [vx x y, vx z w, fx k] [] K) = (∀ (j1 : Int), j1 = x → ∀ (j2 : Int), j2 = y → ∀ (j3 : Int), j3 = z → ∀ (j4 : Int), j4 = w → ∀ (j5 : Int), j5 = k → ∀ (t6 : Int), t6 = -j5 → ∀ (j7 : Int), j7 = t6 → ∀ (t8 : Int), t8 = -j1 → ∀ (j9 : Int), j9 = t8 → ∀ (t10 : Int), t10 = -j2 → ∀ (j11 : Int), j11 = t10 → ∀ (t12 : Int), t12 = dotN (mulI j1 j3) (mulI j2 j4) → ∀ (j13 : Int), j13 = t12 → ∀ (t14 : Int), t14 = n2 (mulI j1 j5) (mulI j2 j5) (mulI j1 j5) → ∀ (j15 : Int), j15 = t14 → ∀ (t16 : Int), t16 = n2 (mulI j1 j5) (mulI j2 j5) (mulI j2 j5) → ∀ (j17 : Int), j17 = t16 → ∀ (t18 : Int), t18 = mulI j1 j7 → ∀ (t19 : Int), t19 = mulI j2 j7 → ∀ (t20 : Int), t20 = mulI j9 j5 → ∀ (t21 : Int), t21 = mulI j11 j5 → ∀ (t22 : Int), t22 = mulI j3 j1 → ∀ (t23 : Int), t23 = mulI j4 j2 → ∀ (t24 : Int), t24 = mulI j9 j3 → ∀ (t25 : Int), t25 = mulI j11 j4 → ∀ (t26 : Int), t26 = mulI j1 j1 → ∀ (t27 : Int), t27 = mulI j2 j2 → ∀ (t28 : Int), t28 = mulI j9 j9 → ∀ (t29 : Int), t29 = mulI j11 j11 → ∀ (t30 : Int), t30 = e2 (mulI j1 j5) (mulI j2 j5) → ∀ (t31 : Int), t31 = dotN t22 t23 → ∀ (t32 : Int), t32 = dotE (mulI j1 j3) (mulI j2 j4) → ∀ (t33 : Int), t33 = dotN t24 t25 → ∀ (t34 : Int), t34 = lenN t26 t27 → ∀ (t35 : Int), t35 = lenN t28 t29 → ∀ (t36 : Int), t36 = n2 t18 t19 t18 → ∀ (t37 : Int), t37 = n2 t18 t19 t19 → ∀ (t38 : Int), t38 = n2 t20 t21 t20 → ∀ (t39 : Int), t39 = n2 t20 t21 t21 → ∀ (b40 : Bool), b40 = decide (t12 = t31) → ∀ (b41 : Bool), b41 = decide (t34 = t35) → ∀ (b42 : Bool), b42 = decide (t37 = -j17) → ∀ (d43 : Bool), d43 = (decide (t36 = -j15) && b42) → ∀ (b44 : Bool), b44 = decide (t39 = -j17) → ∀ (d45 : Bool), d45 = (decide (t38 = -j15) && b44) → ∀ (b46 : Bool), b46 = decide (t33 = -j13) → vin1 [vx x y] [] ∧ br (!(decide ((-170141183460469231731687303715884105728 : Int) < j1) && decide ((-170141183460469231731687303715884105728 : Int) < j2))) (preNone [] [] ∧ K (IV.bool true) []) (vin1 [vx z w] [] ∧ br (!(decide ((-170141183460469231731687303715884105728 : Int) < j3) && decide ((-170141183460469231731687303715884105728 : Int) < j4))) (preNone [] [] ∧ K (IV.bool true) []) (preF [fx k] [] ∧ br (!decide ((-170141183460469231731687303715884105728 : Int) < j5)) (preNone [] [] ∧ K (IV.bool true) []) (vmayk [vx x y, fx k] [] ∧ may1 [fx k] [] ∧ vmayk [vx x y, fx t6] [] ∧ vmay1 [vx x y] [] ∧ vmayk [vx t8 t10, fx k] [] ∧ vmay2 [vx x y, vx z w] [] ∧ vmay2 [vx z w, vx x y] [] ∧ vmay1 [vx x y] [] ∧ vmay2 [vx t8 t10, vx z w] [] ∧ vmay1 [vx x y] [] ∧ vmay1 [vx x y] [] ∧ vmay1 [vx t8 t10] [] ∧ br (t30 == e2 t18 t19) (br (t30 == e2 t20 t21) (vmay1 [vx t14 t16] [] ∧ br d43 (vmay1 [vx t14 t16] [] ∧ br d45 (br b40 (br (t32 == dotE t22 t23) (may1 [fx t12] [] ∧ br b46 (br (t32 == dotE t24 t25) (br b41 (br (lenE t26 t27 == lenE t28 t29) (preNone [] [] ∧ K (IV.bool true) []) (K (IV.bool false) [])) (K (IV.bool false) [])) (K (IV.bool false) [])) (K (IV.bool false) [])) (K (IV.bool false) [])) (K (IV.bool false) [])) (K (IV.bool false) [])) (K (IV.bool false) [])) (K (IV.bool false) [])) (K (IV.bool false) []))))) := by refine nj ?_; refine nj ?_; refine nj ?_; refine nj ?_; refine nj ?_; refine nm ?_; refine nj ?_; refine nm ?_; refine nj ?_; refine nm ?_; refine nj ?_; refine nm ?_; refine nj ?_; refine nm ?_; refine nj ?_; refine nm ?_; refine nj ?_; refine nm ?_; refine nm ?_; refine nm ?_; refine nm ?_; refine nm ?_; refine nm ?_; refine nm ?_; refine nm ?_; refine nm ?_; refine nm ?_; refine nm ?_; refine nm ?_; refine nm ?_; refine nm ?_; refine nm ?_; refine nm ?_; refine nm ?_; refine nm ?_; refine nm ?_; refine nm ?_; refine nm ?_; refine nm ?_; refine nb ?_; refine nb ?_; refine nb ?_; refine nbr ?_; refine nb ?_; refine nbr ?_; refine nb ?_; kernel_rfl
theorem v_VecSums (x y z w : Int) (K : IV → List Blk → Prop) : (comes Try.prog Nu 3 f_perigeelaw4_VecSums [vx x y, vx z w] [] K) = (∀ (j1 : Int), j1 = x → ∀ (j2 : Int), j2 = y → ∀ (j3 : Int), j3 = z → ∀ (j4 : Int), j4 = w → ∀ (t5 : Int), t5 = -j1 → ∀ (j6 : Int), j6 = t5 → ∀ (t7 : Int), t7 = -j2 → ∀ (j8 : Int), j8 = t7 → ∀ (t9 : Int), t9 = n2 (j1 + j3) (j2 + j4) (j1 + j3) → ∀ (j10 : Int), j10 = t9 → ∀ (t11 : Int), t11 = n2 (j1 + j3) (j2 + j4) (j2 + j4) → ∀ (j12 : Int), j12 = t11 → ∀ (t13 : Int), t13 = e2 (j1 + j6) (j2 + j8) → ∀ (t14 : Int), t14 = e2 (j1 - j1) (j2 - j2) → ∀ (t15 : Int), t15 = e2 (j1 + j3) (j2 + j4) → ∀ (t16 : Int), t16 = e2 (j10 - j3) (j12 - j4) → ∀ (t17 : Int), t17 = n2 (j1 + j6) (j2 + j8) (j1 + j6) → ∀ (t18 : Int), t18 = n2 (j1 + j6) (j2 + j8) (j2 + j8) → ∀ (t19 : Int), t19 = n2 (j1 - j1) (j2 - j2) (j1 - j1) → ∀ (t20 : Int), t20 = n2 (j1 - j1) (j2 - j2) (j2 - j2) → ∀ (t21 : Int), t21 = n2 (j10 - j3) (j12 - j4) (j10 - j3) → ∀ (t22 : Int), t22 = n2 (j10 - j3) (j12 - j4) (j12 - j4) → ∀ (c23 : Bool), c23 = decide (t18 = (0 : Int)) → ∀ (e24 : Bool), e24 = (decide (t17 = (0 : Int)) && c23) → ∀ (c25 : Bool), c25 = decide (t11 = (0 : Int)) → ∀ (e26 : Bool), e26 = (decide (t9 = (0 : Int)) && c25) → ∀ (b27 : Bool), b27 = decide (t20 = t18) → ∀ (d28 : Bool), d28 = (decide (t19 = t17) && b27) → ∀ (b29 : Bool), b29 = decide (t22 = y) → ∀ (d30 : Bool), d30 = (decide (t21 = x) && b29) → vin1 [vx x y] [] ∧ br (!(decide ((-170141183460469231731687303715884105728 : Int) < j1) && decide ((-170141183460469231731687303715884105728 : Int) < j2))) (preNone [] [] ∧ K (IV.bool true) []) (vin1 [vx z w] [] ∧ br (!(decide ((-170141183460469231731687303715884105728 : Int) < j3) && decide ((-170141183460469231731687303715884105728 : Int) < j4))) (preNone [] [] ∧ K (IV.bool true) []) (vmay2 [vx x y, vx z w] [] ∧ vmay1 [vx x y] [] ∧ vmay2 [vx x y, vx t5 t7] [] ∧ vmay2 [vx x y, vx x y] [] ∧ br (!e24) (K (IV.bool false) []) (br (!d28) (K (IV.bool false) []) (preI [IV.int IntKind.i64 t13] [] ∧ preI [IV.int IntKind.i64 t14] [] ∧ br (IntKind.i64.wrap (t13 + t14) != (0 : Int)) (K (IV.bool false) []) (preI [IV.int IntKind.i64 t15] [] ∧ br (t15 != (0 : Int)) (preI [IV.int IntKind.i64 t15] [] ∧ br (t15 == (3 : Int)) (br e26 (preNone [] [] ∧ K (IV.bool true) []) (K (IV.bool false) [])) (K (IV.bool false) [])) (vmay2 [vx t9 t11, vx z w] [] ∧ br d30 (preI [IV.int IntKind.i64 t16] [] ∧ br (t16 == (0 : Int)) (preNone [] [] ∧ K (IV.bool true) []) (K (IV.bool false) [])) (K (IV.bool false) [])))))))) := by refine nj ?_; refine nj ?_; refine nj ?_; refine nj ?_; refine nm ?_; refine nj ?_; refine nm ?_; refine nj ?_; refine nm ?_; refine nj ?_; refine nm ?_; refine nj ?_; refine nm ?_; refine nm ?_; refine nm ?_; refine nm ?_; refine nm ?_; refine nm ?_; refine nm ?_; refine nm ?_; refine nm ?_; refine nm ?_; refine nbc (c := 0) (d := 0) (by decide) ?_; refine nbcr (c := 0) (d := 0) (by decide) ?_; refine nbc (c := 0) (d := 0) (by decide) ?_; refine nbcr (c := 0) (d := 0) (by decide) ?_; refine nb ?_; refine nbr ?_; refine nb ?_; refine nbr ?_; kernel_rfl
theorem v_VecLengths (m n x y : Int) (K : IV → List Blk → Prop) : (comes Try.prog Nu 3 f_perigeelaw4_VecLengths [.int .u16 m, .int .u16 n, .int .i32 x, .int .i32 y] [] K) = (∀ (t1 : Int), t1 = absI ((IntKind.i64.wrap x).fdiv (256 : Int) * (18446744073709551616 : Int) + IntKind.u64.wrap y) → ∀ (j2 : Int), j2 = t1 → ∀ (t3 : Int), t3 = absI ((IntKind.i64.wrap y).fdiv (256 : Int) * (18446744073709551616 : Int) + IntKind.u64.wrap x) → ∀ (j4 : Int), j4 = t3 → ∀ (t5 : Int), t5 = (j2 + j4) % (340282366920938463463374607431768211456 : Int) → ∀ (j6 : Int), j6 = t5 → ∀ (t7 : Int), t7 = (j6 + (8589934592 : Int)) % (340282366920938463463374607431768211456 : Int) → ∀ (j8 : Int), j8 = t7 → ∀ (t9 : Int), t9 = mx IntKind.i64 (IntKind.i64.wrap (IntKind.i64.wrap ((-2 : Int) * (IntKind.i64.wrap m).tmod (20000 : Int)) * (IntKind.i64.wrap n).tmod (20000 : Int))) (-9223372036854775807 : Int) * (18446744073709551616 : Int) → ∀ (j10 : Int), j10 = t9 → ∀ (t11 : Int), t11 = mx IntKind.i64 (IntKind.i64.wrap (IntKind.i64.wrap ((IntKind.i64.wrap m).tmod (20000 : Int) * (IntKind.i64.wrap m).tmod (20000 : Int)) - IntKind.i64.wrap ((IntKind.i64.wrap n).tmod (20000 : Int) * (IntKind.i64.wrap n).tmod (20000 : Int)))) (-9223372036854775807 : Int) * (18446744073709551616 : Int) → ∀ (j12 : Int), j12 = t11 → ∀ (t13 : Int), t13 = lenN (mulI ((IntKind.i64.wrap x).fdiv (256 : Int) * (18446744073709551616 : Int) + IntKind.u64.wrap y) ((IntKind.i64.wrap x).fdiv (256 : Int) * (18446744073709551616 : Int) + IntKind.u64.wrap y)) (mulI ((IntKind.i64.wrap y).fdiv (256 : Int) * (18446744073709551616 : Int) + IntKind.u64.wrap x) ((IntKind.i64.wrap y).fdiv (256 : Int) * (18446744073709551616 : Int) + IntKind.u64.wrap x)) → ∀ (j14 : Int), j14 = t13 → ∀ (t15 : Int), t15 = absI j14 → ∀ (j16 : Int), j16 = t15 → ∀ (t17 : Int), t17 = (j16 + (8589934592 : Int)) % (340282366920938463463374607431768211456 : Int) → ∀ (j18 : Int), j18 = t17 → ∀ (t19 : Int), t19 = mulI j12 j12 → ∀ (t20 : Int), t20 = mulI j10 j10 → ∀ (t21 : Int), t21 = lenE t19 t20 → ∀ (t22 : Int), t22 = lenN t19 t20 → ∀ (t23 : Int), t23 = IntKind.i64.wrap ((IntKind.i64.wrap m).tmod (20000 : Int) * (IntKind.i64.wrap m).tmod (20000 : Int)) → ∀ (t24 : Int), t24 = IntKind.i64.wrap ((IntKind.i64.wrap n).tmod (20000 : Int) * (IntKind.i64.wrap n).tmod (20000 : Int)) → ∀ (t25 : Int), t25 = (IntKind.i64.wrap x).fdiv (256 : Int) * (18446744073709551616 : Int) + IntKind.u64.wrap y → ∀ (t26 : Int), t26 = (IntKind.i64.wrap y).fdiv (256 : Int) * (18446744073709551616 : Int) + IntKind.u64.wrap x → ∀ (t27 : Int), t27 = IntKind.i64.wrap (t23 + t24) → ∀ (t28 : Int), t28 = mx IntKind.i64 t27 (-9223372036854775807 : Int) * (18446744073709551616 : Int) → ∀ (t29 : Int), t29 = lenE (mulI t25 t25) (mulI t26 t26) → ∀ (b30 : Bool), b30 = decide (t22 = t28) → (20000 : Int) ≠ (0 : Int) ∧ (20000 : Int) ≠ (0 : Int) ∧ preI [IV.int IntKind.i64 (IntKind.i64.wrap (t23 - t24))] [] ∧ preI [IV.int IntKind.i64 (IntKind.i64.wrap (IntKind.i64.wrap ((-2 : Int) * (IntKind.i64.wrap m).tmod (20000 : Int)) * (IntKind.i64.wrap n).tmod (20000 : Int)))] [] ∧ vmay1 [vx t11 t9] [] ∧ (0 : Int) ≤ (8 : Int) ∧ (0 : Int) ≤ (8 : Int) ∧ vmay1 [IV.agg [IV.int IntKind.i64 ((IntKind.i64.wrap x).fdiv (256 : Int)), IV.int IntKind.u64 (IntKind.u64.wrap y), IV.int IntKind.i64 ((IntKind.i64.wrap y).fdiv (256 : Int)), IV.int IntKind.u64 (IntKind.u64.wrap x)]] [] ∧ may1 [IV.agg [IV.int IntKind.i64 ((IntKind.i64.wrap x).fdiv (256 : Int)), IV.int IntKind.u64 (IntKind.u64.wrap y)]] [] ∧ may1 [IV.agg [IV.int IntKind.i64 ((IntKind.i64.wrap y).fdiv (256 : Int)), IV.int IntKind.u64 (IntKind.u64.wrap x)]] [] ∧ p22 [tw t1, tw t3] [] ∧ may1 [fx t13] [] ∧ p22 [tw t15, IV.agg [IV.int IntKind.u64 (0 : Int), IV.int IntKind.u64 (8589934592 : Int)]] [] ∧ preI [IV.int IntKind.i64 t21] [] ∧ preI [IV.int IntKind.i64 t29] [] ∧ br (IntKind.i64.wrap (t21 + t29) == (0 : Int)) (preI [IV.int IntKind.i64 t27] [] ∧ br b30 (p22 [tw t17, tw t1] [] ∧ br (!decide (j18 < j2)) (p22 [tw t17, tw t3] [] ∧ br (!decide (j18 < j4)) (p22 [tw t5, IV.agg [IV.int IntKind.u64 (0 : Int), IV.int IntKind.u64 (8589934592 : Int)]] [] ∧ may1 [fx t13] [] ∧ p22 [tw t7, tw t15] [] ∧ br (!decide (j8 < j16)) (preNone [] [] ∧ K (IV.bool true) []) (K (IV.bool false) [])) (K (IV.bool false) [])) (K (IV.bool false) [])) (K (IV.bool false) [])) (K (IV.bool false) [])) := by refine nm ?_; refine nj ?_; refine nm ?_; refine nj ?_; refine nm ?_; refine nj ?_; refine nm ?_; refine nj ?_; refine nm ?_; refine nj ?_; refine nm ?_; refine nj ?_; refine nm ?_; refine nj ?_; refine nm ?_; refine nj ?_; refine nm ?_; refine nj ?_; refine nm ?_; refine nm ?_; refine nm ?_; refine nm ?_; refine nm ?_; refine nm ?_; refine nm ?_; refine nm ?_; refine nm ?_; refine nm ?_; refine nm ?_; refine nb ?_; kernel_rfl
theorem v_VecWhole (a b c d k : Int) (K : IV → List Blk → Prop) : (comes Try.prog Nu 3 f_perigeelaw4_VecWhole [.int .i16 a, .int .i16 b, .int .i16 c, .int .i16 d, .int .i16 k] [] K) = (∀ (t1 : Int), t1 = mx IntKind.i64 (IntKind.i64.wrap a) (-9223372036854775807 : Int) * (18446744073709551616 : Int) → ∀ (j2 : Int), j2 = t1 → ∀ (t3 : Int), t3 = mx IntKind.i64 (IntKind.i64.wrap c) (-9223372036854775807 : Int) * (18446744073709551616 : Int) → ∀ (j4 : Int), j4 = t3 → ∀ (t5 : Int), t5 = mx IntKind.i64 (IntKind.i64.wrap b) (-9223372036854775807 : Int) * (18446744073709551616 : Int) → ∀ (j6 : Int), j6 = t5 → ∀ (t7 : Int), t7 = mx IntKind.i64 (IntKind.i64.wrap d) (-9223372036854775807 : Int) * (18446744073709551616 : Int) → ∀ (j8 : Int), j8 = t7 → ∀ (t9 : Int), t9 = mx IntKind.i64 (IntKind.i64.wrap k) (-9223372036854775807 : Int) * (18446744073709551616 : Int) → ∀ (j10 : Int), j10 = t9 → ∀ (t11 : Int), t11 = n2 (mulI j2 j10) (mulI j6 j10) (mulI j2 j10) → ∀ (j12 : Int), j12 = t11 → ∀ (t13 : Int), t13 = n2 (mulI j4 j10) (mulI j8 j10) (mulI j4 j10) → ∀ (j14 : Int), j14 = t13 → ∀ (t15 : Int), t15 = n2 (mulI j2 j10) (mulI j6 j10) (mulI j6 j10) → ∀ (j16 : Int), j16 = t15 → ∀ (t17 : Int), t17 = n2 (mulI j4 j10) (mulI j8 j10) (mulI j8 j10) → ∀ (j18 : Int), j18 = t17 → ∀ (t19 : Int), t19 = n2 (j2 + j4) (j6 + j8) (j2 + j4) → ∀ (j20 : Int), j20 = t19 → ∀ (t21 : Int), t21 = n2 (j2 + j4) (j6 + j8) (j6 + j8) → ∀ (j22 : Int), j22 = t21 → ∀ (t23 : Int), t23 = mulI j20 j10 → ∀ (t24 : Int), t24 = mulI j22 j10 → ∀ (t25 : Int), t25 = mulI j2 j4 → ∀ (t26 : Int), t26 = mulI j6 j8 → ∀ (t27 : Int), t27 = e2 t23 t24 → ∀ (t28 : Int), t28 = e2 (mulI j2 j10) (mulI j6 j10) → ∀ (t29 : Int), t29 = e2 (mulI j4 j10) (mulI j8 j10) → ∀ (t30 : Int), t30 = dotE t25 t26 → ∀ (t31 : Int), t31 = dotN t25 t26 → ∀ (t32 : Int), t32 = n2 t23 t24 t23 → ∀ (t33 : Int), t33 = n2 t23 t24 t24 → ∀ (t34 : Int), t34 = e2 (j2 + j4) (j6 + j8) → ∀ (t35 : Int), t35 = e2 (j12 + j14) (j16 + j18) → ∀ (t36 : Int), t36 = n2 (j12 + j14) (j16 + j18) (j12 + j14) → ∀ (t37 : Int), t37 = n2 (j12 + j14) (j16 + j18) (j16 + j18) → ∀ (t38 : Int), t38 = IntKind.i64.wrap (IntKind.i64.wrap (IntKind.i64.wrap a * IntKind.i64.wrap c) + IntKind.i64.wrap (IntKind.i64.wrap b * IntKind.i64.wrap d)) → ∀ (t39 : Int), t39 = mx IntKind.i64 t38 (-9223372036854775807 : Int) * (18446744073709551616 : Int) → ∀ (b40 : Bool), b40 = decide (t33 = t37) → ∀ (d41 : Bool), d41 = (decide (t32 = t36) && b40) → ∀ (b42 : Bool), b42 = decide (t31 = t39) → preI [IV.int IntKind.i64 (IntKind.i64.wrap a)] [] ∧ preI [IV.int IntKind.i64 (IntKind.i64.wrap b)] [] ∧ preI [IV.int IntKind.i64 (IntKind.i64.wrap c)] [] ∧ preI [IV.int IntKind.i64 (IntKind.i64.wrap d)] [] ∧ preI [IV.int IntKind.i64 (IntKind.i64.wrap k)] [] ∧ vmay2 [vx t1 t5, vx t3 t7] [] ∧ vmayk [vx t19 t21, fx t9] [] ∧ vmayk [vx t1 t5, fx t9] [] ∧ vmayk [vx t3 t7, fx t9] [] ∧ vmay2 [vx t11 t15, vx t13 t17] [] ∧ vmay2 [vx t1 t5, vx t3 t7] [] ∧ preI [IV.int IntKind.i64 t34] [] ∧ preI [IV.int IntKind.i64 t27] [] ∧ preI [IV.int IntKind.i64 t28] [] ∧ preI [IV.int IntKind.i64 t29] [] ∧ preI [IV.int IntKind.i64 t35] [] ∧ preI [IV.int IntKind.i64 t30] [] ∧ br (IntKind.i64.wrap (IntKind.i64.wrap (IntKind.i64.wrap (IntKind.i64.wrap (IntKind.i64.wrap (t34 + t27) + t28) + t29) + t35) + t30) == (0 : Int)) (br d41 (preI [IV.int IntKind.i64 t38] [] ∧ br b42 (preNone [] [] ∧ K (IV.bool true) []) (K (IV.bool false) [])) (K (IV.bool false) [])) (K (IV.bool false) [])) := by refine nm ?_; refine nj ?_; refine nm ?_; refine nj ?_; refine nm ?_; refine nj ?_; refine nm ?_; refine nj ?_; refine nm ?_; refine nj ?_; refine nm ?_; refine nj ?_; refine nm ?_; refine nj ?_; refine nm ?_; refine nj ?_; refine nm ?_; refine nj ?_; refine nm ?_; refine nj ?_; refine nm ?_; refine nj ?_; refine nm ?_; refine nm ?_; refine nm ?_; refine nm ?_; refine nm ?_; refine nm ?_; refine nm ?_; refine nm ?_; refine nm ?_; refine nm ?_; refine nm ?_; refine nm ?_; refine nm ?_; refine nm ?_; refine nm ?_; refine nm ?_; refine nm ?_; refine nb ?_; refine nbr ?_; refine nb ?_; kernel_rfl


end Go.Vs.RF
set_option linter.unusedVariables false
set_option linter.unusedSimpArgs false
set_option maxRecDepth 100000
/- VecAll, VecSigns, VecSums, VecWhole, VecLengths -/
namespace Go.Vs.RF
open Go Go.Proofs Go.Vs Go.IntWalk

theorem ctrsu : ∀ {g : FuncId} {sp : Vs.Spec}, Γu g = some sp → Contract Try.prog g sp := ext_ok c_way (ext_ok c_got ctrst4)
def lawVVF (l : List IV) (bs : List Blk) : Prop := ∃ x y z w k, l = [vx x y, vx z w, fx k] ∧ bs = [] ∧ (inF x ∧ inF y) ∧ (inF z ∧ inF w) ∧ inF k
def lawVV (l : List IV) (bs : List Blk) : Prop := ∃ x y z w, l = [vx x y, vx z w] ∧ bs = [] ∧ (inF x ∧ inF y) ∧ inF z ∧ inF w
theorem br_guard2 {p q : Prop} [Decidable p] [Decidable q] {A B : Prop} (hA : A) (hB : p → q → B) : br (!(decide p && decide q)) A B :=
  br_or (fun _ => hA) (fun h => by simp at h; exact hB h.1 h.2)
theorem lenE_is (p q : Int) : i64ok (lenE p q) := by
  unfold lenE; split
  · exact sqE_is _
  · exact dotE_is _ _
theorem c_VecAll : Contract Try.prog f_perigeelaw4_VecAll (spTrue lawVVF) := by
  refine contract_of (N := Nu) 3 (knowOf (fun g sp h => ctrsu h) (fun _ _ => rfl) (fun _ => rfl) 3) ?_
  intro l bs _ _ hp
  obtain ⟨x, y, z, w, k, rfl, rfl, ⟨hx, hy⟩, ⟨hz, hw⟩, hk⟩ := hp
  rw [v_VecAll]
  rintro x rfl y rfl z rfl w rfl k rfl t6 e6 j7 rfl t8 e8 j9 rfl t10 e10 j11 rfl t12 e12 j13 rfl t14 e14 j15 rfl t16 e16 j17 rfl t18 e18 j19 rfl t20 e20 j21 rfl t22 e22 j23 rfl t24 e24 t25 e25 t26 e26 t27 e27 t28 e28 t29 e29 t30 e30 t31 e31 b32 e32 d33 e33
  refine ⟨vin1_of hx hy, vin1_of hx hy, br_no (by simp) ⟨vin1_of hx hy, br_guard2 ⟨preNone_ok, rfl⟩ fun mx my => ⟨vin1_of hz hw, br_guard2 ⟨preNone_ok, rfl⟩ fun mz mw => ⟨preF_in hk, br_guard ⟨preNone_ok, rfl⟩ fun mk => ?_⟩⟩⟩⟩
  have X := mayF_of hx mx
  have Y := mayF_of hy my
  have Z := mayF_of hz mz
  have W := mayF_of hw mw
  have K := mayF_of hk mk
  have p22 := vmay2_of X Y Z W
  have p1 := vmay1_of X Y
  have pk := vmayk_of X Y K
  have h33 : d33 = true := by rw [e33, e32]; simp
  have o30 : i64ok t30 := by rw [e30]; exact e2_is _ _
  have o31 : i64ok t31 := by rw [e31]; exact e2_is _ _
  have o26 : i64ok t26 := by rw [e26]; exact e2_is _ _
  have o27 : i64ok t27 := by rw [e27]; exact dotE_is _ _
  have o28 : i64ok t28 := by rw [e28]; exact dotE_is _ _
  have o29 : i64ok t29 := by rw [e29]; exact lenE_is _ _
  exact ⟨p22, p22, pk, p22, p1, p1, p1, p1, br_is h33 ⟨p22, ⟨_, _, _, _, _, _, rfl, rfl, o30, o30⟩, br_is (by simp) ⟨p22, ⟨_, _, _, _, _, _, rfl, rfl, o31, o31⟩, br_is (by simp) ⟨pk, ⟨_, _, _, _, _, _, rfl, rfl, o26, o26⟩, br_is (by simp) ⟨p22, ⟨_, _, _, _, rfl, rfl, o27, o27⟩, br_is (by simp) ⟨p1, ⟨_, _, _, _, rfl, rfl, o28, o28⟩, br_is (by simp) ⟨p1, ⟨_, _, _, _, rfl, rfl, o29, o29⟩, br_is (by simp) ⟨preNone_ok, rfl⟩⟩⟩⟩⟩⟩⟩⟩

theorem may_neg_iff (s : Int) : mayF (-s) ↔ mayF s := ⟨fun h => by have := may_neg h; rwa [Int.neg_neg] at this, may_neg⟩
theorem n2_neg (s t v : Int) : n2 (-s) (-t) (-v) = -n2 s t v := by
  unfold n2
  by_cases h : mayF s ∧ mayF t
  · rw [if_pos h, if_pos ⟨may_neg h.1, may_neg h.2⟩]
  · rw [if_neg h, if_neg (fun h' => h ⟨(may_neg_iff s).1 h'.1, (may_neg_iff t).1 h'.2⟩)]; rfl
theorem e2_neg (s t : Int) : e2 (-s) (-t) = e2 s t := by
  unfold e2
  by_cases h : mayF s ∧ mayF t
  · rw [if_pos h, if_pos ⟨may_neg h.1, may_neg h.2⟩]
  · rw [if_neg h, if_neg (fun h' => h ⟨(may_neg_iff s).1 h'.1, (may_neg_iff t).1 h'.2⟩)]
theorem neg_plus (p q : Int) : -p + -q = -(p + q) := by omega
theorem dotN_neg (p q : Int) : dotN (-p) (-q) = -dotN p q := by
  unfold dotN
  rw [neg_plus, numF_neg]
  by_cases h : mayF p ∧ mayF q
  · rw [if_pos h, if_pos ⟨may_neg h.1, may_neg h.2⟩]
  · rw [if_neg h, if_neg (fun h' => h ⟨(may_neg_iff p).1 h'.1, (may_neg_iff q).1 h'.2⟩)]; rfl
theorem dotE_neg (p q : Int) : dotE (-p) (-q) = dotE p q := by
  unfold dotE
  rw [neg_plus, errF_neg]
  by_cases h : mayF p ∧ mayF q
  · rw [if_pos h, if_pos ⟨may_neg h.1, may_neg h.2⟩]
  · rw [if_neg h, if_neg (fun h' => h ⟨(may_neg_iff p).1 h'.1, (may_neg_iff q).1 h'.2⟩)]
theorem mulI_neg2 (x : Int) : mulI (-x) (-x) = mulI x x := by rw [mulI_negl, mulI_negr, Int.neg_neg]
theorem c_VecSigns : Contract Try.prog f_perigeelaw4_VecSigns (spTrue lawVVF) := by
  refine contract_of (N := Nu) 3 (knowOf (fun g sp h => ctrsu h) (fun _ _ => rfl) (fun _ => rfl) 3) ?_
  intro l bs _ _ hp
  obtain ⟨x, y, z, w, k, rfl, rfl, ⟨hx, hy⟩, ⟨hz, hw⟩, hk⟩ := hp
  rw [v_VecSigns]
  rintro x rfl y rfl z rfl w rfl k rfl t6 e6 j7 rfl t8 e8 j9 rfl t10 e10 j11 rfl t12 e12 j13 rfl t14 e14 j15 rfl t16 e16 j17 rfl t18 e18 t19 e19 t20 e20 t21 e21 t22 e22 t23 e23 t24 e24 t25 e25 t26 e26 t27 e27 t28 e28 t29 e29 t30 e30 t31 e31 t32 e32 t33 e33 t34 e34 t35 e35 t36 e36 t37 e37 t38 e38 t39 e39 b40 e40 b41 e41 b42 e42 d43 e43 b44 e44 d45 e45 b46 e46
  refine ⟨vin1_of hx hy, br_guard2 ⟨preNone_ok, rfl⟩ fun mx my => ⟨vin1_of hz hw, br_guard2 ⟨preNone_ok, rfl⟩ fun mz mw => ⟨preF_in hk, br_guard ⟨preNone_ok, rfl⟩ fun mk => ?_⟩⟩⟩
  have X := mayF_of hx mx
  have Y := mayF_of hy my
  have Z := mayF_of hz mz
  have W := mayF_of hw mw
  have K := mayF_of hk mk
  have nK : mayF j7 := by rw [e6]; exact may_neg K
  have nX : mayF j9 := by rw [e8]; exact may_neg X
  have nY : mayF j11 := by rw [e10]; exact may_neg Y
  have f18 : t18 = -mulI x k := by rw [e18, e6, mulI_negr]
  have f19 : t19 = -mulI y k := by rw [e19, e6, mulI_negr]
  have f20 : t20 = -mulI x k := by rw [e20, e8, mulI_negl]
  have f21 : t21 = -mulI y k := by rw [e21, e10, mulI_negl]
  have f24 : t24 = -mulI x z := by rw [e24, e8, mulI_negl]
  have f25 : t25 = -mulI y w := by rw [e25, e10, mulI_negl]
  have f22 : t22 = mulI x z := by rw [e22, mulI_comm]
  have f23 : t23 = mulI y w := by rw [e23, mulI_comm]
  have f28 : t28 = t26 := by rw [e28, e8, mulI_neg2, e26]
  have f29 : t29 = t27 := by rw [e29, e10, mulI_neg2, e27]
  have g1 : (t30 == e2 t18 t19) = true := by rw [f18, f19, e2_neg, e30]; simp
  have g2 : (t30 == e2 t20 t21) = true := by rw [f20, f21, e2_neg, e30]; simp
  have g3 : d43 = true := by rw [e43, e42, e36, e37, f18, f19, n2_neg, n2_neg, e14, e16]; simp
  have g4 : d45 = true := by rw [e45, e44, e38, e39, f20, f21, n2_neg, n2_neg, e14, e16]; simp
  have g5 : b40 = true := by rw [e40, e31, f22, f23, e12]; simp
  have g6 : (t32 == dotE t22 t23) = true := by rw [f22, f23, e32]; simp
  have g7 : b46 = true := by rw [e46, e33, f24, f25, dotN_neg, e12]; simp
  have g8 : (t32 == dotE t24 t25) = true := by rw [f24, f25, dotE_neg, e32]; simp
  have g9 : b41 = true := by rw [e41, e34, e35, f28, f29]; simp
  have g10 : (lenE t26 t27 == lenE t28 t29) = true := by rw [f28, f29]; simp
  have I15 : mayF j15 := by rw [e14]; exact n2_is1 _ _
  have I17 : mayF j17 := by rw [e16]; exact n2_is2 _ _
  have I13 : mayF j13 := by rw [e12]; exact dotN_is _ _
  have p1 := vmay1_of X Y
  have pn := vmay1_of nX nY
  have pv := vmay1_of I15 I17
  rw [g1, g2, g3, g4, g5, g6, g7, g8, g9, g10]
  exact ⟨vmayk_of X Y K, may1_of K, vmayk_of X Y nK, p1, vmayk_of nX nY K, vmay2_of X Y Z W, vmay2_of Z W X Y, p1, vmay2_of nX nY Z W, p1, p1, pn, pv, pv, may1_of I13, preNone_ok, rfl⟩

theorem c_VecSums : Contract Try.prog f_perigeelaw4_VecSums (spTrue lawVV) := by
  refine contract_of (N := Nu) 3 (knowOf (fun g sp h => ctrsu h) (fun _ _ => rfl) (fun _ => rfl) 3) ?_
  intro l bs _ _ hp
  obtain ⟨x, y, z, w, rfl, rfl, ⟨hx, hy⟩, hz, hw⟩ := hp
  rw [v_VecSums]
  rintro x rfl y rfl z rfl w rfl t5 e5 j6 rfl t7 e7 j8 rfl t9 e9 j10 rfl t11 e11 j12 rfl t13 e13 t14 e14 t15 e15 t16 e16 t17 e17 t18 e18 t19 e19 t20 e20 t21 e21 t22 e22 c23 e23 e24 f24 c25 e25 e26 f26 b27 e27 d28 e28 b29 e29 d30 e30
  refine ⟨vin1_of hx hy, br_guard2 ⟨preNone_ok, rfl⟩ fun mx my => ⟨vin1_of hz hw, br_guard2 ⟨preNone_ok, rfl⟩ fun mz mw => ?_⟩⟩
  have X := mayF_of hx mx
  have Y := mayF_of hy my
  have Z := mayF_of hz mz
  have W := mayF_of hw mw
  have nX : mayF j6 := by rw [e5]; exact may_neg X
  have nY : mayF j8 := by rw [e7]; exact may_neg Y
  have s1 : x + j6 = 0 := by omega
  have s2 : y + j8 = 0 := by omega
  have s3 : x - x = 0 := by omega
  have s4 : y - y = 0 := by omega
  rw [s1, s2] at e13 e17 e18
  rw [s3, s4] at e14 e19 e20
  rw [n2_ok _ may_zero may_zero] at e17 e18 e19 e20
  rw [e2_ok may_zero may_zero] at e13 e14
  have h24 : e24 = true := by rw [f24, e23, e17, e18]; rfl
  have h28 : d28 = true := by rw [e28, e27, e17, e18, e19, e20]; rfl
  have ok0 : i64ok 0 := ⟨by decide, by decide⟩
  rw [h24, h28, e13, e14]
  refine ⟨vmay2_of X Y Z W, vmay1_of X Y, vmay2_of X Y nX nY, vmay2_of X Y X Y, preI_of ok0, preI_of ok0, preI_of (by rw [e15]; exact e2_is _ _), ?_⟩
  by_cases hb : mayF (x + z) ∧ mayF (y + w)
  · rw [e2_ok hb.1 hb.2] at e15
    rw [n2_ok _ hb.1 hb.2] at e9 e11
    have d1 : j10 - z = x := by omega
    have d2 : j12 - w = y := by omega
    rw [d1, d2] at e16 e21 e22
    rw [n2_ok _ X Y] at e21 e22
    rw [e2_ok X Y] at e16
    have h30 : d30 = true := by rw [e30, e29, e21, e22]; simp
    rw [e15, h30, e16]
    exact ⟨vmay2_of (by rw [e9]; exact hb.1) (by rw [e11]; exact hb.2) Z W, preI_of ok0, preNone_ok, rfl⟩
  · rw [e2_no hb] at e15
    rw [n2_no _ hb] at e9 e11
    have h26 : e26 = true := by rw [f26, e25, e9, e11]; rfl
    rw [e15, h26]
    exact ⟨preI_of ⟨by decide, by decide⟩, preNone_ok, rfl⟩

def lawI5 (l : List IV) (bs : List Blk) : Prop := ∃ a b c d k, l = [.int .i16 a, .int .i16 b, .int .i16 c, .int .i16 d, .int .i16 k] ∧ bs = [] ∧ (-32768 ≤ a ∧ a < 32768) ∧ (-32768 ≤ b ∧ b < 32768) ∧ (-32768 ≤ c ∧ c < 32768) ∧ (-32768 ≤ d ∧ d < 32768) ∧ -32768 ≤ k ∧ k < 32768
theorem i17_mul {m n : Int} (hm : -65536 ≤ m ∧ m ≤ 65536) (hn : -65536 ≤ n ∧ n ≤ 65536) : -4294967296 ≤ m * n ∧ m * n ≤ 4294967296 := by
  have := part_le (x := absI m) (y := absI n) (m := 65536) (n := 65536) (by unfold absI; split <;> omega) (by unfold absI; split <;> omega) (by unfold absI; split <;> omega) (by unfold absI; split <;> omega)
  rw [← abs_mul] at this
  generalize m * n = q at *
  unfold absI at this
  split at this <;> omega
theorem mxe {k : Int} (h : -9223372036854775807 ≤ k) : mx .i64 k (-9223372036854775807) = k := by unfold mx; rw [if_neg (by omega)]
theorem c_VecWhole : Contract Try.prog f_perigeelaw4_VecWhole (spTrue lawI5) := by
  refine contract_of (N := Nu) 3 (knowOf (fun g sp h => ctrsu h) (fun _ _ => rfl) (fun _ => rfl) 3) ?_
  intro l bs _ _ hp
  obtain ⟨a, b, c, d, k, rfl, rfl, ha, hb, hc, hd, hk⟩ := hp
  have wa : IntKind.i64.wrap a = a := i64_in _ (by omega)
  have wb : IntKind.i64.wrap b = b := i64_in _ (by omega)
  have wc : IntKind.i64.wrap c = c := i64_in _ (by omega)
  have wd' : IntKind.i64.wrap d = d := i64_in _ (by omega)
  have wk : IntKind.i64.wrap k = k := i64_in _ (by omega)
  have hac := i17_mul (m := a) (n := c) (by omega) (by omega)
  have hbd := i17_mul (m := b) (n := d) (by omega) (by omega)
  have hak := i17_mul (m := a) (n := k) (by omega) (by omega)
  have hbk := i17_mul (m := b) (n := k) (by omega) (by omega)
  have hck := i17_mul (m := c) (n := k) (by omega) (by omega)
  have hdk := i17_mul (m := d) (n := k) (by omega) (by omega)
  rw [v_VecWhole, wa, wb, wc, wd', wk, mxe (by omega), mxe (by omega), mxe (by omega), mxe (by omega), mxe (by omega), i64_in (a * c) ⟨by omega, by omega⟩, i64_in (b * d) ⟨by omega, by omega⟩, i64_in (a * c + b * d) ⟨by omega, by omega⟩]
  rintro t1 e1 j2 rfl t3 e3 j4 rfl t5 e5 j6 rfl t7 e7 j8 rfl t9 e9 j10 rfl t11 e11 j12 rfl t13 e13 j14 rfl t15 e15 j16 rfl t17 e17 j18 rfl t19 e19 j20 rfl t21 e21 j22 rfl t23 e23 t24 e24 t25 e25 t26 e26 t27 e27 t28 e28 t29 e29 t30 e30 t31 e31 t32 e32 t33 e33 t34 e34 t35 e35 t36 e36 t37 e37 t38 e38 t39 e39 b40 e40 d41 e41 b42 e42
  have pr : ∀ (u v : Int), mulI (u * 18446744073709551616) (v * 18446744073709551616) = u * v * 18446744073709551616 := fun u v => by rw [mulI_whole, Int.mul_assoc]
  have small : ∀ {q : Int}, -9000000000000000000 ≤ q → q ≤ 9000000000000000000 → mayF (q * 18446744073709551616) := fun h h' => by unfold mayF; omega
  have m2 : mayF j2 := by rw [e1]; exact small (by omega) (by omega)
  have m4 : mayF j4 := by rw [e3]; exact small (by omega) (by omega)
  have m6 : mayF j6 := by rw [e5]; exact small (by omega) (by omega)
  have m8 : mayF j8 := by rw [e7]; exact small (by omega) (by omega)
  have m10 : mayF j10 := by rw [e9]; exact small (by omega) (by omega)
  have s24 : j2 + j4 = (a + c) * 18446744073709551616 := by rw [e1, e3, Int.add_mul]
  have s68 : j6 + j8 = (b + d) * 18446744073709551616 := by rw [e5, e7, Int.add_mul]
  have ms24 : mayF (j2 + j4) := by rw [s24]; exact small (by omega) (by omega)
  have ms68 : mayF (j6 + j8) := by rw [s68]; exact small (by omega) (by omega)
  rw [n2_ok _ ms24 ms68] at e19 e21
  rw [e2_ok ms24 ms68] at e34
  have dist1 : (a + c) * k = a * k + c * k := Int.add_mul a c k
  have dist2 : (b + d) * k = b * k + d * k := Int.add_mul b d k
  have f23 : t23 = (a * k + c * k) * 18446744073709551616 := by rw [e23, e19, s24, e9, pr, dist1]
  have f24 : t24 = (b * k + d * k) * 18446744073709551616 := by rw [e24, e21, s68, e9, pr, dist2]
  have m23 : mayF t23 := by rw [f23]; exact small (by omega) (by omega)
  have m24 : mayF t24 := by rw [f24]; exact small (by omega) (by omega)
  have q1 : mulI j2 j10 = a * k * 18446744073709551616 := by rw [e1, e9, pr]
  have q2 : mulI j6 j10 = b * k * 18446744073709551616 := by rw [e5, e9, pr]
  have q3 : mulI j4 j10 = c * k * 18446744073709551616 := by rw [e3, e9, pr]
  have q4 : mulI j8 j10 = d * k * 18446744073709551616 := by rw [e7, e9, pr]
  have mq1 : mayF (mulI j2 j10) := by rw [q1]; exact small (by omega) (by omega)
  have mq2 : mayF (mulI j6 j10) := by rw [q2]; exact small (by omega) (by omega)
  have mq3 : mayF (mulI j4 j10) := by rw [q3]; exact small (by omega) (by omega)
  have mq4 : mayF (mulI j8 j10) := by rw [q4]; exact small (by omega) (by omega)
  rw [n2_ok _ mq1 mq2] at e11 e15
  rw [n2_ok _ mq3 mq4] at e13 e17
  rw [e2_ok mq1 mq2] at e28
  rw [e2_ok mq3 mq4] at e29
  have m12 : mayF j12 := by rw [e11]; exact mq1
  have m14 : mayF j14 := by rw [e13]; exact mq3
  have m16 : mayF j16 := by rw [e15]; exact mq2
  have m18 : mayF j18 := by rw [e17]; exact mq4
  have r1 : j12 + j14 = t23 := by rw [e11, e13, q1, q3, f23, Int.add_mul]
  have r2 : j16 + j18 = t24 := by rw [e15, e17, q2, q4, f24, Int.add_mul]
  rw [r1, r2] at e35 e36 e37
  rw [n2_ok _ m23 m24] at e32 e33 e36 e37
  rw [e2_ok m23 m24] at e27 e35
  have f25 : t25 = a * c * 18446744073709551616 := by rw [e25, e1, e3, pr]
  have f26 : t26 = b * d * 18446744073709551616 := by rw [e26, e5, e7, pr]
  have m25 : mayF t25 := by rw [f25]; exact small (by omega) (by omega)
  have m26 : mayF t26 := by rw [f26]; exact small (by omega) (by omega)
  have s2526 : t25 + t26 = (a * c + b * d) * 18446744073709551616 := by rw [f25, f26, Int.add_mul]
  have ms : mayF (t25 + t26) := by rw [s2526]; exact small (by omega) (by omega)
  rw [dotE_ok m25 m26, err_may ms] at e30
  rw [dotN_ok m25 m26, num_may ms, s2526] at e31
  have h41 : d41 = true := by rw [e41, e40, e32, e33, e36, e37]; simp
  have h42 : b42 = true := by
    rw [mxe (by rw [e38]; omega), e38] at e39
    rw [e42, e31, e39]; simp
  have o38 : i64ok t38 := by rw [e38]; exact ⟨by omega, by omega⟩
  have ok0 : i64ok 0 := ⟨by decide, by decide⟩
  have m20 : mayF j20 := by rw [e19]; exact ms24
  have m22 : mayF j22 := by rw [e21]; exact ms68
  rw [e34, e27, e28, e29, e35, e30, h41, h42]
  exact ⟨preI_of ⟨by omega, by omega⟩, preI_of ⟨by omega, by omega⟩, preI_of ⟨by omega, by omega⟩, preI_of ⟨by omega, by omega⟩, preI_of ⟨by omega, by omega⟩, vmay2_of m2 m6 m4 m8, vmayk_of m20 m22 m10, vmayk_of m2 m6 m10, vmayk_of m4 m8 m10, vmay2_of m12 m16 m14 m18, vmay2_of m2 m6 m4 m8, preI_of ok0, preI_of ok0, preI_of ok0, preI_of ok0, preI_of ok0, preI_of ok0, preI_of o38, preNone_ok, rfl⟩
end Go.Vs.RF

set_option linter.unusedVariables false
set_option linter.unusedSimpArgs false
set_option maxRecDepth 100000
/- VecLengths; what the laws of stage 4 are handed -/
namespace Go.Vs.RF
open Go Go.Proofs Go.Vs Go.IntWalk

def lawMN (l : List IV) (bs : List Blk) : Prop := ∃ m n x y, l = [.int .u16 m, .int .u16 n, .int .i32 x, .int .i32 y] ∧ bs = [] ∧ (0 ≤ m ∧ m < 65536) ∧ (0 ≤ n ∧ n < 65536) ∧ (-2147483648 ≤ x ∧ x < 2147483648) ∧ -2147483648 ≤ y ∧ y < 2147483648
theorem len_lo {p k S : Int} (hp : 0 ≤ p) (hk : 0 ≤ k) (h : S < (k + 1) * (k + 1)) (h2 : p * p - 9223372036854775808 ≤ S) : p ≤ k + 8589934592 := by
  refine Decidable.byContradiction fun hlt => ?_
  have h3 : (k + 1 + 8589934592) * (k + 1 + 8589934592) ≤ p * p := Int.mul_le_mul (by omega) (by omega) (by omega) hp
  have h4 : (k + 1 + 8589934592) * (k + 1 + 8589934592) = (k + 1) * (k + 1) + 2 * 8589934592 * (k + 1) + 8589934592 * 8589934592 := by
    rw [Int.add_mul, Int.mul_add]; omega
  generalize (k + 1) * (k + 1) = q at *
  generalize p * p = r at *
  generalize (k + 1 + 8589934592) * (k + 1 + 8589934592) = t at *
  omega
theorem len_hi {p q k S : Int} (hp : 0 ≤ p) (hq : 0 ≤ q) (hk : 0 ≤ k) (h : k * k ≤ S) (h2 : S ≤ p * p + q * q + 18446744073709551616) : k ≤ p + q + 8589934592 := by
  refine Decidable.byContradiction fun hlt => ?_
  have h3 : (p + q + 8589934592) * (p + q + 8589934592) ≤ k * k := Int.mul_le_mul (by omega) (by omega) (by omega) hk
  have h4 : (p + q + 8589934592) * (p + q + 8589934592) = p * p + q * q + 2 * (p * q) + 2 * 8589934592 * (p + q) + 8589934592 * 8589934592 := by
    have : q * p = p * q := Int.mul_comm q p
    rw [Int.add_mul, Int.add_mul, Int.mul_add, Int.mul_add, Int.mul_add, Int.mul_add]; omega
  have h5 : 0 ≤ p * q := Int.mul_nonneg hp hq
  generalize p * p = a at *
  generalize q * q = b at *
  generalize p * q = c at *
  generalize k * k = e at *
  generalize (p + q + 8589934592) * (p + q + 8589934592) = t at *
  omega
theorem mul_self (x : Int) : mulI x x = (absI x * absI x + 9223372036854775808) / 18446744073709551616 := by
  unfold mulI
  rw [show (decide (x < 0) != decide (x < 0)) = false by cases decide (x < 0) <;> rfl]
  rfl
theorem sq_bound {p : Int} (h : 0 ≤ p) (h' : p ≤ 154742504910672534362390528) : 0 ≤ p * p ∧ p * p ≤ 23945242826029513411849172299223580994042798784118784 := part_le h h' h h'
theorem sum_sq (a b : Int) : (a * a - b * b) * (a * a - b * b) + (-2 * a * b) * (-2 * a * b) = (a * a + b * b) * (a * a + b * b) := by
  have e1 : -2 * a * b = -(2 * (a * b)) := by rw [Int.neg_mul, Int.neg_mul, Int.mul_assoc]
  have e2 : (a * b) * (a * b) = (a * a) * (b * b) := by rw [Int.mul_assoc, Int.mul_left_comm b a b, ← Int.mul_assoc]
  rw [e1, Int.neg_mul_neg, Int.sub_mul, Int.mul_sub, Int.mul_sub, Int.add_mul, Int.mul_add, Int.mul_add, Int.mul_comm (b * b) (a * a)]
  have e3 : 2 * (a * b) * (2 * (a * b)) = 4 * (a * b * (a * b)) := by rw [Int.mul_assoc 2 (a * b), Int.mul_left_comm (a * b) 2, ← Int.mul_assoc 2 2]; rfl
  rw [e3, e2]
  generalize a * a * (b * b) = u
  generalize a * a * (a * a) = v
  generalize b * b * (b * b) = w
  omega
set_option maxHeartbeats 1000000 in
theorem c_VecLengths : Contract Try.prog f_perigeelaw4_VecLengths (spTrue lawMN) := by
  refine contract_of (N := Nu) 3 (knowOf (fun g sp h => ctrsu h) (fun _ _ => rfl) (fun _ => rfl) 3) ?_
  intro l bs _ _ hp
  obtain ⟨m, n, x, y, rfl, rfl, hm, hn, hx, hy⟩ := hp
  have wm : IntKind.i64.wrap m = m := i64_in _ (by omega)
  have wn : IntKind.i64.wrap n = n := i64_in _ (by omega)
  have wx : IntKind.i64.wrap x = x := i64_in _ (by omega)
  have wy : IntKind.i64.wrap y = y := i64_in _ (by omega)
  have tm : m.tmod 20000 = m % 20000 := Int.tmod_eq_emod_of_nonneg hm.1
  have tn : n.tmod 20000 = n % 20000 := Int.tmod_eq_emod_of_nonneg hn.1
  rw [v_VecLengths, wm, wn, wx, wy, tm, tn, fd (by decide), fd (by decide), wu, wu]
  have ha : 0 ≤ m % 20000 ∧ m % 20000 ≤ 19999 := by omega
  have hb : 0 ≤ n % 20000 ∧ n % 20000 ≤ 19999 := by omega
  generalize m % 20000 = a at *
  generalize n % 20000 = b at *
  have haa := part_le (m := 19999) (n := 19999) ha.1 ha.2 ha.1 ha.2
  have hbb := part_le (m := 19999) (n := 19999) hb.1 hb.2 hb.1 hb.2
  have hab := part_le (m := 19999) (n := 19999) ha.1 ha.2 hb.1 hb.2
  have e2ab : -2 * a * b = -(2 * (a * b)) := by rw [Int.neg_mul, Int.neg_mul, Int.mul_assoc]
  rw [i64_in (-2 * a) ⟨by omega, by omega⟩, i64_in (-2 * a * b) ⟨by omega, by omega⟩, i64_in (a * a) ⟨by omega, by omega⟩, i64_in (b * b) ⟨by omega, by omega⟩, i64_in (a * a - b * b) ⟨by omega, by omega⟩, mxe (by omega), mxe (by omega)]
  rintro t1 e1 j2 rfl t3 e3 j4 rfl t5 e5 j6 rfl t7 e7 j8 rfl t9 e9 j10 rfl t11 e11 j12 rfl t13 e13 j14 rfl t15 e15 j16 rfl t17 e17 j18 rfl t19 e19 t20 e20 t21 e21 t22 e22 t23 e23 t24 e24 t25 e25 t26 e26 t27 e27 t28 e28 t29 e29 b30 e30
  -- the first one: whole
  have hsum := sum_sq a b
  have g19 : t19 = (a * a - b * b) * (a * a - b * b) * 18446744073709551616 := by rw [e19, e11, mulI_whole, Int.mul_assoc]
  have g20 : t20 = (-2 * a * b) * (-2 * a * b) * 18446744073709551616 := by rw [e20, e9, mulI_whole]; exact (Int.mul_assoc (-2 * a * b) (-2 * a * b) _).symm
  have hs1 := part_le (x := absI (a * a - b * b)) (y := absI (a * a - b * b)) (m := 800000000) (n := 800000000) (by unfold absI; split <;> omega) (by unfold absI; split <;> omega) (by unfold absI; split <;> omega) (by unfold absI; split <;> omega)
  have hs2 := part_le (x := absI (-2 * a * b)) (y := absI (-2 * a * b)) (m := 800000000) (n := 800000000) (by unfold absI; split <;> omega) (by unfold absI; split <;> omega) (by unfold absI; split <;> omega) (by unfold absI; split <;> omega)
  rw [← abs_mul] at hs1 hs2
  have hp1 : 0 ≤ (a * a - b * b) * (a * a - b * b) := by
    rcases Int.le_total 0 (a * a - b * b) with h | h
    · exact Int.mul_nonneg h h
    · exact Int.mul_nonneg_of_nonpos_of_nonpos h h
  have hp2 : 0 ≤ (-2 * a * b) * (-2 * a * b) := by
    rcases Int.le_total 0 (-2 * a * b) with h | h
    · exact Int.mul_nonneg h h
    · exact Int.mul_nonneg_of_nonpos_of_nonpos h h
  have habs : ∀ {q : Int}, 0 ≤ q → absI q = q := fun h => by unfold absI; rw [if_neg (by omega)]
  rw [habs hp1] at hs1
  rw [habs hp2] at hs2
  have hc := part_le (x := a * a + b * b) (y := a * a + b * b) (m := 800000000) (n := 800000000) (by omega) (by omega) (by omega) (by omega)
  have m19 : mayF t19 := by rw [g19]; generalize (a * a - b * b) * (a * a - b * b) = q at *; unfold mayF; omega
  have m20 : mayF t20 := by rw [g20]; generalize (-2 * a * b) * (-2 * a * b) = q at *; unfold mayF; omega
  have s1920 : t19 + t20 = (a * a + b * b) * (a * a + b * b) * 18446744073709551616 := by rw [g19, g20, ← Int.add_mul, hsum]
  have ms : mayF (t19 + t20) := by rw [s1920]; generalize (a * a + b * b) * (a * a + b * b) = q at *; unfold mayF; omega
  have nn : ¬ t19 + t20 < 0 := by rw [s1920]; generalize (a * a + b * b) * (a * a + b * b) = q at *; omega
  have h21 : t21 = 0 := by
    rw [e21]; unfold lenE
    rw [dotE_ok m19 m20, err_may ms, if_pos rfl, dotN_ok m19 m20, num_may ms]
    unfold sqE; rw [if_neg nn]
  have hc0 : 0 ≤ a * a + b * b := by omega
  have h22 : t22 = (a * a + b * b) * 18446744073709551616 := by
    rw [e22]; unfold lenN
    rw [dotE_ok m19 m20, err_may ms, if_pos rfl, dotN_ok m19 m20, num_may ms]
    unfold sqN; rw [if_neg nn, s1920]
    generalize a * a + b * b = q at *
    have e : q * q * 18446744073709551616 * 18446744073709551616 = (q * 18446744073709551616) * (q * 18446744073709551616) := by
      rw [Int.mul_assoc q 18446744073709551616, Int.mul_left_comm 18446744073709551616 q, ← Int.mul_assoc q q, ← Int.mul_assoc (q * q)]
    refine sqrtI_eq ⟨by omega, by rw [e]; exact Int.le_refl _, ?_⟩
    rw [e, Int.add_mul, Int.mul_add]
    omega
  have h27 : t27 = a * a + b * b := by rw [e27, e23, e24, i64_in _ ⟨by omega, by omega⟩]
  have h30 : b30 = true := by rw [e30, h22, e28, h27, mxe (by omega)]; simp
  have m11 : mayF j12 := by rw [e11]; unfold mayF; omega
  have m9 : mayF j10 := by rw [e9, e2ab]; unfold mayF; omega
  -- the second one
  have hX : mayF t25 := by rw [e25]; unfold mayF; omega
  have hY : mayF t26 := by rw [e26]; unfold mayF; omega
  rw [← e25] at e1
  rw [← e26] at e3
  rw [← e25, ← e26] at e13
  have b1 : 0 ≤ j2 ∧ j2 ≤ 154742504910672534362390528 := by rw [e1, e25]; unfold absI; split <;> omega
  have b3 : 0 ≤ j4 ∧ j4 ≤ 154742504910672534362390528 := by rw [e3, e26]; unfold absI; split <;> omega
  have q1 := sq_bound b1.1 b1.2
  have q3 := sq_bound b3.1 b3.2
  have f1 : mulI t25 t25 = (j2 * j2 + 9223372036854775808) / 18446744073709551616 := by rw [mul_self, ← e1]
  have f3 : mulI t26 t26 = (j4 * j4 + 9223372036854775808) / 18446744073709551616 := by rw [mul_self, ← e3]
  have mm1 : mayF (mulI t25 t25) := by rw [f1]; generalize j2 * j2 = q at *; unfold mayF; omega
  have mm3 : mayF (mulI t26 t26) := by rw [f3]; generalize j4 * j4 = q at *; unfold mayF; omega
  have mss : mayF (mulI t25 t25 + mulI t26 t26) := by rw [f1, f3]; generalize j2 * j2 = q at *; generalize j4 * j4 = r at *; unfold mayF; omega
  have nns : ¬ mulI t25 t25 + mulI t26 t26 < 0 := by rw [f1, f3]; generalize j2 * j2 = q at *; generalize j4 * j4 = r at *; omega
  have h29 : t29 = 0 := by
    rw [e29]; unfold lenE
    rw [dotE_ok mm1 mm3, err_may mss, if_pos rfl, dotN_ok mm1 mm3, num_may mss]
    unfold sqE; rw [if_neg nns]
  have h13 : j14 = sqrtI ((mulI t25 t25 + mulI t26 t26) * 18446744073709551616) := by
    rw [e13]; unfold lenN
    rw [dotE_ok mm1 mm3, err_may mss, if_pos rfl, dotN_ok mm1 mm3, num_may mss]
    unfold sqN; rw [if_neg nns]
  obtain ⟨k1, k2, k3⟩ := sqrt_may mss nns
  rw [← h13] at k1 k2 k3
  have m14 : mayF j14 := by unfold mayF; omega
  have h15 : j16 = j14 := by rw [e15]; exact habs k2
  have h17 : j18 = j14 + 8589934592 := by omega
  have h5 : j6 = j2 + j4 := by omega
  have h7 : j8 = j2 + j4 + 8589934592 := by omega
  have lo1 : j2 ≤ j14 + 8589934592 := by
    refine len_lo b1.1 k2 k1.2.2 ?_
    rw [f1, f3]; generalize j2 * j2 = q at *; generalize j4 * j4 = r at *; omega
  have lo3 : j4 ≤ j14 + 8589934592 := by
    refine len_lo b3.1 k2 k1.2.2 ?_
    rw [f1, f3]; generalize j2 * j2 = q at *; generalize j4 * j4 = r at *; omega
  have hi : j14 ≤ j2 + j4 + 8589934592 := by
    refine len_hi b1.1 b3.1 k2 k1.2.1 ?_
    rw [f1, f3]; generalize j2 * j2 = q at *; generalize j4 * j4 = r at *; omega
  have ok0 : i64ok 0 := ⟨by decide, by decide⟩
  have i2 : in128 j2 := ⟨b1.1, by omega⟩
  have i4 : in128 j4 := ⟨b3.1, by omega⟩
  have i6 : in128 j6 := ⟨by omega, by omega⟩
  have i8 : in128 j8 := ⟨by omega, by omega⟩
  have i16 : in128 j16 := ⟨by omega, by omega⟩
  have i18 : in128 j18 := ⟨by omega, by omega⟩
  have iD : in128 8589934592 := ⟨by decide, by decide⟩
  have vxe : IV.agg [.int .i64 (x / 256), .int .u64 (y % 18446744073709551616), .int .i64 (y / 256), .int .u64 (x % 18446744073709551616)] = vx t25 t26 := by
    unfold vx
    rw [show t25 / 18446744073709551616 = x / 256 by omega, show t25 % 18446744073709551616 = y % 18446744073709551616 by omega, show t26 / 18446744073709551616 = y / 256 by omega, show t26 % 18446744073709551616 = x % 18446744073709551616 by omega]
  have fx1 : IV.agg [.int .i64 (x / 256), .int .u64 (y % 18446744073709551616)] = fx t25 := by
    unfold fx
    rw [show t25 / 18446744073709551616 = x / 256 by omega, show t25 % 18446744073709551616 = y % 18446744073709551616 by omega]
  have fx2 : IV.agg [.int .i64 (y / 256), .int .u64 (x % 18446744073709551616)] = fx t26 := by
    unfold fx
    rw [show t26 / 18446744073709551616 = y / 256 by omega, show t26 % 18446744073709551616 = x % 18446744073709551616 by omega]
  rw [vxe, fx1, fx2, h21, h29, h30, show IV.agg [.int .u64 0, .int .u64 8589934592] = tw 8589934592 from rfl]
  refine ⟨by decide, by decide, preI_of (by rw [i64_in (t23 - t24) ⟨by omega, by omega⟩]; exact ⟨by omega, by omega⟩), preI_of (by rw [e2ab]; exact ⟨by omega, by omega⟩), vmay1_of m11 m9, by decide, by decide, vmay1_of hX hY, may1_of hX, may1_of hY, p22_of i2 i4, may1_of m14, p22_of i16 iD, preI_of ok0, preI_of ok0, preI_of (by rw [h27]; exact ⟨by omega, by omega⟩), p22_of i18 i2, br_is (by rw [decide_eq_false (by omega)]; rfl) ⟨p22_of i18 i4, br_is (by rw [decide_eq_false (by omega)]; rfl) ⟨p22_of i6 iD, may1_of m14, p22_of i8 i16, br_is (by rw [decide_eq_false (by omega)]; rfl) ⟨preNone_ok, rfl⟩⟩⟩⟩

theorem vxArg {x : List Int} (l : x.length = 4) (k : ∀ j, j < 4 → inK (([.i64, .u64, .i64, .u64] : List IntKind).getD j .i64) (x.getD j 0)) : ∃ a b, IV.agg (rowCells [.i64, .u64, .i64, .u64] [x] 0 0 4) = vx a b ∧ inF a ∧ inF b := by
  match x, l with
  | [p, q, r, s], _ =>
    have h0 : -9223372036854775808 ≤ p ∧ p ≤ 9223372036854775807 := k 0 (by decide)
    have h1 : 0 ≤ q ∧ q ≤ 18446744073709551615 := k 1 (by decide)
    have h2 : -9223372036854775808 ≤ r ∧ r ≤ 9223372036854775807 := k 2 (by decide)
    have h3 : 0 ≤ s ∧ s ≤ 18446744073709551615 := k 3 (by decide)
    refine ⟨p * 18446744073709551616 + q, r * 18446744073709551616 + s, ?_, by unfold inF; omega, by unfold inF; omega⟩
    show IV.agg [.int .i64 p, .int .u64 q, .int .i64 r, .int .u64 s] = vx _ _
    unfold vx
    rw [show (p * 18446744073709551616 + q) / 18446744073709551616 = p by omega, show (p * 18446744073709551616 + q) % 18446744073709551616 = q by omega, show (r * 18446744073709551616 + s) / 18446744073709551616 = r by omega, show (r * 18446744073709551616 + s) % 18446744073709551616 = s by omega]
theorem lawVV_of {x0 x1 : List Int} (l0 : x0.length = 4) (k0 : ∀ j, j < 4 → inK (([.i64, .u64, .i64, .u64] : List IntKind).getD j .i64) (x0.getD j 0)) (l1 : x1.length = 4) (k1 : ∀ j, j < 4 → inK (([.i64, .u64, .i64, .u64] : List IntKind).getD j .i64) (x1.getD j 0)) :
    lawVV [.agg (rowCells [.i64, .u64, .i64, .u64] [x0] 0 0 4), .agg (rowCells [.i64, .u64, .i64, .u64] [x1] 0 0 4)] [] := by
  obtain ⟨a, b, e0, h0⟩ := vxArg l0 k0
  obtain ⟨c, d, e1, h1⟩ := vxArg l1 k1
  exact ⟨a, b, c, d, by rw [e0, e1], rfl, h0, h1⟩
theorem lawVVF_of {x0 x1 x2 : List Int} (l0 : x0.length = 4) (k0 : ∀ j, j < 4 → inK (([.i64, .u64, .i64, .u64] : List IntKind).getD j .i64) (x0.getD j 0)) (l1 : x1.length = 4) (k1 : ∀ j, j < 4 → inK (([.i64, .u64, .i64, .u64] : List IntKind).getD j .i64) (x1.getD j 0)) (l2 : x2.length = 2) (k2 : ∀ j, j < 2 → inK (([.i64, .u64] : List IntKind).getD j .i64) (x2.getD j 0)) :
    lawVVF [.agg (rowCells [.i64, .u64, .i64, .u64] [x0] 0 0 4), .agg (rowCells [.i64, .u64, .i64, .u64] [x1] 0 0 4), .agg (rowCells [.i64, .u64] [x2] 0 0 2)] [] := by
  obtain ⟨a, b, e0, h0⟩ := vxArg l0 k0
  obtain ⟨c, d, e1, h1⟩ := vxArg l1 k1
  obtain ⟨f, e2, h2⟩ := fxArg l2 k2
  exact ⟨a, b, c, d, f, by rw [e0, e1, e2], rfl, h0, h1, h2⟩
theorem lawMN_of {x0 x1 x2 x3 : Int} (k0 : inK .u16 x0) (k1 : inK .u16 x1) (k2 : inK .i32 x2) (k3 : inK .i32 x3) : lawMN [.int .u16 x0, .int .u16 x1, .int .i32 x2, .int .i32 x3] [] := by
  have h0 : 0 ≤ x0 ∧ x0 ≤ 65535 := k0
  have h1 : 0 ≤ x1 ∧ x1 ≤ 65535 := k1
  have h2 : -2147483648 ≤ x2 ∧ x2 ≤ 2147483647 := k2
  have h3 : -2147483648 ≤ x3 ∧ x3 ≤ 2147483647 := k3
  exact ⟨x0, x1, x2, x3, rfl, rfl, by omega, by omega, by omega, by omega⟩
theorem lawI5_of {x0 x1 x2 x3 x4 : Int} (k0 : inK .i16 x0) (k1 : inK .i16 x1) (k2 : inK .i16 x2) (k3 : inK .i16 x3) (k4 : inK .i16 x4) : lawI5 [.int .i16 x0, .int .i16 x1, .int .i16 x2, .int .i16 x3, .int .i16 x4] [] := by
  have h0 : -32768 ≤ x0 ∧ x0 ≤ 32767 := k0
  have h1 : -32768 ≤ x1 ∧ x1 ≤ 32767 := k1
  have h2 : -32768 ≤ x2 ∧ x2 ≤ 32767 := k2
  have h3 : -32768 ≤ x3 ∧ x3 ≤ 32767 := k3
  have h4 : -32768 ≤ x4 ∧ x4 ≤ 32767 := k4
  exact ⟨x0, x1, x2, x3, x4, rfl, rfl, by omega, by omega, by omega, by omega, by omega⟩
end Go.Vs.RF
