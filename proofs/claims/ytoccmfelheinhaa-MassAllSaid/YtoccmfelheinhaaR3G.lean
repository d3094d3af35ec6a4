import Derived.Test.YtoccmfelheinhaaR3E
set_option linter.unusedVariables false
/- drift: speeds, edges, what a body does -/
namespace Go.Vs.RF
open Go Go.Proofs Go.Vs
def inB (m x : Int) : Bool := decide (-(m * 18446744073709551616) ≤ x ∧ x ≤ m * 18446744073709551616)
def wiB (m x y : Int) : Bool := inB m x && inB m y
def pWi (l : List IV) (bs : List Blk) : Prop := ∃ x y m, l = [vx x y, .int .i64 m] ∧ bs = [] ∧ inF x ∧ inF y ∧ 0 ≤ m ∧ m ≤ 1099511627776
def pBey (l : List IV) (bs : List Blk) : Prop := ∃ x m, l = [fx x, .int .i64 m] ∧ bs = [] ∧ inF x ∧ 0 ≤ m ∧ m ≤ 1099511627776
noncomputable def spWi : Vs.Spec := ⟨pWi, fun l _ => (.bool (wiB (argI l 1 0) (v2 l 0) (vy l 0)), [])⟩
noncomputable def spBey : Vs.Spec := ⟨pBey, fun l _ => (.bool (!inB (argI l 1 0) (v2 l 0)), [])⟩
theorem v_within (x y m : Int) (K : IV → List Blk → Prop) : (comes Try.prog Nt3 3 f_drift_within [vx x y, .int .i64 m] [] K) = (∀ (j1 : Int), j1 = x → ∀ (j2 : Int), j2 = y → ∀ (t3 : Int), t3 = mx IntKind.i64 m (-9223372036854775807 : Int) * (18446744073709551616 : Int) → ∀ (j4 : Int), j4 = t3 → ∀ (t5 : Int), t5 = mx IntKind.i64 (IntKind.i64.wrap ((0 : Int) - m)) (-9223372036854775807 : Int) * (18446744073709551616 : Int) → ∀ (j6 : Int), j6 = t5 → ∀ (t7 : Int), t7 = cmpI j1 j4 → ∀ (t8 : Int), t8 = cmpI j1 j6 → ∀ (t9 : Int), t9 = cmpI j2 j4 → ∀ (t10 : Int), t10 = cmpI j2 j6 → ∀ (t11 : Prop), t11 = preI [IV.int IntKind.i64 m] [] → ∀ (t12 : Prop), t12 = preI [IV.int IntKind.i64 (IntKind.i64.wrap ((0 : Int) - m))] [] → t11 ∧ preFF [fx x, fx t3] [] ∧ br (decide (t7 ≤ (0 : Int))) (t12 ∧ preFF [fx x, fx t5] [] ∧ br (decide (t8 ≥ (0 : Int))) (t11 ∧ preFF [fx y, fx t3] [] ∧ br (decide (t9 ≤ (0 : Int))) (t12 ∧ preFF [fx y, fx t5] [] ∧ K (IV.bool (decide (t10 ≥ (0 : Int)))) []) (K (IV.bool false) [])) (K (IV.bool false) [])) (K (IV.bool false) [])) := by refine nj ?_; refine nj ?_; refine nm ?_; refine nj ?_; refine nm ?_; refine nj ?_; refine nm ?_; refine nm ?_; refine nm ?_; refine nm ?_; refine nm ?_; refine nm ?_; kernel_rfl
theorem v_beyond (x m : Int) (K : IV → List Blk → Prop) : (comes Try.prog Nt3 3 f_perigeeref10_beyond [fx x, .int .i64 m] [] K) = (∀ (j1 : Int), j1 = x → ∀ (t2 : Int), t2 = mx IntKind.i64 m (-9223372036854775807 : Int) * (18446744073709551616 : Int) → ∀ (j3 : Int), j3 = t2 → ∀ (t4 : Int), t4 = mx IntKind.i64 (IntKind.i64.wrap ((0 : Int) - m)) (-9223372036854775807 : Int) * (18446744073709551616 : Int) → ∀ (j5 : Int), j5 = t4 → ∀ (t6 : Int), t6 = cmpI j1 j3 → ∀ (t7 : Int), t7 = cmpI j1 j5 → preI [IV.int IntKind.i64 m] [] ∧ preFF [fx x, fx t2] [] ∧ br (decide (t6 > (0 : Int))) (K (IV.bool true) []) (preI [IV.int IntKind.i64 (IntKind.i64.wrap ((0 : Int) - m))] [] ∧ preFF [fx x, fx t4] [] ∧ K (IV.bool (decide (t7 < (0 : Int)))) [])) := by refine nj ?_; refine nm ?_; refine nj ?_; refine nm ?_; refine nj ?_; refine nm ?_; refine nm ?_; kernel_rfl
def ovE (x y m : Int) : Int := if divE x m ≠ 0 then divE x m else divE y m
def ovX (x y m : Int) : Int := if ovE x y m = 0 then divN x m else 0
def ovY (x y m : Int) : Int := if ovE x y m = 0 then divN y m else 0
noncomputable def spOver : Vs.Spec := ⟨vmayk, fun l _ => (.tup [vx (ovX (v2 l 0) (vy l 0) (v2 l 1)) (ovY (v2 l 0) (vy l 0) (v2 l 1)), .int .i64 (ovE (v2 l 0) (vy l 0) (v2 l 1))], [])⟩
theorem v_over (x y m : Int) (K : IV → List Blk → Prop) : (comes Try.prog Nt3 3 f_drift_over [vx x y, fx m] [] K) = (∀ (j1 : Int), j1 = x → ∀ (j2 : Int), j2 = m → ∀ (j3 : Int), j3 = y → ∀ (t4 : Int), t4 = divE j1 j2 → ∀ (t5 : Int), t5 = divE j3 j2 → ∀ (t6 : Int), t6 = divN j1 j2 → ∀ (t7 : Int), t7 = divN j3 j2 → may2 [fx x, fx m] [] ∧ br (t4 != (0 : Int)) (K (IV.tup [IV.agg [IV.int IntKind.i64 (0 : Int), IV.int IntKind.u64 (0 : Int), IV.int IntKind.i64 (0 : Int), IV.int IntKind.u64 (0 : Int)], IV.int IntKind.i64 t4]) []) (may2 [fx y, fx m] [] ∧ br (t5 != (0 : Int)) (K (IV.tup [IV.agg [IV.int IntKind.i64 (0 : Int), IV.int IntKind.u64 (0 : Int), IV.int IntKind.i64 (0 : Int), IV.int IntKind.u64 (0 : Int)], IV.int IntKind.i64 t5]) []) (K (IV.tup [vx t6 t7, IV.int IntKind.i64 (0 : Int)]) []))) := by refine nj ?_; refine nj ?_; refine nj ?_; refine nm ?_; refine nm ?_; refine nm ?_; refine nm ?_; kernel_rfl
def onE (x p m h : Int) : Int := if errF (mulI p h) ≠ 0 then errF (mulI p h) else if divE (mulI p h) m ≠ 0 then divE (mulI p h) m else errF (x + divN (mulI p h) m)
def onN (x p m h : Int) : Int := if onE x p m h = 0 then x + divN (mulI p h) m else 0
def pOn (l : List IV) (bs : List Blk) : Prop := ∃ x p m h, l = [fx x, fx p, fx m, fx h] ∧ bs = [] ∧ mayF x ∧ mayF p ∧ mayF m ∧ mayF h
noncomputable def spOn : Vs.Spec := ⟨pOn, fun l _ => (.tup [fx (onN (v2 l 0) (v2 l 1) (v2 l 2) (v2 l 3)), .int .i64 (onE (v2 l 0) (v2 l 1) (v2 l 2) (v2 l 3))], [])⟩
noncomputable def spGone : Vs.Spec := ⟨pOn, fun l _ => (gotV (onN (v2 l 0) (v2 l 1) (v2 l 2) (v2 l 3)) (onE (v2 l 0) (v2 l 1) (v2 l 2) (v2 l 3)), [])⟩
theorem v_on (x p m h : Int) (K : IV → List Blk → Prop) : (comes Try.prog Nt3 3 f_drift_on [fx x, fx p, fx m, fx h] [] K) = (∀ (j1 : Int), j1 = p → ∀ (j2 : Int), j2 = h → ∀ (j3 : Int), j3 = m → ∀ (j4 : Int), j4 = x → ∀ (t5 : Int), t5 = numF (mulI j1 j2) → ∀ (j6 : Int), j6 = t5 → ∀ (t7 : Int), t7 = divN j6 j3 → ∀ (j8 : Int), j8 = t7 → ∀ (t9 : Int), t9 = divE j6 j3 → ∀ (t10 : Int), t10 = errF (mulI j1 j2) → ∀ (t11 : Int), t11 = numF (j4 + j8) → may2 [fx p, fx h] [] ∧ br (t10 != (0 : Int)) (K (IV.tup [fx t5, IV.int IntKind.i64 t10]) []) (may2 [fx t5, fx m] [] ∧ br (t9 != (0 : Int)) (K (IV.tup [fx t7, IV.int IntKind.i64 t9]) []) (may2 [fx x, fx t7] [] ∧ K (IV.tup [fx t11, IV.int IntKind.i64 (errF (j4 + j8))]) []))) := by refine nj ?_; refine nj ?_; refine nj ?_; refine nj ?_; refine nm ?_; refine nj ?_; refine nm ?_; refine nj ?_; refine nm ?_; refine nm ?_; refine nm ?_; kernel_rfl
theorem v_gone (x p m h : Int) (K : IV → List Blk → Prop) : (comes Try.prog Nt3 3 f_perigeeref10_gone [fx x, fx p, fx m, fx h] [] K) = (∀ (j1 : Int), j1 = p → ∀ (j2 : Int), j2 = h → ∀ (j3 : Int), j3 = m → ∀ (j4 : Int), j4 = x → ∀ (t5 : Int), t5 = numF (mulI j1 j2) → ∀ (j6 : Int), j6 = t5 → ∀ (t7 : Int), t7 = divN j6 j3 → ∀ (j8 : Int), j8 = t7 → ∀ (t9 : Int), t9 = divE j6 j3 → ∀ (t10 : Int), t10 = errF (mulI j1 j2) → ∀ (t11 : Int), t11 = numF (j4 + j8) → may2 [fx p, fx h] [] ∧ br (t10 != (0 : Int)) (K (IV.agg [IV.int IntKind.i64 (t5 / (18446744073709551616 : Int)), IV.int IntKind.u64 (t5 % (18446744073709551616 : Int)), IV.int IntKind.i64 t10]) []) (may2 [fx t5, fx m] [] ∧ br (t9 != (0 : Int)) (K (IV.agg [IV.int IntKind.i64 (t7 / (18446744073709551616 : Int)), IV.int IntKind.u64 (t7 % (18446744073709551616 : Int)), IV.int IntKind.i64 t9]) []) (may2 [fx x, fx t7] [] ∧ K (IV.agg [IV.int IntKind.i64 (t11 / (18446744073709551616 : Int)), IV.int IntKind.u64 (t11 % (18446744073709551616 : Int)), IV.int IntKind.i64 (errF (j4 + j8))]) []))) := by refine nj ?_; refine nj ?_; refine nj ?_; refine nj ?_; refine nm ?_; refine nj ?_; refine nm ?_; refine nj ?_; refine nm ?_; refine nm ?_; refine nm ?_; kernel_rfl
noncomputable def Γd1 : FuncId → Option Vs.Spec := fun g => if g = f_drift_within then some spWi else if g = f_perigeeref10_beyond then some spBey else if g = f_drift_over then some spOver else if g = f_drift_on then some spOn else if g = f_perigeeref10_gone then some spGone else Γt3 g
noncomputable def Nd1 : Know := ⟨Γd1, fun _ _ => none, fun _ => none⟩
def spdX (r : List Int) : Int := ovX (fr r 8) (fr r 10) (fr r 0)
def spdY (r : List Int) : Int := ovY (fr r 8) (fr r 10) (fr r 0)
def spdE (r : List Int) : Int := ovE (fr r 8) (fr r 10) (fr r 0)
def slowB (r : List Int) : Bool := decide (spdE r = 0) && wiB 65536 (spdX r) (spdY r)
noncomputable def rowA (l : List IV) (i : Nat) : List Int := [argI l i 0, argI l i 1, argI l i 2, argI l i 3, argI l i 4, argI l i 5, argI l i 6, argI l i 7, argI l i 8, argI l i 9, argI l i 10, argI l i 11, argI l i 12, argI l i 13, argI l i 14, argI l i 15, argI l i 16, argI l i 17, argI l i 18, argI l i 19]
def mayB (r : List Int) : Prop := mayF (fr r 0) ∧ mayF (fr r 4) ∧ mayF (fr r 6) ∧ mayF (fr r 8) ∧ mayF (fr r 10)
def pB (l : List IV) (bs : List Blk) : Prop := ∃ r, l = [bodyR r] ∧ bs = [] ∧ r.length = 20 ∧ rowB r ∧ mayB r
noncomputable def spSpeed : Vs.Spec := ⟨pB, fun l _ => (.tup [vx (spdX (rowA l 0)) (spdY (rowA l 0)), .int .i64 (spdE (rowA l 0))], [])⟩
noncomputable def spRSpeed : Vs.Spec := ⟨pB, fun l _ => (wayG (spdX (rowA l 0)) (spdY (rowA l 0)) (spdE (rowA l 0)), [])⟩
theorem v_Speed (r : List Int) (K : IV → List Blk → Prop) : (comes Try.prog Nd1 3 f_drift_Speed [bodyR r] [] K) = (∀ (t1 : Int), t1 = rd [r] (0 : Nat) (8 : Nat) → ∀ (t2 : Int), t2 = rd [r] (0 : Nat) (9 : Nat) → ∀ (t3 : Int), t3 = rd [r] (0 : Nat) (10 : Nat) → ∀ (t4 : Int), t4 = rd [r] (0 : Nat) (11 : Nat) → ∀ (t5 : Int), t5 = rd [r] (0 : Nat) (0 : Nat) → ∀ (t6 : Int), t6 = rd [r] (0 : Nat) (1 : Nat) → ∀ (t7 : Int), t7 = t1 * (18446744073709551616 : Int) + t2 → ∀ (t8 : Int), t8 = t3 * (18446744073709551616 : Int) + t4 → ∀ (t9 : Int), t9 = t5 * (18446744073709551616 : Int) + t6 → ∀ (t10 : Int), t10 = ovX t7 t8 t9 → ∀ (t11 : Int), t11 = ovY t7 t8 t9 → vmayk [IV.agg [IV.int IntKind.i64 t1, IV.int IntKind.u64 t2, IV.int IntKind.i64 t3, IV.int IntKind.u64 t4], IV.agg [IV.int IntKind.i64 t5, IV.int IntKind.u64 t6]] [] ∧ K (IV.tup [vx t10 t11, IV.int IntKind.i64 (ovE t7 t8 t9)]) []) := by refine nm ?_; refine nm ?_; refine nm ?_; refine nm ?_; refine nm ?_; refine nm ?_; refine nm ?_; refine nm ?_; refine nm ?_; refine nm ?_; refine nm ?_; kernel_rfl
theorem v_RSpeed (r : List Int) (K : IV → List Blk → Prop) : (comes Try.prog Nd1 3 f_perigeeref10_Speed [bodyR r] [] K) = (∀ (t1 : Int), t1 = rd [r] (0 : Nat) (8 : Nat) → ∀ (t2 : Int), t2 = rd [r] (0 : Nat) (9 : Nat) → ∀ (t3 : Int), t3 = rd [r] (0 : Nat) (0 : Nat) → ∀ (t4 : Int), t4 = rd [r] (0 : Nat) (1 : Nat) → ∀ (t5 : Int), t5 = rd [r] (0 : Nat) (10 : Nat) → ∀ (t6 : Int), t6 = rd [r] (0 : Nat) (11 : Nat) → ∀ (t7 : Int), t7 = t1 * (18446744073709551616 : Int) + t2 → ∀ (t8 : Int), t8 = t3 * (18446744073709551616 : Int) + t4 → ∀ (t9 : Int), t9 = t5 * (18446744073709551616 : Int) + t6 → ∀ (t10 : Int), t10 = divE t7 t8 → ∀ (t11 : Int), t11 = divE t9 t8 → ∀ (t12 : Int), t12 = divN t7 t8 → ∀ (t13 : Int), t13 = divN t9 t8 → may2 [IV.agg [IV.int IntKind.i64 t1, IV.int IntKind.u64 t2], IV.agg [IV.int IntKind.i64 t3, IV.int IntKind.u64 t4]] [] ∧ br (t10 != (0 : Int)) (K (IV.agg [IV.int IntKind.i64 (0 : Int), IV.int IntKind.u64 (0 : Int), IV.int IntKind.i64 (0 : Int), IV.int IntKind.u64 (0 : Int), IV.int IntKind.i64 t10]) []) (may2 [IV.agg [IV.int IntKind.i64 t5, IV.int IntKind.u64 t6], IV.agg [IV.int IntKind.i64 t3, IV.int IntKind.u64 t4]] [] ∧ br (t11 != (0 : Int)) (K (IV.agg [IV.int IntKind.i64 (0 : Int), IV.int IntKind.u64 (0 : Int), IV.int IntKind.i64 (0 : Int), IV.int IntKind.u64 (0 : Int), IV.int IntKind.i64 t11]) []) (K (IV.agg [IV.int IntKind.i64 (t12 / (18446744073709551616 : Int)), IV.int IntKind.u64 (t12 % (18446744073709551616 : Int)), IV.int IntKind.i64 (t13 / (18446744073709551616 : Int)), IV.int IntKind.u64 (t13 % (18446744073709551616 : Int)), IV.int IntKind.i64 (0 : Int)]) []))) := by refine nm ?_; refine nm ?_; refine nm ?_; refine nm ?_; refine nm ?_; refine nm ?_; refine nm ?_; refine nm ?_; refine nm ?_; refine nm ?_; refine nm ?_; refine nm ?_; refine nm ?_; kernel_rfl
noncomputable def spInside : Vs.Spec := ⟨vin1, fun l _ => (.bool (wiB 1073741824 (v2 l 0) (vy l 0)), [])⟩
theorem v_Inside (x y : Int) (K : IV → List Blk → Prop) : (comes Try.prog Nd1 3 f_drift_Inside [vx x y] [] K) = (∀ (j1 : Int), j1 = x → ∀ (j2 : Int), j2 = y → pWi [vx x y, IV.int IntKind.i64 (1073741824 : Int)] [] ∧ K (IV.bool (wiB (1073741824 : Int) j1 j2)) []) := by refine nj ?_; refine nj ?_; kernel_rfl
theorem v_RInside (x y : Int) (K : IV → List Blk → Prop) : (comes Try.prog Nd1 3 f_perigeeref10_Inside [vx x y] [] K) = (∀ (j1 : Int), j1 = x → ∀ (j2 : Int), j2 = y → pBey [fx x, IV.int IntKind.i64 (1073741824 : Int)] [] ∧ br (!!inB (1073741824 : Int) j1) (pBey [fx y, IV.int IntKind.i64 (1073741824 : Int)] [] ∧ K (IV.bool !!inB (1073741824 : Int) j2) []) (K (IV.bool false) [])) := by refine nj ?_; refine nj ?_; kernel_rfl
end Go.Vs.RF


set_option linter.unusedVariables false
set_option linter.unusedSimpArgs false
set_option maxRecDepth 100000
/- drift: speeds, edges, what a body does -/
namespace Go.Vs.RF
open Go Go.Proofs Go.Vs Go.IntWalk

theorem inF_whole {m : Int} (h : -1099511627776 ≤ m ∧ m ≤ 1099511627776) : inF (m * 18446744073709551616) := ⟨by omega, by omega⟩
theorem mx_of {k : Int} (h : -9223372036854775807 ≤ k) : mx .i64 k (-9223372036854775807) = k := by unfold mx; rw [if_neg (by omega)]
theorem cmp_lt' {a b : Int} : cmpI a b < 0 ↔ a < b := by
  unfold cmpI; split
  · omega
  · split <;> omega
theorem inB_iff {m x : Int} : inB m x = true ↔ -(m * 18446744073709551616) ≤ x ∧ x ≤ m * 18446744073709551616 := by unfold inB; exact decide_eq_true_iff
theorem c_within : Contract Try.prog f_drift_within spWi := by
  refine contract_of (N := Nt3) 3 knowt3 ?_
  rintro l bs _ _ ⟨x, y, m, rfl, rfl, hx, hy, h0, h1⟩
  have hF : spWi.F [vx x y, .int .i64 m] [] = (.bool (wiB m x y), []) := by
    show (IV.bool (wiB m (v2 _ 0) (vy _ 0)), ([] : List Blk)) = _
    rw [(v_vx _ x y 0 rfl).1, (v_vx _ x y 0 rfl).2]
  rw [hF, v_within]
  rintro j1 rfl j2 rfl t3 e3 j4 rfl t5 e5 j6 rfl t7 e7 t8 e8 t9 e9 t10 e10 t11 e11 t12 e12
  rw [mx_of (by omega)] at e3
  rw [i64_in (0 - m) (by omega), mx_of (by omega)] at e5
  have p11 : t11 := by rw [e11]; exact preI_of ⟨by omega, by omega⟩
  have p12 : t12 := by rw [e12, i64_in (0 - m) (by omega)]; exact preI_of ⟨by omega, by omega⟩
  have f4 : inF j4 := by rw [e3]; exact inF_whole ⟨by omega, by omega⟩
  have f6 : inF j6 := by rw [e5]; exact inF_whole ⟨by omega, by omega⟩
  have no : ∀ {x : Int}, ¬ (-(m * 18446744073709551616) ≤ x ∧ x ≤ m * 18446744073709551616) → inB m x = false := fun h => by
    cases hb : inB m _ with
    | false => rfl
    | true => exact absurd (inB_iff.1 hb) h
  refine ⟨p11, preFF_in hx f4, ?_⟩
  rw [br_dec, e7, cmpI_le]
  refine ⟨fun a1 => ⟨p12, preFF_in hx f6, ?_⟩, fun a1 => by unfold wiB; rw [no (by omega)]; rfl⟩
  rw [br_dec, e8, cmpI_ge]
  refine ⟨fun a2 => ⟨p11, preFF_in hy f4, ?_⟩, fun a2 => by unfold wiB; rw [no (by omega)]; rfl⟩
  have yes : inB m j1 = true := inB_iff.2 (by omega)
  rw [br_dec, e9, cmpI_le]
  refine ⟨fun a3 => ⟨p12, preFF_in hy f6, ?_⟩, fun a3 => by unfold wiB; rw [yes, no (by omega)]; rfl⟩
  unfold wiB
  rw [yes, Bool.true_and, e10]
  unfold inB
  rw [show decide (-(m * 18446744073709551616) ≤ j2 ∧ j2 ≤ m * 18446744073709551616) = decide (cmpI j2 j6 ≥ 0) by
    rw [Bool.eq_iff_iff, decide_eq_true_iff, decide_eq_true_iff, cmpI_ge]; omega]
theorem c_beyond : Contract Try.prog f_perigeeref10_beyond spBey := by
  refine contract_of (N := Nt3) 3 knowt3 ?_
  rintro l bs _ _ ⟨x, m, rfl, rfl, hx, h0, h1⟩
  have hF : spBey.F [fx x, .int .i64 m] [] = (.bool (!inB m x), []) := by
    show (IV.bool (!inB m (v2 _ 0)), ([] : List Blk)) = _
    rw [v2_fx _ x 0 rfl]
  rw [hF, v_beyond]
  rintro j1 rfl t2 e2 j3 rfl t4 e4 j5 rfl t6 e6 t7 e7
  rw [mx_of (by omega)] at e2
  rw [i64_in (0 - m) (by omega), mx_of (by omega)] at e4
  have f3 : inF j3 := by rw [e2]; exact inF_whole ⟨by omega, by omega⟩
  have f5 : inF j5 := by rw [e4]; exact inF_whole ⟨by omega, by omega⟩
  refine ⟨preI_of ⟨by omega, by omega⟩, preFF_in hx f3, ?_⟩
  rw [br_dec, e6, cmp_gt]
  constructor
  · intro h
    have : inB m j1 = false := by
      cases hb : inB m j1 with
      | false => rfl
      | true => have := inB_iff.1 hb; omega
    rw [this]; rfl
  · intro h
    refine ⟨by rw [i64_in (0 - m) (by omega)]; exact preI_of ⟨by omega, by omega⟩, preFF_in hx f5, ?_⟩
    rw [e7]
    unfold inB
    rw [show (!decide (-(m * 18446744073709551616) ≤ j1 ∧ j1 ≤ m * 18446744073709551616)) = decide (cmpI j1 j5 < 0) by
      rw [not_dec, Bool.eq_iff_iff, decide_eq_true_iff, decide_eq_true_iff, cmp_lt']; omega]
theorem divE_no {x m : Int} (h : divE x m ≠ 0) : divN x m = 0 := by
  unfold divE at h; unfold divN
  split
  · rfl
  · rename_i hm
    rw [if_neg hm] at h
    exact num_not (fun hh => h (err_may hh))
theorem c_over : Contract Try.prog f_drift_over spOver := by
  refine contract_of (N := Nt3) 3 knowt3 ?_
  rintro l bs _ _ ⟨x, y, m, rfl, rfl, ⟨hx, hy⟩, hm⟩
  have hF : spOver.F [vx x y, fx m] [] = (.tup [vx (ovX x y m) (ovY x y m), .int .i64 (ovE x y m)], []) := by
    show (IV.tup [vx (ovX (v2 _ 0) (vy _ 0) (v2 _ 1)) (ovY (v2 _ 0) (vy _ 0) (v2 _ 1)), .int .i64 (ovE (v2 _ 0) (vy _ 0) (v2 _ 1))], ([] : List Blk)) = _
    rw [(v_vx _ x y 0 rfl).1, (v_vx _ x y 0 rfl).2, v2_fx _ m 1 rfl]
  rw [hF, v_over]
  rintro j1 rfl j2 rfl j3 rfl t4 e4 t5 e5 t6 e6 t7 e7
  refine ⟨may2_of hx hm, ?_⟩
  rw [br_bne]
  refine ⟨fun h => ?_, fun h => ⟨may2_of hy hm, ?_⟩⟩
  · have : ovE j1 j3 j2 = t4 := by unfold ovE; rw [← e4, if_pos h]
    unfold ovX ovY
    rw [this, if_neg h, if_neg h]
    rfl
  · have : ovE j1 j3 j2 = t5 := by unfold ovE; rw [← e4, if_neg (by simpa using h), ← e5]
    unfold ovX ovY
    rw [this, br_bne]
    refine ⟨fun h5 => ?_, fun h5 => ?_⟩
    · rw [if_neg h5, if_neg h5]; rfl
    · rw [if_pos h5, if_pos h5, h5, e6, e7]
theorem on_lem {x p m h : Int} (hx : mayF x) (hp : mayF p) (hm : mayF m) (hh : mayF h) {K : Int → Int → Prop} (hK : K (onN x p m h) (onE x p m h)) :
    ∀ {t5 t7 t9 t10 t11 : Int}, t5 = numF (mulI p h) → t7 = divN t5 m → t9 = divE t5 m → t10 = errF (mulI p h) → t11 = numF (x + t7) →
    may2 [fx p, fx h] [] ∧ br (t10 != 0) (K t5 t10) (may2 [fx t5, fx m] [] ∧ br (t9 != 0) (K t7 t9) (may2 [fx x, fx t7] [] ∧ K t11 (errF (x + t7)))) := by
  intro t5 t7 t9 t10 t11 e5 e7 e9 e10 e11
  refine ⟨may2_of hp hh, ?_⟩
  have m5 : mayF t5 := by rw [e5]; exact num_is _
  have m7 : mayF t7 := by rw [e7]; exact divN_is _ _
  rw [br_bne]
  refine ⟨fun h1 => ?_, fun h1 => ⟨may2_of m5 hm, ?_⟩⟩
  · have hE : onE x p m h = t10 := by unfold onE; rw [← e10, if_pos h1]
    have hN : onN x p m h = t5 := by
      unfold onN; rw [hE, if_neg h1, e5, num_not (fun hh => h1 (by rw [e10]; exact err_may hh))]
    rw [hE, hN] at hK; exact hK
  · have hmay : mayF (mulI p h) := err_zero.1 (by rw [← e10]; exact h1)
    have e5' : t5 = mulI p h := by rw [e5, num_may hmay]
    rw [e5'] at e7 e9
    rw [br_bne]
    refine ⟨fun h2 => ?_, fun h2 => ⟨may2_of hx m7, ?_⟩⟩
    · have hE : onE x p m h = t9 := by unfold onE; rw [← e10, if_neg (by simpa using h1), ← e9, if_pos h2]
      have hN : onN x p m h = t7 := by
        unfold onN; rw [hE, if_neg h2, e7, divE_no (by rw [← e9]; exact h2)]
      rw [hE, hN] at hK; exact hK
    · have hE : onE x p m h = errF (x + t7) := by unfold onE; rw [← e10, if_neg (by simpa using h1), ← e9, if_neg (by simpa using h2), ← e7]
      have hN : onN x p m h = t11 := by
        unfold onN; rw [hE, e11, ← e7]
        by_cases hh : mayF (x + t7)
        · rw [if_pos (err_may hh), num_may hh]
        · rw [if_neg (by rw [err_not hh]; decide), num_not hh]
      rw [hE, hN] at hK; exact hK
theorem c_on : Contract Try.prog f_drift_on spOn := by
  refine contract_of (N := Nt3) 3 knowt3 ?_
  rintro l bs _ _ ⟨x, p, m, h, rfl, rfl, hx, hp, hm, hh⟩
  have hF : spOn.F [fx x, fx p, fx m, fx h] [] = (.tup [fx (onN x p m h), .int .i64 (onE x p m h)], []) := by
    show (IV.tup [fx (onN (v2 _ 0) (v2 _ 1) (v2 _ 2) (v2 _ 3)), .int .i64 (onE (v2 _ 0) (v2 _ 1) (v2 _ 2) (v2 _ 3))], ([] : List Blk)) = _
    rw [v2_fx _ x 0 rfl, v2_fx _ p 1 rfl, v2_fx _ m 2 rfl, v2_fx _ h 3 rfl]
  rw [hF, v_on]
  rintro j1 rfl j2 rfl j3 rfl j4 rfl t5 e5 j6 rfl t7 e7 j8 rfl t9 e9 t10 e10 t11 e11
  exact on_lem (K := fun n e => (IV.tup [fx (onN j4 j1 j3 j2), .int .i64 (onE j4 j1 j3 j2)], ([] : List Blk)) = (IV.tup [fx n, .int .i64 e], [])) hx hp hm hh rfl e5 e7 e9 e10 e11
theorem c_gone : Contract Try.prog f_perigeeref10_gone spGone := by
  refine contract_of (N := Nt3) 3 knowt3 ?_
  rintro l bs _ _ ⟨x, p, m, h, rfl, rfl, hx, hp, hm, hh⟩
  have hF : spGone.F [fx x, fx p, fx m, fx h] [] = (gotV (onN x p m h) (onE x p m h), []) := by
    show (gotV (onN (v2 _ 0) (v2 _ 1) (v2 _ 2) (v2 _ 3)) (onE (v2 _ 0) (v2 _ 1) (v2 _ 2) (v2 _ 3)), ([] : List Blk)) = _
    rw [v2_fx _ x 0 rfl, v2_fx _ p 1 rfl, v2_fx _ m 2 rfl, v2_fx _ h 3 rfl]
  rw [hF, v_gone]
  rintro j1 rfl j2 rfl j3 rfl j4 rfl t5 e5 j6 rfl t7 e7 j8 rfl t9 e9 t10 e10 t11 e11
  exact on_lem (K := fun n e => (gotV (onN j4 j1 j3 j2) (onE j4 j1 j3 j2), ([] : List Blk)) = (gotV n e, [])) hx hp hm hh rfl e5 e7 e9 e10 e11
theorem ctrsd1 : ∀ {g : FuncId} {sp : Vs.Spec}, Γd1 g = some sp → Contract Try.prog g sp := ext_ok c_within (ext_ok c_beyond (ext_ok c_over (ext_ok c_on (ext_ok c_gone ctrst3))))
theorem knowd1 : KnowOk Try.prog Nd1 3 := knowOf (fun g sp h => ctrsd1 h) (fun _ _ => rfl) (fun _ => rfl) 3

theorem row20' {r : List Int} (h : r.length = 20) : [r.getD 0 0, r.getD 1 0, r.getD 2 0, r.getD 3 0, r.getD 4 0, r.getD 5 0, r.getD 6 0, r.getD 7 0, r.getD 8 0, r.getD 9 0, r.getD 10 0, r.getD 11 0, r.getD 12 0, r.getD 13 0, r.getD 14 0, r.getD 15 0, r.getD 16 0, r.getD 17 0, r.getD 18 0, r.getD 19 0] = r := by
  match r, h with
  | [_, _, _, _, _, _, _, _, _, _, _, _, _, _, _, _, _, _, _, _], _ => rfl
theorem rowA_body (l : List IV) (i : Nat) (r : List Int) (h : r.length = 20) (hl : nthR l i = some (bodyR r)) : rowA l i = r := by
  have e : ∀ j, argI l i j = argI [bodyR r] 0 j := by intro j; unfold argI; rw [hl]; rfl
  unfold rowA
  simp only [e]
  exact row20' h
theorem row_lo' {r : List Int} (h : rowB r) (j : Nat) (hj : j < 20) (hk : ksB.getD j .i64 = .u64) : u64ok (r.getD j 0) := row_lo h j hj hk
theorem fx_row {r : List Int} (h : rowB r) (j : Nat) (hj : j + 1 < 20) (hk : ksB.getD (j + 1) .i64 = .u64) : IV.agg [.int .i64 (rd [r] 0 j), .int .u64 (rd [r] 0 (j + 1))] = fx (fr r j) := (fx_mk2 (row_lo h (j + 1) hj hk) rfl).symm
theorem c_Speed : Contract Try.prog f_drift_Speed spSpeed := by
  refine contract_of (N := Nd1) 3 knowd1 ?_
  rintro l bs _ _ ⟨r, rfl, rfl, hl, hr, h0, h4, h6, h8, h10⟩
  have hF : spSpeed.F [bodyR r] [] = (.tup [vx (spdX r) (spdY r), .int .i64 (spdE r)], []) := by
    show (IV.tup [vx (spdX (rowA _ 0)) (spdY (rowA _ 0)), .int .i64 (spdE (rowA _ 0))], ([] : List Blk)) = _
    rw [rowA_body _ 0 r hl rfl]
  rw [hF, v_Speed]
  rintro t1 rfl t2 rfl t3 rfl t4 rfl t5 rfl t6 rfl t7 rfl t8 rfl t9 rfl t10 rfl t11 rfl
  refine ⟨⟨fr r 8, fr r 10, fr r 0, ?_, rfl, ⟨h8, h10⟩, h0⟩, rfl⟩
  rw [fx_row hr 0 (by decide) rfl]
  congr 1
  have := vx_cells (a := r.getD 8 0) (b := r.getD 9 0) (c := r.getD 10 0) (d := r.getD 11 0) (row_lo hr 9 (by decide) rfl) (row_lo hr 11 (by decide) rfl)
  exact List.cons.inj this |>.1
theorem way_cells (x y e : Int) : wayG x y e = .agg [.int .i64 (x / 18446744073709551616), .int .u64 (x % 18446744073709551616), .int .i64 (y / 18446744073709551616), .int .u64 (y % 18446744073709551616), .int .i64 e] := rfl
theorem c_RSpeed : Contract Try.prog f_perigeeref10_Speed spRSpeed := by
  refine contract_of (N := Nd1) 3 knowd1 ?_
  rintro l bs _ _ ⟨r, rfl, rfl, hl, hr, h0, h4, h6, h8, h10⟩
  have hF : spRSpeed.F [bodyR r] [] = (wayG (spdX r) (spdY r) (spdE r), []) := by
    show (wayG (spdX (rowA _ 0)) (spdY (rowA _ 0)) (spdE (rowA _ 0)), ([] : List Blk)) = _
    rw [rowA_body _ 0 r hl rfl]
  rw [hF, v_RSpeed]
  rintro t1 rfl t2 rfl t3 rfl t4 rfl t5 rfl t6 rfl t7 e7 t8 e8 t9 e9 t10 e10 t11 e11 t12 e12 t13 e13
  rw [show t7 = fr r 8 from e7] at *
  rw [show t8 = fr r 0 from e8] at *
  rw [show t9 = fr r 10 from e9] at *
  rw [fx_row hr 0 (by decide) rfl, fx_row hr 8 (by decide) rfl, fx_row hr 10 (by decide) rfl]
  refine ⟨may2_of h8 h0, ?_⟩
  rw [br_bne]
  refine ⟨fun h => ?_, fun h => ⟨may2_of h10 h0, ?_⟩⟩
  · have : spdE r = t10 := by unfold spdE ovE; rw [← e10, if_pos h]
    unfold spdX spdY ovX ovY
    rw [show ovE (fr r 8) (fr r 10) (fr r 0) = spdE r from rfl, this, if_neg h, if_neg h]
    rfl
  · have : spdE r = t11 := by unfold spdE ovE; rw [← e10, if_neg (by simpa using h), ← e11]
    unfold spdX spdY ovX ovY
    rw [show ovE (fr r 8) (fr r 10) (fr r 0) = spdE r from rfl, this, br_bne]
    refine ⟨fun h5 => ?_, fun h5 => ?_⟩
    · rw [if_neg h5, if_neg h5]; rfl
    · rw [if_pos h5, if_pos h5, h5, e12, e13, way_cells]
theorem c_Inside : Contract Try.prog f_drift_Inside spInside := by
  refine contract_of (N := Nd1) 3 knowd1 ?_
  rintro l bs _ _ ⟨x, y, rfl, rfl, hx, hy⟩
  have hF : spInside.F [vx x y] [] = (.bool (wiB 1073741824 x y), []) := by
    show (IV.bool (wiB 1073741824 (v2 _ 0) (vy _ 0)), ([] : List Blk)) = _
    rw [(v_vx _ x y 0 rfl).1, (v_vx _ x y 0 rfl).2]
  rw [hF, v_Inside]
  rintro j1 rfl j2 rfl
  exact ⟨⟨j1, j2, _, rfl, rfl, hx, hy, by decide, by decide⟩, rfl⟩
theorem c_RInside : Contract Try.prog f_perigeeref10_Inside spInside := by
  refine contract_of (N := Nd1) 3 knowd1 ?_
  rintro l bs _ _ ⟨x, y, rfl, rfl, hx, hy⟩
  have hF : spInside.F [vx x y] [] = (.bool (wiB 1073741824 x y), []) := by
    show (IV.bool (wiB 1073741824 (v2 _ 0) (vy _ 0)), ([] : List Blk)) = _
    rw [(v_vx _ x y 0 rfl).1, (v_vx _ x y 0 rfl).2]
  rw [hF, v_RInside]
  rintro j1 rfl j2 rfl
  refine ⟨⟨j1, _, rfl, rfl, hx, by decide, by decide⟩, ?_⟩
  unfold wiB
  rw [br_bool, Bool.not_not]
  refine ⟨fun h => ⟨⟨j2, _, rfl, rfl, hy, by decide, by decide⟩, by rw [h, Bool.not_not, Bool.true_and]⟩, fun h => by rw [h]; rfl⟩
end Go.Vs.RF

set_option linter.unusedVariables false
/- drift: where all go -/
namespace Go.Vs.RF
open Go Go.Proofs Go.Vs
def ksV : List IntKind := [.i64, .u64, .i64, .u64]
noncomputable def Γd2 : FuncId → Option Vs.Spec := fun g => if g = f_drift_Speed then some spSpeed else if g = f_perigeeref10_Speed then some spRSpeed else if g = f_drift_Inside then some spInside else if g = f_perigeeref10_Inside then some spInside else Γd1 g
noncomputable def Nd2 : Know := ⟨Γd2, fun _ _ => none, fun _ => none⟩
theorem v_Slow (r : List Int) (K : IV → List Blk → Prop) : (comes Try.prog Nd2 3 f_drift_Slow [bodyR r] [] K) = (∀ (t1 : Int), t1 = spdX (rowA [IV.agg (rowCells ksB [r] (0 : Nat) (0 : Nat) (20 : Nat))] (0 : Nat)) → ∀ (j2 : Int), j2 = t1 → ∀ (t3 : Int), t3 = spdY (rowA [IV.agg (rowCells ksB [r] (0 : Nat) (0 : Nat) (20 : Nat))] (0 : Nat)) → ∀ (j4 : Int), j4 = t3 → ∀ (t5 : Int), t5 = spdE (rowA [IV.agg (rowCells ksB [r] (0 : Nat) (0 : Nat) (20 : Nat))] (0 : Nat)) → pB [IV.agg (rowCells ksB [r] (0 : Nat) (0 : Nat) (20 : Nat))] [] ∧ br (t5 == (0 : Int)) (pWi [vx t1 t3, IV.int IntKind.i64 (65536 : Int)] [] ∧ K (IV.tup [IV.bool (wiB (65536 : Int) j2 j4), IV.int IntKind.i64 t5]) []) (K (IV.tup [IV.bool false, IV.int IntKind.i64 t5]) [])) := by refine nm ?_; refine nj ?_; refine nm ?_; refine nj ?_; refine nm ?_; kernel_rfl
theorem v_RSlow (r : List Int) (K : IV → List Blk → Prop) : (comes Try.prog Nd2 3 f_perigeeref10_Slow [bodyR r] [] K) = (∀ (t1 : Int), t1 = spdX (rowA [IV.agg (rowCells ksB [r] (0 : Nat) (0 : Nat) (20 : Nat))] (0 : Nat)) → ∀ (j2 : Int), j2 = t1 → ∀ (t3 : Int), t3 = spdY (rowA [IV.agg (rowCells ksB [r] (0 : Nat) (0 : Nat) (20 : Nat))] (0 : Nat)) → ∀ (j4 : Int), j4 = t3 → ∀ (t5 : Int), t5 = spdE (rowA [IV.agg (rowCells ksB [r] (0 : Nat) (0 : Nat) (20 : Nat))] (0 : Nat)) → pB [IV.agg (rowCells ksB [r] (0 : Nat) (0 : Nat) (20 : Nat))] [] ∧ br (t5 != (0 : Int)) (K (IV.agg [IV.bool false, IV.int IntKind.i64 t5]) []) (pBey [fx t1, IV.int IntKind.i64 (65536 : Int)] [] ∧ br (!!inB (65536 : Int) j2) (pBey [fx t3, IV.int IntKind.i64 (65536 : Int)] [] ∧ K (IV.agg [IV.bool !!inB (65536 : Int) j4, IV.int IntKind.i64 (0 : Int)]) []) (K (IV.agg [IV.bool false, IV.int IntKind.i64 (0 : Int)]) []))) := by refine nm ?_; refine nj ?_; refine nm ?_; refine nj ?_; refine nm ?_; kernel_rfl
noncomputable def spSlow : Vs.Spec := ⟨pB, fun l _ => (.tup [.bool (slowB (rowA l 0)), .int .i64 (spdE (rowA l 0))], [])⟩
noncomputable def spRSlow : Vs.Spec := ⟨pB, fun l _ => (.agg [.bool (slowB (rowA l 0)), .int .i64 (spdE (rowA l 0))], [])⟩
def mvx (r : List Int) (h : Int) : Int := onN (fr r 4) (fr r 8) (fr r 0) h
def mvy (r : List Int) (h : Int) : Int := onN (fr r 6) (fr r 10) (fr r 0) h
def mvE (r : List Int) (h : Int) : Int := if onE (fr r 4) (fr r 8) (fr r 0) h ≠ 0 then onE (fr r 4) (fr r 8) (fr r 0) h else if onE (fr r 6) (fr r 10) (fr r 0) h ≠ 0 then onE (fr r 6) (fr r 10) (fr r 0) h else if wiB 1073741824 (mvx r h) (mvy r h) then 0 else 5
def mvX (r : List Int) (h : Int) : Int := if mvE r h = 0 then mvx r h else 0
def mvY (r : List Int) (h : Int) : Int := if mvE r h = 0 then mvy r h else 0
def pBh (l : List IV) (bs : List Blk) : Prop := ∃ r h, l = [bodyR r, fx h] ∧ bs = [] ∧ r.length = 20 ∧ rowB r ∧ mayB r ∧ mayF h
noncomputable def spMoved : Vs.Spec := ⟨pBh, fun l _ => (.tup [vx (mvX (rowA l 0) (v2 l 1)) (mvY (rowA l 0) (v2 l 1)), .int .i64 (mvE (rowA l 0) (v2 l 1))], [])⟩
theorem v_moved (r : List Int) (h : Int) (K : IV → List Blk → Prop) : (comes Try.prog Nd2 3 f_drift_moved [bodyR r, fx h] [] K) = (∀ (j1 : Int), j1 = h → ∀ (t2 : Int), t2 = onN (rd [r] (0 : Nat) (4 : Nat) * (18446744073709551616 : Int) + rd [r] (0 : Nat) (5 : Nat)) (rd [r] (0 : Nat) (8 : Nat) * (18446744073709551616 : Int) + rd [r] (0 : Nat) (9 : Nat)) (rd [r] (0 : Nat) (0 : Nat) * (18446744073709551616 : Int) + rd [r] (0 : Nat) (1 : Nat)) j1 → ∀ (j3 : Int), j3 = t2 → ∀ (t4 : Int), t4 = onN (rd [r] (0 : Nat) (6 : Nat) * (18446744073709551616 : Int) + rd [r] (0 : Nat) (7 : Nat)) (rd [r] (0 : Nat) (10 : Nat) * (18446744073709551616 : Int) + rd [r] (0 : Nat) (11 : Nat)) (rd [r] (0 : Nat) (0 : Nat) * (18446744073709551616 : Int) + rd [r] (0 : Nat) (1 : Nat)) j1 → ∀ (j5 : Int), j5 = t4 → ∀ (t6 : Int), t6 = rd [r] (0 : Nat) (4 : Nat) → ∀ (t7 : Int), t7 = rd [r] (0 : Nat) (5 : Nat) → ∀ (t8 : Int), t8 = rd [r] (0 : Nat) (8 : Nat) → ∀ (t9 : Int), t9 = rd [r] (0 : Nat) (9 : Nat) → ∀ (t10 : Int), t10 = rd [r] (0 : Nat) (0 : Nat) → ∀ (t11 : Int), t11 = rd [r] (0 : Nat) (1 : Nat) → ∀ (t12 : Int), t12 = rd [r] (0 : Nat) (6 : Nat) → ∀ (t13 : Int), t13 = rd [r] (0 : Nat) (7 : Nat) → ∀ (t14 : Int), t14 = rd [r] (0 : Nat) (10 : Nat) → ∀ (t15 : Int), t15 = rd [r] (0 : Nat) (11 : Nat) → ∀ (t16 : Int), t16 = t10 * (18446744073709551616 : Int) + t11 → ∀ (t17 : Prop), t17 = K (IV.tup [IV.agg [IV.int IntKind.i64 (0 : Int), IV.int IntKind.u64 (0 : Int), IV.int IntKind.i64 (0 : Int), IV.int IntKind.u64 (0 : Int)], IV.int IntKind.i64 (5 : Int)]) [] → ∀ (t18 : Prop), t18 = vin1 [vx t2 t4] [] → ∀ (t19 : Int), t19 = onE (t6 * (18446744073709551616 : Int) + t7) (t8 * (18446744073709551616 : Int) + t9) t16 j1 → ∀ (t20 : Int), t20 = onE (t12 * (18446744073709551616 : Int) + t13) (t14 * (18446744073709551616 : Int) + t15) t16 j1 → pOn [IV.agg [IV.int IntKind.i64 t6, IV.int IntKind.u64 t7], IV.agg [IV.int IntKind.i64 t8, IV.int IntKind.u64 t9], IV.agg [IV.int IntKind.i64 t10, IV.int IntKind.u64 t11], fx h] [] ∧ br (t19 != (0 : Int)) (K (IV.tup [IV.agg [IV.int IntKind.i64 (0 : Int), IV.int IntKind.u64 (0 : Int), IV.int IntKind.i64 (0 : Int), IV.int IntKind.u64 (0 : Int)], IV.int IntKind.i64 t19]) []) (pOn [IV.agg [IV.int IntKind.i64 t12, IV.int IntKind.u64 t13], IV.agg [IV.int IntKind.i64 t14, IV.int IntKind.u64 t15], IV.agg [IV.int IntKind.i64 t10, IV.int IntKind.u64 t11], fx h] [] ∧ br (t20 != (0 : Int)) (K (IV.tup [IV.agg [IV.int IntKind.i64 (0 : Int), IV.int IntKind.u64 (0 : Int), IV.int IntKind.i64 (0 : Int), IV.int IntKind.u64 (0 : Int)], IV.int IntKind.i64 t20]) []) (t18 ∧ br (!(decide ((-170141183460469231731687303715884105728 : Int) < j3) && decide ((-170141183460469231731687303715884105728 : Int) < j5))) t17 (t18 ∧ br (!wiB (1073741824 : Int) j3 j5) t17 (K (IV.tup [vx t2 t4, IV.int IntKind.i64 (0 : Int)]) []))))) := by refine nj ?_; refine nm ?_; refine nj ?_; refine nm ?_; refine nj ?_; refine nm ?_; refine nm ?_; refine nm ?_; refine nm ?_; refine nm ?_; refine nm ?_; refine nm ?_; refine nm ?_; refine nm ?_; refine nm ?_; refine nm ?_; refine nm ?_; refine nm ?_; refine nm ?_; refine nm ?_; kernel_rfl
noncomputable def Γd3 : FuncId → Option Vs.Spec := fun g => if g = f_drift_Slow then some spSlow else if g = f_perigeeref10_Slow then some spRSlow else if g = f_drift_moved then some spMoved else Γd2 g
def vecRow (x y : Int) : List Int := [x / 18446744073709551616, x % 18446744073709551616, y / 18446744073709551616, y % 18446744073709551616]
def movE (h : Int) : List (List Int) → Int
  | [] => 0
  | r :: l => if mvE r h ≠ 0 then mvE r h else movE h l
def movL0 (h : Int) (xs : List (List Int)) : List (List Int) := xs.map fun r => vecRow (mvX r h) (mvY r h)
def movL (h : Int) (xs : List (List Int)) : List (List Int) := if movE h xs = 0 then movL0 h xs else []
def goodB (r : List Int) : Prop := r.length = 20 ∧ rowB r ∧ mayB r
def goodBs (xs : List (List Int)) : Prop := ∀ r ∈ xs, goodB r
def Smv (xs zs : List (List Int)) (h i : Int) : St := ⟨T 32 [(3, .ptr 1 0), (6, .sl 2), (11, .sl 0), (12, .int .i64 xs.length), (13, .int .i64 i)], [some (.ro ksB xs), some (.var 28 (fx h).cells), some (.row 30 ksV zs)]⟩
theorem rMove (Λ : FuncId → Nat → Option LoopS) (d : Nat) (xs zs : List (List Int)) (h i : Int) (k : Out → St → Prop) : (round (envOf Try.prog ⟨Γd3, Λ, fun _ => none⟩ d) f_drift_Move 1 0 (lp Try.prog f_drift_Move 0) (Smv xs zs h i) k) = (∀ (j1 : Int), j1 = h → ∀ (t2 : Prop), t2 = ((0 : Int) ≤ i ∧ i < (↑xs.length : Int)) → ∀ (t3 : Int), t3 = mvE (rowA [IV.agg (rowCells ksB xs i.toNat (0 : Nat) (20 : Nat)), fx h] (0 : Nat)) j1 → ∀ (t4 : Int), t4 = mvX (rowA [IV.agg (rowCells ksB xs i.toNat (0 : Nat) (20 : Nat)), fx h] (0 : Nat)) j1 → ∀ (t5 : Int), t5 = mvY (rowA [IV.agg (rowCells ksB xs i.toNat (0 : Nat) (20 : Nat)), fx h] (0 : Nat)) j1 → br (decide (i < (↑xs.length : Int))) (t2 ∧ t2 ∧ pBh [IV.agg (rowCells ksB xs i.toNat (0 : Nat) (20 : Nat)), fx h] [] ∧ br (t3 != (0 : Int)) (k Out.ret (St.mk (T (32 : Nat) [((4 : Nat), IV.sl (1 : Nat)), ((5 : Nat), IV.int IntKind.i64 t3)]) [some (Blk.ro ksB xs), some (Blk.row (30 : Nat) ksV [])])) ((zs.length + (1 : Nat)) * (32 : Nat) ≤ (140737488355328 : Nat) ∧ k Out.normal (St.mk (T (32 : Nat) [((3 : Nat), IV.ptr (1 : Nat) (0 : Nat)), ((6 : Nat), IV.sl (2 : Nat)), ((11 : Nat), IV.sl (0 : Nat)), ((12 : Nat), IV.int IntKind.i64 (↑xs.length : Int)), ((13 : Nat), IV.int IntKind.i64 (IntKind.i64.wrap (i + (1 : Int))))]) [some (Blk.ro ksB xs), some (Blk.var (28 : Nat) [IV.int IntKind.i64 (h / (18446744073709551616 : Int)), IV.int IntKind.u64 (h % (18446744073709551616 : Int))]), some (Blk.row (30 : Nat) ksV (zs ++ (List.replicate (1 : Nat) (List.replicate (4 : Nat) (0 : Int))).set (0 : Nat) [t4 / (18446744073709551616 : Int), t4 % (18446744073709551616 : Int), t5 / (18446744073709551616 : Int), t5 % (18446744073709551616 : Int)]))]))) (k (Out.exit (0 : Nat)) (St.mk (T (32 : Nat) [((6 : Nat), IV.sl (1 : Nat))]) [some (Blk.ro ksB xs), some (Blk.row (30 : Nat) ksV zs)]))) := by refine nj ?_; refine nm ?_; refine nm ?_; refine nm ?_; refine nm ?_; kernel_rfl
def Srm (xs zs : List (List Int)) (h i : Int) : St := ⟨T 81 [(0, .sl 0), (3, .ptr 1 0), (4, .ptr 2 0), (5, .sl 3), (6, .int .i64 i)], [some (.ro ksB xs), some (.var 28 (fx h).cells), some (.var 58 [.sl 4, .int .i64 0]), some (.row 30 ksV zs), some (.row 30 ksV [])]⟩
theorem rRMove (Λ : FuncId → Nat → Option LoopS) (d : Nat) (xs zs : List (List Int)) (h i : Int) (k : Out → St → Prop) : (round (envOf Try.prog ⟨Γd3, Λ, fun _ => none⟩ d) f_perigeeref10_Move 1 0 (lp Try.prog f_perigeeref10_Move 0) (Srm xs zs h i) k) = (∀ (j1 : Int), j1 = h → ∀ (t2 : Int), t2 = onN (rd xs i.toNat (4 : Nat) * (18446744073709551616 : Int) + rd xs i.toNat (5 : Nat)) (rd xs i.toNat (8 : Nat) * (18446744073709551616 : Int) + rd xs i.toNat (9 : Nat)) (rd xs i.toNat (0 : Nat) * (18446744073709551616 : Int) + rd xs i.toNat (1 : Nat)) j1 → ∀ (j3 : Int), j3 = t2 → ∀ (t4 : Int), t4 = onN (rd xs i.toNat (6 : Nat) * (18446744073709551616 : Int) + rd xs i.toNat (7 : Nat)) (rd xs i.toNat (10 : Nat) * (18446744073709551616 : Int) + rd xs i.toNat (11 : Nat)) (rd xs i.toNat (0 : Nat) * (18446744073709551616 : Int) + rd xs i.toNat (1 : Nat)) j1 → ∀ (j5 : Int), j5 = t4 → ∀ (t6 : Int), t6 = rd xs i.toNat (4 : Nat) → ∀ (t7 : Int), t7 = rd xs i.toNat (5 : Nat) → ∀ (t8 : Int), t8 = rd xs i.toNat (8 : Nat) → ∀ (t9 : Int), t9 = rd xs i.toNat (9 : Nat) → ∀ (t10 : Int), t10 = rd xs i.toNat (0 : Nat) → ∀ (t11 : Int), t11 = rd xs i.toNat (1 : Nat) → ∀ (t12 : Int), t12 = rd xs i.toNat (6 : Nat) → ∀ (t13 : Int), t13 = rd xs i.toNat (7 : Nat) → ∀ (t14 : Int), t14 = rd xs i.toNat (10 : Nat) → ∀ (t15 : Int), t15 = rd xs i.toNat (11 : Nat) → ∀ (t16 : Prop), t16 = ((0 : Int) ≤ i ∧ i < (↑xs.length : Int)) → ∀ (t17 : Int), t17 = t10 * (18446744073709551616 : Int) + t11 → ∀ (t18 : Int), t18 = onE (t6 * (18446744073709551616 : Int) + t7) (t8 * (18446744073709551616 : Int) + t9) t17 j1 → ∀ (t19 : Int), t19 = onE (t12 * (18446744073709551616 : Int) + t13) (t14 * (18446744073709551616 : Int) + t15) t17 j1 → br (decide (i < (↑xs.length : Int))) (t16 ∧ t16 ∧ t16 ∧ t16 ∧ t16 ∧ t16 ∧ pOn [IV.agg [IV.int IntKind.i64 t6, IV.int IntKind.u64 t7], IV.agg [IV.int IntKind.i64 t8, IV.int IntKind.u64 t9], IV.agg [IV.int IntKind.i64 t10, IV.int IntKind.u64 t11], fx h] [] ∧ br (t18 != (0 : Int)) (k Out.ret (St.mk (T (81 : Nat) [((4 : Nat), IV.ptr (1 : Nat) (0 : Nat))]) [some (Blk.ro ksB xs), some (Blk.var (58 : Nat) [IV.sl (2 : Nat), IV.int IntKind.i64 t18]), some (Blk.row (30 : Nat) ksV [])])) (t16 ∧ t16 ∧ t16 ∧ t16 ∧ t16 ∧ t16 ∧ pOn [IV.agg [IV.int IntKind.i64 t12, IV.int IntKind.u64 t13], IV.agg [IV.int IntKind.i64 t14, IV.int IntKind.u64 t15], IV.agg [IV.int IntKind.i64 t10, IV.int IntKind.u64 t11], fx h] [] ∧ br (t19 != (0 : Int)) (k Out.ret (St.mk (T (81 : Nat) [((4 : Nat), IV.ptr (1 : Nat) (0 : Nat))]) [some (Blk.ro ksB xs), some (Blk.var (58 : Nat) [IV.sl (2 : Nat), IV.int IntKind.i64 t19]), some (Blk.row (30 : Nat) ksV [])])) (vin1 [vx t2 t4] [] ∧ br (!wiB (1073741824 : Int) j3 j5) (k Out.ret (St.mk (T (81 : Nat) [((4 : Nat), IV.ptr (1 : Nat) (0 : Nat))]) [some (Blk.ro ksB xs), some (Blk.var (58 : Nat) [IV.sl (2 : Nat), IV.int IntKind.i64 (5 : Int)]), some (Blk.row (30 : Nat) ksV [])])) ((zs.length + (1 : Nat)) * (32 : Nat) ≤ (140737488355328 : Nat) ∧ k Out.normal (St.mk (T (81 : Nat) [((0 : Nat), IV.sl (0 : Nat)), ((3 : Nat), IV.ptr (1 : Nat) (0 : Nat)), ((4 : Nat), IV.ptr (2 : Nat) (0 : Nat)), ((5 : Nat), IV.sl (3 : Nat)), ((6 : Nat), IV.int IntKind.i64 (IntKind.i64.wrap (i + (1 : Int))))]) [some (Blk.ro ksB xs), some (Blk.var (28 : Nat) [IV.int IntKind.i64 (h / (18446744073709551616 : Int)), IV.int IntKind.u64 (h % (18446744073709551616 : Int))]), some (Blk.var (58 : Nat) [IV.sl (4 : Nat), IV.int IntKind.i64 (0 : Int)]), some (Blk.row (30 : Nat) ksV (zs ++ (List.replicate (1 : Nat) (List.replicate (4 : Nat) (0 : Int))).set (0 : Nat) [t2 / (18446744073709551616 : Int), t2 % (18446744073709551616 : Int), t4 / (18446744073709551616 : Int), t4 % (18446744073709551616 : Int)])), some (Blk.row (30 : Nat) ksV [])]))))) (k (Out.exit (0 : Nat)) (St.mk (T (81 : Nat) [((4 : Nat), IV.ptr (1 : Nat) (0 : Nat)), ((5 : Nat), IV.sl (2 : Nat))]) [some (Blk.ro ksB xs), some (Blk.var (58 : Nat) [IV.sl (3 : Nat), IV.int IntKind.i64 (0 : Int)]), some (Blk.row (30 : Nat) ksV zs), some (Blk.row (30 : Nat) ksV [])]))) := by refine nj ?_; refine nm ?_; refine nj ?_; refine nm ?_; refine nj ?_; refine nm ?_; refine nm ?_; refine nm ?_; refine nm ?_; refine nm ?_; refine nm ?_; refine nm ?_; refine nm ?_; refine nm ?_; refine nm ?_; refine nm ?_; refine nm ?_; refine nm ?_; refine nm ?_; kernel_rfl
def Ssv (xs ys : List (List Int)) (i : Int) : St := ⟨T 26 [(0, .sl 0), (1, .sl 1), (5, .int .i64 i)], [some (.ro ksV xs), some (.ro ksV ys)]⟩
theorem rSameVecs (Λ : FuncId → Nat → Option LoopS) (d : Nat) (xs ys : List (List Int)) (i : Int) (k : Out → St → Prop) : (round (envOf Try.prog ⟨Γd3, Λ, fun _ => none⟩ d) f_perigeeref10_SameVecs 2 0 (lp Try.prog f_perigeeref10_SameVecs 0) (Ssv xs ys i) k) = (∀ (t1 : Int), t1 = rd xs i.toNat (0 : Nat) → ∀ (t2 : Int), t2 = rd ys i.toNat (0 : Nat) → ∀ (t3 : Int), t3 = rd xs i.toNat (1 : Nat) → ∀ (t4 : Int), t4 = rd ys i.toNat (1 : Nat) → ∀ (t5 : Int), t5 = rd xs i.toNat (2 : Nat) → ∀ (t6 : Int), t6 = rd ys i.toNat (2 : Nat) → ∀ (t7 : Int), t7 = rd xs i.toNat (3 : Nat) → ∀ (t8 : Int), t8 = rd ys i.toNat (3 : Nat) → ∀ (t9 : Prop), t9 = ((0 : Int) ≤ i ∧ i < (↑xs.length : Int)) → ∀ (t10 : Prop), t10 = ((0 : Int) ≤ i ∧ i < (↑ys.length : Int)) → br (decide (i < (↑xs.length : Int))) (t9 ∧ t9 ∧ t10 ∧ t10 ∧ br (!(decide (t1 = t2) && (decide (t3 = t4) && (decide (t5 = t6) && (decide (t7 = t8) && true))))) (k Out.ret (St.mk (T (26 : Nat) [((4 : Nat), IV.bool false)]) [some (Blk.ro ksV xs), some (Blk.ro ksV ys)])) (k Out.normal (St.mk (T (26 : Nat) [((0 : Nat), IV.sl (0 : Nat)), ((1 : Nat), IV.sl (1 : Nat)), ((5 : Nat), IV.int IntKind.i64 (IntKind.i64.wrap (i + (1 : Int))))]) [some (Blk.ro ksV xs), some (Blk.ro ksV ys)]))) (k (Out.exit (0 : Nat)) (St.mk (T (26 : Nat) []) [some (Blk.ro ksV xs), some (Blk.ro ksV ys)]))) := by refine nm ?_; refine nm ?_; refine nm ?_; refine nm ?_; refine nm ?_; refine nm ?_; refine nm ?_; refine nm ?_; refine nm ?_; refine nm ?_; kernel_rfl
def pMv (n0 : Nat) (st : St) (xs : List (List Int)) (h : Int) : Prop := goodBs xs ∧ mayF h ∧ xs.length ≤ 1000000 ∧ n0 = 1 ∧ st = Smv xs [] h 0
def pRm (n0 : Nat) (st : St) (xs : List (List Int)) (h : Int) : Prop := goodBs xs ∧ mayF h ∧ xs.length ≤ 1000000 ∧ n0 = 1 ∧ st = Srm xs [] h 0
def pSv (n0 : Nat) (st : St) (xs ys : List (List Int)) : Prop := xs.length = ys.length ∧ xs.length ≤ 1000000 ∧ (∀ r ∈ xs, r.length = 4) ∧ (∀ r ∈ ys, r.length = 4) ∧ n0 = 2 ∧ st = Ssv xs ys 0
end Go.Vs.RF


set_option linter.unusedVariables false
set_option linter.unusedSimpArgs false
set_option maxRecDepth 100000
/- drift: slow bodies; where a body goes -/
namespace Go.Vs.RF
open Go Go.Proofs Go.Vs Go.IntWalk

theorem ctrsd2 : ∀ {g : FuncId} {sp : Vs.Spec}, Γd2 g = some sp → Contract Try.prog g sp := ext_ok c_Speed (ext_ok c_RSpeed (ext_ok c_Inside (ext_ok c_RInside ctrsd1)))
theorem knowd2 : KnowOk Try.prog Nd2 3 := knowOf (fun g sp h => ctrsd2 h) (fun _ _ => rfl) (fun _ => rfl) 3
theorem ov_is (x y m : Int) : mayF (ovX x y m) ∧ mayF (ovY x y m) := by
  unfold ovX ovY
  constructor
  · split; exact divN_is _ _; exact may_zero
  · split; exact divN_is _ _; exact may_zero
theorem pB_of {r : List Int} (h : goodB r) : pB [bodyR r] [] := ⟨r, rfl, rfl, h.1, h.2.1, h.2.2⟩
theorem bodyR_row (xs : List (List Int)) (i : Nat) : IV.agg (rowCells ksB xs i 0 20) = bodyR (xs.getD i []) := rfl
theorem spSlow_F {r : List Int} (h : r.length = 20) : spSlow.F [bodyR r] [] = (.tup [.bool (slowB r), .int .i64 (spdE r)], []) := by
  show (IV.tup [.bool (slowB (rowA _ 0)), .int .i64 (spdE (rowA _ 0))], ([] : List Blk)) = _
  rw [rowA_body _ 0 r h rfl]
theorem spRSlow_F {r : List Int} (h : r.length = 20) : spRSlow.F [bodyR r] [] = (.agg [.bool (slowB r), .int .i64 (spdE r)], []) := by
  show (IV.agg [.bool (slowB (rowA _ 0)), .int .i64 (spdE (rowA _ 0))], ([] : List Blk)) = _
  rw [rowA_body _ 0 r h rfl]
theorem c_Slow : Contract Try.prog f_drift_Slow spSlow := by
  refine contract_of (N := Nd2) 3 knowd2 ?_
  rintro l bs _ _ ⟨r, rfl, rfl, hl, hr, hb⟩
  rw [spSlow_F hl, v_Slow]
  rw [bodyR_row, show [r].getD 0 [] = r from rfl, rowA_body _ 0 r hl rfl]
  rintro t1 e1 j2 rfl t3 e3 j4 rfl t5 e5
  obtain ⟨m1, m2⟩ := ov_is (fr r 8) (fr r 10) (fr r 0)
  refine ⟨pB_of ⟨hl, hr, hb⟩, ?_⟩
  unfold slowB
  rw [br_beq, ← e5]
  refine ⟨fun h => ⟨⟨_, _, _, rfl, rfl, inF_of (by rw [e1]; exact m1), inF_of (by rw [e3]; exact m2), by decide, by decide⟩, ?_⟩, fun h => ?_⟩
  · rw [h, ← e1, ← e3]; simp
  · rw [decide_eq_false h]; rfl
theorem c_RSlow : Contract Try.prog f_perigeeref10_Slow spRSlow := by
  refine contract_of (N := Nd2) 3 knowd2 ?_
  rintro l bs _ _ ⟨r, rfl, rfl, hl, hr, hb⟩
  rw [spRSlow_F hl, v_RSlow]
  rw [bodyR_row, show [r].getD 0 [] = r from rfl, rowA_body _ 0 r hl rfl]
  rintro t1 e1 j2 rfl t3 e3 j4 rfl t5 e5
  obtain ⟨m1, m2⟩ := ov_is (fr r 8) (fr r 10) (fr r 0)
  refine ⟨pB_of ⟨hl, hr, hb⟩, ?_⟩
  unfold slowB
  rw [br_bne, ← e5]
  refine ⟨fun h => ?_, fun h => ⟨⟨_, _, rfl, rfl, inF_of (by rw [e1]; exact m1), by decide, by decide⟩, ?_⟩⟩
  · rw [decide_eq_false h]; rfl
  · unfold wiB
    rw [h, ← e1, ← e3, br_bool, Bool.not_not, Bool.not_not]
    refine ⟨fun h1 => ⟨⟨_, _, rfl, rfl, inF_of (by rw [e3]; exact m2), by decide, by decide⟩, ?_⟩, fun h1 => ?_⟩
    · rw [h1]; simp
    · rw [h1]; simp
theorem onN_is (x p m h : Int) : mayF (onN x p m h) := by
  unfold onN
  split
  · rename_i hE
    unfold onE at hE
    split at hE
    · rename_i h1; exact absurd hE h1
    · split at hE
      · rename_i h2; exact absurd hE h2
      · exact err_zero.1 hE
  · exact may_zero
theorem spMoved_F {r : List Int} (h : Int) (hl : r.length = 20) : spMoved.F [bodyR r, fx h] [] = (.tup [vx (mvX r h) (mvY r h), .int .i64 (mvE r h)], []) := by
  show (IV.tup [vx (mvX (rowA _ 0) (v2 _ 1)) (mvY (rowA _ 0) (v2 _ 1)), .int .i64 (mvE (rowA _ 0) (v2 _ 1))], ([] : List Blk)) = _
  rw [rowA_body _ 0 r hl rfl, v2_fx _ h 1 rfl]
theorem mv_err {r : List Int} {h : Int} (he : mvE r h ≠ 0) : mvX r h = 0 ∧ mvY r h = 0 := by unfold mvX mvY; rw [if_neg he, if_neg he]; exact ⟨rfl, rfl⟩
theorem c_moved : Contract Try.prog f_drift_moved spMoved := by
  refine contract_of (N := Nd2) 3 knowd2 ?_
  rintro l bs _ _ ⟨r, h, rfl, rfl, hl, hr, ⟨h0, h4, h6, h8, h10⟩, hh⟩
  rw [spMoved_F h hl, v_moved]
  rintro j1 rfl t2 e2 j3 rfl t4 e4 j5 rfl t6 rfl t7 rfl t8 rfl t9 rfl t10 rfl t11 rfl t12 rfl t13 rfl t14 rfl t15 rfl t16 rfl t17 e17 t18 e18 t19 e19 t20 e20
  rw [show j3 = mvx r j1 from e2] at *
  rw [show j5 = mvy r j1 from e4] at *
  rw [fx_row hr 0 (by decide) rfl, fx_row hr 4 (by decide) rfl, fx_row hr 6 (by decide) rfl, fx_row hr 8 (by decide) rfl, fx_row hr 10 (by decide) rfl]
  have m3 : mayF (mvx r j1) := onN_is _ _ _ _
  have m5 : mayF (mvy r j1) := onN_is _ _ _ _
  have stop : ∀ {e : Int}, e ≠ 0 → mvE r j1 = e → (IV.tup [vx (mvX r j1) (mvY r j1), .int .i64 (mvE r j1)], ([] : List Blk)) = (.tup [.agg [.int .i64 0, .int .u64 0, .int .i64 0, .int .u64 0], .int .i64 e], []) := by
    intro e he h
    obtain ⟨z1, z2⟩ := mv_err (r := r) (h := j1) (by rw [h]; exact he)
    rw [z1, z2, h]; rfl
  refine ⟨⟨_, _, _, _, rfl, rfl, h4, h8, h0, hh⟩, ?_⟩
  rw [br_bne]
  refine ⟨fun h => stop h (by unfold mvE; rw [if_pos (by rw [e19] at h; exact h), e19]; rfl), fun h19 => ⟨⟨_, _, _, _, rfl, rfl, h6, h10, h0, hh⟩, ?_⟩⟩
  have c19 : ¬ onE (fr r 4) (fr r 8) (fr r 0) j1 ≠ 0 := fun hh => hh (by rw [e19] at h19; exact h19)
  rw [br_bne]
  refine ⟨fun h => stop h (by unfold mvE; rw [if_neg c19, if_pos (by rw [e20] at h; exact h), e20]; rfl), fun h20 => ?_⟩
  have c20 : ¬ onE (fr r 6) (fr r 10) (fr r 0) j1 ≠ 0 := fun hh => hh (by rw [e20] at h20; exact h20)
  have p18 : t18 := by rw [e18]; exact vin1_of (inF_of m3) (inF_of m5)
  refine ⟨p18, ?_⟩
  rw [show (!(decide (-170141183460469231731687303715884105728 < mvx r j1) && decide (-170141183460469231731687303715884105728 < mvy r j1))) = false by rw [decide_eq_true m3.1, decide_eq_true m5.1]; rfl]
  refine ⟨p18, ?_⟩
  rw [br_bool, Bool.not_eq_true', Bool.not_eq_false']
  refine ⟨fun hw => ?_, fun hw => ?_⟩
  · rw [e17]
    exact stop (by decide) (by unfold mvE; rw [if_neg c19, if_neg c20, hw]; rfl)
  · have hE : mvE r j1 = 0 := by unfold mvE; rw [if_neg c19, if_neg c20, hw]; rfl
    unfold mvX mvY
    rw [hE, if_pos rfl, if_pos rfl]
theorem ctrsd3 : ∀ {g : FuncId} {sp : Vs.Spec}, Γd3 g = some sp → Contract Try.prog g sp := ext_ok c_Slow (ext_ok c_RSlow (ext_ok c_moved ctrsd2))
end Go.Vs.RF

set_option linter.unusedVariables false
/- drift: where all go; are two lists one? -/
namespace Go.Vs.RF
open Go Go.Proofs Go.Vs
noncomputable def LMv : LoopS := fun n0 st K => ∃ xs h, pMv n0 st xs h ∧ br (movE h xs != 0) (K .ret ⟨T 32 [(4, .sl 1), (5, .int .i64 (movE h xs))], [some (.ro ksB xs), some (.row 30 ksV [])]⟩) (K (.exit 0) ⟨T 32 [(6, .sl 1)], [some (.ro ksB xs), some (.row 30 ksV (movL0 h xs))]⟩)
noncomputable def LRm : LoopS := fun n0 st K => ∃ xs h, pRm n0 st xs h ∧ br (movE h xs != 0) (K .ret ⟨T 81 [(4, .ptr 1 0)], [some (.ro ksB xs), some (.var 58 [.sl 2, .int .i64 (movE h xs)]), some (.row 30 ksV [])]⟩) (K (.exit 0) ⟨T 81 [(4, .ptr 1 0), (5, .sl 2)], [some (.ro ksB xs), some (.var 58 [.sl 3, .int .i64 0]), some (.row 30 ksV (movL0 h xs)), some (.row 30 ksV [])]⟩)
noncomputable def LSv : LoopS := fun n0 st K => ∃ xs ys, pSv n0 st xs ys ∧ br (bp (xs = ys)) (K (.exit 0) ⟨T 26 [], [some (.ro ksV xs), some (.ro ksV ys)]⟩) (K .ret ⟨T 26 [(4, .bool false)], [some (.ro ksV xs), some (.ro ksV ys)]⟩)
noncomputable def NMv : Know := ⟨Γd3, fun f i => if f = f_drift_Move then (if i = 0 then some LMv else none) else none, fun _ => none⟩
noncomputable def NRm : Know := ⟨Γd3, fun f i => if f = f_perigeeref10_Move then (if i = 0 then some LRm else none) else none, fun _ => none⟩
noncomputable def NSv : Know := ⟨Γd3, fun f i => if f = f_perigeeref10_SameVecs then (if i = 0 then some LSv else none) else none, fun _ => none⟩
theorem v_Move (xs : List (List Int)) (h : Int) (K : IV → List Blk → Prop) : (comes Try.prog NMv 3 f_drift_Move [.sl 0, fx h] [.ro ksB xs] K) = (∃ xs_1 h_1, pMv (1 : Nat) (St.mk (T (32 : Nat) [((3 : Nat), IV.ptr (1 : Nat) (0 : Nat)), ((6 : Nat), IV.sl (2 : Nat)), ((11 : Nat), IV.sl (0 : Nat)), ((12 : Nat), IV.int IntKind.i64 (↑xs.length : Int)), ((13 : Nat), IV.int IntKind.i64 (0 : Int))]) [some (Blk.ro ksB xs), some (Blk.var (28 : Nat) [IV.int IntKind.i64 (h / (18446744073709551616 : Int)), IV.int IntKind.u64 (h % (18446744073709551616 : Int))]), some (Blk.row (30 : Nat) ksV [])]) xs_1 h_1 ∧ br (movE h_1 xs_1 != (0 : Int)) (K (IV.tup [IV.sl (0 : Nat), IV.int IntKind.i64 (movE h_1 xs_1)]) [Blk.row (30 : Nat) ksV []]) (K (IV.tup [IV.sl (0 : Nat), IV.int IntKind.i64 (0 : Int)]) [Blk.row (30 : Nat) ksV (movL0 h_1 xs_1)])) := by kernel_rfl
theorem v_RMove (xs : List (List Int)) (h : Int) (K : IV → List Blk → Prop) : (comes Try.prog NRm 3 f_perigeeref10_Move [.sl 0, fx h] [.ro ksB xs] K) = (∃ xs_1 h_1, pRm (1 : Nat) (St.mk (T (81 : Nat) [((0 : Nat), IV.sl (0 : Nat)), ((3 : Nat), IV.ptr (1 : Nat) (0 : Nat)), ((4 : Nat), IV.ptr (2 : Nat) (0 : Nat)), ((5 : Nat), IV.sl (3 : Nat)), ((6 : Nat), IV.int IntKind.i64 (0 : Int))]) [some (Blk.ro ksB xs), some (Blk.var (28 : Nat) [IV.int IntKind.i64 (h / (18446744073709551616 : Int)), IV.int IntKind.u64 (h % (18446744073709551616 : Int))]), some (Blk.var (58 : Nat) [IV.sl (4 : Nat), IV.int IntKind.i64 (0 : Int)]), some (Blk.row (30 : Nat) ksV []), some (Blk.row (30 : Nat) ksV [])]) xs_1 h_1 ∧ br (movE h_1 xs_1 != (0 : Int)) (K (IV.agg [IV.sl (0 : Nat), IV.int IntKind.i64 (movE h_1 xs_1)]) [Blk.row (30 : Nat) ksV []]) (K (IV.agg [IV.sl (0 : Nat), IV.int IntKind.i64 (0 : Int)]) [Blk.row (30 : Nat) ksV (movL0 h_1 xs_1)])) := by kernel_rfl
theorem v_SameVecs (xs ys : List (List Int)) (K : IV → List Blk → Prop) : (comes Try.prog NSv 3 f_perigeeref10_SameVecs [.sl 0, .sl 1] [.ro ksV xs, .ro ksV ys] K) = (br ((↑xs.length : Int) != (↑ys.length : Int)) (K (IV.bool false) []) (∃ xs_1 ys_1, pSv (2 : Nat) (St.mk (T (26 : Nat) [((0 : Nat), IV.sl (0 : Nat)), ((1 : Nat), IV.sl (1 : Nat)), ((5 : Nat), IV.int IntKind.i64 (0 : Int))]) [some (Blk.ro ksV xs), some (Blk.ro ksV ys)]) xs_1 ys_1 ∧ br (bp (xs_1 = ys_1)) (K (IV.bool true) []) (K (IV.bool false) []))) := by kernel_rfl
def pMove (l : List IV) (bs : List Blk) : Prop := ∃ xs h, l = [.sl 0, fx h] ∧ bs = [.ro ksB xs] ∧ goodBs xs ∧ mayF h ∧ xs.length ≤ 1000000
noncomputable def spMove : Vs.Spec := ⟨pMove, fun l bs => (.tup [.sl 0, .int .i64 (movE (v2 l 1) (xsOf bs 0))], [.row 30 ksV (movL (v2 l 1) (xsOf bs 0))])⟩
noncomputable def spRMove : Vs.Spec := ⟨pMove, fun l bs => (.agg [.sl 0, .int .i64 (movE (v2 l 1) (xsOf bs 0))], [.row 30 ksV (movL (v2 l 1) (xsOf bs 0))])⟩
def pSame (l : List IV) (bs : List Blk) : Prop := ∃ xs ys, l = [.sl 0, .sl 1] ∧ bs = [.ro ksV xs, .ro ksV ys] ∧ xs.length ≤ 1000000 ∧ (∀ r ∈ xs, r.length = 4) ∧ (∀ r ∈ ys, r.length = 4)
noncomputable def spSame : Vs.Spec := ⟨pSame, fun _ bs => (.bool (bp (xsOf bs 0 = xsOf bs 1)), [])⟩
def frB (x lo hi : Int) : Bool := decide (-170141183460469231731687303715884105728 < x ∧ lo ≤ x ∧ x ≤ hi)
def pFrom (l : List IV) (bs : List Blk) : Prop := ∃ x lo hi, l = [fx x, fx lo, fx hi] ∧ bs = [] ∧ inF x ∧ inF lo ∧ inF hi
noncomputable def spFrom : Vs.Spec := ⟨pFrom, fun l _ => (.bool (frB (v2 l 0) (v2 l 1) (v2 l 2)), [])⟩
theorem v_from (x lo hi : Int) (K : IV → List Blk → Prop) : (comes Try.prog Nt3 3 f_perigeeref22_from [fx x, fx lo, fx hi] [] K) = (∀ (j1 : Int), j1 = x → ∀ (j2 : Int), j2 = lo → ∀ (j3 : Int), j3 = hi → ∀ (t4 : Int), t4 = cmpI j1 j2 → ∀ (t5 : Int), t5 = cmpI j1 j3 → preF [fx x] [] ∧ br (decide ((-170141183460469231731687303715884105728 : Int) < j1)) (preFF [fx x, fx lo] [] ∧ br (decide (t4 ≥ (0 : Int))) (preFF [fx x, fx hi] [] ∧ K (IV.bool (decide (t5 ≤ (0 : Int)))) []) (K (IV.bool false) [])) (K (IV.bool false) [])) := by refine nj ?_; refine nj ?_; refine nj ?_; refine nm ?_; refine nm ?_; kernel_rfl
def pTo (l : List IV) (bs : List Blk) : Prop := ∃ x m, l = [fx x, .int .i64 m] ∧ bs = [] ∧ inF x ∧ 0 ≤ m ∧ m ≤ 1099511627776
noncomputable def spTo : Vs.Spec := ⟨pTo, fun l _ => (.bool (frB (v2 l 0) 0 (argI l 1 0 * 18446744073709551616)), [])⟩
noncomputable def Γe1 : FuncId → Option Vs.Spec := fun g => if g = f_perigeeref22_from then some spFrom else Γd3 g
noncomputable def Ne1 : Know := ⟨Γe1, fun _ _ => none, fun _ => none⟩
theorem v_to (x m : Int) (K : IV → List Blk → Prop) : (comes Try.prog Ne1 3 f_perigeeref22_to [fx x, .int .i64 m] [] K) = (∀ (j1 : Int), j1 = x → ∀ (t2 : Int), t2 = mx IntKind.i64 m (-9223372036854775807 : Int) * (18446744073709551616 : Int) → ∀ (j3 : Int), j3 = t2 → preI [IV.int IntKind.i64 m] [] ∧ pFrom [fx x, IV.agg [IV.int IntKind.i64 (0 : Int), IV.int IntKind.u64 (0 : Int)], fx t2] [] ∧ K (IV.bool (frB j1 ((0 : Int) * (18446744073709551616 : Int) + (0 : Int)) j3)) []) := by refine nj ?_; refine nm ?_; refine nj ?_; kernel_rfl
noncomputable def Γe2 : FuncId → Option Vs.Spec := fun g => if g = f_perigeeref22_to then some spTo else Γe1 g
noncomputable def Ne2 : Know := ⟨Γe2, fun _ _ => none, fun _ => none⟩
theorem v_MayBody (r : List Int) (K : IV → List Blk → Prop) : (comes Try.prog Ne2 3 f_perigeeref22_MayBody [bodyR r] [] K) = (∀ (t1 : Int), t1 = numF (rd [r] (0 : Nat) (0 : Nat) * (18446744073709551616 : Int) + rd [r] (0 : Nat) (1 : Nat) - (rd [r] (0 : Nat) (12 : Nat) * (18446744073709551616 : Int) + rd [r] (0 : Nat) (13 : Nat))) → ∀ (j2 : Int), j2 = t1 → ∀ (t3 : Int), t3 = cmpI j2 (281474976710656 : Int) → ∀ (t4 : Int), t4 = rd [r] (0 : Nat) (0 : Nat) → ∀ (t5 : Int), t5 = rd [r] (0 : Nat) (1 : Nat) → ∀ (t6 : Int), t6 = rd [r] (0 : Nat) (2 : Nat) → ∀ (t7 : Int), t7 = rd [r] (0 : Nat) (3 : Nat) → ∀ (t8 : Int), t8 = rd [r] (0 : Nat) (12 : Nat) → ∀ (t9 : Int), t9 = rd [r] (0 : Nat) (13 : Nat) → ∀ (t10 : Int), t10 = rd [r] (0 : Nat) (14 : Nat) → ∀ (t11 : Int), t11 = rd [r] (0 : Nat) (15 : Nat) → ∀ (t12 : Int), t12 = rd [r] (0 : Nat) (16 : Nat) → ∀ (t13 : Int), t13 = rd [r] (0 : Nat) (17 : Nat) → ∀ (t14 : Int), t14 = rd [r] (0 : Nat) (4 : Nat) → ∀ (t15 : Int), t15 = rd [r] (0 : Nat) (5 : Nat) → ∀ (t16 : Int), t16 = rd [r] (0 : Nat) (6 : Nat) → ∀ (t17 : Int), t17 = rd [r] (0 : Nat) (7 : Nat) → ∀ (t18 : Int), t18 = rd [r] (0 : Nat) (8 : Nat) → ∀ (t19 : Int), t19 = rd [r] (0 : Nat) (9 : Nat) → ∀ (t20 : Int), t20 = rd [r] (0 : Nat) (10 : Nat) → ∀ (t21 : Int), t21 = rd [r] (0 : Nat) (11 : Nat) → ∀ (t22 : Int), t22 = rd [r] (0 : Nat) (18 : Nat) → ∀ (t23 : Int), t23 = rd [r] (0 : Nat) (19 : Nat) → ∀ (t24 : Int), t24 = t4 * (18446744073709551616 : Int) + t5 → ∀ (t25 : Int), t25 = t14 * (18446744073709551616 : Int) + t15 → ∀ (t26 : Int), t26 = t16 * (18446744073709551616 : Int) + t17 → ∀ (t27 : Int), t27 = t18 * (18446744073709551616 : Int) + t19 → ∀ (t28 : Int), t28 = t20 * (18446744073709551616 : Int) + t21 → ∀ (t29 : Prop), t29 = vin1 [IV.agg [IV.int IntKind.i64 t14, IV.int IntKind.u64 t15, IV.int IntKind.i64 t16, IV.int IntKind.u64 t17]] [] → preI [IV.int IntKind.i64 (1048576 : Int)] [] ∧ pFrom [IV.agg [IV.int IntKind.i64 t4, IV.int IntKind.u64 t5], IV.agg [IV.int IntKind.i64 (0 : Int), IV.int IntKind.u64 (281474976710656 : Int)], IV.agg [IV.int IntKind.i64 (1048576 : Int), IV.int IntKind.u64 (0 : Int)]] [] ∧ br (!frB t24 (281474976710656 : Int) (19342813113834066795298816 : Int)) (K (IV.bool false) []) (pTo [IV.agg [IV.int IntKind.i64 t6, IV.int IntKind.u64 t7], IV.int IntKind.i64 (65536 : Int)] [] ∧ br (!frB (t6 * (18446744073709551616 : Int) + t7) (0 : Int) (1208925819614629174706176 : Int)) (K (IV.bool false) []) (pFrom [IV.agg [IV.int IntKind.i64 t8, IV.int IntKind.u64 t9], IV.agg [IV.int IntKind.i64 (0 : Int), IV.int IntKind.u64 (0 : Int)], IV.agg [IV.int IntKind.i64 t4, IV.int IntKind.u64 t5]] [] ∧ br (!frB (t8 * (18446744073709551616 : Int) + t9) (0 : Int) t24) (K (IV.bool false) []) (pTo [IV.agg [IV.int IntKind.i64 t10, IV.int IntKind.u64 t11], IV.int IntKind.i64 (65536 : Int)] [] ∧ br (!frB (t10 * (18446744073709551616 : Int) + t11) (0 : Int) (1208925819614629174706176 : Int)) (K (IV.bool false) []) (pTo [IV.agg [IV.int IntKind.i64 t12, IV.int IntKind.u64 t13], IV.int IntKind.i64 (65536 : Int)] [] ∧ br (!frB (t12 * (18446744073709551616 : Int) + t13) (0 : Int) (1208925819614629174706176 : Int)) (K (IV.bool false) []) (t29 ∧ br (!(decide ((-170141183460469231731687303715884105728 : Int) < t25) && decide ((-170141183460469231731687303715884105728 : Int) < t26))) (K (IV.bool false) []) (vin1 [IV.agg [IV.int IntKind.i64 t18, IV.int IntKind.u64 t19, IV.int IntKind.i64 t20, IV.int IntKind.u64 t21]] [] ∧ br (!(decide ((-170141183460469231731687303715884105728 : Int) < t27) && decide ((-170141183460469231731687303715884105728 : Int) < t28))) (K (IV.bool false) []) (pB [IV.agg (rowCells ksB [r] (0 : Nat) (0 : Nat) (20 : Nat))] [] ∧ may2 [IV.agg [IV.int IntKind.i64 t4, IV.int IntKind.u64 t5], IV.agg [IV.int IntKind.i64 t8, IV.int IntKind.u64 t9]] [] ∧ preFF [fx t1, IV.agg [IV.int IntKind.i64 (0 : Int), IV.int IntKind.u64 (281474976710656 : Int)]] [] ∧ br (decide (t3 ≥ (0 : Int))) (t29 ∧ br (wiB (1073741824 : Int) t25 t26) (br (slowB (rowA [IV.agg (rowCells ksB [r] (0 : Nat) (0 : Nat) (20 : Nat))] (0 : Nat))) (br (decide (t22 ≥ (0 : Int))) (br (decide (t22 ≤ (100 : Int))) (br (decide (t23 ≥ (0 : Int))) (K (IV.bool (decide (t23 ≤ (65535 : Int)))) []) (K (IV.bool false) [])) (K (IV.bool false) [])) (K (IV.bool false) [])) (K (IV.bool false) [])) (K (IV.bool false) [])) (K (IV.bool false) []))))))))) := by refine nm ?_; refine nj ?_; refine nm ?_; refine nm ?_; refine nm ?_; refine nm ?_; refine nm ?_; refine nm ?_; refine nm ?_; refine nm ?_; refine nm ?_; refine nm ?_; refine nm ?_; refine nm ?_; refine nm ?_; refine nm ?_; refine nm ?_; refine nm ?_; refine nm ?_; refine nm ?_; refine nm ?_; refine nm ?_; refine nm ?_; refine nm ?_; refine nm ?_; refine nm ?_; refine nm ?_; refine nm ?_; refine nm ?_; kernel_rfl
def mayBB (r : List Int) : Bool := frB (fr r 0) 281474976710656 19342813113834066795298816 && (frB (fr r 2) 0 1208925819614629174706176 && (frB (fr r 12) 0 (fr r 0) && (frB (fr r 14) 0 1208925819614629174706176 && (frB (fr r 16) 0 1208925819614629174706176 &&
  (decide (-170141183460469231731687303715884105728 < fr r 4 ∧ -170141183460469231731687303715884105728 < fr r 6) && (decide (-170141183460469231731687303715884105728 < fr r 8 ∧ -170141183460469231731687303715884105728 < fr r 10) &&
  (decide (281474976710656 ≤ fr r 0 - fr r 12) && (wiB 1073741824 (fr r 4) (fr r 6) && (slowB r && decide (0 ≤ r.getD 18 0 ∧ r.getD 18 0 ≤ 100 ∧ 0 ≤ r.getD 19 0 ∧ r.getD 19 0 ≤ 65535))))))))))
def pBody0 (l : List IV) (bs : List Blk) : Prop := ∃ r, l = [bodyR r] ∧ bs = [] ∧ r.length = 20 ∧ rowB r
noncomputable def spMayBody : Vs.Spec := ⟨pBody0, fun l _ => (.bool (mayBB (rowA l 0)), [])⟩
end Go.Vs.RF


set_option linter.unusedVariables false
set_option linter.unusedSimpArgs false
set_option maxRecDepth 100000
/- drift: where all go; bodies that may be -/
namespace Go.Vs.RF
open Go Go.Proofs Go.Vs Go.IntWalk

theorem mov_drop (h : Int) {xs : List (List Int)} {i : Nat} (hi : i < xs.length) : movE h (xs.drop i) = if mvE xs[i] h ≠ 0 then mvE xs[i] h else movE h (xs.drop (i + 1)) := by
  rw [List.drop_eq_getElem_cons hi]; rfl
theorem mov_over (h : Int) {xs : List (List Int)} {i : Nat} (hi : ¬ i < xs.length) : movE h (xs.drop i) = 0 := by
  rw [List.drop_eq_nil_of_le (by omega)]; rfl
theorem movL0_succ (h : Int) {xs : List (List Int)} {i : Nat} (hi : i < xs.length) : movL0 h (xs.take (i + 1)) = movL0 h (xs.take i) ++ [vecRow (mvX xs[i] h) (mvY xs[i] h)] := by
  unfold movL0; rw [List.take_add_one, List.getElem?_eq_getElem hi, Option.toList_some, List.map_append]; rfl
theorem movL0_len (h : Int) (xs : List (List Int)) : (movL0 h xs).length = xs.length := by unfold movL0; simp
theorem good_row {xs : List (List Int)} (h : goodBs xs) {i : Nat} (hi : i < xs.length) : goodB xs[i] := h _ (List.getElem_mem hi)
theorem spMv_args {xs : List (List Int)} {h : Int} {i : Nat} (hg : goodBs xs) (hi : i < xs.length) (hh : mayF h) : pBh [IV.agg (rowCells ksB xs i 0 20), fx h] [] := by
  obtain ⟨h1, h2, h3⟩ := good_row hg hi
  exact ⟨xs[i], h, by rw [bodyR_row, get_row hi], rfl, h1, h2, h3, hh⟩
theorem lMove (d n0 : Nat) : LoopOk (envOf Try.prog NMv d) f_drift_Move n0 0 (lp Try.prog f_drift_Move 0) LMv := by
  intro st K hst
  obtain ⟨xs, h, ⟨hg, hh, hl, rfl, rfl⟩, hK⟩ := hst
  refine loop_of (fun i : Nat => Smv xs (movL0 h (xs.take i)) h i) (fun i => i ≤ xs.length ∧ movE h (xs.drop i) = movE h xs) (fun i => xs.length - i) ?_ (a := 0) ⟨Nat.zero_le _, rfl⟩
  rintro i ⟨hle, he⟩ k hn hk
  show round (envOf Try.prog ⟨Γd3, _, fun _ => none⟩ d) _ _ _ _ _ k
  rw [rMove]
  rw [show ((i : Nat) : Int).toNat = i by omega]
  rintro j1 e1 t2 e2 t3 e3 t4 e4 t5 e5
  subst e1
  rw [br_dec]
  constructor
  · intro hi
    have hi' : i < xs.length := by omega
    obtain ⟨g1, g2, g3⟩ := good_row hg hi'
    have hra : rowA [IV.agg (rowCells ksB xs i 0 20), fx j1] 0 = xs[i] := rowA_body _ 0 _ g1 (by rw [bodyR_row, get_row hi']; rfl)
    rw [hra] at e3 e4 e5
    have p2 : t2 := by rw [e2]; omega
    refine ⟨p2, p2, spMv_args hg hi' hh, ?_⟩
    rw [mov_drop j1 hi', ← e3] at he
    rw [br_bne]
    constructor
    · intro h3
      rw [if_pos h3] at he
      rw [br_bne, ← he] at hK
      exact hk _ _ (by simp) (hK.1 h3)
    · intro h3
      rw [if_neg (fun hh => hh h3)] at he
      have hz : (movL0 j1 (xs.take i)).length = i := by rw [movL0_len, List.length_take]; omega
      refine ⟨by rw [hz]; omega, ?_⟩
      have := hn (i + 1) ⟨hi', he⟩ (by omega)
      rw [movL0_succ j1 hi', ← e4, ← e5] at this
      rw [show IntKind.i64.wrap ((i : Int) + 1) = ((i + 1 : Nat) : Int) by rw [i64_in _ (by omega)]; rfl]
      exact this
  · intro hi
    have hi' : i = xs.length := by omega
    subst hi'
    rw [mov_over j1 (by omega)] at he
    rw [br_bne, ← he] at hK
    rw [List.take_length]
    exact hk _ _ (by simp) (hK.2 rfl)
theorem lRMove (d n0 : Nat) : LoopOk (envOf Try.prog NRm d) f_perigeeref10_Move n0 0 (lp Try.prog f_perigeeref10_Move 0) LRm := by
  intro st K hst
  obtain ⟨xs, h, ⟨hg, hh, hl, rfl, rfl⟩, hK⟩ := hst
  refine loop_of (fun i : Nat => Srm xs (movL0 h (xs.take i)) h i) (fun i => i ≤ xs.length ∧ movE h (xs.drop i) = movE h xs) (fun i => xs.length - i) ?_ (a := 0) ⟨Nat.zero_le _, rfl⟩
  rintro i ⟨hle, he⟩ k hn hk
  show round (envOf Try.prog ⟨Γd3, _, fun _ => none⟩ d) _ _ _ _ _ k
  rw [rRMove]
  rw [show ((i : Nat) : Int).toNat = i by omega]
  rintro j1 e1 t2 e2 j3 rfl t4 e4 j5 rfl t6 e6 t7 e7 t8 e8 t9 e9 t10 e10 t11 e11 t12 e12 t13 e13 t14 e14 t15 e15 t16 e16 t17 e17 t18 e18 t19 e19
  subst e1
  rw [br_dec]
  constructor
  · intro hi
    have hi' : i < xs.length := by omega
    obtain ⟨g1, g2, m0, m4, m6, m8, m10⟩ := good_row hg hi'
    have okr : okRows ksB xs := fun r hr => (hg r hr).2.1
    have ft : ∀ j, j + 1 < 20 → ksB.getD (j + 1) .i64 = .u64 → IV.agg [.int .i64 (rd xs i j), .int .u64 (rd xs i (j + 1))] = fx (fr xs[i] j) := fun j h1 h2 => (fx_mk2 (lo_in okr i (j + 1) h1 h2) (fr_of hi' j).symm).symm
    have ej3 : j3 = mvx xs[i] j1 := by rw [e2, fr_of hi' 4, fr_of hi' 8, fr_of hi' 0]; rfl
    have ej5 : j5 = mvy xs[i] j1 := by rw [e4, fr_of hi' 6, fr_of hi' 10, fr_of hi' 0]; rfl
    have e18' : t18 = onE (fr xs[i] 4) (fr xs[i] 8) (fr xs[i] 0) j1 := by rw [e18, e17, e6, e7, e8, e9, e10, e11, fr_of hi' 4, fr_of hi' 8, fr_of hi' 0]
    have e19' : t19 = onE (fr xs[i] 6) (fr xs[i] 10) (fr xs[i] 0) j1 := by rw [e19, e17, e12, e13, e14, e15, e10, e11, fr_of hi' 6, fr_of hi' 10, fr_of hi' 0]
    rw [e6, e7, e8, e9, e10, e11, e12, e13, e14, e15, ft 0 (by decide) rfl, ft 4 (by decide) rfl, ft 6 (by decide) rfl, ft 8 (by decide) rfl, ft 10 (by decide) rfl]
    have p16 : t16 := by rw [e16]; omega
    have n3 : mayF (mvx xs[i] j1) := onN_is _ _ _ _
    have n5 : mayF (mvy xs[i] j1) := onN_is _ _ _ _
    rw [mov_drop j1 hi'] at he
    have stop : ∀ {e : Int}, e ≠ 0 → mvE xs[i] j1 = e → k .ret ⟨T 81 [(4, .ptr 1 0)], [some (.ro ksB xs), some (.var 58 [.sl 2, .int .i64 e]), some (.row 30 ksV [])]⟩ := by
      intro e h0 h1
      rw [h1, if_pos h0] at he
      rw [br_bne, ← he] at hK
      exact hk _ _ (by simp) (hK.1 h0)
    refine ⟨p16, p16, p16, p16, p16, p16, ⟨_, _, _, _, rfl, rfl, m4, m8, m0, hh⟩, ?_⟩
    rw [br_bne]
    refine ⟨fun h => stop h (by unfold mvE; rw [if_pos (by rw [← e18']; exact h), e18']), fun h18 => ⟨p16, p16, p16, p16, p16, p16, ⟨_, _, _, _, rfl, rfl, m6, m10, m0, hh⟩, ?_⟩⟩
    have c18 : ¬ onE (fr xs[i] 4) (fr xs[i] 8) (fr xs[i] 0) j1 ≠ 0 := fun hh => hh (by rw [← e18']; exact h18)
    rw [br_bne]
    refine ⟨fun h => stop h (by unfold mvE; rw [if_neg c18, if_pos (by rw [← e19']; exact h), e19']), fun h19 => ⟨vin1_of (inF_of (by rw [ej3]; exact n3)) (inF_of (by rw [ej5]; exact n5)), ?_⟩⟩
    have c19 : ¬ onE (fr xs[i] 6) (fr xs[i] 10) (fr xs[i] 0) j1 ≠ 0 := fun hh => hh (by rw [← e19']; exact h19)
    rw [ej3, ej5, br_bool, Bool.not_eq_true', Bool.not_eq_false']
    constructor
    · intro hw
      exact stop (by decide) (by unfold mvE; rw [if_neg c18, if_neg c19, hw]; rfl)
    · intro hw
      have hE : mvE xs[i] j1 = 0 := by unfold mvE; rw [if_neg c18, if_neg c19, hw]; rfl
      have hz : (movL0 j1 (xs.take i)).length = i := by rw [movL0_len, List.length_take]; omega
      refine ⟨by rw [hz]; omega, ?_⟩
      rw [hE, if_neg (fun hh => hh rfl)] at he
      have := hn (i + 1) ⟨hi', he⟩ (by omega)
      rw [movL0_succ j1 hi'] at this
      unfold mvX mvY at this
      rw [hE, if_pos rfl, if_pos rfl] at this
      rw [show IntKind.i64.wrap ((i : Int) + 1) = ((i + 1 : Nat) : Int) by rw [i64_in _ (by omega)]; rfl]
      exact this
  · intro hi
    have hi' : i = xs.length := by omega
    subst hi'
    rw [mov_over j1 (by omega)] at he
    rw [br_bne, ← he] at hK
    rw [List.take_length]
    exact hk _ _ (by simp) (hK.2 rfl)
theorem row4_of {r : List Int} (h : r.length = 4) : [r.getD 0 0, r.getD 1 0, r.getD 2 0, r.getD 3 0] = r := by
  match r, h with
  | [_, _, _, _], _ => rfl
theorem lSame (d n0 : Nat) : LoopOk (envOf Try.prog NSv d) f_perigeeref10_SameVecs n0 0 (lp Try.prog f_perigeeref10_SameVecs 0) LSv := by
  intro st K hst
  obtain ⟨xs, ys, ⟨hl, hm, hx, hy, rfl, rfl⟩, hK⟩ := hst
  rw [br_bp] at hK
  refine loop_of (fun i : Nat => Ssv xs ys i) (fun i => i ≤ xs.length ∧ ∀ p, p < i → xs[p]? = ys[p]?) (fun i => xs.length - i) ?_ (a := 0) ⟨Nat.zero_le _, fun p hp => by omega⟩
  rintro i ⟨hle, he⟩ k hn hk
  show round (envOf Try.prog ⟨Γd3, _, fun _ => none⟩ d) _ _ _ _ _ k
  rw [rSameVecs]
  rw [show ((i : Nat) : Int).toNat = i by omega]
  rintro t1 rfl t2 rfl t3 rfl t4 rfl t5 rfl t6 rfl t7 rfl t8 rfl t9 e9 t10 e10
  rw [br_dec]
  constructor
  · intro hi
    have hi' : i < xs.length := by omega
    have hi2 : i < ys.length := by omega
    have p9 : t9 := by rw [e9]; omega
    have p10 : t10 := by rw [e10]; omega
    refine ⟨p9, p9, p10, p10, ?_⟩
    have rx := row4_of (hx _ (List.getElem_mem hi'))
    have ry := row4_of (hy _ (List.getElem_mem hi2))
    have hd : ∀ j, rd xs i j = xs[i].getD j 0 := fun j => by unfold rd; rw [get_row hi']
    have hd2 : ∀ j, rd ys i j = ys[i].getD j 0 := fun j => by unfold rd; rw [get_row hi2]
    rw [hd, hd, hd, hd, hd2, hd2, hd2, hd2, br_bool, Bool.not_eq_true', Bool.not_eq_false']
    constructor
    · intro hne
      refine hk _ _ (by simp) (hK.2 ?_)
      intro hxy
      subst hxy
      simp at hne
    · intro heq
      simp only [Bool.and_eq_true, decide_eq_true_iff, Bool.and_true] at heq
      obtain ⟨a0, a1, a2, a3⟩ := heq
      have hrow : xs[i] = ys[i] := by rw [← rx, ← ry, a0, a1, a2, a3]
      rw [show IntKind.i64.wrap ((i : Int) + 1) = ((i + 1 : Nat) : Int) by rw [i64_in _ (by omega)]; rfl]
      refine hn (i + 1) ⟨hi', fun p hp => ?_⟩ (by omega)
      by_cases e : p = i
      · subst e
        rw [List.getElem?_eq_getElem hi', List.getElem?_eq_getElem hi2, hrow]
      · exact he p (by omega)
  · intro hi
    refine hk _ _ (by simp) (hK.1 ?_)
    apply List.ext_getElem?
    intro p
    by_cases hp : p < xs.length
    · exact he p (by omega)
    · rw [List.getElem?_eq_none (by omega), List.getElem?_eq_none (by omega)]
theorem movL_no {h : Int} {xs : List (List Int)} (he : movE h xs ≠ 0) : movL h xs = [] := if_neg he
theorem movL_ok {h : Int} {xs : List (List Int)} (he : movE h xs = 0) : movL h xs = movL0 h xs := if_pos he
theorem noT {g : FuncId} {G : FunS} : (fun _ : FuncId => (none : Option FunS)) g = some G → FunOk Try.prog g G := fun h => by cases h
theorem c_Move : Contract Try.prog f_drift_Move spMove := by
  refine contract_of (N := NMv) 3 (know_loop (f0 := f_drift_Move) (L := LMv) (fun g sp h => ctrsd3 h) rfl (fun g G h => noT h) lMove 3) ?_
  rintro l bs _ hB ⟨xs, h, rfl, rfl, hg, hh, hl⟩
  have hF : spMove.F [.sl 0, fx h] [.ro ksB xs] = (.tup [.sl 0, .int .i64 (movE h xs)], [.row 30 ksV (movL h xs)]) := by
    show (IV.tup [.sl 0, .int .i64 (movE (v2 _ 1) xs)], [Blk.row 30 ksV (movL (v2 _ 1) xs)]) = _
    rw [v2_fx _ h 1 rfl]
  rw [hF, v_Move]
  refine ⟨xs, h, ⟨hg, hh, hl, rfl, rfl⟩, ?_⟩
  rw [br_bne]
  exact ⟨fun he => by rw [movL_no he], fun he => by rw [movL_ok he, he]⟩
theorem c_RMove : Contract Try.prog f_perigeeref10_Move spRMove := by
  refine contract_of (N := NRm) 3 (know_loop (f0 := f_perigeeref10_Move) (L := LRm) (fun g sp h => ctrsd3 h) rfl (fun g G h => noT h) lRMove 3) ?_
  rintro l bs _ hB ⟨xs, h, rfl, rfl, hg, hh, hl⟩
  have hF : spRMove.F [.sl 0, fx h] [.ro ksB xs] = (.agg [.sl 0, .int .i64 (movE h xs)], [.row 30 ksV (movL h xs)]) := by
    show (IV.agg [.sl 0, .int .i64 (movE (v2 _ 1) xs)], [Blk.row 30 ksV (movL (v2 _ 1) xs)]) = _
    rw [v2_fx _ h 1 rfl]
  rw [hF, v_RMove]
  refine ⟨xs, h, ⟨hg, hh, hl, rfl, rfl⟩, ?_⟩
  rw [br_bne]
  exact ⟨fun he => by rw [movL_no he], fun he => by rw [movL_ok he, he]⟩
theorem c_SameVecs : Contract Try.prog f_perigeeref10_SameVecs spSame := by
  refine contract_of (N := NSv) 3 (know_loop (f0 := f_perigeeref10_SameVecs) (L := LSv) (fun g sp h => ctrsd3 h) rfl (fun g G h => noT h) lSame 3) ?_
  rintro l bs _ hB ⟨xs, ys, rfl, rfl, hl, hx, hy⟩
  show comes _ _ _ _ _ _ fun v bs' => (IV.bool (bp (xs = ys)), ([] : List Blk)) = (v, bs')
  rw [v_SameVecs, br_bne]
  refine ⟨fun h => ?_, fun h => ⟨xs, ys, ⟨by omega, hl, hx, hy, rfl, rfl⟩, ?_⟩⟩
  · rw [bp_false (fun e => h (by rw [e]))]
  · rw [br_bp]
    exact ⟨fun e => by rw [bp_true e], fun e => by rw [bp_false e]⟩
theorem frB_iff {x lo hi : Int} : frB x lo hi = true ↔ -170141183460469231731687303715884105728 < x ∧ lo ≤ x ∧ x ≤ hi := by unfold frB; exact decide_eq_true_iff
theorem c_from : Contract Try.prog f_perigeeref22_from spFrom := by
  refine contract_of (N := Nt3) 3 knowt3 ?_
  rintro l bs _ _ ⟨x, lo, hi, rfl, rfl, hx, hlo, hhi⟩
  have hF : spFrom.F [fx x, fx lo, fx hi] [] = (.bool (frB x lo hi), []) := by
    show (IV.bool (frB (v2 _ 0) (v2 _ 1) (v2 _ 2)), ([] : List Blk)) = _
    rw [v2_fx _ x 0 rfl, v2_fx _ lo 1 rfl, v2_fx _ hi 2 rfl]
  rw [hF, v_from]
  rintro j1 rfl j2 rfl j3 rfl t4 e4 t5 e5
  have no : ¬ (-170141183460469231731687303715884105728 < j1 ∧ j2 ≤ j1 ∧ j1 ≤ j3) → (IV.bool (frB j1 j2 j3), ([] : List Blk)) = (IV.bool false, []) := fun h => by
    unfold frB; rw [decide_eq_false h]
  refine ⟨preF_in hx, ?_⟩
  rw [br_dec]
  refine ⟨fun h1 => ⟨preFF_in hx hlo, ?_⟩, fun h1 => no (by omega)⟩
  rw [br_dec, e4, cmpI_ge]
  refine ⟨fun h2 => ⟨preFF_in hx hhi, ?_⟩, fun h2 => no (by omega)⟩
  unfold frB
  rw [e5, show decide (-170141183460469231731687303715884105728 < j1 ∧ j2 ≤ j1 ∧ j1 ≤ j3) = decide (cmpI j1 j3 ≤ 0) by
    rw [Bool.eq_iff_iff, decide_eq_true_iff, decide_eq_true_iff, cmpI_le]; omega]
theorem ctrse1 : ∀ {g : FuncId} {sp : Vs.Spec}, Γe1 g = some sp → Contract Try.prog g sp := ext_ok c_from ctrsd3
theorem c_to : Contract Try.prog f_perigeeref22_to spTo := by
  refine contract_of (N := Ne1) 3 (knowOf (fun g sp h => ctrse1 h) (fun _ _ => rfl) (fun _ => rfl) 3) ?_
  rintro l bs _ _ ⟨x, m, rfl, rfl, hx, h0, h1⟩
  have hF : spTo.F [fx x, .int .i64 m] [] = (.bool (frB x 0 (m * 18446744073709551616)), []) := by
    show (IV.bool (frB (v2 _ 0) 0 (m * 18446744073709551616)), ([] : List Blk)) = _
    rw [v2_fx _ x 0 rfl]
  rw [hF, v_to]
  rintro j1 rfl t2 e2 j3 rfl
  rw [mx_of (by omega)] at e2
  refine ⟨preI_of ⟨by omega, by omega⟩, ⟨_, 0, _, rfl, rfl, hx, ⟨by decide, by decide⟩, by rw [e2]; exact inF_whole ⟨by omega, by omega⟩⟩, ?_⟩
  rw [e2, show (0 : Int) * 18446744073709551616 + 0 = 0 by decide]
theorem ctrse2 : ∀ {g : FuncId} {sp : Vs.Spec}, Γe2 g = some sp → Contract Try.prog g sp := ext_ok c_to ctrse1
theorem row_fr {r : List Int} (h : rowB r) (j : Nat) (hj : j + 1 < 20) (hk : ksB.getD j .i64 = .i64) (hk2 : ksB.getD (j + 1) .i64 = .u64) : inF (fr r j) := by
  have h1 := h j (by omega)
  rw [hk] at h1
  have h1' : -9223372036854775808 ≤ r.getD j 0 ∧ r.getD j 0 ≤ 9223372036854775807 := h1
  have h2 := row_lo h (j + 1) hj hk2
  unfold u64ok at h2
  unfold inF fr
  omega
theorem c_MayBody : Contract Try.prog f_perigeeref22_MayBody spMayBody := by
  refine contract_of (N := Ne2) 3 (knowOf (fun g sp h => ctrse2 h) (fun _ _ => rfl) (fun _ => rfl) 3) ?_
  rintro l bs _ _ ⟨r, rfl, rfl, hl, hr⟩
  have hF : spMayBody.F [bodyR r] [] = (.bool (mayBB r), []) := by
    show (IV.bool (mayBB (rowA _ 0)), ([] : List Blk)) = _
    rw [rowA_body _ 0 r hl rfl]
  rw [hF, v_MayBody]
  rw [bodyR_row, show [r].getD 0 [] = r from rfl, rowA_body _ 0 r hl rfl]
  rintro t1 e1 j2 rfl t3 e3 t4 rfl t5 rfl t6 rfl t7 rfl t8 rfl t9 rfl t10 rfl t11 rfl t12 rfl t13 rfl t14 rfl t15 rfl t16 rfl t17 rfl t18 rfl t19 rfl t20 rfl t21 rfl t22 e22 t23 e23 t24 e24 t25 e25 t26 e26 t27 e27 t28 e28 t29 e29
  rw [show t24 = fr r 0 from e24, show t25 = fr r 4 from e25, show t26 = fr r 6 from e26, show t27 = fr r 8 from e27, show t28 = fr r 10 from e28]
  rw [show rd [r] 0 2 * 18446744073709551616 + rd [r] 0 3 = fr r 2 from rfl, show rd [r] 0 12 * 18446744073709551616 + rd [r] 0 13 = fr r 12 from rfl, show rd [r] 0 14 * 18446744073709551616 + rd [r] 0 15 = fr r 14 from rfl, show rd [r] 0 16 * 18446744073709551616 + rd [r] 0 17 = fr r 16 from rfl]
  rw [fx_row hr 0 (by decide) rfl, fx_row hr 2 (by decide) rfl, fx_row hr 12 (by decide) rfl, fx_row hr 14 (by decide) rfl, fx_row hr 16 (by decide) rfl]
  have i0 := row_fr hr 0 (by decide) rfl rfl
  have i2 := row_fr hr 2 (by decide) rfl rfl
  have i4 := row_fr hr 4 (by decide) rfl rfl
  have i6 := row_fr hr 6 (by decide) rfl rfl
  have i8 := row_fr hr 8 (by decide) rfl rfl
  have i10 := row_fr hr 10 (by decide) rfl rfl
  have i12 := row_fr hr 12 (by decide) rfl rfl
  have i14 := row_fr hr 14 (by decide) rfl rfl
  have i16 := row_fr hr 16 (by decide) rfl rfl
  have vc : ∀ (a b c d : Nat), b < 20 → d < 20 → ksB.getD b .i64 = .u64 → ksB.getD d .i64 = .u64 → [IV.agg [.int .i64 (rd [r] 0 a), .int .u64 (rd [r] 0 b), .int .i64 (rd [r] 0 c), .int .u64 (rd [r] 0 d)]] = [vx (rd [r] 0 a * 18446744073709551616 + rd [r] 0 b) (rd [r] 0 c * 18446744073709551616 + rd [r] 0 d)] := fun a b c d hb hd kb kd => vx_cells (row_lo hr b hb kb) (row_lo hr d hd kd)
  have p29 : t29 := by rw [e29, vc 4 5 6 7 (by decide) (by decide) rfl rfl]; exact vin1_of i4 i6
  have pv8 : vin1 [IV.agg [.int .i64 (rd [r] 0 8), .int .u64 (rd [r] 0 9), .int .i64 (rd [r] 0 10), .int .u64 (rd [r] 0 11)]] [] := by rw [vc 8 9 10 11 (by decide) (by decide) rfl rfl]; exact vin1_of i8 i10
  have l48 : inF 281474976710656 := ⟨by decide, by decide⟩
  unfold mayBB
  refine ⟨preI_of ⟨by decide, by decide⟩, ⟨_, 281474976710656, 19342813113834066795298816, rfl, rfl, i0, l48, ⟨by decide, by decide⟩⟩, ?_⟩
  rw [br_bool, Bool.not_eq_true', Bool.not_eq_false']
  refine ⟨fun h => by rw [h]; rfl, fun c1 => ⟨⟨_, _, rfl, rfl, i2, by decide, by decide⟩, ?_⟩⟩
  rw [c1, Bool.true_and, br_bool, Bool.not_eq_true', Bool.not_eq_false']
  refine ⟨fun h => by rw [h]; rfl, fun c2 => ⟨⟨_, 0, _, rfl, rfl, i12, ⟨by decide, by decide⟩, i0⟩, ?_⟩⟩
  rw [c2, Bool.true_and, br_bool, Bool.not_eq_true', Bool.not_eq_false']
  refine ⟨fun h => by rw [h]; rfl, fun c3 => ⟨⟨_, _, rfl, rfl, i14, by decide, by decide⟩, ?_⟩⟩
  rw [c3, Bool.true_and, br_bool, Bool.not_eq_true', Bool.not_eq_false']
  refine ⟨fun h => by rw [h]; rfl, fun c4 => ⟨⟨_, _, rfl, rfl, i16, by decide, by decide⟩, ?_⟩⟩
  rw [c4, Bool.true_and, br_bool, Bool.not_eq_true', Bool.not_eq_false']
  refine ⟨fun h => by rw [h]; rfl, fun c5 => ⟨p29, ?_⟩⟩
  rw [c5, Bool.true_and, ← Bool.decide_and, br_bool, Bool.not_eq_true', Bool.not_eq_false']
  refine ⟨fun h => by rw [h]; rfl, fun c6 => ⟨pv8, ?_⟩⟩
  rw [c6, Bool.true_and, ← Bool.decide_and, br_bool, Bool.not_eq_true', Bool.not_eq_false']
  refine ⟨fun h => by rw [h]; rfl, fun c7 => ?_⟩
  rw [c7, Bool.true_and]
  have q1 := frB_iff.1 c1
  have q3 := frB_iff.1 c3
  rw [decide_eq_true_iff] at c6 c7
  have m0 : mayF (fr r 0) := ⟨q1.1, i0.2⟩
  have m12 : mayF (fr r 12) := ⟨(frB_iff.1 c3).1, i12.2⟩
  have hgood : goodB r := ⟨hl, hr, m0, ⟨c6.1, i4.2⟩, ⟨c6.2, i6.2⟩, ⟨c7.1, i8.2⟩, ⟨c7.2, i10.2⟩⟩
  have md : mayF (fr r 0 - fr r 12) := ⟨by have := q3.2.2; omega, by have := q3.2.1; have := m0.2; omega⟩
  have e1' : j2 = fr r 0 - fr r 12 := by rw [e1]; exact num_may md
  refine ⟨pB_of hgood, may2_of m0 m12, preFF_in (y := 281474976710656) (by rw [e1']; exact inF_of md) l48, ?_⟩
  rw [br_dec, e3, cmpI_ge, e1']
  refine ⟨fun c8 => ⟨p29, ?_⟩, fun c8 => by rw [decide_eq_false c8]; rfl⟩
  rw [decide_eq_true c8, Bool.true_and, br_bool]
  refine ⟨fun c9 => ?_, fun c9 => by rw [c9]; rfl⟩
  rw [c9, Bool.true_and, br_bool]
  refine ⟨fun c10 => ?_, fun c10 => by rw [c10]; rfl⟩
  rw [c10, Bool.true_and, show r.getD 18 0 = t22 from e22.symm, show r.getD 19 0 = t23 from e23.symm]
  have no : ¬ (0 ≤ t22 ∧ t22 ≤ 100 ∧ 0 ≤ t23 ∧ t23 ≤ 65535) → (IV.bool (decide (0 ≤ t22 ∧ t22 ≤ 100 ∧ 0 ≤ t23 ∧ t23 ≤ 65535)), ([] : List Blk)) = (IV.bool false, []) := fun h => by rw [decide_eq_false h]
  rw [br_dec]
  refine ⟨fun c11 => ?_, fun c11 => no (by omega)⟩
  rw [br_dec]
  refine ⟨fun c12 => ?_, fun c12 => no (by omega)⟩
  rw [br_dec]
  refine ⟨fun c13 => ?_, fun c13 => no (by omega)⟩
  rw [show decide (0 ≤ t22 ∧ t22 ≤ 100 ∧ 0 ≤ t23 ∧ t23 ≤ 65535) = decide (t23 ≤ 65535) by rw [Bool.eq_iff_iff, decide_eq_true_iff, decide_eq_true_iff]; omega]
theorem ctrse3 : ∀ {g : FuncId} {sp : Vs.Spec}, (fun g => if g = f_perigeeref22_MayBody then some spMayBody else if g = f_drift_Move then some spMove else if g = f_perigeeref10_Move then some spRMove else if g = f_perigeeref10_SameVecs then some spSame else Γe2 g) g = some sp → Contract Try.prog g sp := ext_ok c_MayBody (ext_ok c_Move (ext_ok c_RMove (ext_ok c_SameVecs ctrse2)))
theorem mayBB_good {r : List Int} (hl : r.length = 20) (hr : rowB r) (h : mayBB r = true) : goodB r := by
  unfold mayBB at h
  simp only [Bool.and_eq_true, decide_eq_true_iff, frB_iff] at h
  have i0 := row_fr hr 0 (by decide) rfl rfl
  have i4 := row_fr hr 4 (by decide) rfl rfl
  have i6 := row_fr hr 6 (by decide) rfl rfl
  have i8 := row_fr hr 8 (by decide) rfl rfl
  have i10 := row_fr hr 10 (by decide) rfl rfl
  exact ⟨hl, hr, ⟨h.1.1, i0.2⟩, ⟨h.2.2.2.2.2.1.1, i4.2⟩, ⟨h.2.2.2.2.2.1.2, i6.2⟩, ⟨h.2.2.2.2.2.2.1.1, i8.2⟩, ⟨h.2.2.2.2.2.2.1.2, i10.2⟩⟩
end Go.Vs.RF
