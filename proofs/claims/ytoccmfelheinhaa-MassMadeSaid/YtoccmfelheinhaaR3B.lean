import Derived.Test.YtoccmfelheinhaaR3A
set_option linter.unusedVariables false
/- FixOrder, FixSums, FixHalves, FixWhole, FixNear: what they come to -/
namespace Go.Vs.RF
open Go Go.Proofs Go.Vs
noncomputable def spTrue (pre : List IV → List Blk → Prop) : Vs.Spec := ⟨pre, fun _ _ => (.bool true, [])⟩
def preNone (l : List IV) (bs : List Blk) : Prop := l = [] ∧ bs = []
noncomputable def Γj : FuncId → Option Vs.Spec := fun g =>
  if g = f_fix_Sub then some spFSub else if g = f_fix_Mul then some spFMul else if g = f_fix_Div then some spFDiv else if g = f_fix_Sqrt then some spFSqrt else if g = f_fix_Neg then some spNeg else if g = f_fix_Cmp then some spCmp else if g = f_fix_May then some spMay else if g = f_fix_Int then some spInt else if g = f_fix_Floor then some spFloor
  else if g = f_perigeeref1_May then some spMay else if g = f_perigeelaw1_Num then some spNum else Γi g
noncomputable def Nj : Know := ⟨Γj, fun _ _ => none, fun _ => none⟩
noncomputable def Γk : FuncId → Option Vs.Spec := Γj
noncomputable def Nk : Know := ⟨Γk, fun _ _ => none, fun _ => none⟩
end Go.Vs.RF

set_option linter.unusedVariables false
set_option linter.unusedSimpArgs false
set_option maxRecDepth 100000
/- FixOrder, FixSums, FixHalves, FixWhole, FixNear: from what the code comes to -/
namespace Go.Vs.RF
open Go Go.Proofs Go.Vs Go.IntWalk

theorem ext_ok {Γ : FuncId → Option Vs.Spec} {f : FuncId} {sp : Vs.Spec} (hf : Contract Try.prog f sp) (hΓ : ∀ {g : FuncId} {s : Vs.Spec}, Γ g = some s → Contract Try.prog g s) : ∀ {g : FuncId} {s : Vs.Spec}, (if g = f then some sp else Γ g) = some s → Contract Try.prog g s := by
  intro g s h
  by_cases e : g = f
  · rw [if_pos e] at h; cases h; rw [e]; exact hf
  · rw [if_neg e] at h; exact hΓ h
theorem ctrsj : ∀ {g : FuncId} {sp : Vs.Spec}, Γj g = some sp → Contract Try.prog g sp :=
  ext_ok c_fix_Sub (ext_ok c_fix_Mul (ext_ok c_fix_Div (ext_ok c_fix_Sqrt (((ext_ok c_fix_Neg (ext_ok c_fix_Cmp (ext_ok c_fix_May (ext_ok c_fix_Int (ext_ok c_fix_Floor (ext_ok c_ref_May (ext_ok c_Num ctrsi))))))))))))
theorem br_tt {A B : Prop} : br true A B = A := rfl
theorem br_ff {A B : Prop} : br false A B = B := rfl
theorem br_or {b : Bool} {A B : Prop} (hA : b = true → A) (hB : b = false → B) : br b A B := by cases b; exact hB rfl; exact hA rfl
theorem not_dec {p : Prop} [Decidable p] : (!decide p) = decide (¬ p) := by simp
/-- a guard: where it does not hold the law answers at once -/
theorem br_guard {p : Prop} [Decidable p] {A B : Prop} (hA : A) (hB : p → B) : br (!decide p) A B := br_or (fun _ => hA) (fun h => hB (by simpa using h))
theorem br_hold {p : Prop} [Decidable p] {A B : Prop} (h : p) (hA : A) : br (decide p) A B := by rw [decide_eq_true h]; exact hA
theorem br_fails {p : Prop} [Decidable p] {A B : Prop} (h : ¬ p) (hB : B) : br (decide p) A B := by rw [decide_eq_false h]; exact hB
theorem br_is {b : Bool} {A B : Prop} (h : b = true) (hA : A) : br b A B := by rw [h]; exact hA
theorem br_no {b : Bool} {A B : Prop} (h : b = false) (hB : B) : br b A B := by rw [h]; exact hB
theorem preF_in {x : Int} (h : inF x) : preF [fx x] [] := ⟨rfl, rfl, (ix_of h).1, (ix_of h).2⟩
theorem preFF_in {x y : Int} (h : inF x) (h' : inF y) : preFF [fx x, fx y] [] := ⟨rfl, rfl, ix_of h, ix_of h'⟩
theorem preI_of {n : Int} (h : i64ok n) : preI [.int .i64 n] [] := ⟨rfl, rfl, h⟩
theorem may1_of {x : Int} (h : mayF x) : may1 [fx x] [] := ⟨x, rfl, rfl, h⟩
theorem may2_of {x y : Int} (h : mayF x) (h' : mayF y) : may2 [fx x, fx y] [] := ⟨x, y, rfl, rfl, h, h'⟩
theorem mayF_of {x : Int} (h : inF x) (h' : -170141183460469231731687303715884105728 < x) : mayF x := ⟨h', h.2⟩
theorem num_may {s : Int} (h : mayF s) : numF s = s := if_pos h
theorem num_not {s : Int} (h : ¬ mayF s) : numF s = 0 := if_neg h
theorem err_may {s : Int} (h : mayF s) : errF s = 0 := if_pos h
theorem err_not {s : Int} (h : ¬ mayF s) : errF s = 3 := if_neg h
theorem num_is (s : Int) : mayF (numF s) := by
  by_cases h : mayF s
  · rw [num_may h]; exact h
  · rw [num_not h]; exact ⟨by decide, by decide⟩
theorem err_is (s : Int) : i64ok (errF s) := by
  by_cases h : mayF s
  · rw [err_may h]; exact ⟨by decide, by decide⟩
  · rw [err_not h]; exact ⟨by decide, by decide⟩
theorem may_zero : mayF 0 := ⟨by decide, by decide⟩
theorem fx_zero : IV.agg [.int .i64 0, .int .u64 0] = fx 0 := rfl
theorem preNone_ok : preNone [] [] := ⟨rfl, rfl⟩

theorem ctrsk : ∀ {g : FuncId} {sp : Vs.Spec}, Γk g = some sp → Contract Try.prog g sp := ctrsj

theorem cmp_range (a b : Int) : -1 ≤ cmpI a b ∧ cmpI a b ≤ 1 := by unfold cmpI; split; omega; split <;> omega
theorem cmp_flip (a b : Int) : cmpI a b = IntKind.i64.wrap (0 - cmpI b a) := by
  rw [i64_in _ (by have := cmp_range b a; omega)]
  unfold cmpI
  rcases Int.lt_trichotomy a b with h | h | h
  · rw [if_pos h, if_neg (by omega), if_pos (by omega)]; rfl
  · subst h; rw [if_neg (by omega), if_neg (by omega)]; rfl
  · rw [if_neg (by omega), if_pos (by omega), if_pos (by omega)]; rfl
theorem cmp_neg (a b : Int) : cmpI (-a) (-b) = cmpI b a := by
  unfold cmpI
  rcases Int.lt_trichotomy a b with h | h | h
  · rw [if_neg (by omega), if_pos (by omega), if_neg (by omega), if_pos (by omega)]
  · subst h; simp
  · rw [if_pos (by omega), if_pos (by omega)]
theorem cmp_gt {a b : Int} : cmpI a b > 0 ↔ b < a := by
  unfold cmpI; split
  · omega
  split <;> omega
theorem cmp_zero {a b : Int} : cmpI a b = 0 ↔ a = b := by
  unfold cmpI; split
  · omega
  split <;> omega
theorem may_neg {x : Int} (h : mayF x) : mayF (-x) := by unfold mayF at *; omega

theorem half_range {a : Int} (h : mayF a) : mayF (halfI a) ∧ mayF (a - halfI a) := by
  unfold halfI sgnI absI
  unfold mayF at *
  by_cases h0 : a < 0 <;> simp only [h0, decide_true, decide_false, if_true, if_false, Bool.false_eq_true] <;> omega
theorem quo_half (a : Int) : quoI a 36893488147419103232 = halfI a := by
  unfold quoI halfI
  have e1 : (2 * (absI a * 18446744073709551616) + absI 36893488147419103232) / (2 * absI 36893488147419103232) = (absI a + 1) / 2 := by
    rw [show absI 36893488147419103232 = 36893488147419103232 from rfl]; omega
  rw [e1, show decide ((36893488147419103232 : Int) < 0) = false from rfl, Bool.bne_false]
theorem odd_bit {a : Int} : IntKind.u64.wrap ((BitVec.ofInt 64 (a % 18446744073709551616) &&& BitVec.ofInt 64 1).toNat : Int) = a % 2 := by
  have := and_m (x := a % 18446744073709551616) 2 1 rfl (by decide) (by omega) (by omega) (by decide)
  rw [show (2 : Int) - 1 = 1 from rfl] at this
  rw [this, wu]
  omega
theorem fx_part : IV.agg [.int .i64 0, .int .u64 1] = fx 1 := rfl
theorem fx_minus : IV.agg [.int .i64 (-1), .int .u64 18446744073709551615] = fx (-1) := rfl
theorem fx_two : IV.agg [.int .i64 2, .int .u64 0] = fx 36893488147419103232 := rfl
theorem fx_one : IV.agg [.int .i64 1, .int .u64 0] = fx 18446744073709551616 := rfl
theorem fx_half : IV.agg [.int .i64 0, .int .u64 9223372036854775808] = fx 9223372036854775808 := rfl
theorem abs_eq (x : Int) : absI x = (x.natAbs : Int) := by unfold absI; split <;> omega
theorem abs_mul (x y : Int) : absI (x * y) = absI x * absI y := by rw [abs_eq, abs_eq, abs_eq, Int.natAbs_mul]; simp
theorem sgn_mul (x y : Int) : sgnI (decide (x < 0) != decide (y < 0)) (absI x * absI y) = x * y := by
  unfold sgnI absI
  by_cases h0 : x < 0 <;> by_cases h1 : y < 0 <;> simp [h0, h1, Int.neg_mul, Int.mul_neg]
theorem neg_scaled (m : Int) : decide (m * 18446744073709551616 < 0) = decide (m < 0) := by
  rw [Bool.eq_iff_iff, decide_eq_true_iff, decide_eq_true_iff]; omega
theorem abs_scaled (m : Int) : absI (m * 18446744073709551616) = absI m * 18446744073709551616 := by unfold absI; split <;> split <;> omega
theorem mulI_whole (m y : Int) : mulI (m * 18446744073709551616) y = m * y := by
  unfold mulI
  rw [neg_scaled, abs_scaled]
  have e : absI m * 18446744073709551616 * absI y = absI m * absI y * 18446744073709551616 := by rw [Int.mul_assoc, Int.mul_comm 18446744073709551616, ← Int.mul_assoc]
  rw [e]
  have : (absI m * absI y * 18446744073709551616 + 9223372036854775808) / 18446744073709551616 = absI m * absI y := by
    generalize absI m * absI y = q; omega
  rw [this, sgn_mul]
theorem mulI_comm (x y : Int) : mulI x y = mulI y x := by
  unfold mulI
  rw [Int.mul_comm, bne_comm]
theorem quo_exact (m y : Int) (hy : y ≠ 0) : quoI (m * y) y = m * 18446744073709551616 := by
  unfold quoI
  have hp : 0 < absI y := by unfold absI; split <;> omega
  rw [abs_mul]
  have e : (2 * (absI m * absI y * 18446744073709551616) + absI y) / (2 * absI y) = absI m * 18446744073709551616 := by
    have e2 : 2 * (absI m * absI y * 18446744073709551616) + absI y = absI y + 2 * absI y * (absI m * 18446744073709551616) := by
      rw [Int.mul_comm (absI m) (absI y), Int.mul_assoc (absI y), Int.mul_assoc 2 (absI y)]; omega
    rw [e2, Int.add_mul_ediv_left _ _ (by omega), Int.ediv_eq_zero_of_lt (by omega) (by omega)]; omega
  rw [e]
  rcases Int.lt_trichotomy m 0 with hm | hm | hm
  · rcases Int.lt_or_lt_of_ne hy with h | h
    · have : ¬ m * y < 0 := by have := Int.mul_pos_of_neg_of_neg hm h; omega
      unfold sgnI absI; simp [h, hm, this] <;> omega
    · have : m * y < 0 := Int.mul_neg_of_neg_of_pos hm h
      have h' : ¬ y < 0 := by omega
      unfold sgnI absI; simp [h', hm, this] <;> omega
  · subst hm
    rw [Int.zero_mul, show absI 0 = 0 from rfl]
    unfold sgnI; split <;> rfl
  · rcases Int.lt_or_lt_of_ne hy with h | h
    · have : m * y < 0 := Int.mul_neg_of_pos_of_neg hm h
      have h' : ¬ m < 0 := by omega
      unfold sgnI absI; simp [h, h', this]
    · have : ¬ m * y < 0 := by have := Int.mul_pos hm h; omega
      have h' : ¬ y < 0 := by omega
      have h'' : ¬ m < 0 := by omega
      unfold sgnI absI; simp [h', h'', this]
theorem quo_one (a : Int) : quoI a 18446744073709551616 = a := by
  unfold quoI
  have e1 : (2 * (absI a * 18446744073709551616) + absI 18446744073709551616) / (2 * absI 18446744073709551616) = absI a := by
    rw [show absI 18446744073709551616 = 18446744073709551616 from rfl]; omega
  rw [e1, show decide ((18446744073709551616 : Int) < 0) = false from rfl, Bool.bne_false]
  unfold sgnI absI
  by_cases h : a < 0 <;> simp [h]
theorem mul_one' (a : Int) : mulI a 18446744073709551616 = a := by
  rw [mulI_comm, show (18446744073709551616 : Int) = 1 * 18446744073709551616 from rfl, mulI_whole]; omega
theorem i32_mul {m n : Int} (hm : -2147483648 ≤ m ∧ m < 2147483648) (hn : -2147483648 ≤ n ∧ n < 2147483648) : -4611686018427387904 ≤ m * n ∧ m * n ≤ 4611686018427387904 := by
  have := part_le (x := absI m) (y := absI n) (m := 2147483648) (n := 2147483648) (by unfold absI; split <;> omega) (by unfold absI; split <;> omega) (by unfold absI; split <;> omega) (by unfold absI; split <;> omega)
  rw [← abs_mul] at this
  generalize m * n = q at *
  unfold absI at this
  split at this <;> omega
end Go.Vs.RF

set_option linter.unusedVariables false
set_option linter.unusedSimpArgs false
set_option maxRecDepth 100000
/- what the laws are handed -/
namespace Go.Vs.RF
open Go Go.Proofs Go.Vs Go.IntWalk

theorem fxArg {x : List Int} (l : x.length = 2) (k : ∀ j, j < 2 → inK (([.i64, .u64] : List IntKind).getD j .i64) (x.getD j 0)) : ∃ a, IV.agg (rowCells [.i64, .u64] [x] 0 0 2) = fx a ∧ inF a := by
  match x, l with
  | [p, q], _ =>
    have h0 : -9223372036854775808 ≤ p ∧ p ≤ 9223372036854775807 := k 0 (by decide)
    have h1 : 0 ≤ q ∧ q ≤ 18446744073709551615 := k 1 (by decide)
    refine ⟨p * 18446744073709551616 + q, ?_, by unfold inF; omega⟩
    show IV.agg [.int .i64 p, .int .u64 q] = fx _
    unfold fx
    rw [show (p * 18446744073709551616 + q) / 18446744073709551616 = p by omega, show (p * 18446744073709551616 + q) % 18446744073709551616 = q by omega]
end Go.Vs.RF

set_option linter.unusedVariables false
/- the document's answer: two words, four words -/
namespace Go.Vs.RF
open Go Go.Proofs Go.Vs
def p22 (l : List IV) (bs : List Blk) : Prop := ∃ a b, l = [tw a, tw b] ∧ bs = [] ∧ in128 a ∧ in128 b
def p44 (l : List IV) (bs : List Blk) : Prop := ∃ a b, l = [fo a, fo b] ∧ bs = [] ∧ in256 a ∧ in256 b
def sumV (s : Int) (c : Bool) : IV := .agg [.int .u64 (s / 18446744073709551616), .int .u64 (s % 18446744073709551616), .bool c]
noncomputable def spLess : Vs.Spec := ⟨p22, fun l _ => (.bool (decide (v2 l 0 < v2 l 1)), [])⟩
noncomputable def spAddTwo : Vs.Spec := ⟨p22, fun l _ => (sumV ((v2 l 0 + v2 l 1) % 340282366920938463463374607431768211456) (decide (340282366920938463463374607431768211456 ≤ v2 l 0 + v2 l 1)), [])⟩
noncomputable def spSubTwo : Vs.Spec := ⟨p22, fun l _ => (sumV ((v2 l 0 - v2 l 1) % 340282366920938463463374607431768211456) (decide (v2 l 0 < v2 l 1)), [])⟩
noncomputable def spProduct : Vs.Spec := ⟨preUU, fun l _ => (tw (argI l 0 0 * argI l 1 0), [])⟩
noncomputable def Γl : FuncId → Option Vs.Spec := fun g => if g = f_perigeeref1_Less then some spLess else Γk g
noncomputable def Nl : Know := ⟨Γl, fun _ _ => none, fun _ => none⟩
theorem v_r_AddTwo (a b : Int) (K : IV → List Blk → Prop) : (comes Try.prog Nk 3 f_perigeeref1_AddTwo [tw a, tw b] [] K) = (∀ (t1 : Int), t1 = IntKind.u64.wrap (a % (18446744073709551616 : Int) + b % (18446744073709551616 : Int)) → ∀ (t2 : Int), t2 = IntKind.u64.wrap (a / (18446744073709551616 : Int) + b / (18446744073709551616 : Int)) → ∀ (t3 : Int), t3 = IntKind.u64.wrap (t2 + (1 : Int)) → br (decide (t1 < a % (18446744073709551616 : Int))) (br (decide (t2 < a / (18446744073709551616 : Int))) (K (IV.agg [IV.int IntKind.u64 t3, IV.int IntKind.u64 t1, IV.bool true]) []) (K (IV.agg [IV.int IntKind.u64 t3, IV.int IntKind.u64 t1, IV.bool (t3 == (0 : Int))]) [])) (br (decide (t2 < a / (18446744073709551616 : Int))) (K (IV.agg [IV.int IntKind.u64 (IntKind.u64.wrap (t2 + (0 : Int))), IV.int IntKind.u64 t1, IV.bool true]) []) (K (IV.agg [IV.int IntKind.u64 (IntKind.u64.wrap (t2 + (0 : Int))), IV.int IntKind.u64 t1, IV.bool false]) []))) := by refine nm ?_; refine nm ?_; refine nm ?_; kernel_rfl
theorem v_r_Less (a b : Int) (K : IV → List Blk → Prop) : (comes Try.prog Nk 3 f_perigeeref1_Less [tw a, tw b] [] K) = (br (decide (a / (18446744073709551616 : Int) < b / (18446744073709551616 : Int))) (K (IV.bool true) []) (br (a / (18446744073709551616 : Int) == b / (18446744073709551616 : Int)) (K (IV.bool (decide (a % (18446744073709551616 : Int) < b % (18446744073709551616 : Int)))) []) (K (IV.bool false) []))) := by kernel_rfl
theorem v_r_SubTwo (a b : Int) (K : IV → List Blk → Prop) : (comes Try.prog Nl 3 f_perigeeref1_SubTwo [tw a, tw b] [] K) = (∀ (j1 : Int), j1 = a → ∀ (j2 : Int), j2 = b → ∀ (t3 : Int), t3 = IntKind.u64.wrap (a / (18446744073709551616 : Int) - b / (18446744073709551616 : Int)) → br (decide (a % (18446744073709551616 : Int) < b % (18446744073709551616 : Int))) (p22 [tw a, tw b] [] ∧ K (IV.agg [IV.int IntKind.u64 (IntKind.u64.wrap (t3 - (1 : Int))), IV.int IntKind.u64 (IntKind.u64.wrap (a % (18446744073709551616 : Int) - b % (18446744073709551616 : Int))), IV.bool (decide (j1 < j2))]) []) (p22 [tw a, tw b] [] ∧ K (IV.agg [IV.int IntKind.u64 (IntKind.u64.wrap (t3 - (0 : Int))), IV.int IntKind.u64 (IntKind.u64.wrap (a % (18446744073709551616 : Int) - b % (18446744073709551616 : Int))), IV.bool (decide (j1 < j2))]) [])) := by refine nj ?_; refine nj ?_; refine nm ?_; kernel_rfl
theorem v_r_product (a b : Int) (K : IV → List Blk → Prop) : (comes Try.prog Nk 3 f_perigeeref1_product [.int .u64 a, .int .u64 b] [] K) = (∀ (t1 : Int), t1 = IntKind.u64.wrap (↑(BitVec.ofInt (64 : Nat) b &&& BitVec.ofInt (64 : Nat) (4294967295 : Int)).toNat : Int) → ∀ (t2 : Int), t2 = IntKind.u64.wrap (↑(BitVec.ofInt (64 : Nat) a &&& BitVec.ofInt (64 : Nat) (4294967295 : Int)).toNat : Int) → ∀ (t3 : Int), t3 = IntKind.u64.wrap (t2 * t1) → ∀ (t4 : Int), t4 = IntKind.u64.wrap (IntKind.u64.wrap (a.fdiv (4294967296 : Int) * t1) + t3.fdiv (4294967296 : Int)) → ∀ (t5 : Int), t5 = IntKind.u64.wrap (IntKind.u64.wrap (t2 * b.fdiv (4294967296 : Int)) + IntKind.u64.wrap (↑(BitVec.ofInt (64 : Nat) t4 &&& BitVec.ofInt (64 : Nat) (4294967295 : Int)).toNat : Int)) → (0 : Int) ≤ (32 : Int) ∧ (0 : Int) ≤ (32 : Int) ∧ (0 : Int) ≤ (32 : Int) ∧ (0 : Int) ≤ (32 : Int) ∧ (0 : Int) ≤ (32 : Int) ∧ (0 : Int) ≤ (32 : Int) ∧ K (IV.agg [IV.int IntKind.u64 (IntKind.u64.wrap (IntKind.u64.wrap (IntKind.u64.wrap (a.fdiv (4294967296 : Int) * b.fdiv (4294967296 : Int)) + t4.fdiv (4294967296 : Int)) + t5.fdiv (4294967296 : Int))), IV.int IntKind.u64 (IntKind.u64.wrap (↑(BitVec.ofInt (64 : Nat) (IntKind.u64.wrap (t5 * (4294967296 : Int))) ||| BitVec.ofInt (64 : Nat) (IntKind.u64.wrap (↑(BitVec.ofInt (64 : Nat) t3 &&& BitVec.ofInt (64 : Nat) (4294967295 : Int)).toNat : Int))).toNat : Int))]) []) := by refine nm ?_; refine nm ?_; refine nm ?_; refine nm ?_; refine nm ?_; kernel_rfl
noncomputable def Γm : FuncId → Option Vs.Spec := fun g => if g = f_perigeeref1_AddTwo then some spAddTwo else if g = f_perigeeref1_SubTwo then some spSubTwo else if g = f_perigeeref1_product then some spProduct else Γl g
noncomputable def Nm : Know := ⟨Γm, fun _ _ => none, fun _ => none⟩
theorem v_r_CmpFour (a b : Int) (K : IV → List Blk → Prop) : (comes Try.prog Nm 3 f_perigeeref1_CmpFour [fo a, fo b] [] K) = (((((0 : Int) ≤ (3 : Int) ∧ (3 : Int) < (↑(4 : Nat) : Int)) ∧ ((0 : Int) ≤ (3 : Int) ∧ (3 : Int) < (↑(4 : Nat) : Int)) ∧ ((0 : Int) ≤ (3 : Int) ∧ (3 : Int) < (↑(4 : Nat) : Int)) ∧ ((0 : Int) ≤ (3 : Int) ∧ (3 : Int) < (↑(4 : Nat) : Int)) ∧ br (decide (a / (6277101735386680763835789423207666416102355444464034512896 : Int) < b / (6277101735386680763835789423207666416102355444464034512896 : Int))) (K (IV.int IntKind.i64 (-1 : Int)) []) (((0 : Int) ≤ (3 : Int) ∧ (3 : Int) < (↑(4 : Nat) : Int)) ∧ ((0 : Int) ≤ (3 : Int) ∧ (3 : Int) < (↑(4 : Nat) : Int)) ∧ ((0 : Int) ≤ (3 : Int) ∧ (3 : Int) < (↑(4 : Nat) : Int)) ∧ ((0 : Int) ≤ (3 : Int) ∧ (3 : Int) < (↑(4 : Nat) : Int)) ∧ br (decide (a / (6277101735386680763835789423207666416102355444464034512896 : Int) > b / (6277101735386680763835789423207666416102355444464034512896 : Int))) (K (IV.int IntKind.i64 (1 : Int)) []) (((0 : Int) ≤ (2 : Int) ∧ (2 : Int) < (↑(4 : Nat) : Int)) ∧ ((0 : Int) ≤ (2 : Int) ∧ (2 : Int) < (↑(4 : Nat) : Int)) ∧ ((0 : Int) ≤ (2 : Int) ∧ (2 : Int) < (↑(4 : Nat) : Int)) ∧ ((0 : Int) ≤ (2 : Int) ∧ (2 : Int) < (↑(4 : Nat) : Int)) ∧ br (decide (a / (340282366920938463463374607431768211456 : Int) % (18446744073709551616 : Int) < b / (340282366920938463463374607431768211456 : Int) % (18446744073709551616 : Int))) (K (IV.int IntKind.i64 (-1 : Int)) []) (((0 : Int) ≤ (2 : Int) ∧ (2 : Int) < (↑(4 : Nat) : Int)) ∧ ((0 : Int) ≤ (2 : Int) ∧ (2 : Int) < (↑(4 : Nat) : Int)) ∧ ((0 : Int) ≤ (2 : Int) ∧ (2 : Int) < (↑(4 : Nat) : Int)) ∧ ((0 : Int) ≤ (2 : Int) ∧ (2 : Int) < (↑(4 : Nat) : Int)) ∧ br (decide (a / (340282366920938463463374607431768211456 : Int) % (18446744073709551616 : Int) > b / (340282366920938463463374607431768211456 : Int) % (18446744073709551616 : Int))) (K (IV.int IntKind.i64 (1 : Int)) []) (((0 : Int) ≤ (1 : Int) ∧ (1 : Int) < (↑(4 : Nat) : Int)) ∧ ((0 : Int) ≤ (1 : Int) ∧ (1 : Int) < (↑(4 : Nat) : Int)) ∧ ((0 : Int) ≤ (1 : Int) ∧ (1 : Int) < (↑(4 : Nat) : Int)) ∧ ((0 : Int) ≤ (1 : Int) ∧ (1 : Int) < (↑(4 : Nat) : Int)) ∧ br (decide (a / (18446744073709551616 : Int) % (18446744073709551616 : Int) < b / (18446744073709551616 : Int) % (18446744073709551616 : Int))) (K (IV.int IntKind.i64 (-1 : Int)) []) (((0 : Int) ≤ (1 : Int) ∧ (1 : Int) < (↑(4 : Nat) : Int)) ∧ ((0 : Int) ≤ (1 : Int) ∧ (1 : Int) < (↑(4 : Nat) : Int)) ∧ ((0 : Int) ≤ (1 : Int) ∧ (1 : Int) < (↑(4 : Nat) : Int)) ∧ ((0 : Int) ≤ (1 : Int) ∧ (1 : Int) < (↑(4 : Nat) : Int)) ∧ br (decide (a / (18446744073709551616 : Int) % (18446744073709551616 : Int) > b / (18446744073709551616 : Int) % (18446744073709551616 : Int))) (K (IV.int IntKind.i64 (1 : Int)) []) (((0 : Int) ≤ (0 : Int) ∧ (0 : Int) < (↑(4 : Nat) : Int)) ∧ ((0 : Int) ≤ (0 : Int) ∧ (0 : Int) < (↑(4 : Nat) : Int)) ∧ ((0 : Int) ≤ (0 : Int) ∧ (0 : Int) < (↑(4 : Nat) : Int)) ∧ ((0 : Int) ≤ (0 : Int) ∧ (0 : Int) < (↑(4 : Nat) : Int)) ∧ br (decide (a % (18446744073709551616 : Int) < b % (18446744073709551616 : Int))) (K (IV.int IntKind.i64 (-1 : Int)) []) (((0 : Int) ≤ (0 : Int) ∧ (0 : Int) < (↑(4 : Nat) : Int)) ∧ ((0 : Int) ≤ (0 : Int) ∧ (0 : Int) < (↑(4 : Nat) : Int)) ∧ ((0 : Int) ≤ (0 : Int) ∧ (0 : Int) < (↑(4 : Nat) : Int)) ∧ ((0 : Int) ≤ (0 : Int) ∧ (0 : Int) < (↑(4 : Nat) : Int)) ∧ br (decide (a % (18446744073709551616 : Int) > b % (18446744073709551616 : Int))) (K (IV.int IntKind.i64 (1 : Int)) []) (K (IV.int IntKind.i64 (0 : Int)) []))))))))) ∧ ((0 : Int) ≤ (3 : Int) ∧ (3 : Int) < (↑(4 : Nat) : Int)) ∧ ((0 : Int) ≤ (3 : Int) ∧ (3 : Int) < (↑(4 : Nat) : Int)) ∧ ((0 : Int) ≤ (3 : Int) ∧ (3 : Int) < (↑(4 : Nat) : Int)) ∧ ((0 : Int) ≤ (3 : Int) ∧ (3 : Int) < (↑(4 : Nat) : Int)) ∧ br (decide (a / (6277101735386680763835789423207666416102355444464034512896 : Int) < b / (6277101735386680763835789423207666416102355444464034512896 : Int))) (K (IV.int IntKind.i64 (-1 : Int)) []) (((0 : Int) ≤ (3 : Int) ∧ (3 : Int) < (↑(4 : Nat) : Int)) ∧ ((0 : Int) ≤ (3 : Int) ∧ (3 : Int) < (↑(4 : Nat) : Int)) ∧ ((0 : Int) ≤ (3 : Int) ∧ (3 : Int) < (↑(4 : Nat) : Int)) ∧ ((0 : Int) ≤ (3 : Int) ∧ (3 : Int) < (↑(4 : Nat) : Int)) ∧ br (decide (a / (6277101735386680763835789423207666416102355444464034512896 : Int) > b / (6277101735386680763835789423207666416102355444464034512896 : Int))) (K (IV.int IntKind.i64 (1 : Int)) []) (((0 : Int) ≤ (2 : Int) ∧ (2 : Int) < (↑(4 : Nat) : Int)) ∧ ((0 : Int) ≤ (2 : Int) ∧ (2 : Int) < (↑(4 : Nat) : Int)) ∧ ((0 : Int) ≤ (2 : Int) ∧ (2 : Int) < (↑(4 : Nat) : Int)) ∧ ((0 : Int) ≤ (2 : Int) ∧ (2 : Int) < (↑(4 : Nat) : Int)) ∧ br (decide (a / (340282366920938463463374607431768211456 : Int) % (18446744073709551616 : Int) < b / (340282366920938463463374607431768211456 : Int) % (18446744073709551616 : Int))) (K (IV.int IntKind.i64 (-1 : Int)) []) (((0 : Int) ≤ (2 : Int) ∧ (2 : Int) < (↑(4 : Nat) : Int)) ∧ ((0 : Int) ≤ (2 : Int) ∧ (2 : Int) < (↑(4 : Nat) : Int)) ∧ ((0 : Int) ≤ (2 : Int) ∧ (2 : Int) < (↑(4 : Nat) : Int)) ∧ ((0 : Int) ≤ (2 : Int) ∧ (2 : Int) < (↑(4 : Nat) : Int)) ∧ br (decide (a / (340282366920938463463374607431768211456 : Int) % (18446744073709551616 : Int) > b / (340282366920938463463374607431768211456 : Int) % (18446744073709551616 : Int))) (K (IV.int IntKind.i64 (1 : Int)) []) (((0 : Int) ≤ (1 : Int) ∧ (1 : Int) < (↑(4 : Nat) : Int)) ∧ ((0 : Int) ≤ (1 : Int) ∧ (1 : Int) < (↑(4 : Nat) : Int)) ∧ ((0 : Int) ≤ (1 : Int) ∧ (1 : Int) < (↑(4 : Nat) : Int)) ∧ ((0 : Int) ≤ (1 : Int) ∧ (1 : Int) < (↑(4 : Nat) : Int)) ∧ br (decide (a / (18446744073709551616 : Int) % (18446744073709551616 : Int) < b / (18446744073709551616 : Int) % (18446744073709551616 : Int))) (K (IV.int IntKind.i64 (-1 : Int)) []) (((0 : Int) ≤ (1 : Int) ∧ (1 : Int) < (↑(4 : Nat) : Int)) ∧ ((0 : Int) ≤ (1 : Int) ∧ (1 : Int) < (↑(4 : Nat) : Int)) ∧ ((0 : Int) ≤ (1 : Int) ∧ (1 : Int) < (↑(4 : Nat) : Int)) ∧ ((0 : Int) ≤ (1 : Int) ∧ (1 : Int) < (↑(4 : Nat) : Int)) ∧ br (decide (a / (18446744073709551616 : Int) % (18446744073709551616 : Int) > b / (18446744073709551616 : Int) % (18446744073709551616 : Int))) (K (IV.int IntKind.i64 (1 : Int)) []) (((0 : Int) ≤ (0 : Int) ∧ (0 : Int) < (↑(4 : Nat) : Int)) ∧ ((0 : Int) ≤ (0 : Int) ∧ (0 : Int) < (↑(4 : Nat) : Int)) ∧ ((0 : Int) ≤ (0 : Int) ∧ (0 : Int) < (↑(4 : Nat) : Int)) ∧ ((0 : Int) ≤ (0 : Int) ∧ (0 : Int) < (↑(4 : Nat) : Int)) ∧ br (decide (a % (18446744073709551616 : Int) < b % (18446744073709551616 : Int))) (K (IV.int IntKind.i64 (-1 : Int)) []) (((0 : Int) ≤ (0 : Int) ∧ (0 : Int) < (↑(4 : Nat) : Int)) ∧ ((0 : Int) ≤ (0 : Int) ∧ (0 : Int) < (↑(4 : Nat) : Int)) ∧ ((0 : Int) ≤ (0 : Int) ∧ (0 : Int) < (↑(4 : Nat) : Int)) ∧ ((0 : Int) ≤ (0 : Int) ∧ (0 : Int) < (↑(4 : Nat) : Int)) ∧ br (decide (a % (18446744073709551616 : Int) > b % (18446744073709551616 : Int))) (K (IV.int IntKind.i64 (1 : Int)) []) (K (IV.int IntKind.i64 (0 : Int)) []))))))))) ∧ ((0 : Int) ≤ (3 : Int) ∧ (3 : Int) < (↑(4 : Nat) : Int)) ∧ ((0 : Int) ≤ (3 : Int) ∧ (3 : Int) < (↑(4 : Nat) : Int)) ∧ ((0 : Int) ≤ (3 : Int) ∧ (3 : Int) < (↑(4 : Nat) : Int)) ∧ ((0 : Int) ≤ (3 : Int) ∧ (3 : Int) < (↑(4 : Nat) : Int)) ∧ br (decide (a / (6277101735386680763835789423207666416102355444464034512896 : Int) < b / (6277101735386680763835789423207666416102355444464034512896 : Int))) (K (IV.int IntKind.i64 (-1 : Int)) []) (((0 : Int) ≤ (3 : Int) ∧ (3 : Int) < (↑(4 : Nat) : Int)) ∧ ((0 : Int) ≤ (3 : Int) ∧ (3 : Int) < (↑(4 : Nat) : Int)) ∧ ((0 : Int) ≤ (3 : Int) ∧ (3 : Int) < (↑(4 : Nat) : Int)) ∧ ((0 : Int) ≤ (3 : Int) ∧ (3 : Int) < (↑(4 : Nat) : Int)) ∧ br (decide (a / (6277101735386680763835789423207666416102355444464034512896 : Int) > b / (6277101735386680763835789423207666416102355444464034512896 : Int))) (K (IV.int IntKind.i64 (1 : Int)) []) (((0 : Int) ≤ (2 : Int) ∧ (2 : Int) < (↑(4 : Nat) : Int)) ∧ ((0 : Int) ≤ (2 : Int) ∧ (2 : Int) < (↑(4 : Nat) : Int)) ∧ ((0 : Int) ≤ (2 : Int) ∧ (2 : Int) < (↑(4 : Nat) : Int)) ∧ ((0 : Int) ≤ (2 : Int) ∧ (2 : Int) < (↑(4 : Nat) : Int)) ∧ br (decide (a / (340282366920938463463374607431768211456 : Int) % (18446744073709551616 : Int) < b / (340282366920938463463374607431768211456 : Int) % (18446744073709551616 : Int))) (K (IV.int IntKind.i64 (-1 : Int)) []) (((0 : Int) ≤ (2 : Int) ∧ (2 : Int) < (↑(4 : Nat) : Int)) ∧ ((0 : Int) ≤ (2 : Int) ∧ (2 : Int) < (↑(4 : Nat) : Int)) ∧ ((0 : Int) ≤ (2 : Int) ∧ (2 : Int) < (↑(4 : Nat) : Int)) ∧ ((0 : Int) ≤ (2 : Int) ∧ (2 : Int) < (↑(4 : Nat) : Int)) ∧ br (decide (a / (340282366920938463463374607431768211456 : Int) % (18446744073709551616 : Int) > b / (340282366920938463463374607431768211456 : Int) % (18446744073709551616 : Int))) (K (IV.int IntKind.i64 (1 : Int)) []) (((0 : Int) ≤ (1 : Int) ∧ (1 : Int) < (↑(4 : Nat) : Int)) ∧ ((0 : Int) ≤ (1 : Int) ∧ (1 : Int) < (↑(4 : Nat) : Int)) ∧ ((0 : Int) ≤ (1 : Int) ∧ (1 : Int) < (↑(4 : Nat) : Int)) ∧ ((0 : Int) ≤ (1 : Int) ∧ (1 : Int) < (↑(4 : Nat) : Int)) ∧ br (decide (a / (18446744073709551616 : Int) % (18446744073709551616 : Int) < b / (18446744073709551616 : Int) % (18446744073709551616 : Int))) (K (IV.int IntKind.i64 (-1 : Int)) []) (((0 : Int) ≤ (1 : Int) ∧ (1 : Int) < (↑(4 : Nat) : Int)) ∧ ((0 : Int) ≤ (1 : Int) ∧ (1 : Int) < (↑(4 : Nat) : Int)) ∧ ((0 : Int) ≤ (1 : Int) ∧ (1 : Int) < (↑(4 : Nat) : Int)) ∧ ((0 : Int) ≤ (1 : Int) ∧ (1 : Int) < (↑(4 : Nat) : Int)) ∧ br (decide (a / (18446744073709551616 : Int) % (18446744073709551616 : Int) > b / (18446744073709551616 : Int) % (18446744073709551616 : Int))) (K (IV.int IntKind.i64 (1 : Int)) []) (((0 : Int) ≤ (0 : Int) ∧ (0 : Int) < (↑(4 : Nat) : Int)) ∧ ((0 : Int) ≤ (0 : Int) ∧ (0 : Int) < (↑(4 : Nat) : Int)) ∧ ((0 : Int) ≤ (0 : Int) ∧ (0 : Int) < (↑(4 : Nat) : Int)) ∧ ((0 : Int) ≤ (0 : Int) ∧ (0 : Int) < (↑(4 : Nat) : Int)) ∧ br (decide (a % (18446744073709551616 : Int) < b % (18446744073709551616 : Int))) (K (IV.int IntKind.i64 (-1 : Int)) []) (((0 : Int) ≤ (0 : Int) ∧ (0 : Int) < (↑(4 : Nat) : Int)) ∧ ((0 : Int) ≤ (0 : Int) ∧ (0 : Int) < (↑(4 : Nat) : Int)) ∧ ((0 : Int) ≤ (0 : Int) ∧ (0 : Int) < (↑(4 : Nat) : Int)) ∧ ((0 : Int) ≤ (0 : Int) ∧ (0 : Int) < (↑(4 : Nat) : Int)) ∧ br (decide (a % (18446744073709551616 : Int) > b % (18446744073709551616 : Int))) (K (IV.int IntKind.i64 (1 : Int)) []) (K (IV.int IntKind.i64 (0 : Int)) []))))))))) := by kernel_rfl
theorem v_r_Shl64 (a : Int) (K : IV → List Blk → Prop) : (comes Try.prog Nm 3 f_perigeeref1_Shl [fo a, .int .i64 64] [] K) = (((0 : Int) ≤ (4 : Int) ∧ (32 : Int) ≤ (140737488355328 : Int)) ∧ (64 : Int) ≠ (0 : Int) ∧ (64 : Int) ≠ (0 : Int) ∧ ((0 : Int) ≤ (0 : Int) ∧ (0 : Int) < (↑(4 : Nat) : Int)) ∧ ((0 : Int) ≤ (0 : Int) ∧ (0 : Int) < (↑(4 : Nat) : Int)) ∧ (64 : Int) ≠ (0 : Int) ∧ (0 : Int) ≤ (0 : Int) ∧ ((0 : Int) ≤ (1 : Int) ∧ (1 : Int) < (4 : Int)) ∧ ((0 : Int) ≤ (1 : Int) ∧ (1 : Int) < (4 : Int)) ∧ (64 : Int) ≠ (0 : Int) ∧ ((0 : Int) ≤ (1 : Int) ∧ (1 : Int) < (↑(4 : Nat) : Int)) ∧ ((0 : Int) ≤ (1 : Int) ∧ (1 : Int) < (↑(4 : Nat) : Int)) ∧ (64 : Int) ≠ (0 : Int) ∧ (0 : Int) ≤ (0 : Int) ∧ ((0 : Int) ≤ (2 : Int) ∧ (2 : Int) < (↑(4 : Nat) : Int)) ∧ ((0 : Int) ≤ (2 : Int) ∧ (2 : Int) < (↑(4 : Nat) : Int)) ∧ (64 : Int) ≠ (0 : Int) ∧ (64 : Int) ≠ (0 : Int) ∧ ((0 : Int) ≤ (2 : Int) ∧ (2 : Int) < (↑(4 : Nat) : Int)) ∧ ((0 : Int) ≤ (2 : Int) ∧ (2 : Int) < (↑(4 : Nat) : Int)) ∧ (64 : Int) ≠ (0 : Int) ∧ (0 : Int) ≤ (0 : Int) ∧ ((0 : Int) ≤ (3 : Int) ∧ (3 : Int) < (↑(4 : Nat) : Int)) ∧ ((0 : Int) ≤ (3 : Int) ∧ (3 : Int) < (↑(4 : Nat) : Int)) ∧ (64 : Int) ≠ (0 : Int) ∧ ((0 : Int) ≤ (3 : Int) ∧ (3 : Int) < (↑(4 : Nat) : Int)) ∧ ((0 : Int) ≤ (3 : Int) ∧ (3 : Int) < (↑(4 : Nat) : Int)) ∧ ((0 : Int) ≤ (2 : Int) ∧ (2 : Int) < (↑(4 : Nat) : Int)) ∧ ((0 : Int) ≤ (2 : Int) ∧ (2 : Int) < (↑(4 : Nat) : Int)) ∧ ((0 : Int) ≤ (1 : Int) ∧ (1 : Int) < (↑(4 : Nat) : Int)) ∧ ((0 : Int) ≤ (1 : Int) ∧ (1 : Int) < (↑(4 : Nat) : Int)) ∧ ((0 : Int) ≤ (0 : Int) ∧ (0 : Int) < (↑(4 : Nat) : Int)) ∧ ((0 : Int) ≤ (0 : Int) ∧ (0 : Int) < (↑(4 : Nat) : Int)) ∧ K (IV.agg [IV.int IntKind.u64 (IntKind.u64.wrap (a / (340282366920938463463374607431768211456 : Int) % (18446744073709551616 : Int) * (1 : Int))), IV.int IntKind.u64 (IntKind.u64.wrap (a / (18446744073709551616 : Int) % (18446744073709551616 : Int) * (1 : Int))), IV.int IntKind.u64 (IntKind.u64.wrap (a % (18446744073709551616 : Int) * (1 : Int))), IV.int IntKind.u64 (0 : Int)]) []) := by kernel_rfl
theorem v_r_Shl65 (a : Int) (K : IV → List Blk → Prop) : (comes Try.prog Nm 3 f_perigeeref1_Shl [fo a, .int .i64 65] [] K) = (((0 : Int) ≤ (4 : Int) ∧ (32 : Int) ≤ (140737488355328 : Int)) ∧ (64 : Int) ≠ (0 : Int) ∧ (64 : Int) ≠ (0 : Int) ∧ ((0 : Int) ≤ (0 : Int) ∧ (0 : Int) < (↑(4 : Nat) : Int)) ∧ ((0 : Int) ≤ (0 : Int) ∧ (0 : Int) < (↑(4 : Nat) : Int)) ∧ (64 : Int) ≠ (0 : Int) ∧ (0 : Int) ≤ (1 : Int) ∧ ((0 : Int) ≤ (1 : Int) ∧ (1 : Int) < (4 : Int)) ∧ ((0 : Int) ≤ (1 : Int) ∧ (1 : Int) < (4 : Int)) ∧ (64 : Int) ≠ (0 : Int) ∧ ((0 : Int) ≤ (1 : Int) ∧ (1 : Int) < (↑(4 : Nat) : Int)) ∧ ((0 : Int) ≤ (1 : Int) ∧ (1 : Int) < (↑(4 : Nat) : Int)) ∧ (64 : Int) ≠ (0 : Int) ∧ (0 : Int) ≤ (1 : Int) ∧ ((0 : Int) ≤ (2 : Int) ∧ (2 : Int) < (↑(4 : Nat) : Int)) ∧ ((0 : Int) ≤ (2 : Int) ∧ (2 : Int) < (↑(4 : Nat) : Int)) ∧ (64 : Int) ≠ (0 : Int) ∧ ((0 : Int) ≤ (2 : Int) ∧ (2 : Int) < (↑(4 : Nat) : Int)) ∧ ((0 : Int) ≤ (2 : Int) ∧ (2 : Int) < (↑(4 : Nat) : Int)) ∧ ((0 : Int) ≤ (0 : Int) ∧ (0 : Int) < (↑(4 : Nat) : Int)) ∧ ((0 : Int) ≤ (0 : Int) ∧ (0 : Int) < (↑(4 : Nat) : Int)) ∧ (64 : Int) ≠ (0 : Int) ∧ (0 : Int) ≤ (63 : Int) ∧ ((0 : Int) ≤ (2 : Int) ∧ (2 : Int) < (↑(4 : Nat) : Int)) ∧ ((0 : Int) ≤ (2 : Int) ∧ (2 : Int) < (↑(4 : Nat) : Int)) ∧ (64 : Int) ≠ (0 : Int) ∧ ((0 : Int) ≤ (2 : Int) ∧ (2 : Int) < (↑(4 : Nat) : Int)) ∧ ((0 : Int) ≤ (2 : Int) ∧ (2 : Int) < (↑(4 : Nat) : Int)) ∧ (64 : Int) ≠ (0 : Int) ∧ (0 : Int) ≤ (1 : Int) ∧ ((0 : Int) ≤ (3 : Int) ∧ (3 : Int) < (↑(4 : Nat) : Int)) ∧ ((0 : Int) ≤ (3 : Int) ∧ (3 : Int) < (↑(4 : Nat) : Int)) ∧ (64 : Int) ≠ (0 : Int) ∧ ((0 : Int) ≤ (3 : Int) ∧ (3 : Int) < (↑(4 : Nat) : Int)) ∧ ((0 : Int) ≤ (3 : Int) ∧ (3 : Int) < (↑(4 : Nat) : Int)) ∧ ((0 : Int) ≤ (1 : Int) ∧ (1 : Int) < (↑(4 : Nat) : Int)) ∧ ((0 : Int) ≤ (1 : Int) ∧ (1 : Int) < (↑(4 : Nat) : Int)) ∧ (64 : Int) ≠ (0 : Int) ∧ (0 : Int) ≤ (63 : Int) ∧ ((0 : Int) ≤ (3 : Int) ∧ (3 : Int) < (↑(4 : Nat) : Int)) ∧ ((0 : Int) ≤ (3 : Int) ∧ (3 : Int) < (↑(4 : Nat) : Int)) ∧ ((0 : Int) ≤ (3 : Int) ∧ (3 : Int) < (↑(4 : Nat) : Int)) ∧ ((0 : Int) ≤ (3 : Int) ∧ (3 : Int) < (↑(4 : Nat) : Int)) ∧ ((0 : Int) ≤ (2 : Int) ∧ (2 : Int) < (↑(4 : Nat) : Int)) ∧ ((0 : Int) ≤ (2 : Int) ∧ (2 : Int) < (↑(4 : Nat) : Int)) ∧ ((0 : Int) ≤ (1 : Int) ∧ (1 : Int) < (↑(4 : Nat) : Int)) ∧ ((0 : Int) ≤ (1 : Int) ∧ (1 : Int) < (↑(4 : Nat) : Int)) ∧ ((0 : Int) ≤ (0 : Int) ∧ (0 : Int) < (↑(4 : Nat) : Int)) ∧ ((0 : Int) ≤ (0 : Int) ∧ (0 : Int) < (↑(4 : Nat) : Int)) ∧ K (IV.agg [IV.int IntKind.u64 (IntKind.u64.wrap (↑(BitVec.ofInt (64 : Nat) (IntKind.u64.wrap (a / (340282366920938463463374607431768211456 : Int) % (18446744073709551616 : Int) * (2 : Int))) ||| BitVec.ofInt (64 : Nat) ((a / (18446744073709551616 : Int) % (18446744073709551616 : Int)).fdiv (9223372036854775808 : Int))).toNat : Int)), IV.int IntKind.u64 (IntKind.u64.wrap (↑(BitVec.ofInt (64 : Nat) (IntKind.u64.wrap (a / (18446744073709551616 : Int) % (18446744073709551616 : Int) * (2 : Int))) ||| BitVec.ofInt (64 : Nat) ((a % (18446744073709551616 : Int)).fdiv (9223372036854775808 : Int))).toNat : Int)), IV.int IntKind.u64 (IntKind.u64.wrap (a % (18446744073709551616 : Int) * (2 : Int))), IV.int IntKind.u64 (0 : Int)]) []) := by kernel_rfl
theorem v_r_Shr64 (a : Int) (K : IV → List Blk → Prop) : (comes Try.prog Nm 3 f_perigeeref1_Shr [fo a, .int .i64 64] [] K) = (((0 : Int) ≤ (4 : Int) ∧ (32 : Int) ≤ (140737488355328 : Int)) ∧ (64 : Int) ≠ (0 : Int) ∧ ((0 : Int) ≤ (1 : Int) ∧ (1 : Int) < (↑(4 : Nat) : Int)) ∧ ((0 : Int) ≤ (1 : Int) ∧ (1 : Int) < (↑(4 : Nat) : Int)) ∧ (64 : Int) ≠ (0 : Int) ∧ (0 : Int) ≤ (0 : Int) ∧ ((0 : Int) ≤ (0 : Int) ∧ (0 : Int) < (4 : Int)) ∧ ((0 : Int) ≤ (0 : Int) ∧ (0 : Int) < (4 : Int)) ∧ (64 : Int) ≠ (0 : Int) ∧ (64 : Int) ≠ (0 : Int) ∧ ((0 : Int) ≤ (2 : Int) ∧ (2 : Int) < (↑(4 : Nat) : Int)) ∧ ((0 : Int) ≤ (2 : Int) ∧ (2 : Int) < (↑(4 : Nat) : Int)) ∧ (64 : Int) ≠ (0 : Int) ∧ (0 : Int) ≤ (0 : Int) ∧ ((0 : Int) ≤ (1 : Int) ∧ (1 : Int) < (↑(4 : Nat) : Int)) ∧ ((0 : Int) ≤ (1 : Int) ∧ (1 : Int) < (↑(4 : Nat) : Int)) ∧ (64 : Int) ≠ (0 : Int) ∧ (64 : Int) ≠ (0 : Int) ∧ ((0 : Int) ≤ (3 : Int) ∧ (3 : Int) < (↑(4 : Nat) : Int)) ∧ ((0 : Int) ≤ (3 : Int) ∧ (3 : Int) < (↑(4 : Nat) : Int)) ∧ (64 : Int) ≠ (0 : Int) ∧ (0 : Int) ≤ (0 : Int) ∧ ((0 : Int) ≤ (2 : Int) ∧ (2 : Int) < (↑(4 : Nat) : Int)) ∧ ((0 : Int) ≤ (2 : Int) ∧ (2 : Int) < (↑(4 : Nat) : Int)) ∧ (64 : Int) ≠ (0 : Int) ∧ ((0 : Int) ≤ (3 : Int) ∧ (3 : Int) < (↑(4 : Nat) : Int)) ∧ ((0 : Int) ≤ (3 : Int) ∧ (3 : Int) < (↑(4 : Nat) : Int)) ∧ ((0 : Int) ≤ (2 : Int) ∧ (2 : Int) < (↑(4 : Nat) : Int)) ∧ ((0 : Int) ≤ (2 : Int) ∧ (2 : Int) < (↑(4 : Nat) : Int)) ∧ ((0 : Int) ≤ (1 : Int) ∧ (1 : Int) < (↑(4 : Nat) : Int)) ∧ ((0 : Int) ≤ (1 : Int) ∧ (1 : Int) < (↑(4 : Nat) : Int)) ∧ ((0 : Int) ≤ (0 : Int) ∧ (0 : Int) < (↑(4 : Nat) : Int)) ∧ ((0 : Int) ≤ (0 : Int) ∧ (0 : Int) < (↑(4 : Nat) : Int)) ∧ K (IV.agg [IV.int IntKind.u64 (0 : Int), IV.int IntKind.u64 ((a / (6277101735386680763835789423207666416102355444464034512896 : Int)).fdiv (1 : Int)), IV.int IntKind.u64 ((a / (340282366920938463463374607431768211456 : Int) % (18446744073709551616 : Int)).fdiv (1 : Int)), IV.int IntKind.u64 ((a / (18446744073709551616 : Int) % (18446744073709551616 : Int)).fdiv (1 : Int))]) []) := by kernel_rfl
theorem v_r_Shr1 (a : Int) (K : IV → List Blk → Prop) : (comes Try.prog Nm 3 f_perigeeref1_Shr [fo a, .int .i64 1] [] K) = (((0 : Int) ≤ (4 : Int) ∧ (32 : Int) ≤ (140737488355328 : Int)) ∧ (64 : Int) ≠ (0 : Int) ∧ ((0 : Int) ≤ (0 : Int) ∧ (0 : Int) < (↑(4 : Nat) : Int)) ∧ ((0 : Int) ≤ (0 : Int) ∧ (0 : Int) < (↑(4 : Nat) : Int)) ∧ (64 : Int) ≠ (0 : Int) ∧ (0 : Int) ≤ (1 : Int) ∧ ((0 : Int) ≤ (0 : Int) ∧ (0 : Int) < (4 : Int)) ∧ ((0 : Int) ≤ (0 : Int) ∧ (0 : Int) < (4 : Int)) ∧ (64 : Int) ≠ (0 : Int) ∧ ((0 : Int) ≤ (0 : Int) ∧ (0 : Int) < (↑(4 : Nat) : Int)) ∧ ((0 : Int) ≤ (0 : Int) ∧ (0 : Int) < (↑(4 : Nat) : Int)) ∧ ((0 : Int) ≤ (1 : Int) ∧ (1 : Int) < (↑(4 : Nat) : Int)) ∧ ((0 : Int) ≤ (1 : Int) ∧ (1 : Int) < (↑(4 : Nat) : Int)) ∧ (64 : Int) ≠ (0 : Int) ∧ (0 : Int) ≤ (63 : Int) ∧ ((0 : Int) ≤ (0 : Int) ∧ (0 : Int) < (↑(4 : Nat) : Int)) ∧ ((0 : Int) ≤ (0 : Int) ∧ (0 : Int) < (↑(4 : Nat) : Int)) ∧ (64 : Int) ≠ (0 : Int) ∧ ((0 : Int) ≤ (1 : Int) ∧ (1 : Int) < (↑(4 : Nat) : Int)) ∧ ((0 : Int) ≤ (1 : Int) ∧ (1 : Int) < (↑(4 : Nat) : Int)) ∧ (64 : Int) ≠ (0 : Int) ∧ (0 : Int) ≤ (1 : Int) ∧ ((0 : Int) ≤ (1 : Int) ∧ (1 : Int) < (↑(4 : Nat) : Int)) ∧ ((0 : Int) ≤ (1 : Int) ∧ (1 : Int) < (↑(4 : Nat) : Int)) ∧ (64 : Int) ≠ (0 : Int) ∧ ((0 : Int) ≤ (1 : Int) ∧ (1 : Int) < (↑(4 : Nat) : Int)) ∧ ((0 : Int) ≤ (1 : Int) ∧ (1 : Int) < (↑(4 : Nat) : Int)) ∧ ((0 : Int) ≤ (2 : Int) ∧ (2 : Int) < (↑(4 : Nat) : Int)) ∧ ((0 : Int) ≤ (2 : Int) ∧ (2 : Int) < (↑(4 : Nat) : Int)) ∧ (64 : Int) ≠ (0 : Int) ∧ (0 : Int) ≤ (63 : Int) ∧ ((0 : Int) ≤ (1 : Int) ∧ (1 : Int) < (↑(4 : Nat) : Int)) ∧ ((0 : Int) ≤ (1 : Int) ∧ (1 : Int) < (↑(4 : Nat) : Int)) ∧ (64 : Int) ≠ (0 : Int) ∧ ((0 : Int) ≤ (2 : Int) ∧ (2 : Int) < (↑(4 : Nat) : Int)) ∧ ((0 : Int) ≤ (2 : Int) ∧ (2 : Int) < (↑(4 : Nat) : Int)) ∧ (64 : Int) ≠ (0 : Int) ∧ (0 : Int) ≤ (1 : Int) ∧ ((0 : Int) ≤ (2 : Int) ∧ (2 : Int) < (↑(4 : Nat) : Int)) ∧ ((0 : Int) ≤ (2 : Int) ∧ (2 : Int) < (↑(4 : Nat) : Int)) ∧ (64 : Int) ≠ (0 : Int) ∧ ((0 : Int) ≤ (2 : Int) ∧ (2 : Int) < (↑(4 : Nat) : Int)) ∧ ((0 : Int) ≤ (2 : Int) ∧ (2 : Int) < (↑(4 : Nat) : Int)) ∧ ((0 : Int) ≤ (3 : Int) ∧ (3 : Int) < (↑(4 : Nat) : Int)) ∧ ((0 : Int) ≤ (3 : Int) ∧ (3 : Int) < (↑(4 : Nat) : Int)) ∧ (64 : Int) ≠ (0 : Int) ∧ (0 : Int) ≤ (63 : Int) ∧ ((0 : Int) ≤ (2 : Int) ∧ (2 : Int) < (↑(4 : Nat) : Int)) ∧ ((0 : Int) ≤ (2 : Int) ∧ (2 : Int) < (↑(4 : Nat) : Int)) ∧ (64 : Int) ≠ (0 : Int) ∧ ((0 : Int) ≤ (3 : Int) ∧ (3 : Int) < (↑(4 : Nat) : Int)) ∧ ((0 : Int) ≤ (3 : Int) ∧ (3 : Int) < (↑(4 : Nat) : Int)) ∧ (64 : Int) ≠ (0 : Int) ∧ (0 : Int) ≤ (1 : Int) ∧ ((0 : Int) ≤ (3 : Int) ∧ (3 : Int) < (↑(4 : Nat) : Int)) ∧ ((0 : Int) ≤ (3 : Int) ∧ (3 : Int) < (↑(4 : Nat) : Int)) ∧ ((0 : Int) ≤ (3 : Int) ∧ (3 : Int) < (↑(4 : Nat) : Int)) ∧ ((0 : Int) ≤ (3 : Int) ∧ (3 : Int) < (↑(4 : Nat) : Int)) ∧ ((0 : Int) ≤ (2 : Int) ∧ (2 : Int) < (↑(4 : Nat) : Int)) ∧ ((0 : Int) ≤ (2 : Int) ∧ (2 : Int) < (↑(4 : Nat) : Int)) ∧ ((0 : Int) ≤ (1 : Int) ∧ (1 : Int) < (↑(4 : Nat) : Int)) ∧ ((0 : Int) ≤ (1 : Int) ∧ (1 : Int) < (↑(4 : Nat) : Int)) ∧ ((0 : Int) ≤ (0 : Int) ∧ (0 : Int) < (↑(4 : Nat) : Int)) ∧ ((0 : Int) ≤ (0 : Int) ∧ (0 : Int) < (↑(4 : Nat) : Int)) ∧ K (IV.agg [IV.int IntKind.u64 ((a / (6277101735386680763835789423207666416102355444464034512896 : Int)).fdiv (2 : Int)), IV.int IntKind.u64 (IntKind.u64.wrap (↑(BitVec.ofInt (64 : Nat) ((a / (340282366920938463463374607431768211456 : Int) % (18446744073709551616 : Int)).fdiv (2 : Int)) ||| BitVec.ofInt (64 : Nat) (IntKind.u64.wrap (a / (6277101735386680763835789423207666416102355444464034512896 : Int) * (9223372036854775808 : Int)))).toNat : Int)), IV.int IntKind.u64 (IntKind.u64.wrap (↑(BitVec.ofInt (64 : Nat) ((a / (18446744073709551616 : Int) % (18446744073709551616 : Int)).fdiv (2 : Int)) ||| BitVec.ofInt (64 : Nat) (IntKind.u64.wrap (a / (340282366920938463463374607431768211456 : Int) % (18446744073709551616 : Int) * (9223372036854775808 : Int)))).toNat : Int)), IV.int IntKind.u64 (IntKind.u64.wrap (↑(BitVec.ofInt (64 : Nat) ((a % (18446744073709551616 : Int)).fdiv (2 : Int)) ||| BitVec.ofInt (64 : Nat) (IntKind.u64.wrap (a / (18446744073709551616 : Int) % (18446744073709551616 : Int) * (9223372036854775808 : Int)))).toNat : Int))]) []) := by kernel_rfl
theorem v_r_plus0 (a b : Int) (K : IV → List Blk → Prop) : (comes Try.prog Nm 3 f_perigeeref1_plus [fo a, tw b, .bool false] [] K) = (∀ (j1 : Int), j1 = b → ∀ (t2 : Int), t2 = (a / (6277101735386680763835789423207666416102355444464034512896 : Int) * (18446744073709551616 : Int) + a / (340282366920938463463374607431768211456 : Int) % (18446744073709551616 : Int) + j1) % (340282366920938463463374607431768211456 : Int) → p22 [IV.agg [IV.int IntKind.u64 (a / (6277101735386680763835789423207666416102355444464034512896 : Int)), IV.int IntKind.u64 (a / (340282366920938463463374607431768211456 : Int) % (18446744073709551616 : Int))], tw b] [] ∧ K (IV.agg [IV.int IntKind.u64 (t2 / (18446744073709551616 : Int)), IV.int IntKind.u64 (t2 % (18446744073709551616 : Int)), IV.int IntKind.u64 (a / (18446744073709551616 : Int) % (18446744073709551616 : Int)), IV.int IntKind.u64 (a % (18446744073709551616 : Int))]) []) := by refine nj ?_; refine nm ?_; kernel_rfl
theorem v_r_plus1 (a b : Int) (K : IV → List Blk → Prop) : (comes Try.prog Nm 3 f_perigeeref1_plus [fo a, tw b, .bool true] [] K) = (∀ (t1 : Int), t1 = ((0 : Int) + b / (18446744073709551616 : Int) + (1 : Int)) % (340282366920938463463374607431768211456 : Int) → ∀ (j2 : Int), j2 = t1 → ∀ (t3 : Int), t3 = a / (6277101735386680763835789423207666416102355444464034512896 : Int) * (18446744073709551616 : Int) + a / (340282366920938463463374607431768211456 : Int) % (18446744073709551616 : Int) → ∀ (t4 : Int), t4 = (t3 + j2) % (340282366920938463463374607431768211456 : Int) → ∀ (t5 : Int), t5 = a / (18446744073709551616 : Int) % (18446744073709551616 : Int) * (18446744073709551616 : Int) + a % (18446744073709551616 : Int) + (b % (18446744073709551616 : Int) * (18446744073709551616 : Int) + (0 : Int)) → ∀ (t6 : Int), t6 = (t3 + ((0 : Int) + b / (18446744073709551616 : Int))) % (340282366920938463463374607431768211456 : Int) → ∀ (t7 : Int), t7 = t5 % (340282366920938463463374607431768211456 : Int) → p22 [IV.agg [IV.int IntKind.u64 (a / (18446744073709551616 : Int) % (18446744073709551616 : Int)), IV.int IntKind.u64 (a % (18446744073709551616 : Int))], IV.agg [IV.int IntKind.u64 (b % (18446744073709551616 : Int)), IV.int IntKind.u64 (0 : Int)]] [] ∧ br (decide ((340282366920938463463374607431768211456 : Int) ≤ t5)) (p22 [IV.agg [IV.int IntKind.u64 (0 : Int), IV.int IntKind.u64 (b / (18446744073709551616 : Int))], IV.agg [IV.int IntKind.u64 (0 : Int), IV.int IntKind.u64 (1 : Int)]] [] ∧ p22 [IV.agg [IV.int IntKind.u64 (a / (6277101735386680763835789423207666416102355444464034512896 : Int)), IV.int IntKind.u64 (a / (340282366920938463463374607431768211456 : Int) % (18446744073709551616 : Int))], tw t1] [] ∧ K (IV.agg [IV.int IntKind.u64 (t4 / (18446744073709551616 : Int)), IV.int IntKind.u64 (t4 % (18446744073709551616 : Int)), IV.int IntKind.u64 (t7 / (18446744073709551616 : Int)), IV.int IntKind.u64 (t7 % (18446744073709551616 : Int))]) []) (p22 [IV.agg [IV.int IntKind.u64 (a / (6277101735386680763835789423207666416102355444464034512896 : Int)), IV.int IntKind.u64 (a / (340282366920938463463374607431768211456 : Int) % (18446744073709551616 : Int))], IV.agg [IV.int IntKind.u64 (0 : Int), IV.int IntKind.u64 (b / (18446744073709551616 : Int))]] [] ∧ K (IV.agg [IV.int IntKind.u64 (t6 / (18446744073709551616 : Int)), IV.int IntKind.u64 (t6 % (18446744073709551616 : Int)), IV.int IntKind.u64 (t7 / (18446744073709551616 : Int)), IV.int IntKind.u64 (t7 % (18446744073709551616 : Int))]) [])) := by refine nm ?_; refine nj ?_; refine nm ?_; refine nm ?_; refine nm ?_; refine nm ?_; refine nm ?_; kernel_rfl
theorem v_r_Neg (x : Int) (K : IV → List Blk → Prop) : (comes Try.prog Nm 3 f_perigeeref1_Neg [fx x] [] K) = (∀ (t1 : Int), t1 = ((0 : Int) - (IntKind.u64.wrap (x / (18446744073709551616 : Int)) * (18446744073709551616 : Int) + x % (18446744073709551616 : Int))) % (340282366920938463463374607431768211456 : Int) → p22 [IV.agg [IV.int IntKind.u64 (0 : Int), IV.int IntKind.u64 (0 : Int)], IV.agg [IV.int IntKind.u64 (IntKind.u64.wrap (x / (18446744073709551616 : Int))), IV.int IntKind.u64 (x % (18446744073709551616 : Int))]] [] ∧ K (IV.agg [IV.int IntKind.i64 (IntKind.i64.wrap (t1 / (18446744073709551616 : Int))), IV.int IntKind.u64 (t1 % (18446744073709551616 : Int))]) []) := by refine nm ?_; kernel_rfl
theorem v_r_Int (x : Int) (K : IV → List Blk → Prop) : (comes Try.prog Nm 3 f_perigeeref1_Int [.int .i64 x] [] K) = (K (IV.agg [IV.int IntKind.i64 (mx IntKind.i64 x (-9223372036854775807 : Int)), IV.int IntKind.u64 (0 : Int)]) []) := by kernel_rfl
theorem v_r_bit (a i : Int) (K : IV → List Blk → Prop) : (comes Try.prog Nm 3 f_perigeeref1_bit [fo a, .int .i64 i] [] K) = ((64 : Int) ≠ (0 : Int) ∧ ((0 : Int) ≤ IntKind.i64.wrap (i.tdiv (64 : Int)) ∧ IntKind.i64.wrap (i.tdiv (64 : Int)) < (↑(4 : Nat) : Int)) ∧ ((0 : Int) ≤ IntKind.i64.wrap (i.tdiv (64 : Int)) ∧ IntKind.i64.wrap (i.tdiv (64 : Int)) < (↑(4 : Nat) : Int)) ∧ (64 : Int) ≠ (0 : Int) ∧ (0 : Int) ≤ i.tmod (64 : Int) ∧ K (IV.int IntKind.u64 (IntKind.u64.wrap (↑(BitVec.ofInt (64 : Nat) ((rd [[a % (18446744073709551616 : Int)], [a / (18446744073709551616 : Int) % (18446744073709551616 : Int)], [a / (340282366920938463463374607431768211456 : Int) % (18446744073709551616 : Int)], [a / (6277101735386680763835789423207666416102355444464034512896 : Int)]] (IntKind.i64.wrap (i.tdiv (64 : Int))).toNat (0 : Nat)).fdiv ((2 : Int) ^ min (i.tmod (64 : Int)).toNat (64 : Nat))) &&& BitVec.ofInt (64 : Nat) (1 : Int)).toNat : Int))) []) := by kernel_rfl
end Go.Vs.RF

set_option linter.unusedVariables false
set_option linter.unusedSimpArgs false
set_option maxRecDepth 100000
/- the document's answer: two words, four words -/
namespace Go.Vs.RF
open Go Go.Proofs Go.Vs Go.IntWalk

theorem p22_of {a b : Int} (h : in128 a) (h' : in128 b) : p22 [tw a, tw b] [] := ⟨a, b, rfl, rfl, h, h'⟩
theorem tw_mk {n a b : Int} (hb : u64ok b) (h : n = a * 18446744073709551616 + b) : tw n = .agg [.int .u64 a, .int .u64 b] := by
  unfold u64ok at hb; unfold tw
  rw [show n / 18446744073709551616 = a by omega, show n % 18446744073709551616 = b by omega]
theorem sum_mk {n a b : Int} {c d : Bool} (hb : u64ok b) (h : n = a * 18446744073709551616 + b) (hc : c = d) : sumV n c = .agg [.int .u64 a, .int .u64 b, .bool d] := by
  unfold u64ok at hb; unfold sumV
  rw [show n / 18446744073709551616 = a by omega, show n % 18446744073709551616 = b by omega, hc]
theorem pairE {v v' : IV} (h : v = v') : (v, ([] : List Blk)) = (v', []) := by rw [h]
theorem c_r_Less : Contract Try.prog f_perigeeref1_Less spLess := by
  refine contract_of (N := Nk) 3 (knowOf (fun g sp h => ctrsk h) (fun _ _ => rfl) (fun _ => rfl) 3) ?_
  intro l bs _ _ hp
  obtain ⟨a, b, rfl, rfl, ha, hb⟩ := hp
  have hF : spLess.F [tw a, tw b] [] = (.bool (decide (a < b)), []) := by
    show (IV.bool (decide (v2 [tw a, tw b] 0 < v2 [tw a, tw b] 1)), ([] : List Blk)) = _
    rw [v2_tw _ a 0 rfl, v2_tw _ b 1 rfl]
  rw [hF, v_r_Less, br_dec]
  unfold in128 at ha hb
  refine ⟨fun h => ?_, fun h => ?_⟩
  · rw [decide_eq_true (show a < b by omega)]
  · rw [br_beq]
    refine ⟨fun h1 => ?_, fun h1 => ?_⟩
    · have : decide (a < b) = decide (a % 18446744073709551616 < b % 18446744073709551616) := by rw [Bool.eq_iff_iff, decide_eq_true_iff, decide_eq_true_iff]; omega
      rw [this]
    · rw [decide_eq_false (show ¬ a < b by omega)]
theorem ctrsl : ∀ {g : FuncId} {sp : Vs.Spec}, Γl g = some sp → Contract Try.prog g sp := ext_ok c_r_Less ctrsk
theorem c_r_AddTwo : Contract Try.prog f_perigeeref1_AddTwo spAddTwo := by
  refine contract_of (N := Nk) 3 (knowOf (fun g sp h => ctrsk h) (fun _ _ => rfl) (fun _ => rfl) 3) ?_
  intro l bs _ _ hp
  obtain ⟨a, b, rfl, rfl, ha, hb⟩ := hp
  have hF : spAddTwo.F [tw a, tw b] [] = (sumV ((a + b) % 340282366920938463463374607431768211456) (decide (340282366920938463463374607431768211456 ≤ a + b)), []) := by
    show (sumV ((v2 [tw a, tw b] 0 + v2 [tw a, tw b] 1) % 340282366920938463463374607431768211456) (decide (340282366920938463463374607431768211456 ≤ v2 [tw a, tw b] 0 + v2 [tw a, tw b] 1)), ([] : List Blk)) = _
    rw [v2_tw _ a 0 rfl, v2_tw _ b 1 rfl]
  rw [hF, v_r_AddTwo]
  rintro t1 e1 t2 e2 t3 e3
  rw [wu] at e1 e2 e3
  unfold in128 at ha hb
  simp only [wu, br_dec]
  refine ⟨fun h1 => ⟨fun h2 => pairE (sum_mk (by unfold u64ok; omega) (by omega) ?_), fun h2 => pairE (sum_mk (by unfold u64ok; omega) (by omega) ?_)⟩, fun h1 => ⟨fun h2 => pairE (sum_mk (by unfold u64ok; omega) (by omega) ?_), fun h2 => pairE (sum_mk (by unfold u64ok; omega) (by omega) ?_)⟩⟩
  · rw [decide_eq_true_iff]; omega
  · rw [Bool.eq_iff_iff, decide_eq_true_iff, beq_iff_eq]; omega
  · rw [decide_eq_true_iff]; omega
  · rw [decide_eq_false_iff_not]; omega
theorem c_r_SubTwo : Contract Try.prog f_perigeeref1_SubTwo spSubTwo := by
  refine contract_of (N := Nl) 3 (knowOf (fun g sp h => ctrsl h) (fun _ _ => rfl) (fun _ => rfl) 3) ?_
  intro l bs _ _ hp
  obtain ⟨a, b, rfl, rfl, ha, hb⟩ := hp
  have hF : spSubTwo.F [tw a, tw b] [] = (sumV ((a - b) % 340282366920938463463374607431768211456) (decide (a < b)), []) := by
    show (sumV ((v2 [tw a, tw b] 0 - v2 [tw a, tw b] 1) % 340282366920938463463374607431768211456) (decide (v2 [tw a, tw b] 0 < v2 [tw a, tw b] 1)), ([] : List Blk)) = _
    rw [v2_tw _ a 0 rfl, v2_tw _ b 1 rfl]
  rw [hF, v_r_SubTwo]
  rintro a rfl b rfl t3 e3
  rw [wu] at e3
  have ha' := ha
  have hb' := hb
  unfold in128 at ha hb
  simp only [wu, br_dec]
  exact ⟨fun h1 => ⟨p22_of ha' hb', pairE (sum_mk (by unfold u64ok; omega) (by omega) rfl)⟩, fun h1 => ⟨p22_of ha' hb', pairE (sum_mk (by unfold u64ok; omega) (by omega) rfl)⟩⟩
theorem c_r_product : Contract Try.prog f_perigeeref1_product spProduct := by
  refine contract_of (N := Nk) 3 (knowOf (fun g sp h => ctrsk h) (fun _ _ => rfl) (fun _ => rfl) 3) ?_
  intro l bs _ _ hp
  obtain ⟨hl, hb, ⟨h0, h1⟩, ⟨h2, h3⟩⟩ := (show preUU l bs from hp)
  subst hb
  obtain ⟨a, b, rfl⟩ : ∃ a b, l = [.int .u64 a, .int .u64 b] := ⟨_, _, hl⟩
  clear hl hp
  change 0 ≤ a at h0
  change a < 18446744073709551616 at h1
  change 0 ≤ b at h2
  change b < 18446744073709551616 at h3
  show comes _ _ _ _ _ _ fun v bs' => (tw (a * b), ([] : List Blk)) = (v, bs')
  rw [v_r_product]
  simp only [fd (show (0 : Int) ≤ 4294967296 by decide)]
  rw [lowp h0 h1, lowp h2 h3]
  rintro t1 e1 t2 e2 t3 e3 t4 e4 t5 e5
  subst e1; subst e2
  have pe := mul_parts a b 4294967296
  have p1 := part_le (x := a / 4294967296) (y := b / 4294967296) (m := 4294967295) (n := 4294967295) (by omega) (by omega) (by omega) (by omega)
  have p2 := part_le (x := a / 4294967296) (y := b % 4294967296) (m := 4294967295) (n := 4294967295) (by omega) (by omega) (by omega) (by omega)
  have p3 := part_le (x := a % 4294967296) (y := b / 4294967296) (m := 4294967295) (n := 4294967295) (by omega) (by omega) (by omega) (by omega)
  have p4 := part_le (x := a % 4294967296) (y := b % 4294967296) (m := 4294967295) (n := 4294967295) (by omega) (by omega) (by omega) (by omega)
  repeat (refine ⟨by decide, ?_⟩)
  rw [← pe]
  generalize a / 4294967296 * (b / 4294967296) = p at *
  generalize a / 4294967296 * (b % 4294967296) = q at *
  generalize a % 4294967296 * (b / 4294967296) = r at *
  generalize a % 4294967296 * (b % 4294967296) = s at *
  rw [u64_in s ⟨by omega, by omega⟩] at e3
  subst e3
  rw [u64_in q ⟨by omega, by omega⟩, u64_in (q + t3 / 4294967296) ⟨by omega, by omega⟩] at e4
  subst e4
  rw [u64_in r ⟨by omega, by omega⟩, lowp (by omega) (by omega), u64_in (r + (q + t3 / 4294967296) % 4294967296) ⟨by omega, by omega⟩] at e5
  rw [lowp (by omega) (by omega), u64_in p ⟨by omega, by omega⟩, u64_in (p + (q + t3 / 4294967296) / 4294967296) ⟨by omega, by omega⟩, u64_in (p + (q + t3 / 4294967296) / 4294967296 + t5 / 4294967296) ⟨by omega, by omega⟩, wu (t5 * 4294967296), wu]
  rw [or_hi 4294967296 32 rfl (by omega) (by omega) (by omega) (by omega) (by omega) (by decide)]
  exact pairE (tw_mk (by unfold u64ok; omega) (by omega))
theorem ctrsm : ∀ {g : FuncId} {sp : Vs.Spec}, Γm g = some sp → Contract Try.prog g sp := ext_ok c_r_AddTwo (ext_ok c_r_SubTwo (ext_ok c_r_product ctrsl))

theorem fin_lt {a b : Int} (h : a < b) : (IV.int .i64 (cmpI a b), ([] : List Blk)) = (IV.int .i64 (-1), []) := by rw [cmpI_lt h]
theorem fin_gt {a b : Int} (h : b < a) : (IV.int .i64 (cmpI a b), ([] : List Blk)) = (IV.int .i64 1, []) := by rw [cmpI_gt h]
theorem fin_eq {a b : Int} (h : a = b) : (IV.int .i64 (cmpI a b), ([] : List Blk)) = (IV.int .i64 0, []) := by rw [cmpI_eq h]
noncomputable def spCmpFour : Vs.Spec := ⟨p44, fun l _ => (.int .i64 (cmpI (v4 l 0) (v4 l 1)), [])⟩
theorem c_r_CmpFour : Contract Try.prog f_perigeeref1_CmpFour spCmpFour := by
  refine contract_of (N := Nm) 3 (knowOf (fun g sp h => ctrsm h) (fun _ _ => rfl) (fun _ => rfl) 3) ?_
  intro l bs _ _ hp
  obtain ⟨a, b, rfl, rfl, ha, hb⟩ := hp
  have hF : spCmpFour.F [fo a, fo b] [] = (.int .i64 (cmpI a b), []) := by
    show (IV.int .i64 (cmpI (v4 [fo a, fo b] 0) (v4 [fo a, fo b] 1)), ([] : List Blk)) = _
    rw [v4_fo _ a 0 rfl, v4_fo _ b 1 rfl]
  rw [hF, v_r_CmpFour]
  unfold in256 at ha hb
  refine ⟨⟨?_, ?_⟩, ?_⟩ <;>
  (repeat (refine ⟨by decide, ?_⟩)
   rw [br_dec]
   refine ⟨fun h1 => fin_lt (by omega), fun h1 => ?_⟩
   repeat (refine ⟨by decide, ?_⟩)
   rw [br_dec]
   refine ⟨fun h2 => fin_gt (by omega), fun h2 => ?_⟩
   repeat (refine ⟨by decide, ?_⟩)
   rw [br_dec]
   refine ⟨fun h1 => fin_lt (by omega), fun h3 => ?_⟩
   repeat (refine ⟨by decide, ?_⟩)
   rw [br_dec]
   refine ⟨fun h2 => fin_gt (by omega), fun h4 => ?_⟩
   repeat (refine ⟨by decide, ?_⟩)
   rw [br_dec]
   refine ⟨fun h1 => fin_lt (by omega), fun h5 => ?_⟩
   repeat (refine ⟨by decide, ?_⟩)
   rw [br_dec]
   refine ⟨fun h2 => fin_gt (by omega), fun h6 => ?_⟩
   repeat (refine ⟨by decide, ?_⟩)
   rw [br_dec]
   refine ⟨fun h1 => fin_lt (by omega), fun h7 => ?_⟩
   repeat (refine ⟨by decide, ?_⟩)
   rw [br_dec]
   exact ⟨fun h2 => fin_gt (by omega), fun h8 => fin_eq (by omega)⟩)
def preShl' (l : List IV) (bs : List Blk) : Prop := ∃ a n, l = [fo a, .int .i64 n] ∧ bs = [] ∧ (n = 64 ∨ n = 65) ∧ in256 a
def preShr' (l : List IV) (bs : List Blk) : Prop := ∃ a n, l = [fo a, .int .i64 n] ∧ bs = [] ∧ (n = 1 ∨ n = 64) ∧ in256 a
noncomputable def spRShl : Vs.Spec := ⟨preShl', fun l _ => (fo (v4 l 0 * 2 ^ (argI l 1 0).toNat % 115792089237316195423570985008687907853269984665640564039457584007913129639936), [])⟩
noncomputable def spRShr : Vs.Spec := ⟨preShr', fun l _ => (fo (v4 l 0 / 2 ^ (argI l 1 0).toNat), [])⟩
theorem c_r_Shl : Contract Try.prog f_perigeeref1_Shl spRShl := by
  refine contract_of (N := Nm) 3 (knowOf (fun g sp h => ctrsm h) (fun _ _ => rfl) (fun _ => rfl) 3) ?_
  intro l bs _ _ hp
  obtain ⟨a, n, rfl, rfl, hn, ha⟩ := hp
  have hF : spRShl.F [fo a, .int .i64 n] [] = (fo (a * 2 ^ n.toNat % 115792089237316195423570985008687907853269984665640564039457584007913129639936), []) := by
    show (fo (v4 [fo a, .int .i64 n] 0 * 2 ^ n.toNat % 115792089237316195423570985008687907853269984665640564039457584007913129639936), ([] : List Blk)) = _
    rw [v4_fo _ a 0 rfl]
  rw [hF]
  unfold in256 at ha
  rcases hn with rfl | rfl
  · rw [v_r_Shl64]
    repeat (refine ⟨by decide, ?_⟩)
    refine agg4 (E := a * 18446744073709551616 % 115792089237316195423570985008687907853269984665640564039457584007913129639936) ?_
    simp only [wu]
    exact fo_mk ⟨by omega, by omega⟩ ⟨by omega, by omega⟩ ⟨by omega, by omega⟩ ⟨by omega, by omega⟩ (by omega)
  · rw [v_r_Shl65]
    repeat (refine ⟨by decide, ?_⟩)
    refine agg4 (E := a * 36893488147419103232 % 115792089237316195423570985008687907853269984665640564039457584007913129639936) ?_
    simp only [wu, fd (show (0 : Int) ≤ 9223372036854775808 by decide)]
    rw [or_hi 2 1 rfl (by omega) (by omega) (by omega) (by omega) (by omega) (by decide), or_hi 2 1 rfl (by omega) (by omega) (by omega) (by omega) (by omega) (by decide)]
    exact fo_mk ⟨by omega, by omega⟩ ⟨by omega, by omega⟩ ⟨by omega, by omega⟩ ⟨by omega, by omega⟩ (by omega)
theorem c_r_Shr : Contract Try.prog f_perigeeref1_Shr spRShr := by
  refine contract_of (N := Nm) 3 (knowOf (fun g sp h => ctrsm h) (fun _ _ => rfl) (fun _ => rfl) 3) ?_
  intro l bs _ _ hp
  obtain ⟨a, n, rfl, rfl, hn, ha⟩ := hp
  have hF : spRShr.F [fo a, .int .i64 n] [] = (fo (a / 2 ^ n.toNat), []) := by
    show (fo (v4 [fo a, .int .i64 n] 0 / 2 ^ n.toNat), ([] : List Blk)) = _
    rw [v4_fo _ a 0 rfl]
  rw [hF]
  unfold in256 at ha
  rcases hn with rfl | rfl
  · rw [v_r_Shr1]
    repeat (refine ⟨by decide, ?_⟩)
    refine agg4 (E := a / 2) ?_
    simp only [wu, fd (show (0 : Int) ≤ 2 by decide)]
    rw [or_lo 9223372036854775808 63 rfl (by omega) (by omega) (by omega) (by omega) (by omega) (by decide), or_lo 9223372036854775808 63 rfl (by omega) (by omega) (by omega) (by omega) (by omega) (by decide), or_lo 9223372036854775808 63 rfl (by omega) (by omega) (by omega) (by omega) (by omega) (by decide)]
    exact fo_mk ⟨by omega, by omega⟩ ⟨by omega, by omega⟩ ⟨by omega, by omega⟩ ⟨by omega, by omega⟩ (by omega)
  · rw [v_r_Shr64]
    repeat (refine ⟨by decide, ?_⟩)
    refine agg4 (E := a / 18446744073709551616) ?_
    simp only [fd (show (0 : Int) ≤ 1 by decide), Int.ediv_one]
    exact fo_mk ⟨by omega, by omega⟩ ⟨by omega, by omega⟩ ⟨by omega, by omega⟩ ⟨by omega, by omega⟩ (by omega)
def prePlus (l : List IV) (bs : List Blk) : Prop := ∃ a b c, l = [fo a, tw b, .bool c] ∧ bs = [] ∧ in256 a ∧ in128 b
noncomputable def spPlus : Vs.Spec := ⟨prePlus, fun l _ => (fo ((v4 l 0 + v2 l 1 * (if argB l 2 0 then 18446744073709551616 else 340282366920938463463374607431768211456)) % 115792089237316195423570985008687907853269984665640564039457584007913129639936), [])⟩
theorem c_r_plus : Contract Try.prog f_perigeeref1_plus spPlus := by
  refine contract_of (N := Nm) 3 (knowOf (fun g sp h => ctrsm h) (fun _ _ => rfl) (fun _ => rfl) 3) ?_
  intro l bs _ _ hp
  obtain ⟨a, b, c, rfl, rfl, ha, hb⟩ := hp
  have hF : spPlus.F [fo a, tw b, .bool c] [] = (fo ((a + b * (if c then 18446744073709551616 else 340282366920938463463374607431768211456)) % 115792089237316195423570985008687907853269984665640564039457584007913129639936), []) := by
    show (fo ((v4 [fo a, tw b, .bool c] 0 + v2 [fo a, tw b, .bool c] 1 * (if c then 18446744073709551616 else 340282366920938463463374607431768211456)) % 115792089237316195423570985008687907853269984665640564039457584007913129639936), ([] : List Blk)) = _
    rw [v4_fo _ a 0 rfl, v2_tw _ b 1 rfl]
  rw [hF]
  have up : in128 (a / 6277101735386680763835789423207666416102355444464034512896 * 18446744073709551616 + a / 340282366920938463463374607431768211456 % 18446744073709551616) := by unfold in256 at ha; unfold in128; omega
  have eup : IV.agg [.int .u64 (a / 6277101735386680763835789423207666416102355444464034512896), .int .u64 (a / 340282366920938463463374607431768211456 % 18446744073709551616)] = tw (a / 6277101735386680763835789423207666416102355444464034512896 * 18446744073709551616 + a / 340282366920938463463374607431768211456 % 18446744073709551616) := (tw_mk (by unfold u64ok; omega) rfl).symm
  have elo : IV.agg [.int .u64 (a / 18446744073709551616 % 18446744073709551616), .int .u64 (a % 18446744073709551616)] = tw (a % 340282366920938463463374607431768211456) := (tw_mk (by unfold u64ok; omega) (by omega)).symm
  have ebl : IV.agg [.int .u64 (b % 18446744073709551616), .int .u64 0] = tw (b % 18446744073709551616 * 18446744073709551616) := (tw_mk ⟨by decide, by decide⟩ (by omega)).symm
  have ebh : IV.agg [.int .u64 0, .int .u64 (b / 18446744073709551616)] = tw (b / 18446744073709551616) := (tw_mk (by unfold in128 at hb; unfold u64ok; omega) (by omega)).symm
  have e1 : IV.agg [.int .u64 0, .int .u64 1] = tw 1 := rfl
  cases c with
  | false =>
    rw [v_r_plus0]
    rintro b rfl t2 e2
    refine ⟨by rw [eup]; exact p22_of up hb, ?_⟩
    unfold in256 at ha; unfold in128 at hb
    simp only [Bool.false_eq_true, if_false]
    exact agg4 (fo_mk (by unfold u64ok; omega) (by unfold u64ok; omega) (by unfold u64ok; omega) (by unfold u64ok; omega) (by omega))
  | true =>
    rw [v_r_plus1]
    rintro t1 f1 _ rfl t3 f3 t4 f4 t5 f5 t6 f6 t7 f7
    rw [eup, elo, ebl, ebh, e1]
    unfold in256 at ha; unfold in128 at hb
    refine ⟨p22_of (by unfold in128; omega) (by unfold in128; omega), ?_⟩
    rw [br_dec]
    simp only [if_true]
    refine ⟨fun h => ⟨p22_of (by unfold in128; omega) (by unfold in128; omega), p22_of up (by unfold in128; omega), ?_⟩, fun h => ⟨p22_of up (by unfold in128; omega), ?_⟩⟩
    · exact agg4 (fo_mk (by unfold u64ok; omega) (by unfold u64ok; omega) (by unfold u64ok; omega) (by unfold u64ok; omega) (by omega))
    · exact agg4 (fo_mk (by unfold u64ok; omega) (by unfold u64ok; omega) (by unfold u64ok; omega) (by unfold u64ok; omega) (by omega))
theorem fx_mk2 {n a b : Int} (hb : u64ok b) (h : n = a * 18446744073709551616 + b) : fx n = .agg [.int .i64 a, .int .u64 b] := by
  unfold u64ok at hb; unfold fx
  rw [show n / 18446744073709551616 = a by omega, show n % 18446744073709551616 = b by omega]
theorem i64w {x : Int} (h : -9223372036854775808 ≤ x) (h' : x < 18446744073709551616) : IntKind.i64.wrap x = if 9223372036854775808 ≤ x then x - 18446744073709551616 else x := by
  rw [IntKind.wrap_i64]; split <;> omega
noncomputable def spRNeg : Vs.Spec := ⟨may1, fun l _ => (fx (-(v2 l 0)), [])⟩
theorem fix_as_two {x : Int} (h : inF x) : IV.agg [.int .u64 (IntKind.u64.wrap (x / 18446744073709551616)), .int .u64 (x % 18446744073709551616)] = tw (x % 340282366920938463463374607431768211456) := by
  unfold inF at h
  rw [wu]
  exact (tw_mk (by unfold u64ok; omega) (by omega)).symm
theorem c_r_Neg : Contract Try.prog f_perigeeref1_Neg spRNeg := by
  refine contract_of (N := Nm) 3 (knowOf (fun g sp h => ctrsm h) (fun _ _ => rfl) (fun _ => rfl) 3) ?_
  intro l bs _ _ hp
  obtain ⟨x, rfl, rfl, hx⟩ := hp
  have hF : spRNeg.F [fx x] [] = (fx (-x), []) := by
    show (fx (-(v2 [fx x] 0)), ([] : List Blk)) = _
    rw [v2_fx _ x 0 rfl]
  rw [hF, v_r_Neg]
  rintro t1 e1
  rw [fix_as_two (inF_of hx), show IV.agg [.int .u64 0, .int .u64 0] = tw 0 from rfl]
  rw [wu] at e1
  refine ⟨p22_of ⟨by decide, by decide⟩ (by unfold in128; omega), ?_⟩
  unfold mayF at hx
  rw [i64w (by omega) (by omega)]
  exact pairE (fx_mk2 (by unfold u64ok; omega) (by split <;> omega))
noncomputable def spRInt : Vs.Spec := spInt
theorem c_r_Int : Contract Try.prog f_perigeeref1_Int spInt := by
  refine contract_of (N := Nm) 3 (knowOf (fun g sp h => ctrsm h) (fun _ _ => rfl) (fun _ => rfl) 3) ?_
  intro l bs _ _ hp
  obtain ⟨hl, hb, h0⟩ := (show preI l bs from hp)
  subst hb
  obtain ⟨a, rfl⟩ : ∃ a, l = [.int .i64 a] := ⟨_, hl⟩
  rw [v_r_Int]
  show (fx (mx .i64 a (-9223372036854775807) * 18446744073709551616), ([] : List Blk)) = _
  exact pairE (fx_mk2 ⟨by decide, by decide⟩ (by omega))
def preBit' (l : List IV) (bs : List Blk) : Prop := ∃ a n, l = [fo a, .int .i64 n] ∧ bs = [] ∧ (0 ≤ n ∧ n < 256) ∧ in256 a
noncomputable def spRBit : Vs.Spec := ⟨preBit', fun l _ => (.int .u64 (v4 l 0 / 2 ^ (argI l 1 0).toNat % 2), [])⟩
theorem rd_wd {a : Int} (h : in256 a) {q : Nat} (hq : q < 4) : rd [[a % 18446744073709551616], [a / 18446744073709551616 % 18446744073709551616], [a / 340282366920938463463374607431768211456 % 18446744073709551616], [a / 6277101735386680763835789423207666416102355444464034512896]] q 0 = a / 2 ^ (64 * q) % 18446744073709551616 := by
  match q, hq with
  | 0, _ => show a % _ = a / 1 % _; rw [Int.ediv_one]
  | 1, _ => rfl
  | 2, _ => rfl
  | 3, _ =>
    show a / 6277101735386680763835789423207666416102355444464034512896 = a / 6277101735386680763835789423207666416102355444464034512896 % 18446744073709551616
    unfold in256 at h; omega
theorem c_r_bit : Contract Try.prog f_perigeeref1_bit spRBit := by
  refine contract_of (N := Nm) 3 (knowOf (fun g sp h => ctrsm h) (fun _ _ => rfl) (fun _ => rfl) 3) ?_
  intro l bs _ _ hp
  obtain ⟨a, n, rfl, rfl, ⟨h0, h1⟩, ha⟩ := hp
  have hF : spRBit.F [fo a, .int .i64 n] [] = (.int .u64 (a / 2 ^ n.toNat % 2), []) := by
    show (IV.int .u64 (v4 [fo a, .int .i64 n] 0 / 2 ^ n.toNat % 2), ([] : List Blk)) = _
    rw [v4_fo _ a 0 rfl]
  rw [hF, v_r_bit, tdiv64 h0 h1, tmod64 h0]
  refine ⟨by decide, ⟨by omega, by omega⟩, ⟨by omega, by omega⟩, by decide, by omega, ?_⟩
  have hm : min (n % 64).toNat 64 = (n % 64).toNat := by omega
  have hj : (n % 64).toNat < 64 := by omega
  have hpos : (0 : Int) < 2 ^ (n % 64).toNat := Int.pow_pos (by decide)
  rw [hm, rd_wd ha (by omega)]
  have hw : u64ok (a / 2 ^ (64 * (n / 64).toNat) % 18446744073709551616) := by unfold u64ok; omega
  have h2 : 0 ≤ (a / 2 ^ (64 * (n / 64).toNat) % 18446744073709551616) / 2 ^ (n % 64).toNat := Int.ediv_nonneg hw.1 (by omega)
  have h3 := Int.ediv_le_self (2 ^ (n % 64).toNat) hw.1
  have hand := and_m (x := (a / 2 ^ (64 * (n / 64).toNat) % 18446744073709551616) / 2 ^ (n % 64).toNat) 2 1 rfl (by decide) h2 (by have := hw.2; omega) (by decide)
  rw [show (2 : Int) - 1 = 1 from rfl] at hand
  rw [fd (by omega), hand, wu]
  refine pairE ?_
  congr 1
  have e := pow_split (n := n) (n / 64).toNat (by omega) h0
  rw [e, ← Int.ediv_ediv_of_nonneg (by exact Int.le_of_lt (Int.pow_pos (by decide)))]
  have hb := bit_word (w := a / 2 ^ (64 * (n / 64).toNat) % 18446744073709551616) (Y := a / 2 ^ (64 * (n / 64).toNat) / 18446744073709551616) hj
  rw [show a / 2 ^ (64 * (n / 64).toNat) % 18446744073709551616 + 18446744073709551616 * (a / 2 ^ (64 * (n / 64).toNat) / 18446744073709551616) = a / 2 ^ (64 * (n / 64).toNat) by omega] at hb
  rw [hb]
  omega
end Go.Vs.RF

set_option linter.unusedVariables false
/- the document's answer: products, sizes; what is left; loops -/
namespace Go.Vs.RF
open Go Go.Proofs Go.Vs
noncomputable def Γn : FuncId → Option Vs.Spec := fun g => if g = f_perigeeref1_CmpFour then some spCmpFour else if g = f_perigeeref1_Shl then some spRShl else if g = f_perigeeref1_Shr then some spRShr else if g = f_perigeeref1_plus then some spPlus else if g = f_perigeeref1_Neg then some spRNeg else if g = f_perigeeref1_Int then some spInt else if g = f_perigeeref1_bit then some spRBit else Γm g
noncomputable def Nn' : Know := ⟨Γn, fun _ _ => none, fun _ => none⟩
theorem v_r_MulTwo (a b : Int) (K : IV → List Blk → Prop) : (comes Try.prog Nn' 3 f_perigeeref1_MulTwo [tw a, tw b] [] K) = (∀ (t1 : Int), t1 = a / (18446744073709551616 : Int) * (b / (18446744073709551616 : Int)) → ∀ (j2 : Int), j2 = t1 → ∀ (t3 : Int), t3 = a / (18446744073709551616 : Int) * (b % (18446744073709551616 : Int)) → ∀ (j4 : Int), j4 = t3 → ∀ (t5 : Int), t5 = a % (18446744073709551616 : Int) * (b / (18446744073709551616 : Int)) → ∀ (j6 : Int), j6 = t5 → ∀ (t7 : Int), t7 = ((0 : Int) * (6277101735386680763835789423207666416102355444464034512896 : Int) + (0 : Int) * (340282366920938463463374607431768211456 : Int) + a % (18446744073709551616 : Int) * (b % (18446744073709551616 : Int)) / (18446744073709551616 : Int) * (18446744073709551616 : Int) + a % (18446744073709551616 : Int) * (b % (18446744073709551616 : Int)) % (18446744073709551616 : Int) + j2 * (340282366920938463463374607431768211456 : Int)) % (115792089237316195423570985008687907853269984665640564039457584007913129639936 : Int) → ∀ (q8 : Int), q8 = t7 → ∀ (t9 : Int), t9 = (q8 + j4 * (18446744073709551616 : Int)) % (115792089237316195423570985008687907853269984665640564039457584007913129639936 : Int) → ∀ (q10 : Int), q10 = t9 → ∀ (t11 : Int), t11 = a % (18446744073709551616 : Int) * (b % (18446744073709551616 : Int)) → ∀ (t12 : Int), t12 = (q10 + j6 * (18446744073709551616 : Int)) % (115792089237316195423570985008687907853269984665640564039457584007913129639936 : Int) → preUU [IV.int IntKind.u64 (a % (18446744073709551616 : Int)), IV.int IntKind.u64 (b % (18446744073709551616 : Int))] [] ∧ preUU [IV.int IntKind.u64 (a / (18446744073709551616 : Int)), IV.int IntKind.u64 (b / (18446744073709551616 : Int))] [] ∧ prePlus [IV.agg [IV.int IntKind.u64 (0 : Int), IV.int IntKind.u64 (0 : Int), IV.int IntKind.u64 (t11 / (18446744073709551616 : Int)), IV.int IntKind.u64 (t11 % (18446744073709551616 : Int))], tw t1, IV.bool false] [] ∧ preUU [IV.int IntKind.u64 (a / (18446744073709551616 : Int)), IV.int IntKind.u64 (b % (18446744073709551616 : Int))] [] ∧ prePlus [fo t7, tw t3, IV.bool true] [] ∧ preUU [IV.int IntKind.u64 (a % (18446744073709551616 : Int)), IV.int IntKind.u64 (b / (18446744073709551616 : Int))] [] ∧ prePlus [fo t9, tw t5, IV.bool true] [] ∧ K (fo t12) []) := by refine nm ?_; refine nj ?_; refine nm ?_; refine nj ?_; refine nm ?_; refine nj ?_; refine nm ?_; refine nj4 ?_; refine nm ?_; refine nj4 ?_; refine nm ?_; refine nm ?_; kernel_rfl
theorem v_r_Mag (x : Int) (K : IV → List Blk → Prop) : (comes Try.prog Nn' 3 f_perigeeref1_Mag [fx x] [] K) = (∀ (j1 : Int), j1 = x → br (decide (x / (18446744073709551616 : Int) < (0 : Int))) (may1 [fx x] [] ∧ K (IV.agg [IV.int IntKind.u64 (IntKind.u64.wrap (-j1 / (18446744073709551616 : Int))), IV.int IntKind.u64 (-j1 % (18446744073709551616 : Int))]) []) (K (IV.agg [IV.int IntKind.u64 (IntKind.u64.wrap (x / (18446744073709551616 : Int))), IV.int IntKind.u64 (x % (18446744073709551616 : Int))]) [])) := by refine nj ?_; kernel_rfl
theorem v_r_signed (b : Bool) (a : Int) (K : IV → List Blk → Prop) : (comes Try.prog Nn' 3 f_perigeeref1_signed [.bool b, fo a] [] K) = (∀ (t1 : Int), t1 = IntKind.i64.wrap (a / (18446744073709551616 : Int) % (18446744073709551616 : Int)) → ∀ (t2 : Int), t2 = -(t1 * (18446744073709551616 : Int) + a % (18446744073709551616 : Int)) → br (!(decide (a / (6277101735386680763835789423207666416102355444464034512896 : Int) = (0 : Int)) && (decide (a / (340282366920938463463374607431768211456 : Int) % (18446744073709551616 : Int) = (0 : Int)) && true))) (K (IV.agg [IV.int IntKind.i64 (0 : Int), IV.int IntKind.u64 (0 : Int), IV.int IntKind.i64 (3 : Int)]) []) (br (decide (a / (18446744073709551616 : Int) % (18446744073709551616 : Int) ≥ (9223372036854775808 : Int))) (K (IV.agg [IV.int IntKind.i64 (0 : Int), IV.int IntKind.u64 (0 : Int), IV.int IntKind.i64 (3 : Int)]) []) (br b (may1 [IV.agg [IV.int IntKind.i64 t1, IV.int IntKind.u64 (a % (18446744073709551616 : Int))]] [] ∧ K (IV.agg [IV.int IntKind.i64 (t2 / (18446744073709551616 : Int)), IV.int IntKind.u64 (t2 % (18446744073709551616 : Int)), IV.int IntKind.i64 (0 : Int)]) []) (K (IV.agg [IV.int IntKind.i64 t1, IV.int IntKind.u64 (a % (18446744073709551616 : Int)), IV.int IntKind.i64 (0 : Int)]) [])))) := by refine nm ?_; refine nm ?_; kernel_rfl
end Go.Vs.RF

set_option linter.unusedVariables false
set_option linter.unusedSimpArgs false
set_option maxRecDepth 100000
/- the document's answer: products, sizes; what is left -/
namespace Go.Vs.RF
open Go Go.Proofs Go.Vs Go.IntWalk

theorem ctrsn : ∀ {g : FuncId} {sp : Vs.Spec}, Γn g = some sp → Contract Try.prog g sp :=
  ext_ok c_r_CmpFour (ext_ok c_r_Shl (ext_ok c_r_Shr (ext_ok c_r_plus (ext_ok c_r_Neg (ext_ok c_r_Int (ext_ok c_r_bit ctrsm))))))
noncomputable def spMulTwo : Vs.Spec := ⟨p22, fun l _ => (fo (v2 l 0 * v2 l 1), [])⟩
theorem expand {a b c d : Int} : (a * 18446744073709551616 + b) * (c * 18446744073709551616 + d) = a * c * 340282366920938463463374607431768211456 + (a * d + b * c) * 18446744073709551616 + b * d := by
  have e1 : (a * 18446744073709551616 + b) * (c * 18446744073709551616 + d) = a * 18446744073709551616 * (c * 18446744073709551616) + a * 18446744073709551616 * d + (b * (c * 18446744073709551616) + b * d) := by rw [Int.add_mul, Int.mul_add, Int.mul_add]
  have e2 : a * 18446744073709551616 * (c * 18446744073709551616) = a * c * 340282366920938463463374607431768211456 := by rw [Int.mul_assoc, Int.mul_left_comm 18446744073709551616 c 18446744073709551616, ← Int.mul_assoc]; rfl
  have e3 : a * 18446744073709551616 * d = a * d * 18446744073709551616 := by rw [Int.mul_assoc, Int.mul_comm 18446744073709551616 d, ← Int.mul_assoc]
  have e4 : b * (c * 18446744073709551616) = b * c * 18446744073709551616 := by rw [Int.mul_assoc]
  rw [e1, e2, e3, e4]
  omega
theorem c_r_MulTwo : Contract Try.prog f_perigeeref1_MulTwo spMulTwo := by
  refine contract_of (N := Nn') 3 (knowOf (fun g sp h => ctrsn h) (fun _ _ => rfl) (fun _ => rfl) 3) ?_
  intro l bs _ _ hp
  obtain ⟨a, b, rfl, rfl, ha, hb⟩ := hp
  have hF : spMulTwo.F [tw a, tw b] [] = (fo (a * b), []) := by
    show (fo (v2 [tw a, tw b] 0 * v2 [tw a, tw b] 1), ([] : List Blk)) = _
    rw [v2_tw _ a 0 rfl, v2_tw _ b 1 rfl]
  rw [hF, v_r_MulTwo]
  rintro t1 e1 j2 rfl t3 e3 j4 rfl t5 e5 j6 rfl t7 e7 q8 rfl t9 e9 q10 rfl t11 e11 t12 e12
  have ea := jn a
  have eb := jn b
  obtain ⟨a1, a0⟩ := u2_of ha
  obtain ⟨b1, b0⟩ := u2_of hb
  have hE := expand (a := a / 18446744073709551616) (b := a % 18446744073709551616) (c := b / 18446744073709551616) (d := b % 18446744073709551616)
  rw [ea, eb] at hE
  have hb' := hb
  have hall := sq256 (t := 0) ⟨by decide, by decide⟩
  have hab := part_le (m := 340282366920938463463374607431768211455) (n := 340282366920938463463374607431768211455) ha.1 (by have := ha.2; omega) hb.1 (by have := hb.2; omega)
  have m1 := part_le (m := 18446744073709551615) (n := 18446744073709551615) a1.1 (by have := a1.2; omega) b1.1 (by have := b1.2; omega)
  have m2 := part_le (m := 18446744073709551615) (n := 18446744073709551615) a1.1 (by have := a1.2; omega) b0.1 (by have := b0.2; omega)
  have m3 := part_le (m := 18446744073709551615) (n := 18446744073709551615) a0.1 (by have := a0.2; omega) b1.1 (by have := b1.2; omega)
  have m4 := part_le (m := 18446744073709551615) (n := 18446744073709551615) a0.1 (by have := a0.2; omega) b0.1 (by have := b0.2; omega)
  rw [← e1] at m1 hE
  rw [← e3] at m2 hE
  rw [← e5] at m3 hE
  rw [← e11] at m4 hE e7
  rw [hE] at hab ⊢
  have i11 : in256 t11 := by unfold in256; omega
  have e0 : IV.agg [.int .u64 0, .int .u64 0, .int .u64 (t11 / 18446744073709551616), .int .u64 (t11 % 18446744073709551616)] = fo t11 := (fo_mk ⟨by decide, by decide⟩ ⟨by decide, by decide⟩ (by unfold u64ok; omega) (by unfold u64ok; omega) (by omega)).symm
  have h7 : q8 = t11 + j2 * 340282366920938463463374607431768211456 := by omega
  have h9 : q10 = q8 + j4 * 18446744073709551616 := by omega
  have h12 : t12 = q10 + j6 * 18446744073709551616 := by omega
  rw [e0]
  refine ⟨⟨rfl, rfl, a0, b0⟩, ⟨rfl, rfl, a1, b1⟩, ⟨_, _, _, rfl, rfl, i11, by unfold in128; omega⟩, ⟨rfl, rfl, a1, b0⟩, ⟨_, _, _, rfl, rfl, by unfold in256; omega, by unfold in128; omega⟩, ⟨rfl, rfl, a0, b1⟩, ⟨_, _, _, rfl, rfl, by unfold in256; omega, by unfold in128; omega⟩, pairE ?_⟩
  congr 1
  omega
noncomputable def spMag : Vs.Spec := ⟨may1, fun l _ => (tw (absI (v2 l 0)), [])⟩
theorem c_r_Mag : Contract Try.prog f_perigeeref1_Mag spMag := by
  refine contract_of (N := Nn') 3 (knowOf (fun g sp h => ctrsn h) (fun _ _ => rfl) (fun _ => rfl) 3) ?_
  intro l bs _ _ hp
  obtain ⟨x, rfl, rfl, hx⟩ := hp
  have hF : spMag.F [fx x] [] = (tw (absI x), []) := by
    show (tw (absI (v2 [fx x] 0)), ([] : List Blk)) = _
    rw [v2_fx _ x 0 rfl]
  rw [hF, v_r_Mag]
  rintro x rfl
  rw [br_dec]
  have hx' := hx
  unfold mayF at hx
  simp only [wu]
  refine ⟨fun h => ⟨may1_of hx', pairE (tw_mk (by unfold u64ok; omega) ?_)⟩, fun h => pairE (tw_mk (by unfold u64ok; omega) ?_)⟩
  · unfold absI; rw [if_pos (by omega)]; omega
  · unfold absI; rw [if_neg (by omega)]; omega
/-- a number and an error, of the document -/
def gotV (n e : Int) : IV := .agg [.int .i64 (n / 18446744073709551616), .int .u64 (n % 18446744073709551616), .int .i64 e]
theorem got_mk {n a b e : Int} (hb : u64ok b) (h : n = a * 18446744073709551616 + b) : gotV n e = .agg [.int .i64 a, .int .u64 b, .int .i64 e] := by
  unfold u64ok at hb; unfold gotV
  rw [show n / 18446744073709551616 = a by omega, show n % 18446744073709551616 = b by omega]
def preSigned (l : List IV) (bs : List Blk) : Prop := ∃ b a, l = [.bool b, fo a] ∧ bs = [] ∧ in256 a
noncomputable def spSigned : Vs.Spec := ⟨preSigned, fun l _ => (gotV (numF (sgnI (argB l 0 0) (v4 l 1))) (errF (sgnI (argB l 0 0) (v4 l 1))), [])⟩
theorem c_r_signed : Contract Try.prog f_perigeeref1_signed spSigned := by
  refine contract_of (N := Nn') 3 (knowOf (fun g sp h => ctrsn h) (fun _ _ => rfl) (fun _ => rfl) 3) ?_
  intro l bs _ _ hp
  obtain ⟨b, a, rfl, rfl, ha⟩ := hp
  have hF : spSigned.F [.bool b, fo a] [] = (gotV (numF (sgnI b a)) (errF (sgnI b a)), []) := by
    show (gotV (numF (sgnI b (v4 [.bool b, fo a] 1))) (errF (sgnI b (v4 [.bool b, fo a] 1))), ([] : List Blk)) = _
    rw [v4_fo _ a 1 rfl]
  rw [hF, v_r_signed]
  rintro t1 e1 t2 e2
  rw [and_true_dec]
  unfold in256 at ha
  have big : ¬ a < 170141183460469231731687303715884105728 → (gotV (numF (sgnI b a)) (errF (sgnI b a)), ([] : List Blk)) = (IV.agg [.int .i64 0, .int .u64 0, .int .i64 3], []) := by
    intro h
    have : ¬ mayF (sgnI b a) := by unfold mayF sgnI; split <;> omega
    rw [num_not this, err_not this]; rfl
  by_cases h0 : a / 6277101735386680763835789423207666416102355444464034512896 = 0 ∧ a / 340282366920938463463374607431768211456 % 18446744073709551616 = 0
  · rw [decide_eq_true h0]
    simp only [Bool.not_true, br_ff]
    rw [br_dec]
    refine ⟨fun h => big (by omega), fun h => ?_⟩
    have hlt : a < 170141183460469231731687303715884105728 := by omega
    have h1 : t1 = a / 18446744073709551616 := by rw [e1, i64_in _ (by omega)]; omega
    have ea : t1 * 18446744073709551616 + a % 18446744073709551616 = a := by omega
    rw [ea] at e2
    have hm : mayF (sgnI b a) := by unfold mayF sgnI; split <;> omega
    rw [num_may hm, err_may hm]
    have ok : u64ok (a % 18446744073709551616) := by unfold u64ok; omega
    cases b with
    | true =>
      refine ⟨⟨a, ?_, rfl, by unfold mayF; omega⟩, pairE ?_⟩
      · rw [fx_mk2 (n := a) (a := t1) ok (by omega)]
      · exact got_mk (by unfold u64ok; omega) (by show -a = _; omega)
    | false => exact pairE (got_mk ok (by show a = _; omega))
  · rw [decide_eq_false h0]
    exact big (by omega)
theorem hi_join {a : Int} : a / 6277101735386680763835789423207666416102355444464034512896 * 18446744073709551616 + a / 340282366920938463463374607431768211456 % 18446744073709551616 = a / 340282366920938463463374607431768211456 := by omega
theorem lo_join {a : Int} : a / 18446744073709551616 % 18446744073709551616 * 18446744073709551616 + a % 18446744073709551616 = a % 340282366920938463463374607431768211456 := by omega
theorem tw_hi (c : Int) : IV.agg [.int .u64 (c / 6277101735386680763835789423207666416102355444464034512896), .int .u64 (c / 340282366920938463463374607431768211456 % 18446744073709551616)] = tw (c / 340282366920938463463374607431768211456) := (tw_mk (by unfold u64ok; omega) hi_join.symm).symm
theorem tw_lo (c : Int) : IV.agg [.int .u64 (c / 18446744073709551616 % 18446744073709551616), .int .u64 (c % 18446744073709551616)] = tw (c % 340282366920938463463374607431768211456) := (tw_mk (by unfold u64ok; omega) lo_join.symm).symm
theorem fo_two {n h l : Int} (hh : in128 h) (hl : in128 l) (e : n = h * 340282366920938463463374607431768211456 + l) : fo n = .agg [.int .u64 (h / 18446744073709551616), .int .u64 (h % 18446744073709551616), .int .u64 (l / 18446744073709551616), .int .u64 (l % 18446744073709551616)] := by
  have h1 := u2_of hh
  have h2 := u2_of hl
  refine fo_mk h1.1 h1.2 h2.1 h2.2 ?_
  rw [e]; clear hh hl h1 h2 e; omega
theorem hi_128 {a : Int} (h : in256 a) : in128 (a / 340282366920938463463374607431768211456) := by unfold in256 at h; unfold in128; omega
theorem lo_128 (a : Int) : in128 (a % 340282366920938463463374607431768211456) := by unfold in128; omega
theorem split_256 (a : Int) : a = a / 340282366920938463463374607431768211456 * 340282366920938463463374607431768211456 + a % 340282366920938463463374607431768211456 := by omega
end Go.Vs.RF

set_option linter.unusedVariables false
/- the document's answer: loops -/
namespace Go.Vs.RF
open Go Go.Proofs Go.Vs
noncomputable def Γo : FuncId → Option Vs.Spec := fun g => if g = f_perigeeref1_MulTwo then some spMulTwo else if g = f_perigeeref1_Mag then some spMag else if g = f_perigeeref1_signed then some spSigned else Γn g
def foc (A : Int) : List IV := [.int .u64 (A / 6277101735386680763835789423207666416102355444464034512896), .int .u64 (A / 340282366920938463463374607431768211456 % 18446744073709551616), .int .u64 (A / 18446744073709551616 % 18446744073709551616), .int .u64 (A % 18446744073709551616)]
def SLen (A n : Int) : St := ⟨T 14 [(1, .ptr 0 0), (3, .int .i64 n)], [some (.var t_api_Four (foc A))]⟩
def wrow (X : Int) : Blk := .row t_uint64 [.u64] [[wd X 0], [wd X 1], [wd X 2], [wd X 3]]
def dvd (R : Int) (b : Bool) : Blk := .var t_perigeeref1_Divided [.int .u64 0, .int .u64 0, .int .u64 0, .int .u64 0, .int .u64 (R / 18446744073709551616), .int .u64 (R % 18446744073709551616), .bool b]
def SRDiv (A B X R n : Int) : St := ⟨T 71 [(2, .ptr 0 0), (3, .ptr 1 0), (4, .ptr 2 0), (5, .ptr 3 0), (6, .sl 4), (7, .int .i64 n)], [some (.var t_api_Four (foc A)), some (.var t_api_Two (twc B)), some (dvd 0 false), some (dvd R true), some (wrow X)]⟩
def ERDiv (X R : Int) : St := ⟨T 71 [(4, .ptr 0 0), (5, .ptr 1 0), (6, .sl 2)], [some (dvd 0 false), some (dvd R true), some (wrow X)]⟩
def SRoot (A s n : Int) : St := ⟨T 34 [(1, .ptr 0 0), (2, .ptr 1 0), (3, .ptr 2 0), (4, .int .i64 n)], [some (.var t_api_Four (foc A)), some (.var t_api_Two [.int .u64 0, .int .u64 0]), some (.var t_api_Two (twc s))]⟩
def ERoot (s : Int) : St := ⟨T 34 [(2, .ptr 0 0), (3, .ptr 1 0)], [some (.var t_api_Two [.int .u64 0, .int .u64 0]), some (.var t_api_Two (twc s))]⟩
theorem rRDiv (N : Know) (d : Nat) (A B X R n : Int) (k : Out → St → Prop) : (round (envOf Try.prog ⟨Γo, N.Λ, N.Τ⟩ d) f_perigeeref1_DivFour 0 0 (lp Try.prog f_perigeeref1_DivFour 0) (SRDiv A B X R n) k) = (∀ (j1 : Int), j1 = B → ∀ (q2 : Int), q2 = A → ∀ (t3 : Int), t3 = IntKind.u64.wrap (↑(BitVec.ofInt (64 : Nat) (IntKind.u64.wrap (R / (18446744073709551616 : Int) * (2 : Int))) ||| BitVec.ofInt (64 : Nat) ((R % (18446744073709551616 : Int)).fdiv (9223372036854775808 : Int))).toNat : Int) → ∀ (t4 : Int), t4 = IntKind.u64.wrap (↑(BitVec.ofInt (64 : Nat) (IntKind.u64.wrap (R % (18446744073709551616 : Int) * (2 : Int))) ||| BitVec.ofInt (64 : Nat) (q2 / (2 : Int) ^ n.toNat % (2 : Int))).toNat : Int) → ∀ (t5 : Int), t5 = t3 * (18446744073709551616 : Int) + t4 → ∀ (t6 : Int), t6 = (t5 - j1) % (340282366920938463463374607431768211456 : Int) → br (decide (n ≥ (0 : Int))) ((0 : Int) ≤ (63 : Int) ∧ (0 : Int) ≤ (1 : Int) ∧ (0 : Int) ≤ (63 : Int) ∧ (0 : Int) ≤ (1 : Int) ∧ preBit' [fo A, IV.int IntKind.i64 n] [] ∧ br ((R / (18446744073709551616 : Int)).fdiv (9223372036854775808 : Int) == (1 : Int)) (p22 [IV.agg [IV.int IntKind.u64 t3, IV.int IntKind.u64 t4], tw B] [] ∧ (64 : Int) ≠ (0 : Int) ∧ ((0 : Int) ≤ IntKind.i64.wrap (n.tdiv (64 : Int)) ∧ IntKind.i64.wrap (n.tdiv (64 : Int)) < (↑(4 : Nat) : Int)) ∧ ((0 : Int) ≤ IntKind.i64.wrap (n.tdiv (64 : Int)) ∧ IntKind.i64.wrap (n.tdiv (64 : Int)) < (↑(4 : Nat) : Int)) ∧ (64 : Int) ≠ (0 : Int) ∧ (0 : Int) ≤ n.tmod (64 : Int) ∧ ((0 : Int) ≤ IntKind.i64.wrap (n.tdiv (64 : Int)) ∧ IntKind.i64.wrap (n.tdiv (64 : Int)) < (↑(4 : Nat) : Int)) ∧ ((0 : Int) ≤ IntKind.i64.wrap (n.tdiv (64 : Int)) ∧ IntKind.i64.wrap (n.tdiv (64 : Int)) < (↑(4 : Nat) : Int)) ∧ k Out.normal (St.mk (T (71 : Nat) [((2 : Nat), IV.ptr (0 : Nat) (0 : Nat)), ((3 : Nat), IV.ptr (1 : Nat) (0 : Nat)), ((4 : Nat), IV.ptr (2 : Nat) (0 : Nat)), ((5 : Nat), IV.ptr (3 : Nat) (0 : Nat)), ((6 : Nat), IV.sl (4 : Nat)), ((7 : Nat), IV.int IntKind.i64 (IntKind.i64.wrap (n - (1 : Int))))]) [some (Blk.var t_api_Four [IV.int IntKind.u64 (A / (6277101735386680763835789423207666416102355444464034512896 : Int)), IV.int IntKind.u64 (A / (340282366920938463463374607431768211456 : Int) % (18446744073709551616 : Int)), IV.int IntKind.u64 (A / (18446744073709551616 : Int) % (18446744073709551616 : Int)), IV.int IntKind.u64 (A % (18446744073709551616 : Int))]), some (Blk.var t_api_Two [IV.int IntKind.u64 (B / (18446744073709551616 : Int)), IV.int IntKind.u64 (B % (18446744073709551616 : Int))]), some (Blk.var t_perigeeref1_Divided [IV.int IntKind.u64 (0 : Int), IV.int IntKind.u64 (0 : Int), IV.int IntKind.u64 (0 : Int), IV.int IntKind.u64 (0 : Int), IV.int IntKind.u64 (0 : Int), IV.int IntKind.u64 (0 : Int), IV.bool false]), some (Blk.var t_perigeeref1_Divided [IV.int IntKind.u64 (0 : Int), IV.int IntKind.u64 (0 : Int), IV.int IntKind.u64 (0 : Int), IV.int IntKind.u64 (0 : Int), IV.int IntKind.u64 (t6 / (18446744073709551616 : Int)), IV.int IntKind.u64 (t6 % (18446744073709551616 : Int)), IV.bool true]), some (Blk.row t_uint64 [IntKind.u64] ([[wd X (0 : Nat)], [wd X (1 : Nat)], [wd X (2 : Nat)], [wd X (3 : Nat)]].modify (IntKind.i64.wrap (n.tdiv (64 : Int))).toNat fun x => [IntKind.u64.wrap (↑(BitVec.ofInt (64 : Nat) (rd [[wd X (0 : Nat)], [wd X (1 : Nat)], [wd X (2 : Nat)], [wd X (3 : Nat)]] (IntKind.i64.wrap (n.tdiv (64 : Int))).toNat (0 : Nat)) ||| BitVec.ofInt (64 : Nat) (IntKind.u64.wrap ((1 : Int) * (2 : Int) ^ min (n.tmod (64 : Int)).toNat (64 : Nat)))).toNat : Int)]))])) (p22 [IV.agg [IV.int IntKind.u64 t3, IV.int IntKind.u64 t4], tw B] [] ∧ br (!decide (t5 < j1)) (p22 [IV.agg [IV.int IntKind.u64 t3, IV.int IntKind.u64 t4], tw B] [] ∧ (64 : Int) ≠ (0 : Int) ∧ ((0 : Int) ≤ IntKind.i64.wrap (n.tdiv (64 : Int)) ∧ IntKind.i64.wrap (n.tdiv (64 : Int)) < (↑(4 : Nat) : Int)) ∧ ((0 : Int) ≤ IntKind.i64.wrap (n.tdiv (64 : Int)) ∧ IntKind.i64.wrap (n.tdiv (64 : Int)) < (↑(4 : Nat) : Int)) ∧ (64 : Int) ≠ (0 : Int) ∧ (0 : Int) ≤ n.tmod (64 : Int) ∧ ((0 : Int) ≤ IntKind.i64.wrap (n.tdiv (64 : Int)) ∧ IntKind.i64.wrap (n.tdiv (64 : Int)) < (↑(4 : Nat) : Int)) ∧ ((0 : Int) ≤ IntKind.i64.wrap (n.tdiv (64 : Int)) ∧ IntKind.i64.wrap (n.tdiv (64 : Int)) < (↑(4 : Nat) : Int)) ∧ k Out.normal (St.mk (T (71 : Nat) [((2 : Nat), IV.ptr (0 : Nat) (0 : Nat)), ((3 : Nat), IV.ptr (1 : Nat) (0 : Nat)), ((4 : Nat), IV.ptr (2 : Nat) (0 : Nat)), ((5 : Nat), IV.ptr (3 : Nat) (0 : Nat)), ((6 : Nat), IV.sl (4 : Nat)), ((7 : Nat), IV.int IntKind.i64 (IntKind.i64.wrap (n - (1 : Int))))]) [some (Blk.var t_api_Four [IV.int IntKind.u64 (A / (6277101735386680763835789423207666416102355444464034512896 : Int)), IV.int IntKind.u64 (A / (340282366920938463463374607431768211456 : Int) % (18446744073709551616 : Int)), IV.int IntKind.u64 (A / (18446744073709551616 : Int) % (18446744073709551616 : Int)), IV.int IntKind.u64 (A % (18446744073709551616 : Int))]), some (Blk.var t_api_Two [IV.int IntKind.u64 (B / (18446744073709551616 : Int)), IV.int IntKind.u64 (B % (18446744073709551616 : Int))]), some (Blk.var t_perigeeref1_Divided [IV.int IntKind.u64 (0 : Int), IV.int IntKind.u64 (0 : Int), IV.int IntKind.u64 (0 : Int), IV.int IntKind.u64 (0 : Int), IV.int IntKind.u64 (0 : Int), IV.int IntKind.u64 (0 : Int), IV.bool false]), some (Blk.var t_perigeeref1_Divided [IV.int IntKind.u64 (0 : Int), IV.int IntKind.u64 (0 : Int), IV.int IntKind.u64 (0 : Int), IV.int IntKind.u64 (0 : Int), IV.int IntKind.u64 (t6 / (18446744073709551616 : Int)), IV.int IntKind.u64 (t6 % (18446744073709551616 : Int)), IV.bool true]), some (Blk.row t_uint64 [IntKind.u64] ([[wd X (0 : Nat)], [wd X (1 : Nat)], [wd X (2 : Nat)], [wd X (3 : Nat)]].modify (IntKind.i64.wrap (n.tdiv (64 : Int))).toNat fun x => [IntKind.u64.wrap (↑(BitVec.ofInt (64 : Nat) (rd [[wd X (0 : Nat)], [wd X (1 : Nat)], [wd X (2 : Nat)], [wd X (3 : Nat)]] (IntKind.i64.wrap (n.tdiv (64 : Int))).toNat (0 : Nat)) ||| BitVec.ofInt (64 : Nat) (IntKind.u64.wrap ((1 : Int) * (2 : Int) ^ min (n.tmod (64 : Int)).toNat (64 : Nat)))).toNat : Int)]))])) (k Out.normal (St.mk (T (71 : Nat) [((2 : Nat), IV.ptr (0 : Nat) (0 : Nat)), ((3 : Nat), IV.ptr (1 : Nat) (0 : Nat)), ((4 : Nat), IV.ptr (2 : Nat) (0 : Nat)), ((5 : Nat), IV.ptr (3 : Nat) (0 : Nat)), ((6 : Nat), IV.sl (4 : Nat)), ((7 : Nat), IV.int IntKind.i64 (IntKind.i64.wrap (n - (1 : Int))))]) [some (Blk.var t_api_Four [IV.int IntKind.u64 (A / (6277101735386680763835789423207666416102355444464034512896 : Int)), IV.int IntKind.u64 (A / (340282366920938463463374607431768211456 : Int) % (18446744073709551616 : Int)), IV.int IntKind.u64 (A / (18446744073709551616 : Int) % (18446744073709551616 : Int)), IV.int IntKind.u64 (A % (18446744073709551616 : Int))]), some (Blk.var t_api_Two [IV.int IntKind.u64 (B / (18446744073709551616 : Int)), IV.int IntKind.u64 (B % (18446744073709551616 : Int))]), some (Blk.var t_perigeeref1_Divided [IV.int IntKind.u64 (0 : Int), IV.int IntKind.u64 (0 : Int), IV.int IntKind.u64 (0 : Int), IV.int IntKind.u64 (0 : Int), IV.int IntKind.u64 (0 : Int), IV.int IntKind.u64 (0 : Int), IV.bool false]), some (Blk.var t_perigeeref1_Divided [IV.int IntKind.u64 (0 : Int), IV.int IntKind.u64 (0 : Int), IV.int IntKind.u64 (0 : Int), IV.int IntKind.u64 (0 : Int), IV.int IntKind.u64 t3, IV.int IntKind.u64 t4, IV.bool true]), some (Blk.row t_uint64 [IntKind.u64] [[wd X (0 : Nat)], [wd X (1 : Nat)], [wd X (2 : Nat)], [wd X (3 : Nat)]])])))) (k (Out.exit (0 : Nat)) (St.mk (T (71 : Nat) [((4 : Nat), IV.ptr (0 : Nat) (0 : Nat)), ((5 : Nat), IV.ptr (1 : Nat) (0 : Nat)), ((6 : Nat), IV.sl (2 : Nat))]) [some (Blk.var t_perigeeref1_Divided [IV.int IntKind.u64 (0 : Int), IV.int IntKind.u64 (0 : Int), IV.int IntKind.u64 (0 : Int), IV.int IntKind.u64 (0 : Int), IV.int IntKind.u64 (0 : Int), IV.int IntKind.u64 (0 : Int), IV.bool false]), some (Blk.var t_perigeeref1_Divided [IV.int IntKind.u64 (0 : Int), IV.int IntKind.u64 (0 : Int), IV.int IntKind.u64 (0 : Int), IV.int IntKind.u64 (0 : Int), IV.int IntKind.u64 (R / (18446744073709551616 : Int)), IV.int IntKind.u64 (R % (18446744073709551616 : Int)), IV.bool true]), some (Blk.row t_uint64 [IntKind.u64] [[wd X (0 : Nat)], [wd X (1 : Nat)], [wd X (2 : Nat)], [wd X (3 : Nat)]])]))) := by refine nj ?_; refine nj4 ?_; refine nm ?_; refine nm ?_; refine nm ?_; refine nm ?_; kernel_rfl
theorem rRoot (N : Know) (d : Nat) (A s n : Int) (k : Out → St → Prop) : (round (envOf Try.prog ⟨Γo, N.Λ, N.Τ⟩ d) f_perigeeref1_Root 0 0 (lp Try.prog f_perigeeref1_Root 0) (SRoot A s n) k) = (∀ (q1 : Int), q1 = A → ∀ (t2 : Int), t2 = (s / (18446744073709551616 : Int) * (18446744073709551616 : Int) + IntKind.u64.wrap (↑(BitVec.ofInt (64 : Nat) (s % (18446744073709551616 : Int)) ||| BitVec.ofInt (64 : Nat) (IntKind.u64.wrap ((1 : Int) * (2 : Int) ^ min n.toNat (64 : Nat)))).toNat : Int)) * (s / (18446744073709551616 : Int) * (18446744073709551616 : Int) + IntKind.u64.wrap (↑(BitVec.ofInt (64 : Nat) (s % (18446744073709551616 : Int)) ||| BitVec.ofInt (64 : Nat) (IntKind.u64.wrap ((1 : Int) * (2 : Int) ^ min n.toNat (64 : Nat)))).toNat : Int)) → ∀ (q3 : Int), q3 = t2 → ∀ (t4 : Int), t4 = (IntKind.u64.wrap (↑(BitVec.ofInt (64 : Nat) (s / (18446744073709551616 : Int)) ||| BitVec.ofInt (64 : Nat) (IntKind.u64.wrap ((1 : Int) * (2 : Int) ^ min (IntKind.i64.wrap (n - (64 : Int))).toNat (64 : Nat)))).toNat : Int) * (18446744073709551616 : Int) + s % (18446744073709551616 : Int)) * (IntKind.u64.wrap (↑(BitVec.ofInt (64 : Nat) (s / (18446744073709551616 : Int)) ||| BitVec.ofInt (64 : Nat) (IntKind.u64.wrap ((1 : Int) * (2 : Int) ^ min (IntKind.i64.wrap (n - (64 : Int))).toNat (64 : Nat)))).toNat : Int) * (18446744073709551616 : Int) + s % (18446744073709551616 : Int)) → ∀ (q5 : Int), q5 = t4 → ∀ (t6 : Int), t6 = cmpI q5 q1 → ∀ (t7 : Int), t7 = cmpI q3 q1 → br (decide (n ≥ (0 : Int))) (br (decide (n ≥ (64 : Int))) ((0 : Int) ≤ IntKind.i64.wrap (n - (64 : Int)) ∧ p22 [IV.agg [IV.int IntKind.u64 (IntKind.u64.wrap (↑(BitVec.ofInt (64 : Nat) (s / (18446744073709551616 : Int)) ||| BitVec.ofInt (64 : Nat) (IntKind.u64.wrap ((1 : Int) * (2 : Int) ^ min (IntKind.i64.wrap (n - (64 : Int))).toNat (64 : Nat)))).toNat : Int)), IV.int IntKind.u64 (s % (18446744073709551616 : Int))], IV.agg [IV.int IntKind.u64 (IntKind.u64.wrap (↑(BitVec.ofInt (64 : Nat) (s / (18446744073709551616 : Int)) ||| BitVec.ofInt (64 : Nat) (IntKind.u64.wrap ((1 : Int) * (2 : Int) ^ min (IntKind.i64.wrap (n - (64 : Int))).toNat (64 : Nat)))).toNat : Int)), IV.int IntKind.u64 (s % (18446744073709551616 : Int))]] [] ∧ p44 [fo t4, fo A] [] ∧ br (decide (t6 ≤ (0 : Int))) (k Out.normal (St.mk (T (34 : Nat) [((1 : Nat), IV.ptr (0 : Nat) (0 : Nat)), ((2 : Nat), IV.ptr (1 : Nat) (0 : Nat)), ((3 : Nat), IV.ptr (2 : Nat) (0 : Nat)), ((4 : Nat), IV.int IntKind.i64 (IntKind.i64.wrap (n - (1 : Int))))]) [some (Blk.var t_api_Four [IV.int IntKind.u64 (A / (6277101735386680763835789423207666416102355444464034512896 : Int)), IV.int IntKind.u64 (A / (340282366920938463463374607431768211456 : Int) % (18446744073709551616 : Int)), IV.int IntKind.u64 (A / (18446744073709551616 : Int) % (18446744073709551616 : Int)), IV.int IntKind.u64 (A % (18446744073709551616 : Int))]), some (Blk.var t_api_Two [IV.int IntKind.u64 (0 : Int), IV.int IntKind.u64 (0 : Int)]), some (Blk.var t_api_Two [IV.int IntKind.u64 (IntKind.u64.wrap (↑(BitVec.ofInt (64 : Nat) (s / (18446744073709551616 : Int)) ||| BitVec.ofInt (64 : Nat) (IntKind.u64.wrap ((1 : Int) * (2 : Int) ^ min (IntKind.i64.wrap (n - (64 : Int))).toNat (64 : Nat)))).toNat : Int)), IV.int IntKind.u64 (s % (18446744073709551616 : Int))])])) (k Out.normal (St.mk (T (34 : Nat) [((1 : Nat), IV.ptr (0 : Nat) (0 : Nat)), ((2 : Nat), IV.ptr (1 : Nat) (0 : Nat)), ((3 : Nat), IV.ptr (2 : Nat) (0 : Nat)), ((4 : Nat), IV.int IntKind.i64 (IntKind.i64.wrap (n - (1 : Int))))]) [some (Blk.var t_api_Four [IV.int IntKind.u64 (A / (6277101735386680763835789423207666416102355444464034512896 : Int)), IV.int IntKind.u64 (A / (340282366920938463463374607431768211456 : Int) % (18446744073709551616 : Int)), IV.int IntKind.u64 (A / (18446744073709551616 : Int) % (18446744073709551616 : Int)), IV.int IntKind.u64 (A % (18446744073709551616 : Int))]), some (Blk.var t_api_Two [IV.int IntKind.u64 (0 : Int), IV.int IntKind.u64 (0 : Int)]), some (Blk.var t_api_Two [IV.int IntKind.u64 (s / (18446744073709551616 : Int)), IV.int IntKind.u64 (s % (18446744073709551616 : Int))])]))) ((0 : Int) ≤ n ∧ p22 [IV.agg [IV.int IntKind.u64 (s / (18446744073709551616 : Int)), IV.int IntKind.u64 (IntKind.u64.wrap (↑(BitVec.ofInt (64 : Nat) (s % (18446744073709551616 : Int)) ||| BitVec.ofInt (64 : Nat) (IntKind.u64.wrap ((1 : Int) * (2 : Int) ^ min n.toNat (64 : Nat)))).toNat : Int))], IV.agg [IV.int IntKind.u64 (s / (18446744073709551616 : Int)), IV.int IntKind.u64 (IntKind.u64.wrap (↑(BitVec.ofInt (64 : Nat) (s % (18446744073709551616 : Int)) ||| BitVec.ofInt (64 : Nat) (IntKind.u64.wrap ((1 : Int) * (2 : Int) ^ min n.toNat (64 : Nat)))).toNat : Int))]] [] ∧ p44 [fo t2, fo A] [] ∧ br (decide (t7 ≤ (0 : Int))) (k Out.normal (St.mk (T (34 : Nat) [((1 : Nat), IV.ptr (0 : Nat) (0 : Nat)), ((2 : Nat), IV.ptr (1 : Nat) (0 : Nat)), ((3 : Nat), IV.ptr (2 : Nat) (0 : Nat)), ((4 : Nat), IV.int IntKind.i64 (IntKind.i64.wrap (n - (1 : Int))))]) [some (Blk.var t_api_Four [IV.int IntKind.u64 (A / (6277101735386680763835789423207666416102355444464034512896 : Int)), IV.int IntKind.u64 (A / (340282366920938463463374607431768211456 : Int) % (18446744073709551616 : Int)), IV.int IntKind.u64 (A / (18446744073709551616 : Int) % (18446744073709551616 : Int)), IV.int IntKind.u64 (A % (18446744073709551616 : Int))]), some (Blk.var t_api_Two [IV.int IntKind.u64 (0 : Int), IV.int IntKind.u64 (0 : Int)]), some (Blk.var t_api_Two [IV.int IntKind.u64 (s / (18446744073709551616 : Int)), IV.int IntKind.u64 (IntKind.u64.wrap (↑(BitVec.ofInt (64 : Nat) (s % (18446744073709551616 : Int)) ||| BitVec.ofInt (64 : Nat) (IntKind.u64.wrap ((1 : Int) * (2 : Int) ^ min n.toNat (64 : Nat)))).toNat : Int))])])) (k Out.normal (St.mk (T (34 : Nat) [((1 : Nat), IV.ptr (0 : Nat) (0 : Nat)), ((2 : Nat), IV.ptr (1 : Nat) (0 : Nat)), ((3 : Nat), IV.ptr (2 : Nat) (0 : Nat)), ((4 : Nat), IV.int IntKind.i64 (IntKind.i64.wrap (n - (1 : Int))))]) [some (Blk.var t_api_Four [IV.int IntKind.u64 (A / (6277101735386680763835789423207666416102355444464034512896 : Int)), IV.int IntKind.u64 (A / (340282366920938463463374607431768211456 : Int) % (18446744073709551616 : Int)), IV.int IntKind.u64 (A / (18446744073709551616 : Int) % (18446744073709551616 : Int)), IV.int IntKind.u64 (A % (18446744073709551616 : Int))]), some (Blk.var t_api_Two [IV.int IntKind.u64 (0 : Int), IV.int IntKind.u64 (0 : Int)]), some (Blk.var t_api_Two [IV.int IntKind.u64 (s / (18446744073709551616 : Int)), IV.int IntKind.u64 (s % (18446744073709551616 : Int))])])))) (k (Out.exit (0 : Nat)) (St.mk (T (34 : Nat) [((2 : Nat), IV.ptr (0 : Nat) (0 : Nat)), ((3 : Nat), IV.ptr (1 : Nat) (0 : Nat))]) [some (Blk.var t_api_Two [IV.int IntKind.u64 (0 : Int), IV.int IntKind.u64 (0 : Int)]), some (Blk.var t_api_Two [IV.int IntKind.u64 (s / (18446744073709551616 : Int)), IV.int IntKind.u64 (s % (18446744073709551616 : Int))])]))) := by refine nj4 ?_; refine nm ?_; refine nj4 ?_; refine nm ?_; refine nj4 ?_; refine nm ?_; refine nm ?_; kernel_rfl
def pLen (n0 : Nat) (st : St) (A : Int) : Prop := n0 = 0 ∧ st = SLen A 255 ∧ in256 A
def LLen : LoopS := fun n0 st K => ∃ A, pLen n0 st A ∧ (0 < A → K .ret ⟨T 14 [(2, .int .i64 (blen A))], []⟩) ∧ (A ≤ 0 → K (.exit 0) ⟨T 14 [], []⟩)
def pRDiv (n0 : Nat) (st : St) (A B : Int) : Prop := n0 = 0 ∧ st = SRDiv A B 0 0 255 ∧ in256 A ∧ 0 < B ∧ in128 B
def LRDiv : LoopS := fun n0 st K => ∃ A B, pRDiv n0 st A B ∧ K (.exit 0) (ERDiv (A / B) (A % B))
def pRoot (n0 : Nat) (st : St) (A : Int) : Prop := n0 = 0 ∧ st = SRoot A 0 127 ∧ in256 A
noncomputable def LRoot : LoopS := fun n0 st K => ∃ A, pRoot n0 st A ∧ K (.exit 0) (ERoot (sqrtI A))
noncomputable def No2 : Know := ⟨Γo, fun f i => if f = f_perigeeref1_DivFour then (if i = 0 then some LRDiv else none) else none, fun _ => none⟩
noncomputable def No3 : Know := ⟨Γo, fun f i => if f = f_perigeeref1_Root then (if i = 0 then some LRoot else none) else none, fun _ => none⟩
theorem v_r_DivFour (A B : Int) (K : IV → List Blk → Prop) : (comes Try.prog No2 3 f_perigeeref1_DivFour [fo A, tw B] [] K) = (∀ (c1 : Bool), c1 = decide (B = (0 : Int)) → br c1 (K (IV.agg [IV.int IntKind.u64 (0 : Int), IV.int IntKind.u64 (0 : Int), IV.int IntKind.u64 (0 : Int), IV.int IntKind.u64 (0 : Int), IV.int IntKind.u64 (0 : Int), IV.int IntKind.u64 (0 : Int), IV.bool false]) []) (((0 : Int) ≤ (4 : Int) ∧ (32 : Int) ≤ (140737488355328 : Int)) ∧ ∃ A_1 B_1, pRDiv (0 : Nat) (St.mk (T (71 : Nat) [((2 : Nat), IV.ptr (0 : Nat) (0 : Nat)), ((3 : Nat), IV.ptr (1 : Nat) (0 : Nat)), ((4 : Nat), IV.ptr (2 : Nat) (0 : Nat)), ((5 : Nat), IV.ptr (3 : Nat) (0 : Nat)), ((6 : Nat), IV.sl (4 : Nat)), ((7 : Nat), IV.int IntKind.i64 (255 : Int))]) [some (Blk.var t_api_Four [IV.int IntKind.u64 (A / (6277101735386680763835789423207666416102355444464034512896 : Int)), IV.int IntKind.u64 (A / (340282366920938463463374607431768211456 : Int) % (18446744073709551616 : Int)), IV.int IntKind.u64 (A / (18446744073709551616 : Int) % (18446744073709551616 : Int)), IV.int IntKind.u64 (A % (18446744073709551616 : Int))]), some (Blk.var t_api_Two [IV.int IntKind.u64 (B / (18446744073709551616 : Int)), IV.int IntKind.u64 (B % (18446744073709551616 : Int))]), some (Blk.var t_perigeeref1_Divided [IV.int IntKind.u64 (0 : Int), IV.int IntKind.u64 (0 : Int), IV.int IntKind.u64 (0 : Int), IV.int IntKind.u64 (0 : Int), IV.int IntKind.u64 (0 : Int), IV.int IntKind.u64 (0 : Int), IV.bool false]), some (Blk.var t_perigeeref1_Divided [IV.int IntKind.u64 (0 : Int), IV.int IntKind.u64 (0 : Int), IV.int IntKind.u64 (0 : Int), IV.int IntKind.u64 (0 : Int), IV.int IntKind.u64 (0 : Int), IV.int IntKind.u64 (0 : Int), IV.bool true]), some (Blk.row t_uint64 [IntKind.u64] [[(0 : Int)], [(0 : Int)], [(0 : Int)], [(0 : Int)]])]) A_1 B_1 ∧ ((0 : Int) ≤ (3 : Int) ∧ (3 : Int) < (↑(4 : Nat) : Int)) ∧ ((0 : Int) ≤ (3 : Int) ∧ (3 : Int) < (↑(4 : Nat) : Int)) ∧ ((0 : Int) ≤ (2 : Int) ∧ (2 : Int) < (↑(4 : Nat) : Int)) ∧ ((0 : Int) ≤ (2 : Int) ∧ (2 : Int) < (↑(4 : Nat) : Int)) ∧ ((0 : Int) ≤ (1 : Int) ∧ (1 : Int) < (↑(4 : Nat) : Int)) ∧ ((0 : Int) ≤ (1 : Int) ∧ (1 : Int) < (↑(4 : Nat) : Int)) ∧ ((0 : Int) ≤ (0 : Int) ∧ (0 : Int) < (↑(4 : Nat) : Int)) ∧ ((0 : Int) ≤ (0 : Int) ∧ (0 : Int) < (↑(4 : Nat) : Int)) ∧ K (IV.agg [IV.int IntKind.u64 (wd (A_1 / B_1) (3 : Nat)), IV.int IntKind.u64 (wd (A_1 / B_1) (2 : Nat)), IV.int IntKind.u64 (wd (A_1 / B_1) (1 : Nat)), IV.int IntKind.u64 (wd (A_1 / B_1) (0 : Nat)), IV.int IntKind.u64 (A_1 % B_1 / (18446744073709551616 : Int)), IV.int IntKind.u64 (A_1 % B_1 % (18446744073709551616 : Int)), IV.bool true]) [])) := by refine nbc (c := 0) (d := 0) (by decide) ?_; kernel_rfl
theorem v_r_Root (A : Int) (K : IV → List Blk → Prop) : (comes Try.prog No3 3 f_perigeeref1_Root [fo A] [] K) = (∃ A_1, pRoot (0 : Nat) (St.mk (T (34 : Nat) [((1 : Nat), IV.ptr (0 : Nat) (0 : Nat)), ((2 : Nat), IV.ptr (1 : Nat) (0 : Nat)), ((3 : Nat), IV.ptr (2 : Nat) (0 : Nat)), ((4 : Nat), IV.int IntKind.i64 (127 : Int))]) [some (Blk.var t_api_Four [IV.int IntKind.u64 (A / (6277101735386680763835789423207666416102355444464034512896 : Int)), IV.int IntKind.u64 (A / (340282366920938463463374607431768211456 : Int) % (18446744073709551616 : Int)), IV.int IntKind.u64 (A / (18446744073709551616 : Int) % (18446744073709551616 : Int)), IV.int IntKind.u64 (A % (18446744073709551616 : Int))]), some (Blk.var t_api_Two [IV.int IntKind.u64 (0 : Int), IV.int IntKind.u64 (0 : Int)]), some (Blk.var t_api_Two [IV.int IntKind.u64 (0 : Int), IV.int IntKind.u64 (0 : Int)])]) A_1 ∧ K (tw (sqrtI A_1)) []) := by kernel_rfl
end Go.Vs.RF

set_option linter.unusedVariables false
set_option linter.unusedSimpArgs false
set_option maxRecDepth 100000
/- the document's answer: length, quotient, root -/
namespace Go.Vs.RF
open Go Go.Proofs Go.Vs Go.IntWalk

theorem ctrso : ∀ {g : FuncId} {sp : Vs.Spec}, Γo g = some sp → Contract Try.prog g sp :=
  ext_ok c_r_MulTwo (ext_ok c_r_Mag (ext_ok c_r_signed ctrsn))

/-! length -/
theorem top_bit {A : Int} {n : Nat} (h0 : 0 ≤ A) (h : A < 2 ^ (n + 1)) : (A / 2 ^ n % 2 = 1 → blen A = n + 1) ∧ (¬ A / 2 ^ n % 2 = 1 → A < 2 ^ n) := by
  have hp : (0 : Int) < 2 ^ n := Int.pow_pos (by decide)
  have h1 : A / 2 ^ n < 2 := by
    rw [Int.ediv_lt_iff_lt_mul hp, Int.mul_comm, ← Int.pow_succ]; exact h
  have h2 : 0 ≤ A / 2 ^ n := Int.ediv_nonneg h0 (by omega)
  constructor
  · intro h3
    refine blen_eq ?_ h
    have : 1 ≤ A / 2 ^ n := by omega
    have := (Int.le_ediv_iff_mul_le hp).1 this
    omega
  · intro h3
    have : A / 2 ^ n < 1 := by omega
    have := (Int.ediv_lt_iff_lt_mul hp).1 this
    omega
noncomputable def spRLen : Vs.Spec := ⟨pre1, fun l _ => (.int .i64 (blen (v4 l 0)), [])⟩
theorem SRDiv_congr {A B X X' R R' n n' : Int} (h1 : ∀ j, j < 4 → wd X j = wd X' j) (h2 : R = R') (h3 : n = n') : SRDiv A B X R n = SRDiv A B X' R' n' := by
  subst h2; subst h3
  unfold SRDiv wrow
  rw [h1 0 (by decide), h1 1 (by decide), h1 2 (by decide), h1 3 (by decide)]
theorem modify_wd (X : Int) {q : Nat} (hq : q < 4) (w : Int) : ([[wd X 0], [wd X 1], [wd X 2], [wd X 3]] : List (List Int)).modify q (fun _ => [w]) =
    [[if q = 0 then w else wd X 0], [if q = 1 then w else wd X 1], [if q = 2 then w else wd X 2], [if q = 3 then w else wd X 3]] := by
  match q, hq with
  | 0, _ => rfl
  | 1, _ => rfl
  | 2, _ => rfl
  | 3, _ => rfl
theorem rd_wds (X : Int) {q : Nat} (h : q < 4) : rd [[wd X 0], [wd X 1], [wd X 2], [wd X 3]] q 0 = wd X q := by
  match q, h with
  | 0, _ => rfl
  | 1, _ => rfl
  | 2, _ => rfl
  | 3, _ => rfl
set_option maxHeartbeats 1000000 in
theorem lRDiv {N : Know} (d n0 : Nat) : LoopOk (envOf Try.prog ⟨Γo, N.Λ, N.Τ⟩ d) f_perigeeref1_DivFour n0 0 (lp Try.prog f_perigeeref1_DivFour 0) LRDiv := by
  intro st K hst
  obtain ⟨A, B, ⟨rfl, rfl, hA, hB, hB2⟩, hK⟩ := hst
  have hA0 := hA.1
  have h := loop_of (E := envOf Try.prog ⟨Γo, N.Λ, N.Τ⟩ d) (f := f_perigeeref1_DivFour) (n0 := 0) (i := 0) (p := lp Try.prog f_perigeeref1_DivFour 0) (K := K) (fun n : Int => SRDiv A B (A / 2 ^ (n + 1).toNat / B * 2 ^ (n + 1).toNat) (A / 2 ^ (n + 1).toNat % B) n) (IDiv A B) (fun n => (n + 1).toNat) ?_ (a := 255) ⟨by decide, by decide⟩
  · have e : A / 2 ^ ((255 : Int) + 1).toNat = 0 := Int.ediv_eq_zero_of_lt hA.1 hA.2
    simp only [e, Int.zero_ediv, Int.zero_mul, Int.zero_emod] at h
    exact h
  · intro n ⟨h1, h2⟩ k hn hk
    show round _ _ _ _ _ (SRDiv A B _ _ n) k
    rw [rRDiv]
    generalize hX : A / 2 ^ (n + 1).toNat / B * 2 ^ (n + 1).toNat = X
    generalize hR : A / 2 ^ (n + 1).toNat % B = R
    rintro B rfl A rfl t3 e3 t5 e5 t6 e6 t7 e7
    rw [br_dec]
    have hR0 : 0 ≤ R := by rw [← hR]; exact Int.emod_nonneg _ (by omega)
    have hRB : R < B := by rw [← hR]; exact Int.emod_lt_of_pos _ hB
    have hB3 := hB2
    unfold in128 at hB2
    have hR1 : in128 R := ⟨hR0, by omega⟩
    constructor
    · intro hn0
      obtain ⟨m, rfl⟩ := Int.eq_ofNat_of_zero_le hn0
      rw [Int.toNat_natCast] at e5
      have hb0 : 0 ≤ A / 2 ^ m % 2 := by omega
      have hb1 : A / 2 ^ m % 2 < 2 := by omega
      have hm1 : ((m : Int) + 1).toNat = m + 1 := by omega
      rw [hm1] at hX hR
      have hD : 0 ≤ A / 2 ^ (m + 1) := Int.ediv_nonneg hA.1 (Int.le_of_lt (Int.pow_pos (by decide)))
      have hY : 0 ≤ A / 2 ^ (m + 1) / B := Int.ediv_nonneg hD (by omega)
      have st := sdiv_step (D := A / 2 ^ (m + 1)) (bit := A / 2 ^ m % 2) (p := 0) hB hb0 hb1 hD
      rw [← half_up, hR] at st
      rw [twice_lo hb0 hb1] at e5
      rw [twice_hi hR1] at e3
      rw [fd (show (0 : Int) ≤ 9223372036854775808 by decide)]
      generalize A / 2 ^ m % 2 = b at *
      unfold in128 at hR1
      have e6' : t6 = (2 * R + b) % 340282366920938463463374607431768211456 := by subst e6 e3 e5; omega
      have u3 : u64ok t3 := by unfold u64ok; subst e3; omega
      have u5 : u64ok t5 := by unfold u64ok; subst e5; omega
      clear e3 e5
      have e36 : t3 = t6 / 18446744073709551616 := by unfold u64ok at *; omega
      have e56 : t5 = t6 % 18446744073709551616 := by unfold u64ok at *; omega
      have i6 : in128 t6 := by rw [e6']; exact lo_128 _
      have etw : IV.agg [.int .u64 t3, .int .u64 t5] = tw t6 := by rw [e36, e56]; rfl
      have hq : IntKind.i64.wrap ((m : Int).tdiv 64) = ((m / 64 : Nat) : Int) := by rw [tdiv64 hn0 h2]; omega
      have hr : (m : Int).tmod 64 = ((m % 64 : Nat) : Int) := by rw [tmod64 hn0]; omega
      have hm : m / 64 < 4 := by omega
      have hw : IntKind.i64.wrap ((m : Int) - 1) = (m : Int) - 1 := i64_in _ (by omega)
      rw [hq, hr, hw, Int.toNat_natCast, Int.toNat_natCast, rd_wds X hm, modify_wd X hm, etw]
      have conds : ∀ {Q : Prop}, Q → ((64 : Int) ≠ 0 ∧ (0 ≤ ((m / 64 : Nat) : Int) ∧ ((m / 64 : Nat) : Int) < ((4 : Nat) : Int)) ∧ (0 ≤ ((m / 64 : Nat) : Int) ∧ ((m / 64 : Nat) : Int) < ((4 : Nat) : Int)) ∧ (64 : Int) ≠ 0 ∧ 0 ≤ ((m % 64 : Nat) : Int) ∧ (0 ≤ ((m / 64 : Nat) : Int) ∧ ((m / 64 : Nat) : Int) < ((4 : Nat) : Int)) ∧ (0 ≤ ((m / 64 : Nat) : Int) ∧ ((m / 64 : Nat) : Int) < ((4 : Nat) : Int)) ∧ Q) := fun h => ⟨by decide, by omega, by omega, by decide, by omega, by omega, by omega, h⟩
      have go : ∀ {X' R' : Int}, A / 2 ^ m / B * 2 ^ m = X' → A / 2 ^ m % B = R' → k Out.normal (SRDiv A B X' R' ((m : Int) - 1)) := by
        intro X' R' hX' hR'
        have := hn ((m : Int) - 1) ⟨by omega, by omega⟩ (by omega)
        rw [Int.sub_add_cancel, Int.toNat_natCast, hX', hR'] at this
        exact this
      have big : B ≤ 2 * R + b → t7 = 2 * R + b - B := by intro h; subst e7; rw [e6']; omega
      have words : ∀ j, j < 4 → wd (X + 2 ^ m) j = if m / 64 = j then IntKind.u64.wrap ((BitVec.ofInt 64 (wd X (m / 64)) ||| BitVec.ofInt 64 (IntKind.u64.wrap (1 * 2 ^ min (m % 64) 64))).toNat : Int) else wd X j := by
        intro j hj
        rw [← hX, wd_bit hY, hX]
        by_cases h : m / 64 = j
        · rw [if_pos h, if_pos h, h]
        · rw [if_neg h, if_neg h]
      have upd : B ≤ 2 * R + b → A / 2 ^ m / B * 2 ^ m = X + 2 ^ m := by
        intro h
        rw [(st.1 h).1, ← hX, Int.pow_succ, Int.add_mul, Int.one_mul]
        congr 1
        rw [Int.mul_comm 2 _, Int.mul_assoc, Int.mul_comm 2 (2 ^ m)]
      have fin : B ≤ 2 * R + b → k Out.normal (SRDiv A B (X + 2 ^ m) t7 ((m : Int) - 1)) := fun h => go (upd h) (by rw [(st.1 h).2, big h])
      have shape : ∀ {Y : Int}, SRDiv A B Y t7 ((m : Int) - 1) = St.mk (T 71 [(2, .ptr 0 0), (3, .ptr 1 0), (4, .ptr 2 0), (5, .ptr 3 0), (6, .sl 4), (7, .int .i64 ((m : Int) - 1))]) [some (.var t_api_Four (foc A)), some (.var t_api_Two (twc B)), some (dvd 0 false), some (dvd t7 true), some (.row t_uint64 [.u64] [[wd Y 0], [wd Y 1], [wd Y 2], [wd Y 3]])] := rfl
      refine ⟨by decide, by decide, by decide, by decide, ⟨A, m, rfl, rfl, ⟨hn0, h2⟩, hA⟩, ?_⟩
      rw [br_beq]
      constructor
      · intro hbig
        have hle : B ≤ 2 * R + b := by omega
        have f := fin hle
        rw [shape, words 0 (by decide), words 1 (by decide), words 2 (by decide), words 3 (by decide)] at f
        exact ⟨p22_of i6 hB3, conds f⟩
      · intro hsmall
        have hlt : (2 * R + b) % 340282366920938463463374607431768211456 = 2 * R + b := by omega
        refine ⟨p22_of i6 hB3, ?_⟩
        by_cases hle : B ≤ 2 * R + b
        · have : decide (t6 < B) = false := by rw [decide_eq_false_iff_not]; omega
          rw [this]
          have f := fin hle
          rw [shape, words 0 (by decide), words 1 (by decide), words 2 (by decide), words 3 (by decide)] at f
          exact ⟨p22_of i6 hB3, conds f⟩
        · have : decide (t6 < B) = true := by rw [decide_eq_true_iff]; omega
          rw [this]
          have f : k Out.normal (SRDiv A B X t6 ((m : Int) - 1)) := go (by
            rw [(st.2 hle).1, ← hX, Int.pow_succ, Int.mul_comm 2 _, Int.mul_assoc, Int.mul_comm 2 (2 ^ m)]) (by rw [(st.2 hle).2]; omega)
          rw [e36, e56]
          exact f
    · intro hn0
      have : n = -1 := by omega
      subst this
      refine hk _ _ (by simp) ?_
      rw [show ((-1 : Int) + 1).toNat = 0 from rfl, Int.pow_zero, Int.ediv_one] at hX hR
      rw [← hX, ← hR, Int.mul_one]
      exact hK
def dvdV (A B : Int) : IV := .agg [.int .u64 (A / B / 6277101735386680763835789423207666416102355444464034512896), .int .u64 (A / B / 340282366920938463463374607431768211456 % 18446744073709551616), .int .u64 (A / B / 18446744073709551616 % 18446744073709551616), .int .u64 (A / B % 18446744073709551616),
  .int .u64 ((if B = 0 then 0 else A % B) / 18446744073709551616), .int .u64 ((if B = 0 then 0 else A % B) % 18446744073709551616), .bool (!decide (B = 0))]
noncomputable def spRDiv : Vs.Spec := ⟨preDiv, fun l _ => (dvdV (v4 l 0) (v2 l 1), [])⟩
theorem c_r_DivFour : Contract Try.prog f_perigeeref1_DivFour spRDiv := by
  refine contract_of (N := No2) 3 (know1 (f0 := f_perigeeref1_DivFour) (L := LRDiv) (fun g sp h => ctrso h) rfl (fun _ => rfl) (fun d n0 => lRDiv (N := No2) d n0) 3) ?_
  intro l bs _ _ hp
  obtain ⟨A, B, rfl, rfl, hA, hB⟩ := hp
  have hF : spRDiv.F [fo A, tw B] [] = (dvdV A B, []) := by
    show (dvdV (v4 [fo A, tw B] 0) (v2 [fo A, tw B] 1), ([] : List Blk)) = _
    rw [v4_fo _ A 0 rfl, v2_tw _ B 1 rfl]
  rw [hF, v_r_DivFour]
  rintro c1 rfl
  rw [br_dec]
  have hB' := hB
  unfold in128 at hB
  refine ⟨fun h => ?_, fun h => ⟨by decide, A, B, ⟨rfl, rfl, hA, by omega, hB'⟩, ?_⟩⟩
  · subst h
    unfold dvdV
    rw [if_pos rfl, Int.ediv_zero]; rfl
  · have hd : in256 (A / B) := ⟨Int.ediv_nonneg hA.1 hB.1, by have := Int.ediv_le_self B hA.1; have := hA.2; omega⟩
    repeat (refine ⟨by decide, ?_⟩)
    unfold dvdV
    rw [if_neg h, decide_eq_false h, wd0, wd1, wd2, wd3 hd]; rfl

/-! root -/
set_option maxHeartbeats 1000000 in
theorem lRoot {N : Know} (d n0 : Nat) : LoopOk (envOf Try.prog ⟨Γo, N.Λ, N.Τ⟩ d) f_perigeeref1_Root n0 0 (lp Try.prog f_perigeeref1_Root 0) LRoot := by
  intro st K hst
  obtain ⟨A, ⟨rfl, rfl, hA⟩, hK⟩ := hst
  have hA0 := hA.1
  have h := loop_of (E := envOf Try.prog ⟨Γo, N.Λ, N.Τ⟩ d) (f := f_perigeeref1_Root) (n0 := 0) (i := 0) (p := lp Try.prog f_perigeeref1_Root 0) (K := K) (fun a : Nat × Int => SRoot A (a.2 * 2 ^ a.1) ((a.1 : Int) - 1)) (ISq A) (fun a => a.1) ?_ (a := (128, 0)) ⟨by decide, Int.le_refl 0, ?_, ?_, ?_⟩
  · simp only [Int.zero_mul] at h
    exact h
  · rintro ⟨n, Y⟩ ⟨h1, h2, h3, h4, h5⟩ k hn hk
    simp only at h1 h2 h3 h4 h5
    show round _ _ _ _ _ (SRoot A (Y * 2 ^ n) ((n : Int) - 1)) k
    rw [rRoot]
    rintro A rfl t2 e2 q3 rfl t4 e4 q5 rfl t6 e6 t7 e7
    rw [br_dec]
    rcases n with _ | m
    · refine ⟨fun h => by exact absurd h (by decide), fun _ => hk _ _ (by simp) ?_⟩
      rw [Int.pow_zero, Int.mul_one] at h3 h4
      have : sqrtI A = Y := sqrtI_eq ⟨h2, h3, h4⟩
      rw [this] at hK
      rw [Int.pow_zero, Int.mul_one]
      exact hK
    · have hpos : (0 : Int) < 2 ^ m := Int.pow_pos (by decide)
      have hp2 : (2 : Int) ^ (m + 1) = 2 * 2 ^ m := by rw [Int.pow_succ, Int.mul_comm]
      have hYp : 0 ≤ Y * 2 ^ (m + 1) := Int.mul_nonneg h2 (by omega)
      have hs : in128 (Y * 2 ^ (m + 1)) := ⟨hYp, by omega⟩
      have ht : in128 (Y * 2 ^ (m + 1) + 2 ^ m) := ⟨by omega, by omega⟩
      have hmm : ((m + 1 : Nat) : Int) - 1 = (m : Int) := by omega
      rw [hmm] at e2 e4 ⊢
      have hw : IntKind.i64.wrap ((m : Int) - 1) = (m : Int) - 1 := i64_in _ (by omega)
      have e0 : 2 * Y * 2 ^ m = Y * 2 ^ (m + 1) := by rw [hp2, Int.mul_comm 2 Y, Int.mul_assoc]
      have e1 : (2 * Y + 1) * 2 ^ m = Y * 2 ^ (m + 1) + 2 ^ m := by rw [Int.add_mul, e0]; omega
      have up : (Y * 2 ^ (m + 1) + 2 ^ m) * (Y * 2 ^ (m + 1) + 2 ^ m) ≤ A → k Out.normal (SRoot A (Y * 2 ^ (m + 1) + 2 ^ m) ((m : Int) - 1)) := by
        intro h
        have := hn (m, 2 * Y + 1) ⟨by simp; omega, by simp; omega, by simp only; rw [e1]; exact h, by simp only; rw [e1, Int.add_assoc]; rw [show (2 : Int) ^ m + 2 ^ m = 2 ^ (m + 1) by omega]; exact h4, by simp only; rw [e1]; omega⟩ (by simp)
        simp only at this
        rw [e1] at this
        exact this
      have down : A < (Y * 2 ^ (m + 1) + 2 ^ m) * (Y * 2 ^ (m + 1) + 2 ^ m) → k Out.normal (SRoot A (Y * 2 ^ (m + 1)) ((m : Int) - 1)) := by
        intro h
        have := hn (m, 2 * Y) ⟨by simp; omega, by simp; omega, by simp only; rw [e0]; exact h3, by simp only; rw [e0]; exact h, by simp only; rw [e0]; omega⟩ (by simp)
        simp only at this
        rw [e0] at this
        exact this
      rw [hw]
      refine ⟨fun _ => ?_, fun h => by omega⟩
      rw [br_dec]
      constructor
      · intro hge
        have ew : IntKind.i64.wrap ((m : Int) - 64) = ((m - 64 : Nat) : Int) := by rw [i64_in _ (by omega)]; omega
        obtain ⟨w0, w1⟩ := bit_hi h2 (by omega) (by omega) ht hs
        rw [ew, Int.toNat_natCast, w0, w1, jn] at e4
        rw [ew, Int.toNat_natCast, w0, w1]
        subst e4
        refine ⟨by omega, p22_of ht ht, ⟨_, _, rfl, rfl, sq256 ht, hA⟩, ?_⟩
        rw [br_dec, e6, cmpI_le]
        exact ⟨fun h => up h, fun h => by rw [← w1]; exact down (by omega)⟩
      · intro hlt
        obtain ⟨w0, w1⟩ := bit_lo h2 (by omega) ht hs
        rw [show ((m : Int)).toNat = m from rfl, w0, w1, jn] at e2
        rw [show ((m : Int)).toNat = m from rfl, w0, w1]
        subst e2
        refine ⟨by omega, p22_of ht ht, ⟨_, _, rfl, rfl, sq256 ht, hA⟩, ?_⟩
        rw [br_dec, e7, cmpI_le]
        exact ⟨fun h => up h, fun h => by rw [← w1]; exact down (by omega)⟩
  · simp only [Int.zero_mul]; omega
  · simp only [Int.zero_mul, Int.zero_add]
    exact hA.2
  · simp only [Int.zero_mul, Int.zero_add]; decide
noncomputable def spRRoot : Vs.Spec := spSqrtL
theorem c_r_Root : Contract Try.prog f_perigeeref1_Root spSqrtL := by
  refine contract_of (N := No3) 3 (know1 (f0 := f_perigeeref1_Root) (L := LRoot) (fun g sp h => ctrso h) rfl (fun _ => rfl) (fun d n0 => lRoot (N := No3) d n0) 3) ?_
  intro l bs _ _ hp
  obtain ⟨A, rfl, rfl, hA⟩ := hp
  have hF : spSqrtL.F [fo A] [] = (tw (sqrtI A), []) := by
    show (tw (sqrtI (v4 [fo A] 0)), ([] : List Blk)) = _
    rw [v4_fo _ A 0 rfl]
  rw [hF, v_r_Root]
  exact ⟨A, ⟨rfl, rfl, hA⟩, rfl⟩
end Go.Vs.RF

set_option linter.unusedVariables false
/- the document's answer: sums, products, quotients, roots, halves -/
namespace Go.Vs.RF
open Go Go.Proofs Go.Vs
noncomputable def Γp : FuncId → Option Vs.Spec := fun g => if g = f_perigeeref1_DivFour then some spRDiv else if g = f_perigeeref1_Root then some spSqrtL else Γo g
noncomputable def Np : Know := ⟨Γp, fun _ _ => none, fun _ => none⟩
noncomputable def spRAdd : Vs.Spec := ⟨may2, fun l _ => (gotV (numF (v2 l 0 + v2 l 1)) (errF (v2 l 0 + v2 l 1)), [])⟩
noncomputable def Γp1 : FuncId → Option Vs.Spec := fun g => if g = f_perigeeref1_Add then some spRAdd else Γp g
noncomputable def Np1 : Know := ⟨Γp1, fun _ _ => none, fun _ => none⟩
theorem v_r_Add (x y : Int) (K : IV → List Blk → Prop) : (comes Try.prog Np 3 f_perigeeref1_Add [fx x, fx y] [] K) = (∀ (j1 : Int), j1 = x → ∀ (j2 : Int), j2 = y → ∀ (t3 : Int), t3 = absI j1 → ∀ (j4 : Int), j4 = t3 → ∀ (t5 : Int), t5 = absI j2 → ∀ (j6 : Int), j6 = t5 → ∀ (t7 : Int), t7 = (j4 + j6) % (340282366920938463463374607431768211456 : Int) → ∀ (t8 : Int), t8 = (j6 - j4) % (340282366920938463463374607431768211456 : Int) → ∀ (t9 : Int), t9 = (j4 - j6) % (340282366920938463463374607431768211456 : Int) → ∀ (t10 : Int), t10 = (0 : Int) * (6277101735386680763835789423207666416102355444464034512896 : Int) + (0 : Int) * (340282366920938463463374607431768211456 : Int) → ∀ (t11 : Int), t11 = sgnI (decide (x / (18446744073709551616 : Int) < (0 : Int))) (t10 + t7 / (18446744073709551616 : Int) * (18446744073709551616 : Int) + t7 % (18446744073709551616 : Int)) → ∀ (t12 : Int), t12 = sgnI (decide (y / (18446744073709551616 : Int) < (0 : Int))) (t10 + t8 / (18446744073709551616 : Int) * (18446744073709551616 : Int) + t8 % (18446744073709551616 : Int)) → ∀ (t13 : Int), t13 = sgnI (decide (x / (18446744073709551616 : Int) < (0 : Int))) (t10 + t9 / (18446744073709551616 : Int) * (18446744073709551616 : Int) + t9 % (18446744073709551616 : Int)) → ∀ (t14 : Int), t14 = numF t11 → ∀ (t15 : Int), t15 = numF t12 → ∀ (t16 : Int), t16 = numF t13 → may1 [fx x] [] ∧ may1 [fx y] [] ∧ br (decide (x / (18446744073709551616 : Int) < (0 : Int)) == decide (y / (18446744073709551616 : Int) < (0 : Int))) (p22 [tw t3, tw t5] [] ∧ preSigned [IV.bool (decide (x / (18446744073709551616 : Int) < (0 : Int))), IV.agg [IV.int IntKind.u64 (0 : Int), IV.int IntKind.u64 (0 : Int), IV.int IntKind.u64 (t7 / (18446744073709551616 : Int)), IV.int IntKind.u64 (t7 % (18446744073709551616 : Int))]] [] ∧ K (IV.agg [IV.int IntKind.i64 (t14 / (18446744073709551616 : Int)), IV.int IntKind.u64 (t14 % (18446744073709551616 : Int)), IV.int IntKind.i64 (errF t11)]) []) (p22 [tw t3, tw t5] [] ∧ br (decide (j4 < j6)) (p22 [tw t5, tw t3] [] ∧ preSigned [IV.bool (decide (y / (18446744073709551616 : Int) < (0 : Int))), IV.agg [IV.int IntKind.u64 (0 : Int), IV.int IntKind.u64 (0 : Int), IV.int IntKind.u64 (t8 / (18446744073709551616 : Int)), IV.int IntKind.u64 (t8 % (18446744073709551616 : Int))]] [] ∧ K (IV.agg [IV.int IntKind.i64 (t15 / (18446744073709551616 : Int)), IV.int IntKind.u64 (t15 % (18446744073709551616 : Int)), IV.int IntKind.i64 (errF t12)]) []) (p22 [tw t3, tw t5] [] ∧ preSigned [IV.bool (decide (x / (18446744073709551616 : Int) < (0 : Int))), IV.agg [IV.int IntKind.u64 (0 : Int), IV.int IntKind.u64 (0 : Int), IV.int IntKind.u64 (t9 / (18446744073709551616 : Int)), IV.int IntKind.u64 (t9 % (18446744073709551616 : Int))]] [] ∧ K (IV.agg [IV.int IntKind.i64 (t16 / (18446744073709551616 : Int)), IV.int IntKind.u64 (t16 % (18446744073709551616 : Int)), IV.int IntKind.i64 (errF t13)]) []))) := by refine nj ?_; refine nj ?_; refine nm ?_; refine nj ?_; refine nm ?_; refine nj ?_; refine nm ?_; refine nm ?_; refine nm ?_; refine nm ?_; refine nm ?_; refine nm ?_; refine nm ?_; refine nm ?_; refine nm ?_; refine nm ?_; kernel_rfl
theorem v_r_Sub (x y : Int) (K : IV → List Blk → Prop) : (comes Try.prog Np1 3 f_perigeeref1_Sub [fx x, fx y] [] K) = (∀ (j1 : Int), j1 = y → ∀ (j2 : Int), j2 = x → ∀ (t3 : Int), t3 = -j1 → ∀ (j4 : Int), j4 = t3 → ∀ (t5 : Int), t5 = numF (j2 + j4) → may1 [fx y] [] ∧ may2 [fx x, fx t3] [] ∧ K (IV.agg [IV.int IntKind.i64 (t5 / (18446744073709551616 : Int)), IV.int IntKind.u64 (t5 % (18446744073709551616 : Int)), IV.int IntKind.i64 (errF (j2 + j4))]) []) := by refine nj ?_; refine nj ?_; refine nm ?_; refine nj ?_; refine nm ?_; kernel_rfl
theorem v_r_Mul (x y : Int) (K : IV → List Blk → Prop) : (comes Try.prog Np 3 f_perigeeref1_Mul [fx x, fx y] [] K) = (∀ (j1 : Int), j1 = x → ∀ (j2 : Int), j2 = y → ∀ (t3 : Int), t3 = absI j1 → ∀ (j4 : Int), j4 = t3 → ∀ (t5 : Int), t5 = absI j2 → ∀ (j6 : Int), j6 = t5 → ∀ (t7 : Int), t7 = (j4 * j6 / (6277101735386680763835789423207666416102355444464034512896 : Int) * (6277101735386680763835789423207666416102355444464034512896 : Int) + j4 * j6 / (340282366920938463463374607431768211456 : Int) % (18446744073709551616 : Int) * (340282366920938463463374607431768211456 : Int) + (j4 * j6 / (18446744073709551616 : Int) % (18446744073709551616 : Int) * (18446744073709551616 : Int) + j4 * j6 % (18446744073709551616 : Int) + (9223372036854775808 : Int)) % (340282366920938463463374607431768211456 : Int) / (18446744073709551616 : Int) * (18446744073709551616 : Int) + (j4 * j6 / (18446744073709551616 : Int) % (18446744073709551616 : Int) * (18446744073709551616 : Int) + j4 * j6 % (18446744073709551616 : Int) + (9223372036854775808 : Int)) % (340282366920938463463374607431768211456 : Int) % (18446744073709551616 : Int)) / (2 : Int) ^ Int.toNat (64 : Int) → ∀ (q8 : Int), q8 = t7 → ∀ (t9 : Int), t9 = ((j4 * j6 / (6277101735386680763835789423207666416102355444464034512896 : Int) * (18446744073709551616 : Int) + j4 * j6 / (340282366920938463463374607431768211456 : Int) % (18446744073709551616 : Int) + (1 : Int)) % (340282366920938463463374607431768211456 : Int) / (18446744073709551616 : Int) * (6277101735386680763835789423207666416102355444464034512896 : Int) + (j4 * j6 / (6277101735386680763835789423207666416102355444464034512896 : Int) * (18446744073709551616 : Int) + j4 * j6 / (340282366920938463463374607431768211456 : Int) % (18446744073709551616 : Int) + (1 : Int)) % (340282366920938463463374607431768211456 : Int) % (18446744073709551616 : Int) * (340282366920938463463374607431768211456 : Int) + (j4 * j6 / (18446744073709551616 : Int) % (18446744073709551616 : Int) * (18446744073709551616 : Int) + j4 * j6 % (18446744073709551616 : Int) + (9223372036854775808 : Int)) % (340282366920938463463374607431768211456 : Int) / (18446744073709551616 : Int) * (18446744073709551616 : Int) + (j4 * j6 / (18446744073709551616 : Int) % (18446744073709551616 : Int) * (18446744073709551616 : Int) + j4 * j6 % (18446744073709551616 : Int) + (9223372036854775808 : Int)) % (340282366920938463463374607431768211456 : Int) % (18446744073709551616 : Int)) / (2 : Int) ^ Int.toNat (64 : Int) → ∀ (q10 : Int), q10 = t9 → ∀ (t11 : Int), t11 = j4 * j6 / (18446744073709551616 : Int) % (18446744073709551616 : Int) * (18446744073709551616 : Int) + j4 * j6 % (18446744073709551616 : Int) + (9223372036854775808 : Int) → ∀ (t12 : Int), t12 = sgnI (!decide (x / (18446744073709551616 : Int) < (0 : Int)) == decide (y / (18446744073709551616 : Int) < (0 : Int))) q10 → ∀ (t13 : Int), t13 = sgnI (!decide (x / (18446744073709551616 : Int) < (0 : Int)) == decide (y / (18446744073709551616 : Int) < (0 : Int))) q8 → ∀ (t14 : Int), t14 = numF t12 → ∀ (t15 : Int), t15 = numF t13 → ∀ (t16 : Int), t16 = (j4 * j6 / (6277101735386680763835789423207666416102355444464034512896 : Int) * (18446744073709551616 : Int) + j4 * j6 / (340282366920938463463374607431768211456 : Int) % (18446744073709551616 : Int) + (1 : Int)) % (340282366920938463463374607431768211456 : Int) → ∀ (t17 : Int), t17 = t11 % (340282366920938463463374607431768211456 : Int) → may1 [fx x] [] ∧ may1 [fx y] [] ∧ p22 [tw t3, tw t5] [] ∧ p22 [IV.agg [IV.int IntKind.u64 (j4 * j6 / (18446744073709551616 : Int) % (18446744073709551616 : Int)), IV.int IntKind.u64 (j4 * j6 % (18446744073709551616 : Int))], IV.agg [IV.int IntKind.u64 (0 : Int), IV.int IntKind.u64 (9223372036854775808 : Int)]] [] ∧ br (decide ((340282366920938463463374607431768211456 : Int) ≤ t11)) (p22 [IV.agg [IV.int IntKind.u64 (j4 * j6 / (6277101735386680763835789423207666416102355444464034512896 : Int)), IV.int IntKind.u64 (j4 * j6 / (340282366920938463463374607431768211456 : Int) % (18446744073709551616 : Int))], IV.agg [IV.int IntKind.u64 (0 : Int), IV.int IntKind.u64 (1 : Int)]] [] ∧ preShr' [IV.agg [IV.int IntKind.u64 (t16 / (18446744073709551616 : Int)), IV.int IntKind.u64 (t16 % (18446744073709551616 : Int)), IV.int IntKind.u64 (t17 / (18446744073709551616 : Int)), IV.int IntKind.u64 (t17 % (18446744073709551616 : Int))], IV.int IntKind.i64 (64 : Int)] [] ∧ preSigned [IV.bool !decide (x / (18446744073709551616 : Int) < (0 : Int)) == decide (y / (18446744073709551616 : Int) < (0 : Int)), fo t9] [] ∧ K (IV.agg [IV.int IntKind.i64 (t14 / (18446744073709551616 : Int)), IV.int IntKind.u64 (t14 % (18446744073709551616 : Int)), IV.int IntKind.i64 (errF t12)]) []) (preShr' [IV.agg [IV.int IntKind.u64 (j4 * j6 / (6277101735386680763835789423207666416102355444464034512896 : Int)), IV.int IntKind.u64 (j4 * j6 / (340282366920938463463374607431768211456 : Int) % (18446744073709551616 : Int)), IV.int IntKind.u64 (t17 / (18446744073709551616 : Int)), IV.int IntKind.u64 (t17 % (18446744073709551616 : Int))], IV.int IntKind.i64 (64 : Int)] [] ∧ preSigned [IV.bool !decide (x / (18446744073709551616 : Int) < (0 : Int)) == decide (y / (18446744073709551616 : Int) < (0 : Int)), fo t7] [] ∧ K (IV.agg [IV.int IntKind.i64 (t15 / (18446744073709551616 : Int)), IV.int IntKind.u64 (t15 % (18446744073709551616 : Int)), IV.int IntKind.i64 (errF t13)]) [])) := by refine nj ?_; refine nj ?_; refine nm ?_; refine nj ?_; refine nm ?_; refine nj ?_; refine nm ?_; refine nj4 ?_; refine nm ?_; refine nj4 ?_; refine nm ?_; refine nm ?_; refine nm ?_; refine nm ?_; refine nm ?_; refine nm ?_; refine nm ?_; kernel_rfl
theorem v_r_Div (x y : Int) (K : IV → List Blk → Prop) : (comes Try.prog Np 3 f_perigeeref1_Div [fx x, fx y] [] K) = (∀ (j1 : Int), j1 = x → ∀ (j2 : Int), j2 = y → ∀ (t3 : Int), t3 = absI j2 → ∀ (j4 : Int), j4 = t3 → ∀ (t5 : Int), t5 = (j4 + j4) % (340282366920938463463374607431768211456 : Int) → ∀ (j6 : Int), j6 = t5 → ∀ (t7 : Int), t7 = (((0 : Int) + absI j1 / (18446744073709551616 : Int) * (18446744073709551616 : Int) + absI j1 % (18446744073709551616 : Int)) * (36893488147419103232 : Int) % (115792089237316195423570985008687907853269984665640564039457584007913129639936 : Int) / (6277101735386680763835789423207666416102355444464034512896 : Int) * (6277101735386680763835789423207666416102355444464034512896 : Int) + ((0 : Int) + absI j1 / (18446744073709551616 : Int) * (18446744073709551616 : Int) + absI j1 % (18446744073709551616 : Int)) * (36893488147419103232 : Int) % (115792089237316195423570985008687907853269984665640564039457584007913129639936 : Int) / (340282366920938463463374607431768211456 : Int) % (18446744073709551616 : Int) * (340282366920938463463374607431768211456 : Int) + (((0 : Int) + absI j1 / (18446744073709551616 : Int) * (18446744073709551616 : Int) + absI j1 % (18446744073709551616 : Int)) * (36893488147419103232 : Int) % (115792089237316195423570985008687907853269984665640564039457584007913129639936 : Int) / (18446744073709551616 : Int) % (18446744073709551616 : Int) * (18446744073709551616 : Int) + ((0 : Int) + absI j1 / (18446744073709551616 : Int) * (18446744073709551616 : Int) + absI j1 % (18446744073709551616 : Int)) * (36893488147419103232 : Int) % (115792089237316195423570985008687907853269984665640564039457584007913129639936 : Int) % (18446744073709551616 : Int) + j4) % (340282366920938463463374607431768211456 : Int) / (18446744073709551616 : Int) * (18446744073709551616 : Int) + (((0 : Int) + absI j1 / (18446744073709551616 : Int) * (18446744073709551616 : Int) + absI j1 % (18446744073709551616 : Int)) * (36893488147419103232 : Int) % (115792089237316195423570985008687907853269984665640564039457584007913129639936 : Int) / (18446744073709551616 : Int) % (18446744073709551616 : Int) * (18446744073709551616 : Int) + ((0 : Int) + absI j1 / (18446744073709551616 : Int) * (18446744073709551616 : Int) + absI j1 % (18446744073709551616 : Int)) * (36893488147419103232 : Int) % (115792089237316195423570985008687907853269984665640564039457584007913129639936 : Int) % (18446744073709551616 : Int) + j4) % (340282366920938463463374607431768211456 : Int) % (18446744073709551616 : Int)) / j6 → ∀ (q8 : Int), q8 = t7 → ∀ (t9 : Int), t9 = ((((0 : Int) + absI j1 / (18446744073709551616 : Int) * (18446744073709551616 : Int) + absI j1 % (18446744073709551616 : Int)) * (36893488147419103232 : Int) % (115792089237316195423570985008687907853269984665640564039457584007913129639936 : Int) / (6277101735386680763835789423207666416102355444464034512896 : Int) * (18446744073709551616 : Int) + ((0 : Int) + absI j1 / (18446744073709551616 : Int) * (18446744073709551616 : Int) + absI j1 % (18446744073709551616 : Int)) * (36893488147419103232 : Int) % (115792089237316195423570985008687907853269984665640564039457584007913129639936 : Int) / (340282366920938463463374607431768211456 : Int) % (18446744073709551616 : Int) + (1 : Int)) % (340282366920938463463374607431768211456 : Int) / (18446744073709551616 : Int) * (6277101735386680763835789423207666416102355444464034512896 : Int) + (((0 : Int) + absI j1 / (18446744073709551616 : Int) * (18446744073709551616 : Int) + absI j1 % (18446744073709551616 : Int)) * (36893488147419103232 : Int) % (115792089237316195423570985008687907853269984665640564039457584007913129639936 : Int) / (6277101735386680763835789423207666416102355444464034512896 : Int) * (18446744073709551616 : Int) + ((0 : Int) + absI j1 / (18446744073709551616 : Int) * (18446744073709551616 : Int) + absI j1 % (18446744073709551616 : Int)) * (36893488147419103232 : Int) % (115792089237316195423570985008687907853269984665640564039457584007913129639936 : Int) / (340282366920938463463374607431768211456 : Int) % (18446744073709551616 : Int) + (1 : Int)) % (340282366920938463463374607431768211456 : Int) % (18446744073709551616 : Int) * (340282366920938463463374607431768211456 : Int) + (((0 : Int) + absI j1 / (18446744073709551616 : Int) * (18446744073709551616 : Int) + absI j1 % (18446744073709551616 : Int)) * (36893488147419103232 : Int) % (115792089237316195423570985008687907853269984665640564039457584007913129639936 : Int) / (18446744073709551616 : Int) % (18446744073709551616 : Int) * (18446744073709551616 : Int) + ((0 : Int) + absI j1 / (18446744073709551616 : Int) * (18446744073709551616 : Int) + absI j1 % (18446744073709551616 : Int)) * (36893488147419103232 : Int) % (115792089237316195423570985008687907853269984665640564039457584007913129639936 : Int) % (18446744073709551616 : Int) + j4) % (340282366920938463463374607431768211456 : Int) / (18446744073709551616 : Int) * (18446744073709551616 : Int) + (((0 : Int) + absI j1 / (18446744073709551616 : Int) * (18446744073709551616 : Int) + absI j1 % (18446744073709551616 : Int)) * (36893488147419103232 : Int) % (115792089237316195423570985008687907853269984665640564039457584007913129639936 : Int) / (18446744073709551616 : Int) % (18446744073709551616 : Int) * (18446744073709551616 : Int) + ((0 : Int) + absI j1 / (18446744073709551616 : Int) * (18446744073709551616 : Int) + absI j1 % (18446744073709551616 : Int)) * (36893488147419103232 : Int) % (115792089237316195423570985008687907853269984665640564039457584007913129639936 : Int) % (18446744073709551616 : Int) + j4) % (340282366920938463463374607431768211456 : Int) % (18446744073709551616 : Int)) / j6 → ∀ (q10 : Int), q10 = t9 → ∀ (t11 : Int), t11 = absI j1 → ∀ (t12 : Int), t12 = t11 / (18446744073709551616 : Int) * (18446744073709551616 : Int) → ∀ (t13 : Int), t13 = ((0 : Int) + t12 + t11 % (18446744073709551616 : Int)) * (36893488147419103232 : Int) % (115792089237316195423570985008687907853269984665640564039457584007913129639936 : Int) → ∀ (t14 : Int), t14 = sgnI (!decide (x / (18446744073709551616 : Int) < (0 : Int)) == decide (y / (18446744073709551616 : Int) < (0 : Int))) q10 → ∀ (t15 : Int), t15 = sgnI (!decide (x / (18446744073709551616 : Int) < (0 : Int)) == decide (y / (18446744073709551616 : Int) < (0 : Int))) q8 → ∀ (t16 : Int), t16 = numF t14 → ∀ (t17 : Int), t17 = numF t15 → ∀ (t18 : Int), t18 = ((0 : Int) * (6277101735386680763835789423207666416102355444464034512896 : Int) + (0 : Int) * (340282366920938463463374607431768211456 : Int) + t12 + t11 % (18446744073709551616 : Int)) * (2 : Int) ^ Int.toNat (65 : Int) % (115792089237316195423570985008687907853269984665640564039457584007913129639936 : Int) → ∀ (t19 : Int), t19 = t13 / (18446744073709551616 : Int) % (18446744073709551616 : Int) * (18446744073709551616 : Int) + t13 % (18446744073709551616 : Int) + j4 → ∀ (t20 : Int), t20 = t19 % (340282366920938463463374607431768211456 : Int) → ∀ (t21 : Int), t21 = (t13 / (6277101735386680763835789423207666416102355444464034512896 : Int) * (18446744073709551616 : Int) + t13 / (340282366920938463463374607431768211456 : Int) % (18446744073709551616 : Int) + (1 : Int)) % (340282366920938463463374607431768211456 : Int) → ∀ (c22 : Bool), c22 = decide (y = (0 : Int)) → br c22 (K (IV.agg [IV.int IntKind.i64 (0 : Int), IV.int IntKind.u64 (0 : Int), IV.int IntKind.i64 (2 : Int)]) []) (may1 [fx x] [] ∧ preShl' [IV.agg [IV.int IntKind.u64 (0 : Int), IV.int IntKind.u64 (0 : Int), IV.int IntKind.u64 (t11 / (18446744073709551616 : Int)), IV.int IntKind.u64 (t11 % (18446744073709551616 : Int))], IV.int IntKind.i64 (65 : Int)] [] ∧ may1 [fx y] [] ∧ p22 [IV.agg [IV.int IntKind.u64 (t18 / (18446744073709551616 : Int) % (18446744073709551616 : Int)), IV.int IntKind.u64 (t18 % (18446744073709551616 : Int))], tw t3] [] ∧ br (decide ((340282366920938463463374607431768211456 : Int) ≤ t19)) (p22 [IV.agg [IV.int IntKind.u64 (t13 / (6277101735386680763835789423207666416102355444464034512896 : Int)), IV.int IntKind.u64 (t13 / (340282366920938463463374607431768211456 : Int) % (18446744073709551616 : Int))], IV.agg [IV.int IntKind.u64 (0 : Int), IV.int IntKind.u64 (1 : Int)]] [] ∧ p22 [tw t3, tw t3] [] ∧ preDiv [IV.agg [IV.int IntKind.u64 (t21 / (18446744073709551616 : Int)), IV.int IntKind.u64 (t21 % (18446744073709551616 : Int)), IV.int IntKind.u64 (t20 / (18446744073709551616 : Int)), IV.int IntKind.u64 (t20 % (18446744073709551616 : Int))], tw t5] [] ∧ preSigned [IV.bool !decide (x / (18446744073709551616 : Int) < (0 : Int)) == decide (y / (18446744073709551616 : Int) < (0 : Int)), fo t9] [] ∧ K (IV.agg [IV.int IntKind.i64 (t16 / (18446744073709551616 : Int)), IV.int IntKind.u64 (t16 % (18446744073709551616 : Int)), IV.int IntKind.i64 (errF t14)]) []) (p22 [tw t3, tw t3] [] ∧ preDiv [IV.agg [IV.int IntKind.u64 (t13 / (6277101735386680763835789423207666416102355444464034512896 : Int)), IV.int IntKind.u64 (t13 / (340282366920938463463374607431768211456 : Int) % (18446744073709551616 : Int)), IV.int IntKind.u64 (t20 / (18446744073709551616 : Int)), IV.int IntKind.u64 (t20 % (18446744073709551616 : Int))], tw t5] [] ∧ preSigned [IV.bool !decide (x / (18446744073709551616 : Int) < (0 : Int)) == decide (y / (18446744073709551616 : Int) < (0 : Int)), fo t7] [] ∧ K (IV.agg [IV.int IntKind.i64 (t17 / (18446744073709551616 : Int)), IV.int IntKind.u64 (t17 % (18446744073709551616 : Int)), IV.int IntKind.i64 (errF t15)]) []))) := by refine nj ?_; refine nj ?_; refine nm ?_; refine nj ?_; refine nm ?_; refine nj ?_; refine nm ?_; refine nj4 ?_; refine nm ?_; refine nj4 ?_; refine nm ?_; refine nm ?_; refine nm ?_; refine nm ?_; refine nm ?_; refine nm ?_; refine nm ?_; refine nm ?_; refine nm ?_; refine nm ?_; refine nm ?_; refine nbc (c := 0) (d := 0) (by decide) ?_; kernel_rfl
theorem v_r_Sqrt (x : Int) (K : IV → List Blk → Prop) : (comes Try.prog Np 3 f_perigeeref1_Sqrt [fx x] [] K) = (∀ (j1 : Int), j1 = x → ∀ (t2 : Int), t2 = ((0 : Int) + absI j1 / (18446744073709551616 : Int) * (18446744073709551616 : Int) + absI j1 % (18446744073709551616 : Int)) * (18446744073709551616 : Int) % (115792089237316195423570985008687907853269984665640564039457584007913129639936 : Int) → ∀ (q3 : Int), q3 = t2 → ∀ (t4 : Int), t4 = absI j1 → ∀ (t5 : Int), t5 = sqrtI q3 → ∀ (t6 : Int), t6 = sgnI false ((0 : Int) + t5 / (18446744073709551616 : Int) * (18446744073709551616 : Int) + t5 % (18446744073709551616 : Int)) → ∀ (t7 : Int), t7 = numF t6 → br (decide (x / (18446744073709551616 : Int) < (0 : Int))) (K (IV.agg [IV.int IntKind.i64 (0 : Int), IV.int IntKind.u64 (0 : Int), IV.int IntKind.i64 (1 : Int)]) []) (may1 [fx x] [] ∧ preShl' [IV.agg [IV.int IntKind.u64 (0 : Int), IV.int IntKind.u64 (0 : Int), IV.int IntKind.u64 (t4 / (18446744073709551616 : Int)), IV.int IntKind.u64 (t4 % (18446744073709551616 : Int))], IV.int IntKind.i64 (64 : Int)] [] ∧ pre1 [fo t2] [] ∧ preSigned [IV.bool false, IV.agg [IV.int IntKind.u64 (0 : Int), IV.int IntKind.u64 (0 : Int), IV.int IntKind.u64 (t5 / (18446744073709551616 : Int)), IV.int IntKind.u64 (t5 % (18446744073709551616 : Int))]] [] ∧ K (IV.agg [IV.int IntKind.i64 (t7 / (18446744073709551616 : Int)), IV.int IntKind.u64 (t7 % (18446744073709551616 : Int)), IV.int IntKind.i64 (errF t6)]) [])) := by refine nj ?_; refine nm ?_; refine nj4 ?_; refine nm ?_; refine nm ?_; refine nm ?_; refine nm ?_; kernel_rfl
theorem v_r_Half (x : Int) (K : IV → List Blk → Prop) : (comes Try.prog Np 3 f_perigeeref1_Half [fx x] [] K) = (∀ (j1 : Int), j1 = x → ∀ (t2 : Int), t2 = absI j1 → ∀ (j3 : Int), j3 = t2 → ∀ (t4 : Int), t4 = ((0 : Int) * (6277101735386680763835789423207666416102355444464034512896 : Int) + (0 : Int) * (340282366920938463463374607431768211456 : Int) + (j3 + (1 : Int)) % (340282366920938463463374607431768211456 : Int) / (18446744073709551616 : Int) * (18446744073709551616 : Int) + (j3 + (1 : Int)) % (340282366920938463463374607431768211456 : Int) % (18446744073709551616 : Int)) / (2 : Int) ^ Int.toNat (1 : Int) → ∀ (q5 : Int), q5 = t4 → ∀ (t6 : Int), t6 = (j3 + (1 : Int)) % (340282366920938463463374607431768211456 : Int) → ∀ (t7 : Int), t7 = numF (sgnI (decide (x / (18446744073709551616 : Int) < (0 : Int))) q5) → may1 [fx x] [] ∧ p22 [tw t2, IV.agg [IV.int IntKind.u64 (0 : Int), IV.int IntKind.u64 (1 : Int)]] [] ∧ preShr' [IV.agg [IV.int IntKind.u64 (0 : Int), IV.int IntKind.u64 (0 : Int), IV.int IntKind.u64 (t6 / (18446744073709551616 : Int)), IV.int IntKind.u64 (t6 % (18446744073709551616 : Int))], IV.int IntKind.i64 (1 : Int)] [] ∧ preSigned [IV.bool (decide (x / (18446744073709551616 : Int) < (0 : Int))), fo t4] [] ∧ K (fx t7) []) := by refine nj ?_; refine nm ?_; refine nj ?_; refine nm ?_; refine nj4 ?_; refine nm ?_; refine nm ?_; kernel_rfl
theorem v_r_Floor (x : Int) (K : IV → List Blk → Prop) : (comes Try.prog Np 3 f_perigeeref1_Floor [fx x] [] K) = (K (IV.int IntKind.i64 (x / (18446744073709551616 : Int))) []) := by kernel_rfl
end Go.Vs.RF

set_option linter.unusedVariables false
set_option linter.unusedSimpArgs false
set_option maxRecDepth 100000
/- the document's answer: sums, products, quotients, roots, halves -/
namespace Go.Vs.RF
open Go Go.Proofs Go.Vs Go.IntWalk

theorem ctrsp : ∀ {g : FuncId} {sp : Vs.Spec}, Γp g = some sp → Contract Try.prog g sp := (ext_ok c_r_DivFour (ext_ok c_r_Root ctrso))
theorem fo_lo {t : Int} (h : in128 t) : IV.agg [.int .u64 0, .int .u64 0, .int .u64 (t / 18446744073709551616), .int .u64 (t % 18446744073709551616)] = fo t := by
  have h1 := u2_of h
  exact (fo_mk ⟨by decide, by decide⟩ ⟨by decide, by decide⟩ h1.1 h1.2 (by clear h h1; omega)).symm
theorem neg_hi (x : Int) : decide (x / 18446744073709551616 < 0) = decide (x < 0) := by rw [Bool.eq_iff_iff, decide_eq_true_iff, decide_eq_true_iff]; omega
theorem c_r_Add : Contract Try.prog f_perigeeref1_Add spRAdd := by
  refine contract_of (N := Np) 3 (knowOf (fun g sp h => ctrsp h) (fun _ _ => rfl) (fun _ => rfl) 3) ?_
  intro l bs _ _ hp
  obtain ⟨x, y, rfl, rfl, hx, hy⟩ := hp
  have hF : spRAdd.F [fx x, fx y] [] = (gotV (numF (x + y)) (errF (x + y)), []) := by
    show (gotV (numF (v2 [fx x, fx y] 0 + v2 [fx x, fx y] 1)) (errF (v2 [fx x, fx y] 0 + v2 [fx x, fx y] 1)), ([] : List Blk)) = _
    rw [v2_fx _ x 0 rfl, v2_fx _ y 1 rfl]
  rw [hF, v_r_Add, neg_hi, neg_hi]
  rintro x rfl y rfl t3 e3 j4 rfl t5 e5 j6 rfl t7 e7 t8 e8 t9 e9 t10 e10 t11 e11 t12 e12 t13 e13 t14 e14 t15 e15 t16 e16
  have ax := abs_may hx
  have ay := abs_may hy
  have a3 : in128 j4 := by rw [e3]; exact abs_128 hx
  have a5 : in128 j6 := by rw [e5]; exact abs_128 hy
  have f1 := a3
  have f2 := a5
  unfold in128 at f1 f2
  have z : t10 = 0 := e10
  subst z
  rw [Int.zero_add, jn] at e11 e12 e13
  have i7 : in128 t7 := by rw [e7]; exact lo_128 _
  have i8 : in128 t8 := by rw [e8]; exact lo_128 _
  have i9 : in128 t9 := by rw [e9]; exact lo_128 _
  have w : ∀ {t : Int}, in128 t → in256 t := fun h => by unfold in128 at h; unfold in256; omega
  rw [fo_lo i7, fo_lo i8, fo_lo i9]
  refine ⟨may1_of hx, may1_of hy, ?_⟩
  by_cases hs : (decide (x < 0) == decide (y < 0)) = true
  · rw [hs]
    have hs' : x < 0 ↔ y < 0 := by simpa using hs
    have : x + y = t11 := by
      rw [e11]; unfold sgnI
      have : t7 = j4 + j6 := by omega
      rw [this, e3, e5]; unfold absI
      by_cases h0 : x < 0 <;> by_cases h1 : y < 0 <;> simp [h0, h1] <;> omega
    refine ⟨p22_of a3 a5, ⟨_, _, rfl, rfl, w i7⟩, ?_⟩
    rw [this, e14]; rfl
  · have hs0 : (decide (x < 0) == decide (y < 0)) = false := by simpa using hs
    rw [hs0]
    have hs' : ¬ (x < 0 ↔ y < 0) := by intro h; apply hs; simp [h]
    refine ⟨p22_of a3 a5, ?_⟩
    rw [br_dec]
    refine ⟨fun hlt => ⟨p22_of a5 a3, ⟨_, _, rfl, rfl, w i8⟩, ?_⟩, fun hlt => ⟨p22_of a3 a5, ⟨_, _, rfl, rfl, w i9⟩, ?_⟩⟩
    · have : x + y = t12 := by
        have e : t8 = j6 - j4 := by omega
        rw [e12, e, e3, e5]; unfold sgnI absI
        by_cases h0 : x < 0 <;> by_cases h1 : y < 0 <;> simp [h0, h1] <;> omega
      rw [this, e15]; rfl
    · have : x + y = t13 := by
        have e : t9 = j4 - j6 := by omega
        rw [e13, e, e3, e5]; unfold sgnI absI
        by_cases h0 : x < 0 <;> by_cases h1 : y < 0 <;> simp [h0, h1] <;> omega
      rw [this, e16]; rfl
theorem ctrsp1 : ∀ {g : FuncId} {sp : Vs.Spec}, Γp1 g = some sp → Contract Try.prog g sp := ext_ok c_r_Add ctrsp
noncomputable def spRSub : Vs.Spec := ⟨may2, fun l _ => (gotV (numF (v2 l 0 - v2 l 1)) (errF (v2 l 0 - v2 l 1)), [])⟩
theorem c_r_Sub : Contract Try.prog f_perigeeref1_Sub spRSub := by
  refine contract_of (N := Np1) 3 (knowOf (fun g sp h => ctrsp1 h) (fun _ _ => rfl) (fun _ => rfl) 3) ?_
  intro l bs _ _ hp
  obtain ⟨x, y, rfl, rfl, hx, hy⟩ := hp
  have hF : spRSub.F [fx x, fx y] [] = (gotV (numF (x - y)) (errF (x - y)), []) := by
    show (gotV (numF (v2 [fx x, fx y] 0 - v2 [fx x, fx y] 1)) (errF (v2 [fx x, fx y] 0 - v2 [fx x, fx y] 1)), ([] : List Blk)) = _
    rw [v2_fx _ x 0 rfl, v2_fx _ y 1 rfl]
  rw [hF, v_r_Sub]
  rintro y rfl x rfl t3 e3 j4 rfl t5 e5
  have hm : mayF j4 := by rw [e3]; exact may_neg hy
  refine ⟨may1_of hy, may2_of hx hm, ?_⟩
  rw [show x - y = x + j4 by omega, e5]; rfl

theorem hi_two (t : Int) : t / 18446744073709551616 * 6277101735386680763835789423207666416102355444464034512896 + t % 18446744073709551616 * 340282366920938463463374607431768211456 = t * 340282366920938463463374607431768211456 := by omega
/-- something more, by words -/
theorem carry {P c t11 t16 t17 : Int} (hP : in256 P) (hc : in128 c) (hS : in256 (P + c)) (e11 : t11 = P / 18446744073709551616 % 18446744073709551616 * 18446744073709551616 + P % 18446744073709551616 + c) (e17 : t17 = t11 % 340282366920938463463374607431768211456) (e16 : t16 = (P / 6277101735386680763835789423207666416102355444464034512896 * 18446744073709551616 + P / 340282366920938463463374607431768211456 % 18446744073709551616 + 1) % 340282366920938463463374607431768211456) :
    (340282366920938463463374607431768211456 ≤ t11 → IV.agg [.int .u64 (t16 / 18446744073709551616), .int .u64 (t16 % 18446744073709551616), .int .u64 (t17 / 18446744073709551616), .int .u64 (t17 % 18446744073709551616)] = fo (P + c) ∧
      t16 / 18446744073709551616 * 6277101735386680763835789423207666416102355444464034512896 + t16 % 18446744073709551616 * 340282366920938463463374607431768211456 + t17 / 18446744073709551616 * 18446744073709551616 + t17 % 18446744073709551616 = P + c) ∧
    (¬ 340282366920938463463374607431768211456 ≤ t11 → IV.agg [.int .u64 (P / 6277101735386680763835789423207666416102355444464034512896), .int .u64 (P / 340282366920938463463374607431768211456 % 18446744073709551616), .int .u64 (t17 / 18446744073709551616), .int .u64 (t17 % 18446744073709551616)] = fo (P + c) ∧
      P / 6277101735386680763835789423207666416102355444464034512896 * 6277101735386680763835789423207666416102355444464034512896 + P / 340282366920938463463374607431768211456 % 18446744073709551616 * 340282366920938463463374607431768211456 + t17 / 18446744073709551616 * 18446744073709551616 + t17 % 18446744073709551616 = P + c) := by
  rw [hi_join] at e16
  rw [lo_join] at e11
  have sP := split_256 P
  have hH := hi_128 hP
  have hL := lo_128 P
  have i17 : in128 t17 := by rw [e17]; exact lo_128 _
  have i16 : in128 t16 := by rw [e16]; exact lo_128 _
  have e1 := u4_of hP
  have h2 := u2_of hH
  have q1 : P / 6277101735386680763835789423207666416102355444464034512896 = P / 340282366920938463463374607431768211456 / 18446744073709551616 := by omega
  rw [q1]
  clear q1 e1
  unfold in256 at hS hP
  generalize P / 340282366920938463463374607431768211456 = x at *
  generalize P % 340282366920938463463374607431768211456 = z at *
  have i16' := i16; have i17' := i17
  unfold in128 at hH hL hc i16' i17'
  have j16 := hi_two t16
  have jx := hi_two x
  have j17 := jn t17
  constructor
  · intro h
    have h16 : t16 = x + 1 := by omega
    have h17 : t17 = z + c - 340282366920938463463374607431768211456 := by omega
    have tot : P + c = t16 * 340282366920938463463374607431768211456 + t17 := by omega
    exact ⟨(fo_two i16 i17 tot).symm, by omega⟩
  · intro h
    have h17 : t17 = z + c := by omega
    have tot : P + c = x * 340282366920938463463374607431768211456 + t17 := by omega
    exact ⟨(fo_two ⟨hH.1, hH.2⟩ i17 tot).symm, by omega⟩
noncomputable def spRMul : Vs.Spec := ⟨may2, fun l _ => (gotV (numF (mulI (v2 l 0) (v2 l 1))) (errF (mulI (v2 l 0) (v2 l 1))), [])⟩
theorem c_r_Mul : Contract Try.prog f_perigeeref1_Mul spRMul := by
  refine contract_of (N := Np) 3 (knowOf (fun g sp h => ctrsp h) (fun _ _ => rfl) (fun _ => rfl) 3) ?_
  intro l bs _ _ hp
  obtain ⟨x, y, rfl, rfl, hx, hy⟩ := hp
  have hF : spRMul.F [fx x, fx y] [] = (gotV (numF (mulI x y)) (errF (mulI x y)), []) := by
    show (gotV (numF (mulI (v2 [fx x, fx y] 0) (v2 [fx x, fx y] 1))) (errF (mulI (v2 [fx x, fx y] 0) (v2 [fx x, fx y] 1))), ([] : List Blk)) = _
    rw [v2_fx _ x 0 rfl, v2_fx _ y 1 rfl]
  rw [hF, v_r_Mul, neg_hi, neg_hi]
  rintro x rfl y rfl t3 e3 j4 rfl t5 e5 j6 rfl t7 e7 q8 rfl t9 e9 q10 rfl t11 e11 t12 e12 t13 e13 t14 e14 t15 e15 t16 e16 t17 e17
  have ax := abs_may hx
  have ay := abs_may hy
  have a3 : in128 j4 := by rw [e3]; exact abs_128 hx
  have a5 : in128 j6 := by rw [e5]; exact abs_128 hy
  rw [← e11, ← e17] at e7
  rw [← e11, ← e17, ← e16] at e9
  rw [← e3] at ax
  rw [← e5] at ay
  have hb := mul_bound (m := 170141183460469231731687303715884105727) ax.1 (by omega) ay.1 (by omega)
  have hmul : mulI x y = sgnI (!decide (x < 0) == decide (y < 0)) ((j4 * j6 + 9223372036854775808) / 18446744073709551616) := by
    unfold mulI; rw [bne_beq, ← e3, ← e5]
  rw [hmul]
  generalize j4 * j6 = P at *
  have hP : in256 P := by unfold in256; omega
  have hS : in256 (P + 9223372036854775808) := by unfold in256; omega
  obtain ⟨c1, c2⟩ := carry hP ⟨by decide, by decide⟩ hS e11 e17 e16
  have e63 : IV.agg [.int .u64 0, .int .u64 9223372036854775808] = tw 9223372036854775808 := rfl
  have e1 : IV.agg [.int .u64 0, .int .u64 1] = tw 1 := rfl
  rw [tw_lo, tw_hi, e63, e1, br_dec]
  have hq : in256 ((P + 9223372036854775808) / 18446744073709551616) := by unfold in256; omega
  refine ⟨may1_of hx, may1_of hy, p22_of a3 a5, p22_of (lo_128 _) ⟨by decide, by decide⟩, fun h => ?_, fun h => ?_⟩
  · obtain ⟨c3, c4⟩ := c1 h
    rw [c3]
    rw [c4] at e9
    have e9' : q10 = (P + 9223372036854775808) / 18446744073709551616 := e9
    refine ⟨p22_of (hi_128 hP) ⟨by decide, by decide⟩, ⟨_, _, rfl, rfl, .inr rfl, hS⟩, ⟨_, _, rfl, rfl, by rw [e9']; exact hq⟩, ?_⟩
    rw [e14, e12, e9']; rfl
  · obtain ⟨c3, c4⟩ := c2 h
    rw [c3]
    rw [c4] at e7
    have e7' : q8 = (P + 9223372036854775808) / 18446744073709551616 := e7
    refine ⟨⟨_, _, rfl, rfl, .inr rfl, hS⟩, ⟨_, _, rfl, rfl, by rw [e7']; exact hq⟩, ?_⟩
    rw [e15, e13, e7']; rfl
noncomputable def spRDivF : Vs.Spec := ⟨may2, fun l _ => (gotV (divN (v2 l 0) (v2 l 1)) (divE (v2 l 0) (v2 l 1)), [])⟩
theorem c_r_Div : Contract Try.prog f_perigeeref1_Div spRDivF := by
  refine contract_of (N := Np) 3 (knowOf (fun g sp h => ctrsp h) (fun _ _ => rfl) (fun _ => rfl) 3) ?_
  intro l bs _ _ hp
  obtain ⟨x, y, rfl, rfl, hx, hy⟩ := hp
  have hF : spRDivF.F [fx x, fx y] [] = (gotV (divN x y) (divE x y), []) := by
    show (gotV (divN (v2 [fx x, fx y] 0) (v2 [fx x, fx y] 1)) (divE (v2 [fx x, fx y] 0) (v2 [fx x, fx y] 1)), ([] : List Blk)) = _
    rw [v2_fx _ x 0 rfl, v2_fx _ y 1 rfl]
  rw [hF, v_r_Div, neg_hi, neg_hi]
  rintro x rfl y rfl t3 e3 j4 rfl t5 e5 j6 rfl t7 e7 q8 rfl t9 e9 q10 rfl t11 e11 t12 e12 t13 e13 t14 e14 t15 e15 t16 e16 t17 e17 t18 e18 t19 e19 t20 e20 t21 e21 c22 rfl
  have ax := abs_may hx
  have ay := abs_may hy
  have a3 : in128 j4 := by rw [e3]; exact abs_128 hy
  have a11 : in128 t11 := by rw [e11]; exact abs_128 hx
  rw [← e11, ← e12, ← e13, ← e19, ← e20] at e7
  rw [← e11, ← e12, ← e13, ← e19, ← e20, ← e21] at e9
  rw [← e11] at ax
  rw [← e3] at ay
  have hT : t13 = t11 * 36893488147419103232 := by rw [e13, e12, Int.zero_add, jn]; omega
  have h18 : t18 = t13 := by
    rw [e18, e13]
    show (0 + t12 + t11 % 18446744073709551616) * 36893488147419103232 % _ = _
    rfl
  rw [h18]
  have hP : in256 t13 := by unfold in256; omega
  have hS : in256 (t13 + j4) := by unfold in256; omega
  obtain ⟨c1, c2⟩ := carry hP a3 hS e19 e20 e21
  have h5 : j6 = 2 * j4 := by omega
  have hy0 : y = 0 ↔ j4 = 0 := by rw [e3]; unfold absI; split <;> omega
  rw [fo_lo a11, tw_lo, tw_hi, show IV.agg [.int .u64 0, .int .u64 1] = tw 1 from rfl, br_dec]
  refine ⟨fun h => ?_, fun h => ⟨may1_of hx, ⟨_, _, rfl, rfl, .inr rfl, by unfold in128 at a11; unfold in256; omega⟩, may1_of hy, p22_of (lo_128 _) a3, ?_⟩⟩
  · subst h
    unfold divN divE
    rw [if_pos rfl, if_pos rfl]; rfl
  · have hj : 0 < j4 := by have := a3.1; have := fun h' => h (hy0.2 h'); omega
    have a5 : in128 j6 := by unfold in128; omega
    have hquo : quoI x y = sgnI (!decide (x < 0) == decide (y < 0)) ((t13 + j4) / j6) := by
      unfold quoI; rw [bne_beq, ← e3, ← e11, h5, hT]
      congr 2
      omega
    have hd : gotV (divN x y) (divE x y) = gotV (numF (quoI x y)) (errF (quoI x y)) := by
      unfold divN divE; rw [if_neg h, if_neg h]
    have hq : in256 ((t13 + j4) / j6) := ⟨Int.ediv_nonneg hS.1 a5.1, by have := Int.ediv_le_self j6 hS.1; have := hS.2; omega⟩
    rw [hd, hquo, br_dec]
    refine ⟨fun h1 => ?_, fun h1 => ?_⟩
    · obtain ⟨c3, c4⟩ := c1 h1
      rw [c4] at e9
      rw [c3, e16, e14, e9]
      exact ⟨p22_of (hi_128 hP) ⟨by decide, by decide⟩, p22_of a3 a3, ⟨_, _, rfl, rfl, hS, a5⟩, ⟨_, _, rfl, rfl, hq⟩, rfl⟩
    · obtain ⟨c3, c4⟩ := c2 h1
      rw [c4] at e7
      rw [c3, e17, e15, e7]
      exact ⟨p22_of a3 a3, ⟨_, _, rfl, rfl, hS, a5⟩, ⟨_, _, rfl, rfl, hq⟩, rfl⟩
theorem sqrt_may {x : Int} (hx : mayF x) (h : ¬ x < 0) : isSqrt (x * 18446744073709551616) (sqrtI (x * 18446744073709551616)) ∧ 0 ≤ sqrtI (x * 18446744073709551616) ∧ sqrtI (x * 18446744073709551616) < 79228162514264337593543950336 := by
  unfold mayF at hx
  obtain ⟨s1, s2⟩ := isSqrt_of (A := x * 18446744073709551616) (by unfold in256; omega)
  exact ⟨s1, s2.1, sqrt_small s1 (by omega) (by decide)⟩
theorem sqN_may {x : Int} (hx : mayF x) : mayF (sqN x) ∧ 0 ≤ sqN x ∧ sqN x < 79228162514264337593543950336 := by
  unfold sqN
  by_cases h : x < 0
  · rw [if_pos h]; exact ⟨may_zero, by decide, by decide⟩
  · rw [if_neg h]
    obtain ⟨_, h1, h2⟩ := sqrt_may hx h
    exact ⟨by unfold mayF; omega, h1, h2⟩
noncomputable def spRSqrt : Vs.Spec := ⟨may1, fun l _ => (gotV (sqN (v2 l 0)) (sqE (v2 l 0)), [])⟩
theorem c_r_Sqrt : Contract Try.prog f_perigeeref1_Sqrt spRSqrt := by
  refine contract_of (N := Np) 3 (knowOf (fun g sp h => ctrsp h) (fun _ _ => rfl) (fun _ => rfl) 3) ?_
  intro l bs _ _ hp
  obtain ⟨x, rfl, rfl, hx⟩ := hp
  have hF : spRSqrt.F [fx x] [] = (gotV (sqN x) (sqE x), []) := by
    show (gotV (sqN (v2 [fx x] 0)) (sqE (v2 [fx x] 0)), ([] : List Blk)) = _
    rw [v2_fx _ x 0 rfl]
  rw [hF, v_r_Sqrt, neg_hi]
  rintro x rfl t2 e2 q3 rfl t4 e4 t5 e5 t6 e6 t7 e7
  have ax := abs_may hx
  have a4 : in128 t4 := by rw [e4]; exact abs_128 hx
  rw [fo_lo a4, br_dec]
  rw [Int.zero_add, jn] at e2 e6
  refine ⟨fun h => ?_, fun h => ?_⟩
  · unfold sqN sqE; rw [if_pos h, if_pos h]; rfl
  · obtain ⟨_, h1, h2⟩ := sqrt_may hx h
    have e2' : q3 = x * 18446744073709551616 := by
      rw [e2]; unfold absI at ax ⊢; rw [if_neg h] at ax ⊢; omega
    rw [← e2', ← e5] at h1 h2
    have i5 : in128 t5 := ⟨h1, by omega⟩
    have hx' := hx
    unfold mayF at hx'
    rw [fo_lo i5]
    refine ⟨may1_of hx, ⟨_, _, rfl, rfl, .inl rfl, by unfold in128 at a4; unfold in256; omega⟩, ⟨_, rfl, rfl, by unfold in256; omega⟩, ⟨_, _, rfl, rfl, by unfold in256; omega⟩, ?_⟩
    have h6 : t6 = t5 := e6
    have hm : mayF t5 := by unfold mayF; omega
    unfold sqN sqE
    rw [if_neg h, if_neg h, ← e2', ← e5, e7, h6, num_may hm, err_may hm]; rfl
noncomputable def spRHalf : Vs.Spec := spFHalf
theorem c_r_Half : Contract Try.prog f_perigeeref1_Half spFHalf := by
  refine contract_of (N := Np) 3 (knowOf (fun g sp h => ctrsp h) (fun _ _ => rfl) (fun _ => rfl) 3) ?_
  intro l bs _ _ hp
  obtain ⟨x, rfl, rfl, hx⟩ := hp
  have hF : spFHalf.F [fx x] [] = (fx (halfI x), []) := by
    show (fx (halfI (v2 [fx x] 0)), ([] : List Blk)) = _
    rw [v2_fx _ x 0 rfl]
  rw [hF, v_r_Half, neg_hi]
  rintro x rfl t2 e2 j3 rfl t4 e4 q5 rfl t6 e6 t7 e7
  have ax := abs_may hx
  have a2 : in128 j3 := by rw [e2]; exact abs_128 hx
  rw [← e2] at ax
  rw [← e6] at e4
  have i6 : in128 t6 := by rw [e6]; exact lo_128 _
  have h6 : t6 = j3 + 1 := by omega
  have e4' : q5 = t6 / 2 := by
    rw [e4, show (0 : Int) * 6277101735386680763835789423207666416102355444464034512896 + 0 * 340282366920938463463374607431768211456 = 0 from rfl, Int.zero_add, jn]; rfl
  rw [fo_lo i6, show IV.agg [.int .u64 0, .int .u64 1] = tw 1 from rfl]
  have hm := (half_range hx).1
  refine ⟨may1_of hx, p22_of a2 ⟨by decide, by decide⟩, ⟨_, _, rfl, rfl, .inl rfl, by unfold in256; omega⟩, ⟨_, _, rfl, rfl, by unfold in256; omega⟩, ?_⟩
  have : sgnI (decide (x < 0)) q5 = halfI x := by rw [e4', h6, e2]; rfl
  rw [e7, this, num_may hm]
theorem c_r_Floor : Contract Try.prog f_perigeeref1_Floor spFloor := by
  refine contract_of (N := Np) 3 (knowOf (fun g sp h => ctrsp h) (fun _ _ => rfl) (fun _ => rfl) 3) ?_
  intro l bs _ _ hp
  obtain ⟨hl, hb, h0, h1⟩ := (show preF l bs from hp)
  subst hb
  obtain ⟨a, b, rfl⟩ : ∃ a b, l = [.agg [.int .i64 a, .int .u64 b]] := ⟨_, _, hl⟩
  change i64ok a at h0
  change u64ok b at h1
  have e : (IV.agg [.int .i64 a, .int .u64 b]) = fx (a * 18446744073709551616 + b) := (fx_mk2 h1 rfl).symm
  have hF : spFloor.F [.agg [.int .i64 a, .int .u64 b]] [] = (.int .i64 ((a * 18446744073709551616 + b) / 18446744073709551616), []) := rfl
  rw [hF, e, v_r_Floor]
end Go.Vs.RF
