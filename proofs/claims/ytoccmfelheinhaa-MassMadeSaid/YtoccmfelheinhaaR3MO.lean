import Derived.Test.YtoccmfelheinhaaR3E
import Derived.Test.YtoccmfelheinhaaR3EC
set_option linter.unusedVariables false
/- morton: places as keys; how wide a level is -/
namespace Go.Vs.RF
open Go Go.Proofs Go.Vs
def rowI (x : Int) : Int := mx .i64 (-2147483648) (mn .i64 (x / 18446744073709551616) 2147483647) + 2147483648
def kq (A : BitVec 64) : Nat → BitVec 64
  | 0 => 0
  | n + 1 => kq A n ||| ((A >>> n) &&& 1) <<< (2 * n)
def spI (x : Int) : Int := ((kq (BitVec.ofInt 64 x) 32).toNat : Int)
def kyB (a b : Int) (n : Nat) : BitVec 64 := kq (BitVec.ofInt 64 a) n ||| (kq (BitVec.ofInt 64 b) n) <<< 1
def keyI (a b : Int) : Int := ((kyB a b 32).toNat : Int)
def u32ok (n : Int) : Prop := 0 ≤ n ∧ n < 4294967296
def pSpr (l : List IV) (bs : List Blk) : Prop := ∃ x, l = [.int .u32 x] ∧ bs = [] ∧ u32ok x
noncomputable def spSpr : Vs.Spec := ⟨pSpr, fun l _ => (.int .u64 (spI (argI l 0 0)), [])⟩
theorem v_spread (x : Int) (K : IV → List Blk → Prop) : (comes Try.prog Nt3 3 f_morton_spread [.int .u32 x] [] K) = (∀ (t1 : Int), t1 = IntKind.u64.wrap (↑(BitVec.ofInt (64 : Nat) (IntKind.u64.wrap (↑(BitVec.ofInt (64 : Nat) (IntKind.u64.wrap x) ||| BitVec.ofInt (64 : Nat) (IntKind.u64.wrap (IntKind.u64.wrap x * (65536 : Int)))).toNat : Int)) &&& BitVec.ofInt (64 : Nat) (281470681808895 : Int)).toNat : Int) → ∀ (t2 : Int), t2 = IntKind.u64.wrap (↑(BitVec.ofInt (64 : Nat) (IntKind.u64.wrap (↑(BitVec.ofInt (64 : Nat) t1 ||| BitVec.ofInt (64 : Nat) (IntKind.u64.wrap (t1 * (256 : Int)))).toNat : Int)) &&& BitVec.ofInt (64 : Nat) (71777214294589695 : Int)).toNat : Int) → ∀ (t3 : Int), t3 = IntKind.u64.wrap (↑(BitVec.ofInt (64 : Nat) (IntKind.u64.wrap (↑(BitVec.ofInt (64 : Nat) t2 ||| BitVec.ofInt (64 : Nat) (IntKind.u64.wrap (t2 * (16 : Int)))).toNat : Int)) &&& BitVec.ofInt (64 : Nat) (1085102592571150095 : Int)).toNat : Int) → ∀ (t4 : Int), t4 = IntKind.u64.wrap (↑(BitVec.ofInt (64 : Nat) (IntKind.u64.wrap (↑(BitVec.ofInt (64 : Nat) t3 ||| BitVec.ofInt (64 : Nat) (IntKind.u64.wrap (t3 * (4 : Int)))).toNat : Int)) &&& BitVec.ofInt (64 : Nat) (3689348814741910323 : Int)).toNat : Int) → ((0 : Int) ≤ (0 : Int) ∧ (0 : Int) < (5 : Int)) ∧ (0 : Int) ≤ (0 : Int) ∧ (0 : Int) ≤ (16 : Int) ∧ ((0 : Int) ≤ (1 : Int) ∧ (1 : Int) < (5 : Int)) ∧ (0 : Int) ≤ (1 : Int) ∧ (0 : Int) ≤ (8 : Int) ∧ ((0 : Int) ≤ (2 : Int) ∧ (2 : Int) < (5 : Int)) ∧ (0 : Int) ≤ (2 : Int) ∧ (0 : Int) ≤ (4 : Int) ∧ ((0 : Int) ≤ (3 : Int) ∧ (3 : Int) < (5 : Int)) ∧ (0 : Int) ≤ (3 : Int) ∧ (0 : Int) ≤ (2 : Int) ∧ ((0 : Int) ≤ (4 : Int) ∧ (4 : Int) < (5 : Int)) ∧ (0 : Int) ≤ (4 : Int) ∧ (0 : Int) ≤ (1 : Int) ∧ K (IV.int IntKind.u64 (IntKind.u64.wrap (↑(BitVec.ofInt (64 : Nat) (IntKind.u64.wrap (↑(BitVec.ofInt (64 : Nat) t4 ||| BitVec.ofInt (64 : Nat) (IntKind.u64.wrap (t4 * (2 : Int)))).toNat : Int)) &&& BitVec.ofInt (64 : Nat) (6148914691236517205 : Int)).toNat : Int))) []) := by refine nm ?_; refine nm ?_; refine nm ?_; refine nm ?_; kernel_rfl
def pRow (l : List IV) (bs : List Blk) : Prop := ∃ x, l = [fx x] ∧ bs = [] ∧ inF x
noncomputable def spRow : Vs.Spec := ⟨pRow, fun l _ => (.int .u32 (rowI (v2 l 0)), [])⟩
theorem v_row (x : Int) (K : IV → List Blk → Prop) : (comes Try.prog Nt3 3 f_morton_row [fx x] [] K) = (∀ (j1 : Int), j1 = x → preF [fx x] [] ∧ K (IV.int IntKind.u32 (IntKind.u32.wrap (IntKind.i64.wrap (mx IntKind.i64 (-2147483648 : Int) (mn IntKind.i64 (j1 / (18446744073709551616 : Int)) (2147483647 : Int)) + (2147483648 : Int))))) []) := by refine nj ?_; kernel_rfl
theorem v_part (x : Int) (K : IV → List Blk → Prop) : (comes Try.prog Nt3 3 f_perigeeref6_part [fx x] [] K) = (∀ (j1 : Int), j1 = x → preF [fx x] [] ∧ K (IV.int IntKind.u32 (IntKind.u32.wrap (IntKind.i64.wrap (mx IntKind.i64 (-2147483648 : Int) (mn IntKind.i64 (j1 / (18446744073709551616 : Int)) (2147483647 : Int)) + (2147483648 : Int))))) []) := by refine nj ?_; kernel_rfl
noncomputable def Γk1 : FuncId → Option Vs.Spec := fun g => if g = f_morton_spread then some spSpr else if g = f_morton_row then some spRow else if g = f_perigeeref6_part then some spRow else Γt3 g
noncomputable def Nk1 : Know := ⟨Γk1, fun _ _ => none, fun _ => none⟩
def Sky (a b n i : Int) : St := ⟨T 32 [(0, .int .u32 a), (1, .int .u32 b), (5, .int .u64 n), (6, .int .i64 i)], []⟩
theorem rKey (Λ : FuncId → Nat → Option LoopS) (d : Nat) (a b n i : Int) (k : Out → St → Prop) : (round (envOf Try.prog ⟨Γk1, Λ, fun _ => none⟩ d) f_perigeeref6_Key 0 0 (lp Try.prog f_perigeeref6_Key 0) (Sky a b n i) k) = (∀ (t1 : Int), t1 = (2 : Int) ^ min i.toNat (64 : Nat) → ∀ (t2 : Int), t2 = IntKind.i64.wrap (IntKind.i64.wrap ((2 : Int) * i) + (1 : Int)) → br (decide (i < (32 : Int))) ((0 : Int) ≤ i ∧ (0 : Int) ≤ IntKind.i64.wrap ((2 : Int) * i) ∧ (0 : Int) ≤ i ∧ (0 : Int) ≤ t2 ∧ k Out.normal (St.mk (T (32 : Nat) [((0 : Nat), IV.int IntKind.u32 a), ((1 : Nat), IV.int IntKind.u32 b), ((5 : Nat), IV.int IntKind.u64 (IntKind.u64.wrap (↑(BitVec.ofInt (64 : Nat) n ||| BitVec.ofInt (64 : Nat) (IntKind.u64.wrap (↑(BitVec.ofInt (64 : Nat) (IntKind.u64.wrap (IntKind.u64.wrap (↑(BitVec.ofInt (64 : Nat) ((IntKind.u64.wrap a).fdiv t1) &&& BitVec.ofInt (64 : Nat) (1 : Int)).toNat : Int) * (2 : Int) ^ min (IntKind.i64.wrap ((2 : Int) * i)).toNat (64 : Nat))) ||| BitVec.ofInt (64 : Nat) (IntKind.u64.wrap (IntKind.u64.wrap (↑(BitVec.ofInt (64 : Nat) ((IntKind.u64.wrap b).fdiv t1) &&& BitVec.ofInt (64 : Nat) (1 : Int)).toNat : Int) * (2 : Int) ^ min t2.toNat (64 : Nat)))).toNat : Int))).toNat : Int))), ((6 : Nat), IV.int IntKind.i64 (IntKind.i64.wrap (i + (1 : Int))))]) [])) (k (Out.exit (0 : Nat)) (St.mk (T (32 : Nat) [((5 : Nat), IV.int IntKind.u64 n)]) []))) := by refine nm ?_; refine nm ?_; kernel_rfl
def pKy0 (n0 : Nat) (st : St) (a b : Int) : Prop := u32ok a ∧ u32ok b ∧ n0 = 0 ∧ st = Sky a b 0 0
noncomputable def Lky : LoopS := fun n0 st K => ∃ a b, pKy0 n0 st a b ∧ K (.exit 0) ⟨T 32 [(5, .int .u64 (keyI a b))], []⟩
noncomputable def Nky : Know := ⟨Γk1, fun f i => if f = f_perigeeref6_Key then (if i = 0 then some Lky else none) else none, fun _ => none⟩
theorem v_Key (a b : Int) (K : IV → List Blk → Prop) : (comes Try.prog Nky 3 f_perigeeref6_Key [.int .u32 a, .int .u32 b] [] K) = (∃ a_1 b_1, pKy0 (0 : Nat) (St.mk (T (32 : Nat) [((0 : Nat), IV.int IntKind.u32 a), ((1 : Nat), IV.int IntKind.u32 b), ((5 : Nat), IV.int IntKind.u64 (0 : Int)), ((6 : Nat), IV.int IntKind.i64 (0 : Int))]) []) a_1 b_1 ∧ K (IV.int IntKind.u64 (keyI a_1 b_1)) []) := by kernel_rfl
def pKy (l : List IV) (bs : List Blk) : Prop := ∃ a b, l = [.int .u32 a, .int .u32 b] ∧ bs = [] ∧ u32ok a ∧ u32ok b
noncomputable def spKy : Vs.Spec := ⟨pKy, fun l _ => (.int .u64 (keyI (argI l 0 0) (argI l 1 0)), [])⟩
noncomputable def Γk2 : FuncId → Option Vs.Spec := fun g => if g = f_perigeeref6_Key then some spKy else Γk1 g
noncomputable def Nk2 : Know := ⟨Γk2, fun _ _ => none, fun _ => none⟩
theorem v_Of (x y : Int) (K : IV → List Blk → Prop) : (comes Try.prog Nk2 4 f_morton_Of [vx x y] [] K) = (∀ (j1 : Int), j1 = x → ∀ (j2 : Int), j2 = y → ∀ (t3 : Int), t3 = rowI j1 → ∀ (t4 : Int), t4 = rowI j2 → pRow [fx x] [] ∧ pRow [fx y] [] ∧ pSpr [IV.int IntKind.u32 t3] [] ∧ pSpr [IV.int IntKind.u32 t4] [] ∧ (0 : Int) ≤ (1 : Int) ∧ K (IV.int IntKind.u64 (IntKind.u64.wrap (↑(BitVec.ofInt (64 : Nat) (spI t3) ||| BitVec.ofInt (64 : Nat) (IntKind.u64.wrap (spI t4 * (2 : Int)))).toNat : Int))) []) := by refine nj ?_; refine nj ?_; refine nm ?_; refine nm ?_; kernel_rfl
theorem v_ROf (x y : Int) (K : IV → List Blk → Prop) : (comes Try.prog Nk2 4 f_perigeeref6_Of [vx x y] [] K) = (∀ (j1 : Int), j1 = x → ∀ (j2 : Int), j2 = y → ∀ (t3 : Int), t3 = rowI j1 → ∀ (t4 : Int), t4 = rowI j2 → pRow [fx x] [] ∧ pRow [fx y] [] ∧ pKy [IV.int IntKind.u32 t3, IV.int IntKind.u32 t4] [] ∧ K (IV.int IntKind.u64 (keyI t3 t4)) []) := by refine nj ?_; refine nj ?_; refine nm ?_; refine nm ?_; kernel_rfl
noncomputable def spKeyOf : Vs.Spec := ⟨vin1, fun l _ => (.int .u64 (keyI (rowI (v2 l 0)) (rowI (vy l 0))), [])⟩
def widI (n : Int) : Int := IntKind.i64.wrap (1 * 2 ^ min (IntKind.i64.wrap (32 - mx .i64 0 (mn .i64 n 32))).toNat 64) * 18446744073709551616
def pWid (l : List IV) (bs : List Blk) : Prop := ∃ n, l = [.int .i64 n] ∧ bs = [] ∧ i64ok n
noncomputable def spWid : Vs.Spec := ⟨pWid, fun l _ => (fx (widI (argI l 0 0)), [])⟩
theorem v_Width (n : Int) (K : IV → List Blk → Prop) : (comes Try.prog Nt3 3 f_tree_Width [.int .i64 n] [] K) = (∀ (t1 : Int), t1 = IntKind.i64.wrap ((32 : Int) - mx IntKind.i64 (0 : Int) (mn IntKind.i64 n (32 : Int))) → ∀ (t2 : Int), t2 = IntKind.i64.wrap ((1 : Int) * (2 : Int) ^ min t1.toNat (64 : Nat)) → ∀ (t3 : Int), t3 = mx IntKind.i64 t2 (-9223372036854775807 : Int) * (18446744073709551616 : Int) → (0 : Int) ≤ t1 ∧ preI [IV.int IntKind.i64 t2] [] ∧ K (fx t3) []) := by refine nm ?_; refine nm ?_; refine nm ?_; kernel_rfl
theorem v_RWidth (n : Int) (K : IV → List Blk → Prop) : (comes Try.prog Nt3 3 f_perigeeref6_Width [.int .i64 n] [] K) = (∀ (t1 : Int), t1 = IntKind.i64.wrap ((32 : Int) - mx IntKind.i64 (0 : Int) (mn IntKind.i64 n (32 : Int))) → ∀ (t2 : Int), t2 = IntKind.i64.wrap ((1 : Int) * (2 : Int) ^ min t1.toNat (64 : Nat)) → ∀ (t3 : Int), t3 = mx IntKind.i64 t2 (-9223372036854775807 : Int) * (18446744073709551616 : Int) → (0 : Int) ≤ t1 ∧ preI [IV.int IntKind.i64 t2] [] ∧ K (fx t3) []) := by refine nm ?_; refine nm ?_; refine nm ?_; kernel_rfl
end Go.Vs.RF


set_option linter.unusedVariables false
set_option linter.unusedSimpArgs false
set_option maxRecDepth 100000
/- morton: places as keys, both ways the same; how wide a level is -/
namespace Go.Vs.RF
open Go Go.Proofs Go.Vs Go.IntWalk

def stB (X : BitVec 64) (s : Nat) (M : BitVec 64) : BitVec 64 := (X ||| X <<< s) &&& M
def spB (X : BitVec 64) : BitVec 64 := stB (stB (stB (stB (stB X 16 281470681808895#64) 8 71777214294589695#64) 4 1085102592571150095#64) 2 3689348814741910323#64) 1 6148914691236517205#64
theorem stB_or (X Y : BitVec 64) (s : Nat) (M : BitVec 64) : stB (X ||| Y) s M = stB X s M ||| stB Y s M := by
  unfold stB
  apply BitVec.eq_of_getLsbD_eq
  intro i hi
  simp only [BitVec.getLsbD_and, BitVec.getLsbD_or, BitVec.getLsbD_shiftLeft]
  cases X.getLsbD i <;> cases Y.getLsbD i <;> cases M.getLsbD i <;> simp
  all_goals cases X.getLsbD (i - s) <;> cases Y.getLsbD (i - s) <;> simp
theorem spB_or (X Y : BitVec 64) : spB (X ||| Y) = spB X ||| spB Y := by
  unfold spB
  rw [stB_or, stB_or, stB_or, stB_or, stB_or]
def lowB (A : BitVec 64) : Nat → BitVec 64
  | 0 => 0
  | n + 1 => lowB A n ||| ((A >>> n) &&& 1) <<< n
theorem and_one (Y : BitVec 64) : Y &&& 1 = 0 ∨ Y &&& 1 = 1 := by
  by_cases h : Y.getLsbD 0 = true
  · right
    apply BitVec.eq_of_getLsbD_eq
    intro i hi
    rw [BitVec.getLsbD_and]
    by_cases h0 : i = 0
    · subst h0; rw [h]; rfl
    · have : (1 : BitVec 64).getLsbD i = false := by
        rw [show (1 : BitVec 64) = 1#64 from rfl, BitVec.getLsbD_one]
        simp [h0]
      rw [this, Bool.and_false]
  · left
    apply BitVec.eq_of_getLsbD_eq
    intro i hi
    rw [BitVec.getLsbD_and]
    by_cases h0 : i = 0
    · subst h0
      have : Y.getLsbD 0 = false := by simpa using h
      rw [this]; simp
    · have : (1 : BitVec 64).getLsbD i = false := by
        rw [show (1 : BitVec 64) = 1#64 from rfl, BitVec.getLsbD_one]
        simp [h0]
      rw [this, Bool.and_false]; simp
theorem sp_unit : ∀ n, n < 32 → spB ((1 : BitVec 64) <<< n) = (1 : BitVec 64) <<< (2 * n) := by decide
theorem sp_low (A : BitVec 64) : ∀ n, n ≤ 32 → spB (lowB A n) = kq A n
  | 0, _ => by show spB 0 = 0; decide
  | n + 1, h => by
    unfold lowB kq
    rw [spB_or, sp_low A n (by omega)]
    rcases and_one (A >>> n) with e | e
    · rw [e]
      rw [show (0 : BitVec 64) <<< n = 0 by simp, show (0 : BitVec 64) <<< (2 * n) = 0 by simp, show spB 0 = 0 by decide]
    · rw [e, sp_unit n (by omega)]
theorem low_bit (A : BitVec 64) (i : Nat) (hi : i < 64) : ∀ n, n ≤ 64 → (lowB A n).getLsbD i = (decide (i < n) && A.getLsbD i)
  | 0, _ => by unfold lowB; simp
  | n + 1, h => by
    unfold lowB
    rw [BitVec.getLsbD_or, low_bit A i hi n (by omega), BitVec.getLsbD_shiftLeft, BitVec.getLsbD_and, BitVec.getLsbD_ushiftRight, show (1 : BitVec 64) = 1#64 from rfl, BitVec.getLsbD_one]
    rw [decide_eq_true hi, Bool.true_and]
    rcases Nat.lt_trichotomy i n with h1 | h1 | h1
    · simp [h1, show i < n + 1 by omega]
    · subst h1; simp
    · simp [show ¬ i < n by omega, show ¬ i < n + 1 by omega, show i - n ≠ 0 by omega]
theorem low_all {A : BitVec 64} (h : A.toNat < 4294967296) : lowB A 32 = A := by
  apply BitVec.eq_of_getLsbD_eq
  intro i hi
  rw [low_bit A i hi 32 (by decide)]
  by_cases h1 : i < 32
  · simp [h1]
  · have : A.getLsbD i = false := by
      show A.toNat.testBit i = false
      refine Nat.testBit_lt_two_pow (Nat.lt_of_lt_of_le (show A.toNat < 2 ^ 32 from h) ?_)
      exact Nat.pow_le_pow_right (n := 2) (by decide) (show 32 ≤ i by omega)
    simp [h1, this]
theorem spread_eq {A : BitVec 64} (h : A.toNat < 4294967296) : spB A = kq A 32 := by
  have := sp_low A 32 (Nat.le_refl _)
  rwa [low_all h] at this
theorem of_bv (X : BitVec 64) : BitVec.ofInt 64 (X.toNat : Int) = X := by simp
theorem u64_bv (X : BitVec 64) : IntKind.u64.wrap (X.toNat : Int) = X.toNat := u64_in _ (by have := X.isLt; omega)
theorem u64_mod (n : Int) : IntKind.u64.wrap n = n % 18446744073709551616 := by
  unfold IntKind.wrap
  simp only [show IntKind.signed .u64 = false from rfl, show IntKind.bits .u64 = 64 from rfl, Bool.false_and, Bool.false_eq_true, if_false]
  rw [show (2 : Int) ^ 64 = 18446744073709551616 by decide]
theorem u64_shl (X : BitVec 64) (s : Nat) : IntKind.u64.wrap ((X.toNat : Int) * 2 ^ s) = ((X <<< s).toNat : Int) := by
  rw [u64_mod, BitVec.toNat_shiftLeft, Nat.shiftLeft_eq, Int.natCast_emod, Int.natCast_mul, Int.natCast_pow]
  rfl
theorem st_int (X : BitVec 64) (s : Nat) (c m : Int) (hc : c = 2 ^ s) : IntKind.u64.wrap ((BitVec.ofInt 64 (IntKind.u64.wrap ((X ||| BitVec.ofInt 64 (IntKind.u64.wrap ((X.toNat : Int) * c))).toNat : Int)) &&& BitVec.ofInt 64 m).toNat : Int) = ((stB X s (BitVec.ofInt 64 m)).toNat : Int) := by
  subst hc
  simp only [u64_shl, of_bv, u64_bv]
  rfl
theorem ofInt_of {a : Int} (h : 0 ≤ a) (h2 : a < 18446744073709551616) : a = ((BitVec.ofInt 64 a).toNat : Int) := by
  rw [BitVec.toNat_ofInt]
  have : (a % ((2 ^ 64 : Nat) : Int)) = a := Int.emod_eq_of_lt h (by simpa using h2)
  rw [this]; omega
theorem knowt3k : KnowOk Try.prog Nt3 3 := knowt3
theorem c_spread : Contract Try.prog f_morton_spread spSpr := by
  refine contract_of (N := Nt3) 3 knowt3 ?_
  rintro l bs _ _ ⟨x, rfl, rfl, hx⟩
  show comes _ _ _ _ _ _ fun v bs' => (IV.int .u64 (spI x), ([] : List Blk)) = (v, bs')
  rw [v_spread, u64_in x ⟨hx.1, by have := hx.2; omega⟩]
  have e0 : x = ((BitVec.ofInt 64 x).toNat : Int) := ofInt_of hx.1 (by have := hx.2; omega)
  have hlt : (BitVec.ofInt 64 x).toNat < 4294967296 := by have := hx.2; omega
  have hF : spI x = ((spB (BitVec.ofInt 64 x)).toNat : Int) := by unfold spI; rw [spread_eq hlt]
  rw [hF]
  generalize BitVec.ofInt 64 x = X at e0
  subst e0
  intro t1 e1 t2 e2 t3 e3 t4 e4
  rw [st_int X 16 65536 281470681808895 (by decide)] at e1
  subst e1
  rw [of_bv, st_int _ 8 256 71777214294589695 (by decide)] at e2
  subst e2
  rw [of_bv, st_int _ 4 16 1085102592571150095 (by decide)] at e3
  subst e3
  rw [of_bv, st_int _ 2 4 3689348814741910323 (by decide)] at e4
  subst e4
  refine ⟨by decide, by decide, by decide, by decide, by decide, by decide, by decide, by decide, by decide, by decide, by decide, by decide, by decide, by decide, by decide, ?_⟩
  rw [of_bv, st_int _ 1 2 6148914691236517205 (by decide)]
  rfl
theorem row_ok (x : Int) : u32ok (rowI x) := by
  unfold rowI u32ok mx mn
  split <;> split <;> omega
theorem c_row : Contract Try.prog f_morton_row spRow := by
  refine contract_of (N := Nt3) 3 knowt3 ?_
  rintro l bs _ _ ⟨x, rfl, rfl, hx⟩
  show comes _ _ _ _ _ _ fun v bs' => (IV.int .u32 (rowI (v2 [fx x] 0)), ([] : List Blk)) = (v, bs')
  rw [v2_fx _ x 0 rfl, v_row]
  rintro j1 rfl
  have h := row_ok j1
  have e : mx .i64 (-2147483648) (mn .i64 (j1 / 18446744073709551616) 2147483647) + 2147483648 = rowI j1 := rfl
  rw [e, i64_in (rowI j1) ⟨by have := h.1; omega, by have := h.2; omega⟩, u32_in (rowI j1) ⟨h.1, by have := h.2; omega⟩]
  exact ⟨preF_in hx, rfl⟩
theorem c_part : Contract Try.prog f_perigeeref6_part spRow := by
  refine contract_of (N := Nt3) 3 knowt3 ?_
  rintro l bs _ _ ⟨x, rfl, rfl, hx⟩
  show comes _ _ _ _ _ _ fun v bs' => (IV.int .u32 (rowI (v2 [fx x] 0)), ([] : List Blk)) = (v, bs')
  rw [v2_fx _ x 0 rfl, v_part]
  rintro j1 rfl
  have h := row_ok j1
  have e : mx .i64 (-2147483648) (mn .i64 (j1 / 18446744073709551616) 2147483647) + 2147483648 = rowI j1 := rfl
  rw [e, i64_in (rowI j1) ⟨by have := h.1; omega, by have := h.2; omega⟩, u32_in (rowI j1) ⟨h.1, by have := h.2; omega⟩]
  exact ⟨preF_in hx, rfl⟩
theorem ctrsk1' : ∀ {g : FuncId} {sp : Vs.Spec}, Γk1 g = some sp → Contract Try.prog g sp := ext_ok c_spread (ext_ok c_row (ext_ok c_part ctrst3))
theorem knowk1 : KnowOk Try.prog Nk1 3 := knowOf (fun g sp h => ctrsk1' h) (fun _ _ => rfl) (fun _ => rfl) 3
theorem kyB_succ (a b : Int) (n : Nat) : kyB a b (n + 1) = kyB a b n ||| ((((BitVec.ofInt 64 a) >>> n) &&& 1) <<< (2 * n) ||| (((BitVec.ofInt 64 b) >>> n) &&& 1) <<< (2 * n + 1)) := by
  have e : ∀ A : BitVec 64, kq A (n + 1) = kq A n ||| ((A >>> n) &&& 1) <<< (2 * n) := fun _ => rfl
  unfold kyB
  rw [e, e, BitVec.shiftLeft_or_distrib, ← BitVec.shiftLeft_add]
  apply BitVec.eq_of_getLsbD_eq
  intro i hi
  simp only [BitVec.getLsbD_or]
  generalize BitVec.getLsbD (kq (BitVec.ofInt 64 a) n) i = p
  generalize BitVec.getLsbD (kq (BitVec.ofInt 64 b) n <<< 1) i = q
  generalize BitVec.getLsbD ((BitVec.ofInt 64 a >>> n &&& 1) <<< (2 * n)) i = r
  generalize BitVec.getLsbD ((BitVec.ofInt 64 b >>> n &&& 1) <<< (2 * n + 1)) i = s
  cases p <;> cases q <;> cases r <;> cases s <;> rfl
theorem bit_int {a : Int} (h0 : 0 ≤ a) (h1 : a < 4294967296) (i s : Nat) : IntKind.u64.wrap (IntKind.u64.wrap (((BitVec.ofInt 64 (a.fdiv (2 ^ i)) &&& BitVec.ofInt 64 1).toNat : Nat) : Int) * 2 ^ s) = (((((BitVec.ofInt 64 a) >>> i) &&& 1) <<< s).toNat : Int) := by
  have e : BitVec.ofInt 64 (a.fdiv (2 ^ i)) = (BitVec.ofInt 64 a) >>> i := by
    apply BitVec.eq_of_toNat_eq
    rw [BitVec.toNat_ofInt, BitVec.toNat_ushiftRight, BitVec.toNat_ofInt, Nat.shiftRight_eq_div_pow]
    have p : (0 : Int) < 2 ^ i := Int.pow_pos (by decide)
    rw [Int.fdiv_eq_ediv_of_nonneg _ (by omega)]
    have q0 : 0 ≤ a / 2 ^ i := Int.ediv_nonneg h0 (by omega)
    have q1 : a / 2 ^ i ≤ a := Int.ediv_le_self _ h0
    rw [Int.emod_eq_of_lt q0 (by simp; omega), Int.emod_eq_of_lt h0 (by simp; omega)]
    obtain ⟨n, rfl⟩ := Int.eq_ofNat_of_zero_le h0
    have : ((n : Int) / 2 ^ i) = ((n / 2 ^ i : Nat) : Int) := by rw [Int.natCast_ediv, Int.natCast_pow]; rfl
    rw [this, Int.toNat_natCast, Int.toNat_natCast]
  rw [e, show BitVec.ofInt 64 1 = (1 : BitVec 64) by decide, u64_bv, u64_shl]
theorem lKey (d n0 : Nat) : LoopOk (envOf Try.prog Nky d) f_perigeeref6_Key n0 0 (lp Try.prog f_perigeeref6_Key 0) Lky := by
  intro st K hst
  obtain ⟨a, b, ⟨ha, hb, rfl, rfl⟩, hK⟩ := hst
  have e0 : ((kyB a b 0).toNat : Int) = 0 := by show (((0 : BitVec 64) ||| (0 : BitVec 64) <<< 1).toNat : Int) = 0; decide
  rw [show Sky a b 0 0 = Sky a b ((kyB a b 0).toNat : Int) ((0 : Nat) : Int) by rw [e0]; rfl]
  refine loop_of (fun i : Nat => Sky a b ((kyB a b i).toNat : Int) i) (fun i => i ≤ 32) (fun i => 32 - i) ?_ (a := 0) (Nat.zero_le _)
  intro i hle k hn hk
  show round (envOf Try.prog ⟨Γk1, _, fun _ => none⟩ d) _ _ _ _ _ k
  rw [rKey]
  rintro t1 rfl t2 e2
  rw [i64_in (2 * (i : Int)) (by omega), i64_in (2 * (i : Int) + 1) (by omega)] at e2
  rw [i64_in (2 * (i : Int)) (by omega), br_dec]
  constructor
  · intro hi
    have T2 : min t2.toNat 64 = 2 * i + 1 := by omega
    rw [T2, show min (2 * (i : Int)).toNat 64 = 2 * i by omega, show min ((i : Nat) : Int).toNat 64 = i by omega]
    rw [u64_in a ⟨ha.1, by have := ha.2; omega⟩, u64_in b ⟨hb.1, by have := hb.2; omega⟩, bit_int ha.1 ha.2, bit_int hb.1 hb.2, of_bv, of_bv, of_bv, u64_bv, u64_bv, of_bv, ← kyB_succ, i64_in ((i : Int) + 1) (by omega)]
    exact ⟨by omega, by omega, by omega, by omega, hn (i + 1) (by omega) (by omega)⟩
  · intro hi
    have hi' : i = 32 := by omega
    subst hi'
    exact hk _ _ (by simp) hK
theorem c_Key : Contract Try.prog f_perigeeref6_Key spKy := by
  refine contract_of (N := Nky) 3 (know_loop (f0 := f_perigeeref6_Key) (L := Lky) (fun g sp h => ctrsk1' h) rfl (fun g G h => by cases h) lKey 3) ?_
  rintro l bs _ _ ⟨a, b, rfl, rfl, ha, hb⟩
  show comes _ _ _ _ _ _ fun v bs' => (IV.int .u64 (keyI a b), ([] : List Blk)) = (v, bs')
  rw [v_Key]
  exact ⟨a, b, ⟨ha, hb, rfl, rfl⟩, rfl⟩
theorem ctrsk2' : ∀ {g : FuncId} {sp : Vs.Spec}, Γk2 g = some sp → Contract Try.prog g sp := ext_ok c_Key ctrsk1'
theorem knowk2 : KnowOk Try.prog Nk2 4 := knowOf (fun g sp h => ctrsk2' h) (fun _ _ => rfl) (fun _ => rfl) 4
theorem c_Of : Contract Try.prog f_morton_Of spKeyOf := by
  refine contract_of (N := Nk2) 4 knowk2 ?_
  rintro l bs _ _ ⟨x, y, rfl, rfl, hx, hy⟩
  show comes _ _ _ _ _ _ fun v bs' => (IV.int .u64 (keyI (rowI (v2 [vx x y] 0)) (rowI (vy [vx x y] 0))), ([] : List Blk)) = (v, bs')
  rw [(v_vx _ x y 0 rfl).1, (v_vx _ x y 0 rfl).2, v_Of]
  rintro j1 rfl j2 rfl t3 rfl t4 rfl
  refine ⟨⟨j1, rfl, rfl, hx⟩, ⟨j2, rfl, rfl, hy⟩, ⟨_, rfl, rfl, row_ok _⟩, ⟨_, rfl, rfl, row_ok _⟩, by decide, ?_⟩
  unfold spI keyI kyB
  rw [show (2 : Int) = 2 ^ 1 by decide, u64_shl, of_bv, of_bv, u64_bv]
theorem c_ROf : Contract Try.prog f_perigeeref6_Of spKeyOf := by
  refine contract_of (N := Nk2) 4 knowk2 ?_
  rintro l bs _ _ ⟨x, y, rfl, rfl, hx, hy⟩
  show comes _ _ _ _ _ _ fun v bs' => (IV.int .u64 (keyI (rowI (v2 [vx x y] 0)) (rowI (vy [vx x y] 0))), ([] : List Blk)) = (v, bs')
  rw [(v_vx _ x y 0 rfl).1, (v_vx _ x y 0 rfl).2, v_ROf]
  rintro j1 rfl j2 rfl t3 rfl t4 rfl
  exact ⟨⟨j1, rfl, rfl, hx⟩, ⟨j2, rfl, rfl, hy⟩, ⟨_, _, rfl, rfl, row_ok _, row_ok _⟩, rfl⟩
theorem key_u64 (a b : Int) : 0 ≤ keyI a b ∧ keyI a b < 18446744073709551616 := by
  unfold keyI
  have := (kyB a b 32).isLt
  omega
theorem mx_of' {k : Int} (h : -9223372036854775807 ≤ k) : mx .i64 k (-9223372036854775807) = k := by unfold mx; rw [if_neg (by omega)]
theorem wid_lem {n : Int} (h : i64ok n) {K : Int → Prop} (hK : K (widI n)) :
    ∀ t1 : Int, t1 = IntKind.i64.wrap (32 - mx .i64 0 (mn .i64 n 32)) → ∀ t2 : Int, t2 = IntKind.i64.wrap (1 * 2 ^ min t1.toNat 64) → ∀ t3 : Int, t3 = mx .i64 t2 (-9223372036854775807) * 18446744073709551616 → 0 ≤ t1 ∧ preI [.int .i64 t2] [] ∧ K t3 := by
  intro t1 e1 t2 e2 t3 e3
  have b : 0 ≤ 32 - mx .i64 0 (mn .i64 n 32) ∧ 32 - mx .i64 0 (mn .i64 n 32) ≤ 32 := by
    unfold mx mn; split <;> split <;> omega
  have T1 : t1 = 32 - mx .i64 0 (mn .i64 n 32) := by rw [e1, i64_in _ (by omega)]
  have hm : min t1.toNat 64 ≤ 32 := by omega
  have p1 : (2 : Int) ^ min t1.toNat 64 ≤ 2 ^ 32 := by
    have := Nat.pow_le_pow_right (show 0 < 2 by decide) hm
    exact_mod_cast this
  have p0 : (0 : Int) < 2 ^ min t1.toNat 64 := Int.pow_pos (by decide)
  have q : (2 : Int) ^ 32 = 4294967296 := by decide
  have T2 : t2 = 1 * 2 ^ min t1.toNat 64 := by rw [e2, i64_in _ (by omega)]
  refine ⟨by omega, preI_of ⟨by omega, by omega⟩, ?_⟩
  rw [e3, mx_of' (by omega), e2, e1]
  exact hK
theorem c_Width : Contract Try.prog f_tree_Width spWid := by
  refine contract_of (N := Nt3) 3 knowt3 ?_
  rintro l bs _ _ ⟨n, rfl, rfl, h⟩
  show comes _ _ _ _ _ _ fun v bs' => (fx (widI n), ([] : List Blk)) = (v, bs')
  rw [v_Width]
  exact wid_lem h (K := fun t => (fx (widI n), ([] : List Blk)) = (fx t, [])) rfl
theorem c_RWidth : Contract Try.prog f_perigeeref6_Width spWid := by
  refine contract_of (N := Nt3) 3 knowt3 ?_
  rintro l bs _ _ ⟨n, rfl, rfl, h⟩
  show comes _ _ _ _ _ _ fun v bs' => (fx (widI n), ([] : List Blk)) = (v, bs')
  rw [v_RWidth]
  exact wid_lem h (K := fun t => (fx (widI n), ([] : List Blk)) = (fx t, [])) rfl
end Go.Vs.RF

set_option linter.unusedVariables false
/- the document's centre -/
namespace Go.Vs.RF
open Go Go.Proofs Go.Vs
def mid0 : List IV := [.int .i64 0, .int .u64 0, .int .i64 0, .int .u64 0, .int .i64 0, .int .u64 0, .int .i64 0]
def midE (e : Int) : List IV := [.int .i64 0, .int .u64 0, .int .i64 0, .int .u64 0, .int .i64 0, .int .u64 0, .int .i64 e]
def Sc0 (xs : List (List Int)) (m i : Int) : St := ⟨T 111 [(0, .sl 0), (2, .ptr 1 0), (3, .ptr 2 0), (4, .int .i64 i)], [some (.ro ksB xs), some (.var 98 mid0), some (.var 28 (fx m).cells)]⟩
def Sc2 (xs ds : List (List Int)) (m a s i : Int) : St := ⟨T 111 [(0, .sl 0), (2, .ptr 1 0), (3, .ptr 2 0), (6, .sl 3), (7, .int .i64 a), (8, .ptr 4 0), (9, .int .i64 i)], [some (.ro ksB xs), some (.var 98 mid0), some (.var 28 (fx m).cells), some (.row 28 [.i64, .u64] ds), some (.var 28 (fx s).cells)]⟩
theorem rc0 (Λ : FuncId → Nat → Option LoopS) (d : Nat) (xs : List (List Int)) (m i : Int) (k : Out → St → Prop) : (round (envOf Try.prog ⟨Γt3, Λ, fun _ => none⟩ d) f_perigeeref6_Centre 1 0 (lp Try.prog f_perigeeref6_Centre 0) (Sc0 xs m i) k) = (∀ (j1 : Int), j1 = m → ∀ (t2 : Int), t2 = rd xs i.toNat (0 : Nat) → ∀ (t3 : Int), t3 = rd xs i.toNat (1 : Nat) → ∀ (t4 : Prop), t4 = ((0 : Int) ≤ i ∧ i < (↑xs.length : Int)) → ∀ (t5 : Int), t5 = j1 + (t2 * (18446744073709551616 : Int) + t3) → ∀ (t6 : Int), t6 = errF t5 → ∀ (t7 : Int), t7 = numF t5 → br (decide (i < (↑xs.length : Int))) (t4 ∧ t4 ∧ may2 [fx m, IV.agg [IV.int IntKind.i64 t2, IV.int IntKind.u64 t3]] [] ∧ br (t6 != (0 : Int)) (k Out.ret (St.mk (T (111 : Nat) [((2 : Nat), IV.ptr (1 : Nat) (0 : Nat))]) [some (Blk.ro ksB xs), some (Blk.var (98 : Nat) [IV.int IntKind.i64 (0 : Int), IV.int IntKind.u64 (0 : Int), IV.int IntKind.i64 (0 : Int), IV.int IntKind.u64 (0 : Int), IV.int IntKind.i64 (0 : Int), IV.int IntKind.u64 (0 : Int), IV.int IntKind.i64 t6])])) (k Out.normal (St.mk (T (111 : Nat) [((0 : Nat), IV.sl (0 : Nat)), ((2 : Nat), IV.ptr (1 : Nat) (0 : Nat)), ((3 : Nat), IV.ptr (2 : Nat) (0 : Nat)), ((4 : Nat), IV.int IntKind.i64 (IntKind.i64.wrap (i + (1 : Int))))]) [some (Blk.ro ksB xs), some (Blk.var (98 : Nat) [IV.int IntKind.i64 (0 : Int), IV.int IntKind.u64 (0 : Int), IV.int IntKind.i64 (0 : Int), IV.int IntKind.u64 (0 : Int), IV.int IntKind.i64 (0 : Int), IV.int IntKind.u64 (0 : Int), IV.int IntKind.i64 (0 : Int)]), some (Blk.var (28 : Nat) [IV.int IntKind.i64 (t7 / (18446744073709551616 : Int)), IV.int IntKind.u64 (t7 % (18446744073709551616 : Int))])]))) (k (Out.exit (0 : Nat)) (St.mk (T (111 : Nat) [((0 : Nat), IV.sl (0 : Nat)), ((2 : Nat), IV.ptr (1 : Nat) (0 : Nat)), ((3 : Nat), IV.ptr (2 : Nat) (0 : Nat))]) [some (Blk.ro ksB xs), some (Blk.var (98 : Nat) [IV.int IntKind.i64 (0 : Int), IV.int IntKind.u64 (0 : Int), IV.int IntKind.i64 (0 : Int), IV.int IntKind.u64 (0 : Int), IV.int IntKind.i64 (0 : Int), IV.int IntKind.u64 (0 : Int), IV.int IntKind.i64 (0 : Int)]), some (Blk.var (28 : Nat) [IV.int IntKind.i64 (m / (18446744073709551616 : Int)), IV.int IntKind.u64 (m % (18446744073709551616 : Int))])]))) := by refine nj ?_; refine nm ?_; refine nm ?_; refine nm ?_; refine nm ?_; refine nm ?_; refine nm ?_; kernel_rfl
theorem rc2 (Λ : FuncId → Nat → Option LoopS) (d : Nat) (xs ds : List (List Int)) (m s i : Int) (k : Out → St → Prop) : (round (envOf Try.prog ⟨Γt3, Λ, fun _ => none⟩ d) f_perigeeref6_Centre 1 2 (lp Try.prog f_perigeeref6_Centre 2) (Sc2 xs ds m 0 s i) k) = (∀ (j1 : Int), j1 = s → ∀ (t2 : Int), t2 = numF (mulI (rd xs i.toNat (0 : Nat) * (18446744073709551616 : Int) + rd xs i.toNat (1 : Nat)) (rd xs i.toNat (4 : Nat) * (18446744073709551616 : Int) + rd xs i.toNat (5 : Nat))) → ∀ (j3 : Int), j3 = t2 → ∀ (t4 : Int), t4 = rd xs i.toNat (0 : Nat) → ∀ (t5 : Int), t5 = rd xs i.toNat (1 : Nat) → ∀ (t6 : Int), t6 = rd xs i.toNat (4 : Nat) → ∀ (t7 : Int), t7 = rd xs i.toNat (5 : Nat) → ∀ (t8 : Int), t8 = errF (j1 + j3) → ∀ (t9 : Int), t9 = numF (j1 + j3) → ∀ (t10 : Prop), t10 = ((0 : Int) ≤ i ∧ i < (↑xs.length : Int)) → ∀ (t11 : Int), t11 = errF (mulI (t4 * (18446744073709551616 : Int) + t5) (t6 * (18446744073709551616 : Int) + t7)) → br (decide (i < (↑xs.length : Int))) (t10 ∧ t10 ∧ t10 ∧ t10 ∧ may2 [IV.agg [IV.int IntKind.i64 t4, IV.int IntKind.u64 t5], IV.agg [IV.int IntKind.i64 t6, IV.int IntKind.u64 t7]] [] ∧ br (t11 != (0 : Int)) (k Out.ret (St.mk (T (111 : Nat) [((2 : Nat), IV.ptr (1 : Nat) (0 : Nat))]) [some (Blk.ro ksB xs), some (Blk.var (98 : Nat) [IV.int IntKind.i64 (0 : Int), IV.int IntKind.u64 (0 : Int), IV.int IntKind.i64 (0 : Int), IV.int IntKind.u64 (0 : Int), IV.int IntKind.i64 (0 : Int), IV.int IntKind.u64 (0 : Int), IV.int IntKind.i64 t11])])) (may2 [fx s, fx t2] [] ∧ br (t8 != (0 : Int)) (k Out.ret (St.mk (T (111 : Nat) [((2 : Nat), IV.ptr (1 : Nat) (0 : Nat))]) [some (Blk.ro ksB xs), some (Blk.var (98 : Nat) [IV.int IntKind.i64 (0 : Int), IV.int IntKind.u64 (0 : Int), IV.int IntKind.i64 (0 : Int), IV.int IntKind.u64 (0 : Int), IV.int IntKind.i64 (0 : Int), IV.int IntKind.u64 (0 : Int), IV.int IntKind.i64 t8])])) (k Out.normal (St.mk (T (111 : Nat) [((0 : Nat), IV.sl (0 : Nat)), ((2 : Nat), IV.ptr (1 : Nat) (0 : Nat)), ((3 : Nat), IV.ptr (2 : Nat) (0 : Nat)), ((6 : Nat), IV.sl (3 : Nat)), ((7 : Nat), IV.int IntKind.i64 (0 : Int)), ((8 : Nat), IV.ptr (4 : Nat) (0 : Nat)), ((9 : Nat), IV.int IntKind.i64 (IntKind.i64.wrap (i + (1 : Int))))]) [some (Blk.ro ksB xs), some (Blk.var (98 : Nat) [IV.int IntKind.i64 (0 : Int), IV.int IntKind.u64 (0 : Int), IV.int IntKind.i64 (0 : Int), IV.int IntKind.u64 (0 : Int), IV.int IntKind.i64 (0 : Int), IV.int IntKind.u64 (0 : Int), IV.int IntKind.i64 (0 : Int)]), some (Blk.var (28 : Nat) [IV.int IntKind.i64 (m / (18446744073709551616 : Int)), IV.int IntKind.u64 (m % (18446744073709551616 : Int))]), some (Blk.row (28 : Nat) [IntKind.i64, IntKind.u64] ds), some (Blk.var (28 : Nat) [IV.int IntKind.i64 (t9 / (18446744073709551616 : Int)), IV.int IntKind.u64 (t9 % (18446744073709551616 : Int))])])))) (k (Out.exit (4 : Nat)) (St.mk (T (111 : Nat) [((0 : Nat), IV.sl (0 : Nat)), ((2 : Nat), IV.ptr (1 : Nat) (0 : Nat)), ((3 : Nat), IV.ptr (2 : Nat) (0 : Nat)), ((6 : Nat), IV.sl (3 : Nat)), ((7 : Nat), IV.int IntKind.i64 (0 : Int)), ((8 : Nat), IV.ptr (4 : Nat) (0 : Nat))]) [some (Blk.ro ksB xs), some (Blk.var (98 : Nat) [IV.int IntKind.i64 (0 : Int), IV.int IntKind.u64 (0 : Int), IV.int IntKind.i64 (0 : Int), IV.int IntKind.u64 (0 : Int), IV.int IntKind.i64 (0 : Int), IV.int IntKind.u64 (0 : Int), IV.int IntKind.i64 (0 : Int)]), some (Blk.var (28 : Nat) [IV.int IntKind.i64 (m / (18446744073709551616 : Int)), IV.int IntKind.u64 (m % (18446744073709551616 : Int))]), some (Blk.row (28 : Nat) [IntKind.i64, IntKind.u64] ds), some (Blk.var (28 : Nat) [IV.int IntKind.i64 (s / (18446744073709551616 : Int)), IV.int IntKind.u64 (s % (18446744073709551616 : Int))])]))) := by refine nj ?_; refine nm ?_; refine nj ?_; refine nm ?_; refine nm ?_; refine nm ?_; refine nm ?_; refine nm ?_; refine nm ?_; refine nm ?_; refine nm ?_; kernel_rfl
theorem rc3 (Λ : FuncId → Nat → Option LoopS) (d : Nat) (xs ds : List (List Int)) (m s i : Int) (k : Out → St → Prop) : (round (envOf Try.prog ⟨Γt3, Λ, fun _ => none⟩ d) f_perigeeref6_Centre 1 2 (lp Try.prog f_perigeeref6_Centre 2) (Sc2 xs ds m 1 s i) k) = (∀ (j1 : Int), j1 = s → ∀ (t2 : Int), t2 = numF (mulI (rd xs i.toNat (0 : Nat) * (18446744073709551616 : Int) + rd xs i.toNat (1 : Nat)) (rd xs i.toNat (6 : Nat) * (18446744073709551616 : Int) + rd xs i.toNat (7 : Nat))) → ∀ (j3 : Int), j3 = t2 → ∀ (t4 : Int), t4 = rd xs i.toNat (0 : Nat) → ∀ (t5 : Int), t5 = rd xs i.toNat (1 : Nat) → ∀ (t6 : Int), t6 = rd xs i.toNat (6 : Nat) → ∀ (t7 : Int), t7 = rd xs i.toNat (7 : Nat) → ∀ (t8 : Int), t8 = errF (j1 + j3) → ∀ (t9 : Int), t9 = numF (j1 + j3) → ∀ (t10 : Prop), t10 = ((0 : Int) ≤ i ∧ i < (↑xs.length : Int)) → ∀ (t11 : Int), t11 = errF (mulI (t4 * (18446744073709551616 : Int) + t5) (t6 * (18446744073709551616 : Int) + t7)) → br (decide (i < (↑xs.length : Int))) (t10 ∧ t10 ∧ t10 ∧ t10 ∧ t10 ∧ t10 ∧ may2 [IV.agg [IV.int IntKind.i64 t4, IV.int IntKind.u64 t5], IV.agg [IV.int IntKind.i64 t6, IV.int IntKind.u64 t7]] [] ∧ br (t11 != (0 : Int)) (k Out.ret (St.mk (T (111 : Nat) [((2 : Nat), IV.ptr (1 : Nat) (0 : Nat))]) [some (Blk.ro ksB xs), some (Blk.var (98 : Nat) [IV.int IntKind.i64 (0 : Int), IV.int IntKind.u64 (0 : Int), IV.int IntKind.i64 (0 : Int), IV.int IntKind.u64 (0 : Int), IV.int IntKind.i64 (0 : Int), IV.int IntKind.u64 (0 : Int), IV.int IntKind.i64 t11])])) (may2 [fx s, fx t2] [] ∧ br (t8 != (0 : Int)) (k Out.ret (St.mk (T (111 : Nat) [((2 : Nat), IV.ptr (1 : Nat) (0 : Nat))]) [some (Blk.ro ksB xs), some (Blk.var (98 : Nat) [IV.int IntKind.i64 (0 : Int), IV.int IntKind.u64 (0 : Int), IV.int IntKind.i64 (0 : Int), IV.int IntKind.u64 (0 : Int), IV.int IntKind.i64 (0 : Int), IV.int IntKind.u64 (0 : Int), IV.int IntKind.i64 t8])])) (k Out.normal (St.mk (T (111 : Nat) [((0 : Nat), IV.sl (0 : Nat)), ((2 : Nat), IV.ptr (1 : Nat) (0 : Nat)), ((3 : Nat), IV.ptr (2 : Nat) (0 : Nat)), ((6 : Nat), IV.sl (3 : Nat)), ((7 : Nat), IV.int IntKind.i64 (1 : Int)), ((8 : Nat), IV.ptr (4 : Nat) (0 : Nat)), ((9 : Nat), IV.int IntKind.i64 (IntKind.i64.wrap (i + (1 : Int))))]) [some (Blk.ro ksB xs), some (Blk.var (98 : Nat) [IV.int IntKind.i64 (0 : Int), IV.int IntKind.u64 (0 : Int), IV.int IntKind.i64 (0 : Int), IV.int IntKind.u64 (0 : Int), IV.int IntKind.i64 (0 : Int), IV.int IntKind.u64 (0 : Int), IV.int IntKind.i64 (0 : Int)]), some (Blk.var (28 : Nat) [IV.int IntKind.i64 (m / (18446744073709551616 : Int)), IV.int IntKind.u64 (m % (18446744073709551616 : Int))]), some (Blk.row (28 : Nat) [IntKind.i64, IntKind.u64] ds), some (Blk.var (28 : Nat) [IV.int IntKind.i64 (t9 / (18446744073709551616 : Int)), IV.int IntKind.u64 (t9 % (18446744073709551616 : Int))])])))) (k (Out.exit (4 : Nat)) (St.mk (T (111 : Nat) [((0 : Nat), IV.sl (0 : Nat)), ((2 : Nat), IV.ptr (1 : Nat) (0 : Nat)), ((3 : Nat), IV.ptr (2 : Nat) (0 : Nat)), ((6 : Nat), IV.sl (3 : Nat)), ((7 : Nat), IV.int IntKind.i64 (1 : Int)), ((8 : Nat), IV.ptr (4 : Nat) (0 : Nat))]) [some (Blk.ro ksB xs), some (Blk.var (98 : Nat) [IV.int IntKind.i64 (0 : Int), IV.int IntKind.u64 (0 : Int), IV.int IntKind.i64 (0 : Int), IV.int IntKind.u64 (0 : Int), IV.int IntKind.i64 (0 : Int), IV.int IntKind.u64 (0 : Int), IV.int IntKind.i64 (0 : Int)]), some (Blk.var (28 : Nat) [IV.int IntKind.i64 (m / (18446744073709551616 : Int)), IV.int IntKind.u64 (m % (18446744073709551616 : Int))]), some (Blk.row (28 : Nat) [IntKind.i64, IntKind.u64] ds), some (Blk.var (28 : Nat) [IV.int IntKind.i64 (s / (18446744073709551616 : Int)), IV.int IntKind.u64 (s % (18446744073709551616 : Int))])]))) := by refine nj ?_; refine nm ?_; refine nj ?_; refine nm ?_; refine nm ?_; refine nm ?_; refine nm ?_; refine nm ?_; refine nm ?_; refine nm ?_; refine nm ?_; kernel_rfl
def axW (a : Int) : Nat := if a = 0 then 4 else 6
def pC0 (n0 : Nat) (st : St) (xs : List (List Int)) : Prop := okRows ksB xs ∧ xs.length ≤ maxLen ∧ mayRs xs ∧ n0 = 1 ∧ st = Sc0 xs 0 0
def pC2 (n0 : Nat) (st : St) (xs ds : List (List Int)) (m a : Int) : Prop := okRows ksB xs ∧ xs.length ≤ maxLen ∧ mayRs xs ∧ (a = 0 ∨ a = 1) ∧ n0 = 1 ∧ st = Sc2 xs ds m a 0 0
noncomputable def Lc0 : LoopS := fun n0 st K => ∃ xs, pC0 n0 st xs ∧ br (sumE 0 xs != 0) (K .ret ⟨T 111 [(2, .ptr 1 0)], [some (.ro ksB xs), some (.var 98 (midE (sumE 0 xs)))]⟩) (K (.exit 0) ⟨T 111 [(0, .sl 0), (2, .ptr 1 0), (3, .ptr 2 0)], [some (.ro ksB xs), some (.var 98 mid0), some (.var 28 (fx (sumN 0 xs)).cells)]⟩)
noncomputable def Lc2 : LoopS := fun n0 st K => ∃ xs ds m a, pC2 n0 st xs ds m a ∧ br (sumE (axW a) xs != 0) (K .ret ⟨T 111 [(2, .ptr 1 0)], [some (.ro ksB xs), some (.var 98 (midE (sumE (axW a) xs)))]⟩) (K (.exit 4) ⟨T 111 [(0, .sl 0), (2, .ptr 1 0), (3, .ptr 2 0), (6, .sl 3), (7, .int .i64 a), (8, .ptr 4 0)], [some (.ro ksB xs), some (.var 98 mid0), some (.var 28 (fx m).cells), some (.row 28 [.i64, .u64] ds), some (.var 28 (fx (sumN (axW a) xs)).cells)]⟩)
def Sc1 (xs ds : List (List Int)) (m a : Int) : St := ⟨T 111 [(0, .sl 0), (2, .ptr 1 0), (3, .ptr 2 0), (6, .sl 3), (7, .int .i64 a)], [some (.ro ksB xs), some (.var 98 mid0), some (.var 28 (fx m).cells), some (.row 28 [.i64, .u64] ds)]⟩
def rowF (x : Int) : List Int := [x / 18446744073709551616, x % 18446744073709551616]
def asE (w : Nat) (xs : List (List Int)) (m : Int) : Int := if sumE w xs ≠ 0 then sumE w xs else divE (sumN w xs) m
def pC1 (n0 : Nat) (st : St) (xs : List (List Int)) (m : Int) : Prop := okRows ksB xs ∧ xs.length ≤ maxLen ∧ mayRs xs ∧ mayF m ∧ n0 = 1 ∧ st = Sc1 xs [] m 0
noncomputable def Lc1 : LoopS := fun n0 st K => ∃ xs m, pC1 n0 st xs m ∧ br (asE 4 xs m != 0) (K .ret ⟨T 111 [(2, .ptr 1 0)], [some (.ro ksB xs), some (.var 98 (midE (asE 4 xs m)))]⟩) (br (asE 6 xs m != 0) (K .ret ⟨T 111 [(2, .ptr 1 0)], [some (.ro ksB xs), some (.var 98 (midE (asE 6 xs m)))]⟩) (K (.exit 2) ⟨T 111 [(2, .ptr 1 0), (3, .ptr 2 0), (6, .sl 3)], [some (.ro ksB xs), some (.var 98 mid0), some (.var 28 (fx m).cells), some (.row 28 [.i64, .u64] [rowF (divN (sumN 4 xs) m), rowF (divN (sumN 6 xs) m)])]⟩))
noncomputable def Nrc : Know := ⟨Γt3, fun f i => if f = f_perigeeref6_Centre then (if i = 0 then some Lc0 else if i = 1 then some Lc1 else if i = 2 then some Lc2 else none) else none, fun _ => none⟩
theorem rc1 (d : Nat) (xs ds : List (List Int)) (m a : Int) (k : Out → St → Prop) : (round (envOf Try.prog Nrc d) f_perigeeref6_Centre 1 1 (lp Try.prog f_perigeeref6_Centre 1) (Sc1 xs ds m a) k) = (br (decide (a < (2 : Int))) (∃ xs_1 ds_1 m_1 a_1, pC2 (1 : Nat) (St.mk (T (111 : Nat) [((0 : Nat), IV.sl (0 : Nat)), ((2 : Nat), IV.ptr (1 : Nat) (0 : Nat)), ((3 : Nat), IV.ptr (2 : Nat) (0 : Nat)), ((6 : Nat), IV.sl (3 : Nat)), ((7 : Nat), IV.int IntKind.i64 a), ((8 : Nat), IV.ptr (4 : Nat) (0 : Nat)), ((9 : Nat), IV.int IntKind.i64 (0 : Int))]) [some (Blk.ro ksB xs), some (Blk.var (98 : Nat) [IV.int IntKind.i64 (0 : Int), IV.int IntKind.u64 (0 : Int), IV.int IntKind.i64 (0 : Int), IV.int IntKind.u64 (0 : Int), IV.int IntKind.i64 (0 : Int), IV.int IntKind.u64 (0 : Int), IV.int IntKind.i64 (0 : Int)]), some (Blk.var (28 : Nat) [IV.int IntKind.i64 (m / (18446744073709551616 : Int)), IV.int IntKind.u64 (m % (18446744073709551616 : Int))]), some (Blk.row (28 : Nat) [IntKind.i64, IntKind.u64] ds), some (Blk.var (28 : Nat) [IV.int IntKind.i64 (0 : Int), IV.int IntKind.u64 (0 : Int)])]) xs_1 ds_1 m_1 a_1 ∧ br (sumE (axW a_1) xs_1 != (0 : Int)) (k Out.ret (St.mk (T (111 : Nat) [((2 : Nat), IV.ptr (1 : Nat) (0 : Nat))]) [some (Blk.ro ksB xs_1), some (Blk.var (98 : Nat) [IV.int IntKind.i64 (0 : Int), IV.int IntKind.u64 (0 : Int), IV.int IntKind.i64 (0 : Int), IV.int IntKind.u64 (0 : Int), IV.int IntKind.i64 (0 : Int), IV.int IntKind.u64 (0 : Int), IV.int IntKind.i64 (sumE (axW a_1) xs_1)])])) (may2 [fx (sumN (axW a_1) xs_1), fx m_1] [] ∧ br (divE (sumN (axW a_1) xs_1 / (18446744073709551616 : Int) * (18446744073709551616 : Int) + sumN (axW a_1) xs_1 % (18446744073709551616 : Int)) (m_1 / (18446744073709551616 : Int) * (18446744073709551616 : Int) + m_1 % (18446744073709551616 : Int)) != (0 : Int)) (k Out.ret (St.mk (T (111 : Nat) [((2 : Nat), IV.ptr (1 : Nat) (0 : Nat))]) [some (Blk.ro ksB xs_1), some (Blk.var (98 : Nat) [IV.int IntKind.i64 (0 : Int), IV.int IntKind.u64 (0 : Int), IV.int IntKind.i64 (0 : Int), IV.int IntKind.u64 (0 : Int), IV.int IntKind.i64 (0 : Int), IV.int IntKind.u64 (0 : Int), IV.int IntKind.i64 (divE (sumN (axW a_1) xs_1 / (18446744073709551616 : Int) * (18446744073709551616 : Int) + sumN (axW a_1) xs_1 % (18446744073709551616 : Int)) (m_1 / (18446744073709551616 : Int) * (18446744073709551616 : Int) + m_1 % (18446744073709551616 : Int)))])])) ((ds_1.length + (1 : Nat)) * (16 : Nat) ≤ (140737488355328 : Nat) ∧ k Out.normal (St.mk (T (111 : Nat) [((0 : Nat), IV.sl (0 : Nat)), ((2 : Nat), IV.ptr (1 : Nat) (0 : Nat)), ((3 : Nat), IV.ptr (2 : Nat) (0 : Nat)), ((6 : Nat), IV.sl (3 : Nat)), ((7 : Nat), IV.int IntKind.i64 (IntKind.i64.wrap (a_1 + (1 : Int))))]) [some (Blk.ro ksB xs_1), some (Blk.var (98 : Nat) [IV.int IntKind.i64 (0 : Int), IV.int IntKind.u64 (0 : Int), IV.int IntKind.i64 (0 : Int), IV.int IntKind.u64 (0 : Int), IV.int IntKind.i64 (0 : Int), IV.int IntKind.u64 (0 : Int), IV.int IntKind.i64 (0 : Int)]), some (Blk.var (28 : Nat) [IV.int IntKind.i64 (m_1 / (18446744073709551616 : Int)), IV.int IntKind.u64 (m_1 % (18446744073709551616 : Int))]), some (Blk.row (28 : Nat) [IntKind.i64, IntKind.u64] (ds_1 ++ (List.replicate (1 : Nat) (List.replicate (2 : Nat) (0 : Int))).set (0 : Nat) [divN (sumN (axW a_1) xs_1 / (18446744073709551616 : Int) * (18446744073709551616 : Int) + sumN (axW a_1) xs_1 % (18446744073709551616 : Int)) (m_1 / (18446744073709551616 : Int) * (18446744073709551616 : Int) + m_1 % (18446744073709551616 : Int)) / (18446744073709551616 : Int), divN (sumN (axW a_1) xs_1 / (18446744073709551616 : Int) * (18446744073709551616 : Int) + sumN (axW a_1) xs_1 % (18446744073709551616 : Int)) (m_1 / (18446744073709551616 : Int) * (18446744073709551616 : Int) + m_1 % (18446744073709551616 : Int)) % (18446744073709551616 : Int)]))])))) (k (Out.exit (2 : Nat)) (St.mk (T (111 : Nat) [((2 : Nat), IV.ptr (1 : Nat) (0 : Nat)), ((3 : Nat), IV.ptr (2 : Nat) (0 : Nat)), ((6 : Nat), IV.sl (3 : Nat))]) [some (Blk.ro ksB xs), some (Blk.var (98 : Nat) [IV.int IntKind.i64 (0 : Int), IV.int IntKind.u64 (0 : Int), IV.int IntKind.i64 (0 : Int), IV.int IntKind.u64 (0 : Int), IV.int IntKind.i64 (0 : Int), IV.int IntKind.u64 (0 : Int), IV.int IntKind.i64 (0 : Int)]), some (Blk.var (28 : Nat) [IV.int IntKind.i64 (m / (18446744073709551616 : Int)), IV.int IntKind.u64 (m % (18446744073709551616 : Int))]), some (Blk.row (28 : Nat) [IntKind.i64, IntKind.u64] ds)]))) := by kernel_rfl
theorem v_RCentre (xs : List (List Int)) (K : IV → List Blk → Prop) : (comes Try.prog Nrc 3 f_perigeeref6_Centre [.sl 0] [.ro ksB xs] K) = (∀ (t1 : Prop), t1 = ((0 : Int) ≤ (0 : Int) ∧ (0 : Int) < (↑(2 : Nat) : Int)) → ∀ (t2 : Prop), t2 = ((0 : Int) ≤ (1 : Int) ∧ (1 : Int) < (↑(2 : Nat) : Int)) → br ((↑xs.length : Int) == (0 : Int)) (K (IV.agg [IV.int IntKind.i64 (0 : Int), IV.int IntKind.u64 (0 : Int), IV.int IntKind.i64 (0 : Int), IV.int IntKind.u64 (0 : Int), IV.int IntKind.i64 (0 : Int), IV.int IntKind.u64 (0 : Int), IV.int IntKind.i64 (1 : Int)]) []) (∃ xs_1, pC0 (1 : Nat) (St.mk (T (111 : Nat) [((0 : Nat), IV.sl (0 : Nat)), ((2 : Nat), IV.ptr (1 : Nat) (0 : Nat)), ((3 : Nat), IV.ptr (2 : Nat) (0 : Nat)), ((4 : Nat), IV.int IntKind.i64 (0 : Int))]) [some (Blk.ro ksB xs), some (Blk.var (98 : Nat) [IV.int IntKind.i64 (0 : Int), IV.int IntKind.u64 (0 : Int), IV.int IntKind.i64 (0 : Int), IV.int IntKind.u64 (0 : Int), IV.int IntKind.i64 (0 : Int), IV.int IntKind.u64 (0 : Int), IV.int IntKind.i64 (0 : Int)]), some (Blk.var (28 : Nat) [IV.int IntKind.i64 (0 : Int), IV.int IntKind.u64 (0 : Int)])]) xs_1 ∧ br (sumE (0 : Nat) xs_1 != (0 : Int)) (K (IV.agg [IV.int IntKind.i64 (0 : Int), IV.int IntKind.u64 (0 : Int), IV.int IntKind.i64 (0 : Int), IV.int IntKind.u64 (0 : Int), IV.int IntKind.i64 (0 : Int), IV.int IntKind.u64 (0 : Int), IV.int IntKind.i64 (sumE (0 : Nat) xs_1)]) []) (∃ xs m, pC1 (1 : Nat) (St.mk (T (111 : Nat) [((0 : Nat), IV.sl (0 : Nat)), ((2 : Nat), IV.ptr (1 : Nat) (0 : Nat)), ((3 : Nat), IV.ptr (2 : Nat) (0 : Nat)), ((6 : Nat), IV.sl (3 : Nat)), ((7 : Nat), IV.int IntKind.i64 (0 : Int))]) [some (Blk.ro ksB xs_1), some (Blk.var (98 : Nat) [IV.int IntKind.i64 (0 : Int), IV.int IntKind.u64 (0 : Int), IV.int IntKind.i64 (0 : Int), IV.int IntKind.u64 (0 : Int), IV.int IntKind.i64 (0 : Int), IV.int IntKind.u64 (0 : Int), IV.int IntKind.i64 (0 : Int)]), some (Blk.var (28 : Nat) [IV.int IntKind.i64 (sumN (0 : Nat) xs_1 / (18446744073709551616 : Int)), IV.int IntKind.u64 (sumN (0 : Nat) xs_1 % (18446744073709551616 : Int))]), some (Blk.row (28 : Nat) [IntKind.i64, IntKind.u64] [])]) xs m ∧ br (asE (4 : Nat) xs m != (0 : Int)) (K (IV.agg [IV.int IntKind.i64 (0 : Int), IV.int IntKind.u64 (0 : Int), IV.int IntKind.i64 (0 : Int), IV.int IntKind.u64 (0 : Int), IV.int IntKind.i64 (0 : Int), IV.int IntKind.u64 (0 : Int), IV.int IntKind.i64 (asE (4 : Nat) xs m)]) []) (br (asE (6 : Nat) xs m != (0 : Int)) (K (IV.agg [IV.int IntKind.i64 (0 : Int), IV.int IntKind.u64 (0 : Int), IV.int IntKind.i64 (0 : Int), IV.int IntKind.u64 (0 : Int), IV.int IntKind.i64 (0 : Int), IV.int IntKind.u64 (0 : Int), IV.int IntKind.i64 (asE (6 : Nat) xs m)]) []) (t1 ∧ t1 ∧ t2 ∧ t2 ∧ K (IV.agg [IV.int IntKind.i64 (m / (18446744073709551616 : Int)), IV.int IntKind.u64 (m % (18446744073709551616 : Int)), IV.int IntKind.i64 (divN (sumN (4 : Nat) xs) m / (18446744073709551616 : Int)), IV.int IntKind.u64 (divN (sumN (4 : Nat) xs) m % (18446744073709551616 : Int)), IV.int IntKind.i64 (divN (sumN (6 : Nat) xs) m / (18446744073709551616 : Int)), IV.int IntKind.u64 (divN (sumN (6 : Nat) xs) m % (18446744073709551616 : Int)), IV.int IntKind.i64 (0 : Int)]) []))))) := by refine nm ?_; refine nm ?_; kernel_rfl
end Go.Vs.RF


set_option linter.unusedVariables false
set_option linter.unusedSimpArgs false
set_option maxRecDepth 100000
/- the document's centre is the program's -/
namespace Go.Vs.RF
open Go Go.Proofs Go.Vs Go.IntWalk

theorem lc0 (d n0 : Nat) : LoopOk (envOf Try.prog Nrc d) f_perigeeref6_Centre n0 0 (lp Try.prog f_perigeeref6_Centre 0) Lc0 := by
  intro st K hst
  obtain ⟨xs, ⟨hr, hm, hmay, rfl, rfl⟩, hK⟩ := hst
  have hm' : xs.length ≤ 9223372036854775807 := hm
  refine loop_of (fun p : Int × Nat => Sc0 xs p.1 p.2) (ISum 0 xs) (fun p => xs.length - p.2) ?_ (a := (0, 0)) ⟨by simp, may_zero, rfl⟩
  rintro ⟨a, i⟩ ⟨h1, h2, h3⟩ k hn hk
  simp only at h1 h2 h3
  show round (envOf Try.prog ⟨Γt3, _, fun _ => none⟩ d) _ _ _ _ (Sc0 xs a i) k
  rw [rc0]
  rintro a rfl t2 e2 t3 e3 t4 e4 t5 e5 t6 e6 t7 e7
  rw [br_dec]
  constructor
  · intro hi
    have hi' : i < xs.length := by omega
    have et : (i : Int).toNat = i := by omega
    rw [et] at e2 e3
    have hmi := (hmay _ (List.getElem_mem hi')).1
    have ex : t2 * 18446744073709551616 + t3 = fr xs[i] 0 := by rw [e2, e3]; exact fr_of hi' 0
    have ok3 : u64ok t3 := by rw [e3]; exact lo_in hr i 1 (by decide) rfl
    have p4 : t4 := by rw [e4]; omega
    refine ⟨p4, p4, ⟨a, fr xs[i] 0, by rw [fx_mk2 ok3 ex.symm], rfl, h2, hmi⟩, ?_⟩
    rw [ex] at e5
    rw [sum_drop 0 hi', if_neg (show ¬ tmE 0 xs[i] ≠ 0 from fun h => h rfl), show tmN 0 xs[i] = fr xs[i] 0 from rfl, ← e5, ← e6] at h3
    rw [br_bne]
    constructor
    · intro hno
      rw [if_pos hno] at h3
      have hE : sumE 0 xs = t6 := (congrArg Prod.snd h3).symm
      rw [hE, br_bne] at hK
      exact hk _ _ (by simp) (hK.1 hno)
    · intro hmy
      rw [if_neg (by simpa using hmy)] at h3
      have hmf : mayF t5 := err_zero.1 (by rw [← e6]; exact hmy)
      rw [nat_succ hi' hm, e7, num_may hmf]
      exact hn (t5, i + 1) ⟨hi', hmf, h3⟩ (by simp; omega)
  · intro hi
    have hi' : ¬ i < xs.length := by omega
    rw [sum_over 0 hi'] at h3
    have hE : sumE 0 xs = 0 := (congrArg Prod.snd h3).symm
    have hN : sumN 0 xs = a := (congrArg Prod.fst h3).symm
    rw [hE, hN, br_bne] at hK
    exact hk _ _ (by simp) (hK.2 rfl)
theorem lc2a (d : Nat) {xs ds : List (List Int)} {m : Int} {K : Out → St → Prop} (hr : okRows ksB xs) (hm : xs.length ≤ maxLen) (hmay : mayRs xs)
    (hK : br (sumE 4 xs != 0) (K .ret ⟨T 111 [(2, .ptr 1 0)], [some (.ro ksB xs), some (.var 98 (midE (sumE 4 xs)))]⟩) (K (.exit 4) ⟨T 111 [(0, .sl 0), (2, .ptr 1 0), (3, .ptr 2 0), (6, .sl 3), (7, .int .i64 0), (8, .ptr 4 0)], [some (.ro ksB xs), some (.var 98 mid0), some (.var 28 (fx m).cells), some (.row 28 [.i64, .u64] ds), some (.var 28 (fx (sumN 4 xs)).cells)]⟩)) :
    ∃ n, loopN (exec (envOf Try.prog Nrc d) f_perigeeref6_Centre 1 (Nat.lor (lp Try.prog f_perigeeref6_Centre 2).1 (gen (lp Try.prog f_perigeeref6_Centre 2).2)) (2 + 1) (lp Try.prog f_perigeeref6_Centre 2).2) (gc 1 (keepOf (Nat.lor (lp Try.prog f_perigeeref6_Centre 2).1 (gen (lp Try.prog f_perigeeref6_Centre 2).2)))) n (Sc2 xs ds m 0 0 0) fun o st' => K o (gc 1 (keepO (envOf Try.prog Nrc d).P f_perigeeref6_Centre (lp Try.prog f_perigeeref6_Centre 2).1 o) st') := by
  have hm' : xs.length ≤ 9223372036854775807 := hm
  refine loop_of (fun p : Int × Nat => Sc2 xs ds m 0 p.1 p.2) (ISum 4 xs) (fun p => xs.length - p.2) ?_ (a := (0, 0)) ⟨by simp, may_zero, rfl⟩
  rintro ⟨a, i⟩ ⟨h1, h2, h3⟩ k hn hk
  simp only at h1 h2 h3
  show round (envOf Try.prog ⟨Γt3, _, fun _ => none⟩ d) _ _ _ _ (Sc2 xs ds m 0 a i) k
  rw [rc2]
  rintro a rfl t2 e2 j3 q3 t4 e4 t5 e5 t6 e6 t7 e7 t8 e8 t9 e9 t10 e10 t11 e11
  rw [br_dec]
  constructor
  · intro hi
    have hi' : i < xs.length := by omega
    have et : (i : Int).toNat = i := by omega
    rw [et] at e2 e4 e5 e6 e7
    have hmi := hmay _ (List.getElem_mem hi')
    have ex : t4 * 18446744073709551616 + t5 = fr xs[i] 0 := by rw [e4, e5]; exact fr_of hi' 0
    have ey : t6 * 18446744073709551616 + t7 = fr xs[i] 4 := by rw [e6, e7]; exact fr_of hi' 4
    have ok5 : u64ok t5 := by rw [e5]; exact lo_in hr i 1 (by decide) rfl
    have ok7 : u64ok t7 := by rw [e7]; exact lo_in hr i 5 (by decide) rfl
    have T2 : t2 = numF (mulI (fr xs[i] 0) (fr xs[i] 4)) := by rw [e2, fr_of hi' 0, fr_of hi' 4]
    have T11 : t11 = errF (mulI (fr xs[i] 0) (fr xs[i] 4)) := by rw [e11, ex, ey]
    have p10 : t10 := by rw [e10]; omega
    refine ⟨p10, p10, p10, p10, ⟨fr xs[i] 0, fr xs[i] 4, by rw [fx_mk2 ok5 ex.symm, fx_mk2 ok7 ey.symm], rfl, hmi.1, hmi.2.1⟩, ?_⟩
    rw [sum_drop 4 hi', show tmE 4 xs[i] = errF (mulI (fr xs[i] 0) (fr xs[i] 4)) from rfl, show tmN 4 xs[i] = numF (mulI (fr xs[i] 0) (fr xs[i] 4)) from rfl, ← T11, ← T2] at h3
    rw [q3] at e8 e9
    rw [← e8] at h3
    rw [br_bne]
    constructor
    · intro hno
      rw [if_pos hno] at h3
      have hE : sumE 4 xs = t11 := (congrArg Prod.snd h3).symm
      rw [hE, br_bne] at hK
      exact hk _ _ (by simp) (hK.1 hno)
    intro h11
    rw [if_neg (by simpa using h11)] at h3
    refine ⟨may2_of h2 (by rw [T2]; exact num_is _), ?_⟩
    rw [br_bne]
    constructor
    · intro hno
      rw [if_pos hno] at h3
      have hE : sumE 4 xs = t8 := (congrArg Prod.snd h3).symm
      rw [hE, br_bne] at hK
      exact hk _ _ (by simp) (hK.1 hno)
    · intro hmy
      rw [if_neg (by simpa using hmy)] at h3
      have hmf : mayF (a + t2) := err_zero.1 (by rw [← e8]; exact hmy)
      rw [nat_succ hi' hm, e9, num_may hmf]
      exact hn (a + t2, i + 1) ⟨hi', hmf, h3⟩ (by simp; omega)
  · intro hi
    have hi' : ¬ i < xs.length := by omega
    rw [sum_over 4 hi'] at h3
    have hE : sumE 4 xs = 0 := (congrArg Prod.snd h3).symm
    have hN : sumN 4 xs = a := (congrArg Prod.fst h3).symm
    rw [hE, hN, br_bne] at hK
    exact hk _ _ (by simp) (hK.2 rfl)
theorem lc2b (d : Nat) {xs ds : List (List Int)} {m : Int} {K : Out → St → Prop} (hr : okRows ksB xs) (hm : xs.length ≤ maxLen) (hmay : mayRs xs)
    (hK : br (sumE 6 xs != 0) (K .ret ⟨T 111 [(2, .ptr 1 0)], [some (.ro ksB xs), some (.var 98 (midE (sumE 6 xs)))]⟩) (K (.exit 4) ⟨T 111 [(0, .sl 0), (2, .ptr 1 0), (3, .ptr 2 0), (6, .sl 3), (7, .int .i64 1), (8, .ptr 4 0)], [some (.ro ksB xs), some (.var 98 mid0), some (.var 28 (fx m).cells), some (.row 28 [.i64, .u64] ds), some (.var 28 (fx (sumN 6 xs)).cells)]⟩)) :
    ∃ n, loopN (exec (envOf Try.prog Nrc d) f_perigeeref6_Centre 1 (Nat.lor (lp Try.prog f_perigeeref6_Centre 2).1 (gen (lp Try.prog f_perigeeref6_Centre 2).2)) (2 + 1) (lp Try.prog f_perigeeref6_Centre 2).2) (gc 1 (keepOf (Nat.lor (lp Try.prog f_perigeeref6_Centre 2).1 (gen (lp Try.prog f_perigeeref6_Centre 2).2)))) n (Sc2 xs ds m 1 0 0) fun o st' => K o (gc 1 (keepO (envOf Try.prog Nrc d).P f_perigeeref6_Centre (lp Try.prog f_perigeeref6_Centre 2).1 o) st') := by
  have hm' : xs.length ≤ 9223372036854775807 := hm
  refine loop_of (fun p : Int × Nat => Sc2 xs ds m 1 p.1 p.2) (ISum 6 xs) (fun p => xs.length - p.2) ?_ (a := (0, 0)) ⟨by simp, may_zero, rfl⟩
  rintro ⟨a, i⟩ ⟨h1, h2, h3⟩ k hn hk
  simp only at h1 h2 h3
  show round (envOf Try.prog ⟨Γt3, _, fun _ => none⟩ d) _ _ _ _ (Sc2 xs ds m 1 a i) k
  rw [rc3]
  rintro a rfl t2 e2 j3 q3 t4 e4 t5 e5 t6 e6 t7 e7 t8 e8 t9 e9 t10 e10 t11 e11
  rw [br_dec]
  constructor
  · intro hi
    have hi' : i < xs.length := by omega
    have et : (i : Int).toNat = i := by omega
    rw [et] at e2 e4 e5 e6 e7
    have hmi := hmay _ (List.getElem_mem hi')
    have ex : t4 * 18446744073709551616 + t5 = fr xs[i] 0 := by rw [e4, e5]; exact fr_of hi' 0
    have ey : t6 * 18446744073709551616 + t7 = fr xs[i] 6 := by rw [e6, e7]; exact fr_of hi' 6
    have ok5 : u64ok t5 := by rw [e5]; exact lo_in hr i 1 (by decide) rfl
    have ok7 : u64ok t7 := by rw [e7]; exact lo_in hr i 7 (by decide) rfl
    have T2 : t2 = numF (mulI (fr xs[i] 0) (fr xs[i] 6)) := by rw [e2, fr_of hi' 0, fr_of hi' 6]
    have T11 : t11 = errF (mulI (fr xs[i] 0) (fr xs[i] 6)) := by rw [e11, ex, ey]
    have p10 : t10 := by rw [e10]; omega
    refine ⟨p10, p10, p10, p10, p10, p10, ⟨fr xs[i] 0, fr xs[i] 6, by rw [fx_mk2 ok5 ex.symm, fx_mk2 ok7 ey.symm], rfl, hmi.1, hmi.2.2⟩, ?_⟩
    rw [sum_drop 6 hi', show tmE 6 xs[i] = errF (mulI (fr xs[i] 0) (fr xs[i] 6)) from rfl, show tmN 6 xs[i] = numF (mulI (fr xs[i] 0) (fr xs[i] 6)) from rfl, ← T11, ← T2] at h3
    rw [q3] at e8 e9
    rw [← e8] at h3
    rw [br_bne]
    constructor
    · intro hno
      rw [if_pos hno] at h3
      have hE : sumE 6 xs = t11 := (congrArg Prod.snd h3).symm
      rw [hE, br_bne] at hK
      exact hk _ _ (by simp) (hK.1 hno)
    intro h11
    rw [if_neg (by simpa using h11)] at h3
    refine ⟨may2_of h2 (by rw [T2]; exact num_is _), ?_⟩
    rw [br_bne]
    constructor
    · intro hno
      rw [if_pos hno] at h3
      have hE : sumE 6 xs = t8 := (congrArg Prod.snd h3).symm
      rw [hE, br_bne] at hK
      exact hk _ _ (by simp) (hK.1 hno)
    · intro hmy
      rw [if_neg (by simpa using hmy)] at h3
      have hmf : mayF (a + t2) := err_zero.1 (by rw [← e8]; exact hmy)
      rw [nat_succ hi' hm, e9, num_may hmf]
      exact hn (a + t2, i + 1) ⟨hi', hmf, h3⟩ (by simp; omega)
  · intro hi
    have hi' : ¬ i < xs.length := by omega
    rw [sum_over 6 hi'] at h3
    have hE : sumE 6 xs = 0 := (congrArg Prod.snd h3).symm
    have hN : sumN 6 xs = a := (congrArg Prod.fst h3).symm
    rw [hE, hN, br_bne] at hK
    exact hk _ _ (by simp) (hK.2 rfl)
theorem lc2 (d n0 : Nat) : LoopOk (envOf Try.prog Nrc d) f_perigeeref6_Centre n0 2 (lp Try.prog f_perigeeref6_Centre 2) Lc2 := by
  intro st K hst
  obtain ⟨xs, ds, m, a, ⟨hr, hm, hmay, ha, rfl, rfl⟩, hK⟩ := hst
  rcases ha with rfl | rfl
  · exact lc2a d hr hm hmay hK
  · exact lc2b d hr hm hmay hK
theorem at_all (x : Int) : x / 18446744073709551616 * 18446744073709551616 + x % 18446744073709551616 = x := by omega
theorem lc1 (d n0 : Nat) : LoopOk (envOf Try.prog Nrc d) f_perigeeref6_Centre n0 1 (lp Try.prog f_perigeeref6_Centre 1) Lc1 := by
  intro st K hst
  obtain ⟨xs, m, ⟨hr, hm, hmay, hmm, rfl, rfl⟩, hK⟩ := hst
  rw [br_bne, br_bne] at hK
  refine loop_of (fun i : Nat => Sc1 xs (if i = 0 then [] else if i = 1 then [rowF (divN (sumN 4 xs) m)] else [rowF (divN (sumN 4 xs) m), rowF (divN (sumN 6 xs) m)]) m i) (fun i => i ≤ 2 ∧ (1 ≤ i → asE 4 xs m = 0) ∧ (2 ≤ i → asE 6 xs m = 0)) (fun i => 2 - i) ?_ (a := 0) ⟨by omega, fun h => by omega, fun h => by omega⟩
  rintro i ⟨hi, h4, h6⟩ k hn hk
  show round (envOf Try.prog Nrc d) _ _ _ _ _ k
  rw [rc1]
  rcases (show i = 0 ∨ i = 1 ∨ i = 2 by omega) with rfl | rfl | rfl
  · refine br_is (by decide) ⟨xs, [], m, 0, ⟨hr, hm, hmay, .inl rfl, rfl, rfl⟩, ?_⟩
    show br (sumE 4 xs != 0) (k .ret _) _
    rw [at_all, at_all, br_bne, show axW 0 = 4 from rfl]
    have hs : asE 4 xs m = if sumE 4 xs ≠ 0 then sumE 4 xs else divE (sumN 4 xs) m := rfl
    refine ⟨fun h => ?_, fun h0 => ⟨may2_of (sumN_may 4 xs) hmm, ?_⟩⟩
    · rw [if_pos h] at hs
      rw [hs] at hK
      exact hk _ _ (by simp) (hK.1 h)
    · rw [if_neg (by simpa using h0)] at hs
      rw [br_bne, ← hs]
      refine ⟨fun h => hk _ _ (by simp) (hK.1 h), fun h => ⟨by decide, ?_⟩⟩
      exact hn 1 ⟨by omega, fun _ => h, fun h => by omega⟩ (by omega)
  · refine br_is (by decide) ⟨xs, [rowF (divN (sumN 4 xs) m)], m, 1, ⟨hr, hm, hmay, .inr rfl, rfl, rfl⟩, ?_⟩
    show br (sumE 6 xs != 0) (k .ret _) _
    rw [at_all, at_all, br_bne, show axW 1 = 6 from rfl]
    have hs : asE 6 xs m = if sumE 6 xs ≠ 0 then sumE 6 xs else divE (sumN 6 xs) m := rfl
    have z4 := h4 (by omega)
    have hK2 := hK.2 z4
    refine ⟨fun h => ?_, fun h0 => ⟨may2_of (sumN_may 6 xs) hmm, ?_⟩⟩
    · rw [if_pos h] at hs
      rw [hs] at hK2
      exact hk _ _ (by simp) (hK2.1 h)
    · rw [if_neg (by simpa using h0)] at hs
      rw [br_bne, ← hs]
      refine ⟨fun h => hk _ _ (by simp) (hK2.1 h), fun h => ⟨by show (1 + 1) * 16 ≤ 140737488355328; decide, ?_⟩⟩
      exact hn 2 ⟨by omega, fun _ => z4, fun _ => h⟩ (by omega)
  · refine br_no (by decide) ?_
    have hK2 := hK.2 (h4 (by omega))
    exact hk _ _ (by simp) (hK2.2 (h6 (by omega)))
theorem know_ownM {N : Know} (hΓ : ∀ g sp, N.Γ g = some sp → Contract Try.prog g sp) (hL : ∀ f i S, N.Λ f i = some S → ∀ d n0, LoopOk (envOf Try.prog N d) f n0 i (lp Try.prog f i) S) (hΤ : ∀ g G, N.Τ g = some G → FunOk Try.prog g G) (d : Nat) : KnowOk Try.prog N d :=
  ⟨mixedOrders, hΓ, fun d' _ f i S n0 hS => hL f i S hS d' n0, hΤ⟩
theorem knowRc : KnowOk Try.prog Nrc 3 := by
  refine know_ownM (fun g sp h => ctrst3 h) ?_ (fun g G h => by cases h) 3
  intro f i S hS d n0
  simp only [Nrc] at hS
  split at hS
  · rename_i hf
    subst hf
    split at hS
    · rename_i hi; subst hi; cases hS; exact lc0 d n0
    split at hS
    · rename_i hi; subst hi; cases hS; exact lc1 d n0
    split at hS
    · rename_i hi; subst hi; cases hS; exact lc2 d n0
    · cases hS
  · cases hS
theorem mid_stop {xs : List (List Int)} {e : Int} (he : e ≠ 0) (h : cE xs = e) : (midV xs, ([] : List Blk)) = (.agg [.int .i64 0, .int .u64 0, .int .i64 0, .int .u64 0, .int .i64 0, .int .u64 0, .int .i64 e], []) := by
  unfold midV cM cX cY
  rw [h, if_neg he, if_neg he, if_neg he]
  rfl
theorem c_RCentre : Contract Try.prog f_perigeeref6_Centre spRCen := by
  refine contract_of (N := Nrc) 3 knowRc ?_
  rintro l bs _ hB ⟨xs, rfl, rfl, hmay⟩
  have hb : okRows ksB xs ∧ 0 < ksB.length ∧ xs.length ≤ maxLen := hB (.ro ksB xs) (List.mem_singleton.2 rfl)
  show comes _ _ _ _ _ _ fun v bs' => (midV xs, ([] : List Blk)) = (v, bs')
  rw [v_RCentre]
  rintro t1 e1 t2 e2
  have p1 : t1 := by rw [e1]; decide
  have p2 : t2 := by rw [e2]; decide
  rw [br_beq]
  refine ⟨fun h => mid_stop (by decide) (by unfold cE; rw [if_pos (by omega)]), fun h => ?_⟩
  have n0 : ¬ xs.length = 0 := by omega
  refine ⟨xs, ⟨hb.1, hb.2.2, hmay, rfl, rfl⟩, ?_⟩
  rw [br_bne]
  refine ⟨fun h1 => mid_stop h1 (by unfold cE; rw [if_neg n0, if_pos h1]), fun h1 => ?_⟩
  refine ⟨xs, sumN 0 xs, ⟨hb.1, hb.2.2, hmay, sumN_may 0 xs, rfl, rfl⟩, ?_⟩
  have hax : ∀ w, asE w xs (sumN 0 xs) = axE w xs := by
    intro w
    unfold asE axE
    by_cases h : sumE w xs = 0
    · rw [if_neg (by simpa using h), if_pos h]
    · rw [if_pos h, if_neg h]
  have hcE : cE xs = if axE 4 xs ≠ 0 then axE 4 xs else axE 6 xs := by unfold cE; rw [if_neg n0, if_neg (by simpa using h1)]
  rw [hax, hax, br_bne]
  refine ⟨fun h4 => mid_stop h4 (by rw [hcE, if_pos h4]), fun h4 => ?_⟩
  rw [if_neg (by simpa using h4)] at hcE
  rw [br_bne]
  refine ⟨fun h6 => mid_stop h6 hcE, fun h6 => ⟨p1, p1, p2, p2, ?_⟩⟩
  have z : ∀ w, axE w xs = 0 → axN w xs = divN (sumN w xs) (sumN 0 xs) := by
    intro w hw
    unfold axE at hw
    unfold axN
    by_cases h : sumE w xs = 0
    · rw [if_pos h]
    · rw [if_neg h] at hw; exact absurd hw h
  have h0 : cE xs = 0 := hcE.trans h6
  unfold midV cM cX cY
  rw [h0, if_pos rfl, if_pos rfl, if_pos rfl, z 4 h4, z 6 h6]
end Go.Vs.RF
