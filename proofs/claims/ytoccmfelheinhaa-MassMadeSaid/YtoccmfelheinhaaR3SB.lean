import Derived.Test.YtoccmfelheinhaaR3S
set_option linter.unusedVariables false
/- tree.builder.add -/
namespace Go.Vs.RS
open Go Go.Proofs Go.Vs
def nk : List IntKind := [.i64, .u64, .i64, .i64, .i64, .i64, .i64, .i64]
def nodeV (lev key fr to k0 k1 k2 k3 : Int) : List IV := [.int .i64 lev, .int .u64 key, .int .i64 fr, .int .i64 to, .int .i64 k0, .int .i64 k1, .int .i64 k2, .int .i64 k3]
def shr (x : Int) (pl : Nat) : Int := x.fdiv (2 ^ pl)
def segGo (xs : List (List Int)) (pl : Nat) (kf : Int) (to : Nat) : Nat → Nat → Nat
  | 0, t => t
  | m + 1, t => if t < to ∧ shr (rd xs t 0) pl = shr kf pl then segGo xs pl kf to m (t + 1) else t
def segEnd (xs : List (List Int)) (pl : Nat) (to f : Nat) : Nat := segGo xs pl (rd xs f 0) to (to - (f + 1)) (f + 1)
def segs (xs : List (List Int)) (pl : Nat) (to : Nat) : Nat → Nat → List (Nat × Nat)
  | 0, _ => []
  | m + 1, f => if f < to then (f, segEnd xs pl to f) :: segs xs pl to m (segEnd xs pl to f) else []
def kq (xs : List (List Int)) (pl f : Nat) : Nat := (shr (rd xs f 0) pl % 4).toNat
def kp (xs : List (List Int)) (pl f : Nat) : Int := shr (rd xs f 0) pl * 2 ^ pl
abbrev SubT := Nat → Int → Nat → Nat → Nat → List (List Int)
def kidsF (F : SubT) (xs : List (List Int)) (lev pl : Nat) : List (Nat × Nat) → Nat → List (List Int)
  | [], _ => []
  | (f, t) :: ss, a => F (lev + 1) (kp xs pl f) f t a ++ kidsF F xs lev pl ss (a + (F (lev + 1) (kp xs pl f) f t a).length)
def ksF (F : SubT) (xs : List (List Int)) (lev pl : Nat) : List (Nat × Nat) → Nat → List Int → List Int
  | [], _, ks => ks
  | (f, t) :: ss, a, ks => ksF F xs lev pl ss (a + (F (lev + 1) (kp xs pl f) f t a).length) (ks.set (kq xs pl f) a)
def treeF (xs : List (List Int)) : Nat → SubT
  | 0, _, _, _, _, _ => []
  | n + 1, lev, key, fr, to, a =>
    if to - fr ≤ 4 ∨ 32 ≤ lev then [[(lev : Int), key, fr, to, -1, -1, -1, -1]]
    else ([(lev : Int), key, fr, to] ++ ksF (treeF xs n) xs lev (62 - 2 * lev) (segs xs (62 - 2 * lev) to (to - fr) fr) (a + 1) [-1, -1, -1, -1]) ::
      kidsF (treeF xs n) xs lev (62 - 2 * lev) (segs xs (62 - 2 * lev) to (to - fr) fr) (a + 1)

def keysIn (xs : List (List Int)) : Prop := ∀ i, 0 ≤ rd xs i 0 ∧ rd xs i 0 < 18446744073709551616
def pre29 (n : Nat) (xs zs : List (List Int)) (lev fr to : Int) : Prop := 0 ≤ lev ∧ lev ≤ 32 ∧ 33 ≤ lev + n ∧ 0 ≤ fr ∧ fr < to ∧ to ≤ xs.length ∧ xs.length ≤ 1000 ∧ keysIn xs ∧ zs.length + n * (to - fr) ≤ 1000000
def leaf8 (lev key fr to : Int) : List Int := [lev, key, fr, to, -1, -1, -1, -1]

end Go.Vs.RS
set_option linter.unusedVariables false
set_option linter.unusedSimpArgs false
/- tree.builder.add -/
namespace Go.Vs.RS
open Go Go.Proofs Go.Vs Go.IntWalk

theorem shr_nonneg {x : Int} (h : 0 ≤ x) (pl : Nat) : 0 ≤ shr x pl := Int.fdiv_nonneg h (Int.le_of_lt (Int.pow_pos (by decide)))
theorem shr_ediv (x : Int) (pl : Nat) : shr x pl = x / 2 ^ pl := Int.fdiv_eq_ediv_of_nonneg _ (Int.le_of_lt (Int.pow_pos (by decide)))
theorem shr_mul_le (x : Int) (pl : Nat) : shr x pl * 2 ^ pl ≤ x := by
  rw [shr_ediv]; exact Int.ediv_mul_le _ (Int.ne_of_gt (Int.pow_pos (by decide)))
theorem shr_le {x : Int} (h : 0 ≤ x) (pl : Nat) : shr x pl ≤ x := by
  rw [shr_ediv]; exact Int.ediv_le_self _ h
theorem u64_shr {x : Int} (h : 0 ≤ x) (h2 : x < 18446744073709551616) (pl : Nat) : IntKind.u64.wrap (shr x pl * 2 ^ pl) = shr x pl * 2 ^ pl := by
  have h1 := shr_mul_le x pl
  have h0 : 0 ≤ shr x pl * 2 ^ pl := Int.mul_nonneg (shr_nonneg h pl) (Int.le_of_lt (Int.pow_pos (by decide)))
  exact u64_in _ (by omega)
theorem and3 {a : Int} (h : 0 ≤ a) (h2 : a < 18446744073709551616) : IntKind.u64.wrap (((BitVec.ofInt 64 a &&& BitVec.ofInt 64 3).toNat : Nat) : Int) = a % 4 := by
  have e1 : (BitVec.ofInt 64 a &&& BitVec.ofInt 64 3).toNat = a.toNat % 4 := by
    rw [BitVec.toNat_and, BitVec.toNat_ofInt, BitVec.toNat_ofInt]
    have e2 : (a % ((2 ^ 64 : Nat) : Int)).toNat = a.toNat := by
      rw [Int.emod_eq_of_lt h (by simpa using h2)]
    have e3 : ((3 : Int) % ((2 ^ 64 : Nat) : Int)).toNat = 2 ^ 2 - 1 := by decide
    rw [e2, e3, Nat.and_two_pow_sub_one_eq_mod]
  rw [e1]
  have e4 : ((a.toNat % 4 : Nat) : Int) = a % 4 := by omega
  rw [e4]
  exact u64_in _ (by omega)

theorem segGo_spec (xs : List (List Int)) (pl : Nat) (kf : Int) (to : Nat) : ∀ (m t : Nat), to - t ≤ m → t ≤ to →
    t ≤ segGo xs pl kf to m t ∧ segGo xs pl kf to m t ≤ to ∧ (∀ j, t ≤ j → j < segGo xs pl kf to m t → shr (rd xs j 0) pl = shr kf pl) ∧
    (segGo xs pl kf to m t = to ∨ shr (rd xs (segGo xs pl kf to m t) 0) pl ≠ shr kf pl)
  | 0, t, hm, ht => by
    have : t = to := by omega
    subst this
    exact ⟨Nat.le_refl _, Nat.le_refl _, fun j h1 h2 => by simp only [segGo] at h2; omega, .inl rfl⟩
  | m + 1, t, hm, ht => by
    simp only [segGo]
    split
    · rename_i hc
      obtain ⟨h1, h2, h3, h4⟩ := segGo_spec xs pl kf to m (t + 1) (by omega) (by omega)
      refine ⟨by omega, h2, fun j hj1 hj2 => ?_, h4⟩
      rcases Nat.eq_or_lt_of_le hj1 with rfl | hlt
      · exact hc.2
      · exact h3 j (by omega) hj2
    · rename_i hc
      refine ⟨Nat.le_refl _, ht, fun j h1 h2 => by omega, ?_⟩
      rcases Nat.lt_or_ge t to with h | h
      · exact .inr fun h5 => hc ⟨h, h5⟩
      · exact .inl (by omega)
theorem segGo_step {xs : List (List Int)} {pl : Nat} {kf : Int} {to t : Nat} (h : t < to) (hs : shr (rd xs t 0) pl = shr kf pl) : segGo xs pl kf to (to - t) t = segGo xs pl kf to (to - (t + 1)) (t + 1) := by
  rw [show to - t = (to - (t + 1)) + 1 by omega]
  simp only [segGo]
  rw [if_pos ⟨h, hs⟩]
theorem segGo_stop {xs : List (List Int)} {pl : Nat} {kf : Int} {to t m : Nat} (h : ¬ (t < to ∧ shr (rd xs t 0) pl = shr kf pl)) : segGo xs pl kf to m t = t := by
  cases m with
  | zero => rfl
  | succ m => simp only [segGo]; rw [if_neg h]
theorem segEnd_spec (xs : List (List Int)) (pl : Nat) {to f : Nat} (h : f < to) :
    f < segEnd xs pl to f ∧ segEnd xs pl to f ≤ to ∧ (∀ j, f ≤ j → j < segEnd xs pl to f → shr (rd xs j 0) pl = shr (rd xs f 0) pl) ∧
    (segEnd xs pl to f = to ∨ shr (rd xs (segEnd xs pl to f) 0) pl ≠ shr (rd xs f 0) pl) := by
  obtain ⟨h1, h2, h3, h4⟩ := segGo_spec xs pl (rd xs f 0) to (to - (f + 1)) (f + 1) (Nat.le_refl _) (by omega)
  refine ⟨h1, h2, fun j hj1 hj2 => ?_, h4⟩
  rcases Nat.eq_or_lt_of_le hj1 with rfl | hlt
  · rfl
  · exact h3 j hlt hj2
theorem segs_fuel (xs : List (List Int)) (pl to : Nat) : ∀ (m m' f : Nat), to - f ≤ m → to - f ≤ m' → segs xs pl to m f = segs xs pl to m' f
  | 0, m', f, h, _ => by
    cases m' with
    | zero => rfl
    | succ m' => simp only [segs]; rw [if_neg (by omega)]
  | m + 1, 0, f, _, h => by simp only [segs]; rw [if_neg (by omega)]
  | m + 1, m' + 1, f, h, h' => by
    simp only [segs]
    split
    · rename_i hf
      have := (segEnd_spec xs pl hf).1
      rw [segs_fuel xs pl to m m' _ (by omega) (by omega)]
    · rfl
theorem segs_cons {xs : List (List Int)} {pl to f : Nat} (h : f < to) : segs xs pl to (to - f) f = (f, segEnd xs pl to f) :: segs xs pl to (to - segEnd xs pl to f) (segEnd xs pl to f) := by
  rw [show to - f = (to - f - 1) + 1 by omega]
  simp only [segs]
  rw [if_pos h]
  have := (segEnd_spec xs pl h).1
  rw [segs_fuel xs pl to (to - f - 1) (to - segEnd xs pl to f) _ (by omega) (by omega)]
theorem segs_nil {xs : List (List Int)} {pl to f m : Nat} (h : to ≤ f) : segs xs pl to m f = [] := by
  cases m with
  | zero => rfl
  | succ m => simp only [segs]; rw [if_neg (by omega)]

theorem kids_len {F : SubT} {xs : List (List Int)} {lev pl n : Nat} (hF : ∀ lev key f t a, f < t → (F lev key f t a).length ≤ n * (t - f)) (to : Nat) :
    ∀ (m f a : Nat), to - f ≤ m → f ≤ to → (kidsF F xs lev pl (segs xs pl to (to - f) f) a).length ≤ n * (to - f)
  | 0, f, a, h, h' => by rw [segs_nil (by omega)]; simp [kidsF]
  | m + 1, f, a, h, h' => by
    rcases Nat.lt_or_ge f to with hf | hf
    · rw [segs_cons hf]
      obtain ⟨h1, h2, _, _⟩ := segEnd_spec xs pl hf
      simp only [kidsF, List.length_append]
      have e1 := hF (lev + 1) (kp xs pl f) f (segEnd xs pl to f) a h1
      have e2 := kids_len (xs := xs) (lev := lev) (pl := pl) hF to m (segEnd xs pl to f) (a + (F (lev + 1) (kp xs pl f) f (segEnd xs pl to f) a).length) (by omega) h2
      have e3 : n * (to - f) = n * (segEnd xs pl to f - f) + n * (to - segEnd xs pl to f) := by rw [← Nat.mul_add]; congr 1; omega
      omega
    · rw [segs_nil hf]; simp [kidsF]
theorem tree_len (xs : List (List Int)) : ∀ (n lev : Nat) (key : Int) (f t a : Nat), f < t → (treeF xs n lev key f t a).length ≤ n * (t - f)
  | 0, _, _, _, _, _, _ => by simp [treeF]
  | n + 1, lev, key, f, t, a, h => by
    simp only [treeF]
    split
    · simp only [List.length_cons, List.length_nil]
      have : 1 * 1 ≤ (n + 1) * (t - f) := Nat.mul_le_mul (by omega) (by omega)
      omega
    · have := kids_len (lev := lev) (pl := 62 - 2 * lev) (xs := xs) (fun lev key f t a h => tree_len xs n lev key f t a h) t (t - f) f (a + 1) (Nat.le_refl _) (by omega)
      simp only [List.length_cons]
      rw [Nat.add_mul]
      omega
theorem tree_pos (xs : List (List Int)) (n lev : Nat) (key : Int) (f t a : Nat) : 0 < (treeF xs (n + 1) lev key f t a).length := by
  simp only [treeF]
  split <;> simp

theorem set4 {ks : List Int} (hl : ks.length = 4) {q : Nat} (hq : q < 4) (lev key fr to v : Int) :
    ([if (((0 : Nat) : Int) = ((4 : Nat) : Int) + (q : Int)) then v else ([lev, key, fr, to] ++ ks).getD 0 0, if (((1 : Nat) : Int) = ((4 : Nat) : Int) + (q : Int)) then v else ([lev, key, fr, to] ++ ks).getD 1 0, if (((2 : Nat) : Int) = ((4 : Nat) : Int) + (q : Int)) then v else ([lev, key, fr, to] ++ ks).getD 2 0, if (((3 : Nat) : Int) = ((4 : Nat) : Int) + (q : Int)) then v else ([lev, key, fr, to] ++ ks).getD 3 0, if (((4 : Nat) : Int) = ((4 : Nat) : Int) + (q : Int)) then v else ([lev, key, fr, to] ++ ks).getD 4 0, if (((5 : Nat) : Int) = ((4 : Nat) : Int) + (q : Int)) then v else ([lev, key, fr, to] ++ ks).getD 5 0, if (((6 : Nat) : Int) = ((4 : Nat) : Int) + (q : Int)) then v else ([lev, key, fr, to] ++ ks).getD 6 0, if (((7 : Nat) : Int) = ((4 : Nat) : Int) + (q : Int)) then v else ([lev, key, fr, to] ++ ks).getD 7 0] : List Int) = [lev, key, fr, to] ++ ks.set q v := by
  match ks, hl with
  | [a, b, c, d], _ =>
    have : q = 0 ∨ q = 1 ∨ q = 2 ∨ q = 3 := by omega
    rcases this with rfl | rfl | rfl | rfl <;> simp [List.getD]

theorem modify_mid {α : Type} (l : List α) (x : α) (r : List α) (f : α → α) : (l ++ x :: r).modify l.length f = l ++ f x :: r := by
  induction l with
  | nil => simp
  | cons a l ih => simp only [List.cons_append, List.length_cons, List.modify_succ_cons, ih]

structure Inv29 (n : Nat) (xs zs0 : List (List Int)) (lev : Nat) (key : Int) (fr to : Nat) (p : Nat × List (List Int)) : Prop where
  lo : fr ≤ p.1
  hi : p.1 ≤ to
  form : ∃ ks D, ks.length = 4 ∧ p.2 = zs0 ++ ([(lev : Int), key, fr, to] ++ ks) :: D ∧
    treeF xs (n + 1) lev key fr to zs0.length = ([(lev : Int), key, fr, to] ++ ksF (treeF xs n) xs lev (62 - 2 * lev) (segs xs (62 - 2 * lev) to (to - p.1) p.1) (zs0.length + 1 + D.length) ks) ::
      (D ++ kidsF (treeF xs n) xs lev (62 - 2 * lev) (segs xs (62 - 2 * lev) to (to - p.1) p.1) (zs0.length + 1 + D.length))
  cnt : p.2.length + n * (to - p.1) ≤ zs0.length + 1 + n * (to - fr)

end Go.Vs.RS

set_option linter.unusedVariables false
/- r6.quarter, r6.grow -/
namespace Go.Vs.RS
open Go Go.Proofs Go.Vs
def qrt (key lev : Int) : Int := shr key (62 - 2 * lev).toNat % 4
def pre37 (l : List IV) (bs : List Blk) : Prop := l = [.int .u64 (argI l 0 0), .int .i64 (argI l 1 0)] ∧ bs = [] ∧ 0 ≤ argI l 0 0 ∧ argI l 0 0 < 18446744073709551616 ∧ 0 ≤ argI l 1 0 ∧ argI l 1 0 ≤ 31
noncomputable def sp37 : Vs.Spec := ⟨pre37, fun l _ => (.int .i64 (qrt (argI l 0 0) (argI l 1 0)), [])⟩
noncomputable def Nnone : Know := ⟨fun _ => none, fun _ _ => none, fun _ => none⟩
noncomputable def Γ30 : FuncId → Option Vs.Spec := fun g => if g = 163 then some sp37 else none
theorem v37 (key lev : Int) (K : IV → List Blk → Prop) : (comes Try.prog Nnone 1 163 [.int .u64 key, .int .i64 lev] [] K) = ((0 : Int) ≤ IntKind.i64.wrap ((62 : Int) - IntKind.i64.wrap ((2 : Int) * lev)) ∧ K (IV.int IntKind.i64 (IntKind.i64.wrap (IntKind.u64.wrap (↑(BitVec.ofInt (64 : Nat) (key.fdiv ((2 : Int) ^ min (IntKind.i64.wrap ((62 : Int) - IntKind.i64.wrap ((2 : Int) * lev))).toNat (64 : Nat))) &&& BitVec.ofInt (64 : Nat) (3 : Int)).toNat : Int)))) []) := by kernel_rfl
def B30 (xs zs : List (List Int)) (lev key fr to k0 k1 k2 k3 : Int) : List (Option Blk) := [none, ro xs, some (.row 180 nk zs), some (.var 180 (nodeV lev key fr to k0 k1 k2 k3))]
def S30a (xs zs : List (List Int)) (lev key fr to k0 k1 k2 k3 at_ q : Int) : St := ⟨T 101 [(0, .sl 2), (1, .sl 1), (5, .ptr 3 0), (7, i64 at_), (8, i64 q)], B30 xs zs lev key fr to k0 k1 k2 k3⟩
def S30b (xs zs : List (List Int)) (lev key fr to k0 k1 k2 k3 at_ f q : Int) : St := ⟨T 101 [(0, .sl 2), (1, .sl 1), (5, .ptr 3 0), (7, i64 at_), (9, i64 f), (10, i64 q)], B30 xs zs lev key fr to k0 k1 k2 k3⟩
def S30c (xs zs : List (List Int)) (lev key fr to k0 k1 k2 k3 at_ f q t : Int) : St := ⟨T 101 [(0, .sl 2), (1, .sl 1), (5, .ptr 3 0), (7, i64 at_), (9, i64 f), (10, i64 q), (11, i64 t)], B30 xs zs lev key fr to k0 k1 k2 k3⟩
def runGo (xs : List (List Int)) (lev q : Int) (to : Nat) : Nat → Nat → Nat
  | 0, t => t
  | m + 1, t => if t < to ∧ qrt (rd xs t 0) lev = q then runGo xs lev q to m (t + 1) else t
def runEnd (xs : List (List Int)) (lev q : Int) (to f : Nat) : Nat := runGo xs lev q to (to - f) f
def pre30c (xs : List (List Int)) (lev to f q t : Int) : Prop := 0 ≤ lev ∧ lev ≤ 31 ∧ 0 ≤ f ∧ f ≤ to ∧ to ≤ xs.length ∧ xs.length ≤ 1000 ∧ t = f ∧ keysIn xs
noncomputable def L30c : LoopS := fun n0 st K => (n0 = 2 ∧ st = S30c (st.x 1) (st.x 2) (st.c 3 0) (st.c 3 1) (st.c 3 2) (st.c 3 3) (st.c 3 4) (st.c 3 5) (st.c 3 6) (st.c 3 7) (st.i 7) (st.i 9) (st.i 10) (st.i 11) ∧ pre30c (st.x 1) (st.c 3 0) (st.c 3 3) (st.i 9) (st.i 10) (st.i 11)) ∧
  K (.exit 4) (S30c (st.x 1) (st.x 2) (st.c 3 0) (st.c 3 1) (st.c 3 2) (st.c 3 3) (st.c 3 4) (st.c 3 5) (st.c 3 6) (st.c 3 7) (st.i 7) (st.i 9) (st.i 10) (runEnd (st.x 1) (st.c 3 0) (st.i 10) (st.c 3 3).toNat (st.i 9).toNat))
theorem r30a (N : Know) (xs zs : List (List Int)) (lev key fr to k0 k1 k2 k3 at_ q : Int) (k : Out → St → Prop) : (round (envOf Try.prog N 0) 117 2 0 (lp Try.prog 117 0) (S30a xs zs lev key fr to k0 k1 k2 k3 at_ q) k) = (br (decide (q < (4 : Int))) (((0 : Int) ≤ at_ ∧ at_ < (↑zs.length : Int)) ∧ ((0 : Int) ≤ q ∧ q < (4 : Int)) ∧ ((0 : Int) ≤ at_ ∧ at_ < (↑zs.length : Int) ∧ (0 : Int) ≤ q ∧ (4 : Nat) + q.toNat < (8 : Nat)) ∧ k Out.normal (St.mk [some (IV.sl (2 : Nat)), some (IV.sl (1 : Nat)), none, none, none, some (IV.ptr (3 : Nat) (0 : Nat)), none, some (IV.int IntKind.i64 at_), some (IV.int IntKind.i64 (IntKind.i64.wrap (q + (1 : Int)))), none, none, none, none, none, none, none, none, none, none, none, none, none, none, none, none, none, none, none, none, none, none, none, none, none, none, none, none, none, none, none, none, none, none, none, none, none, none, none, none, none, none, none, none, none, none, none, none, none, none, none, none, none, none, none, none, none, none, none, none, none, none, none, none, none, none, none, none, none, none, none, none, none, none, none, none, none, none, none, none, none, none, none, none, none, none, none, none, none, none, none, none] [none, some (Blk.ro [IntKind.u64, IntKind.i64] xs), some (Blk.row (180 : Nat) [IntKind.i64, IntKind.u64, IntKind.i64, IntKind.i64, IntKind.i64, IntKind.i64, IntKind.i64, IntKind.i64] (zs.modify at_.toNat fun x0 => [if (0 : Int) = (4 : Int) + q then (-1 : Int) else x0.getD (nat_lit 0) (0 : Int), if (1 : Int) = (4 : Int) + q then (-1 : Int) else x0.getD (nat_lit 1) (0 : Int), if (2 : Int) = (4 : Int) + q then (-1 : Int) else x0.getD (nat_lit 2) (0 : Int), if (3 : Int) = (4 : Int) + q then (-1 : Int) else x0.getD (nat_lit 3) (0 : Int), if (4 : Int) = (4 : Int) + q then (-1 : Int) else x0.getD (nat_lit 4) (0 : Int), if (5 : Int) = (4 : Int) + q then (-1 : Int) else x0.getD (nat_lit 5) (0 : Int), if (6 : Int) = (4 : Int) + q then (-1 : Int) else x0.getD (nat_lit 6) (0 : Int), if (7 : Int) = (4 : Int) + q then (-1 : Int) else x0.getD (nat_lit 7) (0 : Int)])), some (Blk.var (180 : Nat) [IV.int IntKind.i64 lev, IV.int IntKind.u64 key, IV.int IntKind.i64 fr, IV.int IntKind.i64 to, IV.int IntKind.i64 k0, IV.int IntKind.i64 k1, IV.int IntKind.i64 k2, IV.int IntKind.i64 k3])])) (k (Out.exit (0 : Nat)) (St.mk [some (IV.sl (2 : Nat)), some (IV.sl (1 : Nat)), none, none, none, some (IV.ptr (3 : Nat) (0 : Nat)), none, some (IV.int IntKind.i64 at_), none, none, none, none, none, none, none, none, none, none, none, none, none, none, none, none, none, none, none, none, none, none, none, none, none, none, none, none, none, none, none, none, none, none, none, none, none, none, none, none, none, none, none, none, none, none, none, none, none, none, none, none, none, none, none, none, none, none, none, none, none, none, none, none, none, none, none, none, none, none, none, none, none, none, none, none, none, none, none, none, none, none, none, none, none, none, none, none, none, none, none, none, none] [none, some (Blk.ro [IntKind.u64, IntKind.i64] xs), some (Blk.row (180 : Nat) [IntKind.i64, IntKind.u64, IntKind.i64, IntKind.i64, IntKind.i64, IntKind.i64, IntKind.i64, IntKind.i64] zs), some (Blk.var (180 : Nat) [IV.int IntKind.i64 lev, IV.int IntKind.u64 key, IV.int IntKind.i64 fr, IV.int IntKind.i64 to, IV.int IntKind.i64 k0, IV.int IntKind.i64 k1, IV.int IntKind.i64 k2, IV.int IntKind.i64 k3])]))) := by kernel_rfl
def oneP (xs : List (List Int)) (lev fr to : Nat) : Prop := ∀ i j : Nat, fr ≤ i → i < to → fr ≤ j → j < to → shr (rd xs i 0) (64 - 2 * lev) = shr (rd xs j 0) (64 - 2 * lev)
def pre30 (n : Nat) (xs zs : List (List Int)) (lev fr to : Int) : Prop := pre29 n xs zs lev fr to ∧ Rises xs ∧ oneP xs lev.toNat fr.toNat to.toNat
noncomputable def G30 (n : Nat) : FunS := fun args b K =>
  (args = [.sl 0, .sl 1, .agg (nodeV (argI args 2 0) (argI args 2 1) (argI args 2 2) (argI args 2 3) (argI args 2 4) (argI args 2 5) (argI args 2 6) (argI args 2 7))] ∧ b = [some (.row 180 nk (argX b 0)), ro (argX b 1)] ∧
    pre30 n (argX b 1) (argX b 0) (argI args 2 0) (argI args 2 2) (argI args 2 3)) ∧
  K (.sl 2) [none, ro (argX b 1), some (.row 180 nk (argX b 0 ++ treeF (argX b 1) n (argI args 2 0).toNat (argI args 2 1) (argI args 2 2).toNat (argI args 2 3).toNat (argX b 0).length))]
def pre30a (zs : List (List Int)) (lev key fr to k0 k1 k2 k3 at_ q : Int) : Prop := zs = zs.take at_.toNat ++ [[lev, key, fr, to, k0, k1, k2, k3]] ∧ 0 ≤ at_ ∧ at_ + 1 = zs.length ∧ q = 0
noncomputable def L30a : LoopS := fun n0 st K => (n0 = 2 ∧ st = S30a (st.x 1) (st.x 2) (st.c 3 0) (st.c 3 1) (st.c 3 2) (st.c 3 3) (st.c 3 4) (st.c 3 5) (st.c 3 6) (st.c 3 7) (st.i 7) (st.i 8) ∧ pre30a (st.x 2) (st.c 3 0) (st.c 3 1) (st.c 3 2) (st.c 3 3) (st.c 3 4) (st.c 3 5) (st.c 3 6) (st.c 3 7) (st.i 7) (st.i 8)) ∧
  K (.exit 0) ⟨T 101 [(0, .sl 2), (1, .sl 1), (5, .ptr 3 0), (7, i64 (st.i 7))], B30 (st.x 1) ((st.x 2).take (st.i 7).toNat ++ [leaf8 (st.c 3 0) (st.c 3 1) (st.c 3 2) (st.c 3 3)]) (st.c 3 0) (st.c 3 1) (st.c 3 2) (st.c 3 3) (st.c 3 4) (st.c 3 5) (st.c 3 6) (st.c 3 7)⟩
def pre30b (n : Nat) (xs zs : List (List Int)) (lev key fr to at_ f q : Int) : Prop :=
  pre30 (n + 1) xs (zs.take at_.toNat) lev fr to ∧ zs = zs.take at_.toNat ++ [leaf8 lev key fr to] ∧ 0 ≤ at_ ∧ at_ + 1 = zs.length ∧ f = fr ∧ q = 0 ∧ 4 < to - fr ∧ lev < 32
noncomputable def L30b (n : Nat) : LoopS := fun n0 st K => (n0 = 2 ∧ st = S30b (st.x 1) (st.x 2) (st.c 3 0) (st.c 3 1) (st.c 3 2) (st.c 3 3) (st.c 3 4) (st.c 3 5) (st.c 3 6) (st.c 3 7) (st.i 7) (st.i 9) (st.i 10) ∧ pre30b n (st.x 1) (st.x 2) (st.c 3 0) (st.c 3 1) (st.c 3 2) (st.c 3 3) (st.i 7) (st.i 9) (st.i 10)) ∧
  K (.exit 2) ⟨T 101 [(0, .sl 2)], [none, ro (st.x 1), some (.row 180 nk ((st.x 2).take (st.i 7).toNat ++ treeF (st.x 1) (n + 1) (st.c 3 0).toNat (st.c 3 1) (st.c 3 2).toNat (st.c 3 3).toNat (st.i 7).toNat))]⟩
noncomputable def N30 (n : Nat) : Know := ⟨Γ30, fun f i => if f = 117 then (if i = 0 then some L30a else if i = 1 then some (L30b n) else if i = 2 then some L30c else none) else none, fun g => if g = 117 then some (G30 n) else none⟩
theorem r30c (n : Nat) (xs zs : List (List Int)) (lev key fr to k0 k1 k2 k3 at_ f q t : Int) (k : Out → St → Prop) : (round (envOf Try.prog (N30 n) 0) 117 2 2 (lp Try.prog 117 2) (S30c xs zs lev key fr to k0 k1 k2 k3 at_ f q t) k) = (br (decide (t < to)) (((0 : Int) ≤ t ∧ t < (↑xs.length : Int)) ∧ ((0 : Int) ≤ t ∧ t < (↑xs.length : Int)) ∧ pre37 [IV.int IntKind.u64 (rd xs t.toNat (0 : Nat)), IV.int IntKind.i64 lev] [] ∧ br (qrt (rd xs t.toNat (0 : Nat)) lev == q) (k Out.normal (St.mk [some (IV.sl (2 : Nat)), some (IV.sl (1 : Nat)), none, none, none, some (IV.ptr (3 : Nat) (0 : Nat)), none, some (IV.int IntKind.i64 at_), none, some (IV.int IntKind.i64 f), some (IV.int IntKind.i64 q), some (IV.int IntKind.i64 (IntKind.i64.wrap (t + (1 : Int)))), none, none, none, none, none, none, none, none, none, none, none, none, none, none, none, none, none, none, none, none, none, none, none, none, none, none, none, none, none, none, none, none, none, none, none, none, none, none, none, none, none, none, none, none, none, none, none, none, none, none, none, none, none, none, none, none, none, none, none, none, none, none, none, none, none, none, none, none, none, none, none, none, none, none, none, none, none, none, none, none, none, none, none, none, none, none, none, none, none] [none, some (Blk.ro [IntKind.u64, IntKind.i64] xs), some (Blk.row (180 : Nat) [IntKind.i64, IntKind.u64, IntKind.i64, IntKind.i64, IntKind.i64, IntKind.i64, IntKind.i64, IntKind.i64] zs), some (Blk.var (180 : Nat) [IV.int IntKind.i64 lev, IV.int IntKind.u64 key, IV.int IntKind.i64 fr, IV.int IntKind.i64 to, IV.int IntKind.i64 k0, IV.int IntKind.i64 k1, IV.int IntKind.i64 k2, IV.int IntKind.i64 k3])])) (k (Out.exit (4 : Nat)) (St.mk [some (IV.sl (2 : Nat)), some (IV.sl (1 : Nat)), none, none, none, some (IV.ptr (3 : Nat) (0 : Nat)), none, some (IV.int IntKind.i64 at_), none, some (IV.int IntKind.i64 f), some (IV.int IntKind.i64 q), some (IV.int IntKind.i64 t), none, none, none, none, none, none, none, none, none, none, none, none, none, none, none, none, none, none, none, none, none, none, none, none, none, none, none, none, none, none, none, none, none, none, none, none, none, none, none, none, none, none, none, none, none, none, none, none, none, none, none, none, none, none, none, none, none, none, none, none, none, none, none, none, none, none, none, none, none, none, none, none, none, none, none, none, none, none, none, none, none, none, none, none, none, none, none, none, none] [none, some (Blk.ro [IntKind.u64, IntKind.i64] xs), some (Blk.row (180 : Nat) [IntKind.i64, IntKind.u64, IntKind.i64, IntKind.i64, IntKind.i64, IntKind.i64, IntKind.i64, IntKind.i64] zs), some (Blk.var (180 : Nat) [IV.int IntKind.i64 lev, IV.int IntKind.u64 key, IV.int IntKind.i64 fr, IV.int IntKind.i64 to, IV.int IntKind.i64 k0, IV.int IntKind.i64 k1, IV.int IntKind.i64 k2, IV.int IntKind.i64 k3])]))) (k (Out.exit (4 : Nat)) (St.mk [some (IV.sl (2 : Nat)), some (IV.sl (1 : Nat)), none, none, none, some (IV.ptr (3 : Nat) (0 : Nat)), none, some (IV.int IntKind.i64 at_), none, some (IV.int IntKind.i64 f), some (IV.int IntKind.i64 q), some (IV.int IntKind.i64 t), none, none, none, none, none, none, none, none, none, none, none, none, none, none, none, none, none, none, none, none, none, none, none, none, none, none, none, none, none, none, none, none, none, none, none, none, none, none, none, none, none, none, none, none, none, none, none, none, none, none, none, none, none, none, none, none, none, none, none, none, none, none, none, none, none, none, none, none, none, none, none, none, none, none, none, none, none, none, none, none, none, none, none, none, none, none, none, none, none] [none, some (Blk.ro [IntKind.u64, IntKind.i64] xs), some (Blk.row (180 : Nat) [IntKind.i64, IntKind.u64, IntKind.i64, IntKind.i64, IntKind.i64, IntKind.i64, IntKind.i64, IntKind.i64] zs), some (Blk.var (180 : Nat) [IV.int IntKind.i64 lev, IV.int IntKind.u64 key, IV.int IntKind.i64 fr, IV.int IntKind.i64 to, IV.int IntKind.i64 k0, IV.int IntKind.i64 k1, IV.int IntKind.i64 k2, IV.int IntKind.i64 k3])]))) := by kernel_rfl
theorem r30b (n : Nat) (xs zs : List (List Int)) (lev key fr to k0 k1 k2 k3 at_ f q : Int) (k : Out → St → Prop) : (round (envOf Try.prog (N30 n) 0) 117 2 1 (lp Try.prog 117 1) (S30b xs zs lev key fr to k0 k1 k2 k3 at_ f q) k) = (br (decide (q < (4 : Int))) (((2 : Nat) = (2 : Nat) ∧ St.mk [some (IV.sl (2 : Nat)), some (IV.sl (1 : Nat)), none, none, none, some (IV.ptr (3 : Nat) (0 : Nat)), none, some (IV.int IntKind.i64 at_), none, some (IV.int IntKind.i64 f), some (IV.int IntKind.i64 q), some (IV.int IntKind.i64 f), none, none, none, none, none, none, none, none, none, none, none, none, none, none, none, none, none, none, none, none, none, none, none, none, none, none, none, none, none, none, none, none, none, none, none, none, none, none, none, none, none, none, none, none, none, none, none, none, none, none, none, none, none, none, none, none, none, none, none, none, none, none, none, none, none, none, none, none, none, none, none, none, none, none, none, none, none, none, none, none, none, none, none, none, none, none, none, none, none] [none, some (Blk.ro [IntKind.u64, IntKind.i64] xs), some (Blk.row (180 : Nat) [IntKind.i64, IntKind.u64, IntKind.i64, IntKind.i64, IntKind.i64, IntKind.i64, IntKind.i64, IntKind.i64] zs), some (Blk.var (180 : Nat) [IV.int IntKind.i64 lev, IV.int IntKind.u64 key, IV.int IntKind.i64 fr, IV.int IntKind.i64 to, IV.int IntKind.i64 k0, IV.int IntKind.i64 k1, IV.int IntKind.i64 k2, IV.int IntKind.i64 k3])] = St.mk [some (IV.sl (2 : Nat)), some (IV.sl (1 : Nat)), none, none, none, some (IV.ptr (3 : Nat) (0 : Nat)), none, some (IV.int IntKind.i64 at_), none, some (IV.int IntKind.i64 f), some (IV.int IntKind.i64 q), some (IV.int IntKind.i64 f), none, none, none, none, none, none, none, none, none, none, none, none, none, none, none, none, none, none, none, none, none, none, none, none, none, none, none, none, none, none, none, none, none, none, none, none, none, none, none, none, none, none, none, none, none, none, none, none, none, none, none, none, none, none, none, none, none, none, none, none, none, none, none, none, none, none, none, none, none, none, none, none, none, none, none, none, none, none, none, none, none, none, none, none, none, none, none, none, none] [none, some (Blk.ro [IntKind.u64, IntKind.i64] xs), some (Blk.row (180 : Nat) [IntKind.i64, IntKind.u64, IntKind.i64, IntKind.i64, IntKind.i64, IntKind.i64, IntKind.i64, IntKind.i64] zs), some (Blk.var (180 : Nat) [IV.int IntKind.i64 lev, IV.int IntKind.u64 key, IV.int IntKind.i64 fr, IV.int IntKind.i64 to, IV.int IntKind.i64 k0, IV.int IntKind.i64 k1, IV.int IntKind.i64 k2, IV.int IntKind.i64 k3])] ∧ pre30c xs lev to f q f) ∧ br (decide ((↑(runEnd xs lev q to.toNat f.toNat) : Int) > f)) (((0 : Int) ≤ at_ ∧ at_ < (↑zs.length : Int)) ∧ ((0 : Int) ≤ q ∧ q < (4 : Int)) ∧ ((0 : Int) ≤ at_ ∧ at_ < (↑zs.length : Int) ∧ (0 : Int) ≤ q ∧ (4 : Nat) + q.toNat < (8 : Nat)) ∧ ((0 : Int) ≤ f ∧ f < (↑xs.length : Int)) ∧ ((0 : Int) ≤ f ∧ f < (↑xs.length : Int)) ∧ (0 : Int) ≤ IntKind.i64.wrap ((62 : Int) - IntKind.i64.wrap ((2 : Int) * lev)) ∧ (0 : Int) ≤ IntKind.i64.wrap ((62 : Int) - IntKind.i64.wrap ((2 : Int) * lev)) ∧ ([IV.sl (0 : Nat), IV.sl (1 : Nat), IV.agg [IV.int IntKind.i64 (IntKind.i64.wrap (lev + (1 : Int))), IV.int IntKind.u64 (IntKind.u64.wrap ((rd xs f.toNat (0 : Nat)).fdiv ((2 : Int) ^ min (IntKind.i64.wrap ((62 : Int) - IntKind.i64.wrap ((2 : Int) * lev))).toNat (64 : Nat)) * (2 : Int) ^ min (IntKind.i64.wrap ((62 : Int) - IntKind.i64.wrap ((2 : Int) * lev))).toNat (64 : Nat))), IV.int IntKind.i64 f, IV.int IntKind.i64 (↑(runEnd xs lev q to.toNat f.toNat) : Int), IV.int IntKind.i64 (0 : Int), IV.int IntKind.i64 (0 : Int), IV.int IntKind.i64 (0 : Int), IV.int IntKind.i64 (0 : Int)]] = [IV.sl (0 : Nat), IV.sl (1 : Nat), IV.agg [IV.int IntKind.i64 (IntKind.i64.wrap (lev + (1 : Int))), IV.int IntKind.u64 (IntKind.u64.wrap ((rd xs f.toNat (0 : Nat)).fdiv ((2 : Int) ^ min (IntKind.i64.wrap ((62 : Int) - IntKind.i64.wrap ((2 : Int) * lev))).toNat (64 : Nat)) * (2 : Int) ^ min (IntKind.i64.wrap ((62 : Int) - IntKind.i64.wrap ((2 : Int) * lev))).toNat (64 : Nat))), IV.int IntKind.i64 f, IV.int IntKind.i64 (↑(runEnd xs lev q to.toNat f.toNat) : Int), IV.int IntKind.i64 (0 : Int), IV.int IntKind.i64 (0 : Int), IV.int IntKind.i64 (0 : Int), IV.int IntKind.i64 (0 : Int)]] ∧ [some (Blk.row (180 : Nat) [IntKind.i64, IntKind.u64, IntKind.i64, IntKind.i64, IntKind.i64, IntKind.i64, IntKind.i64, IntKind.i64] (zs.modify at_.toNat fun x0 => [if (0 : Int) = (4 : Int) + q then (↑zs.length : Int) else x0.getD (nat_lit 0) (0 : Int), if (1 : Int) = (4 : Int) + q then (↑zs.length : Int) else x0.getD (nat_lit 1) (0 : Int), if (2 : Int) = (4 : Int) + q then (↑zs.length : Int) else x0.getD (nat_lit 2) (0 : Int), if (3 : Int) = (4 : Int) + q then (↑zs.length : Int) else x0.getD (nat_lit 3) (0 : Int), if (4 : Int) = (4 : Int) + q then (↑zs.length : Int) else x0.getD (nat_lit 4) (0 : Int), if (5 : Int) = (4 : Int) + q then (↑zs.length : Int) else x0.getD (nat_lit 5) (0 : Int), if (6 : Int) = (4 : Int) + q then (↑zs.length : Int) else x0.getD (nat_lit 6) (0 : Int), if (7 : Int) = (4 : Int) + q then (↑zs.length : Int) else x0.getD (nat_lit 7) (0 : Int)])), some (Blk.ro [IntKind.u64, IntKind.i64] xs)] = [some (Blk.row (180 : Nat) [IntKind.i64, IntKind.u64, IntKind.i64, IntKind.i64, IntKind.i64, IntKind.i64, IntKind.i64, IntKind.i64] (zs.modify at_.toNat fun x0 => [if (0 : Int) = (4 : Int) + q then (↑zs.length : Int) else x0.getD (nat_lit 0) (0 : Int), if (1 : Int) = (4 : Int) + q then (↑zs.length : Int) else x0.getD (nat_lit 1) (0 : Int), if (2 : Int) = (4 : Int) + q then (↑zs.length : Int) else x0.getD (nat_lit 2) (0 : Int), if (3 : Int) = (4 : Int) + q then (↑zs.length : Int) else x0.getD (nat_lit 3) (0 : Int), if (4 : Int) = (4 : Int) + q then (↑zs.length : Int) else x0.getD (nat_lit 4) (0 : Int), if (5 : Int) = (4 : Int) + q then (↑zs.length : Int) else x0.getD (nat_lit 5) (0 : Int), if (6 : Int) = (4 : Int) + q then (↑zs.length : Int) else x0.getD (nat_lit 6) (0 : Int), if (7 : Int) = (4 : Int) + q then (↑zs.length : Int) else x0.getD (nat_lit 7) (0 : Int)])), some (Blk.ro [IntKind.u64, IntKind.i64] xs)] ∧ pre30 n xs (zs.modify at_.toNat fun x0 => [if (0 : Int) = (4 : Int) + q then (↑zs.length : Int) else x0.getD (nat_lit 0) (0 : Int), if (1 : Int) = (4 : Int) + q then (↑zs.length : Int) else x0.getD (nat_lit 1) (0 : Int), if (2 : Int) = (4 : Int) + q then (↑zs.length : Int) else x0.getD (nat_lit 2) (0 : Int), if (3 : Int) = (4 : Int) + q then (↑zs.length : Int) else x0.getD (nat_lit 3) (0 : Int), if (4 : Int) = (4 : Int) + q then (↑zs.length : Int) else x0.getD (nat_lit 4) (0 : Int), if (5 : Int) = (4 : Int) + q then (↑zs.length : Int) else x0.getD (nat_lit 5) (0 : Int), if (6 : Int) = (4 : Int) + q then (↑zs.length : Int) else x0.getD (nat_lit 6) (0 : Int), if (7 : Int) = (4 : Int) + q then (↑zs.length : Int) else x0.getD (nat_lit 7) (0 : Int)]) (IntKind.i64.wrap (lev + (1 : Int))) f (↑(runEnd xs lev q to.toNat f.toNat) : Int)) ∧ k Out.normal (St.mk [some (IV.sl (2 : Nat)), some (IV.sl (1 : Nat)), none, none, none, some (IV.ptr (3 : Nat) (0 : Nat)), none, some (IV.int IntKind.i64 at_), none, some (IV.int IntKind.i64 (↑(runEnd xs lev q to.toNat f.toNat) : Int)), some (IV.int IntKind.i64 (IntKind.i64.wrap (q + (1 : Int)))), none, none, none, none, none, none, none, none, none, none, none, none, none, none, none, none, none, none, none, none, none, none, none, none, none, none, none, none, none, none, none, none, none, none, none, none, none, none, none, none, none, none, none, none, none, none, none, none, none, none, none, none, none, none, none, none, none, none, none, none, none, none, none, none, none, none, none, none, none, none, none, none, none, none, none, none, none, none, none, none, none, none, none, none, none, none, none, none, none, none] [none, some (Blk.ro [IntKind.u64, IntKind.i64] xs), some (Blk.row (180 : Nat) [IntKind.i64, IntKind.u64, IntKind.i64, IntKind.i64, IntKind.i64, IntKind.i64, IntKind.i64, IntKind.i64] ((zs.modify at_.toNat fun x0 => [if (0 : Int) = (4 : Int) + q then (↑zs.length : Int) else x0.getD (nat_lit 0) (0 : Int), if (1 : Int) = (4 : Int) + q then (↑zs.length : Int) else x0.getD (nat_lit 1) (0 : Int), if (2 : Int) = (4 : Int) + q then (↑zs.length : Int) else x0.getD (nat_lit 2) (0 : Int), if (3 : Int) = (4 : Int) + q then (↑zs.length : Int) else x0.getD (nat_lit 3) (0 : Int), if (4 : Int) = (4 : Int) + q then (↑zs.length : Int) else x0.getD (nat_lit 4) (0 : Int), if (5 : Int) = (4 : Int) + q then (↑zs.length : Int) else x0.getD (nat_lit 5) (0 : Int), if (6 : Int) = (4 : Int) + q then (↑zs.length : Int) else x0.getD (nat_lit 6) (0 : Int), if (7 : Int) = (4 : Int) + q then (↑zs.length : Int) else x0.getD (nat_lit 7) (0 : Int)]) ++ treeF xs n (IntKind.i64.wrap (lev + (1 : Int))).toNat (IntKind.u64.wrap ((rd xs f.toNat (0 : Nat)).fdiv ((2 : Int) ^ min (IntKind.i64.wrap ((62 : Int) - IntKind.i64.wrap ((2 : Int) * lev))).toNat (64 : Nat)) * (2 : Int) ^ min (IntKind.i64.wrap ((62 : Int) - IntKind.i64.wrap ((2 : Int) * lev))).toNat (64 : Nat))) f.toNat (↑(runEnd xs lev q to.toNat f.toNat) : Int).toNat (zs.modify at_.toNat fun x0 => [if (0 : Int) = (4 : Int) + q then (↑zs.length : Int) else x0.getD (nat_lit 0) (0 : Int), if (1 : Int) = (4 : Int) + q then (↑zs.length : Int) else x0.getD (nat_lit 1) (0 : Int), if (2 : Int) = (4 : Int) + q then (↑zs.length : Int) else x0.getD (nat_lit 2) (0 : Int), if (3 : Int) = (4 : Int) + q then (↑zs.length : Int) else x0.getD (nat_lit 3) (0 : Int), if (4 : Int) = (4 : Int) + q then (↑zs.length : Int) else x0.getD (nat_lit 4) (0 : Int), if (5 : Int) = (4 : Int) + q then (↑zs.length : Int) else x0.getD (nat_lit 5) (0 : Int), if (6 : Int) = (4 : Int) + q then (↑zs.length : Int) else x0.getD (nat_lit 6) (0 : Int), if (7 : Int) = (4 : Int) + q then (↑zs.length : Int) else x0.getD (nat_lit 7) (0 : Int)]).length)), some (Blk.var (180 : Nat) [IV.int IntKind.i64 lev, IV.int IntKind.u64 key, IV.int IntKind.i64 fr, IV.int IntKind.i64 to, IV.int IntKind.i64 k0, IV.int IntKind.i64 k1, IV.int IntKind.i64 k2, IV.int IntKind.i64 k3])])) (k Out.normal (St.mk [some (IV.sl (2 : Nat)), some (IV.sl (1 : Nat)), none, none, none, some (IV.ptr (3 : Nat) (0 : Nat)), none, some (IV.int IntKind.i64 at_), none, some (IV.int IntKind.i64 (↑(runEnd xs lev q to.toNat f.toNat) : Int)), some (IV.int IntKind.i64 (IntKind.i64.wrap (q + (1 : Int)))), none, none, none, none, none, none, none, none, none, none, none, none, none, none, none, none, none, none, none, none, none, none, none, none, none, none, none, none, none, none, none, none, none, none, none, none, none, none, none, none, none, none, none, none, none, none, none, none, none, none, none, none, none, none, none, none, none, none, none, none, none, none, none, none, none, none, none, none, none, none, none, none, none, none, none, none, none, none, none, none, none, none, none, none, none, none, none, none, none, none] [none, some (Blk.ro [IntKind.u64, IntKind.i64] xs), some (Blk.row (180 : Nat) [IntKind.i64, IntKind.u64, IntKind.i64, IntKind.i64, IntKind.i64, IntKind.i64, IntKind.i64, IntKind.i64] zs), some (Blk.var (180 : Nat) [IV.int IntKind.i64 lev, IV.int IntKind.u64 key, IV.int IntKind.i64 fr, IV.int IntKind.i64 to, IV.int IntKind.i64 k0, IV.int IntKind.i64 k1, IV.int IntKind.i64 k2, IV.int IntKind.i64 k3])]))) (k (Out.exit (2 : Nat)) (St.mk [some (IV.sl (2 : Nat)), none, none, none, none, none, none, none, none, none, none, none, none, none, none, none, none, none, none, none, none, none, none, none, none, none, none, none, none, none, none, none, none, none, none, none, none, none, none, none, none, none, none, none, none, none, none, none, none, none, none, none, none, none, none, none, none, none, none, none, none, none, none, none, none, none, none, none, none, none, none, none, none, none, none, none, none, none, none, none, none, none, none, none, none, none, none, none, none, none, none, none, none, none, none, none, none, none, none, none, none] [none, some (Blk.ro [IntKind.u64, IntKind.i64] xs), some (Blk.row (180 : Nat) [IntKind.i64, IntKind.u64, IntKind.i64, IntKind.i64, IntKind.i64, IntKind.i64, IntKind.i64, IntKind.i64] zs)]))) := by kernel_rfl
theorem v30 (n : Nat) (xs zs : List (List Int)) (lev key fr to k0 k1 k2 k3 : Int) (K : IV → List (Option Blk) → Prop) : (runFn Try.prog (N30 n) 1 117 [.sl 0, .sl 1, .agg (nodeV lev key fr to k0 k1 k2 k3)] [some (.row 180 nk zs), ro xs] fun v b1 => gcV 2 v b1 K) = ((zs.length + (1 : Nat)) * (64 : Nat) ≤ (140737488355328 : Nat) ∧ ((2 : Nat) = (2 : Nat) ∧ St.mk [some (IV.sl (2 : Nat)), some (IV.sl (1 : Nat)), none, none, none, some (IV.ptr (3 : Nat) (0 : Nat)), none, some (IV.int IntKind.i64 (↑zs.length : Int)), some (IV.int IntKind.i64 (0 : Int)), none, none, none, none, none, none, none, none, none, none, none, none, none, none, none, none, none, none, none, none, none, none, none, none, none, none, none, none, none, none, none, none, none, none, none, none, none, none, none, none, none, none, none, none, none, none, none, none, none, none, none, none, none, none, none, none, none, none, none, none, none, none, none, none, none, none, none, none, none, none, none, none, none, none, none, none, none, none, none, none, none, none, none, none, none, none, none, none, none, none, none, none] [none, some (Blk.ro [IntKind.u64, IntKind.i64] xs), some (Blk.row (180 : Nat) [IntKind.i64, IntKind.u64, IntKind.i64, IntKind.i64, IntKind.i64, IntKind.i64, IntKind.i64, IntKind.i64] (zs ++ (List.replicate (1 : Nat) (List.replicate (8 : Nat) (0 : Int))).set (0 : Nat) [lev, key, fr, to, k0, k1, k2, k3])), some (Blk.var (180 : Nat) [IV.int IntKind.i64 lev, IV.int IntKind.u64 key, IV.int IntKind.i64 fr, IV.int IntKind.i64 to, IV.int IntKind.i64 k0, IV.int IntKind.i64 k1, IV.int IntKind.i64 k2, IV.int IntKind.i64 k3])] = St.mk [some (IV.sl (2 : Nat)), some (IV.sl (1 : Nat)), none, none, none, some (IV.ptr (3 : Nat) (0 : Nat)), none, some (IV.int IntKind.i64 (↑zs.length : Int)), some (IV.int IntKind.i64 (0 : Int)), none, none, none, none, none, none, none, none, none, none, none, none, none, none, none, none, none, none, none, none, none, none, none, none, none, none, none, none, none, none, none, none, none, none, none, none, none, none, none, none, none, none, none, none, none, none, none, none, none, none, none, none, none, none, none, none, none, none, none, none, none, none, none, none, none, none, none, none, none, none, none, none, none, none, none, none, none, none, none, none, none, none, none, none, none, none, none, none, none, none, none, none] [none, some (Blk.ro [IntKind.u64, IntKind.i64] xs), some (Blk.row (180 : Nat) [IntKind.i64, IntKind.u64, IntKind.i64, IntKind.i64, IntKind.i64, IntKind.i64, IntKind.i64, IntKind.i64] (zs ++ (List.replicate (1 : Nat) (List.replicate (8 : Nat) (0 : Int))).set (0 : Nat) [lev, key, fr, to, k0, k1, k2, k3])), some (Blk.var (180 : Nat) [IV.int IntKind.i64 lev, IV.int IntKind.u64 key, IV.int IntKind.i64 fr, IV.int IntKind.i64 to, IV.int IntKind.i64 k0, IV.int IntKind.i64 k1, IV.int IntKind.i64 k2, IV.int IntKind.i64 k3])] ∧ pre30a (zs ++ (List.replicate (1 : Nat) (List.replicate (8 : Nat) (0 : Int))).set (0 : Nat) [lev, key, fr, to, k0, k1, k2, k3]) lev key fr to k0 k1 k2 k3 (↑zs.length : Int) (0 : Int)) ∧ br (decide (IntKind.i64.wrap (to - fr) ≤ (4 : Int))) (K (IV.sl (2 : Nat)) [none, some (Blk.ro [IntKind.u64, IntKind.i64] xs), some (Blk.row (180 : Nat) [IntKind.i64, IntKind.u64, IntKind.i64, IntKind.i64, IntKind.i64, IntKind.i64, IntKind.i64, IntKind.i64] (List.take (↑zs.length : Int).toNat (zs ++ (List.replicate (1 : Nat) (List.replicate (8 : Nat) (0 : Int))).set (0 : Nat) [lev, key, fr, to, k0, k1, k2, k3]) ++ [leaf8 lev key fr to]))]) (br (decide (lev ≥ (32 : Int))) (K (IV.sl (2 : Nat)) [none, some (Blk.ro [IntKind.u64, IntKind.i64] xs), some (Blk.row (180 : Nat) [IntKind.i64, IntKind.u64, IntKind.i64, IntKind.i64, IntKind.i64, IntKind.i64, IntKind.i64, IntKind.i64] (List.take (↑zs.length : Int).toNat (zs ++ (List.replicate (1 : Nat) (List.replicate (8 : Nat) (0 : Int))).set (0 : Nat) [lev, key, fr, to, k0, k1, k2, k3]) ++ [leaf8 lev key fr to]))]) (((2 : Nat) = (2 : Nat) ∧ St.mk [some (IV.sl (2 : Nat)), some (IV.sl (1 : Nat)), none, none, none, some (IV.ptr (3 : Nat) (0 : Nat)), none, some (IV.int IntKind.i64 (↑zs.length : Int)), none, some (IV.int IntKind.i64 fr), some (IV.int IntKind.i64 (0 : Int)), none, none, none, none, none, none, none, none, none, none, none, none, none, none, none, none, none, none, none, none, none, none, none, none, none, none, none, none, none, none, none, none, none, none, none, none, none, none, none, none, none, none, none, none, none, none, none, none, none, none, none, none, none, none, none, none, none, none, none, none, none, none, none, none, none, none, none, none, none, none, none, none, none, none, none, none, none, none, none, none, none, none, none, none, none, none, none, none, none, none] [none, some (Blk.ro [IntKind.u64, IntKind.i64] xs), some (Blk.row (180 : Nat) [IntKind.i64, IntKind.u64, IntKind.i64, IntKind.i64, IntKind.i64, IntKind.i64, IntKind.i64, IntKind.i64] (List.take (↑zs.length : Int).toNat (zs ++ (List.replicate (1 : Nat) (List.replicate (8 : Nat) (0 : Int))).set (0 : Nat) [lev, key, fr, to, k0, k1, k2, k3]) ++ [leaf8 lev key fr to])), some (Blk.var (180 : Nat) [IV.int IntKind.i64 lev, IV.int IntKind.u64 key, IV.int IntKind.i64 fr, IV.int IntKind.i64 to, IV.int IntKind.i64 k0, IV.int IntKind.i64 k1, IV.int IntKind.i64 k2, IV.int IntKind.i64 k3])] = St.mk [some (IV.sl (2 : Nat)), some (IV.sl (1 : Nat)), none, none, none, some (IV.ptr (3 : Nat) (0 : Nat)), none, some (IV.int IntKind.i64 (↑zs.length : Int)), none, some (IV.int IntKind.i64 fr), some (IV.int IntKind.i64 (0 : Int)), none, none, none, none, none, none, none, none, none, none, none, none, none, none, none, none, none, none, none, none, none, none, none, none, none, none, none, none, none, none, none, none, none, none, none, none, none, none, none, none, none, none, none, none, none, none, none, none, none, none, none, none, none, none, none, none, none, none, none, none, none, none, none, none, none, none, none, none, none, none, none, none, none, none, none, none, none, none, none, none, none, none, none, none, none, none, none, none, none, none] [none, some (Blk.ro [IntKind.u64, IntKind.i64] xs), some (Blk.row (180 : Nat) [IntKind.i64, IntKind.u64, IntKind.i64, IntKind.i64, IntKind.i64, IntKind.i64, IntKind.i64, IntKind.i64] (List.take (↑zs.length : Int).toNat (zs ++ (List.replicate (1 : Nat) (List.replicate (8 : Nat) (0 : Int))).set (0 : Nat) [lev, key, fr, to, k0, k1, k2, k3]) ++ [leaf8 lev key fr to])), some (Blk.var (180 : Nat) [IV.int IntKind.i64 lev, IV.int IntKind.u64 key, IV.int IntKind.i64 fr, IV.int IntKind.i64 to, IV.int IntKind.i64 k0, IV.int IntKind.i64 k1, IV.int IntKind.i64 k2, IV.int IntKind.i64 k3])] ∧ pre30b n xs (List.take (↑zs.length : Int).toNat (zs ++ (List.replicate (1 : Nat) (List.replicate (8 : Nat) (0 : Int))).set (0 : Nat) [lev, key, fr, to, k0, k1, k2, k3]) ++ [leaf8 lev key fr to]) lev key fr to (↑zs.length : Int) fr (0 : Int)) ∧ K (IV.sl (2 : Nat)) [none, some (Blk.ro [IntKind.u64, IntKind.i64] xs), some (Blk.row (180 : Nat) [IntKind.i64, IntKind.u64, IntKind.i64, IntKind.i64, IntKind.i64, IntKind.i64, IntKind.i64, IntKind.i64] (List.take (↑zs.length : Int).toNat (List.take (↑zs.length : Int).toNat (zs ++ (List.replicate (1 : Nat) (List.replicate (8 : Nat) (0 : Int))).set (0 : Nat) [lev, key, fr, to, k0, k1, k2, k3]) ++ [leaf8 lev key fr to]) ++ treeF xs (n + (1 : Nat)) lev.toNat key fr.toNat to.toNat (↑zs.length : Int).toNat))]))) := by kernel_rfl
noncomputable def N22 : Know := ⟨fun g => if g = 116 then some spRise else none, fun _ _ => none, fun g => if g = 117 then some (G30 33) else none⟩
theorem v22 (xs : List (List Int)) (K : IV → List Blk → Prop) : (comes Try.prog N22 1 66 [.sl 0] [.ro [.u64, .i64] xs] K) = (br ((↑xs.length : Int) == (0 : Int)) (K (IV.sl (0 : Nat)) [Blk.row (180 : Nat) [IntKind.i64, IntKind.u64, IntKind.i64, IntKind.i64, IntKind.i64, IntKind.i64, IntKind.i64, IntKind.i64] []]) (preRise [IV.sl (0 : Nat)] [Blk.ro [IntKind.u64, IntKind.i64] xs] ∧ br (!bp (Rises xs)) (K (IV.sl (0 : Nat)) [Blk.row (180 : Nat) [IntKind.i64, IntKind.u64, IntKind.i64, IntKind.i64, IntKind.i64, IntKind.i64, IntKind.i64, IntKind.i64] []]) (([IV.sl (0 : Nat), IV.sl (1 : Nat), IV.agg [IV.int IntKind.i64 (0 : Int), IV.int IntKind.u64 (0 : Int), IV.int IntKind.i64 (0 : Int), IV.int IntKind.i64 (↑xs.length : Int), IV.int IntKind.i64 (0 : Int), IV.int IntKind.i64 (0 : Int), IV.int IntKind.i64 (0 : Int), IV.int IntKind.i64 (0 : Int)]] = [IV.sl (0 : Nat), IV.sl (1 : Nat), IV.agg [IV.int IntKind.i64 (0 : Int), IV.int IntKind.u64 (0 : Int), IV.int IntKind.i64 (0 : Int), IV.int IntKind.i64 (↑xs.length : Int), IV.int IntKind.i64 (0 : Int), IV.int IntKind.i64 (0 : Int), IV.int IntKind.i64 (0 : Int), IV.int IntKind.i64 (0 : Int)]] ∧ [some (Blk.row (180 : Nat) [IntKind.i64, IntKind.u64, IntKind.i64, IntKind.i64, IntKind.i64, IntKind.i64, IntKind.i64, IntKind.i64] []), some (Blk.ro [IntKind.u64, IntKind.i64] xs)] = [some (Blk.row (180 : Nat) [IntKind.i64, IntKind.u64, IntKind.i64, IntKind.i64, IntKind.i64, IntKind.i64, IntKind.i64, IntKind.i64] []), some (Blk.ro [IntKind.u64, IntKind.i64] xs)] ∧ pre30 (33 : Nat) xs [] (0 : Int) (0 : Int) (↑xs.length : Int)) ∧ K (IV.sl (0 : Nat)) [Blk.row (180 : Nat) [IntKind.i64, IntKind.u64, IntKind.i64, IntKind.i64, IntKind.i64, IntKind.i64, IntKind.i64, IntKind.i64] ([] ++ treeF xs (33 : Nat) (0 : Nat) (0 : Int) (0 : Nat) (↑xs.length : Int).toNat (0 : Nat))]))) := by kernel_rfl


end Go.Vs.RS
set_option linter.unusedVariables false
set_option linter.unusedSimpArgs false
set_option maxRecDepth 100000
/- tree.Build; r6.grow, r6.Build -/
namespace Go.Vs.RS
open Go Go.Proofs Go.Vs Go.IntWalk

noncomputable def buildF (xs : List (List Int)) : List (List Int) := if bp (xs = [] ∨ ¬ Rises xs) then [] else treeF xs 33 0 0 0 xs.length 0
theorem buildF_nil : buildF [] = [] := by unfold buildF; rw [bp_true (.inl rfl)]; rfl
theorem buildF_not {xs : List (List Int)} (h : ¬ Rises xs) : buildF xs = [] := by unfold buildF; rw [bp_true (.inr h)]; rfl
theorem buildF_tree {xs : List (List Int)} (h : xs ≠ []) (h2 : Rises xs) : buildF xs = treeF xs 33 0 0 0 xs.length 0 := by
  unfold buildF
  rw [bp_false (by rintro (h3 | h3); exact h h3; exact h3 h2)]
  rfl
def preBuild (l : List IV) (bs : List Blk) : Prop := ∃ xs, l = [.sl 0] ∧ bs = [.ro [.u64, .i64] xs] ∧ xs.length ≤ 1000 ∧ keysIn xs
noncomputable def spBuild : Vs.Spec := ⟨preBuild, fun _ bs => (.sl 0, [.row 180 nk (buildF (xsOf bs 0))])⟩
theorem c37 : Contract Try.prog 163 sp37 := by
  refine contract_of 1 ⟨mixedOrders, fun g sp h => (by cases h), loops_none (N := Nnone) (fun _ _ => rfl) 1, fun g G h => (by cases h)⟩ (N := Nnone) ?_
  rintro l bs _ _ ⟨hl, hb, h1, h2, h3, h4⟩
  subst hb
  obtain ⟨key, lev, rfl⟩ : ∃ key lev, l = [.int .u64 key, .int .i64 lev] := ⟨_, _, hl⟩
  clear hl
  change 0 ≤ key at h1
  change key < 18446744073709551616 at h2
  change 0 ≤ lev at h3
  change lev ≤ 31 at h4
  rw [v37]
  have e1 : IntKind.i64.wrap (2 * lev) = 2 * lev := i64_in _ (by omega)
  have e2 : IntKind.i64.wrap (62 - 2 * lev) = 62 - 2 * lev := i64_in _ (by omega)
  rw [e1, e2]
  have e3 : min (62 - 2 * lev).toNat 64 = (62 - 2 * lev).toNat := by omega
  rw [e3]
  have e4 : key.fdiv (2 ^ (62 - 2 * lev).toNat) = shr key (62 - 2 * lev).toNat := rfl
  rw [e4, and3 (shr_nonneg h1 _) (by have := shr_le h1 (62 - 2 * lev).toNat; omega), i64_in (_ % 4) (by omega)]
  exact ⟨by omega, rfl⟩
end Go.Vs.RS

set_option linter.unusedVariables false
set_option linter.unusedSimpArgs false
set_option maxRecDepth 100000
/- r6.grow, r6.Build: the same nodes -/
namespace Go.Vs.RS
open Go Go.Proofs Go.Vs Go.IntWalk

theorem shr_shr (x : Int) (pl : Nat) : shr x (pl + 2) = shr x pl / 4 := by
  rw [shr_ediv, shr_ediv, Int.pow_add, Int.ediv_ediv_of_nonneg (Int.le_of_lt (Int.pow_pos (by decide)))]
  rfl
theorem shr_mono {x y : Int} (h : x ≤ y) (pl : Nat) : shr x pl ≤ shr y pl := by
  rw [shr_ediv, shr_ediv]; exact Int.ediv_le_ediv (Int.pow_pos (by decide)) h
theorem qrt_eq {x : Int} {lev : Nat} (h : lev ≤ 31) : qrt x lev = shr x (62 - 2 * lev) % 4 := by
  unfold qrt
  rw [show ((62 : Int) - 2 * (lev : Int)).toNat = 62 - 2 * lev by omega]
theorem rise_le {xs : List (List Int)} (h : Rises xs) {i j : Nat} (hij : i ≤ j) (hj : j < xs.length) : rd xs i 0 ≤ rd xs j 0 := by
  rcases Nat.eq_or_lt_of_le hij with rfl | hlt
  · exact Int.le_refl _
  · exact h i j hlt hj

structure Part (xs : List (List Int)) (lev fr to : Nat) : Prop where
  lv : lev ≤ 31
  rise : Rises xs
  one : oneP xs lev fr to
  len : to ≤ xs.length
theorem Part.split {xs : List (List Int)} {lev fr to : Nat} (h : Part xs lev fr to) {i : Nat} (h1 : fr ≤ i) (h2 : i < to) {j : Nat} (h3 : fr ≤ j) (h4 : j < to) :
    shr (rd xs i 0) (62 - 2 * lev) / 4 = shr (rd xs j 0) (62 - 2 * lev) / 4 := by
  have := h.one i j h1 h2 h3 h4
  rw [show 64 - 2 * lev = (62 - 2 * lev) + 2 by have := h.lv; omega, shr_shr, shr_shr] at this
  exact this
theorem Part.same {xs : List (List Int)} {lev fr to : Nat} (h : Part xs lev fr to) {i j : Nat} (h1 : fr ≤ i) (h2 : i < to) (h3 : fr ≤ j) (h4 : j < to) :
    shr (rd xs i 0) (62 - 2 * lev) = shr (rd xs j 0) (62 - 2 * lev) ↔ qrt (rd xs i 0) lev = qrt (rd xs j 0) lev := by
  rw [qrt_eq h.lv, qrt_eq h.lv]
  have := h.split h1 h2 h3 h4
  omega
theorem Part.up {xs : List (List Int)} {lev fr to : Nat} (h : Part xs lev fr to) {i j : Nat} (h1 : fr ≤ i) (h3 : i ≤ j) (h4 : j < to) :
    qrt (rd xs i 0) lev ≤ qrt (rd xs j 0) lev := by
  rw [qrt_eq h.lv, qrt_eq h.lv]
  have := h.split h1 (by omega) (show fr ≤ j by omega) h4
  have h5 := shr_mono (rise_le h.rise h3 (by have := h.len; omega)) (62 - 2 * lev)
  omega
theorem qrt_lt (x lev : Int) : 0 ≤ qrt x lev ∧ qrt x lev < 4 := by unfold qrt; omega

theorem runGo_spec (xs : List (List Int)) (lev q : Int) (to : Nat) : ∀ (m t : Nat), to - t ≤ m → t ≤ to →
    t ≤ runGo xs lev q to m t ∧ runGo xs lev q to m t ≤ to ∧ (∀ j, t ≤ j → j < runGo xs lev q to m t → qrt (rd xs j 0) lev = q) ∧
    (runGo xs lev q to m t = to ∨ qrt (rd xs (runGo xs lev q to m t) 0) lev ≠ q)
  | 0, t, hm, ht => by
    have : t = to := by omega
    subst this
    exact ⟨Nat.le_refl _, Nat.le_refl _, fun j h1 h2 => by simp only [runGo] at h2; omega, .inl rfl⟩
  | m + 1, t, hm, ht => by
    simp only [runGo]
    split
    · rename_i hc
      obtain ⟨h1, h2, h3, h4⟩ := runGo_spec xs lev q to m (t + 1) (by omega) (by omega)
      refine ⟨by omega, h2, fun j hj1 hj2 => ?_, h4⟩
      rcases Nat.eq_or_lt_of_le hj1 with rfl | hlt
      · exact hc.2
      · exact h3 j (by omega) hj2
    · rename_i hc
      refine ⟨Nat.le_refl _, ht, fun j h1 h2 => by omega, ?_⟩
      rcases Nat.lt_or_ge t to with h | h
      · exact .inr fun h5 => hc ⟨h, h5⟩
      · exact .inl (by omega)
theorem runGo_step {xs : List (List Int)} {lev q : Int} {to t : Nat} (h : t < to) (hs : qrt (rd xs t 0) lev = q) : runGo xs lev q to (to - t) t = runGo xs lev q to (to - (t + 1)) (t + 1) := by
  rw [show to - t = (to - (t + 1)) + 1 by omega]
  simp only [runGo]
  rw [if_pos ⟨h, hs⟩]
theorem runGo_stop {xs : List (List Int)} {lev q : Int} {to t m : Nat} (h : ¬ (t < to ∧ qrt (rd xs t 0) lev = q)) : runGo xs lev q to m t = t := by
  cases m with
  | zero => rfl
  | succ m => simp only [runGo]; rw [if_neg h]
theorem runEnd_stop {xs : List (List Int)} {lev q : Int} {to f : Nat} (h : ¬ (f < to ∧ qrt (rd xs f 0) lev = q)) : runEnd xs lev q to f = f := runGo_stop h
theorem runEnd_seg {xs : List (List Int)} {lev fr to f : Nat} {q : Int} (h : Part xs lev fr to) (hf : fr ≤ f) (hft : f < to) (hq : qrt (rd xs f 0) lev = q) : runEnd xs lev q to f = segEnd xs (62 - 2 * lev) to f := by
  obtain ⟨s1, s2, s3, s4⟩ := segEnd_spec xs (62 - 2 * lev) hft
  obtain ⟨r1, r2, r3, r4⟩ := runGo_spec xs lev q to (to - f) f (Nat.le_refl _) (by omega)
  change f ≤ runEnd xs lev q to f at r1
  change runEnd xs lev q to f ≤ to at r2
  change ∀ j, f ≤ j → j < runEnd xs lev q to f → _ at r3
  change runEnd xs lev q to f = to ∨ qrt (rd xs (runEnd xs lev q to f) 0) lev ≠ q at r4
  rcases Nat.lt_trichotomy (runEnd xs lev q to f) (segEnd xs (62 - 2 * lev) to f) with hlt | he | hgt
  · exfalso
    rcases r4 with r4 | r4
    · omega
    · have := s3 (runEnd xs lev q to f) r1 hlt
      rw [h.same (by omega) (by omega) hf hft, hq] at this
      exact r4 this
  · exact he
  · exfalso
    rcases s4 with s4 | s4
    · omega
    · have := r3 (segEnd xs (62 - 2 * lev) to f) (by omega) hgt
      apply s4
      rw [h.same (by omega) (by omega) hf hft, hq]
      exact this

theorem loop30a (N : Know) (n0 : Nat) : LoopOk (envOf Try.prog N 0) 117 n0 0 (lp Try.prog 117 0) L30a := by
  rintro st K ⟨⟨rfl, hst, hp⟩, hK⟩
  generalize st.x 1 = xs at *
  generalize st.x 2 = zs at *
  generalize st.c 3 0 = lev at *
  generalize st.c 3 1 = key at *
  generalize st.c 3 2 = fr at *
  generalize st.c 3 3 = to at *
  generalize st.c 3 4 = k0 at *
  generalize st.c 3 5 = k1 at *
  generalize st.c 3 6 = k2 at *
  generalize st.c 3 7 = k3 at *
  generalize st.i 7 = at0 at *
  generalize st.i 8 = q0 at *
  subst hst
  obtain ⟨e1, p1, p2, rfl⟩ := hp
  obtain ⟨at_, rfl⟩ : ∃ m : Nat, at0 = m := ⟨at0.toNat, by omega⟩
  simp only [Int.toNat_natCast] at *
  generalize hz0 : zs.take at_ = zs0 at *
  have hl0 : zs0.length = at_ := by rw [← hz0, List.length_take]; omega
  subst hl0
  subst e1
  refine loop_of (fun p : Int × List Int => S30a xs (zs0 ++ [[lev, key, fr, to] ++ p.2]) lev key fr to k0 k1 k2 k3 zs0.length p.1) (fun p => 0 ≤ p.1 ∧ p.1 ≤ 4 ∧ p.2.length = 4 ∧ ∀ j : Nat, (j : Int) < p.1 → p.2.getD j 0 = -1) (fun p => (4 - p.1).toNat) ?_ (a := (0, [k0, k1, k2, k3])) ⟨by simp, by simp, rfl, fun j hj => by simp only at hj; omega⟩
  rintro ⟨q, ks⟩ ⟨a1, a2, hkl, hks⟩ k hn hk
  simp only at a1 a2 hks
  show round _ _ _ _ _ (S30a xs (zs0 ++ [[lev, key, fr, to] ++ ks]) lev key fr to k0 k1 k2 k3 zs0.length q) k
  rw [r30a, br_dec]
  constructor
  · intro hi
    obtain ⟨qn, rfl⟩ : ∃ m : Nat, q = m := ⟨q.toNat, by omega⟩
    have hq4 : qn < 4 := by omega
    have hw : (0 : Int) ≤ (zs0.length : Int) ∧ (zs0.length : Int) < (zs0 ++ [[lev, key, fr, to] ++ ks]).length := by simp; omega
    refine ⟨hw, by omega, ⟨hw.1, hw.2, by omega, by omega⟩, ?_⟩
    simp only [Int.toNat_natCast]
    rw [modify_mid]
    rw [i64_in ((qn : Int) + 1) (by omega)]
    have := hn ((qn : Int) + 1, ks.set qn (-1)) ⟨by simp only; omega, by simp only; omega, by simpa using hkl, ?_⟩ (by simp only; omega)
    · simp only at this
      rw [← set4 hkl hq4] at this
      exact this
    · intro j hj
      simp only at hj
      by_cases e : qn = j
      · subst e; simp [List.getD, hkl, hq4]
      · have := hks j (by omega)
        simp only [List.getD, List.getElem?_set_ne e] at this ⊢
        exact this
  · intro hi
    have e : q = 4 := by omega
    subst e
    have hks' : ks = [-1, -1, -1, -1] := by
      match ks, hkl with
      | [a, b, c, d], _ =>
        have h0 := hks 0 (by decide)
        have h1 := hks 1 (by decide)
        have h2 := hks 2 (by decide)
        have h3 := hks 3 (by decide)
        simp [List.getD] at h0 h1 h2 h3
        rw [h0, h1, h2, h3]
    subst hks'
    exact hk _ _ (by simp) hK

theorem loop30c (n : Nat) (n0 : Nat) : LoopOk (envOf Try.prog (N30 n) 0) 117 n0 2 (lp Try.prog 117 2) L30c := by
  rintro st K ⟨⟨rfl, hst, hp⟩, hK⟩
  generalize st.x 1 = xs at *
  generalize st.x 2 = zs at *
  generalize st.c 3 0 = lev at *
  generalize st.c 3 1 = key at *
  generalize st.c 3 2 = fr at *
  generalize st.c 3 3 = to at *
  generalize st.c 3 4 = k0 at *
  generalize st.c 3 5 = k1 at *
  generalize st.c 3 6 = k2 at *
  generalize st.c 3 7 = k3 at *
  generalize st.i 7 = at_ at *
  generalize st.i 9 = f0 at *
  generalize st.i 10 = q at *
  generalize st.i 11 = f at *
  subst hst
  obtain ⟨p1, p2, p3, p4, p5, p6, ht0, p7⟩ := hp
  subst ht0
  refine loop_of (fun a : Int => S30c xs zs lev key fr to k0 k1 k2 k3 at_ f q a) (fun a => f ≤ a ∧ a ≤ to ∧ runGo xs lev q to.toNat (to.toNat - a.toNat) a.toNat = runEnd xs lev q to.toNat f.toNat) (fun a => (to - a).toNat) ?_ (a := f) ⟨by omega, by omega, rfl⟩
  rintro t ⟨a1, a2, a3⟩ k hn hk
  show round _ _ _ _ _ (S30c _ _ _ _ _ _ _ _ _ _ _ _ _ t) k
  rw [r30c, br_dec]
  have fin : ¬ (t.toNat < to.toNat ∧ qrt (rd xs t.toNat 0) lev = q) → k (Out.exit 4) (S30c xs zs lev key fr to k0 k1 k2 k3 at_ f q t) := by
    intro h
    rw [runGo_stop h] at a3
    refine hk _ _ (by simp) ?_
    rw [← a3] at hK
    rw [show ((t.toNat : Nat) : Int) = t by omega] at hK
    exact hK
  constructor
  · intro hi
    have hw : (0 : Int) ≤ t ∧ t < xs.length := by omega
    have hk0 := p7 t.toNat
    refine ⟨hw, hw, ⟨rfl, rfl, hk0.1, hk0.2, p1, p2⟩, ?_⟩
    rw [br_bool]
    constructor
    · intro he
      have he' : qrt (rd xs t.toNat 0) lev = q := by simpa using he
      rw [i64_in (t + 1) (by omega)]
      refine hn (t + 1) ⟨by omega, by omega, ?_⟩ (by omega)
      rw [show (t + 1).toNat = t.toNat + 1 by omega, ← runGo_step (by omega) he']
      exact a3
    · intro he
      refine fin fun h => ?_
      rw [h.2] at he
      simp at he
  · intro hi
    exact fin (by omega)

structure Inv30 (n : Nat) (xs zs0 : List (List Int)) (lev : Nat) (key : Int) (fr to : Nat) (p : Nat × Nat × List (List Int)) : Prop where
  inv : Inv29 n xs zs0 lev key fr to (p.1, p.2.2)
  q : p.2.1 ≤ 4
  rest : ∀ j, p.1 ≤ j → j < to → (p.2.1 : Int) ≤ qrt (rd xs j 0) lev

theorem loop30b (n : Nat) (n0 : Nat) : LoopOk (envOf Try.prog (N30 n) 0) 117 n0 1 (lp Try.prog 117 1) (L30b n) := by
  rintro st K ⟨⟨rfl, hst, hp⟩, hK⟩
  generalize st.x 1 = xs at *
  generalize st.x 2 = zs at *
  generalize st.c 3 0 = lev0 at *
  generalize st.c 3 1 = key at *
  generalize st.c 3 2 = fr0 at *
  generalize st.c 3 3 = to0 at *
  generalize st.c 3 4 = k0 at *
  generalize st.c 3 5 = k1 at *
  generalize st.c 3 6 = k2 at *
  generalize st.c 3 7 = k3 at *
  generalize st.i 7 = at0 at *
  generalize st.i 9 = f0 at *
  generalize st.i 10 = q0 at *
  subst hst
  obtain ⟨⟨⟨q1, q1', q2, q3, q4, q5, q6, q7, q8⟩, hR, hone⟩, e1, q9, q10, rfl, rfl, q11, q12⟩ := hp
  obtain ⟨lev, rfl⟩ : ∃ m : Nat, lev0 = m := ⟨lev0.toNat, by omega⟩
  obtain ⟨fr, rfl⟩ : ∃ m : Nat, f0 = m := ⟨f0.toNat, by omega⟩
  obtain ⟨to, rfl⟩ : ∃ m : Nat, to0 = m := ⟨to0.toNat, by omega⟩
  obtain ⟨at_, rfl⟩ : ∃ m : Nat, at0 = m := ⟨at0.toNat, by omega⟩
  simp only [Int.toNat_natCast] at *
  generalize hz0 : zs.take at_ = zs0 at *
  have hl0 : zs0.length = at_ := by rw [← hz0, List.length_take]; omega
  have hpl : ((62 : Int) - 2 * (lev : Int)).toNat = 62 - 2 * lev := by omega
  have hpart : Part xs lev fr to := ⟨by omega, hR, hone, by omega⟩
  have hstart : Inv30 n xs zs0 lev key fr to (fr, 0, zs) := by
    refine ⟨⟨Nat.le_refl _, by simp only; omega, ⟨[-1, -1, -1, -1], [], rfl, ?_, ?_⟩, ?_⟩, by simp, fun j _ _ => (qrt_lt _ _).1⟩
    · rw [e1]; rfl
    · simp only [treeF]
      rw [if_neg (by omega)]
      simp
    · simp only
      have := congrArg List.length e1
      simp at this
      omega
  refine loop_of (fun p : Nat × Nat × List (List Int) => S30b xs p.2.2 lev key fr to k0 k1 k2 k3 at_ p.1 p.2.1) (Inv30 n xs zs0 lev key fr to) (fun p => 4 - p.2.1) ?_ (a := (fr, 0, zs)) hstart
  rintro ⟨f, q, zs1⟩ ⟨⟨a1, a2, ⟨ks, D, hkl, hz, htree⟩, hcnt⟩, hq4, hrest⟩ k hn hk
  simp only at a1 a2 hz htree hcnt hq4 hrest
  show round _ _ _ _ _ (S30b xs zs1 lev key fr to k0 k1 k2 k3 at_ f q) k
  rw [r30b, br_dec]
  constructor
  · intro hi
    have hi' : q < 4 := by omega
    have hmin : min (62 - 2 * lev) 64 = 62 - 2 * lev := by omega
    have hk0 := q7 f
    have hsh : (rd xs f 0).fdiv (2 ^ (62 - 2 * lev)) = shr (rd xs f 0) (62 - 2 * lev) := rfl
    have hw1 : IntKind.i64.wrap (62 - IntKind.i64.wrap (2 * (lev : Int))) = 62 - 2 * (lev : Int) := by rw [i64_in (2 * (lev : Int)) (by omega), i64_in _ (by omega)]
    rw [hw1]
    simp only [Int.toNat_natCast, hpl, hmin, hsh]
    rw [u64_shr hk0.1 hk0.2, i64_in ((lev : Int) + 1) (by omega), i64_in ((q : Int) + 1) (by omega)]
    refine ⟨⟨by first | rfl | trivial, by first | rfl | trivial, by omega, by omega, by omega, by omega, by omega, by omega, by first | rfl | trivial, q7⟩, ?_⟩
    rw [br_dec]
    by_cases hc : f < to ∧ qrt (rd xs f 0) lev = q
    · -- a run of this quarter
      rw [runEnd_seg hpart a1 hc.1 hc.2]
      obtain ⟨s1, s2, s3, s4⟩ := segEnd_spec xs (62 - 2 * lev) hc.1
      have hkp : shr (rd xs f 0) (62 - 2 * lev) * 2 ^ (62 - 2 * lev) = kp xs (62 - 2 * lev) f := rfl
      rw [hkp]
      have hqq : kq xs (62 - 2 * lev) f = q := by
        have := hc.2
        rw [qrt_eq hpart.lv] at this
        unfold kq
        omega
      have hle : ((lev : Int) + 1).toNat = lev + 1 := by omega
      rw [hle]
      refine ⟨fun _ => ?_, fun h => absurd h (by omega)⟩
      have hsplit : n * (to - f) = n * (segEnd xs (62 - 2 * lev) to f - f) + n * (to - segEnd xs (62 - 2 * lev) to f) := by rw [← Nat.mul_add]; congr 1; omega
      have hz1 : zs1.length = at_ + 1 + D.length := by rw [hz]; simp [hl0]; omega
      have hmul : ((n : Int) + 1) * ((to : Int) - fr) = (n * (to - fr) + (to - fr) : Nat) := by
        have : ((to - fr : Nat) : Int) = (to : Int) - fr := by omega
        rw [← this]; push_cast; rw [Int.add_mul]; omega
      have hmul2 : (n : Int) * (((segEnd xs (62 - 2 * lev) to f : Nat) : Int) - f) = (n * (segEnd xs (62 - 2 * lev) to f - f) : Nat) := by
        have : ((segEnd xs (62 - 2 * lev) to f - f : Nat) : Int) = ((segEnd xs (62 - 2 * lev) to f : Nat) : Int) - f := by omega
        rw [← this]; push_cast; rfl
      have q8' : zs0.length + ((n : Int) + 1) * ((to : Int) - fr) ≤ 1000000 := by push_cast at q8; exact q8
      rw [hmul] at q8'
      refine ⟨by omega, by omega, by omega, by omega, by omega, by omega, by omega, ⟨by first | rfl | trivial, by first | rfl | trivial, ⟨by omega, by omega, by omega, by omega, by omega, by omega, by omega, q7, ?_⟩, hR, ?_⟩, ?_⟩
      · rw [hmul2, List.length_modify]; omega
      · intro i j h1 h2 h3 h4
        rw [show 64 - 2 * ((lev : Int) + 1).toNat = 62 - 2 * lev by omega]
        simp only [Int.toNat_natCast] at h1 h2 h3 h4
        rw [s3 i h1 h2, s3 j h3 h4]
      · rw [List.length_modify, hz, show at_ = zs0.length from hl0.symm, modify_mid, List.append_assoc, List.cons_append]
        have hlen2 : (zs0 ++ ([(lev : Int), key, (fr : Int), (to : Int)] ++ ks) :: D).length = zs0.length + 1 + D.length := by simp; omega
        rw [hlen2]
        have := hn (segEnd xs (62 - 2 * lev) to f, q + 1, zs0 ++ ([(lev : Int), key, (fr : Int), (to : Int)] ++ ks.set q ((zs0.length + 1 + D.length : Nat) : Int)) :: (D ++ treeF xs n (lev + 1) (kp xs (62 - 2 * lev) f) f (segEnd xs (62 - 2 * lev) to f) (zs0.length + 1 + D.length))) ⟨⟨by simp only; omega, s2, ⟨_, _, by simpa using hkl, rfl, ?_⟩, ?_⟩, by simp only; omega, ?_⟩ (by simp only; omega)
        · rw [← set4 hkl hi'] at this
          rw [hl0] at this ⊢
          exact this
        · rw [htree, segs_cons hc.1]
          simp only [ksF, kidsF, List.length_append, List.append_assoc, Nat.add_assoc, hqq]
        · simp only [List.length_append, List.length_cons]
          have h2 := tree_len xs n (lev + 1) (kp xs (62 - 2 * lev) f) f (segEnd xs (62 - 2 * lev) to f) (zs0.length + 1 + D.length) s1
          omega
        · intro j hj1 hj2
          simp only at hj1 ⊢
          have hge := hrest (segEnd xs (62 - 2 * lev) to f) (by omega) (by omega)
          have hup := hpart.up (i := segEnd xs (62 - 2 * lev) to f) (by omega) hj1 hj2
          have hne : qrt (rd xs (segEnd xs (62 - 2 * lev) to f) 0) lev ≠ q := by
            rcases s4 with s4 | s4
            · omega
            · intro h5
              apply s4
              rw [hpart.same (by omega) (by omega) a1 hc.1, h5, hc.2]
          omega
    · -- none
      rw [runEnd_stop hc]
      refine ⟨fun h => absurd h (by omega), fun _ => ?_⟩
      refine hn (f, q + 1, zs1) ⟨⟨a1, a2, ⟨ks, D, hkl, hz, htree⟩, hcnt⟩, by simp only; omega, ?_⟩ (by simp only; omega)
      intro j hj1 hj2
      simp only at hj1 ⊢
      have h1 := hrest f (Nat.le_refl _) (by omega)
      have h2 := hpart.up a1 hj1 hj2
      have h3 : qrt (rd xs f 0) lev ≠ q := fun h => hc ⟨by omega, h⟩
      omega
  · intro hi
    have e : f = to := by
      rcases Nat.lt_or_ge f to with h | h
      · have h1 := hrest f (Nat.le_refl _) h
        have h2 := (qrt_lt (rd xs f 0) lev).2
        omega
      · omega
    subst e
    refine hk _ _ (by simp) ?_
    rw [segs_nil (Nat.le_refl _)] at htree
    simp only [ksF, kidsF, List.append_nil] at htree
    rw [hl0] at htree
    rw [htree, ← hz] at hK
    exact hK
end Go.Vs.RS

set_option linter.unusedVariables false
set_option linter.unusedSimpArgs false
set_option maxRecDepth 100000
/- r6.grow, by induction; r6.Build -/
namespace Go.Vs.RS
open Go Go.Proofs Go.Vs Go.IntWalk

theorem know30 {n : Nat} (ih : FunOk Try.prog 117 (G30 n)) : KnowOk Try.prog (N30 n) 1 := by
  refine ⟨mixedOrders, ?_, ?_, ?_⟩
  · intro g sp h
    simp only [N30, Γ30] at h
    split at h
    · rename_i hg; subst hg; cases h; exact c37
    · cases h
  · intro d' hd f i S n0 hS
    have : d' = 0 := by omega
    subst this
    simp only [N30] at hS
    split at hS
    · rename_i hf
      subst hf
      split at hS
      · rename_i hi; subst hi; cases hS; exact loop30a (N30 n) n0
      · split at hS
        · rename_i hi; subst hi; cases hS; exact loop30b n n0
        · split at hS
          · rename_i hi; subst hi; cases hS; exact loop30c n n0
          · cases hS
    · cases hS
  · intro g G hG
    simp only [N30] at hG
    split at hG
    · rename_i hg; subst hg; cases hG; exact ih
    · cases hG

theorem ok30 : ∀ n, FunOk Try.prog 117 (G30 n)
  | 0 => by
    rintro args b K ⟨⟨h1, h2, ⟨p1, p2, p3, _⟩, _⟩, hK⟩
    exact absurd p3 (by simp only [Int.natCast_zero] at *; omega)
  | n + 1 => by
    refine funOk_gc 1 (know30 (ok30 n)) ?_
    rintro args b K ⟨⟨h1, h2, hp⟩, hK⟩
    generalize argI args 2 0 = lev at *
    generalize argI args 2 1 = key at *
    generalize argI args 2 2 = fr at *
    generalize argI args 2 3 = to at *
    generalize argI args 2 4 = k0 at *
    generalize argI args 2 5 = k1 at *
    generalize argI args 2 6 = k2 at *
    generalize argI args 2 7 = k3 at *
    generalize argX b 1 = xs at *
    generalize argX b 0 = zs at *
    subst h1
    subst h2
    show runFn Try.prog (N30 n) 1 117 _ _ (fun v b1 => gcV 2 v b1 K)
    rw [v30]
    obtain ⟨⟨p1, p1', p2, p3, p4, p5, p6, p7, p8⟩, hR, hone⟩ := hp
    have hp : pre30 (n + 1) xs zs lev fr to := ⟨⟨p1, p1', p2, p3, p4, p5, p6, p7, p8⟩, hR, hone⟩
    have e0 : (List.replicate (1 : Nat) (List.replicate (8 : Nat) (0 : Int))).set (0 : Nat) [lev, key, fr, to, k0, k1, k2, k3] = [[lev, key, fr, to, k0, k1, k2, k3]] := rfl
    have hzl : (zs.length : Int) ≤ 1000000 := by
      have : (0 : Int) ≤ ((n + 1 : Nat) : Int) * (to - fr) := Int.mul_nonneg (by omega) (by omega)
      omega
    have hlv : (lev.toNat : Int) = lev := by omega
    have htk : ∀ r : List (List Int), (zs ++ r).take ((zs.length : Nat) : Int).toNat = zs := by intro r; simp
    rw [e0, br_dec, br_dec, i64_in (to - fr) (by omega)]
    simp only [htk]
    have small : (to - fr ≤ 4 ∨ lev ≥ 32) → K (.sl 2) [none, ro xs, some (.row 180 nk (zs ++ [leaf8 lev key fr to]))] := by
      intro h
      have : treeF xs (n + 1) lev.toNat key fr.toNat to.toNat zs.length = [leaf8 lev key fr to] := by
        simp only [treeF]
        rw [if_pos (by omega)]
        simp only [leaf8]
        have h3 : ((fr.toNat : Nat) : Int) = fr := by omega
        have h4 : ((to.toNat : Nat) : Int) = to := by omega
        rw [hlv, h3, h4]
      rw [this] at hK
      exact hK
    refine ⟨by first | omega | (simp; omega), ⟨by first | rfl | trivial, by first | rfl | trivial, ?_, by omega, by simp, by first | rfl | trivial⟩, fun h => small (.inl h), fun h => ⟨fun h2 => small (.inr h2), fun h2 => ⟨⟨by first | rfl | trivial, by first | rfl | trivial, ?_, ?_, by omega, by simp, by first | rfl | trivial, by first | rfl | trivial, by omega, by omega⟩, ?_⟩⟩⟩
    · rw [htk]
    · rw [htk]; exact hp
    · rw [htk]
    · exact hK

theorem c22 : Contract Try.prog 66 (⟨fun l bs => preBuild l bs, fun _ bs => (.sl 0, [.row 180 nk (buildF (xsOf bs 0))])⟩ : Vs.Spec) := by
  refine contract_of 1 ⟨mixedOrders, ?_, loops_none (N := N22) (fun _ _ => rfl) 1, ?_⟩ (N := N22) ?_
  · intro g sp h
    simp only [N22] at h
    split at h
    · rename_i hg; subst hg; cases h; exact c18
    · cases h
  · intro g G hG
    simp only [N22] at hG
    split at hG
    · rename_i hg; subst hg; cases hG; exact ok30 33
    · cases hG
  · rintro l bs _ _ ⟨xs, rfl, rfl, hl, hk⟩
    rw [v22, br_bool, br_bool]
    constructor
    · intro h
      have : xs = [] := List.eq_nil_of_length_eq_zero (by simpa using h)
      subst this
      show (IV.sl 0, [Blk.row 180 nk (buildF [])]) = _
      rw [buildF_nil]
      rfl
    · intro h
      have hne : xs ≠ [] := by rintro rfl; simp at h
      have hpos : 0 < xs.length := List.length_pos_iff.2 hne
      refine ⟨⟨_, rfl, rfl, by omega⟩, fun h2 => ?_, fun h2 => ?_⟩
      · have h3 : ¬ Rises xs := fun h4 => by rw [bp_true h4] at h2; cases h2
        show (IV.sl 0, [Blk.row 180 nk (buildF xs)]) = _
        rw [buildF_not h3]
        rfl
      · have h3 : Rises xs := bp_iff.1 (by simpa using h2)
        refine ⟨⟨rfl, rfl, ⟨by omega, by omega, by omega, by omega, by omega, by omega, by omega, hk, by simp; omega⟩, h3, ?_⟩, ?_⟩
        · intro i j _ _ _ _
          have h4 := hk i
          have h5 := hk j
          show shr (rd xs i 0) 64 = shr (rd xs j 0) 64
          rw [shr_ediv, shr_ediv, Int.ediv_eq_zero_of_lt h4.1 (by simpa using h4.2), Int.ediv_eq_zero_of_lt h5.1 (by simpa using h5.2)]
        · show (IV.sl 0, [Blk.row 180 nk (buildF xs)]) = _
          rw [buildF_tree hne h3]
          rfl
end Go.Vs.RS

set_option linter.unusedVariables false
set_option linter.unusedSimpArgs false
set_option maxRecDepth 100000
/- what goes from a node to its kids holds of all nodes; a sorted list holds the same -/
namespace Go.Vs.RS
open Go Go.Proofs Go.Vs Go.IntWalk
theorem Sorted.perm {xs zs : List (List Int)} (h : Sorted xs zs) : zs.Perm xs := by
  rw [List.perm_iff_count]
  intro a
  have h1 := congrArg (List.count a) (h.same (key a))
  rwa [List.count_filter (by simp), List.count_filter (by simp)] at h1


theorem ksF_len {F : SubT} {xs : List (List Int)} {lev pl : Nat} : ∀ {ss : List (Nat × Nat)} {a : Nat} {ks : List Int}, ks.length = 4 → (ksF F xs lev pl ss a ks).length = 4
  | [], a, ks, h => h
  | (f, t) :: ss, a, ks, h => by simp only [ksF]; exact ksF_len (by simpa using h)
theorem kidsF_mem {F : SubT} {xs : List (List Int)} {lev pl : Nat} {r : List Int} : ∀ {ss : List (Nat × Nat)} {a : Nat}, r ∈ kidsF F xs lev pl ss a → ∃ p ∈ ss, ∃ a', r ∈ F (lev + 1) (kp xs pl p.1) p.1 p.2 a'
  | [], a, h => by simp [kidsF] at h
  | (f, t) :: ss, a, h => by
    simp only [kidsF, List.mem_append] at h
    rcases h with h | h
    · exact ⟨(f, t), List.mem_cons_self .., a, h⟩
    · obtain ⟨p, hp, a', h2⟩ := kidsF_mem h
      exact ⟨p, List.mem_cons_of_mem _ hp, a', h2⟩
theorem segs_mem {xs : List (List Int)} {pl to : Nat} {p : Nat × Nat} : ∀ {m f : Nat}, p ∈ segs xs pl to m f → f ≤ p.1 ∧ p.1 < to ∧ p.2 = segEnd xs pl to p.1
  | 0, f, h => by simp [segs] at h
  | m + 1, f, h => by
    simp only [segs] at h
    split at h
    · rename_i hf
      rcases List.mem_cons.1 h with rfl | h
      · exact ⟨Nat.le_refl _, hf, rfl⟩
      · obtain ⟨h1, h2, h3⟩ := segs_mem h
        have := (segEnd_spec xs pl hf).1
        exact ⟨by omega, h2, h3⟩
    · simp at h
theorem tree_forall {xs : List (List Int)} {Q : Nat → Int → Nat → Nat → Prop}
    (hs : ∀ lev key fr to, Q lev key fr to → lev < 32 → 4 < to - fr → ∀ f, fr ≤ f → f < to → Q (lev + 1) (kp xs (62 - 2 * lev) f) f (segEnd xs (62 - 2 * lev) to f)) :
    ∀ (n lev : Nat) (key : Int) (fr to a : Nat), Q lev key fr to → ∀ r ∈ treeF xs n lev key fr to a, ∃ (lev' : Nat) (key' : Int) (fr' to' : Nat) (ks : List Int), r = [(lev' : Int), key', (fr' : Int), (to' : Int)] ++ ks ∧ ks.length = 4 ∧ Q lev' key' fr' to'
  | 0, lev, key, fr, to, a, h, r, hr => by simp [treeF] at hr
  | n + 1, lev, key, fr, to, a, h, r, hr => by
    simp only [treeF] at hr
    split at hr
    · simp at hr
      subst hr
      exact ⟨lev, key, fr, to, [-1, -1, -1, -1], rfl, rfl, h⟩
    · rename_i hc
      rcases List.mem_cons.1 hr with rfl | hr
      · exact ⟨lev, key, fr, to, _, rfl, ksF_len rfl, h⟩
      · obtain ⟨p, hp, a', h2⟩ := kidsF_mem hr
        obtain ⟨h3, h4, h5⟩ := segs_mem hp
        have hq := hs lev key fr to h (by omega) (by omega) p.1 h3 h4
        rw [← h5] at hq
        exact tree_forall hs n _ _ _ _ _ hq r h2

theorem rd_row {ts : List (List Int)} {i : Nat} {a b c d : Int} {ks : List Int} (hi : i < ts.length) (h : ts[i] = [a, b, c, d] ++ ks) : rd ts i 0 = a ∧ rd ts i 1 = b ∧ rd ts i 2 = c ∧ rd ts i 3 = d := by
  simp [rd, List.getD, hi, h]

end Go.Vs.RS
