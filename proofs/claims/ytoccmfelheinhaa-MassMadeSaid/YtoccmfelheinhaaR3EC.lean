import Derived.Test.YtoccmfelheinhaaR3E
set_option linter.unusedVariables false
/- mass: the centre -/
namespace Go.Vs.RF
open Go Go.Proofs Go.Vs
noncomputable def whS (b : List (Option Blk)) : Nat := match look b 1 with
  | some (.var _ [.fn g _]) => if g = f_mass_Centre_3 then 4 else 6
  | _ => 0
def pGs (args : List IV) (b : List (Option Blk)) : Prop := ∃ xs, okRows ksB xs ∧ xs.length ≤ maxLen ∧ mayRs xs ∧ ((args = [.sl 0, .fn f_mass_Centre_1 []] ∧ b = [some (.ro ksB xs)]) ∨ (args = [.sl 0, .fn f_mass_Centre_2_1 [.ptr 1 0]] ∧ (b = [some (.ro ksB xs), some (.var 134 [.fn f_mass_Centre_3 []])] ∨ b = [some (.ro ksB xs), some (.var 134 [.fn f_mass_Centre_4 []])])))
noncomputable def Gsum : FunS := fun args b K => pGs args b ∧ K (.tup [fx (sumN (whS b) (argX b 0)), .int .i64 (sumE (whS b) (argX b 0))]) b
noncomputable def Ncen : Know := ⟨Γt3, fun _ _ => none, fun g => if g = f_mass_sum then some Gsum else none⟩
theorem v_Centre (xs : List (List Int)) (K : IV → List Blk → Prop) : (comes Try.prog Ncen 3 f_mass_Centre [.sl 0] [.ro ksB xs] K) = (∀ (t1 : Int), t1 = sumN (6 : Nat) xs → ∀ (j2 : Int), j2 = t1 → ∀ (t3 : Int), t3 = sumN (0 : Nat) xs → ∀ (j4 : Int), j4 = t3 → ∀ (t5 : Int), t5 = sumN (4 : Nat) xs → ∀ (j6 : Int), j6 = t5 → ∀ (t7 : Int), t7 = divE j2 j4 → ∀ (t8 : Int), t8 = divN j2 j4 → ∀ (t9 : Int), t9 = divE j6 j4 → ∀ (t10 : Int), t10 = divN j6 j4 → ∀ (t11 : Int), t11 = sumE (0 : Nat) xs → ∀ (t12 : Int), t12 = sumE (6 : Nat) xs → ∀ (t13 : Int), t13 = sumE (4 : Nat) xs → ∀ (t14 : Prop), t14 = K (IV.tup [IV.agg [IV.int IntKind.i64 (0 : Int), IV.int IntKind.u64 (0 : Int)], IV.agg [IV.int IntKind.i64 (0 : Int), IV.int IntKind.u64 (0 : Int), IV.int IntKind.i64 (0 : Int), IV.int IntKind.u64 (0 : Int)], IV.int IntKind.i64 t7]) [] → ∀ (t15 : Prop), t15 = K (IV.tup [IV.agg [IV.int IntKind.i64 (0 : Int), IV.int IntKind.u64 (0 : Int)], IV.agg [IV.int IntKind.i64 (0 : Int), IV.int IntKind.u64 (0 : Int), IV.int IntKind.i64 (0 : Int), IV.int IntKind.u64 (0 : Int)], IV.int IntKind.i64 t9]) [] → ∀ (t16 : Prop), t16 = K (IV.tup [IV.agg [IV.int IntKind.i64 (0 : Int), IV.int IntKind.u64 (0 : Int)], IV.agg [IV.int IntKind.i64 (0 : Int), IV.int IntKind.u64 (0 : Int), IV.int IntKind.i64 (0 : Int), IV.int IntKind.u64 (0 : Int)], IV.int IntKind.i64 (1 : Int)]) [] → ∀ (t17 : Prop), t17 = K (IV.tup [IV.agg [IV.int IntKind.i64 (0 : Int), IV.int IntKind.u64 (0 : Int)], IV.agg [IV.int IntKind.i64 (0 : Int), IV.int IntKind.u64 (0 : Int), IV.int IntKind.i64 (0 : Int), IV.int IntKind.u64 (0 : Int)], IV.int IntKind.i64 t11]) [] → ∀ (t18 : Prop), t18 = K (IV.tup [IV.agg [IV.int IntKind.i64 (0 : Int), IV.int IntKind.u64 (0 : Int)], IV.agg [IV.int IntKind.i64 (0 : Int), IV.int IntKind.u64 (0 : Int), IV.int IntKind.i64 (0 : Int), IV.int IntKind.u64 (0 : Int)], IV.int IntKind.i64 t12]) [] → ∀ (t19 : Prop), t19 = K (IV.tup [IV.agg [IV.int IntKind.i64 (0 : Int), IV.int IntKind.u64 (0 : Int)], IV.agg [IV.int IntKind.i64 (0 : Int), IV.int IntKind.u64 (0 : Int), IV.int IntKind.i64 (0 : Int), IV.int IntKind.u64 (0 : Int)], IV.int IntKind.i64 t13]) [] → ∀ (t20 : Prop), t20 = may2 [fx t1, fx t3] [] → ∀ (t21 : Prop), t21 = K (IV.tup [fx t3, IV.agg [IV.int IntKind.i64 (0 : Int), IV.int IntKind.u64 (0 : Int), IV.int IntKind.i64 (0 : Int), IV.int IntKind.u64 (0 : Int)], IV.int IntKind.i64 (0 : Int)]) [] → ∀ (t22 : Prop), t22 = K (IV.tup [fx t3, IV.agg [IV.int IntKind.i64 (0 : Int), IV.int IntKind.u64 (0 : Int), IV.int IntKind.i64 (t1 / (18446744073709551616 : Int)), IV.int IntKind.u64 (t1 % (18446744073709551616 : Int))], IV.int IntKind.i64 (0 : Int)]) [] → ∀ (t23 : Prop), t23 = K (IV.tup [fx t3, IV.agg [IV.int IntKind.i64 (t5 / (18446744073709551616 : Int)), IV.int IntKind.u64 (t5 % (18446744073709551616 : Int)), IV.int IntKind.i64 (0 : Int), IV.int IntKind.u64 (0 : Int)], IV.int IntKind.i64 (0 : Int)]) [] → ∀ (t24 : Prop), t24 = K (IV.tup [fx t3, IV.agg [IV.int IntKind.i64 (0 : Int), IV.int IntKind.u64 (0 : Int), IV.int IntKind.i64 (t8 / (18446744073709551616 : Int)), IV.int IntKind.u64 (t8 % (18446744073709551616 : Int))], IV.int IntKind.i64 (0 : Int)]) [] → ∀ (t25 : Prop), t25 = K (IV.tup [fx t3, IV.agg [IV.int IntKind.i64 (t10 / (18446744073709551616 : Int)), IV.int IntKind.u64 (t10 % (18446744073709551616 : Int)), IV.int IntKind.i64 (0 : Int), IV.int IntKind.u64 (0 : Int)], IV.int IntKind.i64 (0 : Int)]) [] → ∀ (t26 : Prop), t26 = K (IV.tup [fx t3, vx t5 t1, IV.int IntKind.i64 (0 : Int)]) [] → ∀ (t27 : Prop), t27 = pGs [IV.sl (0 : Nat), IV.fn (83 : Nat) [IV.ptr (1 : Nat) (0 : Nat)]] [some (Blk.ro ksB xs), some (Blk.var (134 : Nat) [IV.fn (87 : Nat) []])] → ∀ (t28 : Prop), t28 = K (IV.tup [fx t3, vx t10 t1, IV.int IntKind.i64 (0 : Int)]) [] → ∀ (t29 : Prop), t29 = K (IV.tup [fx t3, vx t5 t8, IV.int IntKind.i64 (0 : Int)]) [] → ∀ (t30 : Prop), t30 = K (IV.tup [fx t3, vx t10 t8, IV.int IntKind.i64 (0 : Int)]) [] → ∀ (t31 : Prop), t31 = (t14 ∧ t14) → ∀ (t32 : Prop), t32 = (t15 ∧ t15) → ∀ (t33 : Prop), t33 = (t17 ∧ t17) → ∀ (t34 : Prop), t34 = (t18 ∧ t18) → ∀ (t35 : Prop), t35 = (t19 ∧ t19) → ∀ (t36 : Prop), t36 = (t14 ∧ t31) → ∀ (t37 : Prop), t37 = (t31 ∧ t14) → ∀ (t38 : Prop), t38 = (t15 ∧ t32) → ∀ (t39 : Prop), t39 = (t32 ∧ t15) → ∀ (t40 : Prop), t40 = (t17 ∧ t33) → ∀ (t41 : Prop), t41 = (t33 ∧ t17) → ∀ (t42 : Prop), t42 = (t18 ∧ t34) → ∀ (t43 : Prop), t43 = (t34 ∧ t18) → ∀ (t44 : Prop), t44 = (t19 ∧ t35) → ∀ (t45 : Prop), t45 = (t35 ∧ t19) → ∀ (t46 : Prop), t46 = ((t36 ∧ t31 ∧ t37) ∧ (t36 ∧ t14) ∧ t37) → ∀ (t47 : Prop), t47 = ((t40 ∧ t33 ∧ t41) ∧ (t40 ∧ t17) ∧ t41) → ∀ (t48 : Prop), t48 = ((t42 ∧ t34 ∧ t43) ∧ (t42 ∧ t18) ∧ t43) → br ((↑xs.length : Int) == (0 : Int)) ((t16 ∧ t16) ∧ t16) (pGs [IV.sl (0 : Nat), IV.fn (81 : Nat) []] [some (Blk.ro ksB xs)] ∧ br (t11 != (0 : Int)) t47 (br (t11 != (0 : Int)) (br (t11 != (0 : Int)) (br (t11 != (0 : Int)) t47 ((t21 ∧ t21) ∧ t21)) (t27 ∧ br (t12 == (0 : Int)) (t20 ∧ br (t7 != (0 : Int)) t46 ((t24 ∧ t24) ∧ t24)) (br (t12 != (0 : Int)) t48 ((t22 ∧ t22) ∧ t22)))) (pGs [IV.sl (0 : Nat), IV.fn (83 : Nat) [IV.ptr (1 : Nat) (0 : Nat)]] [some (Blk.ro ksB xs), some (Blk.var (134 : Nat) [IV.fn (86 : Nat) []])] ∧ br (t13 == (0 : Int)) (may2 [fx t5, fx t3] [] ∧ br (t9 != (0 : Int)) (br (t9 != (0 : Int)) ((t38 ∧ t32 ∧ t39) ∧ (t38 ∧ t15) ∧ t39) ((t25 ∧ t25) ∧ t25)) (t27 ∧ br (t12 == (0 : Int)) (t20 ∧ br (t7 != (0 : Int)) t46 ((t30 ∧ t30) ∧ t30)) (br (t12 != (0 : Int)) t48 ((t28 ∧ t28) ∧ t28)))) (br (t13 != (0 : Int)) (br (t13 != (0 : Int)) ((t44 ∧ t35 ∧ t45) ∧ (t44 ∧ t19) ∧ t45) ((t23 ∧ t23) ∧ t23)) (t27 ∧ br (t12 == (0 : Int)) (t20 ∧ br (t7 != (0 : Int)) t46 ((t29 ∧ t29) ∧ t29)) (br (t12 != (0 : Int)) t48 ((t26 ∧ t26) ∧ t26)))))))) := by refine nm ?_; refine nj ?_; refine nm ?_; refine nj ?_; refine nm ?_; refine nj ?_; refine nm ?_; refine nm ?_; refine nm ?_; refine nm ?_; refine nm ?_; refine nm ?_; refine nm ?_; refine nm ?_; refine nm ?_; refine nm ?_; refine nm ?_; refine nm ?_; refine nm ?_; refine nm ?_; refine nm ?_; refine nm ?_; refine nm ?_; refine nm ?_; refine nm ?_; refine nm ?_; refine nm ?_; refine nm ?_; refine nm ?_; refine nm ?_; refine nm ?_; refine nm ?_; refine nm ?_; refine nm ?_; refine nm ?_; refine nm ?_; refine nm ?_; refine nm ?_; refine nm ?_; refine nm ?_; refine nm ?_; refine nm ?_; refine nm ?_; refine nm ?_; refine nm ?_; refine nm ?_; refine nm ?_; refine nm ?_; kernel_rfl
def axE (w : Nat) (xs : List (List Int)) : Int := if sumE w xs = 0 then divE (sumN w xs) (sumN 0 xs) else sumE w xs
def axN (w : Nat) (xs : List (List Int)) : Int := if sumE w xs = 0 then divN (sumN w xs) (sumN 0 xs) else 0
def cE (xs : List (List Int)) : Int := if xs.length = 0 then 1 else if sumE 0 xs ≠ 0 then sumE 0 xs else if axE 4 xs ≠ 0 then axE 4 xs else axE 6 xs
def cM (xs : List (List Int)) : Int := if cE xs = 0 then sumN 0 xs else 0
def cX (xs : List (List Int)) : Int := if cE xs = 0 then axN 4 xs else 0
def cY (xs : List (List Int)) : Int := if cE xs = 0 then axN 6 xs else 0
def pBs (l : List IV) (bs : List Blk) : Prop := ∃ xs, l = [.sl 0] ∧ bs = [.ro ksB xs] ∧ mayRs xs
noncomputable def cenV (xs : List (List Int)) : IV := .tup [fx (cM xs), vx (cX xs) (cY xs), .int .i64 (cE xs)]
noncomputable def midV (xs : List (List Int)) : IV := .agg [.int .i64 (cM xs / 18446744073709551616), .int .u64 (cM xs % 18446744073709551616), .int .i64 (cX xs / 18446744073709551616), .int .u64 (cX xs % 18446744073709551616), .int .i64 (cY xs / 18446744073709551616), .int .u64 (cY xs % 18446744073709551616), .int .i64 (cE xs)]
noncomputable def spCen : Vs.Spec := ⟨pBs, fun _ bs => (cenV (xsOf bs 0), [])⟩
noncomputable def spRCen : Vs.Spec := ⟨pBs, fun _ bs => (midV (xsOf bs 0), [])⟩
end Go.Vs.RF


set_option linter.unusedVariables false
set_option linter.unusedSimpArgs false
set_option maxRecDepth 100000
/- mass: the centre -/
namespace Go.Vs.RF
open Go Go.Proofs Go.Vs Go.IntWalk

theorem sum_err (w : Nat) : ∀ (xs : List (List Int)) (a : Int), (sumG w xs a).2 ≠ 0 → (sumG w xs a).1 = 0
  | [], a, h => absurd rfl h
  | r :: l, a, h => by
    unfold sumG at h ⊢
    split
    · rfl
    · rename_i h1
      rw [if_neg h1] at h
      split
      · rfl
      · rename_i h2
        rw [if_neg h2] at h
        exact sum_err w l _ h
theorem sum_may (w : Nat) : ∀ (xs : List (List Int)) (a : Int), mayF a → mayF (sumG w xs a).1
  | [], a, h => h
  | r :: l, a, h => by
    unfold sumG
    split
    · exact may_zero
    · split
      · exact may_zero
      · rename_i h2
        exact sum_may w l _ (err_zero.1 (by simpa using h2))
theorem sumN_may (w : Nat) (xs : List (List Int)) : mayF (sumN w xs) := sum_may w xs 0 may_zero
theorem ctxA : KnowOk Try.prog NsA 3 := know_loop (f0 := f_mass_sum) (L := LSumA) (fun g sp h => ctrsu h) rfl funsu lSumA 3
theorem ctxX : KnowOk Try.prog NsX 3 := know_loop (f0 := f_mass_sum) (L := LSumB f_mass_Centre_3 4) (fun g sp h => ctrsu h) rfl funsu lSumX 3
theorem ctxY : KnowOk Try.prog NsY 3 := know_loop (f0 := f_mass_sum) (L := LSumB f_mass_Centre_4 6) (fun g sp h => ctrsu h) rfl funsu lSumY 3
theorem sum_ends {w : Nat} {xs : List (List Int)} {b : List (Option Blk)} {K : IV → List (Option Blk) → Prop} (hK : K (.tup [fx (sumN w xs), .int .i64 (sumE w xs)]) b) :
    br (sumE w xs != 0) (K (.tup [.agg [.int .i64 0, .int .u64 0], .int .i64 (sumE w xs)]) b) (K (.tup [fx (sumN w xs), .int .i64 0]) b) := by
  rw [br_bne]
  constructor
  · intro h
    rw [show sumN w xs = 0 from sum_err w xs 0 h] at hK
    exact hK
  · intro h
    rw [h] at hK
    exact hK
theorem funSumA : FunOk Try.prog f_mass_sum (fun args b K => (∃ xs, okRows ksB xs ∧ xs.length ≤ maxLen ∧ mayRs xs ∧ args = [.sl 0, .fn f_mass_Centre_1 []] ∧ b = [some (.ro ksB xs)]) ∧ K (.tup [fx (sumN 0 (argX b 0)), .int .i64 (sumE 0 (argX b 0))]) b) := by
  refine funOk_gc (N := NsA) 3 ctxA ?_
  rintro args b K ⟨⟨xs, hr, hl, hm, rfl, rfl⟩, hK⟩
  show runFn _ _ _ _ _ _ fun v b1 => gcV 1 v b1 K
  rw [v_sumA]
  exact ⟨xs, ⟨hr, hl, hm, rfl, rfl⟩, sum_ends hK⟩
theorem funSumX : FunOk Try.prog f_mass_sum (fun args b K => (∃ xs, okRows ksB xs ∧ xs.length ≤ maxLen ∧ mayRs xs ∧ args = [.sl 0, .fn f_mass_Centre_2_1 [.ptr 1 0]] ∧ b = [some (.ro ksB xs), some (.var 134 [.fn f_mass_Centre_3 []])]) ∧ K (.tup [fx (sumN 4 (argX b 0)), .int .i64 (sumE 4 (argX b 0))]) b) := by
  refine funOk_gc (N := NsX) 3 ctxX ?_
  rintro args b K ⟨⟨xs, hr, hl, hm, rfl, rfl⟩, hK⟩
  show runFn _ _ _ _ _ _ fun v b1 => gcV 2 v b1 K
  rw [v_sumX]
  exact ⟨xs, ⟨hr, hl, hm, rfl, rfl⟩, sum_ends hK⟩
theorem funSumY : FunOk Try.prog f_mass_sum (fun args b K => (∃ xs, okRows ksB xs ∧ xs.length ≤ maxLen ∧ mayRs xs ∧ args = [.sl 0, .fn f_mass_Centre_2_1 [.ptr 1 0]] ∧ b = [some (.ro ksB xs), some (.var 134 [.fn f_mass_Centre_4 []])]) ∧ K (.tup [fx (sumN 6 (argX b 0)), .int .i64 (sumE 6 (argX b 0))]) b) := by
  refine funOk_gc (N := NsY) 3 ctxY ?_
  rintro args b K ⟨⟨xs, hr, hl, hm, rfl, rfl⟩, hK⟩
  show runFn _ _ _ _ _ _ fun v b1 => gcV 2 v b1 K
  rw [v_sumY]
  exact ⟨xs, ⟨hr, hl, hm, rfl, rfl⟩, sum_ends hK⟩
theorem funSum : FunOk Try.prog f_mass_sum Gsum := by
  rintro args b K ⟨⟨xs, hr, hl, hm, h⟩, hK⟩
  rcases h with ⟨rfl, rfl⟩ | ⟨rfl, rfl | rfl⟩
  · exact funSumA _ _ _ ⟨⟨xs, hr, hl, hm, rfl, rfl⟩, hK⟩
  · exact funSumX _ _ _ ⟨⟨xs, hr, hl, hm, rfl, rfl⟩, hK⟩
  · exact funSumY _ _ _ ⟨⟨xs, hr, hl, hm, rfl, rfl⟩, hK⟩
theorem knowCen : KnowOk Try.prog Ncen 3 := know_fun (f0 := f_mass_sum) (G := Gsum) (fun g sp h => ctrst3 h) (fun _ _ => rfl) rfl funSum 3
theorem cen_stop {xs : List (List Int)} {e : Int} (he : e ≠ 0) (h : cE xs = e) : (cenV xs, ([] : List Blk)) = (.tup [.agg [.int .i64 0, .int .u64 0], .agg [.int .i64 0, .int .u64 0, .int .i64 0, .int .u64 0], .int .i64 e], []) := by
  unfold cenV cM cX cY
  rw [h, if_neg he, if_neg he, if_neg he]
  rfl
theorem c_Centre : Contract Try.prog f_mass_Centre spCen := by
  refine contract_of (N := Ncen) 3 knowCen ?_
  rintro l bs _ hB ⟨xs, rfl, rfl, hm⟩
  have hb : okRows ksB xs ∧ 0 < ksB.length ∧ xs.length ≤ maxLen := hB (.ro ksB xs) (List.mem_singleton.2 rfl)
  show comes _ _ _ _ _ _ fun v bs' => (cenV xs, ([] : List Blk)) = (v, bs')
  rw [v_Centre]
  rintro t1 e1 j2 rfl t3 e3 j4 rfl t5 e5 j6 rfl t7 e7 t8 e8 t9 e9 t10 e10 t11 e11 t12 e12 t13 e13 _ rfl _ rfl _ rfl _ rfl _ rfl _ rfl t20 e20 _ rfl _ rfl _ rfl _ rfl _ rfl _ rfl t27 e27 _ rfl _ rfl _ rfl _ rfl _ rfl _ rfl _ rfl _ rfl _ rfl _ rfl _ rfl _ rfl _ rfl _ rfl _ rfl _ rfl _ rfl _ rfl _ rfl _ rfl _ rfl
  simp only [and_self]
  have k20 : t20 := by rw [e20]; exact may2_of (by rw [e1]; exact sumN_may 6 xs) (by rw [e3]; exact sumN_may 0 xs)
  have k27 : t27 := by rw [e27]; exact ⟨xs, hb.1, hb.2.2, hm, .inr ⟨rfl, .inr rfl⟩⟩
  rw [br_beq]
  refine ⟨fun h0 => ?_, fun h0 => ?_⟩
  · exact cen_stop (by decide) (if_pos (by omega))
  have hlen : ¬ xs.length = 0 := by omega
  refine ⟨⟨xs, hb.1, hb.2.2, hm, .inl ⟨rfl, rfl⟩⟩, ?_⟩
  rw [br_bne]
  refine ⟨fun h => cen_stop h (by unfold cE; rw [if_neg hlen, if_pos (by rw [← e11]; exact h), e11]), fun h => ?_⟩
  have hs0 : ¬ sumE 0 xs ≠ 0 := by rw [← e11]; simpa using h
  rw [br_bne]
  refine ⟨fun h' => absurd h h', fun _ => ?_⟩
  refine ⟨⟨xs, hb.1, hb.2.2, hm, .inr ⟨rfl, .inl rfl⟩⟩, ?_⟩
  have fin : ∀ {a b : Int}, axE 4 xs = 0 → axN 4 xs = a → axE 6 xs = 0 → axN 6 xs = b → (cenV xs, ([] : List Blk)) = (.tup [fx j4, vx a b, .int .i64 0], []) := by
    intro a b h1 h2 h3 h4
    have hc : cE xs = 0 := by unfold cE; rw [if_neg hlen, if_neg hs0, if_neg (by simpa using h1), h3]
    unfold cenV cM cX cY
    rw [hc, if_pos rfl, if_pos rfl, if_pos rfl, h2, h4, e3]
  have stop4 : ∀ {e : Int}, e ≠ 0 → axE 4 xs = e → (cenV xs, ([] : List Blk)) = (.tup [.agg [.int .i64 0, .int .u64 0], .agg [.int .i64 0, .int .u64 0, .int .i64 0, .int .u64 0], .int .i64 e], []) := by
    intro e he h
    exact cen_stop he (by unfold cE; rw [if_neg hlen, if_neg hs0, if_pos (by rw [h]; exact he), h])
  have stop6 : ∀ {e : Int}, axE 4 xs = 0 → e ≠ 0 → axE 6 xs = e → (cenV xs, ([] : List Blk)) = (.tup [.agg [.int .i64 0, .int .u64 0], .agg [.int .i64 0, .int .u64 0, .int .i64 0, .int .u64 0], .int .i64 e], []) := by
    intro e h4 he h
    exact cen_stop he (by unfold cE; rw [if_neg hlen, if_neg hs0, if_neg (by simpa using h4), h])
  have ax4 : t13 = 0 → axE 4 xs = t9 ∧ axN 4 xs = t10 := by
    intro h
    unfold axE axN
    rw [if_pos (by rw [← e13]; exact h), if_pos (by rw [← e13]; exact h), e9, e10, e5, e3]
    exact ⟨rfl, rfl⟩
  have ax6 : t12 = 0 → axE 6 xs = t7 ∧ axN 6 xs = t8 := by
    intro h
    unfold axE axN
    rw [if_pos (by rw [← e12]; exact h), if_pos (by rw [← e12]; exact h), e7, e8, e1, e3]
    exact ⟨rfl, rfl⟩
  have ax4' : t13 ≠ 0 → axE 4 xs = t13 := by
    intro h
    unfold axE
    rw [if_neg (by rw [← e13]; exact h), e13]
  have ax6' : t12 ≠ 0 → axE 6 xs = t12 := by
    intro h
    unfold axE
    rw [if_neg (by rw [← e12]; exact h), e12]
  rw [br_beq]
  refine ⟨fun h13 => ?_, fun h13 => ?_⟩
  · refine ⟨may2_of (by rw [e5]; exact sumN_may 4 xs) (by rw [e3]; exact sumN_may 0 xs), ?_⟩
    rw [br_bne]
    refine ⟨fun h => ?_, fun h9 => ?_⟩
    · rw [br_bne]
      exact ⟨fun h9 => stop4 h9 (ax4 h13).1, fun h9 => absurd h9 h⟩
    refine ⟨k27, ?_⟩
    rw [br_beq]
    refine ⟨fun h12 => ⟨k20, ?_⟩, fun h12 => ?_⟩
    · rw [br_bne]
      exact ⟨fun h7 => stop6 (by rw [(ax4 h13).1, h9]) h7 (ax6 h12).1, fun h7 => fin (by rw [(ax4 h13).1, h9]) (ax4 h13).2 (by rw [(ax6 h12).1, h7]) (ax6 h12).2⟩
    · rw [br_bne]
      exact ⟨fun _ => stop6 (by rw [(ax4 h13).1, h9]) h12 (ax6' h12), fun h => absurd h h12⟩
  · rw [br_bne]
    refine ⟨fun _ => ?_, fun h => absurd h h13⟩
    rw [br_bne]
    exact ⟨fun _ => stop4 h13 (ax4' h13), fun h => absurd h h13⟩
end Go.Vs.RF
