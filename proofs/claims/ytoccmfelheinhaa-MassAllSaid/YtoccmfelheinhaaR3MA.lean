import Derived.Test.YtoccmfelheinhaaR3CL
import Derived.Test.YtoccmfelheinhaaR3G
set_option linter.unusedVariables false
/- MassAll -/
namespace Go.Vs.RF
open Go Go.Proofs Go.Vs
noncomputable def spBld : Vs.Spec := ⟨RS.preBuild, fun _ bs => (.sl 0, [.row 180 ksN (RS.buildF (xsOf bs 0))])⟩
noncomputable def spSmK : Vs.Spec := ⟨RS.preSame, fun _ bs => (.bool (bp (xsOf bs 0 = xsOf bs 1)), [])⟩
def pNon (l : List IV) (bs : List Blk) : Prop := l = [] ∧ bs = []
noncomputable def spAw9 : Vs.Spec := ⟨pNon, fun _ _ => (.bool true, [])⟩
noncomputable def Γz3 : FuncId → Option Vs.Spec := fun g => if g = f_mass_Cells then some spCls else if g = f_perigeeref6_Cells then some spRCls else if g = f_perigeeref6_SameCells then some spScl else if g = f_perigeeref6_Build then some spBld else if g = f_perigeeref6_SameKeyed then some spSmK else Γz2 g
noncomputable def Nz3 : Know := ⟨Γz3, fun _ _ => none, fun _ => none⟩
theorem v_awk9 (K : IV → List Blk → Prop) : (comes Try.prog Nz3 3 f_perigeelaw9_awake [] [] K) = (∀ (t1 : Prop), t1 = preI [IV.int IntKind.i64 (1 : Int)] [] → ∀ (t2 : Prop), t2 = preI [IV.int IntKind.i64 (3 : Int)] [] → t1 ∧ t2 ∧ pBs [IV.sl (0 : Nat)] [Blk.ro ksB [[(1 : Int), (0 : Int), (0 : Int), (0 : Int), (3 : Int), (0 : Int), (0 : Int), (0 : Int), (0 : Int), (0 : Int), (0 : Int), (0 : Int), (0 : Int), (0 : Int), (0 : Int), (0 : Int), (0 : Int), (0 : Int), (0 : Int), (0 : Int)]]] ∧ preI [IV.int IntKind.i64 (0 : Int)] [] ∧ t1 ∧ t2 ∧ K (IV.bool true) []) := by refine nm ?_; refine nm ?_; kernel_rfl
noncomputable def spMayBody' : Vs.Spec := ⟨pBody0, fun l _ => (.bool (mayBB (rowA l 0)), [])⟩
noncomputable def Γz4 : FuncId → Option Vs.Spec := fun g => if g = f_perigeeref22_MayBody then some spMayBody' else if g = f_perigeelaw9_awake then some spAw9 else Γz3 g
def Sm9 (xs : List (List Int)) (i : Int) : St := ⟨T 23 [(0, .sl 0), (3, .int .i64 i)], [some (.ro ksB xs)]⟩
theorem rMay9 (Λ : FuncId → Nat → Option LoopS) (d : Nat) (xs : List (List Int)) (i : Int) (k : Out → St → Prop) : (round (envOf Try.prog ⟨Γz4, Λ, fun _ => none⟩ d) f_perigeelaw9_may 1 0 (lp Try.prog f_perigeelaw9_may 0) (Sm9 xs i) k) = (∀ (t1 : Prop), t1 = ((0 : Int) ≤ i ∧ i < (↑xs.length : Int)) → ∀ (t2 : Prop), t2 = k (Out.exit (0 : Nat)) (St.mk (T (23 : Nat) [((0 : Nat), IV.sl (0 : Nat))]) [some (Blk.ro ksB xs)]) → br (decide (i < (↑xs.length : Int))) (br (decide (i ≤ (32 : Int))) (t1 ∧ t1 ∧ pBody0 [IV.agg (rowCells ksB xs i.toNat (0 : Nat) (20 : Nat))] [] ∧ br (!mayBB (rowA [IV.agg (rowCells ksB xs i.toNat (0 : Nat) (20 : Nat))] (0 : Nat))) (k Out.ret (St.mk (T (23 : Nat) [((2 : Nat), IV.bool false)]) [some (Blk.ro ksB xs)])) (k Out.normal (St.mk (T (23 : Nat) [((0 : Nat), IV.sl (0 : Nat)), ((3 : Nat), IV.int IntKind.i64 (IntKind.i64.wrap (i + (1 : Int))))]) [some (Blk.ro ksB xs)]))) t2) t2) := by refine nm ?_; refine nm ?_; kernel_rfl
def all9 (n : Nat) (xs : List (List Int)) : Bool := (xs.take n).all mayBB
def pM9 (n0 : Nat) (st : St) (xs : List (List Int)) : Prop := okRows ksB xs ∧ lenB 20 xs ∧ xs.length ≤ maxLen ∧ n0 = 1 ∧ st = Sm9 xs 0
noncomputable def LM9 : LoopS := fun n0 st K => ∃ xs, pM9 n0 st xs ∧ br (all9 33 xs) (K (.exit 0) ⟨T 23 [(0, .sl 0)], [some (.ro ksB xs)]⟩) (K .ret ⟨T 23 [(2, .bool false)], [some (.ro ksB xs)]⟩)
noncomputable def NM9 : Know := ⟨Γz4, fun f i => if f = f_perigeelaw9_may then (if i = 0 then some LM9 else none) else none, fun _ => none⟩
theorem v_may9 (xs : List (List Int)) (K : IV → List Blk → Prop) : (comes Try.prog NM9 3 f_perigeelaw9_may [.sl 0] [.ro ksB xs] K) = (∃ xs_1, pM9 (1 : Nat) (St.mk (T (23 : Nat) [((0 : Nat), IV.sl (0 : Nat)), ((3 : Nat), IV.int IntKind.i64 (0 : Int))]) [some (Blk.ro ksB xs)]) xs_1 ∧ br (all9 (33 : Nat) xs_1) (K (IV.bool (decide ((↑xs_1.length : Int) ≤ (32 : Int)))) []) (K (IV.bool false) [])) := by kernel_rfl
def may9 (xs : List (List Int)) : Bool := all9 33 xs && decide ((xs.length : Int) ≤ 32)
def pMay9 (l : List IV) (bs : List Blk) : Prop := ∃ xs, l = [.sl 0] ∧ bs = [.ro ksB xs] ∧ lenB 20 xs
noncomputable def spMay9 : Vs.Spec := ⟨pMay9, fun _ bs => (.bool (may9 (xsOf bs 0)), [])⟩
noncomputable def Γz5 : FuncId → Option Vs.Spec := fun g => if g = f_perigeelaw9_may then some spMay9 else Γz4 g
noncomputable def Nz5 : Know := ⟨Γz5, fun _ _ => none, fun _ => none⟩
theorem v_MassAll (xs : List (List Int)) (K : IV → List Blk → Prop) : (comes Try.prog Nz5 3 f_perigeelaw9_MassAll [.sl 0] [.ro ksB xs] K) = (∀ (t1 : Int), t1 = cM xs → ∀ (t2 : Int), t2 = cX xs → ∀ (t3 : Int), t3 = cY xs → ∀ (t4 : Int), t4 = cE xs → ∀ (t5 : Int), t5 = clE (RS.buildF (byK xs)) (byK xs) xs → ∀ (t6 : Prop), t6 = pBs [IV.sl (0 : Nat)] [Blk.ro ksB xs] → ∀ (t7 : Prop), t7 = pKd [IV.sl (0 : Nat)] [Blk.ro ksB xs] → ∀ (t8 : Prop), t8 = pCls [IV.sl (0 : Nat), IV.sl (1 : Nat), IV.sl (2 : Nat)] [Blk.ro ksN (RS.buildF (byK xs)), Blk.ro [IntKind.u64, IntKind.i64] (byK xs), Blk.ro ksB xs] → ∀ (b9 : Bool), b9 = decide (t1 = t1) → ∀ (b10 : Bool), b10 = decide (t3 = t3) → ∀ (d11 : Bool), d11 = (decide (t2 = t2) && b10) → pMay9 [IV.sl (0 : Nat)] [Blk.ro ksB xs] ∧ br (!may9 xs) (pNon [] [] ∧ K (IV.bool true) []) (t6 ∧ t6 ∧ t7 ∧ RS.preBuild [IV.sl (0 : Nat)] [Blk.ro [IntKind.u64, IntKind.i64] (byK xs)] ∧ t8 ∧ t8 ∧ br b9 (br d11 (preI [IV.int IntKind.i64 t4] [] ∧ br (t4 == t4) (t7 ∧ RS.preSame [IV.sl (0 : Nat), IV.sl (1 : Nat)] [Blk.ro [IntKind.u64, IntKind.i64] (byK xs), Blk.ro [IntKind.u64, IntKind.i64] (byK xs)] ∧ br (bp (byK xs = byK xs)) (pScl [IV.sl (0 : Nat), IV.sl (1 : Nat)] [Blk.ro ksC (clL (RS.buildF (byK xs)) (byK xs) xs), Blk.ro ksC (clL (RS.buildF (byK xs)) (byK xs) xs)] ∧ preI [IV.int IntKind.i64 t5] [] ∧ br (t5 == t5) (pNon [] [] ∧ K (IV.bool true) []) (K (IV.bool false) [])) (K (IV.bool false) [])) (K (IV.bool false) [])) (K (IV.bool false) [])) (K (IV.bool false) []))) := by refine nm ?_; refine nm ?_; refine nm ?_; refine nm ?_; refine nm ?_; refine nm ?_; refine nm ?_; refine nm ?_; refine nb ?_; refine nb ?_; refine nbr ?_; kernel_rfl
end Go.Vs.RF


set_option linter.unusedVariables false
set_option linter.unusedSimpArgs false
set_option maxRecDepth 100000
/- MassAll -/
namespace Go.Vs.RF
open Go Go.Proofs Go.Vs Go.IntWalk

theorem c_bldF : Contract Try.prog f_perigeeref6_Build spBld := RS.c22
theorem c_smK : Contract Try.prog f_perigeeref6_SameKeyed spSmK := RS.c14
theorem ctrsz3 : ∀ {g : FuncId} {sp : Vs.Spec}, Γz3 g = some sp → Contract Try.prog g sp := ext_ok c_Cells (ext_ok c_RCells (ext_ok c_SameCells (ext_ok c_bldF (ext_ok c_smK ctrsz2))))
theorem c_awk9 : Contract Try.prog f_perigeelaw9_awake spAw9 := by
  refine contract_of (N := Nz3) 3 (knowOf (fun g sp h => ctrsz3 h) (fun _ _ => rfl) (fun _ => rfl) 3) ?_
  rintro l bs _ _ ⟨rfl, rfl⟩
  show comes _ _ _ _ _ _ _
  rw [v_awk9]
  rintro t1 rfl t2 rfl
  refine ⟨preI_of ⟨by decide, by decide⟩, preI_of ⟨by decide, by decide⟩, ⟨_, rfl, rfl, ?_⟩, preI_of ⟨by decide, by decide⟩, preI_of ⟨by decide, by decide⟩, preI_of ⟨by decide, by decide⟩, rfl⟩
  intro r hr
  rw [List.mem_singleton.1 hr]
  exact ⟨by decide, by decide, by decide⟩
theorem ctrsz4 : ∀ {g : FuncId} {sp : Vs.Spec}, Γz4 g = some sp → Contract Try.prog g sp := ext_ok c_MayBody (ext_ok c_awk9 ctrsz3)
theorem all9_succ {xs : List (List Int)} {n : Nat} (h : n < xs.length) : all9 (n + 1) xs = (all9 n xs && mayBB xs[n]) := by
  unfold all9
  rw [List.take_add_one, List.getElem?_eq_getElem h, Option.toList_some, List.all_append]
  simp
theorem all9_stop {xs : List (List Int)} {n m : Nat} (h : n ≤ m) (hb : all9 n xs = false) : all9 m xs = false := by
  unfold all9 at *
  cases hm : (xs.take m).all mayBB with
  | false => rfl
  | true =>
    rw [List.all_eq_true] at hm
    have : (xs.take n).all mayBB = true := by
      rw [List.all_eq_true]
      intro x hx
      refine hm x ?_
      have e : xs.take n = (xs.take m).take n := by rw [List.take_take, Nat.min_eq_left h]
      rw [e] at hx
      exact List.mem_of_mem_take hx
    rw [this] at hb; cases hb
theorem all9_over {xs : List (List Int)} {n m : Nat} (h : n ≤ m) (hl : xs.length ≤ n) : all9 m xs = all9 n xs := by
  unfold all9; rw [List.take_of_length_le hl, List.take_of_length_le (by omega)]
theorem lM9 (d n0 : Nat) : LoopOk (envOf Try.prog NM9 d) f_perigeelaw9_may n0 0 (lp Try.prog f_perigeelaw9_may 0) LM9 := by
  intro st K hst
  obtain ⟨xs, ⟨hr, hl20, hl, rfl, rfl⟩, hK⟩ := hst
  have hl' : xs.length ≤ 9223372036854775807 := hl
  rw [br_bool] at hK
  refine loop_of (fun i : Nat => Sm9 xs i) (fun i => i ≤ 33 ∧ i ≤ xs.length ∧ all9 i xs = true) (fun i => xs.length - i) ?_ (a := 0) ⟨by omega, Nat.zero_le _, rfl⟩
  rintro i ⟨h33, hle, hall⟩ k hn hk
  show round (envOf Try.prog ⟨Γz4, _, fun _ => none⟩ d) _ _ _ _ _ k
  rw [rMay9]
  rw [show ((i : Nat) : Int).toNat = i by omega]
  rintro t1 e1 t2 e2
  have stop : (33 ≤ i ∨ xs.length ≤ i) → t2 := by
    intro h
    rw [e2]
    refine hk _ _ (by simp) (hK.1 ?_)
    rcases h with h | h
    · rw [show (33 : Nat) = i by omega]; exact hall
    · rw [all9_over (n := i) (by omega) h]; exact hall
  rw [br_dec]
  refine ⟨fun hi => ?_, fun hi => stop (.inr (by omega))⟩
  rw [br_dec]
  refine ⟨fun hi2 => ?_, fun hi2 => stop (.inl (by omega))⟩
  have hi' : i < xs.length := by omega
  have p1 : t1 := by rw [e1]; omega
  have hlr := hl20 _ (List.getElem_mem hi')
  have hrow : rowB xs[i] := hr _ (List.getElem_mem hi')
  have hra : rowA [IV.agg (rowCells ksB xs i 0 20)] 0 = xs[i] := rowA_body _ 0 _ hlr (by rw [bodyR_row, get_row hi']; rfl)
  rw [hra]
  refine ⟨p1, p1, ⟨xs[i], by rw [bodyR_row, get_row hi'], rfl, hlr, hrow⟩, ?_⟩
  rw [br_bool, Bool.not_eq_true', Bool.not_eq_false']
  constructor
  · intro hb
    refine hk _ _ (by simp) (hK.2 (all9_stop (n := i + 1) (by omega) ?_))
    rw [all9_succ hi', hb, Bool.and_false]
  · intro hb
    rw [show IntKind.i64.wrap ((i : Int) + 1) = ((i + 1 : Nat) : Int) by rw [i64_in _ (by omega)]; rfl]
    exact hn (i + 1) ⟨by omega, hi', by rw [all9_succ hi', hall, hb]; rfl⟩ (by omega)
theorem c_may9 : Contract Try.prog f_perigeelaw9_may spMay9 := by
  refine contract_of (N := NM9) 3 (know_loop (f0 := f_perigeelaw9_may) (L := LM9) (fun g sp h => ctrsz4 h) rfl (fun g G h => noT h) lM9 3) ?_
  rintro l bs _ hB ⟨xs, rfl, rfl, hl⟩
  have hb : okRows ksB xs ∧ 0 < ksB.length ∧ xs.length ≤ maxLen := hB (.ro ksB xs) (List.mem_singleton.2 rfl)
  show comes _ _ _ _ _ _ fun v bs' => (IV.bool (may9 xs), ([] : List Blk)) = (v, bs')
  rw [v_may9]
  refine ⟨xs, ⟨hb.1, hl, hb.2.2, rfl, rfl⟩, ?_⟩
  unfold may9
  rw [br_bool]
  exact ⟨fun h => by rw [h, Bool.true_and], fun h => by rw [h, Bool.false_and]⟩
theorem may9_good {xs : List (List Int)} (hr : okRows ksB xs) (hl : lenB 20 xs) (h : may9 xs = true) : mayRs xs ∧ xs.length ≤ 32 := by
  unfold may9 all9 at h
  rw [Bool.and_eq_true, decide_eq_true_iff] at h
  have h32 : xs.length ≤ 32 := by omega
  rw [List.take_of_length_le (by omega), List.all_eq_true] at h
  refine ⟨fun r hr' => ?_, h32⟩
  have g := mayBB_good (hl r hr') (hr r hr') (h.1 r hr')
  exact ⟨g.2.2.1, g.2.2.2.1, g.2.2.2.2.1⟩
theorem ctrsz5 : ∀ {g : FuncId} {sp : Vs.Spec}, Γz5 g = some sp → Contract Try.prog g sp := ext_ok c_may9 ctrsz4
noncomputable def spMsAll : Vs.Spec := ⟨pMay9, fun _ _ => (.bool true, [])⟩
theorem c_MassAll : Contract Try.prog f_perigeelaw9_MassAll spMsAll := by
  refine contract_of (N := Nz5) 3 (knowOf (fun g sp h => ctrsz5 h) (fun _ _ => rfl) (fun _ => rfl) 3) ?_
  rintro l bs _ hB ⟨xs, rfl, rfl, hl⟩
  have hb : okRows ksB xs ∧ 0 < ksB.length ∧ xs.length ≤ maxLen := hB (.ro ksB xs) (List.mem_singleton.2 rfl)
  show comes _ _ _ _ _ _ fun v bs' => (IV.bool true, ([] : List Blk)) = (v, bs')
  rw [v_MassAll]
  intro t1 e1 t2 e2 t3 e3 t4 e4 t5 e5 t6 e6 t7 e7 t8 e8 b9 e9 b10 e10 d11 e11
  have yes : pNon [] [] ∧ (IV.bool true, ([] : List Blk)) = (IV.bool true, []) := ⟨⟨rfl, rfl⟩, rfl⟩
  refine ⟨⟨xs, rfl, rfl, hl⟩, ?_⟩
  rw [br_bool, Bool.not_eq_true', Bool.not_eq_false']
  refine ⟨fun _ => yes, fun h => ?_⟩
  obtain ⟨hm, h32⟩ := may9_good hb.1 hl h
  have p6 : t6 := by rw [e6]; exact ⟨xs, rfl, rfl, hm⟩
  have p7 : t7 := by rw [e7]; exact ⟨xs, rfl, rfl, hl, by omega⟩
  have p8 : t8 := by rw [e8]; exact cls_pre hl hm (by omega)
  refine ⟨p6, p6, p7, bld_pre (by omega), p8, p8, br_is (by rw [e9]; simp) (br_is (by rw [e11, e10]; simp) ⟨preI_of (by rw [e4]; exact cE_is _), br_is (by simp) ⟨p7, same_pre (by omega), br_is (bp_true rfl) ⟨scl_pre (by omega), preI_of (by rw [e5]; exact clE_is _ _ _), br_is (by simp) yes⟩⟩⟩)⟩
theorem lawMsA_of (x : List (List Int)) (l0 : ∀ r ∈ x, r.length = 20) : pMay9 [.sl 0] [.ro ksB x] := ⟨x, rfl, rfl, l0⟩
end Go.Vs.RF
