import Derived.Test.YtoccmfelheinhaaR3MO
import Derived.Test.YtoccmfelheinhaaR3SB
set_option linter.unusedVariables false
/- bodies by their keys; cells -/
namespace Go.Vs.RF
open Go Go.Proofs Go.Vs
def ksC : List IntKind := [.i64, .u64, .i64, .u64, .i64, .u64, .i64, .u64]
def ksN : List IntKind := [.i64, .u64, .i64, .i64, .i64, .i64, .i64, .i64]
noncomputable def spSortF : Vs.Spec := ⟨RS.preSort, fun l bs => (.sl 0, [.row 174 [.u64, .i64] (RS.sortF (xsOf bs 0))])⟩
noncomputable def Γz1 : FuncId → Option Vs.Spec := fun g => if g = f_sort_By then some spSortF else if g = f_perigeeref6_By then some spSortF else if g = f_morton_Of then some spKeyOf else if g = f_perigeeref6_Of then some spKeyOf else if g = f_mass_Centre then some spCen else if g = f_perigeeref6_Centre then some spRCen else if g = f_tree_Width then some spWid else if g = f_perigeeref6_Width then some spWid else Γt3 g
def kOf (r : List Int) : Int := keyI (rowI (fr r 4)) (rowI (fr r 6))
def keyP (xs : List (List Int)) (n : Nat) : List (List Int) := (List.range n).map fun (i : Nat) => [kOf (xs.getD i []), (i : Int)]
def Skd (xs ks : List (List Int)) (i : Int) : St := ⟨T 24 [(3, .sl 1), (6, .sl 0), (7, .int .i64 xs.length), (8, .int .i64 i)], [some (.ro ksB xs), some (.row 174 [.u64, .i64] ks)]⟩
def Srk (xs ks : List (List Int)) (i : Int) : St := ⟨T 24 [(0, .sl 0), (3, .sl 1), (4, .int .i64 i)], [some (.ro ksB xs), some (.row 174 [.u64, .i64] ks)]⟩
theorem rKd (Λ : FuncId → Nat → Option LoopS) (d : Nat) (xs ks : List (List Int)) (i : Int) (k : Out → St → Prop) : (round (envOf Try.prog ⟨Γz1, Λ, fun _ => none⟩ d) f_mass_Keyed 1 0 (lp Try.prog f_mass_Keyed 0) (Skd xs ks i) k) = (∀ (t1 : Int), t1 = rd xs i.toNat (4 : Nat) → ∀ (t2 : Int), t2 = rd xs i.toNat (5 : Nat) → ∀ (t3 : Int), t3 = rd xs i.toNat (6 : Nat) → ∀ (t4 : Int), t4 = rd xs i.toNat (7 : Nat) → ∀ (t5 : Prop), t5 = ((0 : Int) ≤ i ∧ i < (↑xs.length : Int)) → br (decide (i < (↑xs.length : Int))) (t5 ∧ t5 ∧ vin1 [IV.agg [IV.int IntKind.i64 t1, IV.int IntKind.u64 t2, IV.int IntKind.i64 t3, IV.int IntKind.u64 t4]] [] ∧ (ks.length + (1 : Nat)) * (16 : Nat) ≤ (140737488355328 : Nat) ∧ k Out.normal (St.mk (T (24 : Nat) [((3 : Nat), IV.sl (1 : Nat)), ((6 : Nat), IV.sl (0 : Nat)), ((7 : Nat), IV.int IntKind.i64 (↑xs.length : Int)), ((8 : Nat), IV.int IntKind.i64 (IntKind.i64.wrap (i + (1 : Int))))]) [some (Blk.ro ksB xs), some (Blk.row (174 : Nat) [IntKind.u64, IntKind.i64] (ks ++ (List.replicate (1 : Nat) (List.replicate (2 : Nat) (0 : Int))).set (0 : Nat) [keyI (rowI (t1 * (18446744073709551616 : Int) + t2)) (rowI (t3 * (18446744073709551616 : Int) + t4)), i]))])) (k (Out.exit (0 : Nat)) (St.mk (T (24 : Nat) [((3 : Nat), IV.sl (1 : Nat))]) [some (Blk.ro ksB xs), some (Blk.row (174 : Nat) [IntKind.u64, IntKind.i64] ks)]))) := by refine nm ?_; refine nm ?_; refine nm ?_; refine nm ?_; refine nm ?_; kernel_rfl
theorem rRk (Λ : FuncId → Nat → Option LoopS) (d : Nat) (xs ks : List (List Int)) (i : Int) (k : Out → St → Prop) : (round (envOf Try.prog ⟨Γz1, Λ, fun _ => none⟩ d) f_perigeeref6_Keyed 1 0 (lp Try.prog f_perigeeref6_Keyed 0) (Srk xs ks i) k) = (∀ (t1 : Int), t1 = rd xs i.toNat (4 : Nat) → ∀ (t2 : Int), t2 = rd xs i.toNat (5 : Nat) → ∀ (t3 : Int), t3 = rd xs i.toNat (6 : Nat) → ∀ (t4 : Int), t4 = rd xs i.toNat (7 : Nat) → ∀ (t5 : Prop), t5 = ((0 : Int) ≤ i ∧ i < (↑xs.length : Int)) → br (decide (i < (↑xs.length : Int))) (t5 ∧ t5 ∧ vin1 [IV.agg [IV.int IntKind.i64 t1, IV.int IntKind.u64 t2, IV.int IntKind.i64 t3, IV.int IntKind.u64 t4]] [] ∧ (ks.length + (1 : Nat)) * (16 : Nat) ≤ (140737488355328 : Nat) ∧ k Out.normal (St.mk (T (24 : Nat) [((0 : Nat), IV.sl (0 : Nat)), ((3 : Nat), IV.sl (1 : Nat)), ((4 : Nat), IV.int IntKind.i64 (IntKind.i64.wrap (i + (1 : Int))))]) [some (Blk.ro ksB xs), some (Blk.row (174 : Nat) [IntKind.u64, IntKind.i64] (ks ++ (List.replicate (1 : Nat) (List.replicate (2 : Nat) (0 : Int))).set (0 : Nat) [keyI (rowI (t1 * (18446744073709551616 : Int) + t2)) (rowI (t3 * (18446744073709551616 : Int) + t4)), i]))])) (k (Out.exit (0 : Nat)) (St.mk (T (24 : Nat) [((3 : Nat), IV.sl (1 : Nat))]) [some (Blk.ro ksB xs), some (Blk.row (174 : Nat) [IntKind.u64, IntKind.i64] ks)]))) := by refine nm ?_; refine nm ?_; refine nm ?_; refine nm ?_; refine nm ?_; kernel_rfl
def lenB (n : Nat) (xs : List (List Int)) : Prop := ∀ r ∈ xs, r.length = n
def pKd0 (n0 : Nat) (st : St) (xs : List (List Int)) : Prop := okRows ksB xs ∧ lenB 20 xs ∧ xs.length ≤ 1000 ∧ n0 = 1 ∧ st = Skd xs [] 0
def pRk0 (n0 : Nat) (st : St) (xs : List (List Int)) : Prop := okRows ksB xs ∧ lenB 20 xs ∧ xs.length ≤ 1000 ∧ n0 = 1 ∧ st = Srk xs [] 0
noncomputable def Lkd : LoopS := fun n0 st K => ∃ xs, pKd0 n0 st xs ∧ K (.exit 0) ⟨T 24 [(3, .sl 1)], [some (.ro ksB xs), some (.row 174 [.u64, .i64] (keyP xs xs.length))]⟩
noncomputable def Lrk : LoopS := fun n0 st K => ∃ xs, pRk0 n0 st xs ∧ K (.exit 0) ⟨T 24 [(3, .sl 1)], [some (.ro ksB xs), some (.row 174 [.u64, .i64] (keyP xs xs.length))]⟩
noncomputable def Nkd : Know := ⟨Γz1, fun f i => if f = f_mass_Keyed then (if i = 0 then some Lkd else none) else if f = f_perigeeref6_Keyed then (if i = 0 then some Lrk else none) else none, fun _ => none⟩
theorem v_Keyed (xs : List (List Int)) (K : IV → List Blk → Prop) : (comes Try.prog Nkd 3 f_mass_Keyed [.sl 0] [.ro ksB xs] K) = (∃ xs_1, pKd0 (1 : Nat) (St.mk (T (24 : Nat) [((3 : Nat), IV.sl (1 : Nat)), ((6 : Nat), IV.sl (0 : Nat)), ((7 : Nat), IV.int IntKind.i64 (↑xs.length : Int)), ((8 : Nat), IV.int IntKind.i64 (0 : Int))]) [some (Blk.ro ksB xs), some (Blk.row (174 : Nat) [IntKind.u64, IntKind.i64] [])]) xs_1 ∧ RS.preSort [IV.sl (0 : Nat)] [Blk.ro [IntKind.u64, IntKind.i64] (keyP xs_1 xs_1.length)] ∧ K (IV.sl (0 : Nat)) [Blk.row (174 : Nat) [IntKind.u64, IntKind.i64] (RS.sortF (keyP xs_1 xs_1.length))]) := by kernel_rfl
theorem v_RKeyed (xs : List (List Int)) (K : IV → List Blk → Prop) : (comes Try.prog Nkd 3 f_perigeeref6_Keyed [.sl 0] [.ro ksB xs] K) = (∃ xs_1, pRk0 (1 : Nat) (St.mk (T (24 : Nat) [((0 : Nat), IV.sl (0 : Nat)), ((3 : Nat), IV.sl (1 : Nat)), ((4 : Nat), IV.int IntKind.i64 (0 : Int))]) [some (Blk.ro ksB xs), some (Blk.row (174 : Nat) [IntKind.u64, IntKind.i64] [])]) xs_1 ∧ RS.preSort [IV.sl (0 : Nat)] [Blk.ro [IntKind.u64, IntKind.i64] (keyP xs_1 xs_1.length)] ∧ K (IV.sl (0 : Nat)) [Blk.row (174 : Nat) [IntKind.u64, IntKind.i64] (RS.sortF (keyP xs_1 xs_1.length))]) := by kernel_rfl
noncomputable def byK (xs : List (List Int)) : List (List Int) := RS.sortF (keyP xs xs.length)
def pKd (l : List IV) (bs : List Blk) : Prop := ∃ xs, l = [.sl 0] ∧ bs = [.ro ksB xs] ∧ lenB 20 xs ∧ xs.length ≤ 1000
noncomputable def spKd : Vs.Spec := ⟨pKd, fun _ bs => (.sl 0, [.row 174 [.u64, .i64] (byK (xsOf bs 0))])⟩
noncomputable def Γz2 : FuncId → Option Vs.Spec := fun g => if g = f_mass_Keyed then some spKd else if g = f_perigeeref6_Keyed then some spKd else Γz1 g
def Smc (ns ks xs cs : List (List Int)) (i : Int) : St := ⟨T 63 [(1, .sl 1), (2, .sl 2), (8, .sl 3), (17, .sl 0), (18, .int .i64 ns.length), (19, .int .i64 i)], [some (.ro ksN ns), some (.ro [.u64, .i64] ks), some (.ro ksB xs), some (.row 113 ksC cs)]⟩
def Src (ns ks xs cs : List (List Int)) (i : Int) : St := ⟨T 67 [(0, .sl 0), (1, .sl 1), (2, .sl 2), (6, .ptr 3 0), (7, .sl 4), (8, .int .i64 i)], [some (.ro ksN ns), some (.ro [.u64, .i64] ks), some (.ro ksB xs), some (.var 108 [.sl 5, .int .i64 0]), some (.row 113 ksC cs), some (.row 113 ksC [])]⟩
end Go.Vs.RF


set_option linter.unusedVariables false
set_option linter.unusedSimpArgs false
set_option maxRecDepth 100000
/- bodies by their keys: both ways one -/
namespace Go.Vs.RF
open Go Go.Proofs Go.Vs Go.IntWalk

theorem c_sortF : Contract Try.prog f_sort_By spSortF := RS.c15
theorem c_byF : Contract Try.prog f_perigeeref6_By spSortF := RS.c16
theorem ctrsz1 : ∀ {g : FuncId} {sp : Vs.Spec}, Γz1 g = some sp → Contract Try.prog g sp := ext_ok c_sortF (ext_ok c_byF (ext_ok c_Of (ext_ok c_ROf (ext_ok c_Centre (ext_ok c_RCentre (ext_ok c_Width (ext_ok c_RWidth ctrst3)))))))
theorem keyP_succ (xs : List (List Int)) (i : Nat) : keyP xs (i + 1) = keyP xs i ++ [[kOf (xs.getD i []), (i : Int)]] := by
  unfold keyP
  rw [List.range_succ, List.map_append]
  rfl
theorem keyP_len (xs : List (List Int)) (n : Nat) : (keyP xs n).length = n := by unfold keyP; simp
theorem keyP_two (xs : List (List Int)) (n : Nat) : RS.rows2 (keyP xs n) := by
  intro x hx
  unfold keyP at hx
  rw [List.mem_map] at hx
  obtain ⟨i, _, rfl⟩ := hx
  exact ⟨_, _, rfl⟩
theorem at_in {xs : List (List Int)} (hr : okRows ksB xs) (i : Nat) : vin1 [IV.agg [.int .i64 (rd xs i 4), .int .u64 (rd xs i 5), .int .i64 (rd xs i 6), .int .u64 (rd xs i 7)]] [] := by
  have h4 : -9223372036854775808 ≤ rd xs i 4 ∧ rd xs i 4 ≤ 9223372036854775807 := rows_in hr i 4 (by decide)
  have h6 : -9223372036854775808 ≤ rd xs i 6 ∧ rd xs i 6 ≤ 9223372036854775807 := rows_in hr i 6 (by decide)
  have h5 : 0 ≤ rd xs i 5 ∧ rd xs i 5 < 18446744073709551616 := lo_in hr i 5 (by decide) rfl
  have h7 : 0 ≤ rd xs i 7 ∧ rd xs i 7 < 18446744073709551616 := lo_in hr i 7 (by decide) rfl
  rw [vx_cells h5 h7]
  exact vin1_of ⟨by omega, by omega⟩ ⟨by omega, by omega⟩
theorem lKd (d n0 : Nat) : LoopOk (envOf Try.prog Nkd d) f_mass_Keyed n0 0 (lp Try.prog f_mass_Keyed 0) Lkd := by
  intro st K hst
  obtain ⟨xs, ⟨hr, hl, hm, rfl, rfl⟩, hK⟩ := hst
  refine loop_of (fun i : Nat => Skd xs (keyP xs i) i) (fun i => i ≤ xs.length) (fun i => xs.length - i) ?_ (a := 0) (Nat.zero_le _)
  intro i hle k hn hk
  show round (envOf Try.prog ⟨Γz1, _, fun _ => none⟩ d) _ _ _ _ _ k
  rw [rKd]
  rw [show ((i : Nat) : Int).toNat = i by omega]
  rintro t1 rfl t2 rfl t3 rfl t4 rfl t5 e5
  rw [br_dec]
  constructor
  · intro hi
    have p5 : t5 := by rw [e5]; omega
    refine ⟨p5, p5, at_in hr i, by rw [keyP_len]; omega, ?_⟩
    rw [show IntKind.i64.wrap ((i : Int) + 1) = ((i + 1 : Nat) : Int) by rw [i64_in _ (by omega)]; rfl]
    have := hn (i + 1) (by omega) (by omega)
    rw [keyP_succ] at this
    exact this
  · intro hi
    have hi' : i = xs.length := by omega
    subst hi'
    exact hk _ _ (by simp) hK
theorem lRk (d n0 : Nat) : LoopOk (envOf Try.prog Nkd d) f_perigeeref6_Keyed n0 0 (lp Try.prog f_perigeeref6_Keyed 0) Lrk := by
  intro st K hst
  obtain ⟨xs, ⟨hr, hl, hm, rfl, rfl⟩, hK⟩ := hst
  refine loop_of (fun i : Nat => Srk xs (keyP xs i) i) (fun i => i ≤ xs.length) (fun i => xs.length - i) ?_ (a := 0) (Nat.zero_le _)
  intro i hle k hn hk
  show round (envOf Try.prog ⟨Γz1, _, fun _ => none⟩ d) _ _ _ _ _ k
  rw [rRk]
  rw [show ((i : Nat) : Int).toNat = i by omega]
  rintro t1 rfl t2 rfl t3 rfl t4 rfl t5 e5
  rw [br_dec]
  constructor
  · intro hi
    have p5 : t5 := by rw [e5]; omega
    refine ⟨p5, p5, at_in hr i, by rw [keyP_len]; omega, ?_⟩
    rw [show IntKind.i64.wrap ((i : Int) + 1) = ((i + 1 : Nat) : Int) by rw [i64_in _ (by omega)]; rfl]
    have := hn (i + 1) (by omega) (by omega)
    rw [keyP_succ] at this
    exact this
  · intro hi
    have hi' : i = xs.length := by omega
    subst hi'
    exact hk _ _ (by simp) hK
theorem knowKd : KnowOk Try.prog Nkd 3 := by
  refine know_ownM (fun g sp h => ctrsz1 h) ?_ (fun g G h => by cases h) 3
  intro f i S hS d n0
  simp only [Nkd] at hS
  split at hS
  · rename_i hf
    subst hf
    split at hS
    · rename_i hi; subst hi; cases hS; exact lKd d n0
    · cases hS
  split at hS
  · rename_i hf
    subst hf
    split at hS
    · rename_i hi; subst hi; cases hS; exact lRk d n0
    · cases hS
  · cases hS
theorem pre_sort {xs : List (List Int)} (h : xs.length ≤ 1000) : RS.preSort [IV.sl 0] [Blk.ro [.u64, .i64] (keyP xs xs.length)] := ⟨_, rfl, rfl, keyP_two _ _, by rw [keyP_len]; omega⟩
theorem c_Keyed : Contract Try.prog f_mass_Keyed spKd := by
  refine contract_of (N := Nkd) 3 knowKd ?_
  rintro l bs _ hB ⟨xs, rfl, rfl, hl, hm⟩
  have hb : okRows ksB xs ∧ 0 < ksB.length ∧ xs.length ≤ maxLen := hB (.ro ksB xs) (List.mem_singleton.2 rfl)
  show comes _ _ _ _ _ _ fun v bs' => (IV.sl 0, ([.row 174 [.u64, .i64] (byK xs)] : List Blk)) = (v, bs')
  rw [v_Keyed]
  exact ⟨xs, ⟨hb.1, hl, hm, rfl, rfl⟩, pre_sort hm, rfl⟩
theorem c_RKeyed : Contract Try.prog f_perigeeref6_Keyed spKd := by
  refine contract_of (N := Nkd) 3 knowKd ?_
  rintro l bs _ hB ⟨xs, rfl, rfl, hl, hm⟩
  have hb : okRows ksB xs ∧ 0 < ksB.length ∧ xs.length ≤ maxLen := hB (.ro ksB xs) (List.mem_singleton.2 rfl)
  show comes _ _ _ _ _ _ fun v bs' => (IV.sl 0, ([.row 174 [.u64, .i64] (byK xs)] : List Blk)) = (v, bs')
  rw [v_RKeyed]
  exact ⟨xs, ⟨hb.1, hl, hm, rfl, rfl⟩, pre_sort hm, rfl⟩
theorem ctrsz2 : ∀ {g : FuncId} {sp : Vs.Spec}, Γz2 g = some sp → Contract Try.prog g sp := ext_ok c_Keyed (ext_ok c_RKeyed ctrsz1)
end Go.Vs.RF

set_option linter.unusedVariables false
/- cells: the loops -/
namespace Go.Vs.RF
open Go Go.Proofs Go.Vs
def nodC (ns : List (List Int)) (i : Nat) : List IV := rowCells ksN ns i 0 8
def Smi (ns ks xs cs bd sb : List (List Int)) (i : Nat) (j : Int) : St := ⟨T 63 [(1, .sl 1), (2, .sl 2), (8, .sl 3), (10, .ptr 4 0), (11, .sl 5), (17, .sl 0), (18, .int .i64 ns.length), (19, .int .i64 (i : Int)), (28, .sl 6), (29, .int .i64 sb.length), (30, .int .i64 j)], [some (.ro ksN ns), some (.ro [.u64, .i64] ks), some (.ro ksB xs), some (.row 113 ksC cs), some (.var 180 (nodC ns i)), some (.row 32 ksB bd), some (.ro [.u64, .i64] sb)]⟩
theorem rmi (Λ : FuncId → Nat → Option LoopS) (d : Nat) (ns ks xs cs bd sb : List (List Int)) (i : Nat) (j : Int) (k : Out → St → Prop) : (round (envOf Try.prog ⟨Γz2, Λ, fun _ => none⟩ d) f_mass_Cells 3 1 (lp Try.prog f_mass_Cells 1) (Smi ns ks xs cs bd sb i j) k) = (∀ (t1 : Int), t1 = rd sb j.toNat (1 : Nat) → ∀ (t2 : Prop), t2 = ((0 : Int) ≤ j ∧ j < (↑sb.length : Int)) → ∀ (t3 : Prop), t3 = ((0 : Int) ≤ t1 ∧ t1 < (↑xs.length : Int)) → br (decide (j < (↑sb.length : Int))) (t2 ∧ t2 ∧ t3 ∧ t3 ∧ (bd.length + (1 : Nat)) * (160 : Nat) ≤ (140737488355328 : Nat) ∧ k Out.normal (St.mk (T (63 : Nat) [((1 : Nat), IV.sl (1 : Nat)), ((2 : Nat), IV.sl (2 : Nat)), ((8 : Nat), IV.sl (3 : Nat)), ((10 : Nat), IV.ptr (4 : Nat) (0 : Nat)), ((11 : Nat), IV.sl (5 : Nat)), ((17 : Nat), IV.sl (0 : Nat)), ((18 : Nat), IV.int IntKind.i64 (↑ns.length : Int)), ((19 : Nat), IV.int IntKind.i64 (↑i : Int)), ((28 : Nat), IV.sl (6 : Nat)), ((29 : Nat), IV.int IntKind.i64 (↑sb.length : Int)), ((30 : Nat), IV.int IntKind.i64 (IntKind.i64.wrap (j + (1 : Int))))]) [some (Blk.ro ksN ns), some (Blk.ro [IntKind.u64, IntKind.i64] ks), some (Blk.ro ksB xs), some (Blk.row (113 : Nat) ksC cs), some (Blk.var (180 : Nat) [IV.int IntKind.i64 (rd ns i (0 : Nat)), IV.int IntKind.u64 (rd ns i (1 : Nat)), IV.int IntKind.i64 (rd ns i (2 : Nat)), IV.int IntKind.i64 (rd ns i (3 : Nat)), IV.int IntKind.i64 (rd ns i (4 : Nat)), IV.int IntKind.i64 (rd ns i (5 : Nat)), IV.int IntKind.i64 (rd ns i (6 : Nat)), IV.int IntKind.i64 (rd ns i (7 : Nat))]), some (Blk.row (32 : Nat) ksB (bd ++ (List.replicate (1 : Nat) (List.replicate (20 : Nat) (0 : Int))).set (0 : Nat) [rd xs t1.toNat (19 : Nat), rd xs t1.toNat (18 : Nat), rd xs t1.toNat (17 : Nat), rd xs t1.toNat (16 : Nat), rd xs t1.toNat (15 : Nat), rd xs t1.toNat (14 : Nat), rd xs t1.toNat (13 : Nat), rd xs t1.toNat (12 : Nat), rd xs t1.toNat (11 : Nat), rd xs t1.toNat (10 : Nat), rd xs t1.toNat (9 : Nat), rd xs t1.toNat (8 : Nat), rd xs t1.toNat (7 : Nat), rd xs t1.toNat (6 : Nat), rd xs t1.toNat (5 : Nat), rd xs t1.toNat (4 : Nat), rd xs t1.toNat (3 : Nat), rd xs t1.toNat (2 : Nat), rd xs t1.toNat (1 : Nat), rd xs t1.toNat (0 : Nat)].reverse)), some (Blk.ro [IntKind.u64, IntKind.i64] sb)])) (k (Out.exit (2 : Nat)) (St.mk (T (63 : Nat) [((1 : Nat), IV.sl (1 : Nat)), ((2 : Nat), IV.sl (2 : Nat)), ((8 : Nat), IV.sl (3 : Nat)), ((10 : Nat), IV.ptr (4 : Nat) (0 : Nat)), ((11 : Nat), IV.sl (5 : Nat)), ((17 : Nat), IV.sl (0 : Nat)), ((18 : Nat), IV.int IntKind.i64 (↑ns.length : Int)), ((19 : Nat), IV.int IntKind.i64 (↑i : Int))]) [some (Blk.ro ksN ns), some (Blk.ro [IntKind.u64, IntKind.i64] ks), some (Blk.ro ksB xs), some (Blk.row (113 : Nat) ksC cs), some (Blk.var (180 : Nat) [IV.int IntKind.i64 (rd ns i (0 : Nat)), IV.int IntKind.u64 (rd ns i (1 : Nat)), IV.int IntKind.i64 (rd ns i (2 : Nat)), IV.int IntKind.i64 (rd ns i (3 : Nat)), IV.int IntKind.i64 (rd ns i (4 : Nat)), IV.int IntKind.i64 (rd ns i (5 : Nat)), IV.int IntKind.i64 (rd ns i (6 : Nat)), IV.int IntKind.i64 (rd ns i (7 : Nat))]), some (Blk.row (32 : Nat) ksB bd)]))) := by refine nm ?_; refine nm ?_; refine nm ?_; kernel_rfl
def pickB (xs sb : List (List Int)) : List (List Int) := sb.map fun k => xs.getD (k.getD 1 0).toNat []
def idsOk (n : Nat) (sb : List (List Int)) : Prop := ∀ k ∈ sb, 0 ≤ k.getD 1 0 ∧ k.getD 1 0 < (n : Int)
def pmi0 (n0 : Nat) (st : St) (ns ks xs cs sb : List (List Int)) (i : Nat) : Prop := lenB 20 xs ∧ idsOk xs.length sb ∧ sb.length ≤ 1000 ∧ n0 = 3 ∧ st = Smi ns ks xs cs [] sb i 0
noncomputable def Lmi : LoopS := fun n0 st K => ∃ ns ks xs cs sb i, pmi0 n0 st ns ks xs cs sb i ∧ K (.exit 2) ⟨T 63 [(1, .sl 1), (2, .sl 2), (8, .sl 3), (10, .ptr 4 0), (11, .sl 5), (17, .sl 0), (18, .int .i64 ns.length), (19, .int .i64 (i : Int))], [some (.ro ksN ns), some (.ro [.u64, .i64] ks), some (.ro ksB xs), some (.row 113 ksC cs), some (.var 180 (nodC ns i)), some (.row 32 ksB (pickB xs sb))]⟩
def Sri (ns ks xs cs bd : List (List Int)) (i : Nat) (j : Int) : St := ⟨T 67 [(0, .sl 0), (1, .sl 1), (2, .sl 2), (6, .ptr 3 0), (7, .sl 4), (8, .int .i64 (i : Int)), (9, .sl 5), (10, .int .i64 j)], [some (.ro ksN ns), some (.ro [.u64, .i64] ks), some (.ro ksB xs), some (.var 108 [.sl 6, .int .i64 0]), some (.row 113 ksC cs), some (.row 32 ksB bd), some (.row 113 ksC [])]⟩
theorem rri (Λ : FuncId → Nat → Option LoopS) (d : Nat) (ns ks xs cs bd : List (List Int)) (i : Nat) (j : Int) (k : Out → St → Prop) : (round (envOf Try.prog ⟨Γz2, Λ, fun _ => none⟩ d) f_perigeeref6_Cells 3 1 (lp Try.prog f_perigeeref6_Cells 1) (Sri ns ks xs cs bd i j) k) = (∀ (t1 : Int), t1 = rd ks j.toNat (1 : Nat) → ∀ (t2 : Int), t2 = rd ns (↑i : Int).toNat (3 : Nat) → ∀ (t3 : Prop), t3 = ((0 : Int) ≤ j ∧ j < (↑ks.length : Int)) → ∀ (t4 : Prop), t4 = ((0 : Int) ≤ (↑i : Int) ∧ (↑i : Int) < (↑ns.length : Int)) → ∀ (t5 : Prop), t5 = ((0 : Int) ≤ t1 ∧ t1 < (↑xs.length : Int)) → t4 ∧ t4 ∧ br (decide (j < t2)) (t3 ∧ t3 ∧ t5 ∧ t5 ∧ (bd.length + (1 : Nat)) * (160 : Nat) ≤ (140737488355328 : Nat) ∧ k Out.normal (St.mk (T (67 : Nat) [((0 : Nat), IV.sl (0 : Nat)), ((1 : Nat), IV.sl (1 : Nat)), ((2 : Nat), IV.sl (2 : Nat)), ((6 : Nat), IV.ptr (3 : Nat) (0 : Nat)), ((7 : Nat), IV.sl (4 : Nat)), ((8 : Nat), IV.int IntKind.i64 (↑i : Int)), ((9 : Nat), IV.sl (5 : Nat)), ((10 : Nat), IV.int IntKind.i64 (IntKind.i64.wrap (j + (1 : Int))))]) [some (Blk.ro ksN ns), some (Blk.ro [IntKind.u64, IntKind.i64] ks), some (Blk.ro ksB xs), some (Blk.var (108 : Nat) [IV.sl (6 : Nat), IV.int IntKind.i64 (0 : Int)]), some (Blk.row (113 : Nat) ksC cs), some (Blk.row (32 : Nat) ksB (bd ++ (List.replicate (1 : Nat) (List.replicate (20 : Nat) (0 : Int))).set (0 : Nat) [rd xs t1.toNat (19 : Nat), rd xs t1.toNat (18 : Nat), rd xs t1.toNat (17 : Nat), rd xs t1.toNat (16 : Nat), rd xs t1.toNat (15 : Nat), rd xs t1.toNat (14 : Nat), rd xs t1.toNat (13 : Nat), rd xs t1.toNat (12 : Nat), rd xs t1.toNat (11 : Nat), rd xs t1.toNat (10 : Nat), rd xs t1.toNat (9 : Nat), rd xs t1.toNat (8 : Nat), rd xs t1.toNat (7 : Nat), rd xs t1.toNat (6 : Nat), rd xs t1.toNat (5 : Nat), rd xs t1.toNat (4 : Nat), rd xs t1.toNat (3 : Nat), rd xs t1.toNat (2 : Nat), rd xs t1.toNat (1 : Nat), rd xs t1.toNat (0 : Nat)].reverse)), some (Blk.row (113 : Nat) ksC [])])) (k (Out.exit (2 : Nat)) (St.mk (T (67 : Nat) [((0 : Nat), IV.sl (0 : Nat)), ((1 : Nat), IV.sl (1 : Nat)), ((2 : Nat), IV.sl (2 : Nat)), ((6 : Nat), IV.ptr (3 : Nat) (0 : Nat)), ((7 : Nat), IV.sl (4 : Nat)), ((8 : Nat), IV.int IntKind.i64 (↑i : Int)), ((9 : Nat), IV.sl (5 : Nat))]) [some (Blk.ro ksN ns), some (Blk.ro [IntKind.u64, IntKind.i64] ks), some (Blk.ro ksB xs), some (Blk.var (108 : Nat) [IV.sl (6 : Nat), IV.int IntKind.i64 (0 : Int)]), some (Blk.row (113 : Nat) ksC cs), some (Blk.row (32 : Nat) ksB bd), some (Blk.row (113 : Nat) ksC [])]))) := by refine nm ?_; refine nm ?_; refine nm ?_; refine nm ?_; refine nm ?_; kernel_rfl
def partK (ns ks : List (List Int)) (i : Nat) : List (List Int) := List.drop (rd ns i 2).toNat (List.take (rd ns i 3).toNat ks)
def pri0 (n0 : Nat) (st : St) (ns ks xs cs : List (List Int)) (i : Nat) : Prop := lenB 20 xs ∧ idsOk xs.length ks ∧ ks.length ≤ 1000 ∧ i < ns.length ∧ (0 ≤ rd ns i 2 ∧ rd ns i 2 ≤ rd ns i 3 ∧ rd ns i 3 ≤ ks.length) ∧ n0 = 3 ∧ st = Sri ns ks xs cs [] i (rd ns i 2)
noncomputable def Lri : LoopS := fun n0 st K => ∃ ns ks xs cs i, pri0 n0 st ns ks xs cs i ∧ K (.exit 2) ⟨T 67 [(0, .sl 0), (1, .sl 1), (2, .sl 2), (6, .ptr 3 0), (7, .sl 4), (8, .int .i64 (i : Int)), (9, .sl 5)], [some (.ro ksN ns), some (.ro [.u64, .i64] ks), some (.ro ksB xs), some (.var 108 [.sl 6, .int .i64 0]), some (.row 113 ksC cs), some (.row 32 ksB (pickB xs (partK ns ks i))), some (.row 113 ksC [])]⟩
def clB (ns ks xs : List (List Int)) (i : Nat) : List (List Int) := pickB xs (partK ns ks i)
def celR (ns ks xs : List (List Int)) (i : Nat) : List Int := [cM (clB ns ks xs i) / 18446744073709551616, cM (clB ns ks xs i) % 18446744073709551616, cX (clB ns ks xs i) / 18446744073709551616, cX (clB ns ks xs i) % 18446744073709551616, cY (clB ns ks xs i) / 18446744073709551616, cY (clB ns ks xs i) % 18446744073709551616, widI (rd ns i 0) / 18446744073709551616, widI (rd ns i 0) % 18446744073709551616]
def celP (ns ks xs : List (List Int)) (n : Nat) : List (List Int) := (List.range n).map (celR ns ks xs)
def clGo (ns ks xs : List (List Int)) : Nat → Nat → Int
  | 0, _ => 0
  | m + 1, i => if cE (clB ns ks xs i) ≠ 0 then cE (clB ns ks xs i) else clGo ns ks xs m (i + 1)
def clE (ns ks xs : List (List Int)) : Int := clGo ns ks xs ns.length 0
def clL (ns ks xs : List (List Int)) : List (List Int) := if clE ns ks xs = 0 then celP ns ks xs ns.length else []
def nodesOk (ns ks : List (List Int)) : Prop := ∀ i : Nat, i < ns.length → 0 ≤ rd ns i 2 ∧ rd ns i 2 ≤ rd ns i 3 ∧ rd ns i 3 ≤ ks.length
def pCl (ns ks xs : List (List Int)) : Prop := (okRows ksN ns ∧ okRows ksB xs) ∧ lenB 20 xs ∧ mayRs xs ∧ idsOk xs.length ks ∧ ks.length ≤ 1000 ∧ ns.length ≤ 1000000 ∧ nodesOk ns ks
def pmo0 (n0 : Nat) (st : St) (ns ks xs : List (List Int)) : Prop := pCl ns ks xs ∧ n0 = 3 ∧ st = Smc ns ks xs [] 0
def pro0 (n0 : Nat) (st : St) (ns ks xs : List (List Int)) : Prop := pCl ns ks xs ∧ n0 = 3 ∧ st = Src ns ks xs [] 0
noncomputable def Lmo : LoopS := fun n0 st K => ∃ ns ks xs, pmo0 n0 st ns ks xs ∧ br (clE ns ks xs != 0) (K .ret ⟨T 63 [(6, .sl 3), (7, .int .i64 (clE ns ks xs))], [some (.ro ksN ns), some (.ro [.u64, .i64] ks), some (.ro ksB xs), some (.row 113 ksC [])]⟩) (K (.exit 0) ⟨T 63 [(8, .sl 3)], [some (.ro ksN ns), some (.ro [.u64, .i64] ks), some (.ro ksB xs), some (.row 113 ksC (celP ns ks xs ns.length))]⟩)
noncomputable def Lro : LoopS := fun n0 st K => ∃ ns ks xs, pro0 n0 st ns ks xs ∧ br (clE ns ks xs != 0) (K .ret ⟨T 67 [(6, .ptr 3 0)], [some (.ro ksN ns), some (.ro [.u64, .i64] ks), some (.ro ksB xs), some (.var 108 [.sl 4, .int .i64 (clE ns ks xs)]), some (.row 113 ksC [])]⟩) (K (.exit 0) ⟨T 67 [(6, .ptr 3 0), (7, .sl 4)], [some (.ro ksN ns), some (.ro [.u64, .i64] ks), some (.ro ksB xs), some (.var 108 [.sl 5, .int .i64 0]), some (.row 113 ksC (celP ns ks xs ns.length)), some (.row 113 ksC [])]⟩)
noncomputable def Ncl : Know := ⟨Γz2, fun f i => if f = f_mass_Cells then (if i = 0 then some Lmo else if i = 1 then some Lmi else none) else if f = f_perigeeref6_Cells then (if i = 0 then some Lro else if i = 1 then some Lri else none) else none, fun _ => none⟩
theorem rmo (d : Nat) (ns ks xs cs : List (List Int)) (i : Nat) (k : Out → St → Prop) : (round (envOf Try.prog Ncl d) f_mass_Cells 3 0 (lp Try.prog f_mass_Cells 0) (Smc ns ks xs cs i) k) = (∀ (t1 : Int), t1 = rd ns (↑i : Int).toNat (2 : Nat) → ∀ (t2 : Int), t2 = rd ns (↑i : Int).toNat (3 : Nat) → ∀ (t3 : Prop), t3 = ((0 : Int) ≤ (↑i : Int) ∧ (↑i : Int) < (↑ns.length : Int)) → br (decide ((↑i : Int) < (↑ns.length : Int))) (t3 ∧ t3 ∧ ((0 : Int) ≤ t1 ∧ t1 ≤ t2 ∧ t2 ≤ (↑ks.length : Int)) ∧ ∃ ns_1 ks_1 xs_1 cs_1 sb i_1, pmi0 (3 : Nat) (St.mk (T (63 : Nat) [((1 : Nat), IV.sl (1 : Nat)), ((2 : Nat), IV.sl (2 : Nat)), ((8 : Nat), IV.sl (3 : Nat)), ((10 : Nat), IV.ptr (4 : Nat) (0 : Nat)), ((11 : Nat), IV.sl (5 : Nat)), ((17 : Nat), IV.sl (0 : Nat)), ((18 : Nat), IV.int IntKind.i64 (↑ns.length : Int)), ((19 : Nat), IV.int IntKind.i64 (↑i : Int)), ((28 : Nat), IV.sl (6 : Nat)), ((29 : Nat), IV.int IntKind.i64 (↑(List.drop t1.toNat (List.take t2.toNat ks)).length : Int)), ((30 : Nat), IV.int IntKind.i64 (0 : Int))]) [some (Blk.ro ksN ns), some (Blk.ro [IntKind.u64, IntKind.i64] ks), some (Blk.ro ksB xs), some (Blk.row (113 : Nat) ksC cs), some (Blk.var (180 : Nat) [IV.int IntKind.i64 (rd ns (↑i : Int).toNat (0 : Nat)), IV.int IntKind.u64 (rd ns (↑i : Int).toNat (1 : Nat)), IV.int IntKind.i64 t1, IV.int IntKind.i64 t2, IV.int IntKind.i64 (rd ns (↑i : Int).toNat (4 : Nat)), IV.int IntKind.i64 (rd ns (↑i : Int).toNat (5 : Nat)), IV.int IntKind.i64 (rd ns (↑i : Int).toNat (6 : Nat)), IV.int IntKind.i64 (rd ns (↑i : Int).toNat (7 : Nat))]), some (Blk.row (32 : Nat) ksB []), some (Blk.ro [IntKind.u64, IntKind.i64] (List.drop t1.toNat (List.take t2.toNat ks)))]) ns_1 ks_1 xs_1 cs_1 sb i_1 ∧ pBs [IV.sl (0 : Nat)] [Blk.ro ksB (pickB xs_1 sb)] ∧ br (cE (pickB xs_1 sb) != (0 : Int)) (k Out.ret (St.mk (T (63 : Nat) [((6 : Nat), IV.sl (3 : Nat)), ((7 : Nat), IV.int IntKind.i64 (cE (pickB xs_1 sb)))]) [some (Blk.ro ksN ns_1), some (Blk.ro [IntKind.u64, IntKind.i64] ks_1), some (Blk.ro ksB xs_1), some (Blk.row (113 : Nat) ksC [])])) (pWid [IV.int IntKind.i64 (rd ns_1 i_1 (0 : Nat))] [] ∧ (cs_1.length + (1 : Nat)) * (64 : Nat) ≤ (140737488355328 : Nat) ∧ k Out.normal (St.mk (T (63 : Nat) [((1 : Nat), IV.sl (1 : Nat)), ((2 : Nat), IV.sl (2 : Nat)), ((8 : Nat), IV.sl (3 : Nat)), ((17 : Nat), IV.sl (0 : Nat)), ((18 : Nat), IV.int IntKind.i64 (↑ns_1.length : Int)), ((19 : Nat), IV.int IntKind.i64 (IntKind.i64.wrap ((↑i_1 : Int) + (1 : Int))))]) [some (Blk.ro ksN ns_1), some (Blk.ro [IntKind.u64, IntKind.i64] ks_1), some (Blk.ro ksB xs_1), some (Blk.row (113 : Nat) ksC (cs_1 ++ (List.replicate (1 : Nat) (List.replicate (8 : Nat) (0 : Int))).set (0 : Nat) [cM (pickB xs_1 sb) / (18446744073709551616 : Int), cM (pickB xs_1 sb) % (18446744073709551616 : Int), cX (pickB xs_1 sb) / (18446744073709551616 : Int), cX (pickB xs_1 sb) % (18446744073709551616 : Int), cY (pickB xs_1 sb) / (18446744073709551616 : Int), cY (pickB xs_1 sb) % (18446744073709551616 : Int), widI (rd ns_1 i_1 (0 : Nat)) / (18446744073709551616 : Int), widI (rd ns_1 i_1 (0 : Nat)) % (18446744073709551616 : Int)]))]))) (k (Out.exit (0 : Nat)) (St.mk (T (63 : Nat) [((8 : Nat), IV.sl (3 : Nat))]) [some (Blk.ro ksN ns), some (Blk.ro [IntKind.u64, IntKind.i64] ks), some (Blk.ro ksB xs), some (Blk.row (113 : Nat) ksC cs)]))) := by refine nm ?_; refine nm ?_; refine nm ?_; kernel_rfl
theorem rro (d : Nat) (ns ks xs cs : List (List Int)) (i : Nat) (k : Out → St → Prop) : (round (envOf Try.prog Ncl d) f_perigeeref6_Cells 3 0 (lp Try.prog f_perigeeref6_Cells 0) (Src ns ks xs cs i) k) = (∀ (t1 : Prop), t1 = ((0 : Int) ≤ (↑i : Int) ∧ (↑i : Int) < (↑ns.length : Int)) → br (decide ((↑i : Int) < (↑ns.length : Int))) (t1 ∧ t1 ∧ ∃ ns_1 ks_1 xs_1 cs_1 i_1, pri0 (3 : Nat) (St.mk (T (67 : Nat) [((0 : Nat), IV.sl (0 : Nat)), ((1 : Nat), IV.sl (1 : Nat)), ((2 : Nat), IV.sl (2 : Nat)), ((6 : Nat), IV.ptr (3 : Nat) (0 : Nat)), ((7 : Nat), IV.sl (4 : Nat)), ((8 : Nat), IV.int IntKind.i64 (↑i : Int)), ((9 : Nat), IV.sl (5 : Nat)), ((10 : Nat), IV.int IntKind.i64 (rd ns (↑i : Int).toNat (2 : Nat)))]) [some (Blk.ro ksN ns), some (Blk.ro [IntKind.u64, IntKind.i64] ks), some (Blk.ro ksB xs), some (Blk.var (108 : Nat) [IV.sl (6 : Nat), IV.int IntKind.i64 (0 : Int)]), some (Blk.row (113 : Nat) ksC cs), some (Blk.row (32 : Nat) ksB []), some (Blk.row (113 : Nat) ksC [])]) ns_1 ks_1 xs_1 cs_1 i_1 ∧ pBs [IV.sl (0 : Nat)] [Blk.ro ksB (pickB xs_1 (partK ns_1 ks_1 i_1))] ∧ br (cE (pickB xs_1 (partK ns_1 ks_1 i_1)) != (0 : Int)) (k Out.ret (St.mk (T (67 : Nat) [((6 : Nat), IV.ptr (3 : Nat) (0 : Nat))]) [some (Blk.ro ksN ns_1), some (Blk.ro [IntKind.u64, IntKind.i64] ks_1), some (Blk.ro ksB xs_1), some (Blk.var (108 : Nat) [IV.sl (4 : Nat), IV.int IntKind.i64 (cE (pickB xs_1 (partK ns_1 ks_1 i_1)))]), some (Blk.row (113 : Nat) ksC [])])) (((0 : Int) ≤ (↑i_1 : Int) ∧ (↑i_1 : Int) < (↑ns_1.length : Int)) ∧ ((0 : Int) ≤ (↑i_1 : Int) ∧ (↑i_1 : Int) < (↑ns_1.length : Int)) ∧ pWid [IV.int IntKind.i64 (rd ns_1 (↑i_1 : Int).toNat (0 : Nat))] [] ∧ (cs_1.length + (1 : Nat)) * (64 : Nat) ≤ (140737488355328 : Nat) ∧ k Out.normal (St.mk (T (67 : Nat) [((0 : Nat), IV.sl (0 : Nat)), ((1 : Nat), IV.sl (1 : Nat)), ((2 : Nat), IV.sl (2 : Nat)), ((6 : Nat), IV.ptr (3 : Nat) (0 : Nat)), ((7 : Nat), IV.sl (4 : Nat)), ((8 : Nat), IV.int IntKind.i64 (IntKind.i64.wrap ((↑i_1 : Int) + (1 : Int))))]) [some (Blk.ro ksN ns_1), some (Blk.ro [IntKind.u64, IntKind.i64] ks_1), some (Blk.ro ksB xs_1), some (Blk.var (108 : Nat) [IV.sl (5 : Nat), IV.int IntKind.i64 (0 : Int)]), some (Blk.row (113 : Nat) ksC (cs_1 ++ (List.replicate (1 : Nat) (List.replicate (8 : Nat) (0 : Int))).set (0 : Nat) [cM (pickB xs_1 (partK ns_1 ks_1 i_1)) / (18446744073709551616 : Int), cM (pickB xs_1 (partK ns_1 ks_1 i_1)) % (18446744073709551616 : Int), cX (pickB xs_1 (partK ns_1 ks_1 i_1)) / (18446744073709551616 : Int), cX (pickB xs_1 (partK ns_1 ks_1 i_1)) % (18446744073709551616 : Int), cY (pickB xs_1 (partK ns_1 ks_1 i_1)) / (18446744073709551616 : Int), cY (pickB xs_1 (partK ns_1 ks_1 i_1)) % (18446744073709551616 : Int), widI (rd ns_1 (↑i_1 : Int).toNat (0 : Nat)) / (18446744073709551616 : Int), widI (rd ns_1 (↑i_1 : Int).toNat (0 : Nat)) % (18446744073709551616 : Int)])), some (Blk.row (113 : Nat) ksC [])]))) (k (Out.exit (0 : Nat)) (St.mk (T (67 : Nat) [((6 : Nat), IV.ptr (3 : Nat) (0 : Nat)), ((7 : Nat), IV.sl (4 : Nat))]) [some (Blk.ro ksN ns), some (Blk.ro [IntKind.u64, IntKind.i64] ks), some (Blk.ro ksB xs), some (Blk.var (108 : Nat) [IV.sl (5 : Nat), IV.int IntKind.i64 (0 : Int)]), some (Blk.row (113 : Nat) ksC cs), some (Blk.row (113 : Nat) ksC [])]))) := by refine nm ?_; kernel_rfl
theorem v_Cells (ns ks xs : List (List Int)) (K : IV → List Blk → Prop) : (comes Try.prog Ncl 3 f_mass_Cells [.sl 0, .sl 1, .sl 2] [.ro ksN ns, .ro [.u64, .i64] ks, .ro ksB xs] K) = (∃ ns_1 ks_1 xs_1, pmo0 (3 : Nat) (St.mk (T (63 : Nat) [((1 : Nat), IV.sl (1 : Nat)), ((2 : Nat), IV.sl (2 : Nat)), ((8 : Nat), IV.sl (3 : Nat)), ((17 : Nat), IV.sl (0 : Nat)), ((18 : Nat), IV.int IntKind.i64 (↑ns.length : Int)), ((19 : Nat), IV.int IntKind.i64 (0 : Int))]) [some (Blk.ro ksN ns), some (Blk.ro [IntKind.u64, IntKind.i64] ks), some (Blk.ro ksB xs), some (Blk.row (113 : Nat) ksC [])]) ns_1 ks_1 xs_1 ∧ br (clE ns_1 ks_1 xs_1 != (0 : Int)) (K (IV.tup [IV.sl (0 : Nat), IV.int IntKind.i64 (clE ns_1 ks_1 xs_1)]) [Blk.row (113 : Nat) ksC []]) (K (IV.tup [IV.sl (0 : Nat), IV.int IntKind.i64 (0 : Int)]) [Blk.row (113 : Nat) ksC (celP ns_1 ks_1 xs_1 ns_1.length)])) := by kernel_rfl
theorem v_RCells (ns ks xs : List (List Int)) (K : IV → List Blk → Prop) : (comes Try.prog Ncl 3 f_perigeeref6_Cells [.sl 0, .sl 1, .sl 2] [.ro ksN ns, .ro [.u64, .i64] ks, .ro ksB xs] K) = (∃ ns_1 ks_1 xs_1, pro0 (3 : Nat) (St.mk (T (67 : Nat) [((0 : Nat), IV.sl (0 : Nat)), ((1 : Nat), IV.sl (1 : Nat)), ((2 : Nat), IV.sl (2 : Nat)), ((6 : Nat), IV.ptr (3 : Nat) (0 : Nat)), ((7 : Nat), IV.sl (4 : Nat)), ((8 : Nat), IV.int IntKind.i64 (0 : Int))]) [some (Blk.ro ksN ns), some (Blk.ro [IntKind.u64, IntKind.i64] ks), some (Blk.ro ksB xs), some (Blk.var (108 : Nat) [IV.sl (5 : Nat), IV.int IntKind.i64 (0 : Int)]), some (Blk.row (113 : Nat) ksC []), some (Blk.row (113 : Nat) ksC [])]) ns_1 ks_1 xs_1 ∧ br (clE ns_1 ks_1 xs_1 != (0 : Int)) (K (IV.agg [IV.sl (0 : Nat), IV.int IntKind.i64 (clE ns_1 ks_1 xs_1)]) [Blk.row (113 : Nat) ksC []]) (K (IV.agg [IV.sl (0 : Nat), IV.int IntKind.i64 (0 : Int)]) [Blk.row (113 : Nat) ksC (celP ns_1 ks_1 xs_1 ns_1.length)])) := by kernel_rfl
def pCls (l : List IV) (bs : List Blk) : Prop := ∃ ns ks xs, l = [.sl 0, .sl 1, .sl 2] ∧ bs = [.ro ksN ns, .ro [.u64, .i64] ks, .ro ksB xs] ∧ lenB 20 xs ∧ mayRs xs ∧ idsOk xs.length ks ∧ ks.length ≤ 1000 ∧ ns.length ≤ 1000000 ∧ nodesOk ns ks
noncomputable def spCls : Vs.Spec := ⟨pCls, fun _ bs => (.tup [.sl 0, .int .i64 (clE (xsOf bs 0) (xsOf bs 1) (xsOf bs 2))], [.row 113 ksC (clL (xsOf bs 0) (xsOf bs 1) (xsOf bs 2))])⟩
noncomputable def spRCls : Vs.Spec := ⟨pCls, fun _ bs => (.agg [.sl 0, .int .i64 (clE (xsOf bs 0) (xsOf bs 1) (xsOf bs 2))], [.row 113 ksC (clL (xsOf bs 0) (xsOf bs 1) (xsOf bs 2))])⟩
def Scc (xs : List (List Int)) (i : Int) : St := ⟨T 26 [(0, .sl 0), (1, .sl 1), (5, .int .i64 i)], [some (.ro ksC xs), some (.ro ksC xs)]⟩
theorem rcc (Λ : FuncId → Nat → Option LoopS) (d : Nat) (xs : List (List Int)) (i : Int) (k : Out → St → Prop) : (round (envOf Try.prog ⟨Γz2, Λ, fun _ => none⟩ d) f_perigeeref6_SameCells 2 0 (lp Try.prog f_perigeeref6_SameCells 0) (Scc xs i) k) = (∀ (t1 : Int), t1 = rd xs i.toNat (0 : Nat) → ∀ (t2 : Int), t2 = rd xs i.toNat (1 : Nat) → ∀ (t3 : Int), t3 = rd xs i.toNat (2 : Nat) → ∀ (t4 : Int), t4 = rd xs i.toNat (3 : Nat) → ∀ (t5 : Int), t5 = rd xs i.toNat (4 : Nat) → ∀ (t6 : Int), t6 = rd xs i.toNat (5 : Nat) → ∀ (t7 : Int), t7 = rd xs i.toNat (6 : Nat) → ∀ (t8 : Int), t8 = rd xs i.toNat (7 : Nat) → ∀ (t9 : Prop), t9 = ((0 : Int) ≤ i ∧ i < (↑xs.length : Int)) → br (decide (i < (↑xs.length : Int))) (t9 ∧ t9 ∧ t9 ∧ t9 ∧ br (!(decide (t1 = t1) && (decide (t2 = t2) && (decide (t3 = t3) && (decide (t4 = t4) && (decide (t5 = t5) && (decide (t6 = t6) && (decide (t7 = t7) && (decide (t8 = t8) && true))))))))) (k Out.ret (St.mk (T (26 : Nat) [((4 : Nat), IV.bool false)]) [some (Blk.ro ksC xs), some (Blk.ro ksC xs)])) (k Out.normal (St.mk (T (26 : Nat) [((0 : Nat), IV.sl (0 : Nat)), ((1 : Nat), IV.sl (1 : Nat)), ((5 : Nat), IV.int IntKind.i64 (IntKind.i64.wrap (i + (1 : Int))))]) [some (Blk.ro ksC xs), some (Blk.ro ksC xs)]))) (k (Out.exit (0 : Nat)) (St.mk (T (26 : Nat) []) [some (Blk.ro ksC xs), some (Blk.ro ksC xs)]))) := by refine nm ?_; refine nm ?_; refine nm ?_; refine nm ?_; refine nm ?_; refine nm ?_; refine nm ?_; refine nm ?_; refine nm ?_; kernel_rfl
def pcc0 (n0 : Nat) (st : St) (xs : List (List Int)) : Prop := xs.length ≤ 1000000 ∧ n0 = 2 ∧ st = Scc xs 0
noncomputable def Lcc : LoopS := fun n0 st K => ∃ xs, pcc0 n0 st xs ∧ K (.exit 0) ⟨T 26 [], [some (.ro ksC xs), some (.ro ksC xs)]⟩
noncomputable def Ncc : Know := ⟨Γz2, fun f i => if f = f_perigeeref6_SameCells then (if i = 0 then some Lcc else none) else none, fun _ => none⟩
theorem v_SameCells (xs : List (List Int)) (K : IV → List Blk → Prop) : (comes Try.prog Ncc 3 f_perigeeref6_SameCells [.sl 0, .sl 1] [.ro ksC xs, .ro ksC xs] K) = (br ((↑xs.length : Int) != (↑xs.length : Int)) (K (IV.bool false) []) (∃ xs_1, pcc0 (2 : Nat) (St.mk (T (26 : Nat) [((0 : Nat), IV.sl (0 : Nat)), ((1 : Nat), IV.sl (1 : Nat)), ((5 : Nat), IV.int IntKind.i64 (0 : Int))]) [some (Blk.ro ksC xs), some (Blk.ro ksC xs)]) xs_1 ∧ K (IV.bool true) [])) := by kernel_rfl
def pScl (l : List IV) (bs : List Blk) : Prop := ∃ xs, l = [.sl 0, .sl 1] ∧ bs = [.ro ksC xs, .ro ksC xs] ∧ xs.length ≤ 1000000
noncomputable def spScl : Vs.Spec := ⟨pScl, fun _ _ => (.bool true, [])⟩
end Go.Vs.RF


set_option linter.unusedVariables false
set_option linter.unusedSimpArgs false
set_option maxRecDepth 100000
/- cells: both ways one -/
namespace Go.Vs.RF
open Go Go.Proofs Go.Vs Go.IntWalk

theorem row20c {r : List Int} (h : r.length = 20) : [r.getD 0 0, r.getD 1 0, r.getD 2 0, r.getD 3 0, r.getD 4 0, r.getD 5 0, r.getD 6 0, r.getD 7 0, r.getD 8 0, r.getD 9 0, r.getD 10 0, r.getD 11 0, r.getD 12 0, r.getD 13 0, r.getD 14 0, r.getD 15 0, r.getD 16 0, r.getD 17 0, r.getD 18 0, r.getD 19 0] = r := by
  match r, h with
  | [_, _, _, _, _, _, _, _, _, _, _, _, _, _, _, _, _, _, _, _], _ => rfl
theorem rev_row {xs : List (List Int)} {t : Nat} (h : (xs.getD t []).length = 20) : [rd xs t 19, rd xs t 18, rd xs t 17, rd xs t 16, rd xs t 15, rd xs t 14, rd xs t 13, rd xs t 12, rd xs t 11, rd xs t 10, rd xs t 9, rd xs t 8, rd xs t 7, rd xs t 6, rd xs t 5, rd xs t 4, rd xs t 3, rd xs t 2, rd xs t 1, rd xs t 0].reverse = xs.getD t [] := row20c h
theorem getM {xs : List (List Int)} {i : Nat} (h : i < xs.length) : xs.getD i [] ∈ xs := by rw [get_row h]; exact List.getElem_mem h
theorem rd_at {xs : List (List Int)} {i j : Nat} (h : i < xs.length) : rd xs i j = xs[i].getD j 0 := by unfold rd; rw [get_row h]
theorem pick_succ {xs sb : List (List Int)} {j : Nat} (h : j < sb.length) : pickB xs (sb.take (j + 1)) = pickB xs (sb.take j) ++ [xs.getD (rd sb j 1).toNat []] := by
  unfold pickB rd
  rw [List.take_add_one, List.getElem?_eq_getElem h, Option.toList_some, List.map_append, get_row h]
  rfl
theorem pick_len (xs sb : List (List Int)) : (pickB xs sb).length = sb.length := by unfold pickB; simp
theorem take_len (xs sb : List (List Int)) (j : Nat) : (pickB xs (sb.take j)).length ≤ j := by rw [pick_len, List.length_take]; omega
theorem lmi (d n0 : Nat) : LoopOk (envOf Try.prog Ncl d) f_mass_Cells n0 1 (lp Try.prog f_mass_Cells 1) Lmi := by
  intro st K hst
  obtain ⟨ns, ks, xs, cs, sb, i, ⟨hl, hid, hm, rfl, rfl⟩, hK⟩ := hst
  refine loop_of (fun j : Nat => Smi ns ks xs cs (pickB xs (sb.take j)) sb i j) (fun j => j ≤ sb.length) (fun j => sb.length - j) ?_ (a := 0) (Nat.zero_le _)
  intro j hle k hn hk
  show round (envOf Try.prog ⟨Γz2, _, fun _ => none⟩ d) _ _ _ _ _ k
  rw [rmi]
  rw [show ((j : Nat) : Int).toNat = j by omega]
  rintro t1 e1 t2 e2 t3 e3
  rw [br_dec]
  constructor
  · intro hi
    have hi' : j < sb.length := by omega
    have hk1 := hid _ (List.getElem_mem hi')
    have T1 : t1 = sb[j].getD 1 0 := by rw [e1]; unfold rd; rw [get_row hi']
    have p2 : t2 := by rw [e2]; omega
    have p3 : t3 := by rw [e3, T1]; exact hk1
    have hin : t1.toNat < xs.length := by rw [T1]; omega
    have := take_len xs sb j
    refine ⟨p2, p2, p3, p3, by omega, ?_⟩
    rw [show IntKind.i64.wrap ((j : Int) + 1) = ((j + 1 : Nat) : Int) by rw [i64_in _ (by omega)]; rfl]
    have hh := hn (j + 1) (by omega) (by omega)
    rw [pick_succ hi', ← e1, ← rev_row (hl _ (getM hin))] at hh
    exact hh
  · intro hi
    have hi' : j = sb.length := by omega
    rw [hi', List.take_length]
    exact hk _ _ (by simp) hK
theorem part_get {ns ks : List (List Int)} {i j : Nat} (h : 0 ≤ rd ns i 2) (hj : j < (partK ns ks i).length) : rd (partK ns ks i) j 1 = rd ks (rd ns i 2 + j).toNat 1 ∧ (rd ns i 2 + j).toNat < ks.length := by
  unfold partK at hj ⊢
  rw [List.length_drop, List.length_take] at hj
  have e : (rd ns i 2 + (j : Int)).toNat = (rd ns i 2).toNat + j := by omega
  refine ⟨?_, by rw [e]; omega⟩
  unfold rd
  have e2 : ((List.take (rd ns i 3).toNat ks).drop (rd ns i 2).toNat).getD j [] = ks.getD ((rd ns i 2).toNat + j) [] := by
    rw [List.getD_eq_getElem?_getD, List.getD_eq_getElem?_getD, List.getElem?_drop, List.getElem?_take, if_pos (by omega)]
  have e3 : ∀ (x y : List Int), x = y → x.getD 1 0 = y.getD 1 0 := fun x y h => by rw [h]
  refine e3 _ _ ?_
  have e4 : ((ns.getD i []).getD 2 0 + (j : Int)).toNat = (rd ns i 2).toNat + j := e
  rw [e4]
  exact e2
theorem lri (d n0 : Nat) : LoopOk (envOf Try.prog Ncl d) f_perigeeref6_Cells n0 1 (lp Try.prog f_perigeeref6_Cells 1) Lri := by
  intro st K hst
  obtain ⟨ns, ks, xs, cs, i, ⟨hl, hid, hm, hin, ⟨h0, h1, h2⟩, rfl, rfl⟩, hK⟩ := hst
  have hlen : ((partK ns ks i).length : Int) = rd ns i 3 - rd ns i 2 := by
    unfold partK
    rw [List.length_drop, List.length_take]
    omega
  rw [show Sri ns ks xs cs [] i (rd ns i 2) = Sri ns ks xs cs (pickB xs ((partK ns ks i).take 0)) i (rd ns i 2 + ((0 : Nat) : Int)) by rw [show (rd ns i 2 + ((0 : Nat) : Int)) = rd ns i 2 by omega]; rfl]
  refine loop_of (fun j : Nat => Sri ns ks xs cs (pickB xs ((partK ns ks i).take j)) i (rd ns i 2 + (j : Int))) (fun j => j ≤ (partK ns ks i).length) (fun j => (partK ns ks i).length - j) ?_ (a := 0) (Nat.zero_le _)
  intro j hle k hn hk
  show round (envOf Try.prog ⟨Γz2, _, fun _ => none⟩ d) _ _ _ _ _ k
  rw [rri]
  rw [show ((i : Nat) : Int).toNat = i by omega]
  rintro t1 e1 t2 e2 t3 e3 t4 e4 t5 e5
  have p4 : t4 := by rw [e4]; omega
  refine ⟨p4, p4, ?_⟩
  rw [br_dec]
  constructor
  · intro hi
    have hi' : j < (partK ns ks i).length := by omega
    obtain ⟨g1, g2⟩ := part_get h0 hi'
    have hk1 := hid _ (List.getElem_mem g2)
    have T1 : t1 = ks[(rd ns i 2 + (j : Int)).toNat].getD 1 0 := by rw [e1]; exact rd_at g2
    have p3 : t3 := by rw [e3]; omega
    have p5 : t5 := by rw [e5, T1]; exact hk1
    have hin2 : t1.toNat < xs.length := by rw [T1]; omega
    have := take_len xs (partK ns ks i) j
    refine ⟨p3, p3, p5, p5, by omega, ?_⟩
    rw [show IntKind.i64.wrap (rd ns i 2 + (j : Int) + 1) = rd ns i 2 + ((j + 1 : Nat) : Int) by rw [i64_in _ (by omega)]; omega]
    have hh := hn (j + 1) (by omega) (by omega)
    rw [pick_succ hi', g1, ← e1, ← rev_row (hl _ (getM hin2))] at hh
    exact hh
  · intro hi
    have hi' : j = (partK ns ks i).length := by omega
    rw [hi', List.take_length]
    exact hk _ _ (by simp) hK
theorem part_mem {ns ks : List (List Int)} {i : Nat} {k : List Int} (h : k ∈ partK ns ks i) : k ∈ ks := List.mem_of_mem_take (List.mem_of_mem_drop h)
theorem part_len (ns ks : List (List Int)) (i : Nat) : (partK ns ks i).length ≤ ks.length := by unfold partK; rw [List.length_drop, List.length_take]; omega
theorem pick_may {xs sb : List (List Int)} (hm : mayRs xs) (hid : idsOk xs.length sb) : mayRs (pickB xs sb) := by
  intro r hr
  unfold pickB at hr
  rw [List.mem_map] at hr
  obtain ⟨k, hk, rfl⟩ := hr
  have := hid k hk
  exact hm _ (getM (by omega))
theorem celP_succ (ns ks xs : List (List Int)) (i : Nat) : celP ns ks xs (i + 1) = celP ns ks xs i ++ [celR ns ks xs i] := by
  unfold celP
  rw [List.range_succ, List.map_append]
  rfl
theorem celP_len (ns ks xs : List (List Int)) (n : Nat) : (celP ns ks xs n).length = n := by unfold celP; simp
theorem lev_ok {ns : List (List Int)} (h : okRows ksN ns) (i : Nat) : i64ok (rd ns i 0) := by
  by_cases hi : i < ns.length
  · have := h _ (List.getElem_mem hi) 0 (by decide)
    have h1 : -9223372036854775808 ≤ ns[i].getD 0 0 ∧ ns[i].getD 0 0 ≤ 9223372036854775807 := this
    unfold rd
    rw [get_row hi]
    exact ⟨h1.1, by omega⟩
  · have : rd ns i 0 = 0 := by unfold rd; simp [List.getD, List.getElem?_eq_none (by omega : ns.length ≤ i)]
    rw [this]; exact ⟨by decide, by decide⟩
theorem lmo (d n0 : Nat) : LoopOk (envOf Try.prog Ncl d) f_mass_Cells n0 0 (lp Try.prog f_mass_Cells 0) Lmo := by
  intro st K hst
  obtain ⟨ns, ks, xs, ⟨⟨⟨hn1, hx1⟩, hl, hmay, hid, hks, hns, hno⟩, rfl, rfl⟩, hK⟩ := hst
  rw [br_bne] at hK
  refine loop_of (fun i : Nat => Smc ns ks xs (celP ns ks xs i) i) (fun i => i ≤ ns.length ∧ clGo ns ks xs (ns.length - i) i = clE ns ks xs) (fun i => ns.length - i) ?_ (a := 0) ⟨Nat.zero_le _, rfl⟩
  rintro i ⟨hle, hgo⟩ k hn hk
  show round (envOf Try.prog Ncl d) _ _ _ _ _ k
  rw [rmo]
  rw [show ((i : Nat) : Int).toNat = i by omega]
  rintro t1 rfl t2 rfl t3 e3
  rw [br_dec]
  constructor
  · intro hi
    have hi' : i < ns.length := by omega
    have p3 : t3 := by rw [e3]; omega
    have hb := hno i hi'
    have hidp : idsOk xs.length (partK ns ks i) := fun k hk => hid k (part_mem hk)
    have hlp : (partK ns ks i).length ≤ 1000 := Nat.le_trans (part_len ns ks i) hks
    refine ⟨p3, p3, hb, ns, ks, xs, celP ns ks xs i, partK ns ks i, i, ⟨hl, hidp, hlp, rfl, rfl⟩, ⟨_, rfl, rfl, pick_may hmay hidp⟩, ?_⟩
    have hgo' : clGo ns ks xs (ns.length - i) i = if cE (clB ns ks xs i) ≠ 0 then cE (clB ns ks xs i) else clGo ns ks xs (ns.length - (i + 1)) (i + 1) := by
      rw [show ns.length - i = (ns.length - (i + 1)) + 1 by omega]; rfl
    rw [hgo'] at hgo
    show br (cE (clB ns ks xs i) != 0) _ _
    rw [br_bne]
    constructor
    · intro h
      rw [if_pos h] at hgo
      rw [← hgo] at hK
      exact hk _ _ (by simp) (hK.1 h)
    · intro h
      rw [if_neg (by simpa using h)] at hgo
      refine ⟨⟨_, rfl, rfl, lev_ok hn1 i⟩, by rw [celP_len]; omega, ?_⟩
      rw [show IntKind.i64.wrap ((i : Int) + 1) = ((i + 1 : Nat) : Int) by rw [i64_in _ (by omega)]; rfl]
      have hh := hn (i + 1) ⟨hi', hgo⟩ (by omega)
      rw [celP_succ] at hh
      exact hh
  · intro hi
    have hi' : i = ns.length := by omega
    subst hi'
    rw [Nat.sub_self] at hgo
    exact hk _ _ (by simp) (hK.2 hgo.symm)
theorem lro (d n0 : Nat) : LoopOk (envOf Try.prog Ncl d) f_perigeeref6_Cells n0 0 (lp Try.prog f_perigeeref6_Cells 0) Lro := by
  intro st K hst
  obtain ⟨ns, ks, xs, ⟨⟨⟨hn1, hx1⟩, hl, hmay, hid, hks, hns, hno⟩, rfl, rfl⟩, hK⟩ := hst
  rw [br_bne] at hK
  refine loop_of (fun i : Nat => Src ns ks xs (celP ns ks xs i) i) (fun i => i ≤ ns.length ∧ clGo ns ks xs (ns.length - i) i = clE ns ks xs) (fun i => ns.length - i) ?_ (a := 0) ⟨Nat.zero_le _, rfl⟩
  rintro i ⟨hle, hgo⟩ k hn hk
  show round (envOf Try.prog Ncl d) _ _ _ _ _ k
  rw [rro]
  rw [show ((i : Nat) : Int).toNat = i by omega]
  rintro t1 e1
  rw [br_dec]
  constructor
  · intro hi
    have hi' : i < ns.length := by omega
    have p1 : t1 := by rw [e1]; omega
    have hb := hno i hi'
    have hidp : idsOk xs.length (partK ns ks i) := fun k hk => hid k (part_mem hk)
    refine ⟨p1, p1, ns, ks, xs, celP ns ks xs i, i, ⟨hl, hid, hks, hi', hb, rfl, rfl⟩, ⟨_, rfl, rfl, pick_may hmay hidp⟩, ?_⟩
    have hgo' : clGo ns ks xs (ns.length - i) i = if cE (clB ns ks xs i) ≠ 0 then cE (clB ns ks xs i) else clGo ns ks xs (ns.length - (i + 1)) (i + 1) := by
      rw [show ns.length - i = (ns.length - (i + 1)) + 1 by omega]; rfl
    rw [hgo'] at hgo
    show br (cE (clB ns ks xs i) != 0) _ _
    rw [br_bne]
    constructor
    · intro h
      rw [if_pos h] at hgo
      rw [← hgo] at hK
      exact hk _ _ (by simp) (hK.1 h)
    · intro h
      rw [if_neg (by simpa using h)] at hgo
      rw [show ((i : Nat) : Int).toNat = i by omega]
      refine ⟨⟨by omega, by omega⟩, ⟨by omega, by omega⟩, ⟨_, rfl, rfl, lev_ok hn1 i⟩, by rw [celP_len]; omega, ?_⟩
      rw [show IntKind.i64.wrap ((i : Int) + 1) = ((i + 1 : Nat) : Int) by rw [i64_in _ (by omega)]; rfl]
      have hh := hn (i + 1) ⟨hi', hgo⟩ (by omega)
      rw [celP_succ] at hh
      exact hh
  · intro hi
    have hi' : i = ns.length := by omega
    subst hi'
    rw [Nat.sub_self] at hgo
    exact hk _ _ (by simp) (hK.2 hgo.symm)
theorem knowCl : KnowOk Try.prog Ncl 3 := by
  refine know_ownM (fun g sp h => ctrsz2 h) ?_ (fun g G h => by cases h) 3
  intro f i S hS d n0
  simp only [Ncl] at hS
  split at hS
  · rename_i hf
    subst hf
    split at hS
    · rename_i hi; subst hi; cases hS; exact lmo d n0
    split at hS
    · rename_i hi; subst hi; cases hS; exact lmi d n0
    · cases hS
  split at hS
  · rename_i hf
    subst hf
    split at hS
    · rename_i hi; subst hi; cases hS; exact lro d n0
    split at hS
    · rename_i hi; subst hi; cases hS; exact lri d n0
    · cases hS
  · cases hS
theorem c_Cells : Contract Try.prog f_mass_Cells spCls := by
  refine contract_of (N := Ncl) 3 knowCl ?_
  rintro l bs _ hB ⟨ns, ks, xs, rfl, rfl, hl, hmay, hid, hks, hns, hno⟩
  have hb0 : okRows ksN ns ∧ 0 < ksN.length ∧ ns.length ≤ maxLen := hB (.ro ksN ns) (by simp)
  have hb2 : okRows ksB xs ∧ 0 < ksB.length ∧ xs.length ≤ maxLen := hB (.ro ksB xs) (by simp)
  show comes _ _ _ _ _ _ fun v bs' => ((IV.tup [.sl 0, .int .i64 (clE ns ks xs)], ([.row 113 ksC (clL ns ks xs)] : List Blk)) = (v, bs'))
  rw [v_Cells]
  refine ⟨ns, ks, xs, ⟨⟨⟨hb0.1, hb2.1⟩, hl, hmay, hid, hks, hns, hno⟩, rfl, rfl⟩, ?_⟩
  rw [br_bne]
  unfold clL
  exact ⟨fun h => by rw [if_neg h], fun h => by rw [if_pos h, h]⟩
theorem c_RCells : Contract Try.prog f_perigeeref6_Cells spRCls := by
  refine contract_of (N := Ncl) 3 knowCl ?_
  rintro l bs _ hB ⟨ns, ks, xs, rfl, rfl, hl, hmay, hid, hks, hns, hno⟩
  have hb0 : okRows ksN ns ∧ 0 < ksN.length ∧ ns.length ≤ maxLen := hB (.ro ksN ns) (by simp)
  have hb2 : okRows ksB xs ∧ 0 < ksB.length ∧ xs.length ≤ maxLen := hB (.ro ksB xs) (by simp)
  show comes _ _ _ _ _ _ fun v bs' => ((IV.agg [.sl 0, .int .i64 (clE ns ks xs)], ([.row 113 ksC (clL ns ks xs)] : List Blk)) = (v, bs'))
  rw [v_RCells]
  refine ⟨ns, ks, xs, ⟨⟨⟨hb0.1, hb2.1⟩, hl, hmay, hid, hks, hns, hno⟩, rfl, rfl⟩, ?_⟩
  rw [br_bne]
  unfold clL
  exact ⟨fun h => by rw [if_neg h], fun h => by rw [if_pos h, h]⟩
theorem lcc (d n0 : Nat) : LoopOk (envOf Try.prog Ncc d) f_perigeeref6_SameCells n0 0 (lp Try.prog f_perigeeref6_SameCells 0) Lcc := by
  intro st K hst
  obtain ⟨xs, ⟨hm, rfl, rfl⟩, hK⟩ := hst
  refine loop_of (fun i : Nat => Scc xs i) (fun i => i ≤ xs.length) (fun i => xs.length - i) ?_ (a := 0) (Nat.zero_le _)
  intro i hle k hn hk
  show round (envOf Try.prog ⟨Γz2, _, fun _ => none⟩ d) _ _ _ _ _ k
  rw [rcc]
  intro t1 e1 t2 e2 t3 e3 t4 e4 t5 e5 t6 e6 t7 e7 t8 e8 t9 e9
  rw [br_dec]
  constructor
  · intro hi
    have p : t9 := by rw [e9]; omega
    refine ⟨p, p, p, p, br_no (by simp) ?_⟩
    rw [show IntKind.i64.wrap ((i : Int) + 1) = ((i + 1 : Nat) : Int) by rw [i64_in _ (by omega)]; rfl]
    exact hn (i + 1) (by omega) (by omega)
  · intro hi
    exact hk _ _ (by simp) hK
theorem c_SameCells : Contract Try.prog f_perigeeref6_SameCells spScl := by
  refine contract_of (N := Ncc) 3 (know_loop (f0 := f_perigeeref6_SameCells) (L := Lcc) (fun g sp h => ctrsz2 h) rfl (fun g G h => by cases h) lcc 3) ?_
  rintro l bs _ _ ⟨xs, rfl, rfl, hm⟩
  show comes _ _ _ _ _ _ fun v bs' => (IV.bool true, ([] : List Blk)) = (v, bs')
  rw [v_SameCells]
  exact br_no (by simp) ⟨xs, ⟨hm, rfl, rfl⟩, rfl⟩
end Go.Vs.RF

set_option linter.unusedVariables false
set_option linter.unusedSimpArgs false
set_option maxRecDepth 100000
/- bodies by their keys, their nodes: plain facts -/
namespace Go.Vs.RF
open Go Go.Proofs Go.Vs Go.IntWalk

theorem by_sorted (xs : List (List Int)) : RS.Sorted (keyP xs xs.length) (byK xs) := RS.sortF_sorted (keyP_two _ _)
theorem by_len (xs : List (List Int)) : (byK xs).length = xs.length := by rw [(by_sorted xs).len, keyP_len]
theorem by_mem {xs : List (List Int)} {k : List Int} (h : k ∈ byK xs) : ∃ i : Nat, i < xs.length ∧ k = [kOf (xs.getD i []), (i : Int)] := by
  have h1 := (by_sorted xs).perm.mem_iff.1 h
  unfold keyP at h1
  rw [List.mem_map] at h1
  obtain ⟨i, hi, rfl⟩ := h1
  exact ⟨i, by simpa using hi, rfl⟩
theorem by_ids (xs : List (List Int)) : idsOk xs.length (byK xs) := by
  intro k hk
  obtain ⟨i, hi, rfl⟩ := by_mem hk
  show 0 ≤ (i : Int) ∧ (i : Int) < xs.length
  omega
theorem by_keys (xs : List (List Int)) : RS.keysIn (byK xs) := by
  intro i
  by_cases hi : i < (byK xs).length
  · obtain ⟨j, hj, e⟩ := by_mem (List.getElem_mem hi)
    have : rd (byK xs) i 0 = kOf (xs.getD j []) := by rw [rd_at hi, e]; rfl
    rw [this]
    exact key_u64 _ _
  · have : rd (byK xs) i 0 = 0 := by unfold rd; simp [List.getD, List.getElem?_eq_none (by omega : (byK xs).length ≤ i)]
    rw [this]; exact ⟨by decide, by decide⟩
theorem by_up (xs : List (List Int)) : RS.Rises (byK xs) := by
  have := (by_sorted xs).up
  unfold RS.Rises
  exact this
theorem nodes_at {ks : List (List Int)} {i : Nat} (hi : i < (RS.buildF ks).length) : 0 ≤ rd (RS.buildF ks) i 2 ∧ rd (RS.buildF ks) i 2 ≤ rd (RS.buildF ks) i 3 ∧ rd (RS.buildF ks) i 3 ≤ ks.length := by
  have hne : ks ≠ [] := by rintro rfl; rw [RS.buildF_nil] at hi; simp at hi
  have hR : RS.Rises ks := Classical.byContradiction fun h => by rw [RS.buildF_not h] at hi; simp at hi
  have hpos : 0 < ks.length := List.length_pos_iff.2 hne
  have key := RS.tree_forall (xs := ks) (Q := fun lev key fr to => fr < to ∧ to ≤ ks.length) (by
    rintro lev key fr to ⟨h1, h2⟩ h6 h7 f h8 h9
    obtain ⟨s1, s2, s3, s4⟩ := RS.segEnd_spec ks (62 - 2 * lev) h9
    exact ⟨s1, by omega⟩) 33 0 0 0 ks.length 0 ⟨hpos, Nat.le_refl _⟩ (RS.buildF ks)[i] (by rw [← RS.buildF_tree hne hR]; exact List.getElem_mem hi)
  obtain ⟨lev, key, fr, to, l, e, hl, h1, h2⟩ := key
  obtain ⟨r0, r1, r2, r3⟩ := RS.rd_row hi e
  rw [r2, r3]
  omega
theorem nodes_len {ks : List (List Int)} (h : ks.length ≤ 1000) : (RS.buildF ks).length ≤ 1000000 := by
  by_cases hne : ks = []
  · rw [hne, RS.buildF_nil]; simp
  by_cases hR : RS.Rises ks
  · rw [RS.buildF_tree hne hR]
    have hpos : 0 < ks.length := List.length_pos_iff.2 hne
    have := RS.tree_len ks 33 0 0 0 ks.length 0 hpos
    omega
  · rw [RS.buildF_not hR]; simp
theorem cls_pre {xs : List (List Int)} (hl : lenB 20 xs) (hm : mayRs xs) (h : xs.length ≤ 1000) : pCls [IV.sl 0, IV.sl 1, IV.sl 2] [Blk.ro ksN (RS.buildF (byK xs)), Blk.ro [.u64, .i64] (byK xs), Blk.ro ksB xs] :=
  ⟨_, _, _, rfl, rfl, hl, hm, by_ids xs, by rw [by_len]; exact h, nodes_len (by rw [by_len]; exact h), fun i hi => nodes_at hi⟩
theorem bld_pre {xs : List (List Int)} (h : xs.length ≤ 1000) : RS.preBuild [IV.sl 0] [Blk.ro [.u64, .i64] (byK xs)] := ⟨_, rfl, rfl, by rw [by_len]; exact h, by_keys xs⟩
theorem same_pre {xs : List (List Int)} (h : xs.length ≤ 1000) : RS.preSame [IV.sl 0, IV.sl 1] [Blk.ro [.u64, .i64] (byK xs), Blk.ro [.u64, .i64] (byK xs)] :=
  ⟨_, _, rfl, rfl, (by_sorted xs).two, (by_sorted xs).two, by rw [by_len]; omega⟩
theorem scl_pre {xs : List (List Int)} (h : xs.length ≤ 1000) : pScl [IV.sl 0, IV.sl 1] [Blk.ro ksC (clL (RS.buildF (byK xs)) (byK xs) xs), Blk.ro ksC (clL (RS.buildF (byK xs)) (byK xs) xs)] := by
  refine ⟨_, rfl, rfl, ?_⟩
  unfold clL
  split
  · rw [celP_len]; exact nodes_len (by rw [by_len]; exact h)
  · simp
theorem z_ok : i64ok 0 := ⟨by decide, by decide⟩
theorem sumE_is (w : Nat) : ∀ (xs : List (List Int)) (a : Int), i64ok (sumG w xs a).2
  | [], a => z_ok
  | r :: l, a => by
    unfold sumG
    split
    · unfold tmE; split
      · exact ⟨by decide, by decide⟩
      · exact err_is _
    · split
      · exact err_is _
      · exact sumE_is w l _
theorem axE_is (w : Nat) (xs : List (List Int)) : i64ok (axE w xs) := by
  unfold axE
  split
  · exact divE_is _ _
  · exact sumE_is w xs 0
theorem cE_is (xs : List (List Int)) : i64ok (cE xs) := by
  unfold cE
  split
  · exact ⟨by decide, by decide⟩
  · split
    · exact sumE_is 0 xs 0
    · split
      · exact axE_is _ _
      · exact axE_is _ _
theorem clGo_is (ns ks xs : List (List Int)) : ∀ m i, i64ok (clGo ns ks xs m i)
  | 0, i => z_ok
  | m + 1, i => by
    unfold clGo
    split
    · exact cE_is _
    · exact clGo_is ns ks xs m (i + 1)
theorem clE_is (ns ks xs : List (List Int)) : i64ok (clE ns ks xs) := clGo_is _ _ _ _ _
end Go.Vs.RF
