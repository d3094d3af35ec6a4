import Derived.Test.YtoccmfelheinhaaR3CL
import Derived.Test.YtoccmfelheinhaaR3M
set_option linter.unusedVariables false
/- MassMade -/
namespace Go.Vs.RF
open Go Go.Proofs Go.Vs
noncomputable def spBldM : Vs.Spec := ⟨RS.preBuild, fun _ bs => (.sl 0, [.row 180 ksN (RS.buildF (xsOf bs 0))])⟩
noncomputable def spSmKM : Vs.Spec := ⟨RS.preSame, fun _ bs => (.bool (bp (xsOf bs 0 = xsOf bs 1)), [])⟩
noncomputable def Γy3 : FuncId → Option Vs.Spec := fun g => if g = f_mass_Cells then some spCls else if g = f_perigeeref6_Cells then some spRCls else if g = f_perigeeref6_SameCells then some spScl else if g = f_perigeeref6_Build then some spBldM else if g = f_perigeeref6_SameKeyed then some spSmKM else if g = f_perigeelaw9_Bodies then some spBodies else if g = f_perigeelaw9_awake then some spAwk9 else Γz2 g
noncomputable def Ny3 : Know := ⟨Γy3, fun _ _ => none, fun _ => none⟩
theorem v_MassMade (ns : List (List Int)) (K : IV → List Blk → Prop) : (comes Try.prog Ny3 3 f_perigeelaw9_MassMade [.sl 0] [.ro [.u8] ns] K) = (∀ (t1 : Int), t1 = cE (bodiesF ns (howMany ns (20 : Int))) → ∀ (t2 : Int), t2 = cM (bodiesF ns (howMany ns (20 : Int))) → ∀ (t3 : Int), t3 = cX (bodiesF ns (howMany ns (20 : Int))) → ∀ (t4 : Int), t4 = cY (bodiesF ns (howMany ns (20 : Int))) → ∀ (t5 : Prop), t5 = preI [IV.int IntKind.i64 t1] [] → ∀ (t6 : Int), t6 = clE (RS.buildF (byK (bodiesF ns (howMany ns (20 : Int))))) (byK (bodiesF ns (howMany ns (20 : Int)))) (bodiesF ns (howMany ns (20 : Int))) → ∀ (t7 : Int), t7 = (↑(clL (RS.buildF (byK (bodiesF ns (howMany ns (20 : Int))))) (byK (bodiesF ns (howMany ns (20 : Int)))) (bodiesF ns (howMany ns (20 : Int)))).length : Int) → ∀ (t8 : Prop), t8 = preI [IV.int IntKind.i64 t6] [] → ∀ (t9 : Int), t9 = rd (clL (RS.buildF (byK (bodiesF ns (howMany ns (20 : Int))))) (byK (bodiesF ns (howMany ns (20 : Int)))) (bodiesF ns (howMany ns (20 : Int)))) (0 : Nat) (0 : Nat) → ∀ (t10 : Int), t10 = rd (clL (RS.buildF (byK (bodiesF ns (howMany ns (20 : Int))))) (byK (bodiesF ns (howMany ns (20 : Int)))) (bodiesF ns (howMany ns (20 : Int)))) (0 : Nat) (1 : Nat) → ∀ (t11 : Prop), t11 = ((0 : Int) ≤ (0 : Int) ∧ (0 : Int) < t7) → ∀ (t12 : Prop), t12 = pBs [IV.sl (0 : Nat)] [Blk.ro ksB (bodiesF ns (howMany ns (20 : Int)))] → ∀ (t13 : Prop), t13 = pKd [IV.sl (0 : Nat)] [Blk.ro ksB (bodiesF ns (howMany ns (20 : Int)))] → ∀ (t14 : Prop), t14 = pCls [IV.sl (0 : Nat), IV.sl (1 : Nat), IV.sl (2 : Nat)] [Blk.ro ksN (RS.buildF (byK (bodiesF ns (howMany ns (20 : Int))))), Blk.ro [IntKind.u64, IntKind.i64] (byK (bodiesF ns (howMany ns (20 : Int)))), Blk.ro ksB (bodiesF ns (howMany ns (20 : Int)))] → ∀ (b15 : Bool), b15 = decide (t2 = t2) → ∀ (b16 : Bool), b16 = decide (t4 = t4) → ∀ (d17 : Bool), d17 = (decide (t3 = t3) && b16) → pBodies [IV.sl (0 : Nat), IV.int IntKind.i64 (20 : Int)] [Blk.ro [IntKind.u8] ns] ∧ t12 ∧ t12 ∧ t13 ∧ RS.preBuild [IV.sl (0 : Nat)] [Blk.ro [IntKind.u64, IntKind.i64] (byK (bodiesF ns (howMany ns (20 : Int))))] ∧ t14 ∧ br ((↑(bodiesF ns (howMany ns (20 : Int))).length : Int) == (0 : Int)) (t5 ∧ br (t1 == (1 : Int)) (br (t7 == (0 : Int)) (t8 ∧ br (t6 == (0 : Int)) (br ((↑(byK (bodiesF ns (howMany ns (20 : Int)))).length : Int) == (0 : Int)) (pNil [] [] ∧ K (IV.bool true) []) (K (IV.bool false) [])) (K (IV.bool false) [])) (K (IV.bool false) [])) (K (IV.bool false) [])) (br b15 (br d17 (t5 ∧ t8 ∧ br (IntKind.i64.wrap (t1 + t6) == (0 : Int)) (t13 ∧ RS.preSame [IV.sl (0 : Nat), IV.sl (1 : Nat)] [Blk.ro [IntKind.u64, IntKind.i64] (byK (bodiesF ns (howMany ns (20 : Int)))), Blk.ro [IntKind.u64, IntKind.i64] (byK (bodiesF ns (howMany ns (20 : Int))))] ∧ br (bp (byK (bodiesF ns (howMany ns (20 : Int))) = byK (bodiesF ns (howMany ns (20 : Int))))) (br (t7 == (↑(RS.buildF (byK (bodiesF ns (howMany ns (20 : Int))))).length : Int)) (br (decide (t7 > (0 : Int))) (t11 ∧ t11 ∧ br (decide (t9 = t2 / (18446744073709551616 : Int)) && (decide (t10 = t2 % (18446744073709551616 : Int)) && true)) (t14 ∧ pScl [IV.sl (0 : Nat), IV.sl (1 : Nat)] [Blk.ro ksC (clL (RS.buildF (byK (bodiesF ns (howMany ns (20 : Int))))) (byK (bodiesF ns (howMany ns (20 : Int)))) (bodiesF ns (howMany ns (20 : Int)))), Blk.ro ksC (clL (RS.buildF (byK (bodiesF ns (howMany ns (20 : Int))))) (byK (bodiesF ns (howMany ns (20 : Int)))) (bodiesF ns (howMany ns (20 : Int))))] ∧ pNil [] [] ∧ K (IV.bool true) []) (K (IV.bool false) [])) (K (IV.bool false) [])) (K (IV.bool false) [])) (K (IV.bool false) [])) (K (IV.bool false) [])) (K (IV.bool false) [])) (K (IV.bool false) []))) := by refine nm ?_; refine nm ?_; refine nm ?_; refine nm ?_; refine nm ?_; refine nm ?_; refine nm ?_; refine nm ?_; refine nm ?_; refine nm ?_; refine nm ?_; refine nm ?_; refine nm ?_; refine nm ?_; refine nb ?_; refine nb ?_; refine nbr ?_; kernel_rfl
end Go.Vs.RF


set_option linter.unusedVariables false
set_option linter.unusedSimpArgs false
set_option maxRecDepth 100000
/- MassMade -/
namespace Go.Vs.RF
open Go Go.Proofs Go.Vs Go.IntWalk

theorem tot_perm (f : List Int → Int) {xs ys : List (List Int)} (h : xs.Perm ys) : totI f xs = totI f ys := by
  induction h with
  | nil => rfl
  | cons x _ ih => simp only [totI]; rw [ih]
  | swap x y l => simp only [totI]; omega
  | trans _ _ ih1 ih2 => exact ih1.trans ih2
theorem pick_all (xs : List (List Int)) : pickB xs (keyP xs xs.length) = xs := by
  unfold pickB keyP
  rw [List.map_map]
  apply List.ext_getElem
  · simp
  · intro i h1 h2
    simp only [List.getElem_map, List.getElem_range, Function.comp_apply]
    show xs.getD ((i : Int)).toNat [] = xs[i]
    rw [Int.toNat_natCast, get_row h2]
theorem pick_by (xs : List (List Int)) : (pickB xs (byK xs)).Perm xs := by
  have h := (by_sorted xs).perm
  have h2 : (pickB xs (byK xs)).Perm (pickB xs (keyP xs xs.length)) := h.map _
  rw [pick_all] at h2
  exact h2
theorem nodes_lt {ks : List (List Int)} {i : Nat} (hi : i < (RS.buildF ks).length) : 0 ≤ rd (RS.buildF ks) i 2 ∧ rd (RS.buildF ks) i 2 < rd (RS.buildF ks) i 3 ∧ rd (RS.buildF ks) i 3 ≤ ks.length := by
  have hne : ks ≠ [] := by rintro rfl; rw [RS.buildF_nil] at hi; simp at hi
  have hR : RS.Rises ks := Classical.byContradiction fun h => by rw [RS.buildF_not h] at hi; simp at hi
  have hpos : 0 < ks.length := List.length_pos_iff.2 hne
  have key := RS.tree_forall (xs := ks) (Q := fun lev key fr to => fr < to ∧ to ≤ ks.length) (by
    rintro lev key fr to ⟨h1, h2⟩ h6 h7 f h8 h9
    obtain ⟨s1, s2, s3, s4⟩ := RS.segEnd_spec ks (62 - 2 * lev) h9
    exact ⟨s1, by omega⟩) 33 0 0 0 ks.length 0 ⟨hpos, Nat.le_refl _⟩ (RS.buildF ks)[i] (by rw [← RS.buildF_tree hne hR]; exact List.getElem_mem hi)
  obtain ⟨lev, key, fr, to, l, e, hl, h1, h2⟩ := key
  obtain ⟨r0, r1, r2, r3⟩ := RS.rd_row hi e
  rw [r2, r3]
  omega
theorem tree_head (xs : List (List Int)) (n lev : Nat) (key : Int) (fr to a : Nat) : ∃ ks l, RS.treeF xs (n + 1) lev key fr to a = ([(lev : Int), key, (fr : Int), (to : Int)] ++ ks) :: l := by
  simp only [RS.treeF]
  split
  · exact ⟨[-1, -1, -1, -1], [], rfl⟩
  · exact ⟨_, _, rfl⟩
theorem root_at {ks : List (List Int)} (hne : ks ≠ []) (hR : RS.Rises ks) : 0 < (RS.buildF ks).length ∧ rd (RS.buildF ks) 0 2 = 0 ∧ rd (RS.buildF ks) 0 3 = ks.length := by
  rw [RS.buildF_tree hne hR]
  obtain ⟨l1, l2, e⟩ := tree_head ks 32 0 0 0 ks.length 0
  rw [e]
  exact ⟨by simp, rfl, rfl⟩
theorem clGo_zero {ns ks xs : List (List Int)} (h : ∀ i, i < ns.length → cE (clB ns ks xs i) = 0) : ∀ m i, i + m ≤ ns.length → clGo ns ks xs m i = 0
  | 0, i, _ => rfl
  | m + 1, i, hi => by
    unfold clGo
    rw [if_neg (by rw [h i (by omega)]; simp)]
    exact clGo_zero h m (i + 1) (by omega)
theorem made_pick {xs sb : List (List Int)} (hm : ∀ r ∈ xs, made r) (hid : idsOk xs.length sb) : ∀ r ∈ pickB xs sb, made r := by
  intro r hr
  unfold pickB at hr
  rw [List.mem_map] at hr
  obtain ⟨k, hk, rfl⟩ := hr
  have := hid k hk
  exact hm _ (getM (by omega))
theorem c_bldM : Contract Try.prog f_perigeeref6_Build spBldM := RS.c22
theorem c_smKM : Contract Try.prog f_perigeeref6_SameKeyed spSmKM := RS.c14
theorem ctrsy3 : ∀ {g : FuncId} {sp : Vs.Spec}, Γy3 g = some sp → Contract Try.prog g sp := ext_ok c_Cells (ext_ok c_RCells (ext_ok c_SameCells (ext_ok c_bldM (ext_ok c_smKM (ext_ok c_Bodies (ext_ok c_awake9 ctrsz2))))))
def lawMM (l : List IV) (bs : List Blk) : Prop := ∃ ns, l = [.sl 0] ∧ bs = [.ro [.u8] ns]
noncomputable def spMM : Vs.Spec := ⟨lawMM, fun _ _ => (.bool true, [])⟩
theorem c_MassMade : Contract Try.prog f_perigeelaw9_MassMade spMM := by
  refine contract_of (N := Ny3) 3 (knowOf (fun g sp h => ctrsy3 h) (fun _ _ => rfl) (fun _ => rfl) 3) ?_
  rintro l bs _ hB ⟨ns, rfl, rfl⟩
  have hb : okRows [.u8] ns ∧ 0 < [IntKind.u8].length ∧ ns.length ≤ maxLen := hB (.ro [.u8] ns) (List.mem_singleton.2 rfl)
  show comes _ _ _ _ _ _ fun v bs' => (IV.bool true, ([] : List Blk)) = (v, bs')
  rw [v_MassMade]
  intro t1 e1 t2 e2 t3 e3 t4 e4 t5 e5 t6 e6 t7 e7 t8 e8 t9 e9 t10 e10 t11 e11 t12 e12 t13 e13 t14 e14 b15 e15 b16 e16 d17 e17
  have hmade := bodies_made hb.1 (howMany ns 20)
  have hlen : (bodiesF ns (howMany ns 20)).length = howMany ns 20 := bodies_len ns (howMany ns 20)
  have h20 : (bodiesF ns (howMany ns 20)).length ≤ 20 := by
    rw [hlen]; unfold howMany
    have : min (ns.length / 4) (20 : Int).toNat ≤ (20 : Int).toNat := Nat.min_le_right _ _
    exact this
  generalize bodiesF ns (howMany ns 20) = xs at *
  have hl20 := made_len hmade
  have hmay := made_may hmade
  have p12 : t12 := by rw [e12]; exact ⟨xs, rfl, rfl, hmay⟩
  have p13 : t13 := by rw [e13]; exact ⟨xs, rfl, rfl, hl20, by omega⟩
  have p14 : t14 := by rw [e14]; exact cls_pre hl20 hmay (by omega)
  have p5 : t5 := by rw [e5, e1]; exact preI_of (cE_is _)
  have p8 : t8 := by rw [e8, e6]; exact preI_of (clE_is _ _ _)
  have yes : pNil [] [] ∧ (IV.bool true, ([] : List Blk)) = (IV.bool true, []) := ⟨⟨rfl, rfl⟩, rfl⟩
  refine ⟨⟨ns, 20, rfl, rfl, by decide, by decide⟩, p12, p12, p13, bld_pre (by omega), p14, ?_⟩
  rw [br_beq]
  constructor
  · intro h0
    have hx : xs = [] := List.eq_nil_of_length_eq_zero (by omega)
    have hk : byK xs = [] := List.eq_nil_of_length_eq_zero (by rw [by_len, hx]; rfl)
    have hc : clE (RS.buildF (byK xs)) (byK xs) xs = 0 := by rw [hk, RS.buildF_nil]; rfl
    have hcl : clL (RS.buildF (byK xs)) (byK xs) xs = [] := by
      unfold clL
      rw [hc, if_pos rfl, hk, RS.buildF_nil]
      rfl
    refine ⟨p5, br_is (by rw [e1, hx]; rfl) (br_is (by rw [e7, hcl]; rfl) ⟨p8, br_is (by rw [e6, hc]; rfl) (br_is (by rw [hk]; rfl) yes)⟩)⟩
  · intro h0
    have h0' : 0 < xs.length := by omega
    obtain ⟨k1, k2, _⟩ := cen_plain (made_plain hmade) h0' (by omega) (by decide) (by decide) (by decide) (by decide)
    have hkne : byK xs ≠ [] := by
      intro h
      have := by_len xs
      rw [h] at this
      simp at this
      omega
    obtain ⟨n1, n2, n3⟩ := root_at hkne (by_up xs)
    have hall : ∀ i, i < (RS.buildF (byK xs)).length → cE (clB (RS.buildF (byK xs)) (byK xs) xs i) = 0 := by
      intro i hi
      obtain ⟨a1, a2, a3⟩ := nodes_lt hi
      have hid : idsOk xs.length (partK (RS.buildF (byK xs)) (byK xs) i) := fun k hk => by_ids xs k (part_mem hk)
      have hm := made_pick hmade hid
      have hpl : (pickB xs (partK (RS.buildF (byK xs)) (byK xs) i)).length = (partK (RS.buildF (byK xs)) (byK xs) i).length := pick_len _ _
      have hpp : (partK (RS.buildF (byK xs)) (byK xs) i).length ≤ (byK xs).length := part_len _ _ _
      have hpq : 0 < (partK (RS.buildF (byK xs)) (byK xs) i).length := by
        unfold partK
        rw [List.length_drop, List.length_take]
        omega
      rw [by_len] at hpp
      exact (cen_plain (made_plain hm) (by omega) (by omega) (by decide) (by decide) (by decide) (by decide)).1
    have hc : clE (RS.buildF (byK xs)) (byK xs) xs = 0 := clGo_zero hall _ 0 (by omega)
    have hcl : clL (RS.buildF (byK xs)) (byK xs) xs = celP (RS.buildF (byK xs)) (byK xs) xs (RS.buildF (byK xs)).length := by unfold clL; rw [hc, if_pos rfl]
    have T7 : t7 = ((RS.buildF (byK xs)).length : Int) := by rw [e7, hcl, celP_len]
    have p11 : t11 := by rw [e11, T7]; omega
    have hroot : clB (RS.buildF (byK xs)) (byK xs) xs 0 = pickB xs (byK xs) := by
      unfold clB partK
      rw [n2, n3]
      show pickB xs (List.drop 0 (List.take ((byK xs).length : Int).toNat (byK xs))) = _
      rw [Int.toNat_natCast, List.take_length, List.drop_zero]
    have hcM : cM (clB (RS.buildF (byK xs)) (byK xs) xs 0) = cM xs := by
      rw [hroot]
      have hm := made_pick hmade (by_ids xs)
      have hpl : (pickB xs (byK xs)).length = xs.length := by rw [pick_len, by_len]
      obtain ⟨_, q2, _⟩ := cen_plain (made_plain hm) (by omega) (by omega) (by decide) (by decide) (by decide) (by decide)
      rw [q2, k2, tot_perm _ (pick_by xs)]
    have hfirst : ∀ j, rd (clL (RS.buildF (byK xs)) (byK xs) xs) 0 j = (celR (RS.buildF (byK xs)) (byK xs) xs 0).getD j 0 := by
      intro j
      rw [hcl, rd_at (by rw [celP_len]; exact n1)]
      unfold celP
      rw [List.getElem_map, List.getElem_range]
    have T9 : t9 = cM xs / 18446744073709551616 := by rw [e9, hfirst, ← hcM]; rfl
    have T10 : t10 = cM xs % 18446744073709551616 := by rw [e10, hfirst, ← hcM]; rfl
    refine br_is (by rw [e15]; simp) (br_is (by rw [e17, e16]; simp) ⟨p5, p8, br_is (by rw [e1, k1, e6, hc]; rfl) ⟨p13, same_pre (by omega), br_is (bp_true rfl) (br_is (by rw [T7]; simp) (br_is (by rw [T7]; exact decide_eq_true (by omega)) ⟨p11, p11, br_is (by rw [T9, T10, e2]; simp) ⟨p14, scl_pre (by omega), yes⟩⟩))⟩⟩)
theorem lawMM_of (x : List (List Int)) : lawMM [.sl 0] [.ro [.u8] x] := ⟨x, rfl, rfl⟩
end Go.Vs.RF
