import Derived.Test.YtoccmfelheinhaaR3E
set_option linter.unusedVariables false
/- mass: bodies by numbers -/
namespace Go.Vs.RF
open Go Go.Proofs Go.Vs
def bodyL (a b c d : Int) : List Int := [1 + c % 9, 0, d % 3, 4611686018427387904, a - 128, b * 72057594037927936, b - 128, c * 1099511627776, d % 7 - 3, a, c % 5 - 2, d * 1152921504606846976 % 18446744073709551616, 0, d * 1125899906842624, 0, a * 1125899906842624, b % 4, 0, 0, d * 257]
def u8ok (n : Int) : Prop := 0 ≤ n ∧ n < 256
def pBody (l : List IV) (bs : List Blk) : Prop := ∃ a b c d, l = [.int .u8 a, .int .u8 b, .int .u8 c, .int .u8 d] ∧ bs = [] ∧ u8ok a ∧ u8ok b ∧ u8ok c ∧ u8ok d
noncomputable def spBody : Vs.Spec := ⟨pBody, fun l _ => (bodyR (bodyL (argI l 0 0) (argI l 1 0) (argI l 2 0) (argI l 3 0)), [])⟩
theorem v_Body (a b c d : Int) (K : IV → List Blk → Prop) : (comes Try.prog Nt3 3 f_perigeelaw9_Body [.int .u8 a, .int .u8 b, .int .u8 c, .int .u8 d] [] K) = (∀ (t1 : Int), t1 = IntKind.i64.wrap ((1 : Int) + (IntKind.i64.wrap c).tmod (9 : Int)) → ∀ (t2 : Int), t2 = mx IntKind.i64 ((IntKind.i64.wrap b).tmod (4 : Int)) (-9223372036854775807 : Int) * (18446744073709551616 : Int) → ∀ (t3 : Int), t3 = mx IntKind.i64 t1 (-9223372036854775807 : Int) * (18446744073709551616 : Int) → (0 : Int) ≤ (56 : Int) ∧ (0 : Int) ≤ (40 : Int) ∧ (9 : Int) ≠ (0 : Int) ∧ preI [IV.int IntKind.i64 t1] [] ∧ (3 : Int) ≠ (0 : Int) ∧ (7 : Int) ≠ (0 : Int) ∧ (5 : Int) ≠ (0 : Int) ∧ (0 : Int) ≤ (60 : Int) ∧ (0 : Int) ≤ (50 : Int) ∧ (0 : Int) ≤ (50 : Int) ∧ (4 : Int) ≠ (0 : Int) ∧ preI [IV.int IntKind.i64 ((IntKind.i64.wrap b).tmod (4 : Int))] [] ∧ K (IV.agg [IV.int IntKind.i64 (t3 / (18446744073709551616 : Int)), IV.int IntKind.u64 (t3 % (18446744073709551616 : Int)), IV.int IntKind.i64 (IntKind.i64.wrap (d.tmod (3 : Int))), IV.int IntKind.u64 (4611686018427387904 : Int), IV.int IntKind.i64 (IntKind.i64.wrap (IntKind.i64.wrap a - (128 : Int))), IV.int IntKind.u64 (IntKind.u64.wrap (IntKind.u64.wrap b * (72057594037927936 : Int))), IV.int IntKind.i64 (IntKind.i64.wrap (IntKind.i64.wrap b - (128 : Int))), IV.int IntKind.u64 (IntKind.u64.wrap (IntKind.u64.wrap c * (1099511627776 : Int))), IV.int IntKind.i64 (IntKind.i64.wrap (IntKind.i64.wrap (d.tmod (7 : Int)) - (3 : Int))), IV.int IntKind.u64 (IntKind.u64.wrap a), IV.int IntKind.i64 (IntKind.i64.wrap (IntKind.i64.wrap (c.tmod (5 : Int)) - (2 : Int))), IV.int IntKind.u64 (IntKind.u64.wrap (IntKind.u64.wrap d * (1152921504606846976 : Int))), IV.int IntKind.i64 (0 : Int), IV.int IntKind.u64 (IntKind.u64.wrap (IntKind.u64.wrap d * (1125899906842624 : Int))), IV.int IntKind.i64 (0 : Int), IV.int IntKind.u64 (IntKind.u64.wrap (IntKind.u64.wrap a * (1125899906842624 : Int))), IV.int IntKind.i64 (t2 / (18446744073709551616 : Int)), IV.int IntKind.u64 (t2 % (18446744073709551616 : Int)), IV.int IntKind.i64 (0 : Int), IV.int IntKind.i64 (IntKind.i64.wrap (IntKind.i64.wrap d * (257 : Int)))]) []) := by refine nm ?_; refine nm ?_; refine nm ?_; kernel_rfl
noncomputable def Γw1 : FuncId → Option Vs.Spec := fun g => if g = f_perigeelaw9_Body then some spBody else Γt3 g
noncomputable def Nw1 : Know := ⟨Γw1, fun _ _ => none, fun _ => none⟩
def bodyAt (ns : List (List Int)) (i : Nat) : List Int := bodyL (rd ns (4 * i) 0) (rd ns (4 * i + 1) 0) (rd ns (4 * i + 2) 0) (rd ns (4 * i + 3) 0)
def bodiesF (ns : List (List Int)) (n : Nat) : List (List Int) := (List.range n).map (bodyAt ns)
def howMany (ns : List (List Int)) (m : Int) : Nat := min (ns.length / 4) m.toNat
def Sbs (ns zs : List (List Int)) (m i : Int) : St := ⟨T 44 [(0, .sl 0), (1, .int .i64 m), (5, .sl 1), (6, .int .i64 i)], [some (.ro [.u8] ns), some (.row 32 ksB zs)]⟩
theorem rBodies (Λ : FuncId → Nat → Option LoopS) (d : Nat) (ns zs : List (List Int)) (m i : Int) (k : Out → St → Prop) : (round (envOf Try.prog ⟨Γw1, Λ, fun _ => none⟩ d) f_perigeelaw9_Bodies 1 0 (lp Try.prog f_perigeelaw9_Bodies 0) (Sbs ns zs m i) k) = (∀ (t1 : Int), t1 = rd ns i.toNat (0 : Nat) → ∀ (t2 : Prop), t2 = ((0 : Int) ≤ i ∧ i < (↑ns.length : Int)) → ∀ (t3 : Int), t3 = rd ns (IntKind.i64.wrap (i + (1 : Int))).toNat (0 : Nat) → ∀ (t4 : Int), t4 = rd ns (IntKind.i64.wrap (i + (2 : Int))).toNat (0 : Nat) → ∀ (t5 : Int), t5 = rd ns (IntKind.i64.wrap (i + (3 : Int))).toNat (0 : Nat) → ∀ (t6 : Prop), t6 = ((0 : Int) ≤ IntKind.i64.wrap (i + (1 : Int)) ∧ IntKind.i64.wrap (i + (1 : Int)) < (↑ns.length : Int)) → ∀ (t7 : Prop), t7 = ((0 : Int) ≤ IntKind.i64.wrap (i + (2 : Int)) ∧ IntKind.i64.wrap (i + (2 : Int)) < (↑ns.length : Int)) → ∀ (t8 : Prop), t8 = ((0 : Int) ≤ IntKind.i64.wrap (i + (3 : Int)) ∧ IntKind.i64.wrap (i + (3 : Int)) < (↑ns.length : Int)) → ∀ (t9 : Prop), t9 = k (Out.exit (0 : Nat)) (St.mk (T (44 : Nat) [((5 : Nat), IV.sl (1 : Nat))]) [some (Blk.ro [IntKind.u8] ns), some (Blk.row (32 : Nat) ksB zs)]) → br (decide (IntKind.i64.wrap (i + (3 : Int)) < (↑ns.length : Int))) (br (decide ((↑zs.length : Int) < m)) (t2 ∧ t2 ∧ t6 ∧ t6 ∧ t7 ∧ t7 ∧ t8 ∧ t8 ∧ pBody [IV.int IntKind.u8 t1, IV.int IntKind.u8 t3, IV.int IntKind.u8 t4, IV.int IntKind.u8 t5] [] ∧ (zs.length + (1 : Nat)) * (160 : Nat) ≤ (140737488355328 : Nat) ∧ k Out.normal (St.mk (T (44 : Nat) [((0 : Nat), IV.sl (0 : Nat)), ((1 : Nat), IV.int IntKind.i64 m), ((5 : Nat), IV.sl (1 : Nat)), ((6 : Nat), IV.int IntKind.i64 (IntKind.i64.wrap (i + (4 : Int))))]) [some (Blk.ro [IntKind.u8] ns), some (Blk.row (32 : Nat) ksB (zs ++ (List.replicate (1 : Nat) (List.replicate (20 : Nat) (0 : Int))).set (0 : Nat) [rd [bodyL t1 t3 t4 t5] (0 : Nat) (19 : Nat), rd [bodyL t1 t3 t4 t5] (0 : Nat) (18 : Nat), rd [bodyL t1 t3 t4 t5] (0 : Nat) (17 : Nat), rd [bodyL t1 t3 t4 t5] (0 : Nat) (16 : Nat), rd [bodyL t1 t3 t4 t5] (0 : Nat) (15 : Nat), rd [bodyL t1 t3 t4 t5] (0 : Nat) (14 : Nat), rd [bodyL t1 t3 t4 t5] (0 : Nat) (13 : Nat), rd [bodyL t1 t3 t4 t5] (0 : Nat) (12 : Nat), rd [bodyL t1 t3 t4 t5] (0 : Nat) (11 : Nat), rd [bodyL t1 t3 t4 t5] (0 : Nat) (10 : Nat), rd [bodyL t1 t3 t4 t5] (0 : Nat) (9 : Nat), rd [bodyL t1 t3 t4 t5] (0 : Nat) (8 : Nat), rd [bodyL t1 t3 t4 t5] (0 : Nat) (7 : Nat), rd [bodyL t1 t3 t4 t5] (0 : Nat) (6 : Nat), rd [bodyL t1 t3 t4 t5] (0 : Nat) (5 : Nat), rd [bodyL t1 t3 t4 t5] (0 : Nat) (4 : Nat), rd [bodyL t1 t3 t4 t5] (0 : Nat) (3 : Nat), rd [bodyL t1 t3 t4 t5] (0 : Nat) (2 : Nat), rd [bodyL t1 t3 t4 t5] (0 : Nat) (1 : Nat), rd [bodyL t1 t3 t4 t5] (0 : Nat) (0 : Nat)].reverse))])) t9) t9) := by refine nm ?_; refine nm ?_; refine nm ?_; refine nm ?_; refine nm ?_; refine nm ?_; refine nm ?_; refine nm ?_; refine nm ?_; kernel_rfl
def pBodies0 (ns : List (List Int)) (m : Int) : Prop := okRows [.u8] ns ∧ ns.length ≤ maxLen ∧ 0 ≤ m ∧ m ≤ 1000
def pLBodies (n0 : Nat) (st : St) (ns : List (List Int)) (m : Int) : Prop := pBodies0 ns m ∧ n0 = 1 ∧ st = Sbs ns [] m 0
noncomputable def LBodies : LoopS := fun n0 st K => ∃ ns m, pLBodies n0 st ns m ∧ K (.exit 0) ⟨T 44 [(5, .sl 1)], [some (.ro [.u8] ns), some (.row 32 ksB (bodiesF ns (howMany ns m)))]⟩
noncomputable def NBodies : Know := ⟨Γw1, fun f i => if f = f_perigeelaw9_Bodies then (if i = 0 then some LBodies else none) else none, fun _ => none⟩
theorem v_Bodies (ns : List (List Int)) (m : Int) (K : IV → List Blk → Prop) : (comes Try.prog NBodies 3 f_perigeelaw9_Bodies [.sl 0, .int .i64 m] [.ro [.u8] ns] K) = (∃ ns_1 m_1, pLBodies (1 : Nat) (St.mk (T (44 : Nat) [((0 : Nat), IV.sl (0 : Nat)), ((1 : Nat), IV.int IntKind.i64 m), ((5 : Nat), IV.sl (1 : Nat)), ((6 : Nat), IV.int IntKind.i64 (0 : Int))]) [some (Blk.ro [IntKind.u8] ns), some (Blk.row (32 : Nat) ksB [])]) ns_1 m_1 ∧ K (IV.sl (0 : Nat)) [Blk.row (32 : Nat) ksB (bodiesF ns_1 (howMany ns_1 m_1))]) := by kernel_rfl
def pBodies (l : List IV) (bs : List Blk) : Prop := ∃ ns m, l = [.sl 0, .int .i64 m] ∧ bs = [.ro [.u8] ns] ∧ 0 ≤ m ∧ m ≤ 1000
noncomputable def spBodies : Vs.Spec := ⟨pBodies, fun l bs => (.sl 0, [.row 32 ksB (bodiesF (xsOf bs 0) (howMany (xsOf bs 0) (argI l 1 0)))])⟩
end Go.Vs.RF


set_option linter.unusedVariables false
set_option linter.unusedSimpArgs false
set_option maxRecDepth 100000
/- mass: bodies by numbers -/
namespace Go.Vs.RF
open Go Go.Proofs Go.Vs Go.IntWalk

theorem tmod_pos {a b : Int} (h : 0 ≤ a) : a.tmod b = a % b := Int.tmod_eq_emod_of_nonneg h
theorem c_Body : Contract Try.prog f_perigeelaw9_Body spBody := by
  refine contract_of (N := Nt3) 3 knowt3 ?_
  rintro l bs _ _ ⟨a, b, c, d, rfl, rfl, ha, hb, hc, hd⟩
  unfold u8ok at ha hb hc hd
  show comes _ _ _ _ _ _ fun v bs' => (bodyR (bodyL a b c d), ([] : List Blk)) = (v, bs')
  rw [v_Body]
  rintro t1 e1 t2 e2 t3 e3
  rw [i64_in c (by omega), tmod_pos hc.1, i64_in (1 + c % 9) (by omega)] at e1
  rw [i64_in b (by omega), tmod_pos hb.1, mxe (by omega)] at e2
  rw [e1, mxe (by omega)] at e3
  refine ⟨by decide, by decide, by decide, preI_of (by unfold i64ok; omega), by decide, by decide, by decide, by decide, by decide, by decide, by decide, preI_of (by rw [i64_in b (by omega), tmod_pos hb.1]; unfold i64ok; omega), ?_⟩
  rw [tmod_pos hd.1, tmod_pos hd.1, tmod_pos hc.1, i64_in a (by omega), i64_in b (by omega), i64_in (d % 3) (by omega), i64_in (a - 128) (by omega), i64_in (b - 128) (by omega), u64_in b (by omega), u64_in c (by omega), u64_in a (by omega), u64_in d (by omega),
    u64_in (b * 72057594037927936) (by omega), u64_in (c * 1099511627776) (by omega), i64_in (d % 7) (by omega), i64_in (d % 7 - 3) (by omega), i64_in (c % 5) (by omega), i64_in (c % 5 - 2) (by omega), u64_in (d * 1125899906842624) (by omega), u64_in (a * 1125899906842624) (by omega), i64_in d (by omega), i64_in (d * 257) (by omega)]
  have k1 : t3 / 18446744073709551616 = 1 + c % 9 := by omega
  have k2 : t3 % 18446744073709551616 = 0 := by omega
  have k3 : t2 / 18446744073709551616 = b % 4 := by omega
  have k4 : t2 % 18446744073709551616 = 0 := by omega
  have k5 : IntKind.u64.wrap (d * 1152921504606846976) = d * 1152921504606846976 % 18446744073709551616 := by exact wu _
  rw [k1, k2, k3, k4, k5]
  rfl
theorem ctrsw1 : ∀ {g : FuncId} {sp : Vs.Spec}, Γw1 g = some sp → Contract Try.prog g sp := ext_ok c_Body ctrst3
theorem u8_rd {ns : List (List Int)} (h : okRows [.u8] ns) (i : Nat) : u8ok (rd ns i 0) := by
  have := rows_in h i 0 (by decide)
  have h1 : (0 : Int) ≤ rd ns i 0 ∧ rd ns i 0 ≤ 255 := this
  unfold u8ok; omega
theorem bodies_succ (ns : List (List Int)) (n : Nat) : bodiesF ns (n + 1) = bodiesF ns n ++ [bodyAt ns n] := by
  unfold bodiesF; rw [List.range_succ, List.map_append]; rfl
theorem bodies_len (ns : List (List Int)) (n : Nat) : (bodiesF ns n).length = n := by unfold bodiesF; simp
theorem lBodies (d n0 : Nat) : LoopOk (envOf Try.prog NBodies d) f_perigeelaw9_Bodies n0 0 (lp Try.prog f_perigeelaw9_Bodies 0) LBodies := by
  intro st K hst
  obtain ⟨ns, m, ⟨⟨hr, hl, hm0, hm1⟩, rfl, rfl⟩, hK⟩ := hst
  have hl' : ns.length ≤ 9223372036854775807 := hl
  refine loop_of (fun n : Nat => Sbs ns (bodiesF ns n) m (4 * n)) (fun n => n ≤ howMany ns m) (fun n => howMany ns m - n) ?_ (a := 0) (Nat.zero_le _)
  intro n hle k hn hk
  show round (envOf Try.prog ⟨Γw1, _, fun _ => none⟩ d) _ _ _ _ _ k
  rw [rBodies]
  have hm2 : howMany ns m ≤ m.toNat := Nat.min_le_right _ _
  have hm3 : howMany ns m ≤ ns.length / 4 := Nat.min_le_left _ _
  rw [bodies_len, i64_in (4 * (n : Int) + 1) (by omega), i64_in (4 * (n : Int) + 2) (by omega), i64_in (4 * (n : Int) + 3) (by omega), i64_in (4 * (n : Int) + 4) (by omega)]
  rintro t1 e1 t2 e2 t3 e3 t4 e4 t5 e5 t6 e6 t7 e7 t8 e8 t9 e9
  have stop : n = howMany ns m → t9 := by
    rintro rfl
    rw [e9]
    exact hk _ _ (by simp) hK
  rw [br_dec]
  refine ⟨fun h1 => ?_, fun h1 => stop (by unfold howMany at *; omega)⟩
  rw [br_dec]
  refine ⟨fun h2 => ?_, fun h2 => stop (by unfold howMany at *; omega)⟩
  have hlt : n < howMany ns m := by unfold howMany; omega
  have p2 : t2 := by rw [e2]; omega
  have p6 : t6 := by rw [e6]; omega
  have p7 : t7 := by rw [e7]; omega
  have p8 : t8 := by rw [e8]; omega
  rw [show (4 * (n : Int)).toNat = 4 * n by omega] at e1
  rw [show (4 * (n : Int) + 1).toNat = 4 * n + 1 by omega] at e3
  rw [show (4 * (n : Int) + 2).toNat = 4 * n + 2 by omega] at e4
  rw [show (4 * (n : Int) + 3).toNat = 4 * n + 3 by omega] at e5
  refine ⟨p2, p2, p6, p6, p7, p7, p8, p8, ⟨t1, t3, t4, t5, rfl, rfl, by rw [e1]; exact u8_rd hr _, by rw [e3]; exact u8_rd hr _, by rw [e4]; exact u8_rd hr _, by rw [e5]; exact u8_rd hr _⟩, by omega, ?_⟩
  have := hn (n + 1) hlt (by omega)
  rw [bodies_succ] at this
  rw [show ((4 * ((n + 1 : Nat) : Int))) = 4 * (n : Int) + 4 by omega] at this
  rw [e1, e3, e4, e5]
  exact this
theorem c_Bodies : Contract Try.prog f_perigeelaw9_Bodies spBodies := by
  refine contract_of (N := NBodies) 3 (know_loop (f0 := f_perigeelaw9_Bodies) (L := LBodies) (fun g sp h => ctrsw1 h) rfl (fun g G h => by cases h) lBodies 3) ?_
  rintro l bs _ hB ⟨ns, m, rfl, rfl, h0, h1⟩
  have hb : okRows [.u8] ns ∧ 0 < [IntKind.u8].length ∧ ns.length ≤ maxLen := hB (.ro [.u8] ns) (List.mem_singleton.2 rfl)
  show comes _ _ _ _ _ _ _
  rw [v_Bodies]
  exact ⟨ns, m, ⟨⟨hb.1, hb.2.2, h0, h1⟩, rfl, rfl⟩, rfl⟩
end Go.Vs.RF
