import Derived.Test.YtbgleobdhjghlaaR1F2
set_option linter.unusedVariables false
set_option linter.unusedSimpArgs false
/- sort.By: what a pass does; its outer loop -/
namespace Go.Vs.R1
open Go Go.Proofs Go.Vs Go.IntWalk

theorem dg_eq {s x : Int} (hs : 0 ≤ s) (hs' : s ≤ 63) (hx : 0 ≤ x) (hx' : x < 18446744073709551616) : dg s x = x / 2 ^ s.toNat % 256 := by
  have hm : min s.toNat 64 = s.toNat := by omega
  have hpow : (0 : Int) < 2 ^ s.toNat := Int.pow_pos (by decide)
  have hq : 0 ≤ x / 2 ^ s.toNat := Int.ediv_nonneg hx (by omega)
  have hq' : x / 2 ^ s.toNat ≤ x := Int.ediv_le_self _ hx
  have hand : (BitVec.ofInt 64 (x / 2 ^ s.toNat) &&& BitVec.ofInt 64 255).toNat = (x / 2 ^ s.toNat).toNat % 256 := by
    rw [BitVec.toNat_and, BitVec.toNat_ofInt]
    have e1 : ((x / 2 ^ s.toNat) % ((2 ^ 64 : Nat) : Int)).toNat = (x / 2 ^ s.toNat).toNat := by
      rw [Int.emod_eq_of_lt hq (by omega)]
    rw [e1]
    exact Nat.and_two_pow_sub_one_eq_mod _ 8
  unfold dg
  rw [hm, Int.fdiv_eq_ediv_of_nonneg _ (by omega), hand]
  have : (x / 2 ^ s.toNat).toNat % 256 < 256 := Nat.mod_lt _ (by decide)
  rw [u64_in _ (by omega)]
  omega

theorem low_step {s x y : Int} (hs : 0 ≤ s) (hs' : s ≤ 56) (hx : 0 ≤ x) (hx' : x < 18446744073709551616) (hy : 0 ≤ y) (hy' : y < 18446744073709551616)
    (h : dg s x < dg s y ∨ (dg s x = dg s y ∧ x % 2 ^ s.toNat ≤ y % 2 ^ s.toNat)) : x % 2 ^ (s + 8).toNat ≤ y % 2 ^ (s + 8).toNat := by
  rw [dg_eq hs (by omega) hx hx', dg_eq hs (by omega) hy hy'] at h
  have e : (2 : Int) ^ (s + 8).toNat = 2 ^ s.toNat * 256 := by
    rw [show (s + 8).toNat = s.toNat + 8 by omega, Int.pow_add]
    rfl
  have hpow : (0 : Int) < 2 ^ s.toNat := Int.pow_pos (by decide)
  have key : ∀ z : Int, z % (2 ^ s.toNat * 256) = 2 ^ s.toNat * (z / 2 ^ s.toNat % 256) + z % 2 ^ s.toNat := by
    intro z
    have e3 : z / (2 ^ s.toNat * 256) = z / 2 ^ s.toNat / 256 := (Int.ediv_ediv_of_nonneg (by omega)).symm
    rw [Int.emod_def z (2 ^ s.toNat * 256), e3, Int.emod_def z (2 ^ s.toNat), Int.emod_def (z / 2 ^ s.toNat) 256, Int.mul_sub, Int.mul_assoc]
    omega
  rw [e, key x, key y]
  generalize x / 2 ^ s.toNat % 256 = a at *
  generalize y / 2 ^ s.toNat % 256 = b at *
  have hx2 := Int.emod_lt_of_pos x hpow
  have hy2 := Int.emod_nonneg y (show (2 : Int) ^ s.toNat ≠ 0 by omega)
  generalize x % 2 ^ s.toNat = p at *
  generalize y % 2 ^ s.toNat = q at *
  generalize (2 : Int) ^ s.toNat = m at *
  rcases h with h | ⟨rfl, h⟩
  · have : m * (a + 1) ≤ m * b := Int.mul_le_mul_of_nonneg_left (by omega) (by omega)
    rw [Int.mul_add] at this
    omega
  · omega

theorem mem_pass {s : Int} {ys : List (List Int)} {x : List Int} (h : x ∈ pass s ys) : x ∈ ys := by
  unfold pass at h
  simp only [List.mem_flatMap, List.mem_filter] at h
  obtain ⟨d, _, h, _⟩ := h
  exact h

theorem pass_length (s : Int) (ys : List (List Int)) : (pass s ys).length = ys.length := by
  have key : ∀ m : Nat, ((List.range m).flatMap fun (d : Nat) => ys.filter fun x => decide (dg s (key x) = (d : Int))).length = cntB s m ys := by
    intro m
    induction m with
    | zero => simpa using (cntB_zero s ys).symm
    | succ m ih =>
      rw [List.range_succ, List.flatMap_append, List.length_append, ih]
      have := cntB_succ s (m : Int) ys
      simp only [List.flatMap_cons, List.flatMap_nil, List.append_nil]
      unfold cnt at this
      rw [← this]
      rfl
  have := key 256
  rw [show ((256 : Nat) : Int) = 256 from rfl, cntB_all] at this
  exact this

theorem pass_same (s : Int) (ys : List (List Int)) : sameF ys (pass s ys) := by
  intro v
  unfold pass
  rw [List.filter_flatMap]
  have hr := dg_range s v
  have key : ∀ m : Nat, ((List.range m).flatMap fun (d : Nat) => (ys.filter fun x => decide (dg s (key x) = (d : Int))).filter fun x => decide (key x = v)) = if dg s v < m then ys.filter (fun x => decide (key x = v)) else [] := by
    intro m
    induction m with
    | zero =>
      rw [if_neg (by omega)]
      rfl
    | succ m ih =>
      rw [List.range_succ, List.flatMap_append, ih]
      simp only [List.flatMap_cons, List.flatMap_nil, List.append_nil, List.filter_filter]
      by_cases hd : dg s v = m
      · rw [if_neg (by omega), if_pos (by omega), List.nil_append]
        apply List.filter_congr
        intro x _
        by_cases hx : key x = v
        · subst hx; simp [hd]
        · simp [hx]
      · have : (ys.filter fun x => decide (key x = v) && decide (dg s (key x) = (m : Int))) = [] := by
          rw [List.filter_eq_nil_iff]
          intro x _
          by_cases hx : key x = v
          · subst hx; simp [hd]
          · simp [hx]
        rw [this, List.append_nil]
        by_cases h2 : dg s v < m
        · rw [if_pos h2, if_pos (by omega)]
        · rw [if_neg h2, if_neg (by omega)]
  have := key 256
  rw [if_pos (by omega)] at this
  exact this

theorem pass_pairwise {s : Int} {ys : List (List Int)} (hs : 0 ≤ s) (hs' : s ≤ 56) (hk : keysOk ys) (h : ys.Pairwise fun a b => key a % 2 ^ s.toNat ≤ key b % 2 ^ s.toNat) :
    (pass s ys).Pairwise fun a b => key a % 2 ^ (s + 8).toNat ≤ key b % 2 ^ (s + 8).toNat := by
  have key : ∀ m : Nat, ((List.range m).flatMap fun (d : Nat) => ys.filter fun x => decide (dg s (key x) = (d : Int))).Pairwise fun a b => key a % 2 ^ (s + 8).toNat ≤ key b % 2 ^ (s + 8).toNat := by
    intro m
    induction m with
    | zero => simp
    | succ m ih =>
      rw [List.range_succ, List.flatMap_append, List.pairwise_append]
      refine ⟨ih, ?_, ?_⟩
      · simp only [List.flatMap_cons, List.flatMap_nil, List.append_nil]
        have h2 := (h.sublist (List.filter_sublist (p := fun x => decide (dg s (key x) = (m : Int)))))
        refine List.Pairwise.imp_of_mem ?_ h2
        intro a b ha hb hab
        rw [List.mem_filter] at ha hb
        have da : dg s (key a) = m := by simpa using ha.2
        have db : dg s (key b) = m := by simpa using hb.2
        exact low_step hs hs' (hk a ha.1).1 (hk a ha.1).2 (hk b hb.1).1 (hk b hb.1).2 (.inr ⟨by omega, hab⟩)
      · intro a ha b hb
        simp only [List.mem_flatMap, List.mem_filter, List.mem_range, List.flatMap_cons, List.flatMap_nil, List.append_nil] at ha hb
        obtain ⟨d, hd, ha, hda⟩ := ha
        obtain ⟨hb, hdb⟩ := hb
        have da : dg s (key a) = d := by simpa using hda
        have db : dg s (key b) = m := by simpa using hdb
        exact low_step hs hs' (hk a ha).1 (hk a ha).2 (hk b hb).1 (hk b hb).2 (.inl (by omega))
  exact key 256

structure I15 (ys0 : List (List Int)) (a : (List (List Int) × List (List Int)) × Int) : Prop where
  lenY : a.1.1.length = ys0.length
  lenZ : a.1.2.length = ys0.length
  same : sameF ys0 a.1.1
  two : rows2 a.1.1
  keys : keysOk a.1.1
  lo : 0 ≤ a.2
  hi : a.2 ≤ 64
  eight : a.2 % 8 = 0
  up : a.1.1.Pairwise fun x y => key x % 2 ^ a.2.toNat ≤ key y % 2 ^ a.2.toNat

theorem loop15 (n0 : Nat) : LoopOk (envOf Try.prog N15 0) 15 n0 0 (lp Try.prog 15 0) L15 := by
  rintro st K ⟨⟨rfl, hst, hlen, hz, hr, hkeys⟩, hK⟩
  generalize st.x 0 = xs at *
  generalize st.x 1 = ys0 at *
  generalize st.x 2 = zs0 at *
  subst hst
  refine loop_of (fun a : (List (List Int) × List (List Int)) × Int => S15 xs a.1.1 a.1.2 a.2) (I15 ys0) (fun a => (64 - a.2).toNat) ?_ (a := ((ys0, zs0), 0)) ⟨rfl, hz, sameF.refl _, hr, hkeys, by simp, by simp, by simp, ?_⟩
  · rintro ⟨⟨ys, zs⟩, s⟩ ⟨a1, a2, a3, a4, a5, a6, a7, a8, a9⟩ k hn hk
    simp only at a1 a2 a3 a4 a5 a6 a7 a8 a9
    show round _ _ _ _ _ (S15 xs ys zs s) k
    rw [r15, br_dec]
    constructor
    · intro hs
      have hl : ys.length ≤ 1000000 := by omega
      refine ⟨⟨rfl, rfl, hl, a6⟩, fun A1 h1 => ⟨⟨rfl, rfl, hl, a6, h1⟩, fun A2 h2 => ⟨⟨rfl, rfl, hl, a6, h2, by omega, a4⟩, ?_⟩⟩⟩
      rw [i64_in (s + 8) (by omega)]
      refine hn ((pass s ys, ys), s + 8) ⟨by simp [pass_length, a1], a1, a3.trans (pass_same s ys), fun x hx => a4 x (mem_pass hx), fun x hx => a5 x (mem_pass hx), by simp; omega, by simp; omega, by simp; omega, ?_⟩ (by simp; omega)
      exact pass_pairwise a6 (by omega) a5 a9
    · intro hs
      have e : s = 64 := by omega
      subst e
      refine hk _ _ (by simp) (hK ys ⟨a1, a3, ?_, a4⟩)
      intro p q hpq hq
      rw [List.pairwise_iff_getElem] at a9
      have := a9 p q (by omega) hq hpq
      rw [rd_key (by omega), rd_key hq]
      have k1 := a5 ys[p] (List.getElem_mem _)
      have k2 := a5 ys[q] (List.getElem_mem _)
      have e64 : (2 : Int) ^ (64 : Int).toNat = 18446744073709551616 := by decide
      rw [e64, Int.emod_eq_of_lt k1.1 k1.2, Int.emod_eq_of_lt k2.1 k2.2] at this
      exact this
  · have : ∀ (l : List (List Int)), l.Pairwise fun x y => key x % 2 ^ (0 : Int).toNat ≤ key y % 2 ^ (0 : Int).toNat := by
      intro l
      rw [List.pairwise_iff_getElem]
      intro i j _ _ _
      have e0 : (2 : Int) ^ (0 : Int).toNat = 1 := by decide
      rw [e0, Int.emod_one, Int.emod_one]
      omega
    exact this ys0
end Go.Vs.R1
