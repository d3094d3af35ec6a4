import Derived.Test.YtbgleobdhjghlaaR1V12
set_option linter.unusedVariables false
set_option linter.unusedSimpArgs false
/- what holds of all nodes; TreeKeys -/
namespace Go.Vs.R1
open Go Go.Proofs Go.Vs Go.IntWalk

theorem ksF_len {F : SubT} {xs : List (List Int)} {lev pl : Nat} : ∀ {ss : List (Nat × Nat)} {a : Nat} {ks : List Int}, ks.length = 4 → (ksF F xs lev pl ss a ks).length = 4
  | [], a, ks, h => h
  | (f, t) :: ss, a, ks, h => by simp only [ksF]; exact ksF_len (by simpa using h)
theorem kidsF_mem {F : SubT} {xs : List (List Int)} {lev pl : Nat} {r : List Int} : ∀ {ss : List (Nat × Nat)} {a : Nat}, r ∈ kidsF F xs lev pl ss a → ∃ p ∈ ss, ∃ a', r ∈ F (lev + 1) (kp xs pl p.1) p.1 p.2 a'
  | [], a, h => by simp [kidsF] at h
  | (f, t) :: ss, a, h => by
    simp only [kidsF, List.mem_append] at h
    rcases h with h | h
    · exact ⟨(f, t), List.mem_cons_self .., a, h⟩
    · obtain ⟨p, hp, a', h2⟩ := kidsF_mem h
      exact ⟨p, List.mem_cons_of_mem _ hp, a', h2⟩
theorem segs_mem {xs : List (List Int)} {pl to : Nat} {p : Nat × Nat} : ∀ {m f : Nat}, p ∈ segs xs pl to m f → f ≤ p.1 ∧ p.1 < to ∧ p.2 = segEnd xs pl to p.1
  | 0, f, h => by simp [segs] at h
  | m + 1, f, h => by
    simp only [segs] at h
    split at h
    · rename_i hf
      rcases List.mem_cons.1 h with rfl | h
      · exact ⟨Nat.le_refl _, hf, rfl⟩
      · obtain ⟨h1, h2, h3⟩ := segs_mem h
        have := (segEnd_spec xs pl hf).1
        exact ⟨by omega, h2, h3⟩
    · simp at h
/-- what goes from a node to its kids holds of all nodes -/
theorem tree_forall {xs : List (List Int)} {Q : Nat → Int → Nat → Nat → Prop}
    (hs : ∀ lev key fr to, Q lev key fr to → lev < 32 → 4 < to - fr → ∀ f, fr ≤ f → f < to → Q (lev + 1) (kp xs (62 - 2 * lev) f) f (segEnd xs (62 - 2 * lev) to f)) :
    ∀ (n lev : Nat) (key : Int) (fr to a : Nat), Q lev key fr to → ∀ r ∈ treeF xs n lev key fr to a, ∃ (lev' : Nat) (key' : Int) (fr' to' : Nat) (ks : List Int), r = [(lev' : Int), key', (fr' : Int), (to' : Int)] ++ ks ∧ ks.length = 4 ∧ Q lev' key' fr' to'
  | 0, lev, key, fr, to, a, h, r, hr => by simp [treeF] at hr
  | n + 1, lev, key, fr, to, a, h, r, hr => by
    simp only [treeF] at hr
    split at hr
    · simp at hr
      subst hr
      exact ⟨lev, key, fr, to, [-1, -1, -1, -1], rfl, rfl, h⟩
    · rename_i hc
      rcases List.mem_cons.1 hr with rfl | hr
      · exact ⟨lev, key, fr, to, _, rfl, ksF_len rfl, h⟩
      · obtain ⟨p, hp, a', h2⟩ := kidsF_mem hr
        obtain ⟨h3, h4, h5⟩ := segs_mem hp
        have hq := hs lev key fr to h (by omega) (by omega) p.1 h3 h4
        rw [← h5] at hq
        exact tree_forall hs n _ _ _ _ _ hq r h2

theorem rd_row {ts : List (List Int)} {i : Nat} {a b c d : Int} {ks : List Int} (hi : i < ts.length) (h : ts[i] = [a, b, c, d] ++ ks) : rd ts i 0 = a ∧ rd ts i 1 = b ∧ rd ts i 2 = c ∧ rd ts i 3 = d := by
  simp [rd, List.getD, hi, h]

theorem nodes_ok {xs : List (List Int)} : nodesOk xs (buildF xs) := by
  intro i hi
  have hne : xs ≠ [] := by rintro rfl; rw [buildF_nil] at hi; simp at hi
  have hR : Rises xs := Classical.byContradiction fun h => by rw [buildF_not h] at hi; simp at hi
  have hpos : 0 < xs.length := List.length_pos_iff.2 hne
  have key := tree_forall (xs := xs) (Q := fun lev key fr to => fr < to ∧ to ≤ xs.length ∧ lev ≤ 32 ∧ (lev = 0 → key = 0) ∧ (0 < lev → ∀ j, fr ≤ j → j < to → kp xs (64 - 2 * lev) j = key)) (by
    rintro lev key fr to ⟨h1, h2, h3, h4, h5⟩ h6 h7 f h8 h9
    obtain ⟨s1, s2, s3, s4⟩ := segEnd_spec xs (62 - 2 * lev) h9
    refine ⟨s1, by omega, by omega, by omega, fun _ j hj1 hj2 => ?_⟩
    rw [show 64 - 2 * (lev + 1) = 62 - 2 * lev by omega]
    unfold kp
    rw [s3 j hj1 hj2]) 33 0 0 0 xs.length 0 ⟨hpos, Nat.le_refl _, by omega, fun _ => rfl, fun h => by omega⟩ (buildF xs)[i] (by rw [← buildF_tree hne hR]; exact List.getElem_mem hi)
  obtain ⟨lev, key, fr, to, ks, e, hl, h1, h2, h3, h4, h5⟩ := key
  obtain ⟨r0, r1, r2, r3⟩ := rd_row hi e
  rw [r0, r1, r2, r3]
  refine ⟨by omega, by omega, by omega, by omega, fun h => h4 (by omega), fun j hj1 hj2 hj3 => ?_⟩
  rw [show (64 - 2 * (lev : Int)).toNat = 64 - 2 * lev by omega]
  exact h5 (by omega) j (by omega) (by omega)

theorem loop8c (N : Know) (n0 : Nat) : LoopOk (envOf Try.prog N 0) 8 n0 2 (lp Try.prog 8 2) L8c := by
  rintro st K ⟨⟨rfl, hst, hp⟩, hK⟩
  generalize st.x 0 = xa at *
  generalize st.x 1 = bs at *
  generalize st.x 2 = ts at *
  generalize st.i 9 = i at *
  generalize st.c 3 0 = c0 at *
  generalize st.c 3 1 = c1 at *
  generalize st.c 3 2 = c2 at *
  generalize st.c 3 3 = c3 at *
  generalize st.c 3 4 = c4 at *
  generalize st.c 3 5 = c5 at *
  generalize st.c 3 6 = c6 at *
  generalize st.c 3 7 = c7 at *
  generalize st.i 11 = j0 at *
  subst hst
  obtain ⟨⟨p1, p2, p3, p4, p5, p6⟩, hk, hl, hj0⟩ := hp
  subst hj0
  refine loop_of (fun j : Int => S8c xa bs ts i c0 c1 j0 c3 c4 c5 c6 c7 j) (fun j => j0 ≤ j) (fun j => (c3 - j).toNat) ?_ (a := j0) (Int.le_refl _)
  rintro j a1 k hn hkk
  show round _ _ _ _ _ (S8c _ _ _ _ _ _ _ _ _ _ _ _ j) k
  rw [r8c, br_dec]
  refine ⟨fun hi => ?_, fun hi => hkk _ _ (by simp) hK⟩
  have hw : (0 : Int) ≤ j ∧ j < bs.length := by omega
  have next : k Out.normal (S8c xa bs ts i c0 c1 j0 c3 c4 c5 c6 c7 (IntKind.i64.wrap (j + 1))) := by
    rw [i64_in (j + 1) (by omega)]
    exact hn (j + 1) (by omega) (by omega)
  have hsh : IntKind.i64.wrap (64 - IntKind.i64.wrap (2 * c0)) = 64 - 2 * c0 := by rw [i64_in (2 * c0) (by omega), i64_in _ (by omega)]
  have hkk0 := hk j.toNat
  have hmain : 0 < c0 → (IntKind.u64.wrap ((rd bs j.toNat 0).fdiv (2 ^ min (64 - 2 * c0).toNat 64) * 2 ^ min (64 - 2 * c0).toNat 64) != c1) = false := by
    intro h0
    have e1 : min (64 - 2 * c0).toNat 64 = (64 - 2 * c0).toNat := by omega
    have e2 : (rd bs j.toNat 0).fdiv (2 ^ (64 - 2 * c0).toNat) = shr (rd bs j.toNat 0) (64 - 2 * c0).toNat := rfl
    rw [e1, e2, u64_shr hkk0.1 hkk0.2]
    have := p6 j.toNat (by omega) (by omega) h0
    unfold kp at this
    rw [this]
    simp
  rw [hsh]
  have branch : br (decide (c0 > 0)) ((0 ≤ j ∧ j < (bs.length : Int)) ∧ (0 ≤ j ∧ j < (bs.length : Int)) ∧ 0 ≤ 64 - 2 * c0 ∧ 0 ≤ 64 - 2 * c0 ∧ br (IntKind.u64.wrap ((rd bs j.toNat 0).fdiv (2 ^ min (64 - 2 * c0).toNat 64) * 2 ^ min (64 - 2 * c0).toNat 64) != c1) (k Out.ret ⟨T 116 [(4, .bool false)], [some (.ro [.u8] xa)]⟩) (k Out.normal (S8c xa bs ts i c0 c1 j0 c3 c4 c5 c6 c7 (IntKind.i64.wrap (j + 1))))) (k Out.normal (S8c xa bs ts i c0 c1 j0 c3 c4 c5 c6 c7 (IntKind.i64.wrap (j + 1)))) := by
    rw [br_dec]
    refine ⟨fun h0 => ⟨hw, hw, by omega, by omega, ?_⟩, fun _ => next⟩
    rw [hmain h0]
    exact next
  rw [br_bool]
  refine ⟨fun h0 => ?_, fun _ => branch⟩
  have h00 : c0 = 0 := by simpa using h0
  have h1 : (c1 != 0) = false := by rw [p5 h00]; rfl
  rw [h1]
  exact branch

theorem loop8b (n0 : Nat) : LoopOk (envOf Try.prog N8k 0) 8 n0 1 (lp Try.prog 8 1) L8b := by
  rintro st K ⟨⟨rfl, hst, hp⟩, hK⟩
  generalize st.x 0 = xa at *
  generalize st.x 1 = bs at *
  generalize st.x 2 = ts at *
  generalize st.i 9 = i0 at *
  subst hst
  obtain ⟨p1, p2, p3, p4, rfl⟩ := hp
  refine loop_of (S8b xa bs ts) (fun i => 0 ≤ i) (fun i => (ts.length - i).toNat) ?_ (a := 0) (Int.le_refl _)
  rintro i a1 k hn hk
  rw [r8b, br_dec]
  refine ⟨fun hi => ?_, fun hi => hk _ _ (by simp) hK⟩
  have hw : (0 : Int) ≤ i ∧ i < ts.length := ⟨a1, hi⟩
  have hno := p1 i.toNat (by omega)
  obtain ⟨q1, q2, q3, q4, q5, q6⟩ := hno
  rw [br_dec, br_dec, br_dec, br_dec]
  refine ⟨hw, hw, fun h => absurd h (by omega), fun _ => ⟨fun h => absurd h (by omega), fun _ => ⟨fun h => absurd h (by omega), fun _ => ⟨fun h => absurd h (by omega), fun _ => ⟨⟨rfl, rfl, ⟨q1, q2, q3, q4, q5, q6⟩, p2, p3, rfl⟩, ?_⟩⟩⟩⟩⟩
  rw [i64_in (i + 1) (by omega)]
  exact hn (i + 1) (by omega) (by omega)

theorem loop8 (N : Know) (n0 : Nat) : LoopOk (envOf Try.prog N 0) 8 n0 0 (lp Try.prog 8 0) (L6 116) :=
  xorLoop (E := envOf Try.prog N 0) (fun xa zs h i k hh => by
    show round (envOf Try.prog N 0) 8 1 0 (lp Try.prog 8 0) _ _
    rw [r8a]; exact hh) n0

theorem build_none {xs : List (List Int)} (hR : Rises xs) : ((buildF xs).length = 0) ↔ xs.length = 0 := by
  constructor
  · intro h
    rcases Nat.eq_zero_or_pos xs.length with h0 | h0
    · exact h0
    · rw [buildF_tree (List.length_pos_iff.1 h0) hR] at h
      exact absurd h (Nat.ne_of_gt (tree_pos xs 32 0 0 0 xs.length 0))
  · intro h
    rw [List.eq_nil_of_length_eq_zero h, buildF_nil]
    rfl

theorem c8 : Contract Try.prog 8 spBytesInt := by
  refine contract_of 1 ⟨mixedOrders, fun g sp h => ctrs8 h, ?_, fun g G h => (by cases h)⟩ (N := N8k) ?_
  · intro d' hd f i S n0 hS
    have : d' = 0 := by omega
    subst this
    simp only [N8k] at hS
    split at hS
    · rename_i hf
      subst hf
      split at hS
      · rename_i hi; subst hi; cases hS; exact loop8 N8k n0
      · split at hS
        · rename_i hi; subst hi; cases hS; exact loop8b n0
        · split at hS
          · rename_i hi; subst hi; cases hS; exact loop8c N8k n0
          · cases hS
    · cases hS
  · rintro l bs _ _ ⟨xa, h, rfl, rfl, hl⟩
    rw [v8]
    have h100 : (makeF xa).length ≤ 100 := by rw [makeF_len]; omega
    have hx := xorF_len h (makeF xa)
    have h2 := xorF_rows2 h (makeF xa)
    have hS := sortF_sorted h2
    have hsl := hS.len
    have hs : preSort [IV.sl (0 : Nat)] [Blk.ro [IntKind.u64, IntKind.i64] (xorF h (makeF xa))] := ⟨_, rfl, rfl, h2, by omega⟩
    have hki := keysIn_sort h2 (xorF_keys h (makeF xa))
    have hb : preBuild [IV.sl (0 : Nat)] [Blk.ro [IntKind.u64, IntKind.i64] (sortF (xorF h (makeF xa)))] := ⟨_, rfl, rfl, by omega, hki⟩
    have l2 := build_len (xs := sortF (xorF h (makeF xa))) (by omega)
    refine ⟨⟨_, rfl, rfl, hl⟩, ⟨rfl, rfl, h100⟩, hs, hb, ?_⟩
    rw [br_bool]
    refine ⟨fun he => ?_, fun _ => ⟨⟨rfl, rfl, nodes_ok, hki, by omega, by omega, rfl⟩, ⟨rfl, rfl⟩, rfl⟩⟩
    have h0 : (buildF (sortF (xorF h (makeF xa)))).length = 0 := by
      have : ((buildF (sortF (xorF h (makeF xa)))).length : Int) = 0 := by simpa using he
      omega
    rw [build_none hS.up, hsl] at h0
    rw [h0]
    exact ⟨⟨rfl, rfl⟩, rfl⟩
end Go.Vs.R1
