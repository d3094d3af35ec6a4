import Derived.Test.YtbgleobdhjghlaaR1V13
set_option linter.unusedVariables false
set_option linter.unusedSimpArgs false
/- TreeFew -/
namespace Go.Vs.R1
open Go Go.Proofs Go.Vs Go.IntWalk

theorem few_len (h : Int) (k : Nat) : (fewF h k).length = k := by simp [fewF]
theorem few_rd (h : Int) {k i : Nat} (hi : i < k) : rd (fewF h k) i 0 = h := by simp [rd, fewF, List.getD, hi]
theorem few_step (h : Int) (m : Nat) : fewF h (m + 1) = fewF h m ++ [[h, (m : Int)]] := by
  unfold fewF
  rw [List.range_succ, List.map_append]
  rfl
theorem few_rises (h : Int) (k : Nat) : Rises (fewF h k) := by
  intro p q hpq hq
  rw [few_len] at hq
  rw [few_rd h hq, few_rd h (by omega : p < k)]
  exact Int.le_refl _
theorem few_seg (h : Int) {k : Nat} (pl : Nat) (hk : 0 < k) : segs (fewF h k) pl k (k - 0) 0 = [(0, k)] := by
  rw [segs_cons hk]
  have e : segEnd (fewF h k) pl k 0 = k := by
    obtain ⟨s1, s2, s3, s4⟩ := segEnd_spec (fewF h k) pl hk
    rcases s4 with s4 | s4
    · exact s4
    · rcases Nat.lt_or_ge (segEnd (fewF h k) pl k 0) k with h1 | h1
      · exact absurd (by rw [few_rd h h1, few_rd h hk]) s4
      · omega
  rw [e, segs_nil (Nat.le_refl _)]
theorem few_chain (h : Int) {k : Nat} (hk : 4 < k) : ∀ (m lev : Nat) (key : Int) (a : Nat), lev + m = 32 →
    (treeF (fewF h k) (m + 1) lev key 0 k a).length = m + 1 ∧ rd (treeF (fewF h k) (m + 1) lev key 0 k a) m 0 = 32 ∧ rd (treeF (fewF h k) (m + 1) lev key 0 k a) m 1 = (if m = 0 then key else h) ∧
    rd (treeF (fewF h k) (m + 1) lev key 0 k a) m 2 = 0 ∧ rd (treeF (fewF h k) (m + 1) lev key 0 k a) m 3 = k ∧ rd (treeF (fewF h k) (m + 1) lev key 0 k a) 0 1 = key
  | 0, lev, key, a, hl => by
    have hl' : lev = 32 := by omega
    subst hl'
    simp only [treeF]
    rw [if_pos (by omega)]
    exact ⟨rfl, rfl, rfl, rfl, rfl, rfl⟩
  | m + 1, lev, key, a, hl => by
    rw [show m + 1 + 1 = (m + 1) + 1 from rfl]
    have hsub := few_chain h hk m (lev + 1) (kp (fewF h k) (62 - 2 * lev) 0) (a + 1) (by omega)
    have e : treeF (fewF h k) (m + 1 + 1) lev key 0 k a = ([(lev : Int), key, ((0 : Nat) : Int), (k : Int)] ++ ksF (treeF (fewF h k) (m + 1)) (fewF h k) lev (62 - 2 * lev) (segs (fewF h k) (62 - 2 * lev) k (k - 0) 0) (a + 1) [-1, -1, -1, -1]) ::
        treeF (fewF h k) (m + 1) (lev + 1) (kp (fewF h k) (62 - 2 * lev) 0) 0 k (a + 1) := by
      rw [treeF, if_neg (by omega), few_seg h _ (by omega)]
      simp only [kidsF, List.append_nil]
    rw [e]
    obtain ⟨h1, h2, h3, h4, h5, h6⟩ := hsub
    have hr : ∀ (x : List Int) (l : List (List Int)) (j : Nat), rd (x :: l) (m + 1) j = rd l m j := fun x l j => rfl
    refine ⟨by simp only [List.length_cons, h1], by rw [hr]; exact h2, ?_, by rw [hr]; exact h4, by rw [hr]; exact h5, rfl⟩
    rw [hr, h3, if_neg (by omega : ¬ m + 1 = 0)]
    split
    · rename_i hm
      subst hm
      have : 62 - 2 * lev = 0 := by omega
      rw [this]
      unfold kp
      rw [few_rd h (by omega), shr_ediv]
      simp
    · rfl

theorem loop9 (N : Know) (n0 : Nat) : LoopOk (envOf Try.prog N 0) 9 n0 0 (lp Try.prog 9 0) L9 := by
  rintro st K ⟨⟨rfl, hst, h0, h8⟩, hK⟩
  generalize st.x 0 = xa at *
  generalize st.i 2 = h at *
  generalize st.i 7 = c at *
  subst hst
  refine loop_of (fun i : Int => S9 xa (fewF h i.toNat) h c i) (fun i => 0 ≤ i ∧ i ≤ c) (fun i => (c - i).toNat) ?_ (a := 0) ⟨by simp, h0⟩
  rintro i ⟨a1, a2⟩ k hn hk
  show round _ _ _ _ _ (S9 _ _ _ _ i) k
  rw [r9, br_dec]
  constructor
  · intro hi
    have e0 : (List.replicate (1 : Nat) (List.replicate (2 : Nat) (0 : Int))).set (0 : Nat) [h, i] = [[h, i]] := rfl
    rw [e0, i64_in (i + 1) (by omega)]
    refine ⟨by rw [few_len]; simp; omega, ?_⟩
    have := hn (i + 1) ⟨by omega, by omega⟩ (by omega)
    rw [show (i + 1).toNat = i.toNat + 1 by omega, few_step, show ((i.toNat : Nat) : Int) = i by omega] at this
    exact this
  · intro hi
    have e : i = c := by omega
    subst e
    exact hk _ _ (by simp) hK

def preFew (l : List IV) (bs : List Blk) : Prop := ∃ n xa h, l = [.int .u8 n, .sl 0, .int .u64 h] ∧ bs = [.ro [.u64] xa] ∧ 0 ≤ n ∧ n ≤ 255 ∧ 0 ≤ h ∧ h ≤ 18446744073709551615
def spFew : Vs.Spec := ⟨preFew, fun _ _ => (.bool true, [])⟩
theorem c9 : Contract Try.prog 9 spFew := by
  refine contract_of 1 ⟨mixedOrders, fun g sp h => ctrs8 h, ?_, fun g G h => (by cases h)⟩ (N := N9) ?_
  · intro d' hd f i S n0 hS
    have : d' = 0 := by omega
    subst this
    simp only [N9] at hS
    split at hS
    · rename_i hf
      subst hf
      split at hS
      · rename_i hi; subst hi; cases hS; exact loop9 N9 n0
      · cases hS
    · cases hS
  · rintro l bs _ _ ⟨n, xa, h, rfl, rfl, hn0, hn1, hh0, hh1⟩
    rw [v9, i64_in n (by omega)]
    have hmod : n.tmod 9 = n % 9 := Int.tmod_eq_emod_of_nonneg hn0
    rw [hmod]
    obtain ⟨k, hk⟩ : ∃ k : Nat, n % 9 = k := ⟨(n % 9).toNat, by omega⟩
    rw [hk, Int.toNat_natCast]
    have hk8 : k ≤ 8 := by omega
    have hki : keysIn (fewF h k) := by
      intro i
      rcases Nat.lt_or_ge i k with hi | hi
      · rw [few_rd h hi]; omega
      · have e : rd (fewF h k) i 0 = 0 := by simp [rd, List.getD, fewF, List.getElem?_eq_none, hi]
        rw [e]; decide
    refine ⟨by decide, ⟨rfl, rfl, by omega, by omega⟩, ⟨_, rfl, rfl, by rw [few_len]; omega, hki⟩, ?_⟩
    have hne : k ≠ 0 → fewF h k ≠ [] := by
      intro h0 h1
      have := congrArg List.length h1
      rw [few_len] at this
      exact h0 this
    rw [br_bool, br_dec]
    refine ⟨fun h0 => ?_, fun h0 => ⟨fun h4 => ?_, fun h4 => ?_⟩⟩
    · have h1 : k = 0 := by
        have : (k : Int) = 0 := by simpa using h0
        omega
      subst h1
      have e : buildF (fewF h 0) = [] := buildF_nil
      rw [e]
      exact ⟨⟨rfl, rfl⟩, rfl⟩
    · have h1 : k ≠ 0 := by rintro rfl; simp at h0
      have e : (buildF (fewF h k)).length = 1 := by
        rw [buildF_tree (hne h1) (few_rises h k), few_len]
        simp only [treeF]
        rw [if_pos (by omega)]
        rfl
      rw [e]
      exact ⟨⟨rfl, rfl⟩, rfl⟩
    · have h1 : k ≠ 0 := by omega
      obtain ⟨c1, c2, c3, c4, c5, c6⟩ := few_chain h (k := k) (by omega) 32 0 0 0 rfl
      have eT : buildF (fewF h k) = treeF (fewF h k) (32 + 1) 0 0 0 k 0 := by rw [buildF_tree (hne h1) (few_rises h k), few_len]
      rw [eT, c1, c2, c3, c4, c5, c6]
      simp only [if_neg (show ¬ (32 : Nat) = 0 by omega), beq_self_eq_true]
      refine ⟨by decide, by decide, ?_⟩
      refine ⟨by decide, by decide, ?_⟩
      refine ⟨by decide, by decide, ?_⟩
      refine ⟨by decide, by decide, ?_⟩
      refine ⟨by decide, by decide, ?_⟩
      exact ⟨⟨rfl, rfl⟩, rfl⟩
end Go.Vs.R1
