import Derived.Test.YtbgleobdhjghlaaR1F18
set_option linter.unusedVariables false
set_option linter.unusedSimpArgs false
/- TreeLeaves -/
namespace Go.Vs.R1
open Go Go.Proofs Go.Vs Go.IntWalk

/-- a list lies in another, from a place on -/
structure At (ts T : List (List Int)) (a : Nat) : Prop where
  len : a + T.length ≤ ts.length
  get : ∀ j, j < T.length → ∀ c, rd ts (a + j) c = rd T j c
theorem At.left {ts A B : List (List Int)} {a : Nat} (h : At ts (A ++ B) a) : At ts A a := by
  refine ⟨by have := h.len; rw [List.length_append] at this; omega, fun j hj c => ?_⟩
  rw [h.get j (by rw [List.length_append]; omega)]
  simp [rd, List.getD, List.getElem?_append_left hj]
theorem At.right {ts A B : List (List Int)} {a : Nat} (h : At ts (A ++ B) a) : At ts B (a + A.length) := by
  refine ⟨by have := h.len; rw [List.length_append] at this; omega, fun j hj c => ?_⟩
  rw [Nat.add_assoc, h.get (A.length + j) (by rw [List.length_append]; omega)]
  simp [rd, List.getD, List.getElem?_append_right]
theorem At.tail {ts B : List (List Int)} {x : List Int} {a : Nat} (h : At ts (x :: B) a) : At ts B (a + 1) := At.right (A := [x]) h
theorem At.head {ts B : List (List Int)} {x : List Int} {a : Nat} (h : At ts (x :: B) a) (c : Nat) : rd ts a c = x.getD c 0 := h.get 0 (by simp) c

/-- how many leaves of some nodes have a body -/
def lcnt (ts : List (List Int)) (b a m : Nat) : Nat := (List.range m).countP fun j => isLeaf ts b (a + j)
theorem lcnt_zero (ts : List (List Int)) (b a : Nat) : lcnt ts b a 0 = 0 := rfl
theorem lcnt_add (ts : List (List Int)) (b a m n : Nat) : lcnt ts b a (m + n) = lcnt ts b a m + lcnt ts b (a + m) n := by
  unfold lcnt
  rw [List.range_add, List.countP_append, List.countP_map]
  congr 1
  apply List.countP_congr
  intro j _
  simp [Nat.add_assoc]
theorem lcnt_one (ts : List (List Int)) (b a : Nat) : lcnt ts b a 1 = if isLeaf ts b a then 1 else 0 := by
  unfold lcnt
  simp [List.range_succ, List.countP_append, List.countP_singleton]

theorem ksF_other {F : SubT} {xs : List (List Int)} {lev pl q : Nat} {d : Int} : ∀ {ss : List (Nat × Nat)} {a : Nat} {ks : List Int}, (∀ p ∈ ss, kq xs pl p.1 ≠ q) → (ksF F xs lev pl ss a ks).getD q d = ks.getD q d
  | [], a, ks, h => rfl
  | (f, t) :: ss, a, ks, h => by
    simp only [ksF]
    rw [ksF_other (fun p hp => h p (List.mem_cons_of_mem _ hp))]
    have := h (f, t) (List.mem_cons_self ..)
    simp only [List.getD, List.getElem?_set_ne this]
theorem ksF_congr {F : SubT} {xs : List (List Int)} {lev pl q : Nat} {d : Int} : ∀ {ss : List (Nat × Nat)} {a : Nat} {ks ks' : List Int}, ks.length = ks'.length → ks.getD q d = ks'.getD q d →
    (ksF F xs lev pl ss a ks).getD q d = (ksF F xs lev pl ss a ks').getD q d
  | [], a, ks, ks', hl, h => h
  | (f, t) :: ss, a, ks, ks', hl, h => by
    simp only [ksF]
    refine ksF_congr (by simpa using hl) ?_
    by_cases e : kq xs pl f = q
    · simp only [e, List.getD, List.getElem?_set_self']
      by_cases hq : q < ks.length
      · have hq' : q < ks'.length := by omega
        simp [hq, hq']
      · have hq' : ¬ q < ks'.length := by omega
        simp [hq, hq']
    · simp only [List.getD, List.getElem?_set_ne e] at h ⊢
      exact h

structure Good (ts : List (List Int)) (len lev fr to a m : Nat) : Prop where
  r0 : rd ts a 0 = lev
  r2 : rd ts a 2 = fr
  r3 : rd ts a 3 = to
  ok : ∀ j, a ≤ j → j < a + m → nodeOk ts len j
  lcnt : ∀ b, lcnt ts b a m = if fr ≤ b ∧ b < to then 1 else 0

/-- a node's kids, walked through as far as quarter q -/
structure Walk (ts xs : List (List Int)) (F : SubT) (lev fr to a K : Nat) (KS : List Int) (q f a' : Nat) : Prop where
  lo : fr ≤ f
  hi : f ≤ to
  la : a + 1 ≤ a'
  from_ : wFrom ts a q = f
  kids : wKids ts a q = 0 ↔ f = fr
  rest : ∀ j, f ≤ j → j < to → (q : Int) ≤ qrt (rd xs j 0) lev
  at_ : At ts (kidsF F xs lev (62 - 2 * lev) (segs xs (62 - 2 * lev) to (to - f) f) a') a'
  ks : ∀ q', q ≤ q' → q' < 4 → KS.getD q' 0 = (ksF F xs lev (62 - 2 * lev) (segs xs (62 - 2 * lev) to (to - f) f) a' [-1, -1, -1, -1]).getD q' 0
  kidok : ∀ q', q' < q → kidOk ts a q'
  ok : ∀ j, a + 1 ≤ j → j < a' → nodeOk ts xs.length j
  lcnt : ∀ b, lcnt ts b (a + 1) (a' - (a + 1)) = if fr ≤ b ∧ b < f then 1 else 0
  sum : a' + (kidsF F xs lev (62 - 2 * lev) (segs xs (62 - 2 * lev) to (to - f) f) a').length = a + 1 + K

theorem kq_qrt {xs : List (List Int)} {lev f : Nat} (h : lev ≤ 31) : (kq xs (62 - 2 * lev) f : Int) = qrt (rd xs f 0) lev := by
  rw [qrt_eq h]
  unfold kq
  omega

theorem walk_step {ts xs : List (List Int)} {n lev fr to a K : Nat} {key : Int} {KS : List Int} (hpart : Part xs lev fr to) (hrow : ∀ q, q < 4 → rd ts a (4 + q) = KS.getD q 0) (hr0 : rd ts a 0 = lev)
    (ih : ∀ f t a', At ts (treeF xs (n + 1) (lev + 1) (kp xs (62 - 2 * lev) f) f t a') a' → f < t → t ≤ to → fr ≤ f → oneP xs (lev + 1) f t → Good ts xs.length (lev + 1) f t a' (treeF xs (n + 1) (lev + 1) (kp xs (62 - 2 * lev) f) f t a').length)
    {q f a' : Nat} (hq : q < 4) (w : Walk ts xs (treeF xs (n + 1)) lev fr to a K KS q f a') : ∃ f2 a2, Walk ts xs (treeF xs (n + 1)) lev fr to a K KS (q + 1) f2 a2 := by
  by_cases hc : f < to ∧ qrt (rd xs f 0) lev = q
  · obtain ⟨hft, hqf⟩ := hc
    obtain ⟨s1, s2, s3, s4⟩ := segEnd_spec xs (62 - 2 * lev) hft
    have hat := w.at_
    have hks := w.ks
    have hsum := w.sum
    rw [segs_cons hft] at hat hks hsum
    simp only [kidsF, ksF] at hat hks hsum
    have hone : oneP xs (lev + 1) f (segEnd xs (62 - 2 * lev) to f) := by
      intro i j h1 h2 h3 h4
      rw [show 64 - 2 * (lev + 1) = 62 - 2 * lev by omega, s3 i h1 h2, s3 j h3 h4]
    have hg := ih f (segEnd xs (62 - 2 * lev) to f) a' hat.left s1 s2 w.lo hone
    generalize hT : treeF xs (n + 1) (lev + 1) (kp xs (62 - 2 * lev) f) f (segEnd xs (62 - 2 * lev) to f) a' = T at *
    have hTpos : 0 < T.length := by rw [← hT]; exact tree_pos _ _ _ _ _ _ _
    have hkq : kq xs (62 - 2 * lev) f = q := by have := kq_qrt (xs := xs) (f := f) hpart.lv; omega
    rw [hkq] at hks
    have hup : ∀ j, segEnd xs (62 - 2 * lev) to f ≤ j → j < to → ((q + 1 : Nat) : Int) ≤ qrt (rd xs j 0) lev := by
      intro j hj1 hj2
      have hge := w.rest (segEnd xs (62 - 2 * lev) to f) (by omega) (by omega)
      have hu := hpart.up (i := segEnd xs (62 - 2 * lev) to f) (by have := w.lo; omega) hj1 hj2
      have hne : qrt (rd xs (segEnd xs (62 - 2 * lev) to f) 0) lev ≠ q := by
        rcases s4 with s4 | s4
        · omega
        · intro h5
          apply s4
          rw [hpart.same (by have := w.lo; omega) (by omega) w.lo hft, h5, hqf]
      omega
    have hothers : ∀ p ∈ segs xs (62 - 2 * lev) to (to - segEnd xs (62 - 2 * lev) to f) (segEnd xs (62 - 2 * lev) to f), kq xs (62 - 2 * lev) p.1 ≠ q := by
      intro p hp
      obtain ⟨m1, m2, _⟩ := segs_mem hp
      have h1 := hup p.1 m1 m2
      have h2 := kq_qrt (xs := xs) (f := p.1) hpart.lv
      omega
    have hkid : rd ts a (4 + q) = (a' : Int) := by
      rw [hrow q hq, hks q (Nat.le_refl _) hq, ksF_other hothers]
      have : q = 0 ∨ q = 1 ∨ q = 2 ∨ q = 3 := by omega
      rcases this with rfl | rfl | rfl | rfl <;> rfl
    have hneg : ¬ rd ts a (4 + q) < 0 := by rw [hkid]; omega
    have hlen := hat.len
    rw [List.length_append] at hlen
    refine ⟨segEnd xs (62 - 2 * lev) to f, a' + T.length, by have := w.lo; omega, s2, by have := w.la; omega, ?_, ?_, hup, hat.right, ?_, ?_, ?_, ?_, ?_⟩
    · simp only [wFrom]
      rw [if_neg hneg, hkid, Int.toNat_natCast, hg.r3]
    · simp only [wKids]
      rw [if_neg hneg]
      have := wKids_range ts a q
      have := w.lo
      constructor <;> intro h <;> omega
    · intro q' h1 h2
      rw [hks q' (by omega) h2]
      refine ksF_congr (by simp) ?_
      have hne : q ≠ q' := by omega
      simp only [List.getD, List.getElem?_set_ne hne]
    · intro q' hq'
      rcases Nat.eq_or_lt_of_le (Nat.le_of_lt_succ hq') with rfl | hlt
      · refine .inr ⟨?_, ?_, ?_, ?_⟩
        · rw [hkid]; have := w.la; omega
        · rw [hkid]; omega
        · rw [hkid, Int.toNat_natCast, hg.r2, w.from_]
        · rw [hkid, Int.toNat_natCast, hg.r0, hr0]; push_cast; rfl
      · exact w.kidok q' hlt
    · intro j h1 h2
      rcases Nat.lt_or_ge j a' with h3 | h3
      · exact w.ok j h1 h3
      · exact hg.ok j h3 h2
    · intro b
      have hla := w.la
      have h1 := w.lcnt b
      have h2 := hg.lcnt b
      rw [show a' + T.length - (a + 1) = (a' - (a + 1)) + T.length by omega, lcnt_add, show a + 1 + (a' - (a + 1)) = a' by omega, h1, h2]
      have := w.lo
      by_cases c1 : fr ≤ b ∧ b < f
      · rw [if_pos c1, if_neg (by omega), if_pos (by omega)]
      · rw [if_neg c1]
        by_cases c2 : f ≤ b ∧ b < segEnd xs (62 - 2 * lev) to f
        · rw [if_pos c2, if_pos (by omega)]
        · rw [if_neg c2, if_neg (by omega)]
    · rw [List.length_append] at hsum
      omega
  · have hothers : ∀ p ∈ segs xs (62 - 2 * lev) to (to - f) f, kq xs (62 - 2 * lev) p.1 ≠ q := by
      intro p hp
      obtain ⟨m1, m2, _⟩ := segs_mem hp
      have h1 := w.rest f (Nat.le_refl _) (by omega)
      have h2 := kq_qrt (xs := xs) (f := p.1) hpart.lv
      have h3 := hpart.up w.lo m1 m2
      have h4 : qrt (rd xs f 0) lev ≠ q := fun h => hc ⟨by omega, h⟩
      omega
    have hkid : rd ts a (4 + q) = -1 := by
      rw [hrow q hq, w.ks q (Nat.le_refl _) hq, ksF_other hothers]
      have : q = 0 ∨ q = 1 ∨ q = 2 ∨ q = 3 := by omega
      rcases this with rfl | rfl | rfl | rfl <;> rfl
    have hneg : rd ts a (4 + q) < 0 := by rw [hkid]; decide
    refine ⟨f, a', w.lo, w.hi, w.la, ?_, ?_, ?_, w.at_, fun q' h1 h2 => w.ks q' (by omega) h2, ?_, w.ok, w.lcnt, w.sum⟩
    · simp only [wFrom]
      rw [if_pos hneg]
      exact w.from_
    · simp only [wKids]
      rw [if_pos hneg]
      exact w.kids
    · intro j hj1 hj2
      have h1 := w.rest f (Nat.le_refl _) (by omega)
      have h3 := hpart.up w.lo hj1 hj2
      have h4 : qrt (rd xs f 0) lev ≠ q := fun h => hc ⟨by omega, h⟩
      omega
    · intro q' hq'
      rcases Nat.eq_or_lt_of_le (Nat.le_of_lt_succ hq') with rfl | hlt
      · exact .inl hneg
      · exact w.kidok q' hlt

theorem leaves {ts xs : List (List Int)} (hR : Rises xs) : ∀ (n lev : Nat) (key : Int) (fr to a : Nat), At ts (treeF xs (n + 1) lev key fr to a) a → fr < to → to ≤ xs.length → lev + n = 32 → oneP xs lev fr to →
    Good ts xs.length lev fr to a (treeF xs (n + 1) lev key fr to a).length := by
  intro n
  induction n with
  | zero =>
    intro lev key fr to a hat h1 h2 h3 hone
    have hl : lev = 32 := by omega
    subst hl
    have e : treeF xs (0 + 1) 32 key fr to a = [[((32 : Nat) : Int), key, (fr : Int), (to : Int), -1, -1, -1, -1]] := by
      simp only [treeF]; rw [if_pos (by omega)]
    rw [e] at hat ⊢
    have hd := hat.head
    have d0 : rd ts a 0 = 32 := by rw [hd]; rfl
    have d2 : rd ts a 2 = fr := by rw [hd]; rfl
    have d3 : rd ts a 3 = to := by rw [hd]; rfl
    have dk : ∀ q, q < 4 → rd ts a (4 + q) = -1 := by
      intro q hq
      have : q = 0 ∨ q = 1 ∨ q = 2 ∨ q = 3 := by omega
      rcases this with rfl | rfl | rfl | rfl <;> (rw [hd]; rfl)
    have hw : wKids ts a 4 = 0 := by simp [wKids, dk 0 (by omega), dk 1 (by omega), dk 2 (by omega), dk 3 (by omega)]
    refine ⟨by rw [d0]; rfl, d2, d3, ?_, ?_⟩
    · intro j hj1 hj2
      simp at hj2
      have : j = a := by omega
      subst this
      refine ⟨by omega, by omega, by omega, by omega, by omega, fun q hq => .inl (by rw [dk q hq]; decide), .inl ⟨hw, by omega⟩⟩
    · intro b
      rw [List.length_singleton, lcnt_one]
      unfold isLeaf
      rw [hw, d2, d3]
      by_cases c : fr ≤ b ∧ b < to
      · rw [if_pos c, if_pos (by simp; omega)]
      · rw [if_neg c, if_neg (by simp; omega)]
  | succ n ih =>
    intro lev key fr to a hat h1 h2 h3 hone
    by_cases hc : to - fr ≤ 4
    · have e : treeF xs (n + 1 + 1) lev key fr to a = [[(lev : Int), key, (fr : Int), (to : Int), -1, -1, -1, -1]] := by
        rw [treeF]; rw [if_pos (.inl hc)]
      rw [e] at hat ⊢
      have hd := hat.head
      have d0 : rd ts a 0 = lev := by rw [hd]; rfl
      have d2 : rd ts a 2 = fr := by rw [hd]; rfl
      have d3 : rd ts a 3 = to := by rw [hd]; rfl
      have dk : ∀ q, q < 4 → rd ts a (4 + q) = -1 := by
        intro q hq
        have : q = 0 ∨ q = 1 ∨ q = 2 ∨ q = 3 := by omega
        rcases this with rfl | rfl | rfl | rfl <;> (rw [hd]; rfl)
      have hw : wKids ts a 4 = 0 := by simp [wKids, dk 0 (by omega), dk 1 (by omega), dk 2 (by omega), dk 3 (by omega)]
      refine ⟨d0, d2, d3, ?_, ?_⟩
      · intro j hj1 hj2
        simp at hj2
        have : j = a := by omega
        subst this
        refine ⟨by omega, by omega, by omega, by omega, by omega, fun q hq => .inl (by rw [dk q hq]; decide), .inl ⟨hw, by omega⟩⟩
      · intro b
        rw [List.length_singleton, lcnt_one]
        unfold isLeaf
        rw [hw, d2, d3]
        by_cases c : fr ≤ b ∧ b < to
        · rw [if_pos c, if_pos (by simp; omega)]
        · rw [if_neg c, if_neg (by simp; omega)]
    · have e : treeF xs (n + 1 + 1) lev key fr to a = ([(lev : Int), key, (fr : Int), (to : Int)] ++ ksF (treeF xs (n + 1)) xs lev (62 - 2 * lev) (segs xs (62 - 2 * lev) to (to - fr) fr) (a + 1) [-1, -1, -1, -1]) ::
          kidsF (treeF xs (n + 1)) xs lev (62 - 2 * lev) (segs xs (62 - 2 * lev) to (to - fr) fr) (a + 1) := by
        rw [treeF]; rw [if_neg (by omega)]
      rw [e] at hat ⊢
      generalize hKS : ksF (treeF xs (n + 1)) xs lev (62 - 2 * lev) (segs xs (62 - 2 * lev) to (to - fr) fr) (a + 1) [-1, -1, -1, -1] = KS at *
      have hd := hat.head
      have d0 : rd ts a 0 = lev := by rw [hd]; rfl
      have d2 : rd ts a 2 = fr := by rw [hd]; rfl
      have d3 : rd ts a 3 = to := by rw [hd]; rfl
      have hrow : ∀ q, q < 4 → rd ts a (4 + q) = KS.getD q 0 := by
        intro q hq
        rw [hd]
        simp only [List.getD]
        rw [List.getElem?_append_right (by simp)]
        simp
      have hpart : Part xs lev fr to := ⟨by omega, hR, hone, h2⟩
      have w0 : Walk ts xs (treeF xs (n + 1)) lev fr to a (kidsF (treeF xs (n + 1)) xs lev (62 - 2 * lev) (segs xs (62 - 2 * lev) to (to - fr) fr) (a + 1)).length KS 0 fr (a + 1) := by
        refine ⟨Nat.le_refl _, by omega, Nat.le_refl _, by simp only [wFrom]; exact d2, by simp [wKids], fun j _ _ => (qrt_lt _ _).1, hat.tail, fun q' _ _ => by rw [hKS], fun q' h => by omega, fun j hj1 hj2 => by omega, ?_, rfl⟩
        intro b
        rw [Nat.sub_self, lcnt_zero, if_neg (by omega)]
      have step := fun {Kl q f a' : Nat} (hq : q < 4) (w : Walk ts xs (treeF xs (n + 1)) lev fr to a Kl KS q f a') => walk_step (key := key) hpart hrow d0 (fun f t a' hat' hft htt hff hone' => ih (lev + 1) _ f t a' hat' hft (by omega) (by omega) hone') hq w
      obtain ⟨f1, a1, w1⟩ := step (by omega) w0
      obtain ⟨f2, a2, w2⟩ := step (by omega) w1
      obtain ⟨f3, a3, w3⟩ := step (by omega) w2
      obtain ⟨f4, a4, w4⟩ := step (by omega) w3
      have hf4 : f4 = to := by
        rcases Nat.lt_or_ge f4 to with h | h
        · have k1 := w4.rest f4 (Nat.le_refl _) h
          have k2 := (qrt_lt (rd xs f4 0) lev).2
          omega
        · have := w4.hi; omega
      subst hf4
      have hsum := w4.sum
      rw [segs_nil (Nat.le_refl _)] at hsum
      simp only [kidsF, List.length_nil, Nat.add_zero] at hsum
      have hwk : wKids ts a 4 ≠ 0 := fun h => by have := w4.kids.1 h; omega
      refine ⟨d0, d2, d3, ?_, ?_⟩
      · intro j hj1 hj2
        simp only [List.length_cons] at hj2
        rcases Nat.eq_or_lt_of_le hj1 with rfl | hlt
        · refine ⟨by omega, by omega, by omega, by omega, by omega, fun q hq => w4.kidok q hq, .inr ⟨hwk, by rw [w4.from_, d3], by omega⟩⟩
        · exact w4.ok j hlt (by omega)
      · intro b
        rw [List.length_cons, Nat.add_comm, lcnt_add, lcnt_one]
        have hnl : isLeaf ts b a = false := by unfold isLeaf; simp [hwk]
        rw [hnl]
        have := w4.lcnt b
        rw [hsum] at this
        rw [show a + 1 + (kidsF (treeF xs (n + 1)) xs lev (62 - 2 * lev) (segs xs (62 - 2 * lev) f4 (f4 - fr) fr) (a + 1)).length - (a + 1) = (kidsF (treeF xs (n + 1)) xs lev (62 - 2 * lev) (segs xs (62 - 2 * lev) f4 (f4 - fr) fr) (a + 1)).length by omega] at this
        rw [this]
        simp

theorem build_good {xs : List (List Int)} (hne : xs ≠ []) (hR : Rises xs) (hk : keysIn xs) : Good (buildF xs) xs.length 0 0 xs.length 0 (buildF xs).length := by
  rw [buildF_tree hne hR]
  refine leaves hR 32 0 0 0 xs.length 0 ⟨by rw [Nat.zero_add]; exact Nat.le_refl _, fun j _ c => by rw [Nat.zero_add]⟩ (List.length_pos_iff.2 hne) (Nat.le_refl _) rfl ?_
  intro i j _ _ _ _
  have h4 := hk i
  have h5 := hk j
  show shr (rd xs i 0) 64 = shr (rd xs j 0) 64
  rw [shr_ediv, shr_ediv, Int.ediv_eq_zero_of_lt h4.1 (by simpa using h4.2), Int.ediv_eq_zero_of_lt h5.1 (by simpa using h5.2)]

theorem cover_all {xs : List (List Int)} (hne : xs ≠ []) (hR : Rises xs) (hk : keysIn xs) : cover (buildF xs) xs.length (buildF xs).length = ones xs.length := by
  have hg := (build_good hne hR hk).lcnt
  apply List.ext_getElem
  · simp [cover, ones]
  · intro j h1 h2
    have hj : j < xs.length := by simpa [cover] using h1
    have := hg j
    rw [if_pos ⟨Nat.zero_le _, hj⟩] at this
    unfold lcnt at this
    simp only [Nat.zero_add] at this
    simp only [cover, ones, List.getElem_map, List.getElem_range, List.getElem_replicate]
    rw [this]
    rfl

theorem c7 : Contract Try.prog 7 spBytesInt := by
  refine contract_of 1 ⟨mixedOrders, fun g sp h => ctrs8 h, ?_, fun g G h => (by cases h)⟩ (N := N7) ?_
  · intro d' hd f i S n0 hS
    have : d' = 0 := by omega
    subst this
    simp only [N7] at hS
    split at hS
    · rename_i hf
      subst hf
      split at hS
      · rename_i hi; subst hi; cases hS; exact loop7 N7 n0
      · split at hS
        · rename_i hi; subst hi; cases hS; exact loop7b n0
        · split at hS
          · rename_i hi; subst hi; cases hS; exact loop7c N7 n0
          · split at hS
            · rename_i hi; subst hi; cases hS; exact loop7d N7 n0
            · split at hS
              · rename_i hi; subst hi; cases hS; exact loop7e N7 n0
              · cases hS
    · cases hS
  · rintro l bs _ _ ⟨xa, h, rfl, rfl, hl⟩
    rw [v7]
    have h100 : (makeF xa).length ≤ 100 := by rw [makeF_len]; omega
    have hx := xorF_len h (makeF xa)
    have h2 := xorF_rows2 h (makeF xa)
    have hS := sortF_sorted h2
    have hsl := hS.len
    have hs : preSort [IV.sl (0 : Nat)] [Blk.ro [IntKind.u64, IntKind.i64] (xorF h (makeF xa))] := ⟨_, rfl, rfl, h2, by omega⟩
    have hki := keysIn_sort h2 (xorF_keys h (makeF xa))
    have hb : preBuild [IV.sl (0 : Nat)] [Blk.ro [IntKind.u64, IntKind.i64] (sortF (xorF h (makeF xa)))] := ⟨_, rfl, rfl, by omega, hki⟩
    have l2 := build_len (xs := sortF (xorF h (makeF xa))) (by omega)
    have hR : Rises (sortF (xorF h (makeF xa))) := hS.up
    generalize hY : sortF (xorF h (makeF xa)) = Y at *
    generalize hX : xorF h (makeF xa) = X at *
    have hnone := build_none hR
    refine ⟨⟨_, rfl, rfl, hl⟩, ⟨rfl, rfl, h100⟩, hs, hb, ?_⟩
    rw [br_bool]
    refine ⟨fun he => ?_, fun he => ?_⟩
    · have h0 : X.length = 0 := by
        have : (X.length : Int) = 0 := by simpa using he
        omega
      have h1 : (buildF Y).length = 0 := by rw [hnone]; omega
      rw [h1]
      exact ⟨⟨rfl, rfl⟩, rfl⟩
    · have hxne : X.length ≠ 0 := by intro h0; rw [h0] at he; simp at he
      have hYne : Y ≠ [] := by intro h0; rw [h0] at hsl; simp at hsl; omega
      have hlen : (buildF Y).length ≠ 0 := by rw [Ne, hnone]; omega
      have hg := build_good hYne hR hki
      have hw : (0 : Int) ≤ 0 ∧ 0 < ((buildF Y).length : Int) := by omega
      rw [hg.r2, hg.r3, hg.r0, hsl, br_bool]
      refine ⟨fun h0 => absurd (by have : ((buildF Y).length : Int) = 0 := by simpa using h0
                                   omega) hlen, fun _ => ⟨hw, hw, ?_⟩⟩
      rw [br_bool]
      refine ⟨fun h0 => by simp at h0, fun _ => ⟨hw, hw, ?_⟩⟩
      rw [br_bool]
      refine ⟨fun h0 => by simp at h0, fun _ => ⟨hw, hw, ?_⟩⟩
      rw [br_bool]
      refine ⟨fun h0 => by simp at h0, fun _ => ⟨⟨by omega, by omega⟩, ⟨rfl, rfl, ?_, by omega, by omega, ?_, rfl⟩, ⟨rfl, rfl, ?_, by rw [cover_len]; omega, rfl⟩, ⟨rfl, rfl⟩, rfl⟩⟩
      · intro j hj
        have := hg.ok j (Nat.zero_le _) (by omega)
        rw [hsl] at this
        exact this
      · simp only [Int.toNat_natCast]
        apply List.ext_getElem
        · simp [cover]
        · intro j h1 h2
          simp [cover]
      · rw [cover_len]
        have := cover_all hYne hR hki
        rw [hsl] at this
        exact this
end Go.Vs.R1
