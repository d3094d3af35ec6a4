/- Vs, part O: a region that draws its order. -/
import Derived.Test.YtbgleobdhjghlaaVsN
set_option linter.unusedVariables false
set_option linter.unusedSimpArgs false
namespace Go.Vs
open Go.RowKit

section
variable {P : Program} {ops : Array Oper} {Q : Exit → Act → World → Prop} {F : World → Prop} {hd : Nat}

/-- Whatever order is drawn; behind each operation of the head F holds. -/
def wpAnyF (P : Program) (ops : Array Oper) (Q : Exit → Act → World → Prop) (F : World → Prop) (hd : Nat) : Nat → Array Bool → Act → World → Prop
  | 0, listed, a, w => Region.ready .any ops listed = [] ∧ Q .normal a w
  | fuel + 1, listed, a, w => (Region.ready .any ops listed = [] → Q .normal a w) ∧
    ∀ i ∈ Region.ready .any ops listed, wpOp P ops Q i (fun a' w' => (i < hd → F w') ∧ wpAnyF P ops Q F hd fuel (listed.setIfInBounds i true) a' w') a w

theorem wpAny_of_F : ∀ (fuel : Nat) (listed : Array Bool) (a : Act) (w : World), wpAnyF P ops Q F hd fuel listed a w → wpAny P .any ops Q fuel listed a w
  | 0, _, _, _, h => h
  | fuel + 1, _, _, _, h => ⟨h.1, fun i hi => wpOp_mono (fun a' w' h' => wpAny_of_F fuel _ a' w' h'.2) (h.2 i hi)⟩

/-- whatever is listed, what it waits for is listed, too -/
def Closed (ops : Array Oper) (listed : Array Bool) : Prop := ∀ (j : Nat) (o : Oper), ops[j]? = some o → listed.getD j false = true → ∀ e ∈ o.after, Region.binds .any e = true → listed.getD e.on false = true
theorem getD_set_mono {l : Array Bool} {i k : Nat} (h : l.getD k false = true) : (l.setIfInBounds i true).getD k false = true := by
  by_cases e : i = k
  · subst e
    rcases Nat.lt_or_ge i l.size with h' | h'
    · simp [Array.getD_eq_getD_getElem?, h']
    · simp [Array.getD_eq_getD_getElem?, Array.getElem?_eq_none h'] at h
  · rw [getD_set_ne false e]; exact h
theorem Closed.step {listed : Array Bool} (h : Closed ops listed) {i : Nat} (hi : i ∈ Region.ready .any ops listed) : Closed ops (listed.setIfInBounds i true) := by
  intro j o hj hl e he hb
  by_cases hij : i = j
  · subst hij
    obtain ⟨_, o', ho', hall⟩ := mem_ready.1 hi
    rw [hj] at ho'
    cases ho'
    exact getD_set_mono (hall e he hb)
  · rw [getD_set_ne false hij] at hl
    exact getD_set_mono (h j o hj hl e he hb)
theorem bit1_spec (i j : Nat) : Nat.testBit (bit1 i) j = decide (i = j) := by
  show Nat.testBit (1 <<< i) j = _
  rw [Nat.one_shiftLeft, Nat.testBit_two_pow]
theorem lor_spec (x y j : Nat) : Nat.testBit (Nat.lor x y) j = (Nat.testBit x j || Nat.testBit y j) := Nat.testBit_or x y j
theorem depMask_spec {ms : List Nat} {i : Nat} : ∀ {l : List Edge} {m : Nat}, Nat.testBit (depMask ms l m) i = true → Nat.testBit m i = true ∨ ∃ e ∈ l, Region.binds .any e = true ∧ (e.on = i ∨ ∃ q, ms[e.on]? = some q ∧ Nat.testBit q i = true)
  | [], m, h => .inl h
  | e :: l, m, h => by
    simp only [depMask] at h
    rcases depMask_spec h with h1 | ⟨e', he', h2⟩
    · split at h1
      · rename_i hb
        rw [lor_spec, lor_spec, Bool.or_eq_true, Bool.or_eq_true, bit1_spec] at h1
        rcases h1 with (h1 | h1) | h1
        · exact .inl h1
        · exact .inr ⟨e, List.mem_cons_self .., hb, .inl (by simpa using h1)⟩
        · rw [nthR_eq] at h1
          cases hq : ms[e.on]? with
          | none => rw [hq] at h1; simp at h1
          | some q => rw [hq] at h1; exact .inr ⟨e, List.mem_cons_self .., hb, .inr ⟨q, hq, h1⟩⟩
      · exact .inl h1
    · exact .inr ⟨e', List.mem_cons_of_mem _ he', h2⟩
/-- each mask tells of what is listed wherever its operation may be -/
def MaskOk (ops : Array Oper) (ms : List Nat) : Prop := ∀ (j : Nat) (q : Nat) (o : Oper), ms[j]? = some q → ops[j]? = some o → ∀ listed, Closed ops listed → (∀ e ∈ o.after, Region.binds .any e = true → listed.getD e.on false = true) → ∀ i, Nat.testBit q i = true → listed.getD i false = true
theorem depMasks_ok {ops : Array Oper} : ∀ {l : List Oper} {ms : List Nat}, l = ops.toList.drop ms.length → MaskOk ops ms → MaskOk ops (depMasks l ms)
  | [], ms, _, h => h
  | o :: l, ms, hl, h => by
    simp only [depMasks]
    have ho : ops[ms.length]? = some o := by
      have h1 : (ops.toList.drop ms.length)[0]? = some o := by rw [← hl]; rfl
      rw [List.getElem?_drop] at h1
      simpa using h1
    refine depMasks_ok (ms := ms ++ [depMask ms o.after.toList 0]) ?_ ?_
    · have h1 := congrArg (List.drop 1) hl
      rw [List.drop_drop] at h1
      simpa using h1
    · intro j q o' hj ho' listed hc hall i hi
      rw [List.getElem?_append] at hj
      split at hj
      · exact h j q o' hj ho' listed hc hall i hi
      · rename_i hge
        have hlt := (List.getElem?_eq_some_iff.1 hj).1
        have hj0 : j = ms.length := by simp at hlt; omega
        subst hj0
        rw [ho] at ho'
        cases ho'
        simp at hj
        subst hj
        rcases depMask_spec hi with h1 | ⟨e, he, hb, h2⟩
        · simp at h1
        · have hl2 := hall e (by simpa using he) hb
          rcases h2 with h2 | ⟨q', hq', hbit⟩
          · rw [← h2]; exact hl2
          · have hlt2 := (List.getElem?_eq_some_iff.1 hq').1
            have hsz : e.on < ops.size := by
              have h3 : ms.length < ops.size := (Array.getElem?_eq_some_iff.1 ho).1
              omega
            have hoe : ops[e.on]? = some ops[e.on] := by simp [hsz]
            exact h e.on q' _ hq' hoe listed hc (hc e.on _ hoe hl2) i hbit
theorem depMasks_length : ∀ (l : List Oper) (ms : List Nat), (depMasks l ms).length = ms.length + l.length
  | [], ms => rfl
  | o :: l, ms => by simp [depMasks, depMasks_length l]; omega
theorem sinkGo_spec {need : Nat} : ∀ {l : List Nat}, sinkGo need l = true → ∀ m ∈ l, Nat.land m need = need
  | [], _, m, hm => by cases hm
  | x :: l, h, m, hm => by
    simp only [sinkGo, Bool.and_eq_true] at h
    rcases List.mem_cons.1 hm with rfl | hm
    · exact Nat.eq_of_beq_eq_true h.1
    · exact sinkGo_spec h.2 m hm
theorem sink_listed (hs : sinkOk ops hd = true) {listed : Array Bool} (hc : Closed ops listed) {i j : Nat} {oj : Oper} (hj : ops[j]? = some oj) (hall : ∀ e ∈ oj.after, Region.binds .any e = true → listed.getD e.on false = true) (hjd : hd ≤ j) (hi : i < hd) :
    listed.getD i false = true := by
  unfold sinkOk at hs
  have hlt : j < ops.size := (Array.getElem?_eq_some_iff.1 hj).1
  have hok : MaskOk ops (depMasks ops.toList []) := depMasks_ok (by simp) (by intro j q o hq; simp at hq)
  have hlen : (depMasks ops.toList []).length = ops.size := by rw [depMasks_length]; simp
  have hq : (depMasks ops.toList [])[j]? = some (depMasks ops.toList [])[j] := by simp [hlen, hlt]
  have hmem : (depMasks ops.toList [])[j] ∈ (depMasks ops.toList []).drop hd := by
    refine List.mem_of_getElem? (i := j - hd) ?_
    rw [List.getElem?_drop, show hd + (j - hd) = j by omega]
    exact hq
  have h1 := sinkGo_spec hs _ hmem
  refine hok j _ oj hq hj listed hc hall i ?_
  have h2 : Nat.testBit (Nat.sub (Nat.pow 2 hd) 1) i = true := by
    show Nat.testBit (2 ^ hd - 1) i = true
    rw [Nat.testBit_two_pow_sub_one]
    simp [hi]
  rw [← h1] at h2
  have h3 : Nat.testBit (Nat.land (depMasks ops.toList [])[j] (Nat.sub (Nat.pow 2 hd) 1)) i = (Nat.testBit (depMasks ops.toList [])[j] i && Nat.testBit (Nat.sub (Nat.pow 2 hd) 1) i) := Nat.testBit_and ..
  rw [h3, Bool.and_eq_true] at h2
  exact h2.1

/-- An operation of the head that is at hand, and yields its value wherever F holds, may be taken first. -/
theorem wpAnyF_first {i : Nat} {oi : Oper} {v : Value} (hi : ops[i]? = some oi) (hsel : ∀ (j : Nat) (o : Oper) cs b, ops[j]? = some o → o.op ≠ .select cs b)
    (hQ : ∀ c a w, Q (.panic c) (a.put oi.dst v) w → Q (.panic c) a w) (hs : sinkOk ops hd = true) (hih : i < hd) :
    ∀ (fuel : Nat) (listed : Array Bool) (a : Act) (w : World), Closed ops listed →
      (∀ j oj, ops[j]? = some oj → j ≠ i → listed.getD j true = false → (∀ e ∈ oj.after, Region.binds .any e = true → e.on ≠ i) → oi.apart ops oj = true) →
      i ∈ Region.ready .any ops listed → YieldsIf P ops F oi v a → F w →
      wpAnyF P ops Q F hd fuel (listed.setIfInBounds i true) (a.put oi.dst v) w → wpAnyF P ops Q F hd (fuel + 1) listed a w := by
  intro fuel
  induction fuel with
  | zero =>
    intro listed a w _ _ hr hy hF H
    refine ⟨fun h0 => (by rw [h0] at hr; cases hr), fun j hj => ?_⟩
    by_cases hji : j = i
    · subst hji
      exact hy.wpOp hi hF ⟨fun _ => hF, H⟩
    · have h1 := ready_mono hj hji
      rw [H.1] at h1
      cases h1
  | succ fuel ih =>
    intro listed a w hcl hfree hr hy hF H
    refine ⟨fun h0 => (by rw [h0] at hr; cases hr), fun j hj => ?_⟩
    by_cases hji : j = i
    · subst hji
      exact hy.wpOp hi hF ⟨fun _ => hF, H⟩
    · have hnext := H.2 j (ready_mono hj hji)
      obtain ⟨hun, oj, hoj, hall⟩ := mem_ready.1 hj
      have hi0 := (mem_ready.1 hr).1
      have hiF : listed.getD i false = false := by
        rcases Nat.lt_or_ge i listed.size with h' | h'
        · simp [h'] at hi0 ⊢; exact hi0
        · simp [Array.getElem?_eq_none h']
      have hno : ∀ e ∈ oj.after, Region.binds .any e = true → e.on ≠ i := fun e he hb heq => by
        have h1 := hall e he hb
        rw [heq, hiF] at h1
        cases h1
      have hjh : j < hd := by
        rcases Nat.lt_or_ge j hd with h' | h'
        · exact h'
        · have h9 := sink_listed hs hcl hoj hall h' hih
          rw [hiF] at h9
          cases h9
      have hcomm := wpOp_putIf hoj (hfree j oj hoj hji hun hno) (fun cs b => hsel i oi cs b hi) (fun cs b => hsel j oj cs b hoj) hQ hy hnext
      refine wpOp_mono (fun a' w' h3 => ⟨h3.2.1, ?_⟩) hcomm
      refine ih (listed.setIfInBounds j true) a' w' (hcl.step hj) ?_ (ready_mono hr (Ne.symm hji)) h3.1 (h3.2.1 hjh) ?_
      · intro k ok hok hki hunk hnok
        refine hfree k ok hok hki ?_ hnok
        by_cases hjk : j = k
        · subst hjk; exact hun
        · rw [getD_set_ne true hjk] at hunk; exact hunk
      · rw [Array.setIfInBounds_comm _ _ hji]
        exact h3.2.2

end

mutual
theorem Rep.det {β : Asg} : ∀ {v : IV} {u u' : Value}, kn v = true → Rep β v u → Rep β v u' → u = u'
  | .int k n, u, u', _, h, h' => by rw [h.int_inv.1, h'.int_inv.1]
  | .bool b, u, u', _, h, h' => by rw [h.bool_inv, h'.bool_inv]
  | .nilp, u, u', _, h, h' => by cases h; cases h'; rfl
  | .nils, u, u', _, h, h' => by rw [h.nils_inv, h'.nils_inv]
  | .nilf, u, u', _, h, h' => by cases h; cases h'; rfl
  | .unk, u, u', hk, _, _ => by simp [kn] at hk
  | .fn f cs, u, u', hk, h, h' => by
    obtain ⟨xs, rfl, hl, hr⟩ := h.fn_inv
    obtain ⟨ys, rfl, hl', hr'⟩ := h'.fn_inv
    have := RepL.det (cs := cs) (xs := xs.toList) (ys := ys.toList) (by simpa [kn] using hk) (by simpa using hl) (by simpa using hl') (by simpa using hr) (by simpa using hr')
    rw [show xs = ys from Array.ext' this]
  | .ptr b o, u, u', _, h, h' => by
    obtain ⟨id, rfl, h1⟩ := h.ptr_inv
    obtain ⟨id', rfl, h2⟩ := h'.ptr_inv
    rw [h1] at h2; cases h2; rfl
  | .pdyn b o i, u, u', _, h, h' => by
    cases h; cases h'
    rename_i h1 _ h2
    rw [h1] at h2; cases h2; rfl
  | .prow b i sz f, u, u', _, h, h' => by
    obtain ⟨g, o, n, c, rfl, h1⟩ := h.prow_inv
    obtain ⟨g', o', n', c', rfl, h2⟩ := h'.prow_inv
    rw [h1] at h2; cases h2; rfl
  | .prowd b i sz f j, u, u', _, h, h' => by
    cases h; cases h'
    rename_i h1 _ _ _ _ h2
    rw [h1] at h2; cases h2; rfl
  | .sl b, u, u', _, h, h' => Rep.det_sl h h'
  | .agg cs, u, u', hk, h, h' => by
    obtain ⟨xs, rfl, hl, _, hr⟩ := h.agg_inv
    obtain ⟨ys, rfl, hl', _, hr'⟩ := h'.agg_inv
    have := RepL.det (cs := cs) (xs := xs.toList) (ys := ys.toList) (by simpa [kn] using hk) (by simpa using hl) (by simpa using hl') (by simpa using hr) (by simpa using hr')
    rw [show xs = ys from Array.ext' this]
  | .tup cs, u, u', hk, h, h' => by
    obtain ⟨xs, rfl, hl, hr⟩ := h.tup_inv
    obtain ⟨ys, rfl, hl', hr'⟩ := h'.tup_inv
    have := RepL.det (cs := cs) (xs := xs.toList) (ys := ys.toList) (by simpa [kn] using hk) (by simpa using hl) (by simpa using hl') (by simpa using hr) (by simpa using hr')
    rw [show xs = ys from Array.ext' this]
theorem RepL.det {β : Asg} : ∀ {cs : List IV} {xs ys : List Value}, knL cs = true → cs.length = xs.length → cs.length = ys.length → (∀ (i : Nat) c v, cs[i]? = some c → xs[i]? = some v → Rep β c v) →
    (∀ (i : Nat) c v, cs[i]? = some c → ys[i]? = some v → Rep β c v) → xs = ys
  | [], xs, ys, _, h1, h2, _, _ => by
    rw [List.eq_nil_of_length_eq_zero h1.symm, List.eq_nil_of_length_eq_zero h2.symm]
  | c :: cs, [], _, _, h1, _, _, _ => by simp at h1
  | c :: cs, _ :: _, [], _, _, h2, _, _ => by simp at h2
  | c :: cs, x :: xs, y :: ys, hk, h1, h2, hr, hr' => by
    simp only [knL, Bool.and_eq_true] at hk
    have e0 := Rep.det hk.1 (hr 0 c x rfl rfl) (hr' 0 c y rfl rfl)
    have e1 := RepL.det (cs := cs) (xs := xs) (ys := ys) hk.2 (by simpa using h1) (by simpa using h2) (fun i c v hc hv => hr (i + 1) c v (by simpa using hc) (by simpa using hv)) (fun i c v hc hv => hr' (i + 1) c v (by simpa using hc) (by simpa using hv))
    rw [e0, e1]
end

theorem noRows_look : ∀ (l : List (Option Blk)) (b : Nat) (k : Blk), look (noRows l) b = some k → look l b = some k ∧ k.isRow = false := by
  intro l
  induction l with
  | nil => intro b k h; simp [noRows, look_nil] at h
  | cons x l ih =>
    intro b k h
    cases x with
    | none =>
      simp only [noRows] at h
      cases b with
      | zero => simp [look_nil, look_zero, look_succ] at h
      | succ b => simp only [look_nil, look_zero, look_succ] at h ⊢; exact ih b k h
    | some kk =>
      cases kk <;> simp only [noRows] at h <;> cases b <;> simp only [look_nil, look_zero, look_succ] at h ⊢ <;> first
        | exact ih _ k h
        | (cases h; exact ⟨rfl, rfl⟩)
        | cases h

theorem ev_b (t : List (Option IV)) (b b' : List (Option Blk)) (x : Operand) : ev { t, b } x = ev { t, b := b' } x := by cases x <;> rfl

theorem allOf_mem {f : Nat → Prop} : ∀ {l : List Nat}, allOf f l → ∀ i ∈ l, f i
  | [], _, i, hi => by cases hi
  | [j], h, i, hi => by simp at hi; subst hi; exact h
  | j :: k :: l, h, i, hi => by
    rcases List.mem_cons.1 hi with rfl | hi
    · exact h.1
    · exact allOf_mem (l := k :: l) h.2 i hi

theorem headOf_spec (E : Env) : ∀ (l : List Oper) (i : Nat) (o : Oper), i < headOf E l → l[i]? = some o → writes E o = false := by
  intro l
  induction l with
  | nil => intro i o h; simp [headOf] at h
  | cons x l ih =>
    intro i o h hi
    simp only [headOf] at h
    split at h
    · omega
    · rename_i hx
      cases i with
      | zero => simp at hi; subst hi; simpa using hx
      | succ i => simp at hi; exact ih i o (by omega) hi

section
variable {E : Env} {X : Ctx} {Q : Exit → Act → World → Prop} {K : St → Prop} {ops : Array Oper} {facts : List (Option Blk)} {hd n0 : Nat} {β0 : Asg}

theorem pick1_spec {listed : Array Bool} {gs : List (Nat × Bool)} {st : St} {i : Nat} : ∀ {l : List Nat}, pick1 E.P ops facts hd listed gs st l = some i → i ∈ l ∧ i < hd ∧ Region.free .any ops listed i = true ∧ ∃ o, ops[i]? = some o := by
  intro l
  induction l with
  | nil => intro h; simp [pick1] at h
  | cons j l ih =>
    intro h
    simp only [pick1] at h
    split at h
    · rename_i o ho
      split at h
      · rename_i hc
        cases h
        exact ⟨List.mem_cons_self .., hc.1, hc.2.2, o, ho⟩
      · obtain ⟨h1, h2⟩ := ih h
        exact ⟨List.mem_cons_of_mem _ h1, h2⟩
    · cases h

theorem execAny_sound (hE : EnvOk E) (hsel : Region.noSelect ops = true) (hs : sinkOk ops hd = true) (hhd : ∀ i o, i < hd → ops[i]? = some o → writes E o = false)
    (hQ : ∀ c a w, ¬ Q (.panic c) a w) (happ : ops.any appends = true → ∀ b k, look facts b = some k → k.isRow = false) :
    ∀ (fuel : Nat) {listed : Array Bool} {gs : List (Nat × Bool)} {β : Asg} {st : St} {a : Act} {w : World}, Sat X β st a w → n0 ≤ st.b.length → (∀ b r, β0 b = some r → β b = some r) →
    ((∃ j, j < hd ∧ listed.getD j true = false) → (∀ b k, look facts b = some k → BOk X β0 w b k) ∧ (ops.any appends = true → ∀ b k, look facts b = some k → look st.b b = some k)) →
    Closed ops listed → execAny E ops facts hd fuel listed gs st K →
    (∀ β' st' a' w', K st' → Sat X β' st' a' w' → (∀ b, b < n0 → β' b = β b) → n0 ≤ st'.b.length → Q .normal a' w') →
    wpAnyF E.P ops Q (fun w => ∀ b k, look facts b = some k → BOk X β0 w b k) hd fuel listed a w := by
  intro fuel
  induction fuel with
  | zero =>
    intro listed gs β st a w h hn hm hH hcl hk hK
    simp only [execAny, normT_eq, normB_eq] at hk
    split at hk
    · rename_i hr
      exact ⟨hr, hK β st a w hk h (fun _ _ => rfl) hn⟩
    · exact hk.elim
  | succ fuel ih =>
    intro listed gs β st a w h hn hm hH hcl hk hK
    simp only [execAny, normT_eq, normB_eq] at hk
    split at hk
    · rename_i hr
      exact ⟨fun _ => hK β st a w hk h (fun _ _ => rfl) hn, fun i hi => by rw [hr] at hi; cases hi⟩
    · rename_i r rs hr
      split at hk
      · -- one is taken first
        rename_i i hp
        obtain ⟨hmem, hih, hfree, o, ho⟩ := pick1_spec hp
        rw [ho] at hk
        simp only at hk
        rw [← hr] at hmem
        have hun : listed.getD i true = false := (mem_ready.1 hmem).1
        obtain ⟨hF, hinv⟩ := hH ⟨i, hih, hun⟩
        have hHs : ∀ {st' : St}, st'.b = st.b → ((∃ j, j < hd ∧ (listed.setIfInBounds i true).getD j true = false) → (∀ b k, look facts b = some k → BOk X β0 w b k) ∧ (ops.any appends = true → ∀ b k, look facts b = some k → look st'.b b = some k)) := by
          intro st' e _
          rw [e]
          exact ⟨hF, hinv⟩
        rcases guardK_sound h hk with ⟨hw, hk⟩ | ⟨hw, hk⟩
        · split at hk
          · rename_i p v hps
            split at hk
            · rename_i hkn
              have hp' : ∀ q, p = some q → q := by intro q hq; subst hq; exact hk.1
              have hk' : execAny E ops facts hd fuel (listed.setIfInBounds i true) (newG gs o true) (st.setT o.dst v) K := by
                cases p with
                | none => exact hk
                | some q => exact hk.2
              have hrun : ∀ w', (∀ b k, look facts b = some k → BOk X β0 w' b k) → ∃ u, Rep β v u ∧ (execOp a.eval o).run E.P w' = .ok (.value u) w' := by
                intro w' hF'
                exact pureStep_sound (st := { st with b := facts }) (fun x v hx => ev_rep h (by rw [ev_b st.t st.b facts x]; exact hx)) (fun b k hb => (hF' b k hb).mono hm) hps hp'
              obtain ⟨u, hu, hrun0⟩ := hrun w hF
              have hy : YieldsIf E.P ops (fun w => ∀ b k, look facts b = some k → BOk X β0 w b k) o u a := by
                refine .inl ⟨hw, fun w' hF' => ?_⟩
                obtain ⟨u', hu', hrun'⟩ := hrun w' hF'
                rw [Rep.det hkn hu hu']
                exact hrun'
              refine wpAnyF_first ho (Region.noSelect_spec hsel) (fun c a w hq => absurd hq (hQ _ _ _)) hs hih fuel listed a w hcl (Region.free_spec ho hfree) hmem hy hF ?_
              exact ih (h.setT hu o.dst) (by rw [setT_b]; exact hn) hm (hHs (setT_b _ _ _)) (hcl.step hmem) hk' hK
            · exact hk.elim
          · exact hk.elim
        · have hy : YieldsIf E.P ops (fun w => ∀ b k, look facts b = some k → BOk X β0 w b k) o undef a := .inr ⟨hw, rfl⟩
          refine wpAnyF_first ho (Region.noSelect_spec hsel) (fun c a w hq => absurd hq (hQ _ _ _)) hs hih fuel listed a w hcl (Region.free_spec ho hfree) hmem hy hF ?_
          exact ih (h.setT (undef_rep β) o.dst) (by rw [setT_b]; exact hn) hm (hHs (setT_b _ _ _)) (hcl.step hmem) hk hK
      · -- whichever is at hand
        refine ⟨fun h0 => (by rw [h0] at hr; cases hr), fun i hi => ?_⟩
        rw [hr] at hi
        have hki := allOf_mem hk i hi
        rw [← hr] at hi
        obtain ⟨hun, o, ho, hall⟩ := mem_ready.1 hi
        rw [ho] at hki
        simp only at hki
        unfold wpOp
        rw [ho]
        simp only
        -- what holds of the head behind it
        have hafter : ∀ {st' : St} {w' : World}, (i < hd → (∀ b k, look facts b = some k → BOk X β0 w' b k) ∧ (ops.any appends = true → ∀ b k, look facts b = some k → look st'.b b = some k)) →
            ((∃ j, j < hd ∧ (listed.setIfInBounds i true).getD j true = false) → (∀ b k, look facts b = some k → BOk X β0 w' b k) ∧ (ops.any appends = true → ∀ b k, look facts b = some k → look st'.b b = some k)) := by
          intro st' w' himp hex
          rcases Nat.lt_or_ge i hd with hlt | hge
          · exact himp hlt
          · exfalso
            obtain ⟨j, hj, hjl⟩ := hex
            have h1 := sink_listed hs hcl ho hall hge hj
            have hne : i ≠ j := by omega
            rw [getD_set_ne true hne] at hjl
            rcases Nat.lt_or_ge j listed.size with h' | h'
            · simp [h'] at h1 hjl; rw [h1] at hjl; cases hjl
            · simp [Array.getElem?_eq_none h'] at hjl
        rcases guardK_sound h hki with ⟨hw, hki⟩ | ⟨hw, hki⟩
        · rw [if_pos hw]
          refine .inl (stepK_sound h hE hki ?_)
          intro β' st' a' w' hk' hsat hag hle hrel
          have hFi : i < hd → (∀ b k, look facts b = some k → BOk X β0 w' b k) ∧ (ops.any appends = true → ∀ b k, look facts b = some k → look st'.b b = some k) := by
            intro hlt
            obtain ⟨hF, hinv⟩ := hH ⟨i, hlt, hun⟩
            have hR := hrel (hhd i o hlt ho)
            have hap : appends o = true → ops.any appends = true := by
              intro h1
              rw [Array.any_eq_true]
              have hlt' := (Array.getElem?_eq_some_iff.1 ho).1
              exact ⟨i, hlt', by rw [(Array.getElem?_eq_some_iff.1 ho).2]; exact h1⟩
            refine ⟨fun b k hb => ?_, fun h1 b k hb => hR.keep b k (hinv h1 b k hb) (happ h1 b k hb)⟩
            rcases hR.world with hkp | ⟨h1, b1, e, ks, xs, id, hb1, hu1, hbut⟩
            · exact (hF b k hb).keeps hkp
            · refine (hF b k hb).but hbut (fun hu => ?_)
              have hbk := hinv (hap h1) b k hb
              have hnr := happ (hap h1) b k hb
              have hu' : UsesK β b k id := ⟨by
                rcases hu.1 with h5 | ⟨ad, n, c, h5, h6⟩
                · exact .inl (hm _ _ h5)
                · exact .inr ⟨ad, n, c, hm _ _ h5, h6⟩, hu.2⟩
              have := h.disj b1 b _ k id hb1 hbk rfl ⟨hu1, .inl rfl⟩ hu'
              subst this
              rw [hb1] at hbk
              cases hbk
              cases hnr
          refine ⟨fun hlt => (hFi hlt).1, ?_⟩
          exact ih hsat (Nat.le_trans hn hle) (fun b r hb => h.agree_mono hag b r (hm b r hb)) (hafter hFi) (hcl.step hi) hk' (fun β'' st'' a'' w'' hk'' hs'' hag'' hle'' => hK β'' st'' a'' w'' hk'' hs'' (fun b hb => (hag'' b hb).trans (hag b (by omega))) hle'')
        · rw [if_neg (by rw [hw]; simp)]
          have hFi : i < hd → (∀ b k, look facts b = some k → BOk X β0 w b k) ∧ (ops.any appends = true → ∀ b k, look facts b = some k → look (st.setT o.dst (.tup [])).b b = some k) := by
            intro hlt
            rw [setT_b]
            exact hH ⟨i, hlt, hun⟩
          exact ⟨fun hlt => (hFi hlt).1, ih (h.setT (undef_rep β) o.dst) (by rw [setT_b]; exact hn) hm (hafter hFi) (hcl.step hi) hki hK⟩

theorem maskOf_go (l : List Nat) : ∀ (m i : Nat), Nat.testBit (l.foldl (fun m i => Nat.lor m (Nat.shiftLeft 1 i)) m) i = (Nat.testBit m i || decide (i ∈ l)) := by
  induction l with
  | nil => intro m i; simp
  | cons x l ih =>
    intro m i
    rw [List.foldl_cons, ih]
    have h1 : Nat.lor m (Nat.shiftLeft 1 x) = m ||| 2 ^ x := by
      show m ||| (1 <<< x) = _
      rw [Nat.one_shiftLeft]
    rw [h1, Nat.testBit_or, Nat.testBit_two_pow]
    by_cases h : x = i
    · subst h; simp
    · have h' : ¬ i = x := fun e => h e.symm
      simp [h, h']
theorem maskOf_spec (l : List Nat) (i : Nat) : Nat.testBit (maskOf l) i = decide (i ∈ l) := by
  unfold maskOf; rw [maskOf_go]; simp
theorem land_zero {x y : Nat} (h : Nat.beq (Nat.land x y) 0 = true) (i : Nat) (hx : Nat.testBit x i = true) : Nat.testBit y i = false := by
  have h1 : x &&& y = 0 := Nat.eq_of_beq_eq_true h
  have h2 := congrArg (fun n => Nat.testBit n i) h1
  simp only [Nat.testBit_and, hx, Bool.true_and, Nat.zero_testBit] at h2
  exact h2
theorem lineRest_spec {i d l : Nat} : ∀ {ps : List OpI}, lineRest i d l ps = true → ∀ p ∈ ps, Nat.testBit p.a i = true ∨ (Nat.beq (Nat.land d p.l) 0 = true ∧ Nat.beq (Nat.land d p.d) 0 = true ∧ Nat.beq (Nat.land l p.d) 0 = true)
  | [], _, p, hp => by cases hp
  | q :: ps, h, p, hp => by
    simp only [lineRest, Bool.and_eq_true, Bool.or_eq_true] at h
    rcases List.mem_cons.1 hp with rfl | hp
    · rcases h.1 with h1 | h1
      · exact .inl h1
      · exact .inr ⟨h1.1.1, h1.1.2, h1.2⟩
    · exact lineRest_spec h.2 p hp
theorem lineGo_spec : ∀ {ps : List OpI} {i k : Nat}, k < lineGo i ps → ∃ q, ps[k]? = some q ∧ Nat.blt q.a (Nat.pow 2 (i + k)) = true ∧ lineRest (i + k) q.d q.l (ps.drop (k + 1)) = true
  | [], i, k, h => by simp [lineGo] at h
  | p :: ps, i, k, h => by
    simp only [lineGo] at h
    split at h
    · rename_i hc
      rw [Bool.and_eq_true] at hc
      cases k with
      | zero => exact ⟨p, rfl, hc.1, by simpa using hc.2⟩
      | succ k =>
        obtain ⟨q, h1, h2, h3⟩ := lineGo_spec (ps := ps) (i := i + 1) (k := k) (by omega)
        refine ⟨q, by simpa using h1, ?_, ?_⟩
        · rw [show i + (k + 1) = i + 1 + k by omega]; exact h2
        · rw [show i + (k + 1) = i + 1 + k by omega]; simpa using h3
    · omega
theorem blt_iff {a b : Nat} : Nat.blt a b = true ↔ a < b := by
  unfold Nat.blt; rw [Nat.ble_eq]; exact Iff.rfl
theorem preA_get {n i j : Nat} (h : j < n) : (preA n i)[j]? = some (Nat.blt j i) := by
  unfold preA
  simp [h]
theorem preA_getD {n i j : Nat} {b : Bool} (h : j < n) : (preA n i).getD j b = Nat.blt j i := by
  rw [Array.getD_eq_getD_getElem?, preA_get h]; rfl
theorem preA_set {n i : Nat} (h : i < n) : (preA n i).setIfInBounds i true = preA n (i + 1) := by
  have hs : ∀ k, (preA n k).size = n := by intro k; simp [preA]
  apply Array.ext
  · simp [hs]
  · intro j h1 h2
    have hj : j < n := by rw [hs] at h2; exact h2
    apply Option.some.inj
    rw [← Array.getElem?_eq_getElem, ← Array.getElem?_eq_getElem, preA_get hj, Array.getElem?_setIfInBounds]
    by_cases e : i = j
    · subst e; rw [if_pos rfl, hs, if_pos hj]
      rw [show Nat.blt i (i+1) = true from blt_iff.2 (by omega)]
    · rw [if_neg e, preA_get hj]
      congr 1
      rw [Bool.eq_iff_iff, blt_iff, blt_iff]; omega

theorem lookMask {o : Oper} {d : Nat} : Nat.testBit (infoOf ops o).l d = decide (d ∈ o.looksAt ops) := maskOf_spec _ _
theorem dstMask {o : Oper} {d : Nat} (h : o.dst = some d) (e : Nat) : Nat.testBit (infoOf ops o).d e = decide (d = e) := by
  unfold infoOf
  simp only [h]
  show Nat.testBit (1 <<< d) e = _
  rw [Nat.one_shiftLeft, Nat.testBit_two_pow]
theorem aftMask {o : Oper} {k : Nat} : Nat.testBit (infoOf ops o).a k = true ↔ ∃ e ∈ o.after, Region.binds .any e = true ∧ e.on = k := by
  unfold infoOf
  rw [maskOf_spec]
  simp only [decide_eq_true_eq, List.mem_map, List.mem_filter, Array.mem_toList_iff]
  constructor
  · rintro ⟨e, ⟨h1, h2⟩, h3⟩; exact ⟨e, h1, h2, h3⟩
  · rintro ⟨e, h1, h2, h3⟩; exact ⟨e, ⟨h1, h2⟩, h3⟩
theorem line_at {i : Nat} {oi : Oper} (hi : ops[i]? = some oi) (hl : i < lineLen ops) :
    (∀ e ∈ oi.after, Region.binds .any e = true → e.on < i) ∧
    (∀ j oj, ops[j]? = some oj → i < j → (∀ e ∈ oj.after, Region.binds .any e = true → e.on ≠ i) → oi.apart ops oj = true) := by
  obtain ⟨q, h1, h2, h3⟩ := lineGo_spec hl
  have hq : q = infoOf ops oi := by
    rw [List.getElem?_map, Array.getElem?_toList, hi] at h1
    exact (Option.some.inj h1).symm
  subst hq
  rw [Nat.zero_add] at h2 h3
  refine ⟨fun e he hb => ?_, fun j oj hj hij hno => ?_⟩
  · rcases Nat.lt_or_ge e.on i with h4 | h4
    · exact h4
    · have h5 := (aftMask (ops := ops) (o := oi) (k := e.on)).2 ⟨e, he, hb, rfl⟩
      rw [Nat.testBit_lt_two_pow (Nat.lt_of_lt_of_le (blt_iff.1 h2) (Nat.pow_le_pow_right (by decide) h4))] at h5
      cases h5
  · have hmem : infoOf ops oj ∈ (ops.toList.map (infoOf ops)).drop (i + 1) := by
      refine List.mem_of_getElem? (i := j - (i + 1)) ?_
      rw [List.getElem?_drop, List.getElem?_map, Array.getElem?_toList, show i + 1 + (j - (i + 1)) = j by omega, hj]
      rfl
    rcases lineRest_spec h3 _ hmem with h4 | ⟨h4, h5, h6⟩
    · obtain ⟨e, he, hb, hon⟩ := aftMask.1 h4
      exact absurd hon (hno e he hb)
    · unfold Oper.apart
      rw [Bool.and_eq_true]
      constructor
      · split
        · rename_i d hd
          have hb : Nat.testBit (infoOf ops oi).d d = true := by rw [dstMask hd]; simp
          have h7 := land_zero h4 d hb
          have h8 := land_zero h5 d hb
          rw [lookMask] at h7
          rw [Bool.and_eq_true]
          refine ⟨by simpa using h7, ?_⟩
          cases hd2 : oj.dst with
          | none => rfl
          | some d2 =>
            rw [dstMask hd2] at h8
            have : ¬ d2 = d := by simpa using h8
            simp [this]
        · rfl
      · split
        · rename_i d hd
          by_cases h9 : d ∈ oi.looksAt ops
          · have h10 := land_zero h6 d (by rw [lookMask]; simpa using h9)
            rw [dstMask hd] at h10
            simp at h10
          · simpa using h9
        · rfl

theorem execLine_sound (hE : EnvOk E) (hsel : Region.noSelect ops = true) (hs : sinkOk ops hd = true) (hhd : ∀ i o, i < hd → ops[i]? = some o → writes E o = false)
    (hQ : ∀ c a w, ¬ Q (.panic c) a w) (happ : ops.any appends = true → ∀ b k, look facts b = some k → k.isRow = false) {lim : Nat} (hlim : lim ≤ hd) (hlim' : lim ≤ lineLen ops) :
    ∀ (l : List Oper) {i : Nat} {gs : List (Nat × Bool)} {β : Asg} {st : St} {a : Act} {w : World}, l = ops.toList.drop i → i ≤ ops.size → Sat X β st a w → n0 ≤ st.b.length → (∀ b r, β0 b = some r → β b = some r) →
    ((∀ b k, look facts b = some k → BOk X β0 w b k) ∧ (ops.any appends = true → ∀ b k, look facts b = some k → look st.b b = some k)) →
    Closed ops (preA ops.size i) → execLine E ops facts hd lim l i gs st K →
    (∀ β' st' a' w', K st' → Sat X β' st' a' w' → (∀ b, b < n0 → β' b = β b) → n0 ≤ st'.b.length → Q .normal a' w') →
    wpAnyF E.P ops Q (fun w => ∀ b k, look facts b = some k → BOk X β0 w b k) hd (ops.size - i) (preA ops.size i) a w := by
  intro l
  induction l with
  | nil =>
    intro i gs β st a w hl hi h hn hm hH hcl hk hK
    exact execAny_sound hE hsel hs hhd hQ happ _ h hn hm (fun _ => hH) hcl hk hK
  | cons o rest ih =>
    intro i gs β st a w hl hi h hn hm hH hcl hk hK
    simp only [execLine, normT_eq] at hk
    split at hk
    · rename_i hc
      rw [Bool.and_eq_true] at hc
      have hil : i < lim := blt_iff.1 hc.1
      have hih : i < hd := Nat.lt_of_lt_of_le hil hlim
      have hoi : ops.toList[i]? = some o := by
        have h1 : (ops.toList.drop i)[0]? = some o := by rw [← hl]; rfl
        rw [List.getElem?_drop] at h1
        simpa using h1
      have ho : ops[i]? = some o := by simpa using hoi
      have hlt : i < ops.size := (Array.getElem?_eq_some_iff.1 ho).1
      have hrest : rest = ops.toList.drop (i + 1) := by
        have h1 := congrArg (List.drop 1) hl
        rw [List.drop_drop] at h1
        simpa using h1
      obtain ⟨hdep, hap⟩ := line_at ho (Nat.lt_of_lt_of_le hil hlim')
      have hfree : ∀ j oj, ops[j]? = some oj → j ≠ i → (preA ops.size i).getD j true = false → (∀ e ∈ oj.after, Region.binds .any e = true → e.on ≠ i) → oj.apart ops oj = oj.apart ops oj → o.apart ops oj = true := by
        intro j oj hj hji hun hno _
        have hjs := (Array.getElem?_eq_some_iff.1 hj).1
        rw [preA_getD hjs] at hun
        have : ¬ j < i := fun h' => by rw [blt_iff.2 h'] at hun; cases hun
        exact hap j oj hj (by omega) hno
      have hmem : i ∈ Region.ready .any ops (preA ops.size i) := by
        refine mem_ready.2 ⟨?_, o, ho, fun e he hb => ?_⟩
        · rw [preA_getD hlt]
          cases hb : Nat.blt i i with
          | false => rfl
          | true => exact absurd (blt_iff.1 hb) (by omega)
        · have h1 := hdep e he hb
          rw [preA_getD (by omega)]
          exact blt_iff.2 h1
      have hstep : ∀ {v : Value}, YieldsIf E.P ops (fun w => ∀ b k, look facts b = some k → BOk X β0 w b k) o v a →
          wpAnyF E.P ops Q (fun w => ∀ b k, look facts b = some k → BOk X β0 w b k) hd (ops.size - (i + 1)) (preA ops.size (i + 1)) (a.put o.dst v) w →
          wpAnyF E.P ops Q (fun w => ∀ b k, look facts b = some k → BOk X β0 w b k) hd (ops.size - i) (preA ops.size i) a w := by
        intro v hy hw
        rw [show ops.size - i = (ops.size - (i + 1)) + 1 by omega]
        refine wpAnyF_first ho (Region.noSelect_spec hsel) (fun c a w hq => absurd hq (hQ _ _ _)) hs hih _ _ a w hcl (fun j oj h1 h2 h3 h4 => hfree j oj h1 h2 h3 h4 rfl) hmem hy hH.1 ?_
        rw [preA_set hlt]
        exact hw
      have hcl' : Closed ops (preA ops.size (i + 1)) := by rw [← preA_set hlt]; exact hcl.step hmem
      rcases guardK_sound h hk with ⟨hw, hk⟩ | ⟨hw, hk⟩
      · split at hk
        · rename_i p v hps
          split at hk
          · rename_i hkn
            have hp' : ∀ q, p = some q → q := by intro q hq; subst hq; exact hk.1
            have hk' : execLine E ops facts hd lim rest (i + 1) (newG gs o true) (st.setT o.dst v) K := by
              cases p with
              | none => exact hk
              | some q => exact hk.2
            have hrun : ∀ w', (∀ b k, look facts b = some k → BOk X β0 w' b k) → ∃ u, Rep β v u ∧ (execOp a.eval o).run E.P w' = .ok (.value u) w' := by
              intro w' hF'
              exact pureStep_sound (st := { st with b := facts }) (fun x v hx => ev_rep h (by rw [ev_b st.t st.b facts x]; exact hx)) (fun b k hb => (hF' b k hb).mono hm) hps hp'
            obtain ⟨u, hu, hrun0⟩ := hrun w hH.1
            refine hstep (v := u) (.inl ⟨hw, fun w' hF' => ?_⟩) ?_
            · obtain ⟨u', hu', hrun'⟩ := hrun w' hF'
              rw [Rep.det hkn hu hu']
              exact hrun'
            · exact ih hrest hlt (h.setT hu o.dst) (by rw [setT_b]; exact hn) hm (by rw [setT_b]; exact hH) hcl' hk' hK
          · exact hk.elim
        · exact hk.elim
      · refine hstep (v := undef) (.inr ⟨hw, rfl⟩) ?_
        exact ih hrest hlt (h.setT (undef_rep β) o.dst) (by rw [setT_b]; exact hn) hm (by rw [setT_b]; exact hH) hcl' hk hK
    · exact execAny_sound hE hsel hs hhd hQ happ _ h hn hm (fun _ => hH) hcl hk hK

theorem normN_eq (n : Nat) (K : Nat → Prop) : normN n K = K n := by cases n <;> rfl
theorem execDraw_sound (hE : EnvOk E) {ops : Array Oper} {id : Nat} {β : Asg} {st : St} {a : Act} {w : World} (h : Sat X β st a w) (hn : n0 ≤ st.b.length) (hk : execDraw E ops st K)
    (hK : ∀ β' st' a' w', K st' → Sat X β' st' a' w' → (∀ b, b < n0 → β' b = β b) → n0 ≤ st'.b.length → Q .normal a' w') : (Code.region id ops true).wp E.P Q a w := by
  unfold execDraw at hk
  simp only [normN_eq] at hk
  split at hk
  · rename_i hc
    simp only [Bool.and_eq_true] at hc
    have hk : execLine E ops (if ops.any appends = true then noRows st.b else st.b) (headOf E ops.toList) (Nat.min (headOf E ops.toList) (lineLen ops)) ops.toList 0 [] st K := by
      rw [anyR_eq] at hk
      have e : ops.any appends = ops.toList.any appends := by simp
      rw [e]
      cases hb : ops.toList.any appends <;> rw [hb] at hk <;> simpa using hk
    have hw1 : Keeps w { w with drawn := w.drawn + 1 } := Keeps.drawn w _
    have h1 := h.keeps hw1
    refine wp_mono (Q := fun e a w => e = .normal ∧ Q .normal a w) ?_ (fun e a w hq => by obtain ⟨rfl, hq⟩ := hq; exact hq)
    refine wp_region_any hE.mixed (wpAny_of_F (F := fun w => ∀ b k, look (if ops.any appends = true then noRows st.b else st.b) b = some k → BOk X β w b k) (hd := headOf E ops.toList) _ _ _ _ ?_)
    have hpre : Array.replicate ops.size false = preA ops.size 0 := by
      apply Array.ext
      · simp [preA]
      · intro j h1 h2
        have hj : j < ops.size := by simpa using h1
        apply Option.some.inj
        rw [← Array.getElem?_eq_getElem, ← Array.getElem?_eq_getElem, preA_get hj]
        rw [Array.getElem?_replicate, if_pos hj]; congr 1
    have hsz : ops.size = ops.size - 0 := rfl
    rw [hpre, hsz, Nat.sub_zero]
    refine execLine_sound (n0 := n0) (β0 := β) hE hc.1 hc.2 (fun i o hi ho => headOf_spec E ops.toList i o hi (by simpa using ho)) (fun c a w hq => by cases hq.1) ?_ (Nat.min_le_left _ _) (Nat.min_le_right _ _) ops.toList rfl (Nat.zero_le _) h1 hn (fun b r hb => hb) ?_ ?_ hk
      (fun β' st' a' w' hk' hs' hag hle => ⟨rfl, hK β' st' a' w' hk' hs' hag hle⟩)
    · intro ha b k hb
      rw [if_pos ha] at hb
      exact (noRows_look _ b k hb).2
    · refine ⟨fun b k hb => ?_, fun ha b k hb => ?_⟩
      · split at hb
        · exact h1.blks b k (noRows_look _ b k hb).1
        · exact h1.blks b k hb
      · rw [if_pos ha] at hb
        exact (noRows_look _ b k hb).1
    · intro j o hj hl
      rw [preA_getD (Array.getElem?_eq_some_iff.1 hj).1] at hl
      exact absurd (blt_iff.1 hl) (by omega)
  · exact hk.elim

end
end Go.Vs
