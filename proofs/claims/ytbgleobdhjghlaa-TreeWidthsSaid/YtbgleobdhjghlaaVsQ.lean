/- Vs, part Q: results; a function entered; contracts from what a function comes to. -/
import Derived.Test.YtbgleobdhjghlaaVsP
set_option linter.unusedVariables false
set_option linter.unusedSimpArgs false
namespace Go.Vs
open Go.RowKit
section
variable {P : Program} {X : Ctx} {β : Asg} {st : St} {a : Act} {w : World}

/-! ### results -/
def resRun (tmps : Array Value) : ResultVar → Sem Value
  | .tmp t => pure (tmps.getD t undef)
  | .cell a t => do loadVar t (← asAddr (tmps.getD a undef))

theorem resultOf1_sound (h : Sat X β st a w) {r : ResultVar} {v : IV} (hr : resultOf1 P st r = some v) : ∃ u, (resRun a.tmps r).run P w = .ok u w ∧ Rep β v u := by
  cases r with
  | tmp i =>
    obtain ⟨u, hu, hrep⟩ := look_length_tmps h hr
    exact ⟨u, by simp [resRun, hu], hrep⟩
  | cell i t =>
    simp only [resultOf1] at hr
    split at hr
    · rename_i b hb
      obtain ⟨u, hu, hrep⟩ := look_length_tmps h hb
      split at hr
      · rename_i v' hl
        cases hr
        obtain ⟨u', hu', hrun⟩ := loadAt_sound h.blks hrep hl (by simp)
        obtain ⟨id, rfl, hβ⟩ := hrep.ptr_inv
        refine ⟨u', ?_, hu'⟩
        simp only [resRun, hu, asAddr, pure_bind]
        simpa [Instr.loadAt, Instr.sureAddr] using hrun
      · cases hr
    · cases hr

theorem resultsOf_sound (h : Sat X β st a w) : ∀ {rs : List ResultVar} {vs : List IV}, resultsOf P st rs = some vs → ∃ us, (rs.mapM (resRun a.tmps)).run P w = .ok us w ∧ vs.length = us.length ∧ ∀ (i : Nat) c v, vs[i]? = some c → us[i]? = some v → Rep β c v := by
  intro rs
  induction rs with
  | nil => intro vs hv; simp [resultsOf] at hv; subst hv; exact ⟨[], by simp, rfl, by simp⟩
  | cons r rs ih =>
    intro vs hv
    simp only [resultsOf] at hv
    split at hv
    · rename_i v vs' h1 h2
      cases hv
      obtain ⟨u, hu, hr⟩ := resultOf1_sound h h1
      obtain ⟨us, hus, hl, hrs⟩ := ih h2
      refine ⟨u :: us, by simp [List.mapM_cons, hu, hus], by simp [hl], ?_⟩
      intro i c x hc hx
      cases i with
      | zero => simp at hc hx; subst hc; subst hx; exact hr
      | succ i => simp at hc hx; exact hrs i c x hc hx
    · cases hv

theorem results_eq (fn : Func) (tmps : Array Value) : results fn tmps = (do let vs ← fn.results.mapM (resRun tmps); pure (if h : vs.size = 1 then vs[0] else .tuple vs)) := by
  unfold results
  congr 1

theorem resultOf_sound (h : Sat X β st a w) {fn : Func} {v : IV} (hv : resultOf P fn st = some v) : ∃ u, (results fn a.tmps).run P w = .ok u w ∧ Rep β v u := by
  rw [results_eq]
  obtain ⟨rs, hrs⟩ : ∃ rs : List ResultVar, fn.results = rs.toArray := ⟨fn.results.toList, by simp⟩
  unfold resultOf at hv
  rw [hrs] at hv ⊢
  simp only [List.mapM_toArray]
  split at hv
  · rename_i r hr
    simp only at hr
    subst hr
    obtain ⟨u, hu, hrep⟩ := resultOf1_sound h hv
    exact ⟨u, by simp [hu], hrep⟩
  · rename_i hne
    simp only [Option.map_eq_some_iff] at hv
    obtain ⟨vs, hvs, rfl⟩ := hv
    obtain ⟨us, hus, hl, hrep⟩ := resultsOf_sound h hvs
    have hlen : ∀ {rs : List ResultVar} {vs : List IV}, resultsOf P st rs = some vs → rs.length = vs.length := by
      intro rs
      induction rs with
      | nil => intro vs h; simp [resultsOf] at h; subst h; rfl
      | cons r rs ih =>
        intro vs h
        simp only [resultsOf] at h
        split at h
        · rename_i h2; cases h; simp [ih h2]
        · cases h
    have h1 : us.length ≠ 1 := by
      intro h1
      have := hlen hvs
      rw [hl, h1] at this
      match rs, this with
      | [r], _ => exact hne r (by simp)
    refine ⟨.tuple us.toArray, ?_, .tup (by simp [hl]) (fun i c x hc hx => hrep i c x hc (by simpa using hx))⟩
    have hus' : (List.mapM (resRun a.tmps) rs).run P w = .ok us w := hus
    simp [hus', h1]

/-! ### a function entered -/
/-- what was told of a function holds -/
def FunOk (P : Program) (g : FuncId) (G : FunS) : Prop :=
  ∀ args b K, G args b K → ∀ X β w (vs : Array Value), SatB X β b w → args.length = vs.size → (∀ (i : Nat) c v, args[i]? = some c → vs[i]? = some v → Rep β c v) →
    Calls P g vs w fun e w' => ∃ v u β' b', e = .returned u ∧ K v b' ∧ Rep β' v u ∧ SatB X β' b' w' ∧ (∀ c, c < b.length → β' c = β c) ∧ b.length ≤ b'.length
theorem idxOf_none : ∀ {l : List Nat} {b : Nat}, idxOf l b = none → ∀ j : Nat, l[j]? ≠ some b
  | [], b, _, j => by simp
  | x :: l, b, h, j => by
    simp only [idxOf] at h
    split at h
    · cases h
    · rename_i hne
      cases j with
      | zero => simpa using hne
      | succ j =>
        rw [List.getElem?_cons_succ]
        refine idxOf_none ?_ j
        cases h2 : idxOf l b with
        | none => rfl
        | some _ => rw [h2] at h; cases h
theorem BOk.same {X : Ctx} {β : Asg} {w w' : World} {b : Nat} {k : Blk} (h : BOk X β w b k) (hs : ∀ id, UsesK β b k id → w'.heap[id]? = w.heap[id]?) : BOk X β w' b k := by
  cases k with
  | var t cells =>
    obtain ⟨id', cs, h1, h2, h3, h4⟩ := h
    exact ⟨id', cs, h1, h2, (hs id' ⟨.inl h1, .inl rfl⟩).trans h3, h4⟩
  | ints t k xs =>
    obtain ⟨id', h1, h2, h3, h4⟩ := h
    exact ⟨id', h1, h2, (hs id' ⟨.inl h1, .inl rfl⟩).trans h3, h4⟩
  | row e ks xs =>
    obtain ⟨A, n, c, h1, h2, h3⟩ := h
    refine ⟨A, n, c, h1, ⟨h2.1, ?_⟩, h3⟩
    rcases h2.2 with hn | ⟨g, cap, cur, e1, hb, hg, rest⟩
    · exact .inl hn
    · refine .inr ⟨g, cap, cur, e1, hb, ?_, rest⟩
      rw [hs g ⟨.inr ⟨⟨g, 0, none⟩, n, c, by rw [h1, e1]; cases e1; rfl, rfl⟩, .inl rfl⟩]
      exact hg
  | ro ks xs =>
    obtain ⟨A, c, h1, h2, h3, h4⟩ := h
    refine ⟨A, c, h1, ⟨h2.1, h2.2.1, fun h0 => ?_⟩, h3, h4⟩
    obtain ⟨g, o, e, hc⟩ := h2.2.2 h0
    subst e
    refine ⟨g, o, rfl, fun j u hj => ?_⟩
    refine (World.cell?_of_block (hs g ⟨.inr ⟨_, _, _, h1, rfl⟩, .inr ?_⟩)).trans (hc j u hj)
    cases xs with
    | nil => simp at h0
    | cons x xs => exact ⟨ks, x, xs, rfl⟩

/-- Whoever sees no more than what it can reach leaves all else alone. -/
theorem framed_ok {P : Program} {g : FuncId} {G : FunS} (hG : FunOk P g G) : FunOk P g (framed G) := by
  intro args b K hk X β w vs hS hlen hrep
  unfold framed at hk
  generalize reachOf b args = order at hk
  split at hk
  rotate_left
  · exact hk.elim
  rename_i hc
  rw [Bool.and_eq_true] at hc
  obtain ⟨hnd, hlt0⟩ := hc
  have hlt : ∀ j i : Nat, order[j]? = some i → i < b.length := by
    intro j i hj
    have := (List.all_eq_true.1 hlt0) i (List.mem_of_getElem? hj)
    exact blt_iff.1 this
  let inO : Nat → Prop := fun i => ∃ j : Nat, order[j]? = some i
  let X' : Ctx := { w0 := X.w0, B := X.B, A0 := X.A0, Fr := fun id => X.Fr id ∨ ∃ i k, ¬ inO i ∧ look b i = some k ∧ UsesK β i k id,
                    Fo := fun id => X.Fo id ∨ ∃ i k, ¬ inO i ∧ look b i = some k ∧ k.own = true ∧ UsesK β i k id, F0 := w }
  have h0 := gcBy_sat hS (fun _ => false) hnd
  have hown : ∀ {f : Nat → Option Nat} (k : Blk), (renB f k).own = k.own := by intro f k; cases k <;> rfl
  have hro : ∀ {f : Nat → Option Nat} {k : Blk}, (∃ ks x xs, renB f k = .ro ks (x :: xs)) → ∃ ks x xs, k = .ro ks (x :: xs) := by
    rintro f k ⟨ks, x, xs, e⟩
    cases k <;> simp [renB] at e
    exact ⟨ks, x, xs, by rw [e.1, e.2]⟩
  have husek : ∀ {j i : Nat} {k : Blk} {id : Nat}, order[j]? = some i → UsesK (asgO β order) j (renB (idxOf order) k) id → UsesK β i k id := by
    intro j i k id hi hu
    refine ⟨hu.1.congr (by simp only [asgO, hi]), ?_⟩
    rcases hu.2 with h1 | h1
    · exact .inl (by rw [← hown]; exact h1)
    · exact .inr (hro h1)
  have hS' : SatB X' (asgO β order) (order.map fun i => (look b i).map (renB (idxOf order))) w := by
    refine ⟨rfl, fun i v hv => by simp [look_nil] at hv, h0.blks, h0.disj, h0.bound, h0.below, ⟨h0.frm.le, ?_, ?_, ?_⟩, rfl⟩
    · rintro id (hf | ⟨i, k, _, hk1, hu⟩)
      · exact ⟨(hS.frm.fr id hf).1, rfl⟩
      · exact ⟨uses_lt (hS.blks i k hk1) hu, rfl⟩
    · rintro id (hf | ⟨i, k, hn, hk1, _, hu⟩)
      · exact .inl (hS.frm.fo id hf)
      · exact .inr ⟨i, k, hn, hk1, hu⟩
    · intro c k' id hc hu
      obtain ⟨i, k, hi, hk1, rfl⟩ := gcBy_look (st := ⟨[], b⟩) (keep := fun _ => false) hc
      have hu' := husek hi hu
      have ha := hS.frm.apart i k id hk1 hu'
      refine ⟨?_, fun ho => ?_⟩
      · rintro (hf | ⟨i2, k2, hn, hk2, ho2, hu2⟩)
        · exact ha.1 hf
        · have := hS.disj i2 i k2 k id hk2 hk1 ho2 hu2 hu'
          subst this
          exact hn ⟨c, hi⟩
      · rw [hown] at ho
        rintro (hf | ⟨i2, k2, hn, hk2, hu2⟩)
        · exact ha.2 ho hf
        · have := hS.disj i i2 k k2 id hk1 hk2 ho hu' hu2
          subst this
          exact hn ⟨c, hi⟩
  have hρ : ∀ b0 b', idxOf order b0 = some b' → ∀ r, β b0 = some r → (asgO β order) b' = some r := by
    intro b0 b' hb r hr
    simp only [asgO, idxOf_spec hb]
    exact hr
  have hcall := hG _ _ _ hk X' (asgO β order) w vs hS' (by simpa using hlen) (by
    intro i c v hc hv
    simp only [List.getElem?_map, Option.map_eq_some_iff] at hc
    obtain ⟨c0, hc0, rfl⟩ := hc
    exact ren_rep' hρ (hrep i c0 v hc0 hv))
  refine hcall.mono ?_
  rintro e w' ⟨v, u, β1, b1, rfl, hK, hr, hB, hag, hle⟩
  simp only [List.length_map] at hag hle
  let β2 : Asg := fun c => if c < b.length then β c else β1 (order.length + (c - b.length))
  have hβ2 : ∀ {c}, c < b.length → β2 c = β c := fun h => by simp only [β2, if_pos h]
  have hback : ∀ {j c : Nat}, backOf order b.length j = some c → β2 c = β1 j ∧ ((∃ i : Nat, order[j]? = some i ∧ c = i) ∨ (order.length ≤ j ∧ c = b.length + (j - order.length))) := by
    intro j c hj
    unfold backOf at hj
    rw [nthR_eq] at hj
    split at hj
    · rename_i i hi
      cases hj
      have hjl := (List.getElem?_eq_some_iff.1 hi).1
      refine ⟨?_, .inl ⟨_, hi, rfl⟩⟩
      rw [hβ2 (hlt j _ hi), hag j hjl]
      simp only [asgO, hi]
    · rename_i hi
      cases hj
      have hjl : order.length ≤ j := by
        rcases Nat.lt_or_ge j order.length with h1 | h1
        · simp [h1] at hi
        · exact h1
      refine ⟨?_, .inr ⟨hjl, rfl⟩⟩
      simp only [β2]
      rw [if_neg (by omega)]
      congr 1
      omega
  have hinj : ∀ {j j' c : Nat}, backOf order b.length j = some c → backOf order b.length j' = some c → j = j' := by
    intro j j' c h1 h2
    rcases (hback h1).2 with ⟨i, hi, rfl⟩ | ⟨h3, rfl⟩ <;> rcases (hback h2).2 with ⟨i', hi', e'⟩ | ⟨h3', e'⟩
    · subst e'; exact nodupB_spec hnd hi hi'
    · have := hlt _ _ hi; omega
    · have := hlt _ _ hi'; omega
    · omega
  have hρ2 : ∀ j c, backOf order b.length j = some c → ∀ r, β1 j = some r → β2 c = some r := fun j c hj r hr => by rw [(hback hj).1]; exact hr
  have hplen : (putBack b order b1).length = b.length + (b1.length - order.length) := by simp [putBack]
  have lk : ∀ c k, look (putBack b order b1) c = some k → (c < b.length ∧ ¬ inO c ∧ look b c = some k) ∨ ∃ j k1, backOf order b.length j = some c ∧ look b1 j = some k1 ∧ k = renB (backOf order b.length) k1 := by
    intro c k hc
    unfold putBack at hc
    rw [look_app] at hc
    simp only [List.length_map, List.length_range] at hc
    split at hc
    · rename_i hcl
      rw [look_some] at hc
      simp only [List.getElem?_map, List.getElem?_range hcl, Option.map_some, Option.some.injEq] at hc
      split at hc
      · rename_i j hj
        simp only [Option.map_eq_some_iff] at hc
        obtain ⟨k1, hk1, rfl⟩ := hc
        refine .inr ⟨j, k1, ?_, hk1, rfl⟩
        unfold backOf
        rw [nthR_eq, idxOf_spec hj]
      · rename_i hn
        exact .inl ⟨hcl, fun ⟨j, hj⟩ => idxOf_none hn j hj, hc⟩
    · rename_i hcl
      rw [look_some] at hc
      simp only [List.getElem?_map, List.getElem?_drop, Option.map_eq_some_iff] at hc
      obtain ⟨x, hx, k1, rfl, rfl⟩ := hc
      refine .inr ⟨order.length + (c - b.length), k1, ?_, look_some.2 hx, rfl⟩
      unfold backOf
      rw [nthR_eq, List.getElem?_eq_none (by omega)]
      simp only [Option.some.injEq]
      omega
  have husek1 : ∀ {j c : Nat} {k1 : Blk} {id : Nat}, backOf order b.length j = some c → UsesK β2 c (renB (backOf order b.length) k1) id → UsesK β1 j k1 id := by
    intro j c k1 id hj hu
    refine ⟨hu.1.congr (hback hj).1, ?_⟩
    rcases hu.2 with h1 | h1
    · exact .inl (by rw [← hown]; exact h1)
    · exact .inr (hro h1)
  have huse0 : ∀ {c : Nat} {k : Blk} {id : Nat}, c < b.length → UsesK β2 c k id → UsesK β c k id := fun hcl hu => ⟨hu.1.congr (hβ2 hcl), hu.2⟩
  refine ⟨_, u, β2, _, rfl, hK, ren_rep' hρ2 hr, ⟨rfl, fun i v hv => by simp [look_nil] at hv, ?_, ?_, ?_, hB.below, ⟨hB.frm.le, ?_, hS.frm.fo, ?_⟩, rfl⟩, fun c hc => hβ2 hc, by rw [hplen]; omega⟩
  · intro c k hc
    rcases lk c k hc with ⟨hcl, hn, hk1⟩ | ⟨j, k1, hj, hk1, rfl⟩
    · have h1 := (hS.blks c k hk1).same (w' := w') (fun id hu => (hB.frm.fr id (.inr ⟨c, k, hn, hk1, hu⟩)).2)
      refine h1.mono ?_
      intro c0 r hr0
      rcases Nat.lt_or_ge c0 b.length with h2 | h2
      · rw [hβ2 h2]; exact hr0
      · rw [hS.bound c0 h2] at hr0; cases hr0
    · have h1 := hB.blks j k1 hk1
      have hβ := (hback hj).1
      cases k1 with
      | var t cells =>
        obtain ⟨id, cs, h1, h2, h3, h4⟩ := h1
        obtain ⟨l1, r1⟩ := renL_rep hρ2 (cs := cells) (xs := cs.toList) (by simpa using h4.1) (fun i c v hc hv => h4.2.2 i c v hc (by simpa using hv))
        exact ⟨id, cs, hβ.trans h1, h2, h3, by simpa using l1, h4.2.1, fun i c v hc hv => r1 i c v hc (by simpa using hv)⟩
      | ints t k xs =>
        obtain ⟨id, h1, h2⟩ := h1
        exact ⟨id, hβ.trans h1, h2⟩
      | row e ks xs =>
        obtain ⟨A, n, c, h1, h2⟩ := h1
        exact ⟨A, n, c, hβ.trans h1, h2⟩
      | ro ks xs =>
        obtain ⟨A, c, h1, h2⟩ := h1
        exact ⟨A, c, hβ.trans h1, h2⟩
  · intro c d k k' id hc hd ho hu1 hu2
    rcases lk c k hc with ⟨hcl, hn, hk1⟩ | ⟨j, k1, hj, hk1, rfl⟩ <;> rcases lk d k' hd with ⟨hdl, hn', hk1'⟩ | ⟨j', k1', hj', hk1', rfl⟩
    · exact hS.disj c d k k' id hk1 hk1' ho (huse0 hcl hu1) (huse0 hdl hu2)
    · exact absurd (.inr ⟨c, k, hn, hk1, ho, huse0 hcl hu1⟩) (hB.frm.apart j' k1' id hk1' (husek1 hj' hu2)).1
    · exact absurd (.inr ⟨d, k', hn', hk1', huse0 hdl hu2⟩) ((hB.frm.apart j k1 id hk1 (husek1 hj hu1)).2 (by rw [← hown]; exact ho))
    · have := hB.disj j j' k1 k1' id hk1 hk1' (by rw [← hown]; exact ho) (husek1 hj hu1) (husek1 hj' hu2)
      subst this
      rw [hj] at hj'
      exact Option.some.inj hj'
  · intro c hc
    rw [hplen] at hc
    simp only [β2]
    rw [if_neg (by omega)]
    exact hB.bound _ (show b1.length ≤ _ by omega)
  · intro id hf
    have h1 := hB.frm.fr id (.inl hf)
    exact ⟨h1.1, h1.2.trans (hS.frm.fr id hf).2⟩
  · intro c k id hc hu
    rcases lk c k hc with ⟨hcl, hn, hk1⟩ | ⟨j, k1, hj, hk1, rfl⟩
    · exact hS.frm.apart c k id hk1 (huse0 hcl hu)
    · have h1 := hB.frm.apart j k1 id hk1 (husek1 hj hu)
      exact ⟨fun hf => h1.1 (.inl hf), fun ho hf => h1.2 (by rw [← hown]; exact ho) (.inl hf)⟩

theorem nilRows_sound {P : Program} {X : Ctx} {w : World} : ∀ (ts : List TypeId) (as : List IV) (b : List (Option Blk)) {β : Asg} {vs : List Value}, SatB X β b w → as.length = vs.length → (∀ (i : Nat) c v, as[i]? = some c → vs[i]? = some v → Rep β c v) →
    ∃ β', SatB X β' (nilRows P ts as b).2 w ∧ (nilRows P ts as b).1.length = vs.length ∧ (∀ (i : Nat) c v, (nilRows P ts as b).1[i]? = some c → vs[i]? = some v → Rep β' c v) ∧ (∀ c, c < b.length → β' c = β c) ∧ b.length ≤ (nilRows P ts as b).2.length
  | [], as, b, β, vs, hS, hl, hr => ⟨β, hS, hl, hr, fun _ _ => rfl, Nat.le_refl _⟩
  | t :: ts, [], b, β, vs, hS, hl, hr => ⟨β, hS, hl, hr, fun _ _ => rfl, Nat.le_refl _⟩
  | t :: ts, a :: as, b, β, [], hS, hl, hr => by simp at hl
  | t :: ts, a :: as, b, β, v0 :: vs, hS, hl, hr => by
    have hl' : as.length = vs.length := by simpa using hl
    have hr' : ∀ (i : Nat) c v, as[i]? = some c → vs[i]? = some v → Rep β c v := fun i c v hc hv => hr (i + 1) c v (by simpa using hc) (by simpa using hv)
    have h0 := hr 0 a v0 rfl rfl
    have plain : ∃ β', SatB X β' (nilRows P ts as b).2 w ∧ (a :: (nilRows P ts as b).1).length = (v0 :: vs).length ∧ (∀ (i : Nat) c v, (a :: (nilRows P ts as b).1)[i]? = some c → (v0 :: vs)[i]? = some v → Rep β' c v) ∧ (∀ c, c < b.length → β' c = β c) ∧ b.length ≤ (nilRows P ts as b).2.length := by
      obtain ⟨β', k1, k2, k3, k4, k5⟩ := nilRows_sound (P := P) ts as b hS hl' hr'
      refine ⟨β', k1, by simp [k2], ?_, k4, k5⟩
      intro i c v hc hv
      cases i with
      | zero => simp at hc hv; subst hc; subst hv; exact h0.mono (Sat.agree_mono hS k4)
      | succ i => exact k3 i c v (by simpa using hc) (by simpa using hv)
    cases a with
    | nils =>
      simp only [nilRows]
      split
      · rename_i e ks he hk
        obtain ⟨_, _, _, _, _, _, hpos, _⟩ := kinds_spec (by rw [he] at hk; simpa using hk : kinds P e = some ks)
        have hS2 : SatB X (ext β b.length (.slc (.slice none 0 0))) (b ++ [some (.row e ks [])]) w := Sat.addNilRow (st := ⟨[], b⟩) hS e ks hpos
        have hm := ext_mono (r := .slc (.slice none 0 0)) (hS.bound b.length (Nat.le_refl _))
        obtain ⟨β', k1, k2, k3, k4, k5⟩ := nilRows_sound (P := P) ts as (b ++ [some (.row e ks [])]) hS2 hl' (fun i c v hc hv => (hr' i c v hc hv).mono hm)
        simp only [List.length_append, List.length_cons, List.length_nil] at k4 k5
        refine ⟨β', k1, by simp [k2], ?_, fun c hc => (k4 c (by omega)).trans (ext_agree _ _ _ c hc), by simp only; omega⟩
        intro i c v hc hv
        cases i with
        | zero =>
          simp at hc hv
          subst hc; subst hv
          rw [h0.nils_inv]
          exact .sl (by rw [k4 b.length (by omega)]; exact ext_self _ _ _)
        | succ i => exact k3 i c v (by simpa using hc) (by simpa using hv)
      · exact plain
    | _ => simpa only [nilRows] using plain
theorem lifted_ok {P : Program} {g : FuncId} {F : FunS} (hF : FunOk P g F) : FunOk P g (lifted P g F) := by
  intro args b K hk X β w vs hS hlen hrep
  unfold lifted at hk
  split at hk
  · exact hF args b K hk X β w vs hS hlen hrep
  · simp only at hk
    obtain ⟨β', k1, k2, k3, k4, k5⟩ := nilRows_sound (P := P) (paramsOf P g) args b (vs := vs.toList) hS (by simpa using hlen) (fun i c v hc hv => hrep i c v hc (by simpa using hv))
    refine (hF _ _ _ hk X β' w vs k1 (by simpa using k2) (fun i c v hc hv => k3 i c v hc (by simpa using hv))).mono ?_
    rintro e w' ⟨v, u, β1, b1, rfl, hK, hr, hB, hag, hle⟩
    exact ⟨v, u, β1, b1, rfl, hK, hr, hB, fun c hc => (hag c (by omega)).trans (k4 c hc), by omega⟩

/-- all that was told holds, of loops so far as functions are entered so deep -/
structure KnowOk (P : Program) (N : Know) (d : Nat) : Prop where
  mixed : P.follows .mixedOrders = true
  ctr : ∀ g sp, N.Γ g = some sp → Contract P g sp
  loops : ∀ d', d' < d → ∀ f i S n0, N.Λ f i = some S → LoopOk (envOf P N d') f n0 i (lp P f i) S
  funs : ∀ g G, N.Τ g = some G → FunOk P g G

theorem runFn_ok0 {P : Program} {N : Know} (hm : P.follows .mixedOrders = true) (hΓ : ∀ g sp, N.Γ g = some sp → Contract P g sp) (hT : ∀ g G, N.Τ g = some G → FunOk P g G) : ∀ d,
    (∀ d', d' < d → ∀ f i S n0, N.Λ f i = some S → LoopOk (envOf P N d') f n0 i (lp P f i) S) → ∀ g, FunOk P g (runFn P N d g) := by
  intro d
  induction d with
  | zero => intro _ g args b K hk; exact hk.elim
  | succ d ih0 =>
    intro hΛ
    have ih1 := ih0 fun d' hd => hΛ d' (by omega)
    have ih : EnvOk (envOf P N d) := by
      refine ⟨hm, hΓ, fun g args b K hk => ?_⟩
      simp only [envOf] at hk
      split at hk
      · rename_i G hG
        exact lifted_ok (framed_ok (hT g G hG)) args b K hk
      · exact ih1 g args b K hk
    intro g args b K hk X β w vs hB hlen hrep
    simp only [runFn, body] at hk
    split at hk
    · exact hk.elim
    · rename_i fn hfn
      split at hk
      · exact hk.elim
      · rename_i c hc
        refine calls_of_wp hfn hc (exec_sound (n0 := b.length) (X := X) ih c (resTmps fn) 0 ?_ (β := β) ?_ (Nat.le_refl _) hk ?_)
        · intro j p S hj hS
          have := hΛ d (by omega) g (0 + j) S b.length hS
          have e : lp P g (0 + j) = p := by simp [lp, hfn, hc, List.getD, hj]
          rw [e] at this
          exact this
        · refine SatB.to hB (by simp [hlen]) ?_ rfl
          intro i v hv
          rw [look_some] at hv
          by_cases hi : i < args.length
          · rw [List.getElem?_append_left (by simpa using hi)] at hv
            simp only [List.getElem?_map, Option.map_eq_some_iff, Option.some.injEq] at hv
            obtain ⟨x, hx, rfl⟩ := hv
            have hiv : i < vs.size := by omega
            exact ⟨vs[i], by rw [Array.getElem?_append_left hiv]; simp [hiv], hrep i x _ hx (by simp [hiv])⟩
          · rw [List.getElem?_append_right (by simpa using hi)] at hv
            rw [List.getElem?_replicate] at hv
            split at hv <;> simp at hv
        · intro o β' st' a' w' hk' hs hag hle
          cases o with
          | exit id => exact hk'.elim
          | normal =>
            simp only at hk'
            split at hk'
            · rename_i v hv
              obtain ⟨u, hu, hr⟩ := resultOf_sound hs hv
              exact ⟨hs.defers, u, hu, v, u, β', st'.b, rfl, hk', hr, hs.toB, hag, hle⟩
            · exact hk'.elim
          | ret =>
            simp only at hk'
            split at hk'
            · rename_i v hv
              obtain ⟨u, hu, hr⟩ := resultOf_sound hs hv
              exact ⟨hs.defers, u, hu, v, u, β', st'.b, rfl, hk', hr, hs.toB, hag, hle⟩
            · exact hk'.elim

/-- A function that writes what it is handed, from its body. -/
theorem funOk_of {N : Know} (d : Nat) (hN : KnowOk P N d) {f : FuncId} {G : FunS} (h : ∀ args b K, G args b K → runFn P N d f args b K) : FunOk P f G :=
  fun args b K hk => runFn_ok0 hN.mixed hN.ctr hN.funs d hN.loops f args b K (h args b K hk)

/-- So where what is of no more use is forgotten first. -/
theorem funOk_gc {N : Know} (d : Nat) (hN : KnowOk P N d) {f : FuncId} {G : FunS} (h : ∀ args b K, G args b K → runFn P N d f args b fun v b1 => gcV b.length v b1 K) : FunOk P f G := by
  intro args b K hk X β w vs hS hlen hrep
  refine (runFn_ok0 hN.mixed hN.ctr hN.funs d hN.loops f args b _ (h args b K hk) X β w vs hS hlen hrep).mono ?_
  rintro e w' ⟨v, u, β1, b1, rfl, hK, hr, hB, hag, hle⟩
  have hs : Sat X β1 { t := [some v], b := b1 } { tmps := #[u], defers := [] } w' := SatB.to (st := { t := [some v], b := b1 }) hB rfl (by
    intro i v' hv
    cases i with
    | zero => rw [look_zero] at hv; cases hv; exact ⟨u, rfl, hr⟩
    | succ i => rw [look_succ, look_nil] at hv; cases hv) rfl
  obtain ⟨β', h1, h2, h3⟩ := gc_sat hs (fun _ => true) hle
  unfold gcV at hK
  split at hK
  · rename_i v' hv'
    obtain ⟨u', hu', hr'⟩ := h1.tmps 0 v' hv'
    simp at hu'
    subst hu'
    exact ⟨v', u, β', _, rfl, hK, hr', h1.toB, fun c hc => (h2 c hc).trans (hag c hc), h3⟩
  · exact hK.elim

/-! ### the answer as a contract tells it -/
def asgR (β : Asg) (acc : List (Nat × Blk)) : Asg := fun j => match acc[j]? with
  | some (i, _) => β i
  | none => none
structure AccR (b : List (Option Blk)) (acc : List (Nat × Blk)) : Prop where
  at_ : ∀ p ∈ acc, look b p.1 = some p.2 ∧ p.2.isSlice = true
  apart : ∀ (j j' : Nat) p p', acc[j]? = some p → acc[j']? = some p' → p.1 = p'.1 → p.2.own = true → j = j'

theorem asgR_mono {acc acc' : List (Nat × Blk)} (h : acc <+: acc') : ∀ b r, asgR β acc b = some r → asgR β acc' b = some r := by
  obtain ⟨l, rfl⟩ := h
  intro b r hb
  unfold asgR at *
  cases hq : acc[b]? with
  | none => rw [hq] at hb; cases hb
  | some p =>
    have hlt := (List.getElem?_eq_some_iff.1 hq).1
    rw [List.getElem?_append_left hlt, hq]
    rw [hq] at hb
    exact hb

theorem AccR.add {b : List (Option Blk)} {acc : List (Nat × Blk)} (h : AccR b acc) {i : Nat} {k : Blk} (hk : look b i = some k) (hs : k.isSlice = true) (hn : k.own = true → ∀ p ∈ acc, p.1 ≠ i) : AccR b (acc ++ [(i, k)]) := by
  constructor
  · intro p hp
    rcases List.mem_append.1 hp with hp | hp
    · exact h.at_ p hp
    · simp at hp; subst hp; exact ⟨hk, hs⟩
  · intro j j' p p' hj hj' he ho
    rw [List.getElem?_append] at hj hj'
    split at hj <;> split at hj'
    · exact h.apart j j' p p' hj hj' he ho
    · rename_i h1 h2
      have hlt := (List.getElem?_eq_some_iff.1 hj').1
      have e0 : j' - acc.length = 0 := by simp at hlt; omega
      rw [e0] at hj'
      simp at hj'
      subst hj'
      have hm := List.mem_of_getElem? hj
      have := (h.at_ p hm).1
      simp only at he
      rw [he, hk] at this
      cases this
      exact absurd he (hn ho p hm)
    · rename_i h1 h2
      have hlt := (List.getElem?_eq_some_iff.1 hj).1
      have e0 : j - acc.length = 0 := by simp at hlt; omega
      rw [e0] at hj
      simp at hj
      subst hj
      exact absurd he.symm (hn ho p' (List.mem_of_getElem? hj'))
    · have hlt := (List.getElem?_eq_some_iff.1 hj).1
      have hlt' := (List.getElem?_eq_some_iff.1 hj').1
      simp at hlt hlt'
      omega

theorem resC_sound {b : List (Option Blk)} {c c' : IV} {acc acc' : List (Nat × Blk)} {u : Value} (hr : Rep β c u) (h : resC b c acc = some (c', acc')) (ho : AccR b acc) :
    acc <+: acc' ∧ Rep (asgR β acc') c' u ∧ AccR b acc' := by
  have hslice : ∀ {i : Nat} {k : Blk}, Rep β (.sl i) u → Rep (asgR β (acc ++ [(i, k)])) (.sl acc.length) u := by
    intro i k hr
    obtain ⟨A, n, cp, rfl, hβ⟩ := hr.sl_inv
    refine .sl ?_
    simp [asgR, hβ]
  unfold resC at h
  split at h
  · cases h; exact ⟨List.prefix_refl _, by rw [hr.int_inv.1]; exact .int hr.int_inv.2, ho⟩
  · cases h; exact ⟨List.prefix_refl _, by rw [hr.bool_inv]; exact .bool, ho⟩
  · rename_i i
    split at h
    · rename_i e ks xs hk
      split at h
      · cases h
      · rename_i hn
        cases h
        refine ⟨⟨_, rfl⟩, hslice hr, ho.add hk rfl (fun _ p hp => ?_)⟩
        intro he
        apply hn
        rw [List.any_eq_true]
        exact ⟨p, hp, by simp [he]⟩
    · rename_i ks xs hk
      cases h
      exact ⟨⟨_, rfl⟩, hslice hr, ho.add hk rfl (fun h0 => by cases h0)⟩
    · cases h
  · cases h

theorem resL_sound {b : List (Option Blk)} : ∀ {cs cs' : List IV} {acc acc' : List (Nat × Blk)} {us : List Value}, cs.length = us.length → (∀ (i : Nat) c v, cs[i]? = some c → us[i]? = some v → Rep β c v) →
    resL b cs acc = some (cs', acc') → AccR b acc →
    acc <+: acc' ∧ cs'.length = us.length ∧ (∀ (i : Nat) c v, cs'[i]? = some c → us[i]? = some v → Rep (asgR β acc') c v) ∧ AccR b acc' := by
  intro cs
  induction cs with
  | nil =>
    intro cs' acc acc' us hl hr h ho
    simp [resL] at h; obtain ⟨rfl, rfl⟩ := h; exact ⟨List.prefix_refl _, hl, by simp, ho⟩
  | cons c cs ih =>
    intro cs' acc acc' us hl hr h ho
    cases us with
    | nil => simp at hl
    | cons u us =>
      simp only [resL] at h
      split at h
      · rename_i c1 acc1 h1
        split at h
        · rename_i cs1 acc2 h2
          cases h
          obtain ⟨p1, r1, o1⟩ := resC_sound (hr 0 c u rfl rfl) h1 ho
          obtain ⟨p2, l2, r2, o2⟩ := ih (by simpa using hl) (fun i c v hc hv => hr (i + 1) c v (by simpa using hc) (by simpa using hv)) h2 o1
          refine ⟨p1.trans p2, by simp [l2], ?_, o2⟩
          intro i c' v hc hv
          cases i with
          | zero => simp at hc hv; subst hc; subst hv; exact r1.mono (asgR_mono p2)
          | succ i => simp at hc hv; exact r2 i c' v hc hv
        · cases h
      · cases h

theorem resV_sound {b : List (Option Blk)} {c c' : IV} {acc acc' : List (Nat × Blk)} {u : Value} (hr : Rep β c u) (h : resV b c acc = some (c', acc')) (ho : AccR b acc) :
    acc <+: acc' ∧ Rep (asgR β acc') c' u ∧ AccR b acc' := by
  unfold resV at h
  split at h
  · rename_i cs
    split at h
    · rename_i cs1 acc1 h1
      cases h
      obtain ⟨xs, rfl, hx⟩ := hr.agg_inv
      obtain ⟨p1, l1, r1, o1⟩ := resL_sound (us := xs.toList) (by simpa using hx.1) (fun i c v hc hv => hx.2.2 i c v hc (by simpa using hv)) h1 ho
      exact ⟨p1, .agg (by simpa using l1) hx.2.1 (fun i c v hc hv => r1 i c v hc (by simpa using hv)), o1⟩
    · cases h
  · exact resC_sound hr h ho

theorem resVs_sound {b : List (Option Blk)} : ∀ {cs cs' : List IV} {acc acc' : List (Nat × Blk)} {us : List Value}, cs.length = us.length → (∀ (i : Nat) c v, cs[i]? = some c → us[i]? = some v → Rep β c v) →
    resVs b cs acc = some (cs', acc') → AccR b acc →
    acc <+: acc' ∧ cs'.length = us.length ∧ (∀ (i : Nat) c v, cs'[i]? = some c → us[i]? = some v → Rep (asgR β acc') c v) ∧ AccR b acc' := by
  intro cs
  induction cs with
  | nil =>
    intro cs' acc acc' us hl hr h ho
    simp [resVs] at h; obtain ⟨rfl, rfl⟩ := h; exact ⟨List.prefix_refl _, hl, by simp, ho⟩
  | cons c cs ih =>
    intro cs' acc acc' us hl hr h ho
    cases us with
    | nil => simp at hl
    | cons u us =>
      simp only [resVs] at h
      split at h
      · rename_i c1 acc1 h1
        split at h
        · rename_i cs1 acc2 h2
          cases h
          obtain ⟨p1, r1, o1⟩ := resV_sound (hr 0 c u rfl rfl) h1 ho
          obtain ⟨p2, l2, r2, o2⟩ := ih (by simpa using hl) (fun i c v hc hv => hr (i + 1) c v (by simpa using hc) (by simpa using hv)) h2 o1
          refine ⟨p1.trans p2, by simp [l2], ?_, o2⟩
          intro i c' v hc hv
          cases i with
          | zero => simp at hc hv; subst hc; subst hv; exact r1.mono (asgR_mono p2)
          | succ i => simp at hc hv; exact r2 i c' v hc hv
        · cases h
      · cases h

theorem SatB.res {b : List (Option Blk)} {acc : List (Nat × Blk)} (h : SatB X β b w) (ho : AccR b acc) : SatB X (asgR β acc) ((acc.map (·.2)).map some) w := by
  have lk : ∀ {j k}, look ((acc.map (·.2)).map some) j = some k → ∃ i, acc[j]? = some (i, k) := by
    intro j k hj
    rw [look_some] at hj
    simp only [List.getElem?_map, Option.map_eq_some_iff, List.map_map] at hj
    obtain ⟨⟨i, x⟩, hx, hxk⟩ := hj
    simp at hxk
    subst hxk
    exact ⟨i, hx⟩
  refine ⟨rfl, fun i v hv => by simp [look_nil, look_zero, look_succ] at hv, ?_, ?_, ?_, h.below, h.frm.sub (fun c k id hc hu => ?_), rfl⟩
  · intro j k hj
    obtain ⟨i, hi⟩ := lk hj
    obtain ⟨h1, h2⟩ := ho.at_ _ (List.mem_of_getElem? hi)
    have hb := h.blks i k h1
    have hβ : asgR β acc j = β i := by simp [asgR, hi]
    cases k with
    | row e ks xs =>
      obtain ⟨A, n, c, k1, k2⟩ := hb
      exact ⟨A, n, c, hβ.trans k1, k2⟩
    | ro ks xs =>
      obtain ⟨A, c, k1, k2⟩ := hb
      exact ⟨A, c, hβ.trans k1, k2⟩
    | _ => simp [Blk.isSlice] at h2
  · intro j j' k k' id hj hj' hown hu hu'
    obtain ⟨i, hi⟩ := lk hj
    obtain ⟨i', hi'⟩ := lk hj'
    obtain ⟨h1, _⟩ := ho.at_ _ (List.mem_of_getElem? hi)
    obtain ⟨h1', _⟩ := ho.at_ _ (List.mem_of_getElem? hi')
    have e := h.disj i i' k k' id h1 h1' hown ⟨hu.1.congr (by simp [asgR, hi]), hu.2⟩ ⟨hu'.1.congr (by simp [asgR, hi']), hu'.2⟩
    exact ho.apart j j' _ _ hi hi' e hown
  · intro j hj
    simp only [List.length_map] at hj
    simp [asgR, hj]
  · obtain ⟨i, hi⟩ := lk hc
    exact ⟨i, k, (ho.at_ _ (List.mem_of_getElem? hi)).1, ⟨hu.1.congr (by simp [asgR, hi]), hu.2⟩, fun h => h⟩

theorem resOf_sound {b : List (Option Blk)} {v v' : IV} {bs : List Blk} {u : Value} (h : SatB X β b w) (hr : Rep β v u) (hv : resOf b v = some (v', bs)) :
    ∃ β', Rep β' v' u ∧ SatB X β' (bs.map some) w ∧ bs.all Blk.isSlice = true := by
  have h0 : AccR b [] := ⟨by simp, by simp⟩
  have hfin : ∀ {acc : List (Nat × Blk)}, AccR b acc → (acc.map (·.2)).all Blk.isSlice = true := by
    intro acc ho
    rw [List.all_eq_true]
    intro k hk
    obtain ⟨p, hp, rfl⟩ := List.mem_map.1 hk
    exact (ho.at_ p hp).2
  unfold resOf at hv
  split at hv
  · rename_i vs
    simp only [Option.map_eq_some_iff, Prod.mk.injEq] at hv
    obtain ⟨⟨vs', acc⟩, hvs, rfl, rfl⟩ := hv
    obtain ⟨xs, rfl, hl, hx⟩ := hr.tup_inv
    obtain ⟨_, l1, r1, o1⟩ := resVs_sound (us := xs.toList) (by simpa using hl) (fun i c v hc hv => hx i c v hc (by simpa using hv)) hvs h0
    exact ⟨asgR β acc, .tup (by simpa using l1) (fun i c v hc hv => r1 i c v hc (by simpa using hv)), h.res o1, hfin o1⟩
  · simp only [Option.map_eq_some_iff, Prod.mk.injEq] at hv
    obtain ⟨⟨v1, acc⟩, hvs, rfl, rfl⟩ := hv
    obtain ⟨_, r1, o1⟩ := resV_sound hr hvs h0
    exact ⟨asgR β acc, r1, h.res o1, hfin o1⟩

/-! ### what is known of arguments -/
mutual
def okV : IV → Prop
  | .int k n => inK k n
  | .agg cs => okVs cs
  | .fn _ cs => okVs cs
  | .tup vs => okVs vs
  | _ => True
def okVs : List IV → Prop
  | [] => True
  | c :: cs => okV c ∧ okVs cs
end
theorem okVs_iff : ∀ {l : List IV}, okVs l ↔ ∀ v ∈ l, okV v := by
  intro l
  induction l with
  | nil => simp [okVs]
  | cons c cs ih => simp [okVs, ih]
theorem okVs_of {l : List IV} {xs : Array Value} (hl : l.length = xs.size) (h : ∀ (i : Nat) c v, l[i]? = some c → xs[i]? = some v → okV c) : okVs l := by
  rw [okVs_iff]
  intro v hv
  obtain ⟨i, hi⟩ := List.getElem?_of_mem hv
  have hlt := (List.getElem?_eq_some_iff.1 hi).1
  exact h i v xs[i] hi (by simp)
theorem Rep.ok {v : IV} {u : Value} (h : Rep β v u) : okV v := by
  induction h with
  | int h => simpa [okV] using h
  | agg hl h1 h ih => simp only [okV]; exact okVs_of hl ih
  | fn hl h ih => simp only [okV]; exact okVs_of hl ih
  | tup hl h ih => simp only [okV]; exact okVs_of hl ih
  | _ => simp [okV]
/-- a slice that is only read -/
def okB : Blk → Prop
  | .ro ks xs => okRows ks xs ∧ 0 < ks.length ∧ xs.length ≤ maxLen
  | _ => False

theorem contract_of {N : Know} (d : Nat) (hN : KnowOk P N d) {f : FuncId} {sp : Spec}
    (h : ∀ as bs, okVs as → (∀ k ∈ bs, okB k) → sp.pre as bs → comes P N d f as bs fun v bs' => sp.F as bs = (v, bs')) : Contract P f sp := by
  intro as bs X β w vs hX hB hS hro hlen hrep hpre
  have hok : okVs as := okVs_of hlen (fun i c v hc hv => (hrep i c v hc hv).ok)
  have hbs : ∀ k ∈ bs, okB k := by
    intro k hk
    obtain ⟨j, hj⟩ := List.getElem?_of_mem hk
    have hb := hS.blks j k (by rw [look_some]; simp [hj])
    have := hro k hk
    cases k with
    | ro ks xs =>
      obtain ⟨A, c, h1, h2, h3, h4, _⟩ := hb
      exact ⟨h3, h4, Nat.le_trans h2.1 h2.2.1⟩
    | _ => cases this
  have hc := runFn_ok0 hN.mixed hN.ctr hN.funs d hN.loops f as (bs.map some) _ (h as bs hok hbs hpre) X β w vs hS hlen hrep
  refine hc.mono fun e w' he => ?_
  obtain ⟨v, u, β1, b', rfl, hk, hr, hB', hag, hle⟩ := he
  split at hk
  · rename_i v' bs' hres
    obtain ⟨β', h1, h2, h3⟩ := resOf_sound hB' hr hres
    rw [hk]
    exact ⟨u, β', rfl, by have := hB'.below; rw [hX, hB] at this; exact Keeps.of_below this, h1, h2, h3⟩
  · exact hk.elim

end
end Go.Vs
