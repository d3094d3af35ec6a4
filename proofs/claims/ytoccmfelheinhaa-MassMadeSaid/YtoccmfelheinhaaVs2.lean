import Derived.Test.YtoccmfelheinhaaVs1
import Derived.LoopN
import Derived.ProofKit
import Derived.Deep.Slices
/- Vs, part N: one operation, whatever it is; a row of operations. -/
set_option linter.unusedVariables false
set_option linter.unusedSimpArgs false
namespace Go.Vs
open Go.RowKit

structure EnvOk (E : Env) : Prop where
  mixed : E.P.follows .mixedOrders = true
  ctr : ∀ g sp, E.Γ g = some sp → Contract E.P g sp
  inl : ∀ g args b K, E.inl g args b K → ∀ X β w (vs : Array Value), SatB X β b w → args.length = vs.size → (∀ (i : Nat) c v, args[i]? = some c → vs[i]? = some v → Rep β c v) →
    Calls E.P g vs w fun e w' => ∃ v u β' b', e = .returned u ∧ K v b' ∧ Rep β' v u ∧ SatB X β' b' w' ∧ (∀ c, c < b.length → β' c = β c) ∧ b.length ≤ b'.length
  frm : ∀ g args b K (R : IV → List (Option Blk) → Prop), E.frm g = true → noNil args = true → (∀ v b', (∀ i, i < b.length → idxOf (reachOf b args) i = none → look b' i = look b i) → R v b') → E.inl g args b K → E.inl g args b fun v b' => K v b' ∧ R v b'

section
variable {E : Env} {X : Ctx} {β : Asg} {st : St} {a : Act} {w : World} {Q : Exit → Act → World → Prop} {K : St → Prop} {Kw : Act → World → Prop} {o : Oper} {wr : Bool}

theorem call_inl {g : FuncId} (h : Sat X β st a w) (hE : EnvOk E) (hen : enters E.P g = true) {f : Operand} {args : Array Operand} {tys : Array TypeId} (hop : o.op = .call { callee := .value f, args := args, argTypes := tys })
    {caps : List IV} (hf : ev st f = some (.fn g caps)) {vs : List IV} (hvs : evs st args.toList = some vs)
    (hk : E.inl g (vs ++ caps) st.b fun v b => K (St.setT { t := st.t, b } o.dst v)) (hA : After X β st w o wr K Kw) (hwr : wr = true) : o.wp E.P a w Kw Q := by
  obtain ⟨cs, ef, hcl, hcr⟩ := (ev_rep h hf).fn_inv
  obtain ⟨l1, l2⟩ := evs_spec hvs
  have hlen : args.size = vs.length := by simpa using l1
  have hcall := hE.inl g _ _ _ hk X β w (args.map a.eval ++ cs) h.toB (by simp [hlen, hcl]) (fun i c v hc hv => by
    by_cases hi : i < vs.length
    · rw [List.getElem?_append_left hi] at hc
      rw [Array.getElem?_append_left (by simp; omega)] at hv
      simp only [Array.getElem?_map, Option.map_eq_some_iff] at hv
      obtain ⟨x, hx, rfl⟩ := hv
      exact ev_rep h (l2 i x c (by simpa using hx) hc)
    · rw [List.getElem?_append_right (by omega)] at hc
      rw [Array.getElem?_append_right (by simp; omega)] at hv
      refine hcr (i - vs.length) c v hc ?_
      simpa [hlen] using hv)
  refine call_enter hop ef hen hcall ?_
  rintro e w' ⟨v, u, β', b', rfl, hk', hrep, hB, hag, hlen'⟩
  refine ⟨u, rfl, ?_⟩
  have hgo := h.go hB (h.agree_mono hag)
  exact hA _ _ _ _ hk' (hgo.setT hrep o.dst) hag (by rw [setT_b]; exact hlen') (fun h0 => by rw [hwr] at h0; cases h0)

theorem callK_sound (h : Sat X β st a w) (hE : EnvOk E) {c : Call} (hop : o.op = .call c) (hk : callK E st c o.dst K) (hA : After X β st w o (writes E o) K Kw) : o.wp E.P a w Kw Q := by
  obtain ⟨callee, args, tys⟩ := c
  unfold callK at hk
  split at hk
  · rename_i f hcal
    simp only at hcal
    subst hcal
    split at hk
    · rename_i g caps vs hf hvs
      split at hk
      · rename_i hen
        split at hk
        · rename_i sp hsp
          split at hk
          · rename_i as acc hpk
            exact call_ctr h (hE.ctr g sp hsp) hen hop hf hvs hpk hk.1 hk.2 hA
          · exact hk.elim
        · exact call_inl h hE hen hop hf hvs hk hA (by
            rename_i hsp
            unfold writes
            rw [hop]
            cases f with
            | func g' =>
              simp [ev] at hf
              have hx : isExt E.P g' = false := by
                rw [hf.1]
                unfold enters at hen
                unfold isExt
                split at hen
                · rename_i fn hfn
                  rw [Bool.and_eq_true] at hen
                  cases hb : fn.body with
                  | none => rw [hb] at hen; simp at hen
                  | some b => rfl
                · cases hen
              rw [hf.1] at hx
              simp [hf.1, hsp, hx]
            | _ => rfl)
      · exact hk.elim
    · exact hk.elim
  · rename_i hcal
    simp only at hcal
    subst hcal
    split at hk
    · rename_i s x t t' hargs htys
      obtain ⟨args⟩ := args
      obtain ⟨tys⟩ := tys
      simp only at hargs htys
      subst hargs; subst htys
      split at hk
      · rename_i e ks by_ b d he hks hby hs hx
        split at hk
        · rename_i e' ks' xs ks2 ys hb hd
          split at hk
          · rename_i hc
            obtain ⟨rfl, rfl, rfl, rfl, hbd⟩ := hc
            exact append_sound h hop he (kinds_of he hks) (bytes_of he hby) hs hx hb hd hbd hk.1 hk.2 hA
          · exact hk.elim
        · exact hk.elim
      · rename_i e ks by_ d he hks hby hs hx
        split at hk
        · rename_i ks2 ys hd
          split at hk
          · rename_i hc
            obtain ⟨rfl, rfl⟩ := hc
            exact appendNil_sound h hop he (kinds_of he hks) (bytes_of he hby) hs hx hd hk.1 hk.2 hA
          · exact hk.elim
        · exact hk.elim
      · exact hk.elim
    · exact hk.elim
  · exact hk.elim

theorem stepK_sound (h : Sat X β st a w) (hE : EnvOk E) (hk : stepK E st o K) (hA : After X β st w o (writes E o) K Kw) : o.wp E.P a w Kw Q := by
  unfold stepK at hk
  split at hk
  · rename_i p v hps
    have hp : ∀ q, p = some q → q := by
      intro q hq
      subst hq
      exact hk.1
    have hk' : K (st.setT o.dst v) := by
      cases p with
      | none => exact hk
      | some q => exact hk.2
    obtain ⟨u, hu, hrun⟩ := pureStep_sound (fun x v hx => ev_rep h hx) h.blks hps hp
    exact fin_value hrun h hu hk' hA (fun _ _ => rfl) (Nat.le_refl _) (fun _ => ⟨fun _ _ h _ => h, .inl (Keeps.refl w)⟩)
  · split at hk
    · rename_i x hop
      split at hk
      · rename_i e ks hx he hks
        exact assignNil_sound h hop hx (kinds_of he hks) hk hA
      · exact hk.elim
    · rename_i e hop
      exact alloc_sound h hop hk hA
    · rename_i e x hop
      split at hk
      · rename_i v hv
        split at hk
        · exact hk.elim
        · rename_i hnt
          have hr := ev_rep h hv
          exact newVar_sound h (hr.cells (notTup_ne (by simpa using hnt))) hk hA (box_run hop)
      · exact hk.elim
    · rename_i t x y hop
      split at hk
      · rename_i av vv hx hy
        exact storeAt_sound h hop hx hy hk hA (by simp [writes, hop])
      · exact hk.elim
    · rename_i t len parts hop
      split at hk
      · rename_i e ks he hks
        split at hk
        · rename_i xs hl
          split at hk
          · rename_i hle
            exact buildSlice_sound h hop he (kinds_of he hks) hl hle hk hA
          · exact hk.elim
        · exact hk.elim
      · exact hk.elim
    · rename_i t l c hop
      split at hk
      · rename_i e ks by_ n m he hks hby hl hc
        split at hk
        · rename_i hlc
          exact makeSlice_sound h hop he (kinds_of he hks) (bytes_of he hby) hl hlc hc hk.1 hk.2 hA
        · exact hk.elim
      · exact hk.elim
    · rename_i t x lo hi mx hop
      split at hk
      · rename_i e b he hx
        split at hk
        · rename_i ks xs hr
          split at hk
          · rename_i l hh hlo hhi
            split at hk
            · rename_i hsz
              exact cut_sound h hop he hx hr hlo hhi hsz hk.1 hk.2 hA
            · exact hk.elim
          · exact hk.elim
        · exact hk.elim
      · exact hk.elim
    · rename_i t x y t' hop
      split at hk
      · rename_i b hx hy
        split at hk
        · rename_i ks xs e hr he
          exact eqlNil_sound h hop he hx hy hr hk hA
        · exact hk.elim
      · exact hk.elim
    · rename_i c hop
      exact callK_sound h hE hop hk hA
    · exact hk.elim

/-! ### guards -/
theorem yielded_of {ops : Array Oper} {j : Nat} {oj : Oper} {d : Tmp} {b : Bool} (h : Sat X β st a w) (hj : ops[j]? = some oj) (hd : oj.dst = some d) (hb : look st.t d = some (.bool b)) : yielded ops a.tmps j = some b := by
  obtain ⟨u, hu, hr⟩ := h.tmps d _ hb
  rw [hr.bool_inv] at hu
  simp [yielded, hj, hd, hu]
theorem yielded_none {ops : Array Oper} {j : Nat} {oj : Oper} {d : Tmp} (h : Sat X β st a w) (hj : ops[j]? = some oj) (hd : oj.dst = some d) (hb : look st.t d = some (.tup [])) : yielded ops a.tmps j = none := by
  obtain ⟨u, hu, hr⟩ := h.tmps d _ hb
  obtain ⟨xs, rfl, _⟩ := hr.tup_inv
  simp [yielded, hj, hd, hu]

theorem setT_same (h : Sat X β st a w) {d : Tmp} {v : IV} (hd : look st.t d = some v) : st.setT (some d) v = st := by
  cases st with
  | mk t b =>
    simp only [St.setT, setR_eq]
    congr 1
    rw [look_some] at hd
    apply List.ext_getElem?
    intro i
    rw [List.getElem?_set]
    split
    · rename_i e; subst e; have hlt := (List.getElem?_eq_some_iff.1 hd).1; rw [if_pos hlt]; exact hd.symm
    · rfl

/-! what an operation leaves alone -/
def Left (facts : List (Option Blk)) (st : St) : Prop := ∀ b k, look facts b = some k → look st.b b = some k
theorem Left.setT {facts : List (Option Blk)} {st : St} (h : Left facts st) (d : Option Tmp) (v : IV) : Left facts (st.setT d v) := by
  intro b k hb; rw [setT_b]; exact h b k hb
theorem noneAt_spec {α : Type} {l : List (Option α)} {i : Nat} (h : noneAt l i = true) : look l i = none := by
  unfold noneAt at h
  cases hl : look l i with
  | none => rfl
  | some x => rw [hl] at h; cases h
theorem noneAll_spec {α : Type} {l : List (Option α)} : ∀ {is : List Nat}, noneAll l is = true → ∀ i ∈ is, look l i = none
  | [], _, i, hi => by cases hi
  | j :: is, h, i, hi => by
    simp only [noneAll, Bool.and_eq_true] at h
    rcases List.mem_cons.1 hi with rfl | hi
    · exact noneAt_spec h.1
    · exact noneAll_spec h.2 i hi
theorem idxOf_not : ∀ {l : List Nat} {b : Nat}, b ∉ l → idxOf l b = none
  | [], _, _ => rfl
  | x :: l, b, h => by
    simp only [List.mem_cons, not_or] at h
    simp only [idxOf]
    rw [if_neg (fun e => h.1 e.symm), idxOf_not h.2]
    rfl
theorem Left.setB {facts : List (Option Blk)} {st : St} {t : List (Option IV)} {l : List (Option Blk)} (h : Left facts st) {b : Nat} (hb : look facts b = none) (k : Blk) : Left facts (St.setB { t, b := st.b ++ l } b k) := by
  intro c k' hc
  have hne : ¬ b = c := fun e => by subst e; rw [hb] at hc; cases hc
  have h1 := h c k' hc
  unfold St.setB
  simp only
  rw [look_set, if_neg hne, look_app, if_pos (look_lt h1)]
  exact h1
theorem Left.setB' {facts : List (Option Blk)} {st : St} (h : Left facts st) {b : Nat} (hb : look facts b = none) (k : Blk) : Left facts (st.setB b k) := by
  intro c k' hc
  have hne : ¬ b = c := fun e => by subst e; rw [hb] at hc; cases hc
  unfold St.setB
  simp only
  rw [look_set, if_neg hne]
  exact h c k' hc
theorem storeAt_left {P : Program} {facts : List (Option Blk)} {t : TypeId} {av vv : IV} (hl : Left facts st) (ha : addrOk facts (some av) = true) (hk : storeAt P st t av vv K) : storeAt P st t av vv fun st' => K st' ∧ Left facts st' := by
  unfold storeAt at hk ⊢
  cases hsz : sizeT P t with
  | none => rw [hsz] at hk; exact hk.elim
  | some n =>
    rw [hsz] at hk
    try simp only at hk ⊢
    split at hk
    · exact hk.elim
    rename_i hc
    rw [if_neg hc]
    cases av with
    | ptr b o =>
      have hb := noneAt_spec (show noneAt facts b = true from ha)
      try simp only at hk ⊢
      split at hk
      · rename_i t' cells hlk
        split at hk
        · rename_i hle
          simp only [hlk, if_pos hle]
          exact ⟨hk, hl.setB hb _⟩
        · exact hk.elim
      · exact hk.elim
    | pdyn b o i =>
      have hb := noneAt_spec (show noneAt facts b = true from ha)
      try simp only at hk ⊢
      split at hk
      · rename_i t' k xs k' x hlk
        split at hk
        · rename_i hcc
          simp only [hlk, if_pos hcc]
          exact ⟨hk.1, hk.2, hl.setB' hb _⟩
        · exact hk.elim
      · rename_i t' cells k' x hlk
        split at hk
        · rename_i xs hxs
          try simp only [hlk, hxs]
          exact ⟨hk.1, hk.2, hl.setB' hb _⟩
        · exact hk.elim
      · exact hk.elim
    | prow b i sz f =>
      have hb := noneAt_spec (show noneAt facts b = true from ha)
      try simp only at hk ⊢
      split at hk
      · rename_i e ks xs hlk
        split at hk
        · rename_i ys hys
          split at hk
          · rename_i hcc
            simp only [hlk, hys, if_pos hcc]
            exact ⟨hk.1, hk.2, hl.setB' hb _⟩
          · exact hk.elim
        · exact hk.elim
      · exact hk.elim
    | prowd b i sz f j =>
      have hb := noneAt_spec (show noneAt facts b = true from ha)
      try simp only at hk ⊢
      split at hk
      · rename_i e ks xs k x hlk
        split at hk
        · rename_i hcc
          simp only [hlk, if_pos hcc]
          exact ⟨hk.1, hk.2, hl.setB' hb _⟩
        · exact hk.elim
      · exact hk.elim
    | _ => exact hk.elim
theorem stepK_left {facts : List (Option Blk)} (hE : EnvOk E) (hl : Left facts st) (hrow : ∀ b k, look facts b = some k → k.isRow = false) (ht : touchOk E facts st o = true) (hw : writes E o = true) (hk : stepK E st o K) : stepK E st o fun st' => K st' ∧ Left facts st' := by
  unfold stepK at hk ⊢
  cases hps : pureStep E.P st o with
  | some pv =>
    obtain ⟨p, v⟩ := pv
    rw [hps] at hk
    try simp only at hk ⊢
    cases p with
    | none => exact ⟨hk, hl.setT _ _⟩
    | some q => exact ⟨hk.1, hk.2, hl.setT _ _⟩
  | none =>
    rw [hps] at hk
    try simp only at hk ⊢
    cases hop : o.op with
    | store t x v =>
      rw [hop] at hk
      try simp only at hk ⊢
      unfold touchOk at ht
      rw [hop] at ht
      simp only at ht
      split at hk
      · rename_i av vv hav hvv
        rw [hav] at ht
        try simp only [hav, hvv]
        have := storeAt_left (K := fun st' => K (st'.setT o.dst (.tup []))) hl ht hk
        have e : (fun st' : St => K (st'.setT o.dst (.tup [])) ∧ Left facts st') = fun st' => K (st'.setT o.dst (.tup [])) ∧ Left facts (st'.setT o.dst (.tup [])) := by
          funext st'
          have : Left facts (st'.setT o.dst (.tup [])) = Left facts st' := by unfold Left; rw [setT_b]
          rw [this]
        rw [e] at this
        exact this
      · exact hk.elim
    | call c =>
      rw [hop] at hk
      try simp only at hk ⊢
      unfold touchOk at ht
      rw [hop] at ht
      simp only at ht
      obtain ⟨callee, args, tys⟩ := c
      cases callee with
      | value f =>
        unfold callK at hk ⊢
        try simp only at hk ht ⊢
        split at hk
        · rename_i g caps vs hf hvs
          rw [hf, hvs] at ht
          replace ht : (match E.Γ g with
            | some _ => true
            | none => E.frm g && noNil (vs ++ caps) && noneAll facts (reachOf st.b (vs ++ caps))) = true := ht
          split at hk
          · rename_i hen
            rw [if_pos hen]
            split at hk
            · rename_i sp hsp
              split at hk
              · rename_i as acc hpk
                refine ⟨hk.1, hk.2, ?_⟩
                intro b k hb
                rw [setT_b]
                have h1 := hl b k hb
                show look (afterCall st (acc.map (·.2)) (sp.F as (acc.map (·.1)))) b = some k
                unfold afterCall
                have h2 : look (if (sp.F as (acc.map (·.1))).2.all Blk.own then st.b else freeze st.b (acc.map (·.2))) b = some k := by
                  split
                  · exact h1
                  · exact freeze_nonrow _ _ _ _ h1 (hrow b k hb)
                rw [look_app, if_pos (look_lt h2)]
                exact h2
              · exact hk.elim
            · rename_i hsp
              rw [hsp] at ht
              simp only [Bool.and_eq_true] at ht
              have hn := noneAll_spec ht.2
              refine hE.frm g _ _ _ (fun v b' => Left facts (St.setT { t := st.t, b := b' } o.dst v)) ht.1.1 ht.1.2 ?_ hk
              intro v b' hb' b k hb
              rw [setT_b]
              have h1 := hl b k hb
              show look b' b = some k
              rw [hb' b (look_lt h1) (idxOf_not fun hm => by rw [hn b hm] at hb; cases hb)]
              exact h1
          · exact hk.elim
        · exact hk.elim
      | _ => cases ht
    | _ => unfold writes at hw; rw [hop] at hw; cases hw

/-- A guard: the operation is wanted, or it isn't; what is known of the guard is kept. -/
theorem guardK_sound {ops : Array Oper} (h : Sat X β st a w) {K1 K0 : St → Prop} (hk : guardK ops.toList st o K1 K0) :
    (Region.wanted o (yielded ops a.tmps) = true ∧ K1 st) ∨ (Region.wanted o (yielded ops a.tmps) = false ∧ K0 st) := by
  unfold guardK at hk
  split at hk
  · rename_i hg
    exact .inl ⟨by simp [Region.wanted, hg], hk⟩
  · rename_i j want hg
    split at hk
    · rename_i oj hj
      have hj' : ops[j]? = some oj := by rw [nthR_eq] at hj; simpa using hj
      split at hk
      · rename_i d hd
        split at hk
        · rename_i b hb
          have hy := yielded_of h hj' hd hb
          have hw : Region.wanted o (yielded ops a.tmps) = (b == want) := by simp [Region.wanted, hg, hy]
          rw [hw]
          have hs := setT_same h hb
          cases want <;> cases b <;> simp [br] at hk ⊢ <;> rw [hs] at hk <;> exact hk
        · rename_i hb
          have hy := yielded_none h hj' hd hb
          refine .inr ⟨by simp [Region.wanted, hg, hy], hk⟩
        · exact hk.elim
      · exact hk.elim
    · exact hk.elim


theorem normT_eq (st : St) (K : St → Prop) : normT st K = K st := by unfold normT; rw [spineT_eq]
theorem normB_eq (a : Array Bool) (K : Array Bool → Prop) : normB a K = K a := by unfold normB; rw [spineB_eq]

theorem execOps_sound (hE : EnvOk E) {ops : Array Oper} {n0 : Nat} : ∀ {l : List Oper} {β : Asg} {st : St} {a : Act} {w : World}, Sat X β st a w → n0 ≤ st.b.length → execOps E ops.toList l st K →
    (∀ β' st' a' w', K st' → Sat X β' st' a' w' → (∀ b, b < n0 → β' b = β b) → n0 ≤ st'.b.length → Q .normal a' w') → wpList E.P ops Q l a w := by
  intro l
  induction l with
  | nil => intro β st a w h hn hk hQ; exact hQ β st a w hk h (fun _ _ => rfl) hn
  | cons o rest ih =>
    intro β st a w h hn hk hQ
    simp only [execOps] at hk
    unfold wpList
    rcases guardK_sound h hk with ⟨hw, hk⟩ | ⟨hw, hk⟩
    · rw [if_pos hw]
      refine .inl (stepK_sound h hE hk ?_)
      intro β' st' a' w' hk' hs hag hle _
      rw [normT_eq] at hk'
      exact ih hs (Nat.le_trans hn hle) hk' (fun β'' st'' a'' w'' hk'' hs'' hag'' hle'' => hQ β'' st'' a'' w'' hk'' hs'' (fun b hb => (hag'' b hb).trans (hag b (by omega))) hle'')
    · rw [if_neg (by rw [hw]; simp)]
      exact ih (h.setT (undef_rep β) o.dst) (by rw [setT_b]; exact hn) hk hQ

end
end Go.Vs

/- Vs, part O: a region that draws its order. -/
set_option linter.unusedVariables false
set_option linter.unusedSimpArgs false
namespace Go.Vs
open Go.RowKit

section
variable {P : Program} {ops : Array Oper} {Q : Exit → Act → World → Prop} {F : World → Prop} {hd : Nat}

/-- Whatever order is drawn; behind each operation of the head F holds. -/
def wpAnyF (P : Program) (ops : Array Oper) (Q : Exit → Act → World → Prop) (F : World → Prop) (hd : Nat) : Nat → Array Bool → Act → World → Prop
  | 0, listed, a, w => Region.ready .any ops listed = [] ∧ Q .normal a w
  | fuel + 1, listed, a, w => (Region.ready .any ops listed = [] → Q .normal a w) ∧
    ∀ i ∈ Region.ready .any ops listed, wpOp P ops Q i (fun a' w' => (i < hd → F w → F w') ∧ wpAnyF P ops Q F hd fuel (listed.setIfInBounds i true) a' w') a w

theorem wpAny_of_F : ∀ (fuel : Nat) (listed : Array Bool) (a : Act) (w : World), wpAnyF P ops Q F hd fuel listed a w → wpAny P .any ops Q fuel listed a w
  | 0, _, _, _, h => h
  | fuel + 1, _, _, _, h => ⟨h.1, fun i hi => wpOp_mono (fun a' w' h' => wpAny_of_F fuel _ a' w' h'.2) (h.2 i hi)⟩

/-- whatever is listed, what it waits for is listed, too -/
def Closed (ops : Array Oper) (listed : Array Bool) : Prop := ∀ (j : Nat) (o : Oper), ops[j]? = some o → listed.getD j false = true → ∀ e ∈ o.after, Region.binds .any e = true → listed.getD e.on false = true
theorem getD_set_mono {l : Array Bool} {i k : Nat} (h : l.getD k false = true) : (l.setIfInBounds i true).getD k false = true := by
  by_cases e : i = k
  · subst e
    rcases Nat.lt_or_ge i l.size with h' | h'
    · simp [Array.getD_eq_getD_getElem?, h']
    · simp [Array.getD_eq_getD_getElem?, Array.getElem?_eq_none h'] at h
  · rw [getD_set_ne false e]; exact h
theorem Closed.step {listed : Array Bool} (h : Closed ops listed) {i : Nat} (hi : i ∈ Region.ready .any ops listed) : Closed ops (listed.setIfInBounds i true) := by
  intro j o hj hl e he hb
  by_cases hij : i = j
  · subst hij
    obtain ⟨_, o', ho', hall⟩ := mem_ready.1 hi
    rw [hj] at ho'
    cases ho'
    exact getD_set_mono (hall e he hb)
  · rw [getD_set_ne false hij] at hl
    exact getD_set_mono (h j o hj hl e he hb)
theorem bit1_spec (i j : Nat) : Nat.testBit (bit1 i) j = decide (i = j) := by
  show Nat.testBit (1 <<< i) j = _
  rw [Nat.one_shiftLeft, Nat.testBit_two_pow]
theorem lor_spec (x y j : Nat) : Nat.testBit (Nat.lor x y) j = (Nat.testBit x j || Nat.testBit y j) := Nat.testBit_or x y j
theorem depMask_spec {ms : List Nat} {i : Nat} : ∀ {l : List Edge} {m : Nat}, Nat.testBit (depMask ms l m) i = true → Nat.testBit m i = true ∨ ∃ e ∈ l, Region.binds .any e = true ∧ (e.on = i ∨ ∃ q, ms[e.on]? = some q ∧ Nat.testBit q i = true)
  | [], m, h => .inl h
  | e :: l, m, h => by
    simp only [depMask] at h
    rcases depMask_spec h with h1 | ⟨e', he', h2⟩
    · split at h1
      · rename_i hb
        rw [lor_spec, lor_spec, Bool.or_eq_true, Bool.or_eq_true, bit1_spec] at h1
        rcases h1 with (h1 | h1) | h1
        · exact .inl h1
        · exact .inr ⟨e, List.mem_cons_self .., hb, .inl (by simpa using h1)⟩
        · rw [nthR_eq] at h1
          cases hq : ms[e.on]? with
          | none => rw [hq] at h1; simp at h1
          | some q => rw [hq] at h1; exact .inr ⟨e, List.mem_cons_self .., hb, .inr ⟨q, hq, h1⟩⟩
      · exact .inl h1
    · exact .inr ⟨e', List.mem_cons_of_mem _ he', h2⟩
/-- each mask tells of what is listed wherever its operation may be -/
def MaskOk (ops : Array Oper) (ms : List Nat) : Prop := ∀ (j : Nat) (q : Nat) (o : Oper), ms[j]? = some q → ops[j]? = some o → ∀ listed, Closed ops listed → (∀ e ∈ o.after, Region.binds .any e = true → listed.getD e.on false = true) → ∀ i, Nat.testBit q i = true → listed.getD i false = true
theorem depMasks_ok {ops : Array Oper} : ∀ {l : List Oper} {ms : List Nat}, l = ops.toList.drop ms.length → MaskOk ops ms → MaskOk ops (depMasks l ms)
  | [], ms, _, h => h
  | o :: l, ms, hl, h => by
    simp only [depMasks]
    have ho : ops[ms.length]? = some o := by
      have h1 : (ops.toList.drop ms.length)[0]? = some o := by rw [← hl]; rfl
      rw [List.getElem?_drop] at h1
      simpa using h1
    refine depMasks_ok (ms := ms ++ [depMask ms o.after.toList 0]) ?_ ?_
    · have h1 := congrArg (List.drop 1) hl
      rw [List.drop_drop] at h1
      simpa using h1
    · intro j q o' hj ho' listed hc hall i hi
      rw [List.getElem?_append] at hj
      split at hj
      · exact h j q o' hj ho' listed hc hall i hi
      · rename_i hge
        have hlt := (List.getElem?_eq_some_iff.1 hj).1
        have hj0 : j = ms.length := by simp at hlt; omega
        subst hj0
        rw [ho] at ho'
        cases ho'
        simp at hj
        subst hj
        rcases depMask_spec hi with h1 | ⟨e, he, hb, h2⟩
        · simp at h1
        · have hl2 := hall e (by simpa using he) hb
          rcases h2 with h2 | ⟨q', hq', hbit⟩
          · rw [← h2]; exact hl2
          · have hlt2 := (List.getElem?_eq_some_iff.1 hq').1
            have hsz : e.on < ops.size := by
              have h3 : ms.length < ops.size := (Array.getElem?_eq_some_iff.1 ho).1
              omega
            have hoe : ops[e.on]? = some ops[e.on] := by simp [hsz]
            exact h e.on q' _ hq' hoe listed hc (hc e.on _ hoe hl2) i hbit
theorem depMasks_length : ∀ (l : List Oper) (ms : List Nat), (depMasks l ms).length = ms.length + l.length
  | [], ms => rfl
  | o :: l, ms => by simp [depMasks, depMasks_length l]; omega
theorem sinkGo_spec {need : Nat} : ∀ {l : List Nat}, sinkGo need l = true → ∀ m ∈ l, Nat.land m need = need
  | [], _, m, hm => by cases hm
  | x :: l, h, m, hm => by
    simp only [sinkGo, Bool.and_eq_true] at h
    rcases List.mem_cons.1 hm with rfl | hm
    · exact Nat.eq_of_beq_eq_true h.1
    · exact sinkGo_spec h.2 m hm
theorem needGo_spec {z : Oper → Bool} {i : Nat} : ∀ {l : List Oper} {k m : Nat}, (Nat.testBit m i = true ∨ ∃ o, l[i - k]? = some o ∧ k ≤ i ∧ z o = false) → Nat.testBit (needGo z k l m) i = true
  | [], k, m, h => by
    rcases h with h | ⟨o, h, _⟩
    · exact h
    · simp at h
  | o :: l, k, m, h => by
    simp only [needGo]
    refine needGo_spec ?_
    rcases h with h | ⟨o', h, hk, hz⟩
    · left
      split
      · exact h
      · rw [lor_spec, h]; rfl
    · by_cases hik : i = k
      · left
        subst hik
        simp at h
        subst h
        rw [hz]
        simp only [Bool.false_eq_true, if_false]
        rw [lor_spec, bit1_spec]
        simp
      · right
        refine ⟨o', ?_, by omega, hz⟩
        rw [show i - k = (i - (k + 1)) + 1 by omega] at h
        simpa using h
theorem sink_listed (hs : sinkOk ops hd = true) {listed : Array Bool} (hc : Closed ops listed) {i j : Nat} {oj oi : Oper} (hj : ops[j]? = some oj) (hall : ∀ e ∈ oj.after, Region.binds .any e = true → listed.getD e.on false = true) (hjd : hd ≤ j) (hi : i < hd)
    (hoi : ops[i]? = some oi) (hlz : lazyO oi = false) : listed.getD i false = true := by
  unfold sinkOk at hs
  have hlt : j < ops.size := (Array.getElem?_eq_some_iff.1 hj).1
  have hok : MaskOk ops (depMasks ops.toList []) := depMasks_ok (by simp) (by intro j q o hq; simp at hq)
  have hlen : (depMasks ops.toList []).length = ops.size := by rw [depMasks_length]; simp
  have hq : (depMasks ops.toList [])[j]? = some (depMasks ops.toList [])[j] := by simp [hlen, hlt]
  have hmem : (depMasks ops.toList [])[j] ∈ (depMasks ops.toList []).drop hd := by
    refine List.mem_of_getElem? (i := j - hd) ?_
    rw [List.getElem?_drop, show hd + (j - hd) = j by omega]
    exact hq
  have h1 := sinkGo_spec hs _ hmem
  refine hok j _ oj hq hj listed hc hall i ?_
  have h2 : Nat.testBit (needGo lazyO 0 (ops.toList.take hd) 0) i = true := by
    refine needGo_spec (.inr ⟨oi, ?_, Nat.zero_le _, hlz⟩)
    rw [Nat.sub_zero, List.getElem?_take, if_pos hi]
    simpa using hoi
  rw [← h1] at h2
  have h3 : Nat.testBit (Nat.land (depMasks ops.toList [])[j] (needGo lazyO 0 (ops.toList.take hd) 0)) i = (Nat.testBit (depMasks ops.toList [])[j] i && Nat.testBit (needGo lazyO 0 (ops.toList.take hd) 0) i) := Nat.testBit_and ..
  rw [h3, Bool.and_eq_true] at h2
  exact h2.1
theorem ev_b' (t : List (Option IV)) (b b' : List (Option Blk)) (x : Operand) : ev { t, b } x = ev { t, b := b' } x := by cases x <;> rfl
theorem needGo_mono {z z' : Oper → Bool} (h : ∀ o, z o = true → z' o = true) {i : Nat} : ∀ {l : List Oper} {k m m' : Nat}, (Nat.testBit m' i = true → Nat.testBit m i = true) → Nat.testBit (needGo z' k l m') i = true → Nat.testBit (needGo z k l m) i = true
  | [], k, m, m', hm, hh => hm hh
  | o :: l, k, m, m', hm, hh => by
    simp only [needGo] at hh ⊢
    refine needGo_mono h ?_ hh
    intro h1
    cases hz : z o with
    | true =>
      rw [if_pos (h o hz)] at h1
      exact hm h1
    | false =>
      simp only [Bool.false_eq_true, if_false]
      rw [lor_spec]
      split at h1
      · rw [hm h1]; rfl
      · rw [lor_spec, Bool.or_eq_true] at h1
        rcases h1 with h1 | h1
        · rw [hm h1]; rfl
        · rw [h1]; simp
theorem lazy_old {o : Oper} (h : lazyOld o = true) : lazyO o = true := by
  unfold lazyOld at h
  split at h
  · cases h
  · split at h
    · rename_i hop
      unfold lazyO
      rw [hop]
    · cases h
theorem sink_old {ops : Array Oper} {hd : Nat} (h : sinkOld ops hd = true) : sinkOk ops hd = true := by
  unfold sinkOld at h
  unfold sinkOk
  have key : ∀ (l : List Nat) (n n' : Nat), (∀ i, Nat.testBit n' i = true → Nat.testBit n i = true) → sinkGo n l = true → sinkGo n' l = true := by
    intro l n n' hn
    induction l with
    | nil => intro _; rfl
    | cons m l ih =>
      intro h
      simp only [sinkGo, Bool.and_eq_true] at h ⊢
      refine ⟨?_, ih h.2⟩
      have h1 := Nat.eq_of_beq_eq_true h.1
      have h2 : Nat.land m n' = n' := by
        apply Nat.eq_of_testBit_eq
        intro i
        have e : Nat.testBit (Nat.land m n') i = (Nat.testBit m i && Nat.testBit n' i) := Nat.testBit_and ..
        rw [e]
        cases hb : Nat.testBit n' i with
        | false => simp
        | true =>
          have h3 := hn i hb
          rw [← h1] at h3
          have e2 : Nat.testBit (Nat.land m n) i = (Nat.testBit m i && Nat.testBit n i) := Nat.testBit_and ..
          rw [e2, Bool.and_eq_true] at h3
          rw [h3.1]; rfl
      rw [h2]; exact Nat.beq_refl _
  exact key _ _ _ (fun i hi => needGo_mono (fun o => lazy_old) (fun h => h) hi) h
/-- what looks at numbered values alone is the same in each world -/
theorem ord_bin {op : BinOp} (ho : ordOp op = true) {P : Program} {t : TypeId} {x y : Operand} {a c : Value} {k : IntKind} {n : Int} (hc : c = .int k n) :
    (∃ b, (do eqGuard op t x y a c; binOp op t a c : Sem Value) = pure (.bool b)) ∨ (∃ s, (do eqGuard op t x y a c; binOp op t a c : Sem Value) = stuck s) ∨ (do eqGuard op t x y a c; binOp op t a c : Sem Value) = unsupported .addressObserved := by
  subst hc
  have hg : ∀ v : Value, eqGuard op t x y v (.int k n) = pure () := by
    intro v
    cases op <;> first | (cases ho; done) | rfl
  simp only [hg, pure_bind]
  cases a with
  | int k' m =>
    by_cases hk : k' = k
    · subst hk
      left
      cases op with
      | lss => exact ⟨decide (m < n), by simp [binOp, Op.intCmp]⟩
      | leq => exact ⟨decide (m ≤ n), by simp [binOp, Op.intCmp]⟩
      | gtr => exact ⟨decide (n < m), by simp [binOp, Op.intCmp]⟩
      | geq => exact ⟨decide (n ≤ m), by simp [binOp, Op.intCmp]⟩
      | _ => cases ho
    · right; left
      refine ⟨ "BinOp: operands of different kinds", ?_⟩
      cases op <;> first | (cases ho; done) | (simp only [binOp]; rw [if_pos hk])
  | pointer p => right; right; cases op <;> first | (cases ho; done) | (cases p <;> rfl)
  | _ => right; left; exact ⟨_, by cases op <;> first | (cases ho; done) | rfl⟩
theorem ord_exec {o : Oper} {op : BinOp} {t t2 : TypeId} {x : Operand} {k : IntKind} {n : Int} (hop : o.op = .binOp op t x (.const (.int k n)) t2) (ho : ordOp op = true) (P : Program) (a : Act) :
    (∃ b, ∀ w, (execOp a.eval o).run P w = .ok (.value (.bool b)) w) ∨ ((∀ w w1 v, (execOp a.eval o).run P w ≠ .ok (.value v) w1) ∧ ∀ w K Q, ¬ o.wp P a w K Q) := by
  have e : execOp a.eval o = (do let v ← (do eqGuard op t x (.const (.int k n)) (a.eval x) (a.eval (.const (.int k n))); binOp op t (a.eval x) (a.eval (.const (.int k n))) : Sem Value); pure (.value v)) := by
    unfold execOp
    rw [hop]
  rcases ord_bin ho (P := P) (t := t) (x := x) (y := .const (.int k n)) (a := a.eval x) (c := a.eval (.const (.int k n))) (k := k) (n := n) rfl with ⟨b, hb⟩ | ⟨s, hs⟩ | hs
  · left
    refine ⟨b, fun w => ?_⟩
    rw [e, hb]
    rfl
  · right
    refine ⟨fun w w1 v => ?_, fun w K Q h => ?_⟩
    · rw [e, hs]; simp [stuck]
    · unfold Oper.wp at h
      rw [e, hs] at h
      exact absurd h (by simp [stuck, Oper.upon])
  · right
    refine ⟨fun w w1 v => ?_, fun w K Q h => ?_⟩
    · rw [e, hs]; simp [unsupported]
    · unfold Oper.wp at h
      rw [e, hs] at h
      exact absurd h (by simp [unsupported, Oper.upon])
theorem lazy_run {o : Oper} (hl : lazyO o = true) {a : Act} {v : Value} {w w1 : World} (h : (execOp a.eval o).run P w = .ok (.value v) w1) (w' : World) : (execOp a.eval o).run P w' = .ok (.value v) w' := by
  unfold lazyO at hl
  split at hl
  · rename_i t i hop
    unfold execOp at *
    simp only [hop] at *
    unfold Instr.extract at *
    split at h
    · rename_i vs hvs
      cases hc : vs[i]? <;> simp_all
    · simp_all
  · rename_i x hop
    unfold execOp at *
    simp only [hop] at *
    simp_all
  · rename_i c x y hop
    unfold execOp at *
    simp only [hop] at *
    cases hc : a.eval c <;> simp_all [asBool, stuck]
  · rename_i op t x k n t2 hop
    rcases ord_exec hop hl P a with ⟨b, hb⟩ | ⟨h1, _⟩
    · rw [hb w] at h
      rw [hb w']
      simp_all
    · exact absurd h (h1 w w1 v)
  · cases hl
theorem lazy_value {o : Oper} (hl : lazyO o = true) {a : Act} {w : World} {K : Act → World → Prop} (h : o.wp P a w K Q) : ∃ v, (execOp a.eval o).run P w = .ok (.value v) w := by
  unfold lazyO at hl
  split at hl
  · rename_i t i hop
    unfold Oper.wp execOp at *
    simp only [hop] at *
    unfold Instr.extract at *
    cases hx : a.eval (.tmp t) with
    | tuple vs =>
      rw [hx] at h
      cases hc : vs[i]? with
      | some v => exact ⟨v, by simp [hc]⟩
      | none => simp only [hc] at h; exact absurd h (by simp [stuck, Oper.upon])
    | _ => rw [hx] at h; exact absurd h (by simp [stuck, Oper.upon])
  · rename_i x hop
    exact ⟨a.eval x, by unfold execOp; simp only [hop]; rfl⟩
  · rename_i c x y hop
    unfold Oper.wp execOp at *
    simp only [hop] at *
    cases hx : a.eval c with
    | bool b => exact ⟨if b then a.eval x else a.eval y, by simp [asBool]⟩
    | _ => rw [hx] at h; exact absurd h (by simp [asBool, stuck, Oper.upon])
  · rename_i op t x k n t2 hop
    rcases ord_exec hop hl P a with ⟨b, hb⟩ | ⟨_, h1⟩
    · exact ⟨.bool b, hb w⟩
    · exact absurd h (h1 w K Q)
  · cases hl
theorem lazy_pure {o : Oper} (hl : lazyO o = true) (st : St) (b : List (Option Blk)) : pureStep P { st with b := b } o = pureStep P st o := by
  have e : ∀ x, ev { st with b := b } x = ev st x := fun x => ev_b' st.t b st.b x
  unfold lazyO at hl
  split at hl
  · rename_i t i hop
    unfold pureStep
    simp only [hop]
    rfl
  · rename_i x hop
    unfold pureStep
    simp only [hop, e]
  · rename_i c x y hop
    unfold pureStep
    simp only [hop, e]
  · rename_i op t x k n t2 hop
    have e2 : ∀ x, plain { st with b := b } x = plain st x := fun x => by unfold plain; rw [e]
    have e3 : plainOp P { st with b := b } o = plainOp P st o := by
      unfold plainOp
      have e4 : plainEv { st with b := b } = plainEv st := by funext x; unfold plainEv; rw [e2]
      simp only [e2, e4]
    unfold pureStep
    simp only [hop, e, e3]
  · cases hl
theorem lazy_append {o : Oper} (hl : lazyO o = true) : appends o = false := by
  unfold lazyO at hl
  unfold appends
  split at hl <;> first | (cases hl; done) | (rename_i hop; simp only [hop])

/-- An operation of the head that is at hand, and yields its value wherever F holds, may be taken first. -/
theorem wpAnyF_first {F1 : World → Prop} {i : Nat} {oi : Oper} {v : Value} (hi : ops[i]? = some oi) (hmode : (F1 = F ∧ lazyO oi = false) ∨ ∀ w, F1 w) (hsel : ∀ (j : Nat) (o : Oper) cs b, ops[j]? = some o → o.op ≠ .select cs b)
    (hQ : ∀ c a w, Q (.panic c) (a.put oi.dst v) w → Q (.panic c) a w) (hs : sinkOk ops hd = true) (hih : i < hd) :
    ∀ (fuel : Nat) (listed : Array Bool) (a : Act) (w : World), Closed ops listed →
      (∀ j oj, ops[j]? = some oj → j ≠ i → listed.getD j true = false → (∀ e ∈ oj.after, Region.binds .any e = true → e.on ≠ i) → oi.apart ops oj = true) →
      i ∈ Region.ready .any ops listed → YieldsIf P ops F1 oi v a → F1 w →
      wpAnyF P ops Q F hd fuel (listed.setIfInBounds i true) (a.put oi.dst v) w → wpAnyF P ops Q F hd (fuel + 1) listed a w := by
  intro fuel
  induction fuel with
  | zero =>
    intro listed a w _ _ hr hy hF H
    refine ⟨fun h0 => (by rw [h0] at hr; cases hr), fun j hj => ?_⟩
    by_cases hji : j = i
    · subst hji
      exact hy.wpOp hi hF ⟨fun _ h => h, H⟩
    · have h1 := ready_mono hj hji
      rw [H.1] at h1
      cases h1
  | succ fuel ih =>
    intro listed a w hcl hfree hr hy hF H
    refine ⟨fun h0 => (by rw [h0] at hr; cases hr), fun j hj => ?_⟩
    by_cases hji : j = i
    · subst hji
      exact hy.wpOp hi hF ⟨fun _ h => h, H⟩
    · have hnext := H.2 j (ready_mono hj hji)
      obtain ⟨hun, oj, hoj, hall⟩ := mem_ready.1 hj
      have hi0 := (mem_ready.1 hr).1
      have hiF : listed.getD i false = false := by
        rcases Nat.lt_or_ge i listed.size with h' | h'
        · simp [h'] at hi0 ⊢; exact hi0
        · simp [Array.getElem?_eq_none h']
      have hno : ∀ e ∈ oj.after, Region.binds .any e = true → e.on ≠ i := fun e he hb heq => by
        have h1 := hall e he hb
        rw [heq, hiF] at h1
        cases h1
      have hnx : ∀ w', (j < hd → F w → F w') → F1 w' := by
        intro w' hw'
        rcases hmode with ⟨rfl, hlz⟩ | hall1
        · have hjh : j < hd := by
            rcases Nat.lt_or_ge j hd with h' | h'
            · exact h'
            · have h9 := sink_listed hs hcl hoj hall h' hih hi hlz
              rw [hiF] at h9
              cases h9
          exact hw' hjh hF
        · exact hall1 w'
      have hcomm := wpOp_putIf hoj (hfree j oj hoj hji hun hno) (fun cs b => hsel i oi cs b hi) (fun cs b => hsel j oj cs b hoj) hQ hy hnext
      refine wpOp_mono (fun a' w' h3 => ⟨h3.2.1, ?_⟩) hcomm
      refine ih (listed.setIfInBounds j true) a' w' (hcl.step hj) ?_ (ready_mono hr (Ne.symm hji)) h3.1 (hnx w' h3.2.1) ?_
      · intro k ok hok hki hunk hnok
        refine hfree k ok hok hki ?_ hnok
        by_cases hjk : j = k
        · subst hjk; exact hun
        · rw [getD_set_ne true hjk] at hunk; exact hunk
      · rw [Array.setIfInBounds_comm _ _ hji]
        exact h3.2.2

end

mutual
theorem Rep.det {β : Asg} : ∀ {v : IV} {u u' : Value}, kn v = true → Rep β v u → Rep β v u' → u = u'
  | .int k n, u, u', _, h, h' => by rw [h.int_inv.1, h'.int_inv.1]
  | .bool b, u, u', _, h, h' => by rw [h.bool_inv, h'.bool_inv]
  | .nilp, u, u', _, h, h' => by cases h; cases h'; rfl
  | .nils, u, u', _, h, h' => by rw [h.nils_inv, h'.nils_inv]
  | .nilf, u, u', _, h, h' => by cases h; cases h'; rfl
  | .unk, u, u', hk, _, _ => by simp [kn] at hk
  | .fn f cs, u, u', hk, h, h' => by
    obtain ⟨xs, rfl, hl, hr⟩ := h.fn_inv
    obtain ⟨ys, rfl, hl', hr'⟩ := h'.fn_inv
    have := RepL.det (cs := cs) (xs := xs.toList) (ys := ys.toList) (by simpa [kn] using hk) (by simpa using hl) (by simpa using hl') (by simpa using hr) (by simpa using hr')
    rw [show xs = ys from Array.ext' this]
  | .ptr b o, u, u', _, h, h' => by
    obtain ⟨id, rfl, h1⟩ := h.ptr_inv
    obtain ⟨id', rfl, h2⟩ := h'.ptr_inv
    rw [h1] at h2; cases h2; rfl
  | .pdyn b o i, u, u', _, h, h' => by
    cases h; cases h'
    rename_i h1 _ h2
    rw [h1] at h2; cases h2; rfl
  | .prow b i sz f, u, u', _, h, h' => by
    obtain ⟨g, o, n, c, rfl, h1⟩ := h.prow_inv
    obtain ⟨g', o', n', c', rfl, h2⟩ := h'.prow_inv
    rw [h1] at h2; cases h2; rfl
  | .prowd b i sz f j, u, u', _, h, h' => by
    cases h; cases h'
    rename_i h1 _ _ _ _ h2
    rw [h1] at h2; cases h2; rfl
  | .sl b, u, u', _, h, h' => Rep.det_sl h h'
  | .agg cs, u, u', hk, h, h' => by
    obtain ⟨xs, rfl, hl, _, hr⟩ := h.agg_inv
    obtain ⟨ys, rfl, hl', _, hr'⟩ := h'.agg_inv
    have := RepL.det (cs := cs) (xs := xs.toList) (ys := ys.toList) (by simpa [kn] using hk) (by simpa using hl) (by simpa using hl') (by simpa using hr) (by simpa using hr')
    rw [show xs = ys from Array.ext' this]
  | .tup cs, u, u', hk, h, h' => by
    obtain ⟨xs, rfl, hl, hr⟩ := h.tup_inv
    obtain ⟨ys, rfl, hl', hr'⟩ := h'.tup_inv
    have := RepL.det (cs := cs) (xs := xs.toList) (ys := ys.toList) (by simpa [kn] using hk) (by simpa using hl) (by simpa using hl') (by simpa using hr) (by simpa using hr')
    rw [show xs = ys from Array.ext' this]
theorem RepL.det {β : Asg} : ∀ {cs : List IV} {xs ys : List Value}, knL cs = true → cs.length = xs.length → cs.length = ys.length → (∀ (i : Nat) c v, cs[i]? = some c → xs[i]? = some v → Rep β c v) →
    (∀ (i : Nat) c v, cs[i]? = some c → ys[i]? = some v → Rep β c v) → xs = ys
  | [], xs, ys, _, h1, h2, _, _ => by
    rw [List.eq_nil_of_length_eq_zero h1.symm, List.eq_nil_of_length_eq_zero h2.symm]
  | c :: cs, [], _, _, h1, _, _, _ => by simp at h1
  | c :: cs, _ :: _, [], _, _, h2, _, _ => by simp at h2
  | c :: cs, x :: xs, y :: ys, hk, h1, h2, hr, hr' => by
    simp only [knL, Bool.and_eq_true] at hk
    have e0 := Rep.det hk.1 (hr 0 c x rfl rfl) (hr' 0 c y rfl rfl)
    have e1 := RepL.det (cs := cs) (xs := xs) (ys := ys) hk.2 (by simpa using h1) (by simpa using h2) (fun i c v hc hv => hr (i + 1) c v (by simpa using hc) (by simpa using hv)) (fun i c v hc hv => hr' (i + 1) c v (by simpa using hc) (by simpa using hv))
    rw [e0, e1]
end

theorem noRows_look : ∀ (l : List (Option Blk)) (b : Nat) (k : Blk), look (noRows l) b = some k → look l b = some k ∧ k.isRow = false := by
  intro l
  induction l with
  | nil => intro b k h; simp [noRows, look_nil] at h
  | cons x l ih =>
    intro b k h
    cases x with
    | none =>
      simp only [noRows] at h
      cases b with
      | zero => simp [look_nil, look_zero, look_succ] at h
      | succ b => simp only [look_nil, look_zero, look_succ] at h ⊢; exact ih b k h
    | some kk =>
      cases kk <;> simp only [noRows] at h <;> cases b <;> simp only [look_nil, look_zero, look_succ] at h ⊢ <;> first
        | exact ih _ k h
        | (cases h; exact ⟨rfl, rfl⟩)
        | cases h

theorem ev_b (t : List (Option IV)) (b b' : List (Option Blk)) (x : Operand) : ev { t, b } x = ev { t, b := b' } x := ev_b' t b b' x

theorem allOf_mem {f : Nat → Prop} : ∀ {l : List Nat}, allOf f l → ∀ i ∈ l, f i
  | [], _, i, hi => by cases hi
  | [j], h, i, hi => by simp at hi; subst hi; exact h
  | j :: k :: l, h, i, hi => by
    rcases List.mem_cons.1 hi with rfl | hi
    · exact h.1
    · exact allOf_mem (l := k :: l) h.2 i hi

theorem headOf_spec (E : Env) : ∀ (l : List Oper) (i : Nat) (o : Oper), i < headOf E l → l[i]? = some o → writes E o = false := by
  intro l
  induction l with
  | nil => intro i o h; simp [headOf] at h
  | cons x l ih =>
    intro i o h hi
    simp only [headOf] at h
    split at h
    · omega
    · rename_i hx
      cases i with
      | zero => simp at hi; subst hi; simpa using hx
      | succ i => simp at hi; exact ih i o (by omega) hi

section
variable {E : Env} {X : Ctx} {Q : Exit → Act → World → Prop} {K : St → Prop} {ops : Array Oper} {facts : List (Option Blk)} {hd n0 : Nat} {β0 : Asg}

theorem pick1_spec {listed : Array Bool} {gs : List (Nat × Bool)} {st : St} {i : Nat} : ∀ {l : List Nat}, pick1 E.P ops facts hd listed gs st l = some i → i ∈ l ∧ i < hd ∧ Region.free .any ops listed i = true ∧ ∃ o, ops[i]? = some o := by
  intro l
  induction l with
  | nil => intro h; simp [pick1] at h
  | cons j l ih =>
    intro h
    simp only [pick1] at h
    split at h
    · rename_i o ho
      split at h
      · rename_i hc
        cases h
        exact ⟨List.mem_cons_self .., hc.1, hc.2.2, o, ho⟩
      · obtain ⟨h1, h2⟩ := ih h
        exact ⟨List.mem_cons_of_mem _ h1, h2⟩
    · cases h

/-- something of the head waits, other than a part of what a call told -/
def Pend (ops : Array Oper) (hd : Nat) (listed : Array Bool) : Prop := ∃ j o, j < hd ∧ ops[j]? = some o ∧ lazyO o = false ∧ listed.getD j true = false
theorem Pend.mono {ops : Array Oper} {hd : Nat} {listed : Array Bool} {i : Nat} (h : Pend ops hd (listed.setIfInBounds i true)) : Pend ops hd listed := by
  obtain ⟨j, o, h1, h2, h3, h4⟩ := h
  refine ⟨j, o, h1, h2, h3, ?_⟩
  by_cases e : i = j
  · subst e
    rw [Array.getD_eq_getD_getElem?, Array.getElem?_setIfInBounds, if_pos rfl] at h4
    split at h4
    · simp at h4
    · simp at h4
  · rw [getD_set_ne true e] at h4; exact h4

theorem execAny_sound (hE : EnvOk E) (hsel : Region.noSelect ops = true) (hs : sinkOk ops hd = true) (hhd : ∀ i o, i < hd → ops[i]? = some o → writes E o = false)
    (hQ : ∀ c a w, ¬ Q (.panic c) a w) (happ : ops.any appends = true → ∀ b k, look facts b = some k → k.isRow = false) :
    ∀ (fuel : Nat) {listed : Array Bool} {gs : List (Nat × Bool)} {β : Asg} {st : St} {a : Act} {w : World}, Sat X β st a w → n0 ≤ st.b.length → (∀ b r, β0 b = some r → β b = some r) →
    (Pend ops hd listed → (∀ b k, look facts b = some k → BOk X β0 w b k) ∧ (ops.any appends = true → ∀ b k, look facts b = some k → look st.b b = some k)) →
    Closed ops listed → execAny E ops facts hd fuel listed gs st K →
    (∀ β' st' a' w', K st' → Sat X β' st' a' w' → (∀ b, b < n0 → β' b = β b) → n0 ≤ st'.b.length → Q .normal a' w') →
    wpAnyF E.P ops Q (fun w => ∀ b k, look facts b = some k → BOk X β0 w b k) hd fuel listed a w := by
  intro fuel
  induction fuel with
  | zero =>
    intro listed gs β st a w h hn hm hH hcl hk hK
    simp only [execAny, normT_eq, normB_eq] at hk
    split at hk
    · rename_i hr
      exact ⟨hr, hK β st a w hk h (fun _ _ => rfl) hn⟩
    · exact hk.elim
  | succ fuel ih =>
    intro listed gs β st a w h hn hm hH hcl hk hK
    simp only [execAny, normT_eq, normB_eq] at hk
    split at hk
    · rename_i hr
      exact ⟨fun _ => hK β st a w hk h (fun _ _ => rfl) hn, fun i hi => by rw [hr] at hi; cases hi⟩
    · rename_i r rs hr
      split at hk
      · -- one is taken first
        rename_i i hp
        obtain ⟨hmem, hih, hfree, o, ho⟩ := pick1_spec hp
        rw [ho] at hk
        simp only at hk
        rw [← hr] at hmem
        have hun : listed.getD i true = false := (mem_ready.1 hmem).1
        have hHs : ∀ {st' : St}, st'.b = st.b → (Pend ops hd (listed.setIfInBounds i true) → (∀ b k, look facts b = some k → BOk X β0 w b k) ∧ (ops.any appends = true → ∀ b k, look facts b = some k → look st'.b b = some k)) := by
          intro st' e hp
          rw [e]
          exact hH hp.mono
        have hgo : ∀ {v : Value} {F1 : World → Prop}, ((F1 = fun w => ∀ b k, look facts b = some k → BOk X β0 w b k) ∧ lazyO o = false ∨ ∀ w, F1 w) → YieldsIf E.P ops F1 o v a → F1 w → wpAnyF E.P ops Q (fun w => ∀ b k, look facts b = some k → BOk X β0 w b k) hd fuel (listed.setIfInBounds i true) (a.put o.dst v) w → wpAnyF E.P ops Q (fun w => ∀ b k, look facts b = some k → BOk X β0 w b k) hd (fuel + 1) listed a w :=
          fun hmode hy hF1 hw => wpAnyF_first ho hmode (Region.noSelect_spec hsel) (fun c a w hq => absurd hq (hQ _ _ _)) hs hih fuel listed a w hcl (Region.free_spec ho hfree) hmem hy hF1 hw
        rcases guardK_sound h hk with ⟨hw, hk⟩ | ⟨hw, hk⟩
        · split at hk
          · rename_i p v hps
            split at hk
            · rename_i hkn
              have hp' : ∀ q, p = some q → q := by intro q hq; subst hq; exact hk.1
              have hk' : execAny E ops facts hd fuel (listed.setIfInBounds i true) (newG gs o true) (st.setT o.dst v) K := by
                cases p with
                | none => exact hk
                | some q => exact hk.2
              cases hlz : lazyO o with
              | false =>
                obtain ⟨hF, hinv⟩ := hH ⟨i, o, hih, ho, hlz, hun⟩
                have hrun : ∀ w', (∀ b k, look facts b = some k → BOk X β0 w' b k) → ∃ u, Rep β v u ∧ (execOp a.eval o).run E.P w' = .ok (.value u) w' := by
                  intro w' hF'
                  exact pureStep_sound (st := { st with b := facts }) (fun x v hx => ev_rep h (by rw [ev_b st.t st.b facts x]; exact hx)) (fun b k hb => (hF' b k hb).mono hm) hps hp'
                obtain ⟨u, hu, hrun0⟩ := hrun w hF
                have hy : YieldsIf E.P ops (fun w => ∀ b k, look facts b = some k → BOk X β0 w b k) o u a := by
                  refine .inl ⟨hw, fun w' hF' => ?_⟩
                  obtain ⟨u', hu', hrun'⟩ := hrun w' hF'
                  rw [Rep.det hkn hu hu']
                  exact hrun'
                exact hgo (.inl ⟨rfl, hlz⟩) hy hF (ih (h.setT hu o.dst) (by rw [setT_b]; exact hn) hm (hHs (setT_b _ _ _)) (hcl.step hmem) hk' hK)
              | true =>
                rw [lazy_pure hlz st facts, ← lazy_pure hlz st []] at hps
                obtain ⟨u, hu, hrun0⟩ := pureStep_sound (st := { st with b := [] }) (w := w) (X := X) (fun x v hx => ev_rep h (by rw [ev_b st.t st.b [] x]; exact hx)) (fun b k hb => by rw [look_nil] at hb; cases hb) hps hp'
                have hy : YieldsIf E.P ops (fun _ => True) o u a := .inl ⟨hw, fun w' _ => lazy_run hlz hrun0 w'⟩
                exact hgo (.inr fun _ => trivial) hy trivial (ih (h.setT hu o.dst) (by rw [setT_b]; exact hn) hm (hHs (setT_b _ _ _)) (hcl.step hmem) hk' hK)
            · exact hk.elim
          · exact hk.elim
        · have hy : YieldsIf E.P ops (fun _ => True) o undef a := .inr ⟨hw, rfl⟩
          exact hgo (.inr fun _ => trivial) hy trivial (ih (h.setT (undef_rep β) o.dst) (by rw [setT_b]; exact hn) hm (hHs (setT_b _ _ _)) (hcl.step hmem) hk hK)
      · -- whichever is at hand
        refine ⟨fun h0 => (by rw [h0] at hr; cases hr), fun i hi => ?_⟩
        rw [hr] at hi
        have hki := allOf_mem hk i hi
        rw [← hr] at hi
        obtain ⟨hun, o, ho, hall⟩ := mem_ready.1 hi
        rw [ho] at hki
        simp only at hki
        unfold wpOp
        rw [ho]
        simp only
        -- what holds of the head behind it
        have hafter : ∀ {st' : St} {w' : World}, (i < hd → Pend ops hd listed → (∀ b k, look facts b = some k → BOk X β0 w' b k) ∧ (ops.any appends = true → ∀ b k, look facts b = some k → look st'.b b = some k)) →
            (Pend ops hd (listed.setIfInBounds i true) → (∀ b k, look facts b = some k → BOk X β0 w' b k) ∧ (ops.any appends = true → ∀ b k, look facts b = some k → look st'.b b = some k)) := by
          intro st' w' himp hex
          rcases Nat.lt_or_ge i hd with hlt | hge
          · exact himp hlt hex.mono
          · exfalso
            obtain ⟨j, oj, hj, hoj, hlz, hjl⟩ := hex
            have h1 := sink_listed hs hcl ho hall hge hj hoj hlz
            have hne : i ≠ j := by omega
            rw [getD_set_ne true hne] at hjl
            rcases Nat.lt_or_ge j listed.size with h' | h'
            · simp [h'] at h1 hjl; rw [h1] at hjl; cases hjl
            · simp [Array.getElem?_eq_none h'] at hjl
        rcases guardK_sound h hki with ⟨hw, hki⟩ | ⟨hw, hki⟩
        · rw [if_pos hw]
          refine .inl (stepK_sound h hE hki ?_)
          intro β' st' a' w' hk' hsat hag hle hrel
          have hap : appends o = true → ops.any appends = true := by
            intro h1
            rw [Array.any_eq_true]
            have hlt' := (Array.getElem?_eq_some_iff.1 ho).1
            exact ⟨i, hlt', by rw [(Array.getElem?_eq_some_iff.1 ho).2]; exact h1⟩
          have hF2 : i < hd → (∀ b k, look facts b = some k → BOk X β0 w b k) → ∀ b k, look facts b = some k → BOk X β0 w' b k := by
            intro hlt hF b k hb
            have hR := hrel (hhd i o hlt ho)
            rcases hR.world with hkp | ⟨h1, b1, e, ks, xs, id, hb1, hu1, hbut⟩
            · exact (hF b k hb).keeps hkp
            · have hlz : lazyO o = false := by
                cases hz : lazyO o with
                | false => rfl
                | true => rw [lazy_append hz] at h1; cases h1
              obtain ⟨_, hinv⟩ := hH ⟨i, o, hlt, ho, hlz, hun⟩
              refine (hF b k hb).but hbut (fun hu => ?_)
              have hbk := hinv (hap h1) b k hb
              have hnr := happ (hap h1) b k hb
              have hu' : UsesK β b k id := ⟨by
                rcases hu.1 with h5 | ⟨ad, n, c, h5, h6⟩
                · exact .inl (hm _ _ h5)
                · exact .inr ⟨ad, n, c, hm _ _ h5, h6⟩, hu.2⟩
              have := h.disj b1 b _ k id hb1 hbk rfl ⟨hu1, .inl rfl⟩ hu'
              subst this
              rw [hb1] at hbk
              cases hbk
              cases hnr
          have hFi : i < hd → Pend ops hd listed → (∀ b k, look facts b = some k → BOk X β0 w' b k) ∧ (ops.any appends = true → ∀ b k, look facts b = some k → look st'.b b = some k) := by
            intro hlt hp
            obtain ⟨hF, hinv⟩ := hH hp
            have hR := hrel (hhd i o hlt ho)
            exact ⟨hF2 hlt hF, fun h1 b k hb => hR.keep b k (hinv h1 b k hb) (happ h1 b k hb)⟩
          refine ⟨hF2, ?_⟩
          exact ih hsat (Nat.le_trans hn hle) (fun b r hb => h.agree_mono hag b r (hm b r hb)) (hafter hFi) (hcl.step hi) hk' (fun β'' st'' a'' w'' hk'' hs'' hag'' hle'' => hK β'' st'' a'' w'' hk'' hs'' (fun b hb => (hag'' b hb).trans (hag b (by omega))) hle'')
        · rw [if_neg (by rw [hw]; simp)]
          have hFi : i < hd → Pend ops hd listed → (∀ b k, look facts b = some k → BOk X β0 w b k) ∧ (ops.any appends = true → ∀ b k, look facts b = some k → look (st.setT o.dst (.tup [])).b b = some k) := by
            intro _ hp
            rw [setT_b]
            exact hH hp
          exact ⟨fun _ h => h, ih (h.setT (undef_rep β) o.dst) (by rw [setT_b]; exact hn) hm (hafter hFi) (hcl.step hi) hki hK⟩

theorem maskOf_go (l : List Nat) : ∀ (m i : Nat), Nat.testBit (l.foldl (fun m i => Nat.lor m (Nat.shiftLeft 1 i)) m) i = (Nat.testBit m i || decide (i ∈ l)) := by
  induction l with
  | nil => intro m i; simp
  | cons x l ih =>
    intro m i
    rw [List.foldl_cons, ih]
    have h1 : Nat.lor m (Nat.shiftLeft 1 x) = m ||| 2 ^ x := by
      show m ||| (1 <<< x) = _
      rw [Nat.one_shiftLeft]
    rw [h1, Nat.testBit_or, Nat.testBit_two_pow]
    by_cases h : x = i
    · subst h; simp
    · have h' : ¬ i = x := fun e => h e.symm
      simp [h, h']
theorem maskOf_spec (l : List Nat) (i : Nat) : Nat.testBit (maskOf l) i = decide (i ∈ l) := by
  unfold maskOf; rw [maskOf_go]; simp
theorem land_zero {x y : Nat} (h : Nat.beq (Nat.land x y) 0 = true) (i : Nat) (hx : Nat.testBit x i = true) : Nat.testBit y i = false := by
  have h1 : x &&& y = 0 := Nat.eq_of_beq_eq_true h
  have h2 := congrArg (fun n => Nat.testBit n i) h1
  simp only [Nat.testBit_and, hx, Bool.true_and, Nat.zero_testBit] at h2
  exact h2
theorem lineRest_spec {i d l : Nat} : ∀ {ps : List OpI}, lineRest i d l ps = true → ∀ p ∈ ps, Nat.testBit p.a i = true ∨ (Nat.beq (Nat.land d p.l) 0 = true ∧ Nat.beq (Nat.land d p.d) 0 = true ∧ Nat.beq (Nat.land l p.d) 0 = true)
  | [], _, p, hp => by cases hp
  | q :: ps, h, p, hp => by
    simp only [lineRest, Bool.and_eq_true, Bool.or_eq_true] at h
    rcases List.mem_cons.1 hp with rfl | hp
    · rcases h.1 with h1 | h1
      · exact .inl h1
      · exact .inr ⟨h1.1.1, h1.1.2, h1.2⟩
    · exact lineRest_spec h.2 p hp
theorem lineGo_spec : ∀ {ps : List OpI} {i k : Nat}, k < lineGo i ps → ∃ q, ps[k]? = some q ∧ Nat.blt q.a (Nat.pow 2 (i + k)) = true ∧ lineRest (i + k) q.d q.l (ps.drop (k + 1)) = true
  | [], i, k, h => by simp [lineGo] at h
  | p :: ps, i, k, h => by
    simp only [lineGo] at h
    split at h
    · rename_i hc
      rw [Bool.and_eq_true] at hc
      cases k with
      | zero => exact ⟨p, rfl, hc.1, by simpa using hc.2⟩
      | succ k =>
        obtain ⟨q, h1, h2, h3⟩ := lineGo_spec (ps := ps) (i := i + 1) (k := k) (by omega)
        refine ⟨q, by simpa using h1, ?_, ?_⟩
        · rw [show i + (k + 1) = i + 1 + k by omega]; exact h2
        · rw [show i + (k + 1) = i + 1 + k by omega]; simpa using h3
    · omega
theorem blt_iff {a b : Nat} : Nat.blt a b = true ↔ a < b := by
  unfold Nat.blt; rw [Nat.ble_eq]; exact Iff.rfl
theorem preA_get {n i j : Nat} (h : j < n) : (preA n i)[j]? = some (Nat.blt j i) := by
  unfold preA
  simp [h]
theorem preA_getD {n i j : Nat} {b : Bool} (h : j < n) : (preA n i).getD j b = Nat.blt j i := by
  rw [Array.getD_eq_getD_getElem?, preA_get h]; rfl
theorem preA_set {n i : Nat} (h : i < n) : (preA n i).setIfInBounds i true = preA n (i + 1) := by
  have hs : ∀ k, (preA n k).size = n := by intro k; simp [preA]
  apply Array.ext
  · simp [hs]
  · intro j h1 h2
    have hj : j < n := by rw [hs] at h2; exact h2
    apply Option.some.inj
    rw [← Array.getElem?_eq_getElem, ← Array.getElem?_eq_getElem, preA_get hj, Array.getElem?_setIfInBounds]
    by_cases e : i = j
    · subst e; rw [if_pos rfl, hs, if_pos hj]
      rw [show Nat.blt i (i+1) = true from blt_iff.2 (by omega)]
    · rw [if_neg e, preA_get hj]
      congr 1
      rw [Bool.eq_iff_iff, blt_iff, blt_iff]; omega

theorem lookMask {o : Oper} {d : Nat} : Nat.testBit (infoOf ops o).l d = decide (d ∈ o.looksAt ops) := maskOf_spec _ _
theorem dstMask {o : Oper} {d : Nat} (h : o.dst = some d) (e : Nat) : Nat.testBit (infoOf ops o).d e = decide (d = e) := by
  unfold infoOf
  simp only [h]
  show Nat.testBit (1 <<< d) e = _
  rw [Nat.one_shiftLeft, Nat.testBit_two_pow]
theorem aftMask {o : Oper} {k : Nat} : Nat.testBit (infoOf ops o).a k = true ↔ ∃ e ∈ o.after, Region.binds .any e = true ∧ e.on = k := by
  unfold infoOf
  rw [maskOf_spec]
  simp only [decide_eq_true_eq, List.mem_map, List.mem_filter, Array.mem_toList_iff]
  constructor
  · rintro ⟨e, ⟨h1, h2⟩, h3⟩; exact ⟨e, h1, h2, h3⟩
  · rintro ⟨e, h1, h2, h3⟩; exact ⟨e, ⟨h1, h2⟩, h3⟩
theorem line_at {i : Nat} {oi : Oper} (hi : ops[i]? = some oi) (hl : i < lineLen ops) :
    (∀ e ∈ oi.after, Region.binds .any e = true → e.on < i) ∧
    (∀ j oj, ops[j]? = some oj → i < j → (∀ e ∈ oj.after, Region.binds .any e = true → e.on ≠ i) → oi.apart ops oj = true) := by
  obtain ⟨q, h1, h2, h3⟩ := lineGo_spec hl
  have hq : q = infoOf ops oi := by
    rw [List.getElem?_map, Array.getElem?_toList, hi] at h1
    exact (Option.some.inj h1).symm
  subst hq
  rw [Nat.zero_add] at h2 h3
  refine ⟨fun e he hb => ?_, fun j oj hj hij hno => ?_⟩
  · rcases Nat.lt_or_ge e.on i with h4 | h4
    · exact h4
    · have h5 := (aftMask (ops := ops) (o := oi) (k := e.on)).2 ⟨e, he, hb, rfl⟩
      rw [Nat.testBit_lt_two_pow (Nat.lt_of_lt_of_le (blt_iff.1 h2) (Nat.pow_le_pow_right (by decide) h4))] at h5
      cases h5
  · have hmem : infoOf ops oj ∈ (ops.toList.map (infoOf ops)).drop (i + 1) := by
      refine List.mem_of_getElem? (i := j - (i + 1)) ?_
      rw [List.getElem?_drop, List.getElem?_map, Array.getElem?_toList, show i + 1 + (j - (i + 1)) = j by omega, hj]
      rfl
    rcases lineRest_spec h3 _ hmem with h4 | ⟨h4, h5, h6⟩
    · obtain ⟨e, he, hb, hon⟩ := aftMask.1 h4
      exact absurd hon (hno e he hb)
    · unfold Oper.apart
      rw [Bool.and_eq_true]
      constructor
      · split
        · rename_i d hd
          have hb : Nat.testBit (infoOf ops oi).d d = true := by rw [dstMask hd]; simp
          have h7 := land_zero h4 d hb
          have h8 := land_zero h5 d hb
          rw [lookMask] at h7
          rw [Bool.and_eq_true]
          refine ⟨by simpa using h7, ?_⟩
          cases hd2 : oj.dst with
          | none => rfl
          | some d2 =>
            rw [dstMask hd2] at h8
            have : ¬ d2 = d := by simpa using h8
            simp [this]
        · rfl
      · split
        · rename_i d hd
          by_cases h9 : d ∈ oi.looksAt ops
          · have h10 := land_zero h6 d (by rw [lookMask]; simpa using h9)
            rw [dstMask hd] at h10
            simp at h10
          · simpa using h9
        · rfl

theorem execLine_sound (hE : EnvOk E) (hsel : Region.noSelect ops = true) (hs : sinkOk ops hd = true) (hhd : ∀ i o, i < hd → ops[i]? = some o → writes E o = false)
    (hQ : ∀ c a w, ¬ Q (.panic c) a w) (happ : ops.any appends = true → ∀ b k, look facts b = some k → k.isRow = false) {lim : Nat} (hlim : lim ≤ hd) (hlim' : lim ≤ lineLen ops) :
    ∀ (l : List Oper) {i : Nat} {gs : List (Nat × Bool)} {β : Asg} {st : St} {a : Act} {w : World}, l = ops.toList.drop i → i ≤ ops.size → Sat X β st a w → n0 ≤ st.b.length → (∀ b r, β0 b = some r → β b = some r) →
    ((∀ b k, look facts b = some k → BOk X β0 w b k) ∧ (ops.any appends = true → ∀ b k, look facts b = some k → look st.b b = some k)) →
    Closed ops (preA ops.size i) → execLine E ops facts hd lim l i gs st K →
    (∀ β' st' a' w', K st' → Sat X β' st' a' w' → (∀ b, b < n0 → β' b = β b) → n0 ≤ st'.b.length → Q .normal a' w') →
    wpAnyF E.P ops Q (fun w => ∀ b k, look facts b = some k → BOk X β0 w b k) hd (ops.size - i) (preA ops.size i) a w := by
  intro l
  induction l with
  | nil =>
    intro i gs β st a w hl hi h hn hm hH hcl hk hK
    exact execAny_sound hE hsel hs hhd hQ happ _ h hn hm (fun _ => hH) hcl hk hK
  | cons o rest ih =>
    intro i gs β st a w hl hi h hn hm hH hcl hk hK
    simp only [execLine, normT_eq] at hk
    split at hk
    · rename_i hc
      rw [Bool.and_eq_true] at hc
      have hil : i < lim := blt_iff.1 hc.1
      have hih : i < hd := Nat.lt_of_lt_of_le hil hlim
      have hoi : ops.toList[i]? = some o := by
        have h1 : (ops.toList.drop i)[0]? = some o := by rw [← hl]; rfl
        rw [List.getElem?_drop] at h1
        simpa using h1
      have ho : ops[i]? = some o := by simpa using hoi
      have hlt : i < ops.size := (Array.getElem?_eq_some_iff.1 ho).1
      have hrest : rest = ops.toList.drop (i + 1) := by
        have h1 := congrArg (List.drop 1) hl
        rw [List.drop_drop] at h1
        simpa using h1
      obtain ⟨hdep, hap⟩ := line_at ho (Nat.lt_of_lt_of_le hil hlim')
      have hfree : ∀ j oj, ops[j]? = some oj → j ≠ i → (preA ops.size i).getD j true = false → (∀ e ∈ oj.after, Region.binds .any e = true → e.on ≠ i) → oj.apart ops oj = oj.apart ops oj → o.apart ops oj = true := by
        intro j oj hj hji hun hno _
        have hjs := (Array.getElem?_eq_some_iff.1 hj).1
        rw [preA_getD hjs] at hun
        have : ¬ j < i := fun h' => by rw [blt_iff.2 h'] at hun; cases hun
        exact hap j oj hj (by omega) hno
      have hmem : i ∈ Region.ready .any ops (preA ops.size i) := by
        refine mem_ready.2 ⟨?_, o, ho, fun e he hb => ?_⟩
        · rw [preA_getD hlt]
          cases hb : Nat.blt i i with
          | false => rfl
          | true => exact absurd (blt_iff.1 hb) (by omega)
        · have h1 := hdep e he hb
          rw [preA_getD (by omega)]
          exact blt_iff.2 h1
      have hstep : ∀ {v : Value}, YieldsIf E.P ops (fun w => ∀ b k, look facts b = some k → BOk X β0 w b k) o v a →
          wpAnyF E.P ops Q (fun w => ∀ b k, look facts b = some k → BOk X β0 w b k) hd (ops.size - (i + 1)) (preA ops.size (i + 1)) (a.put o.dst v) w →
          wpAnyF E.P ops Q (fun w => ∀ b k, look facts b = some k → BOk X β0 w b k) hd (ops.size - i) (preA ops.size i) a w := by
        intro v hy hw
        rw [show ops.size - i = (ops.size - (i + 1)) + 1 by omega]
        rw [← preA_set hlt] at hw
        cases hlz : lazyO o with
        | false => exact wpAnyF_first ho (.inl ⟨rfl, hlz⟩) (Region.noSelect_spec hsel) (fun c a w hq => absurd hq (hQ _ _ _)) hs hih _ _ a w hcl (fun j oj h1 h2 h3 h4 => hfree j oj h1 h2 h3 h4 rfl) hmem hy hH.1 hw
        | true =>
          have hy' : YieldsIf E.P ops (fun _ => True) o v a := by
            rcases hy with ⟨h1, h2⟩ | h1
            · exact .inl ⟨h1, fun w' _ => lazy_run hlz (h2 w hH.1) w'⟩
            · exact .inr h1
          exact wpAnyF_first ho (.inr fun _ => trivial) (Region.noSelect_spec hsel) (fun c a w hq => absurd hq (hQ _ _ _)) hs hih _ _ a w hcl (fun j oj h1 h2 h3 h4 => hfree j oj h1 h2 h3 h4 rfl) hmem hy' trivial hw
      have hcl' : Closed ops (preA ops.size (i + 1)) := by rw [← preA_set hlt]; exact hcl.step hmem
      rcases guardK_sound h hk with ⟨hw, hk⟩ | ⟨hw, hk⟩
      · split at hk
        · rename_i p v hps
          split at hk
          · rename_i hkn
            have hp' : ∀ q, p = some q → q := by intro q hq; subst hq; exact hk.1
            have hk' : execLine E ops facts hd lim rest (i + 1) (newG gs o true) (st.setT o.dst v) K := by
              cases p with
              | none => exact hk
              | some q => exact hk.2
            have hrun : ∀ w', (∀ b k, look facts b = some k → BOk X β0 w' b k) → ∃ u, Rep β v u ∧ (execOp a.eval o).run E.P w' = .ok (.value u) w' := by
              intro w' hF'
              exact pureStep_sound (st := { st with b := facts }) (fun x v hx => ev_rep h (by rw [ev_b st.t st.b facts x]; exact hx)) (fun b k hb => (hF' b k hb).mono hm) hps hp'
            obtain ⟨u, hu, hrun0⟩ := hrun w hH.1
            refine hstep (v := u) (.inl ⟨hw, fun w' hF' => ?_⟩) ?_
            · obtain ⟨u', hu', hrun'⟩ := hrun w' hF'
              rw [Rep.det hkn hu hu']
              exact hrun'
            · exact ih hrest hlt (h.setT hu o.dst) (by rw [setT_b]; exact hn) hm (by rw [setT_b]; exact hH) hcl' hk' hK
          · exact hk.elim
        · exact hk.elim
      · refine hstep (v := undef) (.inr ⟨hw, rfl⟩) ?_
        exact ih hrest hlt (h.setT (undef_rep β) o.dst) (by rw [setT_b]; exact hn) hm (by rw [setT_b]; exact hH) hcl' hk hK
    · exact execAny_sound hE hsel hs hhd hQ happ _ h hn hm (fun _ => hH) hcl hk hK

theorem keepT_length {keep : Nat → Bool} {f : IV → IV} : ∀ {l : List (Option IV)} {i : Nat}, (keepT keep f i l).length = l.length
  | [], _ => rfl
  | none :: l, i => by simp [keepT_none, keepT_some, keepT_length (l := l)]
  | some v :: l, i => by simp [keepT_none, keepT_some, keepT_length (l := l)]
theorem keepT_get {keep : Nat → Bool} {f : IV → IV} : ∀ {l : List (Option IV)} {i j : Nat} {v : IV}, (keepT keep f i l)[j]? = some (some v) → ∃ v0, l[j]? = some (some v0) ∧ v = f v0
  | [], _, j, v, h => by simp [keepT_nil, keepT_none] at h
  | none :: l, i, 0, v, h => by simp [keepT_nil, keepT_none] at h
  | none :: l, i, j + 1, v, h => by
    obtain ⟨v0, h1, h2⟩ := keepT_get (l := l) (i := i + 1) (j := j) (by simpa [keepT_none, keepT_some] using h)
    exact ⟨v0, by simpa using h1, h2⟩
  | some u :: l, i, 0, v, h => by
    simp only [keepT_some, List.getElem?_cons_zero, Option.some.injEq] at h
    split at h
    · exact ⟨u, rfl, (Option.some.inj h).symm⟩
    · cases h
  | some u :: l, i, j + 1, v, h => by
    obtain ⟨v0, h1, h2⟩ := keepT_get (l := l) (i := i + 1) (j := j) (by simpa [keepT_none, keepT_some] using h)
    exact ⟨v0, by simpa using h1, h2⟩
/-! ### a head taken as it stands -/
theorem look_ext {α : Type} {l l' : List (Option α)} (hl : l.length = l'.length) (h : ∀ i, look l i = look l' i) : l = l' := by
  apply List.ext_getElem hl
  intro i h1 h2
  have := h i
  rw [look_eq, look_eq] at this
  simpa [h1, h2] using this
theorem look_ge {α : Type} {l : List (Option α)} {i : Nat} (h : l.length ≤ i) : look l i = none := by
  rw [look_eq, List.getElem?_eq_none h]; rfl
theorem setT_look (st : St) (d : Tmp) (v : IV) (i : Nat) : look (st.setT (some d) v).t i = if d = i then (if d < st.t.length then some v else none) else look st.t i := by
  simp only [St.setT, setR_eq]; exact look_set _ _ _ _
theorem apL_len (b : Bool) (s : PStep) (st : St) : (apL b s st).t.length = st.t.length := by
  unfold apL; cases b
  · rfl
  · exact setT_len st s.dst s.v
theorem apL_other {b : Bool} {s : PStep} {st : St} {i : Nat} (h : s.dst ≠ some i) : look (apL b s st).t i = look st.t i := by
  unfold apL
  cases b
  · rfl
  · simp only [if_true]
    cases hd : s.dst with
    | none => rfl
    | some d => rw [setT_look, if_neg (fun e => h (by rw [hd, e]))]
theorem apL_off (s : PStep) (st : St) : (apL false s st).t = st.t := rfl

noncomputable def stL : List PStep → Nat → (Nat → Bool) → St → St
  | [], _, _, st => st
  | s :: l, i, L, st => stL l (i + 1) L (apL (L i) s st)
theorem stL_len : ∀ (l : List PStep) (i : Nat) (L : Nat → Bool) (st : St), (stL l i L st).t.length = st.t.length
  | [], _, _, _ => rfl
  | s :: l, i, L, st => by simp only [stL]; rw [stL_len l, apL_len]
theorem stL_look {i0 : Nat} : ∀ (l : List PStep) (i : Nat) (L L' : Nat → Bool) (st st' : St), st.t.length = st'.t.length → look st.t i0 = look st'.t i0 →
    (∀ k s, l[k]? = some s → s.dst = some i0 → L (i + k) = L' (i + k)) → look (stL l i L st).t i0 = look (stL l i L' st').t i0
  | [], _, _, _, _, _, _, h, _ => h
  | s :: l, i, L, L', st, st', hl, h, hk => by
    simp only [stL]
    refine stL_look l (i + 1) L L' _ _ (by rw [apL_len, apL_len, hl]) ?_ (fun k s' h1 h2 => ?_)
    · by_cases hd : s.dst = some i0
      · have := hk 0 s rfl hd
        rw [Nat.add_zero] at this
        rw [this]
        unfold apL
        cases L' i
        · exact h
        · simp only [if_true, hd, setT_look, hl]
      · rw [apL_other hd, apL_other hd, h]
    · have := hk (k + 1) s' (by simpa using h1) h2
      rwa [show i + (k + 1) = i + 1 + k by omega] at this
theorem stL_off {i0 : Nat} : ∀ (l : List PStep) (i : Nat) (L : Nat → Bool) (st : St), (∀ k s, l[k]? = some s → s.dst = some i0 → L (i + k) = false) → look (stL l i L st).t i0 = look st.t i0
  | [], _, _, _, _ => rfl
  | s :: l, i, L, st, hk => by
    simp only [stL]
    rw [stL_off l (i + 1) L _ (fun k s' h1 h2 => by
      have := hk (k + 1) s' (by simpa using h1) h2
      rwa [show i + (k + 1) = i + 1 + k by omega] at this)]
    by_cases hd : s.dst = some i0
    · have := hk 0 s rfl hd
      rw [Nat.add_zero] at this
      rw [this]
      rfl
    · exact apL_other hd
theorem stL_last {i0 : Nat} : ∀ (l : List PStep) (i j : Nat) (L : Nat → Bool) (st : St) (s : PStep), l[j]? = some s → s.dst = some i0 → L (i + j) = true →
    (∀ k s', j < k → l[k]? = some s' → s'.dst = some i0 → L (i + k) = false) → i0 < st.t.length → look (stL l i L st).t i0 = some s.v
  | [], _, j, _, _, _, h, _, _, _, _ => by simp at h
  | s0 :: l, i, 0, L, st, s, h, hd, hL, hk, hlt => by
    simp at h
    subst h
    simp only [stL]
    rw [stL_off l (i + 1) L _ (fun k s' h1 h2 => by
      have := hk (k + 1) s' (by omega) (by simpa using h1) h2
      rwa [show i + (k + 1) = i + 1 + k by omega] at this)]
    rw [Nat.add_zero] at hL
    rw [hL]
    unfold apL
    simp only [if_true, hd, setT_look, if_pos hlt]
  | s0 :: l, i, j + 1, L, st, s, h, hd, hL, hk, hlt => by
    simp only [stL]
    refine stL_last l (i + 1) j L _ s (by simpa using h) hd (by rw [← hL]; congr 1; omega) (fun k s' h0 h1 h2 => ?_) (by rw [apL_len]; exact hlt)
    have := hk (k + 1) s' (by omega) (by simpa using h1) h2
    rwa [show i + (k + 1) = i + 1 + k by omega] at this
theorem stL_false : ∀ (l : List PStep) (i : Nat) (L : Nat → Bool) (st : St), (∀ k, L (i + k) = false) → (stL l i L st).t = st.t
  | [], _, _, _, _ => rfl
  | s :: l, i, L, st, h => by
    simp only [stL]
    rw [stL_false l (i + 1) L _ (fun k => by rw [show i + 1 + k = i + (k + 1) by omega]; exact h (k + 1)), show L i = false from h 0]
    rfl
theorem applyAll_stL : ∀ (l : List (Option Prop × PStep)) (i : Nat) (st : St), applyAll l st = stL (l.map (·.2)) i (fun _ => true) st
  | [], _, _ => rfl
  | (p, s) :: l, i, st => by simp only [applyAll, List.map_cons, stL]; exact applyAll_stL l (i + 1) _
theorem stL_take : ∀ (l : List (Option Prop × PStep)) (i j : Nat) (L : Nat → Bool) (st st' : St), st.t = st'.t → (∀ k, k < j → L (i + k) = true) → (∀ k, j ≤ k → L (i + k) = false) →
    (stL (l.map (·.2)) i L st).t = (applyAll (l.take j) st').t
  | [], i, j, L, st, st', h, _, _ => by simpa [stL, applyAll] using h
  | (p, s) :: l, i, 0, L, st, st', h, _, h2 => by
    rw [stL_false _ _ _ _ (fun k => h2 k (Nat.zero_le _))]
    simpa [applyAll] using h
  | (p, s) :: l, i, j + 1, L, st, st', h, h1, h2 => by
    simp only [List.map_cons, stL, List.take_succ_cons, applyAll]
    refine stL_take l (i + 1) j L _ _ ?_ (fun k hk => by rw [show i + 1 + k = i + (k + 1) by omega]; exact h1 _ (by omega)) (fun k hk => by rw [show i + 1 + k = i + (k + 1) by omega]; exact h2 _ (by omega))
    have h0 : L i = true := h1 0 (by omega)
    rw [h0]
    unfold apL
    simp only [if_true]
    cases s.dst with
    | none => exact h
    | some d => simp only [St.setT, h]

def holes : List PStep → Nat → (Nat → Bool) → List (Option Blk)
  | [], _, _ => []
  | s :: l, i, L => holeOf (L i) s.blk ++ holes l (i + 1) L
def nblk : List PStep → Nat
  | [] => 0
  | s :: l => (if s.blk.isSome then 1 else 0) + nblk l
theorem holeOf_len (b : Bool) (k : Option Blk) : (holeOf b k).length = if k.isSome then 1 else 0 := by cases k <;> rfl
theorem holes_len : ∀ (l : List PStep) (i : Nat) (L : Nat → Bool), (holes l i L).length = nblk l
  | [], _, _ => rfl
  | s :: l, i, L => by simp only [holes, nblk, List.length_append, holeOf_len, holes_len l]
theorem stL_b : ∀ (l : List PStep) (i : Nat) (L : Nat → Bool) (st : St), (stL l i L st).b = st.b ++ holes l i L
  | [], _, _, st => by simp [stL, holes]
  | s :: l, i, L, st => by
    simp only [stL, holes]
    rw [stL_b l]
    simp [apL]
theorem applyAll_b : ∀ (l : List (Option Prop × PStep)) (st : St), (applyAll l st).b.length = st.b.length + nblk (l.map (·.2))
  | [], st => by simp [applyAll, nblk]
  | (p, s) :: l, st => by
    simp only [applyAll, List.map_cons, nblk]
    rw [applyAll_b l]
    simp only [apL, List.length_append, holeOf_len]
    omega
theorem holes_same : ∀ (l : List PStep) (i j : Nat) (L L' : Nat → Bool) (s : PStep), l[j]? = some s → s.blk = none → (∀ k, k ≠ i + j → L' k = L k) → holes l i L' = holes l i L
  | [], _, _, _, _, _, h, _, _ => by simp at h
  | s0 :: l, i, 0, L, L', s, h, hb, hL => by
    simp at h
    subst h
    simp only [holes, hb, holeOf]
    have : ∀ (l : List PStep) (i' : Nat), i < i' → holes l i' L' = holes l i' L := by
      intro l
      induction l with
      | nil => intro i' _; rfl
      | cons s l ih => intro i' hi; simp only [holes]; rw [hL i' (by omega), ih (i' + 1) (by omega)]
    rw [this l (i + 1) (by omega)]
  | s0 :: l, i, j + 1, L, L', s, h, hb, hL => by
    simp only [holes]
    rw [hL i (by omega), holes_same l (i + 1) j L L' s (by simpa using h) hb (fun k hk => hL k (by omega))]
theorem holes_set : ∀ (l : List PStep) (i j : Nat) (L L' : Nat → Bool) (s : PStep) (k : Blk), l[j]? = some s → s.blk = some k → L (i + j) = false → L' (i + j) = true → (∀ m, m ≠ i + j → L' m = L m) →
    holes l i L' = (holes l i L).set (nblk (l.take j)) (some k) ∧ look (holes l i L) (nblk (l.take j)) = none ∧ nblk (l.take j) < nblk l
  | [], _, _, _, _, _, _, h, _, _, _, _ => by simp at h
  | s0 :: l, i, 0, L, L', s, k, h, hb, h0, h1, hL => by
    simp at h
    subst h
    have hrest : ∀ (l : List PStep) (i' : Nat), i < i' → holes l i' L' = holes l i' L := by
      intro l
      induction l with
      | nil => intro i' _; rfl
      | cons s l ih => intro i' hi; simp only [holes]; rw [hL i' (by omega), ih (i' + 1) (by omega)]
    rw [Nat.add_zero] at h0 h1
    simp only [holes, hb, holeOf, h0, h1, List.take_zero, nblk, Option.isSome_some, if_true, Bool.false_eq_true, if_false]
    rw [hrest l (i + 1) (by omega)]
    exact ⟨rfl, rfl, by omega⟩
  | s0 :: l, i, j + 1, L, L', s, k, h, hb, h0, h1, hL => by
    obtain ⟨r1, r2, r3⟩ := holes_set l (i + 1) j L L' s k (by simpa using h) hb (by rw [show i + 1 + j = i + (j + 1) by omega]; exact h0) (by rw [show i + 1 + j = i + (j + 1) by omega]; exact h1) (fun m hm => hL m (by omega))
    simp only [holes, List.take_succ_cons, nblk]
    rw [hL i (by omega), r1]
    have hl := holeOf_len (L i) s0.blk
    refine ⟨?_, ?_, by omega⟩
    · rw [List.set_append_right _ _ (by rw [hl]; omega), hl]
      congr 2
      omega
    · rw [look_app, hl, if_neg (by omega)]
      rw [show (if s0.blk.isSome = true then 1 else 0) + nblk (List.take j l) - (if s0.blk.isSome = true then 1 else 0) = nblk (List.take j l) by omega]
      exact r2
theorem keepT_congr {keep : Nat → Bool} {f : IV → IV} : ∀ {l l' : List (Option IV)} {i : Nat}, l.length = l'.length → (∀ k, keep (i + k) = true → look l k = look l' k) → keepT keep f i l = keepT keep f i l'
  | [], [], _, _, _ => rfl
  | [], _ :: _, _, h, _ => by simp at h
  | _ :: _, [], _, h, _ => by simp at h
  | x :: l, y :: l', i, hl, h => by
    have ht := keepT_congr (keep := keep) (f := f) (l := l) (l' := l') (i := i + 1) (by simpa using hl) (fun k hk => by
      have := h (k + 1) (by rw [show i + (k + 1) = i + 1 + k by omega]; exact hk)
      simpa [look_succ] using this)
    have h0 : keep i = true → x = y := fun hk => by have := h 0 (by simpa using hk); simpa [look_zero] using this
    cases hk : keep i with
    | true =>
      rw [h0 hk]
      cases y with
      | none => rw [keepT_none, keepT_none, ht]
      | some v => rw [keepT_some, keepT_some, ht]
    | false =>
      cases x <;> cases y <;> simp [keepT_none, keepT_some, hk, ht]
theorem restr_ev {m : Nat} {fa : List (Option Blk)} {st : St} {x : Operand} {v : IV} (h : ev (restr m fa st) x = some v) : ev st x = some v := by
  cases x with
  | tmp i =>
    simp only [ev, restr] at h ⊢
    rw [look_some] at h
    obtain ⟨v0, h1, rfl⟩ := keepT_get h
    exact look_some.2 h1
  | const c => exact h
  | func f => exact h
  | global g => exact h
theorem restr_evs {m : Nat} {fa : List (Option Blk)} {st : St} : ∀ {l : List Operand} {vs : List IV}, evs (restr m fa st) l = some vs → evs st l = some vs
  | [], vs, h => h
  | x :: l, vs, h => by
    simp only [evs] at h ⊢
    split at h
    · rename_i v vs' h1 h2
      rw [restr_ev h1, restr_evs h2]
      exact h
    · cases h

theorem planRun_spec {E : Env} {ops : Array Oper} {fa : List (Option Blk)} : ∀ {l : List Oper} {st : St} {r : List (Option Prop × PStep)}, planRun E ops fa l st = some r →
    r.length = l.length ∧ ∀ j o, l[j]? = some o → o.guard = none ∧ ∃ p s, r[j]? = some (p, s) ∧ planStep E (applyAll (r.take j) st).b.length (restr (maskOf (o.looksAt ops)) fa (applyAll (r.take j) st)) o = some (p, s)
  | [], st, r, h => by
    simp only [planRun, Option.some.injEq] at h
    subst h
    exact ⟨rfl, by simp⟩
  | o :: l, st, r, h => by
    simp only [planRun] at h
    split at h
    · cases h
    · rename_i hg
      split at h
      · rename_i p s hs
        split at h
        · rename_i r' hr'
          cases h
          obtain ⟨h1, h2⟩ := planRun_spec hr'
          refine ⟨by simp [h1], fun j o' ho' => ?_⟩
          cases j with
          | zero =>
            simp at ho'
            subst ho'
            exact ⟨hg, p, s, rfl, by simpa [applyAll] using hs⟩
          | succ j =>
            obtain ⟨k1, p', s', k2, k3⟩ := h2 j o' (by simpa using ho')
            exact ⟨k1, p', s', by simpa using k2, by simpa [applyAll] using k3⟩
        · cases h
      · cases h
theorem planStep_dst {E : Env} {nb : Nat} {r : St} {o : Oper} {p : Option Prop} {s : PStep} (h : planStep E nb r o = some (p, s)) : s.dst = o.dst := by
  unfold planStep at h
  repeat' (split at h)
  all_goals first
    | (cases h; rfl)
    | cases h
theorem asks_spec : ∀ {l : List (Option Prop × PStep)} {K : Prop}, asks l K → K ∧ ∀ p s, (p, s) ∈ l → ∀ q, p = some q → q
  | [], K, h => ⟨h, fun p s hm => by cases hm⟩
  | (p, s) :: l, K, h => by
    simp only [asks] at h
    have h' : (∀ q, p = some q → q) ∧ asks l K := by
      cases p with
      | none => exact ⟨fun q hq => (by cases hq), h⟩
      | some q => exact ⟨fun q' hq => (by cases hq; exact h.1), h.2⟩
    obtain ⟨k1, k2⟩ := asks_spec h'.2
    refine ⟨k1, fun p' s' hm q hq => ?_⟩
    rcases List.mem_cons.1 hm with e | hm
    · cases e; exact h'.1 q hq
    · exact k2 p' s' hm q hq

theorem Sat.fill {X : Ctx} {β : Asg} {st : St} {a : Act} {w w' : World} {n : Nat} {k : Blk} {r : Real} (h : Sat X β st a w) (hkp : Keeps w w') (hn : n < st.b.length) (hl : look st.b n = none) (hβ : β n = none) (hown : k.own = true)
    (hr : ∀ id, Uses (ext β n r) n id → w.heap.size ≤ id) (hb : BOk X (ext β n r) w' n k) : Sat X (ext β n r) { st with b := st.b.set n (some k) } a w' := by
  have hm := ext_mono (r := r) hβ
  have h' := h.keeps hkp
  have lk : ∀ b k', look (st.b.set n (some k)) b = some k' → (b = n ∧ k' = k) ∨ (b ≠ n ∧ look st.b b = some k') := by
    intro b k' hb'
    rw [look_set] at hb'
    split at hb'
    · rename_i e
      first
        | rw [if_pos hn] at hb'
        | skip
      exact .inl ⟨e.symm, (Option.some.inj hb').symm⟩
    · rename_i e
      exact .inr ⟨fun e' => e e'.symm, hb'⟩
  have hold : ∀ c k' id, look st.b c = some k' → UsesK β c k' id → id < w.heap.size := fun c k' id hc hu => uses_lt (h.blks c k' hc) hu
  refine ⟨h.len, ?_, ?_, ?_, ?_, h'.below, ⟨h'.frm.le, h'.frm.fr, h'.frm.fo, ?_⟩, h.defers⟩
  · intro i v hv
    obtain ⟨u, hu, hr'⟩ := h.tmps i v hv
    exact ⟨u, hu, hr'.mono hm⟩
  · intro b k' hl'
    rcases lk b k' hl' with ⟨rfl, rfl⟩ | ⟨hne, hl'⟩
    · exact hb
    · exact (h'.blks b k' hl').mono hm
  · intro b c k1 k2 id hb1 hc2 ho hu1 hu2
    rcases lk b k1 hb1 with ⟨rfl, rfl⟩ | ⟨hne, hb3⟩ <;> rcases lk c k2 hc2 with ⟨rfl, rfl⟩ | ⟨hne', hc3⟩
    · rfl
    · have h1 := hr id hu1.1
      have h2 := hold c k2 id hc3 ⟨hu2.1.of_ext hne', hu2.2⟩
      omega
    · have h1 := hr id hu2.1
      have h2 := hold b k1 id hb3 ⟨hu1.1.of_ext hne, hu1.2⟩
      omega
    · exact h.disj b c k1 k2 id hb3 hc3 ho ⟨hu1.1.of_ext hne, hu1.2⟩ ⟨hu2.1.of_ext hne', hu2.2⟩
  · intro b hb'
    simp only [List.length_set] at hb'
    unfold ext
    rw [if_neg (by omega)]
    exact h.bound b hb'
  · intro c k1 id hc hu
    rcases lk c k1 hc with ⟨rfl, rfl⟩ | ⟨hne, hc3⟩
    · have := h.frm.new (hr id hu.1)
      exact ⟨this.1, fun _ => this.2⟩
    · exact h.frm.apart c k1 id hc3 ⟨hu.1.of_ext hne, hu.2⟩

theorem plainC_leaf : ∀ {l : List IV}, plainC l = true → ∀ c ∈ l, (∃ k n, c = .int k n) ∨ ∃ b, c = .bool b
  | [], _, c, hc => by cases hc
  | .int k n :: l, h, c, hc => by
    rcases List.mem_cons.1 hc with rfl | hc
    · exact .inl ⟨k, n, rfl⟩
    · exact plainC_leaf (l := l) (by simpa [plainC] using h) c hc
  | .bool b :: l, h, c, hc => by
    rcases List.mem_cons.1 hc with rfl | hc
    · exact .inr ⟨b, rfl⟩
    · exact plainC_leaf (l := l) (by simpa [plainC] using h) c hc
  | .nilp :: l, h, c, hc => by simp [plainC] at h
  | .nils :: l, h, c, hc => by simp [plainC] at h
  | .nilf :: l, h, c, hc => by simp [plainC] at h
  | .unk :: l, h, c, hc => by simp [plainC] at h
  | .fn .. :: l, h, c, hc => by simp [plainC] at h
  | .ptr .. :: l, h, c, hc => by simp [plainC] at h
  | .pdyn .. :: l, h, c, hc => by simp [plainC] at h
  | .prow .. :: l, h, c, hc => by simp [plainC] at h
  | .prowd .. :: l, h, c, hc => by simp [plainC] at h
  | .sl .. :: l, h, c, hc => by simp [plainC] at h
  | .agg .. :: l, h, c, hc => by simp [plainC] at h
  | .tup .. :: l, h, c, hc => by simp [plainC] at h

theorem packC_empty {P : Program} {st st' : St} {t : TypeId} {c c' : IV} {acc : List (Blk × Option Nat)} (hb : st.b = []) (h : packC P st t c acc = some (c', acc)) : packC P st' t c acc = some (c', acc) := by
  unfold packC at h ⊢
  split at h
  · exact h
  · exact h
  · rename_i b
    simp only [rows, hb, look_nil] at h
    cases h
  · split at h
    · simp at h
    · cases h
  · cases h
theorem packC_acc {P : Program} {st : St} {t : TypeId} {c c' : IV} {acc acc' : List (Blk × Option Nat)} (h : packC P st t c acc = some (c', acc')) : acc <+: acc' := by
  unfold packC at h
  split at h
  · cases h; exact List.prefix_refl _
  · cases h; exact List.prefix_refl _
  · split at h
    · cases h; exact ⟨_, rfl⟩
    · cases h
  · split at h
    · cases h; exact ⟨_, rfl⟩
    · cases h
  · cases h
theorem packL_acc {P : Program} {st : St} : ∀ {cs cs' : List IV} {ts : List TypeId} {acc acc' : List (Blk × Option Nat)}, packL P st ts cs acc = some (cs', acc') → acc <+: acc'
  | [], cs', ts, acc, acc', h => by cases ts <;> (simp only [packL] at h; cases h; exact List.prefix_refl _)
  | c :: cs, cs', [], acc, acc', h => by simp [packL] at h
  | c :: cs, cs', t :: ts, acc, acc', h => by
    simp only [packL] at h
    split at h
    · rename_i h1
      split at h
      · rename_i h2
        cases h
        exact (packC_acc h1).trans (packL_acc h2)
      · cases h
    · cases h
theorem packV_acc {P : Program} {st : St} {t : TypeId} {c c' : IV} {acc acc' : List (Blk × Option Nat)} (h : packV P st t c acc = some (c', acc')) : acc <+: acc' := by
  unfold packV at h
  split at h
  · split at h
    · rename_i h1
      cases h
      exact packL_acc h1
    · cases h
  · exact packC_acc h
theorem prefix_nil {α : Type} {l : List α} (h : l <+: []) : l = [] := by
  obtain ⟨r, hr⟩ := h
  exact (List.append_eq_nil_iff.1 hr).1
theorem packL_empty {P : Program} {st st' : St} (hb : st.b = []) : ∀ {cs cs' : List IV} {ts : List TypeId}, packL P st ts cs [] = some (cs', []) → packL P st' ts cs [] = some (cs', [])
  | [], cs', ts, h => by cases ts <;> simpa [packL] using h
  | c :: cs, cs', [], h => by simp [packL] at h
  | c :: cs, cs', t :: ts, h => by
    simp only [packL] at h ⊢
    split at h
    · rename_i c1 acc1 h1
      split at h
      · rename_i c2 acc2 h2
        cases h
        have e := prefix_nil (packL_acc h2)
        subst e
        rw [packC_empty hb h1]
        simp only
        rw [packL_empty hb h2]
      · cases h
    · cases h
theorem packV_empty {P : Program} {st st' : St} (hb : st.b = []) {t : TypeId} {c c' : IV} (h : packV P st t c [] = some (c', [])) : packV P st' t c [] = some (c', []) := by
  unfold packV at h ⊢
  split at h
  · split at h
    · rename_i h1
      cases h
      rw [packL_empty hb h1]
    · cases h
  · exact packC_empty hb h
theorem packVs_acc {P : Program} {st : St} : ∀ {cs cs' : List IV} {ts : List TypeId} {acc acc' : List (Blk × Option Nat)}, packVs P st ts cs acc = some (cs', acc') → acc <+: acc'
  | [], cs', ts, acc, acc', h => by cases ts <;> (simp only [packVs] at h; cases h; exact List.prefix_refl _)
  | c :: cs, cs', [], acc, acc', h => by simp [packVs] at h
  | c :: cs, cs', t :: ts, acc, acc', h => by
    simp only [packVs] at h
    split at h
    · rename_i h1
      split at h
      · rename_i h2
        cases h
        exact (packV_acc h1).trans (packVs_acc h2)
      · cases h
    · cases h
theorem packVs_empty {P : Program} {st st' : St} (hb : st.b = []) : ∀ {cs cs' : List IV} {ts : List TypeId}, packVs P st ts cs [] = some (cs', []) → packVs P st' ts cs [] = some (cs', [])
  | [], cs', ts, h => by cases ts <;> simpa [packVs] using h
  | c :: cs, cs', [], h => by simp [packVs] at h
  | c :: cs, cs', t :: ts, h => by
    simp only [packVs] at h ⊢
    split at h
    · rename_i c1 acc1 h1
      split at h
      · rename_i c2 acc2 h2
        cases h
        have e := prefix_nil (packVs_acc h2)
        subst e
        rw [packV_empty hb h1]
        simp only
        rw [packVs_empty hb h2]
      · cases h
    · cases h

/-- One operation of such a head, done wherever what it looks at is there. -/
theorem planStep_run {E : Env} (hE : EnvOk E) {X : Ctx} {β : Asg} {st st1 : St} {a : Act} {w : World} {o : Oper} {m nb : Nat} {fa : List (Option Blk)} {p : Option Prop} {s : PStep} {Q : Exit → Act → World → Prop} {Kw : Act → World → Prop}
    (hp : planStep E nb (restr m fa st1) o = some (p, s)) (hask : ∀ q, p = some q → q) (hr : restr m fa st = restr m fa st1) (h : Sat X β st a w) (hf : ∀ b k, look fa b = some k → BOk X β w b k)
    (hh : s.blk ≠ none → nb < st.b.length ∧ look st.b nb = none ∧ β nb = none)
    (hK : ∀ β' u w', Keeps w w' → (∀ b, b ≠ nb → β' b = β b) → (s.blk = none → β' = β) → Sat X β' { t := (st.setT o.dst s.v).t, b := match s.blk with
      | none => st.b
      | some k => st.b.set nb (some k) } (a.put o.dst u) w' → Kw (a.put o.dst u) w') : o.wp E.P a w Kw Q := by
  have hev : ∀ x v, ev (restr m fa st1) x = some v → Rep β v (a.eval x) := fun x v hx => ev_rep h (restr_ev (by rw [hr]; exact hx))
  have scalar : ∀ {v : IV} {u : Value} {w' : World}, s = ⟨o.dst, v, none⟩ → Rep β v u → Keeps w w' → Kw (a.put o.dst u) w' := by
    rintro v u w' rfl hu hkp
    refine hK β u w' hkp (fun _ _ => rfl) (fun _ => rfl) ?_
    have := (h.keeps hkp).setT hu o.dst
    have e : ({ t := (st.setT o.dst v).t, b := st.b } : St) = st.setT o.dst v := by
      have := setT_b st o.dst v
      cases hs : st.setT o.dst v with
      | mk t b => rw [hs] at this; simp only at this; rw [this]
    simp only [e]
    exact this
  have alloc : ∀ {k : Blk} {obj : Obj}, s = ⟨o.dst, .ptr nb 0, some k⟩ → k.own = true → (BOk X (ext β nb (.blk w.heap.size)) (w.alloc obj) nb k) →
      (execOp a.eval o).run E.P w = .ok (.value (.pointer (some ⟨w.heap.size, 0, none⟩))) (w.alloc obj) → o.wp E.P a w Kw Q := by
    rintro k obj rfl ho hb hrun
    obtain ⟨h1, h2, h3⟩ := hh (by simp)
    refine wp_value hrun ?_
    refine hK (ext β nb (.blk w.heap.size)) _ _ (Keeps.alloc w _) (fun b hb => by unfold ext; rw [if_neg hb]) (fun h0 => by cases h0) ?_
    have hs := h.fill (r := .blk w.heap.size) (Keeps.alloc w obj) h1 h2 h3 ho (fun id hu => by rw [uses_blk hu]; exact Nat.le_refl _) hb
    have hs2 := hs.setT (Rep.ptr (b := nb) (o := 0) (ext_self _ _ _)) o.dst
    have e : ({ t := (st.setT o.dst (.ptr nb 0)).t, b := st.b.set nb (some k) } : St) = St.setT { st with b := st.b.set nb (some k) } o.dst (.ptr nb 0) := by
      cases o.dst <;> rfl
    simp only [e]
    exact hs2
  unfold planStep at hp
  split at hp
  · rename_i p' v hps
    cases hp
    obtain ⟨u, hu, hrun⟩ := pureStep_sound (st := restr m fa st1) hev (fun b k hb => hf b k hb) hps hask
    exact wp_value hrun (scalar rfl hu (Keeps.refl w))
  · split at hp
    · rename_i e hop
      split at hp
      · rename_i cells hz
        obtain ⟨i, zv, hi, hiz, hzl, hpos, hzr⟩ := zeroOf_spec (β := β) hz
        have hrun := alloc_run (a := a) (w := w) hi hiz hop
        split at hp
        · rename_i hpl
          obtain ⟨h1, h2, h3⟩ : nb < st.b.length ∧ look st.b nb = none ∧ β nb = none := hh (by
            split at hp <;> (cases hp; simp))
          split at hp
          · rename_i k hn
            cases hp
            have hall : cells.all (isZero k) = true := by
              unfold newInts at hn
              repeat' (split at hn)
              all_goals first
                | (cases hn; assumption)
                | cases hn
            rw [ints_of_zero hzr hall] at hrun
            refine alloc rfl rfl ⟨w.heap.size, ext_self _ _ _, h.le, heap_alloc_new w _, fun x hx => ?_⟩ hrun
            rw [List.mem_replicate] at hx
            rw [hx.2]
            cases k <;> exact ⟨by decide, by decide⟩
          · cases hp
            exact alloc rfl rfl ⟨w.heap.size, _, ext_self _ _ _, h.le, heap_alloc_new w _, hzr.mono (ext_mono h3)⟩ hrun
        · cases hp
      · cases hp
    · rename_i e x hop
      split at hp
      · rename_i v hv
        split at hp
        · rename_i hc
          rw [Bool.and_eq_true] at hc
          cases hp
          obtain ⟨h1, h2, h3⟩ := hh (by simp)
          have hcr := (hev x v hv).cells (notTup_ne hc.1)
          exact alloc rfl rfl ⟨w.heap.size, _, ext_self _ _ _, h.le, heap_alloc_new w _, hcr.mono (ext_mono h3)⟩ (box_run hop)
        · cases hp
      · cases hp
    · rename_i c hop
      obtain ⟨callee, args, tys⟩ := c
      split at hp
      · rename_i f hcal
        simp only at hcal
        subst hcal
        split at hp
        · rename_i g vs hfv hvs
          split at hp
          · rename_i hen
            split at hp
            · rename_i sp hsp
              split at hp
              · rename_i as hpk
                split at hp
                · rename_i v hF
                  cases hp
                  have hfr := hev f _ hfv
                  obtain ⟨cs, ef, hcl, _⟩ := hfr.fn_inv
                  have hcs : cs = #[] := Array.eq_empty_of_size_eq_zero (by simpa using hcl.symm)
                  subst hcs
                  have hvs' : evs st args.toList = some vs := restr_evs (by rw [hr]; exact hvs)
                  have hpk' := packVs_empty (st' := st) rfl hpk
                  obtain ⟨l1, l2⟩ := evs_spec hvs'
                  obtain ⟨p1, p2, p3, p4⟩ := packVs_sound (β := β) (us := args.toList.map a.eval) (by simpa using l1.symm) (fun i c v hc hv => by
                    simp only [List.getElem?_map, Option.map_eq_some_iff] at hv
                    obtain ⟨x, hx, rfl⟩ := hv
                    exact ev_rep h (l2 i x c hx hc)) hpk' (fun p hp => by simp at hp)
                  obtain ⟨hcs, hro⟩ := callee_sat (X := X) h.blks p4
                  have hcall := (hE.ctr g sp hsp) as [] (calleeCtx st β w []) (asgOf β []) w (args.map a.eval) rfl rfl hcs hro (by simpa using p2) (fun i c v hc hv => p3 i c v hc (by simpa using hv)) (hask _ rfl)
                  refine call_enter hop ef hen (by rw [Array.append_empty]; exact hcall) ?_
                  rintro e w' ⟨u, β', rfl, hkp, hrep, hB, hrow⟩
                  refine ⟨u, rfl, scalar rfl ?_ hkp⟩
                  rw [hF] at hrep hB
                  refine hrep.mono (fun b r hb => ?_)
                  rw [hB.bound b (Nat.zero_le _)] at hb
                  cases hb
                · cases hp
              · cases hp
            · cases hp
          · cases hp
        · cases hp
      · cases hp
    · cases hp

theorem countP_flip {n j : Nat} {p p' : Nat → Bool} (hj : j < n) (hp : p j = true) (hp' : p' j = false) (h : ∀ i, i ≠ j → p' i = p i) : (List.range n).countP p = (List.range n).countP p' + 1 := by
  induction n with
  | zero => omega
  | succ n ih =>
    rw [List.range_succ, List.countP_append, List.countP_append, List.countP_singleton, List.countP_singleton]
    by_cases e : j = n
    · subst e
      rw [hp, hp']
      have : (List.range j).countP p = (List.range j).countP p' := by
        apply List.countP_congr
        intro i hi
        rw [h i (by have := List.mem_range.1 hi; omega)]
      rw [this]
      simp
    · rw [ih (by omega), h n (by omega)]
      split <;> omega

theorem getD_setTrue {l : Array Bool} {i j : Nat} (hi : i < l.size) : (l.setIfInBounds i true).getD j false = (l.getD j false || j == i) := by
  by_cases e : i = j
  · subst e
    rw [Array.getD_eq_getD_getElem?, Array.getElem?_setIfInBounds, if_pos rfl, if_pos hi]
    simp
  · rw [getD_set_ne false e]
    have : (j == i) = false := by simp; exact fun h => e h.symm
    rw [this, Bool.or_false]

theorem pending_zero {hd : Nat} {p : Nat → Bool} (h : (List.range hd).countP p = 0) : ∀ i, i < hd → p i = false := by
  intro i hi
  rw [List.countP_eq_zero] at h
  have := h i (List.mem_range.2 hi)
  simpa using this

theorem plan_sound (hE : EnvOk E) (hsel : Region.noSelect ops = true) (hs : sinkOk ops hd = true) (hhd : ∀ i o, i < hd → ops[i]? = some o → writes E o = false) (hhd2 : hd ≤ ops.size)
    (hQ : ∀ c a w, ¬ Q (.panic c) a w) (hline : hd ≤ lineLen ops) {st0 : St} {r : List (Option Prop × PStep)} (hrun : planRun E ops st0.b (ops.toList.take hd) st0 = some r) (happ : ops.any appends = false)
    (hask : ∀ p s, (p, s) ∈ r → ∀ q, p = some q → q) (hn : n0 ≤ st0.b.length) (hk : execAny E ops st0.b hd (ops.size - hd) (preA ops.size hd) [] (applyAll r st0) K)
    (hlen0 : ∀ b, st0.b.length ≤ b → β0 b = none) :
    ∀ (m : Nat) (listed : Array Bool) {β : Asg} {a : Act} {w : World}, listed.size = ops.size → (∀ i, hd ≤ i → listed.getD i false = false) → Closed ops listed → m = (List.range hd).countP (fun i => !listed.getD i false) →
      Sat X β (stL (r.map (·.2)) 0 (fun i => listed.getD i false) st0) a w → (∀ j s, (r.map (·.2))[j]? = some s → s.blk ≠ none → listed.getD j false = false → β (st0.b.length + nblk ((r.map (·.2)).take j)) = none) →
      (∀ b, b < st0.b.length → β b = β0 b) → (∀ b k, look st0.b b = some k → BOk X β0 w b k) →
      (∀ β' st' a' w', K st' → Sat X β' st' a' w' → (∀ b, b < n0 → β' b = β0 b) → n0 ≤ st'.b.length → Q .normal a' w') →
      wpAnyF E.P ops Q (fun w => ∀ b k, look st0.b b = some k → BOk X β0 w b k) hd (ops.size - hd + m) listed a w := by
  obtain ⟨hrl, hspec⟩ := planRun_spec hrun
  have hrlen : r.length = hd := by rw [hrl, List.length_take]; simp; omega
  intro m
  induction m with
  | zero =>
    intro listed β a w hsz hge hcl hm h hhole hag hF hK
    have hall : ∀ i, i < hd → listed.getD i false = true := fun i hi => by
      have := pending_zero hm.symm i hi
      simpa using this
    have hL : listed = preA ops.size hd := by
      have hps : (preA ops.size hd).size = ops.size := by simp [preA]
      apply Array.ext
      · rw [hsz, hps]
      · intro j h1 h2
        have hj : j < ops.size := by omega
        have e1 : listed.getD j false = listed[j] := by simp [h1]
        have e2 : (preA ops.size hd).getD j false = (preA ops.size hd)[j] := by simp [h2]
        rw [← e1, ← e2, preA_getD hj]
        rcases Nat.lt_or_ge j hd with h3 | h3
        · rw [hall j h3]; exact (blt_iff.2 h3).symm
        · rw [hge j h3]
          cases hb : Nat.blt j hd with
          | false => rfl
          | true => exact absurd (blt_iff.1 hb) (by omega)
    have hst : stL (r.map (·.2)) 0 (fun i => listed.getD i false) st0 = applyAll r st0 := by
      rw [applyAll_stL r 0 st0]
      have : ∀ (l : List PStep) (i : Nat) (st : St), i + l.length ≤ hd → stL l i (fun i => listed.getD i false) st = stL l i (fun _ => true) st := by
        intro l
        induction l with
        | nil => intro i st _; rfl
        | cons s l ih =>
          intro i st hi
          simp only [List.length_cons] at hi
          simp only [stL]
          rw [hall i (by omega), ih (i + 1) _ (by omega)]
      exact this _ 0 st0 (by simp [hrlen])
    rw [hst] at h
    subst hL
    rw [Nat.add_zero]
    have hble : n0 ≤ (applyAll r st0).b.length := by rw [applyAll_b]; omega
    refine execAny_sound (n0 := n0) (β0 := β0) hE hsel hs hhd hQ (fun ha => by rw [happ] at ha; cases ha) _ h hble (fun b q hb => ?_) ?_ hcl hk ?_
    · rcases Nat.lt_or_ge b st0.b.length with h1 | h1
      · rw [hag b h1]; exact hb
      · rw [hlen0 b h1] at hb; cases hb
    · rintro ⟨j, oj, hj, _, _, hjl⟩
      rw [preA_getD (by omega), blt_iff.2 hj] at hjl
      cases hjl
    · intro β' st' a' w' hk' hs' hag' hle
      exact hK β' st' a' w' hk' hs' (fun b hb => (hag' b hb).trans (hag b (by omega))) hle
  | succ m ih =>
    intro listed β a w hsz hge hcl hm h hhole hag hF hK
    have hready : ∃ i, i ∈ Region.ready .any ops listed ∧ i < hd ∧ ∀ k, k < i → listed.getD k false = true := by
      -- the first that is not listed
      have hex : ∃ i, i < hd ∧ listed.getD i false = false := by
        apply Classical.byContradiction
        intro hno
        have : (List.range hd).countP (fun i => !listed.getD i false) = 0 := by
          rw [List.countP_eq_zero]
          intro i hi
          have hi' := List.mem_range.1 hi
          cases hb : listed.getD i false with
          | true => simp
          | false => exact absurd ⟨i, hi', hb⟩ hno
        omega
      have hmin : ∀ n, (∃ i, i < n ∧ i < hd ∧ listed.getD i false = false) → ∃ i, i < hd ∧ listed.getD i false = false ∧ ∀ k, k < i → listed.getD k false = true := by
        intro n
        induction n with
        | zero => rintro ⟨i, hi, _⟩; omega
        | succ n ihn =>
          rintro ⟨i, hi, h1, h2⟩
          by_cases hb : ∃ i, i < n ∧ i < hd ∧ listed.getD i false = false
          · exact ihn hb
          · have e : i = n := by
              apply Classical.byContradiction
              intro hne
              exact hb ⟨i, by omega, h1, h2⟩
            subst e
            refine ⟨i, h1, h2, fun k hk => ?_⟩
            cases hkb : listed.getD k false with
            | true => rfl
            | false => exact absurd ⟨k, hk, by omega, hkb⟩ hb
      obtain ⟨i, hi, hb⟩ := hex
      obtain ⟨i, hi, hb, hlow⟩ := hmin (i + 1) ⟨i, by omega, hi, hb⟩
      have his : i < ops.size := by omega
      have hoi : ops[i]? = some ops[i] := by simp [his]
      refine ⟨i, mem_ready.2 ⟨?_, ops[i], hoi, fun e he hbi => hlow e.on ((line_at hoi (by omega)).1 e he hbi)⟩, hi, hlow⟩
      rw [Array.getD_eq_getD_getElem?] at hb ⊢
      simpa [hsz, his] using hb
    have key : ∀ j, j ∈ Region.ready .any ops listed → j < hd → ∃ o, ops[j]? = some o ∧ o.guard = none ∧ o.wp E.P a w (fun a' w' => (j < hd → (∀ b k, look st0.b b = some k → BOk X β0 w b k) → ∀ b k, look st0.b b = some k → BOk X β0 w' b k) ∧ wpAnyF E.P ops Q (fun w => ∀ b k, look st0.b b = some k → BOk X β0 w b k) hd (ops.size - hd + m) (listed.setIfInBounds j true) a' w') Q := by
      intro j hj hjh
      obtain ⟨hun, o, ho, hall⟩ := mem_ready.1 hj
      have hjs : j < ops.size := (Array.getElem?_eq_some_iff.1 ho).1
      have hjf : listed.getD j false = false := by
        rw [Array.getD_eq_getD_getElem?] at hun ⊢
        simpa [hsz, hjs] using hun
      have hoH : (ops.toList.take hd)[j]? = some o := by
        rw [List.getElem?_take, if_pos hjh]; simpa using ho
      obtain ⟨hg, p, s, hrj, hstep⟩ := hspec j o hoH
      have hsj : (r.map (·.2))[j]? = some s := by simp [hrj]
      have hsd : s.dst = o.dst := planStep_dst hstep
      generalize hS : r.map (·.2) = S at *
      generalize hLd : (fun i => listed.getD i false) = L at *
      have hLi : ∀ i, L i = listed.getD i false := fun i => by rw [← hLd]
      have hlj : ∀ {i : Nat} {oi : Oper}, ops[i]? = some oi → i < hd → _ := fun {i} {oi} h1 h2 => line_at h1 (Nat.lt_of_lt_of_le h2 hline)
      -- who else writes what this one writes, or looks at
      have hwr : ∀ k sk, S[k]? = some sk → ∀ τ, sk.dst = some τ → ∃ ok, ops[k]? = some ok ∧ ok.dst = some τ ∧ k < hd := by
        intro k sk hk1 τ hd1
        have hkl : k < hd := by
          have := (List.getElem?_eq_some_iff.1 hk1).1
          rw [← hS, List.length_map, hrlen] at this
          exact this
        have hks : k < ops.size := by omega
        have hok : ops[k]? = some ops[k] := by simp [hks]
        have hokH : (ops.toList.take hd)[k]? = some ops[k] := by rw [List.getElem?_take, if_pos hkl]; simp [hks]
        obtain ⟨_, p2, s2, h2, h3⟩ := hspec k ops[k] hokH
        have : S[k]? = some s2 := by rw [← hS]; simp [h2]
        rw [hk1] at this
        cases this
        exact ⟨_, hok, by rw [← planStep_dst h3]; exact hd1, hkl⟩
      have hafter : ∀ k ok, ops[k]? = some ok → j < k → (∃ e ∈ ok.after, Region.binds .any e = true ∧ e.on = j) → L k = false := by
        rintro k ok hk1 hjk ⟨e, he, hb, hon⟩
        rw [hLi]
        cases hkl : listed.getD k false with
        | false => rfl
        | true =>
          have := hcl k ok hk1 hkl e he hb
          rw [hon, hjf] at this
          cases this
      have hlook : ∀ τ, τ ∈ o.looksAt ops → ∀ k sk, S[k]? = some sk → sk.dst = some τ → L k = decide (k < j) := by
        intro τ hτ k sk hk1 hd1
        obtain ⟨ok, hok, hokd, hkh⟩ := hwr k sk hk1 τ hd1
        rcases Nat.lt_trichotomy k j with hlt | he | hgt
        · rw [decide_eq_true hlt, hLi]
          by_cases hwait : ∃ e ∈ o.after, Region.binds .any e = true ∧ e.on = k
          · obtain ⟨e, he, hb, hon⟩ := hwait
            have := hall e he hb
            rwa [hon] at this
          · have := (hlj hok hkh).2 j o ho hlt (fun e he hb hon => hwait ⟨e, he, hb, hon⟩)
            exact absurd hτ ((Oper.apart_spec this).1 τ hokd)
        · subst he
          rw [hLi, hjf]
          simp
        · rw [decide_eq_false (by omega)]
          by_cases hwait : ∃ e ∈ ok.after, Region.binds .any e = true ∧ e.on = j
          · exact hafter k ok hok hgt hwait
          · have := (hlj ho hjh).2 k ok hok hgt (fun e he hb hon => hwait ⟨e, he, hb, hon⟩)
            exact absurd hτ ((Oper.apart_spec this).2.2 τ hokd)
      have hlater : ∀ τ, o.dst = some τ → ∀ k sk, j < k → S[k]? = some sk → sk.dst = some τ → L k = false := by
        intro τ hτ k sk hjk hk1 hd1
        obtain ⟨ok, hok, hokd, hkh⟩ := hwr k sk hk1 τ hd1
        by_cases hwait : ∃ e ∈ ok.after, Region.binds .any e = true ∧ e.on = j
        · exact hafter k ok hok hjk hwait
        · have := (hlj ho hjh).2 k ok hok hjk (fun e he hb hon => hwait ⟨e, he, hb, hon⟩)
          exact absurd hokd ((Oper.apart_spec this).2.1 τ hτ)
      have hre : restr (maskOf (o.looksAt ops)) st0.b (stL S 0 L st0) = restr (maskOf (o.looksAt ops)) st0.b (applyAll (r.take j) st0) := by
        unfold restr
        have ht := stL_take r 0 j (fun k => decide (k < j)) st0 st0 rfl (fun k hk => by simp; exact hk) (fun k hk => by simp; omega)
        rw [hS] at ht
        rw [← ht]
        congr 1
        refine keepT_congr (by rw [stL_len, stL_len]) (fun τ hτ => ?_)
        rw [Nat.zero_add, maskOf_spec] at hτ
        refine stL_look S 0 _ _ st0 st0 rfl rfl (fun k sk hk1 hd1 => ?_)
        rw [Nat.zero_add]
        exact hlook τ (of_decide_eq_true hτ) k sk hk1 hd1
      have hnb : (applyAll (r.take j) st0).b.length = st0.b.length + nblk (S.take j) := by rw [applyAll_b, List.map_take, hS]
      rw [hnb] at hstep
      have hL'0 : ∀ i, (listed.setIfInBounds j true).getD i false = (L i || i == j) := fun i => by rw [getD_setTrue (by omega), hLi]
      refine ⟨o, ho, hg, planStep_run hE hstep (hask p s (List.mem_of_getElem? hrj)) hre h (fun b k hb => ?_) (fun hbl => ?_) ?_⟩
      · refine (hF b k hb).mono (fun c q hc => ?_)
        rcases Nat.lt_or_ge c st0.b.length with h1 | h1
        · rw [hag c h1]; exact hc
        · rw [hlen0 c h1] at hc; cases hc
      · obtain ⟨kb, hkb⟩ : ∃ kb, s.blk = some kb := by
          cases hb : s.blk with
          | none => exact absurd hb hbl
          | some kb => exact ⟨kb, rfl⟩
        obtain ⟨q1, q2, q3⟩ := holes_set S 0 j L (fun i => L i || i == j) s kb hsj hkb (by rw [Nat.zero_add, hLi]; exact hjf) (by simp) (fun i hi => by
          have : (i == j) = false := by simp; omega
          simp [this])
        refine ⟨?_, ?_, hhole j s hsj hbl hjf⟩
        · rw [stL_b, List.length_append, holes_len]; omega
        · rw [stL_b, look_app, if_neg (by omega), Nat.add_sub_cancel_left]; exact q2
      · intro β' u w' hkp hβ' hβ2 hsat
        have hF' : ∀ b k, look st0.b b = some k → BOk X β0 w' b k := fun b k hb => (hF b k hb).keeps hkp
        refine ⟨fun _ _ => hF', ?_⟩
        have hst' : ({ t := ((stL S 0 L st0).setT o.dst s.v).t, b := match s.blk with
            | none => (stL S 0 L st0).b
            | some k => (stL S 0 L st0).b.set (st0.b.length + nblk (S.take j)) (some k) } : St) = stL S 0 (fun i => (listed.setIfInBounds j true).getD i false) st0 := by
          have e0 : (fun i => (listed.setIfInBounds j true).getD i false) = fun i => L i || i == j := funext hL'0
          rw [e0]
          have et : ((stL S 0 L st0).setT o.dst s.v).t = (stL S 0 (fun i => L i || i == j) st0).t := by
            refine look_ext (by rw [setT_len, stL_len, stL_len]) (fun τ => ?_)
            have hother : o.dst ≠ some τ → look (stL S 0 L st0).t τ = look (stL S 0 (fun i => L i || i == j) st0).t τ := by
              intro hne
              refine stL_look S 0 _ _ st0 st0 rfl rfl (fun k sk hk1 hd1 => ?_)
              rw [Nat.zero_add]
              by_cases hkj : k = j
              · subst hkj
                rw [hsj] at hk1
                cases hk1
                exact absurd (by rw [← hsd]; exact hd1) hne
              · have : (k == j) = false := by simp [hkj]
                simp [this]
            cases hd0 : o.dst with
            | none => exact hother (by rw [hd0]; simp)
            | some d =>
              rw [setT_look]
              by_cases hdt : d = τ
              · subst hdt
                rw [if_pos rfl, stL_len]
                by_cases hlt : d < st0.t.length
                · rw [if_pos hlt]
                  refine (stL_last S 0 j _ st0 s hsj (by rw [hsd, hd0]) (by simp) (fun k sk hjk hk1 hd1 => ?_) hlt).symm
                  rw [Nat.zero_add]
                  have hkj : (k == j) = false := by simp; omega
                  rw [hlater d hd0 k sk hjk hk1 hd1, hkj]
                  rfl
                · rw [if_neg hlt, look_ge (by rw [stL_len]; exact Nat.le_of_not_lt hlt)]
              · rw [if_neg hdt]
                exact hother (by rw [hd0]; simpa using hdt)
          have eb : (match s.blk with
            | none => (stL S 0 L st0).b
            | some k => (stL S 0 L st0).b.set (st0.b.length + nblk (S.take j)) (some k)) = (stL S 0 (fun i => L i || i == j) st0).b := by
            cases hb : s.blk with
            | none =>
              simp only
              rw [stL_b, stL_b, holes_same S 0 j L (fun i => L i || i == j) s hsj hb (fun i hi => by
                have : (i == j) = false := by simp; omega
                simp [this])]
            | some kb =>
              simp only
              obtain ⟨q1, q2, q3⟩ := holes_set S 0 j L (fun i => L i || i == j) s kb hsj hb (by rw [Nat.zero_add, hLi]; exact hjf) (by simp) (fun i hi => by
                have : (i == j) = false := by simp; omega
                simp [this])
              rw [stL_b, stL_b, q1, List.set_append_right _ _ (by omega), Nat.add_sub_cancel_left]
          rw [et, eb]
        rw [hst'] at hsat
        refine ih (listed.setIfInBounds j true) (by simpa using hsz) (fun i hi => ?_) (hcl.step hj) ?_ hsat ?_ (fun b hb => ?_) hF' hK
        · rw [hL'0, hLi, hge i hi]
          have : (i == j) = false := by simp; omega
          simp [this]
        · have hflip := countP_flip (p := fun i => !listed.getD i false) (p' := fun i => !(listed.setIfInBounds j true).getD i false) hjh (by show (!listed.getD j false) = true; rw [hjf]; rfl) (by show (!(listed.setIfInBounds j true).getD j false) = false; rw [hL'0]; simp) (fun i hi => by
            show (!(listed.setIfInBounds j true).getD i false) = (!listed.getD i false)
            rw [hL'0, hLi]
            have : (i == j) = false := by simp; omega
            simp [this])
          omega
        · intro k sk hk1 hbl hkl
          rw [hL'0, Bool.or_eq_false_iff] at hkl
          have hkj : k ≠ j := by have := hkl.2; simpa using this
          have hold := hhole k sk hk1 hbl (by rw [← hLi]; exact hkl.1)
          by_cases hne : st0.b.length + nblk (S.take k) = st0.b.length + nblk (S.take j)
          · -- the same place: this one made no block
            cases hb : s.blk with
            | none => rw [hβ2 hb]; exact hold
            | some kb =>
              exfalso
              have hmono : ∀ (l : List PStep) (x y : Nat) (sx : PStep), x < y → l[x]? = some sx → sx.blk ≠ none → y ≤ l.length → nblk (l.take x) < nblk (l.take y) := by
                intro l
                induction l with
                | nil => intro x y sx _ h1; simp at h1
                | cons s0 l ihl =>
                  intro x y sx hxy h1 h2 hy
                  cases y with
                  | zero => omega
                  | succ y =>
                    cases x with
                    | zero =>
                      simp at h1
                      subst h1
                      have : s0.blk.isSome = true := by cases hb : s0.blk with
                        | none => exact absurd hb h2
                        | some _ => rfl
                      simp only [List.take_zero, List.take_succ_cons, nblk, this, if_true]
                      omega
                    | succ x =>
                      have := ihl x y sx (by omega) (by simpa using h1) h2 (by simpa using hy)
                      simp only [List.take_succ_cons, nblk]
                      omega
              have hjl := (List.getElem?_eq_some_iff.1 hsj).1
              have hkl2 := (List.getElem?_eq_some_iff.1 hk1).1
              rcases Nat.lt_or_gt_of_ne hkj with h1 | h1
              · have := hmono S k j sk h1 hk1 hbl (by omega)
                omega
              · have := hmono S j k s h1 hsj (by rw [hb]; simp) (by omega)
                omega
          · rw [hβ' _ hne]; exact hold
        · rw [hβ' b (by omega)]; exact hag b hb
    obtain ⟨i, hir, hih, hlow⟩ := hready
    by_cases hP : ∃ j o, j < hd ∧ ops[j]? = some o ∧ lazyO o = false ∧ listed.getD j false = false
    · refine ⟨fun h0 => (by rw [h0] at hir; cases hir), fun j hj => ?_⟩
      obtain ⟨hun, o, ho, hall⟩ := mem_ready.1 hj
      have hjh : j < hd := by
        rcases Nat.lt_or_ge j hd with h1 | h1
        · exact h1
        exfalso
        obtain ⟨j', o', h2, h3, h4, h5⟩ := hP
        have := sink_listed hs hcl ho hall h1 h2 h3 h4
        rw [h5] at this
        cases this
      obtain ⟨o', ho', hg', hwp⟩ := key j hj hjh
      unfold wpOp
      rw [ho']
      simp only
      rw [if_pos (by simp [Region.wanted, hg'])]
      exact .inl hwp
    · -- what is left are parts of what calls told
      obtain ⟨hun, oi, hoi, hall⟩ := mem_ready.1 hir
      have hif : listed.getD i false = false := by
        have his : i < ops.size := (Array.getElem?_eq_some_iff.1 hoi).1
        rw [Array.getD_eq_getD_getElem?] at hun ⊢
        simpa [hsz, his] using hun
      have hlz : lazyO oi = true := by
        cases hz : lazyO oi with
        | true => rfl
        | false => exact absurd ⟨i, oi, hih, hoi, hz, hif⟩ hP
      obtain ⟨o', ho', hg', k0⟩ := key i hir hih
      rw [hoi] at ho'
      cases ho'
      have hoH : (ops.toList.take hd)[i]? = some oi := by
        rw [List.getElem?_take, if_pos hih]; simpa using hoi
      obtain ⟨u, hu⟩ := lazy_value hlz k0
      have k1 : wpAnyF E.P ops Q (fun w => ∀ b k, look st0.b b = some k → BOk X β0 w b k) hd (ops.size - hd + m) (listed.setIfInBounds i true) (a.put oi.dst u) w := by
        unfold Oper.wp at k0
        rw [hu] at k0
        exact k0.2
      have hy : YieldsIf E.P ops (fun _ => True) oi u a := .inl ⟨by simp [Region.wanted, hg'], fun w' _ => lazy_run hlz hu w'⟩
      refine wpAnyF_first hoi (.inr fun _ => trivial) (Region.noSelect_spec hsel) (fun c a w hq => absurd hq (hQ _ _ _)) hs hih _ listed a w hcl ?_ hir hy trivial k1
      intro j oj hoj hji hunj hno
      have hjs : j < ops.size := (Array.getElem?_eq_some_iff.1 hoj).1
      have : ¬ j < i := fun hlt => by
        have h9 := hlow j hlt
        rw [Array.getD_eq_getD_getElem?] at h9 hunj
        simp [hsz, hjs] at h9 hunj
        rw [h9] at hunj
        cases hunj
      exact (line_at hoi (Nat.lt_of_lt_of_le hih hline)).2 j oj hoj (by omega) hno

theorem normN_eq (n : Nat) (K : Nat → Prop) : normN n K = K n := by cases n <;> rfl
theorem sinkGo_zero : ∀ l : List Nat, sinkGo 0 l = true
  | [] => rfl
  | m :: l => by
    show (Nat.beq (Nat.land m 0) 0 && sinkGo 0 l) = true
    rw [sinkGo_zero l]
    have : Nat.land m 0 = 0 := Nat.and_zero m
    rw [this]
    rfl
theorem headF_spec (E : Env) (ops : Array Oper) (i : Nat) (o : Oper) (hi : i < headF E ops) (ho : ops.toList[i]? = some o) : writes E o = false := by
  unfold headF at hi
  split at hi
  · exact headOf_spec E ops.toList i o hi ho
  · omega

theorem execLines_sound (hE : EnvOk E) {ops : Array Oper} {id : Nat} {β : Asg} {st : St} {a : Act} {w : World} (h : Sat X β st a w) (hn : n0 ≤ st.b.length)
    {hd : Nat} (hc : Region.noSelect ops = true ∧ sinkOk ops hd = true) (hhd : ∀ i o, i < hd → ops.toList[i]? = some o → writes E o = false) (hk : execLines E ops hd st K)
    (hK : ∀ β' st' a' w', K st' → Sat X β' st' a' w' → (∀ b, b < n0 → β' b = β b) → n0 ≤ st'.b.length → Q .normal a' w') : (Code.region id ops true).wp E.P Q a w := by
  unfold execLines at hk
  simp only [normN_eq] at hk
  have hk : execLine E ops (if ops.any appends = true then noRows st.b else st.b) (hd) (Nat.min (hd) (lineLen ops)) ops.toList 0 [] st K := by
    rw [anyR_eq] at hk
    have e : ops.any appends = ops.toList.any appends := by simp
    rw [e]
    cases hb : ops.toList.any appends <;> rw [hb] at hk <;> simpa using hk
  have hw1 : Keeps w { w with drawn := w.drawn + 1 } := Keeps.drawn w _
  have h1 := h.keeps hw1
  refine wp_mono (Q := fun e a w => e = .normal ∧ Q .normal a w) ?_ (fun e a w hq => by obtain ⟨rfl, hq⟩ := hq; exact hq)
  refine wp_region_any hE.mixed (wpAny_of_F (F := fun w => ∀ b k, look (if ops.any appends = true then noRows st.b else st.b) b = some k → BOk X β w b k) (hd := hd) _ _ _ _ ?_)
  have hpre : Array.replicate ops.size false = preA ops.size 0 := by
    apply Array.ext
    · simp [preA]
    · intro j h1 h2
      have hj : j < ops.size := by simpa using h1
      apply Option.some.inj
      rw [← Array.getElem?_eq_getElem, ← Array.getElem?_eq_getElem, preA_get hj]
      rw [Array.getElem?_replicate, if_pos hj]; congr 1
  have hsz : ops.size = ops.size - 0 := rfl
  rw [hpre, hsz, Nat.sub_zero]
  refine execLine_sound (n0 := n0) (β0 := β) hE hc.1 hc.2 (fun i o hi ho => hhd i o hi (by simpa using ho)) (fun c a w hq => by cases hq.1) ?_ (Nat.min_le_left _ _) (Nat.min_le_right _ _) ops.toList rfl (Nat.zero_le _) h1 hn (fun b r hb => hb) ?_ ?_ hk
    (fun β' st' a' w' hk' hs' hag hle => ⟨rfl, hK β' st' a' w' hk' hs' hag hle⟩)
  · intro ha b k hb
    rw [if_pos ha] at hb
    exact (noRows_look _ b k hb).2
  · refine ⟨fun b k hb => ?_, fun ha b k hb => ?_⟩
    · split at hb
      · exact h1.blks b k (noRows_look _ b k hb).1
      · exact h1.blks b k hb
    · rw [if_pos ha] at hb
      exact (noRows_look _ b k hb).1
  · intro j o hj hl
    rw [preA_getD (Array.getElem?_eq_some_iff.1 hj).1] at hl
    exact absurd (blt_iff.1 hl) (by omega)

theorem headOf_le (E : Env) : ∀ l : List Oper, headOf E l ≤ l.length
  | [] => Nat.le_refl _
  | o :: l => by
    simp only [headOf]
    split
    · omega
    · have := headOf_le E l
      simp only [List.length_cons]
      omega
theorem headF_le (E : Env) (ops : Array Oper) : headF E ops ≤ ops.size := by
  unfold headF
  split
  · have := headOf_le E ops.toList
    rwa [Array.length_toList] at this
  · omega
/-! ### a region in which calls that write stand among others -/
theorem Rep.back {β0 β : Asg} (hβ : ∀ b r, β0 b = some r → β b = some r) {c : IV} {u : Value} (h : Rep β0 c u) : ∀ {v : Value}, Rep β c v → Rep β0 c v := by
  induction h with
  | int h => intro v h'; cases h'; exact .int h
  | bool => intro v h'; cases h'; exact .bool
  | nilp => intro v h'; cases h'; exact .nilp
  | nils => intro v h'; cases h'; exact .nils
  | nilf => intro v h'; cases h'; exact .nilf
  | unk h => intro v h'; cases h' with | unk h2 => exact .unk h2
  | fn hl h ih =>
    intro v h'
    cases h' with
    | fn hl2 h2 =>
      refine .fn hl2 fun i c v hc hv => ?_
      rename_i caps cs cs'
      have hi : i < cs.size := by rw [← hl]; exact (List.getElem?_eq_some_iff.1 hc).1
      exact ih i c cs[i] hc (by simp [hi]) (h2 i c v hc hv)
  | ptr h => intro v h'; cases h' with | ptr h2 => rw [hβ _ _ h] at h2; cases h2; exact .ptr h
  | pdyn h => intro v h'; cases h' with | pdyn h2 => rw [hβ _ _ h] at h2; cases h2; exact .pdyn h
  | prow h => intro v h'; cases h' with | prow h2 => rw [hβ _ _ h] at h2; cases h2; exact .prow h
  | prowd h => intro v h'; cases h' with | prowd h2 => rw [hβ _ _ h] at h2; cases h2; exact .prowd h
  | sl h => intro v h'; cases h' with | sl h2 => rw [hβ _ _ h] at h2; cases h2; exact .sl h
  | agg hl h1 h ih =>
    intro v h'
    cases h' with
    | agg hl2 h12 h2 =>
      refine .agg hl2 h12 fun i c v hc hv => ?_
      rename_i cs xs xs'
      have hi : i < xs.size := by rw [← hl]; exact (List.getElem?_eq_some_iff.1 hc).1
      exact ih i c xs[i] hc (by simp [hi]) (h2 i c v hc hv)
  | tup hl h ih =>
    intro v h'
    cases h' with
    | tup hl2 h2 =>
      refine .tup hl2 fun i c v hc hv => ?_
      rename_i cs xs xs'
      have hi : i < xs.size := by rw [← hl]; exact (List.getElem?_eq_some_iff.1 hc).1
      exact ih i c xs[i] hc (by simp [hi]) (h2 i c v hc hv)
theorem BOk.back {X : Ctx} {β0 β : Asg} {w w' : World} {b : Nat} {k : Blk} (h : BOk X β0 w b k) (hβ : ∀ b r, β0 b = some r → β b = some r) (h' : BOk X β w' b k) (hr : k.isRow = false) : BOk X β0 w' b k := by
  cases k with
  | var t cells =>
    obtain ⟨id, cs, h1, h2, h3, h4⟩ := h
    obtain ⟨id', cs', g1, g2, g3, g4⟩ := h'
    rw [hβ _ _ h1] at g1
    cases g1
    refine ⟨id, cs', h1, h2, g3, g4.1, g4.2.1, fun i c v hc hv => ?_⟩
    have hi : i < cs.size := by rw [← h4.1]; exact (List.getElem?_eq_some_iff.1 hc).1
    exact (h4.2.2 i c cs[i] hc (by simp [hi])).back hβ (g4.2.2 i c v hc hv)
  | ints t k xs =>
    obtain ⟨id, h1, h2, _⟩ := h
    obtain ⟨id', g1, g2⟩ := h'
    rw [hβ _ _ h1] at g1
    cases g1
    exact ⟨id, h1, g2⟩
  | row e ks xs => cases hr
  | ro ks xs =>
    obtain ⟨A, c, h1, _⟩ := h
    obtain ⟨A', c', g1, g2⟩ := h'
    rw [hβ _ _ h1] at g1
    cases g1
    exact ⟨A, c, h1, g2⟩
theorem sink_all (ops : Array Oper) : sinkOk ops ops.size = true := by
  unfold sinkOk
  have : (depMasks ops.toList []).drop ops.size = [] := by
    rw [List.drop_eq_nil_iff, depMasks_length]
    simp
  rw [this]
  rfl
theorem execFree_sound (hE : EnvOk E) (hsel : Region.noSelect ops = true) (hQ : ∀ c a w, ¬ Q (.panic c) a w) (hrow : ∀ b k, look facts b = some k → k.isRow = false) :
    ∀ (fuel : Nat) {listed : Array Bool} {gs : List (Nat × Bool)} {β : Asg} {st : St} {a : Act} {w : World}, Sat X β st a w → n0 ≤ st.b.length → (∀ b r, β0 b = some r → β b = some r) →
    (∀ b k, look facts b = some k → BOk X β0 w b k) → Left facts st →
    Closed ops listed → execFree E ops facts fuel listed gs st K →
    (∀ β' st' a' w', K st' → Sat X β' st' a' w' → (∀ b, b < n0 → β' b = β b) → n0 ≤ st'.b.length → Q .normal a' w') →
    wpAnyF E.P ops Q (fun w => ∀ b k, look facts b = some k → BOk X β0 w b k) ops.size fuel listed a w := by
  intro fuel
  induction fuel with
  | zero =>
    intro listed gs β st a w h hn hm hF hL hcl hk hK
    simp only [execFree, normT_eq, normB_eq] at hk
    split at hk
    · rename_i hr
      exact ⟨hr, hK β st a w hk h (fun _ _ => rfl) hn⟩
    · exact hk.elim
  | succ fuel ih =>
    intro listed gs β st a w h hn hm hF hL hcl hk hK
    simp only [execFree, normT_eq, normB_eq] at hk
    split at hk
    · rename_i hr
      exact ⟨fun _ => hK β st a w hk h (fun _ _ => rfl) hn, fun i hi => by rw [hr] at hi; cases hi⟩
    · rename_i r rs hr
      split at hk
      · -- one is taken first
        rename_i i hp
        obtain ⟨hmem, hih, hfree, o, ho⟩ := pick1_spec hp
        rw [ho] at hk
        simp only at hk
        rw [← hr] at hmem
        have hgo : ∀ {v : Value} {F1 : World → Prop}, ((F1 = fun w => ∀ b k, look facts b = some k → BOk X β0 w b k) ∧ lazyO o = false ∨ ∀ w, F1 w) → YieldsIf E.P ops F1 o v a → F1 w → wpAnyF E.P ops Q (fun w => ∀ b k, look facts b = some k → BOk X β0 w b k) ops.size fuel (listed.setIfInBounds i true) (a.put o.dst v) w → wpAnyF E.P ops Q (fun w => ∀ b k, look facts b = some k → BOk X β0 w b k) ops.size (fuel + 1) listed a w :=
          fun hmode hy hF1 hw => wpAnyF_first ho hmode (Region.noSelect_spec hsel) (fun c a w hq => absurd hq (hQ _ _ _)) (sink_all ops) hih fuel listed a w hcl (Region.free_spec ho hfree) hmem hy hF1 hw
        rcases guardK_sound h hk with ⟨hw, hk⟩ | ⟨hw, hk⟩
        · split at hk
          · rename_i p v hps
            split at hk
            · rename_i hkn
              have hp' : ∀ q, p = some q → q := by intro q hq; subst hq; exact hk.1
              have hk' : execFree E ops facts fuel (listed.setIfInBounds i true) (newG gs o true) (st.setT o.dst v) K := by
                cases p with
                | none => exact hk
                | some q => exact hk.2
              have hrun : ∀ w', (∀ b k, look facts b = some k → BOk X β0 w' b k) → ∃ u, Rep β v u ∧ (execOp a.eval o).run E.P w' = .ok (.value u) w' := by
                intro w' hF'
                exact pureStep_sound (st := { st with b := facts }) (fun x v hx => ev_rep h (by rw [ev_b st.t st.b facts x]; exact hx)) (fun b k hb => (hF' b k hb).mono hm) hps hp'
              obtain ⟨u, hu, hrun0⟩ := hrun w hF
              have hnext := ih (h.setT hu o.dst) (by rw [setT_b]; exact hn) hm hF (hL.setT _ _) (hcl.step hmem) hk' hK
              cases hlz : lazyO o with
              | false =>
                have hy : YieldsIf E.P ops (fun w => ∀ b k, look facts b = some k → BOk X β0 w b k) o u a := by
                  refine .inl ⟨hw, fun w' hF' => ?_⟩
                  obtain ⟨u', hu', hrun'⟩ := hrun w' hF'
                  rw [Rep.det hkn hu hu']
                  exact hrun'
                exact hgo (.inl ⟨rfl, hlz⟩) hy hF hnext
              | true =>
                have hy : YieldsIf E.P ops (fun _ => True) o u a := .inl ⟨hw, fun w' _ => lazy_run hlz hrun0 w'⟩
                exact hgo (.inr fun _ => trivial) hy trivial hnext
            · exact hk.elim
          · exact hk.elim
        · have hy : YieldsIf E.P ops (fun _ => True) o undef a := .inr ⟨hw, rfl⟩
          exact hgo (.inr fun _ => trivial) hy trivial (ih (h.setT (undef_rep β) o.dst) (by rw [setT_b]; exact hn) hm hF (hL.setT _ _) (hcl.step hmem) hk hK)
      · -- whichever is at hand
        refine ⟨fun h0 => (by rw [h0] at hr; cases hr), fun i hi => ?_⟩
        rw [hr] at hi
        have hki := allOf_mem hk i hi
        rw [← hr] at hi
        obtain ⟨hun, o, ho, hall⟩ := mem_ready.1 hi
        rw [ho] at hki
        simp only at hki
        unfold wpOp
        rw [ho]
        simp only
        rcases guardK_sound h hki with ⟨hw, hki⟩ | ⟨hw, hki⟩
        · rw [if_pos hw]
          cases htk : touchOk E facts st o with
          | false => rw [htk] at hki; exact hki.elim
          | true =>
            rw [htk] at hki
            replace hki : stepK E st o fun st' => execFree E ops facts fuel (listed.setIfInBounds i true) (newG gs o true) st' K := hki
            have cont : ∀ β' st' a' w', execFree E ops facts fuel (listed.setIfInBounds i true) (newG gs o true) st' K → Sat X β' st' a' w' → (∀ b, b < st.b.length → β' b = β b) → st.b.length ≤ st'.b.length → Left facts st' →
                (i < ops.size → (∀ b k, look facts b = some k → BOk X β0 w b k) → ∀ b k, look facts b = some k → BOk X β0 w' b k) ∧ wpAnyF E.P ops Q (fun w => ∀ b k, look facts b = some k → BOk X β0 w b k) ops.size fuel (listed.setIfInBounds i true) a' w' := by
              intro β' st' a' w' hk' hsat hag hle hL'
              have hm' : ∀ b r, β0 b = some r → β' b = some r := fun b r hb => h.agree_mono hag b r (hm b r hb)
              have hF' : ∀ b k, look facts b = some k → BOk X β0 w' b k := fun b k hb => (hF b k hb).back hm' (hsat.blks b k (hL' b k hb)) (hrow b k hb)
              exact ⟨fun _ _ => hF', ih hsat (Nat.le_trans hn hle) hm' hF' hL' (hcl.step hi) hk' (fun β'' st'' a'' w'' hk'' hs'' hag'' hle'' => hK β'' st'' a'' w'' hk'' hs'' (fun b hb => (hag'' b hb).trans (hag b (by omega))) hle'')⟩
            cases hwr : writes E o with
            | false =>
              refine .inl (stepK_sound h hE hki ?_)
              intro β' st' a' w' hk' hsat hag hle hrel
              exact cont β' st' a' w' hk' hsat hag hle (fun b k hb => (hrel hwr).keep b k (hL b k hb) (hrow b k hb))
            | true =>
              refine .inl (stepK_sound h hE (stepK_left hE hL hrow htk hwr hki) ?_)
              intro β' st' a' w' hk' hsat hag hle hrel
              exact cont β' st' a' w' hk'.1 hsat hag hle hk'.2
        · rw [if_neg (by rw [hw]; simp)]
          exact ⟨fun _ h => h, ih (h.setT (undef_rep β) o.dst) (by rw [setT_b]; exact hn) hm hF (hL.setT _ _) (hcl.step hi) hki hK⟩

/-- what follows an operation whatever comes of it -/
theorem wp_const {P : Program} {o : Oper} {a : Act} {w : World} {φ : Prop} (h : o.wp P a w (fun _ _ => φ) (fun _ _ _ => φ)) : φ := by
  unfold Oper.wp at h
  cases hr : (execOp a.eval o).run P w with
  | ok n w' =>
    rw [hr] at h
    cases n with
    | value v => exact h
    | skip => exact h
    | defer d => exact h
    | enter f args =>
      obtain ⟨e, w'', fr, hR, _⟩ := h []
      cases e with
      | returned v => exact hR
      | panicked c => exact hR
      | outgrown => obtain ⟨_, _, hR⟩ := hR; exact hR
    | row r args =>
      obtain ⟨v, w'', hR, _⟩ := h (Frame.enter P 0 #[] .normal) []
      exact hR
    | _ => exact h.elim
  | halt x w' =>
    rw [hr] at h
    cases x with
    | panic v => exact h
    | _ => exact h.elim
theorem execOps_inh (hE : EnvOk E) {ops : Array Oper} : ∀ {l : List Oper} {β : Asg} {st : St} {a : Act} {w : World}, Sat X β st a w → execOps E ops.toList l st K → ∃ st', K st' := by
  intro l
  induction l with
  | nil => intro β st a w h hk; exact ⟨st, hk⟩
  | cons o rest ih =>
    intro β st a w h hk
    simp only [execOps, normT_eq] at hk
    rcases guardK_sound h hk with ⟨hw, hk⟩ | ⟨hw, hk⟩
    · have := stepK_sound (Q := fun _ _ _ => ∃ β' st' a' w', execOps E ops.toList rest st' K ∧ Sat X β' st' a' w') (Kw := fun _ _ => ∃ β' st' a' w', execOps E ops.toList rest st' K ∧ Sat X β' st' a' w') h hE hk (fun β' st' a' w' hk' hs _ _ _ => ⟨β', st', a', w', hk', hs⟩)
      obtain ⟨β', st', a', w', hk', hs⟩ := wp_const this
      exact ih hs hk'
    · exact ih (h.setT (undef_rep β) o.dst) hk
theorem normF_eq : ∀ (l : List (Option Blk)) (K : List (Option Blk) → Prop), normF l K = K l
  | [], _ => rfl
  | none :: l, K => normF_eq l fun l => K (none :: l)
  | some v :: l, K => normF_eq l fun l => K (some v :: l)
theorem without_look (ids : List Nat) : ∀ (l : List (Option Blk)) (i b : Nat) (k : Blk), look (without ids i l) b = some k → look l b = some k
  | [], i, b, k, h => by simp only [without] at h; rw [look_nil] at h; cases h
  | x :: l, i, 0, k, h => by
    simp only [without] at h
    rw [look_zero] at h ⊢
    split at h
    · cases h
    · exact h
  | x :: l, i, b + 1, k, h => by
    simp only [without] at h
    rw [look_succ] at h ⊢
    exact without_look ids l (i + 1) b k h
theorem execJoin_sound (hE : EnvOk E) {ops : Array Oper} {id : Nat} {β : Asg} {st : St} {a : Act} {w : World} (h : Sat X β st a w) (hn : n0 ≤ st.b.length)
    (hc : Region.noSelect ops = true) (hk : execJoin E ops st K)
    (hK : ∀ β' st' a' w', K st' → Sat X β' st' a' w' → (∀ b, b < n0 → β' b = β b) → n0 ≤ st'.b.length → Q .normal a' w') : (Code.region id ops true).wp E.P Q a w := by
  unfold execJoin at hk
  obtain ⟨st1, hk, hK1⟩ := execOps_inh hE h hk
  rw [normF_eq] at hk
  generalize hfa : noRows (without (dryIds E ops.toList st []) 0 st.b) = facts at hk
  have hsub : ∀ b k, look facts b = some k → look st.b b = some k ∧ k.isRow = false := by
    intro b k hb
    rw [← hfa] at hb
    obtain ⟨h1, h2⟩ := noRows_look _ b k hb
    exact ⟨without_look _ _ _ _ _ h1, h2⟩
  have hw1 : Keeps w { w with drawn := w.drawn + 1 } := Keeps.drawn w _
  have h1 := h.keeps hw1
  refine wp_mono (Q := fun e a w => e = .normal ∧ Q .normal a w) ?_ (fun e a w hq => by obtain ⟨rfl, hq⟩ := hq; exact hq)
  refine wp_region_any hE.mixed (wpAny_of_F (F := fun w => ∀ b k, look facts b = some k → BOk X β w b k) (hd := ops.size) _ _ _ _ ?_)
  have hpre : Array.replicate ops.size false = preA ops.size 0 := by
    apply Array.ext
    · simp [preA]
    · intro j h1 h2
      have hj : j < ops.size := by simpa using h1
      apply Option.some.inj
      rw [← Array.getElem?_eq_getElem, ← Array.getElem?_eq_getElem, preA_get hj]
      rw [Array.getElem?_replicate, if_pos hj]; congr 1
  rw [hpre]
  refine execFree_sound (n0 := n0) (β0 := β) hE hc (fun c a w hq => by cases hq.1) (fun b k hb => (hsub b k hb).2) ops.size h1 hn (fun b r hb => hb) (fun b k hb => h1.blks b k (hsub b k hb).1) (fun b k hb => (hsub b k hb).1) ?_ hk
    (fun β' st' a' w' hk' hs' hag hle => ⟨rfl, hK β' st' a' w' (by rw [hk']; exact hK1) hs' hag hle⟩)
  intro j o hj hl
  rw [preA_getD (Array.getElem?_eq_some_iff.1 hj).1] at hl
  exact absurd (blt_iff.1 hl) (by omega)

end
/-! ### regions that store into what they have made -/
def cntB (s : WStep) : Nat := if s.s.blk.isSome then 1 else 0
def cntW : List WStep → Nat
  | [] => 0
  | s :: l => cntB s + cntW l
noncomputable def stW : List WStep → Nat → (Nat → Bool) → St → St
  | [], _, _, st => st
  | s :: l, i, L, st => stW l (i + 1) L (apW (L i) s st)
def bW : List WStep → Nat → (Nat → Bool) → List (Option Blk) → List (Option Blk)
  | [], _, _, b => b
  | s :: l, i, L, b => bW l (i + 1) L (setU (L i) s.upd (b ++ holeOf (L i) s.s.blk))
theorem stW_b : ∀ (l : List WStep) (i : Nat) (L : Nat → Bool) (st : St), (stW l i L st).b = bW l i L st.b
  | [], _, _, _ => rfl
  | s :: l, i, L, st => by simp only [stW, bW]; rw [stW_b l]; rfl
theorem apL_t {c : Bool} {s : PStep} {st st' : St} (h : st.t = st'.t) : (apL c s st).t = (apL c s st').t := by
  unfold apL; cases c
  · exact h
  · simp only [if_true]
    cases s.dst with
    | none => exact h
    | some d => simp only [St.setT, h]
theorem stL_t : ∀ (l : List PStep) (i : Nat) (L : Nat → Bool) (st st' : St), st.t = st'.t → (stL l i L st).t = (stL l i L st').t
  | [], _, _, _, _, h => h
  | s :: l, i, L, st, st', h => by simp only [stL]; exact stL_t l (i + 1) L _ _ (apL_t h)
theorem stW_t : ∀ (l : List WStep) (i : Nat) (L : Nat → Bool) (st : St), (stW l i L st).t = (stL (l.map (·.s)) i L st).t
  | [], _, _, _ => rfl
  | s :: l, i, L, st => by
    simp only [stW, stL, List.map_cons]
    rw [stW_t l]
    refine stL_t _ _ _ _ _ ?_
    unfold apW apL
    rfl
theorem setU_len (c : Bool) (u : Option (Nat × Blk)) (b : List (Option Blk)) : (setU c u b).length = b.length := by
  unfold setU
  cases u with
  | none => rfl
  | some p => obtain ⟨k, x⟩ := p; cases c <;> simp
theorem bW_len : ∀ (l : List WStep) (i : Nat) (L : Nat → Bool) (b : List (Option Blk)), (bW l i L b).length = b.length + cntW l
  | [], _, _, _ => rfl
  | s :: l, i, L, b => by
    simp only [bW, cntW]
    rw [bW_len l, setU_len, List.length_append, holeOf_len, cntB]
    omega
/-- what one step leaves at a place -/
def ptS (s : WStep) (c : Bool) (len n : Nat) (acc : Option Blk) : Option Blk :=
  match s.upd with
  | none => if s.s.blk.isSome = true ∧ n = len then (if c then s.s.blk else none) else acc
  | some (k, x) => if c = true ∧ n = k ∧ k < len + cntB s then some x else if s.s.blk.isSome = true ∧ n = len then (if c then s.s.blk else none) else acc
def ptW : List WStep → Nat → Nat → (Nat → Bool) → Nat → Option Blk → Option Blk
  | [], _, _, _, _, acc => acc
  | s :: l, i, len, L, n, acc => ptW l (i + 1) (len + cntB s) L n (ptS s (L i) len n acc)
theorem look_hole (c : Bool) (s : WStep) (b : List (Option Blk)) (n : Nat) : look (b ++ holeOf c s.s.blk) n = if s.s.blk.isSome = true ∧ n = b.length then (if c then s.s.blk else none) else look b n := by
  rw [look_app]
  by_cases h : n < b.length
  · rw [if_pos h, if_neg (by omega)]
  · rw [if_neg h]
    cases hb : s.s.blk with
    | none =>
      simp only [holeOf, Option.isSome_none, Bool.false_eq_true, false_and, if_false]
      rw [look_nil, look_ge (by omega)]
    | some k =>
      simp only [holeOf, Option.isSome_some, true_and]
      by_cases he : n = b.length
      · subst he
        rw [if_pos rfl, Nat.sub_self, look_zero]
      · rw [if_neg he, look_ge (by simp; omega), look_ge (by omega)]
theorem look_step (c : Bool) (s : WStep) (b : List (Option Blk)) (n : Nat) : look (setU c s.upd (b ++ holeOf c s.s.blk)) n = ptS s c b.length n (look b n) := by
  unfold setU ptS
  cases hu : s.upd with
  | none => exact look_hole c s b n
  | some p =>
    obtain ⟨k, x⟩ := p
    simp only
    cases c with
    | false =>
      simp only [Bool.false_eq_true, if_false, false_and]
      have := look_hole false s b n
      simpa using this
    | true =>
      simp only [if_true, true_and]
      rw [look_set, List.length_append, holeOf_len]
      have e : (if s.s.blk.isSome = true then 1 else 0) = cntB s := rfl
      rw [e]
      by_cases hk : k = n
      · subst hk
        rw [if_pos rfl]
        by_cases hl : k < b.length + cntB s
        · rw [if_pos hl, if_pos ⟨rfl, hl⟩]
        · rw [if_neg hl, if_neg (by omega)]
          have := look_hole true s b k
          simp only [if_true] at this
          rw [← this, look_ge (by rw [List.length_append, holeOf_len, e]; omega)]
      · rw [if_neg hk, if_neg (fun h => hk h.1.symm)]
        have := look_hole true s b n
        simpa using this
theorem look_bW : ∀ (l : List WStep) (i : Nat) (L : Nat → Bool) (b : List (Option Blk)) (n : Nat), look (bW l i L b) n = ptW l i b.length L n (look b n)
  | [], _, _, _, _ => rfl
  | s :: l, i, L, b, n => by
    simp only [bW, ptW]
    rw [look_bW l, look_step, setU_len, List.length_append, holeOf_len]
    rfl
/-- does a step touch a place? -/
def touches (s : WStep) (len n : Nat) : Prop := (s.s.blk.isSome = true ∧ n = len) ∨ ∃ x, s.upd = some (n, x)
theorem ptS_far {s : WStep} {len n : Nat} (h : ¬ touches s len n) (c : Bool) (acc : Option Blk) : ptS s c len n acc = acc := by
  unfold ptS
  have h1 : ¬ (s.s.blk.isSome = true ∧ n = len) := fun h' => h (.inl h')
  cases hu : s.upd with
  | none => simp only; rw [if_neg h1]
  | some p =>
    obtain ⟨k, x⟩ := p
    simp only
    rw [if_neg (fun h' => h (.inr ⟨x, by rw [hu, h'.2.1]⟩)), if_neg h1]
theorem ptS_off {s : WStep} {len n : Nat} (h : s.s.blk = none) (acc : Option Blk) : ptS s false len n acc = acc := by
  unfold ptS
  rw [h]
  cases hu : s.upd with
  | none => simp
  | some p => simp
theorem ptW_congr : ∀ (l : List WStep) (i len : Nat) (L L' : Nat → Bool) (n : Nat) (acc : Option Blk), (∀ j s, l[j]? = some s → touches s (len + cntW (l.take j)) n → L (i + j) = L' (i + j)) → ptW l i len L n acc = ptW l i len L' n acc
  | [], _, _, _, _, _, _, _ => rfl
  | s :: l, i, len, L, L', n, acc, h => by
    simp only [ptW]
    have e : ptS s (L i) len n acc = ptS s (L' i) len n acc := by
      by_cases ht : touches s len n
      · have := h 0 s rfl (by simpa [cntW] using ht)
        rw [Nat.add_zero] at this
        rw [this]
      · rw [ptS_far ht, ptS_far ht]
    rw [e]
    refine ptW_congr l (i + 1) _ L L' n _ (fun j s' hj ht => ?_)
    have := h (j + 1) s' (by simpa using hj) (by simpa [cntW, Nat.add_assoc] using ht)
    rwa [show i + (j + 1) = i + 1 + j by omega] at this
theorem ptW_idle : ∀ (l : List WStep) (i len : Nat) (L : Nat → Bool) (n : Nat) (acc : Option Blk), (∀ j s, l[j]? = some s → touches s (len + cntW (l.take j)) n → s.s.blk = none ∧ L (i + j) = false) → ptW l i len L n acc = acc
  | [], _, _, _, _, _, _ => rfl
  | s :: l, i, len, L, n, acc, h => by
    simp only [ptW]
    have e : ptS s (L i) len n acc = acc := by
      by_cases ht : touches s len n
      · obtain ⟨h1, h2⟩ := h 0 s rfl (by simpa [cntW] using ht)
        rw [Nat.add_zero] at h2
        rw [h2, ptS_off h1]
      · rw [ptS_far ht]
    rw [e]
    refine ptW_idle l (i + 1) _ L n _ (fun j s' hj ht => ?_)
    have := h (j + 1) s' (by simpa using hj) (by simpa [cntW, Nat.add_assoc] using ht)
    rwa [show i + (j + 1) = i + 1 + j by omega] at this
theorem ptW_at : ∀ (l : List WStep) (i len : Nat) (L : Nat → Bool) (n : Nat) (acc : Option Blk) (j : Nat) (s : WStep), l[j]? = some s →
    (∀ m s', j < m → l[m]? = some s' → touches s' (len + cntW (l.take m)) n → s'.s.blk = none ∧ L (i + m) = false) → ∃ acc', ptW l i len L n acc = ptS s (L (i + j)) (len + cntW (l.take j)) n acc'
  | [], _, _, _, _, _, _, _, h, _ => by simp at h
  | s0 :: l, i, len, L, n, acc, 0, s, h, hk => by
    simp at h
    subst h
    refine ⟨acc, ?_⟩
    simp only [ptW, List.take_zero, cntW, Nat.add_zero]
    refine ptW_idle l (i + 1) _ L n _ (fun j s' hj ht => ?_)
    have := hk (j + 1) s' (by omega) (by simpa using hj) (by simpa [cntW, Nat.add_assoc] using ht)
    rwa [show i + (j + 1) = i + 1 + j by omega] at this
  | s0 :: l, i, len, L, n, acc, j + 1, s, h, hk => by
    simp only [ptW, List.take_succ_cons, cntW]
    obtain ⟨acc', e⟩ := ptW_at l (i + 1) (len + cntB s0) L n (ptS s0 (L i) len n acc) j s (by simpa using h) (fun m s' hm hj ht => by
      have := hk (m + 1) s' (by omega) (by simpa using hj) (by simpa [cntW, Nat.add_assoc] using ht)
      rwa [show i + (m + 1) = i + 1 + m by omega] at this)
    refine ⟨acc', ?_⟩
    rw [e, show i + 1 + j = i + (j + 1) by omega, Nat.add_assoc]
/-- each place behind what was there is made by a step -/
theorem made_by : ∀ (l : List WStep) (len n : Nat), len ≤ n → n < len + cntW l → ∃ j s, l[j]? = some s ∧ s.s.blk.isSome = true ∧ n = len + cntW (l.take j)
  | [], len, n, h1, h2 => by simp [cntW] at h2; omega
  | s :: l, len, n, h1, h2 => by
    simp only [cntW] at h2
    by_cases h : s.s.blk.isSome = true ∧ n = len
    · exact ⟨0, s, rfl, h.1, by simp [cntW, h.2]⟩
    · have hge : len + cntB s ≤ n := by
        unfold cntB at *
        split
        · rename_i hb
          have : n ≠ len := fun e => h ⟨hb, e⟩
          omega
        · omega
      obtain ⟨j, s', h3, h4, h5⟩ := made_by l (len + cntB s) n hge (by omega)
      exact ⟨j + 1, s', by simpa using h3, h4, by simp only [List.take_succ_cons, cntW]; omega⟩
theorem cntW_mono : ∀ (l : List WStep) (x y : Nat), x ≤ y → cntW (l.take x) ≤ cntW (l.take y)
  | [], x, y, _ => by simp
  | s :: l, 0, y, _ => by simp [cntW]
  | s :: l, x + 1, 0, h => by omega
  | s :: l, x + 1, y + 1, h => by simp only [List.take_succ_cons, cntW]; have := cntW_mono l x y (by omega); omega
theorem cntW_lt : ∀ (l : List WStep) (x y : Nat) (s : WStep), x < y → l[x]? = some s → s.s.blk.isSome = true → cntW (l.take x) < cntW (l.take y)
  | [], x, y, s, _, h, _ => by simp at h
  | s0 :: l, 0, y + 1, s, _, h, hb => by
    simp at h
    subst h
    simp only [List.take_zero, List.take_succ_cons, cntW, cntB, if_pos hb]
    omega
  | s0 :: l, x + 1, y + 1, s, hxy, h, hb => by
    simp only [List.take_succ_cons, cntW]
    have := cntW_lt l x y s (by omega) (by simpa using h) hb
    omega
  | _, x, 0, _, h, _, _ => by omega
theorem cntW_le : ∀ (l : List WStep) (x : Nat), cntW (l.take x) ≤ cntW l
  | [], x => by simp
  | s :: l, 0 => by simp [cntW]
  | s :: l, x + 1 => by simp only [List.take_succ_cons, cntW]; have := cntW_le l x; omega
/-- steps that store: each into a place of its own -/
theorem upds_apart : ∀ {l : List (Option Prop × WStep)}, nodupB (updsOf l) = true → ∀ {i j : Nat} {si sj : WStep} {k : Nat} {x y : Blk}, (l.map (·.2))[i]? = some si → (l.map (·.2))[j]? = some sj → si.upd = some (k, x) → sj.upd = some (k, y) → i = j := by
  have mem : ∀ (l : List (Option Prop × WStep)) (i : Nat) (s : WStep) (k : Nat) (x : Blk), (l.map (·.2))[i]? = some s → s.upd = some (k, x) → k ∈ updsOf l := by
    intro l
    induction l with
    | nil => intro i s k x h; simp at h
    | cons p l ih =>
      obtain ⟨p, s0⟩ := p
      intro i s k x h hu
      cases i with
      | zero => simp at h; subst h; simp [updsOf, hu]
      | succ i =>
        have := ih i s k x (by simpa using h) hu
        simp only [updsOf]
        split
        · exact this
        · exact List.mem_cons_of_mem _ this
  intro l
  induction l with
  | nil => intro _ i j si sj k x y h; simp at h
  | cons p l ih =>
    obtain ⟨p, s0⟩ := p
    intro hn i j si sj k x y hi hj hx hy
    have tail : nodupB (updsOf l) = true := by
      simp only [updsOf] at hn
      split at hn
      · exact hn
      · simp only [nodupB, Bool.and_eq_true] at hn; exact hn.2
    have head : ∀ (i : Nat) (s : WStep) (z : Blk) (w : Blk), (l.map (·.2))[i]? = some s → s.upd = some (k, z) → s0.upd = some (k, w) → False := by
      intro i s z w h1 h2 h3
      have := mem l i s k z h1 h2
      simp only [updsOf, h3, nodupB, Bool.and_eq_true, Bool.not_eq_true'] at hn
      have h4 := hn.1
      simp at h4
      exact h4 this
    cases i with
    | zero =>
      cases j with
      | zero => rfl
      | succ j =>
        simp at hi
        subst hi
        exact (head j sj y x (by simpa using hj) hy hx).elim
    | succ i =>
      cases j with
      | zero =>
        simp at hj
        subst hj
        exact (head i si x y (by simpa using hi) hx hy).elim
      | succ j => exact congrArg (· + 1) (ih tail (i := i) (j := j) (by simpa using hi) (by simpa using hj) hx hy)

theorem matz_plain (P : Program) (n : Nat) : ∀ (cs : List IV) (ts : List TypeId), plainC cs = true → matz P n ts cs = (cs, [])
  | [], [], _ => by simp [matz]
  | [], _ :: _, _ => by simp [matz]
  | c :: cs, [], _ => by simp [matz]
  | c :: cs, t :: ts, h => by
    cases c with
    | int k x => simp only [plainC] at h; simp only [matz]; rw [matz_plain P n cs ts h]
    | bool b => simp only [plainC] at h; simp only [matz]; rw [matz_plain P n cs ts h]
    | _ => simp [plainC] at h
theorem planRunW_spec {E : Env} {ops : Array Oper} {fa : List (Option Blk)} {n0 : Nat} : ∀ {l : List Oper} {st : St} {r : List (Option Prop × WStep)}, planRunW E ops fa n0 l st = some r →
    r.length = l.length ∧ ∀ j o, l[j]? = some o → o.guard = none ∧ ∃ p s, r[j]? = some (p, s) ∧ planStepW E n0 (applyW (r.take j) st).b.length (applyW (r.take j) st).b (restr (maskOf (o.looksAt ops)) fa (applyW (r.take j) st)) o = some (p, s)
  | [], st, r, h => by
    simp only [planRunW, Option.some.injEq] at h
    subst h
    exact ⟨rfl, by simp⟩
  | o :: l, st, r, h => by
    simp only [planRunW] at h
    split at h
    · cases h
    · rename_i hg
      split at h
      · rename_i p s hs
        split at h
        · rename_i r' hr'
          cases h
          obtain ⟨h1, h2⟩ := planRunW_spec hr'
          refine ⟨by simp [h1], fun j o' ho' => ?_⟩
          cases j with
          | zero =>
            simp at ho'
            subst ho'
            exact ⟨hg, p, s, rfl, by simpa [applyW] using hs⟩
          | succ j =>
            obtain ⟨k1, p', s', k2, k3⟩ := h2 j o' (by simpa using ho')
            exact ⟨k1, p', s', by simpa using k2, by simpa [applyW] using k3⟩
        · cases h
      · cases h
theorem applyW_stW : ∀ (l : List (Option Prop × WStep)) (i : Nat) (st : St), applyW l st = stW (l.map (·.2)) i (fun _ => true) st
  | [], _, _ => rfl
  | (p, s) :: l, i, st => by simp only [applyW, List.map_cons, stW]; exact applyW_stW l (i + 1) _
/-- what a planned step is: one that stores into a place, or one of those that do not -/
theorem planStepW_cases {E : Env} {n0 nb : Nat} {bs : List (Option Blk)} {r : St} {o : Oper} {p : Option Prop} {s : WStep} (h : planStepW E n0 nb bs r o = some (p, s)) :
    (s.upd = none ∧ planStep E nb r o = some (p, s.s)) ∨
    ∃ t x v k u t' cells, o.op = .store t x v ∧ ev r x = some (.ptr k 0) ∧ ev r v = some u ∧ look bs k = some (.var t' cells) ∧ n0 ≤ k ∧ plainC u.cells = true ∧ notTup u = true ∧ cells.length = u.cells.length ∧ sizeT E.P t = some u.cells.length ∧ p = none ∧
      s = ⟨⟨o.dst, .tup [], none⟩, some (k, .var t' u.cells)⟩ := by
  unfold planStepW at h
  split at h
  · rename_i t x v hop
    split at h
    · rename_i k hx
      split at h
      · rename_i u hv
        split at h
        · rename_i t' cells hb
          split at h
          · rename_i hc
            cases h
            obtain ⟨h1, h2⟩ := hc
            simp only [Bool.and_eq_true] at h1
            obtain ⟨⟨⟨h3, h4⟩, h5⟩, h6⟩ := h1
            exact .inr ⟨t, x, v, k, u, t', cells, hop, hx, hv, hb, Nat.le_of_ble_eq_true h3, h4, h5, Nat.eq_of_beq_eq_true h6, h2, rfl, rfl⟩
          · cases h
        · cases h
      · cases h
    · cases h
  · split at h
    · rename_i p' s' hs
      cases h
      exact .inl ⟨rfl, hs⟩
    · cases h
section
variable {E : Env} {X : Ctx} {n0 : Nat} {ops : Array Oper} {K : St → Prop} {Q : Exit → Act → World → Prop} {β0 : Asg}
theorem planW_sound (hE : EnvOk E) (hQ : ∀ c a w, ¬ Q (.panic c) a w) (hline : ops.size ≤ lineLen ops) {st0 : St} {r : List (Option Prop × WStep)} (hrun : planRunW E ops st0.b st0.b.length ops.toList st0 = some r) (hnd : nodupB (updsOf r) = true)
    (hask : ∀ p s, (p, s) ∈ r → ∀ q, p = some q → q) (hn : n0 ≤ st0.b.length) (hk : K (applyW r st0)) (hlen0 : ∀ b, st0.b.length ≤ b → β0 b = none) :
    ∀ (m : Nat) (listed : Array Bool) {β : Asg} {a : Act} {w : World}, listed.size = ops.size → Closed ops listed → m = (List.range ops.size).countP (fun i => !listed.getD i false) →
      Sat X β (stW (r.map (·.2)) 0 (fun i => listed.getD i false) st0) a w →
      (∀ j s, (r.map (·.2))[j]? = some s → s.s.blk.isSome = true → listed.getD j false = false → β (st0.b.length + cntW ((r.map (·.2)).take j)) = none) →
      (∀ j s k x i si, (r.map (·.2))[j]? = some s → s.upd = some (k, x) → listed.getD j false = true → (r.map (·.2))[i]? = some si → si.s.blk.isSome = true → k = st0.b.length + cntW ((r.map (·.2)).take i) → listed.getD i false = true) →
      (∀ b, b < st0.b.length → β b = β0 b) →
      (∀ β' st' a' w', K st' → Sat X β' st' a' w' → (∀ b, b < n0 → β' b = β0 b) → n0 ≤ st'.b.length → Q .normal a' w') →
      wpAnyF E.P ops Q (fun _ => True) ops.size m listed a w := by
  obtain ⟨hrl, hspec⟩ := planRunW_spec hrun
  have hrlen : r.length = ops.size := by rw [hrl]; simp
  intro m
  induction m with
  | zero =>
    intro listed β a w hsz hcl hm h hhole hst hag hK
    have hall : ∀ i, i < ops.size → listed.getD i false = true := fun i hi => by
      have := pending_zero hm.symm i hi
      simpa using this
    have hst1 : stW (r.map (·.2)) 0 (fun i => listed.getD i false) st0 = applyW r st0 := by
      rw [applyW_stW r 0 st0]
      have : ∀ (l : List WStep) (i : Nat) (st : St), i + l.length ≤ ops.size → stW l i (fun i => listed.getD i false) st = stW l i (fun _ => true) st := by
        intro l
        induction l with
        | nil => intro i st _; rfl
        | cons s l ih =>
          intro i st hi
          simp only [List.length_cons] at hi
          simp only [stW]
          rw [hall i (by omega), ih (i + 1) _ (by omega)]
      exact this _ 0 st0 (by simp [hrlen])
    rw [hst1] at h
    refine ⟨?_, ?_⟩
    · cases hr : Region.ready .any ops listed with
      | nil => rfl
      | cons i l =>
        have hi : i ∈ Region.ready .any ops listed := by rw [hr]; exact List.mem_cons_self
        obtain ⟨hun, o, ho, _⟩ := mem_ready.1 hi
        have his : i < ops.size := (Array.getElem?_eq_some_iff.1 ho).1
        have := hall i his
        rw [Array.getD_eq_getD_getElem?] at this hun
        simp [hsz, his] at this hun
        rw [this] at hun
        cases hun
    · have hble : n0 ≤ (applyW r st0).b.length := by
        rw [applyW_stW r 0 st0, stW_b, bW_len]; omega
      exact hK β _ a w hk h (fun b hb => hag b (by omega)) hble
  | succ m ih =>
    intro listed β a w hsz hcl hm h hhole hstd hag hK
    have key : ∀ j, j ∈ Region.ready .any ops listed → ∃ o, ops[j]? = some o ∧ o.guard = none ∧ o.wp E.P a w (fun a' w' => (j < ops.size → True → True) ∧ wpAnyF E.P ops Q (fun _ => True) ops.size m (listed.setIfInBounds j true) a' w') Q := by
      intro j hj
      obtain ⟨hun, o, ho, hall⟩ := mem_ready.1 hj
      have hjs : j < ops.size := (Array.getElem?_eq_some_iff.1 ho).1
      have hjf : listed.getD j false = false := by
        rw [Array.getD_eq_getD_getElem?] at hun ⊢
        simpa [hsz, hjs] using hun
      obtain ⟨hg, p, s, hrj, hstep⟩ := hspec j o (by simpa using ho)
      have hsj : (r.map (·.2))[j]? = some s := by simp [hrj]
      have hsd : s.s.dst = o.dst := by
        rcases planStepW_cases hstep with ⟨_, h2⟩ | ⟨t, x, v, k, u, t', cells, h1, h2, h3, h4, h5, h6, h7, h8, h9, h10, h11⟩
        · exact planStep_dst h2
        · rw [h11]
      generalize hW : r.map (·.2) = W at *
      generalize hLd : (fun i => listed.getD i false) = L at *
      have hLi : ∀ i, L i = listed.getD i false := fun i => by rw [← hLd]
      have hwl : W.length = ops.size := by rw [← hW, List.length_map, hrlen]
      have hlj : ∀ {i : Nat} {oi : Oper}, ops[i]? = some oi → _ := fun {i} {oi} h1 => line_at (ops := ops) (i := i) (oi := oi) h1 (Nat.lt_of_lt_of_le (Array.getElem?_eq_some_iff.1 h1).1 hline)
      -- who else writes what this one writes, or looks at
      have hwr : ∀ (k : Nat) (sk : PStep), (W.map (·.s))[k]? = some sk → ∀ τ, sk.dst = some τ → ∃ ok : Oper, ops[k]? = some ok ∧ ok.dst = some τ := by
        intro k sk hk1 τ hd1
        have hkl : k < ops.size := by
          have := (List.getElem?_eq_some_iff.1 hk1).1
          rw [List.length_map, hwl] at this
          exact this
        have hok : ops[k]? = some ops[k] := by simp [hkl]
        obtain ⟨_, p2, s2, h2, h3⟩ := hspec k ops[k] (by simp [hkl])
        have e2 : W[k]? = some s2 := by rw [← hW]; simp [h2]
        rw [List.getElem?_map, e2] at hk1
        cases hk1
        refine ⟨_, hok, ?_⟩
        rcases planStepW_cases h3 with ⟨_, h4⟩ | ⟨t, x, v, k, u, t', cells, h1, h2, h3, h4, h5, h6, h7, h8, h9, h10, h11⟩
        · rw [← planStep_dst h4]; exact hd1
        · rw [h11] at hd1; exact hd1
      have hafter : ∀ k ok, ops[k]? = some ok → j < k → (∃ e ∈ ok.after, Region.binds .any e = true ∧ e.on = j) → L k = false := by
        rintro k ok hk1 hjk ⟨e, he, hb, hon⟩
        rw [hLi]
        cases hkl : listed.getD k false with
        | false => rfl
        | true =>
          have := hcl k ok hk1 hkl e he hb
          rw [hon, hjf] at this
          cases this
      have hlook : ∀ τ, τ ∈ o.looksAt ops → ∀ (k : Nat) (sk : PStep), (W.map (·.s))[k]? = some sk → sk.dst = some τ → L k = decide (k < j) := by
        intro τ hτ k sk hk1 hd1
        obtain ⟨ok, hok, hokd⟩ := hwr k sk hk1 τ hd1
        rcases Nat.lt_trichotomy k j with hlt | he | hgt
        · rw [decide_eq_true hlt, hLi]
          by_cases hwait : ∃ e ∈ o.after, Region.binds .any e = true ∧ e.on = k
          · obtain ⟨e, he, hb, hon⟩ := hwait
            have := hall e he hb
            rwa [hon] at this
          · have := (hlj hok).2 j o ho hlt (fun e he hb hon => hwait ⟨e, he, hb, hon⟩)
            exact absurd hτ ((Oper.apart_spec this).1 τ hokd)
        · subst he
          rw [hLi, hjf]
          simp
        · rw [decide_eq_false (by omega)]
          by_cases hwait : ∃ e ∈ ok.after, Region.binds .any e = true ∧ e.on = j
          · exact hafter k ok hok hgt hwait
          · have := (hlj ho).2 k ok hok hgt (fun e he hb hon => hwait ⟨e, he, hb, hon⟩)
            exact absurd hτ ((Oper.apart_spec this).2.2 τ hokd)
      have hlater : ∀ τ, o.dst = some τ → ∀ (k : Nat) (sk : PStep), j < k → (W.map (·.s))[k]? = some sk → sk.dst = some τ → L k = false := by
        intro τ hτ k sk hjk hk1 hd1
        obtain ⟨ok, hok, hokd⟩ := hwr k sk hk1 τ hd1
        by_cases hwait : ∃ e ∈ ok.after, Region.binds .any e = true ∧ e.on = j
        · exact hafter k ok hok hjk hwait
        · have := (hlj ho).2 k ok hok hjk (fun e he hb hon => hwait ⟨e, he, hb, hon⟩)
          exact absurd hokd ((Oper.apart_spec this).2.1 τ hτ)
      have htake : (applyW (r.take j) st0).t = (stL (W.map (·.s)) 0 (fun k => decide (k < j)) st0).t := by
        have ht := stL_take (r.map fun p => (p.1, p.2.s)) 0 j (fun k => decide (k < j)) st0 st0 rfl (fun k hk => by simp; exact hk) (fun k hk => by simp; omega)
        have e1 : (r.map fun p => (p.1, p.2.s)).map (·.2) = W.map (·.s) := by rw [← hW]; simp [List.map_map, Function.comp_def]
        rw [e1] at ht
        rw [ht, applyW_stW _ 0, stW_t, applyAll_stL _ 0]
        congr 2
        simp only [List.map_take]
        rw [e1, hW]
      have hre : restr (maskOf (o.looksAt ops)) st0.b (stW W 0 L st0) = restr (maskOf (o.looksAt ops)) st0.b (applyW (r.take j) st0) := by
        unfold restr
        rw [htake, stW_t]
        congr 1
        refine keepT_congr (by rw [stL_len, stL_len]) (fun τ hτ => ?_)
        rw [Nat.zero_add, maskOf_spec] at hτ
        refine stL_look (W.map (·.s)) 0 _ _ st0 st0 rfl rfl (fun k sk hk1 hd1 => ?_)
        rw [Nat.zero_add]
        exact hlook τ (of_decide_eq_true hτ) k sk hk1 hd1
      have htb : (applyW (r.take j) st0).b = bW (W.take j) 0 (fun _ => true) st0.b := by
        rw [applyW_stW _ 0, stW_b, List.map_take, hW]
      have hnb : (applyW (r.take j) st0).b.length = st0.b.length + cntW (W.take j) := by rw [htb, bW_len]
      rw [hnb] at hstep
      have hL'0 : ∀ i, (listed.setIfInBounds j true).getD i false = (L i || i == j) := fun i => by rw [getD_setTrue (by omega), hLi]
      have hsb : (stW W 0 L st0).b.length = st0.b.length + cntW W := by rw [stW_b, bW_len]
      have hone : ∀ {i i' : Nat} {si si' : WStep} {k : Nat} {x y : Blk}, W[i]? = some si → W[i']? = some si' → si.upd = some (k, x) → si'.upd = some (k, y) → i = i' := by
        intro i i' si si' k x y h1 h2 h3 h4
        rw [← hW] at h1 h2
        exact upds_apart hnd h1 h2 h3 h4
      have hsame : ∀ {i i' : Nat} {si si' : WStep}, W[i]? = some si → W[i']? = some si' → si.s.blk.isSome = true → si'.s.blk.isSome = true → cntW (W.take i) = cntW (W.take i') → i = i' := by
        intro i i' si si' h1 h2 h3 h4 h5
        rcases Nat.lt_trichotomy i i' with h6 | h6 | h6
        · have := cntW_lt W i i' si h6 h1 h3; omega
        · exact h6
        · have := cntW_lt W i' i si' h6 h2 h4; omega
      -- the state behind this step
      have next : ∀ {β' : Asg} {a' : Act} {w' : World}, Sat X β' { t := ((stW W 0 L st0).setT o.dst s.s.v).t, b := (stW W 0 (fun i => L i || i == j) st0).b } a' w' →
          (∀ b, b ≠ st0.b.length + cntW (W.take j) → β' b = β b) → (s.s.blk.isSome = false → β' = β) →
          (∀ (k : Nat) (x : Blk) (i : Nat) (si : WStep), s.upd = some (k, x) → W[i]? = some si → si.s.blk.isSome = true → k = st0.b.length + cntW (W.take i) → L i = true) →
          wpAnyF E.P ops Q (fun _ => True) ops.size m (listed.setIfInBounds j true) a' w' := by
        intro β' a' w' hsat hβ' hβ2 hnew
        have e0 : (fun i => (listed.setIfInBounds j true).getD i false) = fun i => L i || i == j := funext hL'0
        have et : ((stW W 0 L st0).setT o.dst s.s.v).t = (stW W 0 (fun i => L i || i == j) st0).t := by
          refine look_ext (by rw [setT_len, stW_t, stW_t, stL_len, stL_len]) (fun τ => ?_)
          have hother : o.dst ≠ some τ → look (stW W 0 L st0).t τ = look (stW W 0 (fun i => L i || i == j) st0).t τ := by
            intro hne
            rw [stW_t, stW_t]
            refine stL_look (W.map (·.s)) 0 _ _ st0 st0 rfl rfl (fun k sk hk1 hd1 => ?_)
            rw [Nat.zero_add]
            by_cases hkj : k = j
            · subst hkj
              rw [List.getElem?_map, hsj] at hk1
              cases hk1
              exact absurd (by rw [← hsd]; exact hd1) hne
            · have : (k == j) = false := by simp [hkj]
              simp [this]
          cases hd0 : o.dst with
          | none => exact hother (by rw [hd0]; simp)
          | some d =>
            rw [setT_look]
            by_cases hdt : d = τ
            · subst hdt
              rw [if_pos rfl, stW_t, stW_t, stL_len]
              by_cases hlt : d < st0.t.length
              · rw [if_pos hlt]
                refine (stL_last (W.map (·.s)) 0 j (fun i => L i || i == j) st0 s.s (by simp [hsj]) (by rw [hsd, hd0]) (by simp) (fun k sk hjk hk1 hd1 => ?_) hlt).symm
                rw [Nat.zero_add]
                have hkj : (k == j) = false := by simp; omega
                rw [hlater d hd0 k sk hjk hk1 hd1, hkj]
                rfl
              · rw [if_neg hlt, look_ge (by rw [stL_len]; exact Nat.le_of_not_lt hlt)]
            · rw [if_neg hdt]
              exact hother (by rw [hd0]; simpa using hdt)
        rw [et] at hsat
        have hsat' : Sat X β' (stW W 0 (fun i => (listed.setIfInBounds j true).getD i false) st0) a' w' := by rw [e0]; exact hsat
        refine ih (listed.setIfInBounds j true) (by simpa using hsz) (hcl.step hj) ?_ hsat' ?_ ?_ (fun b hb => ?_) hK
        · have hflip := countP_flip (p := fun i => !listed.getD i false) (p' := fun i => !(listed.setIfInBounds j true).getD i false) hjs (by show (!listed.getD j false) = true; rw [hjf]; rfl) (by show (!(listed.setIfInBounds j true).getD j false) = false; rw [hL'0]; simp) (fun i hi => by
            show (!(listed.setIfInBounds j true).getD i false) = (!listed.getD i false)
            rw [hL'0, hLi]
            have : (i == j) = false := by simp; omega
            simp [this])
          omega
        · intro k sk hk1 hbl hkl
          rw [hL'0, Bool.or_eq_false_iff] at hkl
          have hkj : k ≠ j := by have := hkl.2; simpa using this
          have hold := hhole k sk hk1 hbl (by rw [← hLi]; exact hkl.1)
          by_cases hne : st0.b.length + cntW (W.take k) = st0.b.length + cntW (W.take j)
          · cases hb : s.s.blk.isSome with
            | false => rw [hβ2 hb]; exact hold
            | true => exact absurd (hsame hk1 hsj hbl hb (by omega)) hkj
          · rw [hβ' _ hne]; exact hold
        · intro j' s' k x i si h1 h2 h3 h4 h5 h6
          rw [hL'0] at h3
          rw [hL'0]
          rcases Bool.or_eq_true_iff.1 h3 with h7 | h7
          · have := hstd j' s' k x i si h1 h2 (by rw [← hLi]; exact h7) h4 h5 h6
            rw [hLi, this]; rfl
          · have e7 : j' = j := by simpa using h7
            subst e7
            rw [hsj] at h1
            cases h1
            rw [hnew k x i si h2 h4 h5 h6]; rfl
        · rw [hβ' b (by omega)]; exact hag b hb
      have hptn : ∀ n L1, look (stW W 0 L1 st0).b n = ptW W 0 st0.b.length L1 n (look st0.b n) := fun n L1 => by rw [stW_b, look_bW]
      have far : ∀ n, ¬ touches s (st0.b.length + cntW (W.take j)) n → look (stW W 0 (fun i => L i || i == j) st0).b n = look (stW W 0 L st0).b n := by
        intro n hn
        rw [hptn, hptn]
        refine ptW_congr W 0 _ _ _ n _ (fun i si hi ht => ?_)
        rw [Nat.zero_add]
        by_cases hij : i = j
        · subst hij
          rw [hsj] at hi
          cases hi
          exact absurd ht hn
        · have : (i == j) = false := by simp [hij]
          simp [this]
      refine ⟨o, ho, hg, ?_⟩
      rcases planStepW_cases hstep with ⟨hup, hps⟩ | ⟨t, x, v, k, u, t', cells, hop, hx, hv, hb, hk0, hpl, hnt, hcl', hsize, hp0, hs0⟩
      · -- it stores nothing
        have hfill : s.s.blk ≠ none → st0.b.length + cntW (W.take j) < (stW W 0 L st0).b.length ∧ look (stW W 0 L st0).b (st0.b.length + cntW (W.take j)) = none ∧ ∀ kb, s.s.blk = some kb → look (stW W 0 (fun i => L i || i == j) st0).b (st0.b.length + cntW (W.take j)) = some kb := by
          intro hbl
          have hsome : s.s.blk.isSome = true := by cases hb : s.s.blk with
            | none => exact absurd hb hbl
            | some _ => rfl
          have hlt : cntW (W.take j) < cntW W := by
            have h1 := cntW_lt W j W.length s (List.getElem?_eq_some_iff.1 hsj).1 hsj hsome
            rwa [List.take_length] at h1
          have idle : ∀ (L1 : Nat → Bool), (∀ i, i ≠ j → L1 i = L i) → ∀ (i : Nat) (si : WStep), j < i → W[i]? = some si → touches si (st0.b.length + cntW (W.take i)) (st0.b.length + cntW (W.take j)) → si.s.blk = none ∧ L1 (0 + i) = false := by
            intro L1 hL1 i si hji hi ht
            rw [Nat.zero_add]
            rcases ht with ⟨h1, h2⟩ | ⟨y, h1⟩
            · exact absurd (hsame hi hsj h1 hsome (by omega)) (by omega)
            · have hnotb : si.s.blk = none := by
                have hil : i < ops.size := by
                  have := (List.getElem?_eq_some_iff.1 hi).1
                  rwa [hwl] at this
                obtain ⟨_, p2, s2, h3, h4⟩ := hspec i ops[i] (by simp [hil])
                have e2 : W[i]? = some s2 := by rw [← hW]; simp [h3]
                rw [hi] at e2
                cases e2
                rcases planStepW_cases h4 with ⟨h5, _⟩ | ⟨_, _, _, _, _, _, _, _, _, _, _, _, _, _, _, _, _, h11⟩
                · rw [h5] at h1; cases h1
                · rw [h11]
              refine ⟨hnotb, ?_⟩
              rw [hL1 i (by omega), hLi]
              cases hli : listed.getD i false with
              | false => rfl
              | true =>
                have := hstd i si _ y j s hi h1 hli hsj hsome rfl
                rw [hjf] at this
                cases this
          refine ⟨by rw [hsb]; omega, ?_, fun kb hkb => ?_⟩
          · rw [hptn]
            obtain ⟨acc', e⟩ := ptW_at W 0 st0.b.length L (st0.b.length + cntW (W.take j)) (look st0.b (st0.b.length + cntW (W.take j))) j s hsj (idle L (fun _ _ => rfl))
            rw [e, Nat.zero_add, hLi, hjf]
            unfold ptS
            rw [hup]
            simp only
            rw [if_pos ⟨hsome, by first | rfl | trivial⟩]
            rfl
          · rw [hptn]
            obtain ⟨acc', e⟩ := ptW_at W 0 st0.b.length (fun i => L i || i == j) (st0.b.length + cntW (W.take j)) (look st0.b (st0.b.length + cntW (W.take j))) j s hsj (idle (fun i => L i || i == j) (fun i hi => by
              have : (i == j) = false := by simp [hi]
              simp [this]))
            rw [e, Nat.zero_add]
            unfold ptS
            rw [hup]
            simp only
            rw [if_pos ⟨hsome, by first | rfl | trivial⟩, hkb]
            simp
        refine planStep_run hE hps (hask p s (List.mem_of_getElem? hrj)) hre h (fun b kb hb => h.blks b kb ?_) (fun hbl => ⟨(hfill hbl).1, (hfill hbl).2.1, hhole j s hsj (by cases hb : s.s.blk with
            | none => exact absurd hb hbl
            | some _ => rfl) hjf⟩) ?_
        · -- what was there is there still
          rw [hptn]
          have hlt := look_lt hb
          rw [ptW_idle W 0 st0.b.length L b _ (fun i si hi ht => ?_)]
          · exact hb
          · exfalso
            rcases ht with ⟨_, h2⟩ | ⟨y, h2⟩
            · omega
            · have hil : i < ops.size := by
                have := (List.getElem?_eq_some_iff.1 hi).1
                rwa [hwl] at this
              obtain ⟨_, p2, s2, h3, h4⟩ := hspec i ops[i] (by simp [hil])
              have e2 : W[i]? = some s2 := by rw [← hW]; simp [h3]
              rw [hi] at e2
              cases e2
              rcases planStepW_cases h4 with ⟨h5, _⟩ | ⟨_, _, _, k2, _, _, _, _, _, _, _, h8, _, _, _, _, _, h11⟩
              · rw [h5] at h2; cases h2
              · rw [h11] at h2
                have : k2 = b := by simpa using congrArg (fun z => (Option.map Prod.fst z)) h2
                omega
        · intro β' u w' hkp hβ' hβ2 hsat
          refine ⟨fun _ _ => trivial, next ?_ hβ' (fun hb => hβ2 (by cases hb' : s.s.blk with
            | none => rfl
            | some _ => rw [hb'] at hb; cases hb)) (fun k x i si hu => by rw [hup] at hu; cases hu)⟩
          have eb : (match s.s.blk with
              | none => (stW W 0 L st0).b
              | some k => (stW W 0 L st0).b.set (st0.b.length + cntW (W.take j)) (some k)) = (stW W 0 (fun i => L i || i == j) st0).b := by
            cases hb : s.s.blk with
            | none =>
              simp only
              refine look_ext (by rw [stW_b, stW_b, bW_len, bW_len]) (fun n => ?_)
              refine (far n ?_).symm
              rintro (⟨h1, _⟩ | ⟨y, h1⟩)
              · rw [hb] at h1; cases h1
              · rw [hup] at h1; cases h1
            | some kb =>
              simp only
              obtain ⟨q1, q2, q3⟩ := hfill (by rw [hb]; simp)
              refine look_ext (by rw [List.length_set, stW_b, stW_b, bW_len, bW_len]) (fun n => ?_)
              rw [look_set]
              by_cases hn : st0.b.length + cntW (W.take j) = n
              · subst hn
                rw [if_pos rfl, if_pos q1, q3 kb hb]
              · rw [if_neg hn]
                refine (far n ?_).symm
                rintro (⟨_, h1⟩ | ⟨y, h1⟩)
                · exact hn h1.symm
                · rw [hup] at h1; cases h1
          rw [← eb]
          exact hsat
      · -- it stores
        subst hs0
        have hx' : ev (stW W 0 L st0) x = some (.ptr k 0) := restr_ev (by rw [hre]; exact hx)
        have hv' : ev (stW W 0 L st0) v = some u := restr_ev (by rw [hre]; exact hv)
        obtain ⟨id, hxv, hβk⟩ := (ev_rep h hx').ptr_inv
        have hklt : k < st0.b.length + cntW (W.take j) := by have := look_lt hb; rw [hnb] at this; exact this
        obtain ⟨i, si, hi, hsome, hki⟩ := made_by (W.take j) st0.b.length k hk0 hklt
        have hij : i < j := by
          have := (List.getElem?_eq_some_iff.1 hi).1
          rw [List.length_take] at this
          omega
        have hiW : W[i]? = some si := by rw [List.getElem?_take, if_pos hij] at hi; exact hi
        have hki' : k = st0.b.length + cntW (W.take i) := by rw [hki, List.take_take, Nat.min_eq_left (by omega)]
        have hLi' : L i = true := by
          rw [hLi]
          cases hli : listed.getD i false with
          | true => rfl
          | false =>
            have := hhole i si hiW hsome hli
            rw [← hki', hβk] at this
            cases this
        have hsup : si.upd = none := by
          have hil : i < ops.size := by
            have := (List.getElem?_eq_some_iff.1 hiW).1
            rwa [hwl] at this
          obtain ⟨_, p2, s2, h3, h4⟩ := hspec i ops[i] (by simp [hil])
          have e2 : W[i]? = some s2 := by rw [← hW]; simp [h3]
          rw [hiW] at e2
          cases e2
          rcases planStepW_cases h4 with ⟨h5, _⟩ | ⟨_, _, _, _, _, _, _, _, _, _, _, _, _, _, _, _, _, h11⟩
          · exact h5
          · rw [h11] at hsome; cases hsome
        have atK : ptS si true k k = fun _ => si.s.blk := by
          funext acc
          unfold ptS
          rw [hsup]
          simp only
          rw [if_pos ⟨hsome, by first | rfl | trivial⟩]
          rfl
        -- in the plan this place is as it was made
        have hbk : si.s.blk = some (.var t' cells) := by
          rw [htb, look_bW] at hb
          obtain ⟨acc', e⟩ := ptW_at (W.take j) 0 st0.b.length (fun _ => true) k (look st0.b k) i si hi (fun m' s' him hm' ht => by
            exfalso
            have hmj : m' < j := by
              have := (List.getElem?_eq_some_iff.1 hm').1
              rw [List.length_take] at this
              omega
            have hmW : W[m']? = some s' := by rw [List.getElem?_take, if_pos hmj] at hm'; exact hm'
            rw [List.take_take, Nat.min_eq_left (by omega)] at ht
            rcases ht with ⟨h1, h2⟩ | ⟨y, h1⟩
            · have := hsame hmW hiW h1 hsome (by omega)
              omega
            · have := hone hmW hsj h1 rfl
              omega)
          rw [e] at hb
          have e3 : st0.b.length + cntW ((W.take j).take i) = k := by rw [hki]
          rw [e3, atK] at hb
          exact hb
        have hnow : look (stW W 0 L st0).b k = some (.var t' cells) := by
          rw [hptn]
          obtain ⟨acc', e⟩ := ptW_at W 0 st0.b.length L k (look st0.b k) i si hiW (fun m' s' him hm' ht => by
            rcases ht with ⟨h1, h2⟩ | ⟨y, h1⟩
            · have := hsame hm' hiW h1 hsome (by omega)
              omega
            · have := hone hm' hsj h1 rfl
              subst this
              rw [hsj] at hm'
              cases hm'
              exact ⟨rfl, by rw [Nat.zero_add, hLi, hjf]⟩)
          rw [e, Nat.zero_add, hLi', ← hki', atK]
          exact hbk
        have eb : (stW W 0 L st0).b.set k (some (.var t' u.cells)) = (stW W 0 (fun i => L i || i == j) st0).b := by
          refine look_ext (by rw [List.length_set, stW_b, stW_b, bW_len, bW_len]) (fun n => ?_)
          rw [look_set]
          by_cases hn : k = n
          · subst hn
            rw [if_pos rfl, if_pos (look_lt hnow), hptn]
            obtain ⟨acc', e⟩ := ptW_at W 0 st0.b.length (fun i => L i || i == j) k (look st0.b k) j _ hsj (fun m' s' him hm' ht => by
              rcases ht with ⟨h1, h2⟩ | ⟨y, h1⟩
              · have := hsame hm' hiW h1 hsome (by omega)
                omega
              · have := hone hm' hsj h1 rfl
                omega)
            rw [e]
            unfold ptS
            simp only
            rw [if_pos ⟨by simp, by first | rfl | trivial, by omega⟩]
          · rw [if_neg hn]
            refine (far n ?_).symm
            rintro (⟨h1, _⟩ | ⟨y, h1⟩)
            · cases h1
            · exact hn (by simpa using congrArg (fun z => (Option.map Prod.fst z)) h1)
        have hstore : storeAt E.P (stW W 0 L st0) t (.ptr k 0) u fun st' => (fun st'' => st'' = ({ t := (stW W 0 L st0).t, b := (stW W 0 L st0).b.set k (some (.var t' u.cells)) } : St).setT o.dst (.tup [])) (st'.setT o.dst (.tup [])) := by
          unfold storeAt
          rw [hsize]
          simp only
          rw [if_neg (by rw [hnt]; simp)]
          simp only [hnow]
          rw [if_pos (by omega), matz_plain _ _ _ _ hpl]
          simp only [List.append_nil, List.take_zero, List.nil_append, Nat.zero_add, St.setB]
          rw [List.drop_eq_nil_of_le (by omega), List.append_nil]
        refine storeAt_sound (K := fun st'' => st'' = ({ t := (stW W 0 L st0).t, b := (stW W 0 L st0).b.set k (some (.var t' u.cells)) } : St).setT o.dst (.tup [])) (wr := true) h hop hx' hv' hstore ?_ rfl
        intro β' st' a' w' hst' hsat hβ' hle _
        subst hst'
        have hbe : ∀ b, β' b = β b := by
          intro b
          rcases Nat.lt_or_ge b (stW W 0 L st0).b.length with h1 | h1
          · exact hβ' b h1
          · rw [h.bound b h1, hsat.bound b (by rw [setT_b]; simpa using h1)]
        refine ⟨fun _ _ => trivial, next ?_ (fun b _ => hbe b) (fun _ => funext hbe) (fun k2 y i2 si2 h1 h2 h3 h4 => ?_)⟩
        · rw [← eb]
          have e : (({ t := (stW W 0 L st0).t, b := (stW W 0 L st0).b.set k (some (.var t' u.cells)) } : St).setT o.dst (.tup [])) = { t := ((stW W 0 L st0).setT o.dst (.tup [])).t, b := (stW W 0 L st0).b.set k (some (.var t' u.cells)) } := by
            cases o.dst <;> rfl
          rw [e] at hsat
          exact hsat
        · have e1 : k = k2 := by simpa using congrArg (fun z => (Option.map Prod.fst z)) h1
          have := hsame h2 hiW h3 hsome (by omega)
          rw [this]
          exact hLi'
    refine ⟨fun h0 => ?_, fun j hj => ?_⟩
    · exfalso
      have hex : ∃ i, i < ops.size ∧ listed.getD i false = false := by
        apply Classical.byContradiction
        intro hno
        have : (List.range ops.size).countP (fun i => !listed.getD i false) = 0 := by
          rw [List.countP_eq_zero]
          intro i hi
          have hi' := List.mem_range.1 hi
          cases hb : listed.getD i false with
          | true => simp
          | false => exact absurd ⟨i, hi', hb⟩ hno
        omega
      have hmin : ∀ n, (∃ i, i < n ∧ i < ops.size ∧ listed.getD i false = false) → ∃ i, i < ops.size ∧ listed.getD i false = false ∧ ∀ k, k < i → listed.getD k false = true := by
        intro n
        induction n with
        | zero => rintro ⟨i, hi, _⟩; omega
        | succ n ihn =>
          rintro ⟨i, hi, h1, h2⟩
          by_cases hb : ∃ i, i < n ∧ i < ops.size ∧ listed.getD i false = false
          · exact ihn hb
          · have e : i = n := by
              apply Classical.byContradiction
              intro hne
              exact hb ⟨i, by omega, h1, h2⟩
            subst e
            refine ⟨i, h1, h2, fun k hk => ?_⟩
            cases hkb : listed.getD k false with
            | true => rfl
            | false => exact absurd ⟨k, hk, by omega, hkb⟩ hb
      obtain ⟨i, hi, hb⟩ := hex
      obtain ⟨i, hi, hb, hlow⟩ := hmin (i + 1) ⟨i, by omega, hi, hb⟩
      have hoi : ops[i]? = some ops[i] := by simp [hi]
      have hmem : i ∈ Region.ready .any ops listed := by
        refine mem_ready.2 ⟨?_, ops[i], hoi, fun e he hbi => hlow e.on ((line_at hoi (Nat.lt_of_lt_of_le hi hline)).1 e he hbi)⟩
        rw [Array.getD_eq_getD_getElem?] at hb ⊢
        simpa [hsz, hi] using hb
      rw [h0] at hmem
      cases hmem
    · obtain ⟨o', ho', hg', hwp⟩ := key j hj
      unfold wpOp
      rw [ho']
      simp only
      rw [if_pos (by simp [Region.wanted, hg'])]
      exact .inl hwp
end
theorem ptW_none : ∀ (l : List WStep) (i len : Nat) (L : Nat → Bool) (n : Nat) (acc : Option Blk) (k : Blk), (∀ i, L i = false) → ptW l i len L n acc = some k → acc = some k
  | [], _, _, _, _, _, _, _, h => h
  | s :: l, i, len, L, n, acc, k, hL, h => by
    simp only [ptW] at h
    have := ptW_none l _ _ L n _ k hL h
    rw [hL i] at this
    unfold ptS at this
    cases hu : s.upd with
    | none =>
      simp only [hu] at this
      split at this
      · simp at this
      · exact this
    | some p =>
      obtain ⟨k2, x⟩ := p
      simp only [hu, Bool.false_eq_true, false_and, if_false] at this
      split at this
      · simp at this
      · exact this
theorem asksW_spec : ∀ {l : List (Option Prop × WStep)} {K : Prop}, asksW l K → K ∧ ∀ p s, (p, s) ∈ l → ∀ q, p = some q → q
  | [], K, h => ⟨h, fun p s hm => by cases hm⟩
  | (p, s) :: l, K, h => by
    simp only [asksW] at h
    have h' : (∀ q, p = some q → q) ∧ asksW l K := by
      cases p with
      | none => exact ⟨fun q hq => (by cases hq), h⟩
      | some q => exact ⟨fun q' hq => (by cases hq; exact h.1), h.2⟩
    obtain ⟨k1, k2⟩ := asksW_spec h'.2
    refine ⟨k1, fun p' s' hm q hq => ?_⟩
    rcases List.mem_cons.1 hm with e | hm
    · cases e; exact h'.1 q hq
    · exact k2 p' s' hm q hq
section
variable {E : Env} {X : Ctx} {n0 : Nat} {K : St → Prop} {Q : Exit → Act → World → Prop}
theorem execW_sound (hE : EnvOk E) {ops : Array Oper} {id : Nat} {β : Asg} {st : St} {a : Act} {w : World} (h : Sat X β st a w) (hn : n0 ≤ st.b.length) {r : List (Option Prop × WStep)}
    (hline : ops.size ≤ lineLen ops) (hr : planRunW E ops st.b st.b.length ops.toList st = some r) (hnd : nodupB (updsOf r) = true) (hk : asksW r (normT (applyW r st) K))
    (hK : ∀ β' st' a' w', K st' → Sat X β' st' a' w' → (∀ b, b < n0 → β' b = β b) → n0 ≤ st'.b.length → Q .normal a' w') : (Code.region id ops true).wp E.P Q a w := by
  obtain ⟨hk1, hask⟩ := asksW_spec hk
  rw [normT_eq] at hk1
  have hw1 : Keeps w { w with drawn := w.drawn + 1 } := Keeps.drawn w _
  have h1 := h.keeps hw1
  refine wp_mono (Q := fun e a w => e = .normal ∧ Q .normal a w) ?_ (fun e a w hq => by obtain ⟨rfl, hq⟩ := hq; exact hq)
  refine wp_region_any hE.mixed (wpAny_of_F (F := fun _ => True) (hd := ops.size) _ _ _ _ ?_)
  have hrep : ∀ i, (Array.replicate ops.size false).getD i false = false := by
    intro i
    rw [Array.getD_eq_getD_getElem?, Array.getElem?_replicate]
    split <;> rfl
  have h2 : Sat X β (stW (r.map (·.2)) 0 (fun i => (Array.replicate ops.size false).getD i false) st) a { w with drawn := w.drawn + 1 } := by
    have ht : (stW (r.map (·.2)) 0 (fun i => (Array.replicate ops.size false).getD i false) st).t = st.t := by
      rw [stW_t]; exact stL_false _ 0 _ st (fun k => hrep _)
    have hb := stW_b (r.map (·.2)) 0 (fun i => (Array.replicate ops.size false).getD i false) st
    have lk : ∀ c k, look (bW (r.map (·.2)) 0 (fun i => (Array.replicate ops.size false).getD i false) st.b) c = some k → look st.b c = some k := by
      intro c k hc
      rw [look_bW] at hc
      exact ptW_none _ _ _ _ _ _ _ (fun i => hrep i) hc
    have hlen := bW_len (r.map (·.2)) 0 (fun i => (Array.replicate ops.size false).getD i false) st.b
    generalize stW (r.map (·.2)) 0 (fun i => (Array.replicate ops.size false).getD i false) st = st2 at *
    obtain ⟨t2, b2⟩ := st2
    simp only at ht hb
    subst ht
    subst hb
    exact ⟨h1.len, h1.tmps, fun c k hc => h1.blks c k (lk c k hc), fun c d k k' id hc hd => h1.disj c d k k' id (lk c k hc) (lk d k' hd),
      fun c hc => h1.bound c (by simp only at hc; omega), h1.below, h1.frm.sub (fun c k id hc hu => ⟨c, k, lk c k hc, hu, fun h => h⟩), h1.defers⟩
  have hsz : (List.range ops.size).countP (fun i => !(Array.replicate ops.size false).getD i false) = ops.size := by
    rw [List.countP_eq_length.2]
    · simp
    · intro i _
      rw [hrep]
      rfl
  exact planW_sound (Q := fun e a w => e = .normal ∧ Q .normal a w) (n0 := n0) (β0 := β) hE (fun c a w hq => by cases hq.1) hline hr hnd hask hn hk1 h.bound
    ops.size (Array.replicate ops.size false) (by simp) (fun j o hj hl => by rw [hrep] at hl; cases hl) hsz.symm h2 (fun j s hj _ _ => h.bound _ (Nat.le_add_right _ _)) (fun j s k x i si _ _ hl => by rw [hrep] at hl; cases hl) (fun _ _ => rfl)
    (fun β' st' a' w' hk' hs' hag hle => ⟨rfl, hK β' st' a' w' hk' hs' hag hle⟩)
end
section
variable {E : Env} {X : Ctx} {n0 : Nat} {K : St → Prop} {Q : Exit → Act → World → Prop}
theorem execRest_sound (hE : EnvOk E) {ops : Array Oper} {id : Nat} {β : Asg} {st : St} {a : Act} {w : World} (h : Sat X β st a w) (hn : n0 ≤ st.b.length) (hc : Region.noSelect ops = true) (hk : execRest E ops st K)
    (hK : ∀ β' st' a' w', K st' → Sat X β' st' a' w' → (∀ b, b < n0 → β' b = β b) → n0 ≤ st'.b.length → Q .normal a' w') : (Code.region id ops true).wp E.P Q a w := by
  unfold execRest at hk
  split at hk
  · rename_i hs
    exact execLines_sound hE h hn ⟨hc, hs⟩ (fun i o hi ho => headOf_spec E ops.toList i o hi ho) hk hK
  · exact execJoin_sound hE h hn hc hk hK
theorem execDraw_sound (hE : EnvOk E) {ops : Array Oper} {id : Nat} {β : Asg} {st : St} {a : Act} {w : World} (h : Sat X β st a w) (hn : n0 ≤ st.b.length) (hk : execDraw E ops st K)
    (hK : ∀ β' st' a' w', K st' → Sat X β' st' a' w' → (∀ b, b < n0 → β' b = β b) → n0 ≤ st'.b.length → Q .normal a' w') : (Code.region id ops true).wp E.P Q a w := by
  unfold execDraw at hk
  simp only at hk
  split at hk
  · rename_i hc
    rw [Bool.and_eq_true] at hc
    have hc : Region.noSelect ops = true ∧ sinkOk ops (headF E ops) = true := ⟨hc.1, sink_old hc.2⟩
    split at hk
    · rename_i hc2
      simp only [Bool.and_eq_true, Bool.not_eq_true'] at hc2
      split at hk
      · rename_i r hr
        obtain ⟨hk1, hask⟩ := asks_spec hk
        rw [normT_eq] at hk1
        have happ : ops.any appends = false := by
          have := hc2.2
          rw [anyR_eq] at this
          simpa using this
        have hw1 : Keeps w { w with drawn := w.drawn + 1 } := Keeps.drawn w _
        have h1 := h.keeps hw1
        have hhl := headF_le E ops
        refine wp_mono (Q := fun e a w => e = .normal ∧ Q .normal a w) ?_ (fun e a w hq => by obtain ⟨rfl, hq⟩ := hq; exact hq)
        refine wp_region_any hE.mixed (wpAny_of_F (F := fun w => ∀ b k, look st.b b = some k → BOk X β w b k) (hd := headF E ops) _ _ _ _ ?_)
        have hrep : ∀ i, (Array.replicate ops.size false).getD i false = false := by
          intro i
          rw [Array.getD_eq_getD_getElem?, Array.getElem?_replicate]
          split <;> rfl
        have hst : stL (r.map (·.2)) 0 (fun i => (Array.replicate ops.size false).getD i false) st = { t := st.t, b := st.b ++ holes (r.map (·.2)) 0 (fun i => (Array.replicate ops.size false).getD i false) } := by
          have ht := stL_false (r.map (·.2)) 0 (fun i => (Array.replicate ops.size false).getD i false) st (fun k => hrep _)
          have hb := stL_b (r.map (·.2)) 0 (fun i => (Array.replicate ops.size false).getD i false) st
          cases hs : stL (r.map (·.2)) 0 (fun i => (Array.replicate ops.size false).getD i false) st with
          | mk t b => rw [hs] at ht hb; simp only at ht hb; rw [ht, hb]
        have hnone : ∀ (l : List PStep) (i c : Nat), look (holes l i (fun i => (Array.replicate ops.size false).getD i false)) c = none := by
          intro l
          induction l with
          | nil => intro i c; exact look_nil c
          | cons s l ih =>
            intro i c
            simp only [holes]
            rw [look_app]
            split
            · cases hb : s.blk with
              | none => simp only [holeOf]; exact look_nil _
              | some kb =>
                simp only [holeOf, hrep]
                cases c <;> rfl
            · exact ih _ _
        have h2 : Sat X β (stL (r.map (·.2)) 0 (fun i => (Array.replicate ops.size false).getD i false) st) a { w with drawn := w.drawn + 1 } := by
          rw [hst]
          have lk : ∀ c k, look (st.b ++ holes (r.map (·.2)) 0 (fun i => (Array.replicate ops.size false).getD i false)) c = some k → look st.b c = some k := by
            intro c k hc
            rw [look_app] at hc
            split at hc
            · exact hc
            · rw [hnone] at hc; cases hc
          exact ⟨h1.len, h1.tmps, fun c k hc => h1.blks c k (lk c k hc), fun c d k k' id hc hd => h1.disj c d k k' id (lk c k hc) (lk d k' hd),
            fun c hc => h1.bound c (by simp only [List.length_append] at hc; omega), h1.below, h1.frm.sub (fun c k id hc hu => ⟨c, k, lk c k hc, hu, fun h => h⟩), h1.defers⟩
        have hsz : ops.size = ops.size - headF E ops + (List.range (headF E ops)).countP (fun i => !(Array.replicate ops.size false).getD i false) := by
          have : (List.range (headF E ops)).countP (fun i => !(Array.replicate ops.size false).getD i false) = headF E ops := by
            rw [List.countP_eq_length.2]
            · simp
            · intro i _
              rw [hrep]
              rfl
          rw [this]
          omega
        have main := plan_sound (Q := fun e a w => e = .normal ∧ Q .normal a w) (n0 := n0) (β0 := β) hE hc.1 hc.2 (fun i o hi ho => headF_spec E ops i o hi (by simpa using ho)) hhl (fun c a w hq => by cases hq.1) (Nat.le_of_ble_eq_true hc2.1.2) hr happ hask hn hk1 h.bound
          _ (Array.replicate ops.size false) (by simp) (fun i _ => hrep i) (fun j o hj hl => by rw [hrep] at hl; cases hl) rfl h2 (fun j s hj _ _ => h.bound _ (Nat.le_add_right _ _)) (fun _ _ => rfl) (fun b k hb => h1.blks b k hb)
          (fun β' st' a' w' hk' hs' hag hle => ⟨rfl, hK β' st' a' w' hk' hs' hag hle⟩)
        rw [← hsz] at main
        exact main
      · exact execLines_sound hE h hn hc (fun i o hi ho => headF_spec E ops i o hi ho) hk hK
    · exact execLines_sound hE h hn hc (fun i o hi ho => headF_spec E ops i o hi ho) hk hK
  · split at hk
    · rename_i hc
      split at hk
      · rename_i r hr
        split at hk
        · rename_i hnd
          split at hr
          · rename_i hl
            exact execW_sound hE h hn (Nat.le_of_ble_eq_true hl) hr hnd hk hK
          · cases hr
        · exact execRest_sound hE h hn hc hk hK
      · exact execRest_sound hE h hn hc hk hK
    · exact hk.elim

end
end Go.Vs

/- Vs, part P: code, and whole functions. -/
set_option linter.unusedVariables false
set_option linter.unusedSimpArgs false
namespace Go.Vs
open Go.RowKit

/-! ### forgetting -/
theorem idxOf_spec : ∀ {l : List Nat} {b j : Nat}, idxOf l b = some j → l[j]? = some b := by
  intro l
  induction l with
  | nil => intro b j h; simp [idxOf] at h
  | cons x l ih =>
    intro b j h
    simp only [idxOf] at h
    split at h
    · rename_i e; cases h; simp [e]
    · simp only [Option.map_eq_some_iff] at h
      obtain ⟨k, hk, rfl⟩ := h
      simpa using ih hk

theorem nodupB_spec : ∀ {l : List Nat}, nodupB l = true → ∀ {i j : Nat} {x : Nat}, l[i]? = some x → l[j]? = some x → i = j := by
  intro l
  induction l with
  | nil => intro _ i j x h; simp at h
  | cons y l ih =>
    intro h i j x hi hj
    simp only [nodupB, Bool.and_eq_true, Bool.not_eq_true'] at h
    have hnot : ∀ k : Nat, l[k]? ≠ some y := by
      intro k hk
      have := List.mem_of_getElem? hk
      have h1 := h.1
      simp at h1
      exact h1 this
    cases i with
    | zero =>
      cases j with
      | zero => rfl
      | succ j => simp at hi hj; subst hi; exact absurd hj (hnot j)
    | succ i =>
      cases j with
      | zero => simp at hi hj; subst hj; exact absurd hi (hnot i)
      | succ j => simp at hi hj; rw [ih h.2 hi hj]

theorem addNew_prefix (b : List (Option Blk)) : ∀ (xs seen : List Nat), seen <+: addNew b seen xs := by
  intro xs
  induction xs with
  | nil => intro seen; exact List.prefix_refl _
  | cons x xs ih =>
    intro seen
    unfold addNew
    simp only [List.foldl_cons]
    split
    · exact ih seen
    · exact List.IsPrefix.trans ⟨[x], rfl⟩ (ih (seen ++ [x]))
theorem growIds_prefix (b : List (Option Blk)) : ∀ (fuel i : Nat) (seen : List Nat), seen <+: growIds b fuel i seen := by
  intro fuel
  induction fuel with
  | zero => intro i seen; exact List.prefix_refl _
  | succ fuel ih =>
    intro i seen
    simp only [growIds]
    split
    · exact List.prefix_refl _
    · exact (addNew_prefix b _ seen).trans (ih _ _)
theorem gcOrder_lo (n0 : Nat) (keep : Nat → Bool) (st : St) {j : Nat} (hj : j < n0) : (gcOrder n0 keep st)[j]? = some j := by
  have h : List.range n0 <+: gcOrder n0 keep st := (addNew_prefix _ _ _).trans (growIds_prefix _ _ _ _)
  obtain ⟨l, hl⟩ := h
  rw [← hl, List.getElem?_append_left (by simpa using hj)]
  simp [hj]

section
variable {E : Env} {X : Ctx} {n0 : Nat}

/-- the assignment behind a new order -/
def asgO (β : Asg) (order : List Nat) : Asg := fun j => match order[j]? with
  | some i => β i
  | none => none
theorem gcBy_look {order : List Nat} {keep : Nat → Bool} {st : St} {j : Nat} {k' : Blk} (hj : look (gcBy order keep st).b j = some k') : ∃ i k, order[j]? = some i ∧ look st.b i = some k ∧ k' = renB (idxOf order) k := by
  rw [look_some] at hj
  simp only [gcBy, List.getElem?_map, Option.map_eq_some_iff] at hj
  obtain ⟨i, hi, k, hk, rfl⟩ := hj
  exact ⟨i, k, hi, hk, rfl⟩
theorem gcBy_sat {β : Asg} {st : St} {a : Act} {w : World} (h : Sat X β st a w) (keep : Nat → Bool) {order : List Nat} (hnd : nodupB order = true) : Sat X (asgO β order) (gcBy order keep st) a w := by
  have hρ : ∀ b b', idxOf order b = some b' → ∀ r, β b = some r → (asgO β order) b' = some r := by
    intro b b' hb r hr
    simp only [asgO, idxOf_spec hb]
    exact hr
  have lk : ∀ j k', look (gcBy order keep st).b j = some k' → ∃ i k, order[j]? = some i ∧ look st.b i = some k ∧ k' = renB (idxOf order) k := by
    intro j k' hj
    rw [look_some] at hj
    simp only [gcBy, List.getElem?_map, Option.map_eq_some_iff] at hj
    obtain ⟨i, hi, k, hk, rfl⟩ := hj
    exact ⟨i, k, hi, hk, rfl⟩
  have huse : ∀ {j i id}, order[j]? = some i → Uses (asgO β order) j id → Uses β i id := by
    intro j i id hi hu
    exact hu.congr (by simp only [asgO, hi])
  have hown : ∀ k, (renB (idxOf order) k).own = k.own := by intro k; cases k <;> rfl
  have husek : ∀ {j i k id}, order[j]? = some i → UsesK (asgO β order) j (renB (idxOf order) k) id → UsesK β i k id := by
    intro j i k id hi hu
    refine ⟨huse hi hu.1, ?_⟩
    rcases hu.2 with h1 | ⟨ks, x, xs, h1⟩
    · exact .inl (by rw [← hown]; exact h1)
    · cases k <;> simp [renB] at h1
      exact .inr ⟨ks, x, xs, by rw [h1.1, h1.2]⟩
  refine ⟨?_, ?_, ?_, ?_, ?_, h.below, h.frm.sub (fun c k id hc hu => ?_), h.defers⟩
  · simp [gcBy, keepT_length, h.len]
  · intro i v hv
    rw [look_some] at hv
    simp only [gcBy] at hv
    obtain ⟨v0, hx, rfl⟩ := keepT_get hv
    obtain ⟨u, hu, hr⟩ := h.tmps i v0 (look_some.2 hx)
    exact ⟨u, hu, ren_rep' hρ hr⟩
  · intro j k' hj
    obtain ⟨i, k, hi, hk, rfl⟩ := lk j k' hj
    have hb := h.blks i k hk
    have hβ : (asgO β order) j = β i := by simp only [asgO, hi]
    cases k with
    | var t cells =>
      obtain ⟨id, cs, h1, h2, h3, h4⟩ := hb
      obtain ⟨l1, r1⟩ := renL_rep hρ (cs := cells) (xs := cs.toList) (by simpa using h4.1) (fun i c v hc hv => h4.2.2 i c v hc (by simpa using hv))
      exact ⟨id, cs, hβ.trans h1, h2, h3, by simpa using l1, h4.2.1, fun i c v hc hv => r1 i c v hc (by simpa using hv)⟩
    | ints t k xs =>
      obtain ⟨id, h1, h2⟩ := hb
      exact ⟨id, hβ.trans h1, h2⟩
    | row e ks xs =>
      obtain ⟨A, n, c, h1, h2⟩ := hb
      exact ⟨A, n, c, hβ.trans h1, h2⟩
    | ro ks xs =>
      obtain ⟨A, c, h1, h2⟩ := hb
      exact ⟨A, c, hβ.trans h1, h2⟩
  · intro b c k k' id hb hc ho' hu1 hu2
    obtain ⟨i, k1, hi, hk1, rfl⟩ := lk b k hb
    obtain ⟨i', k2, hi', hk2, rfl⟩ := lk c k' hc
    have := h.disj i i' k1 k2 id hk1 hk2 (by rw [← hown]; exact ho') (husek hi hu1) (husek hi' hu2)
    subst this
    exact nodupB_spec hnd hi hi'
  · intro b hb
    simp only [gcBy, List.length_map] at hb
    simp only [asgO, List.getElem?_eq_none hb]
  · obtain ⟨i, k1, hi, hk1, rfl⟩ := lk c k hc
    exact ⟨i, k1, hk1, husek hi hu, fun h0 => by rw [← hown]; exact h0⟩
theorem gc_sat {β : Asg} {st : St} {a : Act} {w : World} (h : Sat X β st a w) (keep : Nat → Bool) (hn : n0 ≤ st.b.length) :
    ∃ β', Sat X β' (gc n0 keep st) a w ∧ (∀ b, b < n0 → β' b = β b) ∧ n0 ≤ (gc n0 keep st).b.length := by
  unfold gc
  simp only
  split
  · rename_i hnd
    generalize ho : gcOrder n0 keep st = order at *
    have hlo : ∀ j, j < n0 → order[j]? = some j := fun j hj => by rw [← ho]; exact gcOrder_lo n0 keep st hj
    refine ⟨asgO β order, gcBy_sat h keep hnd, ?_, ?_⟩
    · intro b hb
      simp only [asgO, hlo b hb]
    · simp only [gcBy, List.length_map]
      rcases Nat.eq_zero_or_pos n0 with h0 | h0
      · omega
      · have := (List.getElem?_eq_some_iff.1 (hlo (n0 - 1) (by omega))).1
        omega
  · exact ⟨β, h, fun _ _ => rfl, hn⟩

/-! ### code -/
def Out.toExit : Out → Exit
  | .normal => .normal
  | .exit id => .exit id
  | .ret => .ret

/-- what follows a piece of code -/
def Follows (X : Ctx) (β : Asg) (n0 : Nat) (K : Out → St → Prop) (Q : Exit → Act → World → Prop) : Prop :=
  ∀ o β' st' a' w', K o st' → Sat X β' st' a' w' → (∀ b, b < n0 → β' b = β b) → n0 ≤ st'.b.length → Q o.toExit a' w'

theorem Follows.agree {β β1 : Asg} {K : Out → St → Prop} {Q : Exit → Act → World → Prop} (h : Follows X β n0 K Q) (ha : ∀ b, b < n0 → β1 b = β b) : Follows X β1 n0 K Q :=
  fun o β' st' a' w' hk hs hag hle => h o β' st' a' w' hk hs (fun b hb => (hag b hb).trans (ha b hb)) hle

theorem loopN_sound {c : Code} {cl : St → St} {f : St → (Out → St → Prop) → Prop}
    (hcl : ∀ {β st a w}, Sat X β st a w → n0 ≤ st.b.length → ∃ β', Sat X β' (cl st) a w ∧ (∀ b, b < n0 → β' b = β b) ∧ n0 ≤ (cl st).b.length)
    (hf : ∀ {β st a w} {K : Out → St → Prop} {Q : Exit → Act → World → Prop}, Sat X β st a w → n0 ≤ st.b.length → f st K → Follows X β n0 K Q → c.wp E.P Q a w) :
    ∀ (n : Nat) {β : Asg} {st : St} {a : Act} {w : World} {K : Out → St → Prop} {Q : Exit → Act → World → Prop}, Sat X β st a w → n0 ≤ st.b.length → loopN f cl n st K → Follows X β n0 K Q → Code.rounds E.P c Q n a w := by
  intro n
  induction n with
  | zero => intro β st a w K Q h hn hk hF; exact hk.elim
  | succ n ih =>
    intro β st a w K Q h hn hk hF
    simp only [loopN] at hk
    rw [rounds_succ]
    refine hf h hn hk ?_
    intro o β' st' a' w' hk' hs hag hle
    cases o with
    | normal =>
      simp only at hk'
      obtain ⟨β'', hs'', hag'', hle''⟩ := hcl hs hle
      exact ih hs'' hle'' hk' (hF.agree (fun b hb => (hag'' b hb).trans (hag b hb)))
    | exit id => exact hF (.exit id) β' st' a' w' hk' hs hag hle
    | ret => exact hF .ret β' st' a' w' hk' hs hag hle

theorem loopsOf_length (kp : Nat) : ∀ (c : Code) (kp : Nat), (loopsOf kp c).length = nloops c
  | .seq x y, kp => by simp [loopsOf, nloops, loopsOf_length kp x, loopsOf_length kp y]
  | .cond _ x y, kp => by simp [loopsOf, nloops, loopsOf_length kp x, loopsOf_length kp y]
  | .block _ c, kp => by simp [loopsOf, nloops, loopsOf_length kp c]
  | .loop c, kp => by simp [loopsOf, nloops, loopsOf_length kp c]
  | .skip, kp => rfl
  | .region .., kp => rfl
  | .exit .., kp => rfl
  | .ret, kp => rfl
  | .rangeFunc .., kp => rfl
  | .scope .., kp => rfl
  | .label .., kp => rfl
  | .goto .., kp => rfl
  | .refuse .., kp => rfl

/-- what was told of loops holds -/
def LoopsOk (E : Env) (f : FuncId) (n0 : Nat) (i : Nat) (l : List (Nat × Code)) : Prop :=
  ∀ (j : Nat) p S, l[j]? = some p → E.Λ f (i + j) = some S → LoopOk E f n0 (i + j) p S
theorem LoopsOk.left {f : FuncId} {i : Nat} {l m : List (Nat × Code)} (h : LoopsOk E f n0 i (l ++ m)) : LoopsOk E f n0 i l := fun j p S hj hS => h j p S (by rw [List.getElem?_append_left (List.getElem?_eq_some_iff.1 hj).1]; exact hj) hS
theorem LoopsOk.right {f : FuncId} {i : Nat} {l m : List (Nat × Code)} (h : LoopsOk E f n0 i (l ++ m)) : LoopsOk E f n0 (i + l.length) m := fun j p S hj hS => by
  rw [Nat.add_assoc] at hS ⊢
  exact h (l.length + j) p S (by rw [List.getElem?_append_right (by omega)]; simpa using hj) hS
theorem LoopsOk.tail {f : FuncId} {i : Nat} {q : Nat × Code} {m : List (Nat × Code)} (h : LoopsOk E f n0 i (q :: m)) : LoopsOk E f n0 (i + 1) m := fun j p S hj hS => by
  rw [Nat.add_assoc, Nat.add_comm 1 j] at hS ⊢
  exact h (j + 1) p S (by simpa using hj) hS

theorem exec_sound (hE : EnvOk E) {f : FuncId} : ∀ (c : Code) (kp : Nat) (i : Nat), LoopsOk E f n0 i (loopsOf kp c) → ∀ {β : Asg} {st : St} {a : Act} {w : World} {K : Out → St → Prop} {Q : Exit → Act → World → Prop}, Sat X β st a w → n0 ≤ st.b.length →
    exec E f n0 kp i c st K → Follows X β n0 K Q → c.wp E.P Q a w
  | .skip, kp, i, hL, β, st, a, w, K, Q, h, hn, hk, hF => wp_skip (hF .normal β st a w hk h (fun _ _ => rfl) hn)
  | .region id ops draw, kp, i, hL, β, st, a, w, K, Q, h, hn, hk, hF => by
    cases draw with
    | true =>
      simp only [exec, if_true] at hk
      exact execDraw_sound (n0 := n0) hE h hn hk (fun β' st' a' w' hk' hs' hag hle => hF .normal β' st' a' w' hk' hs' hag hle)
    | false =>
      simp only [exec] at hk
      exact wp_region_list (execOps_sound (n0 := n0) hE h hn (by simpa using hk) (fun β' st' a' w' hk' hs' hag hle => hF .normal β' st' a' w' hk' hs' hag hle))
  | .seq x y, kp, i, hL, β, st, a, w, K, Q, h, hn, hk, hF => by
    simp only [exec] at hk
    simp only [loopsOf] at hL
    refine wp_seq (exec_sound hE x _ i hL.left h hn hk ?_)
    intro o β' st' a' w' hk' hs hag hle
    cases o with
    | normal => exact exec_sound hE y kp _ (by have := hL.right; rw [loopsOf_length kp] at this; exact this) hs hle hk' (hF.agree hag)
    | exit id => exact hF (.exit id) β' st' a' w' hk' hs hag hle
    | ret => exact hF .ret β' st' a' w' hk' hs hag hle
  | .cond c x y, kp, i, hL, β, st, a, w, K, Q, h, hn, hk, hF => by
    simp only [exec] at hk
    simp only [loopsOf] at hL
    split at hk
    · rename_i b hb
      have hc := (ev_rep h hb).bool_inv
      cases b with
      | true => exact wp_cond_true hc (exec_sound hE x kp i hL.left h hn hk hF)
      | false => exact wp_cond_false hc (exec_sound hE y kp _ (by have := hL.right; rw [loopsOf_length kp] at this; exact this) h hn hk hF)
    · exact hk.elim
  | .block id c, kp, i, hL, β, st, a, w, K, Q, h, hn, hk, hF => by
    simp only [exec] at hk
    simp only [loopsOf] at hL
    refine wp_block (exec_sound hE c kp i hL h hn hk ?_)
    intro o β' st' a' w' hk' hs hag hle
    cases o with
    | normal => exact hF .normal β' st' a' w' hk' hs hag hle
    | exit i =>
      simp only at hk'
      show Exit.inBlock id Q (.exit i) a' w'
      unfold Exit.inBlock
      by_cases hi : i = id
      · rw [if_pos hi] at hk'
        simp only [hi, if_true]
        exact hF .normal β' st' a' w' hk' hs hag hle
      · rw [if_neg hi] at hk'
        simp only [hi, if_false]
        exact hF (.exit i) β' st' a' w' hk' hs hag hle
    | ret => exact hF .ret β' st' a' w' hk' hs hag hle
  | .loop c, kp, i, hL, β, st, a, w, K, Q, h, hn, hk, hF => by
    simp only [exec] at hk
    simp only [loopsOf] at hL
    obtain ⟨β', hs', hag', hle'⟩ := gc_sat h (keepOf (Nat.lor kp (gen c))) hn
    split at hk
    · rename_i S hS
      obtain ⟨n, hk⟩ := hL 0 _ S rfl hS _ _ hk
      refine wp_loop_rounds n (loopN_sound (X := X) (n0 := n0) (fun hs hl => gc_sat hs _ hl) (fun hs hl hk hF => exec_sound hE c _ _ hL.tail hs hl hk hF) n hs' hle' hk ?_)
      intro o β2 st2 a2 w2 hk2 hs2 hag2 hle2
      obtain ⟨β3, hs3, hag3, hle3⟩ := gc_sat hs2 (keepO E.P f kp o) hle2
      exact hF o β3 _ a2 w2 hk2 hs3 (fun b hb => (hag3 b hb).trans ((hag2 b hb).trans (hag' b hb))) hle3
    · refine wp_loop_rounds 8 (loopN_sound (X := X) (n0 := n0) (fun hs hl => gc_sat hs _ hl) (fun hs hl hk hF => exec_sound hE c _ _ hL.tail hs hl hk hF) 8 hs' hle' hk (hF.agree hag'))
  | .exit id, kp, i, hL, β, st, a, w, K, Q, h, hn, hk, hF => wp_exit (hF (.exit id) β st a w hk h (fun _ _ => rfl) hn)
  | .ret, kp, i, hL, β, st, a, w, K, Q, h, hn, hk, hF => wp_ret (hF .ret β st a w hk h (fun _ _ => rfl) hn)
  | .rangeFunc .., kp, i, hL, β, st, a, w, K, Q, h, hn, hk, hF => by simp [exec] at hk
  | .scope .., kp, i, hL, β, st, a, w, K, Q, h, hn, hk, hF => by simp [exec] at hk
  | .label .., kp, i, hL, β, st, a, w, K, Q, h, hn, hk, hF => by simp [exec] at hk
  | .goto .., kp, i, hL, β, st, a, w, K, Q, h, hn, hk, hF => by simp [exec] at hk
  | .refuse .., kp, i, hL, β, st, a, w, K, Q, h, hn, hk, hF => by simp [exec] at hk

/-- One round of a loop, its states as they are kept. -/
def round (E : Env) (f : FuncId) (n0 i : Nat) (p : Nat × Code) (st : St) (k : Out → St → Prop) : Prop :=
  exec E f n0 (Nat.lor p.1 (gen p.2)) (i + 1) p.2 st fun o st' => match o with
    | .normal => k .normal (gc n0 (keepOf (Nat.lor p.1 (gen p.2))) st')
    | o => k o (gc n0 (keepO E.P f p.1 o) st')

/-- A loop, by what holds at its head ('I'), the states there ('S'), and a number that falls ('m'). -/
theorem loop_of {α : Type} {E : Env} {f : FuncId} {n0 i : Nat} {p : Nat × Code} {K : Out → St → Prop} (S : α → St) (I : α → Prop) (m : α → Nat)
    (h : ∀ a, I a → ∀ k : Out → St → Prop, (∀ a', I a' → m a' < m a → k .normal (S a')) → (∀ o st, o ≠ .normal → K o st → k o st) → round E f n0 i p (S a) k) {a : α} (ha : I a) :
    ∃ n, loopN (exec E f n0 (Nat.lor p.1 (gen p.2)) (i + 1) p.2) (gc n0 (keepOf (Nat.lor p.1 (gen p.2)))) n (S a) fun o st' => K o (gc n0 (keepO E.P f p.1 o) st') := by
  have key : ∀ n a, I a → m a < n → loopN (exec E f n0 (Nat.lor p.1 (gen p.2)) (i + 1) p.2) (gc n0 (keepOf (Nat.lor p.1 (gen p.2)))) n (S a) fun o st' => K o (gc n0 (keepO E.P f p.1 o) st') := by
    intro n
    induction n with
    | zero => intro a _ h0; exact absurd h0 (Nat.not_lt_zero _)
    | succ n ih =>
      intro a ha hm
      simp only [loopN]
      have := h a ha (fun o st => match o with
        | .normal => loopN (exec E f n0 (Nat.lor p.1 (gen p.2)) (i + 1) p.2) (gc n0 (keepOf (Nat.lor p.1 (gen p.2)))) n st fun o st' => K o (gc n0 (keepO E.P f p.1 o) st')
        | o => K o st) (fun a' ha' hlt => ih a' ha' (by omega)) (fun o st ho hk => by cases o with
          | normal => exact absurd rfl ho
          | _ => exact hk)
      unfold round at this
      refine cast ?_ this
      congr 1
      funext o st'
      cases o <;> rfl
  exact ⟨m a + 1, key _ a ha (Nat.lt_succ_self _)⟩

theorem br_dec {p : Prop} [Decidable p] {A B : Prop} : br (decide p) A B ↔ (p → A) ∧ (¬ p → B) := by
  by_cases h : p <;> simp [br, h]
/-- a proposition as a Bool -/
noncomputable def bp (p : Prop) : Bool := @decide p (Classical.propDecidable p)
theorem bp_iff {p : Prop} : bp p = true ↔ p := by simp [bp]
theorem bp_true {p : Prop} (h : p) : bp p = true := bp_iff.2 h
theorem bp_false {p : Prop} (h : ¬ p) : bp p = false := by simp [bp, h]
theorem br_bp {p : Prop} {A B : Prop} : br (bp p) A B ↔ (p → A) ∧ (¬ p → B) := by
  by_cases h : p <;> simp [br, bp, h]
theorem br_bool {b : Bool} {A B : Prop} : br b A B ↔ (b = true → A) ∧ (b = false → B) := by
  cases b <;> simp [br]

/-! what is read off a state -/
noncomputable def St.i (st : St) (n : Nat) : Int := match look st.t n with
  | some (.int _ x) => x
  | _ => 0
noncomputable def St.a (st : St) (n : Nat) : List Int := match look st.b n with
  | some (.ints _ _ xs) => xs
  | _ => []
noncomputable def St.c (st : St) (b j : Nat) : Int := match look st.b b with
  | some (.var _ cs) => match nthR cs j with
    | some (.int _ x) => x
    | _ => 0
  | _ => 0
/-! names for what stands twice in a formula -/
theorem nm {A : Prop} {α : Type} {K : α → Prop} {e : α} (h : A = K e) : A = ∀ t, t = e → K t := h.trans (propext ⟨fun h t ht => ht ▸ h, fun h => h e rfl⟩)
theorem jn (x : Int) : x / 18446744073709551616 * 18446744073709551616 + x % 18446744073709551616 = x := by omega
theorem join4 (n : Int) : n / 6277101735386680763835789423207666416102355444464034512896 * 6277101735386680763835789423207666416102355444464034512896 + n / 340282366920938463463374607431768211456 % 18446744073709551616 * 340282366920938463463374607431768211456 + n / 18446744073709551616 % 18446744073709551616 * 18446744073709551616 + n % 18446744073709551616 = n := by omega
theorem nj {A : Prop} {K : Int → Prop} {a : Int} (h : A = K (a / 18446744073709551616 * 18446744073709551616 + a % 18446744073709551616)) : A = ∀ t, t = a → K t := by rw [h, jn]; exact propext ⟨fun h t ht => ht ▸ h, fun h => h a rfl⟩
theorem nj4 {A : Prop} {K : Int → Prop} {a : Int} (h : A = K (a / 6277101735386680763835789423207666416102355444464034512896 * 6277101735386680763835789423207666416102355444464034512896 + a / 340282366920938463463374607431768211456 % 18446744073709551616 * 340282366920938463463374607431768211456 + a / 18446744073709551616 % 18446744073709551616 * 18446744073709551616 + a % 18446744073709551616)) : A = ∀ t, t = a → K t := by rw [h, join4]; exact propext ⟨fun h t ht => ht ▸ h, fun h => h a rfl⟩
/-! numbers that are compared by their words -/
theorem nb {A : Prop} {K : Bool → Prop} {a b : Int} (h : A = K (decide (a / 18446744073709551616 = b / 18446744073709551616) && (decide (a % 18446744073709551616 = b % 18446744073709551616) && true))) : A = ∀ t, t = decide (a = b) → K t := by
  have e : (decide (a / 18446744073709551616 = b / 18446744073709551616) && (decide (a % 18446744073709551616 = b % 18446744073709551616) && true)) = decide (a = b) := by rw [Bool.eq_iff_iff]; simp; omega
  rw [h, e]; exact propext ⟨fun h t ht => ht ▸ h, fun h => h _ rfl⟩
theorem nbr {A : Prop} {K : Bool → Prop} {a b : Int} {R : Bool} (h : A = K (decide (a / 18446744073709551616 = b / 18446744073709551616) && (decide (a % 18446744073709551616 = b % 18446744073709551616) && R))) : A = ∀ t, t = (decide (a = b) && R) → K t := by
  have e : (decide (a / 18446744073709551616 = b / 18446744073709551616) && (decide (a % 18446744073709551616 = b % 18446744073709551616) && R)) = (decide (a = b) && R) := by
    rw [Bool.eq_iff_iff]; simp only [Bool.and_eq_true, decide_eq_true_eq]
    constructor
    · rintro ⟨h1, h2, h3⟩; exact ⟨by omega, h3⟩
    · rintro ⟨h1, h3⟩; exact ⟨by omega, by omega, h3⟩
  rw [h, e]; exact propext ⟨fun h t ht => ht ▸ h, fun h => h _ rfl⟩
theorem nbc {A : Prop} {K : Bool → Prop} {a c d e : Int} (hd : 0 ≤ d ∧ d < 18446744073709551616 ∧ e = c * 18446744073709551616 + d) (h : A = K (decide (a / 18446744073709551616 = c) && (decide (a % 18446744073709551616 = d) && true))) : A = ∀ t, t = decide (a = e) → K t := by
  have e : (decide (a / 18446744073709551616 = c) && (decide (a % 18446744073709551616 = d) && true)) = decide (a = e) := by rw [Bool.eq_iff_iff]; simp; omega
  rw [h, e]; exact propext ⟨fun h t ht => ht ▸ h, fun h => h _ rfl⟩
theorem nbcr {A : Prop} {K : Bool → Prop} {a c d e : Int} {R : Bool} (hd : 0 ≤ d ∧ d < 18446744073709551616 ∧ e = c * 18446744073709551616 + d) (h : A = K (decide (a / 18446744073709551616 = c) && (decide (a % 18446744073709551616 = d) && R))) : A = ∀ t, t = (decide (a = e) && R) → K t := by
  have e : (decide (a / 18446744073709551616 = c) && (decide (a % 18446744073709551616 = d) && R)) = (decide (a = e) && R) := by
    rw [Bool.eq_iff_iff]; simp only [Bool.and_eq_true, decide_eq_true_eq]
    constructor
    · rintro ⟨h1, h2, h3⟩; exact ⟨by omega, h3⟩
    · rintro ⟨h1, h3⟩; exact ⟨by omega, by omega, h3⟩
  rw [h, e]; exact propext ⟨fun h t ht => ht ▸ h, fun h => h _ rfl⟩
theorem nb4 {A : Prop} {K : Bool → Prop} {a b : Int} (h : A = K (decide (a / 6277101735386680763835789423207666416102355444464034512896 = b / 6277101735386680763835789423207666416102355444464034512896) && (decide (a / 340282366920938463463374607431768211456 % 18446744073709551616 = b / 340282366920938463463374607431768211456 % 18446744073709551616) && (decide (a / 18446744073709551616 % 18446744073709551616 = b / 18446744073709551616 % 18446744073709551616) && (decide (a % 18446744073709551616 = b % 18446744073709551616) && true))))) : A = ∀ t, t = decide (a = b) → K t := by
  have e : (decide (a / 6277101735386680763835789423207666416102355444464034512896 = b / 6277101735386680763835789423207666416102355444464034512896) && (decide (a / 340282366920938463463374607431768211456 % 18446744073709551616 = b / 340282366920938463463374607431768211456 % 18446744073709551616) && (decide (a / 18446744073709551616 % 18446744073709551616 = b / 18446744073709551616 % 18446744073709551616) && (decide (a % 18446744073709551616 = b % 18446744073709551616) && true)))) = decide (a = b) := by rw [Bool.eq_iff_iff]; simp; omega
  rw [h, e]; exact propext ⟨fun h t ht => ht ▸ h, fun h => h _ rfl⟩
/-- temporaries by number -/
def T (n : Nat) (l : List (Nat × IV)) : List (Option IV) := l.foldl (fun t p => t.set p.1 (some p.2)) (List.replicate n none)
/-! what is read off arguments: a number in a struct; a slice's content -/
noncomputable def argI (args : List IV) (i j : Nat) : Int := match nthR args i with
  | some (.agg cs) => match nthR cs j with
    | some (.int _ x) => x
    | _ => 0
  | some (.int _ x) => x
  | _ => 0
noncomputable def argB (args : List IV) (i j : Nat) : Bool := match nthR args i with
  | some (.agg cs) => match nthR cs j with
    | some (.bool x) => x
    | _ => false
  | some (.bool x) => x
  | _ => false
noncomputable def argFn (args : List IV) (i : Nat) : FuncId := match nthR args i with
  | some (.fn f _) => f
  | _ => 0
noncomputable def argC (b : List (Option Blk)) (n j : Nat) : Int := match look b n with
  | some (.var _ cs) => match nthR cs j with
    | some (.int _ x) => x
    | _ => 0
  | _ => 0
noncomputable def argX (b : List (Option Blk)) (n : Nat) : List (List Int) := match look b n with
  | some (.row _ _ xs) => xs
  | some (.ro _ xs) => xs
  | _ => []
noncomputable def St.x (st : St) (n : Nat) : List (List Int) := match look st.b n with
  | some (.row _ _ xs) => xs
  | some (.ro _ xs) => xs
  | _ => []

end
end Go.Vs

/- Vs, part Q: results; a function entered; contracts from what a function comes to. -/
set_option linter.unusedVariables false
set_option linter.unusedSimpArgs false
namespace Go.Vs
open Go.RowKit
section
variable {P : Program} {X : Ctx} {β : Asg} {st : St} {a : Act} {w : World}

/-! ### results -/
def resRun (tmps : Array Value) : ResultVar → Sem Value
  | .tmp t => pure (tmps.getD t undef)
  | .cell a t => do loadVar t (← asAddr (tmps.getD a undef))

theorem resultOf1_sound (h : Sat X β st a w) {r : ResultVar} {v : IV} (hr : resultOf1 P st r = some v) : ∃ u, (resRun a.tmps r).run P w = .ok u w ∧ Rep β v u := by
  cases r with
  | tmp i =>
    obtain ⟨u, hu, hrep⟩ := look_length_tmps h hr
    exact ⟨u, by simp [resRun, hu], hrep⟩
  | cell i t =>
    simp only [resultOf1] at hr
    split at hr
    · rename_i b hb
      obtain ⟨u, hu, hrep⟩ := look_length_tmps h hb
      split at hr
      · rename_i v' hl
        cases hr
        obtain ⟨u', hu', hrun⟩ := loadAt_sound h.blks hrep hl (by simp)
        obtain ⟨id, rfl, hβ⟩ := hrep.ptr_inv
        refine ⟨u', ?_, hu'⟩
        simp only [resRun, hu, asAddr, pure_bind]
        simpa [Instr.loadAt, Instr.sureAddr] using hrun
      · cases hr
    · cases hr

theorem resultsOf_sound (h : Sat X β st a w) : ∀ {rs : List ResultVar} {vs : List IV}, resultsOf P st rs = some vs → ∃ us, (rs.mapM (resRun a.tmps)).run P w = .ok us w ∧ vs.length = us.length ∧ ∀ (i : Nat) c v, vs[i]? = some c → us[i]? = some v → Rep β c v := by
  intro rs
  induction rs with
  | nil => intro vs hv; simp [resultsOf] at hv; subst hv; exact ⟨[], by simp, rfl, by simp⟩
  | cons r rs ih =>
    intro vs hv
    simp only [resultsOf] at hv
    split at hv
    · rename_i v vs' h1 h2
      cases hv
      obtain ⟨u, hu, hr⟩ := resultOf1_sound h h1
      obtain ⟨us, hus, hl, hrs⟩ := ih h2
      refine ⟨u :: us, by simp [List.mapM_cons, hu, hus], by simp [hl], ?_⟩
      intro i c x hc hx
      cases i with
      | zero => simp at hc hx; subst hc; subst hx; exact hr
      | succ i => simp at hc hx; exact hrs i c x hc hx
    · cases hv

theorem results_eq (fn : Func) (tmps : Array Value) : results fn tmps = (do let vs ← fn.results.mapM (resRun tmps); pure (if h : vs.size = 1 then vs[0] else .tuple vs)) := by
  unfold results
  congr 1

theorem resultOf_sound (h : Sat X β st a w) {fn : Func} {v : IV} (hv : resultOf P fn st = some v) : ∃ u, (results fn a.tmps).run P w = .ok u w ∧ Rep β v u := by
  rw [results_eq]
  obtain ⟨rs, hrs⟩ : ∃ rs : List ResultVar, fn.results = rs.toArray := ⟨fn.results.toList, by simp⟩
  unfold resultOf at hv
  rw [hrs] at hv ⊢
  simp only [List.mapM_toArray]
  split at hv
  · rename_i r hr
    simp only at hr
    subst hr
    obtain ⟨u, hu, hrep⟩ := resultOf1_sound h hv
    exact ⟨u, by simp [hu], hrep⟩
  · rename_i hne
    simp only [Option.map_eq_some_iff] at hv
    obtain ⟨vs, hvs, rfl⟩ := hv
    obtain ⟨us, hus, hl, hrep⟩ := resultsOf_sound h hvs
    have hlen : ∀ {rs : List ResultVar} {vs : List IV}, resultsOf P st rs = some vs → rs.length = vs.length := by
      intro rs
      induction rs with
      | nil => intro vs h; simp [resultsOf] at h; subst h; rfl
      | cons r rs ih =>
        intro vs h
        simp only [resultsOf] at h
        split at h
        · rename_i h2; cases h; simp [ih h2]
        · cases h
    have h1 : us.length ≠ 1 := by
      intro h1
      have := hlen hvs
      rw [hl, h1] at this
      match rs, this with
      | [r], _ => exact hne r (by simp)
    refine ⟨.tuple us.toArray, ?_, .tup (by simp [hl]) (fun i c x hc hx => hrep i c x hc (by simpa using hx))⟩
    have hus' : (List.mapM (resRun a.tmps) rs).run P w = .ok us w := hus
    simp [hus', h1]

/-! ### a function entered -/
/-- what was told of a function holds -/
def FunOk (P : Program) (g : FuncId) (G : FunS) : Prop :=
  ∀ args b K, G args b K → ∀ X β w (vs : Array Value), SatB X β b w → args.length = vs.size → (∀ (i : Nat) c v, args[i]? = some c → vs[i]? = some v → Rep β c v) →
    Calls P g vs w fun e w' => ∃ v u β' b', e = .returned u ∧ K v b' ∧ Rep β' v u ∧ SatB X β' b' w' ∧ (∀ c, c < b.length → β' c = β c) ∧ b.length ≤ b'.length
theorem idxOf_none : ∀ {l : List Nat} {b : Nat}, idxOf l b = none → ∀ j : Nat, l[j]? ≠ some b
  | [], b, _, j => by simp
  | x :: l, b, h, j => by
    simp only [idxOf] at h
    split at h
    · cases h
    · rename_i hne
      cases j with
      | zero => simpa using hne
      | succ j =>
        rw [List.getElem?_cons_succ]
        refine idxOf_none ?_ j
        cases h2 : idxOf l b with
        | none => rfl
        | some _ => rw [h2] at h; cases h
theorem BOk.same {X : Ctx} {β : Asg} {w w' : World} {b : Nat} {k : Blk} (h : BOk X β w b k) (hs : ∀ id, UsesK β b k id → w'.heap[id]? = w.heap[id]?) : BOk X β w' b k := by
  cases k with
  | var t cells =>
    obtain ⟨id', cs, h1, h2, h3, h4⟩ := h
    exact ⟨id', cs, h1, h2, (hs id' ⟨.inl h1, .inl rfl⟩).trans h3, h4⟩
  | ints t k xs =>
    obtain ⟨id', h1, h2, h3, h4⟩ := h
    exact ⟨id', h1, h2, (hs id' ⟨.inl h1, .inl rfl⟩).trans h3, h4⟩
  | row e ks xs =>
    obtain ⟨A, n, c, h1, h2, h3⟩ := h
    refine ⟨A, n, c, h1, ⟨h2.1, ?_⟩, h3⟩
    rcases h2.2 with hn | ⟨g, cap, cur, e1, hb, hg, rest⟩
    · exact .inl hn
    · refine .inr ⟨g, cap, cur, e1, hb, ?_, rest⟩
      rw [hs g ⟨.inr ⟨⟨g, 0, none⟩, n, c, by rw [h1, e1]; cases e1; rfl, rfl⟩, .inl rfl⟩]
      exact hg
  | ro ks xs =>
    obtain ⟨A, c, h1, h2, h3, h4⟩ := h
    refine ⟨A, c, h1, ⟨h2.1, h2.2.1, fun h0 => ?_⟩, h3, h4⟩
    obtain ⟨g, o, e, hc⟩ := h2.2.2 h0
    subst e
    refine ⟨g, o, rfl, fun j u hj => ?_⟩
    refine (World.cell?_of_block (hs g ⟨.inr ⟨_, _, _, h1, rfl⟩, .inr ?_⟩)).trans (hc j u hj)
    cases xs with
    | nil => simp at h0
    | cons x xs => exact ⟨ks, x, xs, rfl⟩

/-- Whoever sees no more than what it can reach leaves all else alone. -/
theorem framed_ok {P : Program} {g : FuncId} {G : FunS} (hG : FunOk P g G) : FunOk P g (framed G) := by
  intro args b K hk X β w vs hS hlen hrep
  unfold framed at hk
  generalize reachOf b args = order at hk
  split at hk
  rotate_left
  · exact hk.elim
  rename_i hc
  rw [Bool.and_eq_true] at hc
  obtain ⟨hnd, hlt0⟩ := hc
  have hlt : ∀ j i : Nat, order[j]? = some i → i < b.length := by
    intro j i hj
    have := (List.all_eq_true.1 hlt0) i (List.mem_of_getElem? hj)
    exact blt_iff.1 this
  let inO : Nat → Prop := fun i => ∃ j : Nat, order[j]? = some i
  let X' : Ctx := { w0 := X.w0, B := X.B, A0 := X.A0, Fr := fun id => X.Fr id ∨ ∃ i k, ¬ inO i ∧ look b i = some k ∧ UsesK β i k id,
                    Fo := fun id => X.Fo id ∨ ∃ i k, ¬ inO i ∧ look b i = some k ∧ k.own = true ∧ UsesK β i k id, F0 := w }
  have h0 := gcBy_sat hS (fun _ => false) hnd
  have hown : ∀ {f : Nat → Option Nat} (k : Blk), (renB f k).own = k.own := by intro f k; cases k <;> rfl
  have hro : ∀ {f : Nat → Option Nat} {k : Blk}, (∃ ks x xs, renB f k = .ro ks (x :: xs)) → ∃ ks x xs, k = .ro ks (x :: xs) := by
    rintro f k ⟨ks, x, xs, e⟩
    cases k <;> simp [renB] at e
    exact ⟨ks, x, xs, by rw [e.1, e.2]⟩
  have husek : ∀ {j i : Nat} {k : Blk} {id : Nat}, order[j]? = some i → UsesK (asgO β order) j (renB (idxOf order) k) id → UsesK β i k id := by
    intro j i k id hi hu
    refine ⟨hu.1.congr (by simp only [asgO, hi]), ?_⟩
    rcases hu.2 with h1 | h1
    · exact .inl (by rw [← hown]; exact h1)
    · exact .inr (hro h1)
  have hS' : SatB X' (asgO β order) (order.map fun i => (look b i).map (renB (idxOf order))) w := by
    refine ⟨rfl, fun i v hv => by simp [look_nil] at hv, h0.blks, h0.disj, h0.bound, h0.below, ⟨h0.frm.le, ?_, ?_, ?_⟩, rfl⟩
    · rintro id (hf | ⟨i, k, _, hk1, hu⟩)
      · exact ⟨(hS.frm.fr id hf).1, rfl⟩
      · exact ⟨uses_lt (hS.blks i k hk1) hu, rfl⟩
    · rintro id (hf | ⟨i, k, hn, hk1, _, hu⟩)
      · exact .inl (hS.frm.fo id hf)
      · exact .inr ⟨i, k, hn, hk1, hu⟩
    · intro c k' id hc hu
      obtain ⟨i, k, hi, hk1, rfl⟩ := gcBy_look (st := ⟨[], b⟩) (keep := fun _ => false) hc
      have hu' := husek hi hu
      have ha := hS.frm.apart i k id hk1 hu'
      refine ⟨?_, fun ho => ?_⟩
      · rintro (hf | ⟨i2, k2, hn, hk2, ho2, hu2⟩)
        · exact ha.1 hf
        · have := hS.disj i2 i k2 k id hk2 hk1 ho2 hu2 hu'
          subst this
          exact hn ⟨c, hi⟩
      · rw [hown] at ho
        rintro (hf | ⟨i2, k2, hn, hk2, hu2⟩)
        · exact ha.2 ho hf
        · have := hS.disj i i2 k k2 id hk1 hk2 ho hu' hu2
          subst this
          exact hn ⟨c, hi⟩
  have hρ : ∀ b0 b', idxOf order b0 = some b' → ∀ r, β b0 = some r → (asgO β order) b' = some r := by
    intro b0 b' hb r hr
    simp only [asgO, idxOf_spec hb]
    exact hr
  have hcall := hG _ _ _ hk X' (asgO β order) w vs hS' (by simpa using hlen) (by
    intro i c v hc hv
    simp only [List.getElem?_map, Option.map_eq_some_iff] at hc
    obtain ⟨c0, hc0, rfl⟩ := hc
    exact ren_rep' hρ (hrep i c0 v hc0 hv))
  refine hcall.mono ?_
  rintro e w' ⟨v, u, β1, b1, rfl, hK, hr, hB, hag, hle⟩
  simp only [List.length_map] at hag hle
  let β2 : Asg := fun c => if c < b.length then β c else β1 (order.length + (c - b.length))
  have hβ2 : ∀ {c}, c < b.length → β2 c = β c := fun h => by simp only [β2, if_pos h]
  have hback : ∀ {j c : Nat}, backOf order b.length j = some c → β2 c = β1 j ∧ ((∃ i : Nat, order[j]? = some i ∧ c = i) ∨ (order.length ≤ j ∧ c = b.length + (j - order.length))) := by
    intro j c hj
    unfold backOf at hj
    rw [nthR_eq] at hj
    split at hj
    · rename_i i hi
      cases hj
      have hjl := (List.getElem?_eq_some_iff.1 hi).1
      refine ⟨?_, .inl ⟨_, hi, rfl⟩⟩
      rw [hβ2 (hlt j _ hi), hag j hjl]
      simp only [asgO, hi]
    · rename_i hi
      cases hj
      have hjl : order.length ≤ j := by
        rcases Nat.lt_or_ge j order.length with h1 | h1
        · simp [h1] at hi
        · exact h1
      refine ⟨?_, .inr ⟨hjl, rfl⟩⟩
      simp only [β2]
      rw [if_neg (by omega)]
      congr 1
      omega
  have hinj : ∀ {j j' c : Nat}, backOf order b.length j = some c → backOf order b.length j' = some c → j = j' := by
    intro j j' c h1 h2
    rcases (hback h1).2 with ⟨i, hi, rfl⟩ | ⟨h3, rfl⟩ <;> rcases (hback h2).2 with ⟨i', hi', e'⟩ | ⟨h3', e'⟩
    · subst e'; exact nodupB_spec hnd hi hi'
    · have := hlt _ _ hi; omega
    · have := hlt _ _ hi'; omega
    · omega
  have hρ2 : ∀ j c, backOf order b.length j = some c → ∀ r, β1 j = some r → β2 c = some r := fun j c hj r hr => by rw [(hback hj).1]; exact hr
  have hplen : (putBack b order b1).length = b.length + (b1.length - order.length) := by simp [putBack]
  have lk : ∀ c k, look (putBack b order b1) c = some k → (c < b.length ∧ ¬ inO c ∧ look b c = some k) ∨ ∃ j k1, backOf order b.length j = some c ∧ look b1 j = some k1 ∧ k = renB (backOf order b.length) k1 := by
    intro c k hc
    unfold putBack at hc
    rw [look_app] at hc
    simp only [List.length_map, List.length_range] at hc
    split at hc
    · rename_i hcl
      rw [look_some] at hc
      simp only [List.getElem?_map, List.getElem?_range hcl, Option.map_some, Option.some.injEq] at hc
      split at hc
      · rename_i j hj
        simp only [Option.map_eq_some_iff] at hc
        obtain ⟨k1, hk1, rfl⟩ := hc
        refine .inr ⟨j, k1, ?_, hk1, rfl⟩
        unfold backOf
        rw [nthR_eq, idxOf_spec hj]
      · rename_i hn
        exact .inl ⟨hcl, fun ⟨j, hj⟩ => idxOf_none hn j hj, hc⟩
    · rename_i hcl
      rw [look_some] at hc
      simp only [List.getElem?_map, List.getElem?_drop, Option.map_eq_some_iff] at hc
      obtain ⟨x, hx, k1, rfl, rfl⟩ := hc
      refine .inr ⟨order.length + (c - b.length), k1, ?_, look_some.2 hx, rfl⟩
      unfold backOf
      rw [nthR_eq, List.getElem?_eq_none (by omega)]
      simp only [Option.some.injEq]
      omega
  have husek1 : ∀ {j c : Nat} {k1 : Blk} {id : Nat}, backOf order b.length j = some c → UsesK β2 c (renB (backOf order b.length) k1) id → UsesK β1 j k1 id := by
    intro j c k1 id hj hu
    refine ⟨hu.1.congr (hback hj).1, ?_⟩
    rcases hu.2 with h1 | h1
    · exact .inl (by rw [← hown]; exact h1)
    · exact .inr (hro h1)
  have huse0 : ∀ {c : Nat} {k : Blk} {id : Nat}, c < b.length → UsesK β2 c k id → UsesK β c k id := fun hcl hu => ⟨hu.1.congr (hβ2 hcl), hu.2⟩
  refine ⟨_, u, β2, _, rfl, hK, ren_rep' hρ2 hr, ⟨rfl, fun i v hv => by simp [look_nil] at hv, ?_, ?_, ?_, hB.below, ⟨hB.frm.le, ?_, hS.frm.fo, ?_⟩, rfl⟩, fun c hc => hβ2 hc, by rw [hplen]; omega⟩
  · intro c k hc
    rcases lk c k hc with ⟨hcl, hn, hk1⟩ | ⟨j, k1, hj, hk1, rfl⟩
    · have h1 := (hS.blks c k hk1).same (w' := w') (fun id hu => (hB.frm.fr id (.inr ⟨c, k, hn, hk1, hu⟩)).2)
      refine h1.mono ?_
      intro c0 r hr0
      rcases Nat.lt_or_ge c0 b.length with h2 | h2
      · rw [hβ2 h2]; exact hr0
      · rw [hS.bound c0 h2] at hr0; cases hr0
    · have h1 := hB.blks j k1 hk1
      have hβ := (hback hj).1
      cases k1 with
      | var t cells =>
        obtain ⟨id, cs, h1, h2, h3, h4⟩ := h1
        obtain ⟨l1, r1⟩ := renL_rep hρ2 (cs := cells) (xs := cs.toList) (by simpa using h4.1) (fun i c v hc hv => h4.2.2 i c v hc (by simpa using hv))
        exact ⟨id, cs, hβ.trans h1, h2, h3, by simpa using l1, h4.2.1, fun i c v hc hv => r1 i c v hc (by simpa using hv)⟩
      | ints t k xs =>
        obtain ⟨id, h1, h2⟩ := h1
        exact ⟨id, hβ.trans h1, h2⟩
      | row e ks xs =>
        obtain ⟨A, n, c, h1, h2⟩ := h1
        exact ⟨A, n, c, hβ.trans h1, h2⟩
      | ro ks xs =>
        obtain ⟨A, c, h1, h2⟩ := h1
        exact ⟨A, c, hβ.trans h1, h2⟩
  · intro c d k k' id hc hd ho hu1 hu2
    rcases lk c k hc with ⟨hcl, hn, hk1⟩ | ⟨j, k1, hj, hk1, rfl⟩ <;> rcases lk d k' hd with ⟨hdl, hn', hk1'⟩ | ⟨j', k1', hj', hk1', rfl⟩
    · exact hS.disj c d k k' id hk1 hk1' ho (huse0 hcl hu1) (huse0 hdl hu2)
    · exact absurd (.inr ⟨c, k, hn, hk1, ho, huse0 hcl hu1⟩) (hB.frm.apart j' k1' id hk1' (husek1 hj' hu2)).1
    · exact absurd (.inr ⟨d, k', hn', hk1', huse0 hdl hu2⟩) ((hB.frm.apart j k1 id hk1 (husek1 hj hu1)).2 (by rw [← hown]; exact ho))
    · have := hB.disj j j' k1 k1' id hk1 hk1' (by rw [← hown]; exact ho) (husek1 hj hu1) (husek1 hj' hu2)
      subst this
      rw [hj] at hj'
      exact Option.some.inj hj'
  · intro c hc
    rw [hplen] at hc
    simp only [β2]
    rw [if_neg (by omega)]
    exact hB.bound _ (show b1.length ≤ _ by omega)
  · intro id hf
    have h1 := hB.frm.fr id (.inl hf)
    exact ⟨h1.1, h1.2.trans (hS.frm.fr id hf).2⟩
  · intro c k id hc hu
    rcases lk c k hc with ⟨hcl, hn, hk1⟩ | ⟨j, k1, hj, hk1, rfl⟩
    · exact hS.frm.apart c k id hk1 (huse0 hcl hu)
    · have h1 := hB.frm.apart j k1 id hk1 (husek1 hj hu)
      exact ⟨fun hf => h1.1 (.inl hf), fun ho hf => h1.2 (by rw [← hown]; exact ho) (.inl hf)⟩

theorem nilRows_sound {P : Program} {X : Ctx} {w : World} : ∀ (ts : List TypeId) (as : List IV) (b : List (Option Blk)) {β : Asg} {vs : List Value}, SatB X β b w → as.length = vs.length → (∀ (i : Nat) c v, as[i]? = some c → vs[i]? = some v → Rep β c v) →
    ∃ β', SatB X β' (nilRows P ts as b).2 w ∧ (nilRows P ts as b).1.length = vs.length ∧ (∀ (i : Nat) c v, (nilRows P ts as b).1[i]? = some c → vs[i]? = some v → Rep β' c v) ∧ (∀ c, c < b.length → β' c = β c) ∧ b.length ≤ (nilRows P ts as b).2.length
  | [], as, b, β, vs, hS, hl, hr => ⟨β, hS, hl, hr, fun _ _ => rfl, Nat.le_refl _⟩
  | t :: ts, [], b, β, vs, hS, hl, hr => ⟨β, hS, hl, hr, fun _ _ => rfl, Nat.le_refl _⟩
  | t :: ts, a :: as, b, β, [], hS, hl, hr => by simp at hl
  | t :: ts, a :: as, b, β, v0 :: vs, hS, hl, hr => by
    have hl' : as.length = vs.length := by simpa using hl
    have hr' : ∀ (i : Nat) c v, as[i]? = some c → vs[i]? = some v → Rep β c v := fun i c v hc hv => hr (i + 1) c v (by simpa using hc) (by simpa using hv)
    have h0 := hr 0 a v0 rfl rfl
    have plain : ∃ β', SatB X β' (nilRows P ts as b).2 w ∧ (a :: (nilRows P ts as b).1).length = (v0 :: vs).length ∧ (∀ (i : Nat) c v, (a :: (nilRows P ts as b).1)[i]? = some c → (v0 :: vs)[i]? = some v → Rep β' c v) ∧ (∀ c, c < b.length → β' c = β c) ∧ b.length ≤ (nilRows P ts as b).2.length := by
      obtain ⟨β', k1, k2, k3, k4, k5⟩ := nilRows_sound (P := P) ts as b hS hl' hr'
      refine ⟨β', k1, by simp [k2], ?_, k4, k5⟩
      intro i c v hc hv
      cases i with
      | zero => simp at hc hv; subst hc; subst hv; exact h0.mono (Sat.agree_mono hS k4)
      | succ i => exact k3 i c v (by simpa using hc) (by simpa using hv)
    cases a with
    | nils =>
      simp only [nilRows]
      split
      · rename_i e ks he hk
        obtain ⟨_, _, _, _, _, _, hpos, _⟩ := kinds_spec (by rw [he] at hk; simpa using hk : kinds P e = some ks)
        have hS2 : SatB X (ext β b.length (.slc (.slice none 0 0))) (b ++ [some (.row e ks [])]) w := Sat.addNilRow (st := ⟨[], b⟩) hS e ks hpos
        have hm := ext_mono (r := .slc (.slice none 0 0)) (hS.bound b.length (Nat.le_refl _))
        obtain ⟨β', k1, k2, k3, k4, k5⟩ := nilRows_sound (P := P) ts as (b ++ [some (.row e ks [])]) hS2 hl' (fun i c v hc hv => (hr' i c v hc hv).mono hm)
        simp only [List.length_append, List.length_cons, List.length_nil] at k4 k5
        refine ⟨β', k1, by simp [k2], ?_, fun c hc => (k4 c (by omega)).trans (ext_agree _ _ _ c hc), by simp only; omega⟩
        intro i c v hc hv
        cases i with
        | zero =>
          simp at hc hv
          subst hc; subst hv
          rw [h0.nils_inv]
          exact .sl (by rw [k4 b.length (by omega)]; exact ext_self _ _ _)
        | succ i => exact k3 i c v (by simpa using hc) (by simpa using hv)
      · exact plain
    | _ => simpa only [nilRows] using plain
theorem lifted_ok {P : Program} {g : FuncId} {F : FunS} (hF : FunOk P g F) : FunOk P g (lifted P g F) := by
  intro args b K hk X β w vs hS hlen hrep
  unfold lifted at hk
  split at hk
  · exact hF args b K hk X β w vs hS hlen hrep
  · simp only at hk
    obtain ⟨β', k1, k2, k3, k4, k5⟩ := nilRows_sound (P := P) (paramsOf P g) args b (vs := vs.toList) hS (by simpa using hlen) (fun i c v hc hv => hrep i c v hc (by simpa using hv))
    refine (hF _ _ _ hk X β' w vs k1 (by simpa using k2) (fun i c v hc hv => k3 i c v hc (by simpa using hv))).mono ?_
    rintro e w' ⟨v, u, β1, b1, rfl, hK, hr, hB, hag, hle⟩
    exact ⟨v, u, β1, b1, rfl, hK, hr, hB, fun c hc => (hag c (by omega)).trans (k4 c hc), by omega⟩

theorem putBack_other {b b1 : List (Option Blk)} {order : List Nat} {i : Nat} (hi : i < b.length) (h : idxOf order i = none) : look (putBack b order b1) i = look b i := by
  unfold putBack
  rw [look_app, if_pos (by simpa using hi), look_eq]
  simp only [List.getElem?_map, List.getElem?_range hi, Option.map_some, Option.getD_some]
  rw [h]
theorem lifted_left {P : Program} {g : FuncId} {G : FunS} {args : List IV} {b : List (Option Blk)} {K R : IV → List (Option Blk) → Prop} (hnn : noNil args = true)
    (hR : ∀ v b', (∀ i, i < b.length → idxOf (reachOf b args) i = none → look b' i = look b i) → R v b') (hk : lifted P g (framed G) args b K) : lifted P g (framed G) args b fun v b' => K v b' ∧ R v b' := by
  unfold lifted at hk ⊢
  rw [if_pos hnn] at hk ⊢
  unfold framed at hk ⊢
  split at hk
  · rename_i hc
    rw [if_pos hc]
    have e : (fun (v : IV) (b1 : List (Option Blk)) => K (ren (backOf (reachOf b args) b.length) v) (putBack b (reachOf b args) b1) ∧ R (ren (backOf (reachOf b args) b.length) v) (putBack b (reachOf b args) b1)) = fun v b1 => K (ren (backOf (reachOf b args) b.length) v) (putBack b (reachOf b args) b1) := by
      funext v b1
      exact propext ⟨fun h => h.1, fun h => ⟨h, hR _ _ fun i hi hx => putBack_other hi hx⟩⟩
    rw [e]
    exact hk
  · exact hk.elim

/-- all that was told holds, of loops so far as functions are entered so deep -/
structure KnowOk (P : Program) (N : Know) (d : Nat) : Prop where
  mixed : P.follows .mixedOrders = true
  ctr : ∀ g sp, N.Γ g = some sp → Contract P g sp
  loops : ∀ d', d' < d → ∀ f i S n0, N.Λ f i = some S → LoopOk (envOf P N d') f n0 i (lp P f i) S
  funs : ∀ g G, N.Τ g = some G → FunOk P g G

theorem runFn_ok0 {P : Program} {N : Know} (hm : P.follows .mixedOrders = true) (hΓ : ∀ g sp, N.Γ g = some sp → Contract P g sp) (hT : ∀ g G, N.Τ g = some G → FunOk P g G) : ∀ d,
    (∀ d', d' < d → ∀ f i S n0, N.Λ f i = some S → LoopOk (envOf P N d') f n0 i (lp P f i) S) → ∀ g, FunOk P g (runFn P N d g) := by
  intro d
  induction d with
  | zero => intro _ g args b K hk; exact hk.elim
  | succ d ih0 =>
    intro hΛ
    have ih1 := ih0 fun d' hd => hΛ d' (by omega)
    have ih : EnvOk (envOf P N d) := by
      refine ⟨hm, hΓ, fun g args b K hk => ?_, fun g args b K R hf hnn hR hk => ?_⟩
      · simp only [envOf] at hk
        split at hk
        · rename_i G hG
          exact lifted_ok (framed_ok (hT g G hG)) args b K hk
        · exact ih1 g args b K hk
      · simp only [envOf] at hf hk ⊢
        split at hk
        · rename_i G hG
          exact lifted_left hnn hR hk
        · rename_i hG
          rw [hG] at hf
          cases hf
    intro g args b K hk X β w vs hB hlen hrep
    simp only [runFn, body] at hk
    split at hk
    · exact hk.elim
    · rename_i fn hfn
      split at hk
      · exact hk.elim
      · rename_i c hc
        refine calls_of_wp hfn hc (exec_sound (n0 := b.length) (X := X) ih c (resTmps fn) 0 ?_ (β := β) ?_ (Nat.le_refl _) hk ?_)
        · intro j p S hj hS
          have := hΛ d (by omega) g (0 + j) S b.length hS
          have e : lp P g (0 + j) = p := by simp [lp, hfn, hc, List.getD, hj]
          rw [e] at this
          exact this
        · refine SatB.to hB (by simp [hlen]) ?_ rfl
          intro i v hv
          rw [look_some] at hv
          by_cases hi : i < args.length
          · rw [List.getElem?_append_left (by simpa using hi)] at hv
            simp only [List.getElem?_map, Option.map_eq_some_iff, Option.some.injEq] at hv
            obtain ⟨x, hx, rfl⟩ := hv
            have hiv : i < vs.size := by omega
            exact ⟨vs[i], by rw [Array.getElem?_append_left hiv]; simp [hiv], hrep i x _ hx (by simp [hiv])⟩
          · rw [List.getElem?_append_right (by simpa using hi)] at hv
            rw [List.getElem?_replicate] at hv
            split at hv <;> simp at hv
        · intro o β' st' a' w' hk' hs hag hle
          cases o with
          | exit id => exact hk'.elim
          | normal =>
            simp only at hk'
            split at hk'
            · rename_i v hv
              obtain ⟨u, hu, hr⟩ := resultOf_sound hs hv
              exact ⟨hs.defers, u, hu, v, u, β', st'.b, rfl, hk', hr, hs.toB, hag, hle⟩
            · exact hk'.elim
          | ret =>
            simp only at hk'
            split at hk'
            · rename_i v hv
              obtain ⟨u, hu, hr⟩ := resultOf_sound hs hv
              exact ⟨hs.defers, u, hu, v, u, β', st'.b, rfl, hk', hr, hs.toB, hag, hle⟩
            · exact hk'.elim

/-- A function that writes what it is handed, from its body. -/
theorem funOk_of {N : Know} (d : Nat) (hN : KnowOk P N d) {f : FuncId} {G : FunS} (h : ∀ args b K, G args b K → runFn P N d f args b K) : FunOk P f G :=
  fun args b K hk => runFn_ok0 hN.mixed hN.ctr hN.funs d hN.loops f args b K (h args b K hk)

/-- So where what is of no more use is forgotten first. -/
theorem funOk_gc {N : Know} (d : Nat) (hN : KnowOk P N d) {f : FuncId} {G : FunS} (h : ∀ args b K, G args b K → runFn P N d f args b fun v b1 => gcV b.length v b1 K) : FunOk P f G := by
  intro args b K hk X β w vs hS hlen hrep
  refine (runFn_ok0 hN.mixed hN.ctr hN.funs d hN.loops f args b _ (h args b K hk) X β w vs hS hlen hrep).mono ?_
  rintro e w' ⟨v, u, β1, b1, rfl, hK, hr, hB, hag, hle⟩
  have hs : Sat X β1 { t := [some v], b := b1 } { tmps := #[u], defers := [] } w' := SatB.to (st := { t := [some v], b := b1 }) hB rfl (by
    intro i v' hv
    cases i with
    | zero => rw [look_zero] at hv; cases hv; exact ⟨u, rfl, hr⟩
    | succ i => rw [look_succ, look_nil] at hv; cases hv) rfl
  obtain ⟨β', h1, h2, h3⟩ := gc_sat hs (fun _ => true) hle
  unfold gcV at hK
  split at hK
  · rename_i v' hv'
    obtain ⟨u', hu', hr'⟩ := h1.tmps 0 v' hv'
    simp at hu'
    subst hu'
    exact ⟨v', u, β', _, rfl, hK, hr', h1.toB, fun c hc => (h2 c hc).trans (hag c hc), h3⟩
  · exact hK.elim

/-! ### the answer as a contract tells it -/
def asgR (β : Asg) (acc : List (Nat × Blk)) : Asg := fun j => match acc[j]? with
  | some (i, _) => β i
  | none => none
structure AccR (b : List (Option Blk)) (acc : List (Nat × Blk)) : Prop where
  at_ : ∀ p ∈ acc, look b p.1 = some p.2 ∧ p.2.isSlice = true
  apart : ∀ (j j' : Nat) p p', acc[j]? = some p → acc[j']? = some p' → p.1 = p'.1 → p.2.own = true → j = j'

theorem asgR_mono {acc acc' : List (Nat × Blk)} (h : acc <+: acc') : ∀ b r, asgR β acc b = some r → asgR β acc' b = some r := by
  obtain ⟨l, rfl⟩ := h
  intro b r hb
  unfold asgR at *
  cases hq : acc[b]? with
  | none => rw [hq] at hb; cases hb
  | some p =>
    have hlt := (List.getElem?_eq_some_iff.1 hq).1
    rw [List.getElem?_append_left hlt, hq]
    rw [hq] at hb
    exact hb

theorem AccR.add {b : List (Option Blk)} {acc : List (Nat × Blk)} (h : AccR b acc) {i : Nat} {k : Blk} (hk : look b i = some k) (hs : k.isSlice = true) (hn : k.own = true → ∀ p ∈ acc, p.1 ≠ i) : AccR b (acc ++ [(i, k)]) := by
  constructor
  · intro p hp
    rcases List.mem_append.1 hp with hp | hp
    · exact h.at_ p hp
    · simp at hp; subst hp; exact ⟨hk, hs⟩
  · intro j j' p p' hj hj' he ho
    rw [List.getElem?_append] at hj hj'
    split at hj <;> split at hj'
    · exact h.apart j j' p p' hj hj' he ho
    · rename_i h1 h2
      have hlt := (List.getElem?_eq_some_iff.1 hj').1
      have e0 : j' - acc.length = 0 := by simp at hlt; omega
      rw [e0] at hj'
      simp at hj'
      subst hj'
      have hm := List.mem_of_getElem? hj
      have := (h.at_ p hm).1
      simp only at he
      rw [he, hk] at this
      cases this
      exact absurd he (hn ho p hm)
    · rename_i h1 h2
      have hlt := (List.getElem?_eq_some_iff.1 hj).1
      have e0 : j - acc.length = 0 := by simp at hlt; omega
      rw [e0] at hj
      simp at hj
      subst hj
      exact absurd he.symm (hn ho p' (List.mem_of_getElem? hj'))
    · have hlt := (List.getElem?_eq_some_iff.1 hj).1
      have hlt' := (List.getElem?_eq_some_iff.1 hj').1
      simp at hlt hlt'
      omega

theorem resC_sound {b : List (Option Blk)} {c c' : IV} {acc acc' : List (Nat × Blk)} {u : Value} (hr : Rep β c u) (h : resC b c acc = some (c', acc')) (ho : AccR b acc) :
    acc <+: acc' ∧ Rep (asgR β acc') c' u ∧ AccR b acc' := by
  have hslice : ∀ {i : Nat} {k : Blk}, Rep β (.sl i) u → Rep (asgR β (acc ++ [(i, k)])) (.sl acc.length) u := by
    intro i k hr
    obtain ⟨A, n, cp, rfl, hβ⟩ := hr.sl_inv
    refine .sl ?_
    simp [asgR, hβ]
  unfold resC at h
  split at h
  · cases h; exact ⟨List.prefix_refl _, by rw [hr.int_inv.1]; exact .int hr.int_inv.2, ho⟩
  · cases h; exact ⟨List.prefix_refl _, by rw [hr.bool_inv]; exact .bool, ho⟩
  · rename_i i
    split at h
    · rename_i e ks xs hk
      split at h
      · cases h
      · rename_i hn
        cases h
        refine ⟨⟨_, rfl⟩, hslice hr, ho.add hk rfl (fun _ p hp => ?_)⟩
        intro he
        apply hn
        rw [List.any_eq_true]
        exact ⟨p, hp, by simp [he]⟩
    · rename_i ks xs hk
      cases h
      exact ⟨⟨_, rfl⟩, hslice hr, ho.add hk rfl (fun h0 => by cases h0)⟩
    · cases h
  · cases h

theorem resL_sound {b : List (Option Blk)} : ∀ {cs cs' : List IV} {acc acc' : List (Nat × Blk)} {us : List Value}, cs.length = us.length → (∀ (i : Nat) c v, cs[i]? = some c → us[i]? = some v → Rep β c v) →
    resL b cs acc = some (cs', acc') → AccR b acc →
    acc <+: acc' ∧ cs'.length = us.length ∧ (∀ (i : Nat) c v, cs'[i]? = some c → us[i]? = some v → Rep (asgR β acc') c v) ∧ AccR b acc' := by
  intro cs
  induction cs with
  | nil =>
    intro cs' acc acc' us hl hr h ho
    simp [resL] at h; obtain ⟨rfl, rfl⟩ := h; exact ⟨List.prefix_refl _, hl, by simp, ho⟩
  | cons c cs ih =>
    intro cs' acc acc' us hl hr h ho
    cases us with
    | nil => simp at hl
    | cons u us =>
      simp only [resL] at h
      split at h
      · rename_i c1 acc1 h1
        split at h
        · rename_i cs1 acc2 h2
          cases h
          obtain ⟨p1, r1, o1⟩ := resC_sound (hr 0 c u rfl rfl) h1 ho
          obtain ⟨p2, l2, r2, o2⟩ := ih (by simpa using hl) (fun i c v hc hv => hr (i + 1) c v (by simpa using hc) (by simpa using hv)) h2 o1
          refine ⟨p1.trans p2, by simp [l2], ?_, o2⟩
          intro i c' v hc hv
          cases i with
          | zero => simp at hc hv; subst hc; subst hv; exact r1.mono (asgR_mono p2)
          | succ i => simp at hc hv; exact r2 i c' v hc hv
        · cases h
      · cases h

theorem resV_sound {b : List (Option Blk)} {c c' : IV} {acc acc' : List (Nat × Blk)} {u : Value} (hr : Rep β c u) (h : resV b c acc = some (c', acc')) (ho : AccR b acc) :
    acc <+: acc' ∧ Rep (asgR β acc') c' u ∧ AccR b acc' := by
  unfold resV at h
  split at h
  · rename_i cs
    split at h
    · rename_i cs1 acc1 h1
      cases h
      obtain ⟨xs, rfl, hx⟩ := hr.agg_inv
      obtain ⟨p1, l1, r1, o1⟩ := resL_sound (us := xs.toList) (by simpa using hx.1) (fun i c v hc hv => hx.2.2 i c v hc (by simpa using hv)) h1 ho
      exact ⟨p1, .agg (by simpa using l1) hx.2.1 (fun i c v hc hv => r1 i c v hc (by simpa using hv)), o1⟩
    · cases h
  · exact resC_sound hr h ho

theorem resVs_sound {b : List (Option Blk)} : ∀ {cs cs' : List IV} {acc acc' : List (Nat × Blk)} {us : List Value}, cs.length = us.length → (∀ (i : Nat) c v, cs[i]? = some c → us[i]? = some v → Rep β c v) →
    resVs b cs acc = some (cs', acc') → AccR b acc →
    acc <+: acc' ∧ cs'.length = us.length ∧ (∀ (i : Nat) c v, cs'[i]? = some c → us[i]? = some v → Rep (asgR β acc') c v) ∧ AccR b acc' := by
  intro cs
  induction cs with
  | nil =>
    intro cs' acc acc' us hl hr h ho
    simp [resVs] at h; obtain ⟨rfl, rfl⟩ := h; exact ⟨List.prefix_refl _, hl, by simp, ho⟩
  | cons c cs ih =>
    intro cs' acc acc' us hl hr h ho
    cases us with
    | nil => simp at hl
    | cons u us =>
      simp only [resVs] at h
      split at h
      · rename_i c1 acc1 h1
        split at h
        · rename_i cs1 acc2 h2
          cases h
          obtain ⟨p1, r1, o1⟩ := resV_sound (hr 0 c u rfl rfl) h1 ho
          obtain ⟨p2, l2, r2, o2⟩ := ih (by simpa using hl) (fun i c v hc hv => hr (i + 1) c v (by simpa using hc) (by simpa using hv)) h2 o1
          refine ⟨p1.trans p2, by simp [l2], ?_, o2⟩
          intro i c' v hc hv
          cases i with
          | zero => simp at hc hv; subst hc; subst hv; exact r1.mono (asgR_mono p2)
          | succ i => simp at hc hv; exact r2 i c' v hc hv
        · cases h
      · cases h

theorem SatB.res {b : List (Option Blk)} {acc : List (Nat × Blk)} (h : SatB X β b w) (ho : AccR b acc) : SatB X (asgR β acc) ((acc.map (·.2)).map some) w := by
  have lk : ∀ {j k}, look ((acc.map (·.2)).map some) j = some k → ∃ i, acc[j]? = some (i, k) := by
    intro j k hj
    rw [look_some] at hj
    simp only [List.getElem?_map, Option.map_eq_some_iff, List.map_map] at hj
    obtain ⟨⟨i, x⟩, hx, hxk⟩ := hj
    simp at hxk
    subst hxk
    exact ⟨i, hx⟩
  refine ⟨rfl, fun i v hv => by simp [look_nil, look_zero, look_succ] at hv, ?_, ?_, ?_, h.below, h.frm.sub (fun c k id hc hu => ?_), rfl⟩
  · intro j k hj
    obtain ⟨i, hi⟩ := lk hj
    obtain ⟨h1, h2⟩ := ho.at_ _ (List.mem_of_getElem? hi)
    have hb := h.blks i k h1
    have hβ : asgR β acc j = β i := by simp [asgR, hi]
    cases k with
    | row e ks xs =>
      obtain ⟨A, n, c, k1, k2⟩ := hb
      exact ⟨A, n, c, hβ.trans k1, k2⟩
    | ro ks xs =>
      obtain ⟨A, c, k1, k2⟩ := hb
      exact ⟨A, c, hβ.trans k1, k2⟩
    | _ => simp [Blk.isSlice] at h2
  · intro j j' k k' id hj hj' hown hu hu'
    obtain ⟨i, hi⟩ := lk hj
    obtain ⟨i', hi'⟩ := lk hj'
    obtain ⟨h1, _⟩ := ho.at_ _ (List.mem_of_getElem? hi)
    obtain ⟨h1', _⟩ := ho.at_ _ (List.mem_of_getElem? hi')
    have e := h.disj i i' k k' id h1 h1' hown ⟨hu.1.congr (by simp [asgR, hi]), hu.2⟩ ⟨hu'.1.congr (by simp [asgR, hi']), hu'.2⟩
    exact ho.apart j j' _ _ hi hi' e hown
  · intro j hj
    simp only [List.length_map] at hj
    simp [asgR, hj]
  · obtain ⟨i, hi⟩ := lk hc
    exact ⟨i, k, (ho.at_ _ (List.mem_of_getElem? hi)).1, ⟨hu.1.congr (by simp [asgR, hi]), hu.2⟩, fun h => h⟩

theorem resOf_sound {b : List (Option Blk)} {v v' : IV} {bs : List Blk} {u : Value} (h : SatB X β b w) (hr : Rep β v u) (hv : resOf b v = some (v', bs)) :
    ∃ β', Rep β' v' u ∧ SatB X β' (bs.map some) w ∧ bs.all Blk.isSlice = true := by
  have h0 : AccR b [] := ⟨by simp, by simp⟩
  have hfin : ∀ {acc : List (Nat × Blk)}, AccR b acc → (acc.map (·.2)).all Blk.isSlice = true := by
    intro acc ho
    rw [List.all_eq_true]
    intro k hk
    obtain ⟨p, hp, rfl⟩ := List.mem_map.1 hk
    exact (ho.at_ p hp).2
  unfold resOf at hv
  split at hv
  · rename_i vs
    simp only [Option.map_eq_some_iff, Prod.mk.injEq] at hv
    obtain ⟨⟨vs', acc⟩, hvs, rfl, rfl⟩ := hv
    obtain ⟨xs, rfl, hl, hx⟩ := hr.tup_inv
    obtain ⟨_, l1, r1, o1⟩ := resVs_sound (us := xs.toList) (by simpa using hl) (fun i c v hc hv => hx i c v hc (by simpa using hv)) hvs h0
    exact ⟨asgR β acc, .tup (by simpa using l1) (fun i c v hc hv => r1 i c v hc (by simpa using hv)), h.res o1, hfin o1⟩
  · simp only [Option.map_eq_some_iff, Prod.mk.injEq] at hv
    obtain ⟨⟨v1, acc⟩, hvs, rfl, rfl⟩ := hv
    obtain ⟨_, r1, o1⟩ := resV_sound hr hvs h0
    exact ⟨asgR β acc, r1, h.res o1, hfin o1⟩

/-! ### what is known of arguments -/
mutual
def okV : IV → Prop
  | .int k n => inK k n
  | .agg cs => okVs cs
  | .fn _ cs => okVs cs
  | .tup vs => okVs vs
  | _ => True
def okVs : List IV → Prop
  | [] => True
  | c :: cs => okV c ∧ okVs cs
end
theorem okVs_iff : ∀ {l : List IV}, okVs l ↔ ∀ v ∈ l, okV v := by
  intro l
  induction l with
  | nil => simp [okVs]
  | cons c cs ih => simp [okVs, ih]
theorem okVs_of {l : List IV} {xs : Array Value} (hl : l.length = xs.size) (h : ∀ (i : Nat) c v, l[i]? = some c → xs[i]? = some v → okV c) : okVs l := by
  rw [okVs_iff]
  intro v hv
  obtain ⟨i, hi⟩ := List.getElem?_of_mem hv
  have hlt := (List.getElem?_eq_some_iff.1 hi).1
  exact h i v xs[i] hi (by simp)
theorem Rep.ok {v : IV} {u : Value} (h : Rep β v u) : okV v := by
  induction h with
  | int h => simpa [okV] using h
  | agg hl h1 h ih => simp only [okV]; exact okVs_of hl ih
  | fn hl h ih => simp only [okV]; exact okVs_of hl ih
  | tup hl h ih => simp only [okV]; exact okVs_of hl ih
  | _ => simp [okV]
/-- a slice that is only read -/
def okB : Blk → Prop
  | .ro ks xs => okRows ks xs ∧ 0 < ks.length ∧ xs.length ≤ maxLen
  | _ => False

theorem contract_of {N : Know} (d : Nat) (hN : KnowOk P N d) {f : FuncId} {sp : Spec}
    (h : ∀ as bs, okVs as → (∀ k ∈ bs, okB k) → sp.pre as bs → comes P N d f as bs fun v bs' => sp.F as bs = (v, bs')) : Contract P f sp := by
  intro as bs X β w vs hX hB hS hro hlen hrep hpre
  have hok : okVs as := okVs_of hlen (fun i c v hc hv => (hrep i c v hc hv).ok)
  have hbs : ∀ k ∈ bs, okB k := by
    intro k hk
    obtain ⟨j, hj⟩ := List.getElem?_of_mem hk
    have hb := hS.blks j k (by rw [look_some]; simp [hj])
    have := hro k hk
    cases k with
    | ro ks xs =>
      obtain ⟨A, c, h1, h2, h3, h4, _⟩ := hb
      exact ⟨h3, h4, Nat.le_trans h2.1 h2.2.1⟩
    | _ => cases this
  have hc := runFn_ok0 hN.mixed hN.ctr hN.funs d hN.loops f as (bs.map some) _ (h as bs hok hbs hpre) X β w vs hS hlen hrep
  refine hc.mono fun e w' he => ?_
  obtain ⟨v, u, β1, b', rfl, hk, hr, hB', hag, hle⟩ := he
  split at hk
  · rename_i v' bs' hres
    obtain ⟨β', h1, h2, h3⟩ := resOf_sound hB' hr hres
    rw [hk]
    exact ⟨u, β', rfl, by have := hB'.below; rw [hX, hB] at this; exact Keeps.of_below this, h1, h2, h3⟩
  · exact hk.elim

end
end Go.Vs

/- Vs, part R: a law's arguments opened, its row's frame. -/
set_option linter.unusedVariables false
set_option linter.unusedSimpArgs false
namespace Go.Vs
open Go.RowKit Go.ChangeShapes Go.WideShapes Go.ChangeAt

section
variable {H : Type} {enc : TypeId × Value → H} {P : Program} {w : World} {base : Nat} {spare : Nat → Bool} {held : Bool}

theorem fields_flat {n fuel : Nat} (ih : ∀ t ks cs x, ckinds P n t = some ks → DataW.trod enc P w base spare held fuel t cs = some x → ∃ xs, IntsL ks cs xs) {cs : List Value} :
    ∀ (fs : List Field) (off : Nat) l ys kk, fs.mapM (fun (f : Field) => (ckinds P n f.type).map fun ks => (f.offset, P.cellsOf f.type, ks)) = some l → fieldsC cs.length off l = some kk →
      fs.mapM (fun (f : Field) => DataW.trod enc P w base spare held fuel f.type ((cs.drop f.offset).take (P.cellsOf f.type))) = some ys → ∃ xs, IntsL kk (cs.drop off) xs := by
  intro fs
  induction fs with
  | nil =>
    intro off l ys kk hl hk hy
    simp at hl
    subst hl
    simp only [fieldsC] at hk
    split at hk
    · cases hk
      rename_i e
      subst e
      exact ⟨[], by simpa using IntsL.nil⟩
    · cases hk
  | cons f fs ihf =>
    intro off l ys kk hl hk hy
    simp only [List.mapM_cons, Option.pure_def, Option.bind_eq_bind, Option.bind_eq_some_iff, Option.map_eq_some_iff, Option.some.injEq] at hl hy
    obtain ⟨_, ⟨ks, hks, rfl⟩, l', hl', rfl⟩ := hl
    obtain ⟨y, hy1, ys', hy2, rfl⟩ := hy
    simp only [fieldsC] at hk
    split at hk
    · rename_i hc
      obtain ⟨ho, hn⟩ := hc
      simp only [Option.map_eq_some_iff] at hk
      obtain ⟨kk', hk', rfl⟩ := hk
      obtain ⟨x1, h1⟩ := ih _ _ _ _ hks hy1
      obtain ⟨x2, h2⟩ := ihf _ _ _ _ hl' hk' hy2
      refine ⟨x1 ++ x2, ?_⟩
      have := h1.append h2
      rw [ho, ← List.drop_drop, List.take_append_drop] at this
      exact this
    · cases hk

theorem items_flat {n fuel : Nat} {e : TypeId} {ks : List IntKind} (hn : ks.length = P.cellsOf e) (ih : ∀ cs x, DataW.trod enc P w base spare held fuel e cs = some x → ∃ xs, IntsL ks cs xs) :
    ∀ (m : Nat) {cs : List Value} {ys}, cs.length = m * ks.length → (List.range m).mapM (fun i => DataW.trod enc P w base spare held fuel e ((cs.drop (i * P.cellsOf e)).take (P.cellsOf e))) = some ys →
      ∃ xs, IntsL (List.replicate m ks).flatten cs xs := by
  intro m
  induction m with
  | zero =>
    intro cs ys hl _
    have : cs = [] := List.eq_nil_of_length_eq_zero (by simpa using hl)
    subst this
    exact ⟨[], .nil⟩
  | succ m ihm =>
    intro cs ys hl hy
    obtain ⟨hyl, hy'⟩ := mapM_some hy
    have hpre : (List.range m).mapM (fun i => DataW.trod enc P w base spare held fuel e (((cs.take (m * ks.length)).drop (i * P.cellsOf e)).take (P.cellsOf e))) = some (ys.take m) := by
      rw [List.range_succ, List.mapM_append] at hy
      simp only [Option.bind_eq_bind, Option.bind_eq_some_iff, Option.pure_def, Option.some.injEq] at hy
      obtain ⟨y1, h1, y2, h2, rfl⟩ := hy
      have hl1 : y1.length = m := by have := (mapM_some h1).1; simpa using this.symm
      rw [List.take_left' hl1, ← h1]
      refine mapM_congr' ?_
      intro i hi
      have hi' : i < m := by simpa using hi
      congr 1
      rw [List.drop_take, List.take_take, ← hn]
      congr 1
      have : (i + 1) * ks.length ≤ m * ks.length := Nat.mul_le_mul_right _ hi'
      rw [Nat.add_mul] at this
      omega
    obtain ⟨x1, h1⟩ := ihm (cs := cs.take (m * ks.length)) (by rw [List.length_take, hl]; rw [Nat.add_mul]; omega) hpre
    have hlast := hy' m m ys[m]! (by simp) (by
      have : m < ys.length := by simp at hyl; omega
      simp [this])
    obtain ⟨x2, h2⟩ := ih _ _ hlast
    refine ⟨x1 ++ x2, ?_⟩
    rw [List.replicate_succ', List.flatten_append]
    have h3 := h1.append h2
    rw [← hn] at h3
    have e1 : (cs.drop (m * ks.length)).take ks.length = cs.drop (m * ks.length) := by
      apply List.take_of_length_le
      rw [List.length_drop, hl, Nat.add_mul]
      omega
    rw [e1, List.take_append_drop] at h3
    simpa using h3

theorem trod_flat : ∀ (n : Nat) {t : TypeId} {ks : List IntKind} {fuel : Nat} {cs : List Value} {x : DataW H × List MemPlace}, ckinds P n t = some ks → DataW.trod enc P w base spare held fuel t cs = some x → ∃ xs, IntsL ks cs xs := by
  intro n
  induction n with
  | zero => intro t ks fuel cs x h; simp [ckinds] at h
  | succ n ih =>
    intro t ks fuel cs x h hx
    cases fuel with
    | zero => simp [DataW.trod] at hx
    | succ fuel =>
      simp only [ckinds] at h
      split at h
      · rename_i k hu
        cases h
        obtain ⟨n, rfl, _, hwf⟩ := DataW.trod_int hu hx
        refine ⟨[_], .cons ?_ .nil⟩
        simpa [Lit.wf, inK] using hwf
      · rename_i fs hu
        split at h
        rotate_left
        · cases h
        simp only [Option.bind_eq_some_iff] at h
        obtain ⟨l, hl, hk⟩ := h
        unfold DataW.trod at hx
        rw [hu] at hx
        simp only at hx
        split at hx
        · rename_i hlen
          simp only [Option.map_eq_some_iff] at hx
          obtain ⟨ys, hys, rfl⟩ := hx
          rw [← hlen] at hk
          obtain ⟨xs, h1⟩ := fields_flat (enc := enc) (w := w) (base := base) (spare := spare) (held := held) (cs := cs) (fun t ks cs x h hx => ih h hx) fs.toList 0 l ys ks hl hk hys
          exact ⟨xs, by simpa using h1⟩
        · cases hx
      · rename_i m e hu
        simp only [Option.bind_eq_some_iff] at h
        obtain ⟨ks', hk', h⟩ := h
        split at h
        rotate_left
        · cases h
        rename_i hc
        cases h
        unfold DataW.trod at hx
        rw [hu] at hx
        simp only at hx
        split at hx
        · rename_i hlen
          simp only [Option.map_eq_some_iff] at hx
          obtain ⟨ys, hys, rfl⟩ := hx
          exact items_flat (enc := enc) (w := w) (base := base) (spare := spare) (held := held) (n := ks'.length) hc.1 (fun cs x hx => ih hk' hx) m (by rw [hlen, hc.2, hc.1]) hys
        · cases hx
      · cases h

/-! ### arguments, one behind the other -/
def Opened (W : World) (as : List IV) (bs : List Blk) (vs : List Value) : Prop :=
  ∃ β, SatB { w0 := W, B := W.heap.size, A0 := fun _ => True } β (bs.map some) W ∧ (∀ k ∈ bs, k.own = false) ∧ as.length = vs.length ∧ ∀ (i : Nat) c v, as[i]? = some c → vs[i]? = some v → Rep β c v

theorem Opened.nil {W : World} : Opened W [] [] [] := by
  refine ⟨fun _ => none, ⟨rfl, fun i v hv => by simp [look_nil, look_zero, look_succ] at hv, fun b k hb => by simp [look_nil, look_zero, look_succ] at hb, fun b c k k' id hb => by simp [look_nil, look_zero, look_succ] at hb, fun _ _ => rfl, Below.refl _ _, ⟨Nat.le_refl _, fun _ h => h.elim, fun _ h => h.elim, fun _ _ _ _ _ => ⟨fun h => h, fun _ h => h⟩⟩, rfl⟩, by simp, rfl, by simp⟩

theorem Opened.push {W : World} {as bs vs} (h : Opened W as bs vs) {c : IV} {v : Value} (hr : ∀ β, Rep β c v) : Opened W (as ++ [c]) bs (vs ++ [v]) := by
  obtain ⟨β, hS, ho, hl, hrep⟩ := h
  refine ⟨β, hS, ho, by simp [hl], ?_⟩
  intro i c' v' hc hv
  rw [List.getElem?_append] at hc hv
  rw [hl] at hc
  split at hc
  · rename_i hi
    rw [if_pos hi] at hv
    exact hrep i c' v' hc hv
  · rename_i hi
    rw [if_neg hi] at hv
    have : i - vs.length = 0 := by have := (List.getElem?_eq_some_iff.1 hc).1; simp at this; omega
    rw [this] at hc hv
    simp at hc hv
    subst hc; subst hv
    exact hr β

/-- a whole number -/
theorem Opened.int {W : World} {as bs vs} (h : Opened W as bs vs) {t : TypeId} {k : IntKind} {v : Value} {d : DataW H} {p : List MemPlace} {r : Reach} {b0 : Nat} (ht : P.underlying t = some (.int k)) (hval : Value.okWide P w r b0 t v)
    (hd : DataW.Trod enc P w base spare held t v d p) : ∃ n, inK k n ∧ Opened W (as ++ [.int k n]) bs (vs ++ [v]) := by
  obtain ⟨n, rfl, _, _, hw⟩ := open_int ht hval hd
  have : inK k n := by simpa [Lit.wf, inK] using hw
  exact ⟨n, this, h.push fun β => .int this⟩

/-- a struct of whole numbers -/
theorem Opened.struct {W : World} {as bs vs} (h : Opened W as bs vs) {t : TypeId} {fs : Array Field} {ks : List IntKind} {v : Value} {d : DataW H} {p : List MemPlace} {r : Reach} {b0 : Nat} (ht : P.underlying t = some (.struct fs)) (hk : ckinds P 8 t = some ks) (hval : Value.okWide P w r b0 t v)
    (hd : DataW.Trod enc P w base spare held t v d p) : ∃ xs, xs.length = ks.length ∧ (∀ j, j < ks.length → inK (ks.getD j .i64) (xs.getD j 0)) ∧ Opened W (as ++ [.agg (rowCells ks [xs] 0 0 ks.length)]) bs (vs ++ [v]) := by
  obtain ⟨cs, rfl, hsz⟩ := okWide_struct ht hval
  obtain ⟨fuel, hf⟩ := hd
  obtain ⟨xs, hx⟩ := trod_flat (enc := enc) 8 hk hf
  have hx' : IntsL ks cs.toList xs := hx
  refine ⟨xs, hx'.len.2, fun j hj => (hx'.at j hj).2, h.push fun β => .agg ?_ ?_ ?_⟩
  · have := hx'.len.1; simp [rowCells]; simpa using this.symm
  · intro i v hv
    have hi : i < ks.length := by have := (Array.getElem?_eq_some_iff.1 hv).1; have h2 := hx'.len.1; simp at h2; omega
    have h3 := (hx'.at i hi).1
    rw [Array.getElem?_toList, hv] at h3
    cases h3
    rfl
  · intro i c v hc hv
    have hi : i < ks.length := by have := (Array.getElem?_eq_some_iff.1 hv).1; have h2 := hx'.len.1; simp at h2; omega
    have h3 := (hx'.at i hi).1
    rw [Array.getElem?_toList, hv] at h3
    cases h3
    simp [rowCells, hi] at hc
    subst hc
    have h5 := Rep.int (β := β) (hx'.at i hi).2
    simpa [rd, List.getD, List.getElem?_eq_getElem hi] using h5

/-- a slice whose elements are whole numbers, or structs of such -/
theorem Opened.slice {W : World} {as bs vs} (h : Opened W as bs vs) {t e : TypeId} {ks : List IntKind} {v : Value} {d : DataW H} {p : List MemPlace} {r : Reach} {b0 : Nat} (ht : P.underlying t = some (.slice e)) (hk : ckinds P 8 e = some ks) (hpos : 0 < ks.length) (hc : P.cellsOf e = ks.length) (hval : Value.okWide P W r b0 t v)
    (hd : DataW.Trod enc P W base spare held t v d p) : ∃ xs, (∀ x ∈ xs, x.length = ks.length) ∧ okRows ks xs ∧ xs.length ≤ maxLen ∧ Opened W (as ++ [.sl bs.length]) (bs ++ [.ro ks xs]) (vs ++ [v]) := by
  obtain ⟨A, len, cap, rfl⟩ := okWide_slice ht hval
  obtain ⟨fuel, hf⟩ := hd
  obtain ⟨β, hS, ho, hl, hrep⟩ := h
  suffices hsuff : ∃ xs, (∀ x ∈ xs, x.length = ks.length) ∧ okRows ks xs ∧ xs.length = len ∧ Reads W ks A cap xs by
    obtain ⟨xs, h1, h2, h3, h4⟩ := hsuff
    refine ⟨xs, h1, h2, Nat.le_trans h4.1 h4.2.1, ext β bs.length (.slc (.slice A len cap)), ?_, ?_, by simp [hl], ?_⟩
    · have hn : β bs.length = none := hS.bound _ (by simp)
      have hm := ext_mono (r := .slc (.slice A len cap)) hn
      have lk : ∀ b k, look ((bs ++ [Blk.ro ks xs]).map some) b = some k → (b < bs.length ∧ look (bs.map some) b = some k) ∨ (b = bs.length ∧ k = .ro ks xs) := by
        intro b k hb
        rw [List.map_append, look_app] at hb
        split at hb
        · rename_i hlt; exact .inl ⟨by simpa using hlt, hb⟩
        · rename_i hge
          simp only [List.length_map] at hb hge
          have hz : b - bs.length = 0 := by
            have := look_lt hb
            simp at this
            omega
          rw [hz] at hb
          simp [look_nil, look_zero, look_succ] at hb
          exact .inr ⟨by omega, hb.symm⟩
      have hown : ∀ b k, look ((bs ++ [Blk.ro ks xs]).map some) b = some k → k.own = false := by
        intro b k hb
        rcases lk b k hb with ⟨_, h5⟩ | ⟨_, rfl⟩
        · refine ho k ?_
          rw [look_some] at h5
          simp only [List.getElem?_map, Option.map_eq_some_iff] at h5
          obtain ⟨x, hx, hxk⟩ := h5
          cases hxk
          exact List.mem_of_getElem? hx
        · rfl
      refine ⟨rfl, fun i v hv => by simp [look_nil, look_zero, look_succ] at hv, ?_, ?_, ?_, hS.below, ⟨hS.le, fun _ h => h.elim, fun _ h => h.elim, fun _ _ _ _ _ => ⟨fun h => h, fun _ h => h⟩⟩, rfl⟩
      · intro b k hb
        rcases lk b k hb with ⟨_, h5⟩ | ⟨rfl, rfl⟩
        · exact (hS.blks b k h5).mono hm
        · exact ⟨A, cap, by simp [ext, h3], h4, h2, hpos, fun _ _ _ => .inl trivial⟩
      · intro b c k k' id hb hc' hown'
        rw [hown b k hb] at hown'
        cases hown'
      · intro b hb
        simp at hb
        unfold ext
        rw [if_neg (by omega)]
        exact hS.bound _ (by simp; omega)
    · intro k hk'
      rcases List.mem_append.1 hk' with h5 | h5
      · exact ho k h5
      · simp at h5; subst h5; rfl
    · have hn : β bs.length = none := hS.bound _ (by simp)
      have hm := ext_mono (r := .slc (.slice A len cap)) hn
      intro i c' v' hc' hv
      rw [List.getElem?_append] at hc' hv
      rw [hl] at hc'
      split at hc'
      · rename_i hi
        rw [if_pos hi] at hv
        exact (hrep i c' v' hc' hv).mono hm
      · rename_i hi
        rw [if_neg hi] at hv
        have : i - vs.length = 0 := by have := (List.getElem?_eq_some_iff.1 hc').1; simp at this; omega
        rw [this] at hc' hv
        simp at hc' hv
        subst hc'; subst hv
        exact .sl (by simp [ext])
  rcases Go.Deep.open_slice (enc := enc) ht hf with ⟨hcs, _⟩ | ⟨a, len', cap', m, n, D, Pl, hcs, hb, hle, hcap, hm, _, hel⟩
  · simp [Value.cells] at hcs
    obtain ⟨rfl, rfl, rfl⟩ := hcs
    exact ⟨[], by simp, by intro x hx; simp at hx, rfl, Nat.le_refl _, by simp [maxLen], fun h0 => by simp at h0⟩
  · simp [Value.cells] at hcs
    obtain ⟨rfl, rfl, rfl⟩ := hcs
    have hlm : len ≤ m := by rw [hm]; split <;> omega
    have hx : ∀ i, ∃ xs, i < len → (∃ cs', W.cells? base (a.add (i * ks.length)) ks.length = some cs' ∧ IntsL ks cs' xs) := by
      intro i
      by_cases hi : i < len
      · obtain ⟨cs', h1, h2⟩ := hel i (by omega)
        obtain ⟨xs, h3⟩ := trod_flat (enc := enc) 8 hk h2
        rw [hc] at h1
        exact ⟨xs, fun _ => ⟨cs', h1, h3⟩⟩
      · exact ⟨[], fun h0 => absurd h0 hi⟩
    obtain ⟨X, hX⟩ := Classical.axiomOfChoice hx
    have hget : ∀ i, i < len → ((List.range len).map X)[i]? = some (X i) := by intro i hi; simp [hi]
    have hcell : ∀ i j, i < len → j < ks.length → W.cell? ((a.add (i * ks.length)).add j) = some (.int (ks.getD j .i64) ((X i).getD j 0)) ∧ inK (ks.getD j .i64) ((X i).getD j 0) := by
      intro i j hi hj
      obtain ⟨cs', h1, h2⟩ := hX i hi
      obtain ⟨h3, h4⟩ := h2.at j hj
      refine ⟨?_, h4⟩
      unfold World.cells? at h1
      split at h1
      · have h5 := (mapM_some h1).2 j j (.int (ks.getD j .i64) ((X i).getD j 0)) (by simp [hj]) h3
        exact h5
      · cases h1
    have hspot : 0 < len → a.spot = none := by
      intro h0
      have h1 := (hcell 0 0 h0 hpos).1
      have e : (a.add (0 * ks.length)).add 0 = a := by simp [Addr.add]
      rw [e] at h1
      unfold World.cell? at h1
      split at h1
      · cases hsp : a.spot with
        | none => rfl
        | some _ => simp [hsp] at h1
      · cases h1
    refine ⟨(List.range len).map X, ?_, ?_, by simp, by simpa using hle, hcap, ?_⟩
    · intro x hx'
      simp only [List.mem_map, List.mem_range] at hx'
      obtain ⟨i, hi, rfl⟩ := hx'
      obtain ⟨cs', _, h2⟩ := hX i hi
      exact h2.len.2
    · intro x hx' j hj
      simp only [List.mem_map, List.mem_range] at hx'
      obtain ⟨i, hi, rfl⟩ := hx'
      exact (hcell i j hi hj).2
    · intro h0
      have h0' : 0 < len := by simpa using h0
      obtain ⟨g, o, sp⟩ := a
      have hs := hspot h0'
      simp only at hs
      subst hs
      refine ⟨g, o, rfl, ?_⟩
      intro j u hu
      have hjlt : j < len * ks.length := by
        have := (List.getElem?_eq_some_iff.1 hu).1
        rw [flat_length] at this
        simpa using this
      have hdiv : j / ks.length < len := Nat.div_lt_of_lt_mul (by rw [Nat.mul_comm]; exact hjlt)
      have hmod : j % ks.length < ks.length := Nat.mod_lt _ hpos
      have hj : j = j / ks.length * ks.length + j % ks.length := by rw [Nat.mul_comm]; exact (Nat.div_add_mod j ks.length).symm
      have hfl := flat_get ks ((List.range len).map X) (j / ks.length) (j % ks.length) (by simpa using hdiv) hmod
      rw [← hj, hu] at hfl
      have h1 := (hcell (j / ks.length) (j % ks.length) hdiv hmod).1
      cases hfl
      have e : ((Addr.mk g o none).add (j / ks.length * ks.length)).add (j % ks.length) = ⟨g, o + j, none⟩ := by
        rw [Go.Deep.add_add, ← hj]
        unfold Addr.add
        split
        · rename_i h0; simp [h0]
        · rfl
      rw [e] at h1
      rw [h1]
      simp [rd, List.getD, hdiv]
theorem trodAll_five {t t' t'' t3 t4 : TypeId} {args : Array Value} {ds : List (DataW H)} {ps : List MemPlace} (h : DataW.TrodAll enc P w base spare held [t, t', t'', t3, t4] args.toList ds ps) :
    ∃ v v' v'' v3 v4 d d' d'' d3 d4 p p' p'' p3 p4, args = #[v, v', v'', v3, v4] ∧ ds = [d, d', d'', d3, d4] ∧ ps = p ++ p' ++ p'' ++ p3 ++ p4 ∧ DataW.Trod enc P w base spare held t v d p ∧ DataW.Trod enc P w base spare held t' v' d' p' ∧ DataW.Trod enc P w base spare held t'' v'' d'' p'' ∧ DataW.Trod enc P w base spare held t3 v3 d3 p3 ∧ DataW.Trod enc P w base spare held t4 v4 d4 p4 := by
  obtain ⟨v, vs, d, ds', p, q, hargs, rfl, rfl, hd, hrest⟩ := trodAll_cons h
  obtain ⟨v', vs', d', ds'', p', q', rfl, rfl, rfl, hd', hrest'⟩ := trodAll_cons hrest
  obtain ⟨v'', vs'', d'', ds''', p'', q'', rfl, rfl, rfl, hd'', hrest''⟩ := trodAll_cons hrest'
  obtain ⟨v3, vs3, d3, ds3, p3, q3, rfl, rfl, rfl, hd3, hrest3⟩ := trodAll_cons hrest''
  obtain ⟨v4, vs4, d4, ds4, p4, q4, rfl, rfl, rfl, hd4, hrest4⟩ := trodAll_cons hrest3
  obtain ⟨rfl, rfl, rfl⟩ := trodAll_nil hrest4
  exact ⟨v, v', v'', v3, v4, d, d', d'', d3, d4, p, p', p'', p3, p4, by cases args; simp_all, rfl, by simp, hd, hd', hd'', hd3, hd4⟩
theorem trodAll_mk5 {t t' t'' t3 t4 : TypeId} {v v' v'' v3 v4 : Value} {d d' d'' d3 d4 : DataW H} {p p' p'' p3 p4 : List MemPlace} (h : DataW.Trod enc P w base spare held t v d p) (h' : DataW.Trod enc P w base spare held t' v' d' p')
    (h'' : DataW.Trod enc P w base spare held t'' v'' d'' p'') (h3 : DataW.Trod enc P w base spare held t3 v3 d3 p3) (h4 : DataW.Trod enc P w base spare held t4 v4 d4 p4) : DataW.TrodAll enc P w base spare held [t, t', t'', t3, t4] [v, v', v'', v3, v4] [d, d', d'', d3, d4] (p ++ (p' ++ (p'' ++ (p3 ++ p4)))) := ⟨p, p' ++ (p'' ++ (p3 ++ p4)), h, trodAll_mk4 h' h'' h3 h4, rfl⟩
theorem trodAll_six {t t' t'' t3 t4 t5 : TypeId} {args : Array Value} {ds : List (DataW H)} {ps : List MemPlace} (h : DataW.TrodAll enc P w base spare held [t, t', t'', t3, t4, t5] args.toList ds ps) :
    ∃ v v' v'' v3 v4 v5 d d' d'' d3 d4 d5 p p' p'' p3 p4 p5, args = #[v, v', v'', v3, v4, v5] ∧ ds = [d, d', d'', d3, d4, d5] ∧ ps = p ++ p' ++ p'' ++ p3 ++ p4 ++ p5 ∧ DataW.Trod enc P w base spare held t v d p ∧ DataW.Trod enc P w base spare held t' v' d' p' ∧ DataW.Trod enc P w base spare held t'' v'' d'' p'' ∧ DataW.Trod enc P w base spare held t3 v3 d3 p3 ∧ DataW.Trod enc P w base spare held t4 v4 d4 p4 ∧ DataW.Trod enc P w base spare held t5 v5 d5 p5 := by
  obtain ⟨v, vs, d, ds1, p, q, hargs, rfl, rfl, hd, hrest⟩ := trodAll_cons h
  obtain ⟨v', vs', d', ds2, p', q', rfl, rfl, rfl, hd', hrest'⟩ := trodAll_cons hrest
  obtain ⟨v'', vs'', d'', dsx, p'', q'', rfl, rfl, rfl, hd'', hrest''⟩ := trodAll_cons hrest'
  obtain ⟨v3, vs3, d3, ds3, p3, q3, rfl, rfl, rfl, hd3, hrest3⟩ := trodAll_cons hrest''
  obtain ⟨v4, vs4, d4, ds4, p4, q4, rfl, rfl, rfl, hd4, hrest4⟩ := trodAll_cons hrest3
  obtain ⟨v5, vs5, d5, ds5, p5, q5, rfl, rfl, rfl, hd5, hrest5⟩ := trodAll_cons hrest4
  obtain ⟨rfl, rfl, rfl⟩ := trodAll_nil hrest5
  exact ⟨v, v', v'', v3, v4, v5, d, d', d'', d3, d4, d5, p, p', p'', p3, p4, p5, by cases args; simp_all, rfl, by simp, hd, hd', hd'', hd3, hd4, hd5⟩
theorem trodAll_mk6 {t t' t'' t3 t4 t5 : TypeId} {v v' v'' v3 v4 v5 : Value} {d d' d'' d3 d4 d5 : DataW H} {p p' p'' p3 p4 p5 : List MemPlace} (h : DataW.Trod enc P w base spare held t v d p) (h' : DataW.Trod enc P w base spare held t' v' d' p')
    (h'' : DataW.Trod enc P w base spare held t'' v'' d'' p'') (h3 : DataW.Trod enc P w base spare held t3 v3 d3 p3) (h4 : DataW.Trod enc P w base spare held t4 v4 d4 p4) (h5 : DataW.Trod enc P w base spare held t5 v5 d5 p5) : DataW.TrodAll enc P w base spare held [t, t', t'', t3, t4, t5] [v, v', v'', v3, v4, v5] [d, d', d'', d3, d4, d5] (p ++ (p' ++ (p'' ++ (p3 ++ (p4 ++ p5))))) := ⟨p, p' ++ (p'' ++ (p3 ++ (p4 ++ p5))), h, trodAll_mk5 h' h'' h3 h4 h5, rfl⟩
end

/-- A law's call, from its contract. -/
theorem law_calls {P : Program} {f : FuncId} {sp : Spec} (hC : Contract P f sp) {W : World} {as : List IV} {bs : List Blk} {vs : List Value} (ho : Opened W as bs vs) (hpre : sp.pre as bs) (hF : (sp.F as bs).1 = .bool true) :
    Calls P f vs.toArray W fun e w' => e = .returned (.bool true) ∧ Below W.heap.size W w' := by
  obtain ⟨β, hS, hown, hl, hrep⟩ := ho
  refine (hC as bs { w0 := W, B := W.heap.size, A0 := fun _ => True } β W vs.toArray rfl rfl hS hown (by simpa using hl) (fun i c v hc hv => hrep i c v hc (by simpa using hv)) hpre).mono ?_
  rintro e w' ⟨u, β', rfl, hk, hr, _, _⟩
  rw [hF] at hr
  exact ⟨by rw [hr.bool_inv], hk.below⟩

end Go.Vs
