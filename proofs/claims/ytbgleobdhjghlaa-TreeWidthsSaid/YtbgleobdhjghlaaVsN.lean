/- Vs, part N: one operation, whatever it is; a row of operations. -/
import Derived.Test.YtbgleobdhjghlaaVsM
set_option linter.unusedVariables false
set_option linter.unusedSimpArgs false
namespace Go.Vs
open Go.RowKit

structure EnvOk (E : Env) : Prop where
  mixed : E.P.follows .mixedOrders = true
  ctr : ∀ g sp, E.Γ g = some sp → Contract E.P g sp
  inl : ∀ g args b K, E.inl g args b K → ∀ X β w (vs : Array Value), SatB X β b w → args.length = vs.size → (∀ (i : Nat) c v, args[i]? = some c → vs[i]? = some v → Rep β c v) →
    Calls E.P g vs w fun e w' => ∃ v u β' b', e = .returned u ∧ K v b' ∧ Rep β' v u ∧ SatB X β' b' w' ∧ (∀ c, c < b.length → β' c = β c) ∧ b.length ≤ b'.length

section
variable {E : Env} {X : Ctx} {β : Asg} {st : St} {a : Act} {w : World} {Q : Exit → Act → World → Prop} {K : St → Prop} {Kw : Act → World → Prop} {o : Oper} {wr : Bool}

theorem call_inl {g : FuncId} (h : Sat X β st a w) (hE : EnvOk E) (hen : enters E.P g = true) {f : Operand} {args : Array Operand} {tys : Array TypeId} (hop : o.op = .call { callee := .value f, args := args, argTypes := tys })
    {caps : List IV} (hf : ev st f = some (.fn g caps)) {vs : List IV} (hvs : evs st args.toList = some vs)
    (hk : E.inl g (vs ++ caps) st.b fun v b => K (St.setT { t := st.t, b } o.dst v)) (hA : After X β st w o wr K Kw) (hwr : wr = true) : o.wp E.P a w Kw Q := by
  obtain ⟨cs, ef, hcl, hcr⟩ := (ev_rep h hf).fn_inv
  obtain ⟨l1, l2⟩ := evs_spec hvs
  have hlen : args.size = vs.length := by simpa using l1
  have hcall := hE.inl g _ _ _ hk X β w (args.map a.eval ++ cs) h.toB (by simp [hlen, hcl]) (fun i c v hc hv => by
    by_cases hi : i < vs.length
    · rw [List.getElem?_append_left hi] at hc
      rw [Array.getElem?_append_left (by simp; omega)] at hv
      simp only [Array.getElem?_map, Option.map_eq_some_iff] at hv
      obtain ⟨x, hx, rfl⟩ := hv
      exact ev_rep h (l2 i x c (by simpa using hx) hc)
    · rw [List.getElem?_append_right (by omega)] at hc
      rw [Array.getElem?_append_right (by simp; omega)] at hv
      refine hcr (i - vs.length) c v hc ?_
      simpa [hlen] using hv)
  refine call_enter hop ef hen hcall ?_
  rintro e w' ⟨v, u, β', b', rfl, hk', hrep, hB, hag, hlen'⟩
  refine ⟨u, rfl, ?_⟩
  have hgo := h.go hB (h.agree_mono hag)
  exact hA _ _ _ _ hk' (hgo.setT hrep o.dst) hag (by rw [setT_b]; exact hlen') (fun h0 => by rw [hwr] at h0; cases h0)

theorem callK_sound (h : Sat X β st a w) (hE : EnvOk E) {c : Call} (hop : o.op = .call c) (hk : callK E st c o.dst K) (hA : After X β st w o (writes E o) K Kw) : o.wp E.P a w Kw Q := by
  obtain ⟨callee, args, tys⟩ := c
  unfold callK at hk
  split at hk
  · rename_i f hcal
    simp only at hcal
    subst hcal
    split at hk
    · rename_i g caps vs hf hvs
      split at hk
      · rename_i hen
        split at hk
        · rename_i sp hsp
          split at hk
          · rename_i as acc hpk
            exact call_ctr h (hE.ctr g sp hsp) hen hop hf hvs hpk hk.1 hk.2 hA
          · exact hk.elim
        · exact call_inl h hE hen hop hf hvs hk hA (by
            rename_i hsp
            unfold writes
            rw [hop]
            cases f with
            | func g' =>
              simp [ev] at hf
              simp [hf.1, hsp]
            | _ => rfl)
      · exact hk.elim
    · exact hk.elim
  · rename_i hcal
    simp only at hcal
    subst hcal
    split at hk
    · rename_i s x t t' hargs htys
      obtain ⟨args⟩ := args
      obtain ⟨tys⟩ := tys
      simp only at hargs htys
      subst hargs; subst htys
      split at hk
      · rename_i e ks by_ b d he hks hby hs hx
        split at hk
        · rename_i e' ks' xs ks2 ys hb hd
          split at hk
          · rename_i hc
            obtain ⟨rfl, rfl, rfl, rfl, hbd⟩ := hc
            exact append_sound h hop he (kinds_of he hks) (bytes_of he hby) hs hx hb hd hbd hk.1 hk.2 hA
          · exact hk.elim
        · exact hk.elim
      · rename_i e ks by_ d he hks hby hs hx
        split at hk
        · rename_i ks2 ys hd
          split at hk
          · rename_i hc
            obtain ⟨rfl, rfl⟩ := hc
            exact appendNil_sound h hop he (kinds_of he hks) (bytes_of he hby) hs hx hd hk.1 hk.2 hA
          · exact hk.elim
        · exact hk.elim
      · exact hk.elim
    · exact hk.elim
  · exact hk.elim

theorem stepK_sound (h : Sat X β st a w) (hE : EnvOk E) (hk : stepK E st o K) (hA : After X β st w o (writes E o) K Kw) : o.wp E.P a w Kw Q := by
  unfold stepK at hk
  split at hk
  · rename_i p v hps
    have hp : ∀ q, p = some q → q := by
      intro q hq
      subst hq
      exact hk.1
    have hk' : K (st.setT o.dst v) := by
      cases p with
      | none => exact hk
      | some q => exact hk.2
    obtain ⟨u, hu, hrun⟩ := pureStep_sound (fun x v hx => ev_rep h hx) h.blks hps hp
    exact fin_value hrun h hu hk' hA (fun _ _ => rfl) (Nat.le_refl _) (fun _ => ⟨fun _ _ h _ => h, .inl (Keeps.refl w)⟩)
  · split at hk
    · rename_i x hop
      split at hk
      · rename_i e ks hx he hks
        exact assignNil_sound h hop hx (kinds_of he hks) hk hA
      · exact hk.elim
    · rename_i e hop
      exact alloc_sound h hop hk hA
    · rename_i e x hop
      split at hk
      · rename_i v hv
        split at hk
        · exact hk.elim
        · rename_i hnt
          have hr := ev_rep h hv
          exact newVar_sound h (hr.cells (notTup_ne (by simpa using hnt))) hk hA (box_run hop)
      · exact hk.elim
    · rename_i t x y hop
      split at hk
      · rename_i av vv hx hy
        exact storeAt_sound h hop hx hy hk hA (by simp [writes, hop])
      · exact hk.elim
    · rename_i t len parts hop
      split at hk
      · rename_i e ks he hks
        split at hk
        · rename_i xs hl
          split at hk
          · rename_i hle
            exact buildSlice_sound h hop he (kinds_of he hks) hl hle hk hA
          · exact hk.elim
        · exact hk.elim
      · exact hk.elim
    · rename_i t l c hop
      split at hk
      · rename_i e ks by_ n m he hks hby hl hc
        split at hk
        · rename_i hlc
          exact makeSlice_sound h hop he (kinds_of he hks) (bytes_of he hby) hl hlc hc hk.1 hk.2 hA
        · exact hk.elim
      · exact hk.elim
    · rename_i t x lo hi mx hop
      split at hk
      · rename_i e b he hx
        split at hk
        · rename_i ks xs hr
          split at hk
          · rename_i l hh hlo hhi
            split at hk
            · rename_i hsz
              exact cut_sound h hop he hx hr hlo hhi hsz hk.1 hk.2 hA
            · exact hk.elim
          · exact hk.elim
        · exact hk.elim
      · exact hk.elim
    · rename_i t x y t' hop
      split at hk
      · rename_i b hx hy
        split at hk
        · rename_i ks xs e hr he
          exact eqlNil_sound h hop he hx hy hr hk hA
        · exact hk.elim
      · exact hk.elim
    · rename_i c hop
      exact callK_sound h hE hop hk hA
    · exact hk.elim

/-! ### guards -/
theorem yielded_of {ops : Array Oper} {j : Nat} {oj : Oper} {d : Tmp} {b : Bool} (h : Sat X β st a w) (hj : ops[j]? = some oj) (hd : oj.dst = some d) (hb : look st.t d = some (.bool b)) : yielded ops a.tmps j = some b := by
  obtain ⟨u, hu, hr⟩ := h.tmps d _ hb
  rw [hr.bool_inv] at hu
  simp [yielded, hj, hd, hu]
theorem yielded_none {ops : Array Oper} {j : Nat} {oj : Oper} {d : Tmp} (h : Sat X β st a w) (hj : ops[j]? = some oj) (hd : oj.dst = some d) (hb : look st.t d = some (.tup [])) : yielded ops a.tmps j = none := by
  obtain ⟨u, hu, hr⟩ := h.tmps d _ hb
  obtain ⟨xs, rfl, _⟩ := hr.tup_inv
  simp [yielded, hj, hd, hu]

theorem setT_same (h : Sat X β st a w) {d : Tmp} {v : IV} (hd : look st.t d = some v) : st.setT (some d) v = st := by
  cases st with
  | mk t b =>
    simp only [St.setT, setR_eq]
    congr 1
    rw [look_some] at hd
    apply List.ext_getElem?
    intro i
    rw [List.getElem?_set]
    split
    · rename_i e; subst e; have hlt := (List.getElem?_eq_some_iff.1 hd).1; rw [if_pos hlt]; exact hd.symm
    · rfl

/-- A guard: the operation is wanted, or it isn't; what is known of the guard is kept. -/
theorem guardK_sound {ops : Array Oper} (h : Sat X β st a w) {K1 K0 : St → Prop} (hk : guardK ops.toList st o K1 K0) :
    (Region.wanted o (yielded ops a.tmps) = true ∧ K1 st) ∨ (Region.wanted o (yielded ops a.tmps) = false ∧ K0 st) := by
  unfold guardK at hk
  split at hk
  · rename_i hg
    exact .inl ⟨by simp [Region.wanted, hg], hk⟩
  · rename_i j want hg
    split at hk
    · rename_i oj hj
      have hj' : ops[j]? = some oj := by rw [nthR_eq] at hj; simpa using hj
      split at hk
      · rename_i d hd
        split at hk
        · rename_i b hb
          have hy := yielded_of h hj' hd hb
          have hw : Region.wanted o (yielded ops a.tmps) = (b == want) := by simp [Region.wanted, hg, hy]
          rw [hw]
          have hs := setT_same h hb
          cases want <;> cases b <;> simp [br] at hk ⊢ <;> rw [hs] at hk <;> exact hk
        · rename_i hb
          have hy := yielded_none h hj' hd hb
          refine .inr ⟨by simp [Region.wanted, hg, hy], hk⟩
        · exact hk.elim
      · exact hk.elim
    · exact hk.elim


theorem normT_eq (st : St) (K : St → Prop) : normT st K = K st := by unfold normT; rw [spineT_eq]
theorem normB_eq (a : Array Bool) (K : Array Bool → Prop) : normB a K = K a := by unfold normB; rw [spineB_eq]

theorem execOps_sound (hE : EnvOk E) {ops : Array Oper} {n0 : Nat} : ∀ {l : List Oper} {β : Asg} {st : St} {a : Act} {w : World}, Sat X β st a w → n0 ≤ st.b.length → execOps E ops.toList l st K →
    (∀ β' st' a' w', K st' → Sat X β' st' a' w' → (∀ b, b < n0 → β' b = β b) → n0 ≤ st'.b.length → Q .normal a' w') → wpList E.P ops Q l a w := by
  intro l
  induction l with
  | nil => intro β st a w h hn hk hQ; exact hQ β st a w hk h (fun _ _ => rfl) hn
  | cons o rest ih =>
    intro β st a w h hn hk hQ
    simp only [execOps] at hk
    unfold wpList
    rcases guardK_sound h hk with ⟨hw, hk⟩ | ⟨hw, hk⟩
    · rw [if_pos hw]
      refine .inl (stepK_sound h hE hk ?_)
      intro β' st' a' w' hk' hs hag hle _
      rw [normT_eq] at hk'
      exact ih hs (Nat.le_trans hn hle) hk' (fun β'' st'' a'' w'' hk'' hs'' hag'' hle'' => hQ β'' st'' a'' w'' hk'' hs'' (fun b hb => (hag'' b hb).trans (hag b (by omega))) hle'')
    · rw [if_neg (by rw [hw]; simp)]
      exact ih (h.setT (undef_rep β) o.dst) (by rw [setT_b]; exact hn) hk hQ

end
end Go.Vs
