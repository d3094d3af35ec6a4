/- Vs, part K: cuts, append. -/
import Derived.Test.YtbgleobdhjghlaaVsJ
set_option linter.unusedVariables false
set_option linter.unusedSimpArgs false
namespace Go.Vs
open Go.RowKit
section
variable {P : Program} {X : Ctx} {β : Asg} {st : St} {a : Act} {w : World} {Q : Exit → Act → World → Prop} {K : St → Prop} {Kw : Act → World → Prop} {o : Oper} {wr : Bool}

theorem flat_drop (ks : List IntKind) : ∀ (xs : List (List Int)) (l : Nat), flat ks (xs.drop l) = (flat ks xs).drop (l * ks.length) := by
  intro xs
  induction xs with
  | nil => intro l; simp [flat]
  | cons x xs ih =>
    intro l
    cases l with
    | zero => simp
    | succ l =>
      have hl : (rowOf ks x).length = ks.length := by simp [rowOf]
      rw [List.drop_succ_cons, ih]
      have hf : flat ks (x :: xs) = rowOf ks x ++ flat ks xs := by simp [flat]
      rw [hf, Nat.add_mul, Nat.one_mul, Nat.add_comm, ← List.drop_drop, List.drop_append_of_le_length (by omega), hl.symm, List.drop_length, List.nil_append]
theorem flat_take (ks : List IntKind) : ∀ (xs : List (List Int)) (l : Nat), flat ks (xs.take l) = (flat ks xs).take (l * ks.length) := by
  intro xs
  induction xs with
  | nil => intro l; simp [flat]
  | cons x xs ih =>
    intro l
    cases l with
    | zero => simp [flat]
    | succ l =>
      have hl : (rowOf ks x).length = ks.length := by simp [rowOf]
      have hf : ∀ ys, flat ks (x :: ys) = rowOf ks x ++ flat ks ys := by intro ys; simp [flat]
      rw [List.take_succ_cons, hf, hf, ih, List.take_append, Nat.add_mul, Nat.one_mul, hl, List.take_of_length_le (l := rowOf ks x) (by omega), Nat.add_sub_cancel]

theorem cut_sound (h : Sat X β st a w) {t e : TypeId} {x : Operand} {lo hi : Option Operand} {b : Nat} {ks : List IntKind} {xs : List (List Int)} {l hh : Int} (hop : o.op = .slice t x lo hi none) (he : elemT P t = some e)
    (hx : ev st x = some (.sl b)) (hr : rows st b = some (ks, xs))
    (hlo : cutAt st lo 0 = some l)
    (hhi : cutAt st hi xs.length = some hh)
    (hsz : sizeT P e = some ks.length) (hb : 0 ≤ l ∧ l ≤ hh ∧ hh ≤ xs.length)
    (hk : K (St.setT { t := st.t, b := Go.Vs.freeze st.b [some b] ++ [some (.ro ks ((xs.take hh.toNat).drop l.toNat))] } o.dst (.sl st.b.length))) (hA : After X β st w o wr K Kw) : o.wp P a w Kw Q := by
  have h' := h.freeze [some b]
  have hfl := freeze_length [some b] st.b
  obtain ⟨A, n, c, ex, hβ⟩ := (ev_rep h hx).sl_inv
  obtain ⟨A', n'', c', h1, h2, h3, h4, h5, h6, h7, h8⟩ := rows_at h.blks hr
  rw [hβ] at h1
  cases h1
  subst h2
  obtain ⟨L, rfl⟩ := Int.eq_ofNat_of_zero_le hb.1
  obtain ⟨H, rfl⟩ := Int.eq_ofNat_of_zero_le (Int.le_trans hb.1 hb.2.1)
  simp only [Int.toNat_natCast] at hk
  have hLH : L ≤ H := by omega
  have hHn : H ≤ xs.length := by omega
  have hu := elemT_spec he
  let A1 : Option Addr := if c = L then A else A.map (·.add (L * ks.length))
  have hrun : (execOp a.eval o).run P w = .ok (.value (.slice A1 (H - L) (c - L))) w := by
    simp only [execOp, hop]
    refine Sem.run_v ?_
    have hlv : lo.map a.eval = none ∧ L = 0 ∨ ∃ k, lo.map a.eval = some (.int k (L : Int)) := by
      cases lo with
      | none => simp [cutAt] at hlo; left; exact ⟨rfl, by omega⟩
      | some y =>
        simp only [cutAt] at hlo
        split at hlo
        · rename_i k n hy
          cases hlo
          right
          exact ⟨k, by simp [(ev_rep h hy).int_inv.1]⟩
        · cases hlo
    have hhv : hi.map a.eval = none ∧ H = xs.length ∨ ∃ k, hi.map a.eval = some (.int k (H : Int)) := by
      cases hi with
      | none => simp [cutAt] at hhi; left; exact ⟨rfl, by omega⟩
      | some y =>
        simp only [cutAt] at hhi
        split at hhi
        · rename_i k n hy
          cases hhi
          right
          exact ⟨k, by simp [(ev_rep h hy).int_inv.1]⟩
        · cases hhi
    have hcH : H ≤ c := by omega
    simp only [Instr.sliceAt, Sem.run_bind, run_underlying hu, Result.andThen_ok, ex, Option.map_none]
    rcases hlv with ⟨e1, rfl⟩ | ⟨k1, e1⟩ <;> rcases hhv with ⟨e2, rfl⟩ | ⟨k2, e2⟩ <;> rw [e1, e2] <;>
      simp [Instr.slice, Instr.sliceBounds, Instr.sliceBound, asIntOf, Sem.run_bind, run_underlying hu, sizeOf_run hsz, hLH, hcH, A1] <;> omega
  have hnode : ∀ {b' : List (Option Blk)}, b'.length = st.b.length → True := fun _ => trivial
  have hβn : β st.b.length = none := h.bound _ (Nat.le_refl _)
  have hm := ext_mono (r := .slc (.slice A1 (H - L) (c - L))) hβn
  have hlook := freeze_rows hr
  have hlen : ((xs.take H).drop L).length = H - L := by simp; omega
  have hadd : Sat X (ext β st.b.length (.slc (.slice A1 (H - L) (c - L)))) (St.newB { st with b := Go.Vs.freeze st.b [some b] } (.ro ks ((xs.take H).drop L))) a w := by
    have := h'.add (k := .ro ks ((xs.take H).drop L)) (r := .slc (.slice A1 (H - L) (c - L))) (Keeps.refl w) (fun id _ hown => by cases hown) ?_ ?_ ?_
    · rwa [hfl] at this
    · intro _ d k' id hd hown hu1 hu2
      obtain ⟨y, ys, hne⟩ : ∃ y ys, (xs.take H).drop L = y :: ys := by
        rcases hu2.2 with h0 | ⟨ks', y, ys, e⟩
        · cases h0
        · exact ⟨y, ys, by injection e⟩
      have hHL : L < H := by
        have := congrArg List.length hne
        rw [hlen] at this; simp at this; omega
      obtain ⟨g, o', hA', _⟩ := h7 (by omega)
      have hid : g = id := by
        have h9 := hu2.1
        obtain ⟨ad, e1, e2⟩ := uses_slc h9
        simp only [A1, hA'] at e1
        rw [if_neg (by omega)] at e1
        simp [add_at] at e1
        subst e1
        exact e2
      subst hid
      have hxs : ∃ x xs', xs = x :: xs' := by
        cases xs with
        | nil => simp at hHn; omega
        | cons x xs' => exact ⟨x, xs', rfl⟩
      obtain ⟨x, xs', rfl⟩ := hxs
      have e := h'.disj d b k' (.ro ks (x :: xs')) g hd hlook hown hu1 ⟨.inr ⟨_, _, _, by rw [hβ, hA'], rfl⟩, .inr ⟨ks, x, xs', rfl⟩⟩
      subst e
      rw [hlook] at hd
      cases hd
      cases hown
    · intro id hu2
      refine ⟨?_, fun h0 => by cases h0⟩
      obtain ⟨y, ys, hne⟩ : ∃ y ys, (xs.take H).drop L = y :: ys := by
        rcases hu2.2 with h0 | ⟨ks', y, ys, e⟩
        · cases h0
        · exact ⟨y, ys, by injection e⟩
      have hHL : L < H := by
        have := congrArg List.length hne
        rw [hlen] at this; simp at this; omega
      obtain ⟨g, o', hA', _⟩ := h7 (by omega)
      have hid : g = id := by
        have h9 := hu2.1
        obtain ⟨ad, e1, e2⟩ := uses_slc h9
        simp only [A1, hA'] at e1
        rw [if_neg (by omega)] at e1
        simp [add_at] at e1
        subst e1
        exact e2
      subst hid
      have hxs : ∃ x xs', xs = x :: xs' := by
        cases xs with
        | nil => simp at hHn; omega
        | cons x xs' => exact ⟨x, xs', rfl⟩
      obtain ⟨x, xs', rfl⟩ := hxs
      exact (h'.frm.apart b (.ro ks (x :: xs')) g hlook ⟨.inr ⟨_, _, _, by rw [hβ, hA'], rfl⟩, .inr ⟨ks, x, xs', rfl⟩⟩).1
    · rw [hfl]
      refine ⟨A1, c - L, by rw [ext_self, hlen], ⟨by rw [hlen]; omega, by omega, fun h0 => ?_⟩, ?_, h6, ?_⟩
      · rw [hlen] at h0
        obtain ⟨g, o', hA', hc⟩ := h8.2.2 (by omega)
        refine ⟨g, o' + L * ks.length, ?_, fun j u hj => ?_⟩
        · simp only [A1, hA']
          rw [if_neg (by omega)]
          simp [add_at]
        · rw [Nat.add_assoc]
          refine hc _ u ?_
          rw [flat_drop, flat_take, List.getElem?_drop, List.getElem?_take] at hj
          split at hj
          · exact hj
          · cases hj
      · intro x hx
        exact h5 x (List.mem_of_mem_take (List.mem_of_mem_drop hx))
      · intro hne ad hA1
        have hHL : L < H := by
          rcases Nat.lt_or_ge L H with h0 | h0
          · exact h0
          · exact absurd (List.eq_nil_of_length_eq_zero (by rw [hlen]; omega)) hne
        obtain ⟨g, o', hA', _⟩ := h7 (by omega)
        simp only [A1, hA'] at hA1
        rw [if_neg (by omega)] at hA1
        simp [add_at] at hA1
        subst hA1
        obtain ⟨A2, c2, k1, k2, k3, k4, k5⟩ := h'.blks b _ hlook
        rw [hβ] at k1
        cases k1
        exact k5 (by intro e; subst e; simp at hHn; omega) ⟨g, o', none⟩ hA'
  have hst : { t := st.t, b := Go.Vs.freeze st.b [some b] ++ [some (.ro ks ((xs.take H).drop L))] } = St.newB { st with b := Go.Vs.freeze st.b [some b] } (.ro ks ((xs.take H).drop L)) := rfl
  rw [hst] at hk
  refine fin_value hrun hadd (.sl (ext_self _ _ _)) hk hA (ext_agree _ _ _) ?_ (fun _ => ⟨fun c0 k0 hc0 hk0 => ?_, .inl (Keeps.refl w)⟩)
  · simp [St.newB, hfl]
  · simp only [St.newB]
    rw [look_app, if_pos (by rw [hfl]; exact look_lt hc0)]
    exact freeze_nonrow _ _ c0 k0 hc0 hk0

theorem reads_news {ks : List IntKind} {ys : List (List Int)} {A : Option Addr} {c : Nat} (hr : Reads w ks A c ys) (h0 : 0 < ys.length) :
    ∃ ad : Addr, A = some ad ∧ ∀ j u, (flat ks ys)[j]? = some u → w.cell? (ad.add j) = some u := by
  obtain ⟨g, o', e, hc⟩ := hr.2.2 h0
  exact ⟨⟨g, o', none⟩, e, fun j u hj => by rw [add_at]; exact hc j u hj⟩

theorem flat_one {ks : List IntKind} {ys : List (List Int)} : ∀ u ∈ flat ks ys, u.oneCell' = true := by
  intro u hu
  simp only [flat, List.mem_flatMap, rowOf, List.mem_map] at hu
  obtain ⟨x, _, j, _, rfl⟩ := hu
  rfl

/-- append, onto what the call owns (nil too) -/
theorem append_run {base : Nat} {t ty e : TypeId} {ks : List IntKind} {by_ : Nat} (he : elemT P t = some e) (hks : kinds P e = some ks) (hby : bytesT P e = some by_) (hbase : base ≤ w.heap.size)
    {v : Value} {xs ys : List (List Int)} (hown : w.ownsRow base e ks.length v xs.length (flat ks xs)) {A : Option Addr} {c : Nat} (hr : Reads w ks A c ys) (hb : (xs.length + ys.length) * by_ ≤ 140737488355328) :
    ∃ v' w', (Builtin.append_ #[t, t] ty #[v, .slice A ys.length c]).run P w = .ok v' w' ∧ w'.ownsRow base e ks.length v' (xs ++ ys).length (flat ks (xs ++ ys)) ∧ w.grownBy w' v.ownBlock ∧
      (v'.ownBlock = v.ownBlock ∨ v'.ownBlock = some w.heap.size) := by
  obtain ⟨i, z, hi, hz, hsz, hzc, hpos, hb0⟩ := kinds_spec hks
  have hib : i.bytes = by_ := by simpa [bytesT, hi] using hby
  have hu := elemT_spec he
  have hzs : z.cells.size = ks.length := by have := congrArg List.length hzc; simpa using this
  rw [List.length_append, flat_append]
  rcases Nat.eq_zero_or_pos ys.length with h0 | h0
  · have : ys = [] := List.eq_nil_of_length_eq_zero h0
    subst this
    have hfl : flat ks ([] : List (List Int)) = [] := rfl
    rw [hfl]
    simp only [List.length_nil, Nat.add_zero, List.append_nil]
    refine ⟨v, w, ?_, hown, ⟨rfl, rfl, rfl, Nat.le_refl _, fun _ _ _ => rfl⟩, .inl rfl⟩
    rcases hown.2 with ⟨rfl, h1⟩ | ⟨g, cap, cur, rfl, _, _, hnc, _⟩
    · cases A <;> simp [Builtin.append_, run_underlying hu, sizeOf, typeInfo, hi, Builtin.lenOf, Builtin.firstCells, loadCells, loadCellsFrom, h1]
    · cases A <;> simp [Builtin.append_, run_underlying hu, sizeOf, typeInfo, hi, Builtin.lenOf, Builtin.firstCells, hnc, storeCells, loadCells, loadCellsFrom]
  · obtain ⟨ad, rfl, hc⟩ := reads_news hr h0
    have hle : (xs.length + ys.length) ≤ (xs.length + ys.length) * i.bytes := Nat.le_mul_of_pos_right _ hb0
    rw [hib] at hle
    obtain ⟨v', w', k1, k2, k3, k4, k5⟩ := run_append_own_at (P := P) w base t ty e i z ks.length by_ hu hi hz hsz hib hzs hpos v xs.length (flat ks xs) hown ad ys.length c (flat ks ys) (flat_length ks ys) hc flat_one
      (by simp only [maxLen]; omega) hb hbase
    exact ⟨v', w', k1, k2, k3, k5⟩

theorem okRows_append {ks : List IntKind} {xs ys : List (List Int)} (h1 : okRows ks xs) (h2 : okRows ks ys) : okRows ks (xs ++ ys) := by
  intro x hx
  rcases List.mem_append.1 hx with h | h
  · exact h1 x h
  · exact h2 x h

theorem grownBut {w' : World} {id : Nat} (h : w.grownBy w' (some id)) : But w w' id := ⟨h.os, h.tape, h.output, h.size, fun i hi hne => h.block i hi (by simpa using hne)⟩
theorem grownKeeps {w' : World} (h : w.grownBy w' none) : Keeps w w' := ⟨h.os, h.tape, h.output, h.size, fun i hi => h.block i hi (by simp)⟩

theorem append_sound (h : Sat X β st a w) {t e : TypeId} {s x : Operand} {b d : Nat} {ks : List IntKind} {by_ : Nat} {xs ys : List (List Int)}
    (hop : o.op = .call { callee := .builtin .append, args := #[s, x], argTypes := #[t, t] }) (he : elemT P t = some e) (hks : kinds P e = some ks) (hby : bytesT P e = some by_)
    (hs : ev st s = some (.sl b)) (hx : ev st x = some (.sl d)) (hb : look st.b b = some (.row e ks xs)) (hd : rows st d = some (ks, ys)) (hbd : b ≠ d)
    (hbytes : (xs.length + ys.length) * by_ ≤ 140737488355328) (hk : K (St.setT ((st.dropB b).newB (.row e ks (xs ++ ys))) o.dst (.sl st.b.length))) (hA : After X β st w o wr K Kw) : o.wp P a w Kw Q := by
  obtain ⟨A, n, c, h1, h2, h3, hpos⟩ := h.blks b _ hb
  obtain ⟨Ad, nd, cd, exd, hβd⟩ := (ev_rep h hx).sl_inv
  obtain ⟨Ad', nd', cd', k1, k2, k3, k4, k5, k6, k7, k8⟩ := rows_at h.blks hd
  rw [hβd] at k1
  cases k1
  subst k2
  obtain ⟨As, ns, cs, exs, hβs⟩ := (ev_rep h hs).sl_inv
  rw [h1] at hβs
  cases hβs
  obtain ⟨v', w', r1, r2, r3, r4⟩ := append_run (P := P) (ty := o.type) he hks hby h.le h2 k8 hbytes
  have hrun : (execOp a.eval o).run P w = .ok (.value v') w' := by
    simp only [execOp, hop]
    simp [resolve, invoke, builtin, exs, exd, r1]
  have hv' : ∃ A1 n1 c1, v' = .slice A1 n1 c1 := by
    rcases r2.2 with ⟨rfl, _⟩ | ⟨g, cap, cur, rfl, _⟩
    · exact ⟨none, 0, 0, rfl⟩
    · exact ⟨_, _, _, rfl⟩
  obtain ⟨A1, n1, c1, rfl⟩ := hv'
  have hd' := h.dropB b
  -- the rest of the memory, behind it
  have hrest : Sat X β (st.dropB b) a w' := by
    cases hAb : A with
    | none =>
      subst hAb
      exact hd'.keeps (grownKeeps (by simpa [Value.ownBlock] using r3))
    | some ad =>
      subst hAb
      have hbut : But w w' ad.block := grownBut (by simpa [Value.ownBlock] using r3)
      have hBad : X.B ≤ ad.block := (h2.lt ad.block rfl).1
      refine ⟨hd'.len, hd'.tmps, fun c0 k0 hc0 => (hd'.blks c0 k0 hc0).but hbut (fun hu => ?_), hd'.disj, hd'.bound,
        hd'.below.trans ⟨hbut.os, hbut.tape, hbut.output, hbut.size, fun i hi => hbut.block i (Nat.lt_of_lt_of_le hi hd'.le) (by omega)⟩, ⟨Nat.le_trans hd'.le hbut.size, fun i hi => ⟨Nat.lt_of_lt_of_le (hd'.frm.fr i hi).1 hbut.size, (hbut.block i (hd'.frm.fr i hi).1 (by
          rintro rfl
          exact (h.frm.apart b _ ad.block hb ⟨.inr ⟨ad, n, c, h1, rfl⟩, .inl rfl⟩).2 rfl hi)).trans (hd'.frm.fr i hi).2⟩, hd'.frm.fo, hd'.frm.apart⟩, hd'.defers⟩
      have hc1 : look st.b c0 = some k0 ∧ c0 ≠ b := by
        simp only [St.dropB] at hc0
        rw [look_set] at hc0
        split at hc0
        · split at hc0 <;> cases hc0
        · rename_i hne; exact ⟨hc0, fun e => hne e.symm⟩
      exact hc1.2 (h.disj b c0 _ k0 ad.block hb hc1.1 rfl ⟨.inr ⟨ad, n, c, h1, rfl⟩, .inl rfl⟩ hu).symm
  have hlen : (st.dropB b).b.length = st.b.length := by simp [St.dropB]
  have hadd := hrest.add (k := .row e ks (xs ++ ys)) (r := .slc (.slice A1 n1 c1)) (Keeps.refl w') ?_ (fun h0 => by cases h0) ?_ ?_
  · rw [hlen] at hadd
    refine fin_value hrun hadd (.sl (ext_self _ _ _)) hk hA (ext_agree _ _ _) (by simp [St.newB, hlen]) (fun _ => ⟨fun c0 k0 hc0 hk0 => ?_, ?_⟩)
    · simp only [St.newB]
      rw [look_app, if_pos (by rw [hlen]; exact look_lt hc0)]
      simp only [St.dropB]
      rw [look_set]
      by_cases hbc : b = c0
      · subst hbc; rw [hb] at hc0; cases hc0; cases hk0
      · rw [if_neg hbc]; exact hc0
    · cases hAb : A with
      | none => subst hAb; exact .inl (grownKeeps (by simpa [Value.ownBlock] using r3))
      | some ad =>
        subst hAb
        exact .inr ⟨by simp [appends, hop], b, e, ks, xs, ad.block, hb, .inr ⟨ad, n, c, h1, rfl⟩, grownBut (by simpa [Value.ownBlock] using r3)⟩
  · intro id hu _ c0 k0 hc0 hu0
    rw [hlen] at hu
    have hc1 : look st.b c0 = some k0 ∧ c0 ≠ b := by
      simp only [St.dropB] at hc0
      rw [look_set] at hc0
      split at hc0
      · split at hc0 <;> cases hc0
      · rename_i hne; exact ⟨hc0, fun e => hne e.symm⟩
    obtain ⟨ad, rfl, rfl⟩ := uses_slc hu
    rcases r4 with r4 | r4
    · cases hAb : A with
      | none => rw [hAb] at r4; simp [Value.ownBlock] at r4
      | some ad2 =>
        rw [hAb] at r4
        simp only [Value.ownBlock, Option.some.injEq] at r4
        exact hc1.2 (h.disj b c0 _ k0 ad.block hb hc1.1 rfl ⟨.inr ⟨ad2, n, c, by rw [h1, hAb], r4.symm⟩, .inl rfl⟩ hu0).symm
    · simp only [Value.ownBlock, Option.some.injEq] at r4
      have := uses_lt (h.blks c0 k0 hc1.1) hu0
      omega
  · intro id hu
    rw [hlen] at hu
    obtain ⟨ad, rfl, rfl⟩ := uses_slc hu.1
    rcases r4 with r4 | r4
    · cases hAb : A with
      | none => rw [hAb] at r4; simp [Value.ownBlock] at r4
      | some ad2 =>
        rw [hAb] at r4
        simp only [Value.ownBlock, Option.some.injEq] at r4
        have := h.frm.apart b _ ad.block hb ⟨.inr ⟨ad2, n, c, by rw [h1, hAb], r4.symm⟩, .inl rfl⟩
        exact ⟨this.1, fun _ => this.2 rfl⟩
    · simp only [Value.ownBlock, Option.some.injEq] at r4
      have := h.frm.new (id := ad.block) (by omega)
      exact ⟨this.1, fun _ => this.2⟩
  · rw [hlen]
    exact ⟨A1, n1, c1, ext_self _ _ _, r2, okRows_append h3 k5, hpos⟩

theorem appendNil_sound (h : Sat X β st a w) {t e : TypeId} {s x : Operand} {d : Nat} {ks : List IntKind} {by_ : Nat} {ys : List (List Int)}
    (hop : o.op = .call { callee := .builtin .append, args := #[s, x], argTypes := #[t, t] }) (he : elemT P t = some e) (hks : kinds P e = some ks) (hby : bytesT P e = some by_)
    (hs : ev st s = some .nils) (hx : ev st x = some (.sl d)) (hd : rows st d = some (ks, ys))
    (hbytes : ys.length * by_ ≤ 140737488355328) (hk : K (St.setT (st.newB (.row e ks ys)) o.dst (.sl st.b.length))) (hA : After X β st w o wr K Kw) : o.wp P a w Kw Q := by
  obtain ⟨Ad, nd, cd, exd, hβd⟩ := (ev_rep h hx).sl_inv
  obtain ⟨Ad', nd', cd', k1, k2, k3, k4, k5, k6, k7, k8⟩ := rows_at h.blks hd
  rw [hβd] at k1
  cases k1
  subst k2
  have exs := (ev_rep h hs).nils_inv
  obtain ⟨v', w', r1, r2, r3, r4⟩ := append_run (P := P) (ty := o.type) (xs := []) he hks hby h.le (World.ownsRow_nil w X.B e ks.length) k8 (by simpa using hbytes)
  have hrun : (execOp a.eval o).run P w = .ok (.value v') w' := by
    simp only [execOp, hop]
    simp [resolve, invoke, builtin, exs, exd, r1]
  have hv' : ∃ A1 n1 c1, v' = .slice A1 n1 c1 := by
    rcases r2.2 with ⟨rfl, _⟩ | ⟨g, cap, cur, rfl, _⟩
    · exact ⟨none, 0, 0, rfl⟩
    · exact ⟨_, _, _, rfl⟩
  obtain ⟨A1, n1, c1, rfl⟩ := hv'
  have hrest : Sat X β st a w' := h.keeps (grownKeeps (by simpa [Value.ownBlock] using r3))
  have hadd := hrest.add (k := .row e ks ys) (r := .slc (.slice A1 n1 c1)) (Keeps.refl w') ?_ (fun h0 => by cases h0) ?_ ?_
  · exact fin_value hrun hadd (.sl (ext_self _ _ _)) hk hA (ext_agree _ _ _) (newB_length _ _) (fun _ => Rel.new (grownKeeps (by simpa [Value.ownBlock] using r3)))
  · intro id hu _ c0 k0 hc0 hu0
    obtain ⟨ad, rfl, rfl⟩ := uses_slc hu
    rcases r4 with r4 | r4
    · simp [Value.ownBlock] at r4
    · simp only [Value.ownBlock, Option.some.injEq] at r4
      have := uses_lt (h.blks c0 k0 hc0) hu0
      omega
  · intro id hu
    obtain ⟨ad, rfl, rfl⟩ := uses_slc hu.1
    rcases r4 with r4 | r4
    · simp [Value.ownBlock] at r4
    · simp only [Value.ownBlock, Option.some.injEq] at r4
      have := h.frm.new (id := ad.block) (by omega)
      exact ⟨this.1, fun _ => this.2⟩
  · exact ⟨A1, n1, c1, ext_self _ _ _, by simpa using r2, k5, k6⟩

end
end Go.Vs
