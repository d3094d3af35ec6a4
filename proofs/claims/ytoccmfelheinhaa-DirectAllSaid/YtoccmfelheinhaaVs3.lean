import Derived.Test.YtoccmfelheinhaaVs2
/- Vs, part T: an argument that is a struct of whole numbers and slices, opened. -/
set_option linter.unusedVariables false
set_option linter.unusedSimpArgs false
namespace Go.Vs
open Go.RowKit Go.ChangeShapes Go.WideShapes Go.ChangeAt

section
variable {H : Type} {enc : TypeId × Value → H} {P : Program} {base : Nat} {spare : Nat → Bool} {held : Bool}

theorem Opened.slice0 {W : World} {as bs vs} (h : Opened W as bs vs) {t e : TypeId} {ks : List IntKind} {v : Value} {d : DataW H} {p : List MemPlace} (ht : P.underlying t = some (.slice e)) (hk : ckinds P 8 e = some ks) (hpos : 0 < ks.length) (hc : P.cellsOf e = ks.length) (hd : ∃ fuel, DataW.trod enc P W base spare held fuel t [v] = some (d, p)) : ∃ xs, (∀ x ∈ xs, x.length = ks.length) ∧ okRows ks xs ∧ xs.length ≤ maxLen ∧ Opened W (as ++ [.sl bs.length]) (bs ++ [.ro ks xs]) (vs ++ [v]) := by
  obtain ⟨fuel, hf⟩ := hd
  obtain ⟨A, len, cap, rfl⟩ : ∃ A len cap, v = .slice A len cap := by
    rcases Go.Deep.open_slice (enc := enc) ht hf with ⟨hcs, _⟩ | ⟨a, len', cap', m, n, D, Pl, hcs, _⟩
    · exact ⟨_, _, _, (List.cons.inj hcs).1⟩
    · exact ⟨_, _, _, (List.cons.inj hcs).1⟩
  obtain ⟨β, hS, ho, hl, hrep⟩ := h
  suffices hsuff : ∃ xs, (∀ x ∈ xs, x.length = ks.length) ∧ okRows ks xs ∧ xs.length = len ∧ Reads W ks A cap xs by
    obtain ⟨xs, h1, h2, h3, h4⟩ := hsuff
    refine ⟨xs, h1, h2, Nat.le_trans h4.1 h4.2.1, ext β bs.length (.slc (.slice A len cap)), ?_, ?_, by simp [hl], ?_⟩
    · have hn : β bs.length = none := hS.bound _ (by simp)
      have hm := ext_mono (r := .slc (.slice A len cap)) hn
      have lk : ∀ b k, look ((bs ++ [Blk.ro ks xs]).map some) b = some k → (b < bs.length ∧ look (bs.map some) b = some k) ∨ (b = bs.length ∧ k = .ro ks xs) := by
        intro b k hb
        rw [List.map_append, look_app] at hb
        split at hb
        · rename_i hlt; exact .inl ⟨by simpa using hlt, hb⟩
        · rename_i hge
          simp only [List.length_map] at hb hge
          have hz : b - bs.length = 0 := by
            have := look_lt hb
            simp at this
            omega
          rw [hz] at hb
          simp [look_nil, look_zero, look_succ] at hb
          exact .inr ⟨by omega, hb.symm⟩
      have hown : ∀ b k, look ((bs ++ [Blk.ro ks xs]).map some) b = some k → k.own = false := by
        intro b k hb
        rcases lk b k hb with ⟨_, h5⟩ | ⟨_, rfl⟩
        · refine ho k ?_
          rw [look_some] at h5
          simp only [List.getElem?_map, Option.map_eq_some_iff] at h5
          obtain ⟨x, hx, hxk⟩ := h5
          cases hxk
          exact List.mem_of_getElem? hx
        · rfl
      refine ⟨rfl, fun i v hv => by simp [look_nil, look_zero, look_succ] at hv, ?_, ?_, ?_, hS.below, ⟨hS.le, fun _ h => h.elim, fun _ h => h.elim, fun _ _ _ _ _ => ⟨fun h => h, fun _ h => h⟩⟩, rfl⟩
      · intro b k hb
        rcases lk b k hb with ⟨_, h5⟩ | ⟨rfl, rfl⟩
        · exact (hS.blks b k h5).mono hm
        · exact ⟨A, cap, by simp [ext, h3], h4, h2, hpos, fun _ _ _ => .inl trivial⟩
      · intro b c k k' id hb hc' hown'
        rw [hown b k hb] at hown'
        cases hown'
      · intro b hb
        simp at hb
        unfold ext
        rw [if_neg (by omega)]
        exact hS.bound _ (by simp; omega)
    · intro k hk'
      rcases List.mem_append.1 hk' with h5 | h5
      · exact ho k h5
      · simp at h5; subst h5; rfl
    · have hn : β bs.length = none := hS.bound _ (by simp)
      have hm := ext_mono (r := .slc (.slice A len cap)) hn
      intro i c' v' hc' hv
      rw [List.getElem?_append] at hc' hv
      rw [hl] at hc'
      split at hc'
      · rename_i hi
        rw [if_pos hi] at hv
        exact (hrep i c' v' hc' hv).mono hm
      · rename_i hi
        rw [if_neg hi] at hv
        have : i - vs.length = 0 := by have := (List.getElem?_eq_some_iff.1 hc').1; simp at this; omega
        rw [this] at hc' hv
        simp at hc' hv
        subst hc'; subst hv
        exact .sl (by simp [ext])
  rcases Go.Deep.open_slice (enc := enc) ht hf with ⟨hcs, _⟩ | ⟨a, len', cap', m, n, D, Pl, hcs, hb, hle, hcap, hm, _, hel⟩
  · simp at hcs
    obtain ⟨rfl, rfl, rfl⟩ := hcs
    exact ⟨[], by simp, by intro x hx; simp at hx, rfl, Nat.le_refl _, by simp [maxLen], fun h0 => by simp at h0⟩
  · simp at hcs
    obtain ⟨rfl, rfl, rfl⟩ := hcs
    have hlm : len ≤ m := by rw [hm]; split <;> omega
    have hx : ∀ i, ∃ xs, i < len → (∃ cs', W.cells? base (a.add (i * ks.length)) ks.length = some cs' ∧ IntsL ks cs' xs) := by
      intro i
      by_cases hi : i < len
      · obtain ⟨cs', h1, h2⟩ := hel i (by omega)
        obtain ⟨xs, h3⟩ := trod_flat (enc := enc) 8 hk h2
        rw [hc] at h1
        exact ⟨xs, fun _ => ⟨cs', h1, h3⟩⟩
      · exact ⟨[], fun h0 => absurd h0 hi⟩
    obtain ⟨X, hX⟩ := Classical.axiomOfChoice hx
    have hget : ∀ i, i < len → ((List.range len).map X)[i]? = some (X i) := by intro i hi; simp [hi]
    have hcell : ∀ i j, i < len → j < ks.length → W.cell? ((a.add (i * ks.length)).add j) = some (.int (ks.getD j .i64) ((X i).getD j 0)) ∧ inK (ks.getD j .i64) ((X i).getD j 0) := by
      intro i j hi hj
      obtain ⟨cs', h1, h2⟩ := hX i hi
      obtain ⟨h3, h4⟩ := h2.at j hj
      refine ⟨?_, h4⟩
      unfold World.cells? at h1
      split at h1
      · have h5 := (mapM_some h1).2 j j (.int (ks.getD j .i64) ((X i).getD j 0)) (by simp [hj]) h3
        exact h5
      · cases h1
    have hspot : 0 < len → a.spot = none := by
      intro h0
      have h1 := (hcell 0 0 h0 hpos).1
      have e : (a.add (0 * ks.length)).add 0 = a := by simp [Addr.add]
      rw [e] at h1
      unfold World.cell? at h1
      split at h1
      · cases hsp : a.spot with
        | none => rfl
        | some _ => simp [hsp] at h1
      · cases h1
    refine ⟨(List.range len).map X, ?_, ?_, by simp, by simpa using hle, hcap, ?_⟩
    · intro x hx'
      simp only [List.mem_map, List.mem_range] at hx'
      obtain ⟨i, hi, rfl⟩ := hx'
      obtain ⟨cs', _, h2⟩ := hX i hi
      exact h2.len.2
    · intro x hx' j hj
      simp only [List.mem_map, List.mem_range] at hx'
      obtain ⟨i, hi, rfl⟩ := hx'
      exact (hcell i j hi hj).2
    · intro h0
      have h0' : 0 < len := by simpa using h0
      obtain ⟨g, o, sp⟩ := a
      have hs := hspot h0'
      simp only at hs
      subst hs
      refine ⟨g, o, rfl, ?_⟩
      intro j u hu
      have hjlt : j < len * ks.length := by
        have := (List.getElem?_eq_some_iff.1 hu).1
        rw [flat_length] at this
        simpa using this
      have hdiv : j / ks.length < len := Nat.div_lt_of_lt_mul (by rw [Nat.mul_comm]; exact hjlt)
      have hmod : j % ks.length < ks.length := Nat.mod_lt _ hpos
      have hj : j = j / ks.length * ks.length + j % ks.length := by rw [Nat.mul_comm]; exact (Nat.div_add_mod j ks.length).symm
      have hfl := flat_get ks ((List.range len).map X) (j / ks.length) (j % ks.length) (by simpa using hdiv) hmod
      rw [← hj, hu] at hfl
      have h1 := (hcell (j / ks.length) (j % ks.length) hdiv hmod).1
      cases hfl
      have e : ((Addr.mk g o none).add (j / ks.length * ks.length)).add (j % ks.length) = ⟨g, o + j, none⟩ := by
        rw [Go.Deep.add_add, ← hj]
        unfold Addr.add
        split
        · rename_i h0; simp [h0]
        · rfl
      rw [e] at h1
      rw [h1]
      simp [rd, List.getD, hdiv]

inductive FD where
  | flat (t : TypeId) (ks : List IntKind)
  | sl (t e : TypeId) (ks : List IntKind)
def FD.type : FD → TypeId
  | .flat t _ => t
  | .sl t _ _ => t
def FD.size : FD → Nat
  | .flat _ ks => ks.length
  | .sl _ _ _ => 1
def FD.ok (P : Program) : FD → Prop
  | .flat t ks => ckinds P 8 t = some ks ∧ P.cellsOf t = ks.length
  | .sl t e ks => P.underlying t = some (.slice e) ∧ ckinds P 8 e = some ks ∧ 0 < ks.length ∧ P.cellsOf e = ks.length ∧ P.cellsOf t = 1
def FD.ivs (n : Nat) : FD → List (List Int) → List IV
  | .flat _ ks, c => rowCells ks c 0 0 ks.length
  | .sl _ _ _, _ => [.sl n]
def FD.blks : FD → List (List Int) → List Blk
  | .flat _ _, _ => []
  | .sl _ _ ks, c => [.ro ks c]
def FD.fine : FD → List (List Int) → Prop
  | .flat _ ks, c => ∃ xs, c = [xs] ∧ xs.length = ks.length ∧ ∀ j, j < ks.length → inK (ks.getD j .i64) (xs.getD j 0)
  | .sl _ _ ks, c => (∀ x ∈ c, x.length = ks.length) ∧ okRows ks c ∧ c.length ≤ maxLen
def allIvs : Nat → List FD → List (List (List Int)) → List IV
  | n, f :: fs, c :: cs => f.ivs n c ++ allIvs (n + (f.blks c).length) fs cs
  | _, _, _ => []
def allBlks : List FD → List (List (List Int)) → List Blk
  | f :: fs, c :: cs => f.blks c ++ allBlks fs cs
  | _, _ => []
def allFine : List FD → List (List (List Int)) → Prop
  | [], [] => True
  | f :: fs, c :: cs => f.fine c ∧ allFine fs cs
  | _, _ => False
def fitsF : List Field → List FD → Nat → Prop
  | [], [], _ => True
  | f :: fs, d :: ds, off => f.type = d.type ∧ f.offset = off ∧ fitsF fs ds (off + d.size)
  | _, _, _ => False
def sizeF : List FD → Nat
  | [] => 0
  | d :: ds => d.size + sizeF ds

theorem Opened.ints {W : World} {as bs vs} (h : Opened W as bs vs) : ∀ {ks : List IntKind} {cs : List Value} {xs : List Int}, IntsL ks cs xs → Opened W (as ++ rowCells ks [xs] 0 0 ks.length) bs (vs ++ cs) := by
  intro ks cs xs hx
  obtain ⟨β, hS, ho, hl, hrep⟩ := h
  obtain ⟨n1, n2⟩ := hx.len
  refine ⟨β, hS, ho, by simp [rowCells, hl, n1], ?_⟩
  intro i c' v' hc hv
  rw [List.getElem?_append] at hc hv
  rw [hl] at hc
  split at hc
  · rename_i hi
    rw [if_pos hi] at hv
    exact hrep i c' v' hc hv
  · rename_i hi
    rw [if_neg hi] at hv
    have hj : i - vs.length < ks.length := by have := (List.getElem?_eq_some_iff.1 hv).1; omega
    obtain ⟨h3, h4⟩ := hx.at _ hj
    rw [h3] at hv
    cases hv
    simp [rowCells, hj] at hc
    subst hc
    have h5 := Rep.int (β := β) h4
    simpa [rd, List.getD, List.getElem?_eq_getElem hj] using h5
theorem Opened.pack {W : World} {as bs vs ivs cs} (h : Opened W (as ++ ivs) bs (vs ++ cs)) (hl : as.length = vs.length) (hleaf : ∀ c ∈ ivs, leaf c = true) : Opened W (as ++ [.agg ivs]) bs (vs ++ [.agg cs.toArray]) := by
  obtain ⟨β, hS, ho, hl2, hrep⟩ := h
  have hlen : ivs.length = cs.length := by simp only [List.length_append] at hl2; omega
  have hcell : ∀ (j : Nat) c u, ivs[j]? = some c → cs[j]? = some u → Rep β c u := by
    intro j c u hc hu
    refine hrep (vs.length + j) c u ?_ ?_
    · rw [List.getElem?_append, hl, if_neg (by omega), Nat.add_sub_cancel_left]; exact hc
    · rw [List.getElem?_append, if_neg (by omega), Nat.add_sub_cancel_left]; exact hu
  refine ⟨β, hS, ho, by simp [hl], ?_⟩
  intro i c v hc hv
  rw [List.getElem?_append] at hc hv
  rw [hl] at hc
  split at hc
  · rename_i hi
    rw [if_pos hi] at hv
    refine hrep i c v ?_ ?_
    · rw [List.getElem?_append, hl, if_pos hi]; exact hc
    · rw [List.getElem?_append, if_pos hi]; exact hv
  · rename_i hi
    rw [if_neg hi] at hv
    have hz : i - vs.length = 0 := by have := (List.getElem?_eq_some_iff.1 hc).1; simp at this; omega
    rw [hz] at hc hv
    simp at hc hv
    subst hc; subst hv
    refine .agg (by simpa using hlen) (fun j u hu => ?_) (fun j c u hc hu => hcell j c u hc (by simpa using hu))
    have hu' : cs[j]? = some u := by simpa using hu
    have hj : j < ivs.length := by have := (List.getElem?_eq_some_iff.1 hu').1; omega
    have hc : ivs[j]? = some ivs[j] := by simp [hj]
    exact (hcell j _ u hc hu').one (hleaf _ (List.getElem_mem hj))
theorem ivs_leaf : ∀ (fds : List FD) (n : Nat) (cont : List (List (List Int))), ∀ c ∈ allIvs n fds cont, leaf c = true
  | [], n, cont, c, h => by simp [allIvs] at h
  | d :: ds, n, [], c, h => by simp [allIvs] at h
  | d :: ds, n, x :: xs, c, h => by
    simp only [allIvs, List.mem_append] at h
    rcases h with h | h
    · cases d with
      | flat t ks =>
        simp only [FD.ivs, rowCells, List.mem_map] at h
        obtain ⟨j, _, rfl⟩ := h
        rfl
      | sl t e ks =>
        simp only [FD.ivs, List.mem_singleton] at h
        subst h
        rfl
    · exact ivs_leaf ds _ xs c h
theorem Opened.fields {W : World} {fuel : Nat} {cs : List Value} : ∀ (fds : List FD) (fs : List Field) (off : Nat) {as bs vs} {ys : List (DataW H × List MemPlace)}, (∀ d ∈ fds, d.ok P) → fitsF fs fds off →
    fs.mapM (fun (f : Field) => DataW.trod enc P W base spare held fuel f.type ((cs.drop f.offset).take (P.cellsOf f.type))) = some ys → cs.length = off + sizeF fds → Opened W as bs vs →
    ∃ cont, allFine fds cont ∧ Opened W (as ++ allIvs bs.length fds cont) (bs ++ allBlks fds cont) (vs ++ cs.drop off) := by
  intro fds
  induction fds with
  | nil =>
    intro fs off as bs vs ys hok hfit hy hl h
    refine ⟨[], trivial, ?_⟩
    have e : cs.drop off = [] := by rw [List.drop_eq_nil_iff]; simp only [sizeF] at hl; omega
    rw [e]
    simpa [allIvs, allBlks] using h
  | cons d ds ih =>
    intro fs off as bs vs ys hok hfit hy hl h
    cases fs with
    | nil => exact hfit.elim
    | cons f fs =>
      obtain ⟨h1, h2, h3⟩ := hfit
      simp only [List.mapM_cons, Option.pure_def, Option.bind_eq_bind, Option.bind_eq_some_iff, Option.some.injEq] at hy
      obtain ⟨y, hy1, ys', hy2, rfl⟩ := hy
      have hokd := hok d List.mem_cons_self
      have hok' : ∀ d ∈ ds, d.ok P := fun x hx => hok x (List.mem_cons_of_mem _ hx)
      rw [h1, h2] at hy1
      simp only [sizeF] at hl
      cases d with
      | flat t ks =>
        obtain ⟨k1, k2⟩ := hokd
        simp only [FD.type, FD.size] at hy1 hl h3
        rw [k2] at hy1
        obtain ⟨xs, hx⟩ := trod_flat (enc := enc) 8 k1 hy1
        obtain ⟨cont, hc, hop⟩ := ih fs (off + ks.length) hok' h3 hy2 (by omega) (h.ints hx)
        refine ⟨[xs] :: cont, ⟨⟨xs, rfl, hx.len.2, fun j hj => (hx.at j hj).2⟩, hc⟩, ?_⟩
        have e1 : (cs.drop off).take ks.length ++ cs.drop (off + ks.length) = cs.drop off := by rw [← List.drop_drop, List.take_append_drop]
        simp only [allIvs, allBlks, FD.ivs, FD.blks, List.length_nil, Nat.add_zero, List.nil_append]
        rw [List.append_assoc, List.append_assoc, e1] at hop
        exact hop
      | sl t e ks =>
        obtain ⟨k1, k2, k3, k4, k5⟩ := hokd
        simp only [FD.type, FD.size] at hy1 hl h3
        rw [k5] at hy1
        have hlt : off < cs.length := by omega
        have e0 : (cs.drop off).take 1 = [cs[off]] := by
          rw [List.drop_eq_getElem_cons hlt]
          rfl
        rw [e0] at hy1
        obtain ⟨xs, a1, a2, a3, a4⟩ := h.slice0 k1 k2 k3 k4 ⟨fuel, hy1⟩
        obtain ⟨cont, hc, hop⟩ := ih fs (off + 1) hok' h3 hy2 (by omega) a4
        refine ⟨xs :: cont, ⟨⟨a1, a2, a3⟩, hc⟩, ?_⟩
        have e1 : [cs[off]] ++ cs.drop (off + 1) = cs.drop off := by rw [List.drop_eq_getElem_cons hlt]; rfl
        simp only [allIvs, allBlks, FD.ivs, FD.blks, List.length_cons, List.length_nil, Nat.zero_add]
        rw [List.append_assoc, List.append_assoc, List.append_assoc, e1, List.length_append, List.length_cons, List.length_nil, Nat.zero_add] at hop
        exact hop
theorem Opened.record {W : World} {as bs vs} (h : Opened W as bs vs) (fds : List FD) {t : TypeId} {fs : Array Field} {v : Value} {d : DataW H} {p : List MemPlace} {r : Reach} {b0 : Nat} (ht : P.underlying t = some (.struct fs)) (hfit : fitsF fs.toList fds 0) (hok : ∀ d ∈ fds, d.ok P) (hsz : P.cellsOf t = sizeF fds)
    (hval : Value.okWide P W r b0 t v) (hd : DataW.Trod enc P W base spare held t v d p) :
    ∃ cont, allFine fds cont ∧ Opened W (as ++ [.agg (allIvs bs.length fds cont)]) (bs ++ allBlks fds cont) (vs ++ [v]) := by
  obtain ⟨cs, rfl, hsize⟩ := okWide_struct ht hval
  obtain ⟨fuel, hf⟩ := hd
  cases fuel with
  | zero => simp [DataW.trod] at hf
  | succ fuel =>
    have hf' : DataW.trod enc P W base spare held (fuel + 1) t cs.toList = some (d, p) := hf
    unfold DataW.trod at hf'
    rw [ht] at hf'
    simp only at hf'
    split at hf'
    · rename_i hlen
      simp only [Option.map_eq_some_iff] at hf'
      obtain ⟨ys, hys, _⟩ := hf'
      have hl : as.length = vs.length := by obtain ⟨_, _, _, hl, _⟩ := h; exact hl
      obtain ⟨cont, hc, hop⟩ := Opened.fields (enc := enc) fds fs.toList 0 hok hfit hys (by rw [hlen, hsz]; omega) h
      refine ⟨cont, hc, ?_⟩
      have := hop.pack hl (ivs_leaf fds _ cont)
      simpa using this
    · cases hf'
end
end Go.Vs
