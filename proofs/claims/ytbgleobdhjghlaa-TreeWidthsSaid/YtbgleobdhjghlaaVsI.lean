/- Vs, part I: stores, and slices that are made. -/
import Derived.Test.YtbgleobdhjghlaaVsH
set_option linter.unusedVariables false
set_option linter.unusedSimpArgs false
namespace Go.Vs
open Go.RowKit
section
variable {P : Program} {X : Ctx} {β : Asg} {st : St} {a : Act} {w : World} {Q : Exit → Act → World → Prop} {K : St → Prop} {Kw : Act → World → Prop} {o : Oper} {wr : Bool}

theorem setB_length (st : St) (b : Nat) (k : Blk) : (st.setB b k).b.length = st.b.length := by simp [St.setB]

theorem fin_store {w' : World} (h : (execOp a.eval o).run P w = .ok .skip w') {st' : St} {β' : Asg} (hs : Sat X β' st' a w') (hk : K (st'.setT o.dst (.tup []))) (hA : After X β st w o wr K Kw)
    (ha : ∀ b, b < st.b.length → β' b = β b) (hl : st.b.length ≤ st'.b.length) (hwr : wr = true) : o.wp P a w Kw Q :=
  wp_skip' h (hA _ _ _ _ hk (hs.setT (undef_rep β') o.dst) ha (by rw [setT_b]; exact hl) (fun h0 => by rw [hwr] at h0; cases h0))

theorem mapM_ints {ks : List IntKind} {f : Nat} {cells : List IV} {ys : List Int} (h : (cells.mapIdx fun j c => (j, c)).mapM (cellInt ks f) = some ys) :
    cells.length = ys.length ∧ ∀ (j : Nat) (hj : j < ys.length), cells[j]? = some (.int (ks.getD (f + j) .i64) ys[j]) := by
  obtain ⟨h1, h2⟩ := mapM_some h
  rw [List.length_mapIdx] at h1
  refine ⟨h1, fun j hj => ?_⟩
  have hj' : j < cells.length := by omega
  have := h2 j (j, cells[j]) ys[j] (by simp [hj']) (by simp [hj])
  simp only [cellInt] at this
  split at this
  · rename_i k x hc
    split at this
    · rename_i hkk
      cases this
      rw [List.getElem?_eq_getElem hj', hc, hkk]
    · cases this
  · cases this

theorem getD_map_range {n j : Nat} {f : Nat → Int} (hj : j < n) : ((List.range n).map f).getD j 0 = f j := by
  simp [List.getD, hj]

theorem asInts_inv {k : IntKind} {cells : List IV} {xs : List Int} (h : asInts k cells = some xs) : cells = xs.map (IV.int k) := asInts_spec h

theorem storeAt_sound (h : Sat X β st a w) {t : TypeId} {x v : Operand} {av vv : IV} (hop : o.op = .store t x v) (hx : ev st x = some av) (hv : ev st v = some vv)
    (hk : storeAt P st t av vv fun st' => K (st'.setT o.dst (.tup []))) (hA : After X β st w o wr K Kw) (hwr : wr = true) : o.wp P a w Kw Q := by
  unfold storeAt at hk
  cases hn : sizeT P t with
  | none => simp [hn] at hk
  | some n =>
  simp only [hn] at hk
  split at hk
  · exact hk.elim
  rename_i hcond
  have hl : vv.cells.length = n := by
    by_cases h1 : vv.cells.length = n
    · exact h1
    · exact absurd (.inl h1) hcond
  have hnt : notTup vv = true := by
    cases h1 : notTup vv with
    | true => rfl
    | false => exact absurd (.inr h1) hcond
  have hrep := ev_rep h hv
  have hvc := hrep.cells (notTup_ne hnt)
  have hsz : (a.eval v).cells.size = n := by rw [← hvc.1, hl]
  have hone : ∀ u ∈ (a.eval v).cells.toList, u.oneCell' = true := hvc.one
  cases av with
  | ptr b off =>
    simp only at hk
    split at hk
    · rename_i t' cells hb
      split at hk
      · rename_i hle
        obtain ⟨id, ex, hβ⟩ := (ev_rep h hx).ptr_inv
        obtain ⟨β1, s1, l1, r1, ag1, m1⟩ := matz_sound (P := P) (ctypes P 8 t) vv.cells (cs := (a.eval v).cells.toList) h (by simpa using hvc.1) (fun i c u hc hu => hvc.2.2 i c u hc (by simpa using hu))
        generalize hm : matz P st.b.length (ctypes P 8 t) vv.cells = r at *
        have hlk : look (st.b ++ r.2) b = some (.var t' cells) := by rw [look_app, if_pos (look_lt hb)]; exact hb
        obtain ⟨hB, cs, hg, hcs⟩ := var_id (m1 _ _ hβ) (s1.blks b _ hlk)
        have hr' : RepL β1 r.1 (a.eval v).cells := ⟨by simpa using l1, hvc.2.1, fun i c u hc hu => r1 i c u hc (by simpa using hu)⟩
        have hle' : off + n ≤ cs.size := by rw [← hcs.1]; exact hle
        have hrun := store_run (P := P) (w := w) hop ex hn hsz hone hg hle'
        have s2 := s1.upd hlk rfl (k' := .var t' (cells.take off ++ r.1 ++ cells.drop (off + n))) rfl (.inl (m1 _ _ hβ)) hB (But.setRow w id _)
          ⟨id, _, m1 _ _ hβ, hB, setRow_heap w id cs _ t' _ hg, splice_rep hcs hr' hsz hle⟩
        exact fin_store hrun s2 hk hA ag1 (by rw [setB_length]; simp) hwr
      · exact hk.elim
    · exact hk.elim
  | pdyn b off i =>
    obtain ⟨id, ex, hβ⟩ : ∃ id, a.eval x = .pointer (some ⟨id, off + i.toNat, none⟩) ∧ β b = some (.blk id) := by
      have := ev_rep h hx
      generalize a.eval x = u at this
      cases this
      exact ⟨_, rfl, ‹_›⟩
    simp only at hk
    split at hk
    · rename_i t' k xs k' y hb
      split at hk
      · rename_i hkk
        obtain ⟨rfl, rfl⟩ := hkk
        obtain ⟨hi, hk⟩ := hk
        obtain ⟨id', h1, h2, h3, h4⟩ := h.blks b _ hb
        rw [hβ] at h1
        cases h1
        have hn1 : n = 1 := by simpa [IV.cells] using hl.symm
        subst hn1
        have hu := hrep.int_inv
        have hit : i.toNat < xs.length := by omega
        have hrun := store_run (P := P) (w := w) (n := 1) hop ex hn hsz hone h3 (by simp; omega)
        rw [hu.1] at hrun
        have e1 : ((xs.map (Value.int k)).toArray.toList.take (0 + i.toNat) ++ (Value.int k y).cells.toList ++ (xs.map (Value.int k)).toArray.toList.drop (0 + i.toNat + 1)).toArray = ((dset xs i y).map (Value.int k)).toArray := by
          congr 1
          simp only [Nat.zero_add, dset, List.map_set, Value.cells]
          rw [List.set_eq_take_append_cons_drop, if_pos (by simpa using hit)]
          simp
        rw [e1] at hrun
        have s2 := h.upd hb rfl (k' := .ints t' k (dset xs i y)) rfl (.inl hβ) h2 (But.setRow w id _)
          ⟨id, hβ, h2, setRow_heap w id _ _ t' _ h3, fun z hz => by
            rcases List.mem_or_eq_of_mem_set hz with hz | hz
            · exact h4 z hz
            · rw [hz]; exact hu.2⟩
        exact fin_store hrun s2 hk hA (fun _ _ => rfl) (by rw [setB_length]; exact Nat.le_refl _) hwr
      · exact hk.elim
    · rename_i t' cells k' y hb
      split at hk
      · rename_i xs hxs
        obtain ⟨hi, hk⟩ := hk
        obtain ⟨hB, cs, hg, hcs⟩ := var_id hβ (h.blks b _ hb)
        have hn1 : n = 1 := by simpa [IV.cells] using hl.symm
        subst hn1
        have hu := hrep.int_inv
        have hit : i.toNat < xs.length := by omega
        have hspec := asInts_spec hxs
        have hlen : cells.length - off = xs.length := by have := congrArg List.length hspec; simpa using this
        have hle : off + i.toNat + 1 ≤ cells.length := by omega
        have hrun := store_run (P := P) (w := w) (n := 1) hop ex hn hsz hone hg (by rw [← hcs.1]; exact hle)
        have hmid : RepL β [IV.int k' y] (a.eval v).cells := by rw [hu.1]; exact ⟨rfl, by intro i v h; cases i <;> simp [Value.cells] at h; subst h; rfl, by intro i c v hc hv; cases i <;> simp [Value.cells] at hc hv; subst hc; subst hv; exact .int hu.2⟩
        have hsp := splice_rep hcs hmid hsz hle
        have e2 : cells.take off ++ xs.mapIdx (fun j z => IV.int k' (if i = (j : Int) then y else z)) = cells.take (off + i.toNat) ++ [IV.int k' y] ++ cells.drop (off + i.toNat + 1) := by
          have hc : cells = cells.take off ++ xs.map (IV.int k') := by rw [← hspec, List.take_append_drop]
          apply List.ext_getElem?
          intro q
          by_cases hq : q < off
          · rw [List.getElem?_append_left (by simp; omega), List.append_assoc, List.getElem?_append_left (by simp; omega)]
            simp [List.getElem?_take, hq, show q < off + i.toNat by omega]
          · rw [List.getElem?_append_right (by simp; omega)]
            simp only [List.length_take, show min off cells.length = off by omega, List.getElem?_mapIdx]
            have hcq : cells[q]? = (xs[q - off]?).map (IV.int k') := by
              have := congrArg (fun l => l[q - off]?) hspec
              simp only [List.getElem?_drop, List.getElem?_map, show off + (q - off) = q by omega] at this
              exact this
            by_cases h1 : q < off + i.toNat
            · rw [List.append_assoc, List.getElem?_append_left (by simp; omega), List.getElem?_take, if_pos h1, hcq]
              have : ¬ i = ((q - off : Nat) : Int) := by omega
              simp [this]
            · by_cases h2 : q = off + i.toNat
              · subst h2
                rw [List.append_assoc, List.getElem?_append_right (by simp; omega)]
                have e3 : off + i.toNat - off = i.toNat := by omega
                have e4 : i = ((i.toNat : Nat) : Int) := by omega
                simp only [List.length_take, show min (off + i.toNat) cells.length = off + i.toNat by omega, Nat.sub_self, e3]
                rw [List.getElem?_eq_getElem hit]
                simp [← e4]
              · rw [List.getElem?_append_right (by simp; omega), List.getElem?_drop]
                simp only [List.length_append, List.length_take, List.length_cons, List.length_nil, show min (off + i.toNat) cells.length = off + i.toNat by omega]
                rw [show off + i.toNat + 1 + (q - (off + i.toNat + (0 + 1))) = q by omega, hcq]
                have : ¬ i = ((q - off : Nat) : Int) := by omega
                simp [this]
        rw [e2] at hk
        have s2 := h.upd hb rfl (k' := .var t' (cells.take (off + i.toNat) ++ [IV.int k' y] ++ cells.drop (off + i.toNat + 1))) rfl (.inl hβ) hB (But.setRow w id _)
          ⟨id, _, hβ, hB, setRow_heap w id cs _ t' _ hg, hsp⟩
        exact fin_store hrun s2 hk hA (fun _ _ => rfl) (by rw [setB_length]; exact Nat.le_refl _) hwr
      · exact hk.elim
    · exact hk.elim
  | prow b i sz f =>
    obtain ⟨g, o0, nn, c, ex, hβ⟩ := (ev_rep h hx).prow_inv
    simp only at hk
    split at hk
    · rename_i e ks xs hb
      split at hk
      · rename_i ys hys
        split at hk
        · rename_i hc
          obtain ⟨rfl, hfn⟩ := hc
          obtain ⟨hi, hk⟩ := hk
          obtain ⟨hyl, hyc⟩ := mapM_ints hys
          have hit : i.toNat < xs.length := by omega
          have hvs : (a.eval v).cells.toList.length = n := by simpa using hsz
          have hcell : ∀ j, j < n → ∃ y, ys[j]? = some y ∧ (a.eval v).cells.toList[j]? = some (.int (ks.getD (f + j) .i64) y) ∧ inK (ks.getD (f + j) .i64) y := by
            intro j hj
            have hj' : j < ys.length := by omega
            have h5 := hyc j hj'
            have h6 := hvc.2.2 j _ (a.eval v).cells[j] h5 (by simp [show j < (a.eval v).cells.size by omega])
            obtain ⟨h7, h8⟩ := h6.int_inv
            exact ⟨ys[j], by simp [hj'], by simp [show j < (a.eval v).cells.size by omega, h7], h8⟩
          obtain ⟨rfl, cur, hg, hle, s2⟩ := row_store h hb hβ (r := i.toNat) (f := f) (n := n) hit hfn hvs
            (g2 := fun x => (List.range ks.length).map fun j => if f ≤ j ∧ j < f + n then ys.getD (j - f) 0 else x.getD j 0) (fun j hj => by
              obtain ⟨y, h5, h6, h7⟩ := hcell j hj
              rw [getD_map_range (by omega), if_pos ⟨by omega, by omega⟩, show f + j - f = j by omega]
              have : ys.getD j 0 = y := by simp [List.getD, h5]
              rw [this]
              exact ⟨h6, h7⟩) (fun j hj hno => by rw [getD_map_range hj, if_neg hno])
          rw [Nat.zero_add] at ex
          have hrun := store_run (P := P) (w := w) hop ex hn hsz hone hg hle
          exact fin_store hrun s2 hk hA (fun _ _ => rfl) (by rw [setB_length]; exact Nat.le_refl _) hwr
        · exact hk.elim
      · exact hk.elim
    · exact hk.elim
  | prowd b i sz f j =>
    obtain ⟨g, o0, nn, c, ex, hβ⟩ : ∃ g o0 nn c, a.eval x = .pointer (some ⟨g, o0 + i.toNat * sz + f + j.toNat, none⟩) ∧ β b = some (.slc (.slice (some ⟨g, o0, none⟩) nn c)) := by
      have := ev_rep h hx
      generalize a.eval x = u at this
      cases this
      exact ⟨_, _, _, _, rfl, ‹_›⟩
    simp only at hk
    split at hk
    · rename_i e ks xs k y hb
      split at hk
      · rename_i hc
        obtain ⟨rfl, hall⟩ := hc
        obtain ⟨hi, hk⟩ := hk
        have hn1 : n = 1 := by simpa [IV.cells] using hl.symm
        subst hn1
        have hu := hrep.int_inv
        have hit : i.toNat < xs.length := by omega
        have hkj : ks.getD (f + j.toNat) .i64 = k := by
          have hlt : f + j.toNat < ks.length := hi.2.2.2
          have hmem : ks[f + j.toNat] ∈ ks.drop f := by
            rw [List.mem_iff_getElem?]
            exact ⟨j.toNat, by rw [List.getElem?_drop, List.getElem?_eq_getElem hlt]⟩
          have := (List.all_eq_true.1 hall) _ hmem
          simp [List.getD, List.getElem?_eq_getElem hlt]
          simpa using this
        have hjj : ((f + j.toNat : Nat) : Int) = f + j := by omega
        obtain ⟨rfl, cur, hg, hle, s2⟩ := row_store h hb hβ (r := i.toNat) (f := f + j.toNat) (n := 1) (vs := (a.eval v).cells.toList) hit (by omega) (by simpa using hsz)
          (g2 := fun x0 => (List.range ks.length).map fun (m : Nat) => if (m : Int) = f + j then y else x0.getD m 0) (fun q hq => by
            obtain rfl : q = 0 := by omega
            rw [Nat.add_zero, getD_map_range (by omega), if_pos hjj, hkj, hu.1]
            exact ⟨rfl, hu.2⟩) (fun q hq hno => by rw [getD_map_range hq, if_neg (by omega)])
        rw [Nat.zero_add, Nat.add_assoc] at ex
        rw [Nat.add_assoc] at hle
        have hrun := store_run (P := P) (w := w) hop ex hn hsz hone hg (by simpa [Nat.add_assoc] using hle)
        rw [Nat.add_assoc] at s2
        exact fin_store hrun (by simpa [Nat.add_assoc] using s2) hk hA (fun _ _ => rfl) (by rw [setB_length]; exact Nat.le_refl _) hwr
      · exact hk.elim
    · exact hk.elim
  | _ => exact hk.elim

end
end Go.Vs
