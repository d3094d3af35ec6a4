/- Vs, part G: operations that make or write memory, but for calls. -/
import Derived.Test.YtbgleobdhjghlaaVsF
set_option linter.unusedVariables false
set_option linter.unusedSimpArgs false
namespace Go.Vs
open Go.RowKit

/-- What an operation that writes no variable leaves as it was. -/
structure Rel (o : Oper) (β : Asg) (st : St) (w : World) (st' : St) (w' : World) : Prop where
  keep : ∀ b k, look st.b b = some k → k.isRow = false → look st'.b b = some k
  world : Keeps w w' ∨ (appends o = true ∧ ∃ b e ks xs id, look st.b b = some (.row e ks xs) ∧ Uses β b id ∧ But w w' id)

theorem Rel.setT {o : Oper} {β : Asg} {st st' : St} {w w' : World} (h : Rel o β st w st' w') (d : Option Tmp) (v : IV) : Rel o β st w (st'.setT d v) w' :=
  ⟨fun b k hb hr => by rw [show (st'.setT d v).b = st'.b by cases d <;> rfl]; exact h.keep b k hb hr, h.world⟩
theorem Rel.app {o : Oper} {β : Asg} {st : St} {w w' : World} {t : List (Option IV)} {l : List (Option Blk)} (h : Keeps w w') : Rel o β st w { t, b := st.b ++ l } w' :=
  ⟨fun b k hb _ => by simp only; rw [look_app, if_pos (look_lt hb)]; exact hb, .inl h⟩
theorem Rel.new {o : Oper} {β : Asg} {st : St} {w w' : World} {k : Blk} (h : Keeps w w') : Rel o β st w (st.newB k) w' := Rel.app h

/-- What follows an operation, in the model's own words. -/
def After (X : Ctx) (β : Asg) (st : St) (w : World) (o : Oper) (wr : Bool) (K : St → Prop) (Kw : Act → World → Prop) : Prop :=
  ∀ β' st' a' w', K st' → Sat X β' st' a' w' → (∀ b, b < st.b.length → β' b = β b) → st.b.length ≤ st'.b.length → (wr = false → Rel o β st w st' w') → Kw a' w'

section
variable {P : Program} {X : Ctx} {β : Asg} {st : St} {a : Act} {w : World} {Q : Exit → Act → World → Prop} {K : St → Prop} {Kw : Act → World → Prop} {o : Oper} {wr : Bool}

theorem wp_value {u : Value} {w' : World} (h : (execOp a.eval o).run P w = .ok (.value u) w') (hk : Kw (a.put o.dst u) w') : o.wp P a w Kw Q := by
  unfold Oper.wp; rw [h]; exact hk
theorem wp_skip' {w' : World} (h : (execOp a.eval o).run P w = .ok .skip w') (hk : Kw (a.put o.dst undef) w') : o.wp P a w Kw Q := by
  unfold Oper.wp; rw [h]; exact hk

theorem put_length (st : St) (d : Option Tmp) (v : IV) : (st.setT d v).b.length = st.b.length := by rw [setT_b]

/-- A new variable. -/
theorem newVar_sound (h : Sat X β st a w) {e : TypeId} {cells : List IV} {cs : Array Value} (hr : RepL β cells cs)
    (hk : newVar P st e cells o.dst K) (hA : After X β st w o wr K Kw) (hrun : (execOp a.eval o).run P w = .ok (.value (.pointer (some ⟨w.heap.size, 0, none⟩))) (w.alloc (.cells cs e))) : o.wp P a w Kw Q := by
  unfold newVar at hk
  obtain ⟨β1, s1, l1, r1, ag1, m1⟩ := matz_sound (P := P) (ctypes P 8 e) cells (cs := cs.toList) h (by simpa using hr.1) (fun i c v hc hv => hr.2.2 i c v hc (by simpa using hv))
  generalize hm : matz P st.b.length (ctypes P 8 e) cells = r at *
  have hr' : RepL β1 r.1 cs := ⟨by simpa using l1, hr.2.1, fun i c v hc hv => r1 i c v hc (by simpa using hv)⟩
  have s2 := s1.addVar e r.1 cs hr'
  have s3 := s2.setT (Rep.ptr (o := 0) (show ext β1 (st.b ++ r.2).length (.blk w.heap.size) (st.b ++ r.2).length = some (.blk w.heap.size) by simp [ext])) o.dst
  refine wp_value hrun (hA _ _ _ _ hk s3 ?_ ?_ (fun _ => Rel.setT (by rw [List.append_assoc]; exact Rel.app (Keeps.alloc w _)) _ _))
  · intro b hb
    rw [ext_agree _ _ _ b (by simp; omega), ag1 b hb]
  · rw [setT_b]; simp

theorem alloc_run {e : TypeId} {i : TypeInfo} {zv : Value} (hi : P.info? e = some i) (hz : i.zero = some zv) (hop : o.op = .alloc e) :
    (execOp a.eval o).run P w = .ok (.value (.pointer (some ⟨w.heap.size, 0, none⟩))) (w.alloc (.cells zv.cells e)) := by
  simp only [execOp, hop]
  refine Sem.run_v ?_
  simp [Instr.alloc, zeroValue, typeInfo, hi, hz, newRow, Go.newVar, Sem.run_bind]

theorem box_run {e : TypeId} {x : Operand} (hop : o.op = .box e x) :
    (execOp a.eval o).run P w = .ok (.value (.pointer (some ⟨w.heap.size, 0, none⟩))) (w.alloc (.cells (a.eval x).cells e)) := by
  simp only [execOp, hop]
  refine Sem.run_v ?_
  simp [Instr.box, Go.newVar, newRow, Sem.run_bind]

theorem ints_of_zero {k : IntKind} {cells : List IV} {cs : Array Value} (hr : RepL β cells cs) (hz : cells.all (isZero k) = true) : cs = ((List.replicate cells.length (0 : Int)).map (Value.int k)).toArray := by
  apply Array.ext
  · simp [hr.1]
  · intro i h1 h2
    have hi : i < cells.length := by rw [hr.1]; exact h1
    have hc : cells[i]? = some cells[i] := List.getElem?_eq_getElem hi
    have hv := hr.2.2 i cells[i] cs[i] hc (by simp [h1])
    have hzi := (List.all_eq_true.1 hz) cells[i] (List.getElem_mem hi)
    cases hci : cells[i] with
    | int k' n =>
      rw [hci] at hv hzi
      simp [isZero] at hzi
      rw [hv.int_inv.1, hzi.1, hzi.2]
      simp
    | _ => rw [hci] at hzi; simp [isZero] at hzi

theorem alloc_sound (h : Sat X β st a w) {e : TypeId} (hop : o.op = .alloc e) (hk : match zeroOf P e with
      | some cells =>
        match newInts P e cells with
        | some k => K ((st.newB (.ints e k (List.replicate cells.length 0))).setT o.dst (.ptr st.b.length 0))
        | none => newVar P st e cells o.dst K
      | none => False) (hA : After X β st w o wr K Kw) : o.wp P a w Kw Q := by
  cases hz : zeroOf P e with
  | none => simp [hz] at hk
  | some cells =>
    simp only [hz] at hk
    obtain ⟨i, zv, hi, hiz, hzl, hpos, hzr⟩ := zeroOf_spec (β := β) hz
    have hrun := alloc_run (a := a) (w := w) hi hiz hop
    cases hn : newInts P e cells with
    | none =>
      simp only [hn] at hk
      exact newVar_sound h hzr hk hA hrun
    | some k =>
      simp only [hn] at hk
      have hall : cells.all (isZero k) = true := by
        unfold newInts at hn
        split at hn
        · split at hn
          · split at hn
            · split at hn
              · cases hn; assumption
              · cases hn
            · cases hn
          · cases hn
        · cases hn
      have hcs := ints_of_zero hzr hall
      have s1 := h.addInts e k (List.replicate cells.length 0) (fun x hx => by rw [List.mem_replicate] at hx; rw [hx.2]; exact inK_zero k)
      rw [hcs] at hrun
      have s2 := s1.setT (Rep.ptr (o := 0) (show ext β st.b.length (.blk w.heap.size) st.b.length = some (.blk w.heap.size) by simp [ext])) o.dst
      exact wp_value hrun (hA _ _ _ _ hk s2 (ext_agree _ _ _) (by rw [setT_b]; simp [St.newB]) (fun _ => (Rel.new (Keeps.alloc w _)).setT _ _))

/-! ### stores -/
theorem store_run {t : TypeId} {x v : Operand} {g off n : Nat} {cur : Array Value} {t' : TypeId} (hop : o.op = .store t x v) (hx : a.eval x = .pointer (some ⟨g, off, none⟩)) (hn : sizeT P t = some n)
    (hl : (a.eval v).cells.size = n) (h1 : ∀ u ∈ (a.eval v).cells.toList, u.oneCell' = true) (hg : w.heap[g]? = some (.cells cur t' (0, 0))) (hle : off + n ≤ cur.size) :
    (execOp a.eval o).run P w = .ok .skip (w.setRow g (cur.toList.take off ++ (a.eval v).cells.toList ++ cur.toList.drop (off + n)).toArray) := by
  have hst := run_storeCells_at (P := P) g off t' (a.eval v).cells.toList 0 cur w hg (by simp; omega) h1
  simp only [Nat.add_zero, Array.length_toList, hl] at hst
  simp [execOp, hop, Instr.storeAt, hx, Instr.sureAddr, storeVar, sizeOf_run hn, hl, hst]

theorem RepL.one {cells : List IV} {cs : Array Value} (h : RepL β cells cs) : ∀ u ∈ cs.toList, u.oneCell' = true := by
  intro u hu
  obtain ⟨i, hi, rfl⟩ := List.mem_iff_getElem.1 hu
  exact h.2.1 i _ (by simp [List.getElem?_eq_getElem (show i < cs.toList.length from hi)])

theorem splice_rep {cells mid : List IV} {cur ms : Array Value} (hc : RepL β cells cur) (hm : RepL β mid ms) {off n : Nat} (hn : ms.size = n) (hle : off + n ≤ cells.length) :
    RepL β (cells.take off ++ mid ++ cells.drop (off + n)) (cur.toList.take off ++ ms.toList ++ cur.toList.drop (off + n)).toArray := by
  have l1 := hc.1
  have l2 := hm.1
  have hget : ∀ (i : Nat) v, (cur.toList.take off ++ ms.toList ++ cur.toList.drop (off + n))[i]? = some v →
      (i < off ∧ cur[i]? = some v) ∨ (off ≤ i ∧ i < off + n ∧ ms[i - off]? = some v) ∨ (off + n ≤ i ∧ cur[i]? = some v) := by
    intro i v hv
    by_cases h1 : i < off
    · rw [List.append_assoc, List.getElem?_append_left (by simp; omega), List.getElem?_take, if_pos h1] at hv
      exact .inl ⟨h1, by simpa using hv⟩
    · by_cases h2 : i < off + n
      · rw [List.append_assoc, List.getElem?_append_right (by simp; omega), List.getElem?_append_left (by simp; omega)] at hv
        rw [List.length_take, Array.length_toList, show min off cur.size = off by omega] at hv
        exact .inr (.inl ⟨by omega, h2, by simpa using hv⟩)
      · rw [List.getElem?_append_right (by simp; omega), List.getElem?_drop] at hv
        simp only [List.length_append, List.length_take, Array.length_toList] at hv
        rw [show off + n + (i - (min off cur.size + ms.size)) = i by omega] at hv
        exact .inr (.inr ⟨by omega, by simpa using hv⟩)
  have hgetc : ∀ (i : Nat) c, (cells.take off ++ mid ++ cells.drop (off + n))[i]? = some c →
      (i < off ∧ cells[i]? = some c) ∨ (off ≤ i ∧ i < off + n ∧ mid[i - off]? = some c) ∨ (off + n ≤ i ∧ cells[i]? = some c) := by
    intro i v hv
    by_cases h1 : i < off
    · rw [List.append_assoc, List.getElem?_append_left (by simp; omega), List.getElem?_take, if_pos h1] at hv
      exact .inl ⟨h1, hv⟩
    · by_cases h2 : i < off + n
      · rw [List.append_assoc, List.getElem?_append_right (by simp; omega), List.getElem?_append_left (by simp; omega)] at hv
        rw [List.length_take, show min off cells.length = off by omega] at hv
        exact .inr (.inl ⟨by omega, h2, hv⟩)
      · rw [List.getElem?_append_right (by simp; omega), List.getElem?_drop] at hv
        simp only [List.length_append, List.length_take] at hv
        rw [show off + n + (i - (min off cells.length + mid.length)) = i by omega] at hv
        exact .inr (.inr ⟨by omega, hv⟩)
  refine ⟨?_, ?_, ?_⟩
  · simp; omega
  · intro i v hv
    rcases hget i v (by simpa using hv) with ⟨_, h⟩ | ⟨_, _, h⟩ | ⟨_, h⟩
    · exact hc.2.1 i v h
    · exact hm.2.1 _ v h
    · exact hc.2.1 i v h
  · intro i c v hcc hv
    rcases hget i v (by simpa using hv) with ⟨h1, h⟩ | ⟨h1, h2, h⟩ | ⟨h1, h⟩ <;> rcases hgetc i c hcc with ⟨k1, k⟩ | ⟨k1, k2, k⟩ | ⟨k1, k⟩ <;> first
      | omega
      | exact hc.2.2 i c v k h
      | exact hm.2.2 _ c v k h

theorem var_id {b : Nat} {t : TypeId} {cells : List IV} {id : Nat} (hβ : β b = some (.blk id)) (h : BOk X β w b (.var t cells)) : X.B ≤ id ∧ ∃ cs, w.heap[id]? = some (.cells cs t (0, 0)) ∧ RepL β cells cs := by
  obtain ⟨id', cs, h1, h2, h3, h4⟩ := h
  rw [hβ] at h1
  cases h1
  exact ⟨h2, cs, h3, h4⟩

end
end Go.Vs
