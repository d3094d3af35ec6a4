/- Vs, part B: how ideal values and ideal memory stand to the model's own, and what keeps that. -/
import Derived.Test.YtbgleobdhjghlaaVsA
import Derived.Laws.OwnMore
import Derived.Maps.AppendAt
import Derived.Laws.Closers25b
set_option linter.unusedVariables false
set_option linter.unusedSimpArgs false
namespace Go.Vs
open Go.RowKit

/-- What an ideal block is really: a block of the memory, or a slice. -/
inductive Real where
  | blk (id : Nat)
  | slc (v : Value)
abbrev Asg := Nat → Option Real
def inK (k : IntKind) (n : Int) : Prop := k.min ≤ n ∧ n ≤ k.max

inductive Rep (β : Asg) : IV → Value → Prop
  | int {k n} (h : inK k n) : Rep β (.int k n) (.int k n)
  | bool {b} : Rep β (.bool b) (.bool b)
  | nilp : Rep β .nilp (.pointer none)
  | nils : Rep β .nils (.slice none 0 0)
  | nilf : Rep β .nilf .nilFunc
  | unk {v} (h : v.oneCell' = true) : Rep β .unk v
  | fn {f caps} {cs : Array Value} (hl : caps.length = cs.size) (h : ∀ (i : Nat) c v, caps[i]? = some c → cs[i]? = some v → Rep β c v) : Rep β (.fn f caps) (.func (.func f) #[] cs)
  | ptr {b o id} (h : β b = some (.blk id)) : Rep β (.ptr b o) (.pointer (some ⟨id, o, none⟩))
  | pdyn {b o i id} (h : β b = some (.blk id)) : Rep β (.pdyn b o i) (.pointer (some ⟨id, o + i.toNat, none⟩))
  | prow {b i sz f g o n c} (h : β b = some (.slc (.slice (some ⟨g, o, none⟩) n c))) : Rep β (.prow b i sz f) (.pointer (some ⟨g, o + i.toNat * sz + f, none⟩))
  | prowd {b i sz f j g o n c} (h : β b = some (.slc (.slice (some ⟨g, o, none⟩) n c))) : Rep β (.prowd b i sz f j) (.pointer (some ⟨g, o + i.toNat * sz + f + j.toNat, none⟩))
  | sl {b A n c} (h : β b = some (.slc (.slice A n c))) : Rep β (.sl b) (.slice A n c)
  | agg {cs} {xs : Array Value} (hl : cs.length = xs.size) (h1 : ∀ (i : Nat) v, xs[i]? = some v → v.oneCell' = true) (h : ∀ (i : Nat) c v, cs[i]? = some c → xs[i]? = some v → Rep β c v) : Rep β (.agg cs) (.agg xs)
  | tup {vs} {xs : Array Value} (hl : vs.length = xs.size) (h : ∀ (i : Nat) c v, vs[i]? = some c → xs[i]? = some v → Rep β c v) : Rep β (.tup vs) (.tuple xs)

theorem Rep.mono {β β' : Asg} (hβ : ∀ b r, β b = some r → β' b = some r) {v : IV} {u : Value} (h : Rep β v u) : Rep β' v u := by
  induction h with
  | int h => exact .int h
  | bool => exact .bool
  | nilp => exact .nilp
  | nils => exact .nils
  | nilf => exact .nilf
  | unk h => exact .unk h
  | fn hl h ih => exact .fn hl ih
  | ptr h => exact .ptr (hβ _ _ h)
  | pdyn h => exact .pdyn (hβ _ _ h)
  | prow h => exact .prow (hβ _ _ h)
  | prowd h => exact .prowd (hβ _ _ h)
  | sl h => exact .sl (hβ _ _ h)
  | agg hl h1 h ih => exact .agg hl h1 ih
  | tup hl h ih => exact .tup hl ih

/-- what one cell holds -/
def leaf : IV → Bool
  | .agg _ => false
  | .tup _ => false
  | _ => true
theorem Rep.one {β : Asg} {v : IV} {u : Value} (h : Rep β v u) (hl : leaf v = true) : u.oneCell' = true := by
  cases h <;> first | rfl | assumption | (simp [leaf] at hl)

def Reads (w : World) (ks : List IntKind) (A : Option Addr) (c : Nat) (xs : List (List Int)) : Prop :=
  xs.length ≤ c ∧ c ≤ maxLen ∧ (0 < xs.length → ∃ g o, A = some ⟨g, o, none⟩ ∧ ∀ j u, (flat ks xs)[j]? = some u → w.cell? ⟨g, o + j, none⟩ = some u)
def okRows (ks : List IntKind) (xs : List (List Int)) : Prop := ∀ x ∈ xs, ∀ j, j < ks.length → inK (ks.getD j .i64) (x.getD j 0)

/-- A call: the world at its beginning; its own blocks begin at B; blocks that it may read, and hand back, from below. -/
structure Ctx where
  w0 : World
  B : Nat
  A0 : Nat → Prop
  /-- blocks that nobody here may write, as they are in 'F0'; among them those that nobody here uses -/
  Fr : Nat → Prop := fun _ => False
  Fo : Nat → Prop := fun _ => False
  F0 : World := w0

def RepL (β : Asg) (cells : List IV) (cs : Array Value) : Prop :=
  cells.length = cs.size ∧ (∀ (i : Nat) v, cs[i]? = some v → v.oneCell' = true) ∧ ∀ (i : Nat) c v, cells[i]? = some c → cs[i]? = some v → Rep β c v
theorem RepL.mono {β β' : Asg} (hβ : ∀ b r, β b = some r → β' b = some r) {cells : List IV} {cs : Array Value} (h : RepL β cells cs) : RepL β' cells cs :=
  ⟨h.1, h.2.1, fun i c v hc hv => (h.2.2 i c v hc hv).mono hβ⟩

def BOk (X : Ctx) (β : Asg) (w : World) (b : Nat) : Blk → Prop
  | .var t cells => ∃ id cs, β b = some (.blk id) ∧ X.B ≤ id ∧ w.heap[id]? = some (.cells cs t (0, 0)) ∧ RepL β cells cs
  | .ints t k xs => ∃ id, β b = some (.blk id) ∧ X.B ≤ id ∧ w.heap[id]? = some (.cells (xs.map (Value.int k)).toArray t (0, 0)) ∧ ∀ x ∈ xs, inK k x
  | .row e ks xs => ∃ A n c, β b = some (.slc (.slice A n c)) ∧ w.ownsRow X.B e ks.length (.slice A n c) xs.length (flat ks xs) ∧ okRows ks xs ∧ 0 < ks.length
  | .ro ks xs => ∃ A c, β b = some (.slc (.slice A xs.length c)) ∧ Reads w ks A c xs ∧ okRows ks xs ∧ 0 < ks.length ∧ (xs ≠ [] → ∀ ad, A = some ad → X.A0 ad.block ∨ X.B ≤ ad.block)

def Uses (β : Asg) (b id : Nat) : Prop := β b = some (.blk id) ∨ ∃ a n c, β b = some (.slc (.slice (some a) n c)) ∧ a.block = id
def UsesK (β : Asg) (b : Nat) (k : Blk) (id : Nat) : Prop := Uses β b id ∧ (k.own = true ∨ ∃ ks x xs, k = .ro ks (x :: xs))

/-- the frame: what lies around, and is left alone -/
structure Frm (X : Ctx) (β : Asg) (b : List (Option Blk)) (w : World) : Prop where
  le : X.B ≤ w.heap.size
  fr : ∀ id, X.Fr id → id < w.heap.size ∧ w.heap[id]? = X.F0.heap[id]?
  fo : ∀ id, X.Fo id → X.Fr id
  apart : ∀ c k id, look b c = some k → UsesK β c k id → ¬ X.Fo id ∧ (k.own = true → ¬ X.Fr id)

structure Sat (X : Ctx) (β : Asg) (st : St) (a : Act) (w : World) : Prop where
  len : st.t.length = a.tmps.size
  tmps : ∀ i v, look st.t i = some v → ∃ u, a.tmps[i]? = some u ∧ Rep β v u
  blks : ∀ b k, look st.b b = some k → BOk X β w b k
  disj : ∀ b c k k' id, look st.b b = some k → look st.b c = some k' → k.own = true → UsesK β b k id → UsesK β c k' id → b = c
  bound : ∀ b, st.b.length ≤ b → β b = none
  below : Below X.B X.w0 w
  frm : Frm X β st.b w
  defers : a.defers = []

theorem Sat.le {X β st a w} (h : Sat X β st a w) : X.B ≤ w.heap.size := h.frm.le

/-! ### lists of options -/
theorem look_eq {α : Type} (l : List (Option α)) (i : Nat) : look l i = (l[i]?).getD none := by
  induction l generalizing i with
  | nil => simp [look_nil, look_zero, look_succ]
  | cons x l ih => cases i with
    | zero => simp [look_nil, look_zero, look_succ]
    | succ i => simp [look_succ, ih]
theorem look_lt {α : Type} {l : List (Option α)} {i : Nat} {x : α} (h : look l i = some x) : i < l.length := by
  rw [look_eq] at h
  rcases Nat.lt_or_ge i l.length with h' | h'
  · exact h'
  · simp [List.getElem?_eq_none h'] at h
theorem look_set {α : Type} (l : List (Option α)) (i j : Nat) (x : Option α) : look (l.set i x) j = if i = j then (if i < l.length then x else none) else look l j := by
  rw [look_eq, look_eq, List.getElem?_set]
  by_cases h : i = j
  · subst h
    by_cases h' : i < l.length
    · simp [h']
    · simp [h']
  · simp [h]
theorem look_app {α : Type} (l m : List (Option α)) (j : Nat) : look (l ++ m) j = if j < l.length then look l j else look m (j - l.length) := by
  rw [look_eq, look_eq, look_eq]
  by_cases h : j < l.length
  · simp [h, List.getElem?_append_left h]
  · simp [h, List.getElem?_append_right (Nat.le_of_not_lt h)]
theorem look_some {α : Type} {l : List (Option α)} {i : Nat} {x : α} : look l i = some x ↔ l[i]? = some (some x) := by
  rw [look_eq]
  cases h : l[i]? with
  | none => simp
  | some y => simp

/-! ### temporaries -/
theorem Act.put_size (a : Act) (d : Option Tmp) (v : Value) : (a.put d v).tmps.size = a.tmps.size := by cases d <;> simp [Act.put]
theorem setT_len (st : St) (d : Option Tmp) (v : IV) : (st.setT d v).t.length = st.t.length := by cases d <;> simp [St.setT, setR_eq]
theorem setT_b (st : St) (d : Option Tmp) (v : IV) : (st.setT d v).b = st.b := by cases d <;> rfl

theorem Sat.setT {X β st a w} (h : Sat X β st a w) {v : IV} {u : Value} (hv : Rep β v u) (d : Option Tmp) : Sat X β (st.setT d v) (a.put d u) w := by
  cases d with
  | none => exact h
  | some d =>
    refine ⟨by simp [St.setT, setR_eq, Act.put, h.len], ?_, h.blks, h.disj, h.bound, h.below, h.frm, h.defers⟩
    intro i x hx
    simp only [St.setT, setR_eq] at hx
    rw [look_set] at hx
    simp only [Act.put]
    by_cases hd : d = i
    · subst hd
      by_cases hl : d < st.t.length
      · simp [hl] at hx
        subst hx
        exact ⟨u, by simp [← h.len, hl], hv⟩
      · simp [hl] at hx
    · simp [hd] at hx
      obtain ⟨y, hy, hr⟩ := h.tmps i x hx
      exact ⟨y, by simp [Array.getElem?_setIfInBounds, hd, hy], hr⟩

theorem look_length_tmps {X β st a w} (h : Sat X β st a w) {i : Nat} {v : IV} (hv : look st.t i = some v) : ∃ u, a.tmps.getD i undef = u ∧ Rep β v u := by
  obtain ⟨u, hu, hr⟩ := h.tmps i v hv
  exact ⟨u, by simp [hu], hr⟩

theorem ofConst0_rep {β : Asg} {v : Value} {x : IV} (h : ofConst0 v = some x) : Rep β x v ∧ leaf x = true := by
  unfold ofConst0 at h
  split at h
  · split at h
    · rename_i hk; cases h; exact ⟨.int hk, rfl⟩
    · cases h
  · cases h; exact ⟨.bool, rfl⟩
  · cases h; exact ⟨.nilp, rfl⟩
  · cases h; exact ⟨.nils, rfl⟩
  · cases h; exact ⟨.nilf, rfl⟩
  · cases h

theorem mapM_some {α γ : Type} {f : α → Option γ} : ∀ {l : List α} {m : List γ}, l.mapM f = some m → l.length = m.length ∧ ∀ (i : Nat) x y, l[i]? = some x → m[i]? = some y → f x = some y := by
  intro l
  induction l with
  | nil => intro m h; simp at h; subst h; simp
  | cons a l ih =>
    intro m h
    rw [List.mapM_cons] at h
    simp only [Option.bind_eq_bind, Option.bind_eq_some_iff, Option.pure_def, Option.some.injEq] at h
    obtain ⟨b, hb, l', hl', rfl⟩ := h
    obtain ⟨h1, h2⟩ := ih hl'
    refine ⟨by simp [h1], ?_⟩
    intro i x y hx hy
    cases i with
    | zero => simp at hx hy; subst hx; subst hy; exact hb
    | succ i => simp at hx hy; exact h2 i x y hx hy

theorem ofConst_rep {β : Asg} {v : Value} {x : IV} (h : ofConst v = some x) : Rep β x v := by
  unfold ofConst at h
  split at h
  · rename_i cs
    simp only [Option.map_eq_some_iff] at h
    obtain ⟨l, hl, rfl⟩ := h
    obtain ⟨h1, h2⟩ := mapM_some hl
    refine .agg (by simpa using h1.symm) ?_ ?_
    · intro i u hu
      have hi : i < l.length := by
        have := (Array.getElem?_eq_some_iff.1 hu).1
        rw [← h1]; simpa using this
      have := ofConst0_rep (β := β) (h2 i u l[i] (by simpa using hu) (by simp [hi]))
      exact this.1.one this.2
    · intro i c u hc hu
      exact (ofConst0_rep (h2 i u c (by simpa using hu) hc)).1
  · exact (ofConst0_rep h).1

theorem ev_rep {X β st a w} (h : Sat X β st a w) {x : Operand} {v : IV} (hv : ev st x = some v) : Rep β v (a.eval x) := by
  cases x with
  | tmp i =>
    obtain ⟨u, hu, hr⟩ := look_length_tmps h hv
    rw [← hu] at hr
    exact hr
  | const c => exact ofConst_rep hv
  | global g => simp [ev] at hv
  | func f =>
    simp [ev] at hv
    subst hv
    exact .fn (by simp) (by simp)

/-! ### the world goes on -/
/-- All blocks that were there are as they were. -/
structure Keeps (w w' : World) : Prop where
  os : w'.os = w.os
  tape : w'.tape = w.tape
  output : w'.output = w.output
  size : w.heap.size ≤ w'.heap.size
  block : ∀ i, i < w.heap.size → w'.heap[i]? = w.heap[i]?

theorem Keeps.refl (w : World) : Keeps w w := ⟨rfl, rfl, rfl, Nat.le_refl _, fun _ _ => rfl⟩
theorem Keeps.alloc (w : World) (o : Obj) : Keeps w (w.alloc o) := ⟨rfl, rfl, rfl, (by show w.heap.size ≤ (w.heap.push o).size; simp), fun i hi => Below.heap_alloc w o i hi⟩
theorem Keeps.of_below {w w' : World} (h : Below w.heap.size w w') : Keeps w w' := ⟨h.os, h.tape, h.output, h.size, h.block⟩
theorem Keeps.below {w w' : World} (h : Keeps w w') : Below w.heap.size w w' := ⟨h.os, h.tape, h.output, h.size, h.block⟩
theorem Keeps.trans {a b c : World} (h : Keeps a b) (k : Keeps b c) : Keeps a c :=
  ⟨k.os.trans h.os, k.tape.trans h.tape, k.output.trans h.output, Nat.le_trans h.size k.size, fun i hi => (k.block i (Nat.lt_of_lt_of_le hi h.size)).trans (h.block i hi)⟩
theorem Keeps.drawn (w : World) (n : Nat) : Keeps w { w with drawn := n } := ⟨rfl, rfl, rfl, Nat.le_refl _, fun _ _ => rfl⟩
theorem Keeps.cell {w w' : World} (h : Keeps w w') {a : Addr} {v : Value} (hc : w.cell? a = some v) : w'.cell? a = some v :=
  (World.cell?_of_block (h.block a.block (World.block_lt_of_cell? w a hc))).trans hc
theorem Keeps.grownBy {w w' : World} (h : Keeps w w') : w.grownBy w' none := ⟨h.os, h.tape, h.output, h.size, fun i hi _ => h.block i hi⟩

theorem Reads.keeps {w w' : World} {ks A c xs} (h : Reads w ks A c xs) (hk : Keeps w w') : Reads w' ks A c xs :=
  ⟨h.1, h.2.1, fun h0 => by
    obtain ⟨g, o, e, hc⟩ := h.2.2 h0
    exact ⟨g, o, e, fun j u hu => hk.cell (hc j u hu)⟩⟩

theorem heap_lt {w : World} {id : Nat} {o : Obj} (h : w.heap[id]? = some o) : id < w.heap.size := (Array.getElem?_eq_some_iff.1 h).1

theorem BOk.keeps {X β w w' b k} (h : BOk X β w b k) (hk : Keeps w w') : BOk X β w' b k := by
  cases k with
  | var t cells =>
    obtain ⟨id, cs, h1, h2, h3, h4⟩ := h
    exact ⟨id, cs, h1, h2, (hk.block id (heap_lt h3)).trans h3, h4⟩
  | ints t k xs =>
    obtain ⟨id, h1, h2, h3, h4⟩ := h
    exact ⟨id, h1, h2, (hk.block id (heap_lt h3)).trans h3, h4⟩
  | row e ks xs =>
    obtain ⟨A, n, c, h1, h2, h3⟩ := h
    exact ⟨A, n, c, h1, h2.kept hk.grownBy (by cases A <;> simp [Value.ownBlock]), h3⟩
  | ro ks xs =>
    obtain ⟨A, c, h1, h2, h3⟩ := h
    exact ⟨A, c, h1, h2.keeps hk, h3⟩
theorem BOk.mono {X} {β β' : Asg} {w b k} (h : BOk X β w b k) (hβ : ∀ b r, β b = some r → β' b = some r) : BOk X β' w b k := by
  cases k with
  | var t cells =>
    obtain ⟨id, cs, h1, h2, h3, h4⟩ := h
    exact ⟨id, cs, hβ _ _ h1, h2, h3, h4.mono hβ⟩
  | ints t k xs =>
    obtain ⟨id, h1, h2, h3, h4⟩ := h
    exact ⟨id, hβ _ _ h1, h2, h3, h4⟩
  | row e ks xs =>
    obtain ⟨A, n, c, h1, h2, h3⟩ := h
    exact ⟨A, n, c, hβ _ _ h1, h2, h3⟩
  | ro ks xs =>
    obtain ⟨A, c, h1, h2, h3⟩ := h
    exact ⟨A, c, hβ _ _ h1, h2, h3⟩

theorem Frm.keeps {X β b w w'} (h : Frm X β b w) (hk : Keeps w w') : Frm X β b w' :=
  ⟨Nat.le_trans h.le hk.size, fun id hid => ⟨Nat.lt_of_lt_of_le (h.fr id hid).1 hk.size, (hk.block id (h.fr id hid).1).trans (h.fr id hid).2⟩, h.fo, h.apart⟩
theorem Frm.new {X β b w} (h : Frm X β b w) {id : Nat} (hid : w.heap.size ≤ id) : ¬ X.Fo id ∧ ¬ X.Fr id := by
  have h1 : ¬ X.Fr id := fun hf => by have := (h.fr id hf).1; omega
  exact ⟨fun hf => h1 (h.fo id hf), h1⟩
theorem Frm.sub {X β β' b b' w} (h : Frm X β b w) (hs : ∀ c k id, look b' c = some k → UsesK β' c k id → ∃ c0 k0, look b c0 = some k0 ∧ UsesK β c0 k0 id ∧ (k.own = true → k0.own = true)) : Frm X β' b' w :=
  ⟨h.le, h.fr, h.fo, fun c k id hc hu => by
    obtain ⟨c0, k0, h1, h2, h3⟩ := hs c k id hc hu
    exact ⟨(h.apart c0 k0 id h1 h2).1, fun ho => (h.apart c0 k0 id h1 h2).2 (h3 ho)⟩⟩
theorem Sat.keeps {X β st a w w'} (h : Sat X β st a w) (hk : Keeps w w') : Sat X β st a w' :=
  ⟨h.len, h.tmps, fun b k hb => (h.blks b k hb).keeps hk, h.disj, h.bound,
    h.below.trans ⟨hk.os, hk.tape, hk.output, hk.size, fun i hi => hk.block i (Nat.lt_of_lt_of_le hi h.le)⟩,
    h.frm.keeps hk, h.defers⟩

/-- one block more -/
def ext (β : Asg) (n : Nat) (r : Real) : Asg := fun b => if b = n then some r else β b
theorem ext_mono {β : Asg} {n : Nat} {r : Real} (hn : β n = none) : ∀ b r', β b = some r' → ext β n r b = some r' := by
  intro b r' h
  unfold ext
  split
  · rename_i e; subst e; rw [hn] at h; cases h
  · exact h

/-- A block that somebody uses lies in the memory. -/
theorem uses_lt {X β w b k id} (h : BOk X β w b k) (hu0 : UsesK β b k id) : id < w.heap.size := by
  obtain ⟨hu, hro⟩ := hu0
  cases k with
  | var t cells =>
    obtain ⟨id', cs, h1, h2, h3, h4⟩ := h
    rcases hu with hu | ⟨a, n, c, hu, _⟩
    · rw [h1] at hu; cases hu; exact heap_lt h3
    · rw [h1] at hu; cases hu
  | ints t k xs =>
    obtain ⟨id', h1, h2, h3, h4⟩ := h
    rcases hu with hu | ⟨a, n, c, hu, _⟩
    · rw [h1] at hu; cases hu; exact heap_lt h3
    · rw [h1] at hu; cases hu
  | row e ks xs =>
    obtain ⟨A, n, c, h1, h2, h3⟩ := h
    rcases hu with hu | ⟨a, n', c', hu, rfl⟩
    · rw [h1] at hu; cases hu
    · rw [h1] at hu
      cases hu
      exact (h2.lt a.block (by simp [Value.ownBlock])).2
  | ro ks xs =>
    rcases hro with h0 | ⟨ks', x, xs', e⟩
    · cases h0
    · cases e
      obtain ⟨A, c, h1, h2, h3, hk, h4⟩ := h
      rcases hu with hu | ⟨a, n', c', hu, rfl⟩
      · rw [h1] at hu; cases hu
      · rw [h1] at hu
        cases hu
        obtain ⟨g, o, e, hc⟩ := h2.2.2 (by simp)
        cases e
        have := hc 0 (.int (ks.getD 0 .i64) (x.getD 0 0)) (by
          obtain ⟨k0, ks'', rfl⟩ : ∃ k0 ks'', ks = k0 :: ks'' := by cases ks with
            | nil => simp at hk
            | cons a b => exact ⟨a, b, rfl⟩
          simp [flat, rowOf, List.range_succ_eq_map])
        exact World.block_lt_of_cell? w _ this

theorem Uses.of_ext {β : Asg} {n : Nat} {r : Real} {b id : Nat} (hb : b ≠ n) (h : Uses (ext β n r) b id) : Uses β b id := by
  unfold Uses ext at *
  simpa [hb] using h

theorem Sat.add {X β st a w w' k r} (h : Sat X β st a w) (hk : Keeps w w') (hr : ∀ id, Uses (ext β st.b.length r) st.b.length id → k.own = true → ∀ c k', look st.b c = some k' → ¬ UsesK β c k' id)
    (hro : k.own = false → ∀ b k' id, look st.b b = some k' → k'.own = true → UsesK β b k' id → ¬ UsesK (ext β st.b.length r) st.b.length k id)
    (hfr : ∀ id, UsesK (ext β st.b.length r) st.b.length k id → ¬ X.Fo id ∧ (k.own = true → ¬ X.Fr id))
    (hb : BOk X (ext β st.b.length r) w' st.b.length k) : Sat X (ext β st.b.length r) (st.newB k) a w' := by
  have hm := ext_mono (r := r) (h.bound st.b.length (Nat.le_refl _))
  have h' := h.keeps hk
  have old : ∀ b k, look (st.newB k).b b = some k → True := fun _ _ _ => trivial
  have lk : ∀ b k', look (st.newB k).b b = some k' → (b = st.b.length ∧ k' = k) ∨ (b < st.b.length ∧ look st.b b = some k') := by
    intro b k' hl
    simp only [St.newB] at hl
    rw [look_app] at hl
    by_cases hlt : b < st.b.length
    · simp [hlt] at hl; exact .inr ⟨hlt, hl⟩
    · simp [hlt] at hl
      have : b - st.b.length = 0 := by
        rcases Nat.eq_zero_or_pos (b - st.b.length) with h0 | h0
        · exact h0
        · obtain ⟨m, hm⟩ : ∃ m, b - st.b.length = m + 1 := ⟨b - st.b.length - 1, by omega⟩
          rw [hm] at hl; simp [look_nil, look_zero, look_succ] at hl
      rw [this] at hl
      simp [look_nil, look_zero, look_succ] at hl
      exact .inl ⟨by omega, hl.symm⟩
  refine ⟨h.len, ?_, ?_, ?_, ?_, h'.below, ⟨h'.frm.le, h'.frm.fr, h'.frm.fo, fun c k1 id hc hu => ?_⟩, h.defers⟩
  · intro i v hv
    obtain ⟨u, hu, hr⟩ := h.tmps i v hv
    exact ⟨u, hu, hr.mono hm⟩
  · intro b k' hl
    rcases lk b k' hl with ⟨rfl, rfl⟩ | ⟨hlt, hl⟩
    · exact hb
    · exact (h'.blks b k' hl).mono hm
  · intro b c k1 k2 id hb1 hc2 hown hu1 hu2
    rcases lk b k1 hb1 with ⟨rfl, rfl⟩ | ⟨hlt, hb3⟩ <;> rcases lk c k2 hc2 with ⟨rfl, rfl⟩ | ⟨hlt', hc3⟩
    · rfl
    · have hu2' : UsesK β c k2 id := ⟨hu2.1.of_ext (by omega), hu2.2⟩
      exact absurd hu2' (hr id hu1.1 hown c k2 hc3)
    · have hu1' : UsesK β b k1 id := ⟨hu1.1.of_ext (by omega), hu1.2⟩
      cases hk2 : k2.own with
      | true => exact absurd hu1' (hr id hu2.1 hk2 b k1 hb3)
      | false => exact absurd hu2 (hro hk2 b k1 id hb3 hown hu1')
    · exact h.disj b c k1 k2 id hb3 hc3 hown ⟨hu1.1.of_ext (by omega), hu1.2⟩ ⟨hu2.1.of_ext (by omega), hu2.2⟩
  · intro b hb
    simp only [St.newB, List.length_append, List.length_cons, List.length_nil] at hb
    unfold ext
    rw [if_neg (by omega)]
    exact h.bound b (by omega)
  · rcases lk c k1 hc with ⟨rfl, rfl⟩ | ⟨hlt, hc3⟩
    · exact hfr id hu
    · exact h.frm.apart c k1 id hc3 ⟨hu.1.of_ext (by omega), hu.2⟩

theorem Sat.old_not {X β st a w} (h : Sat X β st a w) {v : IV} {u : Value} {r : Real} (hv : Rep β v u) : Rep (ext β st.b.length r) v u := hv.mono (ext_mono (h.bound _ (Nat.le_refl _)))

/-! ### flat rows -/
theorem flat_length (ks : List IntKind) (xs : List (List Int)) : (flat ks xs).length = xs.length * ks.length := by
  unfold flat
  rw [List.length_flatMap]
  induction xs with
  | nil => simp
  | cons x xs ih => simp [rowOf] at ih ⊢; rw [ih, Nat.add_mul]; omega
theorem flat_append (ks : List IntKind) (xs ys : List (List Int)) : flat ks (xs ++ ys) = flat ks xs ++ flat ks ys := by simp [flat]
theorem flat_get (ks : List IntKind) : ∀ (xs : List (List Int)) (i j : Nat), i < xs.length → j < ks.length → (flat ks xs)[i * ks.length + j]? = some (.int (ks.getD j .i64) (rd xs i j)) := by
  intro xs
  induction xs with
  | nil => intro i j hi; simp at hi
  | cons x xs ih =>
    intro i j hi hj
    have hf : flat ks (x :: xs) = rowOf ks x ++ flat ks xs := by simp [flat]
    have hl : (rowOf ks x).length = ks.length := by simp [rowOf]
    rw [hf]
    cases i with
    | zero =>
      rw [List.getElem?_append_left (by rw [hl]; omega)]
      simp [rowOf, rd, List.getElem?_range hj, hj]
    | succ i =>
      rw [List.getElem?_append_right (by rw [hl, Nat.add_mul]; omega), hl]
      have : (i + 1) * ks.length + j - ks.length = i * ks.length + j := by rw [Nat.add_mul]; omega
      rw [this, ih i j (by simpa using hi) hj]
      simp [rd]

theorem end_marker : True := trivial
end Go.Vs
