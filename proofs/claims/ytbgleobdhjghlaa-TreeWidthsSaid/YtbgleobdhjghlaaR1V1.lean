import Derived.Test.YtbgleobdhjghlaaVsQ
import Derived.Test.YtbgleobdhjghlaaProg
set_option linter.unusedVariables false
/- the sort's loops: states and conditions -/
namespace Go.Vs.R1
open Go Go.Proofs Go.Vs
def T (n : Nat) (l : List (Nat × IV)) : List (Option IV) := l.foldl (fun t p => t.set p.1 (some p.2)) (List.replicate n none)
abbrev i64 (n : Int) : IV := .int .i64 n
abbrev ro (xs : List (List Int)) : Option Blk := some (.ro [.u64, .i64] xs)
abbrev row (xs : List (List Int)) : Option Blk := some (.row 32 [.u64, .i64] xs)
def noKnow : Know := ⟨fun _ => none, fun _ _ => none, fun _ => none⟩
def rows2 (xs : List (List Int)) : Prop := ∀ x ∈ xs, ∃ a b, x = [a, b]
def key (x : List Int) : Int := x.getD 0 0
def sameF (xs zs : List (List Int)) : Prop := ∀ v : Int, zs.filter (fun x => decide (key x = v)) = xs.filter (fun x => decide (key x = v))
def srt (n : Nat) (zs : List (List Int)) : Prop := ∀ p q : Nat, p < q → q < n → rd zs p 0 ≤ rd zs q 0
/-- what a sorted list is of another -/
structure Sorted (xs zs : List (List Int)) : Prop where
  len : zs.length = xs.length
  same : sameF xs zs
  up : srt zs.length zs
  two : rows2 zs

/-! r6.By -/
def S16 (xs zs : List (List Int)) (i : Int) : St := ⟨T 53 [(3, .sl 1), (4, i64 i)], [ro xs, row zs]⟩
def S16a (xs zs : List (List Int)) (i j : Int) : St := ⟨T 53 [(3, .sl 1), (4, i64 i), (5, i64 j)], [ro xs, row zs]⟩
def L16a : LoopS := fun n0 st K => (n0 = 1 ∧ st = S16a (st.x 0) (st.x 1) (st.i 4) (st.i 4) ∧ rows2 (st.x 1) ∧ 1 ≤ st.i 4 ∧ st.i 4 < (st.x 1).length ∧ (st.x 1).length ≤ 1000000 ∧ srt (st.i 4).toNat (st.x 1)) ∧
  ∀ zs' : List (List Int), zs'.length = (st.x 1).length → sameF (st.x 1) zs' → srt ((st.i 4).toNat + 1) zs' → rows2 zs' → K (.exit 2) (S16 (st.x 0) zs' (st.i 4))
def L16 : LoopS := fun n0 st K => (n0 = 1 ∧ st = S16 (st.x 0) (st.x 1) 1 ∧ rows2 (st.x 1) ∧ (st.x 1).length ≤ 1000000) ∧
  ∀ zs' : List (List Int), Sorted (st.x 1) zs' → K (.exit 0) ⟨T 53 [(3, .sl 1)], [ro (st.x 0), row zs']⟩
def N16 : Know := ⟨fun _ => none, fun f i => if f = 16 then (if i = 0 then some L16 else if i = 1 then some L16a else none) else none, fun _ => none⟩
theorem r16a (N : Know) (xs zs : List (List Int)) (i j : Int) (k : Out → St → Prop) : (round (envOf Try.prog N 0) 16 1 1 (lp Try.prog 16 1) (S16a xs zs i j) k) = (br (decide (j > 0))
  ((0 ≤ j ∧ j < (↑zs.length : Int)) ∧
    (0 ≤ j ∧ j < (↑zs.length : Int)) ∧
      (0 ≤ IntKind.i64.wrap (j - 1) ∧ IntKind.i64.wrap (j - 1) < (↑zs.length : Int)) ∧
        (0 ≤ IntKind.i64.wrap (j - 1) ∧ IntKind.i64.wrap (j - 1) < (↑zs.length : Int)) ∧
          br (decide (rd zs j.toNat 0 < rd zs (IntKind.i64.wrap (j - 1)).toNat 0))
            ((0 ≤ j ∧ j < (↑zs.length : Int)) ∧
              (0 ≤ j ∧ j < (↑zs.length : Int)) ∧
                (0 ≤ IntKind.i64.wrap (j - 1) ∧ IntKind.i64.wrap (j - 1) < (↑zs.length : Int)) ∧
                  (0 ≤ IntKind.i64.wrap (j - 1) ∧ IntKind.i64.wrap (j - 1) < (↑zs.length : Int)) ∧
                    (0 ≤ j ∧ j < (↑zs.length : Int)) ∧
                      (0 ≤ j ∧ j < (↑zs.length : Int)) ∧
                        (0 ≤ IntKind.i64.wrap (j - 1) ∧
                            IntKind.i64.wrap (j - 1) <
                              (↑(zs.modify j.toNat fun x =>
                                      [rd zs (IntKind.i64.wrap (j - 1)).toNat 0,
                                        rd zs (IntKind.i64.wrap (j - 1)).toNat 1]).length :
                                Int)) ∧
                          (0 ≤ IntKind.i64.wrap (j - 1) ∧
                              IntKind.i64.wrap (j - 1) <
                                (↑(zs.modify j.toNat fun x =>
                                        [rd zs (IntKind.i64.wrap (j - 1)).toNat 0,
                                          rd zs (IntKind.i64.wrap (j - 1)).toNat 1]).length :
                                  Int)) ∧
                            k Out.normal
                              (St.mk
                                [none, none, none, some (IV.sl 1), some (IV.int IntKind.i64 i),
                                  some (IV.int IntKind.i64 (IntKind.i64.wrap (j - 1))), none, none, none, none, none,
                                  none, none, none, none, none, none, none, none, none, none, none, none, none, none,
                                  none, none, none, none, none, none, none, none, none, none, none, none, none, none,
                                  none, none, none, none, none, none, none, none, none, none, none, none, none, none]
                                [some (Blk.ro [IntKind.u64, IntKind.i64] xs),
                                  some
                                    (Blk.row 32 [IntKind.u64, IntKind.i64]
                                      ((zs.modify j.toNat fun x =>
                                            [rd zs (IntKind.i64.wrap (j - 1)).toNat 0,
                                              rd zs (IntKind.i64.wrap (j - 1)).toNat 1]).modify
                                        (IntKind.i64.wrap (j - 1)).toNat fun x =>
                                        [rd zs j.toNat 0, rd zs j.toNat 1]))]))
            (k (Out.exit 2)
              (St.mk
                [none, none, none, some (IV.sl 1), some (IV.int IntKind.i64 i), none, none, none, none, none, none,
                  none, none, none, none, none, none, none, none, none, none, none, none, none, none, none, none, none,
                  none, none, none, none, none, none, none, none, none, none, none, none, none, none, none, none, none,
                  none, none, none, none, none, none, none, none]
                [some (Blk.ro [IntKind.u64, IntKind.i64] xs), some (Blk.row 32 [IntKind.u64, IntKind.i64] zs)])))
  (k (Out.exit 2)
    (St.mk
      [none, none, none, some (IV.sl 1), some (IV.int IntKind.i64 i), none, none, none, none, none, none, none, none,
        none, none, none, none, none, none, none, none, none, none, none, none, none, none, none, none, none, none,
        none, none, none, none, none, none, none, none, none, none, none, none, none, none, none, none, none, none,
        none, none, none, none]
      [some (Blk.ro [IntKind.u64, IntKind.i64] xs), some (Blk.row 32 [IntKind.u64, IntKind.i64] zs)]))) := by kernel_rfl
theorem r16 (xs zs : List (List Int)) (i : Int) (k : Out → St → Prop) : (round (envOf Try.prog N16 0) 16 1 0 (lp Try.prog 16 0) (S16 xs zs i) k) = (br (decide (i < (↑zs.length : Int)))
  ((1 = 1 ∧
      St.mk
            [none, none, none, some (IV.sl 1), some (IV.int IntKind.i64 i), some (IV.int IntKind.i64 i), none, none,
              none, none, none, none, none, none, none, none, none, none, none, none, none, none, none, none, none,
              none, none, none, none, none, none, none, none, none, none, none, none, none, none, none, none, none,
              none, none, none, none, none, none, none, none, none, none, none]
            [some (Blk.ro [IntKind.u64, IntKind.i64] xs), some (Blk.row 32 [IntKind.u64, IntKind.i64] zs)] =
          St.mk
            [none, none, none, some (IV.sl 1), some (IV.int IntKind.i64 i), some (IV.int IntKind.i64 i), none, none,
              none, none, none, none, none, none, none, none, none, none, none, none, none, none, none, none, none,
              none, none, none, none, none, none, none, none, none, none, none, none, none, none, none, none, none,
              none, none, none, none, none, none, none, none, none, none, none]
            [some (Blk.ro [IntKind.u64, IntKind.i64] xs), some (Blk.row 32 [IntKind.u64, IntKind.i64] zs)] ∧
        rows2 zs ∧ 1 ≤ i ∧ i < (↑zs.length : Int) ∧ zs.length ≤ 1000000 ∧ srt i.toNat zs) ∧
    ∀ (zs' : List (List Int)),
      zs'.length = zs.length →
        sameF zs zs' →
          srt (i.toNat + 1) zs' →
            rows2 zs' →
              k Out.normal
                (St.mk
                  [none, none, none, some (IV.sl 1), some (IV.int IntKind.i64 (IntKind.i64.wrap (i + 1))), none, none,
                    none, none, none, none, none, none, none, none, none, none, none, none, none, none, none, none,
                    none, none, none, none, none, none, none, none, none, none, none, none, none, none, none, none,
                    none, none, none, none, none, none, none, none, none, none, none, none, none, none]
                  [some (Blk.ro [IntKind.u64, IntKind.i64] xs), some (Blk.row 32 [IntKind.u64, IntKind.i64] zs')]))
  (k (Out.exit 0)
    (St.mk
      [none, none, none, some (IV.sl 1), none, none, none, none, none, none, none, none, none, none, none, none, none,
        none, none, none, none, none, none, none, none, none, none, none, none, none, none, none, none, none, none,
        none, none, none, none, none, none, none, none, none, none, none, none, none, none, none, none, none, none]
      [some (Blk.ro [IntKind.u64, IntKind.i64] xs), some (Blk.row 32 [IntKind.u64, IntKind.i64] zs)]))) := by kernel_rfl
theorem v16 (xs : List (List Int)) (K : IV → List Blk → Prop) : (comes Try.prog N16 1 16 [.sl 0] [.ro [.u64, .i64] xs] K) = ((0 + xs.length) * 16 ≤ 140737488355328 ∧
  ((List.map some [Blk.ro [IntKind.u64, IntKind.i64] xs]).length = 1 ∧
      St.mk
            [none, none, none, some (IV.sl 1), some (IV.int IntKind.i64 1), none, none, none, none, none, none, none,
              none, none, none, none, none, none, none, none, none, none, none, none, none, none, none, none, none,
              none, none, none, none, none, none, none, none, none, none, none, none, none, none, none, none, none,
              none, none, none, none, none, none, none]
            [some (Blk.ro [IntKind.u64, IntKind.i64] xs),
              some (Blk.row 32 [IntKind.u64, IntKind.i64] (List.replicate 0 (List.replicate 2 0) ++ xs))] =
          St.mk
            [none, none, none, some (IV.sl 1), some (IV.int IntKind.i64 1), none, none, none, none, none, none, none,
              none, none, none, none, none, none, none, none, none, none, none, none, none, none, none, none, none,
              none, none, none, none, none, none, none, none, none, none, none, none, none, none, none, none, none,
              none, none, none, none, none, none, none]
            [some (Blk.ro [IntKind.u64, IntKind.i64] xs),
              some (Blk.row 32 [IntKind.u64, IntKind.i64] (List.replicate 0 (List.replicate 2 0) ++ xs))] ∧
        rows2 (List.replicate 0 (List.replicate 2 0) ++ xs) ∧
          (List.replicate 0 (List.replicate 2 0) ++ xs).length ≤ 1000000) ∧
    ∀ (zs' : List (List Int)),
      Sorted (List.replicate 0 (List.replicate 2 0) ++ xs) zs' → K (IV.sl 0) [Blk.row 32 [IntKind.u64, IntKind.i64] zs']) := by kernel_rfl

/-! SameKeyed -/
def S14 (xs ys : List (List Int)) (i : Int) : St := ⟨T 26 [(0, .sl 0), (1, .sl 1), (5, i64 i)], [ro xs, ro ys]⟩
noncomputable def L14 : LoopS := fun n0 st K => (n0 = 2 ∧ st = S14 (st.x 0) (st.x 1) 0 ∧ (st.x 0).length = (st.x 1).length ∧ rows2 (st.x 0) ∧ rows2 (st.x 1) ∧ (st.x 1).length ≤ 1000000) ∧
  br (bp (st.x 0 = st.x 1)) (K (.exit 0) ⟨T 26 [], [ro (st.x 0), ro (st.x 1)]⟩) (K .ret ⟨T 26 [(4, .bool false)], [ro (st.x 0), ro (st.x 1)]⟩)
noncomputable def N14 : Know := ⟨fun _ => none, fun f i => if f = 14 then (if i = 0 then some L14 else none) else none, fun _ => none⟩
theorem r14 (N : Know) (xs ys : List (List Int)) (i : Int) (k : Out → St → Prop) : (round (envOf Try.prog N 0) 14 2 0 (lp Try.prog 14 0) (S14 xs ys i) k) = (br (decide (i < (↑xs.length : Int)))
  ((0 ≤ i ∧ i < (↑xs.length : Int)) ∧
    (0 ≤ i ∧ i < (↑xs.length : Int)) ∧
      (0 ≤ i ∧ i < (↑ys.length : Int)) ∧
        (0 ≤ i ∧ i < (↑ys.length : Int)) ∧
          br
            (!eqCells (rowCells [IntKind.u64, IntKind.i64] xs i.toNat 0 2)
                (rowCells [IntKind.u64, IntKind.i64] ys i.toNat 0 2))
            (k Out.ret
              (St.mk
                [none, none, none, none, some (IV.bool false), none, none, none, none, none, none, none, none, none,
                  none, none, none, none, none, none, none, none, none, none, none, none]
                [some (Blk.ro [IntKind.u64, IntKind.i64] xs), some (Blk.ro [IntKind.u64, IntKind.i64] ys)]))
            (k Out.normal
              (St.mk
                [some (IV.sl 0), some (IV.sl 1), none, none, none, some (IV.int IntKind.i64 (IntKind.i64.wrap (i + 1))),
                  none, none, none, none, none, none, none, none, none, none, none, none, none, none, none, none, none,
                  none, none, none]
                [some (Blk.ro [IntKind.u64, IntKind.i64] xs), some (Blk.ro [IntKind.u64, IntKind.i64] ys)])))
  (k (Out.exit 0)
    (St.mk
      [none, none, none, none, none, none, none, none, none, none, none, none, none, none, none, none, none, none, none,
        none, none, none, none, none, none, none]
      [some (Blk.ro [IntKind.u64, IntKind.i64] xs), some (Blk.ro [IntKind.u64, IntKind.i64] ys)]))) := by kernel_rfl
theorem v14 (xs ys : List (List Int)) (K : IV → List Blk → Prop) : (comes Try.prog N14 1 14 [.sl 0, .sl 1] [.ro [.u64, .i64] xs, .ro [.u64, .i64] ys] K) = (br ((↑xs.length : Int) != (↑ys.length : Int)) (K (IV.bool false) [])
  (((List.map some [Blk.ro [IntKind.u64, IntKind.i64] xs, Blk.ro [IntKind.u64, IntKind.i64] ys]).length = 2 ∧
      St.mk
            [some (IV.sl 0), some (IV.sl 1), none, none, none, some (IV.int IntKind.i64 0), none, none, none, none,
              none, none, none, none, none, none, none, none, none, none, none, none, none, none, none, none]
            [some (Blk.ro [IntKind.u64, IntKind.i64] xs), some (Blk.ro [IntKind.u64, IntKind.i64] ys)] =
          St.mk
            [some (IV.sl 0), some (IV.sl 1), none, none, none, some (IV.int IntKind.i64 0), none, none, none, none,
              none, none, none, none, none, none, none, none, none, none, none, none, none, none, none, none]
            [some (Blk.ro [IntKind.u64, IntKind.i64] xs), some (Blk.ro [IntKind.u64, IntKind.i64] ys)] ∧
        xs.length = ys.length ∧ rows2 xs ∧ rows2 ys ∧ ys.length ≤ 1000000) ∧
    br (bp (xs = ys)) (K (IV.bool true) []) (K (IV.bool false) []))) := by kernel_rfl

/-! r6.Rising, sort.Rising -/
def S18 (xs : List (List Int)) (i : Int) : St := ⟨T 22 [(0, .sl 0), (3, i64 i)], [ro xs]⟩
noncomputable def L18 : LoopS := fun n0 st K => (n0 = 1 ∧ st = S18 (st.x 0) 1 ∧ (st.x 0).length ≤ 1000000) ∧ br (bp (srt (st.x 0).length (st.x 0))) (K (.exit 0) ⟨T 22 [], [ro (st.x 0)]⟩) (K .ret ⟨T 22 [(2, .bool false)], [ro (st.x 0)]⟩)
noncomputable def N18 : Know := ⟨fun _ => none, fun f i => if f = 18 then (if i = 0 then some L18 else none) else none, fun _ => none⟩
theorem r18 (N : Know) (xs : List (List Int)) (i : Int) (k : Out → St → Prop) : (round (envOf Try.prog N 0) 18 1 0 (lp Try.prog 18 0) (S18 xs i) k) = (br (decide (i < (↑xs.length : Int)))
  ((0 ≤ i ∧ i < (↑xs.length : Int)) ∧
    (0 ≤ i ∧ i < (↑xs.length : Int)) ∧
      (0 ≤ IntKind.i64.wrap (i - 1) ∧ IntKind.i64.wrap (i - 1) < (↑xs.length : Int)) ∧
        (0 ≤ IntKind.i64.wrap (i - 1) ∧ IntKind.i64.wrap (i - 1) < (↑xs.length : Int)) ∧
          br (decide (rd xs i.toNat 0 < rd xs (IntKind.i64.wrap (i - 1)).toNat 0))
            (k Out.ret
              (St.mk
                [none, none, some (IV.bool false), none, none, none, none, none, none, none, none, none, none, none,
                  none, none, none, none, none, none, none, none]
                [some (Blk.ro [IntKind.u64, IntKind.i64] xs)]))
            (k Out.normal
              (St.mk
                [some (IV.sl 0), none, none, some (IV.int IntKind.i64 (IntKind.i64.wrap (i + 1))), none, none, none,
                  none, none, none, none, none, none, none, none, none, none, none, none, none, none, none]
                [some (Blk.ro [IntKind.u64, IntKind.i64] xs)])))
  (k (Out.exit 0)
    (St.mk
      [none, none, none, none, none, none, none, none, none, none, none, none, none, none, none, none, none, none, none,
        none, none, none]
      [some (Blk.ro [IntKind.u64, IntKind.i64] xs)]))) := by kernel_rfl
theorem v18 (xs : List (List Int)) (K : IV → List Blk → Prop) : (comes Try.prog N18 1 18 [.sl 0] [.ro [.u64, .i64] xs] K) = (((List.map some [Blk.ro [IntKind.u64, IntKind.i64] xs]).length = 1 ∧
    St.mk
          [some (IV.sl 0), none, none, some (IV.int IntKind.i64 1), none, none, none, none, none, none, none, none,
            none, none, none, none, none, none, none, none, none, none]
          [some (Blk.ro [IntKind.u64, IntKind.i64] xs)] =
        St.mk
          [some (IV.sl 0), none, none, some (IV.int IntKind.i64 1), none, none, none, none, none, none, none, none,
            none, none, none, none, none, none, none, none, none, none]
          [some (Blk.ro [IntKind.u64, IntKind.i64] xs)] ∧
      xs.length ≤ 1000000) ∧
  br (bp (srt xs.length xs)) (K (IV.bool true) []) (K (IV.bool false) [])) := by kernel_rfl
def S17 (xs ys : List (List Int)) (i : Int) : St := ⟨T 25 [(0, .sl 0), (9, .sl 1), (10, i64 ys.length), (11, i64 i)], [ro xs, ro ys]⟩
noncomputable def L17 : LoopS := fun n0 st K => (n0 = 1 ∧ st = S17 (st.x 0) (st.x 1) 0 ∧ (st.x 0).length ≤ 1000000 ∧ st.x 1 = (st.x 0).drop 1) ∧ br (bp (srt (st.x 0).length (st.x 0))) (K (.exit 0) ⟨T 25 [], [ro (st.x 0)]⟩) (K .ret ⟨T 25 [(2, .bool false)], [ro (st.x 0)]⟩)
noncomputable def N17 : Know := ⟨fun _ => none, fun f i => if f = 17 then (if i = 0 then some L17 else none) else none, fun _ => none⟩
theorem r17 (N : Know) (xs ys : List (List Int)) (i : Int) (k : Out → St → Prop) : (round (envOf Try.prog N 0) 17 1 0 (lp Try.prog 17 0) (S17 xs ys i) k) = (br (decide (i < (↑ys.length : Int)))
  ((0 ≤ i ∧ i < (↑ys.length : Int)) ∧
    (0 ≤ i ∧ i < (↑ys.length : Int)) ∧
      (0 ≤ i ∧ i < (↑xs.length : Int)) ∧
        (0 ≤ i ∧ i < (↑xs.length : Int)) ∧
          br (decide (rd ys i.toNat 0 < rd xs i.toNat 0))
            (k Out.ret
              (St.mk
                [none, none, some (IV.bool false), none, none, none, none, none, none, none, none, none, none, none,
                  none, none, none, none, none, none, none, none, none, none, none]
                [some (Blk.ro [IntKind.u64, IntKind.i64] xs)]))
            (k Out.normal
              (St.mk
                [some (IV.sl 0), none, none, none, none, none, none, none, none, some (IV.sl 1),
                  some (IV.int IntKind.i64 (↑ys.length : Int)), some (IV.int IntKind.i64 (IntKind.i64.wrap (i + 1))),
                  none, none, none, none, none, none, none, none, none, none, none, none, none]
                [some (Blk.ro [IntKind.u64, IntKind.i64] xs), some (Blk.ro [IntKind.u64, IntKind.i64] ys)])))
  (k (Out.exit 0)
    (St.mk
      [none, none, none, none, none, none, none, none, none, none, none, none, none, none, none, none, none, none, none,
        none, none, none, none, none, none]
      [some (Blk.ro [IntKind.u64, IntKind.i64] xs)]))) := by kernel_rfl
theorem v17 (xs : List (List Int)) (K : IV → List Blk → Prop) : (comes Try.prog N17 1 17 [.sl 0] [.ro [.u64, .i64] xs] K) = ((0 ≤ mn IntKind.i64 1 (↑xs.length : Int) ∧
    mn IntKind.i64 1 (↑xs.length : Int) ≤ (↑xs.length : Int) ∧ (↑xs.length : Int) ≤ (↑xs.length : Int)) ∧
  ((List.map some [Blk.ro [IntKind.u64, IntKind.i64] xs]).length = 1 ∧
      St.mk
            [some (IV.sl 0), none, none, none, none, none, none, none, none, some (IV.sl 1),
              some
                (IV.int IntKind.i64
                  (↑(List.drop (mn IntKind.i64 1 (↑xs.length : Int)).toNat
                          (List.take (↑xs.length : Int).toNat xs)).length :
                    Int)),
              some (IV.int IntKind.i64 0), none, none, none, none, none, none, none, none, none, none, none, none, none]
            [some (Blk.ro [IntKind.u64, IntKind.i64] xs),
              some
                (Blk.ro [IntKind.u64, IntKind.i64]
                  (List.drop (mn IntKind.i64 1 (↑xs.length : Int)).toNat (List.take (↑xs.length : Int).toNat xs)))] =
          St.mk
            [some (IV.sl 0), none, none, none, none, none, none, none, none, some (IV.sl 1),
              some
                (IV.int IntKind.i64
                  (↑(List.drop (mn IntKind.i64 1 (↑xs.length : Int)).toNat
                          (List.take (↑xs.length : Int).toNat xs)).length :
                    Int)),
              some (IV.int IntKind.i64 0), none, none, none, none, none, none, none, none, none, none, none, none, none]
            [some (Blk.ro [IntKind.u64, IntKind.i64] xs),
              some
                (Blk.ro [IntKind.u64, IntKind.i64]
                  (List.drop (mn IntKind.i64 1 (↑xs.length : Int)).toNat (List.take (↑xs.length : Int).toNat xs)))] ∧
        xs.length ≤ 1000000 ∧
          List.drop (mn IntKind.i64 1 (↑xs.length : Int)).toNat (List.take (↑xs.length : Int).toNat xs) =
            List.drop 1 xs) ∧
    br (bp (srt xs.length xs)) (K (IV.bool true) []) (K (IV.bool false) [])) := by kernel_rfl
theorem v28 (xs : List (List Int)) (K : IV → List Blk → Prop) : (comes Try.prog noKnow 1 28 [.sl 0] [.ro [.u64, .i64] xs] K) = (∀ (q : Bool),
  (q = true → xs = []) →
    br q (K (IV.sl 0) [Blk.row 32 [IntKind.u64, IntKind.i64] []])
      ((0 + xs.length) * 16 ≤ 140737488355328 ∧
        K (IV.sl 0) [Blk.row 32 [IntKind.u64, IntKind.i64] (List.replicate 0 (List.replicate 2 0) ++ xs)])) := by kernel_rfl

