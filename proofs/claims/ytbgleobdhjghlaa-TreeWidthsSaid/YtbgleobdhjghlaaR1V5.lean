import Derived.Test.YtbgleobdhjghlaaR1F6
set_option linter.unusedVariables false
/- SortStays -/
namespace Go.Vs.R1
open Go Go.Proofs Go.Vs
noncomputable def Γm : FuncId → Option Vs.Spec := fun g => if g = 19 then some spMake else Γs g
noncomputable def Nm : Know := ⟨Γm, fun _ _ => none, fun _ => none⟩
def B4 (ns xs ys : List (List Int)) (cs : List (List Int)) : List (Option Blk) := [some (.ro [.u8] ns), row xs, row ys, some (.row 3 [.i64] cs)]
def S4a (ns xs ys cs : List (List Int)) (i : Int) : St := ⟨T 135 [(3, .sl 1), (4, .sl 2), (5, .sl 3), (6, i64 i)], B4 ns xs ys cs⟩
def S4b (ns ys cs : List (List Int)) (i : Int) : St := ⟨T 135 [(4, .sl 1), (5, .sl 2), (7, i64 i)], [some (.ro [.u8] ns), row ys, some (.row 3 [.i64] cs)]⟩
def ones (n : Nat) : List (List Int) := List.replicate n [1]
noncomputable def L4a : LoopS := fun n0 st K => (n0 = 1 ∧ st = S4a (st.x 0) (makeF (st.x 0)) (sortF (makeF (st.x 0))) (List.replicate (makeF (st.x 0)).length [0]) 0) ∧ K (.exit 0) ⟨T 135 [(4, .sl 1), (5, .sl 2)], [some (.ro [.u8] (st.x 0)), row (sortF (makeF (st.x 0))), some (.row 3 [.i64] (ones (makeF (st.x 0)).length))]⟩
noncomputable def L4b : LoopS := fun n0 st K => (n0 = 1 ∧ st = S4b (st.x 0) (st.x 1) (ones (st.x 2).length) 0 ∧ (st.x 2).length ≤ 100) ∧ K (.exit 2) ⟨T 135 [(4, .sl 1)], [some (.ro [.u8] (st.x 0)), row (st.x 1)]⟩
noncomputable def N4 : Know := ⟨Γm, fun f i => if f = 4 then (if i = 0 then some L4a else if i = 1 then some L4b else none) else none, fun _ => none⟩
theorem r4a (N : Know) (ns xs ys cs : List (List Int)) (i : Int) (k : Out → St → Prop) : (round (envOf Try.prog N 0) 4 1 0 (lp Try.prog 4 0) (S4a ns xs ys cs i) k) = (br (decide (i < (↑ys.length : Int)))
  (((0 : Int) ≤ i ∧ i < (↑ys.length : Int)) ∧
    ((0 : Int) ≤ i ∧ i < (↑ys.length : Int)) ∧
      br (decide (rd ys i.toNat (1 : Nat) < (0 : Int)))
        (k Out.ret
          (St.mk
            [none, none, some (IV.bool false), none, none, none, none, none, none, none, none, none, none, none, none,
              none, none, none, none, none, none, none, none, none, none, none, none, none, none, none, none, none,
              none, none, none, none, none, none, none, none, none, none, none, none, none, none, none, none, none,
              none, none, none, none, none, none, none, none, none, none, none, none, none, none, none, none, none,
              none, none, none, none, none, none, none, none, none, none, none, none, none, none, none, none, none,
              none, none, none, none, none, none, none, none, none, none, none, none, none, none, none, none, none,
              none, none, none, none, none, none, none, none, none, none, none, none, none, none, none, none, none,
              none, none, none, none, none, none, none, none, none, none, none, none, none, none, none, none, none,
              none]
            [some (Blk.ro [IntKind.u8] ns)]))
        (((0 : Int) ≤ i ∧ i < (↑ys.length : Int)) ∧
          ((0 : Int) ≤ i ∧ i < (↑ys.length : Int)) ∧
            br (decide (rd ys i.toNat (1 : Nat) ≥ (↑xs.length : Int)))
              (k Out.ret
                (St.mk
                  [none, none, some (IV.bool false), none, none, none, none, none, none, none, none, none, none, none,
                    none, none, none, none, none, none, none, none, none, none, none, none, none, none, none, none,
                    none, none, none, none, none, none, none, none, none, none, none, none, none, none, none, none,
                    none, none, none, none, none, none, none, none, none, none, none, none, none, none, none, none,
                    none, none, none, none, none, none, none, none, none, none, none, none, none, none, none, none,
                    none, none, none, none, none, none, none, none, none, none, none, none, none, none, none, none,
                    none, none, none, none, none, none, none, none, none, none, none, none, none, none, none, none,
                    none, none, none, none, none, none, none, none, none, none, none, none, none, none, none, none,
                    none, none, none, none, none, none, none, none, none]
                  [some (Blk.ro [IntKind.u8] ns)]))
              (((0 : Int) ≤ i ∧ i < (↑ys.length : Int)) ∧
                ((0 : Int) ≤ i ∧ i < (↑ys.length : Int)) ∧
                  ((0 : Int) ≤ i ∧ i < (↑ys.length : Int)) ∧
                    ((0 : Int) ≤ i ∧ i < (↑ys.length : Int)) ∧
                      ((0 : Int) ≤ rd ys i.toNat (1 : Nat) ∧ rd ys i.toNat (1 : Nat) < (↑xs.length : Int)) ∧
                        ((0 : Int) ≤ rd ys i.toNat (1 : Nat) ∧ rd ys i.toNat (1 : Nat) < (↑xs.length : Int)) ∧
                          br
                            (!eqCells
                                [IV.int IntKind.u64 (rd ys i.toNat (0 : Nat)),
                                  IV.int IntKind.i64 (rd ys i.toNat (1 : Nat))]
                                [IV.int IntKind.u64 (rd xs (rd ys i.toNat (1 : Nat)).toNat (0 : Nat)),
                                  IV.int IntKind.i64 (rd xs (rd ys i.toNat (1 : Nat)).toNat (1 : Nat))])
                            (k Out.ret
                              (St.mk
                                [none, none, some (IV.bool false), none, none, none, none, none, none, none, none, none,
                                  none, none, none, none, none, none, none, none, none, none, none, none, none, none,
                                  none, none, none, none, none, none, none, none, none, none, none, none, none, none,
                                  none, none, none, none, none, none, none, none, none, none, none, none, none, none,
                                  none, none, none, none, none, none, none, none, none, none, none, none, none, none,
                                  none, none, none, none, none, none, none, none, none, none, none, none, none, none,
                                  none, none, none, none, none, none, none, none, none, none, none, none, none, none,
                                  none, none, none, none, none, none, none, none, none, none, none, none, none, none,
                                  none, none, none, none, none, none, none, none, none, none, none, none, none, none,
                                  none, none, none, none, none, none, none, none, none, none, none]
                                [some (Blk.ro [IntKind.u8] ns)]))
                            (br (decide (i > (0 : Int)))
                              (((0 : Int) ≤ i ∧ i < (↑ys.length : Int)) ∧
                                ((0 : Int) ≤ i ∧ i < (↑ys.length : Int)) ∧
                                  ((0 : Int) ≤ IntKind.i64.wrap (i - (1 : Int)) ∧
                                      IntKind.i64.wrap (i - (1 : Int)) < (↑ys.length : Int)) ∧
                                    ((0 : Int) ≤ IntKind.i64.wrap (i - (1 : Int)) ∧
                                        IntKind.i64.wrap (i - (1 : Int)) < (↑ys.length : Int)) ∧
                                      br
                                        (decide
                                          (rd ys i.toNat (0 : Nat) <
                                            rd ys (IntKind.i64.wrap (i - (1 : Int))).toNat (0 : Nat)))
                                        (k Out.ret
                                          (St.mk
                                            [none, none, some (IV.bool false), none, none, none, none, none, none, none,
                                              none, none, none, none, none, none, none, none, none, none, none, none,
                                              none, none, none, none, none, none, none, none, none, none, none, none,
                                              none, none, none, none, none, none, none, none, none, none, none, none,
                                              none, none, none, none, none, none, none, none, none, none, none, none,
                                              none, none, none, none, none, none, none, none, none, none, none, none,
                                              none, none, none, none, none, none, none, none, none, none, none, none,
                                              none, none, none, none, none, none, none, none, none, none, none, none,
                                              none, none, none, none, none, none, none, none, none, none, none, none,
                                              none, none, none, none, none, none, none, none, none, none, none, none,
                                              none, none, none, none, none, none, none, none, none, none, none, none,
                                              none, none, none, none, none]
                                            [some (Blk.ro [IntKind.u8] ns)]))
                                        (((0 : Int) ≤ i ∧ i < (↑ys.length : Int)) ∧
                                          ((0 : Int) ≤ i ∧ i < (↑ys.length : Int)) ∧
                                            ((0 : Int) ≤ IntKind.i64.wrap (i - (1 : Int)) ∧
                                                IntKind.i64.wrap (i - (1 : Int)) < (↑ys.length : Int)) ∧
                                              ((0 : Int) ≤ IntKind.i64.wrap (i - (1 : Int)) ∧
                                                  IntKind.i64.wrap (i - (1 : Int)) < (↑ys.length : Int)) ∧
                                                br
                                                  (rd ys i.toNat (0 : Nat) ==
                                                    rd ys (IntKind.i64.wrap (i - (1 : Int))).toNat (0 : Nat))
                                                  (((0 : Int) ≤ i ∧ i < (↑ys.length : Int)) ∧
                                                    ((0 : Int) ≤ i ∧ i < (↑ys.length : Int)) ∧
                                                      ((0 : Int) ≤ IntKind.i64.wrap (i - (1 : Int)) ∧
                                                          IntKind.i64.wrap (i - (1 : Int)) < (↑ys.length : Int)) ∧
                                                        ((0 : Int) ≤ IntKind.i64.wrap (i - (1 : Int)) ∧
                                                            IntKind.i64.wrap (i - (1 : Int)) < (↑ys.length : Int)) ∧
                                                          br
                                                            (decide
                                                              (rd ys i.toNat (1 : Nat) <
                                                                rd ys (IntKind.i64.wrap (i - (1 : Int))).toNat
                                                                  (1 : Nat)))
                                                            (k Out.ret
                                                              (St.mk
                                                                [none, none, some (IV.bool false), none, none, none,
                                                                  none, none, none, none, none, none, none, none, none,
                                                                  none, none, none, none, none, none, none, none, none,
                                                                  none, none, none, none, none, none, none, none, none,
                                                                  none, none, none, none, none, none, none, none, none,
                                                                  none, none, none, none, none, none, none, none, none,
                                                                  none, none, none, none, none, none, none, none, none,
                                                                  none, none, none, none, none, none, none, none, none,
                                                                  none, none, none, none, none, none, none, none, none,
                                                                  none, none, none, none, none, none, none, none, none,
                                                                  none, none, none, none, none, none, none, none, none,
                                                                  none, none, none, none, none, none, none, none, none,
                                                                  none, none, none, none, none, none, none, none, none,
                                                                  none, none, none, none, none, none, none, none, none,
                                                                  none, none, none, none, none, none, none, none, none,
                                                                  none, none, none]
                                                                [some (Blk.ro [IntKind.u8] ns)]))
                                                            (((0 : Int) ≤ i ∧ i < (↑ys.length : Int)) ∧
                                                              ((0 : Int) ≤ i ∧ i < (↑ys.length : Int)) ∧
                                                                ((0 : Int) ≤ rd ys i.toNat (1 : Nat) ∧
                                                                    rd ys i.toNat (1 : Nat) < (↑cs.length : Int)) ∧
                                                                  ((0 : Int) ≤ rd ys i.toNat (1 : Nat) ∧
                                                                      rd ys i.toNat (1 : Nat) < (↑cs.length : Int)) ∧
                                                                    ((0 : Int) ≤ rd ys i.toNat (1 : Nat) ∧
                                                                        rd ys i.toNat (1 : Nat) < (↑cs.length : Int)) ∧
                                                                      ((0 : Int) ≤ rd ys i.toNat (1 : Nat) ∧
                                                                          rd ys i.toNat (1 : Nat) <
                                                                            (↑cs.length : Int)) ∧
                                                                        k Out.normal
                                                                          (St.mk
                                                                            [none, none, none, some (IV.sl (1 : Nat)),
                                                                              some (IV.sl (2 : Nat)),
                                                                              some (IV.sl (3 : Nat)),
                                                                              some
                                                                                (IV.int IntKind.i64
                                                                                  (IntKind.i64.wrap (i + (1 : Int)))),
                                                                              none, none, none, none, none, none, none,
                                                                              none, none, none, none, none, none, none,
                                                                              none, none, none, none, none, none, none,
                                                                              none, none, none, none, none, none, none,
                                                                              none, none, none, none, none, none, none,
                                                                              none, none, none, none, none, none, none,
                                                                              none, none, none, none, none, none, none,
                                                                              none, none, none, none, none, none, none,
                                                                              none, none, none, none, none, none, none,
                                                                              none, none, none, none, none, none, none,
                                                                              none, none, none, none, none, none, none,
                                                                              none, none, none, none, none, none, none,
                                                                              none, none, none, none, none, none, none,
                                                                              none, none, none, none, none, none, none,
                                                                              none, none, none, none, none, none, none,
                                                                              none, none, none, none, none, none, none,
                                                                              none, none, none, none, none, none, none,
                                                                              none, none, none, none, none, none, none,
                                                                              none, none]
                                                                            [some (Blk.ro [IntKind.u8] ns),
                                                                              some
                                                                                (Blk.row (32 : Nat)
                                                                                  [IntKind.u64, IntKind.i64] xs),
                                                                              some
                                                                                (Blk.row (32 : Nat)
                                                                                  [IntKind.u64, IntKind.i64] ys),
                                                                              some
                                                                                (Blk.row (3 : Nat) [IntKind.i64]
                                                                                  (cs.modify
                                                                                    (rd ys i.toNat (1 : Nat)).toNat
                                                                                    fun x =>
                                                                                    [IntKind.i64.wrap
                                                                                        (rd cs
                                                                                            (rd ys i.toNat
                                                                                                (1 : Nat)).toNat
                                                                                            (0 : Nat) +
                                                                                          (1 : Int))]))])))
                                                  (((0 : Int) ≤ i ∧ i < (↑ys.length : Int)) ∧
                                                    ((0 : Int) ≤ i ∧ i < (↑ys.length : Int)) ∧
                                                      ((0 : Int) ≤ rd ys i.toNat (1 : Nat) ∧
                                                          rd ys i.toNat (1 : Nat) < (↑cs.length : Int)) ∧
                                                        ((0 : Int) ≤ rd ys i.toNat (1 : Nat) ∧
                                                            rd ys i.toNat (1 : Nat) < (↑cs.length : Int)) ∧
                                                          ((0 : Int) ≤ rd ys i.toNat (1 : Nat) ∧
                                                              rd ys i.toNat (1 : Nat) < (↑cs.length : Int)) ∧
                                                            ((0 : Int) ≤ rd ys i.toNat (1 : Nat) ∧
                                                                rd ys i.toNat (1 : Nat) < (↑cs.length : Int)) ∧
                                                              k Out.normal
                                                                (St.mk
                                                                  [none, none, none, some (IV.sl (1 : Nat)),
                                                                    some (IV.sl (2 : Nat)), some (IV.sl (3 : Nat)),
                                                                    some
                                                                      (IV.int IntKind.i64
                                                                        (IntKind.i64.wrap (i + (1 : Int)))),
                                                                    none, none, none, none, none, none, none, none,
                                                                    none, none, none, none, none, none, none, none,
                                                                    none, none, none, none, none, none, none, none,
                                                                    none, none, none, none, none, none, none, none,
                                                                    none, none, none, none, none, none, none, none,
                                                                    none, none, none, none, none, none, none, none,
                                                                    none, none, none, none, none, none, none, none,
                                                                    none, none, none, none, none, none, none, none,
                                                                    none, none, none, none, none, none, none, none,
                                                                    none, none, none, none, none, none, none, none,
                                                                    none, none, none, none, none, none, none, none,
                                                                    none, none, none, none, none, none, none, none,
                                                                    none, none, none, none, none, none, none, none,
                                                                    none, none, none, none, none, none, none, none,
                                                                    none, none, none, none, none, none, none, none,
                                                                    none, none, none, none, none, none, none, none]
                                                                  [some (Blk.ro [IntKind.u8] ns),
                                                                    some
                                                                      (Blk.row (32 : Nat) [IntKind.u64, IntKind.i64]
                                                                        xs),
                                                                    some
                                                                      (Blk.row (32 : Nat) [IntKind.u64, IntKind.i64]
                                                                        ys),
                                                                    some
                                                                      (Blk.row (3 : Nat) [IntKind.i64]
                                                                        (cs.modify (rd ys i.toNat (1 : Nat)).toNat
                                                                          fun x =>
                                                                          [IntKind.i64.wrap
                                                                              (rd cs (rd ys i.toNat (1 : Nat)).toNat
                                                                                  (0 : Nat) +
                                                                                (1 : Int))]))]))))
                              (((0 : Int) ≤ i ∧ i < (↑ys.length : Int)) ∧
                                ((0 : Int) ≤ i ∧ i < (↑ys.length : Int)) ∧
                                  ((0 : Int) ≤ rd ys i.toNat (1 : Nat) ∧ rd ys i.toNat (1 : Nat) < (↑cs.length : Int)) ∧
                                    ((0 : Int) ≤ rd ys i.toNat (1 : Nat) ∧
                                        rd ys i.toNat (1 : Nat) < (↑cs.length : Int)) ∧
                                      ((0 : Int) ≤ rd ys i.toNat (1 : Nat) ∧
                                          rd ys i.toNat (1 : Nat) < (↑cs.length : Int)) ∧
                                        ((0 : Int) ≤ rd ys i.toNat (1 : Nat) ∧
                                            rd ys i.toNat (1 : Nat) < (↑cs.length : Int)) ∧
                                          k Out.normal
                                            (St.mk
                                              [none, none, none, some (IV.sl (1 : Nat)), some (IV.sl (2 : Nat)),
                                                some (IV.sl (3 : Nat)),
                                                some (IV.int IntKind.i64 (IntKind.i64.wrap (i + (1 : Int)))), none,
                                                none, none, none, none, none, none, none, none, none, none, none, none,
                                                none, none, none, none, none, none, none, none, none, none, none, none,
                                                none, none, none, none, none, none, none, none, none, none, none, none,
                                                none, none, none, none, none, none, none, none, none, none, none, none,
                                                none, none, none, none, none, none, none, none, none, none, none, none,
                                                none, none, none, none, none, none, none, none, none, none, none, none,
                                                none, none, none, none, none, none, none, none, none, none, none, none,
                                                none, none, none, none, none, none, none, none, none, none, none, none,
                                                none, none, none, none, none, none, none, none, none, none, none, none,
                                                none, none, none, none, none, none, none, none, none, none, none, none,
                                                none, none, none, none, none, none, none]
                                              [some (Blk.ro [IntKind.u8] ns),
                                                some (Blk.row (32 : Nat) [IntKind.u64, IntKind.i64] xs),
                                                some (Blk.row (32 : Nat) [IntKind.u64, IntKind.i64] ys),
                                                some
                                                  (Blk.row (3 : Nat) [IntKind.i64]
                                                    (cs.modify (rd ys i.toNat (1 : Nat)).toNat fun x =>
                                                      [IntKind.i64.wrap
                                                          (rd cs (rd ys i.toNat (1 : Nat)).toNat (0 : Nat) +
                                                            (1 : Int))]))]))))))
  (k (Out.exit (0 : Nat))
    (St.mk
      [none, none, none, none, some (IV.sl (1 : Nat)), some (IV.sl (2 : Nat)), none, none, none, none, none, none, none,
        none, none, none, none, none, none, none, none, none, none, none, none, none, none, none, none, none, none,
        none, none, none, none, none, none, none, none, none, none, none, none, none, none, none, none, none, none,
        none, none, none, none, none, none, none, none, none, none, none, none, none, none, none, none, none, none,
        none, none, none, none, none, none, none, none, none, none, none, none, none, none, none, none, none, none,
        none, none, none, none, none, none, none, none, none, none, none, none, none, none, none, none, none, none,
        none, none, none, none, none, none, none, none, none, none, none, none, none, none, none, none, none, none,
        none, none, none, none, none, none, none, none, none, none, none, none, none, none]
      [some (Blk.ro [IntKind.u8] ns), some (Blk.row (32 : Nat) [IntKind.u64, IntKind.i64] ys),
        some (Blk.row (3 : Nat) [IntKind.i64] cs)]))) := by kernel_rfl
theorem r4b (N : Know) (ns ys cs : List (List Int)) (i : Int) (k : Out → St → Prop) : (round (envOf Try.prog N 0) 4 1 1 (lp Try.prog 4 1) (S4b ns ys cs i) k) = (br (decide (i < (↑cs.length : Int)))
  (((0 : Int) ≤ i ∧ i < (↑cs.length : Int)) ∧
    ((0 : Int) ≤ i ∧ i < (↑cs.length : Int)) ∧
      br (rd cs i.toNat (0 : Nat) != (1 : Int))
        (k Out.ret
          (St.mk
            [none, none, some (IV.bool false), none, none, none, none, none, none, none, none, none, none, none, none,
              none, none, none, none, none, none, none, none, none, none, none, none, none, none, none, none, none,
              none, none, none, none, none, none, none, none, none, none, none, none, none, none, none, none, none,
              none, none, none, none, none, none, none, none, none, none, none, none, none, none, none, none, none,
              none, none, none, none, none, none, none, none, none, none, none, none, none, none, none, none, none,
              none, none, none, none, none, none, none, none, none, none, none, none, none, none, none, none, none,
              none, none, none, none, none, none, none, none, none, none, none, none, none, none, none, none, none,
              none, none, none, none, none, none, none, none, none, none, none, none, none, none, none, none, none,
              none]
            [some (Blk.ro [IntKind.u8] ns)]))
        (k Out.normal
          (St.mk
            [none, none, none, none, some (IV.sl (1 : Nat)), some (IV.sl (2 : Nat)), none,
              some (IV.int IntKind.i64 (IntKind.i64.wrap (i + (1 : Int)))), none, none, none, none, none, none, none,
              none, none, none, none, none, none, none, none, none, none, none, none, none, none, none, none, none,
              none, none, none, none, none, none, none, none, none, none, none, none, none, none, none, none, none,
              none, none, none, none, none, none, none, none, none, none, none, none, none, none, none, none, none,
              none, none, none, none, none, none, none, none, none, none, none, none, none, none, none, none, none,
              none, none, none, none, none, none, none, none, none, none, none, none, none, none, none, none, none,
              none, none, none, none, none, none, none, none, none, none, none, none, none, none, none, none, none,
              none, none, none, none, none, none, none, none, none, none, none, none, none, none, none, none, none,
              none]
            [some (Blk.ro [IntKind.u8] ns), some (Blk.row (32 : Nat) [IntKind.u64, IntKind.i64] ys),
              some (Blk.row (3 : Nat) [IntKind.i64] cs)])))
  (k (Out.exit (2 : Nat))
    (St.mk
      [none, none, none, none, some (IV.sl (1 : Nat)), none, none, none, none, none, none, none, none, none, none, none,
        none, none, none, none, none, none, none, none, none, none, none, none, none, none, none, none, none, none,
        none, none, none, none, none, none, none, none, none, none, none, none, none, none, none, none, none, none,
        none, none, none, none, none, none, none, none, none, none, none, none, none, none, none, none, none, none,
        none, none, none, none, none, none, none, none, none, none, none, none, none, none, none, none, none, none,
        none, none, none, none, none, none, none, none, none, none, none, none, none, none, none, none, none, none,
        none, none, none, none, none, none, none, none, none, none, none, none, none, none, none, none, none, none,
        none, none, none, none, none, none, none, none, none, none, none]
      [some (Blk.ro [IntKind.u8] ns), some (Blk.row (32 : Nat) [IntKind.u64, IntKind.i64] ys)]))) := by kernel_rfl
theorem v4 (ns : List (List Int)) (K : IV → List Blk → Prop) : (comes Try.prog N4 1 4 [.sl 0] [.ro [.u8] ns] K) = (preBytes [IV.sl (0 : Nat)] [Blk.ro [IntKind.u8] ns] ∧
  preSort [IV.sl (0 : Nat)] [Blk.ro [IntKind.u64, IntKind.i64] (makeF ns)] ∧
    br ((↑(sortF (makeF ns)).length : Int) != (↑(makeF ns).length : Int)) (K (IV.bool false) [])
      (((0 : Int) ≤ (↑(makeF ns).length : Int) ∧
          (↑(makeF ns).length : Int) * (↑(8 : Nat) : Int) ≤ (140737488355328 : Int)) ∧
        ((1 : Nat) = (1 : Nat) ∧
            St.mk
                [none, none, none, some (IV.sl (1 : Nat)), some (IV.sl (2 : Nat)), some (IV.sl (3 : Nat)),
                  some (IV.int IntKind.i64 (0 : Int)), none, none, none, none, none, none, none, none, none, none, none,
                  none, none, none, none, none, none, none, none, none, none, none, none, none, none, none, none, none,
                  none, none, none, none, none, none, none, none, none, none, none, none, none, none, none, none, none,
                  none, none, none, none, none, none, none, none, none, none, none, none, none, none, none, none, none,
                  none, none, none, none, none, none, none, none, none, none, none, none, none, none, none, none, none,
                  none, none, none, none, none, none, none, none, none, none, none, none, none, none, none, none, none,
                  none, none, none, none, none, none, none, none, none, none, none, none, none, none, none, none, none,
                  none, none, none, none, none, none, none, none, none, none, none, none, none, none, none]
                [some (Blk.ro [IntKind.u8] ns), some (Blk.row (32 : Nat) [IntKind.u64, IntKind.i64] (makeF ns)),
                  some (Blk.row (32 : Nat) [IntKind.u64, IntKind.i64] (sortF (makeF ns))),
                  some
                    (Blk.row (3 : Nat) [IntKind.i64]
                      (List.replicate (↑(makeF ns).length : Int).toNat (List.replicate (1 : Nat) (0 : Int))))] =
              St.mk
                [none, none, none, some (IV.sl (1 : Nat)), some (IV.sl (2 : Nat)), some (IV.sl (3 : Nat)),
                  some (IV.int IntKind.i64 (0 : Int)), none, none, none, none, none, none, none, none, none, none, none,
                  none, none, none, none, none, none, none, none, none, none, none, none, none, none, none, none, none,
                  none, none, none, none, none, none, none, none, none, none, none, none, none, none, none, none, none,
                  none, none, none, none, none, none, none, none, none, none, none, none, none, none, none, none, none,
                  none, none, none, none, none, none, none, none, none, none, none, none, none, none, none, none, none,
                  none, none, none, none, none, none, none, none, none, none, none, none, none, none, none, none, none,
                  none, none, none, none, none, none, none, none, none, none, none, none, none, none, none, none, none,
                  none, none, none, none, none, none, none, none, none, none, none, none, none, none, none]
                [some (Blk.ro [IntKind.u8] ns), some (Blk.row (32 : Nat) [IntKind.u64, IntKind.i64] (makeF ns)),
                  some (Blk.row (32 : Nat) [IntKind.u64, IntKind.i64] (sortF (makeF ns))),
                  some (Blk.row (3 : Nat) [IntKind.i64] (List.replicate (makeF ns).length [(0 : Int)]))]) ∧
          ((1 : Nat) = (1 : Nat) ∧
              St.mk
                    [none, none, none, none, some (IV.sl (1 : Nat)), some (IV.sl (2 : Nat)), none,
                      some (IV.int IntKind.i64 (0 : Int)), none, none, none, none, none, none, none, none, none, none,
                      none, none, none, none, none, none, none, none, none, none, none, none, none, none, none, none,
                      none, none, none, none, none, none, none, none, none, none, none, none, none, none, none, none,
                      none, none, none, none, none, none, none, none, none, none, none, none, none, none, none, none,
                      none, none, none, none, none, none, none, none, none, none, none, none, none, none, none, none,
                      none, none, none, none, none, none, none, none, none, none, none, none, none, none, none, none,
                      none, none, none, none, none, none, none, none, none, none, none, none, none, none, none, none,
                      none, none, none, none, none, none, none, none, none, none, none, none, none, none, none, none,
                      none, none, none, none, none]
                    [some (Blk.ro [IntKind.u8] ns),
                      some (Blk.row (32 : Nat) [IntKind.u64, IntKind.i64] (sortF (makeF ns))),
                      some (Blk.row (3 : Nat) [IntKind.i64] (ones (makeF ns).length))] =
                  St.mk
                    [none, none, none, none, some (IV.sl (1 : Nat)), some (IV.sl (2 : Nat)), none,
                      some (IV.int IntKind.i64 (0 : Int)), none, none, none, none, none, none, none, none, none, none,
                      none, none, none, none, none, none, none, none, none, none, none, none, none, none, none, none,
                      none, none, none, none, none, none, none, none, none, none, none, none, none, none, none, none,
                      none, none, none, none, none, none, none, none, none, none, none, none, none, none, none, none,
                      none, none, none, none, none, none, none, none, none, none, none, none, none, none, none, none,
                      none, none, none, none, none, none, none, none, none, none, none, none, none, none, none, none,
                      none, none, none, none, none, none, none, none, none, none, none, none, none, none, none, none,
                      none, none, none, none, none, none, none, none, none, none, none, none, none, none, none, none,
                      none, none, none, none, none]
                    [some (Blk.ro [IntKind.u8] ns),
                      some (Blk.row (32 : Nat) [IntKind.u64, IntKind.i64] (sortF (makeF ns))),
                      some (Blk.row (3 : Nat) [IntKind.i64] (ones (ones (makeF ns).length).length))] ∧
                (ones (makeF ns).length).length ≤ (100 : Nat)) ∧
            preRise [IV.sl (0 : Nat)] [Blk.ro [IntKind.u64, IntKind.i64] (sortF (makeF ns))] ∧
              br (bp (Rises (sortF (makeF ns))))
                (preSort [IV.sl (0 : Nat)] [Blk.ro [IntKind.u64, IntKind.i64] (sortF (makeF ns))] ∧
                  preSame [IV.sl (0 : Nat), IV.sl (1 : Nat)]
                      [Blk.ro [IntKind.u64, IntKind.i64] (sortF (sortF (makeF ns))),
                        Blk.ro [IntKind.u64, IntKind.i64] (sortF (makeF ns))] ∧
                    br (bp (sortF (sortF (makeF ns)) = sortF (makeF ns))) (preNone [] [] ∧ K (IV.bool true) [])
                      (K (IV.bool false) []))
                (K (IV.bool false) []))) := by kernel_rfl

