import Derived.Test.YtbgleobdhjghlaaR1F13
set_option linter.unusedVariables false
/- SameNodes, awake, widths -/
namespace Go.Vs.R1
open Go Go.Proofs Go.Vs
def S20 (xs : List (List Int)) (i : Int) : St := ⟨T 26 [(0, .sl 0), (1, .sl 1), (5, i64 i)], [some (.ro nk xs), some (.ro nk xs)]⟩
noncomputable def L20 : LoopS := fun n0 st K => (n0 = 2 ∧ st = S20 (st.x 0) 0 ∧ (st.x 0).length ≤ 1000000) ∧ K (.exit 0) ⟨T 26 [], [some (.ro nk (st.x 0)), some (.ro nk (st.x 0))]⟩
noncomputable def N20 : Know := ⟨fun _ => none, fun f i => if f = 20 then (if i = 0 then some L20 else none) else none, fun _ => none⟩
theorem r20 (N : Know) (xs : List (List Int)) (i : Int) (k : Out → St → Prop) : (round (envOf Try.prog N 0) 20 2 0 (lp Try.prog 20 0) (S20 xs i) k) = (br (decide (i < (↑xs.length : Int)))
  (((0 : Int) ≤ i ∧ i < (↑xs.length : Int)) ∧
    ((0 : Int) ≤ i ∧ i < (↑xs.length : Int)) ∧
      ((0 : Int) ≤ i ∧ i < (↑xs.length : Int)) ∧
        ((0 : Int) ≤ i ∧ i < (↑xs.length : Int)) ∧
          br
            (!eqCells
                [IV.int IntKind.i64 (rd xs i.toNat (0 : Nat)), IV.int IntKind.u64 (rd xs i.toNat (1 : Nat)),
                  IV.int IntKind.i64 (rd xs i.toNat (2 : Nat)), IV.int IntKind.i64 (rd xs i.toNat (3 : Nat)),
                  IV.int IntKind.i64 (rd xs i.toNat (4 : Nat)), IV.int IntKind.i64 (rd xs i.toNat (5 : Nat)),
                  IV.int IntKind.i64 (rd xs i.toNat (6 : Nat)), IV.int IntKind.i64 (rd xs i.toNat (7 : Nat))]
                [IV.int IntKind.i64 (rd xs i.toNat (0 : Nat)), IV.int IntKind.u64 (rd xs i.toNat (1 : Nat)),
                  IV.int IntKind.i64 (rd xs i.toNat (2 : Nat)), IV.int IntKind.i64 (rd xs i.toNat (3 : Nat)),
                  IV.int IntKind.i64 (rd xs i.toNat (4 : Nat)), IV.int IntKind.i64 (rd xs i.toNat (5 : Nat)),
                  IV.int IntKind.i64 (rd xs i.toNat (6 : Nat)), IV.int IntKind.i64 (rd xs i.toNat (7 : Nat))])
            (k Out.ret
              (St.mk
                [none, none, none, none, some (IV.bool false), none, none, none, none, none, none, none, none, none,
                  none, none, none, none, none, none, none, none, none, none, none, none]
                [some
                    (Blk.ro
                      [IntKind.i64, IntKind.u64, IntKind.i64, IntKind.i64, IntKind.i64, IntKind.i64, IntKind.i64,
                        IntKind.i64]
                      xs),
                  some
                    (Blk.ro
                      [IntKind.i64, IntKind.u64, IntKind.i64, IntKind.i64, IntKind.i64, IntKind.i64, IntKind.i64,
                        IntKind.i64]
                      xs)]))
            (k Out.normal
              (St.mk
                [some (IV.sl (0 : Nat)), some (IV.sl (1 : Nat)), none, none, none,
                  some (IV.int IntKind.i64 (IntKind.i64.wrap (i + (1 : Int)))), none, none, none, none, none, none,
                  none, none, none, none, none, none, none, none, none, none, none, none, none, none]
                [some
                    (Blk.ro
                      [IntKind.i64, IntKind.u64, IntKind.i64, IntKind.i64, IntKind.i64, IntKind.i64, IntKind.i64,
                        IntKind.i64]
                      xs),
                  some
                    (Blk.ro
                      [IntKind.i64, IntKind.u64, IntKind.i64, IntKind.i64, IntKind.i64, IntKind.i64, IntKind.i64,
                        IntKind.i64]
                      xs)])))
  (k (Out.exit (0 : Nat))
    (St.mk
      [none, none, none, none, none, none, none, none, none, none, none, none, none, none, none, none, none, none, none,
        none, none, none, none, none, none, none]
      [some
          (Blk.ro
            [IntKind.i64, IntKind.u64, IntKind.i64, IntKind.i64, IntKind.i64, IntKind.i64, IntKind.i64, IntKind.i64]
            xs),
        some
          (Blk.ro
            [IntKind.i64, IntKind.u64, IntKind.i64, IntKind.i64, IntKind.i64, IntKind.i64, IntKind.i64, IntKind.i64]
            xs)]))) := by kernel_rfl
theorem v20 (xs : List (List Int)) (K : IV → List Blk → Prop) : (comes Try.prog N20 1 20 [.sl 0, .sl 1] [.ro nk xs, .ro nk xs] K) = (br ((↑xs.length : Int) != (↑xs.length : Int)) (K (IV.bool false) [])
  (((2 : Nat) = (2 : Nat) ∧
      St.mk
            [some (IV.sl (0 : Nat)), some (IV.sl (1 : Nat)), none, none, none, some (IV.int IntKind.i64 (0 : Int)),
              none, none, none, none, none, none, none, none, none, none, none, none, none, none, none, none, none,
              none, none, none]
            [some
                (Blk.ro
                  [IntKind.i64, IntKind.u64, IntKind.i64, IntKind.i64, IntKind.i64, IntKind.i64, IntKind.i64,
                    IntKind.i64]
                  xs),
              some
                (Blk.ro
                  [IntKind.i64, IntKind.u64, IntKind.i64, IntKind.i64, IntKind.i64, IntKind.i64, IntKind.i64,
                    IntKind.i64]
                  xs)] =
          St.mk
            [some (IV.sl (0 : Nat)), some (IV.sl (1 : Nat)), none, none, none, some (IV.int IntKind.i64 (0 : Int)),
              none, none, none, none, none, none, none, none, none, none, none, none, none, none, none, none, none,
              none, none, none]
            [some
                (Blk.ro
                  [IntKind.i64, IntKind.u64, IntKind.i64, IntKind.i64, IntKind.i64, IntKind.i64, IntKind.i64,
                    IntKind.i64]
                  xs),
              some
                (Blk.ro
                  [IntKind.i64, IntKind.u64, IntKind.i64, IntKind.i64, IntKind.i64, IntKind.i64, IntKind.i64,
                    IntKind.i64]
                  xs)] ∧
        xs.length ≤ (1000000 : Nat)) ∧
    K (IV.bool true) [])) := by kernel_rfl
noncomputable def N23 : Know := ⟨fun g => if g = 21 then some spBuild else none, fun _ _ => none, fun _ => none⟩
theorem v23 (K : IV → List Blk → Prop) : (comes Try.prog N23 1 23 [] [] K) = (preBuild [IV.sl (0 : Nat)] [Blk.ro [IntKind.u64, IntKind.i64] [[(9 : Int), (0 : Int)]]] ∧
  br
    ((↑(buildF
              ((List.replicate (1 : Nat) (List.replicate (2 : Nat) (0 : Int))).set (0 : Nat)
                [(9 : Int), (0 : Int)])).length :
        Int) ==
      (1 : Int))
    (((0 : Int) ≤ (0 : Int) ∧
        (0 : Int) <
          (↑(buildF
                  ((List.replicate (1 : Nat) (List.replicate (2 : Nat) (0 : Int))).set (0 : Nat)
                    [(9 : Int), (0 : Int)])).length :
            Int)) ∧
      ((0 : Int) ≤ (0 : Int) ∧
          (0 : Int) <
            (↑(buildF
                    ((List.replicate (1 : Nat) (List.replicate (2 : Nat) (0 : Int))).set (0 : Nat)
                      [(9 : Int), (0 : Int)])).length :
              Int)) ∧
        br
          (rd
              (buildF
                ((List.replicate (1 : Nat) (List.replicate (2 : Nat) (0 : Int))).set (0 : Nat) [(9 : Int), (0 : Int)]))
              (0 : Nat) (3 : Nat) ==
            (1 : Int))
          (((0 : Int) ≤ (0 : Int) ∧
              (0 : Int) <
                (↑(buildF
                        ((List.replicate (1 : Nat) (List.replicate (2 : Nat) (0 : Int))).set (0 : Nat)
                          [(9 : Int), (0 : Int)])).length :
                  Int)) ∧
            ((0 : Int) ≤ (0 : Int) ∧
                (0 : Int) <
                  (↑(buildF
                          ((List.replicate (1 : Nat) (List.replicate (2 : Nat) (0 : Int))).set (0 : Nat)
                            [(9 : Int), (0 : Int)])).length :
                    Int)) ∧
              K
                (IV.bool
                  (eqCells
                    [IV.int IntKind.i64
                        (rd
                          (buildF
                            ((List.replicate (1 : Nat) (List.replicate (2 : Nat) (0 : Int))).set (0 : Nat)
                              [(9 : Int), (0 : Int)]))
                          (0 : Nat) (4 : Nat)),
                      IV.int IntKind.i64
                        (rd
                          (buildF
                            ((List.replicate (1 : Nat) (List.replicate (2 : Nat) (0 : Int))).set (0 : Nat)
                              [(9 : Int), (0 : Int)]))
                          (0 : Nat) (5 : Nat)),
                      IV.int IntKind.i64
                        (rd
                          (buildF
                            ((List.replicate (1 : Nat) (List.replicate (2 : Nat) (0 : Int))).set (0 : Nat)
                              [(9 : Int), (0 : Int)]))
                          (0 : Nat) (6 : Nat)),
                      IV.int IntKind.i64
                        (rd
                          (buildF
                            ((List.replicate (1 : Nat) (List.replicate (2 : Nat) (0 : Int))).set (0 : Nat)
                              [(9 : Int), (0 : Int)]))
                          (0 : Nat) (7 : Nat))]
                    (List.take (3 : Nat)
                          (List.take (2 : Nat)
                                (List.take (1 : Nat)
                                      (List.take (0 : Nat)
                                            [IV.int IntKind.i64 (0 : Int), IV.int IntKind.i64 (0 : Int),
                                              IV.int IntKind.i64 (0 : Int), IV.int IntKind.i64 (0 : Int)] ++
                                          (IV.int IntKind.i64 (-1 : Int)).cells ++
                                        List.drop (1 : Nat)
                                          [IV.int IntKind.i64 (0 : Int), IV.int IntKind.i64 (0 : Int),
                                            IV.int IntKind.i64 (0 : Int), IV.int IntKind.i64 (0 : Int)]) ++
                                    (IV.int IntKind.i64 (-1 : Int)).cells ++
                                  List.drop (2 : Nat)
                                    (List.take (0 : Nat)
                                          [IV.int IntKind.i64 (0 : Int), IV.int IntKind.i64 (0 : Int),
                                            IV.int IntKind.i64 (0 : Int), IV.int IntKind.i64 (0 : Int)] ++
                                        (IV.int IntKind.i64 (-1 : Int)).cells ++
                                      List.drop (1 : Nat)
                                        [IV.int IntKind.i64 (0 : Int), IV.int IntKind.i64 (0 : Int),
                                          IV.int IntKind.i64 (0 : Int), IV.int IntKind.i64 (0 : Int)])) ++
                              (IV.int IntKind.i64 (-1 : Int)).cells ++
                            List.drop (3 : Nat)
                              (List.take (1 : Nat)
                                    (List.take (0 : Nat)
                                          [IV.int IntKind.i64 (0 : Int), IV.int IntKind.i64 (0 : Int),
                                            IV.int IntKind.i64 (0 : Int), IV.int IntKind.i64 (0 : Int)] ++
                                        (IV.int IntKind.i64 (-1 : Int)).cells ++
                                      List.drop (1 : Nat)
                                        [IV.int IntKind.i64 (0 : Int), IV.int IntKind.i64 (0 : Int),
                                          IV.int IntKind.i64 (0 : Int), IV.int IntKind.i64 (0 : Int)]) ++
                                  (IV.int IntKind.i64 (-1 : Int)).cells ++
                                List.drop (2 : Nat)
                                  (List.take (0 : Nat)
                                        [IV.int IntKind.i64 (0 : Int), IV.int IntKind.i64 (0 : Int),
                                          IV.int IntKind.i64 (0 : Int), IV.int IntKind.i64 (0 : Int)] ++
                                      (IV.int IntKind.i64 (-1 : Int)).cells ++
                                    List.drop (1 : Nat)
                                      [IV.int IntKind.i64 (0 : Int), IV.int IntKind.i64 (0 : Int),
                                        IV.int IntKind.i64 (0 : Int), IV.int IntKind.i64 (0 : Int)]))) ++
                        (IV.int IntKind.i64 (-1 : Int)).cells ++
                      List.drop (4 : Nat)
                        (List.take (2 : Nat)
                              (List.take (1 : Nat)
                                    (List.take (0 : Nat)
                                          [IV.int IntKind.i64 (0 : Int), IV.int IntKind.i64 (0 : Int),
                                            IV.int IntKind.i64 (0 : Int), IV.int IntKind.i64 (0 : Int)] ++
                                        (IV.int IntKind.i64 (-1 : Int)).cells ++
                                      List.drop (1 : Nat)
                                        [IV.int IntKind.i64 (0 : Int), IV.int IntKind.i64 (0 : Int),
                                          IV.int IntKind.i64 (0 : Int), IV.int IntKind.i64 (0 : Int)]) ++
                                  (IV.int IntKind.i64 (-1 : Int)).cells ++
                                List.drop (2 : Nat)
                                  (List.take (0 : Nat)
                                        [IV.int IntKind.i64 (0 : Int), IV.int IntKind.i64 (0 : Int),
                                          IV.int IntKind.i64 (0 : Int), IV.int IntKind.i64 (0 : Int)] ++
                                      (IV.int IntKind.i64 (-1 : Int)).cells ++
                                    List.drop (1 : Nat)
                                      [IV.int IntKind.i64 (0 : Int), IV.int IntKind.i64 (0 : Int),
                                        IV.int IntKind.i64 (0 : Int), IV.int IntKind.i64 (0 : Int)])) ++
                            (IV.int IntKind.i64 (-1 : Int)).cells ++
                          List.drop (3 : Nat)
                            (List.take (1 : Nat)
                                  (List.take (0 : Nat)
                                        [IV.int IntKind.i64 (0 : Int), IV.int IntKind.i64 (0 : Int),
                                          IV.int IntKind.i64 (0 : Int), IV.int IntKind.i64 (0 : Int)] ++
                                      (IV.int IntKind.i64 (-1 : Int)).cells ++
                                    List.drop (1 : Nat)
                                      [IV.int IntKind.i64 (0 : Int), IV.int IntKind.i64 (0 : Int),
                                        IV.int IntKind.i64 (0 : Int), IV.int IntKind.i64 (0 : Int)]) ++
                                (IV.int IntKind.i64 (-1 : Int)).cells ++
                              List.drop (2 : Nat)
                                (List.take (0 : Nat)
                                      [IV.int IntKind.i64 (0 : Int), IV.int IntKind.i64 (0 : Int),
                                        IV.int IntKind.i64 (0 : Int), IV.int IntKind.i64 (0 : Int)] ++
                                    (IV.int IntKind.i64 (-1 : Int)).cells ++
                                  List.drop (1 : Nat)
                                    [IV.int IntKind.i64 (0 : Int), IV.int IntKind.i64 (0 : Int),
                                      IV.int IntKind.i64 (0 : Int), IV.int IntKind.i64 (0 : Int)]))))))
                [])
          (K (IV.bool false) []))
    (K (IV.bool false) [])) := by kernel_rfl
theorem v24 (n : Int) (K : IV → List Blk → Prop) : (comes Try.prog Nnone 3 24 [.int .i64 n] [] K) = ((0 : Int) ≤ IntKind.i64.wrap ((32 : Int) - mx IntKind.i64 (0 : Int) (mn IntKind.i64 n (32 : Int))) ∧
  K
    (IV.agg
      [IV.int IntKind.i64
          (mx IntKind.i64
            (IntKind.i64.wrap
              ((1 : Int) *
                (2 : Int) ^
                  min (IntKind.i64.wrap ((32 : Int) - mx IntKind.i64 (0 : Int) (mn IntKind.i64 n (32 : Int)))).toNat
                    (64 : Nat)))
            (-9223372036854775807 : Int)),
        IV.int IntKind.u64 (0 : Int)])
    []) := by kernel_rfl
theorem v25 (n : Int) (K : IV → List Blk → Prop) : (comes Try.prog Nnone 3 25 [.int .i64 n] [] K) = ((0 : Int) ≤ IntKind.i64.wrap ((32 : Int) - mx IntKind.i64 (0 : Int) (mn IntKind.i64 n (32 : Int))) ∧
  K
    (IV.agg
      [IV.int IntKind.i64
          (mx IntKind.i64
            (IntKind.i64.wrap
              ((1 : Int) *
                (2 : Int) ^
                  min (IntKind.i64.wrap ((32 : Int) - mx IntKind.i64 (0 : Int) (mn IntKind.i64 n (32 : Int)))).toNat
                    (64 : Nat)))
            (-9223372036854775807 : Int)),
        IV.int IntKind.u64 (0 : Int)])
    []) := by kernel_rfl
theorem v27 (n : Int) (K : IV → List Blk → Prop) : (comes Try.prog Nnone 3 27 [.int .i64 n] [] K) = (K (IV.agg [IV.int IntKind.i64 (mx IntKind.i64 n (-9223372036854775807 : Int)), IV.int IntKind.u64 (0 : Int)]) []) := by kernel_rfl

