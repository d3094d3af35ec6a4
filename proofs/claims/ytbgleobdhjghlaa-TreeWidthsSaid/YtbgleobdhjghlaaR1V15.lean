import Derived.Test.YtbgleobdhjghlaaR1F19
set_option linter.unusedVariables false
/- TreeWidths -/
namespace Go.Vs.R1
open Go Go.Proofs Go.Vs
def pre32 (l : List IV) (bs : List Blk) : Prop := l = [.agg [.int .i64 (argI l 0 0), .int .u64 (argI l 0 1)]] ∧ bs = [] ∧ 0 ≤ argI l 0 0 ∧ argI l 0 0 ≤ 9223372036854775807
noncomputable def sp32 : Vs.Spec := ⟨pre32, fun l _ => (.agg [.int .u64 (argI l 0 0), .int .u64 (argI l 0 1)], [])⟩
def pre34 (l : List IV) (bs : List Blk) : Prop := l = [.agg [.int .u64 (argI l 0 0), .int .u64 0], .agg [.int .u64 (argI l 1 0), .int .u64 0]] ∧ bs = [] ∧ 0 ≤ argI l 0 0 ∧ 0 ≤ argI l 1 0 ∧ argI l 0 0 + argI l 1 0 ≤ 9223372036854775807
noncomputable def sp34 : Vs.Spec := ⟨pre34, fun l _ => (.agg [.int .u64 (argI l 0 0 + argI l 1 0), .int .u64 0, .bool false], [])⟩
theorem v32 (a b : Int) (K : IV → List Blk → Prop) : (comes Try.prog Nnone 2 32 [.agg [.int .i64 a, .int .u64 b]] [] K) = (br (decide (a < (0 : Int))) False (K (IV.agg [IV.int IntKind.u64 (IntKind.u64.wrap a), IV.int IntKind.u64 b]) [])) := by kernel_rfl
theorem v34 (a c : Int) (K : IV → List Blk → Prop) : (comes Try.prog Nnone 2 34 [.agg [.int .u64 a, .int .u64 0], .agg [.int .u64 c, .int .u64 0]] [] K) = (br (decide (IntKind.u64.wrap (a + c) < a))
  (K
    (IV.agg
      [IV.int IntKind.u64 (IntKind.u64.wrap (IntKind.u64.wrap (a + c) + (0 : Int))),
        IV.int IntKind.u64 (IntKind.u64.wrap ((0 : Int) + (0 : Int))), IV.bool true])
    [])
  (K
    (IV.agg
      [IV.int IntKind.u64 (IntKind.u64.wrap (IntKind.u64.wrap (a + c) + (0 : Int))),
        IV.int IntKind.u64 (IntKind.u64.wrap ((0 : Int) + (0 : Int))), IV.bool false])
    [])) := by kernel_rfl
noncomputable def N26 : Know := ⟨fun g => if g = 32 then some sp32 else if g = 34 then some sp34 else none, fun _ _ => none, fun _ => none⟩
theorem v26 (a c : Int) (K : IV → List Blk → Prop) : (comes Try.prog N26 2 26 [.agg [.int .i64 a, .int .u64 0], .agg [.int .i64 c, .int .u64 0]] [] K) = ((pre32 [IV.agg [IV.int IntKind.i64 a, IV.int IntKind.u64 (0 : Int)]] [] ∧
    (pre32 [IV.agg [IV.int IntKind.i64 c, IV.int IntKind.u64 (0 : Int)]] [] ∧
        br (decide (a < (0 : Int)) == decide (c < (0 : Int)))
            (pre34
                [IV.agg [IV.int IntKind.u64 a, IV.int IntKind.u64 (0 : Int)],
                  IV.agg [IV.int IntKind.u64 c, IV.int IntKind.u64 (0 : Int)]]
                [] ∧
              br (decide (a + c ≥ (9223372036854775808 : Int)))
                (K (IV.agg [IV.int IntKind.i64 (0 : Int), IV.int IntKind.u64 (0 : Int), IV.int IntKind.i64 (3 : Int)])
                  [])
                (br (decide (a < (0 : Int))) False
                  (K
                    (IV.agg
                      [IV.int IntKind.i64 (IntKind.i64.wrap (a + c)), IV.int IntKind.u64 (0 : Int),
                        IV.int IntKind.i64 (0 : Int)])
                    [])))
            (br (decide (a < c)) False (br (a == c) False False)) ∧
          br (decide (a < (0 : Int)) == decide (c < (0 : Int)))
            (pre34
                [IV.agg [IV.int IntKind.u64 a, IV.int IntKind.u64 (0 : Int)],
                  IV.agg [IV.int IntKind.u64 c, IV.int IntKind.u64 (0 : Int)]]
                [] ∧
              br (decide (a + c ≥ (9223372036854775808 : Int)))
                (K (IV.agg [IV.int IntKind.i64 (0 : Int), IV.int IntKind.u64 (0 : Int), IV.int IntKind.i64 (3 : Int)])
                  [])
                (br (decide (a < (0 : Int))) False
                  (K
                    (IV.agg
                      [IV.int IntKind.i64 (IntKind.i64.wrap (a + c)), IV.int IntKind.u64 (0 : Int),
                        IV.int IntKind.i64 (0 : Int)])
                    [])))
            (br (decide (a < c)) False (br (a == c) False False))) ∧
      ((pre32 [IV.agg [IV.int IntKind.i64 c, IV.int IntKind.u64 (0 : Int)]] [] ∧
            br (decide (a < (0 : Int)) == decide (c < (0 : Int)))
              (pre34
                  [IV.agg [IV.int IntKind.u64 a, IV.int IntKind.u64 (0 : Int)],
                    IV.agg [IV.int IntKind.u64 c, IV.int IntKind.u64 (0 : Int)]]
                  [] ∧
                br (decide (a + c ≥ (9223372036854775808 : Int)))
                  (K (IV.agg [IV.int IntKind.i64 (0 : Int), IV.int IntKind.u64 (0 : Int), IV.int IntKind.i64 (3 : Int)])
                    [])
                  (br (decide (a < (0 : Int))) False
                    (K
                      (IV.agg
                        [IV.int IntKind.i64 (IntKind.i64.wrap (a + c)), IV.int IntKind.u64 (0 : Int),
                          IV.int IntKind.i64 (0 : Int)])
                      [])))
              (br (decide (a < c)) False (br (a == c) False False))) ∧
          pre32 [IV.agg [IV.int IntKind.i64 c, IV.int IntKind.u64 (0 : Int)]] [] ∧
            br (decide (a < (0 : Int)) == decide (c < (0 : Int)))
              (pre34
                  [IV.agg [IV.int IntKind.u64 a, IV.int IntKind.u64 (0 : Int)],
                    IV.agg [IV.int IntKind.u64 c, IV.int IntKind.u64 (0 : Int)]]
                  [] ∧
                br (decide (a + c ≥ (9223372036854775808 : Int)))
                  (K (IV.agg [IV.int IntKind.i64 (0 : Int), IV.int IntKind.u64 (0 : Int), IV.int IntKind.i64 (3 : Int)])
                    [])
                  (br (decide (a < (0 : Int))) False
                    (K
                      (IV.agg
                        [IV.int IntKind.i64 (IntKind.i64.wrap (a + c)), IV.int IntKind.u64 (0 : Int),
                          IV.int IntKind.i64 (0 : Int)])
                      [])))
              (br (decide (a < c)) False (br (a == c) False False))) ∧
        (pre32 [IV.agg [IV.int IntKind.i64 c, IV.int IntKind.u64 (0 : Int)]] [] ∧
            br (decide (a < (0 : Int)) == decide (c < (0 : Int)))
              (pre34
                  [IV.agg [IV.int IntKind.u64 a, IV.int IntKind.u64 (0 : Int)],
                    IV.agg [IV.int IntKind.u64 c, IV.int IntKind.u64 (0 : Int)]]
                  [] ∧
                br (decide (a + c ≥ (9223372036854775808 : Int)))
                  (K (IV.agg [IV.int IntKind.i64 (0 : Int), IV.int IntKind.u64 (0 : Int), IV.int IntKind.i64 (3 : Int)])
                    [])
                  (br (decide (a < (0 : Int))) False
                    (K
                      (IV.agg
                        [IV.int IntKind.i64 (IntKind.i64.wrap (a + c)), IV.int IntKind.u64 (0 : Int),
                          IV.int IntKind.i64 (0 : Int)])
                      [])))
              (br (decide (a < c)) False (br (a == c) False False))) ∧
          pre32 [IV.agg [IV.int IntKind.i64 c, IV.int IntKind.u64 (0 : Int)]] [] ∧
            br (decide (a < (0 : Int)) == decide (c < (0 : Int)))
              (pre34
                  [IV.agg [IV.int IntKind.u64 a, IV.int IntKind.u64 (0 : Int)],
                    IV.agg [IV.int IntKind.u64 c, IV.int IntKind.u64 (0 : Int)]]
                  [] ∧
                br (decide (a + c ≥ (9223372036854775808 : Int)))
                  (K (IV.agg [IV.int IntKind.i64 (0 : Int), IV.int IntKind.u64 (0 : Int), IV.int IntKind.i64 (3 : Int)])
                    [])
                  (br (decide (a < (0 : Int))) False
                    (K
                      (IV.agg
                        [IV.int IntKind.i64 (IntKind.i64.wrap (a + c)), IV.int IntKind.u64 (0 : Int),
                          IV.int IntKind.i64 (0 : Int)])
                      [])))
              (br (decide (a < c)) False (br (a == c) False False))) ∧
  ((pre32 [IV.agg [IV.int IntKind.i64 a, IV.int IntKind.u64 (0 : Int)]] [] ∧
        (pre32 [IV.agg [IV.int IntKind.i64 c, IV.int IntKind.u64 (0 : Int)]] [] ∧
            br (decide (a < (0 : Int)) == decide (c < (0 : Int)))
              (pre34
                  [IV.agg [IV.int IntKind.u64 a, IV.int IntKind.u64 (0 : Int)],
                    IV.agg [IV.int IntKind.u64 c, IV.int IntKind.u64 (0 : Int)]]
                  [] ∧
                br (decide (a + c ≥ (9223372036854775808 : Int)))
                  (K (IV.agg [IV.int IntKind.i64 (0 : Int), IV.int IntKind.u64 (0 : Int), IV.int IntKind.i64 (3 : Int)])
                    [])
                  (br (decide (a < (0 : Int))) False
                    (K
                      (IV.agg
                        [IV.int IntKind.i64 (IntKind.i64.wrap (a + c)), IV.int IntKind.u64 (0 : Int),
                          IV.int IntKind.i64 (0 : Int)])
                      [])))
              (br (decide (a < c)) False (br (a == c) False False))) ∧
          pre32 [IV.agg [IV.int IntKind.i64 c, IV.int IntKind.u64 (0 : Int)]] [] ∧
            br (decide (a < (0 : Int)) == decide (c < (0 : Int)))
              (pre34
                  [IV.agg [IV.int IntKind.u64 a, IV.int IntKind.u64 (0 : Int)],
                    IV.agg [IV.int IntKind.u64 c, IV.int IntKind.u64 (0 : Int)]]
                  [] ∧
                br (decide (a + c ≥ (9223372036854775808 : Int)))
                  (K (IV.agg [IV.int IntKind.i64 (0 : Int), IV.int IntKind.u64 (0 : Int), IV.int IntKind.i64 (3 : Int)])
                    [])
                  (br (decide (a < (0 : Int))) False
                    (K
                      (IV.agg
                        [IV.int IntKind.i64 (IntKind.i64.wrap (a + c)), IV.int IntKind.u64 (0 : Int),
                          IV.int IntKind.i64 (0 : Int)])
                      [])))
              (br (decide (a < c)) False (br (a == c) False False))) ∧
      pre32 [IV.agg [IV.int IntKind.i64 a, IV.int IntKind.u64 (0 : Int)]] [] ∧
        pre32 [IV.agg [IV.int IntKind.i64 c, IV.int IntKind.u64 (0 : Int)]] [] ∧
          br (decide (a < (0 : Int)) == decide (c < (0 : Int)))
            (pre34
                [IV.agg [IV.int IntKind.u64 a, IV.int IntKind.u64 (0 : Int)],
                  IV.agg [IV.int IntKind.u64 c, IV.int IntKind.u64 (0 : Int)]]
                [] ∧
              br (decide (a + c ≥ (9223372036854775808 : Int)))
                (K (IV.agg [IV.int IntKind.i64 (0 : Int), IV.int IntKind.u64 (0 : Int), IV.int IntKind.i64 (3 : Int)])
                  [])
                (br (decide (a < (0 : Int))) False
                  (K
                    (IV.agg
                      [IV.int IntKind.i64 (IntKind.i64.wrap (a + c)), IV.int IntKind.u64 (0 : Int),
                        IV.int IntKind.i64 (0 : Int)])
                    [])))
            (br (decide (a < c)) False (br (a == c) False False))) ∧
    (pre32 [IV.agg [IV.int IntKind.i64 a, IV.int IntKind.u64 (0 : Int)]] [] ∧
        (pre32 [IV.agg [IV.int IntKind.i64 c, IV.int IntKind.u64 (0 : Int)]] [] ∧
            br (decide (a < (0 : Int)) == decide (c < (0 : Int)))
              (pre34
                  [IV.agg [IV.int IntKind.u64 a, IV.int IntKind.u64 (0 : Int)],
                    IV.agg [IV.int IntKind.u64 c, IV.int IntKind.u64 (0 : Int)]]
                  [] ∧
                br (decide (a + c ≥ (9223372036854775808 : Int)))
                  (K (IV.agg [IV.int IntKind.i64 (0 : Int), IV.int IntKind.u64 (0 : Int), IV.int IntKind.i64 (3 : Int)])
                    [])
                  (br (decide (a < (0 : Int))) False
                    (K
                      (IV.agg
                        [IV.int IntKind.i64 (IntKind.i64.wrap (a + c)), IV.int IntKind.u64 (0 : Int),
                          IV.int IntKind.i64 (0 : Int)])
                      [])))
              (br (decide (a < c)) False (br (a == c) False False))) ∧
          pre32 [IV.agg [IV.int IntKind.i64 c, IV.int IntKind.u64 (0 : Int)]] [] ∧
            br (decide (a < (0 : Int)) == decide (c < (0 : Int)))
              (pre34
                  [IV.agg [IV.int IntKind.u64 a, IV.int IntKind.u64 (0 : Int)],
                    IV.agg [IV.int IntKind.u64 c, IV.int IntKind.u64 (0 : Int)]]
                  [] ∧
                br (decide (a + c ≥ (9223372036854775808 : Int)))
                  (K (IV.agg [IV.int IntKind.i64 (0 : Int), IV.int IntKind.u64 (0 : Int), IV.int IntKind.i64 (3 : Int)])
                    [])
                  (br (decide (a < (0 : Int))) False
                    (K
                      (IV.agg
                        [IV.int IntKind.i64 (IntKind.i64.wrap (a + c)), IV.int IntKind.u64 (0 : Int),
                          IV.int IntKind.i64 (0 : Int)])
                      [])))
              (br (decide (a < c)) False (br (a == c) False False))) ∧
      pre32 [IV.agg [IV.int IntKind.i64 a, IV.int IntKind.u64 (0 : Int)]] [] ∧
        pre32 [IV.agg [IV.int IntKind.i64 c, IV.int IntKind.u64 (0 : Int)]] [] ∧
          br (decide (a < (0 : Int)) == decide (c < (0 : Int)))
            (pre34
                [IV.agg [IV.int IntKind.u64 a, IV.int IntKind.u64 (0 : Int)],
                  IV.agg [IV.int IntKind.u64 c, IV.int IntKind.u64 (0 : Int)]]
                [] ∧
              br (decide (a + c ≥ (9223372036854775808 : Int)))
                (K (IV.agg [IV.int IntKind.i64 (0 : Int), IV.int IntKind.u64 (0 : Int), IV.int IntKind.i64 (3 : Int)])
                  [])
                (br (decide (a < (0 : Int))) False
                  (K
                    (IV.agg
                      [IV.int IntKind.i64 (IntKind.i64.wrap (a + c)), IV.int IntKind.u64 (0 : Int),
                        IV.int IntKind.i64 (0 : Int)])
                    [])))
            (br (decide (a < c)) False (br (a == c) False False))) := by kernel_rfl
def pre26 (l : List IV) (bs : List Blk) : Prop := l = [.agg [.int .i64 (argI l 0 0), .int .u64 0], .agg [.int .i64 (argI l 1 0), .int .u64 0]] ∧ bs = [] ∧ 0 ≤ argI l 0 0 ∧ 0 ≤ argI l 1 0 ∧ argI l 0 0 + argI l 1 0 ≤ 9223372036854775807
noncomputable def sp26 : Vs.Spec := ⟨pre26, fun l _ => (.agg [.int .i64 (argI l 0 0 + argI l 1 0), .int .u64 0, .int .i64 0], [])⟩
noncomputable def sp27 : Vs.Spec := ⟨preInt, fun l _ => (.agg [.int .i64 (mx .i64 (argI l 0 0) (-9223372036854775807)), .int .u64 0], [])⟩
noncomputable def N12 : Know := ⟨fun g => if g = 26 then some sp26 else if g = 27 then some sp27 else Γ8 g, fun _ _ => none, fun _ => none⟩
theorem v12 (n : Int) (K : IV → List Blk → Prop) : (comes Try.prog N12 2 12 [.int .u8 n] [] K) = ((32 : Int) ≠ (0 : Int) ∧
  preInt [IV.int IntKind.i64 ((IntKind.i64.wrap n).tmod (32 : Int))] [] ∧
    preInt [IV.int IntKind.i64 (IntKind.i64.wrap ((IntKind.i64.wrap n).tmod (32 : Int) + (1 : Int)))] [] ∧
      pre26
          [IV.agg
              [IV.int IntKind.i64 (wF (IntKind.i64.wrap ((IntKind.i64.wrap n).tmod (32 : Int) + (1 : Int)))),
                IV.int IntKind.u64 (0 : Int)],
            IV.agg
              [IV.int IntKind.i64 (wF (IntKind.i64.wrap ((IntKind.i64.wrap n).tmod (32 : Int) + (1 : Int)))),
                IV.int IntKind.u64 (0 : Int)]]
          [] ∧
        br
          (eqCells
            (List.take (2 : Nat)
              (List.drop (0 : Nat)
                (List.take (0 : Nat)
                      [IV.int IntKind.i64 (0 : Int), IV.int IntKind.u64 (0 : Int), IV.int IntKind.i64 (0 : Int)] ++
                    [IV.int IntKind.i64
                        (wF (IntKind.i64.wrap ((IntKind.i64.wrap n).tmod (32 : Int) + (1 : Int))) +
                          wF (IntKind.i64.wrap ((IntKind.i64.wrap n).tmod (32 : Int) + (1 : Int)))),
                      IV.int IntKind.u64 (0 : Int), IV.int IntKind.i64 (0 : Int)] ++
                  List.drop (3 : Nat)
                    [IV.int IntKind.i64 (0 : Int), IV.int IntKind.u64 (0 : Int), IV.int IntKind.i64 (0 : Int)])))
            (List.take (2 : Nat)
              (List.drop (0 : Nat)
                [IV.int IntKind.i64 (wF ((IntKind.i64.wrap n).tmod (32 : Int))), IV.int IntKind.u64 (0 : Int)])))
          (preInt [IV.int IntKind.i64 (32 : Int)] [] ∧
            preInt [IV.int IntKind.i64 (1 : Int)] [] ∧
              preInt [IV.int IntKind.i64 (-5 : Int)] [] ∧
                preInt [IV.int IntKind.i64 (0 : Int)] [] ∧
                  preInt [IV.int IntKind.i64 (90 : Int)] [] ∧
                    preInt [IV.int IntKind.i64 (1 : Int)] [] ∧ preNone [] [] ∧ K (IV.bool true) [])
          (K (IV.bool false) [])) := by kernel_rfl

