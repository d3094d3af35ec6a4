import Derived.Test.YtbgleobdhjghlaaR1F10
set_option linter.unusedVariables false
/- tree.Build -/
namespace Go.Vs.R1
open Go Go.Proofs Go.Vs
noncomputable def N21 : Know := ⟨Γ0, fun _ _ => none, fun g => if g = 29 then some (G29 33) else none⟩
theorem v21 (xs : List (List Int)) (K : IV → List Blk → Prop) : (comes Try.prog N21 1 21 [.sl 0] [.ro [.u64, .i64] xs] K) = (br ((↑xs.length : Int) == (0 : Int))
  (K (IV.sl (0 : Nat))
    [Blk.row (41 : Nat)
        [IntKind.i64, IntKind.u64, IntKind.i64, IntKind.i64, IntKind.i64, IntKind.i64, IntKind.i64, IntKind.i64] []])
  (preRise [IV.sl (0 : Nat)] [Blk.ro [IntKind.u64, IntKind.i64] xs] ∧
    br (!bp (Rises xs))
      (K (IV.sl (0 : Nat))
        [Blk.row (41 : Nat)
            [IntKind.i64, IntKind.u64, IntKind.i64, IntKind.i64, IntKind.i64, IntKind.i64, IntKind.i64, IntKind.i64]
            []])
      (([IV.ptr (0 : Nat) (0 : Nat),
              IV.agg
                [IV.int IntKind.i64 (0 : Int), IV.int IntKind.u64 (0 : Int), IV.int IntKind.i64 (0 : Int),
                  IV.int IntKind.i64 (↑xs.length : Int), IV.int IntKind.i64 (0 : Int), IV.int IntKind.i64 (0 : Int),
                  IV.int IntKind.i64 (0 : Int), IV.int IntKind.i64 (0 : Int)]] =
            [IV.ptr (0 : Nat) (0 : Nat),
              IV.agg
                [IV.int IntKind.i64 (0 : Int), IV.int IntKind.u64 (0 : Int), IV.int IntKind.i64 (0 : Int),
                  IV.int IntKind.i64 (↑xs.length : Int), IV.int IntKind.i64 (0 : Int), IV.int IntKind.i64 (0 : Int),
                  IV.int IntKind.i64 (0 : Int), IV.int IntKind.i64 (0 : Int)]] ∧
          [some (Blk.var (56 : Nat) [IV.sl (1 : Nat), IV.sl (2 : Nat)]), some (Blk.ro [IntKind.u64, IntKind.i64] xs),
                some
                  (Blk.row (41 : Nat)
                    [IntKind.i64, IntKind.u64, IntKind.i64, IntKind.i64, IntKind.i64, IntKind.i64, IntKind.i64,
                      IntKind.i64]
                    [])] =
              [some (Blk.var (56 : Nat) [IV.sl (1 : Nat), IV.sl (2 : Nat)]),
                some (Blk.ro [IntKind.u64, IntKind.i64] xs),
                some
                  (Blk.row (41 : Nat)
                    [IntKind.i64, IntKind.u64, IntKind.i64, IntKind.i64, IntKind.i64, IntKind.i64, IntKind.i64,
                      IntKind.i64]
                    [])] ∧
            pre29 (33 : Nat) xs [] (0 : Int) (0 : Int) (↑xs.length : Int)) ∧
        K (IV.sl (0 : Nat))
          [Blk.row (41 : Nat)
              [IntKind.i64, IntKind.u64, IntKind.i64, IntKind.i64, IntKind.i64, IntKind.i64, IntKind.i64, IntKind.i64]
              ([] ++ treeF xs (33 : Nat) (0 : Nat) (0 : Int) (0 : Nat) (↑xs.length : Int).toNat (0 : Nat))]))) := by kernel_rfl

