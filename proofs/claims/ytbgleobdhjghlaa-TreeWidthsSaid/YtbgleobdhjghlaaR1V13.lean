import Derived.Test.YtbgleobdhjghlaaR1F16
set_option linter.unusedVariables false
/- TreeFew -/
namespace Go.Vs.R1
open Go Go.Proofs Go.Vs
def fewF (h : Int) (k : Nat) : List (List Int) := (List.range k).map fun (i : Nat) => [h, (i : Int)]
def S9 (xa zs : List (List Int)) (h c i : Int) : St := ⟨T 89 [(1, .sl 0), (2, .int .u64 h), (7, i64 c), (8, .sl 1), (9, i64 i)], [some (.ro [.u64] xa), row zs]⟩
noncomputable def L9 : LoopS := fun n0 st K => (n0 = 1 ∧ st = S9 (st.x 0) [] (st.i 2) (st.i 7) 0 ∧ 0 ≤ st.i 7 ∧ st.i 7 ≤ 8) ∧ K (.exit 0) ⟨T 89 [(1, .sl 0), (2, .int .u64 (st.i 2)), (7, i64 (st.i 7)), (8, .sl 1)], [some (.ro [.u64] (st.x 0)), row (fewF (st.i 2) (st.i 7).toNat)]⟩
theorem r9 (N : Know) (xa zs : List (List Int)) (h c i : Int) (k : Out → St → Prop) : (round (envOf Try.prog N 0) 9 1 0 (lp Try.prog 9 0) (S9 xa zs h c i) k) = (br (decide (i < c))
  ((zs.length + ((List.replicate (1 : Nat) (List.replicate (2 : Nat) (0 : Int))).set (0 : Nat) [h, i]).length) *
        (16 : Nat) ≤
      (140737488355328 : Nat) ∧
    k Out.normal
      (St.mk
        [none, some (IV.sl (0 : Nat)), some (IV.int IntKind.u64 h), none, none, none, none, some (IV.int IntKind.i64 c),
          some (IV.sl (1 : Nat)), some (IV.int IntKind.i64 (IntKind.i64.wrap (i + (1 : Int)))), none, none, none, none,
          none, none, none, none, none, none, none, none, none, none, none, none, none, none, none, none, none, none,
          none, none, none, none, none, none, none, none, none, none, none, none, none, none, none, none, none, none,
          none, none, none, none, none, none, none, none, none, none, none, none, none, none, none, none, none, none,
          none, none, none, none, none, none, none, none, none, none, none, none, none, none, none, none, none, none,
          none, none, none]
        [some (Blk.ro [IntKind.u64] xa),
          some
            (Blk.row (32 : Nat) [IntKind.u64, IntKind.i64]
              (zs ++ (List.replicate (1 : Nat) (List.replicate (2 : Nat) (0 : Int))).set (0 : Nat) [h, i]))]))
  (k (Out.exit (0 : Nat))
    (St.mk
      [none, some (IV.sl (0 : Nat)), some (IV.int IntKind.u64 h), none, none, none, none, some (IV.int IntKind.i64 c),
        some (IV.sl (1 : Nat)), none, none, none, none, none, none, none, none, none, none, none, none, none, none,
        none, none, none, none, none, none, none, none, none, none, none, none, none, none, none, none, none, none,
        none, none, none, none, none, none, none, none, none, none, none, none, none, none, none, none, none, none,
        none, none, none, none, none, none, none, none, none, none, none, none, none, none, none, none, none, none,
        none, none, none, none, none, none, none, none, none, none, none, none]
      [some (Blk.ro [IntKind.u64] xa), some (Blk.row (32 : Nat) [IntKind.u64, IntKind.i64] zs)]))) := by kernel_rfl
noncomputable def N9 : Know := ⟨Γ8, fun f i => if f = 9 then (if i = 0 then some L9 else none) else none, fun _ => none⟩
theorem v9 (xa : List (List Int)) (n h : Int) (K : IV → List Blk → Prop) : (comes Try.prog N9 1 9 [.int .u8 n, .sl 0, .int .u64 h] [.ro [.u64] xa] K) = ((9 : Int) ≠ (0 : Int) ∧
  ((1 : Nat) = (1 : Nat) ∧
      St.mk
            [none, some (IV.sl (0 : Nat)), some (IV.int IntKind.u64 h), none, none, none, none,
              some (IV.int IntKind.i64 ((IntKind.i64.wrap n).tmod (9 : Int))), some (IV.sl (1 : Nat)),
              some (IV.int IntKind.i64 (0 : Int)), none, none, none, none, none, none, none, none, none, none, none,
              none, none, none, none, none, none, none, none, none, none, none, none, none, none, none, none, none,
              none, none, none, none, none, none, none, none, none, none, none, none, none, none, none, none, none,
              none, none, none, none, none, none, none, none, none, none, none, none, none, none, none, none, none,
              none, none, none, none, none, none, none, none, none, none, none, none, none, none, none, none, none]
            [some (Blk.ro [IntKind.u64] xa), some (Blk.row (32 : Nat) [IntKind.u64, IntKind.i64] [])] =
          St.mk
            [none, some (IV.sl (0 : Nat)), some (IV.int IntKind.u64 h), none, none, none, none,
              some (IV.int IntKind.i64 ((IntKind.i64.wrap n).tmod (9 : Int))), some (IV.sl (1 : Nat)),
              some (IV.int IntKind.i64 (0 : Int)), none, none, none, none, none, none, none, none, none, none, none,
              none, none, none, none, none, none, none, none, none, none, none, none, none, none, none, none, none,
              none, none, none, none, none, none, none, none, none, none, none, none, none, none, none, none, none,
              none, none, none, none, none, none, none, none, none, none, none, none, none, none, none, none, none,
              none, none, none, none, none, none, none, none, none, none, none, none, none, none, none, none, none]
            [some (Blk.ro [IntKind.u64] xa), some (Blk.row (32 : Nat) [IntKind.u64, IntKind.i64] [])] ∧
        (0 : Int) ≤ (IntKind.i64.wrap n).tmod (9 : Int) ∧ (IntKind.i64.wrap n).tmod (9 : Int) ≤ (8 : Int)) ∧
    preBuild [IV.sl (0 : Nat)]
        [Blk.ro [IntKind.u64, IntKind.i64] (fewF h ((IntKind.i64.wrap n).tmod (9 : Int)).toNat)] ∧
      br ((IntKind.i64.wrap n).tmod (9 : Int) == (0 : Int))
        (br ((↑(buildF (fewF h ((IntKind.i64.wrap n).tmod (9 : Int)).toNat)).length : Int) == (0 : Int))
          (preNone [] [] ∧ K (IV.bool true) []) (K (IV.bool false) []))
        (br (decide ((IntKind.i64.wrap n).tmod (9 : Int) ≤ (4 : Int)))
          (br ((↑(buildF (fewF h ((IntKind.i64.wrap n).tmod (9 : Int)).toNat)).length : Int) == (1 : Int))
            (preNone [] [] ∧ K (IV.bool true) []) (K (IV.bool false) []))
          (br ((↑(buildF (fewF h ((IntKind.i64.wrap n).tmod (9 : Int)).toNat)).length : Int) != (33 : Int))
            (K (IV.bool false) [])
            (((0 : Int) ≤ (32 : Int) ∧
                (32 : Int) < (↑(buildF (fewF h ((IntKind.i64.wrap n).tmod (9 : Int)).toNat)).length : Int)) ∧
              ((0 : Int) ≤ (32 : Int) ∧
                  (32 : Int) < (↑(buildF (fewF h ((IntKind.i64.wrap n).tmod (9 : Int)).toNat)).length : Int)) ∧
                br (rd (buildF (fewF h ((IntKind.i64.wrap n).tmod (9 : Int)).toNat)) (32 : Nat) (0 : Nat) == (32 : Int))
                  (((0 : Int) ≤ (32 : Int) ∧
                      (32 : Int) < (↑(buildF (fewF h ((IntKind.i64.wrap n).tmod (9 : Int)).toNat)).length : Int)) ∧
                    ((0 : Int) ≤ (32 : Int) ∧
                        (32 : Int) < (↑(buildF (fewF h ((IntKind.i64.wrap n).tmod (9 : Int)).toNat)).length : Int)) ∧
                      br (rd (buildF (fewF h ((IntKind.i64.wrap n).tmod (9 : Int)).toNat)) (32 : Nat) (1 : Nat) == h)
                        (((0 : Int) ≤ (32 : Int) ∧
                            (32 : Int) <
                              (↑(buildF (fewF h ((IntKind.i64.wrap n).tmod (9 : Int)).toNat)).length : Int)) ∧
                          ((0 : Int) ≤ (32 : Int) ∧
                              (32 : Int) <
                                (↑(buildF (fewF h ((IntKind.i64.wrap n).tmod (9 : Int)).toNat)).length : Int)) ∧
                            br
                              (rd (buildF (fewF h ((IntKind.i64.wrap n).tmod (9 : Int)).toNat)) (32 : Nat) (3 : Nat) ==
                                (IntKind.i64.wrap n).tmod (9 : Int))
                              (((0 : Int) ≤ (32 : Int) ∧
                                  (32 : Int) <
                                    (↑(buildF (fewF h ((IntKind.i64.wrap n).tmod (9 : Int)).toNat)).length : Int)) ∧
                                ((0 : Int) ≤ (32 : Int) ∧
                                    (32 : Int) <
                                      (↑(buildF (fewF h ((IntKind.i64.wrap n).tmod (9 : Int)).toNat)).length : Int)) ∧
                                  br
                                    (rd (buildF (fewF h ((IntKind.i64.wrap n).tmod (9 : Int)).toNat)) (32 : Nat)
                                        (2 : Nat) ==
                                      (0 : Int))
                                    (((0 : Int) ≤ (0 : Int) ∧
                                        (0 : Int) <
                                          (↑(buildF (fewF h ((IntKind.i64.wrap n).tmod (9 : Int)).toNat)).length :
                                            Int)) ∧
                                      ((0 : Int) ≤ (0 : Int) ∧
                                          (0 : Int) <
                                            (↑(buildF (fewF h ((IntKind.i64.wrap n).tmod (9 : Int)).toNat)).length :
                                              Int)) ∧
                                        br
                                          (rd (buildF (fewF h ((IntKind.i64.wrap n).tmod (9 : Int)).toNat)) (0 : Nat)
                                              (1 : Nat) ==
                                            (0 : Int))
                                          (preNone [] [] ∧ K (IV.bool true) []) (K (IV.bool false) []))
                                    (K (IV.bool false) []))
                              (K (IV.bool false) []))
                        (K (IV.bool false) []))
                  (K (IV.bool false) []))))) := by kernel_rfl

