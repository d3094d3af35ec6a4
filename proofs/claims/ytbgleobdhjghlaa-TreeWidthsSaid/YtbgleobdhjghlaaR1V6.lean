import Derived.Test.YtbgleobdhjghlaaR1F7
set_option linter.unusedVariables false
/- SortJoins -/
namespace Go.Vs.R1
open Go Go.Proofs Go.Vs
def orU (a b : Int) : Int := IntKind.u64.wrap ((BitVec.ofInt 64 a ||| BitVec.ofInt 64 b).toNat : Int)
def joinF (h : Int) (ys : List (List Int)) : List (List Int) := ys.map fun y => [orU (y.getD 0 0) h, IntKind.i64.wrap (y.getD 1 0 + 1000)]
def S5 (xa xb xs ys : List (List Int)) (h i : Int) : St := ⟨T 71 [(2, .int .u64 h), (7, .sl 2), (8, .sl 3), (9, i64 i)], [some (.ro [.u8] xa), some (.ro [.u8] xb), row xs, row ys]⟩
noncomputable def L5 : LoopS := fun n0 st K => (n0 = 2 ∧ st = S5 (st.x 0) (st.x 1) (st.x 2) (st.x 3) (st.i 2) 0 ∧ (st.x 3).length ≤ 100) ∧ K (.exit 0) ⟨T 71 [(7, .sl 2), (8, .sl 3)], [some (.ro [.u8] (st.x 0)), some (.ro [.u8] (st.x 1)), row (st.x 2), row (joinF (st.i 2) (st.x 3))]⟩
noncomputable def N5 : Know := ⟨Γm, fun f i => if f = 5 then (if i = 0 then some L5 else none) else none, fun _ => none⟩
theorem r5 (N : Know) (xa xb xs ys : List (List Int)) (h i : Int) (k : Out → St → Prop) : (round (envOf Try.prog N 0) 5 2 0 (lp Try.prog 5 0) (S5 xa xb xs ys h i) k) = (br (decide (i < (↑ys.length : Int)))
  (((0 : Int) ≤ i ∧ i < (↑ys.length : Int)) ∧
    ((0 : Int) ≤ i ∧ i < (↑ys.length : Int)) ∧
      ((0 : Int) ≤ i ∧ i < (↑ys.length : Int)) ∧
        ((0 : Int) ≤ i ∧ i < (↑ys.length : Int)) ∧
          ((0 : Int) ≤ i ∧
              i <
                (↑(ys.modify i.toNat fun x =>
                        [x.getD (nat_lit 0) (0 : Int),
                          IntKind.i64.wrap (rd ys i.toNat (1 : Nat) + (1000 : Int))]).length :
                  Int)) ∧
            ((0 : Int) ≤ i ∧
                i <
                  (↑(ys.modify i.toNat fun x =>
                          [x.getD (nat_lit 0) (0 : Int),
                            IntKind.i64.wrap (rd ys i.toNat (1 : Nat) + (1000 : Int))]).length :
                    Int)) ∧
              ((0 : Int) ≤ i ∧
                  i <
                    (↑(ys.modify i.toNat fun x =>
                            [x.getD (nat_lit 0) (0 : Int),
                              IntKind.i64.wrap (rd ys i.toNat (1 : Nat) + (1000 : Int))]).length :
                      Int)) ∧
                ((0 : Int) ≤ i ∧
                    i <
                      (↑(ys.modify i.toNat fun x =>
                              [x.getD (nat_lit 0) (0 : Int),
                                IntKind.i64.wrap (rd ys i.toNat (1 : Nat) + (1000 : Int))]).length :
                        Int)) ∧
                  k Out.normal
                    (St.mk
                      [none, none, some (IV.int IntKind.u64 h), none, none, none, none, some (IV.sl (2 : Nat)),
                        some (IV.sl (3 : Nat)), some (IV.int IntKind.i64 (IntKind.i64.wrap (i + (1 : Int)))), none,
                        none, none, none, none, none, none, none, none, none, none, none, none, none, none, none, none,
                        none, none, none, none, none, none, none, none, none, none, none, none, none, none, none, none,
                        none, none, none, none, none, none, none, none, none, none, none, none, none, none, none, none,
                        none, none, none, none, none, none, none, none, none, none, none, none]
                      [some (Blk.ro [IntKind.u8] xa), some (Blk.ro [IntKind.u8] xb),
                        some (Blk.row (32 : Nat) [IntKind.u64, IntKind.i64] xs),
                        some
                          (Blk.row (32 : Nat) [IntKind.u64, IntKind.i64]
                            ((ys.modify i.toNat fun x =>
                                  [x.getD (nat_lit 0) (0 : Int),
                                    IntKind.i64.wrap (rd ys i.toNat (1 : Nat) + (1000 : Int))]).modify
                              i.toNat fun x =>
                              [IntKind.u64.wrap
                                  (↑(BitVec.ofInt (64 : Nat)
                                            (rd
                                              (ys.modify i.toNat fun x =>
                                                [x.getD (nat_lit 0) (0 : Int),
                                                  IntKind.i64.wrap (rd ys i.toNat (1 : Nat) + (1000 : Int))])
                                              i.toNat (0 : Nat)) |||
                                          BitVec.ofInt (64 : Nat) h).toNat :
                                    Int),
                                x.getD (nat_lit 1) (0 : Int)]))]))
  (k (Out.exit (0 : Nat))
    (St.mk
      [none, none, none, none, none, none, none, some (IV.sl (2 : Nat)), some (IV.sl (3 : Nat)), none, none, none, none,
        none, none, none, none, none, none, none, none, none, none, none, none, none, none, none, none, none, none,
        none, none, none, none, none, none, none, none, none, none, none, none, none, none, none, none, none, none,
        none, none, none, none, none, none, none, none, none, none, none, none, none, none, none, none, none, none,
        none, none, none, none]
      [some (Blk.ro [IntKind.u8] xa), some (Blk.ro [IntKind.u8] xb),
        some (Blk.row (32 : Nat) [IntKind.u64, IntKind.i64] xs),
        some (Blk.row (32 : Nat) [IntKind.u64, IntKind.i64] ys)]))) := by kernel_rfl
theorem v5 (xa xb : List (List Int)) (h : Int) (K : IV → List Blk → Prop) : (comes Try.prog N5 1 5 [.sl 0, .sl 1, .int .u64 h] [.ro [.u8] xa, .ro [.u8] xb] K) = (preBytes [IV.sl (0 : Nat)] [Blk.ro [IntKind.u8] xa] ∧
  preBytes [IV.sl (0 : Nat)] [Blk.ro [IntKind.u8] xb] ∧
    ((2 : Nat) = (2 : Nat) ∧
        St.mk
              [none, none, some (IV.int IntKind.u64 h), none, none, none, none, some (IV.sl (2 : Nat)),
                some (IV.sl (3 : Nat)), some (IV.int IntKind.i64 (0 : Int)), none, none, none, none, none, none, none,
                none, none, none, none, none, none, none, none, none, none, none, none, none, none, none, none, none,
                none, none, none, none, none, none, none, none, none, none, none, none, none, none, none, none, none,
                none, none, none, none, none, none, none, none, none, none, none, none, none, none, none, none, none,
                none, none, none]
              [some (Blk.ro [IntKind.u8] xa), some (Blk.ro [IntKind.u8] xb),
                some (Blk.row (32 : Nat) [IntKind.u64, IntKind.i64] (makeF xa)),
                some (Blk.row (32 : Nat) [IntKind.u64, IntKind.i64] (makeF xb))] =
            St.mk
              [none, none, some (IV.int IntKind.u64 h), none, none, none, none, some (IV.sl (2 : Nat)),
                some (IV.sl (3 : Nat)), some (IV.int IntKind.i64 (0 : Int)), none, none, none, none, none, none, none,
                none, none, none, none, none, none, none, none, none, none, none, none, none, none, none, none, none,
                none, none, none, none, none, none, none, none, none, none, none, none, none, none, none, none, none,
                none, none, none, none, none, none, none, none, none, none, none, none, none, none, none, none, none,
                none, none, none]
              [some (Blk.ro [IntKind.u8] xa), some (Blk.ro [IntKind.u8] xb),
                some (Blk.row (32 : Nat) [IntKind.u64, IntKind.i64] (makeF xa)),
                some (Blk.row (32 : Nat) [IntKind.u64, IntKind.i64] (makeF xb))] ∧
          (makeF xb).length ≤ (100 : Nat)) ∧
      ((0 : Nat) + (makeF xa).length) * (16 : Nat) ≤ (140737488355328 : Nat) ∧
        ((List.replicate (0 : Nat) (List.replicate (2 : Nat) (0 : Int)) ++ makeF xa).length +
                (joinF h (makeF xb)).length) *
              (16 : Nat) ≤
            (140737488355328 : Nat) ∧
          preSort [IV.sl (0 : Nat)]
              [Blk.ro [IntKind.u64, IntKind.i64]
                  (List.replicate (0 : Nat) (List.replicate (2 : Nat) (0 : Int)) ++ makeF xa ++ joinF h (makeF xb))] ∧
            preSort [IV.sl (0 : Nat)] [Blk.ro [IntKind.u64, IntKind.i64] (makeF xa)] ∧
              preSort [IV.sl (0 : Nat)] [Blk.ro [IntKind.u64, IntKind.i64] (joinF h (makeF xb))] ∧
                ((sortF (makeF xa)).length + (sortF (joinF h (makeF xb))).length) * (16 : Nat) ≤
                    (140737488355328 : Nat) ∧
                  preSort [IV.sl (0 : Nat)]
                      [Blk.ro [IntKind.u64, IntKind.i64] (sortF (makeF xa) ++ sortF (joinF h (makeF xb)))] ∧
                    br
                      ((↑(sortF
                                (List.replicate (0 : Nat) (List.replicate (2 : Nat) (0 : Int)) ++ makeF xa ++
                                  joinF h (makeF xb))).length :
                          Int) ==
                        IntKind.i64.wrap ((↑(makeF xa).length : Int) + (↑(joinF h (makeF xb)).length : Int)))
                      (preSame [IV.sl (0 : Nat), IV.sl (1 : Nat)]
                          [Blk.ro [IntKind.u64, IntKind.i64]
                              (sortF
                                (List.replicate (0 : Nat) (List.replicate (2 : Nat) (0 : Int)) ++ makeF xa ++
                                  joinF h (makeF xb))),
                            Blk.ro [IntKind.u64, IntKind.i64]
                              (sortF (sortF (makeF xa) ++ sortF (joinF h (makeF xb))))] ∧
                        br
                          (bp
                            (sortF
                                (List.replicate (0 : Nat) (List.replicate (2 : Nat) (0 : Int)) ++ makeF xa ++
                                  joinF h (makeF xb)) =
                              sortF (sortF (makeF xa) ++ sortF (joinF h (makeF xb)))))
                          (preNone [] [] ∧ K (IV.bool true) []) (K (IV.bool false) []))
                      (K (IV.bool false) [])) := by kernel_rfl

