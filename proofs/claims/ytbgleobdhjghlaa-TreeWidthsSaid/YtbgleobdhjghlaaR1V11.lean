import Derived.Test.YtbgleobdhjghlaaR1F14
set_option linter.unusedVariables false
/- TreeRises, TreeAll, TreeMade -/
namespace Go.Vs.R1
open Go Go.Proofs Go.Vs
noncomputable def N8 : Know := ⟨Γ8, fun _ _ => none, fun _ => none⟩
theorem v10 (a b : Int) (K : IV → List Blk → Prop) : (comes Try.prog N8 1 10 [.int .u64 a, .int .u64 b] [] K) = (((0 : Int) ≤ (1 : Int) ∧
    (1 : Int) <
      (↑(((List.replicate (2 : Nat) (List.replicate (2 : Nat) (0 : Int))).set (0 : Nat)
                  [mx IntKind.u64 a b, (0 : Int)]).set
              (1 : Nat) [mn IntKind.u64 a b, (1 : Int)]).length :
        Int)) ∧
  ((0 : Int) ≤ (1 : Int) ∧
      (1 : Int) <
        (↑(((List.replicate (2 : Nat) (List.replicate (2 : Nat) (0 : Int))).set (0 : Nat)
                    [mx IntKind.u64 a b, (0 : Int)]).set
                (1 : Nat) [mn IntKind.u64 a b, (1 : Int)]).length :
          Int)) ∧
    ((0 : Int) ≤ (0 : Int) ∧
        (0 : Int) <
          (↑(((List.replicate (2 : Nat) (List.replicate (2 : Nat) (0 : Int))).set (0 : Nat)
                      [mx IntKind.u64 a b, (0 : Int)]).set
                  (1 : Nat) [mn IntKind.u64 a b, (1 : Int)]).length :
            Int)) ∧
      ((0 : Int) ≤ (0 : Int) ∧
          (0 : Int) <
            (↑(((List.replicate (2 : Nat) (List.replicate (2 : Nat) (0 : Int))).set (0 : Nat)
                        [mx IntKind.u64 a b, (0 : Int)]).set
                    (1 : Nat) [mn IntKind.u64 a b, (1 : Int)]).length :
              Int)) ∧
        preBuild [IV.sl (0 : Nat)]
            [Blk.ro [IntKind.u64, IntKind.i64] [[mx IntKind.u64 a b, (0 : Int)], [mn IntKind.u64 a b, (1 : Int)]]] ∧
          br
            (((↑(buildF [[mx IntKind.u64 a b, (0 : Int)], [mn IntKind.u64 a b, (1 : Int)]]).length : Int) ==
                (0 : Int)) ==
              (a != b))
            (preBuild [IV.sl (0 : Nat)]
                [Blk.ro [IntKind.u64, IntKind.i64]
                    [[rd
                          (((List.replicate (2 : Nat) (List.replicate (2 : Nat) (0 : Int))).set (0 : Nat)
                                [mx IntKind.u64 a b, (0 : Int)]).set
                            (1 : Nat) [mn IntKind.u64 a b, (1 : Int)])
                          (1 : Nat) (0 : Nat),
                        rd
                          (((List.replicate (2 : Nat) (List.replicate (2 : Nat) (0 : Int))).set (0 : Nat)
                                [mx IntKind.u64 a b, (0 : Int)]).set
                            (1 : Nat) [mn IntKind.u64 a b, (1 : Int)])
                          (1 : Nat) (1 : Nat)],
                      [rd
                          (((List.replicate (2 : Nat) (List.replicate (2 : Nat) (0 : Int))).set (0 : Nat)
                                [mx IntKind.u64 a b, (0 : Int)]).set
                            (1 : Nat) [mn IntKind.u64 a b, (1 : Int)])
                          (0 : Nat) (0 : Nat),
                        rd
                          (((List.replicate (2 : Nat) (List.replicate (2 : Nat) (0 : Int))).set (0 : Nat)
                                [mx IntKind.u64 a b, (0 : Int)]).set
                            (1 : Nat) [mn IntKind.u64 a b, (1 : Int)])
                          (0 : Nat) (1 : Nat)]]] ∧
              br
                ((↑(buildF
                          [[rd
                                (((List.replicate (2 : Nat) (List.replicate (2 : Nat) (0 : Int))).set (0 : Nat)
                                      [mx IntKind.u64 a b, (0 : Int)]).set
                                  (1 : Nat) [mn IntKind.u64 a b, (1 : Int)])
                                (1 : Nat) (0 : Nat),
                              rd
                                (((List.replicate (2 : Nat) (List.replicate (2 : Nat) (0 : Int))).set (0 : Nat)
                                      [mx IntKind.u64 a b, (0 : Int)]).set
                                  (1 : Nat) [mn IntKind.u64 a b, (1 : Int)])
                                (1 : Nat) (1 : Nat)],
                            [rd
                                (((List.replicate (2 : Nat) (List.replicate (2 : Nat) (0 : Int))).set (0 : Nat)
                                      [mx IntKind.u64 a b, (0 : Int)]).set
                                  (1 : Nat) [mn IntKind.u64 a b, (1 : Int)])
                                (0 : Nat) (0 : Nat),
                              rd
                                (((List.replicate (2 : Nat) (List.replicate (2 : Nat) (0 : Int))).set (0 : Nat)
                                      [mx IntKind.u64 a b, (0 : Int)]).set
                                  (1 : Nat) [mn IntKind.u64 a b, (1 : Int)])
                                (0 : Nat) (1 : Nat)]]).length :
                    Int) ==
                  (1 : Int))
                (preNone [] [] ∧ K (IV.bool true) []) (K (IV.bool false) []))
            (K (IV.bool false) [])) := by kernel_rfl
theorem v11 (xs : List (List Int)) (lev : Int) (K : IV → List Blk → Prop) : (comes Try.prog N8 1 11 [.sl 0, .int .i64 lev] [.ro [.u64, .i64] xs] K) = (br (decide ((↑xs.length : Int) > (100 : Int))) (preNone [] [] ∧ K (IV.bool true) [])
  (preBuild [IV.sl (0 : Nat)] [Blk.ro [IntKind.u64, IntKind.i64] xs] ∧
    preBuild [IV.sl (0 : Nat)] [Blk.ro [IntKind.u64, IntKind.i64] xs] ∧
      preNodes [IV.sl (0 : Nat), IV.sl (1 : Nat)]
          [Blk.ro
              [IntKind.i64, IntKind.u64, IntKind.i64, IntKind.i64, IntKind.i64, IntKind.i64, IntKind.i64, IntKind.i64]
              (buildF xs),
            Blk.ro
              [IntKind.i64, IntKind.u64, IntKind.i64, IntKind.i64, IntKind.i64, IntKind.i64, IntKind.i64, IntKind.i64]
              (buildF xs)] ∧
        preSort [IV.sl (0 : Nat)] [Blk.ro [IntKind.u64, IntKind.i64] xs] ∧
          preBuild [IV.sl (0 : Nat)] [Blk.ro [IntKind.u64, IntKind.i64] (sortF xs)] ∧
            preSort [IV.sl (0 : Nat)] [Blk.ro [IntKind.u64, IntKind.i64] xs] ∧
              preBuild [IV.sl (0 : Nat)] [Blk.ro [IntKind.u64, IntKind.i64] (sortF xs)] ∧
                preNodes [IV.sl (0 : Nat), IV.sl (1 : Nat)]
                    [Blk.ro
                        [IntKind.i64, IntKind.u64, IntKind.i64, IntKind.i64, IntKind.i64, IntKind.i64, IntKind.i64,
                          IntKind.i64]
                        (buildF (sortF xs)),
                      Blk.ro
                        [IntKind.i64, IntKind.u64, IntKind.i64, IntKind.i64, IntKind.i64, IntKind.i64, IntKind.i64,
                          IntKind.i64]
                        (buildF (sortF xs))] ∧
                  preInt [IV.int IntKind.i64 lev] [] ∧
                    preInt [IV.int IntKind.i64 lev] [] ∧
                      br
                        (eqCells [IV.int IntKind.i64 (wF lev), IV.int IntKind.u64 (0 : Int)]
                          [IV.int IntKind.i64 (wF lev), IV.int IntKind.u64 (0 : Int)])
                        (preNone [] [] ∧ K (IV.bool true) []) (K (IV.bool false) []))) := by kernel_rfl
def xorU (a b : Int) : Int := IntKind.u64.wrap ((BitVec.ofInt 64 a ^^^ BitVec.ofInt 64 b).toNat : Int)
def xorF (h : Int) (ys : List (List Int)) : List (List Int) := ys.map fun y => [xorU (y.getD 0 0) h, y.getD 1 0]
def S6 (n : Nat) (xa zs : List (List Int)) (h i : Int) : St := ⟨T n [(1, .int .u64 h), (5, .sl 1), (6, i64 i)], [some (.ro [.u8] xa), row zs]⟩
noncomputable def L6 (n : Nat) : LoopS := fun n0 st K => (n0 = 1 ∧ st = S6 n (st.x 0) (st.x 1) (st.i 1) 0 ∧ (st.x 1).length ≤ 100) ∧ K (.exit 0) ⟨T n [(5, .sl 1)], [some (.ro [.u8] (st.x 0)), row (xorF (st.i 1) (st.x 1))]⟩
theorem r6 (N : Know) (xa zs : List (List Int)) (h i : Int) (k : Out → St → Prop) : (round (envOf Try.prog N 0) 6 1 0 (lp Try.prog 6 0) (S6 36 xa zs h i) k) = (br (decide (i < (↑zs.length : Int)))
  (((0 : Int) ≤ i ∧ i < (↑zs.length : Int)) ∧
    ((0 : Int) ≤ i ∧ i < (↑zs.length : Int)) ∧
      ((0 : Int) ≤ i ∧ i < (↑zs.length : Int)) ∧
        ((0 : Int) ≤ i ∧ i < (↑zs.length : Int)) ∧
          k Out.normal
            (St.mk
              [none, some (IV.int IntKind.u64 h), none, none, none, some (IV.sl (1 : Nat)),
                some (IV.int IntKind.i64 (IntKind.i64.wrap (i + (1 : Int)))), none, none, none, none, none, none, none,
                none, none, none, none, none, none, none, none, none, none, none, none, none, none, none, none, none,
                none, none, none, none, none]
              [some (Blk.ro [IntKind.u8] xa),
                some
                  (Blk.row (32 : Nat) [IntKind.u64, IntKind.i64]
                    (zs.modify i.toNat fun x =>
                      [IntKind.u64.wrap
                          (↑(BitVec.ofInt (64 : Nat) (rd zs i.toNat (0 : Nat)) ^^^ BitVec.ofInt (64 : Nat) h).toNat :
                            Int),
                        x.getD (nat_lit 1) (0 : Int)]))]))
  (k (Out.exit (0 : Nat))
    (St.mk
      [none, none, none, none, none, some (IV.sl (1 : Nat)), none, none, none, none, none, none, none, none, none, none,
        none, none, none, none, none, none, none, none, none, none, none, none, none, none, none, none, none, none,
        none, none]
      [some (Blk.ro [IntKind.u8] xa), some (Blk.row (32 : Nat) [IntKind.u64, IntKind.i64] zs)]))) := by kernel_rfl
theorem r7a (N : Know) (xa zs : List (List Int)) (h i : Int) (k : Out → St → Prop) : (round (envOf Try.prog N 0) 7 1 0 (lp Try.prog 7 0) (S6 215 xa zs h i) k) = (br (decide (i < (↑zs.length : Int)))
  (((0 : Int) ≤ i ∧ i < (↑zs.length : Int)) ∧
    ((0 : Int) ≤ i ∧ i < (↑zs.length : Int)) ∧
      ((0 : Int) ≤ i ∧ i < (↑zs.length : Int)) ∧
        ((0 : Int) ≤ i ∧ i < (↑zs.length : Int)) ∧
          k Out.normal
            (St.mk
              [none, some (IV.int IntKind.u64 h), none, none, none, some (IV.sl (1 : Nat)),
                some (IV.int IntKind.i64 (IntKind.i64.wrap (i + (1 : Int)))), none, none, none, none, none, none, none,
                none, none, none, none, none, none, none, none, none, none, none, none, none, none, none, none, none,
                none, none, none, none, none, none, none, none, none, none, none, none, none, none, none, none, none,
                none, none, none, none, none, none, none, none, none, none, none, none, none, none, none, none, none,
                none, none, none, none, none, none, none, none, none, none, none, none, none, none, none, none, none,
                none, none, none, none, none, none, none, none, none, none, none, none, none, none, none, none, none,
                none, none, none, none, none, none, none, none, none, none, none, none, none, none, none, none, none,
                none, none, none, none, none, none, none, none, none, none, none, none, none, none, none, none, none,
                none, none, none, none, none, none, none, none, none, none, none, none, none, none, none, none, none,
                none, none, none, none, none, none, none, none, none, none, none, none, none, none, none, none, none,
                none, none, none, none, none, none, none, none, none, none, none, none, none, none, none, none, none,
                none, none, none, none, none, none, none, none, none, none, none, none, none, none, none, none, none,
                none, none, none, none, none, none, none, none, none, none, none, none, none, none]
              [some (Blk.ro [IntKind.u8] xa),
                some
                  (Blk.row (32 : Nat) [IntKind.u64, IntKind.i64]
                    (zs.modify i.toNat fun x =>
                      [IntKind.u64.wrap
                          (↑(BitVec.ofInt (64 : Nat) (rd zs i.toNat (0 : Nat)) ^^^ BitVec.ofInt (64 : Nat) h).toNat :
                            Int),
                        x.getD (nat_lit 1) (0 : Int)]))]))
  (k (Out.exit (0 : Nat))
    (St.mk
      [none, none, none, none, none, some (IV.sl (1 : Nat)), none, none, none, none, none, none, none, none, none, none,
        none, none, none, none, none, none, none, none, none, none, none, none, none, none, none, none, none, none,
        none, none, none, none, none, none, none, none, none, none, none, none, none, none, none, none, none, none,
        none, none, none, none, none, none, none, none, none, none, none, none, none, none, none, none, none, none,
        none, none, none, none, none, none, none, none, none, none, none, none, none, none, none, none, none, none,
        none, none, none, none, none, none, none, none, none, none, none, none, none, none, none, none, none, none,
        none, none, none, none, none, none, none, none, none, none, none, none, none, none, none, none, none, none,
        none, none, none, none, none, none, none, none, none, none, none, none, none, none, none, none, none, none,
        none, none, none, none, none, none, none, none, none, none, none, none, none, none, none, none, none, none,
        none, none, none, none, none, none, none, none, none, none, none, none, none, none, none, none, none, none,
        none, none, none, none, none, none, none, none, none, none, none, none, none, none, none, none, none, none,
        none, none, none, none, none, none, none, none, none, none, none, none, none, none, none, none, none, none,
        none]
      [some (Blk.ro [IntKind.u8] xa), some (Blk.row (32 : Nat) [IntKind.u64, IntKind.i64] zs)]))) := by kernel_rfl
theorem r8a (N : Know) (xa zs : List (List Int)) (h i : Int) (k : Out → St → Prop) : (round (envOf Try.prog N 0) 8 1 0 (lp Try.prog 8 0) (S6 116 xa zs h i) k) = (br (decide (i < (↑zs.length : Int)))
  (((0 : Int) ≤ i ∧ i < (↑zs.length : Int)) ∧
    ((0 : Int) ≤ i ∧ i < (↑zs.length : Int)) ∧
      ((0 : Int) ≤ i ∧ i < (↑zs.length : Int)) ∧
        ((0 : Int) ≤ i ∧ i < (↑zs.length : Int)) ∧
          k Out.normal
            (St.mk
              [none, some (IV.int IntKind.u64 h), none, none, none, some (IV.sl (1 : Nat)),
                some (IV.int IntKind.i64 (IntKind.i64.wrap (i + (1 : Int)))), none, none, none, none, none, none, none,
                none, none, none, none, none, none, none, none, none, none, none, none, none, none, none, none, none,
                none, none, none, none, none, none, none, none, none, none, none, none, none, none, none, none, none,
                none, none, none, none, none, none, none, none, none, none, none, none, none, none, none, none, none,
                none, none, none, none, none, none, none, none, none, none, none, none, none, none, none, none, none,
                none, none, none, none, none, none, none, none, none, none, none, none, none, none, none, none, none,
                none, none, none, none, none, none, none, none, none, none, none, none, none, none, none, none, none]
              [some (Blk.ro [IntKind.u8] xa),
                some
                  (Blk.row (32 : Nat) [IntKind.u64, IntKind.i64]
                    (zs.modify i.toNat fun x =>
                      [IntKind.u64.wrap
                          (↑(BitVec.ofInt (64 : Nat) (rd zs i.toNat (0 : Nat)) ^^^ BitVec.ofInt (64 : Nat) h).toNat :
                            Int),
                        x.getD (nat_lit 1) (0 : Int)]))]))
  (k (Out.exit (0 : Nat))
    (St.mk
      [none, none, none, none, none, some (IV.sl (1 : Nat)), none, none, none, none, none, none, none, none, none, none,
        none, none, none, none, none, none, none, none, none, none, none, none, none, none, none, none, none, none,
        none, none, none, none, none, none, none, none, none, none, none, none, none, none, none, none, none, none,
        none, none, none, none, none, none, none, none, none, none, none, none, none, none, none, none, none, none,
        none, none, none, none, none, none, none, none, none, none, none, none, none, none, none, none, none, none,
        none, none, none, none, none, none, none, none, none, none, none, none, none, none, none, none, none, none,
        none, none, none, none, none, none, none, none, none, none]
      [some (Blk.ro [IntKind.u8] xa), some (Blk.row (32 : Nat) [IntKind.u64, IntKind.i64] zs)]))) := by kernel_rfl
noncomputable def N6 : Know := ⟨Γ8, fun f i => if f = 6 then (if i = 0 then some (L6 36) else none) else none, fun _ => none⟩
theorem v6 (xa : List (List Int)) (h : Int) (K : IV → List Blk → Prop) : (comes Try.prog N6 1 6 [.sl 0, .int .u64 h] [.ro [.u8] xa] K) = (preBytes [IV.sl (0 : Nat)] [Blk.ro [IntKind.u8] xa] ∧
  ((1 : Nat) = (1 : Nat) ∧
      St.mk
            [none, some (IV.int IntKind.u64 h), none, none, none, some (IV.sl (1 : Nat)),
              some (IV.int IntKind.i64 (0 : Int)), none, none, none, none, none, none, none, none, none, none, none,
              none, none, none, none, none, none, none, none, none, none, none, none, none, none, none, none, none,
              none]
            [some (Blk.ro [IntKind.u8] xa), some (Blk.row (32 : Nat) [IntKind.u64, IntKind.i64] (makeF xa))] =
          St.mk
            [none, some (IV.int IntKind.u64 h), none, none, none, some (IV.sl (1 : Nat)),
              some (IV.int IntKind.i64 (0 : Int)), none, none, none, none, none, none, none, none, none, none, none,
              none, none, none, none, none, none, none, none, none, none, none, none, none, none, none, none, none,
              none]
            [some (Blk.ro [IntKind.u8] xa), some (Blk.row (32 : Nat) [IntKind.u64, IntKind.i64] (makeF xa))] ∧
        (makeF xa).length ≤ (100 : Nat)) ∧
    preSort [IV.sl (0 : Nat)] [Blk.ro [IntKind.u64, IntKind.i64] (xorF h (makeF xa))] ∧
      preBuild [IV.sl (0 : Nat)] [Blk.ro [IntKind.u64, IntKind.i64] (sortF (xorF h (makeF xa)))] ∧
        preSort [IV.sl (0 : Nat)] [Blk.ro [IntKind.u64, IntKind.i64] (xorF h (makeF xa))] ∧
          preBuild [IV.sl (0 : Nat)] [Blk.ro [IntKind.u64, IntKind.i64] (sortF (xorF h (makeF xa)))] ∧
            preNodes [IV.sl (0 : Nat), IV.sl (1 : Nat)]
                [Blk.ro
                    [IntKind.i64, IntKind.u64, IntKind.i64, IntKind.i64, IntKind.i64, IntKind.i64, IntKind.i64,
                      IntKind.i64]
                    (buildF (sortF (xorF h (makeF xa)))),
                  Blk.ro
                    [IntKind.i64, IntKind.u64, IntKind.i64, IntKind.i64, IntKind.i64, IntKind.i64, IntKind.i64,
                      IntKind.i64]
                    (buildF (sortF (xorF h (makeF xa))))] ∧
              preNone [] [] ∧ K (IV.bool true) []) := by kernel_rfl

