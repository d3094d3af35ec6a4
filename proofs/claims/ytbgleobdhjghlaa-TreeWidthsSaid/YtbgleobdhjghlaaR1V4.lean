import Derived.Test.YtbgleobdhjghlaaR1F5
set_option linter.unusedVariables false
/- Make, SortStays, SortJoins -/
namespace Go.Vs.R1
open Go Go.Proofs Go.Vs
def mkKey (b : Int) : Int := IntKind.u64.wrap (IntKind.u64.wrap (b.tmod 8) * 2 ^ min (IntKind.u8.wrap (8 * (IntKind.u8.wrap (b.tdiv 8)).tmod 8)).toNat 64)
def makeF (ns : List (List Int)) : List (List Int) := (List.range (min ns.length 100)).map fun (i : Nat) => [mkKey (rd ns i 0), (i : Int)]
def S19 (ns zs : List (List Int)) (i : Int) : St := ⟨T 35 [(0, .sl 0), (3, .sl 1), (4, i64 i)], [some (.ro [.u8] ns), row zs]⟩
def L19 : LoopS := fun n0 st K => (n0 = 1 ∧ st = S19 (st.x 0) [] 0 ∧ (st.x 0).length ≤ 9223372036854775807) ∧ K (.exit 0) ⟨T 35 [(3, .sl 1)], [some (.ro [.u8] (st.x 0)), row (makeF (st.x 0))]⟩
def N19 : Know := ⟨fun _ => none, fun f i => if f = 19 then (if i = 0 then some L19 else none) else none, fun _ => none⟩
theorem r19 (N : Know) (ns zs : List (List Int)) (i : Int) (k : Out → St → Prop) : (round (envOf Try.prog N 0) 19 1 0 (lp Try.prog 19 0) (S19 ns zs i) k) = (br (decide (i < (↑ns.length : Int)))
  (br (decide (i < (100 : Int)))
    (((0 : Int) ≤ i ∧ i < (↑ns.length : Int)) ∧
      ((0 : Int) ≤ i ∧ i < (↑ns.length : Int)) ∧
        (8 : Int) ≠ (0 : Int) ∧
          ((0 : Int) ≤ i ∧ i < (↑ns.length : Int)) ∧
            ((0 : Int) ≤ i ∧ i < (↑ns.length : Int)) ∧
              (8 : Int) ≠ (0 : Int) ∧
                (8 : Int) ≠ (0 : Int) ∧
                  (0 : Int) ≤
                      IntKind.u8.wrap
                        ((8 : Int) * (IntKind.u8.wrap ((rd ns i.toNat (0 : Nat)).tdiv (8 : Int))).tmod (8 : Int)) ∧
                    (zs.length +
                            ((List.replicate (1 : Nat) (List.replicate (2 : Nat) (0 : Int))).set (0 : Nat)
                                [IntKind.u64.wrap
                                    (IntKind.u64.wrap ((rd ns i.toNat (0 : Nat)).tmod (8 : Int)) *
                                      (2 : Int) ^
                                        min
                                          (IntKind.u8.wrap
                                              ((8 : Int) *
                                                (IntKind.u8.wrap ((rd ns i.toNat (0 : Nat)).tdiv (8 : Int))).tmod
                                                  (8 : Int))).toNat
                                          (64 : Nat)),
                                  i]).length) *
                          (16 : Nat) ≤
                        (140737488355328 : Nat) ∧
                      k Out.normal
                        (St.mk
                          [some (IV.sl (0 : Nat)), none, none, some (IV.sl (1 : Nat)),
                            some (IV.int IntKind.i64 (IntKind.i64.wrap (i + (1 : Int)))), none, none, none, none, none,
                            none, none, none, none, none, none, none, none, none, none, none, none, none, none, none,
                            none, none, none, none, none, none, none, none, none, none]
                          [some (Blk.ro [IntKind.u8] ns),
                            some
                              (Blk.row (32 : Nat) [IntKind.u64, IntKind.i64]
                                (zs ++
                                  (List.replicate (1 : Nat) (List.replicate (2 : Nat) (0 : Int))).set (0 : Nat)
                                    [IntKind.u64.wrap
                                        (IntKind.u64.wrap ((rd ns i.toNat (0 : Nat)).tmod (8 : Int)) *
                                          (2 : Int) ^
                                            min
                                              (IntKind.u8.wrap
                                                  ((8 : Int) *
                                                    (IntKind.u8.wrap ((rd ns i.toNat (0 : Nat)).tdiv (8 : Int))).tmod
                                                      (8 : Int))).toNat
                                              (64 : Nat)),
                                      i]))]))
    (k (Out.exit (0 : Nat))
      (St.mk
        [none, none, none, some (IV.sl (1 : Nat)), none, none, none, none, none, none, none, none, none, none, none,
          none, none, none, none, none, none, none, none, none, none, none, none, none, none, none, none, none, none,
          none, none]
        [some (Blk.ro [IntKind.u8] ns), some (Blk.row (32 : Nat) [IntKind.u64, IntKind.i64] zs)])))
  (k (Out.exit (0 : Nat))
    (St.mk
      [none, none, none, some (IV.sl (1 : Nat)), none, none, none, none, none, none, none, none, none, none, none, none,
        none, none, none, none, none, none, none, none, none, none, none, none, none, none, none, none, none, none,
        none]
      [some (Blk.ro [IntKind.u8] ns), some (Blk.row (32 : Nat) [IntKind.u64, IntKind.i64] zs)]))) := by kernel_rfl
theorem v19 (ns : List (List Int)) (K : IV → List Blk → Prop) : (comes Try.prog N19 1 19 [.sl 0] [.ro [.u8] ns] K) = (((1 : Nat) = (1 : Nat) ∧
    St.mk
          [some (IV.sl (0 : Nat)), none, none, some (IV.sl (1 : Nat)), some (IV.int IntKind.i64 (0 : Int)), none, none,
            none, none, none, none, none, none, none, none, none, none, none, none, none, none, none, none, none, none,
            none, none, none, none, none, none, none, none, none, none]
          [some (Blk.ro [IntKind.u8] ns), some (Blk.row (32 : Nat) [IntKind.u64, IntKind.i64] [])] =
        St.mk
          [some (IV.sl (0 : Nat)), none, none, some (IV.sl (1 : Nat)), some (IV.int IntKind.i64 (0 : Int)), none, none,
            none, none, none, none, none, none, none, none, none, none, none, none, none, none, none, none, none, none,
            none, none, none, none, none, none, none, none, none, none]
          [some (Blk.ro [IntKind.u8] ns), some (Blk.row (32 : Nat) [IntKind.u64, IntKind.i64] [])] ∧
      ns.length ≤ (9223372036854775807 : Nat)) ∧
  K (IV.sl (0 : Nat)) [Blk.row (32 : Nat) [IntKind.u64, IntKind.i64] (makeF ns)]) := by kernel_rfl

