import Derived.Test.YtbgleobdhjghlaaR1M1
set_option linter.unusedVariables false
/- sort.By: states and conditions -/
namespace Go.Vs.R1
open Go Go.Proofs Go.Vs
def dg (s x : Int) : Int := IntKind.u64.wrap ↑(BitVec.ofInt 64 (x.fdiv (2 ^ min s.toNat 64)) &&& BitVec.ofInt 64 255).toNat
def cnt (s d : Int) (ys : List (List Int)) : Nat := (ys.filter fun x => decide (dg s (key x) = d)).length
def cntB (s d : Int) (ys : List (List Int)) : Nat := (ys.filter fun x => decide (dg s (key x) < d)).length
def pass (s : Int) (ys : List (List Int)) : List (List Int) := (List.range 256).flatMap fun (d : Nat) => ys.filter fun x => decide (dg s (key x) = (d : Int))
def keysOk (ys : List (List Int)) : Prop := ∀ x ∈ ys, 0 ≤ key x ∧ key x < 18446744073709551616
def zero257 : List Int := List.replicate 257 0
def isCnt (s : Int) (ys : List (List Int)) (A : List Int) : Prop := A.length = 257 ∧ A.getD 0 0 = 0 ∧ ∀ d : Nat, d < 256 → A.getD (d + 1) 0 = cnt s d ys
def isCntB (s : Int) (ys : List (List Int)) (A : List Int) : Prop := A.length = 257 ∧ ∀ d : Nat, d < 257 → A.getD d 0 = cntB s d ys
def B15 (xs ys zs : List (List Int)) (A : List Int) : List (Option Blk) := [ro xs, row ys, row zs, some (.ints 53 .i64 A)]
def S15 (xs ys zs : List (List Int)) (s : Int) : St := ⟨T 78 [(3, .sl 1), (4, .sl 2), (5, i64 s)], [ro xs, row ys, row zs]⟩
def S15m (xs ys zs : List (List Int)) (A : List Int) (s : Int) : St := ⟨T 78 [(3, .sl 1), (4, .sl 2), (5, i64 s), (6, .ptr 3 0)], B15 xs ys zs A⟩
def S15a (xs ys zs : List (List Int)) (A : List Int) (s j : Int) : St := ⟨T 78 [(3, .sl 1), (4, .sl 2), (5, i64 s), (6, .ptr 3 0), (22, .sl 1), (23, i64 ys.length), (24, i64 j)], B15 xs ys zs A⟩
def S15b (xs ys zs : List (List Int)) (A : List Int) (s j : Int) : St := ⟨T 78 [(3, .sl 1), (4, .sl 2), (5, i64 s), (6, .ptr 3 0), (39, i64 j)], B15 xs ys zs A⟩
def S15c (xs ys zs : List (List Int)) (A : List Int) (s j : Int) : St := ⟨T 78 [(3, .sl 1), (4, .sl 2), (5, i64 s), (6, .ptr 3 0), (52, .sl 1), (53, i64 ys.length), (54, i64 j)], B15 xs ys zs A⟩
def L15a : LoopS := fun n0 st K => (n0 = 1 ∧ st = S15a (st.x 0) (st.x 1) (st.x 2) zero257 (st.i 5) 0 ∧ (st.x 1).length ≤ 1000000 ∧ 0 ≤ st.i 5) ∧
  ∀ A' : List Int, isCnt (st.i 5) (st.x 1) A' → K (.exit 2) (S15m (st.x 0) (st.x 1) (st.x 2) A' (st.i 5))
def L15b : LoopS := fun n0 st K => (n0 = 1 ∧ st = S15b (st.x 0) (st.x 1) (st.x 2) (st.a 3) (st.i 5) 0 ∧ (st.x 1).length ≤ 1000000 ∧ 0 ≤ st.i 5 ∧ isCnt (st.i 5) (st.x 1) (st.a 3)) ∧
  ∀ A' : List Int, isCntB (st.i 5) (st.x 1) A' → K (.exit 4) (S15m (st.x 0) (st.x 1) (st.x 2) A' (st.i 5))
def L15c : LoopS := fun n0 st K => (n0 = 1 ∧ st = S15c (st.x 0) (st.x 1) (st.x 2) (st.a 3) (st.i 5) 0 ∧ (st.x 1).length ≤ 1000000 ∧ 0 ≤ st.i 5 ∧ isCntB (st.i 5) (st.x 1) (st.a 3) ∧ (st.x 2).length = (st.x 1).length ∧ rows2 (st.x 1)) ∧
  K (.exit 6) (S15 (st.x 0) (st.x 1) (pass (st.i 5) (st.x 1)) (st.i 5))
def L15 : LoopS := fun n0 st K => (n0 = 1 ∧ st = S15 (st.x 0) (st.x 1) (st.x 2) 0 ∧ (st.x 1).length ≤ 1000000 ∧ (st.x 2).length = (st.x 1).length ∧ rows2 (st.x 1) ∧ keysOk (st.x 1)) ∧
  ∀ zs' : List (List Int), Sorted (st.x 1) zs' → K (.exit 0) ⟨T 78 [(3, .sl 1)], [ro (st.x 0), row zs']⟩
def xsOf (bs : List Blk) (i : Nat) : List (List Int) := match bs[i]? with
  | some (.row _ _ xs) => xs
  | some (.ro _ xs) => xs
  | _ => []
def preClone (l : List IV) (bs : List Blk) : Prop := ∃ xs, l = [.sl 0] ∧ bs = [.ro [.u64, .i64] xs] ∧ xs.length ≤ 1000000
def spClone : Vs.Spec := ⟨preClone, fun l bs => (.sl 0, [.row 32 [.u64, .i64] (xsOf bs 0)])⟩
def N15 : Know := ⟨fun g => if g = 28 then some spClone else none, fun f i => if f = 15 then (if i = 0 then some L15 else if i = 1 then some L15a else if i = 2 then some L15b else if i = 3 then some L15c else none) else none, fun _ => none⟩
theorem r15a (N : Know) (xs ys zs : List (List Int)) (A : List Int) (s j : Int) (k : Out → St → Prop) : (round (envOf Try.prog N 0) 15 1 1 (lp Try.prog 15 1) (S15a xs ys zs A s j) k) = (br (decide (j < (↑ys.length : Int)))
  (((0 : Int) ≤ j ∧ j < (↑ys.length : Int)) ∧
    ((0 : Int) ≤ j ∧ j < (↑ys.length : Int)) ∧
      (0 : Int) ≤ s ∧
        ((0 : Int) ≤
              IntKind.u64.wrap
                (IntKind.u64.wrap
                    (↑(BitVec.ofInt (64 : Nat) ((rd ys j.toNat (0 : Nat)).fdiv ((2 : Int) ^ min s.toNat (64 : Nat))) &&&
                            BitVec.ofInt (64 : Nat) (255 : Int)).toNat :
                      Int) +
                  (1 : Int)) ∧
            IntKind.u64.wrap
                (IntKind.u64.wrap
                    (↑(BitVec.ofInt (64 : Nat) ((rd ys j.toNat (0 : Nat)).fdiv ((2 : Int) ^ min s.toNat (64 : Nat))) &&&
                            BitVec.ofInt (64 : Nat) (255 : Int)).toNat :
                      Int) +
                  (1 : Int)) <
              (↑(257 : Nat) : Int)) ∧
          ((0 : Int) ≤
                IntKind.u64.wrap
                  (IntKind.u64.wrap
                      (↑(BitVec.ofInt (64 : Nat)
                                ((rd ys j.toNat (0 : Nat)).fdiv ((2 : Int) ^ min s.toNat (64 : Nat))) &&&
                              BitVec.ofInt (64 : Nat) (255 : Int)).toNat :
                        Int) +
                    (1 : Int)) ∧
              IntKind.u64.wrap
                  (IntKind.u64.wrap
                      (↑(BitVec.ofInt (64 : Nat)
                                ((rd ys j.toNat (0 : Nat)).fdiv ((2 : Int) ^ min s.toNat (64 : Nat))) &&&
                              BitVec.ofInt (64 : Nat) (255 : Int)).toNat :
                        Int) +
                    (1 : Int)) <
                (↑A.length : Int)) ∧
            ((0 : Int) ≤
                  IntKind.u64.wrap
                    (IntKind.u64.wrap
                        (↑(BitVec.ofInt (64 : Nat)
                                  ((rd ys j.toNat (0 : Nat)).fdiv ((2 : Int) ^ min s.toNat (64 : Nat))) &&&
                                BitVec.ofInt (64 : Nat) (255 : Int)).toNat :
                          Int) +
                      (1 : Int)) ∧
                IntKind.u64.wrap
                    (IntKind.u64.wrap
                        (↑(BitVec.ofInt (64 : Nat)
                                  ((rd ys j.toNat (0 : Nat)).fdiv ((2 : Int) ^ min s.toNat (64 : Nat))) &&&
                                BitVec.ofInt (64 : Nat) (255 : Int)).toNat :
                          Int) +
                      (1 : Int)) <
                  (↑(257 : Nat) : Int)) ∧
              ((0 : Int) ≤
                    IntKind.u64.wrap
                      (IntKind.u64.wrap
                          (↑(BitVec.ofInt (64 : Nat)
                                    ((rd ys j.toNat (0 : Nat)).fdiv ((2 : Int) ^ min s.toNat (64 : Nat))) &&&
                                  BitVec.ofInt (64 : Nat) (255 : Int)).toNat :
                            Int) +
                        (1 : Int)) ∧
                  IntKind.u64.wrap
                      (IntKind.u64.wrap
                          (↑(BitVec.ofInt (64 : Nat)
                                    ((rd ys j.toNat (0 : Nat)).fdiv ((2 : Int) ^ min s.toNat (64 : Nat))) &&&
                                  BitVec.ofInt (64 : Nat) (255 : Int)).toNat :
                            Int) +
                        (1 : Int)) <
                    (↑A.length : Int)) ∧
                k Out.normal
                  (St.mk
                    [none, none, none, some (IV.sl (nat_lit 1)), some (IV.sl (nat_lit 2)), some (IV.int IntKind.i64 s),
                      some (IV.ptr (nat_lit 3) (nat_lit 0)), none, none, none, none, none, none, none, none, none, none,
                      none, none, none, none, none, some (IV.sl (nat_lit 1)),
                      some (IV.int IntKind.i64 (↑ys.length : Int)),
                      some (IV.int IntKind.i64 (IntKind.i64.wrap (j + (1 : Int)))), none, none, none, none, none, none,
                      none, none, none, none, none, none, none, none, none, none, none, none, none, none, none, none,
                      none, none, none, none, none, none, none, none, none, none, none, none, none, none, none, none,
                      none, none, none, none, none, none, none, none, none, none, none, none, none, none, none]
                    [some (Blk.ro [IntKind.u64, IntKind.i64] xs),
                      some (Blk.row (nat_lit 32) [IntKind.u64, IntKind.i64] ys),
                      some (Blk.row (nat_lit 32) [IntKind.u64, IntKind.i64] zs),
                      some
                        (Blk.ints (nat_lit 53) IntKind.i64
                          (dset A
                            (IntKind.u64.wrap
                              (IntKind.u64.wrap
                                  (↑(BitVec.ofInt (64 : Nat)
                                            ((rd ys j.toNat (0 : Nat)).fdiv ((2 : Int) ^ min s.toNat (64 : Nat))) &&&
                                          BitVec.ofInt (64 : Nat) (255 : Int)).toNat :
                                    Int) +
                                (1 : Int)))
                            (IntKind.i64.wrap
                              (dget A
                                  (IntKind.u64.wrap
                                    (IntKind.u64.wrap
                                        (↑(BitVec.ofInt (64 : Nat)
                                                  ((rd ys j.toNat (0 : Nat)).fdiv
                                                    ((2 : Int) ^ min s.toNat (64 : Nat))) &&&
                                                BitVec.ofInt (64 : Nat) (255 : Int)).toNat :
                                          Int) +
                                      (1 : Int))) +
                                (1 : Int)))))]))
  (k (Out.exit (nat_lit 2))
    (St.mk
      [none, none, none, some (IV.sl (nat_lit 1)), some (IV.sl (nat_lit 2)), some (IV.int IntKind.i64 s),
        some (IV.ptr (nat_lit 3) (nat_lit 0)), none, none, none, none, none, none, none, none, none, none, none, none,
        none, none, none, none, none, none, none, none, none, none, none, none, none, none, none, none, none, none,
        none, none, none, none, none, none, none, none, none, none, none, none, none, none, none, none, none, none,
        none, none, none, none, none, none, none, none, none, none, none, none, none, none, none, none, none, none,
        none, none, none, none, none]
      [some (Blk.ro [IntKind.u64, IntKind.i64] xs), some (Blk.row (nat_lit 32) [IntKind.u64, IntKind.i64] ys),
        some (Blk.row (nat_lit 32) [IntKind.u64, IntKind.i64] zs), some (Blk.ints (nat_lit 53) IntKind.i64 A)]))) := by kernel_rfl
theorem r15b (N : Know) (xs ys zs : List (List Int)) (A : List Int) (s j : Int) (k : Out → St → Prop) : (round (envOf Try.prog N 0) 15 1 2 (lp Try.prog 15 2) (S15b xs ys zs A s j) k) = (br (decide (j < (256 : Int)))
  (((0 : Int) ≤ IntKind.i64.wrap (j + (1 : Int)) ∧ IntKind.i64.wrap (j + (1 : Int)) < (↑(257 : Nat) : Int)) ∧
    ((0 : Int) ≤ IntKind.i64.wrap (j + (1 : Int)) ∧ IntKind.i64.wrap (j + (1 : Int)) < (↑A.length : Int)) ∧
      ((0 : Int) ≤ j ∧ j < (↑(257 : Nat) : Int)) ∧
        ((0 : Int) ≤ j ∧ j < (↑A.length : Int)) ∧
          ((0 : Int) ≤ IntKind.i64.wrap (j + (1 : Int)) ∧ IntKind.i64.wrap (j + (1 : Int)) < (↑(257 : Nat) : Int)) ∧
            ((0 : Int) ≤ IntKind.i64.wrap (j + (1 : Int)) ∧ IntKind.i64.wrap (j + (1 : Int)) < (↑A.length : Int)) ∧
              k Out.normal
                (St.mk
                  [none, none, none, some (IV.sl (nat_lit 1)), some (IV.sl (nat_lit 2)), some (IV.int IntKind.i64 s),
                    some (IV.ptr (nat_lit 3) (nat_lit 0)), none, none, none, none, none, none, none, none, none, none,
                    none, none, none, none, none, none, none, none, none, none, none, none, none, none, none, none,
                    none, none, none, none, none, none, some (IV.int IntKind.i64 (IntKind.i64.wrap (j + (1 : Int)))),
                    none, none, none, none, none, none, none, none, none, none, none, none, none, none, none, none,
                    none, none, none, none, none, none, none, none, none, none, none, none, none, none, none, none,
                    none, none, none, none, none, none]
                  [some (Blk.ro [IntKind.u64, IntKind.i64] xs),
                    some (Blk.row (nat_lit 32) [IntKind.u64, IntKind.i64] ys),
                    some (Blk.row (nat_lit 32) [IntKind.u64, IntKind.i64] zs),
                    some
                      (Blk.ints (nat_lit 53) IntKind.i64
                        (dset A (IntKind.i64.wrap (j + (1 : Int)))
                          (IntKind.i64.wrap (dget A (IntKind.i64.wrap (j + (1 : Int))) + dget A j))))]))
  (k (Out.exit (nat_lit 4))
    (St.mk
      [none, none, none, some (IV.sl (nat_lit 1)), some (IV.sl (nat_lit 2)), some (IV.int IntKind.i64 s),
        some (IV.ptr (nat_lit 3) (nat_lit 0)), none, none, none, none, none, none, none, none, none, none, none, none,
        none, none, none, none, none, none, none, none, none, none, none, none, none, none, none, none, none, none,
        none, none, none, none, none, none, none, none, none, none, none, none, none, none, none, none, none, none,
        none, none, none, none, none, none, none, none, none, none, none, none, none, none, none, none, none, none,
        none, none, none, none, none]
      [some (Blk.ro [IntKind.u64, IntKind.i64] xs), some (Blk.row (nat_lit 32) [IntKind.u64, IntKind.i64] ys),
        some (Blk.row (nat_lit 32) [IntKind.u64, IntKind.i64] zs), some (Blk.ints (nat_lit 53) IntKind.i64 A)]))) := by kernel_rfl
theorem r15c (N : Know) (xs ys zs : List (List Int)) (A : List Int) (s j : Int) (k : Out → St → Prop) : (round (envOf Try.prog N 0) 15 1 3 (lp Try.prog 15 3) (S15c xs ys zs A s j) k) = (br (decide (j < (↑ys.length : Int)))
  (((0 : Int) ≤ j ∧ j < (↑ys.length : Int)) ∧
    ((0 : Int) ≤ j ∧ j < (↑ys.length : Int)) ∧
      (0 : Int) ≤ s ∧
        ((0 : Int) ≤
              IntKind.u64.wrap
                (↑(BitVec.ofInt (64 : Nat) ((rd ys j.toNat (0 : Nat)).fdiv ((2 : Int) ^ min s.toNat (64 : Nat))) &&&
                        BitVec.ofInt (64 : Nat) (255 : Int)).toNat :
                  Int) ∧
            IntKind.u64.wrap
                (↑(BitVec.ofInt (64 : Nat) ((rd ys j.toNat (0 : Nat)).fdiv ((2 : Int) ^ min s.toNat (64 : Nat))) &&&
                        BitVec.ofInt (64 : Nat) (255 : Int)).toNat :
                  Int) <
              (↑(257 : Nat) : Int)) ∧
          ((0 : Int) ≤
                IntKind.u64.wrap
                  (↑(BitVec.ofInt (64 : Nat) ((rd ys j.toNat (0 : Nat)).fdiv ((2 : Int) ^ min s.toNat (64 : Nat))) &&&
                          BitVec.ofInt (64 : Nat) (255 : Int)).toNat :
                    Int) ∧
              IntKind.u64.wrap
                  (↑(BitVec.ofInt (64 : Nat) ((rd ys j.toNat (0 : Nat)).fdiv ((2 : Int) ^ min s.toNat (64 : Nat))) &&&
                          BitVec.ofInt (64 : Nat) (255 : Int)).toNat :
                    Int) <
                (↑A.length : Int)) ∧
            ((0 : Int) ≤
                  dget A
                    (IntKind.u64.wrap
                      (↑(BitVec.ofInt (64 : Nat)
                                ((rd ys j.toNat (0 : Nat)).fdiv ((2 : Int) ^ min s.toNat (64 : Nat))) &&&
                              BitVec.ofInt (64 : Nat) (255 : Int)).toNat :
                        Int)) ∧
                dget A
                    (IntKind.u64.wrap
                      (↑(BitVec.ofInt (64 : Nat)
                                ((rd ys j.toNat (0 : Nat)).fdiv ((2 : Int) ^ min s.toNat (64 : Nat))) &&&
                              BitVec.ofInt (64 : Nat) (255 : Int)).toNat :
                        Int)) <
                  (↑zs.length : Int)) ∧
              ((0 : Int) ≤
                    dget A
                      (IntKind.u64.wrap
                        (↑(BitVec.ofInt (64 : Nat)
                                  ((rd ys j.toNat (0 : Nat)).fdiv ((2 : Int) ^ min s.toNat (64 : Nat))) &&&
                                BitVec.ofInt (64 : Nat) (255 : Int)).toNat :
                          Int)) ∧
                  dget A
                      (IntKind.u64.wrap
                        (↑(BitVec.ofInt (64 : Nat)
                                  ((rd ys j.toNat (0 : Nat)).fdiv ((2 : Int) ^ min s.toNat (64 : Nat))) &&&
                                BitVec.ofInt (64 : Nat) (255 : Int)).toNat :
                          Int)) <
                    (↑zs.length : Int)) ∧
                ((0 : Int) ≤
                      IntKind.u64.wrap
                        (↑(BitVec.ofInt (64 : Nat)
                                  ((rd ys j.toNat (0 : Nat)).fdiv ((2 : Int) ^ min s.toNat (64 : Nat))) &&&
                                BitVec.ofInt (64 : Nat) (255 : Int)).toNat :
                          Int) ∧
                    IntKind.u64.wrap
                        (↑(BitVec.ofInt (64 : Nat)
                                  ((rd ys j.toNat (0 : Nat)).fdiv ((2 : Int) ^ min s.toNat (64 : Nat))) &&&
                                BitVec.ofInt (64 : Nat) (255 : Int)).toNat :
                          Int) <
                      (↑(257 : Nat) : Int)) ∧
                  ((0 : Int) ≤
                        IntKind.u64.wrap
                          (↑(BitVec.ofInt (64 : Nat)
                                    ((rd ys j.toNat (0 : Nat)).fdiv ((2 : Int) ^ min s.toNat (64 : Nat))) &&&
                                  BitVec.ofInt (64 : Nat) (255 : Int)).toNat :
                            Int) ∧
                      IntKind.u64.wrap
                          (↑(BitVec.ofInt (64 : Nat)
                                    ((rd ys j.toNat (0 : Nat)).fdiv ((2 : Int) ^ min s.toNat (64 : Nat))) &&&
                                  BitVec.ofInt (64 : Nat) (255 : Int)).toNat :
                            Int) <
                        (↑A.length : Int)) ∧
                    ((0 : Int) ≤
                          IntKind.u64.wrap
                            (↑(BitVec.ofInt (64 : Nat)
                                      ((rd ys j.toNat (0 : Nat)).fdiv ((2 : Int) ^ min s.toNat (64 : Nat))) &&&
                                    BitVec.ofInt (64 : Nat) (255 : Int)).toNat :
                              Int) ∧
                        IntKind.u64.wrap
                            (↑(BitVec.ofInt (64 : Nat)
                                      ((rd ys j.toNat (0 : Nat)).fdiv ((2 : Int) ^ min s.toNat (64 : Nat))) &&&
                                    BitVec.ofInt (64 : Nat) (255 : Int)).toNat :
                              Int) <
                          (↑(257 : Nat) : Int)) ∧
                      ((0 : Int) ≤
                            IntKind.u64.wrap
                              (↑(BitVec.ofInt (64 : Nat)
                                        ((rd ys j.toNat (0 : Nat)).fdiv ((2 : Int) ^ min s.toNat (64 : Nat))) &&&
                                      BitVec.ofInt (64 : Nat) (255 : Int)).toNat :
                                Int) ∧
                          IntKind.u64.wrap
                              (↑(BitVec.ofInt (64 : Nat)
                                        ((rd ys j.toNat (0 : Nat)).fdiv ((2 : Int) ^ min s.toNat (64 : Nat))) &&&
                                      BitVec.ofInt (64 : Nat) (255 : Int)).toNat :
                                Int) <
                            (↑A.length : Int)) ∧
                        k Out.normal
                          (St.mk
                            [none, none, none, some (IV.sl (nat_lit 1)), some (IV.sl (nat_lit 2)),
                              some (IV.int IntKind.i64 s), some (IV.ptr (nat_lit 3) (nat_lit 0)), none, none, none,
                              none, none, none, none, none, none, none, none, none, none, none, none, none, none, none,
                              none, none, none, none, none, none, none, none, none, none, none, none, none, none, none,
                              none, none, none, none, none, none, none, none, none, none, none, none,
                              some (IV.sl (nat_lit 1)), some (IV.int IntKind.i64 (↑ys.length : Int)),
                              some (IV.int IntKind.i64 (IntKind.i64.wrap (j + (1 : Int)))), none, none, none, none,
                              none, none, none, none, none, none, none, none, none, none, none, none, none, none, none,
                              none, none, none, none]
                            [some (Blk.ro [IntKind.u64, IntKind.i64] xs),
                              some (Blk.row (nat_lit 32) [IntKind.u64, IntKind.i64] ys),
                              some
                                (Blk.row (nat_lit 32) [IntKind.u64, IntKind.i64]
                                  (zs.modify
                                    (dget A
                                        (IntKind.u64.wrap
                                          (↑(BitVec.ofInt (64 : Nat)
                                                    ((rd ys j.toNat (0 : Nat)).fdiv
                                                      ((2 : Int) ^ min s.toNat (64 : Nat))) &&&
                                                  BitVec.ofInt (64 : Nat) (255 : Int)).toNat :
                                            Int))).toNat
                                    fun x => [rd ys j.toNat (0 : Nat), rd ys j.toNat (1 : Nat)])),
                              some
                                (Blk.ints (nat_lit 53) IntKind.i64
                                  (dset A
                                    (IntKind.u64.wrap
                                      (↑(BitVec.ofInt (64 : Nat)
                                                ((rd ys j.toNat (0 : Nat)).fdiv
                                                  ((2 : Int) ^ min s.toNat (64 : Nat))) &&&
                                              BitVec.ofInt (64 : Nat) (255 : Int)).toNat :
                                        Int))
                                    (IntKind.i64.wrap
                                      (dget A
                                          (IntKind.u64.wrap
                                            (↑(BitVec.ofInt (64 : Nat)
                                                      ((rd ys j.toNat (0 : Nat)).fdiv
                                                        ((2 : Int) ^ min s.toNat (64 : Nat))) &&&
                                                    BitVec.ofInt (64 : Nat) (255 : Int)).toNat :
                                              Int)) +
                                        (1 : Int)))))]))
  (k (Out.exit (nat_lit 6))
    (St.mk
      [none, none, none, some (IV.sl (nat_lit 1)), some (IV.sl (nat_lit 2)), some (IV.int IntKind.i64 s), none, none,
        none, none, none, none, none, none, none, none, none, none, none, none, none, none, none, none, none, none,
        none, none, none, none, none, none, none, none, none, none, none, none, none, none, none, none, none, none,
        none, none, none, none, none, none, none, none, none, none, none, none, none, none, none, none, none, none,
        none, none, none, none, none, none, none, none, none, none, none, none, none, none, none, none]
      [some (Blk.ro [IntKind.u64, IntKind.i64] xs), some (Blk.row (nat_lit 32) [IntKind.u64, IntKind.i64] ys),
        some (Blk.row (nat_lit 32) [IntKind.u64, IntKind.i64] zs)]))) := by kernel_rfl
theorem r15 (xs ys zs : List (List Int)) (s : Int) (k : Out → St → Prop) : (round (envOf Try.prog N15 0) 15 1 0 (lp Try.prog 15 0) (S15 xs ys zs s) k) = (br (decide (s < (64 : Int)))
  ((nat_lit 1 = nat_lit 1 ∧
      St.mk
            [none, none, none, some (IV.sl (nat_lit 1)), some (IV.sl (nat_lit 2)), some (IV.int IntKind.i64 s),
              some (IV.ptr (nat_lit 3) (nat_lit 0)), none, none, none, none, none, none, none, none, none, none, none,
              none, none, none, none, some (IV.sl (nat_lit 1)), some (IV.int IntKind.i64 (↑ys.length : Int)),
              some (IV.int IntKind.i64 (0 : Int)), none, none, none, none, none, none, none, none, none, none, none,
              none, none, none, none, none, none, none, none, none, none, none, none, none, none, none, none, none,
              none, none, none, none, none, none, none, none, none, none, none, none, none, none, none, none, none,
              none, none, none, none, none, none, none, none]
            [some (Blk.ro [IntKind.u64, IntKind.i64] xs), some (Blk.row (nat_lit 32) [IntKind.u64, IntKind.i64] ys),
              some (Blk.row (nat_lit 32) [IntKind.u64, IntKind.i64] zs),
              some
                (Blk.ints (nat_lit 53) IntKind.i64
                  [(0 : Int), (0 : Int), (0 : Int), (0 : Int), (0 : Int), (0 : Int), (0 : Int), (0 : Int), (0 : Int),
                    (0 : Int), (0 : Int), (0 : Int), (0 : Int), (0 : Int), (0 : Int), (0 : Int), (0 : Int), (0 : Int),
                    (0 : Int), (0 : Int), (0 : Int), (0 : Int), (0 : Int), (0 : Int), (0 : Int), (0 : Int), (0 : Int),
                    (0 : Int), (0 : Int), (0 : Int), (0 : Int), (0 : Int), (0 : Int), (0 : Int), (0 : Int), (0 : Int),
                    (0 : Int), (0 : Int), (0 : Int), (0 : Int), (0 : Int), (0 : Int), (0 : Int), (0 : Int), (0 : Int),
                    (0 : Int), (0 : Int), (0 : Int), (0 : Int), (0 : Int), (0 : Int), (0 : Int), (0 : Int), (0 : Int),
                    (0 : Int), (0 : Int), (0 : Int), (0 : Int), (0 : Int), (0 : Int), (0 : Int), (0 : Int), (0 : Int),
                    (0 : Int), (0 : Int), (0 : Int), (0 : Int), (0 : Int), (0 : Int), (0 : Int), (0 : Int), (0 : Int),
                    (0 : Int), (0 : Int), (0 : Int), (0 : Int), (0 : Int), (0 : Int), (0 : Int), (0 : Int), (0 : Int),
                    (0 : Int), (0 : Int), (0 : Int), (0 : Int), (0 : Int), (0 : Int), (0 : Int), (0 : Int), (0 : Int),
                    (0 : Int), (0 : Int), (0 : Int), (0 : Int), (0 : Int), (0 : Int), (0 : Int), (0 : Int), (0 : Int),
                    (0 : Int), (0 : Int), (0 : Int), (0 : Int), (0 : Int), (0 : Int), (0 : Int), (0 : Int), (0 : Int),
                    (0 : Int), (0 : Int), (0 : Int), (0 : Int), (0 : Int), (0 : Int), (0 : Int), (0 : Int), (0 : Int),
                    (0 : Int), (0 : Int), (0 : Int), (0 : Int), (0 : Int), (0 : Int), (0 : Int), (0 : Int), (0 : Int),
                    (0 : Int), (0 : Int), (0 : Int), (0 : Int), (0 : Int), (0 : Int), (0 : Int), (0 : Int), (0 : Int),
                    (0 : Int), (0 : Int), (0 : Int), (0 : Int), (0 : Int), (0 : Int), (0 : Int), (0 : Int), (0 : Int),
                    (0 : Int), (0 : Int), (0 : Int), (0 : Int), (0 : Int), (0 : Int), (0 : Int), (0 : Int), (0 : Int),
                    (0 : Int), (0 : Int), (0 : Int), (0 : Int), (0 : Int), (0 : Int), (0 : Int), (0 : Int), (0 : Int),
                    (0 : Int), (0 : Int), (0 : Int), (0 : Int), (0 : Int), (0 : Int), (0 : Int), (0 : Int), (0 : Int),
                    (0 : Int), (0 : Int), (0 : Int), (0 : Int), (0 : Int), (0 : Int), (0 : Int), (0 : Int), (0 : Int),
                    (0 : Int), (0 : Int), (0 : Int), (0 : Int), (0 : Int), (0 : Int), (0 : Int), (0 : Int), (0 : Int),
                    (0 : Int), (0 : Int), (0 : Int), (0 : Int), (0 : Int), (0 : Int), (0 : Int), (0 : Int), (0 : Int),
                    (0 : Int), (0 : Int), (0 : Int), (0 : Int), (0 : Int), (0 : Int), (0 : Int), (0 : Int), (0 : Int),
                    (0 : Int), (0 : Int), (0 : Int), (0 : Int), (0 : Int), (0 : Int), (0 : Int), (0 : Int), (0 : Int),
                    (0 : Int), (0 : Int), (0 : Int), (0 : Int), (0 : Int), (0 : Int), (0 : Int), (0 : Int), (0 : Int),
                    (0 : Int), (0 : Int), (0 : Int), (0 : Int), (0 : Int), (0 : Int), (0 : Int), (0 : Int), (0 : Int),
                    (0 : Int), (0 : Int), (0 : Int), (0 : Int), (0 : Int), (0 : Int), (0 : Int), (0 : Int), (0 : Int),
                    (0 : Int), (0 : Int), (0 : Int), (0 : Int), (0 : Int), (0 : Int), (0 : Int), (0 : Int), (0 : Int),
                    (0 : Int), (0 : Int), (0 : Int), (0 : Int), (0 : Int)])] =
          St.mk
            [none, none, none, some (IV.sl (nat_lit 1)), some (IV.sl (nat_lit 2)), some (IV.int IntKind.i64 s),
              some (IV.ptr (nat_lit 3) (nat_lit 0)), none, none, none, none, none, none, none, none, none, none, none,
              none, none, none, none, some (IV.sl (nat_lit 1)), some (IV.int IntKind.i64 (↑ys.length : Int)),
              some (IV.int IntKind.i64 (0 : Int)), none, none, none, none, none, none, none, none, none, none, none,
              none, none, none, none, none, none, none, none, none, none, none, none, none, none, none, none, none,
              none, none, none, none, none, none, none, none, none, none, none, none, none, none, none, none, none,
              none, none, none, none, none, none, none, none]
            [some (Blk.ro [IntKind.u64, IntKind.i64] xs), some (Blk.row (nat_lit 32) [IntKind.u64, IntKind.i64] ys),
              some (Blk.row (nat_lit 32) [IntKind.u64, IntKind.i64] zs),
              some
                (Blk.ints (nat_lit 53) IntKind.i64
                  [(0 : Int), (0 : Int), (0 : Int), (0 : Int), (0 : Int), (0 : Int), (0 : Int), (0 : Int), (0 : Int),
                    (0 : Int), (0 : Int), (0 : Int), (0 : Int), (0 : Int), (0 : Int), (0 : Int), (0 : Int), (0 : Int),
                    (0 : Int), (0 : Int), (0 : Int), (0 : Int), (0 : Int), (0 : Int), (0 : Int), (0 : Int), (0 : Int),
                    (0 : Int), (0 : Int), (0 : Int), (0 : Int), (0 : Int), (0 : Int), (0 : Int), (0 : Int), (0 : Int),
                    (0 : Int), (0 : Int), (0 : Int), (0 : Int), (0 : Int), (0 : Int), (0 : Int), (0 : Int), (0 : Int),
                    (0 : Int), (0 : Int), (0 : Int), (0 : Int), (0 : Int), (0 : Int), (0 : Int), (0 : Int), (0 : Int),
                    (0 : Int), (0 : Int), (0 : Int), (0 : Int), (0 : Int), (0 : Int), (0 : Int), (0 : Int), (0 : Int),
                    (0 : Int), (0 : Int), (0 : Int), (0 : Int), (0 : Int), (0 : Int), (0 : Int), (0 : Int), (0 : Int),
                    (0 : Int), (0 : Int), (0 : Int), (0 : Int), (0 : Int), (0 : Int), (0 : Int), (0 : Int), (0 : Int),
                    (0 : Int), (0 : Int), (0 : Int), (0 : Int), (0 : Int), (0 : Int), (0 : Int), (0 : Int), (0 : Int),
                    (0 : Int), (0 : Int), (0 : Int), (0 : Int), (0 : Int), (0 : Int), (0 : Int), (0 : Int), (0 : Int),
                    (0 : Int), (0 : Int), (0 : Int), (0 : Int), (0 : Int), (0 : Int), (0 : Int), (0 : Int), (0 : Int),
                    (0 : Int), (0 : Int), (0 : Int), (0 : Int), (0 : Int), (0 : Int), (0 : Int), (0 : Int), (0 : Int),
                    (0 : Int), (0 : Int), (0 : Int), (0 : Int), (0 : Int), (0 : Int), (0 : Int), (0 : Int), (0 : Int),
                    (0 : Int), (0 : Int), (0 : Int), (0 : Int), (0 : Int), (0 : Int), (0 : Int), (0 : Int), (0 : Int),
                    (0 : Int), (0 : Int), (0 : Int), (0 : Int), (0 : Int), (0 : Int), (0 : Int), (0 : Int), (0 : Int),
                    (0 : Int), (0 : Int), (0 : Int), (0 : Int), (0 : Int), (0 : Int), (0 : Int), (0 : Int), (0 : Int),
                    (0 : Int), (0 : Int), (0 : Int), (0 : Int), (0 : Int), (0 : Int), (0 : Int), (0 : Int), (0 : Int),
                    (0 : Int), (0 : Int), (0 : Int), (0 : Int), (0 : Int), (0 : Int), (0 : Int), (0 : Int), (0 : Int),
                    (0 : Int), (0 : Int), (0 : Int), (0 : Int), (0 : Int), (0 : Int), (0 : Int), (0 : Int), (0 : Int),
                    (0 : Int), (0 : Int), (0 : Int), (0 : Int), (0 : Int), (0 : Int), (0 : Int), (0 : Int), (0 : Int),
                    (0 : Int), (0 : Int), (0 : Int), (0 : Int), (0 : Int), (0 : Int), (0 : Int), (0 : Int), (0 : Int),
                    (0 : Int), (0 : Int), (0 : Int), (0 : Int), (0 : Int), (0 : Int), (0 : Int), (0 : Int), (0 : Int),
                    (0 : Int), (0 : Int), (0 : Int), (0 : Int), (0 : Int), (0 : Int), (0 : Int), (0 : Int), (0 : Int),
                    (0 : Int), (0 : Int), (0 : Int), (0 : Int), (0 : Int), (0 : Int), (0 : Int), (0 : Int), (0 : Int),
                    (0 : Int), (0 : Int), (0 : Int), (0 : Int), (0 : Int), (0 : Int), (0 : Int), (0 : Int), (0 : Int),
                    (0 : Int), (0 : Int), (0 : Int), (0 : Int), (0 : Int), (0 : Int), (0 : Int), (0 : Int), (0 : Int),
                    (0 : Int), (0 : Int), (0 : Int), (0 : Int), (0 : Int), (0 : Int), (0 : Int), (0 : Int), (0 : Int),
                    (0 : Int), (0 : Int), (0 : Int), (0 : Int), (0 : Int)])] ∧
        ys.length ≤ nat_lit 1000000 ∧ (0 : Int) ≤ s) ∧
    ∀ (A' : List Int),
      isCnt s ys A' →
        (nat_lit 1 = nat_lit 1 ∧
            St.mk
                  [none, none, none, some (IV.sl (nat_lit 1)), some (IV.sl (nat_lit 2)), some (IV.int IntKind.i64 s),
                    some (IV.ptr (nat_lit 3) (nat_lit 0)), none, none, none, none, none, none, none, none, none, none,
                    none, none, none, none, none, none, none, none, none, none, none, none, none, none, none, none,
                    none, none, none, none, none, none, some (IV.int IntKind.i64 (0 : Int)), none, none, none, none,
                    none, none, none, none, none, none, none, none, none, none, none, none, none, none, none, none,
                    none, none, none, none, none, none, none, none, none, none, none, none, none, none, none, none,
                    none, none]
                  [some (Blk.ro [IntKind.u64, IntKind.i64] xs),
                    some (Blk.row (nat_lit 32) [IntKind.u64, IntKind.i64] ys),
                    some (Blk.row (nat_lit 32) [IntKind.u64, IntKind.i64] zs),
                    some (Blk.ints (nat_lit 53) IntKind.i64 A')] =
                St.mk
                  [none, none, none, some (IV.sl (nat_lit 1)), some (IV.sl (nat_lit 2)), some (IV.int IntKind.i64 s),
                    some (IV.ptr (nat_lit 3) (nat_lit 0)), none, none, none, none, none, none, none, none, none, none,
                    none, none, none, none, none, none, none, none, none, none, none, none, none, none, none, none,
                    none, none, none, none, none, none, some (IV.int IntKind.i64 (0 : Int)), none, none, none, none,
                    none, none, none, none, none, none, none, none, none, none, none, none, none, none, none, none,
                    none, none, none, none, none, none, none, none, none, none, none, none, none, none, none, none,
                    none, none]
                  [some (Blk.ro [IntKind.u64, IntKind.i64] xs),
                    some (Blk.row (nat_lit 32) [IntKind.u64, IntKind.i64] ys),
                    some (Blk.row (nat_lit 32) [IntKind.u64, IntKind.i64] zs),
                    some (Blk.ints (nat_lit 53) IntKind.i64 A')] ∧
              ys.length ≤ nat_lit 1000000 ∧ (0 : Int) ≤ s ∧ isCnt s ys A') ∧
          ∀ (A' : List Int),
            isCntB s ys A' →
              (nat_lit 1 = nat_lit 1 ∧
                  St.mk
                        [none, none, none, some (IV.sl (nat_lit 1)), some (IV.sl (nat_lit 2)),
                          some (IV.int IntKind.i64 s), some (IV.ptr (nat_lit 3) (nat_lit 0)), none, none, none, none,
                          none, none, none, none, none, none, none, none, none, none, none, none, none, none, none,
                          none, none, none, none, none, none, none, none, none, none, none, none, none, none, none,
                          none, none, none, none, none, none, none, none, none, none, none, some (IV.sl (nat_lit 1)),
                          some (IV.int IntKind.i64 (↑ys.length : Int)), some (IV.int IntKind.i64 (0 : Int)), none, none,
                          none, none, none, none, none, none, none, none, none, none, none, none, none, none, none,
                          none, none, none, none, none, none]
                        [some (Blk.ro [IntKind.u64, IntKind.i64] xs),
                          some (Blk.row (nat_lit 32) [IntKind.u64, IntKind.i64] ys),
                          some (Blk.row (nat_lit 32) [IntKind.u64, IntKind.i64] zs),
                          some (Blk.ints (nat_lit 53) IntKind.i64 A')] =
                      St.mk
                        [none, none, none, some (IV.sl (nat_lit 1)), some (IV.sl (nat_lit 2)),
                          some (IV.int IntKind.i64 s), some (IV.ptr (nat_lit 3) (nat_lit 0)), none, none, none, none,
                          none, none, none, none, none, none, none, none, none, none, none, none, none, none, none,
                          none, none, none, none, none, none, none, none, none, none, none, none, none, none, none,
                          none, none, none, none, none, none, none, none, none, none, none, some (IV.sl (nat_lit 1)),
                          some (IV.int IntKind.i64 (↑ys.length : Int)), some (IV.int IntKind.i64 (0 : Int)), none, none,
                          none, none, none, none, none, none, none, none, none, none, none, none, none, none, none,
                          none, none, none, none, none, none]
                        [some (Blk.ro [IntKind.u64, IntKind.i64] xs),
                          some (Blk.row (nat_lit 32) [IntKind.u64, IntKind.i64] ys),
                          some (Blk.row (nat_lit 32) [IntKind.u64, IntKind.i64] zs),
                          some (Blk.ints (nat_lit 53) IntKind.i64 A')] ∧
                    ys.length ≤ nat_lit 1000000 ∧ (0 : Int) ≤ s ∧ isCntB s ys A' ∧ zs.length = ys.length ∧ rows2 ys) ∧
                k Out.normal
                  (St.mk
                    [none, none, none, some (IV.sl (nat_lit 1)), some (IV.sl (nat_lit 2)),
                      some (IV.int IntKind.i64 (IntKind.i64.wrap (s + (8 : Int)))), none, none, none, none, none, none,
                      none, none, none, none, none, none, none, none, none, none, none, none, none, none, none, none,
                      none, none, none, none, none, none, none, none, none, none, none, none, none, none, none, none,
                      none, none, none, none, none, none, none, none, none, none, none, none, none, none, none, none,
                      none, none, none, none, none, none, none, none, none, none, none, none, none, none, none, none,
                      none, none]
                    [some (Blk.ro [IntKind.u64, IntKind.i64] xs),
                      some (Blk.row (nat_lit 32) [IntKind.u64, IntKind.i64] (pass s ys)),
                      some (Blk.row (nat_lit 32) [IntKind.u64, IntKind.i64] ys)]))
  (k (Out.exit (nat_lit 0))
    (St.mk
      [none, none, none, some (IV.sl (nat_lit 1)), none, none, none, none, none, none, none, none, none, none, none,
        none, none, none, none, none, none, none, none, none, none, none, none, none, none, none, none, none, none,
        none, none, none, none, none, none, none, none, none, none, none, none, none, none, none, none, none, none,
        none, none, none, none, none, none, none, none, none, none, none, none, none, none, none, none, none, none,
        none, none, none, none, none, none, none, none, none]
      [some (Blk.ro [IntKind.u64, IntKind.i64] xs), some (Blk.row (nat_lit 32) [IntKind.u64, IntKind.i64] ys)]))) := by kernel_rfl
theorem v15 (xs : List (List Int)) (K : IV → List Blk → Prop) : (comes Try.prog N15 1 15 [.sl 0] [.ro [.u64, .i64] xs] K) = ((preClone [IV.sl (nat_lit 0)] [Blk.ro [IntKind.u64, IntKind.i64] xs] ∧
    ((0 : Int) ≤ (↑xs.length : Int) ∧ (↑xs.length : Int) * (↑(16 : Nat) : Int) ≤ (140737488355328 : Int)) ∧
      ((List.map some [Blk.ro [IntKind.u64, IntKind.i64] xs]).length = nat_lit 1 ∧
          St.mk
                [none, none, none, some (IV.sl (nat_lit 1)), some (IV.sl (nat_lit 2)),
                  some (IV.int IntKind.i64 (0 : Int)), none, none, none, none, none, none, none, none, none, none, none,
                  none, none, none, none, none, none, none, none, none, none, none, none, none, none, none, none, none,
                  none, none, none, none, none, none, none, none, none, none, none, none, none, none, none, none, none,
                  none, none, none, none, none, none, none, none, none, none, none, none, none, none, none, none, none,
                  none, none, none, none, none, none, none, none, none, none]
                [some (Blk.ro [IntKind.u64, IntKind.i64] xs),
                  some
                    (Blk.row (nat_lit 32) [IntKind.u64, IntKind.i64]
                      (xsOf (List.map (fun x => x.fst) ([] ++ [(Blk.ro [IntKind.u64, IntKind.i64] xs, some (0 : Nat))]))
                        (0 : Nat))),
                  some
                    (Blk.row (nat_lit 32) [IntKind.u64, IntKind.i64]
                      (List.replicate (↑xs.length : Int).toNat (List.replicate (2 : Nat) (0 : Int))))] =
              St.mk
                [none, none, none, some (IV.sl (nat_lit 1)), some (IV.sl (nat_lit 2)),
                  some (IV.int IntKind.i64 (0 : Int)), none, none, none, none, none, none, none, none, none, none, none,
                  none, none, none, none, none, none, none, none, none, none, none, none, none, none, none, none, none,
                  none, none, none, none, none, none, none, none, none, none, none, none, none, none, none, none, none,
                  none, none, none, none, none, none, none, none, none, none, none, none, none, none, none, none, none,
                  none, none, none, none, none, none, none, none, none, none]
                [some (Blk.ro [IntKind.u64, IntKind.i64] xs),
                  some
                    (Blk.row (nat_lit 32) [IntKind.u64, IntKind.i64]
                      (xsOf (List.map (fun x => x.fst) ([] ++ [(Blk.ro [IntKind.u64, IntKind.i64] xs, some (0 : Nat))]))
                        (0 : Nat))),
                  some
                    (Blk.row (nat_lit 32) [IntKind.u64, IntKind.i64]
                      (List.replicate (↑xs.length : Int).toNat (List.replicate (2 : Nat) (0 : Int))))] ∧
            (xsOf (List.map (fun x => x.fst) ([] ++ [(Blk.ro [IntKind.u64, IntKind.i64] xs, some (0 : Nat))]))
                    (0 : Nat)).length ≤
                nat_lit 1000000 ∧
              (List.replicate (↑xs.length : Int).toNat (List.replicate (2 : Nat) (0 : Int))).length =
                  (xsOf (List.map (fun x => x.fst) ([] ++ [(Blk.ro [IntKind.u64, IntKind.i64] xs, some (0 : Nat))]))
                      (0 : Nat)).length ∧
                rows2
                    (xsOf (List.map (fun x => x.fst) ([] ++ [(Blk.ro [IntKind.u64, IntKind.i64] xs, some (0 : Nat))]))
                      (0 : Nat)) ∧
                  keysOk
                    (xsOf (List.map (fun x => x.fst) ([] ++ [(Blk.ro [IntKind.u64, IntKind.i64] xs, some (0 : Nat))]))
                      (0 : Nat))) ∧
        ∀ (zs' : List (List Int)),
          Sorted
              (xsOf (List.map (fun x => x.fst) ([] ++ [(Blk.ro [IntKind.u64, IntKind.i64] xs, some (0 : Nat))]))
                (0 : Nat))
              zs' →
            K (IV.sl (nat_lit 0)) [Blk.row (nat_lit 32) [IntKind.u64, IntKind.i64] zs']) ∧
  ((0 : Int) ≤ (↑xs.length : Int) ∧ (↑xs.length : Int) * (↑(16 : Nat) : Int) ≤ (140737488355328 : Int)) ∧
    preClone [IV.sl (nat_lit 0)] [Blk.ro [IntKind.u64, IntKind.i64] xs] ∧
      ((List.map some [Blk.ro [IntKind.u64, IntKind.i64] xs]).length = nat_lit 1 ∧
          St.mk
                [none, none, none, some (IV.sl (nat_lit 1)), some (IV.sl (nat_lit 2)),
                  some (IV.int IntKind.i64 (0 : Int)), none, none, none, none, none, none, none, none, none, none, none,
                  none, none, none, none, none, none, none, none, none, none, none, none, none, none, none, none, none,
                  none, none, none, none, none, none, none, none, none, none, none, none, none, none, none, none, none,
                  none, none, none, none, none, none, none, none, none, none, none, none, none, none, none, none, none,
                  none, none, none, none, none, none, none, none, none, none]
                [some (Blk.ro [IntKind.u64, IntKind.i64] xs),
                  some
                    (Blk.row (nat_lit 32) [IntKind.u64, IntKind.i64]
                      (xsOf
                        (List.map (fun x => x.fst) ([] ++ [(Blk.ro [IntKind.u64, IntKind.i64] xs, some (nat_lit 0))]))
                        (0 : Nat))),
                  some
                    (Blk.row (nat_lit 32) [IntKind.u64, IntKind.i64]
                      (List.replicate (↑xs.length : Int).toNat (List.replicate (2 : Nat) (0 : Int))))] =
              St.mk
                [none, none, none, some (IV.sl (nat_lit 1)), some (IV.sl (nat_lit 2)),
                  some (IV.int IntKind.i64 (0 : Int)), none, none, none, none, none, none, none, none, none, none, none,
                  none, none, none, none, none, none, none, none, none, none, none, none, none, none, none, none, none,
                  none, none, none, none, none, none, none, none, none, none, none, none, none, none, none, none, none,
                  none, none, none, none, none, none, none, none, none, none, none, none, none, none, none, none, none,
                  none, none, none, none, none, none, none, none, none, none]
                [some (Blk.ro [IntKind.u64, IntKind.i64] xs),
                  some
                    (Blk.row (nat_lit 32) [IntKind.u64, IntKind.i64]
                      (xsOf
                        (List.map (fun x => x.fst) ([] ++ [(Blk.ro [IntKind.u64, IntKind.i64] xs, some (nat_lit 0))]))
                        (0 : Nat))),
                  some
                    (Blk.row (nat_lit 32) [IntKind.u64, IntKind.i64]
                      (List.replicate (↑xs.length : Int).toNat (List.replicate (2 : Nat) (0 : Int))))] ∧
            (xsOf (List.map (fun x => x.fst) ([] ++ [(Blk.ro [IntKind.u64, IntKind.i64] xs, some (nat_lit 0))]))
                    (0 : Nat)).length ≤
                nat_lit 1000000 ∧
              (List.replicate (↑xs.length : Int).toNat (List.replicate (2 : Nat) (0 : Int))).length =
                  (xsOf (List.map (fun x => x.fst) ([] ++ [(Blk.ro [IntKind.u64, IntKind.i64] xs, some (nat_lit 0))]))
                      (0 : Nat)).length ∧
                rows2
                    (xsOf (List.map (fun x => x.fst) ([] ++ [(Blk.ro [IntKind.u64, IntKind.i64] xs, some (nat_lit 0))]))
                      (0 : Nat)) ∧
                  keysOk
                    (xsOf (List.map (fun x => x.fst) ([] ++ [(Blk.ro [IntKind.u64, IntKind.i64] xs, some (nat_lit 0))]))
                      (0 : Nat))) ∧
        ∀ (zs' : List (List Int)),
          Sorted
              (xsOf (List.map (fun x => x.fst) ([] ++ [(Blk.ro [IntKind.u64, IntKind.i64] xs, some (nat_lit 0))]))
                (0 : Nat))
              zs' →
            K (IV.sl (nat_lit 0)) [Blk.row (nat_lit 32) [IntKind.u64, IntKind.i64] zs']) := by kernel_rfl

