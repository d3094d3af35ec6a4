import Derived.Test.YtbgleobdhjghlaaR1F15
set_option linter.unusedVariables false
/- TreeKeys -/
namespace Go.Vs.R1
open Go Go.Proofs Go.Vs
def S8b (xa bs ts : List (List Int)) (i : Int) : St := ⟨T 116 [(7, .sl 1), (8, .sl 2), (9, i64 i)], [some (.ro [.u8] xa), row bs, some (.row 41 nk ts)]⟩
def S8c (xa bs ts : List (List Int)) (i c0 c1 c2 c3 c4 c5 c6 c7 j : Int) : St := ⟨T 116 [(7, .sl 1), (8, .sl 2), (9, i64 i), (10, .ptr 3 0), (11, i64 j)], [some (.ro [.u8] xa), row bs, some (.row 41 nk ts), some (.var 41 (nodeV c0 c1 c2 c3 c4 c5 c6 c7))]⟩
/-- a node's key is the first bits of all its bodies' keys -/
def keyOk (bs : List (List Int)) (c0 c1 c2 c3 : Int) : Prop := 0 ≤ c2 ∧ c3 ≤ bs.length ∧ 0 ≤ c0 ∧ c0 ≤ 32 ∧ (c0 = 0 → c1 = 0) ∧ ∀ j : Nat, c2 ≤ j → (j : Int) < c3 → 0 < c0 → kp bs (64 - 2 * c0).toNat j = c1
def nodesOk (bs ts : List (List Int)) : Prop := ∀ i, i < ts.length → keyOk bs (rd ts i 0) (rd ts i 1) (rd ts i 2) (rd ts i 3)
def pre8c (bs : List (List Int)) (c0 c1 c2 c3 j : Int) : Prop := keyOk bs c0 c1 c2 c3 ∧ keysIn bs ∧ bs.length ≤ 1000 ∧ j = c2
noncomputable def L8c : LoopS := fun n0 st K => (n0 = 1 ∧ st = S8c (st.x 0) (st.x 1) (st.x 2) (st.i 9) (st.c 3 0) (st.c 3 1) (st.c 3 2) (st.c 3 3) (st.c 3 4) (st.c 3 5) (st.c 3 6) (st.c 3 7) (st.i 11) ∧ pre8c (st.x 1) (st.c 3 0) (st.c 3 1) (st.c 3 2) (st.c 3 3) (st.i 11)) ∧
  K (.exit 4) (S8b (st.x 0) (st.x 1) (st.x 2) (st.i 9))
def pre8b (bs ts : List (List Int)) (i : Int) : Prop := nodesOk bs ts ∧ keysIn bs ∧ bs.length ≤ 1000 ∧ ts.length ≤ 1000000 ∧ i = 0
noncomputable def L8b : LoopS := fun n0 st K => (n0 = 1 ∧ st = S8b (st.x 0) (st.x 1) (st.x 2) (st.i 9) ∧ pre8b (st.x 1) (st.x 2) (st.i 9)) ∧ K (.exit 2) ⟨T 116 [], [some (.ro [.u8] (st.x 0))]⟩
noncomputable def N8k : Know := ⟨Γ8, fun f i => if f = 8 then (if i = 0 then some (L6 116) else if i = 1 then some L8b else if i = 2 then some L8c else none) else none, fun _ => none⟩
theorem r8b (xa bs ts : List (List Int)) (i : Int) (k : Out → St → Prop) : (round (envOf Try.prog N8k 0) 8 1 1 (lp Try.prog 8 1) (S8b xa bs ts i) k) = (br (decide (i < (↑ts.length : Int)))
  (((0 : Int) ≤ i ∧ i < (↑ts.length : Int)) ∧
    ((0 : Int) ≤ i ∧ i < (↑ts.length : Int)) ∧
      br (decide (rd ts i.toNat (2 : Nat) < (0 : Int)))
        (k Out.ret
          (St.mk
            [none, none, none, none, some (IV.bool false), none, none, none, none, none, none, none, none, none, none,
              none, none, none, none, none, none, none, none, none, none, none, none, none, none, none, none, none,
              none, none, none, none, none, none, none, none, none, none, none, none, none, none, none, none, none,
              none, none, none, none, none, none, none, none, none, none, none, none, none, none, none, none, none,
              none, none, none, none, none, none, none, none, none, none, none, none, none, none, none, none, none,
              none, none, none, none, none, none, none, none, none, none, none, none, none, none, none, none, none,
              none, none, none, none, none, none, none, none, none, none, none, none, none, none, none, none]
            [some (Blk.ro [IntKind.u8] xa)]))
        (br (decide (rd ts i.toNat (3 : Nat) > (↑bs.length : Int)))
          (k Out.ret
            (St.mk
              [none, none, none, none, some (IV.bool false), none, none, none, none, none, none, none, none, none, none,
                none, none, none, none, none, none, none, none, none, none, none, none, none, none, none, none, none,
                none, none, none, none, none, none, none, none, none, none, none, none, none, none, none, none, none,
                none, none, none, none, none, none, none, none, none, none, none, none, none, none, none, none, none,
                none, none, none, none, none, none, none, none, none, none, none, none, none, none, none, none, none,
                none, none, none, none, none, none, none, none, none, none, none, none, none, none, none, none, none,
                none, none, none, none, none, none, none, none, none, none, none, none, none, none, none, none]
              [some (Blk.ro [IntKind.u8] xa)]))
          (br (decide (rd ts i.toNat (0 : Nat) < (0 : Int)))
            (k Out.ret
              (St.mk
                [none, none, none, none, some (IV.bool false), none, none, none, none, none, none, none, none, none,
                  none, none, none, none, none, none, none, none, none, none, none, none, none, none, none, none, none,
                  none, none, none, none, none, none, none, none, none, none, none, none, none, none, none, none, none,
                  none, none, none, none, none, none, none, none, none, none, none, none, none, none, none, none, none,
                  none, none, none, none, none, none, none, none, none, none, none, none, none, none, none, none, none,
                  none, none, none, none, none, none, none, none, none, none, none, none, none, none, none, none, none,
                  none, none, none, none, none, none, none, none, none, none, none, none, none, none, none, none, none]
                [some (Blk.ro [IntKind.u8] xa)]))
            (br (decide (rd ts i.toNat (0 : Nat) > (32 : Int)))
              (k Out.ret
                (St.mk
                  [none, none, none, none, some (IV.bool false), none, none, none, none, none, none, none, none, none,
                    none, none, none, none, none, none, none, none, none, none, none, none, none, none, none, none,
                    none, none, none, none, none, none, none, none, none, none, none, none, none, none, none, none,
                    none, none, none, none, none, none, none, none, none, none, none, none, none, none, none, none,
                    none, none, none, none, none, none, none, none, none, none, none, none, none, none, none, none,
                    none, none, none, none, none, none, none, none, none, none, none, none, none, none, none, none,
                    none, none, none, none, none, none, none, none, none, none, none, none, none, none, none, none,
                    none, none, none, none, none, none]
                  [some (Blk.ro [IntKind.u8] xa)]))
              (((1 : Nat) = (1 : Nat) ∧
                  St.mk
                        [none, none, none, none, none, none, none, some (IV.sl (1 : Nat)), some (IV.sl (2 : Nat)),
                          some (IV.int IntKind.i64 i), some (IV.ptr (3 : Nat) (0 : Nat)),
                          some (IV.int IntKind.i64 (rd ts i.toNat (2 : Nat))), none, none, none, none, none, none, none,
                          none, none, none, none, none, none, none, none, none, none, none, none, none, none, none,
                          none, none, none, none, none, none, none, none, none, none, none, none, none, none, none,
                          none, none, none, none, none, none, none, none, none, none, none, none, none, none, none,
                          none, none, none, none, none, none, none, none, none, none, none, none, none, none, none,
                          none, none, none, none, none, none, none, none, none, none, none, none, none, none, none,
                          none, none, none, none, none, none, none, none, none, none, none, none, none, none, none,
                          none, none, none, none, none, none, none]
                        [some (Blk.ro [IntKind.u8] xa), some (Blk.row (32 : Nat) [IntKind.u64, IntKind.i64] bs),
                          some
                            (Blk.row (41 : Nat)
                              [IntKind.i64, IntKind.u64, IntKind.i64, IntKind.i64, IntKind.i64, IntKind.i64,
                                IntKind.i64, IntKind.i64]
                              ts),
                          some
                            (Blk.var (41 : Nat)
                              [IV.int IntKind.i64 (rd ts i.toNat (0 : Nat)),
                                IV.int IntKind.u64 (rd ts i.toNat (1 : Nat)),
                                IV.int IntKind.i64 (rd ts i.toNat (2 : Nat)),
                                IV.int IntKind.i64 (rd ts i.toNat (3 : Nat)),
                                IV.int IntKind.i64 (rd ts i.toNat (4 : Nat)),
                                IV.int IntKind.i64 (rd ts i.toNat (5 : Nat)),
                                IV.int IntKind.i64 (rd ts i.toNat (6 : Nat)),
                                IV.int IntKind.i64 (rd ts i.toNat (7 : Nat))])] =
                      St.mk
                        [none, none, none, none, none, none, none, some (IV.sl (1 : Nat)), some (IV.sl (2 : Nat)),
                          some (IV.int IntKind.i64 i), some (IV.ptr (3 : Nat) (0 : Nat)),
                          some (IV.int IntKind.i64 (rd ts i.toNat (2 : Nat))), none, none, none, none, none, none, none,
                          none, none, none, none, none, none, none, none, none, none, none, none, none, none, none,
                          none, none, none, none, none, none, none, none, none, none, none, none, none, none, none,
                          none, none, none, none, none, none, none, none, none, none, none, none, none, none, none,
                          none, none, none, none, none, none, none, none, none, none, none, none, none, none, none,
                          none, none, none, none, none, none, none, none, none, none, none, none, none, none, none,
                          none, none, none, none, none, none, none, none, none, none, none, none, none, none, none,
                          none, none, none, none, none, none, none]
                        [some (Blk.ro [IntKind.u8] xa), some (Blk.row (32 : Nat) [IntKind.u64, IntKind.i64] bs),
                          some
                            (Blk.row (41 : Nat)
                              [IntKind.i64, IntKind.u64, IntKind.i64, IntKind.i64, IntKind.i64, IntKind.i64,
                                IntKind.i64, IntKind.i64]
                              ts),
                          some
                            (Blk.var (41 : Nat)
                              [IV.int IntKind.i64 (rd ts i.toNat (0 : Nat)),
                                IV.int IntKind.u64 (rd ts i.toNat (1 : Nat)),
                                IV.int IntKind.i64 (rd ts i.toNat (2 : Nat)),
                                IV.int IntKind.i64 (rd ts i.toNat (3 : Nat)),
                                IV.int IntKind.i64 (rd ts i.toNat (4 : Nat)),
                                IV.int IntKind.i64 (rd ts i.toNat (5 : Nat)),
                                IV.int IntKind.i64 (rd ts i.toNat (6 : Nat)),
                                IV.int IntKind.i64 (rd ts i.toNat (7 : Nat))])] ∧
                    pre8c bs (rd ts i.toNat (0 : Nat)) (rd ts i.toNat (1 : Nat)) (rd ts i.toNat (2 : Nat))
                      (rd ts i.toNat (3 : Nat)) (rd ts i.toNat (2 : Nat))) ∧
                k Out.normal
                  (St.mk
                    [none, none, none, none, none, none, none, some (IV.sl (1 : Nat)), some (IV.sl (2 : Nat)),
                      some (IV.int IntKind.i64 (IntKind.i64.wrap (i + (1 : Int)))), none, none, none, none, none, none,
                      none, none, none, none, none, none, none, none, none, none, none, none, none, none, none, none,
                      none, none, none, none, none, none, none, none, none, none, none, none, none, none, none, none,
                      none, none, none, none, none, none, none, none, none, none, none, none, none, none, none, none,
                      none, none, none, none, none, none, none, none, none, none, none, none, none, none, none, none,
                      none, none, none, none, none, none, none, none, none, none, none, none, none, none, none, none,
                      none, none, none, none, none, none, none, none, none, none, none, none, none, none, none, none,
                      none, none, none, none]
                    [some (Blk.ro [IntKind.u8] xa), some (Blk.row (32 : Nat) [IntKind.u64, IntKind.i64] bs),
                      some
                        (Blk.row (41 : Nat)
                          [IntKind.i64, IntKind.u64, IntKind.i64, IntKind.i64, IntKind.i64, IntKind.i64, IntKind.i64,
                            IntKind.i64]
                          ts)]))))))
  (k (Out.exit (2 : Nat))
    (St.mk
      [none, none, none, none, none, none, none, none, none, none, none, none, none, none, none, none, none, none, none,
        none, none, none, none, none, none, none, none, none, none, none, none, none, none, none, none, none, none,
        none, none, none, none, none, none, none, none, none, none, none, none, none, none, none, none, none, none,
        none, none, none, none, none, none, none, none, none, none, none, none, none, none, none, none, none, none,
        none, none, none, none, none, none, none, none, none, none, none, none, none, none, none, none, none, none,
        none, none, none, none, none, none, none, none, none, none, none, none, none, none, none, none, none, none,
        none, none, none, none, none, none, none]
      [some (Blk.ro [IntKind.u8] xa)]))) := by kernel_rfl
theorem r8c (N : Know) (xa bs ts : List (List Int)) (i c0 c1 c2 c3 c4 c5 c6 c7 j : Int) (k : Out → St → Prop) : (round (envOf Try.prog N 0) 8 1 2 (lp Try.prog 8 2) (S8c xa bs ts i c0 c1 c2 c3 c4 c5 c6 c7 j) k) = (br (decide (j < c3))
  (br (c0 == (0 : Int))
    (br (c1 != (0 : Int))
      (k Out.ret
        (St.mk
          [none, none, none, none, some (IV.bool false), none, none, none, none, none, none, none, none, none, none,
            none, none, none, none, none, none, none, none, none, none, none, none, none, none, none, none, none, none,
            none, none, none, none, none, none, none, none, none, none, none, none, none, none, none, none, none, none,
            none, none, none, none, none, none, none, none, none, none, none, none, none, none, none, none, none, none,
            none, none, none, none, none, none, none, none, none, none, none, none, none, none, none, none, none, none,
            none, none, none, none, none, none, none, none, none, none, none, none, none, none, none, none, none, none,
            none, none, none, none, none, none, none, none, none, none, none]
          [some (Blk.ro [IntKind.u8] xa)]))
      (br (decide (c0 > (0 : Int)))
        (((0 : Int) ≤ j ∧ j < (↑bs.length : Int)) ∧
          ((0 : Int) ≤ j ∧ j < (↑bs.length : Int)) ∧
            (0 : Int) ≤ IntKind.i64.wrap ((64 : Int) - IntKind.i64.wrap ((2 : Int) * c0)) ∧
              (0 : Int) ≤ IntKind.i64.wrap ((64 : Int) - IntKind.i64.wrap ((2 : Int) * c0)) ∧
                br
                  (IntKind.u64.wrap
                      ((rd bs j.toNat (0 : Nat)).fdiv
                          ((2 : Int) ^
                            min (IntKind.i64.wrap ((64 : Int) - IntKind.i64.wrap ((2 : Int) * c0))).toNat (64 : Nat)) *
                        (2 : Int) ^
                          min (IntKind.i64.wrap ((64 : Int) - IntKind.i64.wrap ((2 : Int) * c0))).toNat (64 : Nat)) !=
                    c1)
                  (k Out.ret
                    (St.mk
                      [none, none, none, none, some (IV.bool false), none, none, none, none, none, none, none, none,
                        none, none, none, none, none, none, none, none, none, none, none, none, none, none, none, none,
                        none, none, none, none, none, none, none, none, none, none, none, none, none, none, none, none,
                        none, none, none, none, none, none, none, none, none, none, none, none, none, none, none, none,
                        none, none, none, none, none, none, none, none, none, none, none, none, none, none, none, none,
                        none, none, none, none, none, none, none, none, none, none, none, none, none, none, none, none,
                        none, none, none, none, none, none, none, none, none, none, none, none, none, none, none, none,
                        none, none, none, none, none, none, none]
                      [some (Blk.ro [IntKind.u8] xa)]))
                  (k Out.normal
                    (St.mk
                      [none, none, none, none, none, none, none, some (IV.sl (1 : Nat)), some (IV.sl (2 : Nat)),
                        some (IV.int IntKind.i64 i), some (IV.ptr (3 : Nat) (0 : Nat)),
                        some (IV.int IntKind.i64 (IntKind.i64.wrap (j + (1 : Int)))), none, none, none, none, none,
                        none, none, none, none, none, none, none, none, none, none, none, none, none, none, none, none,
                        none, none, none, none, none, none, none, none, none, none, none, none, none, none, none, none,
                        none, none, none, none, none, none, none, none, none, none, none, none, none, none, none, none,
                        none, none, none, none, none, none, none, none, none, none, none, none, none, none, none, none,
                        none, none, none, none, none, none, none, none, none, none, none, none, none, none, none, none,
                        none, none, none, none, none, none, none, none, none, none, none, none, none, none, none, none,
                        none, none, none]
                      [some (Blk.ro [IntKind.u8] xa), some (Blk.row (32 : Nat) [IntKind.u64, IntKind.i64] bs),
                        some
                          (Blk.row (41 : Nat)
                            [IntKind.i64, IntKind.u64, IntKind.i64, IntKind.i64, IntKind.i64, IntKind.i64, IntKind.i64,
                              IntKind.i64]
                            ts),
                        some
                          (Blk.var (41 : Nat)
                            [IV.int IntKind.i64 c0, IV.int IntKind.u64 c1, IV.int IntKind.i64 c2, IV.int IntKind.i64 c3,
                              IV.int IntKind.i64 c4, IV.int IntKind.i64 c5, IV.int IntKind.i64 c6,
                              IV.int IntKind.i64 c7])])))
        (k Out.normal
          (St.mk
            [none, none, none, none, none, none, none, some (IV.sl (1 : Nat)), some (IV.sl (2 : Nat)),
              some (IV.int IntKind.i64 i), some (IV.ptr (3 : Nat) (0 : Nat)),
              some (IV.int IntKind.i64 (IntKind.i64.wrap (j + (1 : Int)))), none, none, none, none, none, none, none,
              none, none, none, none, none, none, none, none, none, none, none, none, none, none, none, none, none,
              none, none, none, none, none, none, none, none, none, none, none, none, none, none, none, none, none,
              none, none, none, none, none, none, none, none, none, none, none, none, none, none, none, none, none,
              none, none, none, none, none, none, none, none, none, none, none, none, none, none, none, none, none,
              none, none, none, none, none, none, none, none, none, none, none, none, none, none, none, none, none,
              none, none, none, none, none, none, none, none, none, none, none, none]
            [some (Blk.ro [IntKind.u8] xa), some (Blk.row (32 : Nat) [IntKind.u64, IntKind.i64] bs),
              some
                (Blk.row (41 : Nat)
                  [IntKind.i64, IntKind.u64, IntKind.i64, IntKind.i64, IntKind.i64, IntKind.i64, IntKind.i64,
                    IntKind.i64]
                  ts),
              some
                (Blk.var (41 : Nat)
                  [IV.int IntKind.i64 c0, IV.int IntKind.u64 c1, IV.int IntKind.i64 c2, IV.int IntKind.i64 c3,
                    IV.int IntKind.i64 c4, IV.int IntKind.i64 c5, IV.int IntKind.i64 c6, IV.int IntKind.i64 c7])]))))
    (br (decide (c0 > (0 : Int)))
      (((0 : Int) ≤ j ∧ j < (↑bs.length : Int)) ∧
        ((0 : Int) ≤ j ∧ j < (↑bs.length : Int)) ∧
          (0 : Int) ≤ IntKind.i64.wrap ((64 : Int) - IntKind.i64.wrap ((2 : Int) * c0)) ∧
            (0 : Int) ≤ IntKind.i64.wrap ((64 : Int) - IntKind.i64.wrap ((2 : Int) * c0)) ∧
              br
                (IntKind.u64.wrap
                    ((rd bs j.toNat (0 : Nat)).fdiv
                        ((2 : Int) ^
                          min (IntKind.i64.wrap ((64 : Int) - IntKind.i64.wrap ((2 : Int) * c0))).toNat (64 : Nat)) *
                      (2 : Int) ^
                        min (IntKind.i64.wrap ((64 : Int) - IntKind.i64.wrap ((2 : Int) * c0))).toNat (64 : Nat)) !=
                  c1)
                (k Out.ret
                  (St.mk
                    [none, none, none, none, some (IV.bool false), none, none, none, none, none, none, none, none, none,
                      none, none, none, none, none, none, none, none, none, none, none, none, none, none, none, none,
                      none, none, none, none, none, none, none, none, none, none, none, none, none, none, none, none,
                      none, none, none, none, none, none, none, none, none, none, none, none, none, none, none, none,
                      none, none, none, none, none, none, none, none, none, none, none, none, none, none, none, none,
                      none, none, none, none, none, none, none, none, none, none, none, none, none, none, none, none,
                      none, none, none, none, none, none, none, none, none, none, none, none, none, none, none, none,
                      none, none, none, none, none, none]
                    [some (Blk.ro [IntKind.u8] xa)]))
                (k Out.normal
                  (St.mk
                    [none, none, none, none, none, none, none, some (IV.sl (1 : Nat)), some (IV.sl (2 : Nat)),
                      some (IV.int IntKind.i64 i), some (IV.ptr (3 : Nat) (0 : Nat)),
                      some (IV.int IntKind.i64 (IntKind.i64.wrap (j + (1 : Int)))), none, none, none, none, none, none,
                      none, none, none, none, none, none, none, none, none, none, none, none, none, none, none, none,
                      none, none, none, none, none, none, none, none, none, none, none, none, none, none, none, none,
                      none, none, none, none, none, none, none, none, none, none, none, none, none, none, none, none,
                      none, none, none, none, none, none, none, none, none, none, none, none, none, none, none, none,
                      none, none, none, none, none, none, none, none, none, none, none, none, none, none, none, none,
                      none, none, none, none, none, none, none, none, none, none, none, none, none, none, none, none,
                      none, none]
                    [some (Blk.ro [IntKind.u8] xa), some (Blk.row (32 : Nat) [IntKind.u64, IntKind.i64] bs),
                      some
                        (Blk.row (41 : Nat)
                          [IntKind.i64, IntKind.u64, IntKind.i64, IntKind.i64, IntKind.i64, IntKind.i64, IntKind.i64,
                            IntKind.i64]
                          ts),
                      some
                        (Blk.var (41 : Nat)
                          [IV.int IntKind.i64 c0, IV.int IntKind.u64 c1, IV.int IntKind.i64 c2, IV.int IntKind.i64 c3,
                            IV.int IntKind.i64 c4, IV.int IntKind.i64 c5, IV.int IntKind.i64 c6,
                            IV.int IntKind.i64 c7])])))
      (k Out.normal
        (St.mk
          [none, none, none, none, none, none, none, some (IV.sl (1 : Nat)), some (IV.sl (2 : Nat)),
            some (IV.int IntKind.i64 i), some (IV.ptr (3 : Nat) (0 : Nat)),
            some (IV.int IntKind.i64 (IntKind.i64.wrap (j + (1 : Int)))), none, none, none, none, none, none, none,
            none, none, none, none, none, none, none, none, none, none, none, none, none, none, none, none, none, none,
            none, none, none, none, none, none, none, none, none, none, none, none, none, none, none, none, none, none,
            none, none, none, none, none, none, none, none, none, none, none, none, none, none, none, none, none, none,
            none, none, none, none, none, none, none, none, none, none, none, none, none, none, none, none, none, none,
            none, none, none, none, none, none, none, none, none, none, none, none, none, none, none, none, none, none,
            none, none, none, none, none, none, none]
          [some (Blk.ro [IntKind.u8] xa), some (Blk.row (32 : Nat) [IntKind.u64, IntKind.i64] bs),
            some
              (Blk.row (41 : Nat)
                [IntKind.i64, IntKind.u64, IntKind.i64, IntKind.i64, IntKind.i64, IntKind.i64, IntKind.i64, IntKind.i64]
                ts),
            some
              (Blk.var (41 : Nat)
                [IV.int IntKind.i64 c0, IV.int IntKind.u64 c1, IV.int IntKind.i64 c2, IV.int IntKind.i64 c3,
                  IV.int IntKind.i64 c4, IV.int IntKind.i64 c5, IV.int IntKind.i64 c6, IV.int IntKind.i64 c7])]))))
  (k (Out.exit (4 : Nat))
    (St.mk
      [none, none, none, none, none, none, none, some (IV.sl (1 : Nat)), some (IV.sl (2 : Nat)),
        some (IV.int IntKind.i64 i), none, none, none, none, none, none, none, none, none, none, none, none, none, none,
        none, none, none, none, none, none, none, none, none, none, none, none, none, none, none, none, none, none,
        none, none, none, none, none, none, none, none, none, none, none, none, none, none, none, none, none, none,
        none, none, none, none, none, none, none, none, none, none, none, none, none, none, none, none, none, none,
        none, none, none, none, none, none, none, none, none, none, none, none, none, none, none, none, none, none,
        none, none, none, none, none, none, none, none, none, none, none, none, none, none, none, none, none, none,
        none, none]
      [some (Blk.ro [IntKind.u8] xa), some (Blk.row (32 : Nat) [IntKind.u64, IntKind.i64] bs),
        some
          (Blk.row (41 : Nat)
            [IntKind.i64, IntKind.u64, IntKind.i64, IntKind.i64, IntKind.i64, IntKind.i64, IntKind.i64, IntKind.i64]
            ts)]))) := by kernel_rfl
theorem v8 (xa : List (List Int)) (h : Int) (K : IV → List Blk → Prop) : (comes Try.prog N8k 1 8 [.sl 0, .int .u64 h] [.ro [.u8] xa] K) = (preBytes [IV.sl (0 : Nat)] [Blk.ro [IntKind.u8] xa] ∧
  ((1 : Nat) = (1 : Nat) ∧
      St.mk
            [none, some (IV.int IntKind.u64 h), none, none, none, some (IV.sl (1 : Nat)),
              some (IV.int IntKind.i64 (0 : Int)), none, none, none, none, none, none, none, none, none, none, none,
              none, none, none, none, none, none, none, none, none, none, none, none, none, none, none, none, none,
              none, none, none, none, none, none, none, none, none, none, none, none, none, none, none, none, none,
              none, none, none, none, none, none, none, none, none, none, none, none, none, none, none, none, none,
              none, none, none, none, none, none, none, none, none, none, none, none, none, none, none, none, none,
              none, none, none, none, none, none, none, none, none, none, none, none, none, none, none, none, none,
              none, none, none, none, none, none, none, none, none, none, none, none, none]
            [some (Blk.ro [IntKind.u8] xa), some (Blk.row (32 : Nat) [IntKind.u64, IntKind.i64] (makeF xa))] =
          St.mk
            [none, some (IV.int IntKind.u64 h), none, none, none, some (IV.sl (1 : Nat)),
              some (IV.int IntKind.i64 (0 : Int)), none, none, none, none, none, none, none, none, none, none, none,
              none, none, none, none, none, none, none, none, none, none, none, none, none, none, none, none, none,
              none, none, none, none, none, none, none, none, none, none, none, none, none, none, none, none, none,
              none, none, none, none, none, none, none, none, none, none, none, none, none, none, none, none, none,
              none, none, none, none, none, none, none, none, none, none, none, none, none, none, none, none, none,
              none, none, none, none, none, none, none, none, none, none, none, none, none, none, none, none, none,
              none, none, none, none, none, none, none, none, none, none, none, none, none]
            [some (Blk.ro [IntKind.u8] xa), some (Blk.row (32 : Nat) [IntKind.u64, IntKind.i64] (makeF xa))] ∧
        (makeF xa).length ≤ (100 : Nat)) ∧
    preSort [IV.sl (0 : Nat)] [Blk.ro [IntKind.u64, IntKind.i64] (xorF h (makeF xa))] ∧
      preBuild [IV.sl (0 : Nat)] [Blk.ro [IntKind.u64, IntKind.i64] (sortF (xorF h (makeF xa)))] ∧
        br ((↑(buildF (sortF (xorF h (makeF xa)))).length : Int) == (0 : Int))
          (br ((↑(xorF h (makeF xa)).length : Int) == (0 : Int)) (preNone [] [] ∧ K (IV.bool true) [])
            (K (IV.bool false) []))
          (((1 : Nat) = (1 : Nat) ∧
              St.mk
                    [none, none, none, none, none, none, none, some (IV.sl (1 : Nat)), some (IV.sl (2 : Nat)),
                      some (IV.int IntKind.i64 (0 : Int)), none, none, none, none, none, none, none, none, none, none,
                      none, none, none, none, none, none, none, none, none, none, none, none, none, none, none, none,
                      none, none, none, none, none, none, none, none, none, none, none, none, none, none, none, none,
                      none, none, none, none, none, none, none, none, none, none, none, none, none, none, none, none,
                      none, none, none, none, none, none, none, none, none, none, none, none, none, none, none, none,
                      none, none, none, none, none, none, none, none, none, none, none, none, none, none, none, none,
                      none, none, none, none, none, none, none, none, none, none, none, none, none, none, none, none]
                    [some (Blk.ro [IntKind.u8] xa),
                      some (Blk.row (32 : Nat) [IntKind.u64, IntKind.i64] (sortF (xorF h (makeF xa)))),
                      some
                        (Blk.row (41 : Nat)
                          [IntKind.i64, IntKind.u64, IntKind.i64, IntKind.i64, IntKind.i64, IntKind.i64, IntKind.i64,
                            IntKind.i64]
                          (buildF (sortF (xorF h (makeF xa)))))] =
                  St.mk
                    [none, none, none, none, none, none, none, some (IV.sl (1 : Nat)), some (IV.sl (2 : Nat)),
                      some (IV.int IntKind.i64 (0 : Int)), none, none, none, none, none, none, none, none, none, none,
                      none, none, none, none, none, none, none, none, none, none, none, none, none, none, none, none,
                      none, none, none, none, none, none, none, none, none, none, none, none, none, none, none, none,
                      none, none, none, none, none, none, none, none, none, none, none, none, none, none, none, none,
                      none, none, none, none, none, none, none, none, none, none, none, none, none, none, none, none,
                      none, none, none, none, none, none, none, none, none, none, none, none, none, none, none, none,
                      none, none, none, none, none, none, none, none, none, none, none, none, none, none, none, none]
                    [some (Blk.ro [IntKind.u8] xa),
                      some (Blk.row (32 : Nat) [IntKind.u64, IntKind.i64] (sortF (xorF h (makeF xa)))),
                      some
                        (Blk.row (41 : Nat)
                          [IntKind.i64, IntKind.u64, IntKind.i64, IntKind.i64, IntKind.i64, IntKind.i64, IntKind.i64,
                            IntKind.i64]
                          (buildF (sortF (xorF h (makeF xa)))))] ∧
                pre8b (sortF (xorF h (makeF xa))) (buildF (sortF (xorF h (makeF xa)))) (0 : Int)) ∧
            preNone [] [] ∧ K (IV.bool true) [])) := by kernel_rfl

