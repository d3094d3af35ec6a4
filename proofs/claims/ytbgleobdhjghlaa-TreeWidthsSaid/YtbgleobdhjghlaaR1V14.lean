import Derived.Test.YtbgleobdhjghlaaR1F17
set_option linter.unusedVariables false
/- TreeLeaves -/
namespace Go.Vs.R1
open Go Go.Proofs Go.Vs
def S7b (xa ls ts cs : List (List Int)) (i : Int) : St := ⟨T 215 [(5, .sl 1), (8, .sl 2), (9, .sl 3), (10, i64 i)], [some (.ro [.u8] xa), row ls, some (.row 41 nk ts), some (.row 3 [.i64] cs)]⟩
def B7 (xa ls ts cs : List (List Int)) (c0 c1 c2 c3 c4 c5 c6 c7 : Int) : List (Option Blk) := [some (.ro [.u8] xa), row ls, some (.row 41 nk ts), some (.row 3 [.i64] cs), some (.var 41 (nodeV c0 c1 c2 c3 c4 c5 c6 c7))]
def S7c (xa ls ts cs : List (List Int)) (c0 c1 c2 c3 c4 c5 c6 c7 i f n q : Int) : St := ⟨T 215 [(5, .sl 1), (8, .sl 2), (9, .sl 3), (10, i64 i), (11, .ptr 4 0), (12, i64 f), (13, i64 n), (14, i64 q)], B7 xa ls ts cs c0 c1 c2 c3 c4 c5 c6 c7⟩
/-- a node's kids, walked through: where the next one is to begin, and how many there were -/
def wFrom (ts : List (List Int)) (i : Nat) : Nat → Int
  | 0 => rd ts i 2
  | q + 1 => if rd ts i (4 + q) < 0 then wFrom ts i q else rd ts (rd ts i (4 + q)).toNat 3
def wKids (ts : List (List Int)) (i : Nat) : Nat → Int
  | 0 => 0
  | q + 1 => if rd ts i (4 + q) < 0 then wKids ts i q else wKids ts i q + 1
def kidOk (ts : List (List Int)) (i q : Nat) : Prop := rd ts i (4 + q) < 0 ∨ ((i : Int) < rd ts i (4 + q) ∧ rd ts i (4 + q) < ts.length ∧ rd ts (rd ts i (4 + q)).toNat 2 = wFrom ts i q ∧ rd ts (rd ts i (4 + q)).toNat 0 = rd ts i 0 + 1)
def nodeOk (ts : List (List Int)) (len : Nat) (i : Nat) : Prop :=
  0 ≤ rd ts i 2 ∧ rd ts i 3 ≤ len ∧ rd ts i 2 < rd ts i 3 ∧ 0 ≤ rd ts i 0 ∧ rd ts i 0 ≤ 32 ∧ (∀ q, q < 4 → kidOk ts i q) ∧
  ((wKids ts i 4 = 0 ∧ ¬ (4 < rd ts i 3 - rd ts i 2 ∧ rd ts i 0 < 32)) ∨ (wKids ts i 4 ≠ 0 ∧ wFrom ts i 4 = rd ts i 3 ∧ 4 < rd ts i 3 - rd ts i 2))
def cellsAre (ts : List (List Int)) (i : Nat) (c0 c1 c2 c3 c4 c5 c6 c7 : Int) : Prop := rd ts i 0 = c0 ∧ rd ts i 1 = c1 ∧ rd ts i 2 = c2 ∧ rd ts i 3 = c3 ∧ rd ts i 4 = c4 ∧ rd ts i 5 = c5 ∧ rd ts i 6 = c6 ∧ rd ts i 7 = c7
def pre7c (ls ts : List (List Int)) (c0 c1 c2 c3 c4 c5 c6 c7 i f n q : Int) : Prop := 0 ≤ i ∧ i < ts.length ∧ ts.length ≤ 1000000 ∧ ls.length ≤ 1000 ∧ nodeOk ts ls.length i.toNat ∧ cellsAre ts i.toNat c0 c1 c2 c3 c4 c5 c6 c7 ∧ f = c2 ∧ n = 0 ∧ q = 0
noncomputable def L7c : LoopS := fun n0 st K => (n0 = 1 ∧ st = S7c (st.x 0) (st.x 1) (st.x 2) (st.x 3) (st.c 4 0) (st.c 4 1) (st.c 4 2) (st.c 4 3) (st.c 4 4) (st.c 4 5) (st.c 4 6) (st.c 4 7) (st.i 10) (st.i 12) (st.i 13) (st.i 14) ∧
    pre7c (st.x 1) (st.x 2) (st.c 4 0) (st.c 4 1) (st.c 4 2) (st.c 4 3) (st.c 4 4) (st.c 4 5) (st.c 4 6) (st.c 4 7) (st.i 10) (st.i 12) (st.i 13) (st.i 14)) ∧
  K (.exit 4) ⟨T 215 [(5, .sl 1), (8, .sl 2), (9, .sl 3), (10, i64 (st.i 10)), (11, .ptr 4 0), (12, i64 (wFrom (st.x 2) (st.i 10).toNat 4)), (13, i64 (wKids (st.x 2) (st.i 10).toNat 4))], B7 (st.x 0) (st.x 1) (st.x 2) (st.x 3) (st.c 4 0) (st.c 4 1) (st.c 4 2) (st.c 4 3) (st.c 4 4) (st.c 4 5) (st.c 4 6) (st.c 4 7)⟩
def S7d (xa ls ts cs : List (List Int)) (c0 c1 c2 c3 c4 c5 c6 c7 i j : Int) : St := ⟨T 215 [(5, .sl 1), (8, .sl 2), (9, .sl 3), (10, i64 i), (11, .ptr 4 0), (16, i64 j)], B7 xa ls ts cs c0 c1 c2 c3 c4 c5 c6 c7⟩
def bump (cs : List (List Int)) (a b : Nat) : List (List Int) := cs.mapIdx fun j x => if a ≤ j ∧ j < b then [x.getD 0 0 + 1] else x
def pre7d (cs : List (List Int)) (c2 c3 j : Int) : Prop := 0 ≤ c2 ∧ c3 ≤ cs.length ∧ cs.length ≤ 1000 ∧ j = c2 ∧ ∀ i : Nat, 0 ≤ rd cs i 0 ∧ rd cs i 0 ≤ 1000000
noncomputable def L7d : LoopS := fun n0 st K => (n0 = 1 ∧ st = S7d (st.x 0) (st.x 1) (st.x 2) (st.x 3) (st.c 4 0) (st.c 4 1) (st.c 4 2) (st.c 4 3) (st.c 4 4) (st.c 4 5) (st.c 4 6) (st.c 4 7) (st.i 10) (st.i 16) ∧ pre7d (st.x 3) (st.c 4 2) (st.c 4 3) (st.i 16)) ∧
  K (.exit 6) (S7b (st.x 0) (st.x 1) (st.x 2) (bump (st.x 3) (st.c 4 2).toNat (st.c 4 3).toNat) (st.i 10))
theorem r7c (N : Know) (xa ls ts cs : List (List Int)) (c0 c1 c2 c3 c4 c5 c6 c7 i f n q : Int) (k : Out → St → Prop) : (round (envOf Try.prog N 0) 7 1 2 (lp Try.prog 7 2) (S7c xa ls ts cs c0 c1 c2 c3 c4 c5 c6 c7 i f n q) k) = (br (decide (q < (4 : Int)))
  (((0 : Int) ≤ q ∧ q < (↑(4 : Nat) : Int)) ∧
    ((0 : Int) ≤ q ∧ q < (↑[c4, c5, c6, c7].length : Int)) ∧
      br (decide (dget [c4, c5, c6, c7] q < (0 : Int)))
        (k Out.normal
          (St.mk
            [none, none, none, none, none, some (IV.sl (1 : Nat)), none, none, some (IV.sl (2 : Nat)),
              some (IV.sl (3 : Nat)), some (IV.int IntKind.i64 i), some (IV.ptr (4 : Nat) (0 : Nat)),
              some (IV.int IntKind.i64 f), some (IV.int IntKind.i64 n),
              some (IV.int IntKind.i64 (IntKind.i64.wrap (q + (1 : Int)))), none, none, none, none, none, none, none,
              none, none, none, none, none, none, none, none, none, none, none, none, none, none, none, none, none,
              none, none, none, none, none, none, none, none, none, none, none, none, none, none, none, none, none,
              none, none, none, none, none, none, none, none, none, none, none, none, none, none, none, none, none,
              none, none, none, none, none, none, none, none, none, none, none, none, none, none, none, none, none,
              none, none, none, none, none, none, none, none, none, none, none, none, none, none, none, none, none,
              none, none, none, none, none, none, none, none, none, none, none, none, none, none, none, none, none,
              none, none, none, none, none, none, none, none, none, none, none, none, none, none, none, none, none,
              none, none, none, none, none, none, none, none, none, none, none, none, none, none, none, none, none,
              none, none, none, none, none, none, none, none, none, none, none, none, none, none, none, none, none,
              none, none, none, none, none, none, none, none, none, none, none, none, none, none, none, none, none,
              none, none, none, none, none, none, none, none, none, none, none, none, none, none, none, none, none,
              none, none, none, none, none, none]
            [some (Blk.ro [IntKind.u8] xa), some (Blk.row (32 : Nat) [IntKind.u64, IntKind.i64] ls),
              some
                (Blk.row (41 : Nat)
                  [IntKind.i64, IntKind.u64, IntKind.i64, IntKind.i64, IntKind.i64, IntKind.i64, IntKind.i64,
                    IntKind.i64]
                  ts),
              some (Blk.row (3 : Nat) [IntKind.i64] cs),
              some
                (Blk.var (41 : Nat)
                  [IV.int IntKind.i64 c0, IV.int IntKind.u64 c1, IV.int IntKind.i64 c2, IV.int IntKind.i64 c3,
                    IV.int IntKind.i64 c4, IV.int IntKind.i64 c5, IV.int IntKind.i64 c6, IV.int IntKind.i64 c7])]))
        (br (decide (dget [c4, c5, c6, c7] q ≤ i))
          (k Out.ret
            (St.mk
              [none, none, none, none, some (IV.bool false), none, none, none, none, none, none, none, none, none, none,
                none, none, none, none, none, none, none, none, none, none, none, none, none, none, none, none, none,
                none, none, none, none, none, none, none, none, none, none, none, none, none, none, none, none, none,
                none, none, none, none, none, none, none, none, none, none, none, none, none, none, none, none, none,
                none, none, none, none, none, none, none, none, none, none, none, none, none, none, none, none, none,
                none, none, none, none, none, none, none, none, none, none, none, none, none, none, none, none, none,
                none, none, none, none, none, none, none, none, none, none, none, none, none, none, none, none, none,
                none, none, none, none, none, none, none, none, none, none, none, none, none, none, none, none, none,
                none, none, none, none, none, none, none, none, none, none, none, none, none, none, none, none, none,
                none, none, none, none, none, none, none, none, none, none, none, none, none, none, none, none, none,
                none, none, none, none, none, none, none, none, none, none, none, none, none, none, none, none, none,
                none, none, none, none, none, none, none, none, none, none, none, none, none, none, none, none, none,
                none, none, none, none, none, none, none, none, none, none, none, none, none]
              [some (Blk.ro [IntKind.u8] xa)]))
          (br (decide (dget [c4, c5, c6, c7] q ≥ (↑ts.length : Int)))
            (k Out.ret
              (St.mk
                [none, none, none, none, some (IV.bool false), none, none, none, none, none, none, none, none, none,
                  none, none, none, none, none, none, none, none, none, none, none, none, none, none, none, none, none,
                  none, none, none, none, none, none, none, none, none, none, none, none, none, none, none, none, none,
                  none, none, none, none, none, none, none, none, none, none, none, none, none, none, none, none, none,
                  none, none, none, none, none, none, none, none, none, none, none, none, none, none, none, none, none,
                  none, none, none, none, none, none, none, none, none, none, none, none, none, none, none, none, none,
                  none, none, none, none, none, none, none, none, none, none, none, none, none, none, none, none, none,
                  none, none, none, none, none, none, none, none, none, none, none, none, none, none, none, none, none,
                  none, none, none, none, none, none, none, none, none, none, none, none, none, none, none, none, none,
                  none, none, none, none, none, none, none, none, none, none, none, none, none, none, none, none, none,
                  none, none, none, none, none, none, none, none, none, none, none, none, none, none, none, none, none,
                  none, none, none, none, none, none, none, none, none, none, none, none, none, none, none, none, none,
                  none, none, none, none, none, none, none, none, none, none, none, none, none, none]
                [some (Blk.ro [IntKind.u8] xa)]))
            (((0 : Int) ≤ dget [c4, c5, c6, c7] q ∧ dget [c4, c5, c6, c7] q < (↑ts.length : Int)) ∧
              ((0 : Int) ≤ dget [c4, c5, c6, c7] q ∧ dget [c4, c5, c6, c7] q < (↑ts.length : Int)) ∧
                br (rd ts (dget [c4, c5, c6, c7] q).toNat (2 : Nat) != f)
                  (k Out.ret
                    (St.mk
                      [none, none, none, none, some (IV.bool false), none, none, none, none, none, none, none, none,
                        none, none, none, none, none, none, none, none, none, none, none, none, none, none, none, none,
                        none, none, none, none, none, none, none, none, none, none, none, none, none, none, none, none,
                        none, none, none, none, none, none, none, none, none, none, none, none, none, none, none, none,
                        none, none, none, none, none, none, none, none, none, none, none, none, none, none, none, none,
                        none, none, none, none, none, none, none, none, none, none, none, none, none, none, none, none,
                        none, none, none, none, none, none, none, none, none, none, none, none, none, none, none, none,
                        none, none, none, none, none, none, none, none, none, none, none, none, none, none, none, none,
                        none, none, none, none, none, none, none, none, none, none, none, none, none, none, none, none,
                        none, none, none, none, none, none, none, none, none, none, none, none, none, none, none, none,
                        none, none, none, none, none, none, none, none, none, none, none, none, none, none, none, none,
                        none, none, none, none, none, none, none, none, none, none, none, none, none, none, none, none,
                        none, none, none, none, none, none, none, none, none, none, none, none, none, none, none, none,
                        none, none, none, none, none, none, none, none, none, none]
                      [some (Blk.ro [IntKind.u8] xa)]))
                  (((0 : Int) ≤ dget [c4, c5, c6, c7] q ∧ dget [c4, c5, c6, c7] q < (↑ts.length : Int)) ∧
                    ((0 : Int) ≤ dget [c4, c5, c6, c7] q ∧ dget [c4, c5, c6, c7] q < (↑ts.length : Int)) ∧
                      br (rd ts (dget [c4, c5, c6, c7] q).toNat (0 : Nat) != IntKind.i64.wrap (c0 + (1 : Int)))
                        (k Out.ret
                          (St.mk
                            [none, none, none, none, some (IV.bool false), none, none, none, none, none, none, none,
                              none, none, none, none, none, none, none, none, none, none, none, none, none, none, none,
                              none, none, none, none, none, none, none, none, none, none, none, none, none, none, none,
                              none, none, none, none, none, none, none, none, none, none, none, none, none, none, none,
                              none, none, none, none, none, none, none, none, none, none, none, none, none, none, none,
                              none, none, none, none, none, none, none, none, none, none, none, none, none, none, none,
                              none, none, none, none, none, none, none, none, none, none, none, none, none, none, none,
                              none, none, none, none, none, none, none, none, none, none, none, none, none, none, none,
                              none, none, none, none, none, none, none, none, none, none, none, none, none, none, none,
                              none, none, none, none, none, none, none, none, none, none, none, none, none, none, none,
                              none, none, none, none, none, none, none, none, none, none, none, none, none, none, none,
                              none, none, none, none, none, none, none, none, none, none, none, none, none, none, none,
                              none, none, none, none, none, none, none, none, none, none, none, none, none, none, none,
                              none, none, none, none, none, none, none, none, none, none, none, none, none, none, none,
                              none, none, none, none, none, none, none, none]
                            [some (Blk.ro [IntKind.u8] xa)]))
                        (((0 : Int) ≤ dget [c4, c5, c6, c7] q ∧ dget [c4, c5, c6, c7] q < (↑ts.length : Int)) ∧
                          ((0 : Int) ≤ dget [c4, c5, c6, c7] q ∧ dget [c4, c5, c6, c7] q < (↑ts.length : Int)) ∧
                            k Out.normal
                              (St.mk
                                [none, none, none, none, none, some (IV.sl (1 : Nat)), none, none,
                                  some (IV.sl (2 : Nat)), some (IV.sl (3 : Nat)), some (IV.int IntKind.i64 i),
                                  some (IV.ptr (4 : Nat) (0 : Nat)),
                                  some (IV.int IntKind.i64 (rd ts (dget [c4, c5, c6, c7] q).toNat (3 : Nat))),
                                  some (IV.int IntKind.i64 (IntKind.i64.wrap (n + (1 : Int)))),
                                  some (IV.int IntKind.i64 (IntKind.i64.wrap (q + (1 : Int)))), none, none, none, none,
                                  none, none, none, none, none, none, none, none, none, none, none, none, none, none,
                                  none, none, none, none, none, none, none, none, none, none, none, none, none, none,
                                  none, none, none, none, none, none, none, none, none, none, none, none, none, none,
                                  none, none, none, none, none, none, none, none, none, none, none, none, none, none,
                                  none, none, none, none, none, none, none, none, none, none, none, none, none, none,
                                  none, none, none, none, none, none, none, none, none, none, none, none, none, none,
                                  none, none, none, none, none, none, none, none, none, none, none, none, none, none,
                                  none, none, none, none, none, none, none, none, none, none, none, none, none, none,
                                  none, none, none, none, none, none, none, none, none, none, none, none, none, none,
                                  none, none, none, none, none, none, none, none, none, none, none, none, none, none,
                                  none, none, none, none, none, none, none, none, none, none, none, none, none, none,
                                  none, none, none, none, none, none, none, none, none, none, none, none, none, none,
                                  none, none, none, none, none, none, none, none, none, none, none, none, none, none,
                                  none, none, none, none, none, none, none, none, none, none, none, none, none, none]
                                [some (Blk.ro [IntKind.u8] xa), some (Blk.row (32 : Nat) [IntKind.u64, IntKind.i64] ls),
                                  some
                                    (Blk.row (41 : Nat)
                                      [IntKind.i64, IntKind.u64, IntKind.i64, IntKind.i64, IntKind.i64, IntKind.i64,
                                        IntKind.i64, IntKind.i64]
                                      ts),
                                  some (Blk.row (3 : Nat) [IntKind.i64] cs),
                                  some
                                    (Blk.var (41 : Nat)
                                      [IV.int IntKind.i64 c0, IV.int IntKind.u64 c1, IV.int IntKind.i64 c2,
                                        IV.int IntKind.i64 c3, IV.int IntKind.i64 c4, IV.int IntKind.i64 c5,
                                        IV.int IntKind.i64 c6, IV.int IntKind.i64 c7])])))))))
  (k (Out.exit (4 : Nat))
    (St.mk
      [none, none, none, none, none, some (IV.sl (1 : Nat)), none, none, some (IV.sl (2 : Nat)), some (IV.sl (3 : Nat)),
        some (IV.int IntKind.i64 i), some (IV.ptr (4 : Nat) (0 : Nat)), some (IV.int IntKind.i64 f),
        some (IV.int IntKind.i64 n), none, none, none, none, none, none, none, none, none, none, none, none, none, none,
        none, none, none, none, none, none, none, none, none, none, none, none, none, none, none, none, none, none,
        none, none, none, none, none, none, none, none, none, none, none, none, none, none, none, none, none, none,
        none, none, none, none, none, none, none, none, none, none, none, none, none, none, none, none, none, none,
        none, none, none, none, none, none, none, none, none, none, none, none, none, none, none, none, none, none,
        none, none, none, none, none, none, none, none, none, none, none, none, none, none, none, none, none, none,
        none, none, none, none, none, none, none, none, none, none, none, none, none, none, none, none, none, none,
        none, none, none, none, none, none, none, none, none, none, none, none, none, none, none, none, none, none,
        none, none, none, none, none, none, none, none, none, none, none, none, none, none, none, none, none, none,
        none, none, none, none, none, none, none, none, none, none, none, none, none, none, none, none, none, none,
        none, none, none, none, none, none, none, none, none, none, none, none, none, none, none, none, none, none,
        none, none, none, none, none, none, none]
      [some (Blk.ro [IntKind.u8] xa), some (Blk.row (32 : Nat) [IntKind.u64, IntKind.i64] ls),
        some
          (Blk.row (41 : Nat)
            [IntKind.i64, IntKind.u64, IntKind.i64, IntKind.i64, IntKind.i64, IntKind.i64, IntKind.i64, IntKind.i64]
            ts),
        some (Blk.row (3 : Nat) [IntKind.i64] cs),
        some
          (Blk.var (41 : Nat)
            [IV.int IntKind.i64 c0, IV.int IntKind.u64 c1, IV.int IntKind.i64 c2, IV.int IntKind.i64 c3,
              IV.int IntKind.i64 c4, IV.int IntKind.i64 c5, IV.int IntKind.i64 c6, IV.int IntKind.i64 c7])]))) := by kernel_rfl
theorem r7d (N : Know) (xa ls ts cs : List (List Int)) (c0 c1 c2 c3 c4 c5 c6 c7 i j : Int) (k : Out → St → Prop) : (round (envOf Try.prog N 0) 7 1 3 (lp Try.prog 7 3) (S7d xa ls ts cs c0 c1 c2 c3 c4 c5 c6 c7 i j) k) = (br (decide (j < c3))
  (((0 : Int) ≤ j ∧ j < (↑cs.length : Int)) ∧
    ((0 : Int) ≤ j ∧ j < (↑cs.length : Int)) ∧
      ((0 : Int) ≤ j ∧ j < (↑cs.length : Int)) ∧
        ((0 : Int) ≤ j ∧ j < (↑cs.length : Int)) ∧
          k Out.normal
            (St.mk
              [none, none, none, none, none, some (IV.sl (1 : Nat)), none, none, some (IV.sl (2 : Nat)),
                some (IV.sl (3 : Nat)), some (IV.int IntKind.i64 i), some (IV.ptr (4 : Nat) (0 : Nat)), none, none,
                none, none, some (IV.int IntKind.i64 (IntKind.i64.wrap (j + (1 : Int)))), none, none, none, none, none,
                none, none, none, none, none, none, none, none, none, none, none, none, none, none, none, none, none,
                none, none, none, none, none, none, none, none, none, none, none, none, none, none, none, none, none,
                none, none, none, none, none, none, none, none, none, none, none, none, none, none, none, none, none,
                none, none, none, none, none, none, none, none, none, none, none, none, none, none, none, none, none,
                none, none, none, none, none, none, none, none, none, none, none, none, none, none, none, none, none,
                none, none, none, none, none, none, none, none, none, none, none, none, none, none, none, none, none,
                none, none, none, none, none, none, none, none, none, none, none, none, none, none, none, none, none,
                none, none, none, none, none, none, none, none, none, none, none, none, none, none, none, none, none,
                none, none, none, none, none, none, none, none, none, none, none, none, none, none, none, none, none,
                none, none, none, none, none, none, none, none, none, none, none, none, none, none, none, none, none,
                none, none, none, none, none, none, none, none, none, none, none, none, none, none, none, none, none,
                none, none, none, none, none, none]
              [some (Blk.ro [IntKind.u8] xa), some (Blk.row (32 : Nat) [IntKind.u64, IntKind.i64] ls),
                some
                  (Blk.row (41 : Nat)
                    [IntKind.i64, IntKind.u64, IntKind.i64, IntKind.i64, IntKind.i64, IntKind.i64, IntKind.i64,
                      IntKind.i64]
                    ts),
                some
                  (Blk.row (3 : Nat) [IntKind.i64]
                    (cs.modify j.toNat fun x => [IntKind.i64.wrap (rd cs j.toNat (0 : Nat) + (1 : Int))])),
                some
                  (Blk.var (41 : Nat)
                    [IV.int IntKind.i64 c0, IV.int IntKind.u64 c1, IV.int IntKind.i64 c2, IV.int IntKind.i64 c3,
                      IV.int IntKind.i64 c4, IV.int IntKind.i64 c5, IV.int IntKind.i64 c6, IV.int IntKind.i64 c7])]))
  (k (Out.exit (6 : Nat))
    (St.mk
      [none, none, none, none, none, some (IV.sl (1 : Nat)), none, none, some (IV.sl (2 : Nat)), some (IV.sl (3 : Nat)),
        some (IV.int IntKind.i64 i), none, none, none, none, none, none, none, none, none, none, none, none, none, none,
        none, none, none, none, none, none, none, none, none, none, none, none, none, none, none, none, none, none,
        none, none, none, none, none, none, none, none, none, none, none, none, none, none, none, none, none, none,
        none, none, none, none, none, none, none, none, none, none, none, none, none, none, none, none, none, none,
        none, none, none, none, none, none, none, none, none, none, none, none, none, none, none, none, none, none,
        none, none, none, none, none, none, none, none, none, none, none, none, none, none, none, none, none, none,
        none, none, none, none, none, none, none, none, none, none, none, none, none, none, none, none, none, none,
        none, none, none, none, none, none, none, none, none, none, none, none, none, none, none, none, none, none,
        none, none, none, none, none, none, none, none, none, none, none, none, none, none, none, none, none, none,
        none, none, none, none, none, none, none, none, none, none, none, none, none, none, none, none, none, none,
        none, none, none, none, none, none, none, none, none, none, none, none, none, none, none, none, none, none,
        none, none, none, none, none, none, none, none, none, none]
      [some (Blk.ro [IntKind.u8] xa), some (Blk.row (32 : Nat) [IntKind.u64, IntKind.i64] ls),
        some
          (Blk.row (41 : Nat)
            [IntKind.i64, IntKind.u64, IntKind.i64, IntKind.i64, IntKind.i64, IntKind.i64, IntKind.i64, IntKind.i64]
            ts),
        some (Blk.row (3 : Nat) [IntKind.i64] cs)]))) := by kernel_rfl
/-- how many leaves there are among the first nodes, that have a body -/
def isLeaf (ts : List (List Int)) (j i : Nat) : Bool := decide (wKids ts i 4 = 0 ∧ rd ts i 2 ≤ (j : Int) ∧ (j : Int) < rd ts i 3)
def cover (ts : List (List Int)) (len m : Nat) : List (List Int) := (List.range len).map fun (j : Nat) => [(((List.range m).countP (isLeaf ts j) : Nat) : Int)]
def pre7b (ls ts cs : List (List Int)) (i : Int) : Prop := (∀ j, j < ts.length → nodeOk ts ls.length j) ∧ ls.length ≤ 1000 ∧ ts.length ≤ 100000 ∧ cs = cover ts ls.length 0 ∧ i = 0
noncomputable def L7b : LoopS := fun n0 st K => (n0 = 1 ∧ st = S7b (st.x 0) (st.x 1) (st.x 2) (st.x 3) (st.i 10) ∧ pre7b (st.x 1) (st.x 2) (st.x 3) (st.i 10)) ∧ K (.exit 2) ⟨T 215 [(9, .sl 1)], [some (.ro [.u8] (st.x 0)), some (.row 3 [.i64] (cover (st.x 2) (st.x 1).length (st.x 2).length))]⟩
def S7e (xa cs : List (List Int)) (i : Int) : St := ⟨T 215 [(9, .sl 1), (17, i64 i)], [some (.ro [.u8] xa), some (.row 3 [.i64] cs)]⟩
noncomputable def L7e : LoopS := fun n0 st K => (n0 = 1 ∧ st = S7e (st.x 0) (st.x 1) (st.i 17) ∧ st.x 1 = ones (st.x 1).length ∧ (st.x 1).length ≤ 1000 ∧ st.i 17 = 0) ∧ K (.exit 8) ⟨T 215 [], [some (.ro [.u8] (st.x 0))]⟩
noncomputable def N7 : Know := ⟨Γ8, fun f i => if f = 7 then (if i = 0 then some (L6 215) else if i = 1 then some L7b else if i = 2 then some L7c else if i = 3 then some L7d else if i = 4 then some L7e else none) else none, fun _ => none⟩
theorem r7e (N : Know) (xa cs : List (List Int)) (i : Int) (k : Out → St → Prop) : (round (envOf Try.prog N 0) 7 1 4 (lp Try.prog 7 4) (S7e xa cs i) k) = (br (decide (i < (↑cs.length : Int)))
  (((0 : Int) ≤ i ∧ i < (↑cs.length : Int)) ∧
    ((0 : Int) ≤ i ∧ i < (↑cs.length : Int)) ∧
      br (rd cs i.toNat (0 : Nat) != (1 : Int))
        (k Out.ret
          (St.mk
            [none, none, none, none, some (IV.bool false), none, none, none, none, none, none, none, none, none, none,
              none, none, none, none, none, none, none, none, none, none, none, none, none, none, none, none, none,
              none, none, none, none, none, none, none, none, none, none, none, none, none, none, none, none, none,
              none, none, none, none, none, none, none, none, none, none, none, none, none, none, none, none, none,
              none, none, none, none, none, none, none, none, none, none, none, none, none, none, none, none, none,
              none, none, none, none, none, none, none, none, none, none, none, none, none, none, none, none, none,
              none, none, none, none, none, none, none, none, none, none, none, none, none, none, none, none, none,
              none, none, none, none, none, none, none, none, none, none, none, none, none, none, none, none, none,
              none, none, none, none, none, none, none, none, none, none, none, none, none, none, none, none, none,
              none, none, none, none, none, none, none, none, none, none, none, none, none, none, none, none, none,
              none, none, none, none, none, none, none, none, none, none, none, none, none, none, none, none, none,
              none, none, none, none, none, none, none, none, none, none, none, none, none, none, none, none, none,
              none, none, none, none, none, none, none, none, none, none, none, none, none]
            [some (Blk.ro [IntKind.u8] xa)]))
        (k Out.normal
          (St.mk
            [none, none, none, none, none, none, none, none, none, some (IV.sl (1 : Nat)), none, none, none, none, none,
              none, none, some (IV.int IntKind.i64 (IntKind.i64.wrap (i + (1 : Int)))), none, none, none, none, none,
              none, none, none, none, none, none, none, none, none, none, none, none, none, none, none, none, none,
              none, none, none, none, none, none, none, none, none, none, none, none, none, none, none, none, none,
              none, none, none, none, none, none, none, none, none, none, none, none, none, none, none, none, none,
              none, none, none, none, none, none, none, none, none, none, none, none, none, none, none, none, none,
              none, none, none, none, none, none, none, none, none, none, none, none, none, none, none, none, none,
              none, none, none, none, none, none, none, none, none, none, none, none, none, none, none, none, none,
              none, none, none, none, none, none, none, none, none, none, none, none, none, none, none, none, none,
              none, none, none, none, none, none, none, none, none, none, none, none, none, none, none, none, none,
              none, none, none, none, none, none, none, none, none, none, none, none, none, none, none, none, none,
              none, none, none, none, none, none, none, none, none, none, none, none, none, none, none, none, none,
              none, none, none, none, none, none, none, none, none, none, none, none, none, none, none, none, none,
              none, none, none, none, none]
            [some (Blk.ro [IntKind.u8] xa), some (Blk.row (3 : Nat) [IntKind.i64] cs)])))
  (k (Out.exit (8 : Nat))
    (St.mk
      [none, none, none, none, none, none, none, none, none, none, none, none, none, none, none, none, none, none, none,
        none, none, none, none, none, none, none, none, none, none, none, none, none, none, none, none, none, none,
        none, none, none, none, none, none, none, none, none, none, none, none, none, none, none, none, none, none,
        none, none, none, none, none, none, none, none, none, none, none, none, none, none, none, none, none, none,
        none, none, none, none, none, none, none, none, none, none, none, none, none, none, none, none, none, none,
        none, none, none, none, none, none, none, none, none, none, none, none, none, none, none, none, none, none,
        none, none, none, none, none, none, none, none, none, none, none, none, none, none, none, none, none, none,
        none, none, none, none, none, none, none, none, none, none, none, none, none, none, none, none, none, none,
        none, none, none, none, none, none, none, none, none, none, none, none, none, none, none, none, none, none,
        none, none, none, none, none, none, none, none, none, none, none, none, none, none, none, none, none, none,
        none, none, none, none, none, none, none, none, none, none, none, none, none, none, none, none, none, none,
        none, none, none, none, none, none, none, none, none, none, none, none, none, none, none, none]
      [some (Blk.ro [IntKind.u8] xa)]))) := by kernel_rfl
theorem r7b (xa ls ts cs : List (List Int)) (i : Int) (k : Out → St → Prop) : (round (envOf Try.prog N7 0) 7 1 1 (lp Try.prog 7 1) (S7b xa ls ts cs i) k) = (br (decide (i < (↑ts.length : Int)))
  (((0 : Int) ≤ i ∧ i < (↑ts.length : Int)) ∧
    ((0 : Int) ≤ i ∧ i < (↑ts.length : Int)) ∧
      br (decide (rd ts i.toNat (2 : Nat) < (0 : Int)))
        (k Out.ret
          (St.mk
            [none, none, none, none, some (IV.bool false), none, none, none, none, none, none, none, none, none, none,
              none, none, none, none, none, none, none, none, none, none, none, none, none, none, none, none, none,
              none, none, none, none, none, none, none, none, none, none, none, none, none, none, none, none, none,
              none, none, none, none, none, none, none, none, none, none, none, none, none, none, none, none, none,
              none, none, none, none, none, none, none, none, none, none, none, none, none, none, none, none, none,
              none, none, none, none, none, none, none, none, none, none, none, none, none, none, none, none, none,
              none, none, none, none, none, none, none, none, none, none, none, none, none, none, none, none, none,
              none, none, none, none, none, none, none, none, none, none, none, none, none, none, none, none, none,
              none, none, none, none, none, none, none, none, none, none, none, none, none, none, none, none, none,
              none, none, none, none, none, none, none, none, none, none, none, none, none, none, none, none, none,
              none, none, none, none, none, none, none, none, none, none, none, none, none, none, none, none, none,
              none, none, none, none, none, none, none, none, none, none, none, none, none, none, none, none, none,
              none, none, none, none, none, none, none, none, none, none, none, none, none]
            [some (Blk.ro [IntKind.u8] xa)]))
        (br (decide (rd ts i.toNat (3 : Nat) > (↑ls.length : Int)))
          (k Out.ret
            (St.mk
              [none, none, none, none, some (IV.bool false), none, none, none, none, none, none, none, none, none, none,
                none, none, none, none, none, none, none, none, none, none, none, none, none, none, none, none, none,
                none, none, none, none, none, none, none, none, none, none, none, none, none, none, none, none, none,
                none, none, none, none, none, none, none, none, none, none, none, none, none, none, none, none, none,
                none, none, none, none, none, none, none, none, none, none, none, none, none, none, none, none, none,
                none, none, none, none, none, none, none, none, none, none, none, none, none, none, none, none, none,
                none, none, none, none, none, none, none, none, none, none, none, none, none, none, none, none, none,
                none, none, none, none, none, none, none, none, none, none, none, none, none, none, none, none, none,
                none, none, none, none, none, none, none, none, none, none, none, none, none, none, none, none, none,
                none, none, none, none, none, none, none, none, none, none, none, none, none, none, none, none, none,
                none, none, none, none, none, none, none, none, none, none, none, none, none, none, none, none, none,
                none, none, none, none, none, none, none, none, none, none, none, none, none, none, none, none, none,
                none, none, none, none, none, none, none, none, none, none, none, none, none]
              [some (Blk.ro [IntKind.u8] xa)]))
          (br (decide (rd ts i.toNat (2 : Nat) ≥ rd ts i.toNat (3 : Nat)))
            (k Out.ret
              (St.mk
                [none, none, none, none, some (IV.bool false), none, none, none, none, none, none, none, none, none,
                  none, none, none, none, none, none, none, none, none, none, none, none, none, none, none, none, none,
                  none, none, none, none, none, none, none, none, none, none, none, none, none, none, none, none, none,
                  none, none, none, none, none, none, none, none, none, none, none, none, none, none, none, none, none,
                  none, none, none, none, none, none, none, none, none, none, none, none, none, none, none, none, none,
                  none, none, none, none, none, none, none, none, none, none, none, none, none, none, none, none, none,
                  none, none, none, none, none, none, none, none, none, none, none, none, none, none, none, none, none,
                  none, none, none, none, none, none, none, none, none, none, none, none, none, none, none, none, none,
                  none, none, none, none, none, none, none, none, none, none, none, none, none, none, none, none, none,
                  none, none, none, none, none, none, none, none, none, none, none, none, none, none, none, none, none,
                  none, none, none, none, none, none, none, none, none, none, none, none, none, none, none, none, none,
                  none, none, none, none, none, none, none, none, none, none, none, none, none, none, none, none, none,
                  none, none, none, none, none, none, none, none, none, none, none, none, none, none]
                [some (Blk.ro [IntKind.u8] xa)]))
            (br (decide (rd ts i.toNat (0 : Nat) < (0 : Int)))
              (k Out.ret
                (St.mk
                  [none, none, none, none, some (IV.bool false), none, none, none, none, none, none, none, none, none,
                    none, none, none, none, none, none, none, none, none, none, none, none, none, none, none, none,
                    none, none, none, none, none, none, none, none, none, none, none, none, none, none, none, none,
                    none, none, none, none, none, none, none, none, none, none, none, none, none, none, none, none,
                    none, none, none, none, none, none, none, none, none, none, none, none, none, none, none, none,
                    none, none, none, none, none, none, none, none, none, none, none, none, none, none, none, none,
                    none, none, none, none, none, none, none, none, none, none, none, none, none, none, none, none,
                    none, none, none, none, none, none, none, none, none, none, none, none, none, none, none, none,
                    none, none, none, none, none, none, none, none, none, none, none, none, none, none, none, none,
                    none, none, none, none, none, none, none, none, none, none, none, none, none, none, none, none,
                    none, none, none, none, none, none, none, none, none, none, none, none, none, none, none, none,
                    none, none, none, none, none, none, none, none, none, none, none, none, none, none, none, none,
                    none, none, none, none, none, none, none, none, none, none, none, none, none, none, none, none,
                    none, none, none, none, none, none, none, none, none]
                  [some (Blk.ro [IntKind.u8] xa)]))
              (br (decide (rd ts i.toNat (0 : Nat) > (32 : Int)))
                (k Out.ret
                  (St.mk
                    [none, none, none, none, some (IV.bool false), none, none, none, none, none, none, none, none, none,
                      none, none, none, none, none, none, none, none, none, none, none, none, none, none, none, none,
                      none, none, none, none, none, none, none, none, none, none, none, none, none, none, none, none,
                      none, none, none, none, none, none, none, none, none, none, none, none, none, none, none, none,
                      none, none, none, none, none, none, none, none, none, none, none, none, none, none, none, none,
                      none, none, none, none, none, none, none, none, none, none, none, none, none, none, none, none,
                      none, none, none, none, none, none, none, none, none, none, none, none, none, none, none, none,
                      none, none, none, none, none, none, none, none, none, none, none, none, none, none, none, none,
                      none, none, none, none, none, none, none, none, none, none, none, none, none, none, none, none,
                      none, none, none, none, none, none, none, none, none, none, none, none, none, none, none, none,
                      none, none, none, none, none, none, none, none, none, none, none, none, none, none, none, none,
                      none, none, none, none, none, none, none, none, none, none, none, none, none, none, none, none,
                      none, none, none, none, none, none, none, none, none, none, none, none, none, none, none, none,
                      none, none, none, none, none, none, none, none, none]
                    [some (Blk.ro [IntKind.u8] xa)]))
                (((1 : Nat) = (1 : Nat) ∧
                    St.mk
                          [none, none, none, none, none, some (IV.sl (1 : Nat)), none, none, some (IV.sl (2 : Nat)),
                            some (IV.sl (3 : Nat)), some (IV.int IntKind.i64 i), some (IV.ptr (4 : Nat) (0 : Nat)),
                            some (IV.int IntKind.i64 (rd ts i.toNat (2 : Nat))), some (IV.int IntKind.i64 (0 : Int)),
                            some (IV.int IntKind.i64 (0 : Int)), none, none, none, none, none, none, none, none, none,
                            none, none, none, none, none, none, none, none, none, none, none, none, none, none, none,
                            none, none, none, none, none, none, none, none, none, none, none, none, none, none, none,
                            none, none, none, none, none, none, none, none, none, none, none, none, none, none, none,
                            none, none, none, none, none, none, none, none, none, none, none, none, none, none, none,
                            none, none, none, none, none, none, none, none, none, none, none, none, none, none, none,
                            none, none, none, none, none, none, none, none, none, none, none, none, none, none, none,
                            none, none, none, none, none, none, none, none, none, none, none, none, none, none, none,
                            none, none, none, none, none, none, none, none, none, none, none, none, none, none, none,
                            none, none, none, none, none, none, none, none, none, none, none, none, none, none, none,
                            none, none, none, none, none, none, none, none, none, none, none, none, none, none, none,
                            none, none, none, none, none, none, none, none, none, none, none, none, none, none, none,
                            none, none, none, none, none, none, none, none, none, none, none, none, none, none, none,
                            none, none, none, none, none, none, none, none, none, none, none]
                          [some (Blk.ro [IntKind.u8] xa), some (Blk.row (32 : Nat) [IntKind.u64, IntKind.i64] ls),
                            some
                              (Blk.row (41 : Nat)
                                [IntKind.i64, IntKind.u64, IntKind.i64, IntKind.i64, IntKind.i64, IntKind.i64,
                                  IntKind.i64, IntKind.i64]
                                ts),
                            some (Blk.row (3 : Nat) [IntKind.i64] cs),
                            some
                              (Blk.var (41 : Nat)
                                [IV.int IntKind.i64 (rd ts i.toNat (0 : Nat)),
                                  IV.int IntKind.u64 (rd ts i.toNat (1 : Nat)),
                                  IV.int IntKind.i64 (rd ts i.toNat (2 : Nat)),
                                  IV.int IntKind.i64 (rd ts i.toNat (3 : Nat)),
                                  IV.int IntKind.i64 (rd ts i.toNat (4 : Nat)),
                                  IV.int IntKind.i64 (rd ts i.toNat (5 : Nat)),
                                  IV.int IntKind.i64 (rd ts i.toNat (6 : Nat)),
                                  IV.int IntKind.i64 (rd ts i.toNat (7 : Nat))])] =
                        St.mk
                          [none, none, none, none, none, some (IV.sl (1 : Nat)), none, none, some (IV.sl (2 : Nat)),
                            some (IV.sl (3 : Nat)), some (IV.int IntKind.i64 i), some (IV.ptr (4 : Nat) (0 : Nat)),
                            some (IV.int IntKind.i64 (rd ts i.toNat (2 : Nat))), some (IV.int IntKind.i64 (0 : Int)),
                            some (IV.int IntKind.i64 (0 : Int)), none, none, none, none, none, none, none, none, none,
                            none, none, none, none, none, none, none, none, none, none, none, none, none, none, none,
                            none, none, none, none, none, none, none, none, none, none, none, none, none, none, none,
                            none, none, none, none, none, none, none, none, none, none, none, none, none, none, none,
                            none, none, none, none, none, none, none, none, none, none, none, none, none, none, none,
                            none, none, none, none, none, none, none, none, none, none, none, none, none, none, none,
                            none, none, none, none, none, none, none, none, none, none, none, none, none, none, none,
                            none, none, none, none, none, none, none, none, none, none, none, none, none, none, none,
                            none, none, none, none, none, none, none, none, none, none, none, none, none, none, none,
                            none, none, none, none, none, none, none, none, none, none, none, none, none, none, none,
                            none, none, none, none, none, none, none, none, none, none, none, none, none, none, none,
                            none, none, none, none, none, none, none, none, none, none, none, none, none, none, none,
                            none, none, none, none, none, none, none, none, none, none, none, none, none, none, none,
                            none, none, none, none, none, none, none, none, none, none, none]
                          [some (Blk.ro [IntKind.u8] xa), some (Blk.row (32 : Nat) [IntKind.u64, IntKind.i64] ls),
                            some
                              (Blk.row (41 : Nat)
                                [IntKind.i64, IntKind.u64, IntKind.i64, IntKind.i64, IntKind.i64, IntKind.i64,
                                  IntKind.i64, IntKind.i64]
                                ts),
                            some (Blk.row (3 : Nat) [IntKind.i64] cs),
                            some
                              (Blk.var (41 : Nat)
                                [IV.int IntKind.i64 (rd ts i.toNat (0 : Nat)),
                                  IV.int IntKind.u64 (rd ts i.toNat (1 : Nat)),
                                  IV.int IntKind.i64 (rd ts i.toNat (2 : Nat)),
                                  IV.int IntKind.i64 (rd ts i.toNat (3 : Nat)),
                                  IV.int IntKind.i64 (rd ts i.toNat (4 : Nat)),
                                  IV.int IntKind.i64 (rd ts i.toNat (5 : Nat)),
                                  IV.int IntKind.i64 (rd ts i.toNat (6 : Nat)),
                                  IV.int IntKind.i64 (rd ts i.toNat (7 : Nat))])] ∧
                      pre7c ls ts (rd ts i.toNat (0 : Nat)) (rd ts i.toNat (1 : Nat)) (rd ts i.toNat (2 : Nat))
                        (rd ts i.toNat (3 : Nat)) (rd ts i.toNat (4 : Nat)) (rd ts i.toNat (5 : Nat))
                        (rd ts i.toNat (6 : Nat)) (rd ts i.toNat (7 : Nat)) i (rd ts i.toNat (2 : Nat)) (0 : Int)
                        (0 : Int)) ∧
                  br (wKids ts i.toNat (4 : Nat) == (0 : Int))
                    (br (decide (IntKind.i64.wrap (rd ts i.toNat (3 : Nat) - rd ts i.toNat (2 : Nat)) > (4 : Int)))
                      (br (decide (rd ts i.toNat (0 : Nat) < (32 : Int)))
                        (k Out.ret
                          (St.mk
                            [none, none, none, none, some (IV.bool false), none, none, none, none, none, none, none,
                              none, none, none, none, none, none, none, none, none, none, none, none, none, none, none,
                              none, none, none, none, none, none, none, none, none, none, none, none, none, none, none,
                              none, none, none, none, none, none, none, none, none, none, none, none, none, none, none,
                              none, none, none, none, none, none, none, none, none, none, none, none, none, none, none,
                              none, none, none, none, none, none, none, none, none, none, none, none, none, none, none,
                              none, none, none, none, none, none, none, none, none, none, none, none, none, none, none,
                              none, none, none, none, none, none, none, none, none, none, none, none, none, none, none,
                              none, none, none, none, none, none, none, none, none, none, none, none, none, none, none,
                              none, none, none, none, none, none, none, none, none, none, none, none, none, none, none,
                              none, none, none, none, none, none, none, none, none, none, none, none, none, none, none,
                              none, none, none, none, none, none, none, none, none, none, none, none, none, none, none,
                              none, none, none, none, none, none, none, none, none, none, none, none, none, none, none,
                              none, none, none, none, none, none, none, none, none, none, none, none, none, none, none,
                              none, none, none, none, none, none, none, none]
                            [some (Blk.ro [IntKind.u8] xa)]))
                        (((1 : Nat) = (1 : Nat) ∧
                            St.mk
                                  [none, none, none, none, none, some (IV.sl (1 : Nat)), none, none,
                                    some (IV.sl (2 : Nat)), some (IV.sl (3 : Nat)), some (IV.int IntKind.i64 i),
                                    some (IV.ptr (4 : Nat) (0 : Nat)), none, none, none, none,
                                    some (IV.int IntKind.i64 (rd ts i.toNat (2 : Nat))), none, none, none, none, none,
                                    none, none, none, none, none, none, none, none, none, none, none, none, none, none,
                                    none, none, none, none, none, none, none, none, none, none, none, none, none, none,
                                    none, none, none, none, none, none, none, none, none, none, none, none, none, none,
                                    none, none, none, none, none, none, none, none, none, none, none, none, none, none,
                                    none, none, none, none, none, none, none, none, none, none, none, none, none, none,
                                    none, none, none, none, none, none, none, none, none, none, none, none, none, none,
                                    none, none, none, none, none, none, none, none, none, none, none, none, none, none,
                                    none, none, none, none, none, none, none, none, none, none, none, none, none, none,
                                    none, none, none, none, none, none, none, none, none, none, none, none, none, none,
                                    none, none, none, none, none, none, none, none, none, none, none, none, none, none,
                                    none, none, none, none, none, none, none, none, none, none, none, none, none, none,
                                    none, none, none, none, none, none, none, none, none, none, none, none, none, none,
                                    none, none, none, none, none, none, none, none, none, none, none, none, none, none,
                                    none, none, none, none, none, none, none, none, none, none, none]
                                  [some (Blk.ro [IntKind.u8] xa),
                                    some (Blk.row (32 : Nat) [IntKind.u64, IntKind.i64] ls),
                                    some
                                      (Blk.row (41 : Nat)
                                        [IntKind.i64, IntKind.u64, IntKind.i64, IntKind.i64, IntKind.i64, IntKind.i64,
                                          IntKind.i64, IntKind.i64]
                                        ts),
                                    some (Blk.row (3 : Nat) [IntKind.i64] cs),
                                    some
                                      (Blk.var (41 : Nat)
                                        [IV.int IntKind.i64 (rd ts i.toNat (0 : Nat)),
                                          IV.int IntKind.u64 (rd ts i.toNat (1 : Nat)),
                                          IV.int IntKind.i64 (rd ts i.toNat (2 : Nat)),
                                          IV.int IntKind.i64 (rd ts i.toNat (3 : Nat)),
                                          IV.int IntKind.i64 (rd ts i.toNat (4 : Nat)),
                                          IV.int IntKind.i64 (rd ts i.toNat (5 : Nat)),
                                          IV.int IntKind.i64 (rd ts i.toNat (6 : Nat)),
                                          IV.int IntKind.i64 (rd ts i.toNat (7 : Nat))])] =
                                St.mk
                                  [none, none, none, none, none, some (IV.sl (1 : Nat)), none, none,
                                    some (IV.sl (2 : Nat)), some (IV.sl (3 : Nat)), some (IV.int IntKind.i64 i),
                                    some (IV.ptr (4 : Nat) (0 : Nat)), none, none, none, none,
                                    some (IV.int IntKind.i64 (rd ts i.toNat (2 : Nat))), none, none, none, none, none,
                                    none, none, none, none, none, none, none, none, none, none, none, none, none, none,
                                    none, none, none, none, none, none, none, none, none, none, none, none, none, none,
                                    none, none, none, none, none, none, none, none, none, none, none, none, none, none,
                                    none, none, none, none, none, none, none, none, none, none, none, none, none, none,
                                    none, none, none, none, none, none, none, none, none, none, none, none, none, none,
                                    none, none, none, none, none, none, none, none, none, none, none, none, none, none,
                                    none, none, none, none, none, none, none, none, none, none, none, none, none, none,
                                    none, none, none, none, none, none, none, none, none, none, none, none, none, none,
                                    none, none, none, none, none, none, none, none, none, none, none, none, none, none,
                                    none, none, none, none, none, none, none, none, none, none, none, none, none, none,
                                    none, none, none, none, none, none, none, none, none, none, none, none, none, none,
                                    none, none, none, none, none, none, none, none, none, none, none, none, none, none,
                                    none, none, none, none, none, none, none, none, none, none, none, none, none, none,
                                    none, none, none, none, none, none, none, none, none, none, none]
                                  [some (Blk.ro [IntKind.u8] xa),
                                    some (Blk.row (32 : Nat) [IntKind.u64, IntKind.i64] ls),
                                    some
                                      (Blk.row (41 : Nat)
                                        [IntKind.i64, IntKind.u64, IntKind.i64, IntKind.i64, IntKind.i64, IntKind.i64,
                                          IntKind.i64, IntKind.i64]
                                        ts),
                                    some (Blk.row (3 : Nat) [IntKind.i64] cs),
                                    some
                                      (Blk.var (41 : Nat)
                                        [IV.int IntKind.i64 (rd ts i.toNat (0 : Nat)),
                                          IV.int IntKind.u64 (rd ts i.toNat (1 : Nat)),
                                          IV.int IntKind.i64 (rd ts i.toNat (2 : Nat)),
                                          IV.int IntKind.i64 (rd ts i.toNat (3 : Nat)),
                                          IV.int IntKind.i64 (rd ts i.toNat (4 : Nat)),
                                          IV.int IntKind.i64 (rd ts i.toNat (5 : Nat)),
                                          IV.int IntKind.i64 (rd ts i.toNat (6 : Nat)),
                                          IV.int IntKind.i64 (rd ts i.toNat (7 : Nat))])] ∧
                              pre7d cs (rd ts i.toNat (2 : Nat)) (rd ts i.toNat (3 : Nat)) (rd ts i.toNat (2 : Nat))) ∧
                          k Out.normal
                            (St.mk
                              [none, none, none, none, none, some (IV.sl (1 : Nat)), none, none, some (IV.sl (2 : Nat)),
                                some (IV.sl (3 : Nat)), some (IV.int IntKind.i64 (IntKind.i64.wrap (i + (1 : Int)))),
                                none, none, none, none, none, none, none, none, none, none, none, none, none, none,
                                none, none, none, none, none, none, none, none, none, none, none, none, none, none,
                                none, none, none, none, none, none, none, none, none, none, none, none, none, none,
                                none, none, none, none, none, none, none, none, none, none, none, none, none, none,
                                none, none, none, none, none, none, none, none, none, none, none, none, none, none,
                                none, none, none, none, none, none, none, none, none, none, none, none, none, none,
                                none, none, none, none, none, none, none, none, none, none, none, none, none, none,
                                none, none, none, none, none, none, none, none, none, none, none, none, none, none,
                                none, none, none, none, none, none, none, none, none, none, none, none, none, none,
                                none, none, none, none, none, none, none, none, none, none, none, none, none, none,
                                none, none, none, none, none, none, none, none, none, none, none, none, none, none,
                                none, none, none, none, none, none, none, none, none, none, none, none, none, none,
                                none, none, none, none, none, none, none, none, none, none, none, none, none, none,
                                none, none, none, none, none, none, none, none, none, none, none, none, none, none,
                                none, none, none, none, none, none, none, none]
                              [some (Blk.ro [IntKind.u8] xa), some (Blk.row (32 : Nat) [IntKind.u64, IntKind.i64] ls),
                                some
                                  (Blk.row (41 : Nat)
                                    [IntKind.i64, IntKind.u64, IntKind.i64, IntKind.i64, IntKind.i64, IntKind.i64,
                                      IntKind.i64, IntKind.i64]
                                    ts),
                                some
                                  (Blk.row (3 : Nat) [IntKind.i64]
                                    (bump cs (rd ts i.toNat (2 : Nat)).toNat (rd ts i.toNat (3 : Nat)).toNat))])))
                      (((1 : Nat) = (1 : Nat) ∧
                          St.mk
                                [none, none, none, none, none, some (IV.sl (1 : Nat)), none, none,
                                  some (IV.sl (2 : Nat)), some (IV.sl (3 : Nat)), some (IV.int IntKind.i64 i),
                                  some (IV.ptr (4 : Nat) (0 : Nat)), none, none, none, none,
                                  some (IV.int IntKind.i64 (rd ts i.toNat (2 : Nat))), none, none, none, none, none,
                                  none, none, none, none, none, none, none, none, none, none, none, none, none, none,
                                  none, none, none, none, none, none, none, none, none, none, none, none, none, none,
                                  none, none, none, none, none, none, none, none, none, none, none, none, none, none,
                                  none, none, none, none, none, none, none, none, none, none, none, none, none, none,
                                  none, none, none, none, none, none, none, none, none, none, none, none, none, none,
                                  none, none, none, none, none, none, none, none, none, none, none, none, none, none,
                                  none, none, none, none, none, none, none, none, none, none, none, none, none, none,
                                  none, none, none, none, none, none, none, none, none, none, none, none, none, none,
                                  none, none, none, none, none, none, none, none, none, none, none, none, none, none,
                                  none, none, none, none, none, none, none, none, none, none, none, none, none, none,
                                  none, none, none, none, none, none, none, none, none, none, none, none, none, none,
                                  none, none, none, none, none, none, none, none, none, none, none, none, none, none,
                                  none, none, none, none, none, none, none, none, none, none, none, none, none, none,
                                  none, none, none, none, none, none, none, none, none, none, none]
                                [some (Blk.ro [IntKind.u8] xa), some (Blk.row (32 : Nat) [IntKind.u64, IntKind.i64] ls),
                                  some
                                    (Blk.row (41 : Nat)
                                      [IntKind.i64, IntKind.u64, IntKind.i64, IntKind.i64, IntKind.i64, IntKind.i64,
                                        IntKind.i64, IntKind.i64]
                                      ts),
                                  some (Blk.row (3 : Nat) [IntKind.i64] cs),
                                  some
                                    (Blk.var (41 : Nat)
                                      [IV.int IntKind.i64 (rd ts i.toNat (0 : Nat)),
                                        IV.int IntKind.u64 (rd ts i.toNat (1 : Nat)),
                                        IV.int IntKind.i64 (rd ts i.toNat (2 : Nat)),
                                        IV.int IntKind.i64 (rd ts i.toNat (3 : Nat)),
                                        IV.int IntKind.i64 (rd ts i.toNat (4 : Nat)),
                                        IV.int IntKind.i64 (rd ts i.toNat (5 : Nat)),
                                        IV.int IntKind.i64 (rd ts i.toNat (6 : Nat)),
                                        IV.int IntKind.i64 (rd ts i.toNat (7 : Nat))])] =
                              St.mk
                                [none, none, none, none, none, some (IV.sl (1 : Nat)), none, none,
                                  some (IV.sl (2 : Nat)), some (IV.sl (3 : Nat)), some (IV.int IntKind.i64 i),
                                  some (IV.ptr (4 : Nat) (0 : Nat)), none, none, none, none,
                                  some (IV.int IntKind.i64 (rd ts i.toNat (2 : Nat))), none, none, none, none, none,
                                  none, none, none, none, none, none, none, none, none, none, none, none, none, none,
                                  none, none, none, none, none, none, none, none, none, none, none, none, none, none,
                                  none, none, none, none, none, none, none, none, none, none, none, none, none, none,
                                  none, none, none, none, none, none, none, none, none, none, none, none, none, none,
                                  none, none, none, none, none, none, none, none, none, none, none, none, none, none,
                                  none, none, none, none, none, none, none, none, none, none, none, none, none, none,
                                  none, none, none, none, none, none, none, none, none, none, none, none, none, none,
                                  none, none, none, none, none, none, none, none, none, none, none, none, none, none,
                                  none, none, none, none, none, none, none, none, none, none, none, none, none, none,
                                  none, none, none, none, none, none, none, none, none, none, none, none, none, none,
                                  none, none, none, none, none, none, none, none, none, none, none, none, none, none,
                                  none, none, none, none, none, none, none, none, none, none, none, none, none, none,
                                  none, none, none, none, none, none, none, none, none, none, none, none, none, none,
                                  none, none, none, none, none, none, none, none, none, none, none]
                                [some (Blk.ro [IntKind.u8] xa), some (Blk.row (32 : Nat) [IntKind.u64, IntKind.i64] ls),
                                  some
                                    (Blk.row (41 : Nat)
                                      [IntKind.i64, IntKind.u64, IntKind.i64, IntKind.i64, IntKind.i64, IntKind.i64,
                                        IntKind.i64, IntKind.i64]
                                      ts),
                                  some (Blk.row (3 : Nat) [IntKind.i64] cs),
                                  some
                                    (Blk.var (41 : Nat)
                                      [IV.int IntKind.i64 (rd ts i.toNat (0 : Nat)),
                                        IV.int IntKind.u64 (rd ts i.toNat (1 : Nat)),
                                        IV.int IntKind.i64 (rd ts i.toNat (2 : Nat)),
                                        IV.int IntKind.i64 (rd ts i.toNat (3 : Nat)),
                                        IV.int IntKind.i64 (rd ts i.toNat (4 : Nat)),
                                        IV.int IntKind.i64 (rd ts i.toNat (5 : Nat)),
                                        IV.int IntKind.i64 (rd ts i.toNat (6 : Nat)),
                                        IV.int IntKind.i64 (rd ts i.toNat (7 : Nat))])] ∧
                            pre7d cs (rd ts i.toNat (2 : Nat)) (rd ts i.toNat (3 : Nat)) (rd ts i.toNat (2 : Nat))) ∧
                        k Out.normal
                          (St.mk
                            [none, none, none, none, none, some (IV.sl (1 : Nat)), none, none, some (IV.sl (2 : Nat)),
                              some (IV.sl (3 : Nat)), some (IV.int IntKind.i64 (IntKind.i64.wrap (i + (1 : Int)))),
                              none, none, none, none, none, none, none, none, none, none, none, none, none, none, none,
                              none, none, none, none, none, none, none, none, none, none, none, none, none, none, none,
                              none, none, none, none, none, none, none, none, none, none, none, none, none, none, none,
                              none, none, none, none, none, none, none, none, none, none, none, none, none, none, none,
                              none, none, none, none, none, none, none, none, none, none, none, none, none, none, none,
                              none, none, none, none, none, none, none, none, none, none, none, none, none, none, none,
                              none, none, none, none, none, none, none, none, none, none, none, none, none, none, none,
                              none, none, none, none, none, none, none, none, none, none, none, none, none, none, none,
                              none, none, none, none, none, none, none, none, none, none, none, none, none, none, none,
                              none, none, none, none, none, none, none, none, none, none, none, none, none, none, none,
                              none, none, none, none, none, none, none, none, none, none, none, none, none, none, none,
                              none, none, none, none, none, none, none, none, none, none, none, none, none, none, none,
                              none, none, none, none, none, none, none, none, none, none, none, none, none, none, none,
                              none, none, none, none, none, none, none, none, none]
                            [some (Blk.ro [IntKind.u8] xa), some (Blk.row (32 : Nat) [IntKind.u64, IntKind.i64] ls),
                              some
                                (Blk.row (41 : Nat)
                                  [IntKind.i64, IntKind.u64, IntKind.i64, IntKind.i64, IntKind.i64, IntKind.i64,
                                    IntKind.i64, IntKind.i64]
                                  ts),
                              some
                                (Blk.row (3 : Nat) [IntKind.i64]
                                  (bump cs (rd ts i.toNat (2 : Nat)).toNat (rd ts i.toNat (3 : Nat)).toNat))])))
                    (br (wFrom ts i.toNat (4 : Nat) != rd ts i.toNat (3 : Nat))
                      (k Out.ret
                        (St.mk
                          [none, none, none, none, some (IV.bool false), none, none, none, none, none, none, none, none,
                            none, none, none, none, none, none, none, none, none, none, none, none, none, none, none,
                            none, none, none, none, none, none, none, none, none, none, none, none, none, none, none,
                            none, none, none, none, none, none, none, none, none, none, none, none, none, none, none,
                            none, none, none, none, none, none, none, none, none, none, none, none, none, none, none,
                            none, none, none, none, none, none, none, none, none, none, none, none, none, none, none,
                            none, none, none, none, none, none, none, none, none, none, none, none, none, none, none,
                            none, none, none, none, none, none, none, none, none, none, none, none, none, none, none,
                            none, none, none, none, none, none, none, none, none, none, none, none, none, none, none,
                            none, none, none, none, none, none, none, none, none, none, none, none, none, none, none,
                            none, none, none, none, none, none, none, none, none, none, none, none, none, none, none,
                            none, none, none, none, none, none, none, none, none, none, none, none, none, none, none,
                            none, none, none, none, none, none, none, none, none, none, none, none, none, none, none,
                            none, none, none, none, none, none, none, none, none, none, none, none, none, none, none,
                            none, none, none, none, none, none, none]
                          [some (Blk.ro [IntKind.u8] xa)]))
                      (br (decide (IntKind.i64.wrap (rd ts i.toNat (3 : Nat) - rd ts i.toNat (2 : Nat)) ≤ (4 : Int)))
                        (k Out.ret
                          (St.mk
                            [none, none, none, none, some (IV.bool false), none, none, none, none, none, none, none,
                              none, none, none, none, none, none, none, none, none, none, none, none, none, none, none,
                              none, none, none, none, none, none, none, none, none, none, none, none, none, none, none,
                              none, none, none, none, none, none, none, none, none, none, none, none, none, none, none,
                              none, none, none, none, none, none, none, none, none, none, none, none, none, none, none,
                              none, none, none, none, none, none, none, none, none, none, none, none, none, none, none,
                              none, none, none, none, none, none, none, none, none, none, none, none, none, none, none,
                              none, none, none, none, none, none, none, none, none, none, none, none, none, none, none,
                              none, none, none, none, none, none, none, none, none, none, none, none, none, none, none,
                              none, none, none, none, none, none, none, none, none, none, none, none, none, none, none,
                              none, none, none, none, none, none, none, none, none, none, none, none, none, none, none,
                              none, none, none, none, none, none, none, none, none, none, none, none, none, none, none,
                              none, none, none, none, none, none, none, none, none, none, none, none, none, none, none,
                              none, none, none, none, none, none, none, none, none, none, none, none, none, none, none,
                              none, none, none, none, none, none, none, none]
                            [some (Blk.ro [IntKind.u8] xa)]))
                        (k Out.normal
                          (St.mk
                            [none, none, none, none, none, some (IV.sl (1 : Nat)), none, none, some (IV.sl (2 : Nat)),
                              some (IV.sl (3 : Nat)), some (IV.int IntKind.i64 (IntKind.i64.wrap (i + (1 : Int)))),
                              none, none, none, none, none, none, none, none, none, none, none, none, none, none, none,
                              none, none, none, none, none, none, none, none, none, none, none, none, none, none, none,
                              none, none, none, none, none, none, none, none, none, none, none, none, none, none, none,
                              none, none, none, none, none, none, none, none, none, none, none, none, none, none, none,
                              none, none, none, none, none, none, none, none, none, none, none, none, none, none, none,
                              none, none, none, none, none, none, none, none, none, none, none, none, none, none, none,
                              none, none, none, none, none, none, none, none, none, none, none, none, none, none, none,
                              none, none, none, none, none, none, none, none, none, none, none, none, none, none, none,
                              none, none, none, none, none, none, none, none, none, none, none, none, none, none, none,
                              none, none, none, none, none, none, none, none, none, none, none, none, none, none, none,
                              none, none, none, none, none, none, none, none, none, none, none, none, none, none, none,
                              none, none, none, none, none, none, none, none, none, none, none, none, none, none, none,
                              none, none, none, none, none, none, none, none, none, none, none, none, none, none, none,
                              none, none, none, none, none, none, none, none, none]
                            [some (Blk.ro [IntKind.u8] xa), some (Blk.row (32 : Nat) [IntKind.u64, IntKind.i64] ls),
                              some
                                (Blk.row (41 : Nat)
                                  [IntKind.i64, IntKind.u64, IntKind.i64, IntKind.i64, IntKind.i64, IntKind.i64,
                                    IntKind.i64, IntKind.i64]
                                  ts),
                              some (Blk.row (3 : Nat) [IntKind.i64] cs)]))))))))))
  (k (Out.exit (2 : Nat))
    (St.mk
      [none, none, none, none, none, none, none, none, none, some (IV.sl (1 : Nat)), none, none, none, none, none, none,
        none, none, none, none, none, none, none, none, none, none, none, none, none, none, none, none, none, none,
        none, none, none, none, none, none, none, none, none, none, none, none, none, none, none, none, none, none,
        none, none, none, none, none, none, none, none, none, none, none, none, none, none, none, none, none, none,
        none, none, none, none, none, none, none, none, none, none, none, none, none, none, none, none, none, none,
        none, none, none, none, none, none, none, none, none, none, none, none, none, none, none, none, none, none,
        none, none, none, none, none, none, none, none, none, none, none, none, none, none, none, none, none, none,
        none, none, none, none, none, none, none, none, none, none, none, none, none, none, none, none, none, none,
        none, none, none, none, none, none, none, none, none, none, none, none, none, none, none, none, none, none,
        none, none, none, none, none, none, none, none, none, none, none, none, none, none, none, none, none, none,
        none, none, none, none, none, none, none, none, none, none, none, none, none, none, none, none, none, none,
        none, none, none, none, none, none, none, none, none, none, none, none, none, none, none, none, none, none,
        none]
      [some (Blk.ro [IntKind.u8] xa), some (Blk.row (3 : Nat) [IntKind.i64] cs)]))) := by kernel_rfl
theorem v7 (xa : List (List Int)) (h : Int) (K : IV → List Blk → Prop) : (comes Try.prog N7 1 7 [.sl 0, .int .u64 h] [.ro [.u8] xa] K) = (preBytes [IV.sl (0 : Nat)] [Blk.ro [IntKind.u8] xa] ∧
  ((1 : Nat) = (1 : Nat) ∧
      St.mk
            [none, some (IV.int IntKind.u64 h), none, none, none, some (IV.sl (1 : Nat)),
              some (IV.int IntKind.i64 (0 : Int)), none, none, none, none, none, none, none, none, none, none, none,
              none, none, none, none, none, none, none, none, none, none, none, none, none, none, none, none, none,
              none, none, none, none, none, none, none, none, none, none, none, none, none, none, none, none, none,
              none, none, none, none, none, none, none, none, none, none, none, none, none, none, none, none, none,
              none, none, none, none, none, none, none, none, none, none, none, none, none, none, none, none, none,
              none, none, none, none, none, none, none, none, none, none, none, none, none, none, none, none, none,
              none, none, none, none, none, none, none, none, none, none, none, none, none, none, none, none, none,
              none, none, none, none, none, none, none, none, none, none, none, none, none, none, none, none, none,
              none, none, none, none, none, none, none, none, none, none, none, none, none, none, none, none, none,
              none, none, none, none, none, none, none, none, none, none, none, none, none, none, none, none, none,
              none, none, none, none, none, none, none, none, none, none, none, none, none, none, none, none, none,
              none, none, none, none, none, none, none, none, none, none, none, none, none, none, none, none, none,
              none, none, none, none, none, none, none, none, none, none]
            [some (Blk.ro [IntKind.u8] xa), some (Blk.row (32 : Nat) [IntKind.u64, IntKind.i64] (makeF xa))] =
          St.mk
            [none, some (IV.int IntKind.u64 h), none, none, none, some (IV.sl (1 : Nat)),
              some (IV.int IntKind.i64 (0 : Int)), none, none, none, none, none, none, none, none, none, none, none,
              none, none, none, none, none, none, none, none, none, none, none, none, none, none, none, none, none,
              none, none, none, none, none, none, none, none, none, none, none, none, none, none, none, none, none,
              none, none, none, none, none, none, none, none, none, none, none, none, none, none, none, none, none,
              none, none, none, none, none, none, none, none, none, none, none, none, none, none, none, none, none,
              none, none, none, none, none, none, none, none, none, none, none, none, none, none, none, none, none,
              none, none, none, none, none, none, none, none, none, none, none, none, none, none, none, none, none,
              none, none, none, none, none, none, none, none, none, none, none, none, none, none, none, none, none,
              none, none, none, none, none, none, none, none, none, none, none, none, none, none, none, none, none,
              none, none, none, none, none, none, none, none, none, none, none, none, none, none, none, none, none,
              none, none, none, none, none, none, none, none, none, none, none, none, none, none, none, none, none,
              none, none, none, none, none, none, none, none, none, none, none, none, none, none, none, none, none,
              none, none, none, none, none, none, none, none, none, none]
            [some (Blk.ro [IntKind.u8] xa), some (Blk.row (32 : Nat) [IntKind.u64, IntKind.i64] (makeF xa))] ∧
        (makeF xa).length ≤ (100 : Nat)) ∧
    preSort [IV.sl (0 : Nat)] [Blk.ro [IntKind.u64, IntKind.i64] (xorF h (makeF xa))] ∧
      preBuild [IV.sl (0 : Nat)] [Blk.ro [IntKind.u64, IntKind.i64] (sortF (xorF h (makeF xa)))] ∧
        br ((↑(xorF h (makeF xa)).length : Int) == (0 : Int))
          (br ((↑(buildF (sortF (xorF h (makeF xa)))).length : Int) == (0 : Int)) (preNone [] [] ∧ K (IV.bool true) [])
            (K (IV.bool false) []))
          (br ((↑(buildF (sortF (xorF h (makeF xa)))).length : Int) == (0 : Int)) (K (IV.bool false) [])
            (((0 : Int) ≤ (0 : Int) ∧ (0 : Int) < (↑(buildF (sortF (xorF h (makeF xa)))).length : Int)) ∧
              ((0 : Int) ≤ (0 : Int) ∧ (0 : Int) < (↑(buildF (sortF (xorF h (makeF xa)))).length : Int)) ∧
                br (rd (buildF (sortF (xorF h (makeF xa)))) (0 : Nat) (2 : Nat) != (0 : Int)) (K (IV.bool false) [])
                  (((0 : Int) ≤ (0 : Int) ∧ (0 : Int) < (↑(buildF (sortF (xorF h (makeF xa)))).length : Int)) ∧
                    ((0 : Int) ≤ (0 : Int) ∧ (0 : Int) < (↑(buildF (sortF (xorF h (makeF xa)))).length : Int)) ∧
                      br
                        (rd (buildF (sortF (xorF h (makeF xa)))) (0 : Nat) (3 : Nat) !=
                          (↑(xorF h (makeF xa)).length : Int))
                        (K (IV.bool false) [])
                        (((0 : Int) ≤ (0 : Int) ∧ (0 : Int) < (↑(buildF (sortF (xorF h (makeF xa)))).length : Int)) ∧
                          ((0 : Int) ≤ (0 : Int) ∧ (0 : Int) < (↑(buildF (sortF (xorF h (makeF xa)))).length : Int)) ∧
                            br (rd (buildF (sortF (xorF h (makeF xa)))) (0 : Nat) (0 : Nat) != (0 : Int))
                              (K (IV.bool false) [])
                              (((0 : Int) ≤ (↑(xorF h (makeF xa)).length : Int) ∧
                                  (↑(xorF h (makeF xa)).length : Int) * (↑(8 : Nat) : Int) ≤ (140737488355328 : Int)) ∧
                                ((1 : Nat) = (1 : Nat) ∧
                                    St.mk
                                          [none, none, none, none, none, some (IV.sl (1 : Nat)), none, none,
                                            some (IV.sl (2 : Nat)), some (IV.sl (3 : Nat)),
                                            some (IV.int IntKind.i64 (0 : Int)), none, none, none, none, none, none,
                                            none, none, none, none, none, none, none, none, none, none, none, none,
                                            none, none, none, none, none, none, none, none, none, none, none, none,
                                            none, none, none, none, none, none, none, none, none, none, none, none,
                                            none, none, none, none, none, none, none, none, none, none, none, none,
                                            none, none, none, none, none, none, none, none, none, none, none, none,
                                            none, none, none, none, none, none, none, none, none, none, none, none,
                                            none, none, none, none, none, none, none, none, none, none, none, none,
                                            none, none, none, none, none, none, none, none, none, none, none, none,
                                            none, none, none, none, none, none, none, none, none, none, none, none,
                                            none, none, none, none, none, none, none, none, none, none, none, none,
                                            none, none, none, none, none, none, none, none, none, none, none, none,
                                            none, none, none, none, none, none, none, none, none, none, none, none,
                                            none, none, none, none, none, none, none, none, none, none, none, none,
                                            none, none, none, none, none, none, none, none, none, none, none, none,
                                            none, none, none, none, none, none, none, none, none, none, none, none,
                                            none, none, none, none, none, none, none, none, none, none, none, none,
                                            none, none, none, none, none, none]
                                          [some (Blk.ro [IntKind.u8] xa),
                                            some (Blk.row (32 : Nat) [IntKind.u64, IntKind.i64] (xorF h (makeF xa))),
                                            some
                                              (Blk.row (41 : Nat)
                                                [IntKind.i64, IntKind.u64, IntKind.i64, IntKind.i64, IntKind.i64,
                                                  IntKind.i64, IntKind.i64, IntKind.i64]
                                                (buildF (sortF (xorF h (makeF xa))))),
                                            some
                                              (Blk.row (3 : Nat) [IntKind.i64]
                                                (List.replicate (↑(xorF h (makeF xa)).length : Int).toNat
                                                  (List.replicate (1 : Nat) (0 : Int))))] =
                                        St.mk
                                          [none, none, none, none, none, some (IV.sl (1 : Nat)), none, none,
                                            some (IV.sl (2 : Nat)), some (IV.sl (3 : Nat)),
                                            some (IV.int IntKind.i64 (0 : Int)), none, none, none, none, none, none,
                                            none, none, none, none, none, none, none, none, none, none, none, none,
                                            none, none, none, none, none, none, none, none, none, none, none, none,
                                            none, none, none, none, none, none, none, none, none, none, none, none,
                                            none, none, none, none, none, none, none, none, none, none, none, none,
                                            none, none, none, none, none, none, none, none, none, none, none, none,
                                            none, none, none, none, none, none, none, none, none, none, none, none,
                                            none, none, none, none, none, none, none, none, none, none, none, none,
                                            none, none, none, none, none, none, none, none, none, none, none, none,
                                            none, none, none, none, none, none, none, none, none, none, none, none,
                                            none, none, none, none, none, none, none, none, none, none, none, none,
                                            none, none, none, none, none, none, none, none, none, none, none, none,
                                            none, none, none, none, none, none, none, none, none, none, none, none,
                                            none, none, none, none, none, none, none, none, none, none, none, none,
                                            none, none, none, none, none, none, none, none, none, none, none, none,
                                            none, none, none, none, none, none, none, none, none, none, none, none,
                                            none, none, none, none, none, none, none, none, none, none, none, none,
                                            none, none, none, none, none, none]
                                          [some (Blk.ro [IntKind.u8] xa),
                                            some (Blk.row (32 : Nat) [IntKind.u64, IntKind.i64] (xorF h (makeF xa))),
                                            some
                                              (Blk.row (41 : Nat)
                                                [IntKind.i64, IntKind.u64, IntKind.i64, IntKind.i64, IntKind.i64,
                                                  IntKind.i64, IntKind.i64, IntKind.i64]
                                                (buildF (sortF (xorF h (makeF xa))))),
                                            some
                                              (Blk.row (3 : Nat) [IntKind.i64]
                                                (List.replicate (↑(xorF h (makeF xa)).length : Int).toNat
                                                  (List.replicate (1 : Nat) (0 : Int))))] ∧
                                      pre7b (xorF h (makeF xa)) (buildF (sortF (xorF h (makeF xa))))
                                        (List.replicate (↑(xorF h (makeF xa)).length : Int).toNat
                                          (List.replicate (1 : Nat) (0 : Int)))
                                        (0 : Int)) ∧
                                  ((1 : Nat) = (1 : Nat) ∧
                                      St.mk
                                            [none, none, none, none, none, none, none, none, none,
                                              some (IV.sl (1 : Nat)), none, none, none, none, none, none, none,
                                              some (IV.int IntKind.i64 (0 : Int)), none, none, none, none, none, none,
                                              none, none, none, none, none, none, none, none, none, none, none, none,
                                              none, none, none, none, none, none, none, none, none, none, none, none,
                                              none, none, none, none, none, none, none, none, none, none, none, none,
                                              none, none, none, none, none, none, none, none, none, none, none, none,
                                              none, none, none, none, none, none, none, none, none, none, none, none,
                                              none, none, none, none, none, none, none, none, none, none, none, none,
                                              none, none, none, none, none, none, none, none, none, none, none, none,
                                              none, none, none, none, none, none, none, none, none, none, none, none,
                                              none, none, none, none, none, none, none, none, none, none, none, none,
                                              none, none, none, none, none, none, none, none, none, none, none, none,
                                              none, none, none, none, none, none, none, none, none, none, none, none,
                                              none, none, none, none, none, none, none, none, none, none, none, none,
                                              none, none, none, none, none, none, none, none, none, none, none, none,
                                              none, none, none, none, none, none, none, none, none, none, none, none,
                                              none, none, none, none, none, none, none, none, none, none, none, none,
                                              none, none, none, none, none, none, none, none, none, none, none]
                                            [some (Blk.ro [IntKind.u8] xa),
                                              some
                                                (Blk.row (3 : Nat) [IntKind.i64]
                                                  (cover (buildF (sortF (xorF h (makeF xa)))) (xorF h (makeF xa)).length
                                                    (buildF (sortF (xorF h (makeF xa)))).length))] =
                                          St.mk
                                            [none, none, none, none, none, none, none, none, none,
                                              some (IV.sl (1 : Nat)), none, none, none, none, none, none, none,
                                              some (IV.int IntKind.i64 (0 : Int)), none, none, none, none, none, none,
                                              none, none, none, none, none, none, none, none, none, none, none, none,
                                              none, none, none, none, none, none, none, none, none, none, none, none,
                                              none, none, none, none, none, none, none, none, none, none, none, none,
                                              none, none, none, none, none, none, none, none, none, none, none, none,
                                              none, none, none, none, none, none, none, none, none, none, none, none,
                                              none, none, none, none, none, none, none, none, none, none, none, none,
                                              none, none, none, none, none, none, none, none, none, none, none, none,
                                              none, none, none, none, none, none, none, none, none, none, none, none,
                                              none, none, none, none, none, none, none, none, none, none, none, none,
                                              none, none, none, none, none, none, none, none, none, none, none, none,
                                              none, none, none, none, none, none, none, none, none, none, none, none,
                                              none, none, none, none, none, none, none, none, none, none, none, none,
                                              none, none, none, none, none, none, none, none, none, none, none, none,
                                              none, none, none, none, none, none, none, none, none, none, none, none,
                                              none, none, none, none, none, none, none, none, none, none, none, none,
                                              none, none, none, none, none, none, none, none, none, none, none]
                                            [some (Blk.ro [IntKind.u8] xa),
                                              some
                                                (Blk.row (3 : Nat) [IntKind.i64]
                                                  (cover (buildF (sortF (xorF h (makeF xa)))) (xorF h (makeF xa)).length
                                                    (buildF (sortF (xorF h (makeF xa)))).length))] ∧
                                        cover (buildF (sortF (xorF h (makeF xa)))) (xorF h (makeF xa)).length
                                              (buildF (sortF (xorF h (makeF xa)))).length =
                                            ones
                                              (cover (buildF (sortF (xorF h (makeF xa)))) (xorF h (makeF xa)).length
                                                  (buildF (sortF (xorF h (makeF xa)))).length).length ∧
                                          (cover (buildF (sortF (xorF h (makeF xa)))) (xorF h (makeF xa)).length
                                                  (buildF (sortF (xorF h (makeF xa)))).length).length ≤
                                              (1000 : Nat) ∧
                                            (0 : Int) = (0 : Int)) ∧
                                    preNone [] [] ∧ K (IV.bool true) [])))))) := by kernel_rfl

