import Derived.Test.YtbgleobdhjghlaaR1F8
set_option linter.unusedVariables false
/- tree.builder.add -/
namespace Go.Vs.R1
open Go Go.Proofs Go.Vs
def nk : List IntKind := [.i64, .u64, .i64, .i64, .i64, .i64, .i64, .i64]
def nodeV (lev key fr to k0 k1 k2 k3 : Int) : List IV := [.int .i64 lev, .int .u64 key, .int .i64 fr, .int .i64 to, .int .i64 k0, .int .i64 k1, .int .i64 k2, .int .i64 k3]
def B29 (xs zs : List (List Int)) (lev key fr to : Int) : List (Option Blk) := [some (.var 56 [.sl 1, .sl 4]), ro xs, none, some (.var 41 (nodeV lev key fr to (-1) (-1) (-1) (-1))), some (.row 41 nk zs)]
def S29a (xs zs : List (List Int)) (lev key fr to at_ place f : Int) : St := ⟨T 110 [(0, .ptr 0 0), (3, .ptr 3 0), (5, i64 at_), (6, i64 place), (7, i64 f)], B29 xs zs lev key fr to⟩
def S29b (xs zs : List (List Int)) (lev key fr to at_ place f kf t : Int) : St := ⟨T 110 [(0, .ptr 0 0), (3, .ptr 3 0), (5, i64 at_), (6, i64 place), (7, i64 f), (8, .int .u64 kf), (9, i64 t)], B29 xs zs lev key fr to⟩

/-! the document's tree, of bodies in order: runs of one quarter; a node, and all below it, from place 'a' on -/
def shr (x : Int) (pl : Nat) : Int := x.fdiv (2 ^ pl)
def segGo (xs : List (List Int)) (pl : Nat) (kf : Int) (to : Nat) : Nat → Nat → Nat
  | 0, t => t
  | m + 1, t => if t < to ∧ shr (rd xs t 0) pl = shr kf pl then segGo xs pl kf to m (t + 1) else t
def segEnd (xs : List (List Int)) (pl : Nat) (to f : Nat) : Nat := segGo xs pl (rd xs f 0) to (to - (f + 1)) (f + 1)
def segs (xs : List (List Int)) (pl : Nat) (to : Nat) : Nat → Nat → List (Nat × Nat)
  | 0, _ => []
  | m + 1, f => if f < to then (f, segEnd xs pl to f) :: segs xs pl to m (segEnd xs pl to f) else []
def kq (xs : List (List Int)) (pl f : Nat) : Nat := (shr (rd xs f 0) pl % 4).toNat
def kp (xs : List (List Int)) (pl f : Nat) : Int := shr (rd xs f 0) pl * 2 ^ pl
abbrev SubT := Nat → Int → Nat → Nat → Nat → List (List Int)
def kidsF (F : SubT) (xs : List (List Int)) (lev pl : Nat) : List (Nat × Nat) → Nat → List (List Int)
  | [], _ => []
  | (f, t) :: ss, a => F (lev + 1) (kp xs pl f) f t a ++ kidsF F xs lev pl ss (a + (F (lev + 1) (kp xs pl f) f t a).length)
def ksF (F : SubT) (xs : List (List Int)) (lev pl : Nat) : List (Nat × Nat) → Nat → List Int → List Int
  | [], _, ks => ks
  | (f, t) :: ss, a, ks => ksF F xs lev pl ss (a + (F (lev + 1) (kp xs pl f) f t a).length) (ks.set (kq xs pl f) a)
def treeF (xs : List (List Int)) : Nat → SubT
  | 0, _, _, _, _, _ => []
  | n + 1, lev, key, fr, to, a =>
    if to - fr ≤ 4 ∨ 32 ≤ lev then [[(lev : Int), key, fr, to, -1, -1, -1, -1]]
    else ([(lev : Int), key, fr, to] ++ ksF (treeF xs n) xs lev (62 - 2 * lev) (segs xs (62 - 2 * lev) to (to - fr) fr) (a + 1) [-1, -1, -1, -1]) ::
      kidsF (treeF xs n) xs lev (62 - 2 * lev) (segs xs (62 - 2 * lev) to (to - fr) fr) (a + 1)

def keysIn (xs : List (List Int)) : Prop := ∀ i, 0 ≤ rd xs i 0 ∧ rd xs i 0 < 18446744073709551616
def pre29 (n : Nat) (xs zs : List (List Int)) (lev fr to : Int) : Prop := 0 ≤ lev ∧ lev ≤ 32 ∧ 33 ≤ lev + n ∧ 0 ≤ fr ∧ fr < to ∧ to ≤ xs.length ∧ xs.length ≤ 1000 ∧ keysIn xs ∧ zs.length + n * (to - fr) ≤ 1000000
noncomputable def G29 (n : Nat) : FunS := fun args b K =>
  (args = [.ptr 0 0, .agg (nodeV (argI args 1 0) (argI args 1 1) (argI args 1 2) (argI args 1 3) (argI args 1 4) (argI args 1 5) (argI args 1 6) (argI args 1 7))] ∧ b = [some (.var 56 [.sl 1, .sl 2]), ro (argX b 1), some (.row 41 nk (argX b 2))] ∧
    pre29 n (argX b 1) (argX b 2) (argI args 1 0) (argI args 1 2) (argI args 1 3)) ∧
  K (i64 (argX b 2).length) [some (.var 56 [.sl 1, .sl 3]), ro (argX b 1), none, some (.row 41 nk (argX b 2 ++ treeF (argX b 1) n (argI args 1 0).toNat (argI args 1 1) (argI args 1 2).toNat (argI args 1 3).toNat (argX b 2).length))]
def pre29b (xs : List (List Int)) (place f kf to t : Int) : Prop := 0 ≤ place ∧ place ≤ 62 ∧ 0 ≤ f ∧ f < to ∧ to ≤ xs.length ∧ xs.length ≤ 1000 ∧ kf = rd xs f.toNat 0 ∧ t = f + 1
noncomputable def L29b : LoopS := fun n0 st K => (n0 = 3 ∧ st = S29b (st.x 1) (st.x 4) (st.c 3 0) (st.c 3 1) (st.c 3 2) (st.c 3 3) (st.i 5) (st.i 6) (st.i 7) (st.i 8) (st.i 9) ∧ pre29b (st.x 1) (st.i 6) (st.i 7) (st.i 8) (st.c 3 3) (st.i 9)) ∧
  K (.exit 2) (S29b (st.x 1) (st.x 4) (st.c 3 0) (st.c 3 1) (st.c 3 2) (st.c 3 3) (st.i 5) (st.i 6) (st.i 7) (st.i 8) (segEnd (st.x 1) (st.i 6).toNat (st.c 3 3).toNat (st.i 7).toNat))
theorem r29b (N : Know) (xs zs : List (List Int)) (lev key fr to at_ place f kf t : Int) (k : Out → St → Prop) : (round (envOf Try.prog N 0) 29 3 1 (lp Try.prog 29 1) (S29b xs zs lev key fr to at_ place f kf t) k) = (br (decide (t < to))
  (((0 : Int) ≤ t ∧ t < (↑xs.length : Int)) ∧
    ((0 : Int) ≤ t ∧ t < (↑xs.length : Int)) ∧
      (0 : Int) ≤ place ∧
        (0 : Int) ≤ place ∧
          br
            ((rd xs t.toNat (0 : Nat)).fdiv ((2 : Int) ^ min place.toNat (64 : Nat)) ==
              kf.fdiv ((2 : Int) ^ min place.toNat (64 : Nat)))
            (k Out.normal
              (St.mk
                [some (IV.ptr (0 : Nat) (0 : Nat)), none, none, some (IV.ptr (3 : Nat) (0 : Nat)), none,
                  some (IV.int IntKind.i64 at_), some (IV.int IntKind.i64 place), some (IV.int IntKind.i64 f),
                  some (IV.int IntKind.u64 kf), some (IV.int IntKind.i64 (IntKind.i64.wrap (t + (1 : Int)))), none,
                  none, none, none, none, none, none, none, none, none, none, none, none, none, none, none, none, none,
                  none, none, none, none, none, none, none, none, none, none, none, none, none, none, none, none, none,
                  none, none, none, none, none, none, none, none, none, none, none, none, none, none, none, none, none,
                  none, none, none, none, none, none, none, none, none, none, none, none, none, none, none, none, none,
                  none, none, none, none, none, none, none, none, none, none, none, none, none, none, none, none, none,
                  none, none, none, none, none, none, none, none, none, none, none, none, none, none]
                [some (Blk.var (56 : Nat) [IV.sl (1 : Nat), IV.sl (4 : Nat)]),
                  some (Blk.ro [IntKind.u64, IntKind.i64] xs), none,
                  some
                    (Blk.var (41 : Nat)
                      [IV.int IntKind.i64 lev, IV.int IntKind.u64 key, IV.int IntKind.i64 fr, IV.int IntKind.i64 to,
                        IV.int IntKind.i64 (-1 : Int), IV.int IntKind.i64 (-1 : Int), IV.int IntKind.i64 (-1 : Int),
                        IV.int IntKind.i64 (-1 : Int)]),
                  some
                    (Blk.row (41 : Nat)
                      [IntKind.i64, IntKind.u64, IntKind.i64, IntKind.i64, IntKind.i64, IntKind.i64, IntKind.i64,
                        IntKind.i64]
                      zs)]))
            (k (Out.exit (2 : Nat))
              (St.mk
                [some (IV.ptr (0 : Nat) (0 : Nat)), none, none, some (IV.ptr (3 : Nat) (0 : Nat)), none,
                  some (IV.int IntKind.i64 at_), some (IV.int IntKind.i64 place), some (IV.int IntKind.i64 f),
                  some (IV.int IntKind.u64 kf), some (IV.int IntKind.i64 t), none, none, none, none, none, none, none,
                  none, none, none, none, none, none, none, none, none, none, none, none, none, none, none, none, none,
                  none, none, none, none, none, none, none, none, none, none, none, none, none, none, none, none, none,
                  none, none, none, none, none, none, none, none, none, none, none, none, none, none, none, none, none,
                  none, none, none, none, none, none, none, none, none, none, none, none, none, none, none, none, none,
                  none, none, none, none, none, none, none, none, none, none, none, none, none, none, none, none, none,
                  none, none, none, none, none, none, none, none]
                [some (Blk.var (56 : Nat) [IV.sl (1 : Nat), IV.sl (4 : Nat)]),
                  some (Blk.ro [IntKind.u64, IntKind.i64] xs), none,
                  some
                    (Blk.var (41 : Nat)
                      [IV.int IntKind.i64 lev, IV.int IntKind.u64 key, IV.int IntKind.i64 fr, IV.int IntKind.i64 to,
                        IV.int IntKind.i64 (-1 : Int), IV.int IntKind.i64 (-1 : Int), IV.int IntKind.i64 (-1 : Int),
                        IV.int IntKind.i64 (-1 : Int)]),
                  some
                    (Blk.row (41 : Nat)
                      [IntKind.i64, IntKind.u64, IntKind.i64, IntKind.i64, IntKind.i64, IntKind.i64, IntKind.i64,
                        IntKind.i64]
                      zs)])))
  (k (Out.exit (2 : Nat))
    (St.mk
      [some (IV.ptr (0 : Nat) (0 : Nat)), none, none, some (IV.ptr (3 : Nat) (0 : Nat)), none,
        some (IV.int IntKind.i64 at_), some (IV.int IntKind.i64 place), some (IV.int IntKind.i64 f),
        some (IV.int IntKind.u64 kf), some (IV.int IntKind.i64 t), none, none, none, none, none, none, none, none, none,
        none, none, none, none, none, none, none, none, none, none, none, none, none, none, none, none, none, none,
        none, none, none, none, none, none, none, none, none, none, none, none, none, none, none, none, none, none,
        none, none, none, none, none, none, none, none, none, none, none, none, none, none, none, none, none, none,
        none, none, none, none, none, none, none, none, none, none, none, none, none, none, none, none, none, none,
        none, none, none, none, none, none, none, none, none, none, none, none, none, none, none, none, none, none,
        none]
      [some (Blk.var (56 : Nat) [IV.sl (1 : Nat), IV.sl (4 : Nat)]), some (Blk.ro [IntKind.u64, IntKind.i64] xs), none,
        some
          (Blk.var (41 : Nat)
            [IV.int IntKind.i64 lev, IV.int IntKind.u64 key, IV.int IntKind.i64 fr, IV.int IntKind.i64 to,
              IV.int IntKind.i64 (-1 : Int), IV.int IntKind.i64 (-1 : Int), IV.int IntKind.i64 (-1 : Int),
              IV.int IntKind.i64 (-1 : Int)]),
        some
          (Blk.row (41 : Nat)
            [IntKind.i64, IntKind.u64, IntKind.i64, IntKind.i64, IntKind.i64, IntKind.i64, IntKind.i64, IntKind.i64]
            zs)]))) := by kernel_rfl
def leaf8 (lev key fr to : Int) : List Int := [lev, key, fr, to, -1, -1, -1, -1]
def pre29a (n : Nat) (xs zs : List (List Int)) (lev key fr to at_ place f : Int) : Prop :=
  pre29 (n + 1) xs (zs.take at_.toNat) lev fr to ∧ zs = zs.take at_.toNat ++ [leaf8 lev key fr to] ∧ 0 ≤ at_ ∧ at_ + 1 = zs.length ∧ place = 62 - 2 * lev ∧ f = fr ∧ 4 < to - fr ∧ lev < 32
noncomputable def L29a (n : Nat) : LoopS := fun n0 st K => (n0 = 3 ∧ st = S29a (st.x 1) (st.x 4) (st.c 3 0) (st.c 3 1) (st.c 3 2) (st.c 3 3) (st.i 5) (st.i 6) (st.i 7) ∧ pre29a n (st.x 1) (st.x 4) (st.c 3 0) (st.c 3 1) (st.c 3 2) (st.c 3 3) (st.i 5) (st.i 6) (st.i 7)) ∧
  K (.exit 0) ⟨T 110 [(5, i64 (st.i 5))], [some (.var 56 [.sl 1, .sl 3]), ro (st.x 1), none, some (.row 41 nk ((st.x 4).take (st.i 5).toNat ++ treeF (st.x 1) (n + 1) (st.c 3 0).toNat (st.c 3 1) (st.c 3 2).toNat (st.c 3 3).toNat (st.i 5).toNat))]⟩
noncomputable def N29 (n : Nat) : Know := ⟨fun _ => none, fun f i => if f = 29 then (if i = 0 then some (L29a n) else if i = 1 then some L29b else none) else none, fun g => if g = 29 then some (G29 n) else none⟩
theorem r29a (n : Nat) (xs zs : List (List Int)) (lev key fr to at_ place f : Int) (k : Out → St → Prop) : (round (envOf Try.prog (N29 n) 0) 29 3 0 (lp Try.prog 29 0) (S29a xs zs lev key fr to at_ place f) k) = (br (decide (f < to))
  (((0 : Int) ≤ f ∧ f < (↑xs.length : Int)) ∧
    ((0 : Int) ≤ f ∧ f < (↑xs.length : Int)) ∧
      ((3 : Nat) = (3 : Nat) ∧
          St.mk
                [some (IV.ptr (0 : Nat) (0 : Nat)), none, none, some (IV.ptr (3 : Nat) (0 : Nat)), none,
                  some (IV.int IntKind.i64 at_), some (IV.int IntKind.i64 place), some (IV.int IntKind.i64 f),
                  some (IV.int IntKind.u64 (rd xs f.toNat (0 : Nat))),
                  some (IV.int IntKind.i64 (IntKind.i64.wrap (f + (1 : Int)))), none, none, none, none, none, none,
                  none, none, none, none, none, none, none, none, none, none, none, none, none, none, none, none, none,
                  none, none, none, none, none, none, none, none, none, none, none, none, none, none, none, none, none,
                  none, none, none, none, none, none, none, none, none, none, none, none, none, none, none, none, none,
                  none, none, none, none, none, none, none, none, none, none, none, none, none, none, none, none, none,
                  none, none, none, none, none, none, none, none, none, none, none, none, none, none, none, none, none,
                  none, none, none, none, none, none, none, none, none]
                [some (Blk.var (56 : Nat) [IV.sl (1 : Nat), IV.sl (4 : Nat)]),
                  some (Blk.ro [IntKind.u64, IntKind.i64] xs), none,
                  some
                    (Blk.var (41 : Nat)
                      [IV.int IntKind.i64 lev, IV.int IntKind.u64 key, IV.int IntKind.i64 fr, IV.int IntKind.i64 to,
                        IV.int IntKind.i64 (-1 : Int), IV.int IntKind.i64 (-1 : Int), IV.int IntKind.i64 (-1 : Int),
                        IV.int IntKind.i64 (-1 : Int)]),
                  some
                    (Blk.row (41 : Nat)
                      [IntKind.i64, IntKind.u64, IntKind.i64, IntKind.i64, IntKind.i64, IntKind.i64, IntKind.i64,
                        IntKind.i64]
                      zs)] =
              St.mk
                [some (IV.ptr (0 : Nat) (0 : Nat)), none, none, some (IV.ptr (3 : Nat) (0 : Nat)), none,
                  some (IV.int IntKind.i64 at_), some (IV.int IntKind.i64 place), some (IV.int IntKind.i64 f),
                  some (IV.int IntKind.u64 (rd xs f.toNat (0 : Nat))),
                  some (IV.int IntKind.i64 (IntKind.i64.wrap (f + (1 : Int)))), none, none, none, none, none, none,
                  none, none, none, none, none, none, none, none, none, none, none, none, none, none, none, none, none,
                  none, none, none, none, none, none, none, none, none, none, none, none, none, none, none, none, none,
                  none, none, none, none, none, none, none, none, none, none, none, none, none, none, none, none, none,
                  none, none, none, none, none, none, none, none, none, none, none, none, none, none, none, none, none,
                  none, none, none, none, none, none, none, none, none, none, none, none, none, none, none, none, none,
                  none, none, none, none, none, none, none, none, none]
                [some (Blk.var (56 : Nat) [IV.sl (1 : Nat), IV.sl (4 : Nat)]),
                  some (Blk.ro [IntKind.u64, IntKind.i64] xs), none,
                  some
                    (Blk.var (41 : Nat)
                      [IV.int IntKind.i64 lev, IV.int IntKind.u64 key, IV.int IntKind.i64 fr, IV.int IntKind.i64 to,
                        IV.int IntKind.i64 (-1 : Int), IV.int IntKind.i64 (-1 : Int), IV.int IntKind.i64 (-1 : Int),
                        IV.int IntKind.i64 (-1 : Int)]),
                  some
                    (Blk.row (41 : Nat)
                      [IntKind.i64, IntKind.u64, IntKind.i64, IntKind.i64, IntKind.i64, IntKind.i64, IntKind.i64,
                        IntKind.i64]
                      zs)] ∧
            pre29b xs place f (rd xs f.toNat (0 : Nat)) to (IntKind.i64.wrap (f + (1 : Int)))) ∧
        (0 : Int) ≤ place ∧
          (0 : Int) ≤ place ∧
            ([IV.ptr (0 : Nat) (0 : Nat),
                    IV.agg
                      [IV.int IntKind.i64 (IntKind.i64.wrap (lev + (1 : Int))),
                        IV.int IntKind.u64
                          (IntKind.u64.wrap
                            ((rd xs f.toNat (0 : Nat)).fdiv ((2 : Int) ^ min place.toNat (64 : Nat)) *
                              (2 : Int) ^ min place.toNat (64 : Nat))),
                        IV.int IntKind.i64 f, IV.int IntKind.i64 (↑(segEnd xs place.toNat to.toNat f.toNat) : Int),
                        IV.int IntKind.i64 (0 : Int), IV.int IntKind.i64 (0 : Int), IV.int IntKind.i64 (0 : Int),
                        IV.int IntKind.i64 (0 : Int)]] =
                  [IV.ptr (0 : Nat) (0 : Nat),
                    IV.agg
                      [IV.int IntKind.i64 (IntKind.i64.wrap (lev + (1 : Int))),
                        IV.int IntKind.u64
                          (IntKind.u64.wrap
                            ((rd xs f.toNat (0 : Nat)).fdiv ((2 : Int) ^ min place.toNat (64 : Nat)) *
                              (2 : Int) ^ min place.toNat (64 : Nat))),
                        IV.int IntKind.i64 f, IV.int IntKind.i64 (↑(segEnd xs place.toNat to.toNat f.toNat) : Int),
                        IV.int IntKind.i64 (0 : Int), IV.int IntKind.i64 (0 : Int), IV.int IntKind.i64 (0 : Int),
                        IV.int IntKind.i64 (0 : Int)]] ∧
                [some (Blk.var (56 : Nat) [IV.sl (1 : Nat), IV.sl (2 : Nat)]),
                      some (Blk.ro [IntKind.u64, IntKind.i64] xs),
                      some
                        (Blk.row (41 : Nat)
                          [IntKind.i64, IntKind.u64, IntKind.i64, IntKind.i64, IntKind.i64, IntKind.i64, IntKind.i64,
                            IntKind.i64]
                          zs)] =
                    [some (Blk.var (56 : Nat) [IV.sl (1 : Nat), IV.sl (2 : Nat)]),
                      some (Blk.ro [IntKind.u64, IntKind.i64] xs),
                      some
                        (Blk.row (41 : Nat)
                          [IntKind.i64, IntKind.u64, IntKind.i64, IntKind.i64, IntKind.i64, IntKind.i64, IntKind.i64,
                            IntKind.i64]
                          zs)] ∧
                  pre29 n xs zs (IntKind.i64.wrap (lev + (1 : Int))) f
                    (↑(segEnd xs place.toNat to.toNat f.toNat) : Int)) ∧
              (0 : Int) ≤ place ∧
                ((0 : Int) ≤ at_ ∧
                    at_ <
                      (↑(zs ++
                              treeF xs n (IntKind.i64.wrap (lev + (1 : Int))).toNat
                                (IntKind.u64.wrap
                                  ((rd xs f.toNat (0 : Nat)).fdiv ((2 : Int) ^ min place.toNat (64 : Nat)) *
                                    (2 : Int) ^ min place.toNat (64 : Nat)))
                                f.toNat (↑(segEnd xs place.toNat to.toNat f.toNat) : Int).toNat zs.length).length :
                        Int)) ∧
                  ((0 : Int) ≤
                        IntKind.u64.wrap
                          (↑(BitVec.ofInt (64 : Nat)
                                    ((rd xs f.toNat (0 : Nat)).fdiv ((2 : Int) ^ min place.toNat (64 : Nat))) &&&
                                  BitVec.ofInt (64 : Nat) (3 : Int)).toNat :
                            Int) ∧
                      IntKind.u64.wrap
                          (↑(BitVec.ofInt (64 : Nat)
                                    ((rd xs f.toNat (0 : Nat)).fdiv ((2 : Int) ^ min place.toNat (64 : Nat))) &&&
                                  BitVec.ofInt (64 : Nat) (3 : Int)).toNat :
                            Int) <
                        (↑(4 : Nat) : Int)) ∧
                    ((0 : Int) ≤ at_ ∧
                        at_ <
                            (↑(zs ++
                                    treeF xs n (IntKind.i64.wrap (lev + (1 : Int))).toNat
                                      (IntKind.u64.wrap
                                        ((rd xs f.toNat (0 : Nat)).fdiv ((2 : Int) ^ min place.toNat (64 : Nat)) *
                                          (2 : Int) ^ min place.toNat (64 : Nat)))
                                      f.toNat (↑(segEnd xs place.toNat to.toNat f.toNat) : Int).toNat
                                      zs.length).length :
                              Int) ∧
                          (0 : Int) ≤
                              IntKind.u64.wrap
                                (↑(BitVec.ofInt (64 : Nat)
                                          ((rd xs f.toNat (0 : Nat)).fdiv ((2 : Int) ^ min place.toNat (64 : Nat))) &&&
                                        BitVec.ofInt (64 : Nat) (3 : Int)).toNat :
                                  Int) ∧
                            (4 : Nat) +
                                (IntKind.u64.wrap
                                    (↑(BitVec.ofInt (64 : Nat)
                                              ((rd xs f.toNat (0 : Nat)).fdiv
                                                ((2 : Int) ^ min place.toNat (64 : Nat))) &&&
                                            BitVec.ofInt (64 : Nat) (3 : Int)).toNat :
                                      Int)).toNat <
                              (8 : Nat)) ∧
                      k Out.normal
                        (St.mk
                          [some (IV.ptr (0 : Nat) (0 : Nat)), none, none, some (IV.ptr (3 : Nat) (0 : Nat)), none,
                            some (IV.int IntKind.i64 at_), some (IV.int IntKind.i64 place),
                            some (IV.int IntKind.i64 (↑(segEnd xs place.toNat to.toNat f.toNat) : Int)), none, none,
                            none, none, none, none, none, none, none, none, none, none, none, none, none, none, none,
                            none, none, none, none, none, none, none, none, none, none, none, none, none, none, none,
                            none, none, none, none, none, none, none, none, none, none, none, none, none, none, none,
                            none, none, none, none, none, none, none, none, none, none, none, none, none, none, none,
                            none, none, none, none, none, none, none, none, none, none, none, none, none, none, none,
                            none, none, none, none, none, none, none, none, none, none, none, none, none, none, none,
                            none, none, none, none, none, none, none, none, none, none]
                          [some (Blk.var (56 : Nat) [IV.sl (1 : Nat), IV.sl (4 : Nat)]),
                            some (Blk.ro [IntKind.u64, IntKind.i64] xs), none,
                            some
                              (Blk.var (41 : Nat)
                                [IV.int IntKind.i64 lev, IV.int IntKind.u64 key, IV.int IntKind.i64 fr,
                                  IV.int IntKind.i64 to, IV.int IntKind.i64 (-1 : Int), IV.int IntKind.i64 (-1 : Int),
                                  IV.int IntKind.i64 (-1 : Int), IV.int IntKind.i64 (-1 : Int)]),
                            some
                              (Blk.row (41 : Nat)
                                [IntKind.i64, IntKind.u64, IntKind.i64, IntKind.i64, IntKind.i64, IntKind.i64,
                                  IntKind.i64, IntKind.i64]
                                ((zs ++
                                      treeF xs n (IntKind.i64.wrap (lev + (1 : Int))).toNat
                                        (IntKind.u64.wrap
                                          ((rd xs f.toNat (0 : Nat)).fdiv ((2 : Int) ^ min place.toNat (64 : Nat)) *
                                            (2 : Int) ^ min place.toNat (64 : Nat)))
                                        f.toNat (↑(segEnd xs place.toNat to.toNat f.toNat) : Int).toNat
                                        zs.length).modify
                                  at_.toNat fun x0 =>
                                  [if
                                        (↑(nat_lit 0) : Int) =
                                          (↑(4 : Nat) : Int) +
                                            IntKind.u64.wrap
                                              (↑(BitVec.ofInt (64 : Nat)
                                                        ((rd xs f.toNat (0 : Nat)).fdiv
                                                          ((2 : Int) ^ min place.toNat (64 : Nat))) &&&
                                                      BitVec.ofInt (64 : Nat) (3 : Int)).toNat :
                                                Int) then
                                      (↑zs.length : Int)
                                    else x0.getD (nat_lit 0) (0 : Int),
                                    if
                                        (↑(nat_lit 1) : Int) =
                                          (↑(4 : Nat) : Int) +
                                            IntKind.u64.wrap
                                              (↑(BitVec.ofInt (64 : Nat)
                                                        ((rd xs f.toNat (0 : Nat)).fdiv
                                                          ((2 : Int) ^ min place.toNat (64 : Nat))) &&&
                                                      BitVec.ofInt (64 : Nat) (3 : Int)).toNat :
                                                Int) then
                                      (↑zs.length : Int)
                                    else x0.getD (nat_lit 1) (0 : Int),
                                    if
                                        (↑(nat_lit 2) : Int) =
                                          (↑(4 : Nat) : Int) +
                                            IntKind.u64.wrap
                                              (↑(BitVec.ofInt (64 : Nat)
                                                        ((rd xs f.toNat (0 : Nat)).fdiv
                                                          ((2 : Int) ^ min place.toNat (64 : Nat))) &&&
                                                      BitVec.ofInt (64 : Nat) (3 : Int)).toNat :
                                                Int) then
                                      (↑zs.length : Int)
                                    else x0.getD (nat_lit 2) (0 : Int),
                                    if
                                        (↑(nat_lit 3) : Int) =
                                          (↑(4 : Nat) : Int) +
                                            IntKind.u64.wrap
                                              (↑(BitVec.ofInt (64 : Nat)
                                                        ((rd xs f.toNat (0 : Nat)).fdiv
                                                          ((2 : Int) ^ min place.toNat (64 : Nat))) &&&
                                                      BitVec.ofInt (64 : Nat) (3 : Int)).toNat :
                                                Int) then
                                      (↑zs.length : Int)
                                    else x0.getD (nat_lit 3) (0 : Int),
                                    if
                                        (↑(nat_lit 4) : Int) =
                                          (↑(4 : Nat) : Int) +
                                            IntKind.u64.wrap
                                              (↑(BitVec.ofInt (64 : Nat)
                                                        ((rd xs f.toNat (0 : Nat)).fdiv
                                                          ((2 : Int) ^ min place.toNat (64 : Nat))) &&&
                                                      BitVec.ofInt (64 : Nat) (3 : Int)).toNat :
                                                Int) then
                                      (↑zs.length : Int)
                                    else x0.getD (nat_lit 4) (0 : Int),
                                    if
                                        (↑(nat_lit 5) : Int) =
                                          (↑(4 : Nat) : Int) +
                                            IntKind.u64.wrap
                                              (↑(BitVec.ofInt (64 : Nat)
                                                        ((rd xs f.toNat (0 : Nat)).fdiv
                                                          ((2 : Int) ^ min place.toNat (64 : Nat))) &&&
                                                      BitVec.ofInt (64 : Nat) (3 : Int)).toNat :
                                                Int) then
                                      (↑zs.length : Int)
                                    else x0.getD (nat_lit 5) (0 : Int),
                                    if
                                        (↑(nat_lit 6) : Int) =
                                          (↑(4 : Nat) : Int) +
                                            IntKind.u64.wrap
                                              (↑(BitVec.ofInt (64 : Nat)
                                                        ((rd xs f.toNat (0 : Nat)).fdiv
                                                          ((2 : Int) ^ min place.toNat (64 : Nat))) &&&
                                                      BitVec.ofInt (64 : Nat) (3 : Int)).toNat :
                                                Int) then
                                      (↑zs.length : Int)
                                    else x0.getD (nat_lit 6) (0 : Int),
                                    if
                                        (↑(nat_lit 7) : Int) =
                                          (↑(4 : Nat) : Int) +
                                            IntKind.u64.wrap
                                              (↑(BitVec.ofInt (64 : Nat)
                                                        ((rd xs f.toNat (0 : Nat)).fdiv
                                                          ((2 : Int) ^ min place.toNat (64 : Nat))) &&&
                                                      BitVec.ofInt (64 : Nat) (3 : Int)).toNat :
                                                Int) then
                                      (↑zs.length : Int)
                                    else x0.getD (nat_lit 7) (0 : Int)]))]))
  (k (Out.exit (0 : Nat))
    (St.mk
      [none, none, none, none, none, some (IV.int IntKind.i64 at_), none, none, none, none, none, none, none, none,
        none, none, none, none, none, none, none, none, none, none, none, none, none, none, none, none, none, none,
        none, none, none, none, none, none, none, none, none, none, none, none, none, none, none, none, none, none,
        none, none, none, none, none, none, none, none, none, none, none, none, none, none, none, none, none, none,
        none, none, none, none, none, none, none, none, none, none, none, none, none, none, none, none, none, none,
        none, none, none, none, none, none, none, none, none, none, none, none, none, none, none, none, none, none,
        none, none, none, none, none, none]
      [some (Blk.var (56 : Nat) [IV.sl (1 : Nat), IV.sl (3 : Nat)]), some (Blk.ro [IntKind.u64, IntKind.i64] xs), none,
        some
          (Blk.row (41 : Nat)
            [IntKind.i64, IntKind.u64, IntKind.i64, IntKind.i64, IntKind.i64, IntKind.i64, IntKind.i64, IntKind.i64]
            zs)]))) := by kernel_rfl
theorem v29 (n : Nat) (xs zs : List (List Int)) (lev key fr to k0 k1 k2 k3 : Int) (K : IV → List (Option Blk) → Prop) : (runFn Try.prog (N29 n) 1 29 [.ptr 0 0, .agg (nodeV lev key fr to k0 k1 k2 k3)] [some (.var 56 [.sl 1, .sl 2]), ro xs, some (.row 41 nk zs)] fun v b1 => gcV 3 v b1 K) = ((zs.length +
        ((List.replicate (1 : Nat) (List.replicate (8 : Nat) (0 : Int))).set (0 : Nat)
            [lev, key, fr, to, (-1 : Int), (-1 : Int), (-1 : Int), (-1 : Int)]).length) *
      (64 : Nat) ≤
    (140737488355328 : Nat) ∧
  br (decide (IntKind.i64.wrap (to - fr) ≤ (4 : Int)))
    (K (IV.int IntKind.i64 (↑zs.length : Int))
      [some (Blk.var (56 : Nat) [IV.sl (1 : Nat), IV.sl (3 : Nat)]), some (Blk.ro [IntKind.u64, IntKind.i64] xs), none,
        some
          (Blk.row (41 : Nat)
            [IntKind.i64, IntKind.u64, IntKind.i64, IntKind.i64, IntKind.i64, IntKind.i64, IntKind.i64, IntKind.i64]
            (zs ++
              (List.replicate (1 : Nat) (List.replicate (8 : Nat) (0 : Int))).set (0 : Nat)
                [lev, key, fr, to, (-1 : Int), (-1 : Int), (-1 : Int), (-1 : Int)]))])
    (br (decide (lev ≥ (32 : Int)))
      (K (IV.int IntKind.i64 (↑zs.length : Int))
        [some (Blk.var (56 : Nat) [IV.sl (1 : Nat), IV.sl (3 : Nat)]), some (Blk.ro [IntKind.u64, IntKind.i64] xs),
          none,
          some
            (Blk.row (41 : Nat)
              [IntKind.i64, IntKind.u64, IntKind.i64, IntKind.i64, IntKind.i64, IntKind.i64, IntKind.i64, IntKind.i64]
              (zs ++
                (List.replicate (1 : Nat) (List.replicate (8 : Nat) (0 : Int))).set (0 : Nat)
                  [lev, key, fr, to, (-1 : Int), (-1 : Int), (-1 : Int), (-1 : Int)]))])
      (((3 : Nat) = (3 : Nat) ∧
          St.mk
                [some (IV.ptr (0 : Nat) (0 : Nat)), none, none, some (IV.ptr (3 : Nat) (0 : Nat)), none,
                  some (IV.int IntKind.i64 (↑zs.length : Int)),
                  some (IV.int IntKind.i64 (IntKind.i64.wrap ((62 : Int) - IntKind.i64.wrap ((2 : Int) * lev)))),
                  some (IV.int IntKind.i64 fr), none, none, none, none, none, none, none, none, none, none, none, none,
                  none, none, none, none, none, none, none, none, none, none, none, none, none, none, none, none, none,
                  none, none, none, none, none, none, none, none, none, none, none, none, none, none, none, none, none,
                  none, none, none, none, none, none, none, none, none, none, none, none, none, none, none, none, none,
                  none, none, none, none, none, none, none, none, none, none, none, none, none, none, none, none, none,
                  none, none, none, none, none, none, none, none, none, none, none, none, none, none, none, none, none,
                  none, none, none, none, none]
                [some (Blk.var (56 : Nat) [IV.sl (1 : Nat), IV.sl (4 : Nat)]),
                  some (Blk.ro [IntKind.u64, IntKind.i64] xs), none,
                  some
                    (Blk.var (41 : Nat)
                      [IV.int IntKind.i64 lev, IV.int IntKind.u64 key, IV.int IntKind.i64 fr, IV.int IntKind.i64 to,
                        IV.int IntKind.i64 (-1 : Int), IV.int IntKind.i64 (-1 : Int), IV.int IntKind.i64 (-1 : Int),
                        IV.int IntKind.i64 (-1 : Int)]),
                  some
                    (Blk.row (41 : Nat)
                      [IntKind.i64, IntKind.u64, IntKind.i64, IntKind.i64, IntKind.i64, IntKind.i64, IntKind.i64,
                        IntKind.i64]
                      (zs ++
                        (List.replicate (1 : Nat) (List.replicate (8 : Nat) (0 : Int))).set (0 : Nat)
                          [lev, key, fr, to, (-1 : Int), (-1 : Int), (-1 : Int), (-1 : Int)]))] =
              St.mk
                [some (IV.ptr (0 : Nat) (0 : Nat)), none, none, some (IV.ptr (3 : Nat) (0 : Nat)), none,
                  some (IV.int IntKind.i64 (↑zs.length : Int)),
                  some (IV.int IntKind.i64 (IntKind.i64.wrap ((62 : Int) - IntKind.i64.wrap ((2 : Int) * lev)))),
                  some (IV.int IntKind.i64 fr), none, none, none, none, none, none, none, none, none, none, none, none,
                  none, none, none, none, none, none, none, none, none, none, none, none, none, none, none, none, none,
                  none, none, none, none, none, none, none, none, none, none, none, none, none, none, none, none, none,
                  none, none, none, none, none, none, none, none, none, none, none, none, none, none, none, none, none,
                  none, none, none, none, none, none, none, none, none, none, none, none, none, none, none, none, none,
                  none, none, none, none, none, none, none, none, none, none, none, none, none, none, none, none, none,
                  none, none, none, none, none]
                [some (Blk.var (56 : Nat) [IV.sl (1 : Nat), IV.sl (4 : Nat)]),
                  some (Blk.ro [IntKind.u64, IntKind.i64] xs), none,
                  some
                    (Blk.var (41 : Nat)
                      [IV.int IntKind.i64 lev, IV.int IntKind.u64 key, IV.int IntKind.i64 fr, IV.int IntKind.i64 to,
                        IV.int IntKind.i64 (-1 : Int), IV.int IntKind.i64 (-1 : Int), IV.int IntKind.i64 (-1 : Int),
                        IV.int IntKind.i64 (-1 : Int)]),
                  some
                    (Blk.row (41 : Nat)
                      [IntKind.i64, IntKind.u64, IntKind.i64, IntKind.i64, IntKind.i64, IntKind.i64, IntKind.i64,
                        IntKind.i64]
                      (zs ++
                        (List.replicate (1 : Nat) (List.replicate (8 : Nat) (0 : Int))).set (0 : Nat)
                          [lev, key, fr, to, (-1 : Int), (-1 : Int), (-1 : Int), (-1 : Int)]))] ∧
            pre29a n xs
              (zs ++
                (List.replicate (1 : Nat) (List.replicate (8 : Nat) (0 : Int))).set (0 : Nat)
                  [lev, key, fr, to, (-1 : Int), (-1 : Int), (-1 : Int), (-1 : Int)])
              lev key fr to (↑zs.length : Int) (IntKind.i64.wrap ((62 : Int) - IntKind.i64.wrap ((2 : Int) * lev)))
              fr) ∧
        K (IV.int IntKind.i64 (↑zs.length : Int))
          [some (Blk.var (56 : Nat) [IV.sl (1 : Nat), IV.sl (3 : Nat)]), some (Blk.ro [IntKind.u64, IntKind.i64] xs),
            none,
            some
              (Blk.row (41 : Nat)
                [IntKind.i64, IntKind.u64, IntKind.i64, IntKind.i64, IntKind.i64, IntKind.i64, IntKind.i64, IntKind.i64]
                (List.take (↑zs.length : Int).toNat
                    (zs ++
                      (List.replicate (1 : Nat) (List.replicate (8 : Nat) (0 : Int))).set (0 : Nat)
                        [lev, key, fr, to, (-1 : Int), (-1 : Int), (-1 : Int), (-1 : Int)]) ++
                  treeF xs (n + (1 : Nat)) lev.toNat key fr.toNat to.toNat (↑zs.length : Int).toNat))]))) := by kernel_rfl

