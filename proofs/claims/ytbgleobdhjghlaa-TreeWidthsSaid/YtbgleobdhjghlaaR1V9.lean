import Derived.Test.YtbgleobdhjghlaaR1F10
set_option linter.unusedVariables false
/- r6.quarter, r6.grow -/
namespace Go.Vs.R1
open Go Go.Proofs Go.Vs
def qrt (key lev : Int) : Int := shr key (62 - 2 * lev).toNat % 4
def pre37 (l : List IV) (bs : List Blk) : Prop := l = [.int .u64 (argI l 0 0), .int .i64 (argI l 1 0)] ∧ bs = [] ∧ 0 ≤ argI l 0 0 ∧ argI l 0 0 < 18446744073709551616 ∧ 0 ≤ argI l 1 0 ∧ argI l 1 0 ≤ 31
noncomputable def sp37 : Vs.Spec := ⟨pre37, fun l _ => (.int .i64 (qrt (argI l 0 0) (argI l 1 0)), [])⟩
noncomputable def Nnone : Know := ⟨fun _ => none, fun _ _ => none, fun _ => none⟩
noncomputable def Γ30 : FuncId → Option Vs.Spec := fun g => if g = 37 then some sp37 else none
theorem v37 (key lev : Int) (K : IV → List Blk → Prop) : (comes Try.prog Nnone 1 37 [.int .u64 key, .int .i64 lev] [] K) = ((0 : Int) ≤ IntKind.i64.wrap ((62 : Int) - IntKind.i64.wrap ((2 : Int) * lev)) ∧
  K
    (IV.int IntKind.i64
      (IntKind.i64.wrap
        (IntKind.u64.wrap
          (↑(BitVec.ofInt (64 : Nat)
                    (key.fdiv
                      ((2 : Int) ^
                        min (IntKind.i64.wrap ((62 : Int) - IntKind.i64.wrap ((2 : Int) * lev))).toNat (64 : Nat))) &&&
                  BitVec.ofInt (64 : Nat) (3 : Int)).toNat :
            Int))))
    []) := by kernel_rfl
def B30 (xs zs : List (List Int)) (lev key fr to k0 k1 k2 k3 : Int) : List (Option Blk) := [none, ro xs, some (.row 41 nk zs), some (.var 41 (nodeV lev key fr to k0 k1 k2 k3))]
def S30a (xs zs : List (List Int)) (lev key fr to k0 k1 k2 k3 at_ q : Int) : St := ⟨T 101 [(0, .sl 2), (1, .sl 1), (5, .ptr 3 0), (7, i64 at_), (8, i64 q)], B30 xs zs lev key fr to k0 k1 k2 k3⟩
def S30b (xs zs : List (List Int)) (lev key fr to k0 k1 k2 k3 at_ f q : Int) : St := ⟨T 101 [(0, .sl 2), (1, .sl 1), (5, .ptr 3 0), (7, i64 at_), (9, i64 f), (10, i64 q)], B30 xs zs lev key fr to k0 k1 k2 k3⟩
def S30c (xs zs : List (List Int)) (lev key fr to k0 k1 k2 k3 at_ f q t : Int) : St := ⟨T 101 [(0, .sl 2), (1, .sl 1), (5, .ptr 3 0), (7, i64 at_), (9, i64 f), (10, i64 q), (11, i64 t)], B30 xs zs lev key fr to k0 k1 k2 k3⟩
/-- how far bodies of a quarter reach -/
def runGo (xs : List (List Int)) (lev q : Int) (to : Nat) : Nat → Nat → Nat
  | 0, t => t
  | m + 1, t => if t < to ∧ qrt (rd xs t 0) lev = q then runGo xs lev q to m (t + 1) else t
def runEnd (xs : List (List Int)) (lev q : Int) (to f : Nat) : Nat := runGo xs lev q to (to - f) f
def pre30c (xs : List (List Int)) (lev to f q t : Int) : Prop := 0 ≤ lev ∧ lev ≤ 31 ∧ 0 ≤ f ∧ f ≤ to ∧ to ≤ xs.length ∧ xs.length ≤ 1000 ∧ t = f ∧ keysIn xs
noncomputable def L30c : LoopS := fun n0 st K => (n0 = 2 ∧ st = S30c (st.x 1) (st.x 2) (st.c 3 0) (st.c 3 1) (st.c 3 2) (st.c 3 3) (st.c 3 4) (st.c 3 5) (st.c 3 6) (st.c 3 7) (st.i 7) (st.i 9) (st.i 10) (st.i 11) ∧ pre30c (st.x 1) (st.c 3 0) (st.c 3 3) (st.i 9) (st.i 10) (st.i 11)) ∧
  K (.exit 4) (S30c (st.x 1) (st.x 2) (st.c 3 0) (st.c 3 1) (st.c 3 2) (st.c 3 3) (st.c 3 4) (st.c 3 5) (st.c 3 6) (st.c 3 7) (st.i 7) (st.i 9) (st.i 10) (runEnd (st.x 1) (st.c 3 0) (st.i 10) (st.c 3 3).toNat (st.i 9).toNat))
theorem r30a (N : Know) (xs zs : List (List Int)) (lev key fr to k0 k1 k2 k3 at_ q : Int) (k : Out → St → Prop) : (round (envOf Try.prog N 0) 30 2 0 (lp Try.prog 30 0) (S30a xs zs lev key fr to k0 k1 k2 k3 at_ q) k) = (br (decide (q < (4 : Int)))
  (((0 : Int) ≤ at_ ∧ at_ < (↑zs.length : Int)) ∧
    ((0 : Int) ≤ q ∧ q < (↑(4 : Nat) : Int)) ∧
      ((0 : Int) ≤ at_ ∧ at_ < (↑zs.length : Int) ∧ (0 : Int) ≤ q ∧ (4 : Nat) + q.toNat < (8 : Nat)) ∧
        k Out.normal
          (St.mk
            [some (IV.sl (2 : Nat)), some (IV.sl (1 : Nat)), none, none, none, some (IV.ptr (3 : Nat) (0 : Nat)), none,
              some (IV.int IntKind.i64 at_), some (IV.int IntKind.i64 (IntKind.i64.wrap (q + (1 : Int)))), none, none,
              none, none, none, none, none, none, none, none, none, none, none, none, none, none, none, none, none,
              none, none, none, none, none, none, none, none, none, none, none, none, none, none, none, none, none,
              none, none, none, none, none, none, none, none, none, none, none, none, none, none, none, none, none,
              none, none, none, none, none, none, none, none, none, none, none, none, none, none, none, none, none,
              none, none, none, none, none, none, none, none, none, none, none, none, none, none, none, none, none,
              none, none, none, none, none]
            [none, some (Blk.ro [IntKind.u64, IntKind.i64] xs),
              some
                (Blk.row (41 : Nat)
                  [IntKind.i64, IntKind.u64, IntKind.i64, IntKind.i64, IntKind.i64, IntKind.i64, IntKind.i64,
                    IntKind.i64]
                  (zs.modify at_.toNat fun x0 =>
                    [if (↑(nat_lit 0) : Int) = (↑(4 : Nat) : Int) + q then (-1 : Int)
                      else x0.getD (nat_lit 0) (0 : Int),
                      if (↑(nat_lit 1) : Int) = (↑(4 : Nat) : Int) + q then (-1 : Int)
                      else x0.getD (nat_lit 1) (0 : Int),
                      if (↑(nat_lit 2) : Int) = (↑(4 : Nat) : Int) + q then (-1 : Int)
                      else x0.getD (nat_lit 2) (0 : Int),
                      if (↑(nat_lit 3) : Int) = (↑(4 : Nat) : Int) + q then (-1 : Int)
                      else x0.getD (nat_lit 3) (0 : Int),
                      if (↑(nat_lit 4) : Int) = (↑(4 : Nat) : Int) + q then (-1 : Int)
                      else x0.getD (nat_lit 4) (0 : Int),
                      if (↑(nat_lit 5) : Int) = (↑(4 : Nat) : Int) + q then (-1 : Int)
                      else x0.getD (nat_lit 5) (0 : Int),
                      if (↑(nat_lit 6) : Int) = (↑(4 : Nat) : Int) + q then (-1 : Int)
                      else x0.getD (nat_lit 6) (0 : Int),
                      if (↑(nat_lit 7) : Int) = (↑(4 : Nat) : Int) + q then (-1 : Int)
                      else x0.getD (nat_lit 7) (0 : Int)])),
              some
                (Blk.var (41 : Nat)
                  [IV.int IntKind.i64 lev, IV.int IntKind.u64 key, IV.int IntKind.i64 fr, IV.int IntKind.i64 to,
                    IV.int IntKind.i64 k0, IV.int IntKind.i64 k1, IV.int IntKind.i64 k2, IV.int IntKind.i64 k3])]))
  (k (Out.exit (0 : Nat))
    (St.mk
      [some (IV.sl (2 : Nat)), some (IV.sl (1 : Nat)), none, none, none, some (IV.ptr (3 : Nat) (0 : Nat)), none,
        some (IV.int IntKind.i64 at_), none, none, none, none, none, none, none, none, none, none, none, none, none,
        none, none, none, none, none, none, none, none, none, none, none, none, none, none, none, none, none, none,
        none, none, none, none, none, none, none, none, none, none, none, none, none, none, none, none, none, none,
        none, none, none, none, none, none, none, none, none, none, none, none, none, none, none, none, none, none,
        none, none, none, none, none, none, none, none, none, none, none, none, none, none, none, none, none, none,
        none, none, none, none, none, none, none, none]
      [none, some (Blk.ro [IntKind.u64, IntKind.i64] xs),
        some
          (Blk.row (41 : Nat)
            [IntKind.i64, IntKind.u64, IntKind.i64, IntKind.i64, IntKind.i64, IntKind.i64, IntKind.i64, IntKind.i64]
            zs),
        some
          (Blk.var (41 : Nat)
            [IV.int IntKind.i64 lev, IV.int IntKind.u64 key, IV.int IntKind.i64 fr, IV.int IntKind.i64 to,
              IV.int IntKind.i64 k0, IV.int IntKind.i64 k1, IV.int IntKind.i64 k2, IV.int IntKind.i64 k3])]))) := by kernel_rfl
/-- the first bits are one, of all from 'fr' on, below 'to' -/
def oneP (xs : List (List Int)) (lev fr to : Nat) : Prop := ∀ i j : Nat, fr ≤ i → i < to → fr ≤ j → j < to → shr (rd xs i 0) (64 - 2 * lev) = shr (rd xs j 0) (64 - 2 * lev)
def pre30 (n : Nat) (xs zs : List (List Int)) (lev fr to : Int) : Prop := pre29 n xs zs lev fr to ∧ Rises xs ∧ oneP xs lev.toNat fr.toNat to.toNat
noncomputable def G30 (n : Nat) : FunS := fun args b K =>
  (args = [.sl 0, .sl 1, .agg (nodeV (argI args 2 0) (argI args 2 1) (argI args 2 2) (argI args 2 3) (argI args 2 4) (argI args 2 5) (argI args 2 6) (argI args 2 7))] ∧ b = [some (.row 41 nk (argX b 0)), ro (argX b 1)] ∧
    pre30 n (argX b 1) (argX b 0) (argI args 2 0) (argI args 2 2) (argI args 2 3)) ∧
  K (.sl 2) [none, ro (argX b 1), some (.row 41 nk (argX b 0 ++ treeF (argX b 1) n (argI args 2 0).toNat (argI args 2 1) (argI args 2 2).toNat (argI args 2 3).toNat (argX b 0).length))]
def pre30a (zs : List (List Int)) (lev key fr to k0 k1 k2 k3 at_ q : Int) : Prop := zs = zs.take at_.toNat ++ [[lev, key, fr, to, k0, k1, k2, k3]] ∧ 0 ≤ at_ ∧ at_ + 1 = zs.length ∧ q = 0
noncomputable def L30a : LoopS := fun n0 st K => (n0 = 2 ∧ st = S30a (st.x 1) (st.x 2) (st.c 3 0) (st.c 3 1) (st.c 3 2) (st.c 3 3) (st.c 3 4) (st.c 3 5) (st.c 3 6) (st.c 3 7) (st.i 7) (st.i 8) ∧ pre30a (st.x 2) (st.c 3 0) (st.c 3 1) (st.c 3 2) (st.c 3 3) (st.c 3 4) (st.c 3 5) (st.c 3 6) (st.c 3 7) (st.i 7) (st.i 8)) ∧
  K (.exit 0) ⟨T 101 [(0, .sl 2), (1, .sl 1), (5, .ptr 3 0), (7, i64 (st.i 7))], B30 (st.x 1) ((st.x 2).take (st.i 7).toNat ++ [leaf8 (st.c 3 0) (st.c 3 1) (st.c 3 2) (st.c 3 3)]) (st.c 3 0) (st.c 3 1) (st.c 3 2) (st.c 3 3) (st.c 3 4) (st.c 3 5) (st.c 3 6) (st.c 3 7)⟩
def pre30b (n : Nat) (xs zs : List (List Int)) (lev key fr to at_ f q : Int) : Prop :=
  pre30 (n + 1) xs (zs.take at_.toNat) lev fr to ∧ zs = zs.take at_.toNat ++ [leaf8 lev key fr to] ∧ 0 ≤ at_ ∧ at_ + 1 = zs.length ∧ f = fr ∧ q = 0 ∧ 4 < to - fr ∧ lev < 32
noncomputable def L30b (n : Nat) : LoopS := fun n0 st K => (n0 = 2 ∧ st = S30b (st.x 1) (st.x 2) (st.c 3 0) (st.c 3 1) (st.c 3 2) (st.c 3 3) (st.c 3 4) (st.c 3 5) (st.c 3 6) (st.c 3 7) (st.i 7) (st.i 9) (st.i 10) ∧ pre30b n (st.x 1) (st.x 2) (st.c 3 0) (st.c 3 1) (st.c 3 2) (st.c 3 3) (st.i 7) (st.i 9) (st.i 10)) ∧
  K (.exit 2) ⟨T 101 [(0, .sl 2)], [none, ro (st.x 1), some (.row 41 nk ((st.x 2).take (st.i 7).toNat ++ treeF (st.x 1) (n + 1) (st.c 3 0).toNat (st.c 3 1) (st.c 3 2).toNat (st.c 3 3).toNat (st.i 7).toNat))]⟩
noncomputable def N30 (n : Nat) : Know := ⟨Γ30, fun f i => if f = 30 then (if i = 0 then some L30a else if i = 1 then some (L30b n) else if i = 2 then some L30c else none) else none, fun g => if g = 30 then some (G30 n) else none⟩
theorem r30c (n : Nat) (xs zs : List (List Int)) (lev key fr to k0 k1 k2 k3 at_ f q t : Int) (k : Out → St → Prop) : (round (envOf Try.prog (N30 n) 0) 30 2 2 (lp Try.prog 30 2) (S30c xs zs lev key fr to k0 k1 k2 k3 at_ f q t) k) = (br (decide (t < to))
  (((0 : Int) ≤ t ∧ t < (↑xs.length : Int)) ∧
    ((0 : Int) ≤ t ∧ t < (↑xs.length : Int)) ∧
      pre37 [IV.int IntKind.u64 (rd xs t.toNat (0 : Nat)), IV.int IntKind.i64 lev] [] ∧
        br (qrt (rd xs t.toNat (0 : Nat)) lev == q)
          (k Out.normal
            (St.mk
              [some (IV.sl (2 : Nat)), some (IV.sl (1 : Nat)), none, none, none, some (IV.ptr (3 : Nat) (0 : Nat)),
                none, some (IV.int IntKind.i64 at_), none, some (IV.int IntKind.i64 f), some (IV.int IntKind.i64 q),
                some (IV.int IntKind.i64 (IntKind.i64.wrap (t + (1 : Int)))), none, none, none, none, none, none, none,
                none, none, none, none, none, none, none, none, none, none, none, none, none, none, none, none, none,
                none, none, none, none, none, none, none, none, none, none, none, none, none, none, none, none, none,
                none, none, none, none, none, none, none, none, none, none, none, none, none, none, none, none, none,
                none, none, none, none, none, none, none, none, none, none, none, none, none, none, none, none, none,
                none, none, none, none, none, none, none, none, none, none, none, none, none, none]
              [none, some (Blk.ro [IntKind.u64, IntKind.i64] xs),
                some
                  (Blk.row (41 : Nat)
                    [IntKind.i64, IntKind.u64, IntKind.i64, IntKind.i64, IntKind.i64, IntKind.i64, IntKind.i64,
                      IntKind.i64]
                    zs),
                some
                  (Blk.var (41 : Nat)
                    [IV.int IntKind.i64 lev, IV.int IntKind.u64 key, IV.int IntKind.i64 fr, IV.int IntKind.i64 to,
                      IV.int IntKind.i64 k0, IV.int IntKind.i64 k1, IV.int IntKind.i64 k2, IV.int IntKind.i64 k3])]))
          (k (Out.exit (4 : Nat))
            (St.mk
              [some (IV.sl (2 : Nat)), some (IV.sl (1 : Nat)), none, none, none, some (IV.ptr (3 : Nat) (0 : Nat)),
                none, some (IV.int IntKind.i64 at_), none, some (IV.int IntKind.i64 f), some (IV.int IntKind.i64 q),
                some (IV.int IntKind.i64 t), none, none, none, none, none, none, none, none, none, none, none, none,
                none, none, none, none, none, none, none, none, none, none, none, none, none, none, none, none, none,
                none, none, none, none, none, none, none, none, none, none, none, none, none, none, none, none, none,
                none, none, none, none, none, none, none, none, none, none, none, none, none, none, none, none, none,
                none, none, none, none, none, none, none, none, none, none, none, none, none, none, none, none, none,
                none, none, none, none, none, none, none, none, none]
              [none, some (Blk.ro [IntKind.u64, IntKind.i64] xs),
                some
                  (Blk.row (41 : Nat)
                    [IntKind.i64, IntKind.u64, IntKind.i64, IntKind.i64, IntKind.i64, IntKind.i64, IntKind.i64,
                      IntKind.i64]
                    zs),
                some
                  (Blk.var (41 : Nat)
                    [IV.int IntKind.i64 lev, IV.int IntKind.u64 key, IV.int IntKind.i64 fr, IV.int IntKind.i64 to,
                      IV.int IntKind.i64 k0, IV.int IntKind.i64 k1, IV.int IntKind.i64 k2, IV.int IntKind.i64 k3])])))
  (k (Out.exit (4 : Nat))
    (St.mk
      [some (IV.sl (2 : Nat)), some (IV.sl (1 : Nat)), none, none, none, some (IV.ptr (3 : Nat) (0 : Nat)), none,
        some (IV.int IntKind.i64 at_), none, some (IV.int IntKind.i64 f), some (IV.int IntKind.i64 q),
        some (IV.int IntKind.i64 t), none, none, none, none, none, none, none, none, none, none, none, none, none, none,
        none, none, none, none, none, none, none, none, none, none, none, none, none, none, none, none, none, none,
        none, none, none, none, none, none, none, none, none, none, none, none, none, none, none, none, none, none,
        none, none, none, none, none, none, none, none, none, none, none, none, none, none, none, none, none, none,
        none, none, none, none, none, none, none, none, none, none, none, none, none, none, none, none, none, none,
        none, none, none]
      [none, some (Blk.ro [IntKind.u64, IntKind.i64] xs),
        some
          (Blk.row (41 : Nat)
            [IntKind.i64, IntKind.u64, IntKind.i64, IntKind.i64, IntKind.i64, IntKind.i64, IntKind.i64, IntKind.i64]
            zs),
        some
          (Blk.var (41 : Nat)
            [IV.int IntKind.i64 lev, IV.int IntKind.u64 key, IV.int IntKind.i64 fr, IV.int IntKind.i64 to,
              IV.int IntKind.i64 k0, IV.int IntKind.i64 k1, IV.int IntKind.i64 k2, IV.int IntKind.i64 k3])]))) := by kernel_rfl
theorem r30b (n : Nat) (xs zs : List (List Int)) (lev key fr to k0 k1 k2 k3 at_ f q : Int) (k : Out → St → Prop) : (round (envOf Try.prog (N30 n) 0) 30 2 1 (lp Try.prog 30 1) (S30b xs zs lev key fr to k0 k1 k2 k3 at_ f q) k) = (br (decide (q < (4 : Int)))
  (((2 : Nat) = (2 : Nat) ∧
      St.mk
            [some (IV.sl (2 : Nat)), some (IV.sl (1 : Nat)), none, none, none, some (IV.ptr (3 : Nat) (0 : Nat)), none,
              some (IV.int IntKind.i64 at_), none, some (IV.int IntKind.i64 f), some (IV.int IntKind.i64 q),
              some (IV.int IntKind.i64 f), none, none, none, none, none, none, none, none, none, none, none, none, none,
              none, none, none, none, none, none, none, none, none, none, none, none, none, none, none, none, none,
              none, none, none, none, none, none, none, none, none, none, none, none, none, none, none, none, none,
              none, none, none, none, none, none, none, none, none, none, none, none, none, none, none, none, none,
              none, none, none, none, none, none, none, none, none, none, none, none, none, none, none, none, none,
              none, none, none, none, none, none, none, none]
            [none, some (Blk.ro [IntKind.u64, IntKind.i64] xs),
              some
                (Blk.row (41 : Nat)
                  [IntKind.i64, IntKind.u64, IntKind.i64, IntKind.i64, IntKind.i64, IntKind.i64, IntKind.i64,
                    IntKind.i64]
                  zs),
              some
                (Blk.var (41 : Nat)
                  [IV.int IntKind.i64 lev, IV.int IntKind.u64 key, IV.int IntKind.i64 fr, IV.int IntKind.i64 to,
                    IV.int IntKind.i64 k0, IV.int IntKind.i64 k1, IV.int IntKind.i64 k2, IV.int IntKind.i64 k3])] =
          St.mk
            [some (IV.sl (2 : Nat)), some (IV.sl (1 : Nat)), none, none, none, some (IV.ptr (3 : Nat) (0 : Nat)), none,
              some (IV.int IntKind.i64 at_), none, some (IV.int IntKind.i64 f), some (IV.int IntKind.i64 q),
              some (IV.int IntKind.i64 f), none, none, none, none, none, none, none, none, none, none, none, none, none,
              none, none, none, none, none, none, none, none, none, none, none, none, none, none, none, none, none,
              none, none, none, none, none, none, none, none, none, none, none, none, none, none, none, none, none,
              none, none, none, none, none, none, none, none, none, none, none, none, none, none, none, none, none,
              none, none, none, none, none, none, none, none, none, none, none, none, none, none, none, none, none,
              none, none, none, none, none, none, none, none]
            [none, some (Blk.ro [IntKind.u64, IntKind.i64] xs),
              some
                (Blk.row (41 : Nat)
                  [IntKind.i64, IntKind.u64, IntKind.i64, IntKind.i64, IntKind.i64, IntKind.i64, IntKind.i64,
                    IntKind.i64]
                  zs),
              some
                (Blk.var (41 : Nat)
                  [IV.int IntKind.i64 lev, IV.int IntKind.u64 key, IV.int IntKind.i64 fr, IV.int IntKind.i64 to,
                    IV.int IntKind.i64 k0, IV.int IntKind.i64 k1, IV.int IntKind.i64 k2, IV.int IntKind.i64 k3])] ∧
        pre30c xs lev to f q f) ∧
    br (decide ((↑(runEnd xs lev q to.toNat f.toNat) : Int) > f))
      (((0 : Int) ≤ at_ ∧ at_ < (↑zs.length : Int)) ∧
        ((0 : Int) ≤ q ∧ q < (↑(4 : Nat) : Int)) ∧
          ((0 : Int) ≤ at_ ∧ at_ < (↑zs.length : Int) ∧ (0 : Int) ≤ q ∧ (4 : Nat) + q.toNat < (8 : Nat)) ∧
            ((0 : Int) ≤ f ∧ f < (↑xs.length : Int)) ∧
              ((0 : Int) ≤ f ∧ f < (↑xs.length : Int)) ∧
                (0 : Int) ≤ IntKind.i64.wrap ((62 : Int) - IntKind.i64.wrap ((2 : Int) * lev)) ∧
                  (0 : Int) ≤ IntKind.i64.wrap ((62 : Int) - IntKind.i64.wrap ((2 : Int) * lev)) ∧
                    ([IV.sl (0 : Nat), IV.sl (1 : Nat),
                            IV.agg
                              [IV.int IntKind.i64 (IntKind.i64.wrap (lev + (1 : Int))),
                                IV.int IntKind.u64
                                  (IntKind.u64.wrap
                                    ((rd xs f.toNat (0 : Nat)).fdiv
                                        ((2 : Int) ^
                                          min (IntKind.i64.wrap ((62 : Int) - IntKind.i64.wrap ((2 : Int) * lev))).toNat
                                            (64 : Nat)) *
                                      (2 : Int) ^
                                        min (IntKind.i64.wrap ((62 : Int) - IntKind.i64.wrap ((2 : Int) * lev))).toNat
                                          (64 : Nat))),
                                IV.int IntKind.i64 f, IV.int IntKind.i64 (↑(runEnd xs lev q to.toNat f.toNat) : Int),
                                IV.int IntKind.i64 (0 : Int), IV.int IntKind.i64 (0 : Int),
                                IV.int IntKind.i64 (0 : Int), IV.int IntKind.i64 (0 : Int)]] =
                          [IV.sl (0 : Nat), IV.sl (1 : Nat),
                            IV.agg
                              [IV.int IntKind.i64 (IntKind.i64.wrap (lev + (1 : Int))),
                                IV.int IntKind.u64
                                  (IntKind.u64.wrap
                                    ((rd xs f.toNat (0 : Nat)).fdiv
                                        ((2 : Int) ^
                                          min (IntKind.i64.wrap ((62 : Int) - IntKind.i64.wrap ((2 : Int) * lev))).toNat
                                            (64 : Nat)) *
                                      (2 : Int) ^
                                        min (IntKind.i64.wrap ((62 : Int) - IntKind.i64.wrap ((2 : Int) * lev))).toNat
                                          (64 : Nat))),
                                IV.int IntKind.i64 f, IV.int IntKind.i64 (↑(runEnd xs lev q to.toNat f.toNat) : Int),
                                IV.int IntKind.i64 (0 : Int), IV.int IntKind.i64 (0 : Int),
                                IV.int IntKind.i64 (0 : Int), IV.int IntKind.i64 (0 : Int)]] ∧
                        [some
                                (Blk.row (41 : Nat)
                                  [IntKind.i64, IntKind.u64, IntKind.i64, IntKind.i64, IntKind.i64, IntKind.i64,
                                    IntKind.i64, IntKind.i64]
                                  (zs.modify at_.toNat fun x0 =>
                                    [if (↑(nat_lit 0) : Int) = (↑(4 : Nat) : Int) + q then (↑zs.length : Int)
                                      else x0.getD (nat_lit 0) (0 : Int),
                                      if (↑(nat_lit 1) : Int) = (↑(4 : Nat) : Int) + q then (↑zs.length : Int)
                                      else x0.getD (nat_lit 1) (0 : Int),
                                      if (↑(nat_lit 2) : Int) = (↑(4 : Nat) : Int) + q then (↑zs.length : Int)
                                      else x0.getD (nat_lit 2) (0 : Int),
                                      if (↑(nat_lit 3) : Int) = (↑(4 : Nat) : Int) + q then (↑zs.length : Int)
                                      else x0.getD (nat_lit 3) (0 : Int),
                                      if (↑(nat_lit 4) : Int) = (↑(4 : Nat) : Int) + q then (↑zs.length : Int)
                                      else x0.getD (nat_lit 4) (0 : Int),
                                      if (↑(nat_lit 5) : Int) = (↑(4 : Nat) : Int) + q then (↑zs.length : Int)
                                      else x0.getD (nat_lit 5) (0 : Int),
                                      if (↑(nat_lit 6) : Int) = (↑(4 : Nat) : Int) + q then (↑zs.length : Int)
                                      else x0.getD (nat_lit 6) (0 : Int),
                                      if (↑(nat_lit 7) : Int) = (↑(4 : Nat) : Int) + q then (↑zs.length : Int)
                                      else x0.getD (nat_lit 7) (0 : Int)])),
                              some (Blk.ro [IntKind.u64, IntKind.i64] xs)] =
                            [some
                                (Blk.row (41 : Nat)
                                  [IntKind.i64, IntKind.u64, IntKind.i64, IntKind.i64, IntKind.i64, IntKind.i64,
                                    IntKind.i64, IntKind.i64]
                                  (zs.modify at_.toNat fun x0 =>
                                    [if (↑(nat_lit 0) : Int) = (↑(4 : Nat) : Int) + q then (↑zs.length : Int)
                                      else x0.getD (nat_lit 0) (0 : Int),
                                      if (↑(nat_lit 1) : Int) = (↑(4 : Nat) : Int) + q then (↑zs.length : Int)
                                      else x0.getD (nat_lit 1) (0 : Int),
                                      if (↑(nat_lit 2) : Int) = (↑(4 : Nat) : Int) + q then (↑zs.length : Int)
                                      else x0.getD (nat_lit 2) (0 : Int),
                                      if (↑(nat_lit 3) : Int) = (↑(4 : Nat) : Int) + q then (↑zs.length : Int)
                                      else x0.getD (nat_lit 3) (0 : Int),
                                      if (↑(nat_lit 4) : Int) = (↑(4 : Nat) : Int) + q then (↑zs.length : Int)
                                      else x0.getD (nat_lit 4) (0 : Int),
                                      if (↑(nat_lit 5) : Int) = (↑(4 : Nat) : Int) + q then (↑zs.length : Int)
                                      else x0.getD (nat_lit 5) (0 : Int),
                                      if (↑(nat_lit 6) : Int) = (↑(4 : Nat) : Int) + q then (↑zs.length : Int)
                                      else x0.getD (nat_lit 6) (0 : Int),
                                      if (↑(nat_lit 7) : Int) = (↑(4 : Nat) : Int) + q then (↑zs.length : Int)
                                      else x0.getD (nat_lit 7) (0 : Int)])),
                              some (Blk.ro [IntKind.u64, IntKind.i64] xs)] ∧
                          pre30 n xs
                            (zs.modify at_.toNat fun x0 =>
                              [if (↑(nat_lit 0) : Int) = (↑(4 : Nat) : Int) + q then (↑zs.length : Int)
                                else x0.getD (nat_lit 0) (0 : Int),
                                if (↑(nat_lit 1) : Int) = (↑(4 : Nat) : Int) + q then (↑zs.length : Int)
                                else x0.getD (nat_lit 1) (0 : Int),
                                if (↑(nat_lit 2) : Int) = (↑(4 : Nat) : Int) + q then (↑zs.length : Int)
                                else x0.getD (nat_lit 2) (0 : Int),
                                if (↑(nat_lit 3) : Int) = (↑(4 : Nat) : Int) + q then (↑zs.length : Int)
                                else x0.getD (nat_lit 3) (0 : Int),
                                if (↑(nat_lit 4) : Int) = (↑(4 : Nat) : Int) + q then (↑zs.length : Int)
                                else x0.getD (nat_lit 4) (0 : Int),
                                if (↑(nat_lit 5) : Int) = (↑(4 : Nat) : Int) + q then (↑zs.length : Int)
                                else x0.getD (nat_lit 5) (0 : Int),
                                if (↑(nat_lit 6) : Int) = (↑(4 : Nat) : Int) + q then (↑zs.length : Int)
                                else x0.getD (nat_lit 6) (0 : Int),
                                if (↑(nat_lit 7) : Int) = (↑(4 : Nat) : Int) + q then (↑zs.length : Int)
                                else x0.getD (nat_lit 7) (0 : Int)])
                            (IntKind.i64.wrap (lev + (1 : Int))) f (↑(runEnd xs lev q to.toNat f.toNat) : Int)) ∧
                      k Out.normal
                        (St.mk
                          [some (IV.sl (2 : Nat)), some (IV.sl (1 : Nat)), none, none, none,
                            some (IV.ptr (3 : Nat) (0 : Nat)), none, some (IV.int IntKind.i64 at_), none,
                            some (IV.int IntKind.i64 (↑(runEnd xs lev q to.toNat f.toNat) : Int)),
                            some (IV.int IntKind.i64 (IntKind.i64.wrap (q + (1 : Int)))), none, none, none, none, none,
                            none, none, none, none, none, none, none, none, none, none, none, none, none, none, none,
                            none, none, none, none, none, none, none, none, none, none, none, none, none, none, none,
                            none, none, none, none, none, none, none, none, none, none, none, none, none, none, none,
                            none, none, none, none, none, none, none, none, none, none, none, none, none, none, none,
                            none, none, none, none, none, none, none, none, none, none, none, none, none, none, none,
                            none, none, none, none, none, none, none, none, none, none]
                          [none, some (Blk.ro [IntKind.u64, IntKind.i64] xs),
                            some
                              (Blk.row (41 : Nat)
                                [IntKind.i64, IntKind.u64, IntKind.i64, IntKind.i64, IntKind.i64, IntKind.i64,
                                  IntKind.i64, IntKind.i64]
                                ((zs.modify at_.toNat fun x0 =>
                                    [if (↑(nat_lit 0) : Int) = (↑(4 : Nat) : Int) + q then (↑zs.length : Int)
                                      else x0.getD (nat_lit 0) (0 : Int),
                                      if (↑(nat_lit 1) : Int) = (↑(4 : Nat) : Int) + q then (↑zs.length : Int)
                                      else x0.getD (nat_lit 1) (0 : Int),
                                      if (↑(nat_lit 2) : Int) = (↑(4 : Nat) : Int) + q then (↑zs.length : Int)
                                      else x0.getD (nat_lit 2) (0 : Int),
                                      if (↑(nat_lit 3) : Int) = (↑(4 : Nat) : Int) + q then (↑zs.length : Int)
                                      else x0.getD (nat_lit 3) (0 : Int),
                                      if (↑(nat_lit 4) : Int) = (↑(4 : Nat) : Int) + q then (↑zs.length : Int)
                                      else x0.getD (nat_lit 4) (0 : Int),
                                      if (↑(nat_lit 5) : Int) = (↑(4 : Nat) : Int) + q then (↑zs.length : Int)
                                      else x0.getD (nat_lit 5) (0 : Int),
                                      if (↑(nat_lit 6) : Int) = (↑(4 : Nat) : Int) + q then (↑zs.length : Int)
                                      else x0.getD (nat_lit 6) (0 : Int),
                                      if (↑(nat_lit 7) : Int) = (↑(4 : Nat) : Int) + q then (↑zs.length : Int)
                                      else x0.getD (nat_lit 7) (0 : Int)]) ++
                                  treeF xs n (IntKind.i64.wrap (lev + (1 : Int))).toNat
                                    (IntKind.u64.wrap
                                      ((rd xs f.toNat (0 : Nat)).fdiv
                                          ((2 : Int) ^
                                            min
                                              (IntKind.i64.wrap ((62 : Int) - IntKind.i64.wrap ((2 : Int) * lev))).toNat
                                              (64 : Nat)) *
                                        (2 : Int) ^
                                          min (IntKind.i64.wrap ((62 : Int) - IntKind.i64.wrap ((2 : Int) * lev))).toNat
                                            (64 : Nat)))
                                    f.toNat (↑(runEnd xs lev q to.toNat f.toNat) : Int).toNat
                                    (zs.modify at_.toNat fun x0 =>
                                        [if (↑(nat_lit 0) : Int) = (↑(4 : Nat) : Int) + q then (↑zs.length : Int)
                                          else x0.getD (nat_lit 0) (0 : Int),
                                          if (↑(nat_lit 1) : Int) = (↑(4 : Nat) : Int) + q then (↑zs.length : Int)
                                          else x0.getD (nat_lit 1) (0 : Int),
                                          if (↑(nat_lit 2) : Int) = (↑(4 : Nat) : Int) + q then (↑zs.length : Int)
                                          else x0.getD (nat_lit 2) (0 : Int),
                                          if (↑(nat_lit 3) : Int) = (↑(4 : Nat) : Int) + q then (↑zs.length : Int)
                                          else x0.getD (nat_lit 3) (0 : Int),
                                          if (↑(nat_lit 4) : Int) = (↑(4 : Nat) : Int) + q then (↑zs.length : Int)
                                          else x0.getD (nat_lit 4) (0 : Int),
                                          if (↑(nat_lit 5) : Int) = (↑(4 : Nat) : Int) + q then (↑zs.length : Int)
                                          else x0.getD (nat_lit 5) (0 : Int),
                                          if (↑(nat_lit 6) : Int) = (↑(4 : Nat) : Int) + q then (↑zs.length : Int)
                                          else x0.getD (nat_lit 6) (0 : Int),
                                          if (↑(nat_lit 7) : Int) = (↑(4 : Nat) : Int) + q then (↑zs.length : Int)
                                          else x0.getD (nat_lit 7) (0 : Int)]).length)),
                            some
                              (Blk.var (41 : Nat)
                                [IV.int IntKind.i64 lev, IV.int IntKind.u64 key, IV.int IntKind.i64 fr,
                                  IV.int IntKind.i64 to, IV.int IntKind.i64 k0, IV.int IntKind.i64 k1,
                                  IV.int IntKind.i64 k2, IV.int IntKind.i64 k3])]))
      (k Out.normal
        (St.mk
          [some (IV.sl (2 : Nat)), some (IV.sl (1 : Nat)), none, none, none, some (IV.ptr (3 : Nat) (0 : Nat)), none,
            some (IV.int IntKind.i64 at_), none, some (IV.int IntKind.i64 (↑(runEnd xs lev q to.toNat f.toNat) : Int)),
            some (IV.int IntKind.i64 (IntKind.i64.wrap (q + (1 : Int)))), none, none, none, none, none, none, none,
            none, none, none, none, none, none, none, none, none, none, none, none, none, none, none, none, none, none,
            none, none, none, none, none, none, none, none, none, none, none, none, none, none, none, none, none, none,
            none, none, none, none, none, none, none, none, none, none, none, none, none, none, none, none, none, none,
            none, none, none, none, none, none, none, none, none, none, none, none, none, none, none, none, none, none,
            none, none, none, none, none, none, none, none, none, none, none]
          [none, some (Blk.ro [IntKind.u64, IntKind.i64] xs),
            some
              (Blk.row (41 : Nat)
                [IntKind.i64, IntKind.u64, IntKind.i64, IntKind.i64, IntKind.i64, IntKind.i64, IntKind.i64, IntKind.i64]
                zs),
            some
              (Blk.var (41 : Nat)
                [IV.int IntKind.i64 lev, IV.int IntKind.u64 key, IV.int IntKind.i64 fr, IV.int IntKind.i64 to,
                  IV.int IntKind.i64 k0, IV.int IntKind.i64 k1, IV.int IntKind.i64 k2, IV.int IntKind.i64 k3])])))
  (k (Out.exit (2 : Nat))
    (St.mk
      [some (IV.sl (2 : Nat)), none, none, none, none, none, none, none, none, none, none, none, none, none, none, none,
        none, none, none, none, none, none, none, none, none, none, none, none, none, none, none, none, none, none,
        none, none, none, none, none, none, none, none, none, none, none, none, none, none, none, none, none, none,
        none, none, none, none, none, none, none, none, none, none, none, none, none, none, none, none, none, none,
        none, none, none, none, none, none, none, none, none, none, none, none, none, none, none, none, none, none,
        none, none, none, none, none, none, none, none, none, none, none, none, none]
      [none, some (Blk.ro [IntKind.u64, IntKind.i64] xs),
        some
          (Blk.row (41 : Nat)
            [IntKind.i64, IntKind.u64, IntKind.i64, IntKind.i64, IntKind.i64, IntKind.i64, IntKind.i64, IntKind.i64]
            zs)]))) := by kernel_rfl
theorem v30 (n : Nat) (xs zs : List (List Int)) (lev key fr to k0 k1 k2 k3 : Int) (K : IV → List (Option Blk) → Prop) : (runFn Try.prog (N30 n) 1 30 [.sl 0, .sl 1, .agg (nodeV lev key fr to k0 k1 k2 k3)] [some (.row 41 nk zs), ro xs] fun v b1 => gcV 2 v b1 K) = ((zs.length +
        ((List.replicate (1 : Nat) (List.replicate (8 : Nat) (0 : Int))).set (0 : Nat)
            [lev, key, fr, to, k0, k1, k2, k3]).length) *
      (64 : Nat) ≤
    (140737488355328 : Nat) ∧
  ((2 : Nat) = (2 : Nat) ∧
      St.mk
            [some (IV.sl (2 : Nat)), some (IV.sl (1 : Nat)), none, none, none, some (IV.ptr (3 : Nat) (0 : Nat)), none,
              some (IV.int IntKind.i64 (↑zs.length : Int)), some (IV.int IntKind.i64 (0 : Int)), none, none, none, none,
              none, none, none, none, none, none, none, none, none, none, none, none, none, none, none, none, none,
              none, none, none, none, none, none, none, none, none, none, none, none, none, none, none, none, none,
              none, none, none, none, none, none, none, none, none, none, none, none, none, none, none, none, none,
              none, none, none, none, none, none, none, none, none, none, none, none, none, none, none, none, none,
              none, none, none, none, none, none, none, none, none, none, none, none, none, none, none, none, none,
              none, none, none]
            [none, some (Blk.ro [IntKind.u64, IntKind.i64] xs),
              some
                (Blk.row (41 : Nat)
                  [IntKind.i64, IntKind.u64, IntKind.i64, IntKind.i64, IntKind.i64, IntKind.i64, IntKind.i64,
                    IntKind.i64]
                  (zs ++
                    (List.replicate (1 : Nat) (List.replicate (8 : Nat) (0 : Int))).set (0 : Nat)
                      [lev, key, fr, to, k0, k1, k2, k3])),
              some
                (Blk.var (41 : Nat)
                  [IV.int IntKind.i64 lev, IV.int IntKind.u64 key, IV.int IntKind.i64 fr, IV.int IntKind.i64 to,
                    IV.int IntKind.i64 k0, IV.int IntKind.i64 k1, IV.int IntKind.i64 k2, IV.int IntKind.i64 k3])] =
          St.mk
            [some (IV.sl (2 : Nat)), some (IV.sl (1 : Nat)), none, none, none, some (IV.ptr (3 : Nat) (0 : Nat)), none,
              some (IV.int IntKind.i64 (↑zs.length : Int)), some (IV.int IntKind.i64 (0 : Int)), none, none, none, none,
              none, none, none, none, none, none, none, none, none, none, none, none, none, none, none, none, none,
              none, none, none, none, none, none, none, none, none, none, none, none, none, none, none, none, none,
              none, none, none, none, none, none, none, none, none, none, none, none, none, none, none, none, none,
              none, none, none, none, none, none, none, none, none, none, none, none, none, none, none, none, none,
              none, none, none, none, none, none, none, none, none, none, none, none, none, none, none, none, none,
              none, none, none]
            [none, some (Blk.ro [IntKind.u64, IntKind.i64] xs),
              some
                (Blk.row (41 : Nat)
                  [IntKind.i64, IntKind.u64, IntKind.i64, IntKind.i64, IntKind.i64, IntKind.i64, IntKind.i64,
                    IntKind.i64]
                  (zs ++
                    (List.replicate (1 : Nat) (List.replicate (8 : Nat) (0 : Int))).set (0 : Nat)
                      [lev, key, fr, to, k0, k1, k2, k3])),
              some
                (Blk.var (41 : Nat)
                  [IV.int IntKind.i64 lev, IV.int IntKind.u64 key, IV.int IntKind.i64 fr, IV.int IntKind.i64 to,
                    IV.int IntKind.i64 k0, IV.int IntKind.i64 k1, IV.int IntKind.i64 k2, IV.int IntKind.i64 k3])] ∧
        pre30a
          (zs ++
            (List.replicate (1 : Nat) (List.replicate (8 : Nat) (0 : Int))).set (0 : Nat)
              [lev, key, fr, to, k0, k1, k2, k3])
          lev key fr to k0 k1 k2 k3 (↑zs.length : Int) (0 : Int)) ∧
    br (decide (IntKind.i64.wrap (to - fr) ≤ (4 : Int)))
      (K (IV.sl (2 : Nat))
        [none, some (Blk.ro [IntKind.u64, IntKind.i64] xs),
          some
            (Blk.row (41 : Nat)
              [IntKind.i64, IntKind.u64, IntKind.i64, IntKind.i64, IntKind.i64, IntKind.i64, IntKind.i64, IntKind.i64]
              (List.take (↑zs.length : Int).toNat
                  (zs ++
                    (List.replicate (1 : Nat) (List.replicate (8 : Nat) (0 : Int))).set (0 : Nat)
                      [lev, key, fr, to, k0, k1, k2, k3]) ++
                [leaf8 lev key fr to]))])
      (br (decide (lev ≥ (32 : Int)))
        (K (IV.sl (2 : Nat))
          [none, some (Blk.ro [IntKind.u64, IntKind.i64] xs),
            some
              (Blk.row (41 : Nat)
                [IntKind.i64, IntKind.u64, IntKind.i64, IntKind.i64, IntKind.i64, IntKind.i64, IntKind.i64, IntKind.i64]
                (List.take (↑zs.length : Int).toNat
                    (zs ++
                      (List.replicate (1 : Nat) (List.replicate (8 : Nat) (0 : Int))).set (0 : Nat)
                        [lev, key, fr, to, k0, k1, k2, k3]) ++
                  [leaf8 lev key fr to]))])
        (((2 : Nat) = (2 : Nat) ∧
            St.mk
                  [some (IV.sl (2 : Nat)), some (IV.sl (1 : Nat)), none, none, none, some (IV.ptr (3 : Nat) (0 : Nat)),
                    none, some (IV.int IntKind.i64 (↑zs.length : Int)), none, some (IV.int IntKind.i64 fr),
                    some (IV.int IntKind.i64 (0 : Int)), none, none, none, none, none, none, none, none, none, none,
                    none, none, none, none, none, none, none, none, none, none, none, none, none, none, none, none,
                    none, none, none, none, none, none, none, none, none, none, none, none, none, none, none, none,
                    none, none, none, none, none, none, none, none, none, none, none, none, none, none, none, none,
                    none, none, none, none, none, none, none, none, none, none, none, none, none, none, none, none,
                    none, none, none, none, none, none, none, none, none, none, none, none, none, none, none, none]
                  [none, some (Blk.ro [IntKind.u64, IntKind.i64] xs),
                    some
                      (Blk.row (41 : Nat)
                        [IntKind.i64, IntKind.u64, IntKind.i64, IntKind.i64, IntKind.i64, IntKind.i64, IntKind.i64,
                          IntKind.i64]
                        (List.take (↑zs.length : Int).toNat
                            (zs ++
                              (List.replicate (1 : Nat) (List.replicate (8 : Nat) (0 : Int))).set (0 : Nat)
                                [lev, key, fr, to, k0, k1, k2, k3]) ++
                          [leaf8 lev key fr to])),
                    some
                      (Blk.var (41 : Nat)
                        [IV.int IntKind.i64 lev, IV.int IntKind.u64 key, IV.int IntKind.i64 fr, IV.int IntKind.i64 to,
                          IV.int IntKind.i64 k0, IV.int IntKind.i64 k1, IV.int IntKind.i64 k2,
                          IV.int IntKind.i64 k3])] =
                St.mk
                  [some (IV.sl (2 : Nat)), some (IV.sl (1 : Nat)), none, none, none, some (IV.ptr (3 : Nat) (0 : Nat)),
                    none, some (IV.int IntKind.i64 (↑zs.length : Int)), none, some (IV.int IntKind.i64 fr),
                    some (IV.int IntKind.i64 (0 : Int)), none, none, none, none, none, none, none, none, none, none,
                    none, none, none, none, none, none, none, none, none, none, none, none, none, none, none, none,
                    none, none, none, none, none, none, none, none, none, none, none, none, none, none, none, none,
                    none, none, none, none, none, none, none, none, none, none, none, none, none, none, none, none,
                    none, none, none, none, none, none, none, none, none, none, none, none, none, none, none, none,
                    none, none, none, none, none, none, none, none, none, none, none, none, none, none, none, none]
                  [none, some (Blk.ro [IntKind.u64, IntKind.i64] xs),
                    some
                      (Blk.row (41 : Nat)
                        [IntKind.i64, IntKind.u64, IntKind.i64, IntKind.i64, IntKind.i64, IntKind.i64, IntKind.i64,
                          IntKind.i64]
                        (List.take (↑zs.length : Int).toNat
                            (zs ++
                              (List.replicate (1 : Nat) (List.replicate (8 : Nat) (0 : Int))).set (0 : Nat)
                                [lev, key, fr, to, k0, k1, k2, k3]) ++
                          [leaf8 lev key fr to])),
                    some
                      (Blk.var (41 : Nat)
                        [IV.int IntKind.i64 lev, IV.int IntKind.u64 key, IV.int IntKind.i64 fr, IV.int IntKind.i64 to,
                          IV.int IntKind.i64 k0, IV.int IntKind.i64 k1, IV.int IntKind.i64 k2,
                          IV.int IntKind.i64 k3])] ∧
              pre30b n xs
                (List.take (↑zs.length : Int).toNat
                    (zs ++
                      (List.replicate (1 : Nat) (List.replicate (8 : Nat) (0 : Int))).set (0 : Nat)
                        [lev, key, fr, to, k0, k1, k2, k3]) ++
                  [leaf8 lev key fr to])
                lev key fr to (↑zs.length : Int) fr (0 : Int)) ∧
          K (IV.sl (2 : Nat))
            [none, some (Blk.ro [IntKind.u64, IntKind.i64] xs),
              some
                (Blk.row (41 : Nat)
                  [IntKind.i64, IntKind.u64, IntKind.i64, IntKind.i64, IntKind.i64, IntKind.i64, IntKind.i64,
                    IntKind.i64]
                  (List.take (↑zs.length : Int).toNat
                      (List.take (↑zs.length : Int).toNat
                          (zs ++
                            (List.replicate (1 : Nat) (List.replicate (8 : Nat) (0 : Int))).set (0 : Nat)
                              [lev, key, fr, to, k0, k1, k2, k3]) ++
                        [leaf8 lev key fr to]) ++
                    treeF xs (n + (1 : Nat)) lev.toNat key fr.toNat to.toNat (↑zs.length : Int).toNat))]))) := by kernel_rfl
noncomputable def N22 : Know := ⟨fun g => if g = 18 then some spRise else none, fun _ _ => none, fun g => if g = 30 then some (G30 33) else none⟩
theorem v22 (xs : List (List Int)) (K : IV → List Blk → Prop) : (comes Try.prog N22 1 22 [.sl 0] [.ro [.u64, .i64] xs] K) = (br ((↑xs.length : Int) == (0 : Int))
  (K (IV.sl (0 : Nat))
    [Blk.row (41 : Nat)
        [IntKind.i64, IntKind.u64, IntKind.i64, IntKind.i64, IntKind.i64, IntKind.i64, IntKind.i64, IntKind.i64] []])
  (preRise [IV.sl (0 : Nat)] [Blk.ro [IntKind.u64, IntKind.i64] xs] ∧
    br (!bp (Rises xs))
      (K (IV.sl (0 : Nat))
        [Blk.row (41 : Nat)
            [IntKind.i64, IntKind.u64, IntKind.i64, IntKind.i64, IntKind.i64, IntKind.i64, IntKind.i64, IntKind.i64]
            []])
      (([IV.sl (0 : Nat), IV.sl (1 : Nat),
              IV.agg
                [IV.int IntKind.i64 (0 : Int), IV.int IntKind.u64 (0 : Int), IV.int IntKind.i64 (0 : Int),
                  IV.int IntKind.i64 (↑xs.length : Int), IV.int IntKind.i64 (0 : Int), IV.int IntKind.i64 (0 : Int),
                  IV.int IntKind.i64 (0 : Int), IV.int IntKind.i64 (0 : Int)]] =
            [IV.sl (0 : Nat), IV.sl (1 : Nat),
              IV.agg
                [IV.int IntKind.i64 (0 : Int), IV.int IntKind.u64 (0 : Int), IV.int IntKind.i64 (0 : Int),
                  IV.int IntKind.i64 (↑xs.length : Int), IV.int IntKind.i64 (0 : Int), IV.int IntKind.i64 (0 : Int),
                  IV.int IntKind.i64 (0 : Int), IV.int IntKind.i64 (0 : Int)]] ∧
          [some
                  (Blk.row (41 : Nat)
                    [IntKind.i64, IntKind.u64, IntKind.i64, IntKind.i64, IntKind.i64, IntKind.i64, IntKind.i64,
                      IntKind.i64]
                    []),
                some (Blk.ro [IntKind.u64, IntKind.i64] xs)] =
              [some
                  (Blk.row (41 : Nat)
                    [IntKind.i64, IntKind.u64, IntKind.i64, IntKind.i64, IntKind.i64, IntKind.i64, IntKind.i64,
                      IntKind.i64]
                    []),
                some (Blk.ro [IntKind.u64, IntKind.i64] xs)] ∧
            pre30 (33 : Nat) xs [] (0 : Int) (0 : Int) (↑xs.length : Int)) ∧
        K (IV.sl (0 : Nat))
          [Blk.row (41 : Nat)
              [IntKind.i64, IntKind.u64, IntKind.i64, IntKind.i64, IntKind.i64, IntKind.i64, IntKind.i64, IntKind.i64]
              ([] ++ treeF xs (33 : Nat) (0 : Nat) (0 : Int) (0 : Nat) (↑xs.length : Int).toNat (0 : Nat))]))) := by kernel_rfl

