import Derived.Test.YtbgleobdhjghlaaR1F4
set_option linter.unusedVariables false
/- awake, SortAll -/
namespace Go.Vs.R1
open Go Go.Proofs Go.Vs
def preNone (l : List IV) (bs : List Blk) : Prop := l = [] ∧ bs = []
def spTrue : Vs.Spec := ⟨preNone, fun _ _ => (.bool true, [])⟩
noncomputable def Γ0 : FuncId → Option Vs.Spec := fun g => if g = 15 then some spSort else if g = 16 then some spSort else if g = 17 then some spRise else if g = 18 then some spRise else if g = 14 then some spSame else none
noncomputable def Γs : FuncId → Option Vs.Spec := fun g => if g = 13 then some spTrue else Γ0 g
noncomputable def N0 : Know := ⟨Γ0, fun _ _ => none, fun _ => none⟩
noncomputable def Ns : Know := ⟨Γs, fun _ _ => none, fun _ => none⟩
theorem v13 (K : IV → List Blk → Prop) : (comes Try.prog N0 1 13 [] [] K) = (preSort [IV.sl (0 : Nat)] [Blk.ro [IntKind.u64, IntKind.i64] [[(5 : Int), (0 : Int)], [(2 : Int), (1 : Int)]]] ∧
  br
    ((↑(sortF
              (((List.replicate (2 : Nat) (List.replicate (2 : Nat) (0 : Int))).set (0 : Nat)
                    [(5 : Int), (0 : Int)]).set
                (1 : Nat) [(2 : Int), (1 : Int)])).length :
        Int) ==
      (2 : Int))
    (((0 : Int) ≤ (0 : Int) ∧
        (0 : Int) <
          (↑(sortF
                  (((List.replicate (2 : Nat) (List.replicate (2 : Nat) (0 : Int))).set (0 : Nat)
                        [(5 : Int), (0 : Int)]).set
                    (1 : Nat) [(2 : Int), (1 : Int)])).length :
            Int)) ∧
      ((0 : Int) ≤ (0 : Int) ∧
          (0 : Int) <
            (↑(sortF
                    (((List.replicate (2 : Nat) (List.replicate (2 : Nat) (0 : Int))).set (0 : Nat)
                          [(5 : Int), (0 : Int)]).set
                      (1 : Nat) [(2 : Int), (1 : Int)])).length :
              Int)) ∧
        br
          (rd
              (sortF
                (((List.replicate (2 : Nat) (List.replicate (2 : Nat) (0 : Int))).set (0 : Nat)
                      [(5 : Int), (0 : Int)]).set
                  (1 : Nat) [(2 : Int), (1 : Int)]))
              (0 : Nat) (1 : Nat) ==
            (1 : Int))
          (preRise [IV.sl (0 : Nat)]
              [Blk.ro [IntKind.u64, IntKind.i64]
                  (sortF
                    (((List.replicate (2 : Nat) (List.replicate (2 : Nat) (0 : Int))).set (0 : Nat)
                          [(5 : Int), (0 : Int)]).set
                      (1 : Nat) [(2 : Int), (1 : Int)]))] ∧
            K
              (IV.bool
                (bp
                  (Rises
                    (sortF
                      (((List.replicate (2 : Nat) (List.replicate (2 : Nat) (0 : Int))).set (0 : Nat)
                            [(5 : Int), (0 : Int)]).set
                        (1 : Nat) [(2 : Int), (1 : Int)])))))
              [])
          (K (IV.bool false) []))
    (K (IV.bool false) [])) := by kernel_rfl
theorem v3 (xs : List (List Int)) (K : IV → List Blk → Prop) : (comes Try.prog Ns 1 3 [.sl 0] [.ro [.u64, .i64] xs] K) = (br (decide ((↑xs.length : Int) > (200 : Int))) (preNone [] [] ∧ K (IV.bool true) [])
  (((0 : Nat) + xs.length) * (16 : Nat) ≤ (140737488355328 : Nat) ∧
    preSort [IV.sl (0 : Nat)] [Blk.ro [IntKind.u64, IntKind.i64] xs] ∧
      preSort [IV.sl (0 : Nat)] [Blk.ro [IntKind.u64, IntKind.i64] xs] ∧
        preSame [IV.sl (0 : Nat), IV.sl (1 : Nat)]
            [Blk.ro [IntKind.u64, IntKind.i64] (sortF xs), Blk.ro [IntKind.u64, IntKind.i64] (sortF xs)] ∧
          br (bp (sortF xs = sortF xs))
            (preRise [IV.sl (0 : Nat)] [Blk.ro [IntKind.u64, IntKind.i64] xs] ∧
              preRise [IV.sl (0 : Nat)] [Blk.ro [IntKind.u64, IntKind.i64] xs] ∧
                br (bp (Rises xs) == bp (Rises xs))
                  (preSame [IV.sl (0 : Nat), IV.sl (1 : Nat)]
                      [Blk.ro [IntKind.u64, IntKind.i64] xs,
                        Blk.ro [IntKind.u64, IntKind.i64]
                          (List.replicate (0 : Nat) (List.replicate (2 : Nat) (0 : Int)) ++ xs)] ∧
                    br (bp (xs = List.replicate (0 : Nat) (List.replicate (2 : Nat) (0 : Int)) ++ xs))
                      (preNone [] [] ∧ K (IV.bool true) []) (K (IV.bool false) []))
                  (K (IV.bool false) []))
            (K (IV.bool false) []))) := by kernel_rfl

