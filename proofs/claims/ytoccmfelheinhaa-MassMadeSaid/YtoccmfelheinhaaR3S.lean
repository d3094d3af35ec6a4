import Derived.Test.YtoccmfelheinhaaVs2
import Derived.Test.YtoccmfelheinhaaR3A
import Derived.IntWalk
set_option linter.unusedVariables false
/- the sort's loops: states and conditions -/
namespace Go.Vs.RS
open Go Go.Proofs Go.Vs
def T (n : Nat) (l : List (Nat × IV)) : List (Option IV) := l.foldl (fun t p => t.set p.1 (some p.2)) (List.replicate n none)
abbrev i64 (n : Int) : IV := .int .i64 n
abbrev ro (xs : List (List Int)) : Option Blk := some (.ro [.u64, .i64] xs)
abbrev row (xs : List (List Int)) : Option Blk := some (.row 174 [.u64, .i64] xs)
def noKnow : Know := ⟨fun _ => none, fun _ _ => none, fun _ => none⟩
def rows2 (xs : List (List Int)) : Prop := ∀ x ∈ xs, ∃ a b, x = [a, b]
def key (x : List Int) : Int := x.getD 0 0
def sameF (xs zs : List (List Int)) : Prop := ∀ v : Int, zs.filter (fun x => decide (key x = v)) = xs.filter (fun x => decide (key x = v))
def srt (n : Nat) (zs : List (List Int)) : Prop := ∀ p q : Nat, p < q → q < n → rd zs p 0 ≤ rd zs q 0
structure Sorted (xs zs : List (List Int)) : Prop where
  len : zs.length = xs.length
  same : sameF xs zs
  up : srt zs.length zs
  two : rows2 zs

def S16 (xs zs : List (List Int)) (i : Int) : St := ⟨T 53 [(3, .sl 1), (4, i64 i)], [ro xs, row zs]⟩
def S16a (xs zs : List (List Int)) (i j : Int) : St := ⟨T 53 [(3, .sl 1), (4, i64 i), (5, i64 j)], [ro xs, row zs]⟩
def L16a : LoopS := fun n0 st K => (n0 = 1 ∧ st = S16a (st.x 0) (st.x 1) (st.i 4) (st.i 4) ∧ rows2 (st.x 1) ∧ 1 ≤ st.i 4 ∧ st.i 4 < (st.x 1).length ∧ (st.x 1).length ≤ 1000000 ∧ srt (st.i 4).toNat (st.x 1)) ∧
  ∀ zs' : List (List Int), zs'.length = (st.x 1).length → sameF (st.x 1) zs' → srt ((st.i 4).toNat + 1) zs' → rows2 zs' → K (.exit 2) (S16 (st.x 0) zs' (st.i 4))
def L16 : LoopS := fun n0 st K => (n0 = 1 ∧ st = S16 (st.x 0) (st.x 1) 1 ∧ rows2 (st.x 1) ∧ (st.x 1).length ≤ 1000000) ∧
  ∀ zs' : List (List Int), Sorted (st.x 1) zs' → K (.exit 0) ⟨T 53 [(3, .sl 1)], [ro (st.x 0), row zs']⟩
def N16 : Know := ⟨fun _ => none, fun f i => if f = 115 then (if i = 0 then some L16 else if i = 1 then some L16a else none) else none, fun _ => none⟩
theorem r16a (N : Know) (xs zs : List (List Int)) (i j : Int) (k : Out → St → Prop) : (round (envOf Try.prog N 0) 115 1 1 (lp Try.prog 115 1) (S16a xs zs i j) k) = (br (decide (j > (0 : Int))) (((0 : Int) ≤ j ∧ j < (↑zs.length : Int)) ∧ ((0 : Int) ≤ j ∧ j < (↑zs.length : Int)) ∧ ((0 : Int) ≤ IntKind.i64.wrap (j - (1 : Int)) ∧ IntKind.i64.wrap (j - (1 : Int)) < (↑zs.length : Int)) ∧ ((0 : Int) ≤ IntKind.i64.wrap (j - (1 : Int)) ∧ IntKind.i64.wrap (j - (1 : Int)) < (↑zs.length : Int)) ∧ br (decide (rd zs j.toNat (0 : Nat) < rd zs (IntKind.i64.wrap (j - (1 : Int))).toNat (0 : Nat))) (((0 : Int) ≤ j ∧ j < (↑zs.length : Int)) ∧ ((0 : Int) ≤ j ∧ j < (↑zs.length : Int)) ∧ ((0 : Int) ≤ IntKind.i64.wrap (j - (1 : Int)) ∧ IntKind.i64.wrap (j - (1 : Int)) < (↑zs.length : Int)) ∧ ((0 : Int) ≤ IntKind.i64.wrap (j - (1 : Int)) ∧ IntKind.i64.wrap (j - (1 : Int)) < (↑zs.length : Int)) ∧ ((0 : Int) ≤ j ∧ j < (↑zs.length : Int)) ∧ ((0 : Int) ≤ j ∧ j < (↑zs.length : Int)) ∧ ((0 : Int) ≤ IntKind.i64.wrap (j - (1 : Int)) ∧ IntKind.i64.wrap (j - (1 : Int)) < (↑(zs.modify j.toNat fun x => [rd zs (IntKind.i64.wrap (j - (1 : Int))).toNat (0 : Nat), rd zs (IntKind.i64.wrap (j - (1 : Int))).toNat (1 : Nat)]).length : Int)) ∧ ((0 : Int) ≤ IntKind.i64.wrap (j - (1 : Int)) ∧ IntKind.i64.wrap (j - (1 : Int)) < (↑(zs.modify j.toNat fun x => [rd zs (IntKind.i64.wrap (j - (1 : Int))).toNat (0 : Nat), rd zs (IntKind.i64.wrap (j - (1 : Int))).toNat (1 : Nat)]).length : Int)) ∧ k Out.normal (St.mk [none, none, none, some (IV.sl (1 : Nat)), some (IV.int IntKind.i64 i), some (IV.int IntKind.i64 (IntKind.i64.wrap (j - (1 : Int)))), none, none, none, none, none, none, none, none, none, none, none, none, none, none, none, none, none, none, none, none, none, none, none, none, none, none, none, none, none, none, none, none, none, none, none, none, none, none, none, none, none, none, none, none, none, none, none] [some (Blk.ro [IntKind.u64, IntKind.i64] xs), some (Blk.row (174 : Nat) [IntKind.u64, IntKind.i64] ((zs.modify j.toNat fun x => [rd zs (IntKind.i64.wrap (j - (1 : Int))).toNat (0 : Nat), rd zs (IntKind.i64.wrap (j - (1 : Int))).toNat (1 : Nat)]).modify (IntKind.i64.wrap (j - (1 : Int))).toNat fun x => [rd zs j.toNat (0 : Nat), rd zs j.toNat (1 : Nat)]))])) (k (Out.exit (2 : Nat)) (St.mk [none, none, none, some (IV.sl (1 : Nat)), some (IV.int IntKind.i64 i), none, none, none, none, none, none, none, none, none, none, none, none, none, none, none, none, none, none, none, none, none, none, none, none, none, none, none, none, none, none, none, none, none, none, none, none, none, none, none, none, none, none, none, none, none, none, none, none] [some (Blk.ro [IntKind.u64, IntKind.i64] xs), some (Blk.row (174 : Nat) [IntKind.u64, IntKind.i64] zs)]))) (k (Out.exit (2 : Nat)) (St.mk [none, none, none, some (IV.sl (1 : Nat)), some (IV.int IntKind.i64 i), none, none, none, none, none, none, none, none, none, none, none, none, none, none, none, none, none, none, none, none, none, none, none, none, none, none, none, none, none, none, none, none, none, none, none, none, none, none, none, none, none, none, none, none, none, none, none, none] [some (Blk.ro [IntKind.u64, IntKind.i64] xs), some (Blk.row (174 : Nat) [IntKind.u64, IntKind.i64] zs)]))) := by kernel_rfl
theorem r16 (xs zs : List (List Int)) (i : Int) (k : Out → St → Prop) : (round (envOf Try.prog N16 0) 115 1 0 (lp Try.prog 115 0) (S16 xs zs i) k) = (br (decide (i < (↑zs.length : Int))) (((1 : Nat) = (1 : Nat) ∧ St.mk [none, none, none, some (IV.sl (1 : Nat)), some (IV.int IntKind.i64 i), some (IV.int IntKind.i64 i), none, none, none, none, none, none, none, none, none, none, none, none, none, none, none, none, none, none, none, none, none, none, none, none, none, none, none, none, none, none, none, none, none, none, none, none, none, none, none, none, none, none, none, none, none, none, none] [some (Blk.ro [IntKind.u64, IntKind.i64] xs), some (Blk.row (174 : Nat) [IntKind.u64, IntKind.i64] zs)] = St.mk [none, none, none, some (IV.sl (1 : Nat)), some (IV.int IntKind.i64 i), some (IV.int IntKind.i64 i), none, none, none, none, none, none, none, none, none, none, none, none, none, none, none, none, none, none, none, none, none, none, none, none, none, none, none, none, none, none, none, none, none, none, none, none, none, none, none, none, none, none, none, none, none, none, none] [some (Blk.ro [IntKind.u64, IntKind.i64] xs), some (Blk.row (174 : Nat) [IntKind.u64, IntKind.i64] zs)] ∧ rows2 zs ∧ (1 : Int) ≤ i ∧ i < (↑zs.length : Int) ∧ zs.length ≤ (1000000 : Nat) ∧ srt i.toNat zs) ∧ ∀ (zs' : List (List Int)), zs'.length = zs.length → sameF zs zs' → srt (i.toNat + (1 : Nat)) zs' → rows2 zs' → k Out.normal (St.mk [none, none, none, some (IV.sl (1 : Nat)), some (IV.int IntKind.i64 (IntKind.i64.wrap (i + (1 : Int)))), none, none, none, none, none, none, none, none, none, none, none, none, none, none, none, none, none, none, none, none, none, none, none, none, none, none, none, none, none, none, none, none, none, none, none, none, none, none, none, none, none, none, none, none, none, none, none, none] [some (Blk.ro [IntKind.u64, IntKind.i64] xs), some (Blk.row (174 : Nat) [IntKind.u64, IntKind.i64] zs')])) (k (Out.exit (0 : Nat)) (St.mk [none, none, none, some (IV.sl (1 : Nat)), none, none, none, none, none, none, none, none, none, none, none, none, none, none, none, none, none, none, none, none, none, none, none, none, none, none, none, none, none, none, none, none, none, none, none, none, none, none, none, none, none, none, none, none, none, none, none, none, none] [some (Blk.ro [IntKind.u64, IntKind.i64] xs), some (Blk.row (174 : Nat) [IntKind.u64, IntKind.i64] zs)]))) := by kernel_rfl
theorem v16 (xs : List (List Int)) (K : IV → List Blk → Prop) : (comes Try.prog N16 1 115 [.sl 0] [.ro [.u64, .i64] xs] K) = (((0 : Nat) + xs.length) * (16 : Nat) ≤ (140737488355328 : Nat) ∧ ((1 : Nat) = (1 : Nat) ∧ St.mk [none, none, none, some (IV.sl (1 : Nat)), some (IV.int IntKind.i64 (1 : Int)), none, none, none, none, none, none, none, none, none, none, none, none, none, none, none, none, none, none, none, none, none, none, none, none, none, none, none, none, none, none, none, none, none, none, none, none, none, none, none, none, none, none, none, none, none, none, none, none] [some (Blk.ro [IntKind.u64, IntKind.i64] xs), some (Blk.row (174 : Nat) [IntKind.u64, IntKind.i64] (List.replicate (0 : Nat) (List.replicate (2 : Nat) (0 : Int)) ++ xs))] = St.mk [none, none, none, some (IV.sl (1 : Nat)), some (IV.int IntKind.i64 (1 : Int)), none, none, none, none, none, none, none, none, none, none, none, none, none, none, none, none, none, none, none, none, none, none, none, none, none, none, none, none, none, none, none, none, none, none, none, none, none, none, none, none, none, none, none, none, none, none, none, none] [some (Blk.ro [IntKind.u64, IntKind.i64] xs), some (Blk.row (174 : Nat) [IntKind.u64, IntKind.i64] (List.replicate (0 : Nat) (List.replicate (2 : Nat) (0 : Int)) ++ xs))] ∧ rows2 (List.replicate (0 : Nat) (List.replicate (2 : Nat) (0 : Int)) ++ xs) ∧ (List.replicate (0 : Nat) (List.replicate (2 : Nat) (0 : Int)) ++ xs).length ≤ (1000000 : Nat)) ∧ ∀ (zs' : List (List Int)), Sorted (List.replicate (0 : Nat) (List.replicate (2 : Nat) (0 : Int)) ++ xs) zs' → K (IV.sl (0 : Nat)) [Blk.row (174 : Nat) [IntKind.u64, IntKind.i64] zs']) := by kernel_rfl

def S14 (xs ys : List (List Int)) (i : Int) : St := ⟨T 26 [(0, .sl 0), (1, .sl 1), (5, i64 i)], [ro xs, ro ys]⟩
noncomputable def L14 : LoopS := fun n0 st K => (n0 = 2 ∧ st = S14 (st.x 0) (st.x 1) 0 ∧ (st.x 0).length = (st.x 1).length ∧ rows2 (st.x 0) ∧ rows2 (st.x 1) ∧ (st.x 1).length ≤ 1000000) ∧
  br (bp (st.x 0 = st.x 1)) (K (.exit 0) ⟨T 26 [], [ro (st.x 0), ro (st.x 1)]⟩) (K .ret ⟨T 26 [(4, .bool false)], [ro (st.x 0), ro (st.x 1)]⟩)
noncomputable def N14 : Know := ⟨fun _ => none, fun f i => if f = 69 then (if i = 0 then some L14 else none) else none, fun _ => none⟩
theorem r14 (N : Know) (xs ys : List (List Int)) (i : Int) (k : Out → St → Prop) : (round (envOf Try.prog N 0) 69 2 0 (lp Try.prog 69 0) (S14 xs ys i) k) = (br (decide (i < (↑xs.length : Int))) (((0 : Int) ≤ i ∧ i < (↑xs.length : Int)) ∧ ((0 : Int) ≤ i ∧ i < (↑xs.length : Int)) ∧ ((0 : Int) ≤ i ∧ i < (↑ys.length : Int)) ∧ ((0 : Int) ≤ i ∧ i < (↑ys.length : Int)) ∧ br (!(decide (rd xs i.toNat (0 : Nat) = rd ys i.toNat (0 : Nat)) && (decide (rd xs i.toNat (1 : Nat) = rd ys i.toNat (1 : Nat)) && true))) (k Out.ret (St.mk [none, none, none, none, some (IV.bool false), none, none, none, none, none, none, none, none, none, none, none, none, none, none, none, none, none, none, none, none, none] [some (Blk.ro [IntKind.u64, IntKind.i64] xs), some (Blk.ro [IntKind.u64, IntKind.i64] ys)])) (k Out.normal (St.mk [some (IV.sl (0 : Nat)), some (IV.sl (1 : Nat)), none, none, none, some (IV.int IntKind.i64 (IntKind.i64.wrap (i + (1 : Int)))), none, none, none, none, none, none, none, none, none, none, none, none, none, none, none, none, none, none, none, none] [some (Blk.ro [IntKind.u64, IntKind.i64] xs), some (Blk.ro [IntKind.u64, IntKind.i64] ys)]))) (k (Out.exit (0 : Nat)) (St.mk [none, none, none, none, none, none, none, none, none, none, none, none, none, none, none, none, none, none, none, none, none, none, none, none, none, none] [some (Blk.ro [IntKind.u64, IntKind.i64] xs), some (Blk.ro [IntKind.u64, IntKind.i64] ys)]))) := by kernel_rfl
theorem v14 (xs ys : List (List Int)) (K : IV → List Blk → Prop) : (comes Try.prog N14 1 69 [.sl 0, .sl 1] [.ro [.u64, .i64] xs, .ro [.u64, .i64] ys] K) = (br ((↑xs.length : Int) != (↑ys.length : Int)) (K (IV.bool false) []) (((2 : Nat) = (2 : Nat) ∧ St.mk [some (IV.sl (0 : Nat)), some (IV.sl (1 : Nat)), none, none, none, some (IV.int IntKind.i64 (0 : Int)), none, none, none, none, none, none, none, none, none, none, none, none, none, none, none, none, none, none, none, none] [some (Blk.ro [IntKind.u64, IntKind.i64] xs), some (Blk.ro [IntKind.u64, IntKind.i64] ys)] = St.mk [some (IV.sl (0 : Nat)), some (IV.sl (1 : Nat)), none, none, none, some (IV.int IntKind.i64 (0 : Int)), none, none, none, none, none, none, none, none, none, none, none, none, none, none, none, none, none, none, none, none] [some (Blk.ro [IntKind.u64, IntKind.i64] xs), some (Blk.ro [IntKind.u64, IntKind.i64] ys)] ∧ xs.length = ys.length ∧ rows2 xs ∧ rows2 ys ∧ ys.length ≤ (1000000 : Nat)) ∧ br (bp (xs = ys)) (K (IV.bool true) []) (K (IV.bool false) []))) := by kernel_rfl

def S18 (xs : List (List Int)) (i : Int) : St := ⟨T 22 [(0, .sl 0), (3, i64 i)], [ro xs]⟩
noncomputable def L18 : LoopS := fun n0 st K => (n0 = 1 ∧ st = S18 (st.x 0) 1 ∧ (st.x 0).length ≤ 1000000) ∧ br (bp (srt (st.x 0).length (st.x 0))) (K (.exit 0) ⟨T 22 [], [ro (st.x 0)]⟩) (K .ret ⟨T 22 [(2, .bool false)], [ro (st.x 0)]⟩)
noncomputable def N18 : Know := ⟨fun _ => none, fun f i => if f = 116 then (if i = 0 then some L18 else none) else none, fun _ => none⟩
theorem r18 (N : Know) (xs : List (List Int)) (i : Int) (k : Out → St → Prop) : (round (envOf Try.prog N 0) 116 1 0 (lp Try.prog 116 0) (S18 xs i) k) = (br (decide (i < (↑xs.length : Int))) (((0 : Int) ≤ i ∧ i < (↑xs.length : Int)) ∧ ((0 : Int) ≤ i ∧ i < (↑xs.length : Int)) ∧ ((0 : Int) ≤ IntKind.i64.wrap (i - (1 : Int)) ∧ IntKind.i64.wrap (i - (1 : Int)) < (↑xs.length : Int)) ∧ ((0 : Int) ≤ IntKind.i64.wrap (i - (1 : Int)) ∧ IntKind.i64.wrap (i - (1 : Int)) < (↑xs.length : Int)) ∧ br (decide (rd xs i.toNat (0 : Nat) < rd xs (IntKind.i64.wrap (i - (1 : Int))).toNat (0 : Nat))) (k Out.ret (St.mk [none, none, some (IV.bool false), none, none, none, none, none, none, none, none, none, none, none, none, none, none, none, none, none, none, none] [some (Blk.ro [IntKind.u64, IntKind.i64] xs)])) (k Out.normal (St.mk [some (IV.sl (0 : Nat)), none, none, some (IV.int IntKind.i64 (IntKind.i64.wrap (i + (1 : Int)))), none, none, none, none, none, none, none, none, none, none, none, none, none, none, none, none, none, none] [some (Blk.ro [IntKind.u64, IntKind.i64] xs)]))) (k (Out.exit (0 : Nat)) (St.mk [none, none, none, none, none, none, none, none, none, none, none, none, none, none, none, none, none, none, none, none, none, none] [some (Blk.ro [IntKind.u64, IntKind.i64] xs)]))) := by kernel_rfl
theorem v18 (xs : List (List Int)) (K : IV → List Blk → Prop) : (comes Try.prog N18 1 116 [.sl 0] [.ro [.u64, .i64] xs] K) = (((1 : Nat) = (1 : Nat) ∧ St.mk [some (IV.sl (0 : Nat)), none, none, some (IV.int IntKind.i64 (1 : Int)), none, none, none, none, none, none, none, none, none, none, none, none, none, none, none, none, none, none] [some (Blk.ro [IntKind.u64, IntKind.i64] xs)] = St.mk [some (IV.sl (0 : Nat)), none, none, some (IV.int IntKind.i64 (1 : Int)), none, none, none, none, none, none, none, none, none, none, none, none, none, none, none, none, none, none] [some (Blk.ro [IntKind.u64, IntKind.i64] xs)] ∧ xs.length ≤ (1000000 : Nat)) ∧ br (bp (srt xs.length xs)) (K (IV.bool true) []) (K (IV.bool false) [])) := by kernel_rfl
theorem v28 (xs : List (List Int)) (K : IV → List Blk → Prop) : (comes Try.prog noKnow 1 166 [.sl 0] [.ro [.u64, .i64] xs] K) = (∀ (q : Bool), (q = true → xs = []) → br q (K (IV.sl (0 : Nat)) [Blk.row (174 : Nat) [IntKind.u64, IntKind.i64] []]) (((0 : Nat) + xs.length) * (16 : Nat) ≤ (140737488355328 : Nat) ∧ K (IV.sl (0 : Nat)) [Blk.row (174 : Nat) [IntKind.u64, IntKind.i64] (List.replicate (0 : Nat) (List.replicate (2 : Nat) (0 : Int)) ++ xs)])) := by kernel_rfl


end Go.Vs.RS
set_option linter.unusedVariables false
set_option linter.unusedSimpArgs false
/- sorted lists: plain laws -/
namespace Go.Vs.RS
open Go Go.Proofs Go.Vs

theorem modify_const {α : Type} (l : List α) (i : Nat) (a : α) : (l.modify i fun _ => a) = l.set i a := by
  apply List.ext_getElem?
  intro j
  rw [List.getElem?_modify, List.getElem?_set]
  by_cases h : i = j
  · subst h
    by_cases h2 : i < l.length
    · simp [h2]
    · simp [h2]
  · simp [h]

theorem rd_key {zs : List (List Int)} {p : Nat} (h : p < zs.length) : rd zs p 0 = key zs[p] := by
  simp [rd, key, List.getD, h]
theorem rows2_get {zs : List (List Int)} (h : rows2 zs) {p : Nat} (hp : p < zs.length) : [rd zs p 0, rd zs p 1] = zs[p] := by
  obtain ⟨a, b, e⟩ := h zs[p] (List.getElem_mem hp)
  simp [rd, List.getD, hp, e]

theorem srt_pairwise {zs : List (List Int)} (h : srt zs.length zs) : zs.Pairwise fun a b => key a ≤ key b := by
  rw [List.pairwise_iff_getElem]
  intro i j hi hj hij
  have := h i j hij hj
  rwa [rd_key hi, rd_key hj] at this

theorem uniq : ∀ (zs zs' : List (List Int)), (zs.Pairwise fun a b => key a ≤ key b) → (zs'.Pairwise fun a b => key a ≤ key b) → sameF zs zs' → zs = zs' := by
  intro zs
  induction zs with
  | nil =>
    intro zs' _ _ hf
    cases zs' with
    | nil => rfl
    | cons b bs =>
      have := hf (key b)
      simp at this
  | cons a l ih =>
    intro zs' h1 h2 hf
    cases zs' with
    | nil =>
      have := hf (key a)
      simp at this
    | cons b bs =>
      rw [List.pairwise_cons] at h1 h2
      have hab : key a = key b := by
        have e1 := hf (key a)
        have e2 := hf (key b)
        by_cases hk : key a = key b
        · exact hk
        · have hk' : ¬ key b = key a := fun h => hk h.symm
          simp only [List.filter_cons, hk, hk', decide_false, decide_true, if_true, Bool.false_eq_true, if_false] at e1 e2
          have m1 : a ∈ bs := by
            have : a ∈ bs.filter (fun x => decide (key x = key a)) := by rw [e1]; simp
            exact (List.mem_filter.1 this).1
          have m2 : b ∈ l := by
            have : b ∈ l.filter (fun x => decide (key x = key b)) := by rw [← e2]; simp
            exact (List.mem_filter.1 this).1
          have := h1.1 b m2
          have := h2.1 a m1
          omega
      have e1 := hf (key a)
      simp only [List.filter_cons, hab, decide_true, if_true, List.cons.injEq] at e1
      obtain ⟨rfl, _⟩ := e1
      congr 1
      refine ih bs h1.2 h2.2 ?_
      intro v
      have ev := hf v
      simp only [List.filter_cons] at ev
      split at ev
      · simpa using ev
      · exact ev

noncomputable def sortF (xs : List (List Int)) : List (List Int) := @dite _ (∃ zs, Sorted xs zs) (Classical.propDecidable _) (fun h => Classical.choose h) (fun _ => xs)
theorem sortF_spec {xs zs : List (List Int)} (h : Sorted xs zs) : Sorted xs (sortF xs) := by
  unfold sortF
  have h' : ∃ zs, Sorted xs zs := ⟨zs, h⟩
  rw [dif_pos h']
  exact Classical.choose_spec h'
theorem Sorted.eq {xs zs : List (List Int)} (h : Sorted xs zs) : sortF xs = zs := by
  have h2 := sortF_spec h
  refine uniq _ _ (srt_pairwise h2.up) (srt_pairwise h.up) ?_
  intro v
  rw [h.same v, h2.same v]

theorem two_form {α : Type} {zs : List α} {j : Nat} (h1 : 1 ≤ j) (h2 : j < zs.length) : zs = zs.take (j - 1) ++ ([zs[j - 1], zs[j]] ++ zs.drop (j + 1)) := by
  have e1 : zs.drop (j - 1) = zs[j - 1] :: zs.drop j := by
    rw [List.drop_eq_getElem_cons (by omega)]
    congr 2
    omega
  have e2 : zs.drop j = zs[j] :: zs.drop (j + 1) := List.drop_eq_getElem_cons h2
  conv => lhs; rw [← List.take_append_drop (j - 1) zs, e1, e2]
  rfl
theorem swap_form {α : Type} {zs : List α} {j : Nat} (h1 : 1 ≤ j) (h2 : j < zs.length) : (zs.set j zs[j - 1]).set (j - 1) zs[j] = zs.take (j - 1) ++ ([zs[j], zs[j - 1]] ++ zs.drop (j + 1)) := by
  apply List.ext_getElem?
  intro p
  have hl : (zs.take (j - 1)).length = j - 1 := by simp; omega
  rw [List.getElem?_set, List.getElem?_set]
  by_cases hp1 : j - 1 = p
  · subst hp1
    rw [List.getElem?_append_right (by omega), hl]
    simp
    omega
  · by_cases hp2 : j = p
    · subst hp2
      rw [List.getElem?_append_right (by omega), hl]
      have : j - (j - 1) = 1 := by omega
      rw [this]
      simp [hp1]
      omega
    · simp only [hp1, hp2, if_false]
      by_cases hp3 : p < j - 1
      · rw [List.getElem?_append_left (by omega)]
        simp [hp3]
      · rw [List.getElem?_append_right (by omega), hl, List.getElem?_append_right (by simp; omega)]
        simp
        congr 1
        omega

theorem sameF_swap {zs : List (List Int)} {j : Nat} (h1 : 1 ≤ j) (h2 : j < zs.length) (hne : key zs[j] ≠ key zs[j - 1]) : sameF zs ((zs.set j zs[j - 1]).set (j - 1) zs[j]) := by
  intro v
  rw [swap_form h1 h2]
  conv => rhs; rw [two_form h1 h2]
  simp only [List.filter_append]
  congr 2
  simp only [List.filter_cons, List.filter_nil]
  by_cases ha : key zs[j] = v
  · have hb : ¬ key zs[j - 1] = v := fun h => hne (by rw [ha, h])
    simp [ha, hb]
  · simp [ha]

theorem sameF.refl (xs : List (List Int)) : sameF xs xs := fun _ => rfl
theorem sameF.trans {a b c : List (List Int)} (h : sameF a b) (h' : sameF b c) : sameF a c := fun v => (h' v).trans (h v)
end Go.Vs.RS

set_option linter.unusedVariables false
set_option linter.unusedSimpArgs false
/- the sort's loops, and its functions -/
namespace Go.Vs.RS
open Go Go.Proofs Go.Vs Go.IntWalk

theorem loop18 (N : Know) (n0 : Nat) : LoopOk (envOf Try.prog N 0) 116 n0 0 (lp Try.prog 116 0) L18 := by
  rintro st K ⟨⟨rfl, hst, hlen⟩, hbr⟩
  generalize st.x 0 = xs at *
  subst hst
  rw [br_bp] at hbr
  refine loop_of (S18 xs) (fun i => 1 ≤ i ∧ (i ≤ xs.length ∨ i = 1) ∧ ∀ p q : Nat, p < q → (q : Int) < i → rd xs p 0 ≤ rd xs q 0) (fun i => (xs.length + 1 - i).toNat) ?_ (a := 1) ⟨by omega, by omega, fun p q h1 h2 => by omega⟩
  rintro i ⟨h1, h2, h3⟩ k hn hk
  rw [r18, br_dec]
  constructor
  · intro hi
    rw [i64_in (i - 1) (by omega), i64_in (i + 1) (by omega)]
    refine ⟨⟨by omega, hi⟩, ⟨by omega, hi⟩, ⟨by omega, by omega⟩, ⟨by omega, by omega⟩, ?_⟩
    rw [br_dec]
    constructor
    · intro hlt
      refine hk _ _ (by simp) (hbr.2 ?_)
      intro hr
      have := hr (i - 1).toNat i.toNat (by omega) (by omega)
      omega
    · intro hle
      refine hn _ ⟨by omega, by omega, fun p q hpq hq => ?_⟩ (by omega)
      by_cases hq' : (q : Int) < i
      · exact h3 p q hpq hq'
      · have e1 : q = i.toNat := by omega
        subst e1
        by_cases hp : p = (i - 1).toNat
        · subst hp; omega
        · have := h3 p (i - 1).toNat (by omega) (by omega)
          omega
  · intro hi
    refine hk _ _ (by simp) (hbr.1 ?_)
    intro p q hpq hq
    exact h3 p q hpq (by omega)

theorem rd_drop (xs : List (List Int)) (n i : Nat) : rd (xs.drop n) i 0 = rd xs (n + i) 0 := by
  simp [rd, List.getD, List.getElem?_drop]

theorem eqRow {xs ys : List (List Int)} (hx : rows2 xs) (hy : rows2 ys) {i : Nat} (h1 : i < xs.length) (h2 : i < ys.length) : (eqCells (rowCells [.u64, .i64] xs i 0 2) (rowCells [.u64, .i64] ys i 0 2) = true) ↔ xs[i] = ys[i] := by
  rw [← rows2_get hx h1, ← rows2_get hy h2]
  simp [eqCells, rowCells, List.range_succ]

theorem loop14 (N : Know) (n0 : Nat) : LoopOk (envOf Try.prog N 0) 69 n0 0 (lp Try.prog 69 0) L14 := by
  rintro st K ⟨⟨rfl, hst, hlen, hx, hy, hm⟩, hbr⟩
  generalize st.x 0 = xs at *
  generalize st.x 1 = ys at *
  subst hst
  rw [br_bp] at hbr
  refine loop_of (S14 xs ys) (fun i => 0 ≤ i ∧ i ≤ xs.length ∧ ∀ p : Nat, (p : Int) < i → xs[p]? = ys[p]?) (fun i => (xs.length - i).toNat) ?_ (a := 0) ⟨by omega, by omega, fun p h1 => by omega⟩
  rintro i ⟨h1, h2, h3⟩ k hn hk
  rw [r14, br_dec]
  constructor
  · intro hi
    rw [i64_in (i + 1) (by omega)]
    refine ⟨⟨by omega, by omega⟩, ⟨by omega, by omega⟩, ⟨by omega, by omega⟩, ⟨by omega, by omega⟩, ?_⟩
    rw [show (decide (rd xs i.toNat 0 = rd ys i.toNat 0) && (decide (rd xs i.toNat 1 = rd ys i.toNat 1) && true)) = eqCells (rowCells [.u64, .i64] xs i.toNat 0 2) (rowCells [.u64, .i64] ys i.toNat 0 2) from rfl]
    rw [br_bool, Bool.not_eq_true', Bool.not_eq_false', eqRow hx hy (by omega) (by omega), ← Bool.not_eq_true, eqRow hx hy (by omega) (by omega)]
    constructor
    · intro hne
      refine hk _ _ (by simp) (hbr.2 ?_)
      intro he
      subst he
      exact hne rfl
    · intro he
      refine hn _ ⟨by omega, by omega, fun p hp => ?_⟩ (by omega)
      by_cases hp' : (p : Int) < i
      · exact h3 p hp'
      · have e1 : p = i.toNat := by omega
        subst e1
        rw [List.getElem?_eq_getElem (by omega), List.getElem?_eq_getElem (by omega), he]
  · intro hi
    refine hk _ _ (by simp) (hbr.1 ?_)
    apply List.ext_getElem?
    intro p
    by_cases hp : p < xs.length
    · exact h3 p (by omega)
    · rw [List.getElem?_eq_none (by omega), List.getElem?_eq_none (by omega)]

structure I16 (zs0 : List (List Int)) (i : Int) (a : List (List Int) × Int) : Prop where
  len : a.1.length = zs0.length
  same : sameF zs0 a.1
  two : rows2 a.1
  lo : 0 ≤ a.2
  hi : a.2 ≤ i
  up : ∀ p q : Nat, p < q → (q : Int) ≤ i → (p : Int) ≠ a.2 → (q : Int) ≠ a.2 → rd a.1 p 0 ≤ rd a.1 q 0
  less : ∀ q : Nat, a.2 < q → (q : Int) ≤ i → rd a.1 a.2.toNat 0 < rd a.1 q 0

theorem loop16a (N : Know) (n0 : Nat) : LoopOk (envOf Try.prog N 0) 115 n0 1 (lp Try.prog 115 1) L16a := by
  rintro st K ⟨⟨rfl, hst, hx, h1, h2, hm, hs⟩, hK⟩
  generalize st.x 0 = xs at *
  generalize st.x 1 = zs0 at *
  generalize st.i 4 = i at *
  subst hst
  refine loop_of (fun a : List (List Int) × Int => S16a xs a.1 i a.2) (I16 zs0 i) (fun a => a.2.toNat) ?_ (a := (zs0, i)) ⟨rfl, sameF.refl _, hx, by simp; omega, by simp, ?_, ?_⟩
  · rintro ⟨zs, j⟩ ⟨a1, a2, a3, a4, a5, a6, a7⟩ k hn hk
    simp only at a1 a2 a3 a4 a5 a6 a7
    have fin : (∀ p q : Nat, p < q → (q : Int) ≤ i → rd zs p 0 ≤ rd zs q 0) → k (Out.exit 2) (S16 xs zs i) := by
      intro hup
      refine hk _ _ (by simp) (hK zs a1 a2 ?_ a3)
      intro p q hpq hq
      exact hup p q hpq (by omega)
    show round _ _ _ _ _ (S16a xs zs i j) k
    rw [r16a, br_dec]
    constructor
    · intro hj
      rw [i64_in (j - 1) (by omega)]
      refine ⟨⟨by omega, by omega⟩, ⟨by omega, by omega⟩, ⟨by omega, by omega⟩, ⟨by omega, by omega⟩, ?_⟩
      rw [br_dec]
      have ej : (j - 1).toNat = j.toNat - 1 := by omega
      constructor
      · intro hlt
        simp only [modify_const, List.length_set]
        refine ⟨⟨by omega, by omega⟩, ⟨by omega, by omega⟩, ⟨by omega, by omega⟩, ⟨by omega, by omega⟩, ⟨by omega, by omega⟩, ⟨by omega, by omega⟩, ⟨by omega, by omega⟩, ⟨by omega, by omega⟩, ?_⟩
        have hjl : j.toNat < zs.length := by omega
        have hjl' : j.toNat - 1 < zs.length := by omega
        rw [ej, rows2_get a3 hjl, rows2_get a3 hjl']
        rw [ej, rd_key hjl, rd_key hjl'] at hlt
        have hrd : ∀ p : Nat, rd ((zs.set j.toNat zs[j.toNat - 1]).set (j.toNat - 1) zs[j.toNat]) p 0 = if p = j.toNat - 1 then key zs[j.toNat] else if p = j.toNat then key zs[j.toNat - 1] else rd zs p 0 := by
          intro p
          unfold rd
          by_cases e1 : p = j.toNat - 1
          · subst e1
            simp [List.getD, key, hjl']
          · by_cases e2 : p = j.toNat
            · subst e2
              have : ¬ j.toNat - 1 = j.toNat := by omega
              simp [List.getD, key, hjl, e1, this, List.getElem?_set]
            · have e1' : ¬ j.toNat - 1 = p := fun h => e1 h.symm
              have e2' : ¬ j.toNat = p := fun h => e2 h.symm
              simp [List.getD, e1, e2, e1', e2', List.getElem?_set]
        refine hn (_, j - 1) ⟨?_, ?_, ?_, ?_, ?_, ?_, ?_⟩ (by simp; omega)
        · simp [a1]
        · exact a2.trans (sameF_swap (by omega) hjl (by omega))
        · intro x hx'
          rcases List.mem_or_eq_of_mem_set hx' with hx' | rfl
          · rcases List.mem_or_eq_of_mem_set hx' with hx' | rfl
            · exact a3 x hx'
            · exact a3 _ (List.getElem_mem _)
          · exact a3 _ (List.getElem_mem _)
        · simp; omega
        · simp; omega
        · intro p q hpq hq hp hq'
          simp only at hp hq' hq ⊢
          rw [hrd, hrd]
          have n1 : ¬ p = j.toNat - 1 := by omega
          have n2 : ¬ q = j.toNat - 1 := by omega
          simp only [n1, n2, if_false]
          by_cases hpj : p = j.toNat
          · subst hpj
            have n3 : ¬ q = j.toNat := by omega
            simp only [n3, if_true, if_false]
            have := a6 (j.toNat - 1) q (by omega) hq (by omega) (by omega)
            rw [rd_key hjl'] at this
            exact this
          · by_cases hqj : q = j.toNat
            · subst hqj
              simp only [hpj, if_true, if_false]
              have := a6 p (j.toNat - 1) (by omega) (by omega) (by omega) (by omega)
              rw [rd_key hjl'] at this
              exact this
            · simp only [hpj, hqj, if_false]
              exact a6 p q hpq hq (by omega) (by omega)
        · intro q hq hqi
          simp only at hq hqi ⊢
          rw [ej, hrd, hrd]
          have n2 : ¬ q = j.toNat - 1 := by omega
          simp only [n2, if_true, if_false]
          by_cases hqj : q = j.toNat
          · simp only [hqj, if_true]
            omega
          · simp only [hqj, if_false]
            have := a7 q (by omega) hqi
            rw [rd_key hjl] at this
            exact this
      · intro hge
        refine fin ?_
        intro p q hpq hq
        by_cases hqj : (q : Int) = j
        · have e1 : q = j.toNat := by omega
          subst e1
          by_cases hp : p = j.toNat - 1
          · subst hp; rw [← ej]; omega
          · have := a6 p (j.toNat - 1) (by omega) (by omega) (by omega) (by omega)
            rw [← ej] at this
            omega
        · by_cases hpj : (p : Int) = j
          · have e1 : p = j.toNat := by omega
            subst e1
            have := a7 q (by omega) hq
            omega
          · exact a6 p q hpq hq hpj hqj
    · intro hj
      refine fin ?_
      intro p q hpq hq
      by_cases hpj : (p : Int) = j
      · have e1 : p = j.toNat := by omega
        subst e1
        have := a7 q (by omega) hq
        omega
      · exact a6 p q hpq hq hpj (by omega)
  · intro p q hpq hq hp hq'
    simp only at hp hq' ⊢
    exact hs p q hpq (by omega)
  · intro q hq hqi
    simp only at hq
    omega

theorem loop16 (n0 : Nat) : LoopOk (envOf Try.prog N16 0) 115 n0 0 (lp Try.prog 115 0) L16 := by
  rintro st K ⟨⟨rfl, hst, hx, hm⟩, hK⟩
  generalize st.x 0 = xs at *
  generalize st.x 1 = zs0 at *
  subst hst
  refine loop_of (fun a : List (List Int) × Int => S16 xs a.1 a.2) (fun a => a.1.length = zs0.length ∧ sameF zs0 a.1 ∧ rows2 a.1 ∧ 1 ≤ a.2 ∧ (a.2 ≤ zs0.length ∨ a.2 = 1) ∧ srt a.2.toNat a.1) (fun a => (zs0.length + 1 - a.2).toNat) ?_ (a := (zs0, 1)) ⟨rfl, sameF.refl _, hx, by simp, by simp, fun p q h1 h2 => by simp at h2; omega⟩
  rintro ⟨zs, i⟩ ⟨a1, a2, a3, a4, a5, a6⟩ k hn hk
  simp only at a1 a2 a3 a4 a5 a6
  show round _ _ _ _ _ (S16 xs zs i) k
  rw [r16, br_dec]
  constructor
  · intro hi
    refine ⟨⟨rfl, rfl, a3, a4, hi, by omega, a6⟩, ?_⟩
    intro zs' l1 l2 l3 l4
    rw [i64_in (i + 1) (by omega)]
    refine hn (zs', i + 1) ⟨by simp; omega, a2.trans l2, l4, by simp; omega, by simp; omega, ?_⟩ (by simp; omega)
    have e : (i + 1).toNat = i.toNat + 1 := by omega
    simp only [e]
    exact l3
  · intro hi
    refine hk _ _ (by simp) (hK zs ⟨a1, a2, ?_, a3⟩)
    intro p q hpq hq
    exact a6 p q hpq (by omega)
end Go.Vs.RS

set_option linter.unusedVariables false
/- sort.By: states and conditions -/
namespace Go.Vs.RS
open Go Go.Proofs Go.Vs
def dg (s x : Int) : Int := IntKind.u64.wrap ↑(BitVec.ofInt 64 (x.fdiv (2 ^ min s.toNat 64)) &&& BitVec.ofInt 64 255).toNat
def cnt (s d : Int) (ys : List (List Int)) : Nat := (ys.filter fun x => decide (dg s (key x) = d)).length
def cntB (s d : Int) (ys : List (List Int)) : Nat := (ys.filter fun x => decide (dg s (key x) < d)).length
def pass (s : Int) (ys : List (List Int)) : List (List Int) := (List.range 256).flatMap fun (d : Nat) => ys.filter fun x => decide (dg s (key x) = (d : Int))
def keysOk (ys : List (List Int)) : Prop := ∀ x ∈ ys, 0 ≤ key x ∧ key x < 18446744073709551616
def zero257 : List Int := List.replicate 257 0
def isCnt (s : Int) (ys : List (List Int)) (A : List Int) : Prop := A.length = 257 ∧ A.getD 0 0 = 0 ∧ ∀ d : Nat, d < 256 → A.getD (d + 1) 0 = cnt s d ys
def isCntB (s : Int) (ys : List (List Int)) (A : List Int) : Prop := A.length = 257 ∧ ∀ d : Nat, d < 257 → A.getD d 0 = cntB s d ys
def B15 (xs ys zs : List (List Int)) (A : List Int) : List (Option Blk) := [ro xs, row ys, row zs, some (.ints 218 .i64 A)]
def S15 (xs ys zs : List (List Int)) (s : Int) : St := ⟨T 78 [(3, .sl 1), (4, .sl 2), (5, i64 s)], [ro xs, row ys, row zs]⟩
def S15m (xs ys zs : List (List Int)) (A : List Int) (s : Int) : St := ⟨T 78 [(3, .sl 1), (4, .sl 2), (5, i64 s), (6, .ptr 3 0)], B15 xs ys zs A⟩
def S15a (xs ys zs : List (List Int)) (A : List Int) (s j : Int) : St := ⟨T 78 [(3, .sl 1), (4, .sl 2), (5, i64 s), (6, .ptr 3 0), (22, .sl 1), (23, i64 ys.length), (24, i64 j)], B15 xs ys zs A⟩
def S15b (xs ys zs : List (List Int)) (A : List Int) (s j : Int) : St := ⟨T 78 [(3, .sl 1), (4, .sl 2), (5, i64 s), (6, .ptr 3 0), (39, i64 j)], B15 xs ys zs A⟩
def S15c (xs ys zs : List (List Int)) (A : List Int) (s j : Int) : St := ⟨T 78 [(3, .sl 1), (4, .sl 2), (5, i64 s), (6, .ptr 3 0), (52, .sl 1), (53, i64 ys.length), (54, i64 j)], B15 xs ys zs A⟩
def L15a : LoopS := fun n0 st K => (n0 = 1 ∧ st = S15a (st.x 0) (st.x 1) (st.x 2) zero257 (st.i 5) 0 ∧ (st.x 1).length ≤ 1000000 ∧ 0 ≤ st.i 5) ∧
  ∀ A' : List Int, isCnt (st.i 5) (st.x 1) A' → K (.exit 2) (S15m (st.x 0) (st.x 1) (st.x 2) A' (st.i 5))
def L15b : LoopS := fun n0 st K => (n0 = 1 ∧ st = S15b (st.x 0) (st.x 1) (st.x 2) (st.a 3) (st.i 5) 0 ∧ (st.x 1).length ≤ 1000000 ∧ 0 ≤ st.i 5 ∧ isCnt (st.i 5) (st.x 1) (st.a 3)) ∧
  ∀ A' : List Int, isCntB (st.i 5) (st.x 1) A' → K (.exit 4) (S15m (st.x 0) (st.x 1) (st.x 2) A' (st.i 5))
def L15c : LoopS := fun n0 st K => (n0 = 1 ∧ st = S15c (st.x 0) (st.x 1) (st.x 2) (st.a 3) (st.i 5) 0 ∧ (st.x 1).length ≤ 1000000 ∧ 0 ≤ st.i 5 ∧ isCntB (st.i 5) (st.x 1) (st.a 3) ∧ (st.x 2).length = (st.x 1).length ∧ rows2 (st.x 1)) ∧
  K (.exit 6) (S15 (st.x 0) (st.x 1) (pass (st.i 5) (st.x 1)) (st.i 5))
def L15 : LoopS := fun n0 st K => (n0 = 1 ∧ st = S15 (st.x 0) (st.x 1) (st.x 2) 0 ∧ (st.x 1).length ≤ 1000000 ∧ (st.x 2).length = (st.x 1).length ∧ rows2 (st.x 1) ∧ keysOk (st.x 1)) ∧
  ∀ zs' : List (List Int), Sorted (st.x 1) zs' → K (.exit 0) ⟨T 78 [(3, .sl 1)], [ro (st.x 0), row zs']⟩
def xsOf (bs : List Blk) (i : Nat) : List (List Int) := match bs[i]? with
  | some (.row _ _ xs) => xs
  | some (.ro _ xs) => xs
  | _ => []
def preClone (l : List IV) (bs : List Blk) : Prop := ∃ xs, l = [.sl 0] ∧ bs = [.ro [.u64, .i64] xs] ∧ xs.length ≤ 1000000
def spClone : Vs.Spec := ⟨preClone, fun l bs => (.sl 0, [.row 174 [.u64, .i64] (xsOf bs 0)])⟩
def N15 : Know := ⟨fun g => if g = 166 then some spClone else none, fun f i => if f = 121 then (if i = 0 then some L15 else if i = 1 then some L15a else if i = 2 then some L15b else if i = 3 then some L15c else none) else none, fun _ => none⟩
theorem r15a (N : Know) (xs ys zs : List (List Int)) (A : List Int) (s j : Int) (k : Out → St → Prop) : (round (envOf Try.prog N 0) 121 1 1 (lp Try.prog 121 1) (S15a xs ys zs A s j) k) = (br (decide (j < (↑ys.length : Int))) (((0 : Int) ≤ j ∧ j < (↑ys.length : Int)) ∧ ((0 : Int) ≤ j ∧ j < (↑ys.length : Int)) ∧ (0 : Int) ≤ s ∧ ((0 : Int) ≤ IntKind.u64.wrap (IntKind.u64.wrap (↑(BitVec.ofInt (64 : Nat) ((rd ys j.toNat (0 : Nat)).fdiv ((2 : Int) ^ min s.toNat (64 : Nat))) &&& BitVec.ofInt (64 : Nat) (255 : Int)).toNat : Int) + (1 : Int)) ∧ IntKind.u64.wrap (IntKind.u64.wrap (↑(BitVec.ofInt (64 : Nat) ((rd ys j.toNat (0 : Nat)).fdiv ((2 : Int) ^ min s.toNat (64 : Nat))) &&& BitVec.ofInt (64 : Nat) (255 : Int)).toNat : Int) + (1 : Int)) < (257 : Int)) ∧ ((0 : Int) ≤ IntKind.u64.wrap (IntKind.u64.wrap (↑(BitVec.ofInt (64 : Nat) ((rd ys j.toNat (0 : Nat)).fdiv ((2 : Int) ^ min s.toNat (64 : Nat))) &&& BitVec.ofInt (64 : Nat) (255 : Int)).toNat : Int) + (1 : Int)) ∧ IntKind.u64.wrap (IntKind.u64.wrap (↑(BitVec.ofInt (64 : Nat) ((rd ys j.toNat (0 : Nat)).fdiv ((2 : Int) ^ min s.toNat (64 : Nat))) &&& BitVec.ofInt (64 : Nat) (255 : Int)).toNat : Int) + (1 : Int)) < (↑A.length : Int)) ∧ ((0 : Int) ≤ IntKind.u64.wrap (IntKind.u64.wrap (↑(BitVec.ofInt (64 : Nat) ((rd ys j.toNat (0 : Nat)).fdiv ((2 : Int) ^ min s.toNat (64 : Nat))) &&& BitVec.ofInt (64 : Nat) (255 : Int)).toNat : Int) + (1 : Int)) ∧ IntKind.u64.wrap (IntKind.u64.wrap (↑(BitVec.ofInt (64 : Nat) ((rd ys j.toNat (0 : Nat)).fdiv ((2 : Int) ^ min s.toNat (64 : Nat))) &&& BitVec.ofInt (64 : Nat) (255 : Int)).toNat : Int) + (1 : Int)) < (257 : Int)) ∧ ((0 : Int) ≤ IntKind.u64.wrap (IntKind.u64.wrap (↑(BitVec.ofInt (64 : Nat) ((rd ys j.toNat (0 : Nat)).fdiv ((2 : Int) ^ min s.toNat (64 : Nat))) &&& BitVec.ofInt (64 : Nat) (255 : Int)).toNat : Int) + (1 : Int)) ∧ IntKind.u64.wrap (IntKind.u64.wrap (↑(BitVec.ofInt (64 : Nat) ((rd ys j.toNat (0 : Nat)).fdiv ((2 : Int) ^ min s.toNat (64 : Nat))) &&& BitVec.ofInt (64 : Nat) (255 : Int)).toNat : Int) + (1 : Int)) < (↑A.length : Int)) ∧ k Out.normal (St.mk [none, none, none, some (IV.sl (1 : Nat)), some (IV.sl (2 : Nat)), some (IV.int IntKind.i64 s), some (IV.ptr (3 : Nat) (0 : Nat)), none, none, none, none, none, none, none, none, none, none, none, none, none, none, none, some (IV.sl (1 : Nat)), some (IV.int IntKind.i64 (↑ys.length : Int)), some (IV.int IntKind.i64 (IntKind.i64.wrap (j + (1 : Int)))), none, none, none, none, none, none, none, none, none, none, none, none, none, none, none, none, none, none, none, none, none, none, none, none, none, none, none, none, none, none, none, none, none, none, none, none, none, none, none, none, none, none, none, none, none, none, none, none, none, none, none, none, none] [some (Blk.ro [IntKind.u64, IntKind.i64] xs), some (Blk.row (174 : Nat) [IntKind.u64, IntKind.i64] ys), some (Blk.row (174 : Nat) [IntKind.u64, IntKind.i64] zs), some (Blk.ints (218 : Nat) IntKind.i64 (dset A (IntKind.u64.wrap (IntKind.u64.wrap (↑(BitVec.ofInt (64 : Nat) ((rd ys j.toNat (0 : Nat)).fdiv ((2 : Int) ^ min s.toNat (64 : Nat))) &&& BitVec.ofInt (64 : Nat) (255 : Int)).toNat : Int) + (1 : Int))) (IntKind.i64.wrap (dget A (IntKind.u64.wrap (IntKind.u64.wrap (↑(BitVec.ofInt (64 : Nat) ((rd ys j.toNat (0 : Nat)).fdiv ((2 : Int) ^ min s.toNat (64 : Nat))) &&& BitVec.ofInt (64 : Nat) (255 : Int)).toNat : Int) + (1 : Int))) + (1 : Int)))))])) (k (Out.exit (2 : Nat)) (St.mk [none, none, none, some (IV.sl (1 : Nat)), some (IV.sl (2 : Nat)), some (IV.int IntKind.i64 s), some (IV.ptr (3 : Nat) (0 : Nat)), none, none, none, none, none, none, none, none, none, none, none, none, none, none, none, none, none, none, none, none, none, none, none, none, none, none, none, none, none, none, none, none, none, none, none, none, none, none, none, none, none, none, none, none, none, none, none, none, none, none, none, none, none, none, none, none, none, none, none, none, none, none, none, none, none, none, none, none, none, none, none] [some (Blk.ro [IntKind.u64, IntKind.i64] xs), some (Blk.row (174 : Nat) [IntKind.u64, IntKind.i64] ys), some (Blk.row (174 : Nat) [IntKind.u64, IntKind.i64] zs), some (Blk.ints (218 : Nat) IntKind.i64 A)]))) := by kernel_rfl
theorem r15b (N : Know) (xs ys zs : List (List Int)) (A : List Int) (s j : Int) (k : Out → St → Prop) : (round (envOf Try.prog N 0) 121 1 2 (lp Try.prog 121 2) (S15b xs ys zs A s j) k) = (br (decide (j < (256 : Int))) (((0 : Int) ≤ IntKind.i64.wrap (j + (1 : Int)) ∧ IntKind.i64.wrap (j + (1 : Int)) < (257 : Int)) ∧ ((0 : Int) ≤ IntKind.i64.wrap (j + (1 : Int)) ∧ IntKind.i64.wrap (j + (1 : Int)) < (↑A.length : Int)) ∧ ((0 : Int) ≤ j ∧ j < (257 : Int)) ∧ ((0 : Int) ≤ j ∧ j < (↑A.length : Int)) ∧ ((0 : Int) ≤ IntKind.i64.wrap (j + (1 : Int)) ∧ IntKind.i64.wrap (j + (1 : Int)) < (257 : Int)) ∧ ((0 : Int) ≤ IntKind.i64.wrap (j + (1 : Int)) ∧ IntKind.i64.wrap (j + (1 : Int)) < (↑A.length : Int)) ∧ k Out.normal (St.mk [none, none, none, some (IV.sl (1 : Nat)), some (IV.sl (2 : Nat)), some (IV.int IntKind.i64 s), some (IV.ptr (3 : Nat) (0 : Nat)), none, none, none, none, none, none, none, none, none, none, none, none, none, none, none, none, none, none, none, none, none, none, none, none, none, none, none, none, none, none, none, none, some (IV.int IntKind.i64 (IntKind.i64.wrap (j + (1 : Int)))), none, none, none, none, none, none, none, none, none, none, none, none, none, none, none, none, none, none, none, none, none, none, none, none, none, none, none, none, none, none, none, none, none, none, none, none, none, none] [some (Blk.ro [IntKind.u64, IntKind.i64] xs), some (Blk.row (174 : Nat) [IntKind.u64, IntKind.i64] ys), some (Blk.row (174 : Nat) [IntKind.u64, IntKind.i64] zs), some (Blk.ints (218 : Nat) IntKind.i64 (dset A (IntKind.i64.wrap (j + (1 : Int))) (IntKind.i64.wrap (dget A (IntKind.i64.wrap (j + (1 : Int))) + dget A j))))])) (k (Out.exit (4 : Nat)) (St.mk [none, none, none, some (IV.sl (1 : Nat)), some (IV.sl (2 : Nat)), some (IV.int IntKind.i64 s), some (IV.ptr (3 : Nat) (0 : Nat)), none, none, none, none, none, none, none, none, none, none, none, none, none, none, none, none, none, none, none, none, none, none, none, none, none, none, none, none, none, none, none, none, none, none, none, none, none, none, none, none, none, none, none, none, none, none, none, none, none, none, none, none, none, none, none, none, none, none, none, none, none, none, none, none, none, none, none, none, none, none, none] [some (Blk.ro [IntKind.u64, IntKind.i64] xs), some (Blk.row (174 : Nat) [IntKind.u64, IntKind.i64] ys), some (Blk.row (174 : Nat) [IntKind.u64, IntKind.i64] zs), some (Blk.ints (218 : Nat) IntKind.i64 A)]))) := by kernel_rfl
theorem r15c (N : Know) (xs ys zs : List (List Int)) (A : List Int) (s j : Int) (k : Out → St → Prop) : (round (envOf Try.prog N 0) 121 1 3 (lp Try.prog 121 3) (S15c xs ys zs A s j) k) = (br (decide (j < (↑ys.length : Int))) (((0 : Int) ≤ j ∧ j < (↑ys.length : Int)) ∧ ((0 : Int) ≤ j ∧ j < (↑ys.length : Int)) ∧ (0 : Int) ≤ s ∧ ((0 : Int) ≤ IntKind.u64.wrap (↑(BitVec.ofInt (64 : Nat) ((rd ys j.toNat (0 : Nat)).fdiv ((2 : Int) ^ min s.toNat (64 : Nat))) &&& BitVec.ofInt (64 : Nat) (255 : Int)).toNat : Int) ∧ IntKind.u64.wrap (↑(BitVec.ofInt (64 : Nat) ((rd ys j.toNat (0 : Nat)).fdiv ((2 : Int) ^ min s.toNat (64 : Nat))) &&& BitVec.ofInt (64 : Nat) (255 : Int)).toNat : Int) < (257 : Int)) ∧ ((0 : Int) ≤ IntKind.u64.wrap (↑(BitVec.ofInt (64 : Nat) ((rd ys j.toNat (0 : Nat)).fdiv ((2 : Int) ^ min s.toNat (64 : Nat))) &&& BitVec.ofInt (64 : Nat) (255 : Int)).toNat : Int) ∧ IntKind.u64.wrap (↑(BitVec.ofInt (64 : Nat) ((rd ys j.toNat (0 : Nat)).fdiv ((2 : Int) ^ min s.toNat (64 : Nat))) &&& BitVec.ofInt (64 : Nat) (255 : Int)).toNat : Int) < (↑A.length : Int)) ∧ ((0 : Int) ≤ dget A (IntKind.u64.wrap (↑(BitVec.ofInt (64 : Nat) ((rd ys j.toNat (0 : Nat)).fdiv ((2 : Int) ^ min s.toNat (64 : Nat))) &&& BitVec.ofInt (64 : Nat) (255 : Int)).toNat : Int)) ∧ dget A (IntKind.u64.wrap (↑(BitVec.ofInt (64 : Nat) ((rd ys j.toNat (0 : Nat)).fdiv ((2 : Int) ^ min s.toNat (64 : Nat))) &&& BitVec.ofInt (64 : Nat) (255 : Int)).toNat : Int)) < (↑zs.length : Int)) ∧ ((0 : Int) ≤ dget A (IntKind.u64.wrap (↑(BitVec.ofInt (64 : Nat) ((rd ys j.toNat (0 : Nat)).fdiv ((2 : Int) ^ min s.toNat (64 : Nat))) &&& BitVec.ofInt (64 : Nat) (255 : Int)).toNat : Int)) ∧ dget A (IntKind.u64.wrap (↑(BitVec.ofInt (64 : Nat) ((rd ys j.toNat (0 : Nat)).fdiv ((2 : Int) ^ min s.toNat (64 : Nat))) &&& BitVec.ofInt (64 : Nat) (255 : Int)).toNat : Int)) < (↑zs.length : Int)) ∧ ((0 : Int) ≤ IntKind.u64.wrap (↑(BitVec.ofInt (64 : Nat) ((rd ys j.toNat (0 : Nat)).fdiv ((2 : Int) ^ min s.toNat (64 : Nat))) &&& BitVec.ofInt (64 : Nat) (255 : Int)).toNat : Int) ∧ IntKind.u64.wrap (↑(BitVec.ofInt (64 : Nat) ((rd ys j.toNat (0 : Nat)).fdiv ((2 : Int) ^ min s.toNat (64 : Nat))) &&& BitVec.ofInt (64 : Nat) (255 : Int)).toNat : Int) < (257 : Int)) ∧ ((0 : Int) ≤ IntKind.u64.wrap (↑(BitVec.ofInt (64 : Nat) ((rd ys j.toNat (0 : Nat)).fdiv ((2 : Int) ^ min s.toNat (64 : Nat))) &&& BitVec.ofInt (64 : Nat) (255 : Int)).toNat : Int) ∧ IntKind.u64.wrap (↑(BitVec.ofInt (64 : Nat) ((rd ys j.toNat (0 : Nat)).fdiv ((2 : Int) ^ min s.toNat (64 : Nat))) &&& BitVec.ofInt (64 : Nat) (255 : Int)).toNat : Int) < (↑A.length : Int)) ∧ ((0 : Int) ≤ IntKind.u64.wrap (↑(BitVec.ofInt (64 : Nat) ((rd ys j.toNat (0 : Nat)).fdiv ((2 : Int) ^ min s.toNat (64 : Nat))) &&& BitVec.ofInt (64 : Nat) (255 : Int)).toNat : Int) ∧ IntKind.u64.wrap (↑(BitVec.ofInt (64 : Nat) ((rd ys j.toNat (0 : Nat)).fdiv ((2 : Int) ^ min s.toNat (64 : Nat))) &&& BitVec.ofInt (64 : Nat) (255 : Int)).toNat : Int) < (257 : Int)) ∧ ((0 : Int) ≤ IntKind.u64.wrap (↑(BitVec.ofInt (64 : Nat) ((rd ys j.toNat (0 : Nat)).fdiv ((2 : Int) ^ min s.toNat (64 : Nat))) &&& BitVec.ofInt (64 : Nat) (255 : Int)).toNat : Int) ∧ IntKind.u64.wrap (↑(BitVec.ofInt (64 : Nat) ((rd ys j.toNat (0 : Nat)).fdiv ((2 : Int) ^ min s.toNat (64 : Nat))) &&& BitVec.ofInt (64 : Nat) (255 : Int)).toNat : Int) < (↑A.length : Int)) ∧ k Out.normal (St.mk [none, none, none, some (IV.sl (1 : Nat)), some (IV.sl (2 : Nat)), some (IV.int IntKind.i64 s), some (IV.ptr (3 : Nat) (0 : Nat)), none, none, none, none, none, none, none, none, none, none, none, none, none, none, none, none, none, none, none, none, none, none, none, none, none, none, none, none, none, none, none, none, none, none, none, none, none, none, none, none, none, none, none, none, none, some (IV.sl (1 : Nat)), some (IV.int IntKind.i64 (↑ys.length : Int)), some (IV.int IntKind.i64 (IntKind.i64.wrap (j + (1 : Int)))), none, none, none, none, none, none, none, none, none, none, none, none, none, none, none, none, none, none, none, none, none, none, none] [some (Blk.ro [IntKind.u64, IntKind.i64] xs), some (Blk.row (174 : Nat) [IntKind.u64, IntKind.i64] ys), some (Blk.row (174 : Nat) [IntKind.u64, IntKind.i64] (zs.modify (dget A (IntKind.u64.wrap (↑(BitVec.ofInt (64 : Nat) ((rd ys j.toNat (0 : Nat)).fdiv ((2 : Int) ^ min s.toNat (64 : Nat))) &&& BitVec.ofInt (64 : Nat) (255 : Int)).toNat : Int))).toNat fun x => [rd ys j.toNat (0 : Nat), rd ys j.toNat (1 : Nat)])), some (Blk.ints (218 : Nat) IntKind.i64 (dset A (IntKind.u64.wrap (↑(BitVec.ofInt (64 : Nat) ((rd ys j.toNat (0 : Nat)).fdiv ((2 : Int) ^ min s.toNat (64 : Nat))) &&& BitVec.ofInt (64 : Nat) (255 : Int)).toNat : Int)) (IntKind.i64.wrap (dget A (IntKind.u64.wrap (↑(BitVec.ofInt (64 : Nat) ((rd ys j.toNat (0 : Nat)).fdiv ((2 : Int) ^ min s.toNat (64 : Nat))) &&& BitVec.ofInt (64 : Nat) (255 : Int)).toNat : Int)) + (1 : Int)))))])) (k (Out.exit (6 : Nat)) (St.mk [none, none, none, some (IV.sl (1 : Nat)), some (IV.sl (2 : Nat)), some (IV.int IntKind.i64 s), none, none, none, none, none, none, none, none, none, none, none, none, none, none, none, none, none, none, none, none, none, none, none, none, none, none, none, none, none, none, none, none, none, none, none, none, none, none, none, none, none, none, none, none, none, none, none, none, none, none, none, none, none, none, none, none, none, none, none, none, none, none, none, none, none, none, none, none, none, none, none, none] [some (Blk.ro [IntKind.u64, IntKind.i64] xs), some (Blk.row (174 : Nat) [IntKind.u64, IntKind.i64] ys), some (Blk.row (174 : Nat) [IntKind.u64, IntKind.i64] zs)]))) := by kernel_rfl
theorem r15 (xs ys zs : List (List Int)) (s : Int) (k : Out → St → Prop) : (round (envOf Try.prog N15 0) 121 1 0 (lp Try.prog 121 0) (S15 xs ys zs s) k) = (br (decide (s < (64 : Int))) (((1 : Nat) = (1 : Nat) ∧ St.mk [none, none, none, some (IV.sl (1 : Nat)), some (IV.sl (2 : Nat)), some (IV.int IntKind.i64 s), some (IV.ptr (3 : Nat) (0 : Nat)), none, none, none, none, none, none, none, none, none, none, none, none, none, none, none, some (IV.sl (1 : Nat)), some (IV.int IntKind.i64 (↑ys.length : Int)), some (IV.int IntKind.i64 (0 : Int)), none, none, none, none, none, none, none, none, none, none, none, none, none, none, none, none, none, none, none, none, none, none, none, none, none, none, none, none, none, none, none, none, none, none, none, none, none, none, none, none, none, none, none, none, none, none, none, none, none, none, none, none, none] [some (Blk.ro [IntKind.u64, IntKind.i64] xs), some (Blk.row (174 : Nat) [IntKind.u64, IntKind.i64] ys), some (Blk.row (174 : Nat) [IntKind.u64, IntKind.i64] zs), some (Blk.ints (218 : Nat) IntKind.i64 [(0 : Int), (0 : Int), (0 : Int), (0 : Int), (0 : Int), (0 : Int), (0 : Int), (0 : Int), (0 : Int), (0 : Int), (0 : Int), (0 : Int), (0 : Int), (0 : Int), (0 : Int), (0 : Int), (0 : Int), (0 : Int), (0 : Int), (0 : Int), (0 : Int), (0 : Int), (0 : Int), (0 : Int), (0 : Int), (0 : Int), (0 : Int), (0 : Int), (0 : Int), (0 : Int), (0 : Int), (0 : Int), (0 : Int), (0 : Int), (0 : Int), (0 : Int), (0 : Int), (0 : Int), (0 : Int), (0 : Int), (0 : Int), (0 : Int), (0 : Int), (0 : Int), (0 : Int), (0 : Int), (0 : Int), (0 : Int), (0 : Int), (0 : Int), (0 : Int), (0 : Int), (0 : Int), (0 : Int), (0 : Int), (0 : Int), (0 : Int), (0 : Int), (0 : Int), (0 : Int), (0 : Int), (0 : Int), (0 : Int), (0 : Int), (0 : Int), (0 : Int), (0 : Int), (0 : Int), (0 : Int), (0 : Int), (0 : Int), (0 : Int), (0 : Int), (0 : Int), (0 : Int), (0 : Int), (0 : Int), (0 : Int), (0 : Int), (0 : Int), (0 : Int), (0 : Int), (0 : Int), (0 : Int), (0 : Int), (0 : Int), (0 : Int), (0 : Int), (0 : Int), (0 : Int), (0 : Int), (0 : Int), (0 : Int), (0 : Int), (0 : Int), (0 : Int), (0 : Int), (0 : Int), (0 : Int), (0 : Int), (0 : Int), (0 : Int), (0 : Int), (0 : Int), (0 : Int), (0 : Int), (0 : Int), (0 : Int), (0 : Int), (0 : Int), (0 : Int), (0 : Int), (0 : Int), (0 : Int), (0 : Int), (0 : Int), (0 : Int), (0 : Int), (0 : Int), (0 : Int), (0 : Int), (0 : Int), (0 : Int), (0 : Int), (0 : Int), (0 : Int), (0 : Int), (0 : Int), (0 : Int), (0 : Int), (0 : Int), (0 : Int), (0 : Int), (0 : Int), (0 : Int), (0 : Int), (0 : Int), (0 : Int), (0 : Int), (0 : Int), (0 : Int), (0 : Int), (0 : Int), (0 : Int), (0 : Int), (0 : Int), (0 : Int), (0 : Int), (0 : Int), (0 : Int), (0 : Int), (0 : Int), (0 : Int), (0 : Int), (0 : Int), (0 : Int), (0 : Int), (0 : Int), (0 : Int), (0 : Int), (0 : Int), (0 : Int), (0 : Int), (0 : Int), (0 : Int), (0 : Int), (0 : Int), (0 : Int), (0 : Int), (0 : Int), (0 : Int), (0 : Int), (0 : Int), (0 : Int), (0 : Int), (0 : Int), (0 : Int), (0 : Int), (0 : Int), (0 : Int), (0 : Int), (0 : Int), (0 : Int), (0 : Int), (0 : Int), (0 : Int), (0 : Int), (0 : Int), (0 : Int), (0 : Int), (0 : Int), (0 : Int), (0 : Int), (0 : Int), (0 : Int), (0 : Int), (0 : Int), (0 : Int), (0 : Int), (0 : Int), (0 : Int), (0 : Int), (0 : Int), (0 : Int), (0 : Int), (0 : Int), (0 : Int), (0 : Int), (0 : Int), (0 : Int), (0 : Int), (0 : Int), (0 : Int), (0 : Int), (0 : Int), (0 : Int), (0 : Int), (0 : Int), (0 : Int), (0 : Int), (0 : Int), (0 : Int), (0 : Int), (0 : Int), (0 : Int), (0 : Int), (0 : Int), (0 : Int), (0 : Int), (0 : Int), (0 : Int), (0 : Int), (0 : Int), (0 : Int), (0 : Int), (0 : Int), (0 : Int), (0 : Int), (0 : Int), (0 : Int), (0 : Int), (0 : Int), (0 : Int), (0 : Int), (0 : Int), (0 : Int), (0 : Int), (0 : Int), (0 : Int), (0 : Int), (0 : Int), (0 : Int), (0 : Int), (0 : Int), (0 : Int), (0 : Int), (0 : Int)])] = St.mk [none, none, none, some (IV.sl (1 : Nat)), some (IV.sl (2 : Nat)), some (IV.int IntKind.i64 s), some (IV.ptr (3 : Nat) (0 : Nat)), none, none, none, none, none, none, none, none, none, none, none, none, none, none, none, some (IV.sl (1 : Nat)), some (IV.int IntKind.i64 (↑ys.length : Int)), some (IV.int IntKind.i64 (0 : Int)), none, none, none, none, none, none, none, none, none, none, none, none, none, none, none, none, none, none, none, none, none, none, none, none, none, none, none, none, none, none, none, none, none, none, none, none, none, none, none, none, none, none, none, none, none, none, none, none, none, none, none, none, none] [some (Blk.ro [IntKind.u64, IntKind.i64] xs), some (Blk.row (174 : Nat) [IntKind.u64, IntKind.i64] ys), some (Blk.row (174 : Nat) [IntKind.u64, IntKind.i64] zs), some (Blk.ints (218 : Nat) IntKind.i64 [(0 : Int), (0 : Int), (0 : Int), (0 : Int), (0 : Int), (0 : Int), (0 : Int), (0 : Int), (0 : Int), (0 : Int), (0 : Int), (0 : Int), (0 : Int), (0 : Int), (0 : Int), (0 : Int), (0 : Int), (0 : Int), (0 : Int), (0 : Int), (0 : Int), (0 : Int), (0 : Int), (0 : Int), (0 : Int), (0 : Int), (0 : Int), (0 : Int), (0 : Int), (0 : Int), (0 : Int), (0 : Int), (0 : Int), (0 : Int), (0 : Int), (0 : Int), (0 : Int), (0 : Int), (0 : Int), (0 : Int), (0 : Int), (0 : Int), (0 : Int), (0 : Int), (0 : Int), (0 : Int), (0 : Int), (0 : Int), (0 : Int), (0 : Int), (0 : Int), (0 : Int), (0 : Int), (0 : Int), (0 : Int), (0 : Int), (0 : Int), (0 : Int), (0 : Int), (0 : Int), (0 : Int), (0 : Int), (0 : Int), (0 : Int), (0 : Int), (0 : Int), (0 : Int), (0 : Int), (0 : Int), (0 : Int), (0 : Int), (0 : Int), (0 : Int), (0 : Int), (0 : Int), (0 : Int), (0 : Int), (0 : Int), (0 : Int), (0 : Int), (0 : Int), (0 : Int), (0 : Int), (0 : Int), (0 : Int), (0 : Int), (0 : Int), (0 : Int), (0 : Int), (0 : Int), (0 : Int), (0 : Int), (0 : Int), (0 : Int), (0 : Int), (0 : Int), (0 : Int), (0 : Int), (0 : Int), (0 : Int), (0 : Int), (0 : Int), (0 : Int), (0 : Int), (0 : Int), (0 : Int), (0 : Int), (0 : Int), (0 : Int), (0 : Int), (0 : Int), (0 : Int), (0 : Int), (0 : Int), (0 : Int), (0 : Int), (0 : Int), (0 : Int), (0 : Int), (0 : Int), (0 : Int), (0 : Int), (0 : Int), (0 : Int), (0 : Int), (0 : Int), (0 : Int), (0 : Int), (0 : Int), (0 : Int), (0 : Int), (0 : Int), (0 : Int), (0 : Int), (0 : Int), (0 : Int), (0 : Int), (0 : Int), (0 : Int), (0 : Int), (0 : Int), (0 : Int), (0 : Int), (0 : Int), (0 : Int), (0 : Int), (0 : Int), (0 : Int), (0 : Int), (0 : Int), (0 : Int), (0 : Int), (0 : Int), (0 : Int), (0 : Int), (0 : Int), (0 : Int), (0 : Int), (0 : Int), (0 : Int), (0 : Int), (0 : Int), (0 : Int), (0 : Int), (0 : Int), (0 : Int), (0 : Int), (0 : Int), (0 : Int), (0 : Int), (0 : Int), (0 : Int), (0 : Int), (0 : Int), (0 : Int), (0 : Int), (0 : Int), (0 : Int), (0 : Int), (0 : Int), (0 : Int), (0 : Int), (0 : Int), (0 : Int), (0 : Int), (0 : Int), (0 : Int), (0 : Int), (0 : Int), (0 : Int), (0 : Int), (0 : Int), (0 : Int), (0 : Int), (0 : Int), (0 : Int), (0 : Int), (0 : Int), (0 : Int), (0 : Int), (0 : Int), (0 : Int), (0 : Int), (0 : Int), (0 : Int), (0 : Int), (0 : Int), (0 : Int), (0 : Int), (0 : Int), (0 : Int), (0 : Int), (0 : Int), (0 : Int), (0 : Int), (0 : Int), (0 : Int), (0 : Int), (0 : Int), (0 : Int), (0 : Int), (0 : Int), (0 : Int), (0 : Int), (0 : Int), (0 : Int), (0 : Int), (0 : Int), (0 : Int), (0 : Int), (0 : Int), (0 : Int), (0 : Int), (0 : Int), (0 : Int), (0 : Int), (0 : Int), (0 : Int), (0 : Int), (0 : Int), (0 : Int), (0 : Int), (0 : Int), (0 : Int), (0 : Int), (0 : Int), (0 : Int), (0 : Int), (0 : Int), (0 : Int), (0 : Int), (0 : Int), (0 : Int), (0 : Int), (0 : Int), (0 : Int), (0 : Int)])] ∧ ys.length ≤ (1000000 : Nat) ∧ (0 : Int) ≤ s) ∧ ∀ (A' : List Int), isCnt s ys A' → ((1 : Nat) = (1 : Nat) ∧ St.mk [none, none, none, some (IV.sl (1 : Nat)), some (IV.sl (2 : Nat)), some (IV.int IntKind.i64 s), some (IV.ptr (3 : Nat) (0 : Nat)), none, none, none, none, none, none, none, none, none, none, none, none, none, none, none, none, none, none, none, none, none, none, none, none, none, none, none, none, none, none, none, none, some (IV.int IntKind.i64 (0 : Int)), none, none, none, none, none, none, none, none, none, none, none, none, none, none, none, none, none, none, none, none, none, none, none, none, none, none, none, none, none, none, none, none, none, none, none, none, none, none] [some (Blk.ro [IntKind.u64, IntKind.i64] xs), some (Blk.row (174 : Nat) [IntKind.u64, IntKind.i64] ys), some (Blk.row (174 : Nat) [IntKind.u64, IntKind.i64] zs), some (Blk.ints (218 : Nat) IntKind.i64 A')] = St.mk [none, none, none, some (IV.sl (1 : Nat)), some (IV.sl (2 : Nat)), some (IV.int IntKind.i64 s), some (IV.ptr (3 : Nat) (0 : Nat)), none, none, none, none, none, none, none, none, none, none, none, none, none, none, none, none, none, none, none, none, none, none, none, none, none, none, none, none, none, none, none, none, some (IV.int IntKind.i64 (0 : Int)), none, none, none, none, none, none, none, none, none, none, none, none, none, none, none, none, none, none, none, none, none, none, none, none, none, none, none, none, none, none, none, none, none, none, none, none, none, none] [some (Blk.ro [IntKind.u64, IntKind.i64] xs), some (Blk.row (174 : Nat) [IntKind.u64, IntKind.i64] ys), some (Blk.row (174 : Nat) [IntKind.u64, IntKind.i64] zs), some (Blk.ints (218 : Nat) IntKind.i64 A')] ∧ ys.length ≤ (1000000 : Nat) ∧ (0 : Int) ≤ s ∧ isCnt s ys A') ∧ ∀ (A' : List Int), isCntB s ys A' → ((1 : Nat) = (1 : Nat) ∧ St.mk [none, none, none, some (IV.sl (1 : Nat)), some (IV.sl (2 : Nat)), some (IV.int IntKind.i64 s), some (IV.ptr (3 : Nat) (0 : Nat)), none, none, none, none, none, none, none, none, none, none, none, none, none, none, none, none, none, none, none, none, none, none, none, none, none, none, none, none, none, none, none, none, none, none, none, none, none, none, none, none, none, none, none, none, none, some (IV.sl (1 : Nat)), some (IV.int IntKind.i64 (↑ys.length : Int)), some (IV.int IntKind.i64 (0 : Int)), none, none, none, none, none, none, none, none, none, none, none, none, none, none, none, none, none, none, none, none, none, none, none] [some (Blk.ro [IntKind.u64, IntKind.i64] xs), some (Blk.row (174 : Nat) [IntKind.u64, IntKind.i64] ys), some (Blk.row (174 : Nat) [IntKind.u64, IntKind.i64] zs), some (Blk.ints (218 : Nat) IntKind.i64 A')] = St.mk [none, none, none, some (IV.sl (1 : Nat)), some (IV.sl (2 : Nat)), some (IV.int IntKind.i64 s), some (IV.ptr (3 : Nat) (0 : Nat)), none, none, none, none, none, none, none, none, none, none, none, none, none, none, none, none, none, none, none, none, none, none, none, none, none, none, none, none, none, none, none, none, none, none, none, none, none, none, none, none, none, none, none, none, none, some (IV.sl (1 : Nat)), some (IV.int IntKind.i64 (↑ys.length : Int)), some (IV.int IntKind.i64 (0 : Int)), none, none, none, none, none, none, none, none, none, none, none, none, none, none, none, none, none, none, none, none, none, none, none] [some (Blk.ro [IntKind.u64, IntKind.i64] xs), some (Blk.row (174 : Nat) [IntKind.u64, IntKind.i64] ys), some (Blk.row (174 : Nat) [IntKind.u64, IntKind.i64] zs), some (Blk.ints (218 : Nat) IntKind.i64 A')] ∧ ys.length ≤ (1000000 : Nat) ∧ (0 : Int) ≤ s ∧ isCntB s ys A' ∧ zs.length = ys.length ∧ rows2 ys) ∧ k Out.normal (St.mk [none, none, none, some (IV.sl (1 : Nat)), some (IV.sl (2 : Nat)), some (IV.int IntKind.i64 (IntKind.i64.wrap (s + (8 : Int)))), none, none, none, none, none, none, none, none, none, none, none, none, none, none, none, none, none, none, none, none, none, none, none, none, none, none, none, none, none, none, none, none, none, none, none, none, none, none, none, none, none, none, none, none, none, none, none, none, none, none, none, none, none, none, none, none, none, none, none, none, none, none, none, none, none, none, none, none, none, none, none, none] [some (Blk.ro [IntKind.u64, IntKind.i64] xs), some (Blk.row (174 : Nat) [IntKind.u64, IntKind.i64] (pass s ys)), some (Blk.row (174 : Nat) [IntKind.u64, IntKind.i64] ys)])) (k (Out.exit (0 : Nat)) (St.mk [none, none, none, some (IV.sl (1 : Nat)), none, none, none, none, none, none, none, none, none, none, none, none, none, none, none, none, none, none, none, none, none, none, none, none, none, none, none, none, none, none, none, none, none, none, none, none, none, none, none, none, none, none, none, none, none, none, none, none, none, none, none, none, none, none, none, none, none, none, none, none, none, none, none, none, none, none, none, none, none, none, none, none, none, none] [some (Blk.ro [IntKind.u64, IntKind.i64] xs), some (Blk.row (174 : Nat) [IntKind.u64, IntKind.i64] ys)]))) := by kernel_rfl
theorem v15 (xs : List (List Int)) (K : IV → List Blk → Prop) : (comes Try.prog N15 1 121 [.sl 0] [.ro [.u64, .i64] xs] K) = ((preClone [IV.sl (0 : Nat)] [Blk.ro [IntKind.u64, IntKind.i64] xs] ∧ ((0 : Int) ≤ (↑xs.length : Int) ∧ (↑xs.length : Int) * (16 : Int) ≤ (140737488355328 : Int)) ∧ ((1 : Nat) = (1 : Nat) ∧ St.mk [none, none, none, some (IV.sl (1 : Nat)), some (IV.sl (2 : Nat)), some (IV.int IntKind.i64 (0 : Int)), none, none, none, none, none, none, none, none, none, none, none, none, none, none, none, none, none, none, none, none, none, none, none, none, none, none, none, none, none, none, none, none, none, none, none, none, none, none, none, none, none, none, none, none, none, none, none, none, none, none, none, none, none, none, none, none, none, none, none, none, none, none, none, none, none, none, none, none, none, none, none, none] [some (Blk.ro [IntKind.u64, IntKind.i64] xs), some (Blk.row (174 : Nat) [IntKind.u64, IntKind.i64] xs), some (Blk.row (174 : Nat) [IntKind.u64, IntKind.i64] (List.replicate (↑xs.length : Int).toNat (List.replicate (2 : Nat) (0 : Int))))] = St.mk [none, none, none, some (IV.sl (1 : Nat)), some (IV.sl (2 : Nat)), some (IV.int IntKind.i64 (0 : Int)), none, none, none, none, none, none, none, none, none, none, none, none, none, none, none, none, none, none, none, none, none, none, none, none, none, none, none, none, none, none, none, none, none, none, none, none, none, none, none, none, none, none, none, none, none, none, none, none, none, none, none, none, none, none, none, none, none, none, none, none, none, none, none, none, none, none, none, none, none, none, none, none] [some (Blk.ro [IntKind.u64, IntKind.i64] xs), some (Blk.row (174 : Nat) [IntKind.u64, IntKind.i64] xs), some (Blk.row (174 : Nat) [IntKind.u64, IntKind.i64] (List.replicate (↑xs.length : Int).toNat (List.replicate (2 : Nat) (0 : Int))))] ∧ xs.length ≤ (1000000 : Nat) ∧ (List.replicate (↑xs.length : Int).toNat (List.replicate (2 : Nat) (0 : Int))).length = xs.length ∧ rows2 xs ∧ keysOk xs) ∧ ∀ (zs' : List (List Int)), Sorted xs zs' → K (IV.sl (0 : Nat)) [Blk.row (174 : Nat) [IntKind.u64, IntKind.i64] zs']) ∧ ((0 : Int) ≤ (↑xs.length : Int) ∧ (↑xs.length : Int) * (16 : Int) ≤ (140737488355328 : Int)) ∧ preClone [IV.sl (0 : Nat)] [Blk.ro [IntKind.u64, IntKind.i64] xs] ∧ ((1 : Nat) = (1 : Nat) ∧ St.mk [none, none, none, some (IV.sl (1 : Nat)), some (IV.sl (2 : Nat)), some (IV.int IntKind.i64 (0 : Int)), none, none, none, none, none, none, none, none, none, none, none, none, none, none, none, none, none, none, none, none, none, none, none, none, none, none, none, none, none, none, none, none, none, none, none, none, none, none, none, none, none, none, none, none, none, none, none, none, none, none, none, none, none, none, none, none, none, none, none, none, none, none, none, none, none, none, none, none, none, none, none, none] [some (Blk.ro [IntKind.u64, IntKind.i64] xs), some (Blk.row (174 : Nat) [IntKind.u64, IntKind.i64] xs), some (Blk.row (174 : Nat) [IntKind.u64, IntKind.i64] (List.replicate (↑xs.length : Int).toNat (List.replicate (2 : Nat) (0 : Int))))] = St.mk [none, none, none, some (IV.sl (1 : Nat)), some (IV.sl (2 : Nat)), some (IV.int IntKind.i64 (0 : Int)), none, none, none, none, none, none, none, none, none, none, none, none, none, none, none, none, none, none, none, none, none, none, none, none, none, none, none, none, none, none, none, none, none, none, none, none, none, none, none, none, none, none, none, none, none, none, none, none, none, none, none, none, none, none, none, none, none, none, none, none, none, none, none, none, none, none, none, none, none, none, none, none] [some (Blk.ro [IntKind.u64, IntKind.i64] xs), some (Blk.row (174 : Nat) [IntKind.u64, IntKind.i64] xs), some (Blk.row (174 : Nat) [IntKind.u64, IntKind.i64] (List.replicate (↑xs.length : Int).toNat (List.replicate (2 : Nat) (0 : Int))))] ∧ xs.length ≤ (1000000 : Nat) ∧ (List.replicate (↑xs.length : Int).toNat (List.replicate (2 : Nat) (0 : Int))).length = xs.length ∧ rows2 xs ∧ keysOk xs) ∧ ∀ (zs' : List (List Int)), Sorted xs zs' → K (IV.sl (0 : Nat)) [Blk.row (174 : Nat) [IntKind.u64, IntKind.i64] zs']) := by kernel_rfl


end Go.Vs.RS
set_option linter.unusedVariables false
set_option linter.unusedSimpArgs false
/- sort.By: its loops -/
namespace Go.Vs.RS
open Go Go.Proofs Go.Vs Go.IntWalk

theorem dg_range (s x : Int) : 0 ≤ dg s x ∧ dg s x < 256 := by
  unfold dg
  have h : (BitVec.ofInt 64 (x.fdiv (2 ^ min s.toNat 64)) &&& BitVec.ofInt 64 255).toNat ≤ 255 := by
    rw [BitVec.toNat_and]
    exact Nat.and_le_right
  rw [u64_in _ (by omega)]
  omega

theorem dget_set (A : List Int) (i j v : Int) (hi : 0 ≤ i) (hj : 0 ≤ j) (hl : i < A.length) : dget (dset A i v) j = if j = i then v else dget A j := by
  unfold dget dset
  by_cases h : j = i
  · subst h
    simp [List.getD, hl, show j.toNat < A.length by omega]
  · have : ¬ i.toNat = j.toNat := by omega
    simp [List.getD, h, List.getElem?_set, this]
theorem dset_length (A : List Int) (i v : Int) : (dset A i v).length = A.length := by simp [dset]

theorem take_succ_filter {p : List Int → Bool} {ys : List (List Int)} {j : Nat} (h : j < ys.length) : (ys.take (j + 1)).filter p = (ys.take j).filter p ++ if p ys[j] then [ys[j]] else [] := by
  rw [List.take_add_one, List.filter_append, List.getElem?_eq_getElem h]
  congr 1
  simp [List.filter_cons]

theorem cnt_succ (s d : Int) {ys : List (List Int)} {j : Nat} (h : j < ys.length) : (cnt s d (ys.take (j + 1)) : Int) = cnt s d (ys.take j) + if dg s (key ys[j]) = d then 1 else 0 := by
  unfold cnt
  rw [take_succ_filter h]
  by_cases hd : dg s (key ys[j]) = d <;> simp [hd]

theorem cnt_le (s d : Int) (ys : List (List Int)) : cnt s d ys ≤ ys.length := List.length_filter_le _ _
theorem cntB_le (s d : Int) (ys : List (List Int)) : cntB s d ys ≤ ys.length := List.length_filter_le _ _

theorem zero257_len : zero257.length = 257 := List.length_replicate
theorem dget_zero (i : Int) : dget zero257 i = 0 := by
  unfold dget zero257
  rw [List.getD, List.getElem?_replicate]
  split <;> rfl

theorem cntB_succ (s d : Int) (ys : List (List Int)) : cntB s (d + 1) ys = cntB s d ys + cnt s d ys := by
  unfold cntB cnt
  induction ys with
  | nil => rfl
  | cons y ys ih =>
    simp only [List.filter_cons]
    by_cases h1 : dg s (key y) < d
    · have h2 : dg s (key y) < d + 1 := by omega
      have h3 : ¬ dg s (key y) = d := by omega
      simp [h1, h2, h3, ih]
      omega
    · by_cases h3 : dg s (key y) = d
      · have h2 : dg s (key y) < d + 1 := by omega
        simp only [h1, h2, decide_true, decide_false, if_true, Bool.false_eq_true, if_false, List.length_cons, ih]
        simp [h3]
        omega
      · have h2 : ¬ dg s (key y) < d + 1 := by omega
        simp [h1, h2, h3, ih]
theorem cntB_zero (s : Int) (ys : List (List Int)) : cntB s 0 ys = 0 := by
  unfold cntB
  rw [List.length_eq_zero_iff, List.filter_eq_nil_iff]
  intro y _
  have := (dg_range s (key y)).1
  simp
  omega
theorem cntB_all (s : Int) (ys : List (List Int)) : cntB s 256 ys = ys.length := by
  unfold cntB
  congr 1
  rw [List.filter_eq_self]
  intro y _
  have := (dg_range s (key y)).2
  simp
  omega

theorem loop15a (N : Know) (n0 : Nat) : LoopOk (envOf Try.prog N 0) 121 n0 1 (lp Try.prog 121 1) L15a := by
  rintro st K ⟨⟨rfl, hst, hlen, hs⟩, hK⟩
  generalize st.x 0 = xs at *
  generalize st.x 1 = ys at *
  generalize st.x 2 = zs at *
  generalize st.i 5 = s at *
  subst hst
  refine loop_of (fun a : List Int × Int => S15a xs ys zs a.1 s a.2) (fun a => a.1.length = 257 ∧ 0 ≤ a.2 ∧ a.2 ≤ ys.length ∧ dget a.1 0 = 0 ∧ ∀ d : Int, 0 ≤ d → d < 256 → dget a.1 (d + 1) = cnt s d (ys.take a.2.toNat)) (fun a => (ys.length - a.2).toNat) ?_ (a := (zero257, 0)) ⟨zero257_len, by simp, by simp, dget_zero _, ?_⟩
  · rintro ⟨A, j⟩ ⟨a1, a2, a3, a4, a5⟩ k hn hk
    simp only at a1 a2 a3 a4 a5
    show round _ _ _ _ _ (S15a xs ys zs A s j) k
    rw [r15a, br_dec]
    constructor
    · intro hj
      have hjl : j.toNat < ys.length := by omega
      rw [i64_in (j + 1) (by omega)]
      rw [rd_key hjl]
      have hdg := dg_range s (key ys[j.toNat])
      have hfold : IntKind.u64.wrap (↑(BitVec.ofInt 64 ((key ys[j.toNat]).fdiv (2 ^ min s.toNat 64)) &&& BitVec.ofInt 64 255).toNat : Int) = dg s (key ys[j.toNat]) := rfl
      simp only [hfold]
      rw [u64_in (dg s (key ys[j.toNat]) + 1) (by omega)]
      have hc := a5 (dg s (key ys[j.toNat])) hdg.1 hdg.2
      have hcl := cnt_le s (dg s (key ys[j.toNat])) (ys.take j.toNat)
      have htl : (ys.take j.toNat).length ≤ 1000000 := by simp; omega
      rw [i64_in (dget A (dg s (key ys[j.toNat]) + 1) + 1) (by omega)]
      refine ⟨⟨by omega, hj⟩, ⟨by omega, hj⟩, hs, ⟨by omega, by omega⟩, ⟨by omega, by omega⟩, ⟨by omega, by omega⟩, ⟨by omega, by omega⟩, ?_⟩
      refine hn (dset A (dg s (key ys[j.toNat]) + 1) (dget A (dg s (key ys[j.toNat]) + 1) + 1), j + 1) ⟨by simp [dset_length, a1], by simp; omega, by simp; omega, ?_, ?_⟩ (by simp; omega)
      · simp only
        rw [dget_set _ _ _ _ (by omega) (by omega) (by omega), if_neg (by omega)]
        exact a4
      · intro d hd1 hd2
        simp only
        have e : (j + 1).toNat = j.toNat + 1 := by omega
        rw [e, cnt_succ s d hjl, dget_set _ _ _ _ (by omega) (by omega) (by omega)]
        by_cases hd : dg s (key ys[j.toNat]) = d
        · subst hd
          simp [hc]
        · rw [if_neg (by omega), if_neg hd, a5 d hd1 hd2]
          omega
    · intro hj
      refine hk _ _ (by simp) (hK A ⟨a1, ?_, ?_⟩)
      · simpa [dget] using a4
      · intro d hd
        have := a5 d (by omega) (by omega)
        have e : j.toNat = ys.length := by omega
        rw [e, List.take_length] at this
        rw [← this]
        simp only [dget]
        congr 1
  · intro d h1 h2
    rw [dget_zero]
    simp [cnt]

theorem loop15b (N : Know) (n0 : Nat) : LoopOk (envOf Try.prog N 0) 121 n0 2 (lp Try.prog 121 2) L15b := by
  rintro st K ⟨⟨rfl, hst, hlen, hs, hc⟩, hK⟩
  generalize st.x 0 = xs at *
  generalize st.x 1 = ys at *
  generalize st.x 2 = zs at *
  generalize st.i 5 = s at *
  generalize st.a 3 = A0 at *
  subst hst
  refine loop_of (fun a : List Int × Int => S15b xs ys zs a.1 s a.2) (fun a => a.1.length = 257 ∧ 0 ≤ a.2 ∧ a.2 ≤ 256 ∧ (∀ d : Int, 0 ≤ d → d ≤ a.2 → dget a.1 d = cntB s d ys) ∧ ∀ d : Int, a.2 ≤ d → d < 256 → dget a.1 (d + 1) = cnt s d ys) (fun a => (256 - a.2).toNat) ?_ (a := (A0, 0)) ⟨hc.1, by simp, by simp, ?_, ?_⟩
  · rintro ⟨A, j⟩ ⟨a1, a2, a3, a4, a5⟩ k hn hk
    simp only at a1 a2 a3 a4 a5
    show round _ _ _ _ _ (S15b xs ys zs A s j) k
    rw [r15b, br_dec]
    constructor
    · intro hj
      rw [i64_in (j + 1) (by omega)]
      have e1 := a4 j a2 (by omega)
      have e2 := a5 j (by omega) hj
      have l1 := cntB_le s j ys
      have l2 := cnt_le s j ys
      rw [i64_in (dget A (j + 1) + dget A j) (by omega)]
      refine ⟨⟨by omega, by omega⟩, ⟨by omega, by omega⟩, ⟨by omega, by omega⟩, ⟨by omega, by omega⟩, ⟨by omega, by omega⟩, ⟨by omega, by omega⟩, ?_⟩
      refine hn (dset A (j + 1) (dget A (j + 1) + dget A j), j + 1) ⟨by simp [dset_length, a1], by simp; omega, by simp; omega, ?_, ?_⟩ (by simp; omega)
      · intro d hd1 hd2
        simp only at hd2 ⊢
        rw [dget_set _ _ _ _ (by omega) (by omega) (by omega)]
        by_cases hd : d = j + 1
        · subst hd
          rw [if_pos rfl, cntB_succ, e1, e2]
          omega
        · rw [if_neg hd]
          exact a4 d hd1 (by omega)
      · intro d hd1 hd2
        simp only at hd1 ⊢
        rw [dget_set _ _ _ _ (by omega) (by omega) (by omega), if_neg (by omega)]
        exact a5 d (by omega) hd2
    · intro hj
      refine hk _ _ (by simp) (hK A ⟨a1, ?_⟩)
      intro d hd
      have := a4 d (by omega) (by omega)
      simpa [dget] using this
  · intro d h1 h2
    simp only at h2
    have : d = 0 := by omega
    subst this
    rw [cntB_zero]
    simpa [dget] using hc.2.1
  · intro d h1 h2
    have := hc.2.2 d.toNat (by omega)
    have e : (d.toNat : Int) = d := by omega
    rw [e] at this
    simp only [dget]
    rw [← this]
    congr 1
    simp only at h1
    omega

theorem pieces {α : Type} (Z : List α) (f : Nat → List α) (o : Nat → Nat) (h0 : o 0 = 0) (hs : ∀ d, o (d + 1) = o d + (f d).length) : ∀ m, o m ≤ Z.length → (∀ d, d < m → ∀ t, t < (f d).length → Z[o d + t]? = (f d)[t]?) → Z.take (o m) = (List.range m).flatMap f := by
  intro m
  induction m with
  | zero => intro _ _; simp [h0]
  | succ m ih =>
    intro hl h
    rw [List.range_succ, List.flatMap_append, ← ih (by rw [hs] at hl; omega) (fun d hd => h d (by omega)), hs, List.take_add]
    congr 1
    simp only [List.flatMap_cons, List.flatMap_nil, List.append_nil]
    apply List.ext_getElem?
    intro t
    by_cases ht : t < (f m).length
    · rw [List.getElem?_take, if_pos ht, List.getElem?_drop]
      exact h m (by omega) t ht
    · rw [List.getElem?_eq_none (by simp; omega), List.getElem?_eq_none (by omega)]

def fil (s d : Int) (ys : List (List Int)) : List (List Int) := ys.filter fun x => decide (dg s (key x) = d)
theorem fil_length (s d : Int) (ys : List (List Int)) : (fil s d ys).length = cnt s d ys := rfl
theorem fil_succ (s d : Int) {ys : List (List Int)} {j : Nat} (h : j < ys.length) : fil s d (ys.take (j + 1)) = fil s d (ys.take j) ++ if dg s (key ys[j]) = d then [ys[j]] else [] := by
  unfold fil
  rw [take_succ_filter h]
  by_cases hd : dg s (key ys[j]) = d <;> simp [hd]
theorem cnt_take_le (s d : Int) (ys : List (List Int)) (j : Nat) : cnt s d (ys.take j) ≤ cnt s d ys :=
  ((List.take_sublist j ys).filter _).length_le
theorem cntB_mono (s : Int) (ys : List (List Int)) {d e : Int} (h : d ≤ e) : cntB s d ys ≤ cntB s e ys := by
  unfold cntB
  induction ys with
  | nil => simp
  | cons y ys ih =>
    simp only [List.filter_cons]
    by_cases h1 : dg s (key y) < d
    · have h2 : dg s (key y) < e := by omega
      simp [h1, h2, ih]
    · by_cases h2 : dg s (key y) < e
      · simp [h1, h2]; omega
      · simp [h1, h2, ih]

structure I15c (s : Int) (ys : List (List Int)) (a : (List Int × List (List Int)) × Int) : Prop where
  lenA : a.1.1.length = 257
  lo : 0 ≤ a.2
  hi : a.2 ≤ ys.length
  lenZ : a.1.2.length = ys.length
  at_ : ∀ d : Int, 0 ≤ d → d < 256 → dget a.1.1 d = cntB s d ys + cnt s d (ys.take a.2.toNat)
  put : ∀ d : Int, 0 ≤ d → d < 256 → ∀ t : Nat, t < cnt s d (ys.take a.2.toNat) → a.1.2[cntB s d ys + t]? = (fil s d (ys.take a.2.toNat))[t]?

theorem loop15c (N : Know) (n0 : Nat) : LoopOk (envOf Try.prog N 0) 121 n0 3 (lp Try.prog 121 3) L15c := by
  rintro st K ⟨⟨rfl, hst, hlen, hs, hc, hz, hr⟩, hK⟩
  generalize st.x 0 = xs at *
  generalize st.x 1 = ys at *
  generalize st.x 2 = zs at *
  generalize st.i 5 = s at *
  generalize st.a 3 = A0 at *
  subst hst
  refine loop_of (fun a : (List Int × List (List Int)) × Int => S15c xs ys a.1.2 a.1.1 s a.2) (I15c s ys) (fun a => (ys.length - a.2).toNat) ?_ (a := ((A0, zs), 0)) ⟨hc.1, by simp, by simp, hz, ?_, ?_⟩
  · rintro ⟨⟨A, Z⟩, j⟩ ⟨a1, a2, a3, a4, a5, a6⟩ k hn hk
    simp only at a1 a2 a3 a4 a5 a6
    show round _ _ _ _ _ (S15c xs ys Z A s j) k
    rw [r15c, br_dec]
    constructor
    · intro hj
      have hjl : j.toNat < ys.length := by omega
      rw [i64_in (j + 1) (by omega)]
      rw [rows2_get hr hjl, rd_key hjl]
      have hdg := dg_range s (key ys[j.toNat])
      have hfold : IntKind.u64.wrap (↑(BitVec.ofInt 64 ((key ys[j.toNat]).fdiv (2 ^ min s.toNat 64)) &&& BitVec.ofInt 64 255).toNat : Int) = dg s (key ys[j.toNat]) := rfl
      simp only [hfold, modify_const]
      generalize hd0 : dg s (key ys[j.toNat]) = d0 at *
      have e1 := a5 d0 hdg.1 hdg.2
      have e2 := cnt_succ s d0 hjl
      rw [hd0, if_pos rfl] at e2
      have e3 := cnt_take_le s d0 ys (j.toNat + 1)
      have e4 := cntB_succ s d0 ys
      have e5 := cntB_le s (d0 + 1) ys
      rw [i64_in (dget A d0 + 1) (by omega)]
      have hp : (dget A d0).toNat = cntB s d0 ys + cnt s d0 (ys.take j.toNat) := by omega
      have fin : k Out.normal (S15c xs ys (Z.set (dget A d0).toNat ys[j.toNat]) (dset A d0 (dget A d0 + 1)) s (j + 1)) := by
        refine hn ((dset A d0 (dget A d0 + 1), Z.set (dget A d0).toNat ys[j.toNat]), j + 1) ⟨by simp [dset_length, a1], by simp; omega, by simp; omega, by simp [a4], ?_, ?_⟩ (by simp; omega)
        · intro d hd1 hd2
          have e : (j + 1).toNat = j.toNat + 1 := by omega
          simp only [e]
          rw [cnt_succ s d hjl, hd0, dget_set _ _ _ _ (by omega) (by omega) (by omega)]
          by_cases hd : d = d0
          · subst hd
            rw [if_pos rfl, if_pos rfl, e1]
            omega
          · rw [if_neg hd, if_neg (fun h => hd h.symm), a5 d hd1 hd2]
            omega
        · intro d hd1 hd2 t ht
          have e : (j + 1).toNat = j.toNat + 1 := by omega
          simp only [e] at ht ⊢
          have hcs := cnt_succ s d hjl
          rw [hd0] at hcs
          rw [fil_succ s d hjl, hd0, hp, List.getElem?_set]
          by_cases hd : d0 = d
          · subst hd
            rw [if_pos rfl] at hcs ⊢
            by_cases htt : t < cnt s d0 (ys.take j.toNat)
            · rw [if_neg (by omega), List.getElem?_append_left (by rw [fil_length]; exact htt)]
              exact a6 d0 hd1 hd2 t htt
            · have : t = cnt s d0 (ys.take j.toNat) := by omega
              subst this
              rw [if_pos rfl, if_pos (by omega), List.getElem?_append_right (by rw [fil_length]; exact Nat.le_refl _), fil_length]
              simp
          · rw [if_neg hd] at hcs ⊢
            have ht' : t < cnt s d (ys.take j.toNat) := by omega
            have l1 := cnt_take_le s d ys j.toNat
            have l2 := cntB_succ s d ys
            have hne : ¬ cntB s d0 ys + cnt s d0 (ys.take j.toNat) = cntB s d ys + t := by
              rcases Int.lt_or_gt_of_ne hd with h | h
              · have := cntB_mono s ys (show d0 + 1 ≤ d by omega)
                omega
              · have := cntB_mono s ys (show d + 1 ≤ d0 by omega)
                omega
            rw [if_neg hne, List.append_nil]
            exact a6 d hd1 hd2 t ht'
      repeat' apply And.intro
      all_goals first | exact fin | exact hs | omega
    · intro hj
      have e : j.toNat = ys.length := by omega
      have hZ : Z = pass s ys := by
        have hpc := pieces Z (fun d => fil s (d : Int) ys) (fun d => cntB s (d : Int) ys) (by simpa using cntB_zero s ys) (fun d => by
          have := cntB_succ s (d : Int) ys
          simpa [fil_length] using this) 256 (by have := cntB_all s ys; rw [a4]; exact Nat.le_of_eq (by simpa using this)) (fun d hd t ht => by
          have := a6 (d : Int) (by omega) (by omega) t (by rw [e, List.take_length]; exact ht)
          rw [e, List.take_length] at this
          exact this)
        have h256 : cntB s ((256 : Nat) : Int) ys = Z.length := by rw [a4]; exact cntB_all s ys
        simp only [h256, List.take_length] at hpc
        exact hpc
      rw [hZ]
      exact hk _ _ (by simp) hK
  · intro d h1 h2
    have := hc.2 d.toNat (by omega)
    have e : (d.toNat : Int) = d := by omega
    rw [e] at this
    simp only [dget]
    rw [this]
    simp [cnt]
  · intro d h1 h2 t ht
    simp [cnt] at ht
end Go.Vs.RS

set_option linter.unusedVariables false
set_option linter.unusedSimpArgs false
/- sort.By: what a pass does; its outer loop -/
namespace Go.Vs.RS
open Go Go.Proofs Go.Vs Go.IntWalk

theorem dg_eq {s x : Int} (hs : 0 ≤ s) (hs' : s ≤ 63) (hx : 0 ≤ x) (hx' : x < 18446744073709551616) : dg s x = x / 2 ^ s.toNat % 256 := by
  have hm : min s.toNat 64 = s.toNat := by omega
  have hpow : (0 : Int) < 2 ^ s.toNat := Int.pow_pos (by decide)
  have hq : 0 ≤ x / 2 ^ s.toNat := Int.ediv_nonneg hx (by omega)
  have hq' : x / 2 ^ s.toNat ≤ x := Int.ediv_le_self _ hx
  have hand : (BitVec.ofInt 64 (x / 2 ^ s.toNat) &&& BitVec.ofInt 64 255).toNat = (x / 2 ^ s.toNat).toNat % 256 := by
    rw [BitVec.toNat_and, BitVec.toNat_ofInt]
    have e1 : ((x / 2 ^ s.toNat) % ((2 ^ 64 : Nat) : Int)).toNat = (x / 2 ^ s.toNat).toNat := by
      rw [Int.emod_eq_of_lt hq (by omega)]
    rw [e1]
    exact Nat.and_two_pow_sub_one_eq_mod _ 8
  unfold dg
  rw [hm, Int.fdiv_eq_ediv_of_nonneg _ (by omega), hand]
  have : (x / 2 ^ s.toNat).toNat % 256 < 256 := Nat.mod_lt _ (by decide)
  rw [u64_in _ (by omega)]
  omega

theorem low_step {s x y : Int} (hs : 0 ≤ s) (hs' : s ≤ 56) (hx : 0 ≤ x) (hx' : x < 18446744073709551616) (hy : 0 ≤ y) (hy' : y < 18446744073709551616)
    (h : dg s x < dg s y ∨ (dg s x = dg s y ∧ x % 2 ^ s.toNat ≤ y % 2 ^ s.toNat)) : x % 2 ^ (s + 8).toNat ≤ y % 2 ^ (s + 8).toNat := by
  rw [dg_eq hs (by omega) hx hx', dg_eq hs (by omega) hy hy'] at h
  have e : (2 : Int) ^ (s + 8).toNat = 2 ^ s.toNat * 256 := by
    rw [show (s + 8).toNat = s.toNat + 8 by omega, Int.pow_add]
    rfl
  have hpow : (0 : Int) < 2 ^ s.toNat := Int.pow_pos (by decide)
  have key : ∀ z : Int, z % (2 ^ s.toNat * 256) = 2 ^ s.toNat * (z / 2 ^ s.toNat % 256) + z % 2 ^ s.toNat := by
    intro z
    have e3 : z / (2 ^ s.toNat * 256) = z / 2 ^ s.toNat / 256 := (Int.ediv_ediv_of_nonneg (by omega)).symm
    rw [Int.emod_def z (2 ^ s.toNat * 256), e3, Int.emod_def z (2 ^ s.toNat), Int.emod_def (z / 2 ^ s.toNat) 256, Int.mul_sub, Int.mul_assoc]
    omega
  rw [e, key x, key y]
  generalize x / 2 ^ s.toNat % 256 = a at *
  generalize y / 2 ^ s.toNat % 256 = b at *
  have hx2 := Int.emod_lt_of_pos x hpow
  have hy2 := Int.emod_nonneg y (show (2 : Int) ^ s.toNat ≠ 0 by omega)
  generalize x % 2 ^ s.toNat = p at *
  generalize y % 2 ^ s.toNat = q at *
  generalize (2 : Int) ^ s.toNat = m at *
  rcases h with h | ⟨rfl, h⟩
  · have : m * (a + 1) ≤ m * b := Int.mul_le_mul_of_nonneg_left (by omega) (by omega)
    rw [Int.mul_add] at this
    omega
  · omega

theorem mem_pass {s : Int} {ys : List (List Int)} {x : List Int} (h : x ∈ pass s ys) : x ∈ ys := by
  unfold pass at h
  simp only [List.mem_flatMap, List.mem_filter] at h
  obtain ⟨d, _, h, _⟩ := h
  exact h

theorem pass_length (s : Int) (ys : List (List Int)) : (pass s ys).length = ys.length := by
  have key : ∀ m : Nat, ((List.range m).flatMap fun (d : Nat) => ys.filter fun x => decide (dg s (key x) = (d : Int))).length = cntB s m ys := by
    intro m
    induction m with
    | zero => simpa using (cntB_zero s ys).symm
    | succ m ih =>
      rw [List.range_succ, List.flatMap_append, List.length_append, ih]
      have := cntB_succ s (m : Int) ys
      simp only [List.flatMap_cons, List.flatMap_nil, List.append_nil]
      unfold cnt at this
      rw [← this]
      rfl
  have := key 256
  rw [show ((256 : Nat) : Int) = 256 from rfl, cntB_all] at this
  exact this

theorem pass_same (s : Int) (ys : List (List Int)) : sameF ys (pass s ys) := by
  intro v
  unfold pass
  rw [List.filter_flatMap]
  have hr := dg_range s v
  have key : ∀ m : Nat, ((List.range m).flatMap fun (d : Nat) => (ys.filter fun x => decide (dg s (key x) = (d : Int))).filter fun x => decide (key x = v)) = if dg s v < m then ys.filter (fun x => decide (key x = v)) else [] := by
    intro m
    induction m with
    | zero =>
      rw [if_neg (by omega)]
      rfl
    | succ m ih =>
      rw [List.range_succ, List.flatMap_append, ih]
      simp only [List.flatMap_cons, List.flatMap_nil, List.append_nil, List.filter_filter]
      by_cases hd : dg s v = m
      · rw [if_neg (by omega), if_pos (by omega), List.nil_append]
        apply List.filter_congr
        intro x _
        by_cases hx : key x = v
        · subst hx; simp [hd]
        · simp [hx]
      · have : (ys.filter fun x => decide (key x = v) && decide (dg s (key x) = (m : Int))) = [] := by
          rw [List.filter_eq_nil_iff]
          intro x _
          by_cases hx : key x = v
          · subst hx; simp [hd]
          · simp [hx]
        rw [this, List.append_nil]
        by_cases h2 : dg s v < m
        · rw [if_pos h2, if_pos (by omega)]
        · rw [if_neg h2, if_neg (by omega)]
  have := key 256
  rw [if_pos (by omega)] at this
  exact this

theorem pass_pairwise {s : Int} {ys : List (List Int)} (hs : 0 ≤ s) (hs' : s ≤ 56) (hk : keysOk ys) (h : ys.Pairwise fun a b => key a % 2 ^ s.toNat ≤ key b % 2 ^ s.toNat) :
    (pass s ys).Pairwise fun a b => key a % 2 ^ (s + 8).toNat ≤ key b % 2 ^ (s + 8).toNat := by
  have key : ∀ m : Nat, ((List.range m).flatMap fun (d : Nat) => ys.filter fun x => decide (dg s (key x) = (d : Int))).Pairwise fun a b => key a % 2 ^ (s + 8).toNat ≤ key b % 2 ^ (s + 8).toNat := by
    intro m
    induction m with
    | zero => simp
    | succ m ih =>
      rw [List.range_succ, List.flatMap_append, List.pairwise_append]
      refine ⟨ih, ?_, ?_⟩
      · simp only [List.flatMap_cons, List.flatMap_nil, List.append_nil]
        have h2 := (h.sublist (List.filter_sublist (p := fun x => decide (dg s (key x) = (m : Int)))))
        refine List.Pairwise.imp_of_mem ?_ h2
        intro a b ha hb hab
        rw [List.mem_filter] at ha hb
        have da : dg s (key a) = m := by simpa using ha.2
        have db : dg s (key b) = m := by simpa using hb.2
        exact low_step hs hs' (hk a ha.1).1 (hk a ha.1).2 (hk b hb.1).1 (hk b hb.1).2 (.inr ⟨by omega, hab⟩)
      · intro a ha b hb
        simp only [List.mem_flatMap, List.mem_filter, List.mem_range, List.flatMap_cons, List.flatMap_nil, List.append_nil] at ha hb
        obtain ⟨d, hd, ha, hda⟩ := ha
        obtain ⟨hb, hdb⟩ := hb
        have da : dg s (key a) = d := by simpa using hda
        have db : dg s (key b) = m := by simpa using hdb
        exact low_step hs hs' (hk a ha).1 (hk a ha).2 (hk b hb).1 (hk b hb).2 (.inl (by omega))
  exact key 256

structure I15 (ys0 : List (List Int)) (a : (List (List Int) × List (List Int)) × Int) : Prop where
  lenY : a.1.1.length = ys0.length
  lenZ : a.1.2.length = ys0.length
  same : sameF ys0 a.1.1
  two : rows2 a.1.1
  keys : keysOk a.1.1
  lo : 0 ≤ a.2
  hi : a.2 ≤ 64
  eight : a.2 % 8 = 0
  up : a.1.1.Pairwise fun x y => key x % 2 ^ a.2.toNat ≤ key y % 2 ^ a.2.toNat

theorem loop15 (n0 : Nat) : LoopOk (envOf Try.prog N15 0) 121 n0 0 (lp Try.prog 121 0) L15 := by
  rintro st K ⟨⟨rfl, hst, hlen, hz, hr, hkeys⟩, hK⟩
  generalize st.x 0 = xs at *
  generalize st.x 1 = ys0 at *
  generalize st.x 2 = zs0 at *
  subst hst
  refine loop_of (fun a : (List (List Int) × List (List Int)) × Int => S15 xs a.1.1 a.1.2 a.2) (I15 ys0) (fun a => (64 - a.2).toNat) ?_ (a := ((ys0, zs0), 0)) ⟨rfl, hz, sameF.refl _, hr, hkeys, by simp, by simp, by simp, ?_⟩
  · rintro ⟨⟨ys, zs⟩, s⟩ ⟨a1, a2, a3, a4, a5, a6, a7, a8, a9⟩ k hn hk
    simp only at a1 a2 a3 a4 a5 a6 a7 a8 a9
    show round _ _ _ _ _ (S15 xs ys zs s) k
    rw [r15, br_dec]
    constructor
    · intro hs
      have hl : ys.length ≤ 1000000 := by omega
      refine ⟨⟨rfl, rfl, hl, a6⟩, fun A1 h1 => ⟨⟨rfl, rfl, hl, a6, h1⟩, fun A2 h2 => ⟨⟨rfl, rfl, hl, a6, h2, by omega, a4⟩, ?_⟩⟩⟩
      rw [i64_in (s + 8) (by omega)]
      refine hn ((pass s ys, ys), s + 8) ⟨by simp [pass_length, a1], a1, a3.trans (pass_same s ys), fun x hx => a4 x (mem_pass hx), fun x hx => a5 x (mem_pass hx), by simp; omega, by simp; omega, by simp; omega, ?_⟩ (by simp; omega)
      exact pass_pairwise a6 (by omega) a5 a9
    · intro hs
      have e : s = 64 := by omega
      subst e
      refine hk _ _ (by simp) (hK ys ⟨a1, a3, ?_, a4⟩)
      intro p q hpq hq
      rw [List.pairwise_iff_getElem] at a9
      have := a9 p q (by omega) hq hpq
      rw [rd_key (by omega), rd_key hq]
      have k1 := a5 ys[p] (List.getElem_mem _)
      have k2 := a5 ys[q] (List.getElem_mem _)
      have e64 : (2 : Int) ^ (64 : Int).toNat = 18446744073709551616 := by decide
      rw [e64, Int.emod_eq_of_lt k1.1 k1.2, Int.emod_eq_of_lt k2.1 k2.2] at this
      exact this
  · have : ∀ (l : List (List Int)), l.Pairwise fun x y => key x % 2 ^ (0 : Int).toNat ≤ key y % 2 ^ (0 : Int).toNat := by
      intro l
      rw [List.pairwise_iff_getElem]
      intro i j _ _ _
      have e0 : (2 : Int) ^ (0 : Int).toNat = 1 := by decide
      rw [e0, Int.emod_one, Int.emod_one]
      omega
    exact this ys0
end Go.Vs.RS

set_option linter.unusedVariables false
set_option linter.unusedSimpArgs false
set_option maxRecDepth 100000
/- contracts: slices.Clone, sort.By, r6.By, SameKeyed, both Rising -/
namespace Go.Vs.RS
open Go Go.Proofs Go.Vs

theorem mixedOrders : Try.prog.follows .mixedOrders = true := by kernel_rfl
theorem loops_none {P : Program} {N : Know} (h : ∀ f i, N.Λ f i = none) (d : Nat) : ∀ d', d' < d → ∀ f i S n0, N.Λ f i = some S → LoopOk (envOf P N d') f n0 i (lp P f i) S := by
  intro d' _ f i S n0 hS
  rw [h] at hS
  cases hS

theorem c28 : Contract Try.prog 166 spClone := by
  refine contract_of 1 ⟨mixedOrders, fun g sp h => (by cases h), loops_none (N := noKnow) (fun _ _ => rfl) 1, fun g G h => (by cases h)⟩ (N := noKnow) ?_
  rintro l bs _ _ ⟨xs, rfl, rfl, hl⟩
  rw [v28]
  intro q hq
  rw [br_bool]
  constructor
  · intro h
    rw [hq h]
    rfl
  · intro _
    exact ⟨by omega, rfl⟩

theorem sorted_nil_app {xs zs : List (List Int)} (h : Sorted (List.replicate 0 (List.replicate 2 0) ++ xs) zs) : Sorted xs zs := h

def preSort (l : List IV) (bs : List Blk) : Prop := ∃ xs, l = [.sl 0] ∧ bs = [.ro [.u64, .i64] xs] ∧ rows2 xs ∧ xs.length ≤ 1000000
noncomputable def spSort : Vs.Spec := ⟨preSort, fun l bs => (.sl 0, [.row 174 [.u64, .i64] (sortF (xsOf bs 0))])⟩

theorem c16 : Contract Try.prog 115 spSort := by
  refine contract_of 1 ⟨mixedOrders, fun g sp h => (by cases h), ?_, fun g G h => (by cases h)⟩ (N := N16) ?_
  · intro d' hd f i S n0 hS
    have : d' = 0 := by omega
    subst this
    simp only [N16] at hS
    split at hS
    · rename_i hf
      subst hf
      split at hS
      · rename_i hi
        subst hi
        cases hS
        exact loop16 n0
      · split at hS
        · rename_i hi
          subst hi
          cases hS
          exact loop16a N16 n0
        · cases hS
    · cases hS
  · rintro l bs _ _ ⟨xs, rfl, rfl, h2, hl⟩
    rw [v16]
    refine ⟨by omega, ⟨rfl, rfl, h2, hl⟩, ?_⟩
    intro zs' hs
    have := (sorted_nil_app hs).eq
    show (IV.sl 0, [Blk.row 174 [.u64, .i64] (sortF xs)]) = _
    rw [this]

theorem okRows_keys {xs : List (List Int)} (h : okRows [.u64, .i64] xs) : keysOk xs := by
  intro x hx
  have := h x hx 0 (by simp)
  simp [inK, IntKind.min, IntKind.max, IntKind.bits, IntKind.signed] at this
  unfold key
  simp [List.getD]
  omega

theorem c15 : Contract Try.prog 121 spSort := by
  refine contract_of 1 ⟨mixedOrders, fun g sp h => ?_, ?_, fun g G h => (by cases h)⟩ (N := N15) ?_
  · simp only [N15] at h
    split at h
    · rename_i hg
      subst hg
      cases h
      exact c28
    · cases h
  · intro d' hd f i S n0 hS
    have : d' = 0 := by omega
    subst this
    simp only [N15] at hS
    split at hS
    · rename_i hf
      subst hf
      split at hS
      · rename_i hi
        subst hi
        cases hS
        exact loop15 n0
      · split at hS
        · rename_i hi
          subst hi
          cases hS
          exact loop15a N15 n0
        · split at hS
          · rename_i hi
            subst hi
            cases hS
            exact loop15b N15 n0
          · split at hS
            · rename_i hi
              subst hi
              cases hS
              exact loop15c N15 n0
            · cases hS
    · cases hS
  · rintro l bs _ hb ⟨xs, rfl, rfl, h2, hl⟩
    have hb1 : okB (.ro [.u64, .i64] xs) := hb _ (by simp)
    have hk := okRows_keys hb1.1
    have e0 : xsOf (List.map (fun x => x.fst) ([] ++ [(Blk.ro [IntKind.u64, IntKind.i64] xs, some (0 : Nat))])) (0 : Nat) = xs := rfl
    rw [v15]
    have hl' : xs.length ≤ 1000000 := hl
    have fin : ∀ zs' : List (List Int), Sorted xs zs' → spSort.F [.sl 0] [.ro [.u64, .i64] xs] = (IV.sl 0, [Blk.row 174 [IntKind.u64, IntKind.i64] zs']) := by
      intro zs' hs
      show (IV.sl 0, [Blk.row 174 [.u64, .i64] (sortF xs)]) = _
      rw [hs.eq]
    have hpc : preClone [IV.sl 0] [Blk.ro [IntKind.u64, IntKind.i64] xs] := ⟨xs, rfl, rfl, hl⟩
    exact ⟨⟨hpc, ⟨by omega, by omega⟩, ⟨rfl, rfl, hl', by simp, h2, hk⟩, fin⟩, ⟨by omega, by omega⟩, hpc, ⟨rfl, rfl, hl', by simp, h2, hk⟩, fin⟩

def preSame (l : List IV) (bs : List Blk) : Prop := ∃ xs ys, l = [.sl 0, .sl 1] ∧ bs = [.ro [.u64, .i64] xs, .ro [.u64, .i64] ys] ∧ rows2 xs ∧ rows2 ys ∧ ys.length ≤ 1000000
noncomputable def spSame : Vs.Spec := ⟨preSame, fun l bs => (.bool (bp (xsOf bs 0 = xsOf bs 1)), [])⟩
theorem c14 : Contract Try.prog 69 spSame := by
  refine contract_of 1 ⟨mixedOrders, fun g sp h => (by cases h), ?_, fun g G h => (by cases h)⟩ (N := N14) ?_
  · intro d' hd f i S n0 hS
    have : d' = 0 := by omega
    subst this
    simp only [N14] at hS
    split at hS
    · rename_i hf
      subst hf
      split at hS
      · rename_i hi
        subst hi
        cases hS
        exact loop14 N14 n0
      · cases hS
    · cases hS
  · rintro l bs _ hb ⟨xs, ys, rfl, rfl, hx, hy, hl⟩
    rw [v14, br_bool]
    have key : ∀ b : Bool, bp (xs = ys) = b → spSame.F [.sl 0, .sl 1] [.ro [.u64, .i64] xs, .ro [.u64, .i64] ys] = (IV.bool b, []) := by
      rintro b rfl; rfl
    constructor
    · intro hne
      refine key _ (bp_false ?_)
      rintro rfl
      simp at hne
    · intro heq
      have hlen : xs.length = ys.length := by
        simp at heq
        omega
      refine ⟨⟨rfl, rfl, hlen, hx, hy, hl⟩, ?_⟩
      rw [br_bp]
      exact ⟨fun h => key _ (bp_true h), fun h => key _ (bp_false h)⟩

def preRise (l : List IV) (bs : List Blk) : Prop := ∃ xs, l = [.sl 0] ∧ bs = [.ro [.u64, .i64] xs] ∧ xs.length ≤ 1000000
def Rises (xs : List (List Int)) : Prop := srt xs.length xs
noncomputable def spRise : Vs.Spec := ⟨preRise, fun l bs => (.bool (bp (Rises (xsOf bs 0))), [])⟩
theorem c18 : Contract Try.prog 116 spRise := by
  refine contract_of 1 ⟨mixedOrders, fun g sp h => (by cases h), ?_, fun g G h => (by cases h)⟩ (N := N18) ?_
  · intro d' hd f i S n0 hS
    have : d' = 0 := by omega
    subst this
    simp only [N18] at hS
    split at hS
    · rename_i hf
      subst hf
      split at hS
      · rename_i hi
        subst hi
        cases hS
        exact loop18 N18 n0
      · cases hS
    · cases hS
  · rintro l bs _ hb ⟨xs, rfl, rfl, hl⟩
    rw [v18]
    have key : ∀ b : Bool, bp (Rises xs) = b → spRise.F [.sl 0] [.ro [.u64, .i64] xs] = (IV.bool b, []) := by
      rintro b rfl; rfl
    refine ⟨⟨rfl, rfl, hl⟩, ?_⟩
    rw [br_bp]
    exact ⟨fun h => key _ (bp_true h), fun h => key _ (bp_false h)⟩
end Go.Vs.RS

set_option linter.unusedVariables false
set_option linter.unusedSimpArgs false
set_option maxRecDepth 100000
/- every list has its sorted one -/
namespace Go.Vs.RS
open Go Go.Proofs Go.Vs
def ins (x : List Int) : List (List Int) → List (List Int)
  | [] => [x]
  | y :: l => if key x ≤ key y then x :: y :: l else y :: ins x l
theorem ins_mem {x z : List Int} : ∀ {l : List (List Int)}, z ∈ ins x l ↔ z = x ∨ z ∈ l := by
  intro l
  induction l with
  | nil => simp [ins]
  | cons y l ih =>
    unfold ins
    split
    · simp
    · simp only [List.mem_cons, ih]
      constructor
      · rintro (h | h | h)
        · exact .inr (.inl h)
        · exact .inl h
        · exact .inr (.inr h)
      · rintro (h | h | h)
        · exact .inr (.inl h)
        · exact .inl h
        · exact .inr (.inr h)
theorem ins_len (x : List Int) (l : List (List Int)) : (ins x l).length = l.length + 1 := by
  induction l with
  | nil => rfl
  | cons y l ih => unfold ins; split <;> simp [ih]
theorem ins_pairwise {x : List Int} : ∀ {l : List (List Int)}, (l.Pairwise fun a b => key a ≤ key b) → (ins x l).Pairwise fun a b => key a ≤ key b := by
  intro l
  induction l with
  | nil => intro _; simp [ins]
  | cons y l ih =>
    intro h
    unfold ins
    split
    · rename_i hxy
      rw [List.pairwise_cons]
      refine ⟨?_, h⟩
      intro z hz
      rcases List.mem_cons.1 hz with rfl | hz
      · exact hxy
      · have := (List.pairwise_cons.1 h).1 z hz
        omega
    · rename_i hxy
      rw [List.pairwise_cons] at h ⊢
      refine ⟨?_, ih h.2⟩
      intro z hz
      rcases ins_mem.1 hz with rfl | hz
      · omega
      · exact h.1 z hz
theorem ins_filter (x : List Int) (v : Int) : ∀ (l : List (List Int)), (ins x l).filter (fun x => decide (key x = v)) = (x :: l).filter fun x => decide (key x = v) := by
  intro l
  induction l with
  | nil => rfl
  | cons y l ih =>
    unfold ins
    split
    · rfl
    · rename_i hxy
      simp only [List.filter_cons] at ih ⊢
      rw [ih]
      by_cases hy : key y = v
      · have hx : ¬ key x = v := by omega
        simp [hy, hx]
      · simp [hy]
theorem sorted_exists : ∀ (xs : List (List Int)), rows2 xs → ∃ zs, Sorted xs zs := by
  have key1 : ∀ (xs : List (List Int)), ∃ zs : List (List Int), zs.length = xs.length ∧ sameF xs zs ∧ (zs.Pairwise fun a b => key a ≤ key b) ∧ ∀ z, z ∈ zs ↔ z ∈ xs := by
    intro xs
    induction xs with
    | nil => exact ⟨[], rfl, sameF.refl _, by simp, by simp⟩
    | cons x xs ih =>
      obtain ⟨zs, h1, h2, h3, h4⟩ := ih
      refine ⟨ins x zs, by rw [ins_len, h1]; rfl, fun v => ?_, ins_pairwise h3, fun z => by rw [ins_mem, h4]; simp⟩
      rw [ins_filter]
      simp only [List.filter_cons]
      rw [h2 v]
  intro xs hx
  obtain ⟨zs, h1, h2, h3, h4⟩ := key1 xs
  refine ⟨zs, h1, h2, ?_, fun z hz => hx z ((h4 z).1 hz)⟩
  intro p q hpq hq
  rw [List.pairwise_iff_getElem] at h3
  rw [rd_key (by omega), rd_key hq]
  exact h3 p q (by omega) hq hpq
theorem sortF_sorted {xs : List (List Int)} (h : rows2 xs) : Sorted xs (sortF xs) := by
  obtain ⟨zs, hz⟩ := sorted_exists xs h
  exact sortF_spec hz


end Go.Vs.RS
