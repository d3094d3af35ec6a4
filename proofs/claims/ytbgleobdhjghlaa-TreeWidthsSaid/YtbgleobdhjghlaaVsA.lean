/- Vs, part A: ideal values, ideal memory, and what the model's code does to them (definitions alone). -/
import Derived.OrdersHeld
import Derived.WalkKit
import GoSem.ClaimKeys
set_option linter.unusedVariables false
namespace Go.Vs

/-- Ideal values: 'sl' is a slice (its elements lie in an ideal block); 'ptr', 'pdyn' point into a variable, 'prow', 'prowd' into a slice's element; 'unk' is not known. -/
inductive IV where
  | int (k : IntKind) (n : Int)
  | bool (b : Bool)
  | nilp
  | nils
  | nilf
  | unk
  | fn (f : FuncId) (caps : List IV)
  | ptr (b o : Nat)
  | pdyn (b o : Nat) (i : Int)
  | prow (b : Nat) (i : Int) (sz f : Nat)
  | prowd (b : Nat) (i : Int) (sz f : Nat) (j : Int)
  | sl (b : Nat)
  | agg (cs : List IV)
  | tup (vs : List IV)
  deriving Inhabited

/-- Ideal blocks: a variable; an array of whole numbers; a slice that is the call's own; a slice that is only read. -/
inductive Blk where
  | var (t : TypeId) (cells : List IV)
  | ints (t : TypeId) (k : IntKind) (xs : List Int)
  | row (e : TypeId) (ks : List IntKind) (xs : List (List Int))
  | ro (ks : List IntKind) (xs : List (List Int))

def Blk.own : Blk → Bool
  | .ro _ _ => false
  | _ => true
def Blk.isSlice : Blk → Bool
  | .row _ _ _ => true
  | .ro _ _ => true
  | _ => false
def Blk.isRow : Blk → Bool
  | .row _ _ _ => true
  | _ => false

noncomputable section
/-- by the recursors themselves: the kernel reckons these ten times as fast -/
def look {α : Type} (l : List (Option α)) : Nat → Option α :=
  List.rec (motive := fun _ => Nat → Option α) (fun _ => none) (fun x _ ih n => Nat.rec (motive := fun _ => Option α) x (fun m _ => ih m) n) l
theorem look_nil {α : Type} (n : Nat) : look ([] : List (Option α)) n = none := rfl
theorem look_zero {α : Type} (x : Option α) (l : List (Option α)) : look (x :: l) 0 = x := rfl
theorem look_succ {α : Type} (x : Option α) (l : List (Option α)) (n : Nat) : look (x :: l) (n + 1) = look l n := rfl
def setR {α : Type} (l : List α) : Nat → α → List α :=
  List.rec (motive := fun _ => Nat → α → List α) (fun _ _ => []) (fun x t ih n a => Nat.rec (motive := fun _ => List α) (a :: t) (fun m _ => x :: ih m a) n) l
theorem setR_eq {α : Type} : ∀ (l : List α) (n : Nat) (a : α), setR l n a = l.set n a
  | [], _, _ => rfl
  | _ :: _, 0, _ => rfl
  | x :: l, n + 1, a => congrArg (x :: ·) (setR_eq l n a)
def nthR {α : Type} (l : List α) : Nat → Option α :=
  List.rec (motive := fun _ => Nat → Option α) (fun _ => none) (fun x _ ih n => Nat.rec (motive := fun _ => Option α) (some x) (fun m _ => ih m) n) l
theorem nthR_eq {α : Type} : ∀ (l : List α) (n : Nat), nthR l n = l[n]?
  | [], _ => rfl
  | _ :: _, 0 => rfl
  | x :: l, n + 1 => by rw [List.getElem?_cons_succ]; exact nthR_eq l n

structure St where
  t : List (Option IV)
  b : List (Option Blk)

def rd (xs : List (List Int)) (i j : Nat) : Int := (xs.getD i []).getD j 0
def rowOf (ks : List IntKind) (x : List Int) : List Value := (List.range ks.length).map fun j => .int (ks.getD j .i64) (x.getD j 0)
def flat (ks : List IntKind) (xs : List (List Int)) : List Value := xs.flatMap (rowOf ks)

def St.setT (st : St) (d : Option Tmp) (v : IV) : St :=
  match d with
  | some i => { st with t := setR st.t i (some v) }
  | none => st
def St.setB (st : St) (b : Nat) (k : Blk) : St := { st with b := st.b.set b (some k) }
def St.dropB (st : St) (b : Nat) : St := { st with b := st.b.set b none }
def St.newB (st : St) (k : Blk) : St := { st with b := st.b ++ [some k] }

def ofConst0 : Value → Option IV
  | .int k n => if k.min ≤ n ∧ n ≤ k.max then some (.int k n) else none
  | .bool b => some (.bool b)
  | .pointer none => some .nilp
  | .slice none 0 0 => some .nils
  | .nilFunc => some .nilf
  | _ => none
def ofConst : Value → Option IV
  | .agg cs => (cs.toList.mapM ofConst0).map .agg
  | v => ofConst0 v
def toVal0 : IV → Option Value
  | .int k n => some (.int k n)
  | .bool b => some (.bool b)
  | _ => none
def toVal : IV → Option Value
  | .agg cs => (cs.mapM toVal0).map fun l => .agg l.toArray
  | v => toVal0 v
def IV.cells : IV → List IV
  | .agg cs => cs
  | v => [v]

def ev (st : St) : Operand → Option IV
  | .tmp i => look st.t i
  | .const v => ofConst v
  | .func f => some (.fn f [])
  | .global _ => none

/-- A piece of the model's own text that touches no memory. -/
def pureRun (P : Program) {α : Type} : Sem α → Option α
  | .pure a => some a
  | .program k => pureRun P (k P)
  | .mark _ k => pureRun P k
  | _ => none

def plain (st : St) (x : Operand) : Option Value := (ev st x).bind toVal
def plainEv (st : St) (x : Operand) : Value := (plain st x).getD undef
/-- Whatever answers a bool of plain values, by the model's own text. -/
def plainOp (P : Program) (st : St) (o : Oper) : Option IV :=
  if o.op.operands.all fun x => (plain st x).isSome then
    match pureRun P (execOp (plainEv st) o) with
    | some (.value (.bool b)) => some (.bool b)
    | _ => none
  else none

def kindOf : Value → Option IntKind
  | .int k n => if n = 0 then some k else none
  | _ => none
/-- The kinds of an element's cells. -/
def kinds (P : Program) (e : TypeId) : Option (List IntKind) :=
  match P.info? e with
  | none => none
  | some i => match i.zero with
    | none => none
    | some z => match z.cells.toList.mapM kindOf with
      | none => none
      | some ks => if ks.length = i.size ∧ 0 < i.size ∧ 0 < i.bytes then some ks else none
def zeroOf (P : Program) (e : TypeId) : Option (List IV) :=
  match P.info? e with
  | none => none
  | some i => match i.zero with
    | none => none
    | some z => match z.cells.toList.mapM ofConst0 with
      | none => none
      | some cs => if cs.length = i.size ∧ 0 < i.size then some cs else none
def isAggT (P : Program) (t : TypeId) : Option Bool :=
  match P.underlying t with
  | some (.struct _) => some true
  | some (.array _ _) => some true
  | some _ => some false
  | none => none
def sizeT (P : Program) (t : TypeId) : Option Nat := (P.info? t).map (·.size)
def bytesT (P : Program) (t : TypeId) : Option Nat := (P.info? t).map (·.bytes)
def elemT (P : Program) (t : TypeId) : Option TypeId :=
  match P.underlying t with
  | some (.slice e) => some e
  | _ => none

/-- cells as they are read: one value, or an aggregate -/
def pack (agg : Bool) (cs : List IV) : Option IV :=
  if agg then some (.agg cs) else match cs with
    | [c] => some c
    | _ => none
def rowCells (ks : List IntKind) (xs : List (List Int)) (i f n : Nat) : List IV :=
  (List.range n).map fun j => .int (ks.getD (f + j) .i64) (rd xs i (f + j))
def dget (xs : List Int) (i : Int) : Int := xs.getD i.toNat 0
def dset (xs : List Int) (i : Int) (v : Int) : List Int := xs.set i.toNat v
/-- whole numbers of one kind among cells -/
def asInts (k : IntKind) : List IV → Option (List Int)
  | [] => some []
  | .int k' n :: l => if k' = k then (asInts k l).map (n :: ·) else none
  | _ => none
def firstKind : List IV → Option IntKind
  | .int k _ :: _ => some k
  | _ => none
/-- a slice's content -/
def rows (st : St) (b : Nat) : Option (List IntKind × List (List Int)) :=
  match look st.b b with
  | some (.row _ ks xs) => some (ks, xs)
  | some (.ro ks xs) => some (ks, xs)
  | _ => none

/-- a load: what is asked for, and its value -/
def loadAt (P : Program) (st : St) (t : TypeId) (a : IV) : Option (Option Prop × IV) :=
  match isAggT P t, sizeT P t with
  | some agg, some n =>
    match a with
    | .ptr b o =>
      match look st.b b with
      | some (.var _ cells) => if (agg = true ∨ n = 1) ∧ o + n ≤ cells.length then (pack agg ((cells.drop o).take n)).map fun v => (none, v) else none
      | _ => none
    | .pdyn b o i =>
      if agg = true ∨ n ≠ 1 then none else
      match look st.b b with
      | some (.var _ cells) =>
        match firstKind (cells.drop o) with
        | some k => match asInts k (cells.drop o) with
          | some xs => some (some (0 ≤ i ∧ i < xs.length), .int k (dget xs i))
          | none => none
        | none => none
      | some (.ints _ k xs) => if o = 0 then some (some (0 ≤ i ∧ i < xs.length), .int k (dget xs i)) else none
      | _ => none
    | .prow b i sz f =>
      match rows st b with
      | some (ks, xs) => if (agg = true ∨ n = 1) ∧ sz = ks.length ∧ f + n ≤ sz then (pack agg (rowCells ks xs i.toNat f n)).map fun v => (some (0 ≤ i ∧ i < xs.length), v) else none
      | _ => none
    | _ => none
  | _, _ => none

def notTup : IV → Bool
  | .tup _ => false
  | _ => true
def putCells (z : List IV) (off n : Nat) (v : IV) : Option (List IV) :=
  if v.cells.length = n ∧ off + n ≤ z.length ∧ notTup v = true then some (z.take off ++ v.cells ++ z.drop (off + n)) else none
def placesOf (P : Program) (t : TypeId) : Option (Nat → Option (Nat × Nat)) :=
  match P.underlying t with
  | some (.struct fields) => (fields.toList.mapM (fun (f : Field) => (P.info? f.type).map fun i => (f.offset, i.size))).map fun l i => l[i]?
  | some (.array _ e) => (sizeT P e).map fun n i => some (i * n, n)
  | _ => none
def buildGo (place : Nat → Option (Nat × Nat)) (st : St) : List (Nat × Operand) → List IV → Option (List IV)
  | [], z => some z
  | (i, x) :: rest, z =>
    match place i, ev st x with
    | some (off, n), some v => match putCells z off n v with
      | some z' => buildGo place st rest z'
      | none => none
    | _, _ => none

def mn (k : IntKind) (x y : Int) : Int := if y < x then y else x
def mx (k : IntKind) (x y : Int) : Int := if y > x then y else x

def evs (st : St) : List Operand → Option (List IV)
  | [] => some []
  | x :: l => match ev st x, evs st l with
    | some v, some vs => some (v :: vs)
    | _, _ => none

def fieldsC (total : Nat) : Nat → List (Nat × Nat × List IntKind) → Option (List IntKind)
  | off, [] => if off = total then some [] else none
  | off, (o, n, ks) :: l => if o = off ∧ ks.length = n then (fieldsC total (off + n) l).map (ks ++ ·) else none
/-- the kinds of a type's cells, where all are whole numbers -/
def ckinds (P : Program) : Nat → TypeId → Option (List IntKind)
  | 0, _ => none
  | n + 1, t => match P.underlying t with
    | some (.int k) => some [k]
    | some (.struct fs) => if fs.all (·.name != "_") = true then (fs.toList.mapM fun (f : Field) => (ckinds P n f.type).map fun ks => (f.offset, P.cellsOf f.type, ks)).bind (fieldsC (P.cellsOf t) 0) else none
    | some (.array m e) => (ckinds P n e).bind fun ks => if ks.length = P.cellsOf e ∧ P.cellsOf t = m * P.cellsOf e then some (List.replicate m ks).flatten else none
    | _ => none
def cellKs : List IntKind → List IV → Bool
  | k :: ks, .int k' _ :: cs => decide (k = k') && cellKs ks cs
  | [], [] => true
  | _, _ => false
def isAggC (P : Program) (t : TypeId) (n : Nat) : Bool :=
  match P.underlying t with
  | some (.struct _) => n == P.cellsOf t
  | some (.array _ _) => n == P.cellsOf t
  | _ => false
def eqCells : List IV → List IV → Bool
  | .int _ a :: l, .int _ b :: m => decide (a = b) && eqCells l m
  | [], [] => true
  | _, _ => false
/-- are two structs of whole numbers one? -/
def eqAgg (P : Program) (t : TypeId) (cs ds : List IV) : Option Bool :=
  match ckinds P 8 t with
  | some ks => if cellKs ks cs && cellKs ks ds && P.keyTypeAt 9 t && !P.eqGuardType P.depth t && isAggC P t ks.length then some (eqCells cs ds) else none
  | none => none

/-- An operation that changes nothing: what is asked for, and its value. -/
def pureStep (P : Program) (st : St) (o : Oper) : Option (Option Prop × IV) :=
  match o.op with
  | .move x => (ev st x).map fun v => (none, v)
  | .assign x => match ev st x with
    | some .nils => none
    | some v => some (none, v)
    | none => none
  | .pick c a b =>
    match ev st c with
    | some (.bool true) => (ev st a).map fun v => (none, v)
    | some (.bool false) => (ev st b).map fun v => (none, v)
    | _ => none
  | .binOp op t x y _ =>
    match op, ev st x, ev st y with
    | .shl, some (.int k a), some (.int _ b) => some (some (0 ≤ b), .int k (k.wrap (a * 2 ^ (min b.toNat k.bits))))
    | .shr, some (.int k a), some (.int _ b) => some (some (0 ≤ b), .int k (a.fdiv (2 ^ (min b.toNat k.bits))))
    | .quo, some (.int k a), some (.int k' b) => if k = k' then some (some (b ≠ 0), .int k (k.wrap (a.tdiv b))) else none
    | .rem, some (.int k a), some (.int k' b) => if k = k' then some (some (b ≠ 0), .int k (a.tmod b)) else none
    | .add, some (.int k a), some (.int k' b) => if k = k' then some (none, .int k (k.wrap (a + b))) else none
    | .sub, some (.int k a), some (.int k' b) => if k = k' then some (none, .int k (k.wrap (a - b))) else none
    | .mul, some (.int k a), some (.int k' b) => if k = k' then some (none, .int k (k.wrap (a * b))) else none
    | .and, some (.int k a), some (.int k' b) => if k = k' then some (none, .int k (k.wrap (BitVec.ofInt k.bits a &&& BitVec.ofInt k.bits b).toNat)) else none
    | .or, some (.int k a), some (.int k' b) => if k = k' then some (none, .int k (k.wrap (BitVec.ofInt k.bits a ||| BitVec.ofInt k.bits b).toNat)) else none
    | .xor, some (.int k a), some (.int k' b) => if k = k' then some (none, .int k (k.wrap (BitVec.ofInt k.bits a ^^^ BitVec.ofInt k.bits b).toNat)) else none
    | .eql, some (.agg cs), some (.agg ds) => (eqAgg P t cs ds).map fun b => (none, .bool b)
    | .neq, some (.agg cs), some (.agg ds) => (eqAgg P t cs ds).map fun b => (none, .bool !b)
    | .eql, some (.sl _), some .nils => none
    | _, _, _ => (plainOp P st o).map fun v => (none, v)
  | .unOp op _ x =>
    match op, ev st x with
    | .not, some (.bool b) => some (none, .bool !b)
    | .neg, some (.int k n) => some (none, .int k (k.wrap (0 - n)))
    | _, _ => none
  | .convert src dst x =>
    match P.underlying src, P.underlying dst, ev st x with
    | some _, some (.int k), some (.int _ n) => some (none, .int k (k.wrap n))
    | _, _, _ => none
  | .index t x i =>
    match P.underlying t, ev st x, ev st i with
    | some (.array len e), some (.agg cs), some (.int _ n) =>
      if sizeT P e = some 1 ∧ isAggT P e = some false ∧ len = cs.length then
        match cs[n.toNat]? with
        | some v => some (some (0 ≤ n ∧ n < len), v)
        | none => none
      else none
    | _, _, _ => none
  | .nilCheck x =>
    match ev st x with
    | some (.ptr b o) => some (none, .ptr b o)
    | some (.prow b i sz f) => some (none, .prow b i sz f)
    | some (.fn f cs) => some (none, .fn f cs)
    | _ => none
  | .fieldAddr s x f =>
    match P.underlying s with
    | some (.struct fields) => match fields[f]? with
      | some (fd : Field) => match sizeT P fd.type with
        | some n => if n = 0 then none else
          match ev st x with
          | some (.ptr b o) => some (none, .ptr b (o + fd.offset))
          | some (.prow b i sz g) => some (none, .prow b i sz (g + fd.offset))
          | _ => none
        | none => none
      | none => none
    | _ => none
  | .field t x f =>
    match P.underlying t with
    | some (.struct fields) => match fields[f]? with
      | some (fd : Field) => match sizeT P fd.type, isAggT P fd.type, ev st x with
        | some n, some agg, some (.agg cs) => if (agg = true ∨ n = 1) ∧ fd.offset + n ≤ cs.length then (pack agg ((cs.drop fd.offset).take n)).map fun v => (none, v) else none
        | _, _, _ => none
      | none => none
    | _ => none
  | .load t x => match ev st x with
    | some a => loadAt P st t a
    | none => none
  | .extract x i =>
    match ev st x with
    | some (.tup vs) => (vs[i]?).map fun v => (none, v)
    | _ => none
  | .makeFunc (.func f) first captured =>
    if first.size = 0 then (evs st captured.toList).map fun cs => (none, .fn f cs) else none
  | .indexAddr t x i =>
    match P.underlying t, ev st x, ev st i with
    | some (.array len e), some (.ptr b o), some (.int _ n) => if sizeT P e = some 1 ∧ 2 ≤ len then some (some (0 ≤ n ∧ n < len), .pdyn b o n) else none
    | some (.array len e), some (.prow b r sz f), some (.int _ n) => if sizeT P e = some 1 ∧ 2 ≤ len then some (some (0 ≤ n ∧ n < len), .prowd b r sz f n) else none
    | some (.slice e), some (.sl b), some (.int _ n) =>
      match rows st b with
      | some (ks, xs) => if sizeT P e = some ks.length then some (some (0 ≤ n ∧ n < xs.length), .prow b n ks.length 0) else none
      | _ => none
    | _, _, _ => none
  | .call c =>
    match c.callee, c.args.toList, c.argTypes.toList with
    | .builtin .len, [x], [t] =>
      match P.underlying t, ev st x with
      | some (.slice _), some (.sl b) => (rows st b).map fun p => (none, .int .i64 p.2.length)
      | some (.slice _), some .nils => some (none, .int .i64 0)
      | _, _ => none
    | .builtin .min, [x, y], _ =>
      match ev st x, ev st y with
      | some (.int k a), some (.int k' b) => if k = k' then some (none, .int k (mn k a b)) else none
      | _, _ => none
    | .builtin .max, [x, y], _ =>
      match ev st x, ev st y with
      | some (.int k a), some (.int k' b) => if k = k' then some (none, .int k (mx k a b)) else none
      | _, _ => none
    | _, _, _ => none
  | .build t parts =>
    match zeroOf P t, placesOf P t with
    | some z, some pl => (buildGo pl st parts.toList z).map fun cs => (none, .agg cs)
    | _, _ => none
  | _ => none

/-- One way or the other. -/
def br (b : Bool) (A B : Prop) : Prop := match b with
  | true => A
  | false => B
/-- What is asked for, and what follows. -/
def ask (p : Option Prop) (K : Prop) : Prop := match p with
  | none => K
  | some p => p ∧ K

/-- types of a value's cells -/
def ctypes (P : Program) : Nat → TypeId → List TypeId
  | 0, t => [t]
  | d + 1, t => match P.underlying t with
    | some (.struct fields) => fields.toList.flatMap fun (f : Field) => ctypes P d f.type
    | some (.array n e) => (List.replicate n (ctypes P d e)).flatten
    | _ => [t]
/-- nil slices among cells become empty slices of the call's own -/
def matz (P : Program) (n : Nat) : List TypeId → List IV → List IV × List (Option Blk)
  | t :: ts, .nils :: cs =>
    match (elemT P t), (elemT P t).bind (kinds P) with
    | some e, some ks => let r := matz P (n + 1) ts cs; (.sl n :: r.1, some (.row e ks []) :: r.2)
    | _, _ => let r := matz P n ts cs; (.nils :: r.1, r.2)
  | _ :: ts, c :: cs => let r := matz P n ts cs; (c :: r.1, r.2)
  | [], cs => (cs, [])
  | _, [] => ([], [])
def newVar (P : Program) (st : St) (e : TypeId) (cells : List IV) (dst : Option Tmp) (K : St → Prop) : Prop :=
  K (St.setT { t := st.t, b := (st.b ++ (matz P st.b.length (ctypes P 8 e) cells).2) ++ [some (.var e (matz P st.b.length (ctypes P 8 e) cells).1)] } dst
    (.ptr (st.b ++ (matz P st.b.length (ctypes P 8 e) cells).2).length 0))
def isZero (k : IntKind) : IV → Bool
  | .int k' n => decide (k' = k) && decide (n = 0)
  | _ => false
/-- arrays that are longer are kept as a list -/
def newInts (P : Program) (e : TypeId) (cells : List IV) : Option IntKind :=
  match P.underlying e with
  | some (.array _ _) => if 16 < cells.length then match firstKind cells with
      | some k => if cells.all (isZero k) then some k else none
      | none => none
    else none
  | _ => none

def cellInt (ks : List IntKind) (f : Nat) (p : Nat × IV) : Option Int :=
  match p.2 with
  | .int k x => if k = ks.getD (f + p.1) .i64 then some x else none
  | _ => none
def storeAt (P : Program) (st : St) (t : TypeId) (a v : IV) (K : St → Prop) : Prop :=
  match sizeT P t with
  | none => False
  | some n =>
    if v.cells.length ≠ n ∨ notTup v = false then False else
    match a with
    | .ptr b o =>
      match look st.b b with
      | some (.var t' cells) =>
        if o + n ≤ cells.length then
          K (St.setB { t := st.t, b := st.b ++ (matz P st.b.length (ctypes P 8 t) v.cells).2 } b (.var t' (cells.take o ++ (matz P st.b.length (ctypes P 8 t) v.cells).1 ++ cells.drop (o + n))))
        else False
      | _ => False
    | .pdyn b o i =>
      match look st.b b, v with
      | some (.ints t' k xs), .int k' x => if k = k' ∧ o = 0 then (0 ≤ i ∧ i < xs.length) ∧ K (st.setB b (.ints t' k (dset xs i x))) else False
      | some (.var t' cells), .int k' x =>
        match asInts k' (cells.drop o) with
        | some xs => (0 ≤ i ∧ i < xs.length) ∧ K (st.setB b (.var t' (cells.take o ++ xs.mapIdx fun j y => .int k' (if i = (j : Int) then x else y))))
        | none => False
      | _, _ => False
    | .prow b i sz f =>
      match look st.b b with
      | some (.row e ks xs) =>
        match (v.cells.mapIdx fun j c => (j, c)).mapM (cellInt ks f) with
        | some ys => if sz = ks.length ∧ f + n ≤ sz then (0 ≤ i ∧ i < xs.length) ∧ K (st.setB b (.row e ks (xs.modify i.toNat fun x => (List.range ks.length).map fun j => if f ≤ j ∧ j < f + n then ys.getD (j - f) 0 else x.getD j 0))) else False
        | none => False
      | _ => False
    | .prowd b i sz f j =>
      match look st.b b, v with
      | some (.row e ks xs), .int k x =>
        if sz = ks.length ∧ (ks.drop f).all (· == k) then (0 ≤ i ∧ i < xs.length ∧ 0 ≤ j ∧ f + j.toNat < sz) ∧ K (st.setB b (.row e ks (xs.modify i.toNat fun x0 => (List.range ks.length).map fun (m : Nat) => if (m : Int) = f + j then x else x0.getD m 0))) else False
      | _, _ => False
    | _ => False

structure Spec where
  pre : List IV → List Blk → Prop
  F : List IV → List Blk → IV × List Blk

/-- arguments as a contract sees them: slices by number -/
def packC (P : Program) (st : St) (t : TypeId) (c : IV) (acc : List (Blk × Option Nat)) : Option (IV × List (Blk × Option Nat)) :=
  match c with
  | .int k n => some (.int k n, acc)
  | .bool b => some (.bool b, acc)
  | .sl b => match rows st b with
    | some (ks, xs) => some (.sl acc.length, acc ++ [(.ro ks xs, some b)])
    | none => none
  | .nils => match (elemT P t).bind (kinds P) with
    | some ks => some (.sl acc.length, acc ++ [(.ro ks [], none)])
    | none => none
  | _ => none
def packL (P : Program) (st : St) : List TypeId → List IV → List (Blk × Option Nat) → Option (List IV × List (Blk × Option Nat))
  | _, [], acc => some ([], acc)
  | t :: ts, c :: cs, acc => match packC P st t c acc with
    | some (c', acc') => match packL P st ts cs acc' with
      | some (cs', acc'') => some (c' :: cs', acc'')
      | none => none
    | none => none
  | [], _, _ => none
def packV (P : Program) (st : St) (t : TypeId) (v : IV) (acc : List (Blk × Option Nat)) : Option (IV × List (Blk × Option Nat)) :=
  match v with
  | .agg cs => match packL P st (ctypes P 8 t) cs acc with
    | some (cs', acc') => some (.agg cs', acc')
    | none => none
  | v => packC P st t v acc
def packVs (P : Program) (st : St) : List TypeId → List IV → List (Blk × Option Nat) → Option (List IV × List (Blk × Option Nat))
  | _, [], acc => some ([], acc)
  | t :: ts, c :: cs, acc => match packV P st t c acc with
    | some (c', acc') => match packVs P st ts cs acc' with
      | some (cs', acc'') => some (c' :: cs', acc'')
      | none => none
    | none => none
  | [], _, _ => none

mutual
def ren (ρ : Nat → Option Nat) : IV → IV
  | .fn f cs => .fn f (renL ρ cs)
  | .ptr b o => match ρ b with | some b => .ptr b o | none => .unk
  | .pdyn b o i => match ρ b with | some b => .pdyn b o i | none => .unk
  | .prow b i sz f => match ρ b with | some b => .prow b i sz f | none => .unk
  | .prowd b i sz f j => match ρ b with | some b => .prowd b i sz f j | none => .unk
  | .sl b => match ρ b with | some b => .sl b | none => .unk
  | .agg cs => .agg (renL ρ cs)
  | .tup vs => .tup (renL ρ vs)
  | v => v
def renL (ρ : Nat → Option Nat) : List IV → List IV
  | [] => []
  | c :: cs => ren ρ c :: renL ρ cs
end
mutual
/-- is all of it known? -/
def kn : IV → Bool
  | .unk => false
  | .fn _ cs => knL cs
  | .agg cs => knL cs
  | .tup vs => knL vs
  | _ => true
def knL : List IV → Bool
  | [] => true
  | c :: cs => kn c && knL cs
end
def renB (ρ : Nat → Option Nat) : Blk → Blk
  | .var t cells => .var t (renL ρ cells)
  | k => k
mutual
def refs : IV → List Nat
  | .fn _ cs => refsL cs
  | .ptr b _ => [b]
  | .pdyn b _ _ => [b]
  | .prow b _ _ _ => [b]
  | .prowd b _ _ _ _ => [b]
  | .sl b => [b]
  | .agg cs => refsL cs
  | .tup vs => refsL vs
  | _ => []
def refsL : List IV → List Nat
  | [] => []
  | c :: cs => refs c ++ refsL cs
end

/-- rows that were handed on become rows that are only read -/
def freeze (b : List (Option Blk)) : List (Option Nat) → List (Option Blk)
  | [] => b
  | some i :: l => match look b i with
    | some (.row _ ks xs) => freeze (b.set i (some (.ro ks xs))) l
    | _ => freeze b l
  | none :: l => freeze b l

def enters (P : Program) (g : FuncId) : Bool :=
  match P.funcs[g]? with
  | some fn => !(fn.name == "runtime.NumGoroutine") && fn.body.isSome
  | none => false

inductive Out where
  | normal
  | exit (id : Nat)
  | ret

/-- What a loop does, told beforehand: of the blocks that keep their numbers, the state at its head, and what follows. -/
abbrev LoopS := Nat → St → (Out → St → Prop) → Prop

/-- What a function does to the memory, told beforehand. -/
abbrev FunS := List IV → List (Option Blk) → (IV → List (Option Blk) → Prop) → Prop

structure Env where
  P : Program
  Γ : FuncId → Option Spec
  Λ : FuncId → Nat → Option LoopS
  inl : FuncId → List IV → List (Option Blk) → (IV → List (Option Blk) → Prop) → Prop

def afterCall (st : St) (used : List (Option Nat)) (r : IV × List Blk) : List (Option Blk) :=
  (if r.2.all Blk.own then st.b else freeze st.b used) ++ r.2.map some

def callK (E : Env) (st : St) (c : Call) (dst : Option Tmp) (K : St → Prop) : Prop :=
  match c.callee with
  | .value f =>
    match ev st f, evs st c.args.toList with
    | some (.fn g caps), some args =>
      if enters E.P g = true then
        match E.Γ g with
        | some sp =>
          match caps, packVs E.P st c.argTypes.toList args [] with
          | [], some (as, acc) =>
            sp.pre as (acc.map (·.1)) ∧
              K (St.setT { t := st.t, b := afterCall st (acc.map (·.2)) (sp.F as (acc.map (·.1))) } dst (ren (fun j => some (st.b.length + j)) (sp.F as (acc.map (·.1))).1))
          | _, _ => False
        | none => E.inl g (args ++ caps) st.b fun v b => K (St.setT { t := st.t, b } dst v)
      else False
    | _, _ => False
  | .builtin .append =>
    match c.args.toList, c.argTypes.toList with
    | [s, x], [t, t'] =>
      match elemT E.P t, (elemT E.P t).bind (kinds E.P), (elemT E.P t).bind (bytesT E.P), ev st s, ev st x with
      | some e, some ks, some by_, some (.sl b), some (.sl d) =>
        match look st.b b, rows st d with
        | some (.row e' ks' xs), some (ks2, ys) =>
          if t = t' ∧ e = e' ∧ ks = ks' ∧ ks = ks2 ∧ b ≠ d then
            (xs.length + ys.length) * by_ ≤ 140737488355328 ∧
              K (St.setT ((st.dropB b).newB (.row e ks (xs ++ ys))) dst (.sl st.b.length))
          else False
        | _, _ => False
      | some e, some ks, some by_, some .nils, some (.sl d) =>
        match rows st d with
        | some (ks2, ys) =>
          if t = t' ∧ ks = ks2 then
            ys.length * by_ ≤ 140737488355328 ∧ K (St.setT (st.newB (.row e ks ys)) dst (.sl st.b.length))
          else False
        | _ => False
      | _, _, _, _, _ => False
    | _, _ => False
  | _ => False

def cutAt (st : St) (x : Option Operand) (d : Int) : Option Int :=
  match x with
  | none => some d
  | some y => match ev st y with
    | some (.int _ n) => some n
    | _ => none
def sameOp : Operand → Operand → Bool
  | .tmp a, .tmp b => a == b
  | .const (.int _ a), .const (.int _ b) => a == b
  | _, _ => false

/-- elements of a literal -/
def litRows (ks : List IntKind) (len : Nat) (st : St) : List (Nat × Operand) → List (List Int) → Option (List (List Int))
  | [], z => some z
  | (i, x) :: rest, z =>
    match ev st x with
    | some v =>
      match (v.cells.mapIdx fun j c => (j, c)).mapM (cellInt ks 0) with
      | some ys => if ys.length = ks.length ∧ i < len then litRows ks len st rest (z.set i ys) else none
      | none => none
    | none => none

/-- What one operation does, and what is asked for. -/
def stepK (E : Env) (st : St) (o : Oper) (K : St → Prop) : Prop :=
  match pureStep E.P st o with
  | some (p, v) => ask p (K (st.setT o.dst v))
  | none =>
    match o.op with
    | .assign x =>
      match ev st x, elemT E.P o.type, (elemT E.P o.type).bind (kinds E.P) with
      | some .nils, some e, some ks => K ((st.newB (.row e ks [])).setT o.dst (.sl st.b.length))
      | _, _, _ => False
    | .alloc e =>
      match zeroOf E.P e with
      | some cells =>
        match newInts E.P e cells with
        | some k => K ((st.newB (.ints e k (List.replicate cells.length 0))).setT o.dst (.ptr st.b.length 0))
        | none => newVar E.P st e cells o.dst K
      | none => False
    | .box e x =>
      match ev st x with
      | some v => if notTup v = false then False else newVar E.P st e v.cells o.dst K
      | none => False
    | .store t a x =>
      match ev st a, ev st x with
      | some a, some v => storeAt E.P st t a v fun st' => K (st'.setT o.dst (.tup []))
      | _, _ => False
    | .buildSlice t len parts =>
      match elemT E.P t, (elemT E.P t).bind (kinds E.P) with
      | some e, some ks =>
        match litRows ks len st parts.toList (List.replicate len (List.replicate ks.length 0)) with
        | some xs => if len * ks.length ≤ 2 ^ 24 then K ((st.newB (.row e ks xs)).setT o.dst (.sl st.b.length)) else False
        | none => False
      | _, _ => False
    | .makeSlice t l c =>
      match elemT E.P t, (elemT E.P t).bind (kinds E.P), (elemT E.P t).bind (bytesT E.P), ev st l, ev st c with
      | some e, some ks, some by_, some (.int .i64 n), some (.int .i64 m) =>
        if sameOp l c = true then (0 ≤ n ∧ n * by_ ≤ 140737488355328) ∧ K ((st.newB (.row e ks (List.replicate n.toNat (List.replicate ks.length 0)))).setT o.dst (.sl st.b.length)) else False
      | _, _, _, _, _ => False
    | .slice t x lo hi mx =>
      match elemT E.P t, ev st x, mx with
      | some e, some (.sl b), none =>
        match rows st b with
        | some (ks, xs) =>
          match cutAt st lo 0, cutAt st hi xs.length with
          | some l, some h =>
            if sizeT E.P e = some ks.length then
              (0 ≤ l ∧ l ≤ h ∧ h ≤ xs.length) ∧
                K (St.setT { t := st.t, b := freeze st.b [some b] ++ [some (.ro ks ((xs.take h.toNat).drop l.toNat))] } o.dst (.sl st.b.length))
            else False
          | _, _ => False
        | none => False
      | _, _, _ => False
    | .binOp .eql t x y _ =>
      match ev st x, ev st y with
      | some (.sl b), some .nils =>
        match rows st b, elemT E.P t with
        | some (ks, xs), some _ => ∀ q : Bool, (q = true → xs = []) → K (st.setT o.dst (.bool q))
        | _, _ => False
      | _, _ => False
    | .call c => callK E st c o.dst K
    | _ => False

def guardK (ops : List Oper) (st : St) (o : Oper) (K1 K0 : St → Prop) : Prop :=
  match o.guard with
  | none => K1 st
  | some (j, want) =>
    match nthR ops j with
    | some oj =>
      match oj.dst with
      | some d =>
        match look st.t d with
        | some (.bool b) =>
          if want then br b (K1 (st.setT (some d) (.bool true))) (K0 (st.setT (some d) (.bool false)))
          else br b (K0 (st.setT (some d) (.bool true))) (K1 (st.setT (some d) (.bool false)))
        | some (.tup []) => K0 st
        | _ => False
      | none => False
    | none => False

/-- the temporaries' list written out anew (for the kernel's sake) -/
def spineT (l : List (Option IV)) : (List (Option IV) → Prop) → Prop :=
  List.rec (motive := fun _ => (List (Option IV) → Prop) → Prop) (fun K => K []) (fun x _ ih K => Option.rec (motive := fun _ => Prop) (ih fun l => K (none :: l)) (fun v => ih fun l => K (some v :: l)) x) l
theorem spineT_eq : ∀ (l : List (Option IV)) (K : List (Option IV) → Prop), spineT l K = K l
  | [], _ => rfl
  | none :: l, K => spineT_eq l fun l => K (none :: l)
  | some v :: l, K => spineT_eq l fun l => K (some v :: l)
def normT (st : St) (K : St → Prop) : Prop := spineT st.t fun t => K { t, b := st.b }
def spineB (l : List Bool) : (List Bool → Prop) → Prop :=
  List.rec (motive := fun _ => (List Bool → Prop) → Prop) (fun K => K []) (fun x _ ih K => Bool.rec (motive := fun _ => Prop) (ih fun l => K (false :: l)) (ih fun l => K (true :: l)) x) l
theorem spineB_eq : ∀ (l : List Bool) (K : List Bool → Prop), spineB l K = K l
  | [], _ => rfl
  | true :: l, K => spineB_eq l fun l => K (true :: l)
  | false :: l, K => spineB_eq l fun l => K (false :: l)
def normB (a : Array Bool) (K : Array Bool → Prop) : Prop := spineB a.toList fun l => K l.toArray

def execOps (E : Env) (all : List Oper) : List Oper → St → (St → Prop) → Prop
  | [], st, K => K st
  | o :: rest, st, K => guardK all st o (fun st => stepK E st o fun st' => normT st' fun st' => execOps E all rest st' K) (fun st => execOps E all rest (st.setT o.dst (.tup [])) K)

def loopN (f : St → (Out → St → Prop) → Prop) (cl : St → St) : Nat → St → (Out → St → Prop) → Prop
  | 0, _, _ => False
  | n + 1, st, K => f st fun o st' => match o with
    | .normal => loopN f cl n (cl st') K
    | o => K o st'

/-! what a piece of code reads from ahead of it; what it surely writes -/
def opndTmp : Operand → List Nat
  | .tmp i => [i]
  | _ => []
/-- sets of numbers as bits -/
def bit1 (i : Nat) : Nat := Nat.shiftLeft 1 i
def andNot (x y : Nat) : Nat := Nat.xor (Nat.lor x y) y
def hasBit (m i : Nat) : Bool := Nat.beq (Nat.land (Nat.shiftRight m i) 1) 1
def opndBit : Operand → Nat
  | .tmp i => bit1 i
  | _ => 0
def opndBits : List Operand → Nat → Nat
  | [], m => m
  | x :: l, m => opndBits l (Nat.lor m (opndBit x))
def dstBit (d : Option Tmp) : Nat := match d with
  | some d => bit1 d
  | none => 0
def regionReads : List Oper → Nat → Nat → Nat
  | [], _, acc => acc
  | o :: l, ds, acc => regionReads l (Nat.lor ds (dstBit o.dst)) (Nat.lor acc (andNot (opndBits o.op.operands.toList 0) ds))
def regionWrites : List Oper → Nat → Nat
  | [], m => m
  | o :: l, m => regionWrites l (Nat.lor m (dstBit o.dst))
def hasExit (id : Nat) : Code → Bool
  | .exit i => i == id
  | .seq a b => hasExit id a || hasExit id b
  | .cond _ a b => hasExit id a || hasExit id b
  | .block _ c => hasExit id c
  | .loop c => hasExit id c
  | _ => false
def ends : Code → Bool
  | .exit _ => true
  | .ret => true
  | .seq a b => ends a || ends b
  | .cond _ a b => ends a && ends b
  | .block id c => ends c && !hasExit id c
  | .loop _ => true
  | _ => false
def kill : Code → Nat
  | .region _ ops _ => regionWrites ops.toList 0
  | .seq a b => Nat.lor (kill a) (kill b)
  | .cond _ a b => if ends a then kill b else if ends b then kill a else Nat.land (kill a) (kill b)
  | .block id c => if hasExit id c then 0 else kill c
  | _ => 0
def gen : Code → Nat
  | .region _ ops _ => regionReads ops.toList 0 0
  | .seq a b => Nat.lor (gen a) (andNot (gen b) (kill a))
  | .cond c a b => Nat.lor (opndBit c) (Nat.lor (gen a) (gen b))
  | .block _ c => gen c
  | .loop c => gen c
  | _ => 0
def outs : Code → List Nat
  | .exit i => [i]
  | .seq a b => outs a ++ outs b
  | .cond _ a b => outs a ++ outs b
  | .block id c => (outs c).filter (· != id)
  | .loop c => outs c
  | _ => []
/-- what is wanted behind 'a', ahead of 'b' -/
def liveSeq (a b : Code) (kp : Nat) : Nat := Nat.lor (gen b) (if (outs a).isEmpty then andNot kp (kill b) else kp)
def nloops : Code → Nat
  | .seq a b => nloops a + nloops b
  | .cond _ a b => nloops a + nloops b
  | .block _ c => nloops c
  | .loop c => nloops c + 1
  | _ => 0
/-- a piece of code's loops, with what is wanted behind each -/
def loopsOf (kp : Nat) : Code → List (Nat × Code)
  | .seq a b => loopsOf (liveSeq a b kp) a ++ loopsOf kp b
  | .cond _ a b => loopsOf kp a ++ loopsOf kp b
  | .block _ c => loopsOf kp c
  | .loop c => (kp, c) :: loopsOf (Nat.lor kp (gen c)) c
  | _ => []
def keepOf (kp : Nat) (i : Nat) : Bool := hasBit kp i

def addNew (b : List (Option Blk)) (seen xs : List Nat) : List Nat :=
  xs.foldl (fun s x => if s.contains x || (look b x).isNone then s else s ++ [x]) seen
def growIds (b : List (Option Blk)) : Nat → Nat → List Nat → List Nat
  | 0, _, seen => seen
  | fuel + 1, i, seen => match seen[i]? with
    | none => seen
    | some id => growIds b fuel (i + 1) (addNew b seen (match look b id with | some (.var _ cells) => refsL cells | _ => []))
def idxOf : List Nat → Nat → Option Nat
  | [], _ => none
  | x :: l, b => if x = b then some 0 else (idxOf l b).map (· + 1)
def nodupB : List Nat → Bool
  | [] => true
  | x :: l => !l.contains x && nodupB l
def keepT (keep : Nat → Bool) (f : IV → IV) (i : Nat) (l : List (Option IV)) : List (Option IV) :=
  List.rec (motive := fun _ => Nat → List (Option IV)) (fun _ => []) (fun x _ ih i => Option.rec (motive := fun _ => List (Option IV)) (none :: ih (i + 1)) (fun v => (if keep i then some (f v) else none) :: ih (i + 1)) x) l i
theorem keepT_nil (keep : Nat → Bool) (f : IV → IV) (i : Nat) : keepT keep f i [] = [] := rfl
theorem keepT_none (keep : Nat → Bool) (f : IV → IV) (i : Nat) (l : List (Option IV)) : keepT keep f i (none :: l) = none :: keepT keep f (i + 1) l := rfl
theorem keepT_some (keep : Nat → Bool) (f : IV → IV) (i : Nat) (v : IV) (l : List (Option IV)) : keepT keep f i (some v :: l) = (if keep i then some (f v) else none) :: keepT keep f (i + 1) l := rfl
def keepRefs (keep : Nat → Bool) (i : Nat) (l : List (Option IV)) : List Nat :=
  List.rec (motive := fun _ => Nat → List Nat) (fun _ => []) (fun x _ ih i => Option.rec (motive := fun _ => List Nat) (ih (i + 1)) (fun v => if keep i then refs v ++ ih (i + 1) else ih (i + 1)) x) l i
/-- the state behind forgetting, and in the order in which its blocks are met -/
def gcBy (order : List Nat) (keep : Nat → Bool) (st : St) : St :=
  { t := keepT keep (ren (idxOf order)) 0 st.t
    b := order.map fun i => (look st.b i).map (renB (idxOf order)) }
def gcOrder (n0 : Nat) (keep : Nat → Bool) (st : St) : List Nat :=
  growIds st.b (st.b.length + 1) 0 (addNew st.b (List.range n0) (keepRefs keep 0 st.t))
def gc (n0 : Nat) (keep : Nat → Bool) (st : St) : St :=
  let order := gcOrder n0 keep st
  if nodupB order then gcBy order keep st else st

/-- is an operation one that may write what was there? -/
def writes (E : Env) (o : Oper) : Bool :=
  match o.op with
  | .store _ _ _ => true
  | .call c => match c.callee with
    | .value (.func g) => (E.Γ g).isNone
    | .value _ => true
    | _ => false
  | _ => false
def appends (o : Oper) : Bool :=
  match o.op with
  | .call c => match c.callee with
    | .builtin .append => true
    | _ => false
  | _ => false
def headOf (E : Env) : List Oper → Nat
  | [] => 0
  | o :: l => if writes E o then 0 else headOf E l + 1
/-- what an operation waits for, also through others -/
def depMask (ms : List Nat) : List Edge → Nat → Nat
  | [], m => m
  | e :: l, m => depMask ms l (if Region.binds .any e then Nat.lor (Nat.lor m (bit1 e.on)) ((nthR ms e.on).getD 0) else m)
def depMasks : List Oper → List Nat → List Nat
  | [], ms => ms
  | o :: l, ms => depMasks l (ms ++ [depMask ms o.after.toList 0])
/-- whatever comes behind the head waits for all of it -/
def sinkGo (need : Nat) : List Nat → Bool
  | [] => true
  | m :: l => Nat.beq (Nat.land m need) need && sinkGo need l
def sinkOk (ops : Array Oper) (hd : Nat) : Bool := sinkGo (Nat.sub (Nat.pow 2 hd) 1) ((depMasks ops.toList []).drop hd)
def noRows : List (Option Blk) → List (Option Blk)
  | [] => []
  | some (.row _ _ _) :: l => none :: noRows l
  | x :: l => x :: noRows l

def guardOff (gs : List (Nat × Bool)) (o : Oper) : Bool :=
  match o.guard with
  | some (j, want) => gs.any fun p => p.1 == j && p.2 != want
  | none => false
def canTake (P : Program) (facts : List (Option Blk)) (gs : List (Nat × Bool)) (st : St) (o : Oper) : Bool :=
  guardOff gs o || match pureStep P { st with b := facts } o with
    | some (_, v) => kn v
    | none => false
/-- the first of those at hand that only looks -/
def pick1 (P : Program) (ops : Array Oper) (facts : List (Option Blk)) (hd : Nat) (listed : Array Bool) (gs : List (Nat × Bool)) (st : St) : List Nat → Option Nat
  | [] => none
  | i :: l =>
    match ops[i]? with
    | some o => if i < hd ∧ canTake P facts gs st o = true ∧ Region.free .any ops listed i = true then some i else pick1 P ops facts hd listed gs st l
    | none => none
def allOf (f : Nat → Prop) : List Nat → Prop
  | [] => True
  | [i] => f i
  | i :: l => f i ∧ allOf f l
def newG (gs : List (Nat × Bool)) (o : Oper) (yes : Bool) : List (Nat × Bool) :=
  match o.guard with
  | some (j, want) => if gs.any (fun p => Nat.beq p.1 j) then gs else (j, want == yes) :: gs
  | none => gs
/-- a region that draws its order: what only looks is taken first; else each that is at hand -/
def execAny (E : Env) (ops : Array Oper) (facts : List (Option Blk)) (hd : Nat) : Nat → Array Bool → List (Nat × Bool) → St → (St → Prop) → Prop
  | 0, listed, gs, st, K => if Region.ready .any ops listed = [] then K st else False
  | fuel + 1, listed, gs, st, K =>
    match Region.ready .any ops listed with
    | [] => K st
    | r :: rs =>
      match pick1 E.P ops facts hd listed gs st (r :: rs) with
      | some i =>
        match ops[i]? with
        | some o => guardK ops.toList st o
            (fun st => match pureStep E.P { st with b := facts } o with
              | some (p, v) => if kn v = true then ask p (normT (st.setT o.dst v) fun st => normB (listed.setIfInBounds i true) fun listed => execAny E ops facts hd fuel listed (newG gs o true) st K) else False
              | none => False)
            (fun st => execAny E ops facts hd fuel (listed.setIfInBounds i true) (newG gs o false) (st.setT o.dst (.tup [])) K)
        | none => False
      | none => allOf (fun i =>
        match ops[i]? with
        | some o => guardK ops.toList st o
            (fun st => stepK E st o fun st' => normT st' fun st' => normB (listed.setIfInBounds i true) fun listed => execAny E ops facts hd fuel listed (newG gs o true) st' K)
            (fun st => execAny E ops facts hd fuel (listed.setIfInBounds i true) (newG gs o false) (st.setT o.dst (.tup [])) K)
        | none => False) (r :: rs)

/-! a region's head taken line by line, where that may be: sets of numbers as bits -/
def maskOf (l : List Nat) : Nat := l.foldl (fun m i => Nat.lor m (Nat.shiftLeft 1 i)) 0
structure OpI where
  d : Nat
  l : Nat
  a : Nat
def infoOf (ops : Array Oper) (o : Oper) : OpI :=
  { d := match o.dst with
      | some d => Nat.shiftLeft 1 d
      | none => 0
    l := maskOf (o.looksAt ops)
    a := maskOf ((o.after.toList.filter (Region.binds .any)).map (·.on)) }
def lineRest (i d l : Nat) : List OpI → Bool
  | [] => true
  | p :: ps => (Nat.testBit p.a i || (Nat.beq (Nat.land d p.l) 0 && Nat.beq (Nat.land d p.d) 0 && Nat.beq (Nat.land l p.d) 0)) && lineRest i d l ps
/-- how many may be taken line by line -/
def lineGo : Nat → List OpI → Nat
  | _, [] => 0
  | i, p :: ps => if Nat.blt p.a (Nat.pow 2 i) && lineRest i p.d p.l ps then lineGo (i + 1) ps + 1 else 0
def lineLen (ops : Array Oper) : Nat := lineGo 0 (ops.toList.map (infoOf ops))
def preA (n i : Nat) : Array Bool := ((List.range n).map fun j => Nat.blt j i).toArray
def execLine (E : Env) (ops : Array Oper) (facts : List (Option Blk)) (hd lim : Nat) : List Oper → Nat → List (Nat × Bool) → St → (St → Prop) → Prop
  | [], i, gs, st, K => execAny E ops facts hd (ops.size - i) (preA ops.size i) gs st K
  | o :: rest, i, gs, st, K =>
    if Nat.blt i lim && canTake E.P facts gs st o then
      guardK ops.toList st o
        (fun st => match pureStep E.P { st with b := facts } o with
          | some (p, v) => if kn v = true then ask p (normT (st.setT o.dst v) fun st => execLine E ops facts hd lim rest (i + 1) (newG gs o true) st K) else False
          | none => False)
        (fun st => normT (st.setT o.dst (.tup [])) fun st => execLine E ops facts hd lim rest (i + 1) (newG gs o false) st K)
    else execAny E ops facts hd (ops.size - i) (preA ops.size i) gs st K

def normN (n : Nat) (K : Nat → Prop) : Prop :=
  match n with
  | 0 => K 0
  | n + 1 => K (n + 1)
def anyR {α : Type} (f : α → Bool) (l : List α) : Bool := List.rec (motive := fun _ => Bool) false (fun x _ ih => Bool.rec (motive := fun _ => Bool) ih true (f x)) l
theorem anyR_eq {α : Type} (f : α → Bool) : ∀ l : List α, anyR f l = l.any f
  | [] => rfl
  | x :: l => by
    show Bool.rec (motive := fun _ => Bool) (anyR f l) true (f x) = _
    rw [List.any_cons, anyR_eq f l]
    cases f x <;> rfl
def execDraw (E : Env) (ops : Array Oper) (st : St) (K : St → Prop) : Prop :=
  let hd := headOf E ops.toList
  if Region.noSelect ops && sinkOk ops hd then
    normN (Nat.min hd (lineLen ops)) (fun lim => Bool.rec (motive := fun _ => Prop) (execLine E ops st.b hd lim ops.toList 0 [] st K) (execLine E ops (noRows st.b) hd lim ops.toList 0 [] st K) (anyR appends ops.toList))
  else False

/-- the temporaries that a return reads -/
def resBits : List ResultVar → Nat → Nat
  | [], m => m
  | .tmp i :: l, m => resBits l (Nat.lor m (bit1 i))
  | .cell i _ :: l, m => resBits l (Nat.lor m (bit1 i))
def resTmps (fn : Func) : Nat := resBits fn.results.toList 0
def resF (P : Program) (f : FuncId) : Nat := match P.funcs[f]? with
  | some fn => resTmps fn
  | none => 0
/-- what is wanted behind a loop -/
def keepO (P : Program) (f : FuncId) (kp : Nat) (o : Out) : Nat → Bool := match o with
  | .ret => keepOf (resF P f)
  | _ => keepOf kp

/-- Code. 'kp': the temporaries that are wanted behind it; 'i': its first loop's number; 'n0': blocks that keep their numbers. -/
def exec (E : Env) (f : FuncId) (n0 : Nat) : (kp : Nat) → (i : Nat) → Code → St → (Out → St → Prop) → Prop
  | _, _, .skip, st, K => K .normal st
  | _, _, .region _ ops draw, st, K => if draw then execDraw E ops st (K .normal) else execOps E ops.toList ops.toList st (K .normal)
  | kp, i, .seq a b, st, K => exec E f n0 (liveSeq a b kp) i a st fun o st' => match o with
    | .normal => exec E f n0 kp (i + nloops a) b st' K
    | o => K o st'
  | kp, i, .cond c x y, st, K => match ev st c with
    | some (.bool b) => br b (exec E f n0 kp i x st K) (exec E f n0 kp (i + nloops x) y st K)
    | _ => False
  | kp, i, .block id c, st, K => exec E f n0 kp i c st fun o st' => match o with
    | .exit i => if i = id then K .normal st' else K (.exit i) st'
    | o => K o st'
  | kp, i, .loop c, st, K =>
    match E.Λ f i with
    | some S => S n0 (gc n0 (keepOf (Nat.lor kp (gen c))) st) K
    | none => ∃ n, loopN (exec E f n0 (Nat.lor kp (gen c)) (i + 1) c) (gc n0 (keepOf (Nat.lor kp (gen c)))) n (gc n0 (keepOf (Nat.lor kp (gen c))) st) K
  | _, _, .exit id, st, K => K (.exit id) st
  | _, _, .ret, st, K => K .ret st
  | _, _, _, _, _ => False
/-- what a loop's word is to mean -/
def LoopOk (E : Env) (f : FuncId) (n0 : Nat) (i : Nat) (p : Nat × Code) (S : LoopS) : Prop :=
  ∀ st K, S n0 st K → ∃ n, loopN (exec E f n0 (Nat.lor p.1 (gen p.2)) (i + 1) p.2) (gc n0 (keepOf (Nat.lor p.1 (gen p.2)))) n st fun o st' => K o (gc n0 (keepO E.P f p.1 o) st')

def resultOf1 (P : Program) (st : St) (r : ResultVar) : Option IV :=
  match r with
  | .tmp i => look st.t i
  | .cell i t => match look st.t i with
    | some (.ptr b 0) => match loadAt P st t (.ptr b 0) with
      | some (none, v) => some v
      | _ => none
    | _ => none
def resultsOf (P : Program) (st : St) : List ResultVar → Option (List IV)
  | [] => some []
  | r :: rs => match resultOf1 P st r, resultsOf P st rs with
    | some v, some vs => some (v :: vs)
    | _, _ => none
def resultOf (P : Program) (fn : Func) (st : St) : Option IV :=
  match fn.results.toList with
  | [r] => resultOf1 P st r
  | rs => (resultsOf P st rs).map .tup

/-- a function's loops -/
def lp (P : Program) (f : FuncId) (i : Nat) : Nat × Code :=
  match P.funcs[f]? with
  | some fn => match fn.body with
    | some c => (loopsOf (resTmps fn) c).getD i (0, .skip)
    | none => (0, .skip)
  | none => (0, .skip)

def body (E : Env) (f : FuncId) (args : List IV) (b : List (Option Blk)) (K : IV → List (Option Blk) → Prop) : Prop :=
  match E.P.funcs[f]? with
  | none => False
  | some fn =>
    match fn.body with
    | none => False
    | some c => exec E f b.length (resTmps fn) 0 c { t := args.map some ++ List.replicate (fn.ntmps - args.length) none, b } fun o st => match o with
      | .exit _ => False
      | _ => match resultOf E.P fn st with
        | some v => K v st.b
        | none => False

/-! a function that writes what it is handed sees what can be reached from its arguments, and no more -/
def reachOf (b : List (Option Blk)) (args : List IV) : List Nat := growIds b (b.length + 1) 0 (addNew b [] (refsL args))
def backOf (order : List Nat) (n : Nat) (j : Nat) : Option Nat := match nthR order j with
  | some i => some i
  | none => some (n + (j - order.length))
def putBack (b : List (Option Blk)) (order : List Nat) (b1 : List (Option Blk)) : List (Option Blk) :=
  (List.range b.length).map (fun i => match idxOf order i with
    | some j => (look b1 j).map (renB (backOf order b.length))
    | none => look b i) ++ (b1.drop order.length).map (Option.map (renB (backOf order b.length)))
def allLt (n : Nat) (l : List Nat) : Bool := l.all fun i => Nat.blt i n
def framed (G : FunS) : FunS := fun args b K =>
  if nodupB (reachOf b args) && allLt b.length (reachOf b args) then
    G (args.map (ren (idxOf (reachOf b args)))) ((reachOf b args).map fun i => (look b i).map (renB (idxOf (reachOf b args)))) fun v b1 =>
      K (ren (backOf (reachOf b args) b.length) v) (putBack b (reachOf b args) b1)
  else False
/-- a function is handed no nil slice, but an empty row -/
def nilRows (P : Program) : List TypeId → List IV → List (Option Blk) → List IV × List (Option Blk)
  | t :: ts, .nils :: as, b => match elemT P t, (elemT P t).bind (kinds P) with
    | some e, some ks => (.sl b.length :: (nilRows P ts as (b ++ [some (.row e ks [])])).1, (nilRows P ts as (b ++ [some (.row e ks [])])).2)
    | _, _ => (.nils :: (nilRows P ts as b).1, (nilRows P ts as b).2)
  | _ :: ts, a :: as, b => (a :: (nilRows P ts as b).1, (nilRows P ts as b).2)
  | _, as, b => (as, b)
def paramsOf (P : Program) (g : FuncId) : List TypeId := match P.funcs[g]? with
  | some fn => fn.params.toList
  | none => []
def noNil : List IV → Bool
  | [] => true
  | .nils :: _ => false
  | _ :: l => noNil l
def lifted (P : Program) (g : FuncId) (F : FunS) : FunS := fun args b K =>
  if noNil args then F args b K else
  match nilRows P (paramsOf P g) args b with
  | (as, b') => F as b' K
/-- an answer, what is of no more use forgotten -/
def gcV (n0 : Nat) (v : IV) (b : List (Option Blk)) (K : IV → List (Option Blk) → Prop) : Prop :=
  match look (gc n0 (fun _ => true) { t := [some v], b }).t 0 with
  | some v' => K v' (gc n0 (fun _ => true) { t := [some v], b }).b
  | none => False

/-- What is known beforehand: of functions that only read, of loops, of functions that write what they are handed. -/
structure Know where
  Γ : FuncId → Option Spec
  Λ : FuncId → Nat → Option LoopS
  Τ : FuncId → Option FunS

/-- a function's body, the functions without a contract entered so deep -/
def runFn (P : Program) (N : Know) : Nat → FuncId → List IV → List (Option Blk) → (IV → List (Option Blk) → Prop) → Prop
  | 0, _, _, _, _ => False
  | d + 1, f, args, b, K => body { P, Γ := N.Γ, Λ := N.Λ, inl := fun g args b K => match N.Τ g with
      | some G => lifted P g (framed G) args b K
      | none => runFn P N d g args b K } f args b K
/-- what is around a piece of code that may enter functions so deep -/
def envOf (P : Program) (N : Know) (d : Nat) : Env := { P, Γ := N.Γ, Λ := N.Λ, inl := fun g args b K => match N.Τ g with
  | some G => lifted P g (framed G) args b K
  | none => runFn P N d g args b K }

/-- the result as a contract tells it: its slices by number -/
def resC (b : List (Option Blk)) (c : IV) (acc : List (Nat × Blk)) : Option (IV × List (Nat × Blk)) :=
  match c with
  | .int k n => some (.int k n, acc)
  | .bool b => some (.bool b, acc)
  | .sl i => match look b i with
    | some (.row e ks xs) => if acc.any (fun p => p.1 == i) then none else some (.sl acc.length, acc ++ [(i, .row e ks xs)])
    | some (.ro ks xs) => some (.sl acc.length, acc ++ [(i, .ro ks xs)])
    | _ => none
  | _ => none
def resL (b : List (Option Blk)) : List IV → List (Nat × Blk) → Option (List IV × List (Nat × Blk))
  | [], acc => some ([], acc)
  | c :: cs, acc => match resC b c acc with
    | some (c', acc') => match resL b cs acc' with
      | some (cs', acc'') => some (c' :: cs', acc'')
      | none => none
    | none => none
def resV (b : List (Option Blk)) (v : IV) (acc : List (Nat × Blk)) : Option (IV × List (Nat × Blk)) :=
  match v with
  | .agg cs => match resL b cs acc with
    | some (cs', acc') => some (.agg cs', acc')
    | none => none
  | v => resC b v acc
def resVs (b : List (Option Blk)) : List IV → List (Nat × Blk) → Option (List IV × List (Nat × Blk))
  | [], acc => some ([], acc)
  | c :: cs, acc => match resV b c acc with
    | some (c', acc') => match resVs b cs acc' with
      | some (cs', acc'') => some (c' :: cs', acc'')
      | none => none
    | none => none
def resOf (b : List (Option Blk)) (v : IV) : Option (IV × List Blk) :=
  match v with
  | .tup vs => (resVs b vs []).map fun p => (.tup p.1, p.2.map (·.2))
  | v => (resV b v []).map fun p => (p.1, p.2.map (·.2))

/-- What a function comes to: its answer, as a contract tells it. -/
def comes (P : Program) (N : Know) (d : Nat) (f : FuncId) (args : List IV) (bs : List Blk) (K : IV → List Blk → Prop) : Prop :=
  runFn P N d f args (bs.map some) fun v b => match resOf b v with
    | some (v', bs') => K v' bs'
    | none => False

end
end Go.Vs
