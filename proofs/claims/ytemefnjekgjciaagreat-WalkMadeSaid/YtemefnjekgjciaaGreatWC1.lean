import Derived.OrdersHeld
import Derived.WalkKit
import GoSem.ClaimKeys
import Derived.Laws.OwnMore
import Derived.RangeFuncOwn
import Derived.RangeFuncLeaves
import Derived.Maps.AppendAt
import Derived.Laws.Closers25b
import Derived.DeepKeys
import Derived.Laws.StructEq
import Derived.Laws.Externs
import Derived.Lib.SliceRun
set_option linter.unusedVariables false
set_option linter.unusedSimpArgs false
noncomputable section
abbrev Go.Vs.L1:=List Int
abbrev Go.Vs.L2:=List (List Int)
namespace Go.Vs
inductive IV where
 | int (k:IntKind) (n:Int)
 | bool (b:Bool)
 | nilp
 | nils
 | nilf
 | unk
 | fn (f:FuncId) (caps:List IV)
 | ptr (b o:Nat)
 | pdyn (b o:Nat) (i:Int)
 | prow (b:Nat) (i:Int) (sz f:Nat)
 | prowd (b:Nat) (i:Int) (sz f:Nat) (j:Int)
 | sl (b:Nat)
 | agg (cs:List IV)
 | tup (vs:List IV)
 deriving Inhabited
inductive aq where
 | var (t:TypeId) (cells:List IV)
 | ints (t:TypeId) (k:IntKind) (xs:L1)
 | row (e:TypeId) (ks:List IntKind) (xs:L2)
 | ro (ks:List IntKind) (xs:L2)
abbrev OB:=List (Option aq)
abbrev KP:=IV->List aq->Prop
def aq.own:aq->Bool
 | .ro _ _=>false
 | _=>true
def aq.isSlice:aq->Bool
 | .row _ _ _=>true
 | .ro _ _=>true
 | _=>false
def aq.agu:aq->Bool
 | .row _ _ _=>true
 | _=>false
noncomputable section
def look {α:Type} (l:List (Option α)):Nat->Option α:=
 List.rec (motive:=fun _=>Nat->Option α) (fun _=>none) (fun x _ ih n=>Nat.rec (motive:=fun _=>Option α) x (fun m _=>ih m) n) l
theorem look_nil {α:Type} (n:Nat):look ([]:List (Option α)) n=none:=rfl
theorem bX {α:Type} (x:Option α) (l:List (Option α)):look (x :: l) 0=x:=rfl
theorem bY {α:Type} (x:Option α) (l:List (Option α)) (n:Nat):look (x :: l) (n+1)=look l n:=rfl
def WI {α:Type} (l:List α):Nat->α->List α:=
 List.rec (motive:=fun _=>Nat->α->List α) (fun _ _=>[]) (fun x t ih n a=>Nat.rec (motive:=fun _=>List α) (a :: t) (fun m _=>x :: ih m a) n) l
theorem o8 {α:Type}:∀ (l:List α) (n:Nat) (a:α),WI l n a=l.set n a
 | [],_,_=>rfl
 | _ :: _,0,_=>rfl
 | x :: l,n+1,a=>congrArg (x :: ·) (o8 l n a)
def lg {α:Type} (l:List α):Nat->Option α:=
 List.rec (motive:=fun _=>Nat->Option α) (fun _=>none) (fun x _ ih n=>Nat.rec (motive:=fun _=>Option α) (some x) (fun m _=>ih m) n) l
theorem pq {α:Type}:∀ (l:List α) (n:Nat),lg l n=l[n]?
 | [],_=>rfl
 | _ :: _,0=>rfl
 | x :: l,n+1=>by rw [List.getElem?_cons_succ]; exact pq l n
structure St where
 t:List (Option IV)
 b:List (Option aq)
def rd (xs:L2) (i j:Nat):Int:=(xs.getD i []).getD j 0
def rowOf (ks:List IntKind) (x:L1):List Value:=(List.range ks.length).map fun j=>.int (ks.getD j .i64) (x.getD j 0)
def flat (ks:List IntKind) (xs:L2):List Value:=xs.flatMap (rowOf ks)
def St.aN (st:St) (d:Option Tmp) (v:IV):St:=
 match d with
 | some i=>{ st with t:=WI st.t i (some v) }
 | none=>st
def St.jZ (st:St) (b:Nat) (k:aq):St:={ st with b:=st.b.set b (some k) }
def St.agc (st:St) (b:Nat):St:={ st with b:=st.b.set b none }
def St.dO (st:St) (k:aq):St:={ st with b:=st.b++[some k] }
def oc:Value->Option IV
 | .int k n=>if k.min<=n/\n<=k.max then some (.int k n) else none
 | .bool b=>some (.bool b)
 | .pointer none=>some .nilp
 | .slice none 0 0=>some .nils
 | .nilFunc=>some .nilf
 | _=>none
def ofConst:Value->Option IV
 | .agg cs=>(cs.toList.mapM oc).map .agg
 | v=>oc v
def zd:IV->Option Value
 | .int k n=>some (.int k n)
 | .bool b=>some (.bool b)
 | _=>none
def Ke:IV->Option Value
 | .agg cs=>(cs.mapM zd).map fun l=>.agg l.toArray
 | v=>zd v
def IV.cells:IV->List IV
 | .agg cs=>cs
 | v=>[v]
def ev (st:St):Operand->Option IV
 | .tmp i=>look st.t i
 | .const v=>ofConst v
 | .func f=>some (.fn f [])
 | .global _=>none
def dD (P:Program) {α:Type}:Sem α->Option α
 | .pure a=>some a
 | .program k=>dD P (k P)
 | .mark _ k=>dD P k
 | _=>none
def plain (st:St) (x:Operand):Option Value:=(ev st x).bind Ke
def pj (st:St) (x:Operand):Value:=(plain st x).getD undef
def mN (P:Program) (st:St) (o:Oper):Option IV:=
 if o.op.operands.all fun x=>(plain st x).isSome then
  match dD P (execOp (pj st) o) with
  | some (.value (.bool b))=>some (.bool b)
  | _=>none
 else none
def ER:Value->Option IntKind
 | .int k n=>if n=0 then some k else none
 | _=>none
def kinds (P:Program) (e:TypeId):Option (List IntKind):=
 match P.info? e with
 | none=>none
 | some i=>match i.zero with
  | none=>none
  | some z=>match z.cells.toList.mapM ER with
   | none=>none
   | some ks=>if ks.length=i.size/\0 < i.size/\0 < i.bytes then some ks else none
def zeroOf (P:Program) (e:TypeId):Option (List IV):=
 match P.info? e with
 | none=>none
 | some i=>match i.zero with
  | none=>none
  | some z=>match z.cells.toList.mapM oc with
   | none=>none
   | some cs=>if cs.length=i.size/\0 < i.size then some cs else none
def oy (P:Program) (t:TypeId):Option Bool:=
 match P.underlying t with
 | some (.struct _)=>some true
 | some (.array _ _)=>some true
 | some _=>some false
 | none=>none
def eH (P:Program) (t:TypeId):Option Nat:=(P.info? t).map (·.size)
def lX (P:Program) (t:TypeId):Option Nat:=(P.info? t).map (·.bytes)
def cN (P:Program) (t:TypeId):Option TypeId:=
 match P.underlying t with
 | some (.slice e)=>some e
 | _=>none
def pack (agg:Bool) (cs:List IV):Option IV:=
 if agg then some (.agg cs) else match cs with
  | [c]=>some c
  | _=>none
def bN (ks:List IntKind) (xs:L2) (i f n:Nat):List IV:=
 (List.range n).map fun j=>.int (ks.getD (f+j) .i64) (rd xs i (f+j))
def cW (xs:L1) (i:Int):Int:=xs.getD i.toNat 0
def qO (xs:L1) (i:Int) (v:Int):L1:=xs.set i.toNat v
def qU (k:IntKind):List IV->Option L1
 | []=>some []
 | .int k' n :: l=>if k' = k then (qU k l).map (n :: ·) else none
 | _=>none
def tu:List IV->Option IntKind
 | .int k _ :: _=>some k
 | _=>none
def rows (st:St) (b:Nat):Option (List IntKind × L2):=
 match look st.b b with
 | some (.row _ ks xs)=>some (ks,xs)
 | some (.ro ks xs)=>some (ks,xs)
 | _=>none
def loadAt (P:Program) (st:St) (t:TypeId) (a:IV):Option (Option Prop × IV):=
 match oy P t,eH P t with
 | some agg,some n=>
  match a with
  | .ptr b o=>
   match look st.b b with
   | some (.var _ cells)=>if (agg=true∨n=1)/\o+n<=cells.length then (pack agg ((cells.drop o).take n)).map fun v=>(none,v) else none
   | _=>none
  | .pdyn b o i=>
   if agg=true∨n≠1 then none else
   match look st.b b with
   | some (.var _ cells)=>
    match tu (cells.drop o) with
    | some k=>match qU k (cells.drop o) with
     | some xs=>some (some (0<=i/\i < xs.length),.int k (cW xs i))
     | none=>none
    | none=>none
   | some (.ints _ k xs)=>if o=0 then some (some (0<=i/\i < xs.length),.int k (cW xs i)) else none
   | _=>none
  | .prow b i sz f=>
   match rows st b with
   | some (ks,xs)=>if (agg=true∨n=1)/\sz=ks.length/\f+n<=sz then (pack agg (bN ks xs i.toNat f n)).map fun v=>(some (0<=i/\i < xs.length),v) else none
   | _=>none
  | _=>none
 | _,_=>none
def lK:IV->Bool
 | .tup _=>false
 | _=>true
def wE (z:List IV) (off n:Nat) (v:IV):Option (List IV):=
 if v.cells.length=n/\off+n<=z.length/\lK v=true then some (z.take off++v.cells++z.drop (off+n)) else none
def BR (P:Program) (t:TypeId):Option (Nat->Option (Nat × Nat)):=
 match P.underlying t with
 | some (.struct fields)=>(fields.toList.mapM (fun (f:Field)=>(P.info? f.type).map fun i=>(f.offset,i.size))).map fun l i=>l[i]?
 | some (.array _ e)=>(eH P e).map fun n i=>some (i*n,n)
 | _=>none
def sC (place:Nat->Option (Nat × Nat)) (st:St):List (Nat × Operand)->List IV->Option (List IV)
 | [],z=>some z
 | (i,x) :: rest,z=>
  match place i,ev st x with
  | some (off,n),some v=>match wE z off n v with
   | some z'=>sC place st rest z'
   | none=>none
  | _,_=>none
def mn (k:IntKind) (x y:Int):Int:=if y < x then y else x
def mx (k:IntKind) (x y:Int):Int:=if y > x then y else x
def Bu (s:ByteArray) (n:Int):Int:=(s.data.toList.getD n.toNat 0).toNat
def RM (P:Program) (st:St) (t:TypeId) (x i:Operand):Option (Option Prop × IV):=
 match P.underlying t,x,ev st i with
 | some .string,.const (.string s),some (.int _ n)=>some (some (0<=n/\n < s.size),.int .u8 (Bu s n))
 | _,_,_=>none
def E5 (st:St):List Operand->Option (List IV)
 | []=>some []
 | x :: l=>match ev st x,E5 st l with
  | some v,some vs=>some (v :: vs)
  | _,_=>none
def gM (total:Nat):Nat->List (Nat × Nat × List IntKind)->Option (List IntKind)
 | off,[]=>if off=total then some [] else none
 | off,(o,n,ks) :: l=>if o=off/\ks.length=n then (gM total (off+n) l).map (ks++·) else none
def fY (P:Program):Nat->TypeId->Option (List IntKind)
 | 0,_=>none
 | n+1,t=>match P.underlying t with
  | some (.int k)=>some [k]
  | some (.struct fs) => if fs.all (·.name != "_")=true then (fs.toList.mapM fun (f : Field) => (fY P n f.type).map fun ks => (f.offset, P.cellsOf f.type, ks)).bind (gM (P.cellsOf t) 0) else none
  | some (.array m e)=>(fY P n e).bind fun ks=>if ks.length=P.cellsOf e/\P.cellsOf t=m*P.cellsOf e then some (List.replicate m ks).flatten else none
  | _=>none
def qQ:List IntKind->List IV->Bool
 | k :: ks,.int k' _ :: cs=>decide (k=k') && qQ ks cs
 | [],[]=>true
 | _,_=>false
def LP (P:Program) (t:TypeId) (n:Nat):Bool:=
 match P.underlying t with
 | some (.struct _)=>n == P.cellsOf t
 | some (.array _ _)=>n == P.cellsOf t
 | _=>false
def iR:List IV->List IV->Bool
 | .int _ a :: l,.int _ b :: m=>decide (a=b) && iR l m
 | [],[]=>true
 | _,_=>false
def GY (P:Program) (t:TypeId) (cs ds:List IV):Option Bool:=
 match fY P 8 t with
 | some ks=>if qQ ks cs && qQ ks ds && P.keyTypeAt 9 t && !P.eqGuardType P.depth t && LP P t ks.length then some (iR cs ds) else none
 | none=>none
def Ax (P:Program) (st:St) (g:FuncId) (args:List Operand):Option (Option Prop × IV):=
 match P.funcs[g]? with
 | some fn=>if fn.body.isNone then
   if fn.origin == "" then
    match E5 st args with
    | some [.int .u64 x,.int .u64 y,.int .u64 c]=>
     if fn.name == "math/bits.Add64" then some (some (c<=1), .tup [.int .u64 ((x+y+c) % 18446744073709551616), .int .u64 ((x+y+c) / 18446744073709551616)])
     else if fn.name == "math/bits.Sub64" then some (some (c<=1), .tup [.int .u64 ((x - y - c) % 18446744073709551616), .int .u64 (if x < y+c then 1 else 0)])
     else none
    | _=>none
   else none
  else none
 | none=>none
def LO (P:Program) (g:FuncId):Bool:=
 match P.funcs[g]? with
 | some fn=>fn.body.isNone
 | none=>false
def bj (P:Program) (st:St) (o:Oper):Option (Option Prop × IV):=
 match o.op with
 | .move x=>(ev st x).map fun v=>(none,v)
 | .assign x=>match ev st x with
  | some .nils=>none
  | some v=>some (none,v)
  | none=>none
 | .pick c a b=>
  match ev st c with
  | some (.bool true)=>(ev st a).map fun v=>(none,v)
  | some (.bool false)=>(ev st b).map fun v=>(none,v)
  | _=>none
 | .binOp op t x y _=>
  match op,ev st x,ev st y with
  | .shl,some (.int k a),some (.int _ b)=>some (some (0<=b),.int k (k.wrap (a*2 ^ (min b.toNat k.bits))))
  | .shr,some (.int k a),some (.int _ b)=>some (some (0<=b),.int k (a.fdiv (2 ^ (min b.toNat k.bits))))
  | .quo,some (.int k a),some (.int k' b)=>if k=k' then some (some (b≠0),.int k (k.wrap (a.tdiv b))) else none
  | .rem,some (.int k a),some (.int k' b)=>if k=k' then some (some (b≠0),.int k (a.tmod b)) else none
  | .add,some (.int k a),some (.int k' b)=>if k=k' then some (none,.int k (k.wrap (a+b))) else none
  | .sub,some (.int k a),some (.int k' b)=>if k=k' then some (none,.int k (k.wrap (a - b))) else none
  | .mul,some (.int k a),some (.int k' b)=>if k=k' then some (none,.int k (k.wrap (a*b))) else none
  | .and,some (.int k a),some (.int k' b)=>if k=k' then some (none,.int k (k.wrap (BitVec.ofInt k.bits a &&& BitVec.ofInt k.bits b).toNat)) else none
  | .or,some (.int k a),some (.int k' b)=>if k=k' then some (none,.int k (k.wrap (BitVec.ofInt k.bits a ||| BitVec.ofInt k.bits b).toNat)) else none
  | .xor,some (.int k a),some (.int k' b)=>if k=k' then some (none,.int k (k.wrap (BitVec.ofInt k.bits a ^^^ BitVec.ofInt k.bits b).toNat)) else none
  | .eql,some (.agg cs),some (.agg ds)=>(GY P t cs ds).map fun b=>(none,.bool b)
  | .neq,some (.agg cs),some (.agg ds)=>(GY P t cs ds).map fun b=>(none,.bool !b)
  | .eql,some (.sl _),some .nils=>none
  | _,_,_=>(mN P st o).map fun v=>(none,v)
 | .unOp op _ x=>
  match op,ev st x with
  | .not,some (.bool b)=>some (none,.bool !b)
  | .neg,some (.int k n)=>some (none,.int k (k.wrap (0 - n)))
  | _,_=>none
 | .convert src dst x=>
  match P.underlying src,P.underlying dst,ev st x with
  | some _,some (.int k),some (.int _ n)=>some (none,.int k (k.wrap n))
  | _,_,_=>none
 | .index t x i=>
  match P.underlying t,ev st x,ev st i with
  | some (.array len e),some (.agg cs),some (.int _ n)=>
   if eH P e=some 1/\oy P e=some false/\len=cs.length then
    match cs[n.toNat]? with
    | some v=>some (some (0<=n/\n < len),v)
    | none=>none
   else none
  | _,_,_=>RM P st t x i
 | .nilCheck x=>
  match ev st x with
  | some (.ptr b o)=>some (none,.ptr b o)
  | some (.prow b i sz f)=>some (none,.prow b i sz f)
  | some (.fn f cs)=>some (none,.fn f cs)
  | _=>none
 | .fieldAddr s x f=>
  match P.underlying s with
  | some (.struct fields)=>match fields[f]? with
   | some (fd:Field)=>match eH P fd.type with
    | some n=>if n=0 then none else
     match ev st x with
     | some (.ptr b o)=>some (none,.ptr b (o+fd.offset))
     | some (.prow b i sz g)=>some (none,.prow b i sz (g+fd.offset))
     | _=>none
    | none=>none
   | none=>none
  | _=>none
 | .field t x f=>
  match P.underlying t with
  | some (.struct fields)=>match fields[f]? with
   | some (fd:Field)=>match eH P fd.type,oy P fd.type,ev st x with
    | some n,some agg,some (.agg cs)=>if (agg=true∨n=1)/\fd.offset+n<=cs.length then (pack agg ((cs.drop fd.offset).take n)).map fun v=>(none,v) else none
    | _,_,_=>none
   | none=>none
  | _=>none
 | .load t x=>match ev st x with
  | some a=>loadAt P st t a
  | none=>none
 | .extract x i=>
  match ev st x with
  | some (.tup vs)=>(vs[i]?).map fun v=>(none,v)
  | _=>none
 | .makeFunc (.func f) first captured=>
  if first.size=0 then (E5 st captured.toList).map fun cs=>(none,.fn f cs) else none
 | .indexAddr t x i=>
  match P.underlying t,ev st x,ev st i with
  | some (.array len e),some (.ptr b o),some (.int _ n)=>if eH P e=some 1/\2<=len then some (some (0<=n/\n < len),.pdyn b o n) else none
  | some (.array len e),some (.prow b r sz f),some (.int _ n)=>if eH P e=some 1/\2<=len then some (some (0<=n/\n < len),.prowd b r sz f n) else none
  | some (.slice e),some (.sl b),some (.int _ n)=>
   match rows st b with
   | some (ks,xs)=>if eH P e=some ks.length then some (some (0<=n/\n < xs.length),.prow b n ks.length 0) else none
   | _=>none
  | _,_,_=>none
 | .call c=>
  match c.callee,c.args.toList,c.argTypes.toList with
  | .builtin .len,[x],[t]=>
   match P.underlying t,ev st x with
   | some (.slice _),some (.sl b)=>(rows st b).map fun p=>(none,.int .i64 p.2.length)
   | some (.slice _),some .nils=>some (none,.int .i64 0)
   | _,_=>none
  | .builtin .min,[x,y],_=>
   match ev st x,ev st y with
   | some (.int k a),some (.int k' b)=>if k=k' then some (none,.int k (mn k a b)) else none
   | _,_=>none
  | .builtin .max,[x,y],_=>
   match ev st x,ev st y with
   | some (.int k a),some (.int k' b)=>if k=k' then some (none,.int k (mx k a b)) else none
   | _,_=>none
  | .value (.func g),_,_=>Ax P st g c.args.toList
  | _,_,_=>none
 | .build t parts=>
  match zeroOf P t,BR P t with
  | some z,some pl=>(sC pl st parts.toList z).map fun cs=>(none,.agg cs)
  | _,_=>none
 | _=>none
def br (b:Bool) (A B:Prop):Prop:=match b with
 | true=>A
 | false=>B
def ask (p:Option Prop) (K:Prop):Prop:=match p with
 | none=>K
 | some p=>p/\K
def jU (P:Program):Nat->TypeId->List TypeId
 | 0,t=>[t]
 | d+1,t=>match P.underlying t with
  | some (.struct fields)=>fields.toList.flatMap fun (f:Field)=>jU P d f.type
  | some (.array n e)=>(List.replicate n (jU P d e)).flatten
  | _=>[t]
def fm (P:Program) (n:Nat):List TypeId->List IV->List IV × OB
 | t :: ts,.nils :: cs=>
  match (cN P t),(cN P t).bind (kinds P) with
  | some e,some ks=>let r:=fm P (n+1) ts cs; (.sl n :: r.1,some (.row e ks []) :: r.2)
  | _,_=>let r:=fm P n ts cs; (.nils :: r.1,r.2)
 | _ :: ts,c :: cs=>let r:=fm P n ts cs; (c :: r.1,r.2)
 | [],cs=>(cs,[])
 | _,[]=>([],[])
def newVar (P:Program) (st:St) (e:TypeId) (cells:List IV) (dst:Option Tmp) (K:St->Prop):Prop:=
 K (St.aN { t:=st.t,b:=(st.b++(fm P st.b.length (jU P 8 e) cells).2)++[some (.var e (fm P st.b.length (jU P 8 e) cells).1)] } dst
  (.ptr (st.b++(fm P st.b.length (jU P 8 e) cells).2).length 0))
def isZero (k:IntKind):IV->Bool
 | .int k' n=>decide (k' = k) && decide (n=0)
 | _=>false
def pt (P:Program) (e:TypeId) (cells:List IV):Option IntKind:=
 match P.underlying e with
 | some (.array _ _)=>if 16 < cells.length then match tu cells with
   | some k=>if cells.all (isZero k) then some k else none
   | none=>none
  else none
 | _=>none
def vD (ks:List IntKind) (f:Nat) (p:Nat × IV):Option Int:=
 match p.2 with
 | .int k x=>if k=ks.getD (f+p.1) .i64 then some x else none
 | _=>none
def Pc (k:IntKind) (i x:Int):Nat->L1->List IV
 | _,[]=>[]
 | j,y :: l=>.int k (if i=(j:Int) then x else y) :: Pc k i x (j+1) l
def storeAt (P:Program) (st:St) (t:TypeId) (a v:IV) (K:St->Prop):Prop:=
 match eH P t with
 | none=>False
 | some n=>
  if v.cells.length≠n∨lK v=false then False else
  match a with
  | .ptr b o=>
   match look st.b b with
   | some (.var t' cells)=>
    if o+n<=cells.length then
     K (St.jZ { t:=st.t,b:=st.b++(fm P st.b.length (jU P 8 t) v.cells).2 } b (.var t' (cells.take o++(fm P st.b.length (jU P 8 t) v.cells).1++cells.drop (o+n))))
    else False
   | _=>False
  | .pdyn b o i=>
   match look st.b b,v with
   | some (.ints t' k xs),.int k' x=>if k=k'/\o=0 then (0<=i/\i < xs.length)/\K (st.jZ b (.ints t' k (qO xs i x))) else False
   | some (.var t' cells),.int k' x=>
    match qU k' (cells.drop o) with
    | some xs=>(0<=i/\i < xs.length)/\K (st.jZ b (.var t' (cells.take o++Pc k' i x 0 xs)))
    | none=>False
   | _,_=>False
  | .prow b i sz f=>
   match look st.b b with
   | some (.row e ks xs)=>
    match (v.cells.mapIdx fun j c=>(j,c)).mapM (vD ks f) with
    | some ys=>if sz=ks.length/\f+n<=sz then (0<=i/\i < xs.length)/\K (st.jZ b (.row e ks (xs.modify i.toNat fun x=>(List.range ks.length).map fun j=>if f<=j/\j < f+n then ys.getD (j - f) 0 else x.getD j 0))) else False
    | none=>False
   | _=>False
  | .prowd b i sz f j=>
   match look st.b b,v with
   | some (.row e ks xs),.int k x=>
    if sz=ks.length/\(ks.drop f).all (· == k) then (0<=i/\i < xs.length/\0<=j/\f+j.toNat < sz)/\K (st.jZ b (.row e ks (xs.modify i.toNat fun x0=>(List.range ks.length).map fun (m:Nat)=>if (m:Int)=f+j then x else x0.getD m 0))) else False
   | _,_=>False
  | _=>False
structure Spec where
 pre:List IV->List aq->Prop
 F:List IV->List aq->IV × List aq
def rM (P:Program) (st:St) (t:TypeId) (c:IV) (acc:List (aq × Option Nat)):Option (IV × List (aq × Option Nat)):=
 match c with
 | .int k n=>some (.int k n,acc)
 | .bool b=>some (.bool b,acc)
 | .sl b=>match rows st b with
  | some (ks,xs)=>some (.sl acc.length,acc++[(.ro ks xs,some b)])
  | none=>none
 | .nils=>match (cN P t).bind (kinds P) with
  | some ks=>some (.sl acc.length,acc++[(.ro ks [],none)])
  | none=>none
 | _=>none
def kL (P:Program) (st:St):List TypeId->List IV->List (aq × Option Nat)->Option (List IV × List (aq × Option Nat))
 | _,[],acc=>some ([],acc)
 | t :: ts,c :: cs,acc=>match rM P st t c acc with
  | some (c',acc')=>match kL P st ts cs acc' with
   | some (cs',acc'')=>some (c' :: cs',acc'')
   | none=>none
  | none=>none
 | [],_,_=>none
def ue (P:Program) (st:St) (t:TypeId) (v:IV) (acc:List (aq × Option Nat)):Option (IV × List (aq × Option Nat)):=
 match v with
 | .agg cs=>match kL P st (jU P 8 t) cs acc with
  | some (cs',acc')=>some (.agg cs',acc')
  | none=>none
 | v=>rM P st t v acc
def fJ (P:Program) (st:St):List TypeId->List IV->List (aq × Option Nat)->Option (List IV × List (aq × Option Nat))
 | _,[],acc=>some ([],acc)
 | t :: ts,c :: cs,acc=>match ue P st t c acc with
  | some (c',acc')=>match fJ P st ts cs acc' with
   | some (cs',acc'')=>some (c' :: cs',acc'')
   | none=>none
  | none=>none
 | [],_,_=>none
mutual
def BC (ρ:Nat->Option Nat):IV->IV
 | .fn f cs=>.fn f (wC ρ cs)
 | .ptr b o=>match ρ b with | some b=>.ptr b o | none=>.unk
 | .pdyn b o i=>match ρ b with | some b=>.pdyn b o i | none=>.unk
 | .prow b i sz f=>match ρ b with | some b=>.prow b i sz f | none=>.unk
 | .prowd b i sz f j=>match ρ b with | some b=>.prowd b i sz f j | none=>.unk
 | .sl b=>match ρ b with | some b=>.sl b | none=>.unk
 | .agg cs=>.agg (wC ρ cs)
 | .tup vs=>.tup (wC ρ vs)
 | v=>v
def wC (ρ:Nat->Option Nat):List IV->List IV
 | []=>[]
 | c :: cs=>BC ρ c :: wC ρ cs
end
mutual
def kn:IV->Bool
 | .unk=>false
 | .fn _ cs=>VN cs
 | .agg cs=>VN cs
 | .tup vs=>VN vs
 | _=>true
def VN:List IV->Bool
 | []=>true
 | c :: cs=>kn c && VN cs
end
def pP (ρ:Nat->Option Nat):aq->aq
 | .var t cells=>.var t (wC ρ cells)
 | k=>k
mutual
def refs:IV->List Nat
 | .fn _ cs=>wD cs
 | .ptr b _=>[b]
 | .pdyn b _ _=>[b]
 | .prow b _ _ _=>[b]
 | .prowd b _ _ _ _=>[b]
 | .sl b=>[b]
 | .agg cs=>wD cs
 | .tup vs=>wD vs
 | _=>[]
def wD:List IV->List Nat
 | []=>[]
 | c :: cs=>refs c++wD cs
end
def freeze (b:OB):List (Option Nat)->OB
 | []=>b
 | some i :: l=>match look b i with
  | some (.row _ ks xs)=>freeze (b.set i (some (.ro ks xs))) l
  | _=>freeze b l
 | none :: l=>freeze b l
def enters (P:Program) (g:FuncId):Bool:=
 match P.funcs[g]? with
 | some fn => !(fn.name == "runtime.NumGoroutine") && fn.body.isSome
 | none=>false
inductive Out where
 | normal
 | exit (id:Nat)
 | ret
abbrev aB:=Nat->St->(Out->St->Prop)->Prop
abbrev eG:=List IV->OB->(IV->OB->Prop)->Prop
structure Env where
 P:Program
 Γ:FuncId->Option Spec
 Λ:FuncId->Nat->Option aB
 inl:FuncId->List IV->List (Option aq)->(IV->List (Option aq)->Prop)->Prop
 frm:FuncId->Bool:=fun _=>false
 pop:TypeId->Bool:=fun _=>false
 back:FuncId->Bool:=fun _=>false
def fl (st:St) (used:List (Option Nat)) (r:IV × List aq):OB:=
 (if r.2.all aq.own then st.b else freeze st.b used)++r.2.map some
def Hi (E:Env) (st:St) (c:Call) (dst:Option Tmp) (K:St->Prop):Prop:=
 match c.callee with
 | .value f=>
  match ev st f,E5 st c.args.toList with
  | some (.fn g caps),some args=>
   if enters E.P g=true then
    match E.Γ g with
    | some sp=>
     match caps,fJ E.P st c.argTypes.toList args [] with
     | [],some (as,acc)=>
      sp.pre as (acc.map (·.1))/\
       K (St.aN { t:=st.t,b:=fl st (acc.map (·.2)) (sp.F as (acc.map (·.1))) } dst (BC (fun j=>some (st.b.length+j)) (sp.F as (acc.map (·.1))).1))
     | _,_=>False
    | none=>E.inl g (args++caps) st.b fun v b=>K (St.aN { t:=st.t,b } dst v)
   else False
  | _,_=>False
 | .builtin .append=>
  match c.args.toList,c.argTypes.toList with
  | [s,x],[t,t']=>
   match cN E.P t,(cN E.P t).bind (kinds E.P),(cN E.P t).bind (lX E.P),ev st s,ev st x with
   | some e,some ks,some by_,some (.sl b),some (.sl d)=>
    match look st.b b,rows st d with
    | some (.row e' ks' xs),some (ks2,ys)=>
     if t=t'/\e=e'/\ks=ks'/\ks=ks2/\b≠d then
      (xs.length+ys.length)*by_<=140737488355328/\
       K (St.aN ((st.agc b).dO (.row e ks (xs++ys))) dst (.sl st.b.length))
     else False
    | _,_=>False
   | some e,some ks,some by_,some .nils,some (.sl d)=>
    match rows st d with
    | some (ks2,ys)=>
     if t=t'/\ks=ks2 then
      ys.length*by_<=140737488355328/\K (St.aN (st.dO (.row e ks ys)) dst (.sl st.b.length))
     else False
    | _=>False
   | _,_,_,_,_=>False
  | _,_=>False
 | _=>False
def cutAt (st:St) (x:Option Operand) (d:Int):Option Int:=
 match x with
 | none=>some d
 | some y=>match ev st y with
  | some (.int _ n)=>some n
  | _=>none
def En:Operand->Operand->Bool
 | .tmp a,.tmp b=>a == b
 | .const (.int _ a),.const (.int _ b)=>a == b
 | _,_=>false
def pA (ks:List IntKind) (len:Nat) (st:St):List (Nat × Operand)->L2->Option L2
 | [],z=>some z
 | (i,x) :: rest,z=>
  match ev st x with
  | some v=>
   match (v.cells.mapIdx fun j c=>(j,c)).mapM (vD ks 0) with
   | some ys=>if ys.length=ks.length/\i < len then pA ks len st rest (z.set i ys) else none
   | none=>none
  | none=>none
def Rf (P:Program) (t:TypeId):Option (Nat × TypeId):=
 match P.underlying t with
 | some (.array n e)=>some (n,e)
 | _=>none
def Ez (on:Bool) (lo:Option Operand) (st:St) (b:Nat):Option (TypeId × List IntKind × L2):=
 if on then match lo,look st.b b with
  | none,some (.row e ks xs)=>some (e,ks,xs)
  | _,_=>none
 else none
def agK (cells:List IV):Option (IntKind × L1):=
 match tu cells with
 | some k=>(qU k cells).map fun xs=>(k,xs)
 | none=>none
def Ei (E:Env) (st:St) (t:TypeId) (x:Operand) (lo hi mx:Option Operand) (dst:Option Tmp) (K:St->Prop):Prop:=
 match cN E.P t with
 | some e=>
  match ev st x,mx with
  | some (.sl b),none=>
   match Ez (E.pop t) lo st b with
   | some (e',ks,xs)=>
    match cutAt st hi xs.length with
    | some h=>if eH E.P e=some ks.length then (0<=h/\h<=xs.length)/\K (((st.agc b).dO (.row e' ks (xs.take h.toNat))).aN dst (.sl st.b.length)) else False
    | none=>False
   | none=>
    match rows st b with
    | some (ks,xs)=>
     match cutAt st lo 0,cutAt st hi xs.length with
     | some l,some h=>
      if eH E.P e=some ks.length then
       (0<=l/\l<=h/\h<=xs.length)/\
        K (St.aN { t:=st.t,b:=freeze st.b [some b]++[some (.ro ks ((xs.take h.toNat).drop l.toNat))] } dst (.sl st.b.length))
      else False
     | _,_=>False
    | none=>False
  | _,_=>False
 | none=>
  match lo,hi,mx,ev st x,Rf E.P t with
  | none,none,none,some (.ptr b i),some (n,e)=>
   match look st.b b with
   | some (.var _ cells)=>
    match agK ((cells.drop i).take n) with
    | some (k,xs)=>if xs.length=n/\n<=2 ^ 24/\eH E.P e=some 1 then K (((st.agc b).dO (.ro [k] (xs.map fun x=>[x]))).aN dst (.sl st.b.length)) else False
    | none=>False
   | _=>False
  | _,_,_,_,_=>False
def rm (E:Env) (st:St) (o:Oper) (K:St->Prop):Prop:=
 match bj E.P st o with
 | some (p,v)=>ask p (K (st.aN o.dst v))
 | none=>
  match o.op with
  | .assign x=>
   match ev st x,cN E.P o.type,(cN E.P o.type).bind (kinds E.P) with
   | some .nils,some e,some ks=>K ((st.dO (.row e ks [])).aN o.dst (.sl st.b.length))
   | _,_,_=>False
  | .alloc e=>
   match zeroOf E.P e with
   | some cells=>
    match pt E.P e cells with
    | some k=>K ((st.dO (.ints e k (List.replicate cells.length 0))).aN o.dst (.ptr st.b.length 0))
    | none=>newVar E.P st e cells o.dst K
   | none=>False
  | .box e x=>
   match ev st x with
   | some v=>if lK v=false then False else newVar E.P st e v.cells o.dst K
   | none=>False
  | .store t a x=>
   match ev st a,ev st x with
   | some a,some v=>storeAt E.P st t a v fun st'=>K (st'.aN o.dst (.tup []))
   | _,_=>False
  | .buildSlice t len parts=>
   match cN E.P t,(cN E.P t).bind (kinds E.P) with
   | some e,some ks=>
    match pA ks len st parts.toList (List.replicate len (List.replicate ks.length 0)) with
    | some xs=>if len*ks.length<=2 ^ 24 then K ((st.dO (.row e ks xs)).aN o.dst (.sl st.b.length)) else False
    | none=>False
   | _,_=>False
  | .makeSlice t l c=>
   match cN E.P t,(cN E.P t).bind (kinds E.P),(cN E.P t).bind (lX E.P),ev st l,ev st c with
   | some e,some ks,some by_,some (.int .i64 n),some (.int .i64 m)=>
    if En l c=true then (0<=n/\n*by_<=140737488355328)/\K ((st.dO (.row e ks (List.replicate n.toNat (List.replicate ks.length 0)))).aN o.dst (.sl st.b.length)) else False
   | _,_,_,_,_=>False
  | .slice t x lo hi mx=>Ei E st t x lo hi mx o.dst K
  | .binOp .eql t x y _=>
   match ev st x,ev st y with
   | some (.sl b),some .nils=>
    match rows st b,cN E.P t with
    | some (ks,xs),some _=>∀ q:Bool,(q=true->xs=[])->K (st.aN o.dst (.bool q))
    | _,_=>False
   | _,_=>False
  | .call c=>Hi E st c o.dst K
  | _=>False
def oD (ops:List Oper) (st:St) (o:Oper) (K1 K0:St->Prop):Prop:=
 match o.guard with
 | none=>K1 st
 | some (j,want)=>
  match lg ops j with
  | some oj=>
   match oj.dst with
   | some d=>
    match look st.t d with
    | some (.bool b)=>
     if want then br b (K1 (st.aN (some d) (.bool true))) (K0 (st.aN (some d) (.bool false)))
     else br b (K0 (st.aN (some d) (.bool true))) (K1 (st.aN (some d) (.bool false)))
    | some (.tup [])=>K0 st
    | _=>False
   | none=>False
  | none=>False
def Ki (l:List (Option IV)):(List (Option IV)->Prop)->Prop:=
 List.rec (motive:=fun _=>(List (Option IV)->Prop)->Prop) (fun K=>K []) (fun x _ ih K=>Option.rec (motive:=fun _=>Prop) (ih fun l=>K (none :: l)) (fun v=>ih fun l=>K (some v :: l)) x) l
theorem sM:∀ (l:List (Option IV)) (K:List (Option IV)->Prop),Ki l K=K l
 | [],_=>rfl
 | none :: l,K=>sM l fun l=>K (none :: l)
 | some v :: l,K=>sM l fun l=>K (some v :: l)
def nC (st:St) (K:St->Prop):Prop:=Ki st.t fun t=>K { t,b:=st.b }
def Kj (l:List Bool):(List Bool->Prop)->Prop:=
 List.rec (motive:=fun _=>(List Bool->Prop)->Prop) (fun K=>K []) (fun x _ ih K=>Bool.rec (motive:=fun _=>Prop) (ih fun l=>K (false :: l)) (ih fun l=>K (true :: l)) x) l
theorem sN:∀ (l:List Bool) (K:List Bool->Prop),Kj l K=K l
 | [],_=>rfl
 | true :: l,K=>sN l fun l=>K (true :: l)
 | false :: l,K=>sN l fun l=>K (false :: l)
def ye (a:Array Bool) (K:Array Bool->Prop):Prop:=Kj a.toList fun l=>K l.toArray
def jv (E:Env) (all:List Oper):List Oper->St->(St->Prop)->Prop
 | [],st,K=>K st
 | o :: rest,st,K=>oD all st o (fun st=>rm E st o fun st'=>nC st' fun st'=>jv E all rest st' K) (fun st=>jv E all rest (st.aN o.dst (.tup [])) K)
def oh (f:St->(Out->St->Prop)->Prop) (cl:St->St):Nat->St->(Out->St->Prop)->Prop
 | 0,_,_=>False
 | n+1,st,K=>f st fun o st'=>match o with
  | .normal=>oh f cl n (cl st') K
  | o=>K o st'
def FI (i:Nat):Nat:=Nat.shiftLeft 1 i
def andNot (x y:Nat):Nat:=Nat.xor (Nat.lor x y) y
def UQ (m i:Nat):Bool:=Nat.beq (Nat.land (Nat.shiftRight m i) 1) 1
def Gu:Operand->Nat
 | .tmp i=>FI i
 | _=>0
def B5:List Operand->Nat->Nat
 | [],m=>m
 | x :: l,m=>B5 l (Nat.lor m (Gu x))
def Mm (d:Option Tmp):Nat:=match d with
 | some d=>FI d
 | none=>0
def ub:List Oper->Nat->Nat->Nat
 | [],_,acc=>acc
 | o :: l,ds,acc=>ub l (Nat.lor ds (Mm o.dst)) (Nat.lor acc (andNot (B5 o.op.operands.toList 0) ds))
def rD:List Oper->Nat->Nat
 | [],m=>m
 | o :: l,m=>rD l (Nat.lor m (Mm o.dst))
def lB (id:Nat):Code->Bool
 | .exit i=>i == id
 | .seq a b=>lB id a || lB id b
 | .cond _ a b=>lB id a || lB id b
 | .block _ c=>lB id c
 | .loop c=>lB id c
 | _=>false
def ends:Code->Bool
 | .exit _=>true
 | .ret=>true
 | .seq a b=>ends a || ends b
 | .cond _ a b=>ends a && ends b
 | .block id c=>ends c && !lB id c
 | .loop _=>true
 | _=>false
def kill:Code->Nat
 | .region _ ops _=>rD ops.toList 0
 | .seq a b=>Nat.lor (kill a) (kill b)
 | .cond _ a b=>if ends a then kill b else if ends b then kill a else Nat.land (kill a) (kill b)
 | .block id c=>if lB id c then 0 else kill c
 | _=>0
def gen:Code->Nat
 | .region _ ops _=>ub ops.toList 0 0
 | .seq a b=>Nat.lor (gen a) (andNot (gen b) (kill a))
 | .cond c a b=>Nat.lor (Gu c) (Nat.lor (gen a) (gen b))
 | .block _ c=>gen c
 | .loop c=>gen c
 | _=>0
def outs:Code->List Nat
 | .exit i=>[i]
 | .seq a b=>outs a++outs b
 | .cond _ a b=>outs a++outs b
 | .block id c=>(outs c).filter (· != id)
 | .loop c=>outs c
 | _=>[]
def GH (a b:Code) (kp:Nat):Nat:=Nat.lor (gen b) (if (outs a).isEmpty then andNot kp (kill b) else kp)
def jf:Code->Nat
 | .seq a b=>jf a+jf b
 | .cond _ a b=>jf a+jf b
 | .block _ c=>jf c
 | .loop c=>jf c+1
 | _=>0
def dP (kp:Nat):Code->List (Nat × Code)
 | .seq a b=>dP (GH a b kp) a++dP kp b
 | .cond _ a b=>dP kp a++dP kp b
 | .block _ c=>dP kp c
 | .loop c=>(kp,c) :: dP (Nat.lor kp (gen c)) c
 | _=>[]
def jh (kp:Nat) (i:Nat):Bool:=UQ kp i
def tT (b:OB) (seen xs:List Nat):List Nat:=
 xs.foldl (fun s x=>if s.contains x || (look b x).isNone then s else s++[x]) seen
def pI (b:OB):Nat->Nat->List Nat->List Nat
 | 0,_,seen=>seen
 | fuel+1,i,seen=>match seen[i]? with
  | none=>seen
  | some id=>pI b fuel (i+1) (tT b seen (match look b id with | some (.var _ cells)=>wD cells | _=>[]))
def idxOf:List Nat->Nat->Option Nat
 | [],_=>none
 | x :: l,b=>if x=b then some 0 else (idxOf l b).map (· + 1)
def je:List Nat->Bool
 | []=>true
 | x :: l=>!l.contains x && je l
def ox (cQ:Nat->Bool) (f:IV->IV) (i:Nat) (l:List (Option IV)):List (Option IV):=
 List.rec (motive:=fun _=>Nat->List (Option IV)) (fun _=>[]) (fun x _ ih i=>Option.rec (motive:=fun _=>List (Option IV)) (none :: ih (i+1)) (fun v=>(if cQ i then some (f v) else none) :: ih (i+1)) x) l i
theorem yv (cQ:Nat->Bool) (f:IV->IV) (i:Nat):ox cQ f i []=[]:=rfl
theorem eJ (cQ:Nat->Bool) (f:IV->IV) (i:Nat) (l:List (Option IV)):ox cQ f i (none :: l)=none :: ox cQ f (i+1) l:=rfl
theorem fK (cQ:Nat->Bool) (f:IV->IV) (i:Nat) (v:IV) (l:List (Option IV)):ox cQ f i (some v :: l)=(if cQ i then some (f v) else none) :: ox cQ f (i+1) l:=rfl
def LM (cQ:Nat->Bool) (i:Nat) (l:List (Option IV)):List Nat:=
 List.rec (motive:=fun _=>Nat->List Nat) (fun _=>[]) (fun x _ ih i=>Option.rec (motive:=fun _=>List Nat) (ih (i+1)) (fun v=>if cQ i then refs v++ih (i+1) else ih (i+1)) x) l i
def xN (order : List Nat) (cQ : Nat → Bool) (st : St) : St :=
  { t := ox cQ (BC (idxOf order)) 0 st.t
    b := order.map fun i => (look st.b i).map (pP (idxOf order)) }
def vu (n0:Nat) (cQ:Nat->Bool) (st:St):List Nat:=
 pI st.b (st.b.length+1) 0 (tT st.b (List.range n0) (LM cQ 0 st.t))
def gc (n0:Nat) (cQ:Nat->Bool) (st:St):St:=
 let order:=vu n0 cQ st
 if je order then xN order cQ st else st
def dC (b:OB) (args:List IV):List Nat:=pI b (b.length+1) 0 (tT b [] (wD args))
def yg:List IV->Bool
 | []=>true
 | .nils :: _=>false
 | _ :: l=>yg l
def writes (E:Env) (o:Oper):Bool:=
 match o.op with
 | .store _ _ _=>true
 | .call c=>match c.callee with
  | .value (.func g)=>(E.Γ g).isNone && !LO E.P g
  | .value _=>true
  | _=>false
 | .slice t _ _ _ _=>(cN E.P t).isNone
 | _=>false
def cq (o:Oper):Bool:=
 match o.op with
 | .call c=>match c.callee with
  | .builtin .append=>true
  | _=>false
 | _=>false
def lQ (E:Env):List Oper->Nat
 | []=>0
 | o :: l=>if writes E o then 0 else lQ E l+1
def sv (ms:List Nat):List Edge->Nat->Nat
 | [],m=>m
 | e :: l,m=>sv ms l (if Region.binds .any e then Nat.lor (Nat.lor m (FI e.on)) ((lg ms e.on).getD 0) else m)
def dj:List Oper->List Nat->List Nat
 | [],ms=>ms
 | o :: l,ms=>dj l (ms++[sv ms o.after.toList 0])
def Ai (o:Oper):Bool:=match o.guard with
 | some _=>false
 | none=>match o.op with
  | .extract (.tmp _) _=>true
  | _=>false
def Lb:BinOp->Bool
 | .lss=>true
 | .leq=>true
 | .gtr=>true
 | .geq=>true
 | _=>false
def eA (o:Oper):Bool:=match o.op with
 | .extract (.tmp _) _=>true
 | .move _=>true
 | .pick _ _ _=>true
 | .binOp op _ _ (.const (.int _ _)) _=>Lb op
 | _=>false
def kP (z:Oper->Bool):Nat->List Oper->Nat->Nat
 | _,[],m=>m
 | i,o :: l,m=>kP z (i+1) l (if z o then m else Nat.lor m (FI i))
def nW (need:Nat):List Nat->Bool
 | []=>true
 | m :: l=>Nat.beq (Nat.land m need) need && nW need l
def vg (ops:Array Oper) (hd:Nat):Bool:=nW (kP Ai 0 (ops.toList.take hd) 0) ((dj ops.toList []).drop hd)
def jb (ops:Array Oper) (hd:Nat):Bool:=nW (kP eA 0 (ops.toList.take hd) 0) ((dj ops.toList []).drop hd)
def kO:OB->OB
 | []=>[]
 | some (.row _ _ _) :: l=>none :: kO l
 | x :: l=>x :: kO l
def LW (gs:List (Nat × Bool)) (o:Oper):Bool:=
 match o.guard with
 | some (j,want)=>gs.any fun p=>p.1 == j && p.2 != want
 | none=>false
def Hh (P:Program) (facts:OB) (gs:List (Nat × Bool)) (st:St) (o:Oper):Bool:=
 LW gs o || match bj P { st with b:=facts } o with
  | some (_,v)=>kn v
  | none=>false
def yb (P:Program) (ops:Array Oper) (facts:OB) (hd:Nat) (listed:Array Bool) (gs:List (Nat × Bool)) (st:St):List Nat->Option Nat
 | []=>none
 | i :: l=>
  match ops[i]? with
  | some o=>if i < hd/\Hh P facts gs st o=true/\Region.free .any ops listed i=true then some i else yb P ops facts hd listed gs st l
  | none=>none
def Hs (f:Nat->Prop):List Nat->Prop
 | []=>True
 | [i]=>f i
 | i :: l=>f i/\Hs f l
def qk (gs:List (Nat × Bool)) (o:Oper) (yes:Bool):List (Nat × Bool):=
 match o.guard with
 | some (j,want)=>if gs.any (fun p=>Nat.beq p.1 j) then gs else (j,want == yes) :: gs
 | none=>gs
def gN (E:Env) (ops:Array Oper) (facts:OB) (hd:Nat):Nat->Array Bool->List (Nat × Bool)->St->(St->Prop)->Prop
 | 0,listed,gs,st,K=>if Region.ready .any ops listed=[] then K st else False
 | fuel+1,listed,gs,st,K=>
  match Region.ready .any ops listed with
  | []=>K st
  | r :: rs=>
   match yb E.P ops facts hd listed gs st (r :: rs) with
   | some i=>
    match ops[i]? with
    | some o=>oD ops.toList st o
      (fun st=>match bj E.P { st with b:=facts } o with
       | some (p,v)=>if kn v=true then ask p (nC (st.aN o.dst v) fun st=>ye (listed.setIfInBounds i true) fun listed=>gN E ops facts hd fuel listed (qk gs o true) st K) else False
       | none=>False)
      (fun st=>gN E ops facts hd fuel (listed.setIfInBounds i true) (qk gs o false) (st.aN o.dst (.tup [])) K)
    | none=>False
   | none=>Hs (fun i=>
    match ops[i]? with
    | some o=>oD ops.toList st o
      (fun st=>rm E st o fun st'=>nC st' fun st'=>ye (listed.setIfInBounds i true) fun listed=>gN E ops facts hd fuel listed (qk gs o true) st' K)
      (fun st=>gN E ops facts hd fuel (listed.setIfInBounds i true) (qk gs o false) (st.aN o.dst (.tup [])) K)
    | none=>False) (r :: rs)
def jO (l:List Nat):Nat:=l.foldl (fun m i=>Nat.lor m (Nat.shiftLeft 1 i)) 0
structure OpI where
 d:Nat
 l:Nat
 a:Nat
def lP (ops : Array Oper) (o : Oper) : OpI :=
  { d := match o.dst with
      | some d => Nat.shiftLeft 1 d
      | none => 0
    l := jO (o.looksAt ops)
    a := jO ((o.after.toList.filter (Region.binds .any)).map (·.on)) }
def oq (i d l:Nat):List OpI->Bool
 | []=>true
 | p :: ps=>(Nat.testBit p.a i || (Nat.beq (Nat.land d p.l) 0 && Nat.beq (Nat.land d p.d) 0 && Nat.beq (Nat.land l p.d) 0)) && oq i d l ps
def wQ:Nat->List OpI->Nat
 | _,[]=>0
 | i,p :: ps=>if Nat.blt p.a (Nat.pow 2 i) && oq i p.d p.l ps then wQ (i+1) ps+1 else 0
def kg (ops:Array Oper):Nat:=wQ 0 (ops.toList.map (lP ops))
def iX (n i:Nat):Array Bool:=((List.range n).map fun j=>Nat.blt j i).toArray
def jK (E:Env) (ops:Array Oper) (facts:OB) (hd lim:Nat):List Oper->Nat->List (Nat × Bool)->St->(St->Prop)->Prop
 | [],i,gs,st,K=>gN E ops facts hd (ops.size - i) (iX ops.size i) gs st K
 | o :: rest,i,gs,st,K=>
  if Nat.blt i lim && Hh E.P facts gs st o then
   oD ops.toList st o
    (fun st=>match bj E.P { st with b:=facts } o with
     | some (p,v)=>if kn v=true then ask p (nC (st.aN o.dst v) fun st=>jK E ops facts hd lim rest (i+1) (qk gs o true) st K) else False
     | none=>False)
    (fun st=>nC (st.aN o.dst (.tup [])) fun st=>jK E ops facts hd lim rest (i+1) (qk gs o false) st K)
  else gN E ops facts hd (ops.size - i) (iX ops.size i) gs st K
def lI:List IV->Bool
 | []=>true
 | .int _ _ :: l=>lI l
 | .bool _ :: l=>lI l
 | _=>false
structure PStep where
 dst:Option Tmp
 v:IV
 blk:Option aq
def iZ (m:Nat) (facts:OB) (st:St):St:={ t:=ox (Nat.testBit m) (fun v=>v) 0 st.t,b:=facts }
def jE (E:Env) (nb:Nat) (r:St) (o:Oper):Option (Option Prop × PStep):=
 match bj E.P r o with
 | some (p,v)=>some (p,⟨o.dst,v,none⟩)
 | none=>
  match o.op with
  | .alloc e=>match zeroOf E.P e with
   | some cells=>if lI cells then match pt E.P e cells with
     | some k=>some (none,⟨o.dst,.ptr nb 0,some (.ints e k (List.replicate cells.length 0))⟩)
     | none=>some (none,⟨o.dst,.ptr nb 0,some (.var e cells)⟩)
    else none
   | none=>none
  | .box e x=>match ev r x with
   | some v=>if lK v && lI v.cells then some (none,⟨o.dst,.ptr nb 0,some (.var e v.cells)⟩) else none
   | none=>none
  | .call c=>match c.callee with
   | .value f=>match ev r f,E5 r c.args.toList with
    | some (.fn g []),some args=>if enters E.P g then match E.Γ g with
      | some sp=>match fJ E.P { t:=[],b:=[] } c.argTypes.toList args [] with
       | some (as,[])=>match sp.F as [] with
        | (v,[])=>some (some (sp.pre as []),⟨o.dst,v,none⟩)
        | _=>none
       | _=>none
      | none=>none
     else none
    | _,_=>none
   | _=>none
  | _=>none
def ji (b:Bool) (k:Option aq):OB:=match k with
 | none=>[]
 | some k=>[if b then some k else none]
def Dd (b:Bool) (s:PStep) (st:St):St:={ t:=if b then (st.aN s.dst s.v).t else st.t,b:=st.b++ji b s.blk }
def ph (E:Env) (ops:Array Oper) (facts:OB):List Oper->St->Option (List (Option Prop × PStep))
 | [],_=>some []
 | o :: l,st=>match o.guard with
  | some _=>none
  | none=>match jE E st.b.length (iZ (jO (o.looksAt ops)) facts st) o with
   | some (p,s)=>match ph E ops facts l (Dd true s st) with
    | some r=>some ((p,s) :: r)
    | none=>none
   | none=>none
def asks:List (Option Prop × PStep)->Prop->Prop
 | [],K=>K
 | (p,_) :: l,K=>ask p (asks l K)
def cn:List (Option Prop × PStep)->St->St
 | [],st=>st
 | (_,s) :: l,st=>cn l (Dd true s st)
def XN (o:Oper):Bool:=match o.op with
 | .alloc _=>true
 | .box _ _=>true
 | .call c=>match c.callee with
  | .value _=>true
  | _=>false
 | _=>false
def Ff {α:Type} (f:α->Bool):List α->Nat
 | []=>0
 | x :: l=>if f x then Ff f l+1 else Ff f l
def Sn (n:Nat) (K:Nat->Prop):Prop:=
 match n with
 | 0=>K 0
 | n+1=>K (n+1)
def Rg {α:Type} (f:α->Bool) (l:List α):Bool:=List.rec (motive:=fun _=>Bool) false (fun x _ ih=>Bool.rec (motive:=fun _=>Bool) ih true (f x)) l
theorem AM {α:Type} (f:α->Bool):∀ l:List α,Rg f l=l.any f
 | []=>rfl
 | x :: l=>by
  show Bool.rec (motive:=fun _=>Bool) (Rg f l) true (f x)=_
  rw [List.any_cons,AM f l];cases f x <;> rfl
def mF (E:Env) (ops:Array Oper) (hd:Nat) (st:St) (K:St->Prop):Prop:=
 Sn (Nat.min hd (kg ops)) (fun lim=>Bool.rec (motive:=fun _=>Prop) (jK E ops st.b hd lim ops.toList 0 [] st K) (jK E ops (kO st.b) hd lim ops.toList 0 [] st K) (Rg cq ops.toList))
def kM {α:Type} (l:List (Option α)) (i:Nat):Bool:=match look l i with
 | none=>true
 | some _=>false
def rR {α:Type} (l:List (Option α)):List Nat->Bool
 | []=>true
 | i :: is=>kM l i && rR l is
def NO (facts:OB):Option IV->Bool
 | some (.ptr b _)=>kM facts b
 | some (.pdyn b _ _)=>kM facts b
 | some (.prow b _ _ _)=>kM facts b
 | some (.prowd b _ _ _ _)=>kM facts b
 | _=>false
def o4 (E:Env) (facts:OB) (st:St) (o:Oper):Bool:=match o.op with
 | .store _ a _=>NO facts (ev st a)
 | .call c=>match c.callee with
  | .value f=>match ev st f,E5 st c.args.toList with
   | some (.fn g caps),some args=>match E.Γ g with
    | some _=>true
    | none=>E.frm g && yg (args++caps) && rR facts (dC st.b (args++caps))
   | _,_=>false
  | _=>false
 | .slice t _ _ _ _=>(cN E.P t).isSome
 | _=>true
def fX (E:Env) (ops:Array Oper) (facts:OB):Nat->Array Bool->List (Nat × Bool)->St->(St->Prop)->Prop
 | 0,listed,gs,st,K=>if Region.ready .any ops listed=[] then K st else False
 | fuel+1,listed,gs,st,K=>
  match Region.ready .any ops listed with
  | []=>K st
  | r :: rs=>
   match yb E.P ops facts ops.size listed gs st (r :: rs) with
   | some i=>
    match ops[i]? with
    | some o=>oD ops.toList st o
      (fun st=>match bj E.P { st with b:=facts } o with
       | some (p,v)=>if kn v=true then ask p (nC (st.aN o.dst v) fun st=>ye (listed.setIfInBounds i true) fun listed=>fX E ops facts fuel listed (qk gs o true) st K) else False
       | none=>False)
      (fun st=>fX E ops facts fuel (listed.setIfInBounds i true) (qk gs o false) (st.aN o.dst (.tup [])) K)
    | none=>False
   | none=>Hs (fun i=>
    match ops[i]? with
    | some o=>oD ops.toList st o
      (fun st=>Bool.rec (motive:=fun _=>Prop) False (rm E st o fun st'=>nC st' fun st'=>ye (listed.setIfInBounds i true) fun listed=>fX E ops facts fuel listed (qk gs o true) st' K) (o4 E facts st o))
      (fun st=>fX E ops facts fuel (listed.setIfInBounds i true) (qk gs o false) (st.aN o.dst (.tup [])) K)
    | none=>False) (r :: rs)
def Kd (E:Env) (st:St) (o:Oper):List Nat:=match o.op with
 | .store _ a _=>match ev st a with
  | some v=>refs v
  | none=>[]
 | .call c=>match c.callee with
  | .value f=>match ev st f with
   | some (.fn g caps)=>match E.Γ g with
    | some _=>[]
    | none=>pI st.b (st.b.length+1) 0 (tT st.b [] (wD caps++c.args.toList.flatMap fun x=>match ev st x with
     | some v=>refs v
     | none=>[]))
   | _=>[]
  | _=>[]
 | _=>[]
def AB (E:Env):List Oper->St->List Nat->List Nat
 | [],_,acc=>acc
 | o :: l,st,acc=>match bj E.P st o with
  | some (_,v)=>AB E l (st.aN o.dst v) acc
  | none=>AB E l st (acc++Kd E st o)
def mK (ids:List Nat):Nat->OB->OB
 | _,[]=>[]
 | i,x :: l=>(if ids.contains i then none else x) :: mK ids (i+1) l
def So (l:OB) (K:OB->Prop):Prop:=
 List.rec (motive:=fun _=>(OB->Prop)->Prop) (fun K=>K []) (fun x _ ih K=>Option.rec (motive:=fun _=>Prop) (ih fun l=>K (none :: l)) (fun v=>ih fun l=>K (some v :: l)) x) l K
def xf (E:Env) (ops:Array Oper) (st:St) (K:St->Prop):Prop:=
 jv E ops.toList ops.toList st fun zj=>So (kO (mK (AB E ops.toList st []) 0 st.b)) (fun facts=>fX E ops facts ops.size (iX ops.size 0) [] st fun st'=>st' = zj)/\K zj
structure WStep where
 s:PStep
 qX:Option (Nat × aq)
def pg (E:Env) (n0 nb:Nat) (bs:OB) (r:St) (o:Oper):Option (Option Prop × WStep):=
 match o.op with
 | .store t x v=>match ev r x with
  | some (.ptr k 0)=>match ev r v with
   | some u=>match look bs k with
    | some (.var t' cells)=>if (Nat.ble n0 k && lI u.cells && lK u && Nat.beq cells.length u.cells.length)=true/\eH E.P t=some u.cells.length then some (none,⟨⟨o.dst,.tup [],none⟩,some (k,.var t' u.cells)⟩) else none
    | _=>none
   | none=>none
  | _=>none
 | _=>match jE E nb r o with
  | some (p,s)=>some (p,⟨s,none⟩)
  | none=>none
def Ie (c:Bool) (u:Option (Nat × aq)) (b:OB):OB:=match u with
 | none=>b
 | some (k,x)=>if c then b.set k (some x) else b
def Zm (c:Bool) (s:WStep) (st:St):St:={ t:=if c then (st.aN s.s.dst s.s.v).t else st.t,b:=Ie c s.qX (st.b++ji c s.s.blk) }
def kJ (E:Env) (ops:Array Oper) (facts:OB) (n0:Nat):List Oper->St->Option (List (Option Prop × WStep))
 | [],_=>some []
 | o :: l,st=>match o.guard with
  | some _=>none
  | none=>match pg E n0 st.b.length st.b (iZ (jO (o.looksAt ops)) facts st) o with
   | some (p,s)=>match kJ E ops facts n0 l (Zm true s st) with
    | some r=>some ((p,s) :: r)
    | none=>none
   | none=>none
def yP:List (Option Prop × WStep)->Prop->Prop
 | [],K=>K
 | (p,_) :: l,K=>ask p (yP l K)
def gd:List (Option Prop × WStep)->St->St
 | [],st=>st
 | (_,s) :: l,st=>gd l (Zm true s st)
def jL:List (Option Prop × WStep)->List Nat
 | []=>[]
 | (_,s) :: l=>match s.qX with
  | none=>jL l
  | some (k,_)=>k :: jL l
def oC (E:Env) (ops:Array Oper):Nat:=if vg ops (lQ E ops.toList) || Nat.blt 8 ops.size then lQ E ops.toList else 0
def sr (E:Env) (ops:Array Oper) (st:St) (K:St->Prop):Prop:=
 if jb ops (lQ E ops.toList) then mF E ops (lQ E ops.toList) st K else xf E ops st K
def xi (E:Env) (ops:Array Oper) (st:St) (K:St->Prop):Prop:=
 let hd:=oC E ops
 if Region.noSelect ops && vg ops hd then
  if Nat.ble 2 (Ff XN (ops.toList.take hd)) && Nat.ble hd (kg ops) && !Rg cq ops.toList then
   match ph E ops st.b (ops.toList.take hd) st with
   | some l=>asks l (nC (cn l st) fun st'=>gN E ops st.b hd (ops.size - hd) (iX ops.size hd) [] st' K)
   | none=>mF E ops hd st K
  else mF E ops hd st K
 else if Region.noSelect ops then
  match (if Nat.ble ops.size (kg ops) then kJ E ops st.b st.b.length ops.toList st else none) with
  | some l=>if je (jL l) then yP l (nC (gd l st) K) else sr E ops st K
  | none=>sr E ops st K
 else False
def zL:List ResultVar->Nat->Nat
 | [],m=>m
 | .tmp i :: l,m=>zL l (Nat.lor m (FI i))
 | .cell i _ :: l,m=>zL l (Nat.lor m (FI i))
def vh (fn:Func):Nat:=zL fn.results.toList 0
def Z6 (P:Program) (f:FuncId):Nat:=match P.funcs[f]? with
 | some fn=>vh fn
 | none=>0
def agF (P:Program) (f:FuncId) (kp:Nat) (o:Out):Nat->Bool:=match o with
 | .ret=>jh (Z6 P f)
 | _=>jh kp
def cw:Code->Bool
 | .skip=>true
 | .region _ ops draw=>!draw && ops.toList.all fun o=>match o.op with
  | .defer _=>false
  | _=>true
 | .seq a b=>cw a && cw b
 | .cond _ a b=>cw a && cw b
 | .block _ c=>cw c
 | .exit _=>true
 | _=>false
def AJ (E:Env) (st:St) (g:Operand):Option (Nat × L2):=
 match ev st g with
 | some (.fn f [.ptr b 0])=>if E.back f then
   match look st.b b with
   | some (.var _ [.sl r])=>match rows st r with
    | some ([.i64],xs)=>some (r,xs)
    | _=>none
   | _=>none
  else none
 | _=>none
def AI (E:Env) (g:Operand) (r:Nat) (ps:Tmp × Tmp) (t:List (Option IV)) (R:St->(Out->St->Prop)->Prop):Nat->OB->(St->Prop)->Prop
 | 0,b,K=>K { t,b }
 | k+1,b,K=>
  match AJ E { t,b } g with
  | some (r',xs)=>if Nat.beq r' r && Nat.blt k xs.length then
    R ((St.aN { t,b } (some ps.1) (.int .i64 k)).aN (some ps.2) (.int .i64 (rd xs k 0))) fun o N2=>match o with
     | .normal=>AI E g r ps t R k N2.b K
     | _=>False
   else False
  | none=>False
def exec (E:Env) (f:FuncId) (n0:Nat):(kp:Nat)->(i:Nat)->Code->St->(Out->St->Prop)->Prop
 | _,_,.skip,st,K=>K .normal st
 | _,_,.region _ ops draw,st,K=>if draw then xi E ops st (K .normal) else jv E ops.toList ops.toList st (K .normal)
 | kp,i,.seq a b,st,K=>exec E f n0 (GH a b kp) i a st fun o st'=>match o with
  | .normal=>exec E f n0 kp (i+jf a) b st' K
  | o=>K o st'
 | kp,i,.cond c x y,st,K=>match ev st c with
  | some (.bool b)=>br b (exec E f n0 kp i x st K) (exec E f n0 kp (i+jf x) y st K)
  | _=>False
 | kp,i,.block id c,st,K=>exec E f n0 kp i c st fun o st'=>match o with
  | .exit i=>if i=id then K .normal st' else K (.exit i) st'
  | o=>K o st'
 | kp,i,.loop c,st,K=>
  match E.Λ f i with
  | some S=>S n0 (gc n0 (jh (Nat.lor kp (gen c))) st) K
  | none=>oh (exec E f n0 (Nat.lor kp (gen c)) (i+1) c) (gc n0 (jh (Nat.lor kp (gen c)))) 8 (gc n0 (jh (Nat.lor kp (gen c))) st) K
 | _,_,.exit id,st,K=>K (.exit id) st
 | _,_,.ret,st,K=>K .ret st
 | _,i,.rangeFunc g ps as c,st,K=>
  match AJ E st g,ps.toList with
  | some (r,xs),[p,q]=>if cw as && cw c then
    AI E g r (p,q) st.t (fun st' k=>exec E f n0 0 i as st' fun o zj=>match o with
     | .normal=>exec E f n0 0 i c zj k
     | _=>False) xs.length st.b (K .normal)
   else False
  | _,_=>False
 | _,_,_,_,_=>False
def aG (E:Env) (f:FuncId) (n0:Nat) (i:Nat) (p:Nat × Code) (S:aB):Prop:=
 ∀ st K,S n0 st K->∃n,oh (exec E f n0 (Nat.lor p.1 (gen p.2)) (i+1) p.2) (gc n0 (jh (Nat.lor p.1 (gen p.2)))) n st fun o st'=>K o (gc n0 (agF E.P f p.1 o) st')
def pc (P:Program) (st:St) (r:ResultVar):Option IV:=
 match r with
 | .tmp i=>look st.t i
 | .cell i t=>match look st.t i with
  | some (.ptr b 0)=>match loadAt P st t (.ptr b 0) with
   | some (none,v)=>some v
   | _=>none
  | _=>none
def agj (P:Program) (st:St):List ResultVar->Option (List IV)
 | []=>some []
 | r :: rs=>match pc P st r,agj P st rs with
  | some v,some vs=>some (v :: vs)
  | _,_=>none
def agM (P:Program) (fn:Func) (st:St):Option IV:=
 match fn.results.toList with
 | [r]=>pc P st r
 | rs=>(agj P st rs).map .tup
def lp (P:Program) (f:FuncId) (i:Nat):Nat × Code:=
 match P.funcs[f]? with
 | some fn=>match fn.body with
  | some c=>(dP (vh fn) c).getD i (0,.skip)
  | none=>(0,.skip)
 | none=>(0,.skip)
def body (E:Env) (f:FuncId) (args:List IV) (b:OB) (K:IV->OB->Prop):Prop:=
 match E.P.funcs[f]? with
 | none=>False
 | some fn=>
  match fn.body with
  | none=>False
  | some c=>exec E f b.length (vh fn) 0 c { t:=args.map some++List.replicate (fn.ntmps - args.length) none,b } fun o st=>match o with
   | .exit _=>False
   | _=>match agM E.P fn st with
    | some v=>K v st.b
    | none=>False
def gb (order:List Nat) (n:Nat) (j:Nat):Option Nat:=match lg order j with
 | some i=>some i
 | none=>some (n+(j - order.length))
def js (b:OB) (order:List Nat) (b1:OB):OB:=
 (List.range b.length).map (fun i=>match idxOf order i with
  | some j=>(look b1 j).map (pP (gb order b.length))
  | none=>look b i)++(b1.drop order.length).map (Option.map (pP (gb order b.length)))
def Yl (n:Nat) (l:List Nat):Bool:=l.all fun i=>Nat.blt i n
def qz (G:eG):eG:=fun args b K=>
 if je (dC b args) && Yl b.length (dC b args) then
  G (args.map (BC (idxOf (dC b args)))) ((dC b args).map fun i=>(look b i).map (pP (idxOf (dC b args)))) fun v b1=>
   K (BC (gb (dC b args) b.length) v) (js b (dC b args) b1)
 else False
def dN (P:Program):List TypeId->List IV->OB->List IV × OB
 | t :: ts,.nils :: as,b=>match cN P t,(cN P t).bind (kinds P) with
  | some e,some ks=>(.sl b.length :: (dN P ts as (b++[some (.row e ks [])])).1,(dN P ts as (b++[some (.row e ks [])])).2)
  | _,_=>(.nils :: (dN P ts as b).1,(dN P ts as b).2)
 | _ :: ts,a :: as,b=>(a :: (dN P ts as b).1,(dN P ts as b).2)
 | _,as,b=>(as,b)
def BY (P:Program) (g:FuncId):List TypeId:=match P.funcs[g]? with
 | some fn=>fn.params.toList
 | none=>[]
def lifted (P:Program) (g:FuncId) (F:eG):eG:=fun args b K=>
 if yg args then F args b K else
 match dN P (BY P g) args b with
 | (as,b')=>F as b' K
def ld (n0:Nat) (v:IV) (b:OB) (K:IV->OB->Prop):Prop:=
 match look (gc n0 (fun _=>true) { t:=[some v],b }).t 0 with
 | some v'=>K v' (gc n0 (fun _=>true) { t:=[some v],b }).b
 | none=>False
structure Know where
 Γ:FuncId->Option Spec
 Λ:FuncId->Nat->Option aB
 Τ:FuncId->Option eG
 pop:TypeId->Bool:=fun _=>false
 back:FuncId->Bool:=fun _=>false
def bQ (P:Program) (N:Know):Nat->FuncId->List IV->OB->(IV->OB->Prop)->Prop
 | 0,_,_,_,_=>False
 | d+1,f,args,b,K=>body { P,Γ:=N.Γ,Λ:=N.Λ,frm:=(fun g=>(N.Τ g).isSome),pop:=N.pop,back:=N.back,inl:=fun g args b K=>match N.Τ g with
   | some G=>lifted P g (qz G) args b K
   | none=>bQ P N d g args b K } f args b K
def ai (P:Program) (N:Know) (d:Nat):Env:={ P,Γ:=N.Γ,Λ:=N.Λ,frm:=(fun g=>(N.Τ g).isSome),pop:=N.pop,back:=N.back,inl:=fun g args b K=>match N.Τ g with
 | some G=>lifted P g (qz G) args b K
 | none=>bQ P N d g args b K }
def Pf (b:OB) (c:IV) (acc:List (Nat × aq)):Option (IV × List (Nat × aq)):=
 match c with
 | .int k n=>some (.int k n,acc)
 | .bool b=>some (.bool b,acc)
 | .sl i=>match look b i with
  | some (.row e ks xs)=>if acc.any (fun p=>p.1 == i) then none else some (.sl acc.length,acc++[(i,.row e ks xs)])
  | some (.ro ks xs)=>some (.sl acc.length,acc++[(i,.ro ks xs)])
  | _=>none
 | _=>none
def KK (b:OB):List IV->List (Nat × aq)->Option (List IV × List (Nat × aq))
 | [],acc=>some ([],acc)
 | c :: cs,acc=>match Pf b c acc with
  | some (c',acc')=>match KK b cs acc' with
   | some (cs',acc'')=>some (c' :: cs',acc'')
   | none=>none
  | none=>none
def j0 (b:OB) (v:IV) (acc:List (Nat × aq)):Option (IV × List (Nat × aq)):=
 match v with
 | .agg cs=>match KK b cs acc with
  | some (cs',acc')=>some (.agg cs',acc')
  | none=>none
 | v=>Pf b v acc
def BB (b:OB):List IV->List (Nat × aq)->Option (List IV × List (Nat × aq))
 | [],acc=>some ([],acc)
 | c :: cs,acc=>match j0 b c acc with
  | some (c',acc')=>match BB b cs acc' with
   | some (cs',acc'')=>some (c' :: cs',acc'')
   | none=>none
  | none=>none
def KJ (b:OB) (v:IV):Option (IV × List aq):=
 match v with
 | .tup vs=>(BB b vs []).map fun p=>(.tup p.1,p.2.map (·.2))
 | v=>(j0 b v []).map fun p=>(p.1,p.2.map (·.2))
def comes (P:Program) (N:Know) (d:Nat) (f:FuncId) (args:List IV) (bs:List aq) (K:KP):Prop:=
 bQ P N d f args (bs.map some) fun v b=>match KJ b v with
  | some (v',bs')=>K v' bs'
  | none=>False
end
end Go.Vs
namespace Go.Vs
open Go.RowKit
inductive Real where
 | blk (id:Nat)
 | slc (v:Value)
abbrev cR:=Nat->Option Real
def dt (k:IntKind) (n:Int):Prop:=k.min<=n/\n<=k.max
inductive bP (β:cR):IV->Value->Prop
 | int {k n} (h:dt k n):bP β (.int k n) (.int k n)
 | bool {b}:bP β (.bool b) (.bool b)
 | nilp:bP β .nilp (.pointer none)
 | nils:bP β .nils (.slice none 0 0)
 | nilf:bP β .nilf .nilFunc
 | unk {v} (h:v.oneCell' = true):bP β .unk v
 | fn {f caps} {cs:Array Value} (hl:caps.length=cs.size) (h:∀ (i:Nat) c v,caps[i]? = some c->cs[i]? = some v->bP β c v):bP β (.fn f caps) (.func (.func f) #[] cs)
 | ptr {b o id} (h:β b=some (.blk id)):bP β (.ptr b o) (.pointer (some ⟨id,o,none⟩))
 | pdyn {b o i id} (h:β b=some (.blk id)):bP β (.pdyn b o i) (.pointer (some ⟨id,o+i.toNat,none⟩))
 | prow {b i sz f g o n c} (h:β b=some (.slc (.slice (some ⟨g,o,none⟩) n c))):bP β (.prow b i sz f) (.pointer (some ⟨g,o+i.toNat*sz+f,none⟩))
 | prowd {b i sz f j g o n c} (h:β b=some (.slc (.slice (some ⟨g,o,none⟩) n c))):bP β (.prowd b i sz f j) (.pointer (some ⟨g,o+i.toNat*sz+f+j.toNat,none⟩))
 | sl {b A n c} (h:β b=some (.slc (.slice A n c))):bP β (.sl b) (.slice A n c)
 | agg {cs} {xs:Array Value} (hl:cs.length=xs.size) (h1:∀ (i:Nat) v,xs[i]? = some v->v.oneCell' = true) (h:∀ (i:Nat) c v,cs[i]? = some c->xs[i]? = some v->bP β c v):bP β (.agg cs) (.agg xs)
 | tup {vs} {xs:Array Value} (hl:vs.length=xs.size) (h:∀ (i:Nat) c v,vs[i]? = some c->xs[i]? = some v->bP β c v):bP β (.tup vs) (.tuple xs)
theorem bP.mono {β β':cR} (hβ:∀ b r,β b=some r->β' b=some r) {v:IV} {u:Value} (h:bP β v u):bP β' v u:=by
 induction h with
 | int h=>exact .int h
 | bool=>exact .bool
 | nilp=>exact .nilp
 | nils=>exact .nils
 | nilf=>exact .nilf
 | unk h=>exact .unk h
 | fn hl h ih=>exact .fn hl ih
 | ptr h=>exact .ptr (hβ _ _ h)
 | pdyn h=>exact .pdyn (hβ _ _ h)
 | prow h=>exact .prow (hβ _ _ h)
 | prowd h=>exact .prowd (hβ _ _ h)
 | sl h=>exact .sl (hβ _ _ h)
 | agg hl h1 h ih=>exact .agg hl h1 ih
 | tup hl h ih=>exact .tup hl ih
def leaf:IV->Bool
 | .agg _=>false
 | .tup _=>false
 | _=>true
theorem bP.one {β:cR} {v:IV} {u:Value} (h:bP β v u) (hl:leaf v=true):u.oneCell' = true:=by
 cases h <;> first | rfl | assumption | (simp [leaf] at hl)
def Reads (w:World) (ks:List IntKind) (A:Option Addr) (c:Nat) (xs:L2):Prop:=
 xs.length<=c/\c<=maxLen/\(0 < xs.length->∃g o,A=some ⟨g,o,none⟩/\∀ j u,(flat ks xs)[j]? = some u->w.cell? ⟨g,o+j,none⟩=some u)
def aI (ks:List IntKind) (xs:L2):Prop:=∀ x∈xs,∀ j,j < ks.length->dt (ks.getD j .i64) (x.getD j 0)
structure Ctx where
 w0:World
 B:Nat
 A0:Nat->Prop
 Fr:Nat->Prop:=fun _=>False
 Fo:Nat->Prop:=fun _=>False
 F0:World:=w0
def gf (β:cR) (cells:List IV) (cs:Array Value):Prop:=
 cells.length=cs.size/\(∀ (i:Nat) v,cs[i]? = some v->v.oneCell' = true)/\∀ (i:Nat) c v,cells[i]? = some c->cs[i]? = some v->bP β c v
theorem gf.mono {β β':cR} (hβ:∀ b r,β b=some r->β' b=some r) {cells:List IV} {cs:Array Value} (h:gf β cells cs):gf β' cells cs:=
 ⟨h.1,h.2.1,fun i c v hc hv=>(h.2.2 i c v hc hv).mono hβ⟩
def gi (X:Ctx) (β:cR) (w:World) (b:Nat):aq->Prop
 | .var t cells=>∃id cs,β b=some (.blk id)/\X.B<=id/\w.heap[id]? = some (.cells cs t (0,0))/\gf β cells cs
 | .ints t k xs=>∃id,β b=some (.blk id)/\X.B<=id/\w.heap[id]? = some (.cells (xs.map (Value.int k)).toArray t (0,0))/\∀ x∈xs,dt k x
 | .row e ks xs=>∃A n c,β b=some (.slc (.slice A n c))/\w.ownsRow X.B e ks.length (.slice A n c) xs.length (flat ks xs)/\aI ks xs/\0 < ks.length
 | .ro ks xs=>∃A c,β b=some (.slc (.slice A xs.length c))/\Reads w ks A c xs/\aI ks xs/\0 < ks.length/\(xs≠[]->∀ ad,A=some ad->X.A0 ad.block∨X.B<=ad.block)
def Uses (β:cR) (b id:Nat):Prop:=β b=some (.blk id)∨∃a n c,β b=some (.slc (.slice (some a) n c))/\a.block=id
def afJ (β:cR) (b:Nat) (k:aq) (id:Nat):Prop:=Uses β b id/\(k.own=true∨∃ks x xs,k=.ro ks (x :: xs))
structure Ry (X:Ctx) (β:cR) (b:List (Option aq)) (w:World):Prop where
 le:X.B<=w.heap.size
 fr:∀ id,X.Fr id->id < w.heap.size/\w.heap[id]? = X.F0.heap[id]?
 fo:∀ id,X.Fo id->X.Fr id
 apart:∀ c k id,look b c=some k->afJ β c k id->¬ X.Fo id/\(k.own=true->¬ X.Fr id)
inductive gh (X:Ctx) (w:World):List Deferred->Prop
 | nil:gh X w []
 | cons {D:Nat} {ds:List Deferred} (h:w.heap[D]? = some (.deferred (some []))) (hB:X.B<=D) (hF:¬ X.Fr D) (hn:∀ d∈ds,d.target≠.collected D) (hq:gh X w ds):
   gh X w ({ target:=.collected D,args:=#[] } :: ds)
def AS (w w':World):Prop:=∀ (D:Nat) (o:Obj),w.heap[D]? = some o->o.isCells=false->w'.heap[D]? = some o
theorem gh.Sy {X w w' ds} (h:gh X w ds) (hk:∀ D:Nat,w.heap[D]? = some (.deferred (some []))->w'.heap[D]? = some (.deferred (some []))):gh X w' ds:=by
 induction h with
 | nil=>exact .nil
 | cons h hB hF hn _ ih=>exact .cons (hk _ h) hB hF hn ih
theorem gh.ctx {X X' w ds} (h:gh X w ds) (hB:X'.B=X.B) (hF:∀ D,X'.Fr D->X.Fr D):gh X' w ds:=by
 induction h with
 | nil=>exact .nil
 | cons h hB' hF' hn _ ih=>exact .cons h (by rw [hB]; exact hB') (fun hf=>hF' (hF _ hf)) hn ih
theorem gh.cQ {X w w' ds} (h:gh X w ds) (hk:AS w w'):gh X w' ds:=by
 induction h with
 | nil=>exact .nil
 | cons h hB hF hn _ ih=>exact .cons (hk _ _ h rfl) hB hF hn ih
structure Sat (X:Ctx) (β:cR) (st:St) (a:Act) (w:World):Prop where
 len:st.t.length=a.tmps.size
 tmps:∀ i v,look st.t i=some v->∃u,a.tmps[i]? = some u/\bP β v u
 blks:∀ b k,look st.b b=some k->gi X β w b k
 disj:∀ b c k k' id,look st.b b=some k->look st.b c=some k'->k.own=true->afJ β b k id->afJ β c k' id->b=c
 bound:∀ b,st.b.length<=b->β b=none
 below:Below X.B X.w0 w
 frm:Ry X β st.b w
 defers:gh X w a.defers
theorem Sat.le {X β st a w} (h:Sat X β st a w):X.B<=w.heap.size:=h.frm.le
theorem iw {α:Type} (l:List (Option α)) (i:Nat):look l i=(l[i]?).getD none:=by
 induction l generalizing i with
 | nil=>simp [look_nil,bX,bY]
 | cons x l ih=>cases i with
  | zero=>simp [look_nil,bX,bY]
  | succ i=>simp [bY,ih]
theorem dc {α:Type} {l:List (Option α)} {i:Nat} {x:α} (h:look l i=some x):i < l.length:=by
 rw [iw] at h;rcases Nat.lt_or_ge i l.length with h' | h'
 ·exact h'
 ·simp [List.getElem?_eq_none h'] at h
theorem bU {α:Type} (l:List (Option α)) (i j:Nat) (x:Option α):look (l.set i x) j=if i=j then (if i < l.length then x else none) else look l j:=by
 rw [iw,iw,List.getElem?_set];by_cases h:i=j
 ·subst h;by_cases h':i < l.length
  ·simp [h']
  ·simp [h']
 ·simp [h]
theorem cv {α:Type} (l m:List (Option α)) (j:Nat):look (l++m) j=if j < l.length then look l j else look m (j - l.length):=by
 rw [iw,iw,iw];by_cases h:j < l.length
 ·simp [h,List.getElem?_append_left h]
 ·simp [h,List.getElem?_append_right (Nat.le_of_not_lt h)]
theorem bJ {α:Type} {l:List (Option α)} {i:Nat} {x:α}:look l i=some x↔l[i]? = some (some x):=by
 rw [iw];cases h:l[i]? with
 | none=>simp
 | some y=>simp
theorem wh (st:St) (d:Option Tmp) (v:IV):(st.aN d v).t.length=st.t.length:=by cases d <;> simp [St.aN,o8]
theorem cJ (st:St) (d:Option Tmp) (v:IV):(st.aN d v).b=st.b:=by cases d <;> rfl
theorem Sat.aN {X β st a w} (h:Sat X β st a w) {v:IV} {u:Value} (hv:bP β v u) (d:Option Tmp):Sat X β (st.aN d v) (a.put d u) w:=by
 cases d with
 | none=>exact h
 | some d=>
  refine ⟨by simp [St.aN,o8,Act.put,h.len],?_,h.blks,h.disj,h.bound,h.below,h.frm,h.defers⟩
  intro i x hx;simp only [St.aN,o8] at hx;rw [bU] at hx;simp only [Act.put];by_cases hd:d=i
  ·subst hd;by_cases hl:d < st.t.length
   ·simp [hl] at hx;subst hx;exact ⟨u,by simp [← h.len,hl],hv⟩
   ·simp [hl] at hx
  ·simp [hd] at hx;obtain ⟨y,hy,hr⟩:=h.tmps i x hx;exact ⟨y,by simp [Array.getElem?_setIfInBounds,hd,hy],hr⟩
theorem jg {X β st a w} (h:Sat X β st a w) {i:Nat} {v:IV} (hv:look st.t i=some v):∃u,a.tmps.getD i undef=u/\bP β v u:=by
 obtain ⟨u,hu,hr⟩:=h.tmps i v hv;exact ⟨u,by simp [hu],hr⟩
theorem iu {β:cR} {v:Value} {x:IV} (h:oc v=some x):bP β x v/\leaf x=true:=by
 unfold oc at h;split at h
 ·split at h
  ·rename_i hk; cases h; exact ⟨.int hk,rfl⟩
  ·cases h
 ·cases h; exact ⟨.bool,rfl⟩
 ·cases h; exact ⟨.nilp,rfl⟩
 ·cases h; exact ⟨.nils,rfl⟩
 ·cases h; exact ⟨.nilf,rfl⟩
 ·cases h
theorem mapM_some {α γ:Type} {f:α->Option γ}:∀ {l:List α} {m:List γ},l.mapM f=some m->l.length=m.length/\∀ (i:Nat) x y,l[i]? = some x->m[i]? = some y->f x=some y:=by
 intro l;induction l with
 | nil=>intro m h; simp at h; subst h; simp
 | cons a l ih=>
  intro m h;rw [List.mapM_cons] at h;simp only [Option.bind_eq_bind,Option.bind_eq_some_iff,Option.pure_def,Option.some.injEq] at h;obtain ⟨b,hb,l',hl',rfl⟩:=h;obtain ⟨h1,h2⟩:=ih hl';refine ⟨by simp [h1],?_⟩
  intro i x y hx hy;cases i with
  | zero=>simp at hx hy; subst hx; subst hy; exact hb
  | succ i=>simp at hx hy; exact h2 i x y hx hy
theorem B8 {β:cR} {v:Value} {x:IV} (h:ofConst v=some x):bP β x v:=by
 unfold ofConst at h;split at h
 ·rename_i cs;simp only [Option.map_eq_some_iff] at h;obtain ⟨l,hl,rfl⟩:=h;obtain ⟨h1,h2⟩:=mapM_some hl;refine .agg (by simpa using h1.symm) ?_ ?_
  ·intro i u hu;have hi:i < l.length:=by
    have:=(Array.getElem?_eq_some_iff.1 hu).1;rw [← h1]; simpa using this
   have:=iu (β:=β) (h2 i u l[i] (by simpa using hu) (by simp [hi]))
   exact this.1.one this.2
  ·intro i c u hc hu;exact (iu (h2 i u c (by simpa using hu) hc)).1
 ·exact (iu h).1
theorem bR {X β st a w} (h:Sat X β st a w) {x:Operand} {v:IV} (hv:ev st x=some v):bP β v (a.eval x):=by
 cases x with
 | tmp i=>
  obtain ⟨u,hu,hr⟩:=jg h hv;rw [← hu] at hr;exact hr
 | const c=>exact B8 hv
 | global g=>simp [ev] at hv
 | func f=>
  simp [ev] at hv;subst hv;exact .fn (by simp) (by simp)
structure ba (w w':World):Prop where
 os:w'.os=w.os
 tape:w'.tape=w.tape
 output:w'.output=w.output
 size:w.heap.size<=w'.heap.size
 block:∀ i,i < w.heap.size->w'.heap[i]? = w.heap[i]?
theorem ba.refl (w:World):ba w w:=⟨rfl,rfl,rfl,Nat.le_refl _,fun _ _=>rfl⟩
theorem ba.alloc (w:World) (o:Obj):ba w (w.alloc o):=⟨rfl,rfl,rfl,(by show w.heap.size<=(w.heap.push o).size; simp),fun i hi=>Below.heap_alloc w o i hi⟩
theorem ba.wL {w w':World} (h:Below w.heap.size w w'):ba w w':=⟨h.os,h.tape,h.output,h.size,h.block⟩
theorem ba.deferred {w w':World} (h:ba w w'):AS w w':=fun D o hD _=>by
 have hlt:D < w.heap.size:=(Array.getElem?_eq_some_iff.1 hD).1;rw [h.block D hlt]; exact hD
theorem ba.below {w w':World} (h:ba w w'):Below w.heap.size w w':=⟨h.os,h.tape,h.output,h.size,h.block⟩
theorem ba.trans {a b c:World} (h:ba a b) (k:ba b c):ba a c:=
 ⟨k.os.trans h.os,k.tape.trans h.tape,k.output.trans h.output,Nat.le_trans h.size k.size,fun i hi=>(k.block i (Nat.lt_of_lt_of_le hi h.size)).trans (h.block i hi)⟩
theorem ba.drawn (w:World) (n:Nat):ba w { w with drawn:=n }:=⟨rfl,rfl,rfl,Nat.le_refl _,fun _ _=>rfl⟩
theorem ba.cell {w w':World} (h:ba w w') {a:Addr} {v:Value} (hc:w.cell? a=some v):w'.cell? a=some v:=
 (World.cell?_of_block (h.block a.block (World.block_lt_of_cell? w a hc))).trans hc
theorem ba.grownBy {w w':World} (h:ba w w'):w.grownBy w' none:=⟨h.os,h.tape,h.output,h.size,fun i hi _=>h.block i hi⟩
theorem Reads.keeps {w w':World} {ks A c xs} (h:Reads w ks A c xs) (hk:ba w w'):Reads w' ks A c xs:=
 ⟨h.1,h.2.1,fun h0=>by
  obtain ⟨g,o,e,hc⟩:=h.2.2 h0;exact ⟨g,o,e,fun j u hu=>hk.cell (hc j u hu)⟩⟩
theorem pH {w:World} {id:Nat} {o:Obj} (h:w.heap[id]? = some o):id < w.heap.size:=(Array.getElem?_eq_some_iff.1 h).1
theorem gi.keeps {X β w w' b k} (h:gi X β w b k) (hk:ba w w'):gi X β w' b k:=by
 cases k with
 | var t cells=>
  obtain ⟨id,cs,h1,h2,h3,h4⟩:=h;exact ⟨id,cs,h1,h2,(hk.block id (pH h3)).trans h3,h4⟩
 | ints t k xs=>
  obtain ⟨id,h1,h2,h3,h4⟩:=h;exact ⟨id,h1,h2,(hk.block id (pH h3)).trans h3,h4⟩
 | row e ks xs=>
  obtain ⟨A,n,c,h1,h2,h3⟩:=h;exact ⟨A,n,c,h1,h2.kept hk.grownBy (by cases A <;> simp [Value.ownBlock]),h3⟩
 | ro ks xs=>
  obtain ⟨A,c,h1,h2,h3⟩:=h;exact ⟨A,c,h1,h2.keeps hk,h3⟩
theorem gi.mono {X} {β β':cR} {w b k} (h:gi X β w b k) (hβ:∀ b r,β b=some r->β' b=some r):gi X β' w b k:=by
 cases k with
 | var t cells=>
  obtain ⟨id,cs,h1,h2,h3,h4⟩:=h;exact ⟨id,cs,hβ _ _ h1,h2,h3,h4.mono hβ⟩
 | ints t k xs=>
  obtain ⟨id,h1,h2,h3,h4⟩:=h;exact ⟨id,hβ _ _ h1,h2,h3,h4⟩
 | row e ks xs=>
  obtain ⟨A,n,c,h1,h2,h3⟩:=h;exact ⟨A,n,c,hβ _ _ h1,h2,h3⟩
 | ro ks xs=>
  obtain ⟨A,c,h1,h2,h3⟩:=h;exact ⟨A,c,hβ _ _ h1,h2,h3⟩
theorem Ry.keeps {X β b w w'} (h:Ry X β b w) (hk:ba w w'):Ry X β b w':=
 ⟨Nat.le_trans h.le hk.size,fun id hid=>⟨Nat.lt_of_lt_of_le (h.fr id hid).1 hk.size,(hk.block id (h.fr id hid).1).trans (h.fr id hid).2⟩,h.fo,h.apart⟩
theorem Ry.new {X β b w} (h:Ry X β b w) {id:Nat} (hid:w.heap.size<=id):¬ X.Fo id/\¬ X.Fr id:=by
 have h1:¬ X.Fr id:=fun hf=>by have:=(h.fr id hf).1; omega
 exact ⟨fun hf=>h1 (h.fo id hf),h1⟩
theorem Ry.sub {X β β' b b' w} (h:Ry X β b w) (hs:∀ c k id,look b' c=some k->afJ β' c k id->∃c0 k0,look b c0=some k0/\afJ β c0 k0 id/\(k.own=true->k0.own=true)):Ry X β' b' w:=
 ⟨h.le,h.fr,h.fo,fun c k id hc hu=>by
  obtain ⟨c0,k0,h1,h2,h3⟩:=hs c k id hc hu;exact ⟨(h.apart c0 k0 id h1 h2).1,fun ho=>(h.apart c0 k0 id h1 h2).2 (h3 ho)⟩⟩
theorem Sat.keeps {X β st a w w'} (h:Sat X β st a w) (hk:ba w w'):Sat X β st a w':=
 ⟨h.len,h.tmps,fun b k hb=>(h.blks b k hb).keeps hk,h.disj,h.bound,
  h.below.trans ⟨hk.os,hk.tape,hk.output,hk.size,fun i hi=>hk.block i (Nat.lt_of_lt_of_le hi h.le)⟩,
  h.frm.keeps hk,h.defers.cQ hk.deferred⟩
def ext (β:cR) (n:Nat) (r:Real):cR:=fun b=>if b=n then some r else β b
theorem gJ {β:cR} {n:Nat} {r:Real} (hn:β n=none):∀ b r',β b=some r'->ext β n r b=some r':=by
 intro b r' h;unfold ext;split
 ·rename_i e; subst e; rw [hn] at h; cases h
 ·exact h
theorem oY {X β w b k id} (h:gi X β w b k) (hu0:afJ β b k id):id < w.heap.size:=by
 obtain ⟨hu,hro⟩:=hu0;cases k with
 | var t cells=>
  obtain ⟨id',cs,h1,h2,h3,h4⟩:=h;rcases hu with hu | ⟨a,n,c,hu,_⟩
  ·rw [h1] at hu; cases hu; exact pH h3
  ·rw [h1] at hu; cases hu
 | ints t k xs=>
  obtain ⟨id',h1,h2,h3,h4⟩:=h;rcases hu with hu | ⟨a,n,c,hu,_⟩
  ·rw [h1] at hu; cases hu; exact pH h3
  ·rw [h1] at hu; cases hu
 | row e ks xs=>
  obtain ⟨A,n,c,h1,h2,h3⟩:=h;rcases hu with hu | ⟨a,n',c',hu,rfl⟩
  ·rw [h1] at hu; cases hu
  ·rw [h1] at hu;cases hu
   exact (h2.lt a.block (by simp [Value.ownBlock])).2
 | ro ks xs=>
  rcases hro with h0 | ⟨ks',x,xs',e⟩
  ·cases h0
  ·cases e
   obtain ⟨A,c,h1,h2,h3,hk,h4⟩:=h;rcases hu with hu | ⟨a,n',c',hu,rfl⟩
   ·rw [h1] at hu; cases hu
   ·rw [h1] at hu;cases hu
    obtain ⟨g,o,e,hc⟩:=h2.2.2 (by simp)
    cases e
    have:=hc 0 (.int (ks.getD 0 .i64) (x.getD 0 0)) (by
     obtain ⟨k0,ks'',rfl⟩:∃k0 ks'',ks=k0 :: ks'':=by cases ks with
      | nil=>simp at hk
      | cons a b=>exact ⟨a,b,rfl⟩
     simp [flat,rowOf,List.range_succ_eq_map])
    exact World.block_lt_of_cell? w _ this
theorem Uses.lJ {β:cR} {n:Nat} {r:Real} {b id:Nat} (hb:b≠n) (h:Uses (ext β n r) b id):Uses β b id:=by
 unfold Uses ext at *;simpa [hb] using h
theorem Sat.add {X β st a w w' k r} (h:Sat X β st a w) (hk:ba w w') (hr:∀ id,Uses (ext β st.b.length r) st.b.length id->k.own=true->∀ c k',look st.b c=some k'->¬ afJ β c k' id)
  (hro:k.own=false->∀ b k' id,look st.b b=some k'->k'.own=true->afJ β b k' id->¬ afJ (ext β st.b.length r) st.b.length k id)
  (hfr:∀ id,afJ (ext β st.b.length r) st.b.length k id->¬ X.Fo id/\(k.own=true->¬ X.Fr id))
  (hb:gi X (ext β st.b.length r) w' st.b.length k):Sat X (ext β st.b.length r) (st.dO k) a w':=by
 have hm:=gJ (r:=r) (h.bound st.b.length (Nat.le_refl _));have h':=h.keeps hk;have old:∀ b k,look (st.dO k).b b=some k->True:=fun _ _ _=>trivial
 have lk:∀ b k',look (st.dO k).b b=some k'->(b=st.b.length/\k' = k)∨(b < st.b.length/\look st.b b=some k'):=by
  intro b k' hl;simp only [St.dO] at hl;rw [cv] at hl;by_cases hlt:b < st.b.length
  ·simp [hlt] at hl; exact .inr ⟨hlt,hl⟩
  ·simp [hlt] at hl;have:b - st.b.length=0:=by
    rcases Nat.eq_zero_or_pos (b - st.b.length) with h0 | h0
    ·exact h0
    ·obtain ⟨m,hm⟩:∃m,b - st.b.length=m+1:=⟨b - st.b.length - 1,by omega⟩
     rw [hm] at hl; simp [look_nil,bX,bY] at hl
   rw [this] at hl;simp [look_nil,bX,bY] at hl;exact .inl ⟨by omega,hl.symm⟩
 refine ⟨h.len,?_,?_,?_,?_,h'.below,⟨h'.frm.le,h'.frm.fr,h'.frm.fo,fun c k1 id hc hu=>?_⟩,h'.defers⟩
 ·intro i v hv;obtain ⟨u,hu,hr⟩:=h.tmps i v hv;exact ⟨u,hu,hr.mono hm⟩
 ·intro b k' hl;rcases lk b k' hl with ⟨rfl,rfl⟩ | ⟨hlt,hl⟩
  ·exact hb
  ·exact (h'.blks b k' hl).mono hm
 ·intro b c k1 k2 id hb1 hc2 hown hu1 hu2;rcases lk b k1 hb1 with ⟨rfl,rfl⟩ | ⟨hlt,hb3⟩ <;> rcases lk c k2 hc2 with ⟨rfl,rfl⟩ | ⟨hlt',hc3⟩
  ·rfl
  ·have hu2':afJ β c k2 id:=⟨hu2.1.lJ (by omega),hu2.2⟩
   exact absurd hu2' (hr id hu1.1 hown c k2 hc3)
  ·have hu1':afJ β b k1 id:=⟨hu1.1.lJ (by omega),hu1.2⟩
   cases hk2:k2.own with
   | true=>exact absurd hu1' (hr id hu2.1 hk2 b k1 hb3)
   | false=>exact absurd hu2 (hro hk2 b k1 id hb3 hown hu1')
  ·exact h.disj b c k1 k2 id hb3 hc3 hown ⟨hu1.1.lJ (by omega),hu1.2⟩ ⟨hu2.1.lJ (by omega),hu2.2⟩
 ·intro b hb;simp only [St.dO,List.length_append,List.length_cons,List.length_nil] at hb;unfold ext;rw [if_neg (by omega)]
  exact h.bound b (by omega)
 ·rcases lk c k1 hc with ⟨rfl,rfl⟩ | ⟨hlt,hc3⟩
  ·exact hfr id hu
  ·exact h.frm.apart c k1 id hc3 ⟨hu.1.lJ (by omega),hu.2⟩
theorem dR (ks:List IntKind) (xs:L2):(flat ks xs).length=xs.length*ks.length:=by
 unfold flat;rw [List.length_flatMap];induction xs with
 | nil=>simp
 | cons x xs ih=>simp [rowOf] at ih ⊢; rw [ih,Nat.add_mul]; omega
theorem CC (ks:List IntKind) (xs ys:L2):flat ks (xs++ys)=flat ks xs++flat ks ys:=by simp [flat]
theorem mB (ks:List IntKind):∀ (xs:L2) (i j:Nat),i < xs.length->j < ks.length->(flat ks xs)[i*ks.length+j]? = some (.int (ks.getD j .i64) (rd xs i j)):=by
 intro xs;induction xs with
 | nil=>intro i j hi; simp at hi
 | cons x xs ih=>
  intro i j hi hj;have hf:flat ks (x :: xs)=rowOf ks x++flat ks xs:=by simp [flat]
  have hl:(rowOf ks x).length=ks.length:=by simp [rowOf]
  rw [hf];cases i with
  | zero=>
   rw [List.getElem?_append_left (by rw [hl]; omega)]
   simp [rowOf,rd,List.getElem?_range hj,hj]
  | succ i=>
   rw [List.getElem?_append_right (by rw [hl,Nat.add_mul]; omega),hl]
   have:(i+1)*ks.length+j - ks.length=i*ks.length+j:=by rw [Nat.add_mul]; omega
   rw [this,ih i j (by simpa using hi) hj]
   simp [rd]
end Go.Vs
namespace Go.Vs
open Go.RowKit
theorem lH {P:Program} {α:Type}:∀ (s:Sem α) (x:α) (w:World),dD P s=some x->s.run P w=.ok x w
 | .pure a,x,w,h=>by simp [dD] at h; subst h; rfl
 | .program k,x,w,h=>by simp only [dD] at h; exact lH (k P) x w h
 | .mark m k,x,w,h=>by simp only [dD] at h; exact lH k x w h
 | .load ..,x,w,h=>by simp [dD] at h
 | .store ..,x,w,h=>by simp [dD] at h
 | .new ..,x,w,h=>by simp [dD] at h
 | .shape ..,x,w,h=>by simp [dD] at h
 | .freeze ..,x,w,h=>by simp [dD] at h
 | .frozen ..,x,w,h=>by simp [dD] at h
 | .getObj ..,x,w,h=>by simp [dD] at h
 | .setObj ..,x,w,h=>by simp [dD] at h
 | .choose ..,x,w,h=>by simp [dD] at h
 | .sys ..,x,w,h=>by simp [dD] at h
 | .halt ..,x,w,h=>by simp [dD] at h
theorem bP.aS {β:cR} {k n u} (h:bP β (.int k n) u):u=.int k n/\dt k n:=by cases h; exact ⟨rfl,‹_›⟩
theorem bP.eC {β:cR} {b u} (h:bP β (.bool b) u):u=.bool b:=by cases h; rfl
theorem vN {β:cR} {v:IV} {u u':Value} (h:bP β v u) (ht:zd v=some u'):u=u':=by
 unfold zd at ht;split at ht
 ·cases ht; exact h.aS.1
 ·cases ht; exact h.eC
 ·cases ht
theorem H6 {β:cR} {v:IV} {u u':Value} (h:bP β v u) (ht:Ke v=some u'):u=u':=by
 unfold Ke at ht;split at ht
 ·rename_i cs;simp only [Option.map_eq_some_iff] at ht;obtain ⟨l,hl,rfl⟩:=ht;obtain ⟨h1,h2⟩:=mapM_some hl;cases h with
  | agg hl' hone hr=>
   rename_i xs
   congr 1
   apply Array.ext
   ·simp; omega
   ·intro i hi hi';have a1:cs[i]? = some cs[i]:=List.getElem?_eq_getElem (by omega)
    have a2:l[i]? = some l[i]:=List.getElem?_eq_getElem (by omega)
    have:=vN (hr i cs[i] xs[i] a1 (by simp [hi])) (h2 i _ _ a1 a2)
    simpa using this
 ·exact vN h ht
section
variable {P:Program} {X:Ctx} {β:cR} {st:St} {a:Act} {w:World}
theorem rb (k:IntKind) (n:Int):dt k (k.wrap n):=wrap_within k n
theorem Sem.iq {s:Sem Value} {u:Value} {w w':World} (h:s.run P w=.ok u w'):(do pure (Next.value (← s)):Sem Next).run P w=.ok (.value u) w':=by
 simp [Sem.run_bind,h]
theorem xE (hev:∀ x v,ev st x=some v->bP β v (a.eval x)) {o:Oper} {v:IV} (hs:∀ cs b,o.op≠.select cs b) (h:mN P st o=some v):
  ∃u,bP β v u/\(execOp a.eval o).run P w=.ok (.value u) w:=by
 unfold mN at h;split at h
 ·rename_i hall;split at h
  ·rename_i b hb;cases h
   refine ⟨.bool b,.bool,?_⟩;have hagree:∀ x∈o.op.operands,a.eval x=pj st x:=by
    intro x hx;have h1:(plain st x).isSome=true:=by
     rw [Array.all_eq_true] at hall;obtain ⟨i,hi,rfl⟩:=Array.mem_iff_getElem.1 hx;exact hall i hi
    obtain ⟨y,hy⟩:=Option.isSome_iff_exists.1 h1;have hy0:=hy;unfold plain at hy;simp only [Option.bind_eq_some_iff] at hy;obtain ⟨z,hz,hzy⟩:=hy;have:=H6 (hev x z hz) hzy;simp [pj,hy0,this]
   rw [execOp_congr o hs hagree];exact lH _ _ _ hb
  ·cases h
 ·cases h
theorem TH {k:IntKind} {a b:Int} (h:dt k a) (hb:0<=b):dt k (a.fdiv (2 ^ (min b.toNat k.bits))):=by
 have hp:(0:Int) < 2 ^ (min b.toNat k.bits):=Int.pow_pos (by omega)
 rw [Int.fdiv_eq_ediv_of_nonneg _ (by omega)]
 unfold dt at *;generalize (2:Int) ^ (min b.toNat k.bits)=p at *;have hmin:k.min<=0:=by cases k <;> decide
 have hmax:0<=k.max:=by cases k <;> decide
 rcases Int.lt_or_le a 0 with ha | ha
 ·have h1:a<=a / p:=by
   rw [Int.le_ediv_iff_mul_le hp];have:a*p<=a*1:=Int.mul_le_mul_of_nonpos_left (by omega) (by omega)
   omega
  have h2:a / p<=0:=by
   have:=Int.ediv_neg_of_neg_of_pos ha hp;omega
  omega
 ·have h1:0<=a / p:=Int.ediv_nonneg ha (by omega)
  have h2:a / p<=a:=Int.ediv_le_self _ ha;omega
theorem rem_in {k:IntKind} {a b:Int} (h:dt k a):dt k (a.tmod b):=by
 unfold dt at *;have hmin:k.min<=0:=by cases k <;> decide
 have hmax:0<=k.max:=by cases k <;> decide
 by_cases ha:0<=a
 ·have h1:=Int.tmod_nonneg b ha;have h2:a.tmod b<=a:=by
   have:=Int.natAbs_tmod a b;have h3:a.natAbs % b.natAbs<=a.natAbs:=Nat.mod_le _ _;omega
  omega
 ·have h0:=Int.neg_tmod (-a) b;rw [Int.neg_neg] at h0;have h1:=Int.tmod_nonneg b (show 0 ≤ -a by omega)
  have h2:(-a).tmod b ≤ -a:=by
   have:=Int.natAbs_tmod (-a) b;have h3:(-a).natAbs % b.natAbs<=(-a).natAbs:=Nat.mod_le _ _;omega
  omega
theorem mz {t:TypeId} {agg:Bool} (h:oy P t=some agg) (w:World):(isAgg t).run P w=.ok agg w:=by
 unfold oy at h;unfold isAgg;cases hu:P.underlying t with
 | none=>simp [hu] at h
 | some d=>
  rw [Sem.run_bind,run_underlying hu w];rw [hu] at h;cases d <;> simp at h <;> subst h <;> simp
theorem cg {t:TypeId} {n:Nat} (h:eH P t=some n) (w:World):(sizeOf t).run P w=.ok n w:=by
 unfold eH at h;cases hi:P.info? t with
 | none=>simp [hi] at h
 | some i=>
  simp [hi] at h;simp [sizeOf,typeInfo,hi,h]
theorem iU (g o j:Nat):(⟨g,o,none⟩:Addr).add j = ⟨g,o+j,none⟩:=by unfold Addr.add; split <;> simp_all
theorem fy {t:TypeId} {agg:Bool} {n g o:Nat} (hagg:oy P t=some agg) (hn:eH P t=some n) (cs:List Value) (hl:cs.length=n)
  (hc:∀ j u,cs[j]? = some u->w.cell? ⟨g,o+j,none⟩=some u) (h1:agg=true∨n=1):
  ∃u,(loadVar t ⟨g,o,none⟩).run P w=.ok u w/\(if agg=true then u=.agg cs.toArray else cs=[u]):=by
 cases hg:agg with
 | true=>
  subst hg;refine ⟨.agg cs.toArray,?_,by simp⟩
  have hll:=run_loadCells_list (P:=P) w ⟨g,o,none⟩ cs (fun j v hv=>by rw [iU]; exact hc j v hv)
  rw [hl] at hll;simp [loadVar,Sem.run_bind,mz hagg,cg hn,hll]
 | false=>
  subst hg;have hn1:n=1:=by rcases h1 with h1 | h1; cases h1; exact h1
  subst hn1;obtain ⟨c,rfl⟩:∃c,cs=[c]:=by
   cases cs with
   | nil=>simp at hl
   | cons c l=>cases l with
    | nil=>exact ⟨c,rfl⟩
    | cons d l=>simp at hl
  refine ⟨c,?_,by simp⟩
  have:=hc 0 c rfl;simp only [Nat.add_zero] at this;simp [loadVar,Sem.run_bind,mz hagg,run_load,this]
theorem rJ {agg:Bool} {cells:List IV} {v:IV} {cs:List Value} {u:Value} (hp:pack agg cells=some v) (hu:if agg=true then u=.agg cs.toArray else cs=[u])
  (hl:cells.length=cs.length) (hone:∀ (i:Nat) v,cs[i]? = some v->v.oneCell' = true) (hr:∀ (i:Nat) c v,cells[i]? = some c->cs[i]? = some v->bP β c v):bP β v u:=by
 cases agg with
 | true=>
  simp [pack] at hp;simp at hu;subst hp; subst hu;exact .agg (by simp [hl]) (by simpa using hone) (by simpa using hr)
 | false=>
  simp at hu;subst hu;cases cells with
  | nil=>simp at hl
  | cons c l=>
   cases l with
   | nil=>simp [pack] at hp; subst hp; exact hr 0 c u rfl rfl
   | cons d l=>simp at hl
theorem oW {k:IntKind}:∀ {cells:List IV} {xs:L1},qU k cells=some xs->cells=xs.map (IV.int k):=by
 intro cells;induction cells with
 | nil=>intro xs h; simp [qU] at h; subst h; rfl
 | cons c l ih=>
  intro xs h;cases c <;> simp only [qU] at h <;> try (cases h; done)
  rename_i k' n;split at h
  ·rename_i hk;subst hk;simp only [Option.map_eq_some_iff] at h;obtain ⟨ys,hy,rfl⟩:=h;simp [ih hy]
  ·cases h
theorem gf.take_drop {cells:List IV} {cs:Array Value} (h:gf β cells cs) (o n:Nat) (hon:o+n<=cells.length):
  ∃ds:List Value,ds.length=n/\((cells.drop o).take n).length=ds.length/\(∀ (j:Nat) u,ds[j]? = some u->cs[o+j]? = some u)/\(∀ (i:Nat) v,ds[i]? = some v->v.oneCell' = true)/\∀ (i:Nat) c v,((cells.drop o).take n)[i]? = some c->ds[i]? = some v->bP β c v:=by
 refine ⟨(cs.toList.drop o).take n,?_,?_,?_,?_,?_⟩
 ·have:=h.1; simp; omega
 ·have:=h.1; simp; omega
 ·intro j u hj;rw [List.getElem?_take] at hj;split at hj
  ·simpa [List.getElem?_drop] using hj
  ·cases hj
 ·intro i v hv;rw [List.getElem?_take] at hv;split at hv
  ·rw [List.getElem?_drop] at hv; exact h.2.1 (o+i) v (by simpa using hv)
  ·cases hv
 ·intro i c v hc hv;rw [List.getElem?_take] at hv hc;split at hv
  ·rename_i hi;rw [if_pos hi,List.getElem?_drop] at hc;rw [List.getElem?_drop] at hv;exact h.2.2 (o+i) c v hc (by simpa using hv)
  ·cases hv
theorem zK (ks:List IntKind) (xs:L2) (i f n j:Nat) (h:j < n):(bN ks xs i f n)[j]? = some (.int (ks.getD (f+j) .i64) (rd xs i (f+j))):=by
 simp [bN,h]
theorem ir {b:Nat} {ks:List IntKind} {xs:L2} (hb:∀ b k,look st.b b=some k->gi X β w b k) (hr:rows st b=some (ks,xs)):
  ∃A n c,β b=some (.slc (.slice A n c))/\n=xs.length/\n<=c/\c<=maxLen/\aI ks xs/\0 < ks.length/\
   (0 < xs.length->∃g o,A=some ⟨g,o,none⟩/\∀ i j,i < xs.length->j < ks.length->w.cell? ⟨g,o+i*ks.length+j,none⟩=some (.int (ks.getD j .i64) (rd xs i j)))/\Reads w ks A c xs:=by
 unfold rows at hr;split at hr
 ·rename_i e ks' xs' hl;cases hr
  obtain ⟨A,n,c,h1,h2,h3,h4⟩:=hb b _ hl;have hlen:=h2.1;rcases h2.2 with ⟨he,h0⟩ | ⟨g,cap,cur,he,hB,hg,hnc,hcm,hsz,htk⟩
  ·cases he
   refine ⟨none,0,0,h1,h0.symm,Nat.le_refl _,Nat.zero_le _,h3,h4,fun hp=>by omega,?_⟩
   exact ⟨by omega,Nat.zero_le _,fun hp=>by omega⟩
  ·cases he
   have hcell:∀ j u,(flat ks xs)[j]? = some u->w.cell? ⟨g,j,none⟩=some u:=by
    intro j u hu;have:=h2.cells (g:=g) rfl j u hu
    rwa [iU,Nat.zero_add] at this
   refine ⟨_,_,_,h1,rfl,hnc,hcm,h3,h4,fun hp=>⟨g,0,rfl,fun i j hi hj=>?_⟩,?_⟩
   ·rw [Nat.zero_add]; exact hcell _ _ (mB ks xs i j hi hj)
   ·exact ⟨hnc,hcm,fun hp=>⟨g,0,rfl,fun j u hu=>by rw [Nat.zero_add]; exact hcell j u hu⟩⟩
 ·rename_i ks' xs' hl;cases hr
  obtain ⟨A,c,h1,h2,h3,h4,h5⟩:=hb b _ hl;refine ⟨A,_,c,h1,rfl,h2.1,h2.2.1,h3,h4,fun hp=>?_,h2⟩
  obtain ⟨g,o,e,hc⟩:=h2.2.2 hp;refine ⟨g,o,e,fun i j hi hj=>?_⟩
  rw [Nat.add_assoc];exact hc _ _ (mB ks xs i j hi hj)
 ·cases hr
theorem rZ (hb:∀ b k,look st.b b=some k->gi X β w b k) {t:TypeId} {av:IV} {au:Value} (hav:bP β av au) {p:Option Prop} {v:IV}
  (h:loadAt P st t av=some (p,v)) (hp:∀ q,p=some q->q):∃u,bP β v u/\(Instr.loadAt t au).run P w=.ok u w:=by
 unfold loadAt at h;cases hagg:oy P t with
 | none=>simp [hagg] at h
 | some agg=>
 cases hn:eH P t with
 | none=>simp [hagg,hn] at h
 | some n=>
 simp only [hagg,hn] at h;cases hav with
 | ptr hβ=>
  rename_i b o id;simp only at h;split at h
  ·rename_i t' cells hl;split at h
   ·rename_i hc;simp only [Option.map_eq_some_iff,Prod.mk.injEq] at h;obtain ⟨x,hx,_,rfl⟩:=h;obtain ⟨id',cs,h1,h2,h3,h4⟩:=hb b _ hl;rw [hβ] at h1;cases h1
    obtain ⟨ds,d1,d2,d3,d4,d5⟩:=h4.take_drop o n hc.2;obtain ⟨u,hu,hu'⟩:=fy (P:=P) (w:=w) (g:=id) (o:=o) hagg hn ds d1 (fun j u hj=>by
     rw [cell_of_row w id (o+j) cs t' (0,0) h3]; exact d3 j u hj) hc.1
    exact ⟨u,rJ hx hu' d2 d4 d5,by simp [Instr.loadAt,Instr.sureAddr,hu]⟩
   ·cases h
  ·cases h
 | pdyn hβ=>
  rename_i b o i id;simp only at h;split at h
  ·cases h
  ·rename_i hna;have hag:agg=false:=by cases agg <;> simp_all
   have hn1:n=1:=by by_cases h1:n=1; exact h1; exact absurd (.inr h1) hna
   subst hag; subst hn1;split at h
   ·rename_i t' cells hl;split at h
    ·rename_i k hk;split at h
     ·rename_i xs hxs;simp only [Option.some.injEq,Prod.mk.injEq] at h;obtain ⟨hp',rfl⟩:=h;have hq:=hp _ hp'.symm;obtain ⟨id',cs,h1,h2,h3,h4⟩:=hb b _ hl;rw [hβ] at h1;cases h1
      have hspec:=oW hxs;have hi:i.toNat < xs.length:=by omega
      have hcell:cells[o+i.toNat]? = some (.int k (cW xs i)):=by
       have:=congrArg (fun l=>l[i.toNat]?) hspec
       simp only [List.getElem?_drop,List.getElem?_map] at this;rw [this,List.getElem?_eq_getElem hi];simp [cW,List.getD,List.getElem?_eq_getElem hi]
      have hlt:o+i.toNat < cs.size:=by
       have:=(List.getElem?_eq_some_iff.1 hcell).1;rw [← h4.1]; exact this
      have hrep:=h4.2.2 _ _ cs[o+i.toNat] hcell (by simp [hlt])
      obtain ⟨u,hu,hu'⟩:=fy (P:=P) (w:=w) (g:=id) (o:=o+i.toNat) hagg hn [cs[o+i.toNat]] rfl (fun j u hj=>by
       cases j with
       | zero=>simp at hj; subst hj; rw [Nat.add_zero,cell_of_row w id _ cs t' (0,0) h3]; simp [hlt]
       | succ j=>simp at hj) (.inr rfl)
      simp at hu';subst hu';exact ⟨_,hrep,by simp [Instr.loadAt,Instr.sureAddr,hu]⟩
     ·cases h
    ·cases h
   ·rename_i t' k xs hl;split at h
    ·rename_i ho;subst ho;simp only [Option.some.injEq,Prod.mk.injEq] at h;obtain ⟨hp',rfl⟩:=h;have hq:=hp _ hp'.symm;obtain ⟨id',h1,h2,h3,h4⟩:=hb b _ hl;rw [hβ] at h1;cases h1
     have hi:i.toNat < xs.length:=by omega
     obtain ⟨u,hu,hu'⟩:=fy (P:=P) (w:=w) (g:=id) (o:=0+i.toNat) hagg hn [.int k (cW xs i)] rfl (fun j u hj=>by
      cases j with
      | zero=>simp at hj; subst hj; rw [Nat.add_zero,cell_of_row w id _ _ t' (0,0) h3]; simp [cW,hi,List.getD,List.getElem?_eq_getElem hi]
      | succ j=>simp at hj) (.inr rfl)
     simp at hu';subst hu';refine ⟨_,.int (h4 _ ?_),by simpa [Instr.loadAt,Instr.sureAddr] using hu⟩
     simp [cW,List.getD,List.getElem?_eq_getElem hi]
    ·cases h
   ·cases h
 | prow hβ=>
  rename_i b i sz f g o nn c;simp only at h;split at h
  ·rename_i ks xs hr;split at h
   ·rename_i hc;simp only [Option.map_eq_some_iff,Prod.mk.injEq] at h;obtain ⟨x,hx,hp',rfl⟩:=h;have hq:=hp _ hp'.symm;obtain ⟨h0,hszk,hfn⟩:=hc;subst hszk;obtain ⟨A,n',c',h1,h2,h3,h4,h5,h6,h7,h8⟩:=ir hb hr;rw [hβ] at h1;cases h1
    have hi:i.toNat < xs.length:=by omega
    obtain ⟨g',o',e,hcell⟩:=h7 (by omega)
    cases e
    obtain ⟨u,hu,hu'⟩:=fy (P:=P) (w:=w) (g:=g) (o:=o+i.toNat*ks.length+f) hagg hn
     ((List.range n).map fun j=>Value.int (ks.getD (f+j) .i64) (rd xs i.toNat (f+j))) (by simp) (fun j u hj=>by
      have hlt:j < n:=by
       have:=(List.getElem?_eq_some_iff.1 hj).1;simpa using this
      simp [hlt] at hj;subst hj;have:=hcell i.toNat (f+j) hi (by omega)
      rw [Nat.add_assoc _ f j];exact this) h0
    refine ⟨u,rJ hx hu' (by simp [bN]) ?_ ?_,by simp [Instr.loadAt,Instr.sureAddr,hu]⟩
    ·intro j v hv;rw [List.getElem?_map] at hv;simp only [Option.map_eq_some_iff] at hv;obtain ⟨j',_,rfl⟩:=hv
     rfl
    ·intro j cc v hcc hv;have hj:j < n:=by
      have:=(List.getElem?_eq_some_iff.1 hv).1;simpa using this
     rw [zK _ _ _ _ _ _ hj] at hcc;cases hcc
     simp [hj] at hv;subst hv;refine .int ?_;have:=h5 xs[i.toNat] (List.getElem_mem hi) (f+j) (by omega)
     simpa [rd,List.getD,List.getElem?_eq_getElem hi] using this
   ·cases h
  ·cases h
 | _=>simp at h
end
end Go.Vs
namespace Go.Vs
open Go.RowKit
inductive dz:List IntKind->List Value->L1->Prop
 | nil:dz [] [] []
 | cons {k x ks vs xs} (h:dt k x) (t:dz ks vs xs):dz (k :: ks) (.int k x :: vs) (x :: xs)
theorem dz.append {ks ks' vs vs' xs xs'} (h:dz ks vs xs) (h':dz ks' vs' xs'):dz (ks++ks') (vs++vs') (xs++xs'):=by
 induction h with
 | nil=>exact h'
 | cons hk t ih=>exact .cons hk ih
theorem dz.len {ks vs xs} (h:dz ks vs xs):vs.length=ks.length/\xs.length=ks.length:=by
 induction h with
 | nil=>exact ⟨rfl,rfl⟩
 | cons hk t ih=>simp [ih.1,ih.2]
theorem dz.at {ks vs xs} (h:dz ks vs xs):∀ j,j < ks.length->vs[j]? = some (.int (ks.getD j .i64) (xs.getD j 0))/\dt (ks.getD j .i64) (xs.getD j 0):=by
 induction h with
 | nil=>intro j hj; simp at hj
 | cons hk t ih=>
  intro j hj;cases j with
  | zero=>simpa using hk
  | succ j=>simpa using ih j (by simpa using hj)
theorem dz.split {ks ks':List IntKind}:∀ {vs xs},dz (ks++ks') vs xs->dz ks (vs.take ks.length) (xs.take ks.length)/\dz ks' (vs.drop ks.length) (xs.drop ks.length):=by
 induction ks with
 | nil=>intro vs xs h; exact ⟨by simpa using dz.nil,by simpa using h⟩
 | cons k ks ih=>
  intro vs xs h;cases h with
  | cons hk t=>
   obtain ⟨h1,h2⟩:=ih t;exact ⟨by simpa using dz.cons hk h1,by simpa using h2⟩
def lits (ks:List IntKind) (xs:L1):List Lit:=List.zipWith Lit.int ks xs
theorem uw {ks ks':List IntKind} {xs xs':L1} (h:xs.length=ks.length):lits (ks++ks') (xs++xs')=lits ks xs++lits ks' xs':=by
 unfold lits;rw [List.zipWith_append h.symm]
theorem Lv:∀ {ks:List IntKind} {xs ys:L1},xs.length=ks.length->ys.length=ks.length->(lits ks xs=lits ks ys↔xs=ys):=by
 intro ks;induction ks with
 | nil=>intro xs ys h1 h2; simp at h1 h2; subst h1; subst h2; simp
 | cons k ks ih=>
  intro xs ys h1 h2;cases xs with
  | nil=>simp at h1
  | cons x xs=>
   cases ys with
   | nil=>simp at h2
   | cons y ys=>
    have:=ih (xs:=xs) (ys:=ys) (by simpa using h1) (by simpa using h2)
    unfold lits at this ⊢;simp [this]
theorem uu {α γ:Type} {f g:α->Option γ}:∀ {l:List α},(∀ a,a∈l->f a=g a)->l.mapM f=l.mapM g:=by
 intro l;induction l with
 | nil=>intro _; rfl
 | cons x l ih=>
  intro h;rw [List.mapM_cons,List.mapM_cons,h x (by simp),ih (fun a ha=>h a (by simp [ha]))]
section
variable {P:Program}
theorem CD {n:Nat} (ih:∀ t ks cs xs,fY P n t=some ks->dz ks cs xs->P.keyLits n t cs=some (lits ks xs)) {cs:List Value}:
  ∀ (fs:List Field) (off:Nat) l kk xs,fs.mapM (fun (f:Field)=>(fY P n f.type).map fun ks=>(f.offset,P.cellsOf f.type,ks))=some l->gM cs.length off l=some kk->dz kk (cs.drop off) xs->
   (fs.mapM fun (f:Field)=>P.keyLits n f.type ((cs.drop f.offset).take (P.cellsOf f.type))).map List.flatten=some (lits kk xs):=by
 intro fs;induction fs with
 | nil=>
  intro off l kk xs hl hk hx;simp at hl;subst hl;simp only [gM] at hk;split at hk
  ·cases hk
   simp [lits]
  ·cases hk
 | cons f fs ihf=>
  intro off l kk xs hl hk hx;simp only [List.mapM_cons,Option.pure_def,Option.bind_eq_bind,Option.bind_eq_some_iff,Option.map_eq_some_iff,Option.some.injEq] at hl;obtain ⟨_,⟨ks,hks,rfl⟩,l',hl',rfl⟩:=hl;simp only [gM] at hk;split at hk
  ·rename_i hc;obtain ⟨ho,hn⟩:=hc;simp only [Option.map_eq_some_iff] at hk;obtain ⟨kk',hk',rfl⟩:=hk;obtain ⟨s1,s2⟩:=hx.split;rw [List.drop_drop] at s2;have h1:=ih _ _ _ _ hks s1;have h2:=ihf _ _ _ _ hl' hk' (by rw [← hn]; exact s2)
   simp only [Option.map_eq_some_iff] at h2;obtain ⟨ls,h2,h3⟩:=h2;rw [hn,← ho] at h1;simp only [List.mapM_cons,h1,h2,Option.pure_def,Option.bind_eq_bind,Option.bind_some,Option.map_some,List.flatten_cons,h3];have hlen:(xs.take ks.length).length=ks.length:=s1.len.2;rw [← hn];have e2:lits (ks++kk') xs=lits ks (xs.take ks.length)++lits kk' (xs.drop ks.length):=by rw [← uw hlen,List.take_append_drop]
   rw [e2]
  ·cases hk
theorem ES {n:Nat} {e:TypeId} {ks:List IntKind} (hn:ks.length=P.cellsOf e) (ih:∀ cs xs,dz ks cs xs->P.keyLits n e cs=some (lits ks xs)):
  ∀ (m:Nat) {cs:List Value} {xs:L1},dz (List.replicate m ks).flatten cs xs->
   ((List.range m).mapM fun i=>P.keyLits n e ((cs.drop (i*P.cellsOf e)).take (P.cellsOf e))).map List.flatten=some (lits (List.replicate m ks).flatten xs):=by
 intro m;induction m with
 | zero=>intro cs xs hx; simp [lits]
 | succ m ihm=>
  intro cs xs hx;rw [List.replicate_succ',List.flatten_append] at hx;obtain ⟨s1,s2⟩:=hx.split;have hL:(List.replicate m ks).flatten.length=m*ks.length:=by simp
  rw [hL] at s1 s2;have h1:=ihm s1;simp only [Option.map_eq_some_iff] at h1;obtain ⟨ls,h1,h3⟩:=h1;have s2':dz ks (cs.drop (m*ks.length)) (xs.drop (m*ks.length)):=by simpa using s2
  have h2:=ih _ _ s2';have hpre:(List.range m).mapM (fun i=>P.keyLits n e ((cs.drop (i*P.cellsOf e)).take (P.cellsOf e)))=some ls:=by
   rw [← h1];refine uu ?_;intro i hi;have hi':i < m:=by simpa using hi
   congr 1
   rw [List.drop_take,List.take_take,← hn]
   congr 1
   have:(i+1)*ks.length<=m*ks.length:=Nat.mul_le_mul_right _ hi';rw [Nat.add_mul] at this;omega
  have hl2:(cs.drop (m*ks.length)).length=ks.length:=s2'.len.1;have e1:(cs.drop (m*P.cellsOf e)).take (P.cellsOf e)=cs.drop (m*ks.length):=by
   rw [← hn];exact List.take_of_length_le (by rw [hl2]; exact Nat.le_refl _)
  rw [List.range_succ,List.mapM_append];simp only [List.mapM_cons,List.mapM_nil,hpre,e1,h2,Option.pure_def,Option.bind_eq_bind,Option.bind_some,Option.map_some,List.flatten_append,h3];rw [List.replicate_succ',List.flatten_append];have hlen:(xs.take (m*ks.length)).length=(List.replicate m ks).flatten.length:=by rw [hL,s1.len.2,hL]
  have e2:lits ((List.replicate m ks).flatten++[ks].flatten) xs=lits (List.replicate m ks).flatten (xs.take (m*ks.length))++lits [ks].flatten (xs.drop (m*ks.length)):=by rw [← uw hlen,List.take_append_drop]
  rw [e2];simp
theorem sf:∀ (n:Nat) {t:TypeId} {ks:List IntKind} {cs:List Value} {xs:L1},fY P n t=some ks->dz ks cs xs->P.keyLits n t cs=some (lits ks xs):=by
 intro n;induction n with
 | zero=>intro t ks cs xs h; simp [fY] at h
 | succ n ih=>
  intro t ks cs xs h hx;simp only [fY] at h;split at h
  ·rename_i k hu;cases h
   cases hx with
   | cons hk t=>
    cases t
    simp [Program.keyLits,hu,lits,Lit.wf];exact hk
  ·rename_i fs hu;split at h
   rotate_left
   ·cases h
   rename_i hnm;simp only [Option.bind_eq_some_iff] at h;obtain ⟨l,hl,hk⟩:=h;have hlen:cs.length=P.cellsOf t:=by
    rw [hx.len.1];exact (fieldsC_len hl hk)
   rw [← hlen] at hk;have:=CD (fun t ks cs xs h hx=>ih h hx) fs.toList 0 l ks xs hl hk (by simpa using hx)
   simp only [Program.keyLits,hu,hlen,hnm,true_and,if_true];simpa [hlen] using this
  ·rename_i m e hu;simp only [Option.bind_eq_some_iff] at h;obtain ⟨ks',hk',h⟩:=h;split at h
   rotate_left
   ·cases h
   rename_i hc;cases h
   have hlen:cs.length=P.cellsOf t:=by
    rw [hx.len.1,hc.2,← hc.1];simp
   have:=ES (n:=n) hc.1 (fun cs xs hx=>ih hk' hx) m hx
   simp only [Program.keyLits,hu,hlen,if_true];exact this
  ·cases h
where
 fieldsC_len {fs:List Field} {n:Nat} {l:List (Nat × Nat × List IntKind)} {T:Nat} {kk:List IntKind} (hl:fs.mapM (fun (f:Field)=>(fY P n f.type).map fun ks=>(f.offset,P.cellsOf f.type,ks))=some l) (hk:gM T 0 l=some kk):kk.length=T:=by
  have key:∀ (l:List (Nat × Nat × List IntKind)) off kk,gM T off l=some kk->off+kk.length=T:=by
   intro l;induction l with
   | nil=>intro off kk h; simp only [gM] at h; split at h; cases h; simpa using ‹off=T›; cases h
   | cons p l ih=>
    obtain ⟨o,n,ks⟩:=p;intro off kk h;simp only [gM] at h;split at h
    ·rename_i hc;simp only [Option.map_eq_some_iff] at h;obtain ⟨kk',h1,rfl⟩:=h;have:=ih _ _ h1;simp;omega
    ·cases h
  simpa using key l 0 kk hk
theorem uN {β:cR}:∀ {ks:List IntKind} {cs:List IV} {us:List Value},qQ ks cs=true->cs.length=us.length->(∀ (i:Nat) c v,cs[i]? = some c->us[i]? = some v->bP β c v)->∃xs,dz ks us xs/\cs=List.zipWith IV.int ks xs:=by
 intro ks;induction ks with
 | nil=>
  intro cs us h hl hr;cases cs with
  | nil=>
   have:us=[]:=List.eq_nil_of_length_eq_zero (by simpa using hl.symm)
   subst this;exact ⟨[],.nil,rfl⟩
  | cons c cs=>simp [qQ] at h
 | cons k ks ih=>
  intro cs us h hl hr;cases cs with
  | nil=>simp [qQ] at h
  | cons c cs=>
   cases us with
   | nil=>simp at hl
   | cons u us=>
    cases c <;> simp [qQ] at h
    rename_i k' n;obtain ⟨rfl,h⟩:=h;obtain ⟨xs,h1,h2⟩:=ih h (by simpa using hl) (fun i c v hc hv=>hr (i+1) c v (by simpa using hc) (by simpa using hv))
    obtain ⟨rfl,hin⟩:=(hr 0 _ u rfl rfl).aS;exact ⟨n :: xs,.cons hin h1,by simp [h2]⟩
theorem CH:∀ {ks:List IntKind} {xs ys:L1},xs.length=ks.length->ys.length=ks.length->(iR (List.zipWith IV.int ks xs) (List.zipWith IV.int ks ys)=true↔xs=ys):=by
 intro ks;induction ks with
 | nil=>intro xs ys h1 h2; simp at h1 h2; subst h1; subst h2; simp [iR]
 | cons k ks ih=>
  intro xs ys h1 h2;cases xs with
  | nil=>simp at h1
  | cons x xs=>
   cases ys with
   | nil=>simp at h2
   | cons y ys=>
    have:=ih (xs:=xs) (ys:=ys) (by simpa using h1) (by simpa using h2)
    simp [iR,this]
theorem yG {β:cR} {t:TypeId} {cs ds:List IV} {xs ys:Array Value} {b:Bool} (w:World) (hb:GY P t cs ds=some b) (hx:gf β cs xs) (hy:gf β ds ys):
  P.eqGuardType P.depth t=false/\(Op.equalIn 10000 t (.agg xs) (.agg ys)).run P w=.ok b w:=by
 unfold GY at hb;split at hb
 ·rename_i ks hks;split at hb
  ·rename_i hc;simp only [Bool.and_eq_true,Bool.not_eq_true'] at hc;obtain ⟨⟨⟨⟨h1,h2⟩,h3⟩,h4⟩,h5⟩:=hc;cases hb
   obtain ⟨us,i1,e1⟩:=uN (β:=β) h1 (by rw [Array.length_toList]; exact hx.1) (fun i c v hc hv=>hx.2.2 i c v hc (by simpa using hv))
   obtain ⟨vs,i2,e2⟩:=uN (β:=β) h2 (by rw [Array.length_toList]; exact hy.1) (fun i c v hc hv=>hy.2.2 i c v hc (by simpa using hv))
   have l1:=sf 8 hks i1;have l2:=sf 8 hks i2;have hform:∀ zs:Array Value,zs.toList.length=ks.length->(Value.agg zs).formed P t=true:=by
    intro zs hz;unfold Value.formed;unfold LP at h5;split at h5
    ·rename_i hu;rw [hu];simp only;simp at hz h5;rw [hz];simpa using h5
    ·rename_i hu;rw [hu];simp only;simp at hz h5;rw [hz];simpa using h5
    ·cases h5
   have hEq:=run_equalIn_deep (P:=P) 9991 9 t h3 w 8 8 (.agg xs) (.agg ys) _ _ (hform xs i1.len.1) (hform ys i2.len.1) l1 l2;obtain ⟨r,hr,hiff⟩:=hEq;refine ⟨h4,?_⟩;have e:r=iR cs ds:=by
    rw [e1,e2];have:=CH (ks:=ks) i1.len.2 i2.len.2;rw [Lv i1.len.2 i2.len.2] at hiff;cases hr':r with
    | true=>exact (this.2 (hiff.1 hr')).symm
    | false=>
     cases hq:iR (List.zipWith IV.int ks us) (List.zipWith IV.int ks vs) with
     | false=>rfl
     | true=>
      have:=hiff.2 (this.1 hq);rw [hr'] at this;cases this
   rw [← e];exact hr
  ·cases hb
 ·cases hb
end
end Go.Vs
namespace Go.Vs
open Go.RowKit
section
variable {P:Program} {X:Ctx} {β:cR} {st:St} {a:Act} {w:World}
theorem bP.gO {b u} (h:bP β (.sl b) u):∃A n c,u=.slice A n c/\β b=some (.slc (.slice A n c)):=by cases h; exact ⟨_,_,_,rfl,‹_›⟩
theorem bP.gI {u} (h:bP β .nils u):u=.slice none 0 0:=by cases h; rfl
theorem bP.gL {b o u} (h:bP β (.ptr b o) u):∃id,u=.pointer (some ⟨id,o,none⟩)/\β b=some (.blk id):=by cases h; exact ⟨_,rfl,‹_›⟩
theorem bP.mh {b i sz f u} (h:bP β (.prow b i sz f) u):∃g o n c,u=.pointer (some ⟨g,o+i.toNat*sz+f,none⟩)/\β b=some (.slc (.slice (some ⟨g,o,none⟩) n c)):=by cases h; exact ⟨_,_,_,_,rfl,‹_›⟩
theorem bP.oF {f cs u} (h:bP β (.fn f cs) u):∃xs,u=.func (.func f) #[] xs/\cs.length=xs.size/\∀ (i:Nat) c v,cs[i]? = some c->xs[i]? = some v->bP β c v:=by cases h; exact ⟨_,rfl,‹_›,‹_›⟩
theorem bP.iT {cs u} (h:bP β (.agg cs) u):∃xs,u=.agg xs/\gf β cs xs:=by cases h; exact ⟨_,rfl,‹_›,‹_›,‹_›⟩
theorem bP.oZ {cs u} (h:bP β (.tup cs) u):∃xs,u=.tuple xs/\cs.length=xs.size/\∀ (i:Nat) c v,cs[i]? = some c->xs[i]? = some v->bP β c v:=by cases h; exact ⟨_,rfl,‹_›,‹_›⟩
theorem gf.rep {cs xs} (h:gf β cs xs):bP β (.agg cs) (.agg xs):=.agg h.1 h.2.1 h.2.2
theorem oN:∀ {l:List Operand} {vs:List IV},E5 st l=some vs->l.length=vs.length/\∀ (i:Nat) x v,l[i]? = some x->vs[i]? = some v->ev st x=some v:=by
 intro l;induction l with
 | nil=>intro vs h; simp [E5] at h; subst h; simp
 | cons x l ih=>
  intro vs h;unfold E5 at h;split at h
  ·rename_i v vs' h1 h2;cases h
   obtain ⟨h3,h4⟩:=ih h2;refine ⟨by simp [h3],?_⟩
   intro i y z hy hz;cases i with
   | zero=>simp at hy hz; subst hy; subst hz; exact h1
   | succ i=>simp at hy hz; exact h4 i y z hy hz
  ·cases h
theorem mm {v:IV} (h:lK v=true):∀ vs,v≠.tup vs:=by intro vs e; subst e; cases h
theorem bP.cells {v u} (h:bP β v u) (ht:∀ vs,v≠.tup vs):gf β v.cells u.cells:=by
 cases h with
 | agg hl h1 h2=>exact ⟨hl,h1,h2⟩
 | tup hl h=>exact absurd rfl (ht _)
 | unk h1=>
  cases u <;> first
   | (simp [Value.oneCell'] at h1; done)
   | (refine ⟨rfl,?_,?_⟩ <;> intro i <;> cases i <;> simp [IV.cells,Value.cells] <;> first | rfl | exact .unk rfl)
 | int h1=>refine ⟨rfl,?_,?_⟩ <;> intro i <;> cases i <;> simp [IV.cells,Value.cells] <;> first | rfl | exact .int h1
 | bool=>refine ⟨rfl,?_,?_⟩ <;> intro i <;> cases i <;> simp [IV.cells,Value.cells] <;> first | rfl | exact .bool
 | nilp=>refine ⟨rfl,?_,?_⟩ <;> intro i <;> cases i <;> simp [IV.cells,Value.cells] <;> first | rfl | exact .nilp
 | nils=>refine ⟨rfl,?_,?_⟩ <;> intro i <;> cases i <;> simp [IV.cells,Value.cells] <;> first | rfl | exact .nils
 | nilf=>refine ⟨rfl,?_,?_⟩ <;> intro i <;> cases i <;> simp [IV.cells,Value.cells] <;> first | rfl | exact .nilf
 | fn hl h1=>refine ⟨rfl,?_,?_⟩ <;> intro i <;> cases i <;> simp [IV.cells,Value.cells] <;> first | rfl | exact .fn hl h1
 | ptr h1=>refine ⟨rfl,?_,?_⟩ <;> intro i <;> cases i <;> simp [IV.cells,Value.cells] <;> first | rfl | exact .ptr h1
 | pdyn h1=>refine ⟨rfl,?_,?_⟩ <;> intro i <;> cases i <;> simp [IV.cells,Value.cells] <;> first | rfl | exact .pdyn h1
 | prow h1=>refine ⟨rfl,?_,?_⟩ <;> intro i <;> cases i <;> simp [IV.cells,Value.cells] <;> first | rfl | exact .prow h1
 | prowd h1=>refine ⟨rfl,?_,?_⟩ <;> intro i <;> cases i <;> simp [IV.cells,Value.cells] <;> first | rfl | exact .prowd h1
 | sl h1=>refine ⟨rfl,?_,?_⟩ <;> intro i <;> cases i <;> simp [IV.cells,Value.cells] <;> first | rfl | exact .sl h1
theorem nM {t:TypeId} {z:List IV} (h:zeroOf P t=some z):∃i zv,P.info? t=some i/\i.zero=some zv/\z.length=i.size/\0 < i.size/\gf β z zv.cells:=by
 unfold zeroOf at h;split at h
 ·cases h
 ·rename_i i hi;split at h
  ·cases h
  ·rename_i zv hz;split at h
   ·cases h
   ·rename_i cs hcs;split at h
    ·rename_i hs;cases h
     obtain ⟨h1,h2⟩:=mapM_some hcs;refine ⟨i,zv,hi,hz,hs.1,hs.2,by simpa using h1.symm,?_,?_⟩
     ·intro j v hv;have hj:j < z.length:=by
       have:=(Array.getElem?_eq_some_iff.1 hv).1;rw [← h1]; simpa using this
      have:=iu (β:=β) (h2 j v z[j] (by simpa using hv) (by simp [hj]))
      exact this.1.one this.2
     ·intro j c v hc hv;exact (iu (h2 j v c (by simpa using hv) hc)).1
    ·cases h
theorem yC (off:Nat):∀ (l:List Value) (k:Nat) (cs:Array Value),((l.zipIdx k).foldl (fun cs (p:Value × Nat)=>cs.setIfInBounds (off+p.2) p.1) cs).size=cs.size/\
  ∀ i,((l.zipIdx k).foldl (fun cs (p:Value × Nat)=>cs.setIfInBounds (off+p.2) p.1) cs)[i]? = if off+k<=i/\i < off+k+l.length then (if i < cs.size then l[i - (off+k)]? else none) else cs[i]?:=by
 intro l;induction l with
 | nil=>intro k cs; simp; intro i h1 h2; omega
 | cons x l ih=>
  intro k cs;simp only [List.zipIdx_cons,List.foldl_cons];obtain ⟨h1,h2⟩:=ih (k+1) (cs.setIfInBounds (off+k) x);refine ⟨by simpa using h1,?_⟩
  intro i;rw [h2 i];simp only [Array.size_setIfInBounds,List.length_cons,Array.getElem?_setIfInBounds];by_cases hi:i=off+k
  ·subst hi;have c1:¬ (off+(k+1)<=off+k/\off+k < off+(k+1)+l.length):=by omega
   have c2:off+k<=off+k/\off+k < off+k+(l.length+1):=by omega
   rw [if_neg c1,if_pos rfl,if_pos c2];simp
  ·have hi':¬ (off+k=i):=fun h=>hi h.symm
   by_cases hr:off+(k+1)<=i/\i < off+(k+1)+l.length
   ·have c2:off+k<=i/\i < off+k+(l.length+1):=by omega
    rw [if_pos hr,if_pos c2];have:i - (off+k)=(i - (off+(k+1)))+1:=by omega
    rw [this,List.getElem?_cons_succ]
   ·have c2:¬ (off+k<=i/\i < off+k+(l.length+1)):=by omega
    rw [if_neg hr,if_neg c2,if_neg hi']
theorem zO {z:List IV} {zs:Array Value} (hz:gf β z zs) {off n:Nat} {v:IV} {u:Value} (hv0:bP β v u) {z':List IV} (h:wE z off n v=some z'):
  u.cells.size=n/\off+u.cells.size<=zs.size/\gf β z' (u.cells.zipIdx.foldl (fun cs (p:Value × Nat)=>cs.setIfInBounds (off+p.2) p.1) zs):=by
 unfold wE at h;split at h
 ·rename_i hc;cases h
  have hv:=hv0.cells (mm hc.2.2);have hl:=hv.1;have hzl:=hz.1;refine ⟨by omega,by omega,?_⟩
  have hf:=yC off u.cells.toList 0 zs;have hfold:u.cells.zipIdx.foldl (fun cs (p:Value × Nat)=>cs.setIfInBounds (off+p.2) p.1) zs=(u.cells.toList.zipIdx 0).foldl (fun cs (p:Value × Nat)=>cs.setIfInBounds (off+p.2) p.1) zs:=by
   rw [← Array.foldl_toList]; simp
  rw [hfold];refine ⟨?_,?_,?_⟩
  ·rw [hf.1]; simp; omega
  ·intro i x hx;rw [hf.2 i] at hx;split at hx
   ·split at hx
    ·exact hv.2.1 _ x (by simpa using hx)
    ·cases hx
   ·exact hz.2.1 i x hx
  ·intro i c x hcx hx;rw [hf.2 i] at hx;by_cases h1:i < off
   ·rw [if_neg (by omega)] at hx
    rw [List.append_assoc,List.getElem?_append_left (by simp; omega),List.getElem?_take,if_pos h1] at hcx
    exact hz.2.2 i c x hcx hx
   ·by_cases h2:i < off+u.cells.size
    ·rw [if_pos (by simp; omega),if_pos (by omega)] at hx
     rw [List.append_assoc,List.getElem?_append_right (by simp; omega),List.getElem?_append_left (by simp; omega)] at hcx
     refine hv.2.2 (i - off) c x ?_ (by simpa using hx)
     rw [List.length_take] at hcx
     rwa [show min off z.length=off by omega] at hcx
    ·rw [if_neg (by simp; omega)] at hx
     rw [List.getElem?_append_right (by simp; omega),List.getElem?_drop] at hcx
     refine hz.2.2 i c x ?_ hx;simp only [List.length_append,List.length_take] at hcx
     rwa [show off+n+(i - (min off z.length+v.cells.length))=i by omega] at hcx
 ·cases h
theorem xQ {place:Nat->Option (Nat × Nat)} (hev:∀ x v,ev st x=some v->bP β v (a.eval x)):
  ∀ {parts:List (Nat × Operand)} {z z':List IV} {zs:Array Value},gf β z zs->sC place st parts z=some z'->
   ∃zs',Instr.fill place zs (parts.map fun p=>(p.1,a.eval p.2))=some zs'/\gf β z' zs':=by
 intro parts;induction parts with
 | nil=>intro z z' zs hz h; simp [sC] at h; subst h; exact ⟨zs,by simp [Instr.fill],hz⟩
 | cons p rest ih=>
  intro z z' zs hz h;obtain ⟨i,x⟩:=p;simp only [sC] at h;split at h
  ·rename_i off n v h1 h2;split at h
   ·rename_i z1 h3;obtain ⟨k1,k2,k3⟩:=zO hz (hev x v h2) h3;obtain ⟨zs',hf,hr⟩:=ih k3 h;refine ⟨zs',?_,hr⟩;simp only [List.map_cons,Instr.fill,h1];rw [if_neg (by simp; omega)]
    exact hf
   ·cases h
  ·cases h
end
end Go.Vs
namespace Go.Vs
open Go.RowKit
section
variable {P:Program} {X:Ctx} {β:cR} {st:St} {a:Act} {w:World}
def qg:Array Value->Sem Value:=fun args=>do
 let (x, y, b) ← Extern.MathBitsCarry.three "Sub64" args
 pure (Extern.MathBitsCarry.pair ((x+Extern.MathBitsCarry.m64 - y - b) % Extern.MathBitsCarry.m64) (if x < y+b then 1 else 0))
theorem Ih {P:Program} (x y c:Int) (hx:0<=x) (hy:0<=y) (hy2:y < 18446744073709551616) (hc0:0<=c) (hc:c<=1) (w:World):
  (qg #[.int .u64 x,.int .u64 y,.int .u64 c]).run P w =
   .ok (.tuple #[.int .u64 ((x - y - c) % 18446744073709551616),.int .u64 (if x < y+c then 1 else 0)]) w:=by
 have key:∀ k:Nat,k<=1->(qg #[.int .u64 x,.int .u64 y,.int .u64 (k:Int)]).run P w =
   .ok (Extern.MathBitsCarry.pair ((x.toNat+Extern.MathBitsCarry.m64 - y.toNat - k) % Extern.MathBitsCarry.m64) (if x.toNat < y.toNat+k then 1 else 0)) w:=by
  intro k hk;have:k=0∨k=1:=by omega
  rcases this with rfl | rfl <;> rfl
 obtain ⟨k,rfl⟩:=Int.eq_ofNat_of_zero_le hc0;rw [key k (by omega)]
 obtain ⟨X,rfl⟩:=Int.eq_ofNat_of_zero_le hx;obtain ⟨Y,rfl⟩:=Int.eq_ofNat_of_zero_le hy;simp only [Extern.MathBitsCarry.pair,Extern.MathBitsCarry.m64,Int.toNat_natCast];have e1:Int.ofNat ((X+2 ^ 64 - Y - k) % 2 ^ 64)=((X:Int) - Y - k) % 18446744073709551616:=by
  show ((((X+2 ^ 64 - Y - k) % 2 ^ 64:Nat)):Int)=_;omega
 have e2:Int.ofNat (if X < Y+k then 1 else 0)=if (X:Int) < (Y:Int)+(k:Int) then 1 else 0:=by
  by_cases h:X < Y+k
  ·rw [if_pos h,if_pos (by omega)]; rfl
  ·rw [if_neg h,if_neg (by omega)]; rfl
 rw [e1,e2]
theorem Qs : Extern.allRows.lookup "math/bits.Add64" = some add64Entry := by kernel_rfl
theorem Mk : (Extern.allGenericRows.lookup "math/bits.Add64")=none := by kernel_rfl
theorem Mj : (Extern.allTypedRows.lookup "math/bits.Add64")=none := by kernel_rfl
theorem Mi : Extern.allNextRows.lookup "math/bits.Add64" = none := by kernel_rfl
theorem Qr : Extern.allRows.lookup "math/bits.Sub64" = some qg := by kernel_rfl
theorem Mg : (Extern.allGenericRows.lookup "math/bits.Sub64")=none := by kernel_rfl
theorem Mf : (Extern.allTypedRows.lookup "math/bits.Sub64")=none := by kernel_rfl
theorem Me : Extern.allNextRows.lookup "math/bits.Sub64" = none := by kernel_rfl
theorem Mh : Extern.allNextRows.lookup "" = none := by kernel_rfl
theorem GX {P : Program} {g : FuncId} {fn : Func} {e : Array Value -> Sem Value} (hf : P.funcs[g]? = some fn) (hb : fn.body.isNone=true) (ho : fn.origin = "") {nm : String} (hn : fn.name=nm) (h0 : (nm == "runtime.NumGoroutine")=false)
  (h1:Extern.allGenericRows.lookup nm=none) (h2:Extern.allTypedRows.lookup nm=none) (h3:Extern.allNextRows.lookup nm=none) (h4:Extern.allRows.lookup nm=some e) (args:Array Value) (w:World):
  (callFunc g args).run P w=((e args).run P w).andThen fun v w'=>.ok (.value v) w':=by
 refine run_callFunc_extern hf (by rw [hn]; exact h0) hb ?_ ?_ args w
 ·simp only [Extern.findNext,hn,ho,h3,Mh]; rfl
 ·simp only [Extern.find,hn,h1,h2,h4]; rfl
theorem xO (hev:∀ x v,ev st x=some v->bP β v (a.eval x)) {o:Oper} {g:FuncId} {args:Array Operand} {tys:Array TypeId} (hop:o.op=.call { callee:=.value (.func g),args:=args,argTypes:=tys })
  {p:Option Prop} {v:IV} (h:Ax P st g args.toList=some (p,v)) (hp:∀ q,p=some q->q):∃u,bP β v u/\(execOp a.eval o).run P w=.ok (.value u) w:=by
 unfold Ax at h
 split at h
 ·rename_i fn hfn
  split at h
  ·rename_i hb
   split at h
   ·rename_i ho
    have ho' : fn.origin = "" := by simpa using ho
    split at h
    ·rename_i x y c hvs
     obtain ⟨l1,l2⟩:=oN hvs
     match args,l1,hvs,l2 with
     | ⟨[a1,a2,a3]⟩,_,hvs,l2=>
      have hx:=(hev a1 _ (l2 0 a1 _ rfl rfl)).aS
      have hy:=(hev a2 _ (l2 1 a2 _ rfl rfl)).aS
      have hc:=(hev a3 _ (l2 2 a3 _ rfl rfl)).aS
      have hx0:(0:Int)<=x/\x<=18446744073709551615:=hx.2
      have hy0:(0:Int)<=y/\y<=18446744073709551615:=hy.2
      have hc0:(0:Int)<=c/\c<=18446744073709551615:=hc.2
      have two:∀ {s t:Int},(0<=s/\s<=18446744073709551615)->(0<=t/\t<=18446744073709551615)->bP β (.tup [.int .u64 s,.int .u64 t]) (.tuple #[.int .u64 s,.int .u64 t]):=by
       intro s t h1 h2
       refine .tup rfl (fun i c v hc hv=>?_)
       match i with
       | 0=>simp at hc hv; subst hc; subst hv; exact .int h1
       | 1=>simp at hc hv; subst hc; subst hv; exact .int h2
       | i+2=>simp at hc
      split at h
      ·rename_i hname
       have hname' : fn.name = "math/bits.Add64" := by simpa using hname
       cases h
       have hc1:c<=1:=hp _ rfl
       refine ⟨_,two (by omega) (by omega),?_⟩
       simp only [execOp,hop]
       have:=GX (P:=P) hfn hb ho' hname' (by decide +kernel) Mk Mj Mi Qs #[a.eval a1,a.eval a2,a.eval a3] w
       rw [hx.1,hy.1,hc.1,run_add64 x y c hx0.1 hy0.1 hc0.1 hc1 w] at this
       have hfe:a.eval (.func g)=Value.func (.func g) #[] #[]:=rfl
       simp [resolve,hfe,Deferred.ofValue,invoke,hx.1,hy.1,hc.1]
       exact this
      ·split at h
       ·rename_i hname
        have hname' : fn.name = "math/bits.Sub64" := by simpa using hname
        cases h
        have hc1:c<=1:=hp _ rfl
        refine ⟨_,two (by omega) (by split <;> omega),?_⟩
        simp only [execOp,hop]
        have:=GX (P:=P) hfn hb ho' hname' (by decide +kernel) Mg Mf Me Qr #[a.eval a1,a.eval a2,a.eval a3] w
        rw [hx.1,hy.1,hc.1,Ih x y c hx0.1 hy0.1 (by omega) hc0.1 hc1 w] at this
        have hfe:a.eval (.func g)=Value.func (.func g) #[] #[]:=rfl
        simp [resolve,hfe,Deferred.ofValue,invoke,hx.1,hy.1,hc.1]
        exact this
       ·cases h
    ·cases h
   ·cases h
  ·cases h
 ·cases h
theorem Az {op:BinOp} {t:TypeId} {x y:Operand} {u v:Value} (h1:op≠.eql) (h2:op≠.neq):(eqGuard op t x y u v).run P w=.ok () w:=by
 unfold eqGuard;cases op <;> simp_all
theorem rz {op:BinOp} {t t':TypeId} {x y:Operand} {o:Oper} {r:Value} (ho:o.op=.binOp op t x y t') (h1:op≠.eql) (h2:op≠.neq)
  (hr:(binOp op t (a.eval x) (a.eval y)).run P w=.ok r w):(execOp a.eval o).run P w=.ok (.value r) w:=by
 unfold execOp;simp only [ho];simp [Sem.run_bind,Az h1 h2,hr]
theorem xR (hev:∀ x v,ev st x=some v->bP β v (a.eval x)) {op:BinOp} {t t':TypeId} {x y:Operand} {o:Oper} (ho:o.op=.binOp op t x y t')
  {p:Option Prop} {v:IV} (h:bj P st o=some (p,v)) (hp:∀ q,p=some q->q):
  ∃u,bP β v u/\(execOp a.eval o).run P w=.ok (.value u) w:=by
 unfold bj at h;simp only [ho] at h;have plainCase:∀ {v:IV} {p:Option Prop},((mN P st o).map fun v=>((none:Option Prop),v))=some (p,v)->∃u,bP β v u/\(execOp a.eval o).run P w=.ok (.value u) w:=by
  intro v p h;simp only [Option.map_eq_some_iff,Prod.mk.injEq] at h;obtain ⟨v',h',_,rfl⟩:=h;exact xE hev (by rw [ho]; intro cs b h; cases h) h'
 split at h
 case h_1 k m k' n hx hy=>
  simp only [Option.some.injEq,Prod.mk.injEq] at h;obtain ⟨hp',rfl⟩:=h;have hq:=hp _ hp'.symm;obtain ⟨ex,ix⟩:=(hev x _ hx).aS;obtain ⟨ey,iy⟩:=(hev y _ hy).aS;refine ⟨_,.int (rb _ _),rz ho (by simp) (by simp) ?_⟩
  rw [ex,ey];simp [binOp,Op.shift,show ¬ n < 0 by omega]
 case h_2 k m k' n hx hy=>
  simp only [Option.some.injEq,Prod.mk.injEq] at h;obtain ⟨hp',rfl⟩:=h;have hq:=hp _ hp'.symm;obtain ⟨ex,ix⟩:=(hev x _ hx).aS;obtain ⟨ey,iy⟩:=(hev y _ hy).aS;refine ⟨_,.int (TH ix hq),rz ho (by simp) (by simp) ?_⟩
  rw [ex,ey];simp [binOp,Op.shift,show ¬ n < 0 by omega]
 case h_3 k m k' n hx hy=>
  split at h
  ·rename_i hk;subst hk;simp only [Option.some.injEq,Prod.mk.injEq] at h;obtain ⟨hp',rfl⟩:=h;have hq:=hp _ hp'.symm;obtain ⟨ex,ix⟩:=(hev x _ hx).aS;obtain ⟨ey,iy⟩:=(hev y _ hy).aS;refine ⟨_,.int (rb _ _),rz ho (by simp) (by simp) ?_⟩
   rw [ex,ey];simp [binOp,Op.intDiv,hq]
  ·cases h
 case h_4 k m k' n hx hy=>
  split at h
  ·rename_i hk;subst hk;simp only [Option.some.injEq,Prod.mk.injEq] at h;obtain ⟨hp',rfl⟩:=h;have hq:=hp _ hp'.symm;obtain ⟨ex,ix⟩:=(hev x _ hx).aS;obtain ⟨ey,iy⟩:=(hev y _ hy).aS;refine ⟨_,.int (rem_in ix),rz ho (by simp) (by simp) ?_⟩
   rw [ex,ey];simp [binOp,Op.intDiv,hq]
  ·cases h
 case h_11 cs ds hx hy=>
  simp only [Option.map_eq_some_iff,Prod.mk.injEq] at h;obtain ⟨b,hb,_,rfl⟩:=h;obtain ⟨xs,ex,rx⟩:=(hev x _ hx).iT;obtain ⟨ys,ey,ry⟩:=(hev y _ hy).iT;obtain ⟨hg,hr⟩:=yG w hb rx ry;refine ⟨_,.bool,?_⟩;unfold execOp;simp only [ho,ex,ey];simp [Sem.run_bind,run_eqGuard_agg w _ t x y xs ys hg,run_eql_struct,hr]
 case h_12 cs ds hx hy=>
  simp only [Option.map_eq_some_iff,Prod.mk.injEq] at h;obtain ⟨b,hb,_,rfl⟩:=h;obtain ⟨xs,ex,rx⟩:=(hev x _ hx).iT;obtain ⟨ys,ey,ry⟩:=(hev y _ hy).iT;obtain ⟨hg,hr⟩:=yG w hb rx ry;refine ⟨_,.bool,?_⟩;unfold execOp;simp only [ho,ex,ey];simp [Sem.run_bind,run_eqGuard_agg w _ t x y xs ys hg,run_neq_struct,hr]
 case h_13=>cases h
 case h_14=>exact plainCase h
 all_goals
  rename_i k m k' n hx hy;split at h
  ·rename_i hk;subst hk;simp only [Option.some.injEq,Prod.mk.injEq] at h;obtain ⟨hp',rfl⟩:=h;obtain ⟨ex,ix⟩:=(hev x _ hx).aS;obtain ⟨ey,iy⟩:=(hev y _ hy).aS;refine ⟨_,.int (rb _ _),rz ho (by simp) (by simp) ?_⟩
   rw [ex,ey];simp [binOp,Op.intArith,Op.intBits]
  ·cases h
theorem EU {t:TypeId} {agg:Bool} {n off:Nat} {cells:List IV} {cs:Array Value} (hr:gf β cells cs) (hagg:oy P t=some agg) (hn:eH P t=some n)
  (h1:agg=true∨n=1) (hle:off+n<=cells.length) {v:IV} (hp:pack agg ((cells.drop off).take n)=some v):
  ∃u,bP β v u/\(part t cs off).run P w=.ok u w:=by
 obtain ⟨ds,d1,d2,d3,d4,d5⟩:=hr.take_drop off n hle;have hcs:off+n<=cs.size:=by rw [← hr.1]; exact hle
 cases hg:agg with
 | true=>
  subst hg;have hds:cs.extract off (off+n)=ds.toArray:=by
   apply Array.ext';apply List.ext_getElem?;intro i;by_cases hi:i < n
   ·have a1:ds[i]? = some ds[i]:=List.getElem?_eq_getElem (by omega)
    have a2:=d3 i ds[i] a1;simp only [Array.toList_extract,List.extract_eq_take_drop];rw [List.getElem?_take,if_pos (by omega),List.getElem?_drop]
    rw [a1];simpa using a2
   ·rw [List.getElem?_eq_none (by simp; omega),List.getElem?_eq_none (by simp; omega)]
  refine ⟨.agg ds.toArray,rJ hp (by simp) d2 d4 d5,?_⟩
  simp [part,Sem.run_bind,mz hagg,cg hn,hds]
 | false=>
  subst hg;have hn1:n=1:=by rcases h1 with h1 | h1; cases h1; exact h1
  subst hn1;obtain ⟨c,rfl⟩:∃c,ds=[c]:=by
   cases ds with
   | nil=>simp at d1
   | cons c l=>cases l with
    | nil=>exact ⟨c,rfl⟩
    | cons d l=>simp at d1
  have hc:cs[off]? = some c:=d3 0 c rfl;refine ⟨c,rJ hp (by simp) d2 d4 d5,?_⟩
  simp [part,Sem.run_bind,mz hagg,hc]
theorem ez (hev:∀ x v,ev st x=some v->bP β v (a.eval x)) (hb:∀ b k,look st.b b=some k->gi X β w b k) {o:Oper}
  {p:Option Prop} {v:IV} (h:bj P st o=some (p,v)) (hp:∀ q,p=some q->q):
  ∃u,bP β v u/\(execOp a.eval o).run P w=.ok (.value u) w:=by
 cases hop:o.op with
 | binOp op t x y t'=>exact xR hev hop h hp
 | move x=>
  unfold bj at h;simp only [hop,Option.map_eq_some_iff,Prod.mk.injEq] at h;obtain ⟨v',h',_,rfl⟩:=h;exact ⟨_,hev x _ h',by simp [execOp,hop]⟩
 | assign x=>
  unfold bj at h;simp only [hop] at h;split at h
  ·cases h
  ·rename_i v' _ h';cases h
   exact ⟨_,hev x _ h',by simp [execOp,hop]⟩
  ·cases h
 | pick c x y=>
  unfold bj at h;simp only [hop] at h;split at h
  ·rename_i hc;simp only [Option.map_eq_some_iff,Prod.mk.injEq] at h;obtain ⟨v',h',_,rfl⟩:=h;have:=(hev c _ hc).eC;exact ⟨_,hev x _ h',by simp [execOp,hop,this,asBool]⟩
  ·rename_i hc;simp only [Option.map_eq_some_iff,Prod.mk.injEq] at h;obtain ⟨v',h',_,rfl⟩:=h;have:=(hev c _ hc).eC;exact ⟨_,hev y _ h',by simp [execOp,hop,this,asBool]⟩
  ·cases h
 | unOp op t x=>
  unfold bj at h;simp only [hop] at h;split at h
  ·rename_i b hx;cases h
   have:=(hev x _ hx).eC;exact ⟨_,.bool,by simp [execOp,hop,this,Op.unary]⟩
  ·rename_i k n hx;cases h
   have:=(hev x _ hx).aS.1;exact ⟨_,.int (rb _ _),by simp [execOp,hop,this,Op.unary,Op.intArith]⟩
  ·cases h
 | convert src dst x=>
  unfold bj at h;simp only [hop] at h;split at h
  ·rename_i d k k' n hs hd hx;cases h
   have:=(hev x _ hx).aS.1;refine ⟨_,.int (rb _ _),?_⟩;simp only [execOp,hop];refine Sem.iq ?_;simp [convert,Sem.run_bind,run_underlying hs,run_underlying hd,this,Conv.intToInt]
  ·cases h
 | index t x i=>
  unfold bj at h;simp only [hop] at h;split at h
  ·rename_i len e cs k n ht hx hi;split at h
   ·rename_i hc;obtain ⟨h1,h2,h3⟩:=hc;split at h
    ·rename_i c hcc;simp only [Option.some.injEq,Prod.mk.injEq] at h;obtain ⟨hp',rfl⟩:=h;have hq:=hp _ hp'.symm;obtain ⟨xs,hxs,hr⟩:=(hev x _ hx).iT;have hi':=(hev i _ hi).aS.1;have hlt:n.toNat < xs.size:=by rw [← hr.1]; omega
     refine ⟨xs[n.toNat],hr.2.2 _ _ _ hcc (by simp [hlt]),?_⟩
     simp only [execOp,hop];refine Sem.iq ?_;simp [Instr.index,Sem.run_bind,asIntOf,hi',run_underlying ht,hxs,hq,cg h1,part,mz h2,hlt]
    ·cases h
   ·cases h
  ·unfold RM at h;split at h
   ·rename_i s k n ht hi _;simp only [Option.some.injEq,Prod.mk.injEq] at h;obtain ⟨hp',rfl⟩:=h;have hq:=hp _ hp'.symm;have hi':=(hev i _ hi).aS.1;have hlt:n.toNat < s.size:=by omega
    have hlt':n.toNat < s.data.toList.length:=by simpa using hlt
    have hg:Bu s n=(s[n.toNat].toNat:Int):=by
     unfold Bu;rw [List.getD_eq_getElem?_getD,List.getElem?_eq_getElem hlt']
     rfl
    have hr:dt .u8 (Bu s n):=by
     rw [hg];have:=s[n.toNat].toNat_lt;simp [dt,IntKind.min,IntKind.max,IntKind.signed,IntKind.bits];omega
    refine ⟨_,.int hr,?_⟩;simp only [execOp,hop];refine Sem.iq ?_;have hc:a.eval (.const (.string s))=.string s:=rfl;simp [Instr.index,Sem.run_bind,asIntOf,hi',run_underlying ht,hc,hq,hlt,hg]
   ·cases h
 | nilCheck x=>
  unfold bj at h;simp only [hop] at h;split at h
  ·rename_i b o' hx;cases h
   obtain ⟨id,e,_⟩:=(hev x _ hx).gL;exact ⟨_,hev x _ hx,by simp [execOp,hop,e]⟩
  ·rename_i b i sz f hx;cases h
   obtain ⟨g,o',n,c,e,_⟩:=(hev x _ hx).mh;exact ⟨_,hev x _ hx,by simp [execOp,hop,e]⟩
  ·rename_i f cs hx;cases h
   obtain ⟨xs,e,_⟩:=(hev x _ hx).oF;exact ⟨_,hev x _ hx,by simp [execOp,hop,e]⟩
  ·cases h
 | fieldAddr s x f=>
  unfold bj at h;simp only [hop] at h;split at h
  ·rename_i fields hs;split at h
   ·rename_i fd hfd;split at h
    ·rename_i n hn;split at h
     ·cases h
     ·rename_i hn0;split at h
      ·rename_i b o' hx;cases h
       obtain ⟨id,e,hβ⟩:=(hev x _ hx).gL;refine ⟨_,.ptr hβ,?_⟩;simp only [execOp,hop];refine Sem.iq ?_;simp [Instr.fieldAt,Sem.run_bind,run_underlying hs,hfd,e,Instr.sureAddr,fieldPlace,cg hn,hn0,iU]
      ·rename_i b i sz g hx;cases h
       obtain ⟨g',o',n',c,e,hβ⟩:=(hev x _ hx).mh;refine ⟨_,.prow hβ,?_⟩;simp only [execOp,hop];refine Sem.iq ?_;simp [Instr.fieldAt,Sem.run_bind,run_underlying hs,hfd,e,Instr.sureAddr,fieldPlace,cg hn,hn0,iU,Nat.add_assoc]
      ·cases h
    ·cases h
   ·cases h
  ·cases h
 | field t x f=>
  unfold bj at h;simp only [hop] at h;split at h
  ·rename_i fields hs;split at h
   ·rename_i fd hfd;split at h
    ·rename_i n agg cs hn hagg hx;split at h
     ·rename_i hc;simp only [Option.map_eq_some_iff,Prod.mk.injEq] at h;obtain ⟨v',h',_,rfl⟩:=h;obtain ⟨xs,hxs,hr⟩:=(hev x _ hx).iT;obtain ⟨u,hu,hrun⟩:=EU (P:=P) (w:=w) hr hagg hn hc.1 hc.2 h';refine ⟨u,hu,?_⟩;simp only [execOp,hop];refine Sem.iq ?_;simp [Instr.field,Sem.run_bind,run_underlying hs,hfd,hxs,asAgg,hrun]
     ·cases h
    ·cases h
   ·cases h
  ·cases h
 | load t x=>
  unfold bj at h;simp only [hop] at h;split at h
  ·rename_i av hx;obtain ⟨u,hu,hrun⟩:=rZ hb (hev x _ hx) h hp;exact ⟨u,hu,by simp only [execOp,hop]; exact Sem.iq hrun⟩
  ·cases h
 | extract x i=>
  unfold bj at h;simp only [hop] at h;split at h
  ·rename_i vs hx;simp only [Option.map_eq_some_iff,Prod.mk.injEq] at h;obtain ⟨v',h',_,rfl⟩:=h;obtain ⟨xs,hxs,hl,hr⟩:=(hev x _ hx).oZ;have hlt:i < xs.size:=by rw [← hl]; exact (List.getElem?_eq_some_iff.1 h').1
   refine ⟨xs[i],hr i _ _ h' (by simp [hlt]),?_⟩
   simp only [execOp,hop];refine Sem.iq ?_;simp [Instr.extract,hxs,hlt]
  ·cases h
 | makeFunc fn first captured=>
  unfold bj at h;simp only [hop] at h;cases fn with
  | func f=>
   simp only at h;split at h
   ·rename_i hf;simp only [Option.map_eq_some_iff,Prod.mk.injEq] at h;obtain ⟨cs,h',_,rfl⟩:=h;obtain ⟨h1,h2⟩:=oN h';have hf0:first = #[]:=Array.eq_empty_of_size_eq_zero hf
    refine ⟨.func (.func f) #[] (captured.map a.eval),.fn (by simpa using h1.symm) ?_,by simp [execOp,hop,Instr.makeFunc,hf0]⟩
    intro i c u hc hu;simp only [Array.getElem?_map,Option.map_eq_some_iff] at hu;obtain ⟨y,hy,rfl⟩:=hu;exact hev y c (h2 i y c (by simpa using hy) hc)
   ·cases h
  | _=>simp at h
 | indexAddr t x i=>
  unfold bj at h;simp only [hop] at h;split at h
  ·rename_i len e b o' k n ht hx hi;split at h
   ·rename_i hc;simp only [Option.some.injEq,Prod.mk.injEq] at h;obtain ⟨hp',rfl⟩:=h;have hq:=hp _ hp'.symm;obtain ⟨id,ex,hβ⟩:=(hev x _ hx).gL;have hi':=(hev i _ hi).aS.1;refine ⟨_,.pdyn hβ,?_⟩;simp only [execOp,hop];refine Sem.iq ?_;have hl:¬ len<=1:=by omega
    simp [Instr.indexAt,Sem.run_bind,asIntOf,hi',run_underlying ht,ex,Instr.sureAddr,cg hc.1,hl,hq,iU]
   ·cases h
  ·rename_i len e b r sz f k n ht hx hi;split at h
   ·rename_i hc;simp only [Option.some.injEq,Prod.mk.injEq] at h;obtain ⟨hp',rfl⟩:=h;have hq:=hp _ hp'.symm;obtain ⟨g',o',n',c,ex,hβ⟩:=(hev x _ hx).mh;have hi':=(hev i _ hi).aS.1;refine ⟨_,.prowd hβ,?_⟩;simp only [execOp,hop];refine Sem.iq ?_;have hl:¬ len<=1:=by omega
    simp [Instr.indexAt,Sem.run_bind,asIntOf,hi',run_underlying ht,ex,Instr.sureAddr,cg hc.1,hl,hq,iU]
   ·cases h
  ·rename_i e b k n ht hx hi;split at h
   ·rename_i ks xs hr;split at h
    ·rename_i hc;simp only [Option.some.injEq,Prod.mk.injEq] at h;obtain ⟨hp',rfl⟩:=h;have hq:=hp _ hp'.symm;obtain ⟨A,n',c,ex,hβ⟩:=(hev x _ hx).gO;have hi':=(hev i _ hi).aS.1;obtain ⟨A',n'',c',h1,h2,h3,h4,h5,h6,h7,h8⟩:=ir hb hr;rw [hβ] at h1;cases h1
     obtain ⟨g,o',hA,_⟩:=h7 (by omega)
     subst hA;subst h2;refine ⟨_,.prow (f:=0) hβ,?_⟩;simp only [execOp,hop];refine Sem.iq ?_;simp [Instr.indexAt,Sem.run_bind,asIntOf,hi',run_underlying ht,ex,cg hc,hq,iU]
    ·cases h
   ·cases h
  ·cases h
 | build t parts=>
  unfold bj at h;simp only [hop] at h;split at h
  ·rename_i z pl hz hpl;simp only [Option.map_eq_some_iff,Prod.mk.injEq] at h;obtain ⟨cs,h',_,rfl⟩:=h;obtain ⟨i,zv,hi,hiz,hzl,hpos,hzr⟩:=nM (β:=β) hz;obtain ⟨zs',hf,hr⟩:=xQ hev hzr h';refine ⟨.agg zs',hr.rep,?_⟩;simp only [execOp,hop];refine Sem.iq ?_;have hzv:(zeroValue t).run P w=.ok zv w:=by simp [zeroValue,typeInfo,hi,hiz]
   unfold BR at hpl;split at hpl
   ·rename_i fields hu;simp only [Option.map_eq_some_iff] at hpl;obtain ⟨l,hl,rfl⟩:=hpl;have hp:=run_places (P:=P) w _ _ hl;simp [Instr.build,Sem.run_bind,hzv,run_underlying hu,Array.mapM_eq_mapM_toList,hp,hf]
   ·rename_i len e hu;simp only [Option.map_eq_some_iff] at hpl;obtain ⟨n,hn,rfl⟩:=hpl;simp [Instr.build,Sem.run_bind,hzv,run_underlying hu,cg hn,hf]
   ·cases hpl
  ·cases h
 | call c=>
  obtain ⟨callee,args,argTypes⟩:=c;obtain ⟨args⟩:=args;obtain ⟨argTypes⟩:=argTypes;unfold bj at h;simp only [hop] at h;split at h
  ·rename_i x t;split at h
   ·rename_i e b ht hx;simp only [Option.map_eq_some_iff,Prod.mk.injEq] at h;obtain ⟨p',hr,_,rfl⟩:=h;obtain ⟨A,n',c,ex,hβ⟩:=(hev x _ hx).gO;obtain ⟨A',n'',c',h1,h2,h3,h4,h5,h6,h7,h8⟩:=ir hb (ks:=p'.1) (xs:=p'.2) hr;rw [hβ] at h1;cases h1
    subst h2;refine ⟨_,.int ?_,?_⟩
    ·simp only [maxLen] at h4;refine ⟨?_,?_⟩
     ·have:IntKind.i64.min = -9223372036854775808:=by decide
      omega
     ·have:IntKind.i64.max=9223372036854775807:=by decide
      omega
    ·simp [execOp,hop,resolve,invoke,builtin,Builtin.len_,run_underlying ht,ex,goInt]
   ·rename_i e ht hx;cases h
    have ex:a.eval x=.slice none 0 0:=(hev x _ hx).gI;refine ⟨_,.int (⟨by decide,by decide⟩:dt .i64 0),?_⟩
    simp [execOp,hop,resolve,invoke,builtin,Builtin.len_,run_underlying ht,ex,goInt]
   ·cases h
  ·rename_i x y;split at h
   ·rename_i k m k' n hx hy;split at h
    ·rename_i hk;subst hk;cases h
     obtain ⟨ex,ix⟩:=(hev x _ hx).aS;obtain ⟨ey,iy⟩:=(hev y _ hy).aS;refine ⟨_,.int (?_:dt k (mn k m n)),?_⟩
     ·unfold mn; split <;> assumption
     ·simp [execOp,hop,resolve,invoke,builtin,Builtin.min_,Builtin.min2,ex,ey,mn]
    ·cases h
   ·cases h
  ·rename_i x y;split at h
   ·rename_i k m k' n hx hy;split at h
    ·rename_i hk;subst hk;cases h
     obtain ⟨ex,ix⟩:=(hev x _ hx).aS;obtain ⟨ey,iy⟩:=(hev y _ hy).aS;refine ⟨_,.int (?_:dt k (mx k m n)),?_⟩
     ·unfold mx; split <;> assumption
     ·simp [execOp,hop,resolve,invoke,builtin,Builtin.max_,Builtin.max2,ex,ey,mx]
    ·cases h
   ·cases h
  ·rename_i g _ _;exact xO hev hop h hp
  ·cases h
 | _=>unfold bj at h; simp [hop] at h
end
end Go.Vs
namespace Go.Vs
open Go.RowKit
theorem bP.U0 {β:cR} {b:Nat} {u v:Value} (h:bP β (.sl b) u) (k:bP β (.sl b) v):u=v:=by
 obtain ⟨A,n,c,rfl,h1⟩:=h.gO;obtain ⟨A',n',c',rfl,h2⟩:=k.gO;rw [h1] at h2;cases h2
 rfl
def di (X:Ctx) (β:cR) (b:OB) (w:World):Prop:=Sat X β ⟨[],b⟩ ⟨#[],[]⟩ w
section
variable {X:Ctx} {β:cR} {st:St} {a:Act} {w w':World}
theorem Sat.Kf (h:Sat X β st a w):di X β st.b w:=⟨rfl,fun i v hv=>by simp [look_nil,bX,bY] at hv,h.blks,h.disj,h.bound,h.below,h.frm,.nil⟩
theorem di.to (h:di X β st.b w) (hl:st.t.length=a.tmps.size) (ht:∀ i v,look st.t i=some v->∃u,a.tmps[i]? = some u/\bP β v u) (hd:gh X w a.defers):Sat X β st a w:=
 ⟨hl,ht,h.blks,h.disj,h.bound,h.below,h.frm,hd⟩
theorem Sat.go {β':cR} {b':OB} (h:Sat X β st a w) (hB:di X β' b' w') (hβ:∀ b r,β b=some r->β' b=some r) (hd:AS w w'):Sat X β' { st with b:=b' } a w':=
 di.to (st:={ st with b:=b' }) hB h.len (fun i v hv=>by
  obtain ⟨u,hu,hr⟩:=h.tmps i v hv;exact ⟨u,hu,hr.mono hβ⟩) (h.defers.cQ hd)
theorem Sat.jo {β':cR} (h:Sat X β st a w) (hβ:∀ b,b < st.b.length->β' b=β b):∀ b r,β b=some r->β' b=some r:=by
 intro b r hb;rw [hβ b ?_]; exact hb;rcases Nat.lt_or_ge b st.b.length with h' | h'
 ·exact h'
 ·rw [h.bound b h'] at hb; cases hb
theorem dL (β:cR) (n:Nat) (r:Real):∀ b,b < n->ext β n r b=β b:=by
 intro b hb; unfold ext; rw [if_neg (by omega)]
theorem Sat.AN {k:aq} {r:Real} (h:Sat X β st a w) (hk:ba w w') (hown:k.own=true) (hr:∀ id,Uses (ext β st.b.length r) st.b.length id->w.heap.size<=id)
  (hb:gi X (ext β st.b.length r) w' st.b.length k):Sat X (ext β st.b.length r) (st.dO k) a w':=
 h.add hk (fun id hu _ c k' hc hu'=>by have h1:=oY (h.blks c k' hc) hu'; have h2:=hr id hu; omega) (fun h0=>by rw [hown] at h0; cases h0) (fun id hu=>by have h1:=h.frm.new (hr id hu.1); exact ⟨h1.1,fun _=>h1.2⟩) hb
theorem vJ {β:cR} {n id id':Nat} (h:Uses (ext β n (.blk id)) n id'):id' = id:=by
 rcases h with h | ⟨a,m,c,h,_⟩
 ·simp [ext] at h; exact h.symm
 ·simp [ext] at h
theorem Sat.addVar (h:Sat X β st a w) (e:TypeId) (cells:List IV) (cs:Array Value) (hr:gf β cells cs):
  Sat X (ext β st.b.length (.blk w.heap.size)) (st.dO (.var e cells)) a (w.alloc (.cells cs e)):=
 h.AN (ba.alloc w _) rfl (fun id hu=>by rw [vJ hu]; exact Nat.le_refl _)
  ⟨w.heap.size,cs,by simp [ext],h.le,heap_alloc_new w _,hr.mono (gJ (h.bound _ (Nat.le_refl _)))⟩
theorem Sat.Ri (h:Sat X β st a w) (e:TypeId) (k:IntKind) (xs:L1) (hx:∀ x∈xs,dt k x):
  Sat X (ext β st.b.length (.blk w.heap.size)) (st.dO (.ints e k xs)) a (w.alloc (.cells (xs.map (Value.int k)).toArray e)):=
 h.AN (ba.alloc w _) rfl (fun id hu=>by rw [vJ hu]; exact Nat.le_refl _)
  ⟨w.heap.size,by simp [ext],h.le,heap_alloc_new w _,hx⟩
theorem gF {β:cR} {n id:Nat} {A:Option Addr} {m c:Nat} (h:Uses (ext β n (.slc (.slice A m c))) n id):∃a,A=some a/\a.block=id:=by
 rcases h with h | ⟨a,m',c',h,rfl⟩
 ·simp [ext] at h
 ·simp [ext] at h; exact ⟨a,h.1,rfl⟩
theorem Sat.tS (h:Sat X β st a w) (e:TypeId) (ks:List IntKind) (hk:0 < ks.length):
  Sat X (ext β st.b.length (.slc (.slice none 0 0))) (st.dO (.row e ks [])) a w:=
 h.AN (ba.refl w) rfl (fun id hu=>by obtain ⟨a,ha,_⟩:=gF hu; cases ha)
  ⟨none,0,0,by simp [ext],World.ownsRow_nil w X.B e ks.length,fun x hx=>by simp at hx,hk⟩
theorem Sat.agc (h:Sat X β st a w) (b:Nat):Sat X β (st.agc b) a w:=by
 have lk:∀ c k,look (st.agc b).b c=some k->look st.b c=some k:=by
  intro c k hc;simp only [St.agc] at hc;rw [bU] at hc;split at hc
  ·split at hc <;> cases hc
  ·exact hc
 exact ⟨h.len,h.tmps,fun c k hc=>h.blks c k (lk c k hc),fun c d k k' id hc hd=>h.disj c d k k' id (lk c k hc) (lk d k' hd),
  fun c hc=>h.bound c (by simpa [St.agc] using hc),h.below,h.frm.sub (fun c k id hc hu=>⟨c,k,lk c k hc,hu,fun h=>h⟩),h.defers⟩
structure C5 (w w':World) (id:Nat):Prop where
 os:w'.os=w.os
 tape:w'.tape=w.tape
 output:w'.output=w.output
 size:w.heap.size<=w'.heap.size
 block:∀ i,i < w.heap.size->i≠id->w'.heap[i]? = w.heap[i]?
theorem C5.grownBy {id:Nat} (h:C5 w w' id):w.grownBy w' (some id):=⟨h.os,h.tape,h.output,h.size,fun k hk hne=>h.block k hk (fun e=>hne (by rw [e]))⟩
theorem C5.setRow (w:World) (g:Nat) (cs:Array Value):C5 w (w.setRow g cs) g:=⟨rfl,rfl,rfl,by simp,fun i hi hne=>setRow_other w g i cs hne⟩
theorem kC {b id:Nat} {k:aq} (h:gi X β w b k) (hu0:afJ β b k id):∃o:Obj,w.heap[id]? = some o/\o.isCells=true:=by
 obtain ⟨hu,hro⟩:=hu0;cases k with
 | var t cells=>
  obtain ⟨id',cs,h1,h2,h3,h4⟩:=h;rcases hu with hu | ⟨a,n,c,hu,_⟩
  ·rw [h1] at hu; cases hu; exact ⟨_,h3,rfl⟩
  ·rw [h1] at hu; cases hu
 | ints t k xs=>
  obtain ⟨id',h1,h2,h3,h4⟩:=h;rcases hu with hu | ⟨a,n,c,hu,_⟩
  ·rw [h1] at hu; cases hu; exact ⟨_,h3,rfl⟩
  ·rw [h1] at hu; cases hu
 | row e ks xs=>
  obtain ⟨A,n,c,h1,h2,h3⟩:=h;rcases hu with hu | ⟨a,n',c',hu,rfl⟩
  ·rw [h1] at hu; cases hu
  ·rw [h1] at hu;cases hu
   rcases h2.2 with ⟨he,_⟩ | ⟨g,cap,cur,he,_,hg,_⟩
   ·cases he
   ·cases he; exact ⟨_,hg,rfl⟩
 | ro ks xs=>
  rcases hro with h0 | ⟨ks',x,xs',e⟩
  ·cases h0
  ·cases e
   obtain ⟨A,c,h1,h2,h3,hk,h4⟩:=h;rcases hu with hu | ⟨a,n',c',hu,rfl⟩
   ·rw [h1] at hu; cases hu
   ·rw [h1] at hu;cases hu
    obtain ⟨g,o,e,hc⟩:=h2.2.2 (by simp)
    cases e
    have hpos:0 < (flat ks (x :: xs')).length:=by
     simp only [flat,List.flatMap_cons,List.length_append,rowOf,List.length_map,List.length_range];omega
    exact cells_of_cell (hc 0 _ (List.getElem?_eq_getElem hpos))
theorem C5.deferred {id:Nat} (hB:C5 w w' id) (hc:∃o:Obj,w.heap[id]? = some o/\o.isCells=true):AS w w':=fun D o hD ho=>by
 have hlt:D < w.heap.size:=(Array.getElem?_eq_some_iff.1 hD).1;rw [hB.block D hlt ?_]
 ·exact hD
 ·rintro rfl;obtain ⟨o',h1,h2⟩:=hc;rw [hD] at h1; cases h1; rw [ho] at h2; cases h2
theorem gi.Yf {id:Nat} {b:Nat} {k:aq} (h:gi X β w b k) (hB:C5 w w' id) (hu:¬ afJ β b k id):gi X β w' b k:=by
 cases k with
 | var t cells=>
  obtain ⟨id',cs,h1,h2,h3,h4⟩:=h;refine ⟨id',cs,h1,h2,(hB.block id' (pH h3) ?_).trans h3,h4⟩;rintro rfl;exact hu ⟨.inl h1,.inl rfl⟩
 | ints t k xs=>
  obtain ⟨id',h1,h2,h3,h4⟩:=h;refine ⟨id',h1,h2,(hB.block id' (pH h3) ?_).trans h3,h4⟩;rintro rfl;exact hu ⟨.inl h1,.inl rfl⟩
 | row e ks xs=>
  obtain ⟨A,n,c,h1,h2,h3⟩:=h;refine ⟨A,n,c,h1,h2.kept hB.grownBy ?_,h3⟩;cases A with
  | none=>exact .inl rfl
  | some ad=>
   refine .inr (fun e=>?_)
   simp only [Value.ownBlock,Option.some.injEq] at e;exact hu ⟨.inr ⟨ad,n,c,h1,e⟩,.inl rfl⟩
 | ro ks xs=>
  obtain ⟨A,c,h1,h2,h3,h4⟩:=h;refine ⟨A,c,h1,?_,h3,h4⟩;refine ⟨h2.1,h2.2.1,fun h0=>?_⟩
  obtain ⟨g,o,e,hc⟩:=h2.2.2 h0;subst e;refine ⟨g,o,rfl,fun j u hj=>?_⟩
  have hcell:=hc j u hj;have hlt:=World.block_lt_of_cell? w _ hcell;refine (World.cell?_of_block (hB.block g hlt ?_)).trans hcell;rintro rfl;refine hu ⟨.inr ⟨_,_,_,h1,rfl⟩,.inr ?_⟩;cases xs with
  | nil=>simp at h0
  | cons x xs=>exact ⟨ks,x,xs,rfl⟩
theorem Sat.qX {b id:Nat} {k k':aq} (h:Sat X β st a w) (hb:look st.b b=some k) (hown:k.own=true) (hown':k'.own=true) (hu:Uses β b id) (hid:X.B<=id)
  (hB:C5 w w' id) (hk':gi X β w' b k'):Sat X β (st.jZ b k') a w':=by
 have lk:∀ c k0,look (st.jZ b k').b c=some k0->(c=b/\k0=k')∨(c≠b/\look st.b c=some k0):=by
  intro c k0 hc;simp only [St.jZ] at hc;rw [bU] at hc;split at hc
  ·rename_i e;split at hc
   ·cases hc; exact .inl ⟨e.symm,rfl⟩
   ·cases hc
  ·rename_i e;exact .inr ⟨fun e'=>e e'.symm,hc⟩
 refine ⟨h.len,h.tmps,?_,?_,?_,?_,?_,h.defers.cQ (hB.deferred (kC (h.blks b k hb) ⟨hu,.inl hown⟩))⟩
 ·intro c k0 hc;rcases lk c k0 hc with ⟨rfl,rfl⟩ | ⟨hne,hc⟩
  ·exact hk'
  ·refine (h.blks c k0 hc).Yf hB (fun hu'=>hne ?_)
   exact (h.disj b c k k0 id hb hc hown ⟨hu,.inl hown⟩ hu').symm
 ·intro c d k1 k2 id' hc hd ho hu1 hu2;rcases lk c k1 hc with ⟨rfl,rfl⟩ | ⟨hne,hc3⟩ <;> rcases lk d k2 hd with ⟨rfl,rfl⟩ | ⟨hne',hd3⟩
  ·rfl
  ·exact h.disj c d k k2 id' hb hd3 hown ⟨hu1.1,.inl hown⟩ hu2
  ·exact h.disj c d k1 k id' hc3 hb ho hu1 ⟨hu2.1,.inl hown⟩
  ·exact h.disj c d k1 k2 id' hc3 hd3 ho hu1 hu2
 ·intro c hc;exact h.bound c (by simpa [St.jZ] using hc)
 ·exact h.below.trans ⟨hB.os,hB.tape,hB.output,hB.size,fun i hi=>hB.block i (Nat.lt_of_lt_of_le hi h.le) (by omega)⟩
 ·refine ⟨Nat.le_trans h.le hB.size,fun i hi=>⟨Nat.lt_of_lt_of_le (h.frm.fr i hi).1 hB.size,(hB.block i (h.frm.fr i hi).1 ?_).trans (h.frm.fr i hi).2⟩,h.frm.fo,fun c k0 i hc hu'=>?_⟩
  ·rintro rfl;exact (h.frm.apart b k i hb ⟨hu,.inl hown⟩).2 hown hi
  ·rcases lk c k0 hc with ⟨rfl,rfl⟩ | ⟨hne,hc⟩
   ·have:=h.frm.apart c k i hb ⟨hu'.1,.inl hown⟩;exact ⟨this.1,fun _=>this.2 hown⟩
   ·exact h.frm.apart c k0 i hc hu'
theorem Ct {v:Value} {k:IntKind} (h:ER v=some k):v=.int k 0:=by
 unfold ER at h;split at h
 ·split at h
  ·rename_i h0; cases h; rw [h0]
  ·cases h
 ·cases h
theorem gP {P:Program} {e:TypeId} {ks:List IntKind} (h:kinds P e=some ks):
  ∃i z,P.info? e=some i/\i.zero=some z/\i.size=ks.length/\z.cells.toList=ks.map (fun k=>Value.int k 0)/\0 < ks.length/\0 < i.bytes:=by
 unfold kinds at h;split at h
 ·cases h
 ·rename_i i hi;split at h
  ·cases h
  ·rename_i z hz;split at h
   ·cases h
   ·rename_i ks' hks;split at h
    ·rename_i hc;cases h
     obtain ⟨h1,h2⟩:=mapM_some hks;refine ⟨i,z,hi,hz,hc.1.symm,?_,by omega,hc.2.2⟩
     apply List.ext_getElem?;intro j;by_cases hj:j < ks.length
     ·have a1:z.cells.toList[j]? = some z.cells.toList[j]:=List.getElem?_eq_getElem (by omega)
      have a2:ks[j]? = some ks[j]:=List.getElem?_eq_getElem hj;rw [a1,Ct (h2 j _ _ a1 a2)];simp [hj]
     ·rw [List.getElem?_eq_none (by omega),List.getElem?_eq_none (by simp; omega)]
    ·cases h
theorem Cx (k:IntKind):dt k 0:=by cases k <;> exact ⟨by decide,by decide⟩
theorem jl {P:Program} {t e:TypeId} (h:cN P t=some e):P.underlying t=some (.slice e):=by
 unfold cN at h;split at h
 ·cases h; assumption
 ·cases h
theorem wP {P:Program}:∀ (ts:List TypeId) (cells:List IV) {st:St} {β:cR} {cs:List Value},Sat X β st a w->cells.length=cs.length->
  (∀ (i:Nat) c v,cells[i]? = some c->cs[i]? = some v->bP β c v)->
  ∃β',Sat X β' { st with b:=st.b++(fm P st.b.length ts cells).2 } a w/\(fm P st.b.length ts cells).1.length=cs.length/\
   (∀ (i:Nat) c v,(fm P st.b.length ts cells).1[i]? = some c->cs[i]? = some v->bP β' c v)/\(∀ b,b < st.b.length->β' b=β b)/\(∀ b r,β b=some r->β' b=some r):=by
 intro ts;induction ts with
 | nil=>
  intro cells st β cs h hl hr;refine ⟨β,by simp [fm]; exact h,by simp [fm,hl],by simpa [fm] using hr,fun _ _=>rfl,fun _ _ h=>h⟩
 | cons t ts ih=>
  intro cells st β cs h hl hr;cases cells with
  | nil=>exact ⟨β,by simp [fm]; exact h,by simpa [fm] using hl,by simp [fm],fun _ _=>rfl,fun _ _ h=>h⟩
  | cons c cells=>
   cases cs with
   | nil=>simp at hl
   | cons v cs=>
    have h0:bP β c v:=hr 0 c v rfl rfl;have hrest:∀ (i:Nat) c v,cells[i]? = some c->cs[i]? = some v->bP β c v:=fun i c v hc hv=>hr (i+1) c v (by simpa using hc) (by simpa using hv)
    have hlr:cells.length=cs.length:=by simpa using hl
    have other:(fm P st.b.length (t :: ts) (c :: cells))=(c :: (fm P st.b.length ts cells).1,(fm P st.b.length ts cells).2)->
      ∃β',Sat X β' { st with b:=st.b++(fm P st.b.length (t :: ts) (c :: cells)).2 } a w/\(fm P st.b.length (t :: ts) (c :: cells)).1.length=(v :: cs).length/\
       (∀ (i:Nat) c' v',(fm P st.b.length (t :: ts) (c :: cells)).1[i]? = some c'->(v :: cs)[i]? = some v'->bP β' c' v')/\(∀ b,b < st.b.length->β' b=β b)/\(∀ b r,β b=some r->β' b=some r):=by
     intro e;rw [e];obtain ⟨β',k1,k2,k3,k4,k5⟩:=ih cells h hlr hrest;refine ⟨β',k1,by simp [k2],?_,k4,k5⟩
     intro i c' v' hc hv;cases i with
     | zero=>simp at hc hv; subst hc; subst hv; exact h0.mono k5
     | succ i=>simp at hc hv; exact k3 i c' v' hc hv
    by_cases hc:c=.nils
    ·subst hc;cases he:cN P t with
     | none=>exact other (by simp [fm,he])
     | some e=>
      cases hk:(cN P t).bind (kinds P) with
      | none=>exact other (by rw [he] at hk; simp at hk; simp [fm,he,hk])
      | some ks=>
       have hks:kinds P e=some ks:=by rw [he] at hk; simpa using hk
       obtain ⟨i,z,_,_,_,_,hpos,_⟩:=gP hks;have hadd:=h.tS e ks hpos;have hn:β st.b.length=none:=h.bound _ (Nat.le_refl _);have hm:=gJ (r:=.slc (.slice none 0 0)) hn;obtain ⟨β',k1,k2,k3,k4,k5⟩:=ih cells hadd hlr (fun i c v hc hv=>(hrest i c v hc hv).mono hm)
       have elen:(st.dO (.row e ks [])).b.length=st.b.length+1:=by simp [St.dO]
       have em:fm P st.b.length (t :: ts) (IV.nils :: cells)=(.sl st.b.length :: (fm P (st.b.length+1) ts cells).1,some (.row e ks []) :: (fm P (st.b.length+1) ts cells).2):=by
        simp [fm,he,hks]
       rw [elen] at k1 k2 k3 k4;rw [em];refine ⟨β',?_,by simp [k2],?_,?_,fun b r hb=>k5 b r (hm b r hb)⟩
       ·simpa [St.dO,List.append_assoc] using k1
       ·intro j c' v' hc hv;cases j with
        | zero=>
         simp at hc hv;subst hc; subst hv;have:=h0.gI;rw [this];refine .sl (k5 _ _ ?_);simp [ext]
        | succ j=>simp at hc hv; exact k3 j c' v' hc hv
       ·intro b hb;rw [k4 b (by omega),dL _ _ _ b hb]
    ·exact other (by cases c <;> first | (exact absurd rfl hc) | rfl)
end
end Go.Vs
namespace Go.Vs
open Go.RowKit
structure Rel (o:Oper) (β:cR) (st:St) (w:World) (st':St) (w':World):Prop where
 cQ:∀ b k,look st.b b=some k->k.agu=false->look st'.b b=some k
 world:ba w w'∨(cq o=true/\∃b e ks xs id,look st.b b=some (.row e ks xs)/\Uses β b id/\C5 w w' id)
theorem Rel.aN {o:Oper} {β:cR} {st st':St} {w w':World} (h:Rel o β st w st' w') (d:Option Tmp) (v:IV):Rel o β st w (st'.aN d v) w':=
 ⟨fun b k hb hr=>by rw [show (st'.aN d v).b=st'.b by cases d <;> rfl]; exact h.cQ b k hb hr,h.world⟩
theorem Rel.app {o:Oper} {β:cR} {st:St} {w w':World} {t:List (Option IV)} {l:OB} (h:ba w w'):Rel o β st w { t,b:=st.b++l } w':=
 ⟨fun b k hb _=>by simp only; rw [cv,if_pos (dc hb)]; exact hb,.inl h⟩
theorem Rel.new {o:Oper} {β:cR} {st:St} {w w':World} {k:aq} (h:ba w w'):Rel o β st w (st.dO k) w':=Rel.app h
def iV (X:Ctx) (β:cR) (st:St) (w:World) (o:Oper) (wr:Bool) (K:St->Prop) (Kw:Act->World->Prop):Prop:=
 ∀ β' st' a' w',K st'->Sat X β' st' a' w'->(∀ b,b < st.b.length->β' b=β b)->st.b.length<=st'.b.length->(wr=false->Rel o β st w st' w')->Kw a' w'
section
variable {P:Program} {X:Ctx} {β:cR} {st:St} {a:Act} {w:World} {Q:Exit->Act->World->Prop} {K:St->Prop} {Kw:Act->World->Prop} {o:Oper} {wr:Bool}
theorem nO {u:Value} {w':World} (h:(execOp a.eval o).run P w=.ok (.value u) w') (hk:Kw (a.put o.dst u) w'):o.wp P a w Kw Q:=by
 unfold Oper.wp; rw [h]; exact hk
theorem JG {w':World} (h:(execOp a.eval o).run P w=.ok .skip w') (hk:Kw (a.put o.dst undef) w'):o.wp P a w Kw Q:=by
 unfold Oper.wp; rw [h]; exact hk
theorem rT (h:Sat X β st a w) {e:TypeId} {cells:List IV} {cs:Array Value} (hr:gf β cells cs)
  (hk:newVar P st e cells o.dst K) (hA:iV X β st w o wr K Kw) (hrun:(execOp a.eval o).run P w=.ok (.value (.pointer (some ⟨w.heap.size,0,none⟩))) (w.alloc (.cells cs e))):o.wp P a w Kw Q:=by
 unfold newVar at hk;obtain ⟨β1,s1,l1,r1,ag1,m1⟩:=wP (P:=P) (jU P 8 e) cells (cs:=cs.toList) h (by simpa using hr.1) (fun i c v hc hv=>hr.2.2 i c v hc (by simpa using hv))
 generalize hm:fm P st.b.length (jU P 8 e) cells=r at *;have hr':gf β1 r.1 cs:=⟨by simpa using l1,hr.2.1,fun i c v hc hv=>r1 i c v hc (by simpa using hv)⟩
 have s2:=s1.addVar e r.1 cs hr';have s3:=s2.aN (bP.ptr (o:=0) (show ext β1 (st.b++r.2).length (.blk w.heap.size) (st.b++r.2).length=some (.blk w.heap.size) by simp [ext])) o.dst
 refine nO hrun (hA _ _ _ _ hk s3 ?_ ?_ (fun _=>Rel.aN (by rw [List.append_assoc]; exact Rel.app (ba.alloc w _)) _ _))
 ·intro b hb;rw [dL _ _ _ b (by simp; omega),ag1 b hb]
 ·rw [cJ]; simp
theorem yR {e:TypeId} {i:TypeInfo} {zv:Value} (hi:P.info? e=some i) (hz:i.zero=some zv) (hop:o.op=.alloc e):
  (execOp a.eval o).run P w=.ok (.value (.pointer (some ⟨w.heap.size,0,none⟩))) (w.alloc (.cells zv.cells e)):=by
 simp only [execOp,hop];refine Sem.iq ?_;simp [Instr.alloc,zeroValue,typeInfo,hi,hz,newRow,Go.newVar,Sem.run_bind]
theorem Hm {e:TypeId} {x:Operand} (hop:o.op=.box e x):
  (execOp a.eval o).run P w=.ok (.value (.pointer (some ⟨w.heap.size,0,none⟩))) (w.alloc (.cells (a.eval x).cells e)):=by
 simp only [execOp,hop];refine Sem.iq ?_;simp [Instr.box,Go.newVar,newRow,Sem.run_bind]
theorem sg {k:IntKind} {cells:List IV} {cs:Array Value} (hr:gf β cells cs) (hz:cells.all (isZero k)=true):cs=((List.replicate cells.length (0:Int)).map (Value.int k)).toArray:=by
 apply Array.ext
 ·simp [hr.1]
 ·intro i h1 h2;have hi:i < cells.length:=by rw [hr.1]; exact h1
  have hc:cells[i]? = some cells[i]:=List.getElem?_eq_getElem hi;have hv:=hr.2.2 i cells[i] cs[i] hc (by simp [h1])
  have hzi:=(List.all_eq_true.1 hz) cells[i] (List.getElem_mem hi);cases hci:cells[i] with
  | int k' n=>
   rw [hci] at hv hzi;simp [isZero] at hzi;rw [hv.aS.1,hzi.1,hzi.2];simp
  | _=>rw [hci] at hzi; simp [isZero] at hzi
theorem C1 (h:Sat X β st a w) {e:TypeId} (hop:o.op=.alloc e) (hk:match zeroOf P e with
   | some cells=>
    match pt P e cells with
    | some k=>K ((st.dO (.ints e k (List.replicate cells.length 0))).aN o.dst (.ptr st.b.length 0))
    | none=>newVar P st e cells o.dst K
   | none=>False) (hA:iV X β st w o wr K Kw):o.wp P a w Kw Q:=by
 cases hz:zeroOf P e with
 | none=>simp [hz] at hk
 | some cells=>
  simp only [hz] at hk;obtain ⟨i,zv,hi,hiz,hzl,hpos,hzr⟩:=nM (β:=β) hz;have hrun:=yR (a:=a) (w:=w) hi hiz hop;cases hn:pt P e cells with
  | none=>
   simp only [hn] at hk;exact rT h hzr hk hA hrun
  | some k=>
   simp only [hn] at hk;have hall:cells.all (isZero k)=true:=by
    unfold pt at hn;split at hn
    ·split at hn
     ·split at hn
      ·split at hn
       ·cases hn; assumption
       ·cases hn
      ·cases hn
     ·cases hn
    ·cases hn
   have hcs:=sg hzr hall;have s1:=h.Ri e k (List.replicate cells.length 0) (fun x hx=>by rw [List.mem_replicate] at hx; rw [hx.2]; exact Cx k)
   rw [hcs] at hrun;have s2:=s1.aN (bP.ptr (o:=0) (show ext β st.b.length (.blk w.heap.size) st.b.length=some (.blk w.heap.size) by simp [ext])) o.dst
   exact nO hrun (hA _ _ _ _ hk s2 (dL _ _ _) (by rw [cJ]; simp [St.dO]) (fun _=>(Rel.new (ba.alloc w _)).aN _ _))
theorem ma {t:TypeId} {x v:Operand} {g off n:Nat} {cur:Array Value} {t':TypeId} (hop:o.op=.store t x v) (hx:a.eval x=.pointer (some ⟨g,off,none⟩)) (hn:eH P t=some n)
  (hl:(a.eval v).cells.size=n) (h1:∀ u∈(a.eval v).cells.toList,u.oneCell' = true) (hg:w.heap[g]? = some (.cells cur t' (0,0))) (hle:off+n<=cur.size):
  (execOp a.eval o).run P w=.ok .skip (w.setRow g (cur.toList.take off++(a.eval v).cells.toList++cur.toList.drop (off+n)).toArray):=by
 have hst:=run_storeCells_at (P:=P) g off t' (a.eval v).cells.toList 0 cur w hg (by simp; omega) h1
 simp only [Nat.add_zero,Array.length_toList,hl] at hst;simp [execOp,hop,Instr.storeAt,hx,Instr.sureAddr,storeVar,cg hn,hl,hst]
theorem gf.one {cells:List IV} {cs:Array Value} (h:gf β cells cs):∀ u∈cs.toList,u.oneCell' = true:=by
 intro u hu;obtain ⟨i,hi,rfl⟩:=List.mem_iff_getElem.1 hu;exact h.2.1 i _ (by simp [List.getElem?_eq_getElem (show i < cs.toList.length from hi)])
theorem vW {cells mid:List IV} {cur ms:Array Value} (hc:gf β cells cur) (hm:gf β mid ms) {off n:Nat} (hn:ms.size=n) (hle:off+n<=cells.length):
  gf β (cells.take off++mid++cells.drop (off+n)) (cur.toList.take off++ms.toList++cur.toList.drop (off+n)).toArray:=by
 have l1:=hc.1;have l2:=hm.1;have hget:∀ (i:Nat) v,(cur.toList.take off++ms.toList++cur.toList.drop (off+n))[i]? = some v->
   (i < off/\cur[i]? = some v)∨(off<=i/\i < off+n/\ms[i - off]? = some v)∨(off+n<=i/\cur[i]? = some v):=by
  intro i v hv;by_cases h1:i < off
  ·rw [List.append_assoc,List.getElem?_append_left (by simp; omega),List.getElem?_take,if_pos h1] at hv
   exact .inl ⟨h1,by simpa using hv⟩
  ·by_cases h2:i < off+n
   ·rw [List.append_assoc,List.getElem?_append_right (by simp; omega),List.getElem?_append_left (by simp; omega)] at hv
    rw [List.length_take,Array.length_toList,show min off cur.size=off by omega] at hv
    exact .inr (.inl ⟨by omega,h2,by simpa using hv⟩)
   ·rw [List.getElem?_append_right (by simp; omega),List.getElem?_drop] at hv
    simp only [List.length_append,List.length_take,Array.length_toList] at hv;rw [show off+n+(i - (min off cur.size+ms.size))=i by omega] at hv
    exact .inr (.inr ⟨by omega,by simpa using hv⟩)
 have hgetc:∀ (i:Nat) c,(cells.take off++mid++cells.drop (off+n))[i]? = some c->
   (i < off/\cells[i]? = some c)∨(off<=i/\i < off+n/\mid[i - off]? = some c)∨(off+n<=i/\cells[i]? = some c):=by
  intro i v hv;by_cases h1:i < off
  ·rw [List.append_assoc,List.getElem?_append_left (by simp; omega),List.getElem?_take,if_pos h1] at hv
   exact .inl ⟨h1,hv⟩
  ·by_cases h2:i < off+n
   ·rw [List.append_assoc,List.getElem?_append_right (by simp; omega),List.getElem?_append_left (by simp; omega)] at hv
    rw [List.length_take,show min off cells.length=off by omega] at hv
    exact .inr (.inl ⟨by omega,h2,hv⟩)
   ·rw [List.getElem?_append_right (by simp; omega),List.getElem?_drop] at hv
    simp only [List.length_append,List.length_take] at hv;rw [show off+n+(i - (min off cells.length+mid.length))=i by omega] at hv
    exact .inr (.inr ⟨by omega,hv⟩)
 refine ⟨?_,?_,?_⟩
 ·simp; omega
 ·intro i v hv;rcases hget i v (by simpa using hv) with ⟨_,h⟩ | ⟨_,_,h⟩ | ⟨_,h⟩
  ·exact hc.2.1 i v h
  ·exact hm.2.1 _ v h
  ·exact hc.2.1 i v h
 ·intro i c v hcc hv;rcases hget i v (by simpa using hv) with ⟨h1,h⟩ | ⟨h1,h2,h⟩ | ⟨h1,h⟩ <;> rcases hgetc i c hcc with ⟨k1,k⟩ | ⟨k1,k2,k⟩ | ⟨k1,k⟩ <;> first
   | omega
   | exact hc.2.2 i c v k h
   | exact hm.2.2 _ c v k h
theorem JO {b:Nat} {t:TypeId} {cells:List IV} {id:Nat} (hβ:β b=some (.blk id)) (h:gi X β w b (.var t cells)):X.B<=id/\∃cs,w.heap[id]? = some (.cells cs t (0,0))/\gf β cells cs:=by
 obtain ⟨id',cs,h1,h2,h3,h4⟩:=h;rw [hβ] at h1;cases h1
 exact ⟨h2,cs,h3,h4⟩
end
end Go.Vs
namespace Go.Vs
open Go.RowKit
section
variable {P:Program} {X:Ctx} {β:cR} {st:St} {a:Act} {w:World} {Q:Exit->Act->World->Prop} {K:St->Prop} {Kw:Act->World->Prop} {o:Oper} {wr:Bool}
theorem agi (β:cR):bP β (.tup []) undef:=.tup rfl (by simp)
theorem Qq {ks:List IntKind} {xs:L2} (hk:0 < ks.length) {q:Nat} (hq:q < xs.length*ks.length):(flat ks xs)[q]? = some (.int (ks.getD (q % ks.length) .i64) (rd xs (q / ks.length) (q % ks.length))):=by
 have h1:q / ks.length < xs.length:=by rw [Nat.div_lt_iff_lt_mul hk]; exact hq
 have h2:=mB ks xs (q / ks.length) (q % ks.length) h1 (Nat.mod_lt _ hk)
 rwa [Nat.div_add_mod'] at h2
theorem Au {ks:List IntKind} {xs:L2} (hk:0 < ks.length) {l:List Value} (hl:l.length=xs.length*ks.length)
  (h:∀ i j,i < xs.length->j < ks.length->l[i*ks.length+j]? = some (.int (ks.getD j .i64) (rd xs i j))):l=flat ks xs:=by
 apply List.ext_getElem?;intro q;by_cases hq:q < xs.length*ks.length
 ·rw [Qq hk hq];have h1:q / ks.length < xs.length:=by rw [Nat.div_lt_iff_lt_mul hk]; exact hq
  have:=h (q / ks.length) (q % ks.length) h1 (Nat.mod_lt _ hk)
  rwa [Nat.div_add_mod'] at this
 ·rw [List.getElem?_eq_none (by omega),List.getElem?_eq_none (by rw [dR]; omega)]
theorem x6 (xs:L2) (i:Nat) (f:L1->L1) (i' j:Nat) (hi:i' < xs.length):rd (xs.modify i f) i' j=if i=i' then (f (xs.getD i [])).getD j 0 else rd xs i' j:=by
 unfold rd;by_cases h:i=i'
 ·subst h;simp [List.getD,List.getElem?_modify,List.getElem?_eq_getElem hi]
 ·simp [List.getD,List.getElem?_modify,h]
theorem qP {i j n m:Nat} (hi:i < n) (hj:j < m):i*m+j < n*m:=by
 have:(i+1)*m<=n*m:=Nat.mul_le_mul_right m hi;rw [Nat.add_mul] at this;omega
theorem agO {b:Nat} {e:TypeId} {ks:List IntKind} {xs:L2} {g o0 nn c:Nat} (h:Sat X β st a w) (hb:look st.b b=some (.row e ks xs)) (hβ:β b=some (.slc (.slice (some ⟨g,o0,none⟩) nn c)))
  {r f n:Nat} (hr:r < xs.length) (hf:f+n<=ks.length) {vs:List Value} (hvl:vs.length=n) {g2:L1->L1}
  (hin:∀ j,j < n->vs[j]? = some (.int (ks.getD (f+j) .i64) ((g2 (xs.getD r [])).getD (f+j) 0))/\dt (ks.getD (f+j) .i64) ((g2 (xs.getD r [])).getD (f+j) 0))
  (hout:∀ j,j < ks.length->¬ (f<=j/\j < f+n)->(g2 (xs.getD r [])).getD j 0=(xs.getD r []).getD j 0):
  o0=0/\∃cur,w.heap[g]? = some (.cells cur e (0,0))/\r*ks.length+f+n<=cur.size/\
   Sat X β (st.jZ b (.row e ks (xs.modify r g2))) a (w.setRow g (cur.toList.take (r*ks.length+f)++vs++cur.toList.drop (r*ks.length+f+n)).toArray):=by
 obtain ⟨A,n',c',h1,h2,h3,hk⟩:=h.blks b _ hb;rw [hβ] at h1;cases h1
 have h2':=h2;rcases h2.2 with ⟨he,_⟩ | ⟨g',cap,cur,he,hB,hg,hnc,hcm,hsz,htk⟩
 ·cases he
 ·cases he
  have hrc:r*ks.length+ks.length<=c*ks.length:=by
   have:(r+1)*ks.length<=c*ks.length:=Nat.mul_le_mul_right _ (by omega)
   rw [Nat.add_mul] at this;omega
  refine ⟨rfl,cur,hg,by omega,?_⟩
  have hlen:(cur.toList.take (r*ks.length+f)++vs++cur.toList.drop (r*ks.length+f+n)).length=cur.size:=by simp; omega
  refine h.qX hb rfl rfl (.inr ⟨_,_,_,hβ,rfl⟩) hB (C5.setRow w g _) ⟨_,_,_,hβ,⟨?_,.inr ⟨g,c,_,by rw [List.length_modify],hB,setRow_heap w g cur _ e _ hg,by rw [List.length_modify]; exact hnc,hcm,by simpa [hsz] using hlen,?_⟩⟩,?_,hk⟩
  ·rw [dR]
  ·show List.take ((xs.modify r g2).length*ks.length) (cur.toList.take (r*ks.length+f)++vs++cur.toList.drop (r*ks.length+f+n))=flat ks (xs.modify r g2);rw [List.length_modify];have hcur:∀ q,q < xs.length*ks.length->cur.toList[q]? = (flat ks xs)[q]?:=by
    intro q hq;rw [← htk,List.getElem?_take,if_pos hq]
   apply Au hk
   ·rw [List.length_modify,List.length_take,hlen,hsz];have:=Nat.mul_le_mul_right ks.length hnc;omega
   ·intro i j hi hj;rw [List.length_modify] at hi;have hq:=qP hi hj;rw [List.getElem?_take,if_pos hq,x6 _ _ _ _ _ hi];have hlin:r=i∨i*ks.length+ks.length<=r*ks.length∨r*ks.length+ks.length<=i*ks.length:=by
     rcases Nat.lt_trichotomy i r with hlt | heq | hlt
     ·right; left;have:(i+1)*ks.length<=r*ks.length:=Nat.mul_le_mul_right _ hlt;rw [Nat.add_mul] at this; omega
     ·exact .inl heq.symm
     ·right; right;have:(r+1)*ks.length<=i*ks.length:=Nat.mul_le_mul_right _ hlt;rw [Nat.add_mul] at this; omega
    by_cases hmid:r=i/\f<=j/\j < f+n
    ·obtain ⟨rfl,hf1,hf2⟩:=hmid;rw [if_pos rfl,List.append_assoc,List.getElem?_append_right (by simp; omega),List.getElem?_append_left (by simp; omega)]
     simp only [List.length_take,Array.length_toList];have hh:=(hin (j - f) (by omega)).1
     rw [show f+(j - f)=j by omega] at hh
     rw [show r*ks.length+j - min (r*ks.length+f) cur.size=j - f by omega]
     exact hh
    ·have hold:(cur.toList.take (r*ks.length+f)++vs++cur.toList.drop (r*ks.length+f+n))[i*ks.length+j]? = some (.int (ks.getD j .i64) (rd xs i j)):=by
      rw [← mB ks xs i j hi hj,← hcur _ hq];by_cases hlt:i*ks.length+j < r*ks.length+f
      ·rw [List.append_assoc,List.getElem?_append_left (by simp; omega),List.getElem?_take,if_pos hlt]
      ·have hge:r*ks.length+f+n<=i*ks.length+j:=by
        rcases hlin with e | e | e
        ·subst e;by_cases h5:f<=j
         ·have:¬ j < f+n:=fun h6=>hmid ⟨rfl,h5,h6⟩
          omega
         ·omega
        ·omega
        ·omega
       rw [List.getElem?_append_right (by simp; omega),List.getElem?_drop]
       simp only [List.length_append,List.length_take,Array.length_toList];rw [show r*ks.length+f+n+(i*ks.length+j - (min (r*ks.length+f) cur.size+vs.length))=i*ks.length+j by omega]
     rw [hold];by_cases hri:r=i
     ·subst hri;rw [if_pos rfl,hout j hj (fun h6=>hmid ⟨rfl,h6⟩)]
      rfl
     ·rw [if_neg hri]
  ·intro x hx j hj;obtain ⟨i,hi,rfl⟩:=List.mem_iff_getElem.1 hx;rw [List.length_modify] at hi;have hrd:=x6 xs r g2 i j hi;have e1:(xs.modify r g2)[i].getD j 0=rd (xs.modify r g2) i j:=by simp [rd,List.getD,List.getElem?_eq_getElem (show i < (xs.modify r g2).length by simpa using hi)]
   rw [e1,hrd];by_cases hri:r=i
   ·subst hri;rw [if_pos rfl];by_cases h6:f<=j/\j < f+n
    ·have:=(hin (j - f) (by omega)).2
     rwa [show f+(j - f)=j by omega] at this
    ·rw [hout j hj h6];have:=h3 xs[r] (List.getElem_mem hi) j hj;simpa [List.getD,List.getElem?_eq_getElem hi] using this
   ·rw [if_neg hri];have:=h3 xs[i] (List.getElem_mem hi) j hj;simpa [rd,List.getD,List.getElem?_eq_getElem hi] using this
end
end Go.Vs
namespace Go.Vs
open Go.RowKit
section
variable {P:Program} {X:Ctx} {β:cR} {st:St} {a:Act} {w:World} {Q:Exit->Act->World->Prop} {K:St->Prop} {Kw:Act->World->Prop} {o:Oper} {wr:Bool}
theorem jC (st:St) (b:Nat) (k:aq):(st.jZ b k).b.length=st.b.length:=by simp [St.jZ]
theorem mC {w':World} (h:(execOp a.eval o).run P w=.ok .skip w') {st':St} {β':cR} (hs:Sat X β' st' a w') (hk:K (st'.aN o.dst (.tup []))) (hA:iV X β st w o wr K Kw)
  (ha:∀ b,b < st.b.length->β' b=β b) (hl:st.b.length<=st'.b.length) (hwr:wr=true):o.wp P a w Kw Q:=
 JG h (hA _ _ _ _ hk (hs.aN (agi β') o.dst) ha (by rw [cJ]; exact hl) (fun h0=>by rw [hwr] at h0; cases h0))
theorem yk {ks:List IntKind} {f:Nat} {cells:List IV} {ys:L1} (h:(cells.mapIdx fun j c=>(j,c)).mapM (vD ks f)=some ys):
  cells.length=ys.length/\∀ (j:Nat) (hj:j < ys.length),cells[j]? = some (.int (ks.getD (f+j) .i64) ys[j]):=by
 obtain ⟨h1,h2⟩:=mapM_some h;rw [List.length_mapIdx] at h1;refine ⟨h1,fun j hj=>?_⟩
 have hj':j < cells.length:=by omega
 have:=h2 j (j,cells[j]) ys[j] (by simp [hj']) (by simp [hj])
 simp only [vD] at this;split at this
 ·rename_i k x hc;split at this
  ·rename_i hkk;cases this
   rw [List.getElem?_eq_getElem hj',hc,hkk]
  ·cases this
 ·cases this
theorem iA {n j:Nat} {f:Nat->Int} (hj:j < n):((List.range n).map f).getD j 0=f j:=by
 simp [List.getD,hj]
theorem Gd (k:IntKind) (i x:Int):∀ (l:L1) (j:Nat),Pc k i x j l=l.mapIdx fun m y=>IV.int k (if i=((j+m:Nat):Int) then x else y)
 | [],_=>rfl
 | y :: l,j=>by
  rw [List.mapIdx_cons,Pc,Gd k i x l (j+1)];simp only [Nat.add_zero]
  congr 2
  funext m z
  rw [show j+1+m=j+(m+1) by omega]
theorem pT (h:Sat X β st a w) {t:TypeId} {x v:Operand} {av vv:IV} (hop:o.op=.store t x v) (hx:ev st x=some av) (hv:ev st v=some vv)
  (hk:storeAt P st t av vv fun st'=>K (st'.aN o.dst (.tup []))) (hA:iV X β st w o wr K Kw) (hwr:wr=true):o.wp P a w Kw Q:=by
 unfold storeAt at hk;cases hn:eH P t with
 | none=>simp [hn] at hk
 | some n=>
 simp only [hn] at hk;split at hk
 ·exact hk.elim
 rename_i hcond;have hl:vv.cells.length=n:=by
  by_cases h1:vv.cells.length=n
  ·exact h1
  ·exact absurd (.inl h1) hcond
 have hnt:lK vv=true:=by
  cases h1:lK vv with
  | true=>rfl
  | false=>exact absurd (.inr h1) hcond
 have hrep:=bR h hv;have hvc:=hrep.cells (mm hnt);have hsz:(a.eval v).cells.size=n:=by rw [← hvc.1,hl]
 have hone:∀ u∈(a.eval v).cells.toList,u.oneCell' = true:=hvc.one;cases av with
 | ptr b off=>
  simp only at hk;split at hk
  ·rename_i t' cells hb;split at hk
   ·rename_i hle;obtain ⟨id,ex,hβ⟩:=(bR h hx).gL;obtain ⟨β1,s1,l1,r1,ag1,m1⟩:=wP (P:=P) (jU P 8 t) vv.cells (cs:=(a.eval v).cells.toList) h (by simpa using hvc.1) (fun i c u hc hu=>hvc.2.2 i c u hc (by simpa using hu))
    generalize hm:fm P st.b.length (jU P 8 t) vv.cells=r at *;have hlk:look (st.b++r.2) b=some (.var t' cells):=by rw [cv,if_pos (dc hb)]; exact hb
    obtain ⟨hB,cs,hg,hcs⟩:=JO (m1 _ _ hβ) (s1.blks b _ hlk);have hr':gf β1 r.1 (a.eval v).cells:=⟨by simpa using l1,hvc.2.1,fun i c u hc hu=>r1 i c u hc (by simpa using hu)⟩
    have hle':off+n<=cs.size:=by rw [← hcs.1]; exact hle
    have hrun:=ma (P:=P) (w:=w) hop ex hn hsz hone hg hle';have s2:=s1.qX hlk rfl (k':=.var t' (cells.take off++r.1++cells.drop (off+n))) rfl (.inl (m1 _ _ hβ)) hB (C5.setRow w id _)
     ⟨id,_,m1 _ _ hβ,hB,setRow_heap w id cs _ t' _ hg,vW hcs hr' hsz hle⟩
    exact mC hrun s2 hk hA ag1 (by rw [jC]; simp) hwr
   ·exact hk.elim
  ·exact hk.elim
 | pdyn b off i=>
  obtain ⟨id,ex,hβ⟩:∃id,a.eval x=.pointer (some ⟨id,off+i.toNat,none⟩)/\β b=some (.blk id):=by
   have:=bR h hx;generalize a.eval x=u at this;cases this
   exact ⟨_,rfl,‹_›⟩
  simp only at hk;split at hk
  ·rename_i t' k xs k' y hb;split at hk
   ·rename_i hkk;obtain ⟨rfl,rfl⟩:=hkk;obtain ⟨hi,hk⟩:=hk;obtain ⟨id',h1,h2,h3,h4⟩:=h.blks b _ hb;rw [hβ] at h1;cases h1
    have hn1:n=1:=by simpa [IV.cells] using hl.symm
    subst hn1;have hu:=hrep.aS;have hit:i.toNat < xs.length:=by omega
    have hrun:=ma (P:=P) (w:=w) (n:=1) hop ex hn hsz hone h3 (by simp; omega)
    rw [hu.1] at hrun;have e1:((xs.map (Value.int k)).toArray.toList.take (0+i.toNat)++(Value.int k y).cells.toList++(xs.map (Value.int k)).toArray.toList.drop (0+i.toNat+1)).toArray=((qO xs i y).map (Value.int k)).toArray:=by
     congr 1
     simp only [Nat.zero_add,qO,List.map_set,Value.cells];rw [List.set_eq_take_append_cons_drop,if_pos (by simpa using hit)]
     simp
    rw [e1] at hrun;have s2:=h.qX hb rfl (k':=.ints t' k (qO xs i y)) rfl (.inl hβ) h2 (C5.setRow w id _)
     ⟨id,hβ,h2,setRow_heap w id _ _ t' _ h3,fun z hz=>by
      rcases List.mem_or_eq_of_mem_set hz with hz | hz
      ·exact h4 z hz
      ·rw [hz]; exact hu.2⟩
    exact mC hrun s2 hk hA (fun _ _=>rfl) (by rw [jC]; exact Nat.le_refl _) hwr
   ·exact hk.elim
  ·rename_i t' cells k' y hb;split at hk
   ·rename_i xs hxs;obtain ⟨hi,hk⟩:=hk;obtain ⟨hB,cs,hg,hcs⟩:=JO hβ (h.blks b _ hb);have hn1:n=1:=by simpa [IV.cells] using hl.symm
    subst hn1;have hu:=hrep.aS;have hit:i.toNat < xs.length:=by omega
    have hspec:=oW hxs;have hlen:cells.length - off=xs.length:=by have:=congrArg List.length hspec; simpa using this
    have hle:off+i.toNat+1<=cells.length:=by omega
    have hrun:=ma (P:=P) (w:=w) (n:=1) hop ex hn hsz hone hg (by rw [← hcs.1]; exact hle)
    have hmid:gf β [IV.int k' y] (a.eval v).cells:=by rw [hu.1]; exact ⟨rfl,by intro i v h; cases i <;> simp [Value.cells] at h; subst h; rfl,by intro i c v hc hv; cases i <;> simp [Value.cells] at hc hv; subst hc; subst hv; exact .int hu.2⟩
    have hsp:=vW hcs hmid hsz hle;have e2:cells.take off++xs.mapIdx (fun j z=>IV.int k' (if i=(j:Int) then y else z))=cells.take (off+i.toNat)++[IV.int k' y]++cells.drop (off+i.toNat+1):=by
     have hc:cells=cells.take off++xs.map (IV.int k'):=by rw [← hspec,List.take_append_drop]
     apply List.ext_getElem?;intro q;by_cases hq:q < off
     ·rw [List.getElem?_append_left (by simp; omega),List.append_assoc,List.getElem?_append_left (by simp; omega)]
      simp [List.getElem?_take,hq,show q < off+i.toNat by omega]
     ·rw [List.getElem?_append_right (by simp; omega)]
      simp only [List.length_take,show min off cells.length=off by omega,List.getElem?_mapIdx]
      have hcq:cells[q]? = (xs[q - off]?).map (IV.int k'):=by
       have:=congrArg (fun l=>l[q - off]?) hspec
       simp only [List.getElem?_drop,List.getElem?_map,show off+(q - off)=q by omega] at this
       exact this
      by_cases h1:q < off+i.toNat
      ·rw [List.append_assoc,List.getElem?_append_left (by simp; omega),List.getElem?_take,if_pos h1,hcq]
       have:¬ i=((q - off:Nat):Int):=by omega
       simp [this]
      ·by_cases h2:q=off+i.toNat
       ·subst h2;rw [List.append_assoc,List.getElem?_append_right (by simp; omega)]
        have e3:off+i.toNat - off=i.toNat:=by omega
        have e4:i=((i.toNat:Nat):Int):=by omega
        simp only [List.length_take,show min (off+i.toNat) cells.length=off+i.toNat by omega,Nat.sub_self,e3]
        rw [List.getElem?_eq_getElem hit];simp [← e4]
       ·rw [List.getElem?_append_right (by simp; omega),List.getElem?_drop]
        simp only [List.length_append,List.length_take,List.length_cons,List.length_nil,show min (off+i.toNat) cells.length=off+i.toNat by omega]
        rw [show off+i.toNat+1+(q - (off+i.toNat+(0+1)))=q by omega,hcq]
        have:¬ i=((q - off:Nat):Int):=by omega
        simp [this]
    rw [Gd] at hk;simp only [Nat.zero_add] at hk;rw [e2] at hk;have s2:=h.qX hb rfl (k':=.var t' (cells.take (off+i.toNat)++[IV.int k' y]++cells.drop (off+i.toNat+1))) rfl (.inl hβ) hB (C5.setRow w id _)
     ⟨id,_,hβ,hB,setRow_heap w id cs _ t' _ hg,hsp⟩
    exact mC hrun s2 hk hA (fun _ _=>rfl) (by rw [jC]; exact Nat.le_refl _) hwr
   ·exact hk.elim
  ·exact hk.elim
 | prow b i sz f=>
  obtain ⟨g,o0,nn,c,ex,hβ⟩:=(bR h hx).mh;simp only at hk;split at hk
  ·rename_i e ks xs hb;split at hk
   ·rename_i ys hys;split at hk
    ·rename_i hc;obtain ⟨rfl,hfn⟩:=hc;obtain ⟨hi,hk⟩:=hk;obtain ⟨hyl,hyc⟩:=yk hys;have hit:i.toNat < xs.length:=by omega
     have hvs:(a.eval v).cells.toList.length=n:=by simpa using hsz
     have hcell:∀ j,j < n->∃y,ys[j]? = some y/\(a.eval v).cells.toList[j]? = some (.int (ks.getD (f+j) .i64) y)/\dt (ks.getD (f+j) .i64) y:=by
      intro j hj;have hj':j < ys.length:=by omega
      have h5:=hyc j hj';have h6:=hvc.2.2 j _ (a.eval v).cells[j] h5 (by simp [show j < (a.eval v).cells.size by omega])
      obtain ⟨h7,h8⟩:=h6.aS;exact ⟨ys[j],by simp [hj'],by simp [show j < (a.eval v).cells.size by omega,h7],h8⟩
     obtain ⟨rfl,cur,hg,hle,s2⟩:=agO h hb hβ (r:=i.toNat) (f:=f) (n:=n) hit hfn hvs
      (g2:=fun x=>(List.range ks.length).map fun j=>if f<=j/\j < f+n then ys.getD (j - f) 0 else x.getD j 0) (fun j hj=>by
       obtain ⟨y,h5,h6,h7⟩:=hcell j hj;rw [iA (by omega),if_pos ⟨by omega,by omega⟩,show f+j - f=j by omega]
       have:ys.getD j 0=y:=by simp [List.getD,h5]
       rw [this];exact ⟨h6,h7⟩) (fun j hj hno=>by rw [iA hj,if_neg hno])
     rw [Nat.zero_add] at ex;have hrun:=ma (P:=P) (w:=w) hop ex hn hsz hone hg hle;exact mC hrun s2 hk hA (fun _ _=>rfl) (by rw [jC]; exact Nat.le_refl _) hwr
    ·exact hk.elim
   ·exact hk.elim
  ·exact hk.elim
 | prowd b i sz f j=>
  obtain ⟨g,o0,nn,c,ex,hβ⟩:∃g o0 nn c,a.eval x=.pointer (some ⟨g,o0+i.toNat*sz+f+j.toNat,none⟩)/\β b=some (.slc (.slice (some ⟨g,o0,none⟩) nn c)):=by
   have:=bR h hx;generalize a.eval x=u at this;cases this
   exact ⟨_,_,_,_,rfl,‹_›⟩
  simp only at hk;split at hk
  ·rename_i e ks xs k y hb;split at hk
   ·rename_i hc;obtain ⟨rfl,hall⟩:=hc;obtain ⟨hi,hk⟩:=hk;have hn1:n=1:=by simpa [IV.cells] using hl.symm
    subst hn1;have hu:=hrep.aS;have hit:i.toNat < xs.length:=by omega
    have hkj:ks.getD (f+j.toNat) .i64=k:=by
     have hlt:f+j.toNat < ks.length:=hi.2.2.2;have hmem:ks[f+j.toNat]∈ks.drop f:=by
      rw [List.mem_iff_getElem?];exact ⟨j.toNat,by rw [List.getElem?_drop,List.getElem?_eq_getElem hlt]⟩
     have:=(List.all_eq_true.1 hall) _ hmem;simp [List.getD,List.getElem?_eq_getElem hlt];simpa using this
    have hjj:((f+j.toNat:Nat):Int)=f+j:=by omega
    obtain ⟨rfl,cur,hg,hle,s2⟩:=agO h hb hβ (r:=i.toNat) (f:=f+j.toNat) (n:=1) (vs:=(a.eval v).cells.toList) hit (by omega) (by simpa using hsz)
     (g2:=fun x0=>(List.range ks.length).map fun (m:Nat)=>if (m:Int)=f+j then y else x0.getD m 0) (fun q hq=>by
      obtain rfl:q=0:=by omega
      rw [Nat.add_zero,iA (by omega),if_pos hjj,hkj,hu.1]
      exact ⟨rfl,hu.2⟩) (fun q hq hno=>by rw [iA hq,if_neg (by omega)])
    rw [Nat.zero_add,Nat.add_assoc] at ex;rw [Nat.add_assoc] at hle;have hrun:=ma (P:=P) (w:=w) hop ex hn hsz hone hg (by simpa [Nat.add_assoc] using hle)
    rw [Nat.add_assoc] at s2;exact mC hrun (by simpa [Nat.add_assoc] using s2) hk hA (fun _ _=>rfl) (by rw [jC]; exact Nat.le_refl _) hwr
   ·exact hk.elim
  ·exact hk.elim
 | _=>exact hk.elim
end
end Go.Vs
namespace Go.Vs
open Go.RowKit
section
variable {P:Program} {X:Ctx} {β:cR} {st:St} {a:Act} {w:World} {Q:Exit->Act->World->Prop} {K:St->Prop} {Kw:Act->World->Prop} {o:Oper} {wr:Bool}
theorem ov {t e:TypeId} {ks:List IntKind} (he:cN P t=some e) (h:(cN P t).bind (kinds P)=some ks):kinds P e=some ks:=by
 rw [he] at h; simpa using h
theorem xp {t e:TypeId} {n:Nat} (he:cN P t=some e) (h:(cN P t).bind (lX P)=some n):lX P e=some n:=by
 rw [he] at h; simpa using h
theorem fh {u:Value} {w':World} (h:(execOp a.eval o).run P w=.ok (.value u) w') {st':St} {β':cR} {v:IV} (hs:Sat X β' st' a w') (hv:bP β' v u) (hk:K (st'.aN o.dst v)) (hA:iV X β st w o wr K Kw)
  (ha:∀ b,b < st.b.length->β' b=β b) (hl:st.b.length<=st'.b.length) (hrel:wr=false->Rel o β st w st' w'):o.wp P a w Kw Q:=
 nO h (hA _ _ _ _ hk (hs.aN hv o.dst) ha (by rw [cJ]; exact hl) (fun h0=>(hrel h0).aN _ _))
theorem cC (β:cR) (n:Nat) (r:Real):ext β n r n=some r:=by simp [ext]
theorem lz (st:St) (k:aq):st.b.length<=(st.dO k).b.length:=by simp [St.dO]
theorem u9 (h:Sat X β st a w) {x:Operand} {e:TypeId} {ks:List IntKind} (hop:o.op=.assign x) (hx:ev st x=some .nils) (hks:kinds P e=some ks)
  (hk:K ((st.dO (.row e ks [])).aN o.dst (.sl st.b.length))) (hA:iV X β st w o wr K Kw):o.wp P a w Kw Q:=by
 obtain ⟨_,_,_,_,_,_,hpos,_⟩:=gP hks;have hu:=(bR h hx).gI;exact fh (u:=.slice none 0 0) (by simp [execOp,hop,hu]) (h.tS e ks hpos) (.sl (cC _ _ _)) hk hA (dL _ _ _) (lz _ _) (fun _=>Rel.new (ba.refl w))
theorem Sat.NP {w':World} (h:Sat X β st a w) (hkp:ba w w') {e:TypeId} {ks:List IntKind} {xs:L2} {n c:Nat} (hown:w'.ownsRow X.B e ks.length (.slice (some ⟨w.heap.size,0,none⟩) n c) xs.length (flat ks xs))
  (hok:aI ks xs) (hpos:0 < ks.length):Sat X (ext β st.b.length (.slc (.slice (some ⟨w.heap.size,0,none⟩) n c))) (st.dO (.row e ks xs)) a w':=
 h.AN hkp rfl (fun id hu=>by obtain ⟨ad,e,rfl⟩:=gF hu; cases e; exact Nat.le_refl _) ⟨_,_,_,cC _ _ _,hown,hok,hpos⟩
theorem Ah {ks:List IntKind} {len:Nat} (hpos:0 < ks.length) (hev:∀ x v,ev st x=some v->bP β v (a.eval x)):∀ {parts:List (Nat × Operand)} {z xs:L2},z.length=len->aI ks z->pA ks len st parts z=some xs->
  Instr.fill (fun i=>some (i*ks.length,ks.length)) (flat ks z).toArray (parts.map fun p=>(p.1,a.eval p.2))=some (flat ks xs).toArray/\xs.length=len/\aI ks xs:=by
 intro parts;induction parts with
 | nil=>intro z xs hz hok h; simp [pA] at h; subst h; exact ⟨by simp [Instr.fill],hz,hok⟩
 | cons p rest ih=>
  intro z xs hz hok h;obtain ⟨i,x⟩:=p;simp only [pA] at h;split at h
  ·rename_i v hv;split at h
   ·rename_i ys hys;split at h
    ·rename_i hc;obtain ⟨hyl,hi⟩:=hc;obtain ⟨h1,h2⟩:=yk (f:=0) hys;have hnt:lK v=true:=by
      cases v with
      | tup vs=>
       have:=h2 0 (by omega)
       simp [IV.cells] at this
      | _=>rfl
     have hvc:=(hev x v hv).cells (mm hnt);have hsz:(a.eval x).cells.size=ks.length:=by rw [← hvc.1]; omega
     have hcell:∀ j,(hj:j < ks.length)->(a.eval x).cells[j]? = some (.int (ks.getD j .i64) (ys.getD j 0))/\dt (ks.getD j .i64) (ys.getD j 0):=by
      intro j hj;have h5:=h2 j (by omega)
      rw [Nat.zero_add] at h5;have h6:=hvc.2.2 j _ (a.eval x).cells[j] h5 (by simp [show j < (a.eval x).cells.size by omega])
      obtain ⟨h7,h8⟩:=h6.aS;have:ys.getD j 0=ys[j]:=by simp [List.getD,List.getElem?_eq_getElem (show j < ys.length by omega)]
      rw [this];exact ⟨by simp [show j < (a.eval x).cells.size by omega,h7],h8⟩
     have hok':aI ks (z.set i ys):=by
      intro y hy j hj;rcases List.mem_or_eq_of_mem_set hy with hy | hy
      ·exact hok y hy j hj
      ·rw [hy]; exact (hcell j hj).2
     have hih:=ih (z:=z.set i ys) (by simpa using hz) hok' h
     refine ⟨?_,hih.2⟩;simp only [List.map_cons,Instr.fill];have hle:i*ks.length+ks.length<=z.length*ks.length:=by
      have:(i+1)*ks.length<=z.length*ks.length:=Nat.mul_le_mul_right _ (by omega)
      rw [Nat.add_mul] at this; omega
     rw [if_neg (by simp [dR,hsz]; omega)]
     have hf:=yC (i*ks.length) (a.eval x).cells.toList 0 (flat ks z).toArray;have hfold:(a.eval x).cells.zipIdx.foldl (fun cs (p:Value × Nat)=>cs.setIfInBounds (i*ks.length+p.2) p.1) (flat ks z).toArray=(flat ks (z.set i ys)).toArray:=by
      have e0:(a.eval x).cells.zipIdx.foldl (fun cs (p:Value × Nat)=>cs.setIfInBounds (i*ks.length+p.2) p.1) (flat ks z).toArray=((a.eval x).cells.toList.zipIdx 0).foldl (fun cs (p:Value × Nat)=>cs.setIfInBounds (i*ks.length+p.2) p.1) (flat ks z).toArray:=by
       rw [← Array.foldl_toList]; simp
      rw [e0];apply Array.ext';apply Au hpos
      ·have:=hf.1;simp only [Array.length_toList];rw [this]; simp [dR]
      ·intro r j hr hj;rw [List.length_set] at hr;have:=hf.2 (r*ks.length+j);rw [Array.getElem?_toList,this];have hq:=qP hr hj;have hrd:rd (z.set i ys) r j=if i=r then ys.getD j 0 else rd z r j:=by
        unfold rd;by_cases hir:i=r
        ·subst hir; simp [List.getD,hr]
        ·simp [List.getD,List.getElem?_set,hir]
       rw [hrd];by_cases hir:i=r
       ·subst hir;rw [if_pos (by simp; omega),if_pos (by simp [dR]; omega),if_pos rfl,show i*ks.length+j - (i*ks.length+0)=j by omega]
        have:=(hcell j hj).1;simpa using this
       ·have hlin:i*ks.length+ks.length<=r*ks.length∨r*ks.length+ks.length<=i*ks.length:=by
         rcases Nat.lt_or_gt_of_ne hir with hlt | hlt
         ·left;have:(i+1)*ks.length<=r*ks.length:=Nat.mul_le_mul_right _ hlt;rw [Nat.add_mul] at this; omega
         ·right;have:(r+1)*ks.length<=i*ks.length:=Nat.mul_le_mul_right _ hlt;rw [Nat.add_mul] at this; omega
        rw [if_neg (by simp; omega),if_neg hir]
        simpa using mB ks z r j hr hj
     have hstep:(a.eval x).cells.zipIdx.foldl (fun cs x_1=>cs.setIfInBounds (i*ks.length+x_1.2) x_1.1) (flat ks z).toArray=(flat ks (z.set i ys)).toArray:=hfold
     rw [hstep];exact hih.1
    ·cases h
   ·cases h
  ·cases h
theorem uj (ks:List IntKind) (n:Nat):aI ks (List.replicate n (List.replicate ks.length 0)):=by
 intro x hx j hj;rw [List.mem_replicate] at hx;rw [hx.2];have:(List.replicate ks.length (0:Int)).getD j 0=0:=by simp [List.getD,hj]
 rw [this];exact Cx _
theorem vH {z:Value} {ks:List IntKind} (hz:z.cells.toList=ks.map (fun k=>Value.int k 0)) (hpos:0 < ks.length) (n:Nat):(madeCells z.cells (n*ks.length)).toList=flat ks (List.replicate n (List.replicate ks.length 0)):=by
 have hsz:z.cells.size=ks.length:=by have:=congrArg List.length hz; simpa using this
 apply Au hpos
 ·simp [madeCells]
 ·intro i j hi hj;rw [List.length_replicate] at hi;have hq:=qP hi hj;have h1:(i*ks.length+j) % ks.length=j:=by rw [Nat.mul_comm,Nat.mul_add_mod]; exact Nat.mod_eq_of_lt hj
  have h2:z.cells[j]? = some (.int (ks.getD j .i64) 0):=by
   have:=congrArg (fun l=>l[j]?) hz
   simp only [List.getElem?_map] at this;rw [Array.getElem?_toList] at this;rw [this];simp [List.getElem?_eq_getElem hj,List.getD]
  simp only [madeCells,Array.toList_map,Array.toList_range,List.getElem?_map];rw [List.getElem?_range hq];simp only [Option.map_some,hsz,h1];have h3:z.cells[j]! = .int (ks.getD j .i64) 0:=by
   rw [getElem!_def,h2]
  rw [h3];simp [rd,List.getD,hi,hj]
theorem tO (h:Sat X β st a w) {t e:TypeId} {len:Nat} {parts:Array (Nat × Operand)} {ks:List IntKind} {xs:L2} (hop:o.op=.buildSlice t len parts)
  (he:cN P t=some e) (hks:kinds P e=some ks) (hl:pA ks len st parts.toList (List.replicate len (List.replicate ks.length 0))=some xs) (hle:len*ks.length<=2 ^ 24)
  (hk:K ((st.dO (.row e ks xs)).aN o.dst (.sl st.b.length))) (hA:iV X β st w o wr K Kw):o.wp P a w Kw Q:=by
 obtain ⟨i,z,hi,hz,hsz,hzc,hpos,hby⟩:=gP hks;have hu:=jl he;obtain ⟨hf,hxl,hok⟩:=Ah hpos (fun x v hv=>bR h hv) (List.length_replicate ..) (uj ks len) hl
 have hzv:(zeroValue e).run P w=.ok z w:=by simp [zeroValue,typeInfo,hi,hz]
 have hso:(sizeOf e).run P w=.ok ks.length w:=cg (by simp [eH,hi,hsz]) w
 have hcells:((Array.range (len*ks.length)).map (z.cells[· % z.cells.size]!))=(flat ks (List.replicate len (List.replicate ks.length 0))).toArray:=by
  have:=vH hzc hpos len;apply Array.ext';rw [← this]
  rfl
 have hrun:(execOp a.eval o).run P w=.ok (.value (.slice (some ⟨w.heap.size,0,none⟩) len len)) (w.alloc (.cells (flat ks xs).toArray e)):=by
  simp only [execOp,hop];refine Sem.iq ?_;have hlt:¬ len*ks.length > 2 ^ 24:=by omega
  by_cases h0:len*ks.length=0
  ·have hlen0:len=0:=by
    rcases Nat.mul_eq_zero.1 h0 with h1 | h1
    ·exact h1
    ·omega
   subst hlen0;simp only [List.replicate_zero] at hf;have hfl:flat ks ([]:L2)=[]:=rfl;rw [hfl] at hf;simp [Instr.buildSlice,Sem.run_bind,run_underlying hu,hso,newRow];rw [show (Array.map (fun x=>(default:Value)) (Array.range 0)) = #[] by simp,hf]
   simp
  ·simp [Instr.buildSlice,Sem.run_bind,run_underlying hu,hso,hzv,newRow,h0,hlt];rw [hcells,hf];simp
 refine fh hrun (h.NP (ba.alloc w _) ?_ hok hpos) (.sl (cC _ _ _)) hk hA (dL _ _ _) (lz _ _) (fun _=>Rel.new (ba.alloc w _))
 rw [hxl];have hlen:len<=maxLen:=by
  have:len<=len*ks.length:=Nat.le_mul_of_pos_right _ hpos;simp only [maxLen]; omega
 have:=World.ownsRow_lit (e:=e) (size:=ks.length) w (flat ks xs).toArray len h.le hlen (by simp [dR,hxl])
 simpa using this
theorem uX (h:Sat X β st a w) {t e:TypeId} {l c:Operand} {ks:List IntKind} {by_:Nat} {n m:Int} (hop:o.op=.makeSlice t l c)
  (he:cN P t=some e) (hks:kinds P e=some ks) (hby:lX P e=some by_) (hl:ev st l=some (.int .i64 n)) (hlc:En l c=true) (hc:ev st c=some (.int .i64 m)) (hn:0<=n/\n*by_<=140737488355328)
  (hk:K ((st.dO (.row e ks (List.replicate n.toNat (List.replicate ks.length 0)))).aN o.dst (.sl st.b.length))) (hA:iV X β st w o wr K Kw):o.wp P a w Kw Q:=by
 obtain ⟨i,z,hi,hz,hsz,hzc,hpos,hb0⟩:=gP hks;have hib:i.bytes=by_:=by simpa [lX,hi] using hby
 have hu:=jl he;have e1:=(bR h hl).aS.1;have e2:a.eval c=.int .i64 n:=by
  unfold En at hlc;split at hlc
  ·simp at hlc; subst hlc; exact e1
  ·rename_i k1 x k2 y;simp at hlc;subst hlc;have e3:=(bR h hc).aS.1;simp only [Act.eval] at e1 e3 ⊢;cases e1
   cases e3
   rfl
  ·cases hlc
 obtain ⟨N,rfl⟩:=Int.eq_ofNat_of_zero_le hn.1;simp only [Int.toNat_natCast] at hk;have hbytes:i.bytes*N<=140737488355328:=by
  have:=hn.2;rw [← hib] at this;have h5:((N*i.bytes:Nat):Int)<=140737488355328:=by rw [Int.natCast_mul]; exact this
  rw [Nat.mul_comm]; omega
 have hN:N<=maxLen:=by
  have:N<=i.bytes*N:=Nat.le_mul_of_pos_left _ hb0;simp only [maxLen]; omega
 obtain ⟨w1,hr,hown,hg⟩:=run_make_full (P:=P) w X.B t e i z ks.length hu hi hz hsz .i64 .i64 N (by omega) hN h.le
 have hkp:ba w w1:=⟨hg.os,hg.tape,hg.output,hg.size,fun i hi=>hg.block i hi (by simp)⟩
 have hrun:(execOp a.eval o).run P w=.ok (.value (.slice (some ⟨w.heap.size,0,none⟩) N N)) w1:=by
  simp only [execOp,hop];refine Sem.iq ?_;rw [e1,e2];exact hr
 rw [vH hzc hpos] at hown;refine fh hrun (h.NP hkp ?_ (uj ks N) hpos) (.sl (cC _ _ _)) hk hA (dL _ _ _) (lz _ _) (fun _=>Rel.new hkp)
 simpa using hown
theorem Ay (h:Sat X β st a w) {t e:TypeId} {t':TypeId} {x y:Operand} {b:Nat} {ks:List IntKind} {xs:L2} (hop:o.op=.binOp .eql t x y t') (ht:cN P t=some e)
  (hx:ev st x=some (.sl b)) (hy:ev st y=some .nils) (hr:rows st b=some (ks,xs)) (hk:∀ q:Bool,(q=true->xs=[])->K (st.aN o.dst (.bool q))) (hA:iV X β st w o wr K Kw):o.wp P a w Kw Q:=by
 obtain ⟨A,n,c,ex,hβ⟩:=(bR h hx).gO;have ey:=(bR h hy).gI;obtain ⟨A',n'',c',h1,h2,h3,h4,h5,h6,h7,h8⟩:=ir h.blks hr;rw [hβ] at h1;cases h1
 have hrun:(execOp a.eval o).run P w=.ok (.value (.bool A.isNone)) w:=by
  simp only [execOp,hop];have:=Lib.run_eql_slice_nil (P:=P) w t e A n c 0 0 (jl ht);rw [ex,ey];simp [Sem.run_bind,eqGuard,this]
 refine fh hrun h .bool (hk A.isNone ?_) hA (fun _ _=>rfl) (Nat.le_refl _) (fun _=>⟨fun _ _ h _=>h,.inl (ba.refl w)⟩)
 intro hq;cases xs with
 | nil=>rfl
 | cons x xs=>
  obtain ⟨g,o',hA',_⟩:=h7 (by simp)
  subst hA';cases hq
theorem Sat.Qo (h:Sat X β st a w) {b:Nat} {e:TypeId} {ks:List IntKind} {xs:L2} (hb:look st.b b=some (.row e ks xs)):Sat X β (st.jZ b (.ro ks xs)) a w:=by
 have lk:∀ c k0,look (st.jZ b (.ro ks xs)).b c=some k0->(c=b/\k0=.ro ks xs)∨(c≠b/\look st.b c=some k0):=by
  intro c k0 hc;simp only [St.jZ] at hc;rw [bU] at hc;split at hc
  ·rename_i e;split at hc
   ·cases hc; exact .inl ⟨e.symm,rfl⟩
   ·cases hc
  ·rename_i e;exact .inr ⟨fun e'=>e e'.symm,hc⟩
 refine ⟨h.len,h.tmps,?_,?_,fun c hc=>h.bound c (by simpa [St.jZ] using hc),h.below,h.frm.sub (fun c k0 id hc hu=>?_),h.defers⟩
 ·intro c k0 hc;rcases lk c k0 hc with ⟨rfl,rfl⟩ | ⟨hne,hc⟩
  ·obtain ⟨A,n,cp,h1,h2,h3,h4,h5,h6,h7,h8⟩:=ir h.blks (show rows st c=some (ks,xs) by unfold rows; rw [hb])
   subst h2;refine ⟨A,cp,h1,h8,h5,h6,fun hne ad hA=>.inr ?_⟩
   obtain ⟨A2,n2,c2,k1,k2,k3,k4⟩:=h.blks c _ hb;rw [h1] at k1;cases k1
   subst hA;exact (k2.lt ad.block rfl).1
  ·exact h.blks c k0 hc
 ·intro c d k1 k2 id' hc hd ho hu1 hu2;rcases lk c k1 hc with ⟨rfl,rfl⟩ | ⟨hne,hc3⟩ <;> rcases lk d k2 hd with ⟨rfl,rfl⟩ | ⟨hne',hd3⟩
  ·rfl
  ·cases ho
  ·exact h.disj c d k1 _ id' hc3 hb ho hu1 ⟨hu2.1,.inl rfl⟩
  ·exact h.disj c d k1 k2 id' hc3 hd3 ho hu1 hu2
 ·rcases lk c k0 hc with ⟨rfl,rfl⟩ | ⟨hne,hc⟩
  ·exact ⟨c,_,hb,⟨hu.1,.inl rfl⟩,fun h0=>by cases h0⟩
  ·exact ⟨c,k0,hc,hu,fun h=>h⟩
theorem fg:∀ (l:List (Option Nat)) (b:OB),(freeze b l).length=b.length:=by
 intro l;induction l with
 | nil=>intro b; rfl
 | cons x l ih=>
  intro b;cases x with
  | none=>simp [freeze,ih]
  | some i=>
   simp only [freeze];split
   ·rw [ih]; simp
   ·rw [ih]
theorem Sat.freeze:∀ (l:List (Option Nat)) {st:St},Sat X β st a w->Sat X β { st with b:=Go.Vs.freeze st.b l } a w:=by
 intro l;induction l with
 | nil=>intro st h; exact h
 | cons x l ih=>
  intro st h;cases x with
  | none=>exact ih h
  | some i=>
   simp only [Go.Vs.freeze];split
   ·rename_i e ks xs hb;exact ih (st:=st.jZ i (.ro ks xs)) (h.Qo hb)
   ·exact ih h
theorem ju:∀ (l:List (Option Nat)) (b:OB) (c:Nat) (k:aq),look b c=some k->k.agu=false->look (Go.Vs.freeze b l) c=some k:=by
 intro l;induction l with
 | nil=>intro b c k h _; exact h
 | cons x l ih=>
  intro b c k h hk;cases x with
  | none=>exact ih b c k h hk
  | some i=>
   simp only [Go.Vs.freeze];split
   ·rename_i e ks xs hb;refine ih _ c k ?_ hk;rw [bU];by_cases hic:i=c
    ·subst hic; rw [hb] at h; cases h; cases hk
    ·rw [if_neg hic]; exact h
   ·exact ih b c k h hk
theorem CB {i:Nat} {ks:List IntKind} {xs:L2} (hr:rows st i=some (ks,xs)):look (Go.Vs.freeze st.b [some i]) i=some (.ro ks xs):=by
 unfold rows at hr;split at hr
 ·rename_i e ks' xs' hl;cases hr
  simp only [Go.Vs.freeze,hl];rw [bU,if_pos rfl,if_pos (dc hl)]
 ·rename_i ks' xs' hl;cases hr
  simp only [Go.Vs.freeze,hl]
 ·cases hr
end
end Go.Vs
namespace Go.Vs
open Go.RowKit
section
variable {P:Program} {X:Ctx} {β:cR} {st:St} {a:Act} {w:World} {Q:Exit->Act->World->Prop} {K:St->Prop} {Kw:Act->World->Prop} {o:Oper} {wr:Bool}
theorem IN (ks:List IntKind):∀ (xs:L2) (l:Nat),flat ks (xs.drop l)=(flat ks xs).drop (l*ks.length):=by
 intro xs;induction xs with
 | nil=>intro l; simp [flat]
 | cons x xs ih=>
  intro l;cases l with
  | zero=>simp
  | succ l=>
   have hl:(rowOf ks x).length=ks.length:=by simp [rowOf]
   rw [List.drop_succ_cons,ih];have hf:flat ks (x :: xs)=rowOf ks x++flat ks xs:=by simp [flat]
   rw [hf,Nat.add_mul,Nat.one_mul,Nat.add_comm,← List.drop_drop,List.drop_append_of_le_length (by omega),hl.symm,List.drop_length,List.nil_append]
theorem yD (ks:List IntKind):∀ (xs:L2) (l:Nat),flat ks (xs.take l)=(flat ks xs).take (l*ks.length):=by
 intro xs;induction xs with
 | nil=>intro l; simp [flat]
 | cons x xs ih=>
  intro l;cases l with
  | zero=>simp [flat]
  | succ l=>
   have hl:(rowOf ks x).length=ks.length:=by simp [rowOf]
   have hf:∀ ys,flat ks (x :: ys)=rowOf ks x++flat ks ys:=by intro ys; simp [flat]
   rw [List.take_succ_cons,hf,hf,ih,List.take_append,Nat.add_mul,Nat.one_mul,hl,List.take_of_length_le (l:=rowOf ks x) (by omega),Nat.add_sub_cancel]
theorem IT (h:Sat X β st a w) {t e:TypeId} {x:Operand} {lo hi:Option Operand} {b:Nat} {ks:List IntKind} {xs:L2} {l hh:Int} (hop:o.op=.slice t x lo hi none) (he:cN P t=some e)
  (hx:ev st x=some (.sl b)) (hr:rows st b=some (ks,xs))
  (hlo:cutAt st lo 0=some l)
  (hhi:cutAt st hi xs.length=some hh)
  (hsz:eH P e=some ks.length) (hb:0<=l/\l<=hh/\hh<=xs.length)
  (hk:K (St.aN { t:=st.t,b:=Go.Vs.freeze st.b [some b]++[some (.ro ks ((xs.take hh.toNat).drop l.toNat))] } o.dst (.sl st.b.length))) (hA:iV X β st w o wr K Kw):o.wp P a w Kw Q:=by
 have h':=h.freeze [some b];have hfl:=fg [some b] st.b;obtain ⟨A,n,c,ex,hβ⟩:=(bR h hx).gO;obtain ⟨A',n'',c',h1,h2,h3,h4,h5,h6,h7,h8⟩:=ir h.blks hr;rw [hβ] at h1;cases h1
 subst h2;obtain ⟨L,rfl⟩:=Int.eq_ofNat_of_zero_le hb.1;obtain ⟨H,rfl⟩:=Int.eq_ofNat_of_zero_le (Int.le_trans hb.1 hb.2.1);simp only [Int.toNat_natCast] at hk;have hLH:L<=H:=by omega
 have hHn:H<=xs.length:=by omega
 have hu:=jl he
 let A1:Option Addr:=if c=L then A else A.map (·.add (L*ks.length))
 have hrun:(execOp a.eval o).run P w=.ok (.value (.slice A1 (H - L) (c - L))) w:=by
  simp only [execOp,hop];refine Sem.iq ?_;have hlv:lo.map a.eval=none/\L=0∨∃k,lo.map a.eval=some (.int k (L:Int)):=by
   cases lo with
   | none=>simp [cutAt] at hlo; left; exact ⟨rfl,by omega⟩
   | some y=>
    simp only [cutAt] at hlo;split at hlo
    ·rename_i k n hy;cases hlo
     right;exact ⟨k,by simp [(bR h hy).aS.1]⟩
    ·cases hlo
  have hhv:hi.map a.eval=none/\H=xs.length∨∃k,hi.map a.eval=some (.int k (H:Int)):=by
   cases hi with
   | none=>simp [cutAt] at hhi; left; exact ⟨rfl,by omega⟩
   | some y=>
    simp only [cutAt] at hhi;split at hhi
    ·rename_i k n hy;cases hhi
     right;exact ⟨k,by simp [(bR h hy).aS.1]⟩
    ·cases hhi
  have hcH:H<=c:=by omega
  simp only [Instr.sliceAt,Sem.run_bind,run_underlying hu,Result.andThen_ok,ex,Option.map_none];rcases hlv with ⟨e1,rfl⟩ | ⟨k1,e1⟩ <;> rcases hhv with ⟨e2,rfl⟩ | ⟨k2,e2⟩ <;> rw [e1,e2] <;>
   simp [Instr.slice,Instr.sliceBounds,Instr.sliceBound,asIntOf,Sem.run_bind,run_underlying hu,cg hsz,hLH,hcH,A1] <;> omega
 have hnode:∀ {b':OB},b'.length=st.b.length->True:=fun _=>trivial
 have hβn:β st.b.length=none:=h.bound _ (Nat.le_refl _);have hm:=gJ (r:=.slc (.slice A1 (H - L) (c - L))) hβn;have hlook:=CB hr;have hlen:((xs.take H).drop L).length=H - L:=by simp; omega
 have hadd:Sat X (ext β st.b.length (.slc (.slice A1 (H - L) (c - L)))) (St.dO { st with b:=Go.Vs.freeze st.b [some b] } (.ro ks ((xs.take H).drop L))) a w:=by
  have:=h'.add (k:=.ro ks ((xs.take H).drop L)) (r:=.slc (.slice A1 (H - L) (c - L))) (ba.refl w) (fun id _ hown=>by cases hown) ?_ ?_ ?_
  ·rwa [hfl] at this
  ·intro _ d k' id hd hown hu1 hu2;obtain ⟨y,ys,hne⟩:∃y ys,(xs.take H).drop L=y :: ys:=by
    rcases hu2.2 with h0 | ⟨ks',y,ys,e⟩
    ·cases h0
    ·exact ⟨y,ys,by injection e⟩
   have hHL:L < H:=by
    have:=congrArg List.length hne;rw [hlen] at this; simp at this; omega
   obtain ⟨g,o',hA',_⟩:=h7 (by omega)
   have hid:g=id:=by
    have h9:=hu2.1;obtain ⟨ad,e1,e2⟩:=gF h9;simp only [A1,hA'] at e1;rw [if_neg (by omega)] at e1
    simp [iU] at e1;subst e1;exact e2
   subst hid;have hxs:∃x xs',xs=x :: xs':=by
    cases xs with
    | nil=>simp at hHn; omega
    | cons x xs'=>exact ⟨x,xs',rfl⟩
   obtain ⟨x,xs',rfl⟩:=hxs;have e:=h'.disj d b k' (.ro ks (x :: xs')) g hd hlook hown hu1 ⟨.inr ⟨_,_,_,by rw [hβ,hA'],rfl⟩,.inr ⟨ks,x,xs',rfl⟩⟩
   subst e;rw [hlook] at hd;cases hd
   cases hown
  ·intro id hu2;refine ⟨?_,fun h0=>by cases h0⟩
   obtain ⟨y,ys,hne⟩:∃y ys,(xs.take H).drop L=y :: ys:=by
    rcases hu2.2 with h0 | ⟨ks',y,ys,e⟩
    ·cases h0
    ·exact ⟨y,ys,by injection e⟩
   have hHL:L < H:=by
    have:=congrArg List.length hne;rw [hlen] at this; simp at this; omega
   obtain ⟨g,o',hA',_⟩:=h7 (by omega)
   have hid:g=id:=by
    have h9:=hu2.1;obtain ⟨ad,e1,e2⟩:=gF h9;simp only [A1,hA'] at e1;rw [if_neg (by omega)] at e1
    simp [iU] at e1;subst e1;exact e2
   subst hid;have hxs:∃x xs',xs=x :: xs':=by
    cases xs with
    | nil=>simp at hHn; omega
    | cons x xs'=>exact ⟨x,xs',rfl⟩
   obtain ⟨x,xs',rfl⟩:=hxs;exact (h'.frm.apart b (.ro ks (x :: xs')) g hlook ⟨.inr ⟨_,_,_,by rw [hβ,hA'],rfl⟩,.inr ⟨ks,x,xs',rfl⟩⟩).1
  ·rw [hfl];refine ⟨A1,c - L,by rw [cC,hlen],⟨by rw [hlen]; omega,by omega,fun h0=>?_⟩,?_,h6,?_⟩
   ·rw [hlen] at h0;obtain ⟨g,o',hA',hc⟩:=h8.2.2 (by omega)
    refine ⟨g,o' + L*ks.length,?_,fun j u hj=>?_⟩
    ·simp only [A1,hA'];rw [if_neg (by omega)]
     simp [iU]
    ·rw [Nat.add_assoc];refine hc _ u ?_;rw [IN,yD,List.getElem?_drop,List.getElem?_take] at hj;split at hj
     ·exact hj
     ·cases hj
   ·intro x hx;exact h5 x (List.mem_of_mem_take (List.mem_of_mem_drop hx))
   ·intro hne ad hA1;have hHL:L < H:=by
     rcases Nat.lt_or_ge L H with h0 | h0
     ·exact h0
     ·exact absurd (List.eq_nil_of_length_eq_zero (by rw [hlen]; omega)) hne
    obtain ⟨g,o',hA',_⟩:=h7 (by omega)
    simp only [A1,hA'] at hA1;rw [if_neg (by omega)] at hA1
    simp [iU] at hA1;subst hA1;obtain ⟨A2,c2,k1,k2,k3,k4,k5⟩:=h'.blks b _ hlook;rw [hβ] at k1;cases k1
    exact k5 (by intro e; subst e; simp at hHn; omega) ⟨g,o',none⟩ hA'
 have hst:{ t:=st.t,b:=Go.Vs.freeze st.b [some b]++[some (.ro ks ((xs.take H).drop L))] } = St.dO { st with b:=Go.Vs.freeze st.b [some b] } (.ro ks ((xs.take H).drop L)):=rfl
 rw [hst] at hk;refine fh hrun hadd (.sl (cC _ _ _)) hk hA (dL _ _ _) ?_ (fun _=>⟨fun c0 k0 hc0 hk0=>?_,.inl (ba.refl w)⟩)
 ·simp [St.dO,hfl]
 ·simp only [St.dO];rw [cv,if_pos (by rw [hfl]; exact dc hc0)]
  exact ju _ _ c0 k0 hc0 hk0
theorem Il (h:Sat X β st a w) {t e e':TypeId} {x:Operand} {hi:Option Operand} {b:Nat} {ks:List IntKind} {xs:L2} {hh:Int} (hop:o.op=.slice t x none hi none) (he:cN P t=some e)
  (hx:ev st x=some (.sl b)) (hb:look st.b b=some (.row e' ks xs)) (hhi:cutAt st hi xs.length=some hh) (hsz:eH P e=some ks.length) (hc:0<=hh/\hh<=xs.length)
  (hk:K (((st.agc b).dO (.row e' ks (xs.take hh.toNat))).aN o.dst (.sl st.b.length))) (hA:iV X β st w o wr K Kw):o.wp P a w Kw Q:=by
 obtain ⟨A,n,c,ex,hβ⟩:=(bR h hx).gO;obtain ⟨A',n',c',h1,h2,h3,h4⟩:=h.blks b _ hb;rw [hβ] at h1;cases h1
 obtain ⟨H,rfl⟩:=Int.eq_ofNat_of_zero_le hc.1;simp only [Int.toNat_natCast] at hk;have hHn:H<=xs.length:=by omega
 have hu:=jl he;have hnc:n=xs.length/\xs.length<=c:=by
  rcases h2.2 with ⟨e1,e2⟩ | ⟨g,cap,cur,e1,_,_,e2,_⟩
  ·cases e1; exact ⟨e2.symm,by omega⟩
  ·cases e1; exact ⟨rfl,e2⟩
 obtain ⟨hn,hnc⟩:=hnc
 let A1:Option Addr:=if c=0 then A else A.map (·.add (0*ks.length))
 have hA1:A1=A:=by
  simp only [A1];split
  ·rfl
  ·rcases h2.2 with ⟨e1,e2⟩ | ⟨g,cap,cur,e1,_,_,e2,_⟩
   ·cases e1; rfl
   ·cases e1; simp [iU]
 have hrun:(execOp a.eval o).run P w=.ok (.value (.slice A1 H c)) w:=by
  simp only [execOp,hop];refine Sem.iq ?_;have hhv:hi.map a.eval=none/\H=xs.length∨∃k,hi.map a.eval=some (.int k (H:Int)):=by
   cases hi with
   | none=>simp [cutAt] at hhi; left; exact ⟨rfl,by omega⟩
   | some y=>
    simp only [cutAt] at hhi;split at hhi
    ·rename_i k n hy;cases hhi
     right;exact ⟨k,by simp [(bR h hy).aS.1]⟩
    ·cases hhi
  have hcH:H<=c:=by omega
  simp only [Instr.sliceAt,Sem.run_bind,run_underlying hu,Result.andThen_ok,ex,Option.map_none,hn];rcases hhv with ⟨e2,rfl⟩ | ⟨k2,e2⟩ <;> rw [e2] <;>
   simp [Instr.slice,Instr.sliceBounds,Instr.sliceBound,asIntOf,Sem.run_bind,run_underlying hu,cg hsz,hcH,A1] <;> omega
 have hdl:(st.agc b).b.length=st.b.length:=by simp [St.agc]
 have hlook:∀ d k',look (st.agc b).b d=some k'->d≠b/\look st.b d=some k':=by
  intro d k' hd;simp only [St.agc] at hd;rw [bU] at hd;split at hd
  ·split at hd <;> cases hd
  ·rename_i e; exact ⟨fun e'=>e e'.symm,hd⟩
 have hus:∀ id,Uses (ext β st.b.length (.slc (.slice A H c))) st.b.length id->afJ β b (.row e' ks xs) id:=by
  intro id hu;obtain ⟨ad,e1,e2⟩:=gF hu;subst e1;exact ⟨.inr ⟨ad,_,_,hβ,e2⟩,.inl rfl⟩
 have hadd:Sat X (ext β st.b.length (.slc (.slice A H c))) ((st.agc b).dO (.row e' ks (xs.take H))) a w:=by
  have:=(h.agc b).add (k:=.row e' ks (xs.take H)) (r:=.slc (.slice A H c)) (ba.refl w) ?_ ?_ ?_ ?_
  ·rwa [hdl] at this
  ·intro id hu _ d k' hd hu2;rw [hdl] at hu;obtain ⟨hne,hd⟩:=hlook d k' hd;exact hne (h.disj b d _ k' id hb hd rfl (hus id hu) hu2).symm
  ·intro h0; cases h0
  ·intro id hu;rw [hdl] at hu;exact ⟨(h.frm.apart b _ id hb (hus id hu.1)).1,fun _=>(h.frm.apart b _ id hb (hus id hu.1)).2 rfl⟩
  ·rw [hdl];refine ⟨A,H,c,cC _ _ _,⟨by rw [dR],?_⟩,fun y hy=>h3 y (List.mem_of_mem_take hy),h4⟩
   rw [List.length_take,Nat.min_eq_left hHn,yD];rcases h2.2 with ⟨e1,e2⟩ | ⟨g,cap,cur,e1,k1,k2,k3,k4,k5,k6⟩
   ·cases e1; exact .inl ⟨by rw [show H=0 by omega],by omega⟩
   ·cases e1
    refine .inr ⟨g,c,cur,rfl,k1,k2,by omega,k4,k5,?_⟩
    rw [← k6,List.take_take,Nat.min_eq_left (Nat.mul_le_mul_right _ hHn)]
 rw [hA1] at hrun;refine fh hrun hadd (.sl (cC _ _ _)) hk hA (dL _ _ _) ?_ (fun _=>⟨fun c0 k0 hc0 hk0=>?_,.inl (ba.refl w)⟩)
 ·simp [St.dO,hdl]
 ·have hne:c0≠b:=by rintro rfl; rw [hb] at hc0; cases hc0; cases hk0
  simp only [St.dO];rw [cv,if_pos (by rw [hdl]; exact dc hc0)]
  simp only [St.agc];rw [bU,if_neg (fun e=>hne e.symm)]
  exact hc0
theorem Jk {t:TypeId} {n:Nat} {e:TypeId} (h:Rf P t=some (n,e)):P.underlying t=some (.array n e):=by
 unfold Rf at h;split at h
 ·rename_i hu; cases h; exact hu
 ·cases h
theorem Jj (h:Sat X β st a w) {t e t':TypeId} {x:Operand} {b i n:Nat} {k:IntKind} {cells:List IV} {xs:L1} (hop:o.op=.slice t x none none none) (ha:Rf P t=some (n,e))
  (hx:ev st x=some (.ptr b i)) (hb:look st.b b=some (.var t' cells)) (hs:agK ((cells.drop i).take n)=some (k,xs)) (hsz:eH P e=some 1) (hn:xs.length=n) (hm:n<=2 ^ 24)
  (hk:K (((st.agc b).dO (.ro [k] (xs.map fun x=>[x]))).aN o.dst (.sl st.b.length))) (hA:iV X β st w o wr K Kw) (hwr:wr=true):o.wp P a w Kw Q:=by
 obtain ⟨id,ex,hβ⟩:=(bR h hx).gL;obtain ⟨id',cs,h1,h2,h3,h4⟩:=h.blks b _ hb;rw [hβ] at h1;cases h1
 have hu:=Jk ha;have hcells:(cells.drop i).take n=xs.map (IV.int k):=by
  unfold agK at hs;split at hs
  ·rename_i k' hk';simp only [Option.map_eq_some_iff,Prod.mk.injEq] at hs;obtain ⟨ys,hy,rfl,rfl⟩:=hs;exact oW hy
  ·cases hs
 have hcell:∀ j y,xs[j]? = some y->w.cell? ⟨id,i+j,none⟩=some (.int k y)/\dt k y:=by
  intro j y hj;have hjn:j < n:=by have:=(List.getElem?_eq_some_iff.1 hj).1; omega
  have hc:cells[i+j]? = some (.int k y):=by
   have:=congrArg (fun l=>l[j]?) hcells
   simp only [List.getElem?_take,List.getElem?_drop,List.getElem?_map,hj,Option.map_some,if_pos hjn] at this;exact this
  have hlt:i+j < cs.size:=by have:=(List.getElem?_eq_some_iff.1 hc).1; have:=h4.1; omega
  obtain ⟨e1,e2⟩:=(h4.2.2 (i+j) _ _ hc (Array.getElem?_eq_getElem hlt)).aS;refine ⟨?_,e2⟩;rw [← e1];have h5:=Array.getElem?_eq_getElem hlt;simp [World.cell?,h3,h5]
 have hrun:(execOp a.eval o).run P w=.ok (.value (.slice (some ⟨id,i,none⟩) n n)) w:=by
  simp only [execOp,hop];refine Sem.iq ?_;rw [ex];rcases Nat.eq_zero_or_pos n with h0 | h0
  ·subst h0;simp [Instr.sliceAt,Instr.sureAddr,Sem.run_bind,run_underlying hu,Instr.sliceBounds,cg hsz]
  ·simp [Instr.sliceAt,Instr.sureAddr,Sem.run_bind,run_underlying hu,Instr.sliceBounds,cg hsz,iU]
 have hdl:(st.agc b).b.length=st.b.length:=by simp [St.agc]
 have hlook:∀ d k',look (st.agc b).b d=some k'->d≠b/\look st.b d=some k':=by
  intro d k' hd;simp only [St.agc] at hd;rw [bU] at hd;split at hd
  ·split at hd <;> cases hd
  ·rename_i e; exact ⟨fun e'=>e e'.symm,hd⟩
 have hus:∀ d,Uses (ext β st.b.length (.slc (.slice (some ⟨id,i,none⟩) n n))) st.b.length d->afJ β b (.var t' cells) d:=by
  intro d hu;obtain ⟨ad,e1,e2⟩:=gF hu;cases e1
  subst e2;exact ⟨.inl hβ,.inl rfl⟩
 have hflat:flat [k] (xs.map fun x=>[x])=xs.map (Value.int k):=by
  clear hk hs hn hcells hcell;induction xs with
  | nil=>rfl
  | cons x xs ih=>simpa [flat,rowOf] using ih
 have hadd:Sat X (ext β st.b.length (.slc (.slice (some ⟨id,i,none⟩) n n))) ((st.agc b).dO (.ro [k] (xs.map fun x=>[x]))) a w:=by
  have:=(h.agc b).add (k:=.ro [k] (xs.map fun x=>[x])) (r:=.slc (.slice (some ⟨id,i,none⟩) n n)) (ba.refl w) ?_ ?_ ?_ ?_
  ·rwa [hdl] at this
  ·intro _ _ hown; cases hown
  ·intro _ d k' id2 hd hown hu1 hu2;rw [hdl] at hu2;obtain ⟨hne,hd⟩:=hlook d k' hd;exact hne (h.disj b d _ k' id2 hb hd rfl (hus id2 hu2.1) hu1).symm
  ·intro id2 hu2;rw [hdl] at hu2;exact ⟨(h.frm.apart b _ id2 hb (hus id2 hu2.1)).1,fun h0=>by cases h0⟩
  ·rw [hdl];refine ⟨some ⟨id,i,none⟩,n,by rw [cC]; simp [hn],⟨by simp [hn],by simp only [maxLen]; omega,fun _=>⟨id,i,rfl,fun j u hj=>?_⟩⟩,?_,by simp,fun _ ad had=>?_⟩
   ·rw [hflat,List.getElem?_map,Option.map_eq_some_iff] at hj;obtain ⟨y,hy,rfl⟩:=hj;exact (hcell j y hy).1
   ·intro x hx j hj;simp only [List.mem_map] at hx;obtain ⟨y,hy,rfl⟩:=hx;simp only [List.length_cons,List.length_nil] at hj;obtain ⟨m,hm⟩:=List.mem_iff_getElem?.1 hy;have:j=0:=by omega
    subst this;exact (hcell m y hm).2
   ·cases had; exact .inr h2
 refine fh hrun hadd (.sl (cC _ _ _)) hk hA (dL _ _ _) ?_ (fun h0=>by rw [hwr] at h0; cases h0)
 simp [St.dO,hdl]
theorem Ev {ks:List IntKind} {ys:L2} {A:Option Addr} {c:Nat} (hr:Reads w ks A c ys) (h0:0 < ys.length):
  ∃ad:Addr,A=some ad/\∀ j u,(flat ks ys)[j]? = some u->w.cell? (ad.add j)=some u:=by
 obtain ⟨g,o',e,hc⟩:=hr.2.2 h0;exact ⟨⟨g,o',none⟩,e,fun j u hj=>by rw [iU]; exact hc j u hj⟩
theorem Mc {ks:List IntKind} {ys:L2}:∀ u∈flat ks ys,u.oneCell' = true:=by
 intro u hu;simp only [flat,List.mem_flatMap,rowOf,List.mem_map] at hu;obtain ⟨x,_,j,_,rfl⟩:=hu
 rfl
theorem xv {base:Nat} {t ty e:TypeId} {ks:List IntKind} {by_:Nat} (he:cN P t=some e) (hks:kinds P e=some ks) (hby:lX P e=some by_) (hbase:base<=w.heap.size)
  {v:Value} {xs ys:L2} (hown:w.ownsRow base e ks.length v xs.length (flat ks xs)) {A:Option Addr} {c:Nat} (hr:Reads w ks A c ys) (hb:(xs.length+ys.length)*by_<=140737488355328):
  ∃v' w',(Builtin.append_ #[t,t] ty #[v,.slice A ys.length c]).run P w=.ok v' w'/\w'.ownsRow base e ks.length v' (xs++ys).length (flat ks (xs++ys))/\w.grownBy w' v.ownBlock/\
   (v'.ownBlock=v.ownBlock∨v'.ownBlock=some w.heap.size):=by
 obtain ⟨i,z,hi,hz,hsz,hzc,hpos,hb0⟩:=gP hks;have hib:i.bytes=by_:=by simpa [lX,hi] using hby
 have hu:=jl he;have hzs:z.cells.size=ks.length:=by have:=congrArg List.length hzc; simpa using this
 rw [List.length_append,CC];rcases Nat.eq_zero_or_pos ys.length with h0 | h0
 ·have:ys=[]:=List.eq_nil_of_length_eq_zero h0;subst this;have hfl:flat ks ([]:L2)=[]:=rfl;rw [hfl];simp only [List.length_nil,Nat.add_zero,List.append_nil];refine ⟨v,w,?_,hown,⟨rfl,rfl,rfl,Nat.le_refl _,fun _ _ _=>rfl⟩,.inl rfl⟩
  rcases hown.2 with ⟨rfl,h1⟩ | ⟨g,cap,cur,rfl,_,_,hnc,_⟩
  ·cases A <;> simp [Builtin.append_,run_underlying hu,sizeOf,typeInfo,hi,Builtin.lenOf,Builtin.firstCells,loadCells,loadCellsFrom,h1]
  ·cases A <;> simp [Builtin.append_,run_underlying hu,sizeOf,typeInfo,hi,Builtin.lenOf,Builtin.firstCells,hnc,storeCells,loadCells,loadCellsFrom]
 ·obtain ⟨ad,rfl,hc⟩:=Ev hr h0;have hle:(xs.length+ys.length)<=(xs.length+ys.length)*i.bytes:=Nat.le_mul_of_pos_right _ hb0;rw [hib] at hle;obtain ⟨v',w',k1,k2,k3,k4,k5⟩:=run_append_own_at (P:=P) w base t ty e i z ks.length by_ hu hi hz hsz hib hzs hpos v xs.length (flat ks xs) hown ad ys.length c (flat ks ys) (dR ks ys) hc Mc
   (by simp only [maxLen]; omega) hb hbase
  exact ⟨v',w',k1,k2,k3,k5⟩
theorem xG {ks:List IntKind} {xs ys:L2} (h1:aI ks xs) (h2:aI ks ys):aI ks (xs++ys):=by
 intro x hx;rcases List.mem_append.1 hx with h | h
 ·exact h1 x h
 ·exact h2 x h
theorem Cy {w':World} {id:Nat} (h:w.grownBy w' (some id)):C5 w w' id:=⟨h.os,h.tape,h.output,h.size,fun i hi hne=>h.block i hi (by simpa using hne)⟩
theorem mT {w':World} (h:w.grownBy w' none):ba w w':=⟨h.os,h.tape,h.output,h.size,fun i hi=>h.block i hi (by simp)⟩
theorem AL (h:Sat X β st a w) {t e:TypeId} {s x:Operand} {b d:Nat} {ks:List IntKind} {by_:Nat} {xs ys:L2}
  (hop:o.op=.call { callee:=.builtin .append,args:=#[s,x],argTypes:=#[t,t] }) (he:cN P t=some e) (hks:kinds P e=some ks) (hby:lX P e=some by_)
  (hs:ev st s=some (.sl b)) (hx:ev st x=some (.sl d)) (hb:look st.b b=some (.row e ks xs)) (hd:rows st d=some (ks,ys)) (hbd:b≠d)
  (hbytes:(xs.length+ys.length)*by_<=140737488355328) (hk:K (St.aN ((st.agc b).dO (.row e ks (xs++ys))) o.dst (.sl st.b.length))) (hA:iV X β st w o wr K Kw):o.wp P a w Kw Q:=by
 obtain ⟨A,n,c,h1,h2,h3,hpos⟩:=h.blks b _ hb;obtain ⟨Ad,nd,cd,exd,hβd⟩:=(bR h hx).gO;obtain ⟨Ad',nd',cd',k1,k2,k3,k4,k5,k6,k7,k8⟩:=ir h.blks hd;rw [hβd] at k1;cases k1
 subst k2;obtain ⟨As,ns,cs,exs,hβs⟩:=(bR h hs).gO;rw [h1] at hβs;cases hβs
 obtain ⟨v',w',r1,r2,r3,r4⟩:=xv (P:=P) (ty:=o.type) he hks hby h.le h2 k8 hbytes;have hrun:(execOp a.eval o).run P w=.ok (.value v') w':=by
  simp only [execOp,hop];simp [resolve,invoke,builtin,exs,exd,r1]
 have hv':∃A1 n1 c1,v' = .slice A1 n1 c1:=by
  rcases r2.2 with ⟨rfl,_⟩ | ⟨g,cap,cur,rfl,_⟩
  ·exact ⟨none,0,0,rfl⟩
  ·exact ⟨_,_,_,rfl⟩
 obtain ⟨A1,n1,c1,rfl⟩:=hv';have hd':=h.agc b;have hrest:Sat X β (st.agc b) a w':=by
  cases hAb:A with
  | none=>
   subst hAb;exact hd'.keeps (mT (by simpa [Value.ownBlock] using r3))
  | some ad=>
   subst hAb;have hbut:C5 w w' ad.block:=Cy (by simpa [Value.ownBlock] using r3)
   have hBad:X.B<=ad.block:=(h2.lt ad.block rfl).1;refine ⟨hd'.len,hd'.tmps,fun c0 k0 hc0=>(hd'.blks c0 k0 hc0).Yf hbut (fun hu=>?_),hd'.disj,hd'.bound,
    hd'.below.trans ⟨hbut.os,hbut.tape,hbut.output,hbut.size,fun i hi=>hbut.block i (Nat.lt_of_lt_of_le hi hd'.le) (by omega)⟩,⟨Nat.le_trans hd'.le hbut.size,fun i hi=>⟨Nat.lt_of_lt_of_le (hd'.frm.fr i hi).1 hbut.size,(hbut.block i (hd'.frm.fr i hi).1 (by
     rintro rfl;exact (h.frm.apart b _ ad.block hb ⟨.inr ⟨ad,n,c,h1,rfl⟩,.inl rfl⟩).2 rfl hi)).trans (hd'.frm.fr i hi).2⟩,hd'.frm.fo,hd'.frm.apart⟩,hd'.defers.cQ (hbut.deferred (kC (h.blks b _ hb) ⟨.inr ⟨ad,n,c,h1,rfl⟩,.inl rfl⟩))⟩
   have hc1:look st.b c0=some k0/\c0≠b:=by
    simp only [St.agc] at hc0;rw [bU] at hc0;split at hc0
    ·split at hc0 <;> cases hc0
    ·rename_i hne; exact ⟨hc0,fun e=>hne e.symm⟩
   exact hc1.2 (h.disj b c0 _ k0 ad.block hb hc1.1 rfl ⟨.inr ⟨ad,n,c,h1,rfl⟩,.inl rfl⟩ hu).symm
 have hlen:(st.agc b).b.length=st.b.length:=by simp [St.agc]
 have hadd:=hrest.add (k:=.row e ks (xs++ys)) (r:=.slc (.slice A1 n1 c1)) (ba.refl w') ?_ (fun h0=>by cases h0) ?_ ?_
 ·rw [hlen] at hadd;refine fh hrun hadd (.sl (cC _ _ _)) hk hA (dL _ _ _) (by simp [St.dO,hlen]) (fun _=>⟨fun c0 k0 hc0 hk0=>?_,?_⟩)
  ·simp only [St.dO];rw [cv,if_pos (by rw [hlen]; exact dc hc0)]
   simp only [St.agc];rw [bU];by_cases hbc:b=c0
   ·subst hbc; rw [hb] at hc0; cases hc0; cases hk0
   ·rw [if_neg hbc]; exact hc0
  ·cases hAb:A with
   | none=>subst hAb; exact .inl (mT (by simpa [Value.ownBlock] using r3))
   | some ad=>
    subst hAb;exact .inr ⟨by simp [cq,hop],b,e,ks,xs,ad.block,hb,.inr ⟨ad,n,c,h1,rfl⟩,Cy (by simpa [Value.ownBlock] using r3)⟩
 ·intro id hu _ c0 k0 hc0 hu0;rw [hlen] at hu;have hc1:look st.b c0=some k0/\c0≠b:=by
   simp only [St.agc] at hc0;rw [bU] at hc0;split at hc0
   ·split at hc0 <;> cases hc0
   ·rename_i hne; exact ⟨hc0,fun e=>hne e.symm⟩
  obtain ⟨ad,rfl,rfl⟩:=gF hu;rcases r4 with r4 | r4
  ·cases hAb:A with
   | none=>rw [hAb] at r4; simp [Value.ownBlock] at r4
   | some ad2=>
    rw [hAb] at r4;simp only [Value.ownBlock,Option.some.injEq] at r4;exact hc1.2 (h.disj b c0 _ k0 ad.block hb hc1.1 rfl ⟨.inr ⟨ad2,n,c,by rw [h1,hAb],r4.symm⟩,.inl rfl⟩ hu0).symm
  ·simp only [Value.ownBlock,Option.some.injEq] at r4;have:=oY (h.blks c0 k0 hc1.1) hu0;omega
 ·intro id hu;rw [hlen] at hu;obtain ⟨ad,rfl,rfl⟩:=gF hu.1;rcases r4 with r4 | r4
  ·cases hAb:A with
   | none=>rw [hAb] at r4; simp [Value.ownBlock] at r4
   | some ad2=>
    rw [hAb] at r4;simp only [Value.ownBlock,Option.some.injEq] at r4;have:=h.frm.apart b _ ad.block hb ⟨.inr ⟨ad2,n,c,by rw [h1,hAb],r4.symm⟩,.inl rfl⟩
    exact ⟨this.1,fun _=>this.2 rfl⟩
  ·simp only [Value.ownBlock,Option.some.injEq] at r4;have:=h.frm.new (id:=ad.block) (by omega)
   exact ⟨this.1,fun _=>this.2⟩
 ·rw [hlen];exact ⟨A1,n1,c1,cC _ _ _,r2,xG h3 k5,hpos⟩
theorem va (h:Sat X β st a w) {t e:TypeId} {s x:Operand} {d:Nat} {ks:List IntKind} {by_:Nat} {ys:L2}
  (hop:o.op=.call { callee:=.builtin .append,args:=#[s,x],argTypes:=#[t,t] }) (he:cN P t=some e) (hks:kinds P e=some ks) (hby:lX P e=some by_)
  (hs:ev st s=some .nils) (hx:ev st x=some (.sl d)) (hd:rows st d=some (ks,ys))
  (hbytes:ys.length*by_<=140737488355328) (hk:K (St.aN (st.dO (.row e ks ys)) o.dst (.sl st.b.length))) (hA:iV X β st w o wr K Kw):o.wp P a w Kw Q:=by
 obtain ⟨Ad,nd,cd,exd,hβd⟩:=(bR h hx).gO;obtain ⟨Ad',nd',cd',k1,k2,k3,k4,k5,k6,k7,k8⟩:=ir h.blks hd;rw [hβd] at k1;cases k1
 subst k2;have exs:=(bR h hs).gI;obtain ⟨v',w',r1,r2,r3,r4⟩:=xv (P:=P) (ty:=o.type) (xs:=[]) he hks hby h.le (World.ownsRow_nil w X.B e ks.length) k8 (by simpa using hbytes)
 have hrun:(execOp a.eval o).run P w=.ok (.value v') w':=by
  simp only [execOp,hop];simp [resolve,invoke,builtin,exs,exd,r1]
 have hv':∃A1 n1 c1,v' = .slice A1 n1 c1:=by
  rcases r2.2 with ⟨rfl,_⟩ | ⟨g,cap,cur,rfl,_⟩
  ·exact ⟨none,0,0,rfl⟩
  ·exact ⟨_,_,_,rfl⟩
 obtain ⟨A1,n1,c1,rfl⟩:=hv';have hrest:Sat X β st a w':=h.keeps (mT (by simpa [Value.ownBlock] using r3))
 have hadd:=hrest.add (k:=.row e ks ys) (r:=.slc (.slice A1 n1 c1)) (ba.refl w') ?_ (fun h0=>by cases h0) ?_ ?_
 ·exact fh hrun hadd (.sl (cC _ _ _)) hk hA (dL _ _ _) (lz _ _) (fun _=>Rel.new (mT (by simpa [Value.ownBlock] using r3)))
 ·intro id hu _ c0 k0 hc0 hu0;obtain ⟨ad,rfl,rfl⟩:=gF hu;rcases r4 with r4 | r4
  ·simp [Value.ownBlock] at r4
  ·simp only [Value.ownBlock,Option.some.injEq] at r4;have:=oY (h.blks c0 k0 hc0) hu0;omega
 ·intro id hu;obtain ⟨ad,rfl,rfl⟩:=gF hu.1;rcases r4 with r4 | r4
  ·simp [Value.ownBlock] at r4
  ·simp only [Value.ownBlock,Option.some.injEq] at r4;have:=h.frm.new (id:=ad.block) (by omega)
   exact ⟨this.1,fun _=>this.2⟩
 ·exact ⟨A1,n1,c1,cC _ _ _,by simpa using r2,k5,k6⟩
end
end Go.Vs
namespace Go.Vs
open Go.RowKit
def aa (P:Program) (f:FuncId) (sp:Spec):Prop:=
 ∀ (as:List IV) (bs:List aq) (X:Ctx) (β:cR) (w:World) (vs:Array Value),X.w0=w->X.B=w.heap.size->di X β (bs.map some) w->(∀ k∈bs,k.own=false)->
  as.length=vs.size->(∀ (i:Nat) c v,as[i]? = some c->vs[i]? = some v->bP β c v)->sp.pre as bs->
  Calls P f vs w fun e w'=>∃u β',e=.returned u/\ba w w'/\bP β' (sp.F as bs).1 u/\di X β' ((sp.F as bs).2.map some) w'/\(sp.F as bs).2.all aq.isSlice=true
section
variable {P:Program} {X:Ctx} {β:cR} {st:St} {a:Act} {w:World} {Q:Exit->Act->World->Prop} {K:St->Prop} {Kw:Act->World->Prop} {o:Oper}
theorem E6 {g:FuncId} (h:enters P g=true) (args:Array Value) (w:World):(callFunc g args).run P w=.ok (.enter g args) w:=by
 unfold enters at h
 split at h
 ·rename_i fn hfn
  simp only [Bool.and_eq_true,Bool.not_eq_true',Option.isSome_iff_ne_none] at h
  have h1 : ¬ fn.name = "runtime.NumGoroutine" := by simpa using h.1
  unfold callFunc
  simp [Sem.run_bind,hfn,h1,Option.isNone_iff_eq_none,h.2]
 ·cases h
theorem qS {f:Operand} {args:Array Operand} {tys:Array TypeId} {g:FuncId} {caps:Array Value} (hop:o.op=.call { callee:=.value f,args:=args,argTypes:=tys }) (hf:a.eval f=.func (.func g) #[] caps)
  (hE:enters P g=true) {R:Ending->World->Prop} (h:Calls P g (args.map a.eval++caps) w R) (hR:∀ e w',R e w'->∃u,e=.returned u/\Kw (a.put o.dst u) w'):o.wp P a w Kw Q:=by
 unfold Oper.wp;have hrun:(execOp a.eval o).run P w=.ok (.enter g (args.map a.eval++caps)) w:=by
  simp only [execOp,hop];simp [resolve,hf,Deferred.ofValue,invoke,E6 hE]
 rw [hrun];refine h.mono fun e w' he=>?_
 obtain ⟨u,rfl,hk⟩:=hR e w' he;exact hk
def agn (β:cR) (acc:List (aq × Option Nat)):cR:=fun j=>match acc[j]? with
 | some (_,some i)=>β i
 | some (_,none)=>some (.slc (.slice none 0 0))
 | none=>none
def sG (st:St) (acc:List (aq × Option Nat)):Prop:=∀ p∈acc,(∃ks xs i,p=(.ro ks xs,some i)/\rows st i=some (ks,xs))∨∃ks,p=(.ro ks [],none)/\0 < ks.length
theorem xu {acc acc':List (aq × Option Nat)} (h:acc <+:acc'):∀ b r,agn β acc b=some r->agn β acc' b=some r:=by
 obtain ⟨l,rfl⟩:=h;intro b r hb;unfold agn at *;cases hq:acc[b]? with
 | none=>rw [hq] at hb; cases hb
 | some p=>
  have hlt:=(List.getElem?_eq_some_iff.1 hq).1;rw [List.getElem?_append_left hlt,hq];rw [hq] at hb;exact hb
theorem ug {t:TypeId} {c c':IV} {acc acc':List (aq × Option Nat)} {u:Value} (hr:bP β c u) (h:rM P st t c acc=some (c',acc')) (ho:sG st acc):
  acc <+:acc'/\bP (agn β acc') c' u/\sG st acc':=by
 unfold rM at h;split at h
 ·cases h; exact ⟨List.prefix_refl _,by rw [hr.aS.1]; exact .int hr.aS.2,ho⟩
 ·cases h; exact ⟨List.prefix_refl _,by rw [hr.eC]; exact .bool,ho⟩
 ·rename_i b;split at h
  ·rename_i ks xs hrows;cases h
   refine ⟨⟨_,rfl⟩,?_,?_⟩
   ·obtain ⟨A,n,cp,rfl,hβ⟩:=hr.gO;refine .sl ?_;simp [agn,hβ]
   ·intro p hp;rcases List.mem_append.1 hp with hp | hp
    ·exact ho p hp
    ·simp at hp; subst hp; exact .inl ⟨ks,xs,b,rfl,hrows⟩
  ·cases h
 ·split at h
  ·rename_i ks hk;cases h
   have hpos:0 < ks.length:=by
    cases he:cN P t with
    | none=>rw [he] at hk; simp at hk
    | some e=>
     rw [he] at hk;simp at hk;obtain ⟨_,_,_,_,_,_,hp,_⟩:=gP hk;exact hp
   refine ⟨⟨_,rfl⟩,?_,?_⟩
   ·have:=hr.gI;subst this;refine .sl ?_;simp [agn]
   ·intro p hp;rcases List.mem_append.1 hp with hp | hp
    ·exact ho p hp
    ·simp at hp; subst hp; exact .inr ⟨ks,rfl,hpos⟩
  ·cases h
 ·cases h
theorem B1:∀ {cs:List IV} {ts:List TypeId} {cs':List IV} {acc acc':List (aq × Option Nat)} {us:List Value},cs.length=us.length->(∀ (i:Nat) c v,cs[i]? = some c->us[i]? = some v->bP β c v)->
  kL P st ts cs acc=some (cs',acc')->sG st acc->
  acc <+:acc'/\cs'.length=us.length/\(∀ (i:Nat) c v,cs'[i]? = some c->us[i]? = some v->bP (agn β acc') c v)/\sG st acc':=by
 intro cs;induction cs with
 | nil=>
  intro ts cs' acc acc' us hl hr h ho;cases ts <;> simp [kL] at h <;> obtain ⟨rfl,rfl⟩:=h <;> exact ⟨List.prefix_refl _,hl,by simp,ho⟩
 | cons c cs ih=>
  intro ts cs' acc acc' us hl hr h ho;cases ts with
  | nil=>simp [kL] at h
  | cons t ts=>
   cases us with
   | nil=>simp at hl
   | cons u us=>
    simp only [kL] at h;split at h
    ·rename_i c1 acc1 h1;split at h
     ·rename_i cs1 acc2 h2;cases h
      obtain ⟨p1,r1,o1⟩:=ug (hr 0 c u rfl rfl) h1 ho;obtain ⟨p2,l2,r2,o2⟩:=ih (by simpa using hl) (fun i c v hc hv=>hr (i+1) c v (by simpa using hc) (by simpa using hv)) h2 o1
      refine ⟨p1.trans p2,by simp [l2],?_,o2⟩
      intro i c' v hc hv;cases i with
      | zero=>simp at hc hv; subst hc; subst hv; exact r1.mono (xu p2)
      | succ i=>simp at hc hv; exact r2 i c' v hc hv
     ·cases h
    ·cases h
theorem BZ {t:TypeId} {c c':IV} {acc acc':List (aq × Option Nat)} {u:Value} (hr:bP β c u) (h:ue P st t c acc=some (c',acc')) (ho:sG st acc):
  acc <+:acc'/\bP (agn β acc') c' u/\sG st acc':=by
 unfold ue at h;split at h
 ·rename_i cs;split at h
  ·rename_i cs1 acc1 h1;cases h
   obtain ⟨xs,rfl,hx⟩:=hr.iT;obtain ⟨p1,l1,r1,o1⟩:=B1 (us:=xs.toList) (by simpa using hx.1) (fun i c v hc hv=>hx.2.2 i c v hc (by simpa using hv)) h1 ho
   exact ⟨p1,.agg (by simpa using l1) hx.2.1 (fun i c v hc hv=>r1 i c v hc (by simpa using hv)),o1⟩
  ·cases h
 ·exact ug hr h ho
theorem rK:∀ {cs:List IV} {ts:List TypeId} {cs':List IV} {acc acc':List (aq × Option Nat)} {us:List Value},cs.length=us.length->(∀ (i:Nat) c v,cs[i]? = some c->us[i]? = some v->bP β c v)->
  fJ P st ts cs acc=some (cs',acc')->sG st acc->
  acc <+:acc'/\cs'.length=us.length/\(∀ (i:Nat) c v,cs'[i]? = some c->us[i]? = some v->bP (agn β acc') c v)/\sG st acc':=by
 intro cs;induction cs with
 | nil=>
  intro ts cs' acc acc' us hl hr h ho;cases ts <;> simp [fJ] at h <;> obtain ⟨rfl,rfl⟩:=h <;> exact ⟨List.prefix_refl _,hl,by simp,ho⟩
 | cons c cs ih=>
  intro ts cs' acc acc' us hl hr h ho;cases ts with
  | nil=>simp [fJ] at h
  | cons t ts=>
   cases us with
   | nil=>simp at hl
   | cons u us=>
    simp only [fJ] at h;split at h
    ·rename_i c1 acc1 h1;split at h
     ·rename_i cs1 acc2 h2;cases h
      obtain ⟨p1,r1,o1⟩:=BZ (hr 0 c u rfl rfl) h1 ho;obtain ⟨p2,l2,r2,o2⟩:=ih (by simpa using hl) (fun i c v hc hv=>hr (i+1) c v (by simpa using hc) (by simpa using hv)) h2 o1
      refine ⟨p1.trans p2,by simp [l2],?_,o2⟩
      intro i c' v hc hv;cases i with
      | zero=>simp at hc hv; subst hc; subst hv; exact r1.mono (xu p2)
      | succ i=>simp at hc hv; exact r2 i c' v hc hv
     ·cases h
    ·cases h
def kv (st:St) (β:cR) (w:World) (used:List (Option Nat)):Ctx:={ w0:=w,B:=w.heap.size,A0:=fun id=>∃i ks x xs,some i∈used/\rows st i=some (ks,x :: xs)/\Uses β i id }
theorem xo {acc:List (aq × Option Nat)} (hb:∀ b k,look st.b b=some k->gi X β w b k) (ho:sG st acc):
  di (kv st β w (acc.map (·.2))) (agn β acc) ((acc.map (·.1)).map some) w/\∀ k∈acc.map (·.1),k.own=false:=by
 have hro:∀ k∈acc.map (·.1),k.own=false:=by
  intro k hk;obtain ⟨p,hp,rfl⟩:=List.mem_map.1 hk;rcases ho p hp with ⟨ks,xs,i,rfl,_⟩ | ⟨ks,rfl,_⟩ <;> rfl
 have lk:∀ j k,look ((acc.map (·.1)).map some) j=some k->∃p,acc[j]? = some p/\p.1=k:=by
  intro j k hj;rw [bJ] at hj;simp only [List.getElem?_map,Option.map_eq_some_iff] at hj;obtain ⟨x,⟨p,hp,rfl⟩,hx⟩:=hj;cases hx
  exact ⟨p,hp,rfl⟩
 refine ⟨⟨rfl,fun i v hv=>by simp [look_nil,bX,bY] at hv,?_,?_,?_,Below.refl _ _,⟨Nat.le_refl _,fun _ hf=>hf.elim,fun _ hf=>hf.elim,fun _ _ _ _ _=>⟨fun hf=>hf,fun _ hf=>hf⟩⟩,.nil⟩,hro⟩
 ·intro j k hj;obtain ⟨p,hp,rfl⟩:=lk j k hj;have hmem:p∈acc:=List.mem_of_getElem? hp;rcases ho p hmem with ⟨ks,xs,i,rfl,hr⟩ | ⟨ks,rfl,hpos⟩
  ·obtain ⟨A,n,c,h1,h2,h3,h4,h5,h6,h7,h8⟩:=ir hb hr;subst h2;refine ⟨A,c,by simp [agn,hp,h1],h8,h5,h6,fun hne ad hA=>.inl ?_⟩
   obtain ⟨x,xs',rfl⟩:∃x xs',xs=x :: xs':=by
    cases xs with
    | nil=>exact absurd rfl hne
    | cons x xs'=>exact ⟨x,xs',rfl⟩
   exact ⟨i,ks,x,xs',List.mem_map.2 ⟨_,hmem,rfl⟩,hr,.inr ⟨ad,_,c,by rw [h1,hA],rfl⟩⟩
  ·exact ⟨none,0,by simp [agn,hp],⟨by simp,Nat.zero_le _,fun h0=>by simp at h0⟩,fun x hx=>by simp at hx,hpos,fun h0=>absurd rfl h0⟩
 ·intro b c k k' id hb1 _ hown;obtain ⟨p,hp,rfl⟩:=lk b k hb1;have:=hro p.1 (List.mem_map.2 ⟨p,List.mem_of_getElem? hp,rfl⟩);rw [this] at hown; cases hown
 ·intro b hb1;simp only [List.length_map] at hb1;simp [agn,List.getElem?_eq_none hb1]
mutual
theorem Gh {β β':cR} {ρ:Nat->Option Nat} (hρ:∀ b b',ρ b=some b'->∀ r,β b=some r->β' b' = some r):∀ {v:IV} {u:Value},bP β v u->(∀ vs,v=.tup vs->True)->(u.oneCell' = true∨(∃cs,v=.agg cs)∨∃vs,v=.tup vs)->bP β' (BC ρ v) u
 | .int k n,u,h,_,_=>by rw [h.aS.1]; exact .int h.aS.2
 | .bool b,u,h,_,_=>by rw [h.eC]; exact .bool
 | .nilp,u,h,_,_=>by cases h; exact .nilp
 | .nils,u,h,_,_=>by rw [h.gI]; exact .nils
 | .nilf,u,h,_,_=>by cases h; exact .nilf
 | .unk,u,h,_,_=>by cases h; exact .unk ‹_›
 | .fn f cs,u,h,_,_=>by
  obtain ⟨xs,rfl,hl,hr⟩:=h.oF;obtain ⟨l1,r1⟩:=mg hρ (cs:=cs) (xs:=xs.toList) (by simpa using hl) (fun i c v hc hv=>hr i c v hc (by simpa using hv))
  exact .fn (by simpa using l1) (fun i c v hc hv=>r1 i c v hc (by simpa using hv))
 | .ptr b o,u,h,_,h1=>by
  simp only [BC];cases hb:ρ b with
  | none=>obtain ⟨id,rfl,_⟩:=h.gL; exact .unk rfl
  | some b'=>obtain ⟨id,rfl,hβ⟩:=h.gL; exact .ptr (hρ b b' hb _ hβ)
 | .pdyn b o i,u,h,_,h1=>by
  simp only [BC];cases hb:ρ b with
  | none=>cases h; exact .unk rfl
  | some b'=>cases h; exact .pdyn (hρ b b' hb _ ‹_›)
 | .prow b i sz f,u,h,_,h1=>by
  simp only [BC];cases hb:ρ b with
  | none=>cases h; exact .unk rfl
  | some b'=>cases h; exact .prow (hρ b b' hb _ ‹_›)
 | .prowd b i sz f j,u,h,_,h1=>by
  simp only [BC];cases hb:ρ b with
  | none=>cases h; exact .unk rfl
  | some b'=>cases h; exact .prowd (hρ b b' hb _ ‹_›)
 | .sl b,u,h,_,h1=>by
  simp only [BC];cases hb:ρ b with
  | none=>obtain ⟨A,n,c,rfl,_⟩:=h.gO; exact .unk rfl
  | some b'=>obtain ⟨A,n,c,rfl,hβ⟩:=h.gO; exact .sl (hρ b b' hb _ hβ)
 | .agg cs,u,h,_,_=>by
  obtain ⟨xs,rfl,hl,hone,hr⟩:=h.iT;obtain ⟨l1,r1⟩:=mg hρ (cs:=cs) (xs:=xs.toList) (by simpa using hl) (fun i c v hc hv=>hr i c v hc (by simpa using hv))
  exact .agg (by simpa using l1) hone (fun i c v hc hv=>r1 i c v hc (by simpa using hv))
 | .tup cs,u,h,_,_=>by
  obtain ⟨xs,rfl,hl,hr⟩:=h.oZ;obtain ⟨l1,r1⟩:=mg hρ (cs:=cs) (xs:=xs.toList) (by simpa using hl) (fun i c v hc hv=>hr i c v hc (by simpa using hv))
  exact .tup (by simpa using l1) (fun i c v hc hv=>r1 i c v hc (by simpa using hv))
theorem mg {β β':cR} {ρ:Nat->Option Nat} (hρ:∀ b b',ρ b=some b'->∀ r,β b=some r->β' b' = some r):∀ {cs:List IV} {xs:List Value},cs.length=xs.length->(∀ (i:Nat) c v,cs[i]? = some c->xs[i]? = some v->bP β c v)->
  (wC ρ cs).length=xs.length/\∀ (i:Nat) c v,(wC ρ cs)[i]? = some c->xs[i]? = some v->bP β' c v
 | [],xs,hl,_=>by simpa [wC] using hl
 | c :: cs,[],hl,_=>by simp at hl
 | c :: cs,x :: xs,hl,hr=>by
  obtain ⟨l1,r1⟩:=mg hρ (cs:=cs) (xs:=xs) (by simpa using hl) (fun i c v hc hv=>hr (i+1) c v (by simpa using hc) (by simpa using hv))
  refine ⟨by simp [wC,l1],?_⟩
  intro i c' v hc hv;have h0:=hr 0 c x rfl rfl;cases i with
  | zero=>
   simp [wC] at hc hv;subst hc; subst hv;refine Gh hρ h0 (fun _ _=>trivial) ?_
   cases c with
   | agg cs=>exact .inr (.inl ⟨_,rfl⟩)
   | tup cs=>exact .inr (.inr ⟨_,rfl⟩)
   | _=>exact .inl (h0.one rfl)
  | succ i=>simp [wC] at hc hv; exact r1 i c' v hc hv
end
theorem rC {β β':cR} {ρ:Nat->Option Nat} (hρ:∀ b b',ρ b=some b'->∀ r,β b=some r->β' b' = some r) {v:IV} {u:Value} (h:bP β v u):bP β' (BC ρ v) u:=by
 refine Gh hρ h (fun _ _=>trivial) ?_
 cases v with
 | agg cs=>exact .inr (.inl ⟨_,rfl⟩)
 | tup cs=>exact .inr (.inr ⟨_,rfl⟩)
 | _=>exact .inl (h.one rfl)
end
end Go.Vs
namespace Go.Vs
open Go.RowKit
section
variable {P:Program} {X:Ctx} {β:cR} {st:St} {a:Act} {w:World} {Q:Exit->Act->World->Prop} {K:St->Prop} {Kw:Act->World->Prop} {o:Oper} {wr:Bool}
def pZ (β:cR) (n:Nat) (β':cR):cR:=fun b=>if b < n then β b else β' (b - n)
theorem jI {β β':cR} {n b:Nat} (h:b < n):pZ β n β' b=β b:=by simp [pZ,h]
theorem jJ {β β':cR} {n j:Nat}:pZ β n β' (n+j)=β' j:=by
 unfold pZ; rw [if_neg (by omega)]; congr 1; omega
theorem Uses.congr {β β':cR} {b b' id:Nat} (h:β b=β' b') (hu:Uses β b id):Uses β' b' id:=by unfold Uses at *; rwa [h] at hu
theorem zY {w:World} {B B':Nat} {e:TypeId} {size:Nat} {v:Value} {n:Nat} {xs:List Value} (h:w.ownsRow B e size v n xs) (hB:B' ≤ B):w.ownsRow B' e size v n xs:=by
 refine ⟨h.1,?_⟩;rcases h.2 with h1 | ⟨g,cap,cur,h1,h2,h3⟩
 ·exact .inl h1
 ·exact .inr ⟨g,cap,cur,h1,Nat.le_trans hB h2,h3⟩
theorem merge {X':Ctx} {β':cR} {w':World} {bs:List aq} {b1:OB} (h:Sat X β { st with b:=b1 } a w') (hlen:b1.length=st.b.length) (hX0:X'.w0=w) (hXB:X'.B=w.heap.size) (hBw:X.B<=w.heap.size)
  (hold:∀ b k id,look b1 b=some k->afJ β b k id->id < w.heap.size)
  (hA:∀ id,X'.A0 id->bs.all aq.own=false->(X.A0 id∨X.B<=id)/\∀ b k,look b1 b=some k->k.own=true->¬ afJ β b k id)
  (hB:di X' β' (bs.map some) w') (hrow0:bs.all aq.isSlice=true) (hfr0:∀ id,X.Fr id->id < w.heap.size) (hFo:∀ id,X'.A0 id->¬ X.Fo id):
  Sat X (pZ β st.b.length β') { t:=st.t,b:=b1++bs.map some } a w':=by
 have hrow:∀ k∈bs,(∃e ks xs,k=.row e ks xs)∨∃ks xs,k=.ro ks xs:=by
  intro k hk;have:=(List.all_eq_true.1 hrow0) k hk;cases k with
  | row e ks xs=>exact .inl ⟨_,_,_,rfl⟩
  | ro ks xs=>exact .inr ⟨_,_,rfl⟩
  | _=>simp [aq.isSlice] at this
 have hβn:∀ b,st.b.length<=b->β b=none:=fun b hb=>h.bound b (by simpa [hlen] using hb)
 have hm:∀ b r,β b=some r->pZ β st.b.length β' b=some r:=by
  intro b r hb;rcases Nat.lt_or_ge b st.b.length with h1 | h1
  ·rw [jI h1]; exact hb
  ·rw [hβn b h1] at hb; cases hb
 have lk:∀ b k,look (b1++bs.map some) b=some k->(b < st.b.length/\look b1 b=some k)∨∃j,b=st.b.length+j/\look (bs.map some) j=some k:=by
  intro b k hb;rw [cv,hlen] at hb;split at hb
  ·rename_i h1; exact .inl ⟨h1,hb⟩
  ·rename_i h1; exact .inr ⟨b - st.b.length,by omega,hb⟩
 have mem:∀ {j k},look (bs.map some) j=some k->k∈bs:=by
  intro j k hj;rw [bJ] at hj;simp only [List.getElem?_map,Option.map_eq_some_iff] at hj;obtain ⟨x,hx,hxk⟩:=hj;cases hxk
  exact List.mem_of_getElem? hx
 refine ⟨h.len,fun i v hv=>?_,?_,?_,?_,h.below,⟨h.frm.le,h.frm.fr,h.frm.fo,fun c k id hc hu=>?_⟩,h.defers⟩
 ·obtain ⟨u,hu,hr⟩:=h.tmps i v hv;exact ⟨u,hu,hr.mono hm⟩
 ·intro b k hb;rcases lk b k hb with ⟨h1,h2⟩ | ⟨j,rfl,h2⟩
  ·exact (h.blks b k h2).mono hm
  ·have hk:=hB.blks j k h2;rcases hrow k (mem h2) with ⟨e,ks,xs,rfl⟩ | ⟨ks,xs,rfl⟩
   ·obtain ⟨A,n,c,k1,k2,k3,k4⟩:=hk;exact ⟨A,n,c,by rw [jJ]; exact k1,zY k2 (by omega),k3,k4⟩
   ·obtain ⟨A,c,k1,k2,k3,k4,k5⟩:=hk;refine ⟨A,c,by rw [jJ]; exact k1,k2,k3,k4,fun hne ad hA'=>?_⟩
    rcases k5 hne ad hA' with h5 | h5
    ·refine (hA ad.block h5 ?_).1;rw [List.all_eq_false];exact ⟨_,mem h2,by simp [aq.own]⟩
    ·exact .inr (by omega)
 ·intro b c k k' id hb hc ho hu1 hu2;rcases lk b k hb with ⟨h1,h2⟩ | ⟨j,rfl,h2⟩ <;> rcases lk c k' hc with ⟨h1',h2'⟩ | ⟨j',rfl,h2'⟩
  ·exact h.disj b c k k' id h2 h2' ho ⟨hu1.1.congr (jI h1),hu1.2⟩ ⟨hu2.1.congr (jI h1'),hu2.2⟩
  ·exfalso
   have hu1':afJ β b k id:=⟨hu1.1.congr (jI h1),hu1.2⟩;have hlt:=hold b k id h2 hu1';have hu2':afJ β' j' k' id:=⟨hu2.1.congr jJ,hu2.2⟩;rcases hrow k' (mem h2') with ⟨e,ks,xs,rfl⟩ | ⟨ks,xs,rfl⟩
   ·obtain ⟨A,n,c0,k1,k2,k3,k4⟩:=hB.blks j' _ h2';rcases hu2'.1 with hx | ⟨ad,n',c',hx,rfl⟩
    ·rw [k1] at hx; cases hx
    ·rw [k1] at hx;cases hx
     have:=(k2.lt ad.block rfl).1;omega
   ·obtain ⟨A,c0,k1,k2,k3,k4,k5⟩:=hB.blks j' _ h2';rcases hu2'.1 with hx | ⟨ad,n',c',hx,rfl⟩
    ·rw [k1] at hx; cases hx
    ·rw [k1] at hx;cases hx
     have hne:xs≠[]:=by
      rcases hu2'.2 with h0 | ⟨ks',x,xs',e⟩
      ·cases h0
      ·cases e; simp
     rcases k5 hne ad rfl with h5 | h5
     ·refine (hA ad.block h5 ?_).2 b k h2 ho hu1';rw [List.all_eq_false];exact ⟨_,mem h2',by simp [aq.own]⟩
     ·omega
  ·exfalso
   have hu2':afJ β c k' id:=⟨hu2.1.congr (jI h1'),hu2.2⟩;have hlt:=hold c k' id h2' hu2';have hu1':afJ β' j k id:=⟨hu1.1.congr jJ,hu1.2⟩;rcases hrow k (mem h2) with ⟨e,ks,xs,rfl⟩ | ⟨ks,xs,rfl⟩
   ·obtain ⟨A,n,c0,k1,k2,k3,k4⟩:=hB.blks j _ h2;rcases hu1'.1 with hx | ⟨ad,n',c',hx,rfl⟩
    ·rw [k1] at hx; cases hx
    ·rw [k1] at hx;cases hx
     have:=(k2.lt ad.block rfl).1;omega
   ·cases ho
  ·have:=hB.disj j j' k k' id h2 h2' ho ⟨hu1.1.congr jJ,hu1.2⟩ ⟨hu2.1.congr jJ,hu2.2⟩;omega
 ·intro b hb;simp only [List.length_append,List.length_map,hlen] at hb;unfold pZ;rw [if_neg (by omega)]
  exact hB.bound _ (by simp; omega)
 ·rcases lk c k hc with ⟨h1,h2⟩ | ⟨j,rfl,h2⟩
  ·exact h.frm.apart c k id h2 ⟨hu.1.congr (jI h1),hu.2⟩
  ·have hu1':afJ β' j k id:=⟨hu.1.congr jJ,hu.2⟩;have hge:w.heap.size<=id->¬ X.Fo id/\(k.own=true->¬ X.Fr id):=by
    intro hid;have h1:¬ X.Fr id:=fun hf=>by have:=hfr0 id hf; omega
    exact ⟨fun hf=>h1 (h.frm.fo id hf),fun _=>h1⟩
   rcases hrow k (mem h2) with ⟨e,ks,xs,rfl⟩ | ⟨ks,xs,rfl⟩
   ·obtain ⟨A,n,c0,k1,k2,k3,k4⟩:=hB.blks j _ h2;rcases hu1'.1 with hx | ⟨ad,n',c',hx,rfl⟩
    ·rw [k1] at hx; cases hx
    ·rw [k1] at hx;cases hx
     have:=(k2.lt ad.block rfl).1;exact hge (by omega)
   ·obtain ⟨A,c0,k1,k2,k3,k4,k5⟩:=hB.blks j _ h2;rcases hu1'.1 with hx | ⟨ad,n',c',hx,rfl⟩
    ·rw [k1] at hx; cases hx
    ·rw [k1] at hx;cases hx
     have hne:xs≠[]:=by
      rcases hu1'.2 with h0 | ⟨ks',x,xs',e⟩
      ·cases h0
      ·cases e; simp
     rcases k5 hne ad rfl with h5 | h5
     ·exact ⟨hFo _ h5,fun h0=>by cases h0⟩
     ·exact hge (by omega)
theorem tR (st:St) (used:List (Option Nat)) (r:IV × List aq):st.b.length<=(fl st used r).length:=by
 unfold fl;split <;> simp [fg]
theorem xw (st:St) (used:List (Option Nat)) (r:IV × List aq) (c:Nat) (k:aq) (h:look st.b c=some k) (hk:k.agu=false):look (fl st used r) c=some k:=by
 unfold fl;split
 ·rw [cv,if_pos (dc h)]; exact h
 ·rw [cv,if_pos (by rw [fg]; exact dc h)]; exact ju _ _ c k h hk
theorem lD:∀ (l:List (Option Nat)) (b:OB) (c:Nat) (k:aq),look (Go.Vs.freeze b l) c=some k->look b c=some k∨(∃e ks xs,look b c=some (.row e ks xs)/\k=.ro ks xs/\some c∈l):=by
 intro l;induction l with
 | nil=>intro b c k h; exact .inl h
 | cons x l ih=>
  intro b c k h;cases x with
  | none=>rcases ih b c k h with h1 | ⟨e,ks,xs,h1,h2,h3⟩; exact .inl h1; exact .inr ⟨e,ks,xs,h1,h2,List.mem_cons_of_mem _ h3⟩
  | some i=>
   simp only [Go.Vs.freeze] at h;split at h
   ·rename_i e ks xs hb;rcases ih _ c k h with h1 | ⟨e',ks',xs',h1,h2,h3⟩
    ·rw [bU] at h1;split at h1
     ·rename_i hic;subst hic;rw [if_pos (dc hb)] at h1;cases h1
      exact .inr ⟨e,ks,xs,hb,rfl,List.mem_cons_self ..⟩
     ·exact .inl h1
    ·rw [bU] at h1;split at h1
     ·rename_i hic;subst hic;rw [if_pos (dc hb)] at h1;cases h1
     ·exact .inr ⟨e',ks',xs',h1,h2,List.mem_cons_of_mem _ h3⟩
   ·rcases ih b c k h with h1 | ⟨e,ks,xs,h1,h2,h3⟩; exact .inl h1; exact .inr ⟨e,ks,xs,h1,h2,List.mem_cons_of_mem _ h3⟩
theorem uC:∀ (l:List (Option Nat)) (b:OB) (c:Nat) (k:aq),some c∈l->look (Go.Vs.freeze b l) c=some k->¬ k.agu=true:=by
 intro l;induction l with
 | nil=>intro b c k h; simp at h
 | cons x l ih=>
  intro b c k hc h;by_cases hcl:some c∈l
  ·cases x with
   | none=>exact ih b c k hcl h
   | some i=>
    simp only [Go.Vs.freeze] at h;split at h
    ·exact ih _ c k hcl h
    ·exact ih _ c k hcl h
  ·have hx:x=some c:=by
    rcases List.mem_cons.1 hc with h1 | h1
    ·exact h1.symm
    ·exact absurd h1 hcl
   subst hx;simp only [Go.Vs.freeze] at h;split at h
   ·rename_i e ks xs hb;rcases lD l _ c k h with h1 | ⟨e',ks',xs',h1,h2,h3⟩
    ·rw [bU,if_pos rfl,if_pos (dc hb)] at h1;cases h1; simp [aq.agu]
    ·exact absurd h3 hcl
   ·rename_i hnot;rcases lD l _ c k h with h1 | ⟨e',ks',xs',h1,h2,h3⟩
    ·intro hk;cases k with
     | row e ks xs=>exact hnot e ks xs h1
     | _=>cases hk
    ·exact absurd h3 hcl
theorem oE {t:List (Option IV)}:∀ (l:List (Option Nat)) (b:OB) (i:Nat),rows { t,b:=Go.Vs.freeze b l } i=rows { t,b } i:=by
 intro l;induction l with
 | nil=>intro b i; rfl
 | cons x l ih=>
  intro b i;cases x with
  | none=>exact ih b i
  | some j=>
   simp only [Go.Vs.freeze];split
   ·rename_i e ks xs hb;rw [ih];unfold rows;simp only;rw [bU];by_cases hji:j=i
    ·subst hji;rw [if_pos rfl,if_pos (dc hb),hb]
    ·rw [if_neg hji]
   ·exact ih b i
theorem MU {sp:Spec} {g:FuncId} (h:Sat X β st a w) (hC:aa P g sp) (hE:enters P g=true) {f:Operand} {args:Array Operand} {tys:Array TypeId} (hop:o.op=.call { callee:=.value f,args:=args,argTypes:=tys })
  (hf:ev st f=some (.fn g [])) {vs as:List IV} {acc:List (aq × Option Nat)} (hvs:E5 st args.toList=some vs) (hpk:fJ P st tys.toList vs []=some (as,acc)) (hpre:sp.pre as (acc.map (·.1)))
  (hk:K (St.aN { t:=st.t,b:=fl st (acc.map (·.2)) (sp.F as (acc.map (·.1))) } o.dst (BC (fun j=>some (st.b.length+j)) (sp.F as (acc.map (·.1))).1))) (hA:iV X β st w o wr K Kw):o.wp P a w Kw Q:=by
 obtain ⟨cs,ef,hcl,_⟩:=(bR h hf).oF;have hcs:cs = #[]:=Array.eq_empty_of_size_eq_zero (by simpa using hcl.symm)
 subst hcs;obtain ⟨l1,l2⟩:=oN hvs;obtain ⟨p1,p2,p3,p4⟩:=rK (β:=β) (us:=args.toList.map a.eval) (by simpa using l1.symm) (fun i c v hc hv=>by
  simp only [List.getElem?_map,Option.map_eq_some_iff] at hv;obtain ⟨x,hx,rfl⟩:=hv;exact bR h (l2 i x c hx hc)) hpk (fun p hp=>by simp at hp)
 obtain ⟨hcs,hro⟩:=xo (X:=X) h.blks p4;have hcall:=hC as (acc.map (·.1)) (kv st β w (acc.map (·.2))) (agn β acc) w (args.map a.eval) rfl rfl hcs hro (by simpa using p2) (fun i c v hc hv=>p3 i c v hc (by simpa using hv)) hpre
 refine qS hop ef hE (by rw [Array.append_empty]; exact hcall) ?_
 rintro e w' ⟨u,β',rfl,hkp,hrep,hB,hrow⟩;refine ⟨u,rfl,?_⟩;have h':=h.keeps hkp;have hold0:∀ b k id,look st.b b=some k->afJ β b k id->id < w.heap.size:=fun b k id hb hu=>oY (h.blks b k hb) hu
 have hA0:∀ id,(kv st β w (acc.map (·.2))).A0 id->¬ X.Fo id:=by
  rintro id ⟨i,ks,x,xs,hi,hr,hu⟩;unfold rows at hr;split at hr
  ·rename_i e ks0 xs0 hk1;exact (h.frm.apart i _ id hk1 ⟨hu,.inl rfl⟩).1
  ·rename_i ks0 xs0 hk1;cases hr
   exact (h.frm.apart i _ id hk1 ⟨hu,.inr ⟨ks,x,xs,rfl⟩⟩).1
  ·cases hr
 have hsat:Sat X (pZ β st.b.length β') { t:=st.t,b:=fl st (acc.map (·.2)) (sp.F as (acc.map (·.1))) } a w':=by
  unfold fl;split
  ·rename_i hall;exact merge (st:=st) (b1:=st.b) (X':=kv st β w (acc.map (·.2))) h' rfl rfl rfl h.le hold0 (fun id _ hf0=>by rw [hall] at hf0; cases hf0) hB hrow (fun id hf=>(h.frm.fr id hf).1) hA0
  ·rename_i hall;have hfz:=h'.freeze (acc.map (·.2));have hold1:∀ b k id,look (Go.Vs.freeze st.b (acc.map (·.2))) b=some k->afJ β b k id->id < w.heap.size:=by
    intro b k id hb hu;rcases lD _ _ b k hb with h1 | ⟨e,ks,xs,h1,_,_⟩
    ·exact hold0 b k id h1 hu
    ·exact hold0 b _ id h1 ⟨hu.1,.inl rfl⟩
   refine merge (st:=st) (X':=kv st β w (acc.map (·.2))) hfz (fg _ _) rfl rfl h.le hold1 ?_ hB hrow (fun id hf=>(h.frm.fr id hf).1) hA0
   rintro id ⟨i,ks,x,xs,hi,hr,hu⟩ _;have hr':rows { st with b:=Go.Vs.freeze st.b (acc.map (·.2)) } i=some (ks,x :: xs):=by rw [oE]; exact hr
   have hro1:look (Go.Vs.freeze st.b (acc.map (·.2))) i=some (.ro ks (x :: xs)):=by
    unfold rows at hr';split at hr'
    ·rename_i e ks0 xs0 hk1;exact absurd rfl (uC _ _ i _ hi hk1)
    ·rename_i ks0 xs0 hk1;cases hr'
     exact hk1
    ·cases hr'
   obtain ⟨A,c,k1,k2,k3,k4,k5⟩:=hfz.blks i _ hro1;refine ⟨?_,fun b k hb hown hub=>?_⟩
   ·rcases hu with hu | ⟨ad,n,c',hu,rfl⟩
    ·rw [k1] at hu; cases hu
    ·rw [k1] at hu;cases hu
     exact k5 (by simp) ad rfl
   ·have:=hfz.disj b i k _ id hb hro1 hown hub ⟨hu,.inr ⟨ks,x,xs,rfl⟩⟩;subst this;rw [hro1] at hb;cases hb
    cases hown
 have hm:∀ b r,β b=some r->pZ β st.b.length β' b=some r:=by
  intro b r hb;rcases Nat.lt_or_ge b st.b.length with h1 | h1
  ·rw [jI h1]; exact hb
  ·rw [h.bound b h1] at hb; cases hb
 have hv:bP (pZ β st.b.length β') (BC (fun j=>some (st.b.length+j)) (sp.F as (acc.map (·.1))).1) u:=
  rC (fun b b' hb r hr=>by cases hb; rw [jJ]; exact hr) hrep
 exact hA _ _ _ _ hk (hsat.aN hv o.dst) (fun b hb=>jI hb) (by rw [cJ]; exact tR _ _ _) (fun _=>Rel.aN ⟨fun c0 k0 hc0 hk0=>xw _ _ _ c0 k0 hc0 hk0,.inl hkp⟩ _ _)
end
end Go.Vs
namespace Go.Vs
open Go.RowKit
def lY (P:Program) (f:FuncId):Prop:=
 (∀ args w,(callFunc f args).run P w=.ok (.enter f args) w)/\
 ∀ (l:Nat) (Bs:Addr) (A:Option Addr) (n c:Nat) (J:Nat->World->Prop) (W:World),n<=maxLen->W.cell? Bs=some (.slice A n c)->
  (∀ k W1,k < n->J (k+1) W1->W1.cell? Bs=some (.slice A n c)/\∃g o z,A=some ⟨g,o,none⟩/\W1.cell? ⟨g,o+k,none⟩=some (.int .i64 z)/\
   YieldAt Fence.wide 0 P l #[.int .i64 k,.int .i64 z] W1 fun e W'=>e=.returned (.bool true)/\J k W')->
  J n W->CallsIn Fence.wide 0 P f #[.func (.yield l) #[] #[],.pointer (some Bs)] W fun e W'=>(∃v,e=.returned v)/\J 0 W'
structure EnvOk (E:Env):Prop where
 mixed:E.P.follows .mixedOrders=true
 ctr:∀ g sp,E.Γ g=some sp->aa E.P g sp
 inl:∀ g args b K,E.inl g args b K->∀ X β w (vs:Array Value),di X β b w->args.length=vs.size->(∀ (i:Nat) c v,args[i]? = some c->vs[i]? = some v->bP β c v)->
  Calls E.P g vs w fun e w'=>∃v u β' b',e=.returned u/\K v b'/\bP β' v u/\di X β' b' w'/\(∀ c,c < b.length->β' c=β c)/\b.length<=b'.length
 back:∀ f,E.back f=true->lY E.P f
 frm:∀ g args b K (R:IV->List (Option aq)->Prop),E.frm g=true->yg args=true->(∀ v b',(∀ i,i < b.length->idxOf (dC b args) i=none->look b' i=look b i)->R v b')->E.inl g args b K->E.inl g args b fun v b'=>K v b'/\R v b'
section
variable {E:Env} {X:Ctx} {β:cR} {st:St} {a:Act} {w:World} {Q:Exit->Act->World->Prop} {K:St->Prop} {Kw:Act->World->Prop} {o:Oper} {wr:Bool}
def Ctx.jj (X:Ctx) (S:Nat->Prop) (w:World):Ctx:={ X with Fr:=fun id=>X.Fr id∨S id,F0:=w }
def rS (w:World) (id:Nat):Prop:=∃o:Obj,w.heap[id]? = some o/\o.isCells=false
theorem Sat.jj {S:Nat->Prop} (h:Sat X β st a w) (hS:∀ id,S id->rS w id) (hd:gh (X.jj S w) w a.defers):Sat (X.jj S w) β st a w:=
 ⟨h.len,h.tmps,h.blks,h.disj,h.bound,h.below,⟨h.frm.le,fun id hid=>⟨by
  rcases hid with hid | hid
  ·exact (h.frm.fr id hid).1
  ·obtain ⟨o,ho,_⟩:=hS id hid;exact (Array.getElem?_eq_some_iff.1 ho).1,rfl⟩,fun id hid=>.inl (h.frm.fo id hid),fun c k id hc hu=>⟨(h.frm.apart c k id hc hu).1,fun ho hf=>by
  rcases hf with hf | hf
  ·exact (h.frm.apart c k id hc hu).2 ho hf
  ·obtain ⟨o,h1,h2⟩:=hS id hf;obtain ⟨o',h3,h4⟩:=kC (h.blks c k hc) hu;rw [h1] at h3; cases h3; rw [h2] at h4; cases h4⟩⟩,hd⟩
theorem di.jj {b:OB} {S:Nat->Prop} (h:di X β b w) (hS:∀ id,S id->rS w id):di (X.jj S w) β b w:=Sat.jj h hS .nil
theorem di.vK {β':cR} {b b':OB} {w':World} {S:Nat->Prop} (h:di X β b w) (h':di (X.jj S w) β' b' w'):di X β' b' w'/\∀ id,S id->w'.heap[id]? = w.heap[id]?:=
 ⟨⟨h'.len,h'.tmps,h'.blks,h'.disj,h'.bound,h'.below,⟨h'.frm.le,fun id hid=>⟨(h'.frm.fr id (.inl hid)).1,(h'.frm.fr id (.inl hid)).2.trans (h.frm.fr id hid).2⟩,h.frm.fo,
   fun c k id hc hu=>⟨(h'.frm.apart c k id hc hu).1,fun ho hf=>(h'.frm.apart c k id hc hu).2 ho (.inl hf)⟩⟩,.nil⟩,
  fun id hid=>(h'.frm.fr id (.inr hid)).2⟩
theorem MT {g:FuncId} (h:Sat X β st a w) (hE:EnvOk E) (hen:enters E.P g=true) {f:Operand} {args:Array Operand} {tys:Array TypeId} (hop:o.op=.call { callee:=.value f,args:=args,argTypes:=tys })
  {caps:List IV} (hf:ev st f=some (.fn g caps)) {vs:List IV} (hvs:E5 st args.toList=some vs)
  (hk:E.inl g (vs++caps) st.b fun v b=>K (St.aN { t:=st.t,b } o.dst v)) (hA:iV X β st w o wr K Kw) (hwr:wr=true):o.wp E.P a w Kw Q:=by
 obtain ⟨cs,ef,hcl,hcr⟩:=(bR h hf).oF;obtain ⟨l1,l2⟩:=oN hvs;have hlen:args.size=vs.length:=by simpa using l1
 have hcall:=hE.inl g _ _ _ hk (X.jj (rS w) w) β w (args.map a.eval++cs) (h.Kf.jj fun _ h=>h) (by simp [hlen,hcl]) (fun i c v hc hv=>by
  by_cases hi:i < vs.length
  ·rw [List.getElem?_append_left hi] at hc;rw [Array.getElem?_append_left (by simp; omega)] at hv
   simp only [Array.getElem?_map,Option.map_eq_some_iff] at hv;obtain ⟨x,hx,rfl⟩:=hv;exact bR h (l2 i x c (by simpa using hx) hc)
  ·rw [List.getElem?_append_right (by omega)] at hc
   rw [Array.getElem?_append_right (by simp; omega)] at hv
   refine hcr (i - vs.length) c v hc ?_;simpa [hlen] using hv)
 refine qS hop ef hen hcall ?_;rintro e w' ⟨v,u,β',b',rfl,hk',hrep,hB,hag,hlen'⟩;refine ⟨u,rfl,?_⟩;obtain ⟨hB,hkd⟩:=h.Kf.vK hB;have hgo:=h.go hB (h.jo hag) fun D o hD ho=>(hkd D ⟨o,hD,ho⟩).trans hD
 exact hA _ _ _ _ hk' (hgo.aN hrep o.dst) hag (by rw [cJ]; exact hlen') (fun h0=>by rw [hwr] at h0; cases h0)
theorem CN (h:Sat X β st a w) (hE:EnvOk E) {c:Call} (hop:o.op=.call c) (hk:Hi E st c o.dst K) (hA:iV X β st w o (writes E o) K Kw):o.wp E.P a w Kw Q:=by
 obtain ⟨callee,args,tys⟩:=c;unfold Hi at hk;split at hk
 ·rename_i f hcal;simp only at hcal;subst hcal;split at hk
  ·rename_i g caps vs hf hvs;split at hk
   ·rename_i hen;split at hk
    ·rename_i sp hsp;split at hk
     ·rename_i as acc hpk;exact MU h (hE.ctr g sp hsp) hen hop hf hvs hpk hk.1 hk.2 hA
     ·exact hk.elim
    ·exact MT h hE hen hop hf hvs hk hA (by
      rename_i hsp;unfold writes;rw [hop];cases f with
      | func g'=>
       simp [ev] at hf;have hx:LO E.P g' = false:=by
        rw [hf.1];unfold enters at hen;unfold LO;split at hen
        ·rename_i fn hfn;rw [Bool.and_eq_true] at hen;cases hb:fn.body with
         | none=>rw [hb] at hen; simp at hen
         | some b=>rfl
        ·cases hen
       rw [hf.1] at hx;simp [hf.1,hsp,hx]
      | _=>rfl)
   ·exact hk.elim
  ·exact hk.elim
 ·rename_i hcal;simp only at hcal;subst hcal;split at hk
  ·rename_i s x t t' hargs htys;obtain ⟨args⟩:=args;obtain ⟨tys⟩:=tys;simp only at hargs htys;subst hargs; subst htys;split at hk
   ·rename_i e ks by_ b d he hks hby hs hx;split at hk
    ·rename_i e' ks' xs ks2 ys hb hd;split at hk
     ·rename_i hc;obtain ⟨rfl,rfl,rfl,rfl,hbd⟩:=hc;exact AL h hop he (ov he hks) (xp he hby) hs hx hb hd hbd hk.1 hk.2 hA
     ·exact hk.elim
    ·exact hk.elim
   ·rename_i e ks by_ d he hks hby hs hx;split at hk
    ·rename_i ks2 ys hd;split at hk
     ·rename_i hc;obtain ⟨rfl,rfl⟩:=hc;exact va h hop he (ov he hks) (xp he hby) hs hx hd hk.1 hk.2 hA
     ·exact hk.elim
    ·exact hk.elim
   ·exact hk.elim
  ·exact hk.elim
 ·exact hk.elim
theorem BP {on:Bool} {lo:Option Operand} {b:Nat} {r:TypeId × List IntKind × L2} (h:Ez on lo st b=some r):lo=none/\look st.b b=some (.row r.1 r.2.1 r.2.2):=by
 unfold Ez at h;split at h
 ·split at h
  ·rename_i hl; cases h; exact ⟨rfl,hl⟩
  ·cases h
 ·cases h
theorem zJ (h:Sat X β st a w) {t:TypeId} {x:Operand} {lo hi mx:Option Operand} (hop:o.op=.slice t x lo hi mx) (hk:Ei E st t x lo hi mx o.dst K) (hA:iV X β st w o (writes E o) K Kw):o.wp E.P a w Kw Q:=by
 unfold Ei at hk;split at hk
 ·rename_i e he;split at hk
  ·rename_i b hx;split at hk
   ·rename_i e' ks xs hp;obtain ⟨rfl,hb⟩:=BP hp;split at hk
    ·rename_i hh hhi;split at hk
     ·rename_i hsz;exact Il h hop he hx hb hhi hsz hk.1 hk.2 hA
     ·exact hk.elim
    ·exact hk.elim
   ·split at hk
    ·rename_i ks xs hr;split at hk
     ·rename_i l hh hlo hhi;split at hk
      ·rename_i hsz;exact IT h hop he hx hr hlo hhi hsz hk.1 hk.2 hA
      ·exact hk.elim
     ·exact hk.elim
    ·exact hk.elim
  ·exact hk.elim
 ·rename_i he;split at hk
  ·rename_i b i n e hx ha;split at hk
   ·rename_i t' cells hb;split at hk
    ·rename_i k xs hs;split at hk
     ·rename_i hc;exact Jj h hop ha hx hb hs hc.2.2 hc.1 hc.2.1 hk hA (by simp [writes,hop,he])
     ·exact hk.elim
    ·exact hk.elim
   ·exact hk.elim
  ·exact hk.elim
theorem jB (h:Sat X β st a w) (hE:EnvOk E) (hk:rm E st o K) (hA:iV X β st w o (writes E o) K Kw):o.wp E.P a w Kw Q:=by
 unfold rm at hk;split at hk
 ·rename_i p v hps;have hp:∀ q,p=some q->q:=by
   intro q hq;subst hq;exact hk.1
  have hk':K (st.aN o.dst v):=by
   cases p with
   | none=>exact hk
   | some q=>exact hk.2
  obtain ⟨u,hu,hrun⟩:=ez (fun x v hx=>bR h hx) h.blks hps hp
  exact fh hrun h hu hk' hA (fun _ _=>rfl) (Nat.le_refl _) (fun _=>⟨fun _ _ h _=>h,.inl (ba.refl w)⟩)
 ·split at hk
  ·rename_i x hop;split at hk
   ·rename_i e ks hx he hks;exact u9 h hop hx (ov he hks) hk hA
   ·exact hk.elim
  ·rename_i e hop;exact C1 h hop hk hA
  ·rename_i e x hop;split at hk
   ·rename_i v hv;split at hk
    ·exact hk.elim
    ·rename_i hnt;have hr:=bR h hv;exact rT h (hr.cells (mm (by simpa using hnt))) hk hA (Hm hop)
   ·exact hk.elim
  ·rename_i t x y hop;split at hk
   ·rename_i av vv hx hy;exact pT h hop hx hy hk hA (by simp [writes,hop])
   ·exact hk.elim
  ·rename_i t len parts hop;split at hk
   ·rename_i e ks he hks;split at hk
    ·rename_i xs hl;split at hk
     ·rename_i hle;exact tO h hop he (ov he hks) hl hle hk hA
     ·exact hk.elim
    ·exact hk.elim
   ·exact hk.elim
  ·rename_i t l c hop;split at hk
   ·rename_i e ks by_ n m he hks hby hl hc;split at hk
    ·rename_i hlc;exact uX h hop he (ov he hks) (xp he hby) hl hlc hc hk.1 hk.2 hA
    ·exact hk.elim
   ·exact hk.elim
  ·rename_i t x lo hi mx hop;exact zJ h hop hk hA
  ·rename_i t x y t' hop;split at hk
   ·rename_i b hx hy;split at hk
    ·rename_i ks xs e hr he;exact Ay h hop he hx hy hr hk hA
    ·exact hk.elim
   ·exact hk.elim
  ·rename_i c hop;exact CN h hE hop hk hA
  ·exact hk.elim
theorem Di {ops:Array Oper} {j:Nat} {oj:Oper} {d:Tmp} {b:Bool} (h:Sat X β st a w) (hj:ops[j]? = some oj) (hd:oj.dst=some d) (hb:look st.t d=some (.bool b)):yielded ops a.tmps j=some b:=by
 obtain ⟨u,hu,hr⟩:=h.tmps d _ hb;rw [hr.eC] at hu;simp [yielded,hj,hd,hu]
theorem yV {ops:Array Oper} {j:Nat} {oj:Oper} {d:Tmp} (h:Sat X β st a w) (hj:ops[j]? = some oj) (hd:oj.dst=some d) (hb:look st.t d=some (.tup [])):yielded ops a.tmps j=none:=by
 obtain ⟨u,hu,hr⟩:=h.tmps d _ hb;obtain ⟨xs,rfl,_⟩:=hr.oZ;simp [yielded,hj,hd,hu]
theorem Ig (h:Sat X β st a w) {d:Tmp} {v:IV} (hd:look st.t d=some v):st.aN (some d) v=st:=by
 cases st with
 | mk t b=>
  simp only [St.aN,o8]
  congr 1
  rw [bJ] at hd;apply List.ext_getElem?;intro i;rw [List.getElem?_set];split
  ·rename_i e; subst e; have hlt:=(List.getElem?_eq_some_iff.1 hd).1; rw [if_pos hlt]; exact hd.symm
  ·rfl
def Left (facts:OB) (st:St):Prop:=∀ b k,look facts b=some k->look st.b b=some k
theorem Left.aN {facts:OB} {st:St} (h:Left facts st) (d:Option Tmp) (v:IV):Left facts (st.aN d v):=by
 intro b k hb; rw [cJ]; exact h b k hb
theorem jG {α:Type} {l:List (Option α)} {i:Nat} (h:kM l i=true):look l i=none:=by
 unfold kM at h;cases hl:look l i with
 | none=>rfl
 | some x=>rw [hl] at h; cases h
theorem rQ {α:Type} {l:List (Option α)}:∀ {is:List Nat},rR l is=true->∀ i∈is,look l i=none
 | [],_,i,hi=>by cases hi
 | j :: is,h,i,hi=>by
  simp only [rR,Bool.and_eq_true] at h;rcases List.mem_cons.1 hi with rfl | hi
  ·exact jG h.1
  ·exact rQ h.2 i hi
theorem yy:∀ {l:List Nat} {b:Nat},b ∉ l->idxOf l b=none
 | [],_,_=>rfl
 | x :: l,b,h=>by
  simp only [List.mem_cons,not_or] at h;simp only [idxOf];rw [if_neg (fun e=>h.1 e.symm),yy h.2]
  rfl
theorem Left.jZ {facts:OB} {st:St} {t:List (Option IV)} {l:OB} (h:Left facts st) {b:Nat} (hb:look facts b=none) (k:aq):Left facts (St.jZ { t,b:=st.b++l } b k):=by
 intro c k' hc;have hne:¬ b=c:=fun e=>by subst e; rw [hb] at hc; cases hc
 have h1:=h c k' hc;unfold St.jZ;simp only;rw [bU,if_neg hne,cv,if_pos (dc h1)];exact h1
theorem Left.Ge {facts:OB} {st:St} (h:Left facts st) {b:Nat} (hb:look facts b=none) (k:aq):Left facts (st.jZ b k):=by
 intro c k' hc;have hne:¬ b=c:=fun e=>by subst e; rw [hb] at hc; cases hc
 unfold St.jZ;simp only;rw [bU,if_neg hne];exact h c k' hc
theorem zh {P:Program} {facts:OB} {t:TypeId} {av vv:IV} (hl:Left facts st) (ha:NO facts (some av)=true) (hk:storeAt P st t av vv K):storeAt P st t av vv fun st'=>K st'/\Left facts st':=by
 unfold storeAt at hk ⊢;cases hsz:eH P t with
 | none=>rw [hsz] at hk; exact hk.elim
 | some n=>
  rw [hsz] at hk
  try simp only at hk ⊢
  split at hk
  ·exact hk.elim
  rename_i hc;rw [if_neg hc];cases av with
  | ptr b o=>
   have hb:=jG (show kM facts b=true from ha)
   try simp only at hk ⊢
   split at hk
   ·rename_i t' cells hlk;split at hk
    ·rename_i hle;simp only [hlk,if_pos hle];exact ⟨hk,hl.jZ hb _⟩
    ·exact hk.elim
   ·exact hk.elim
  | pdyn b o i=>
   have hb:=jG (show kM facts b=true from ha)
   try simp only at hk ⊢
   split at hk
   ·rename_i t' k xs k' x hlk;split at hk
    ·rename_i hcc;simp only [hlk,if_pos hcc];exact ⟨hk.1,hk.2,hl.Ge hb _⟩
    ·exact hk.elim
   ·rename_i t' cells k' x hlk;split at hk
    ·rename_i xs hxs
     try simp only [hlk,hxs]
     exact ⟨hk.1,hk.2,hl.Ge hb _⟩
    ·exact hk.elim
   ·exact hk.elim
  | prow b i sz f=>
   have hb:=jG (show kM facts b=true from ha)
   try simp only at hk ⊢
   split at hk
   ·rename_i e ks xs hlk;split at hk
    ·rename_i ys hys;split at hk
     ·rename_i hcc;simp only [hlk,hys,if_pos hcc];exact ⟨hk.1,hk.2,hl.Ge hb _⟩
     ·exact hk.elim
    ·exact hk.elim
   ·exact hk.elim
  | prowd b i sz f j=>
   have hb:=jG (show kM facts b=true from ha)
   try simp only at hk ⊢
   split at hk
   ·rename_i e ks xs k x hlk;split at hk
    ·rename_i hcc;simp only [hlk,if_pos hcc];exact ⟨hk.1,hk.2,hl.Ge hb _⟩
    ·exact hk.elim
   ·exact hk.elim
  | _=>exact hk.elim
theorem DK {facts:OB} (hE:EnvOk E) (hl:Left facts st) (hrow:∀ b k,look facts b=some k->k.agu=false) (ht:o4 E facts st o=true) (hw:writes E o=true) (hk:rm E st o K):rm E st o fun st'=>K st'/\Left facts st':=by
 unfold rm at hk ⊢;cases hps:bj E.P st o with
 | some pv=>
  obtain ⟨p,v⟩:=pv;rw [hps] at hk
  try simp only at hk ⊢
  cases p with
  | none=>exact ⟨hk,hl.aN _ _⟩
  | some q=>exact ⟨hk.1,hk.2,hl.aN _ _⟩
 | none=>
  rw [hps] at hk
  try simp only at hk ⊢
  cases hop:o.op with
  | store t x v=>
   rw [hop] at hk
   try simp only at hk ⊢
   unfold o4 at ht;rw [hop] at ht;simp only at ht;split at hk
   ·rename_i av vv hav hvv;rw [hav] at ht
    try simp only [hav,hvv]
    have:=zh (K:=fun st'=>K (st'.aN o.dst (.tup []))) hl ht hk
    have e:(fun st':St=>K (st'.aN o.dst (.tup []))/\Left facts st')=fun st'=>K (st'.aN o.dst (.tup []))/\Left facts (st'.aN o.dst (.tup [])):=by
     funext st'
     have:Left facts (st'.aN o.dst (.tup []))=Left facts st':=by unfold Left; rw [cJ]
     rw [this]
    rw [e] at this;exact this
   ·exact hk.elim
  | call c=>
   rw [hop] at hk
   try simp only at hk ⊢
   unfold o4 at ht;rw [hop] at ht;simp only at ht;obtain ⟨callee,args,tys⟩:=c;cases callee with
   | value f=>
    unfold Hi at hk ⊢
    try simp only at hk ht ⊢
    split at hk
    ·rename_i g caps vs hf hvs;rw [hf,hvs] at ht
     replace ht:(match E.Γ g with
      | some _=>true
      | none=>E.frm g && yg (vs++caps) && rR facts (dC st.b (vs++caps)))=true:=ht
     split at hk
     ·rename_i hen;rw [if_pos hen];split at hk
      ·rename_i sp hsp;split at hk
       ·rename_i as acc hpk;refine ⟨hk.1,hk.2,?_⟩;intro b k hb;rw [cJ];have h1:=hl b k hb;show look (fl st (acc.map (·.2)) (sp.F as (acc.map (·.1)))) b=some k;unfold fl;have h2:look (if (sp.F as (acc.map (·.1))).2.all aq.own then st.b else freeze st.b (acc.map (·.2))) b=some k:=by
         split
         ·exact h1
         ·exact ju _ _ _ _ h1 (hrow b k hb)
        rw [cv,if_pos (dc h2)];exact h2
       ·exact hk.elim
      ·rename_i hsp;rw [hsp] at ht;simp only [Bool.and_eq_true] at ht;have hn:=rQ ht.2;refine hE.frm g _ _ _ (fun v b'=>Left facts (St.aN { t:=st.t,b:=b' } o.dst v)) ht.1.1 ht.1.2 ?_ hk
       intro v b' hb' b k hb;rw [cJ];have h1:=hl b k hb;show look b' b=some k;rw [hb' b (dc h1) (yy fun hm=>by rw [hn b hm] at hb; cases hb)]
       exact h1
     ·exact hk.elim
    ·exact hk.elim
   | _=>cases ht
  | slice ty x lo hi mx=>
   exfalso
   unfold o4 at ht;rw [hop] at ht;unfold writes at hw;rw [hop] at hw;cases he:cN E.P ty <;> simp [he] at ht hw
  | _=>unfold writes at hw; rw [hop] at hw; cases hw
theorem eL {ops:Array Oper} (h:Sat X β st a w) {K1 K0:St->Prop} (hk:oD ops.toList st o K1 K0):
  (Region.wanted o (yielded ops a.tmps)=true/\K1 st)∨(Region.wanted o (yielded ops a.tmps)=false/\K0 st):=by
 unfold oD at hk;split at hk
 ·rename_i hg;exact .inl ⟨by simp [Region.wanted,hg],hk⟩
 ·rename_i j want hg;split at hk
  ·rename_i oj hj;have hj':ops[j]? = some oj:=by rw [pq] at hj; simpa using hj
   split at hk
   ·rename_i d hd;split at hk
    ·rename_i b hb;have hy:=Di h hj' hd hb;have hw:Region.wanted o (yielded ops a.tmps)=(b == want):=by simp [Region.wanted,hg,hy]
     rw [hw];have hs:=Ig h hb;cases want <;> cases b <;> simp [br] at hk ⊢ <;> rw [hs] at hk <;> exact hk
    ·rename_i hb;have hy:=yV h hj' hd hb;refine .inr ⟨by simp [Region.wanted,hg,hy],hk⟩
    ·exact hk.elim
   ·exact hk.elim
  ·exact hk.elim
theorem iv (st:St) (K:St->Prop):nC st K=K st:=by unfold nC; rw [sM]
theorem rP (a:Array Bool) (K:Array Bool->Prop):ye a K=K a:=by unfold ye; rw [sN]
theorem qa (hE:EnvOk E) {ops:Array Oper} {n0:Nat}:∀ {l:List Oper} {β:cR} {st:St} {a:Act} {w:World},Sat X β st a w->n0<=st.b.length->jv E ops.toList l st K->
  (∀ β' st' a' w',K st'->Sat X β' st' a' w'->(∀ b,b < n0->β' b=β b)->n0<=st'.b.length->Q .normal a' w')->wpList E.P ops Q l a w:=by
 intro l;induction l with
 | nil=>intro β st a w h hn hk hQ; exact hQ β st a w hk h (fun _ _=>rfl) hn
 | cons o rest ih=>
  intro β st a w h hn hk hQ;simp only [jv] at hk;unfold wpList;rcases eL h hk with ⟨hw,hk⟩ | ⟨hw,hk⟩
  ·rw [if_pos hw];refine .inl (jB h hE hk ?_);intro β' st' a' w' hk' hs hag hle _;rw [iv] at hk';exact ih hs (Nat.le_trans hn hle) hk' (fun β'' st'' a'' w'' hk'' hs'' hag'' hle''=>hQ β'' st'' a'' w'' hk'' hs'' (fun b hb=>(hag'' b hb).trans (hag b (by omega))) hle'')
  ·rw [if_neg (by rw [hw]; simp)]
   exact ih (h.aN (agi β) o.dst) (by rw [cJ]; exact hn) hk hQ
end
end Go.Vs
