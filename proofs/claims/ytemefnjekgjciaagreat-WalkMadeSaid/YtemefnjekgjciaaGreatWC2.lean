import Derived.LoopN
import Derived.ProofKit
import Derived.Deep.Slices
import Derived.Test.YtemefnjekgjciaaGreatWC1
set_option linter.unusedVariables false
set_option linter.unusedSimpArgs false
noncomputable section
namespace Go.Vs
open Go.RowKit
section
variable {P:Program} {ops:Array Oper} {Q:Exit->Act->World->Prop} {F:World->Prop} {hd:Nat}
def el (P:Program) (ops:Array Oper) (Q:Exit->Act->World->Prop) (F:World->Prop) (hd:Nat):Nat->Array Bool->Act->World->Prop
 | 0,listed,a,w=>Region.ready .any ops listed=[]/\Q .normal a w
 | fuel+1,listed,a,w=>(Region.ready .any ops listed=[]->Q .normal a w)/\
  ∀ i∈Region.ready .any ops listed,wpOp P ops Q i (fun a' w'=>(i < hd->F w->F w')/\el P ops Q F hd fuel (listed.setIfInBounds i true) a' w') a w
theorem kz:∀ (fuel:Nat) (listed:Array Bool) (a:Act) (w:World),el P ops Q F hd fuel listed a w->wpAny P .any ops Q fuel listed a w
 | 0,_,_,_,h=>h
 | fuel+1,_,_,_,h=>⟨h.1,fun i hi=>wpOp_mono (fun a' w' h'=>kz fuel _ a' w' h'.2) (h.2 i hi)⟩
def jW (ops:Array Oper) (listed:Array Bool):Prop:=∀ (j:Nat) (o:Oper),ops[j]? = some o->listed.getD j false=true->∀ e∈o.after,Region.binds .any e=true->listed.getD e.on false=true
theorem agB {l:Array Bool} {i k:Nat} (h:l.getD k false=true):(l.setIfInBounds i true).getD k false=true:=by
 by_cases e:i=k
 ·subst e;rcases Nat.lt_or_ge i l.size with h' | h'
  ·simp [Array.getD_eq_getD_getElem?,h']
  ·simp [Array.getD_eq_getD_getElem?,Array.getElem?_eq_none h'] at h
 ·rw [getD_set_ne false e]; exact h
theorem jW.step {listed:Array Bool} (h:jW ops listed) {i:Nat} (hi:i∈Region.ready .any ops listed):jW ops (listed.setIfInBounds i true):=by
 intro j o hj hl e he hb;by_cases hij:i=j
 ·subst hij;obtain ⟨_,o',ho',hall⟩:=mem_ready.1 hi;rw [hj] at ho';cases ho'
  exact agB (hall e he hb)
 ·rw [getD_set_ne false hij] at hl;exact agB (h j o hj hl e he hb)
theorem yN (i j:Nat):Nat.testBit (FI i) j=decide (i=j):=by
 show Nat.testBit (1 <<< i) j=_;rw [Nat.one_shiftLeft,Nat.testBit_two_pow]
theorem mv (x y j:Nat):Nat.testBit (Nat.lor x y) j=(Nat.testBit x j || Nat.testBit y j):=Nat.testBit_or x y j
theorem su {ms:List Nat} {i:Nat}:∀ {l:List Edge} {m:Nat},Nat.testBit (sv ms l m) i=true->Nat.testBit m i=true∨∃e∈l,Region.binds .any e=true/\(e.on=i∨∃q,ms[e.on]? = some q/\Nat.testBit q i=true)
 | [],m,h=>.inl h
 | e :: l,m,h=>by
  simp only [sv] at h;rcases su h with h1 | ⟨e',he',h2⟩
  ·split at h1
   ·rename_i hb;rw [mv,mv,Bool.or_eq_true,Bool.or_eq_true,yN] at h1;rcases h1 with (h1 | h1) | h1
    ·exact .inl h1
    ·exact .inr ⟨e,List.mem_cons_self ..,hb,.inl (by simpa using h1)⟩
    ·rw [pq] at h1;cases hq:ms[e.on]? with
     | none=>rw [hq] at h1; simp at h1
     | some q=>rw [hq] at h1; exact .inr ⟨e,List.mem_cons_self ..,hb,.inr ⟨q,hq,h1⟩⟩
   ·exact .inl h1
  ·exact .inr ⟨e',List.mem_cons_of_mem _ he',h2⟩
def FJ (ops:Array Oper) (ms:List Nat):Prop:=∀ (j:Nat) (q:Nat) (o:Oper),ms[j]? = some q->ops[j]? = some o->∀ listed,jW ops listed->(∀ e∈o.after,Region.binds .any e=true->listed.getD e.on false=true)->∀ i,Nat.testBit q i=true->listed.getD i false=true
theorem uH {ops:Array Oper}:∀ {l:List Oper} {ms:List Nat},l=ops.toList.drop ms.length->FJ ops ms->FJ ops (dj l ms)
 | [],ms,_,h=>h
 | o :: l,ms,hl,h=>by
  simp only [dj];have ho:ops[ms.length]? = some o:=by
   have h1:(ops.toList.drop ms.length)[0]? = some o:=by rw [← hl]; rfl
   rw [List.getElem?_drop] at h1;simpa using h1
  refine uH (ms:=ms++[sv ms o.after.toList 0]) ?_ ?_
  ·have h1:=congrArg (List.drop 1) hl;rw [List.drop_drop] at h1;simpa using h1
  ·intro j q o' hj ho' listed hc hall i hi;rw [List.getElem?_append] at hj;split at hj
   ·exact h j q o' hj ho' listed hc hall i hi
   ·rename_i hge;have hlt:=(List.getElem?_eq_some_iff.1 hj).1;have hj0:j=ms.length:=by simp at hlt; omega
    subst hj0;rw [ho] at ho';cases ho'
    simp at hj;subst hj;rcases su hi with h1 | ⟨e,he,hb,h2⟩
    ·simp at h1
    ·have hl2:=hall e (by simpa using he) hb
     rcases h2 with h2 | ⟨q',hq',hbit⟩
     ·rw [← h2]; exact hl2
     ·have hlt2:=(List.getElem?_eq_some_iff.1 hq').1;have hsz:e.on < ops.size:=by
       have h3:ms.length < ops.size:=(Array.getElem?_eq_some_iff.1 ho).1;omega
      have hoe:ops[e.on]? = some ops[e.on]:=by simp [hsz]
      exact h e.on q' _ hq' hoe listed hc (hc e.on _ hoe hl2) i hbit
theorem jT:∀ (l:List Oper) (ms:List Nat),(dj l ms).length=ms.length+l.length
 | [],ms=>rfl
 | o :: l,ms=>by simp [dj,jT l]; omega
theorem tZ {need:Nat}:∀ {l:List Nat},nW need l=true->∀ m∈l,Nat.land m need=need
 | [],_,m,hm=>by cases hm
 | x :: l,h,m,hm=>by
  simp only [nW,Bool.and_eq_true] at h;rcases List.mem_cons.1 hm with rfl | hm
  ·exact Nat.eq_of_beq_eq_true h.1
  ·exact tZ h.2 m hm
theorem uo {z:Oper->Bool} {i:Nat}:∀ {l:List Oper} {k m:Nat},(Nat.testBit m i=true∨∃o,l[i - k]? = some o/\k<=i/\z o=false)->Nat.testBit (kP z k l m) i=true
 | [],k,m,h=>by
  rcases h with h | ⟨o,h,_⟩
  ·exact h
  ·simp at h
 | o :: l,k,m,h=>by
  simp only [kP];refine uo ?_;rcases h with h | ⟨o',h,hk,hz⟩
  ·left;split
   ·exact h
   ·rw [mv,h]; rfl
  ·by_cases hik:i=k
   ·left;subst hik;simp at h;subst h;rw [hz];simp only [Bool.false_eq_true,if_false];rw [mv,yN];simp
   ·right;refine ⟨o',?_,by omega,hz⟩
    rw [show i - k=(i - (k+1))+1 by omega] at h
    simpa using h
theorem nV (hs:jb ops hd=true) {listed:Array Bool} (hc:jW ops listed) {i j:Nat} {oj oi:Oper} (hj:ops[j]? = some oj) (hall:∀ e∈oj.after,Region.binds .any e=true->listed.getD e.on false=true) (hjd:hd<=j) (hi:i < hd)
  (hoi:ops[i]? = some oi) (hlz:eA oi=false):listed.getD i false=true:=by
 unfold jb at hs;have hlt:j < ops.size:=(Array.getElem?_eq_some_iff.1 hj).1;have hok:FJ ops (dj ops.toList []):=uH (by simp) (by intro j q o hq; simp at hq)
 have hlen:(dj ops.toList []).length=ops.size:=by rw [jT]; simp
 have hq:(dj ops.toList [])[j]? = some (dj ops.toList [])[j]:=by simp [hlen,hlt]
 have hmem:(dj ops.toList [])[j]∈(dj ops.toList []).drop hd:=by
  refine List.mem_of_getElem? (i:=j - hd) ?_;rw [List.getElem?_drop,show hd+(j - hd)=j by omega]
  exact hq
 have h1:=tZ hs _ hmem;refine hok j _ oj hq hj listed hc hall i ?_;have h2:Nat.testBit (kP eA 0 (ops.toList.take hd) 0) i=true:=by
  refine uo (.inr ⟨oi,?_,Nat.zero_le _,hlz⟩);rw [Nat.sub_zero,List.getElem?_take,if_pos hi];simpa using hoi
 rw [← h1] at h2;have h3:Nat.testBit (Nat.land (dj ops.toList [])[j] (kP eA 0 (ops.toList.take hd) 0)) i=(Nat.testBit (dj ops.toList [])[j] i && Nat.testBit (kP eA 0 (ops.toList.take hd) 0) i):=Nat.testBit_and ..;rw [h3,Bool.and_eq_true] at h2;exact h2.1
theorem Sz (t:List (Option IV)) (b b':OB) (x:Operand):ev { t,b } x=ev { t,b:=b' } x:=by cases x <;> rfl
theorem uq {z z':Oper->Bool} (h:∀ o,z o=true->z' o=true) {i:Nat}:∀ {l:List Oper} {k m m':Nat},(Nat.testBit m' i=true->Nat.testBit m i=true)->Nat.testBit (kP z' k l m') i=true->Nat.testBit (kP z k l m) i=true
 | [],k,m,m',hm,hh=>hm hh
 | o :: l,k,m,m',hm,hh=>by
  simp only [kP] at hh ⊢;refine uq h ?_ hh;intro h1;cases hz:z o with
  | true=>
   rw [if_pos (h o hz)] at h1;exact hm h1
  | false=>
   simp only [Bool.false_eq_true,if_false];rw [mv];split at h1
   ·rw [hm h1]; rfl
   ·rw [mv,Bool.or_eq_true] at h1;rcases h1 with h1 | h1
    ·rw [hm h1]; rfl
    ·rw [h1]; simp
theorem Ly {o:Oper} (h:Ai o=true):eA o=true:=by
 unfold Ai at h;split at h
 ·cases h
 ·split at h
  ·rename_i hop;unfold eA;rw [hop]
  ·cases h
theorem KD {ops:Array Oper} {hd:Nat} (h:vg ops hd=true):jb ops hd=true:=by
 unfold vg at h;unfold jb;have key:∀ (l:List Nat) (n n':Nat),(∀ i,Nat.testBit n' i=true->Nat.testBit n i=true)->nW n l=true->nW n' l=true:=by
  intro l n n' hn;induction l with
  | nil=>intro _; rfl
  | cons m l ih=>
   intro h;simp only [nW,Bool.and_eq_true] at h ⊢;refine ⟨?_,ih h.2⟩;have h1:=Nat.eq_of_beq_eq_true h.1;have h2:Nat.land m n' = n':=by
    apply Nat.eq_of_testBit_eq;intro i;have e:Nat.testBit (Nat.land m n') i=(Nat.testBit m i && Nat.testBit n' i):=Nat.testBit_and ..;rw [e];cases hb:Nat.testBit n' i with
    | false=>simp
    | true=>
     have h3:=hn i hb;rw [← h1] at h3;have e2:Nat.testBit (Nat.land m n) i=(Nat.testBit m i && Nat.testBit n i):=Nat.testBit_and ..;rw [e2,Bool.and_eq_true] at h3;rw [h3.1]; rfl
   rw [h2]; exact Nat.beq_refl _
 exact key _ _ _ (fun i hi=>uq (fun o=>Ly) (fun h=>h) hi) h
theorem Pq {op:BinOp} (ho:Lb op=true) {P:Program} {t:TypeId} {x y:Operand} {a c:Value} {k:IntKind} {n:Int} (hc:c=.int k n):
  (∃b,(do eqGuard op t x y a c; binOp op t a c:Sem Value)=pure (.bool b))∨(∃s,(do eqGuard op t x y a c; binOp op t a c:Sem Value)=stuck s)∨(do eqGuard op t x y a c; binOp op t a c:Sem Value)=unsupported .addressObserved:=by
 subst hc
 have hg:∀ v:Value,eqGuard op t x y v (.int k n)=pure ():=by
  intro v
  cases op <;> first | (cases ho; done) | rfl
 simp only [hg,pure_bind]
 cases a with
 | int k' m=>
  by_cases hk:k' = k
  ·subst hk
   left
   cases op with
   | lss=>exact ⟨decide (m < n),by simp [binOp,Op.intCmp]⟩
   | leq=>exact ⟨decide (m<=n),by simp [binOp,Op.intCmp]⟩
   | gtr=>exact ⟨decide (n < m),by simp [binOp,Op.intCmp]⟩
   | geq=>exact ⟨decide (n<=m),by simp [binOp,Op.intCmp]⟩
   | _=>cases ho
  ·right; left
   refine ⟨ "BinOp: operands of different kinds", ?_⟩
   cases op <;> first | (cases ho; done) | (simp only [binOp]; rw [if_pos hk])
 | pointer p=>right; right; cases op <;> first | (cases ho; done) | (cases p <;> rfl)
 | _=>right; left; exact ⟨_,by cases op <;> first | (cases ho; done) | rfl⟩
theorem B4 {o:Oper} {op:BinOp} {t t2:TypeId} {x:Operand} {k:IntKind} {n:Int} (hop:o.op=.binOp op t x (.const (.int k n)) t2) (ho:Lb op=true) (P:Program) (a:Act):
  (∃b,∀ w,(execOp a.eval o).run P w=.ok (.value (.bool b)) w)∨((∀ w w1 v,(execOp a.eval o).run P w≠.ok (.value v) w1)/\∀ w K Q,¬ o.wp P a w K Q):=by
 have e:execOp a.eval o=(do let v ← (do eqGuard op t x (.const (.int k n)) (a.eval x) (a.eval (.const (.int k n))); binOp op t (a.eval x) (a.eval (.const (.int k n))):Sem Value); pure (.value v)):=by
  unfold execOp;rw [hop]
 rcases Pq ho (P:=P) (t:=t) (x:=x) (y:=.const (.int k n)) (a:=a.eval x) (c:=a.eval (.const (.int k n))) (k:=k) (n:=n) rfl with ⟨b,hb⟩ | ⟨s,hs⟩ | hs
 ·left;refine ⟨b,fun w=>?_⟩
  rw [e,hb]
  rfl
 ·right;refine ⟨fun w w1 v=>?_,fun w K Q h=>?_⟩
  ·rw [e,hs]; simp [stuck]
  ·unfold Oper.wp at h;rw [e,hs] at h;exact absurd h (by simp [stuck,Oper.upon])
 ·right;refine ⟨fun w w1 v=>?_,fun w K Q h=>?_⟩
  ·rw [e,hs]; simp [unsupported]
  ·unfold Oper.wp at h;rw [e,hs] at h;exact absurd h (by simp [unsupported,Oper.upon])
theorem r6 {o:Oper} (hl:eA o=true) {a:Act} {v:Value} {w w1:World} (h:(execOp a.eval o).run P w=.ok (.value v) w1) (w':World):(execOp a.eval o).run P w' = .ok (.value v) w':=by
 unfold eA at hl;split at hl
 ·rename_i t i hop;unfold execOp at *;simp only [hop] at *;unfold Instr.extract at *;split at h
  ·rename_i vs hvs;cases hc:vs[i]? <;> simp_all
  ·simp_all
 ·rename_i x hop;unfold execOp at *;simp only [hop] at *
  simp_all
 ·rename_i c x y hop;unfold execOp at *;simp only [hop] at *;cases hc:a.eval c <;> simp_all [asBool,stuck]
 ·rename_i op t x k n t2 hop;rcases B4 hop hl P a with ⟨b,hb⟩ | ⟨h1,_⟩
  ·rw [hb w] at h;rw [hb w']
   simp_all
  ·exact absurd h (h1 w w1 v)
 ·cases hl
theorem EM {o:Oper} (hl:eA o=true) {a:Act} {w:World} {K:Act->World->Prop} (h:o.wp P a w K Q):∃v,(execOp a.eval o).run P w=.ok (.value v) w:=by
 unfold eA at hl;split at hl
 ·rename_i t i hop;unfold Oper.wp execOp at *;simp only [hop] at *;unfold Instr.extract at *;cases hx:a.eval (.tmp t) with
  | tuple vs=>
   rw [hx] at h;cases hc:vs[i]? with
   | some v=>exact ⟨v,by simp [hc]⟩
   | none=>simp only [hc] at h; exact absurd h (by simp [stuck,Oper.upon])
  | _=>rw [hx] at h; exact absurd h (by simp [stuck,Oper.upon])
 ·rename_i x hop;exact ⟨a.eval x,by unfold execOp; simp only [hop]; rfl⟩
 ·rename_i c x y hop;unfold Oper.wp execOp at *;simp only [hop] at *;cases hx:a.eval c with
  | bool b=>exact ⟨if b then a.eval x else a.eval y,by simp [asBool]⟩
  | _=>rw [hx] at h; exact absurd h (by simp [asBool,stuck,Oper.upon])
 ·rename_i op t x k n t2 hop;rcases B4 hop hl P a with ⟨b,hb⟩ | ⟨_,h1⟩
  ·exact ⟨.bool b,hb w⟩
  ·exact absurd h (h1 w K Q)
 ·cases hl
theorem yq {o:Oper} (hl:eA o=true) (st:St) (b:OB):bj P { st with b:=b } o=bj P st o:=by
 have e:∀ x,ev { st with b:=b } x=ev st x:=fun x=>Sz st.t b st.b x
 unfold eA at hl;split at hl
 ·rename_i t i hop;unfold bj;simp only [hop]
  rfl
 ·rename_i x hop;unfold bj;simp only [hop,e]
 ·rename_i c x y hop;unfold bj;simp only [hop,e]
 ·rename_i op t x k n t2 hop;have e2:∀ x,plain { st with b:=b } x=plain st x:=fun x=>by unfold plain; rw [e]
  have e3:mN P { st with b:=b } o=mN P st o:=by
   unfold mN;have e4:pj { st with b:=b } = pj st:=by funext x; unfold pj; rw [e2]
   simp only [e2,e4]
  unfold bj;simp only [hop,e,e3]
 ·cases hl
theorem Cr {o:Oper} (hl:eA o=true):cq o=false:=by
 unfold eA at hl;unfold cq;split at hl <;> first | (cases hl; done) | (rename_i hop; simp only [hop])
theorem ij {F1:World->Prop} {i:Nat} {oi:Oper} {v:Value} (hi:ops[i]? = some oi) (hmode:(F1=F/\eA oi=false)∨∀ w,F1 w) (hsel:∀ (j:Nat) (o:Oper) cs b,ops[j]? = some o->o.op≠.select cs b)
  (hQ:∀ c a w,Q (.panic c) (a.put oi.dst v) w->Q (.panic c) a w) (hs:jb ops hd=true) (hih:i < hd):
  ∀ (fuel:Nat) (listed:Array Bool) (a:Act) (w:World),jW ops listed->
   (∀ j oj,ops[j]? = some oj->j≠i->listed.getD j true=false->(∀ e∈oj.after,Region.binds .any e=true->e.on≠i)->oi.apart ops oj=true)->
   i∈Region.ready .any ops listed->YieldsIf P ops F1 oi v a->F1 w->
   el P ops Q F hd fuel (listed.setIfInBounds i true) (a.put oi.dst v) w->el P ops Q F hd (fuel+1) listed a w:=by
 intro fuel;induction fuel with
 | zero=>
  intro listed a w _ _ hr hy hF H;refine ⟨fun h0=>(by rw [h0] at hr; cases hr),fun j hj=>?_⟩
  by_cases hji:j=i
  ·subst hji;exact hy.wpOp hi hF ⟨fun _ h=>h,H⟩
  ·have h1:=ready_mono hj hji;rw [H.1] at h1;cases h1
 | succ fuel ih=>
  intro listed a w hcl hfree hr hy hF H;refine ⟨fun h0=>(by rw [h0] at hr; cases hr),fun j hj=>?_⟩
  by_cases hji:j=i
  ·subst hji;exact hy.wpOp hi hF ⟨fun _ h=>h,H⟩
  ·have hnext:=H.2 j (ready_mono hj hji);obtain ⟨hun,oj,hoj,hall⟩:=mem_ready.1 hj;have hi0:=(mem_ready.1 hr).1;have hiF:listed.getD i false=false:=by
    rcases Nat.lt_or_ge i listed.size with h' | h'
    ·simp [h'] at hi0 ⊢; exact hi0
    ·simp [Array.getElem?_eq_none h']
   have hno:∀ e∈oj.after,Region.binds .any e=true->e.on≠i:=fun e he hb heq=>by
    have h1:=hall e he hb;rw [heq,hiF] at h1;cases h1
   have hnx:∀ w',(j < hd->F w->F w')->F1 w':=by
    intro w' hw';rcases hmode with ⟨rfl,hlz⟩ | hall1
    ·have hjh:j < hd:=by
      rcases Nat.lt_or_ge j hd with h' | h'
      ·exact h'
      ·have h9:=nV hs hcl hoj hall h' hih hi hlz;rw [hiF] at h9;cases h9
     exact hw' hjh hF
    ·exact hall1 w'
   have hcomm:=wpOp_putIf hoj (hfree j oj hoj hji hun hno) (fun cs b=>hsel i oi cs b hi) (fun cs b=>hsel j oj cs b hoj) hQ hy hnext
   refine wpOp_mono (fun a' w' h3=>⟨h3.2.1,?_⟩) hcomm
   refine ih (listed.setIfInBounds j true) a' w' (hcl.step hj) ?_ (ready_mono hr (Ne.symm hji)) h3.1 (hnx w' h3.2.1) ?_
   ·intro k ok hok hki hunk hnok;refine hfree k ok hok hki ?_ hnok;by_cases hjk:j=k
    ·subst hjk; exact hun
    ·rw [getD_set_ne true hjk] at hunk; exact hunk
   ·rw [Array.setIfInBounds_comm _ _ hji];exact h3.2.2
end
mutual
theorem bP.Qz {β:cR}:∀ {v:IV} {u u':Value},kn v=true->bP β v u->bP β v u'->u=u'
 | .int k n,u,u',_,h,h'=>by rw [h.aS.1,h'.aS.1]
 | .bool b,u,u',_,h,h'=>by rw [h.eC,h'.eC]
 | .nilp,u,u',_,h,h'=>by cases h; cases h'; rfl
 | .nils,u,u',_,h,h'=>by rw [h.gI,h'.gI]
 | .nilf,u,u',_,h,h'=>by cases h; cases h'; rfl
 | .unk,u,u',hk,_,_=>by simp [kn] at hk
 | .fn f cs,u,u',hk,h,h'=>by
  obtain ⟨xs,rfl,hl,hr⟩:=h.oF;obtain ⟨ys,rfl,hl',hr'⟩:=h'.oF;have:=gf.Qz (cs:=cs) (xs:=xs.toList) (ys:=ys.toList) (by simpa [kn] using hk) (by simpa using hl) (by simpa using hl') (by simpa using hr) (by simpa using hr')
  rw [show xs=ys from Array.ext' this]
 | .ptr b o,u,u',_,h,h'=>by
  obtain ⟨id,rfl,h1⟩:=h.gL;obtain ⟨id',rfl,h2⟩:=h'.gL;rw [h1] at h2; cases h2; rfl
 | .pdyn b o i,u,u',_,h,h'=>by
  cases h; cases h'
  rename_i h1 _ h2;rw [h1] at h2; cases h2; rfl
 | .prow b i sz f,u,u',_,h,h'=>by
  obtain ⟨g,o,n,c,rfl,h1⟩:=h.mh;obtain ⟨g',o',n',c',rfl,h2⟩:=h'.mh;rw [h1] at h2; cases h2; rfl
 | .prowd b i sz f j,u,u',_,h,h'=>by
  cases h; cases h'
  rename_i h1 _ _ _ _ h2;rw [h1] at h2; cases h2; rfl
 | .sl b,u,u',_,h,h'=>bP.U0 h h'
 | .agg cs,u,u',hk,h,h'=>by
  obtain ⟨xs,rfl,hl,_,hr⟩:=h.iT;obtain ⟨ys,rfl,hl',_,hr'⟩:=h'.iT;have:=gf.Qz (cs:=cs) (xs:=xs.toList) (ys:=ys.toList) (by simpa [kn] using hk) (by simpa using hl) (by simpa using hl') (by simpa using hr) (by simpa using hr')
  rw [show xs=ys from Array.ext' this]
 | .tup cs,u,u',hk,h,h'=>by
  obtain ⟨xs,rfl,hl,hr⟩:=h.oZ;obtain ⟨ys,rfl,hl',hr'⟩:=h'.oZ;have:=gf.Qz (cs:=cs) (xs:=xs.toList) (ys:=ys.toList) (by simpa [kn] using hk) (by simpa using hl) (by simpa using hl') (by simpa using hr) (by simpa using hr')
  rw [show xs=ys from Array.ext' this]
theorem gf.Qz {β:cR}:∀ {cs:List IV} {xs ys:List Value},VN cs=true->cs.length=xs.length->cs.length=ys.length->(∀ (i:Nat) c v,cs[i]? = some c->xs[i]? = some v->bP β c v)->
  (∀ (i:Nat) c v,cs[i]? = some c->ys[i]? = some v->bP β c v)->xs=ys
 | [],xs,ys,_,h1,h2,_,_=>by
  rw [List.eq_nil_of_length_eq_zero h1.symm,List.eq_nil_of_length_eq_zero h2.symm]
 | c :: cs,[],_,_,h1,_,_,_=>by simp at h1
 | c :: cs,_ :: _,[],_,_,h2,_,_=>by simp at h2
 | c :: cs,x :: xs,y :: ys,hk,h1,h2,hr,hr'=>by
  simp only [VN,Bool.and_eq_true] at hk;have e0:=bP.Qz hk.1 (hr 0 c x rfl rfl) (hr' 0 c y rfl rfl);have e1:=gf.Qz (cs:=cs) (xs:=xs) (ys:=ys) hk.2 (by simpa using h1) (by simpa using h2) (fun i c v hc hv=>hr (i+1) c v (by simpa using hc) (by simpa using hv)) (fun i c v hc hv=>hr' (i+1) c v (by simpa using hc) (by simpa using hv))
  rw [e0,e1]
end
theorem ago:∀ (l:OB) (b:Nat) (k:aq),look (kO l) b=some k->look l b=some k/\k.agu=false:=by
 intro l;induction l with
 | nil=>intro b k h; simp [kO,look_nil] at h
 | cons x l ih=>
  intro b k h;cases x with
  | none=>
   simp only [kO] at h;cases b with
   | zero=>simp [look_nil,bX,bY] at h
   | succ b=>simp only [look_nil,bX,bY] at h ⊢; exact ih b k h
  | some kk=>
   cases kk <;> simp only [kO] at h <;> cases b <;> simp only [look_nil,bX,bY] at h ⊢ <;> first
    | exact ih _ k h
    | (cases h; exact ⟨rfl,rfl⟩)
    | cases h
theorem Qt (t:List (Option IV)) (b b':OB) (x:Operand):ev { t,b } x=ev { t,b:=b' } x:=Sz t b b' x
theorem tQ {f:Nat->Prop}:∀ {l:List Nat},Hs f l->∀ i∈l,f i
 | [],_,i,hi=>by cases hi
 | [j],h,i,hi=>by simp at hi; subst hi; exact h
 | j :: k :: l,h,i,hi=>by
  rcases List.mem_cons.1 hi with rfl | hi
  ·exact h.1
  ·exact tQ (l:=k :: l) h.2 i hi
theorem uz (E:Env):∀ (l:List Oper) (i:Nat) (o:Oper),i < lQ E l->l[i]? = some o->writes E o=false:=by
 intro l;induction l with
 | nil=>intro i o h; simp [lQ] at h
 | cons x l ih=>
  intro i o h hi;simp only [lQ] at h;split at h
  ·omega
  ·rename_i hx;cases i with
   | zero=>simp at hi; subst hi; simpa using hx
   | succ i=>simp at hi; exact ih i o (by omega) hi
section
variable {E:Env} {X:Ctx} {Q:Exit->Act->World->Prop} {K:St->Prop} {ops:Array Oper} {facts:OB} {hd n0:Nat} {β0:cR}
theorem wJ {listed:Array Bool} {gs:List (Nat × Bool)} {st:St} {i:Nat}:∀ {l:List Nat},yb E.P ops facts hd listed gs st l=some i->i∈l/\i < hd/\Region.free .any ops listed i=true/\∃o,ops[i]? = some o:=by
 intro l;induction l with
 | nil=>intro h; simp [yb] at h
 | cons j l ih=>
  intro h;simp only [yb] at h;split at h
  ·rename_i o ho;split at h
   ·rename_i hc;cases h
    exact ⟨List.mem_cons_self ..,hc.1,hc.2.2,o,ho⟩
   ·obtain ⟨h1,h2⟩:=ih h;exact ⟨List.mem_cons_of_mem _ h1,h2⟩
  ·cases h
def AP (ops:Array Oper) (hd:Nat) (listed:Array Bool):Prop:=∃j o,j < hd/\ops[j]? = some o/\eA o=false/\listed.getD j true=false
theorem AP.mono {ops:Array Oper} {hd:Nat} {listed:Array Bool} {i:Nat} (h:AP ops hd (listed.setIfInBounds i true)):AP ops hd listed:=by
 obtain ⟨j,o,h1,h2,h3,h4⟩:=h;refine ⟨j,o,h1,h2,h3,?_⟩;by_cases e:i=j
 ·subst e;rw [Array.getD_eq_getD_getElem?,Array.getElem?_setIfInBounds,if_pos rfl] at h4;split at h4
  ·simp at h4
  ·simp at h4
 ·rw [getD_set_ne true e] at h4; exact h4
theorem lU (hE:EnvOk E) (hsel:Region.noSelect ops=true) (hs:jb ops hd=true) (hhd:∀ i o,i < hd->ops[i]? = some o->writes E o=false)
  (hQ:∀ c a w,¬ Q (.panic c) a w) (happ:ops.any cq=true->∀ b k,look facts b=some k->k.agu=false):
  ∀ (fuel:Nat) {listed:Array Bool} {gs:List (Nat × Bool)} {β:cR} {st:St} {a:Act} {w:World},Sat X β st a w->n0<=st.b.length->(∀ b r,β0 b=some r->β b=some r)->
  (AP ops hd listed->(∀ b k,look facts b=some k->gi X β0 w b k)/\(ops.any cq=true->∀ b k,look facts b=some k->look st.b b=some k))->
  jW ops listed->gN E ops facts hd fuel listed gs st K->
  (∀ β' st' a' w',K st'->Sat X β' st' a' w'->(∀ b,b < n0->β' b=β b)->n0<=st'.b.length->Q .normal a' w')->
  el E.P ops Q (fun w=>∀ b k,look facts b=some k->gi X β0 w b k) hd fuel listed a w:=by
 intro fuel;induction fuel with
 | zero=>
  intro listed gs β st a w h hn hm hH hcl hk hK;simp only [gN,iv,rP] at hk;split at hk
  ·rename_i hr;exact ⟨hr,hK β st a w hk h (fun _ _=>rfl) hn⟩
  ·exact hk.elim
 | succ fuel ih=>
  intro listed gs β st a w h hn hm hH hcl hk hK;simp only [gN,iv,rP] at hk;split at hk
  ·rename_i hr;exact ⟨fun _=>hK β st a w hk h (fun _ _=>rfl) hn,fun i hi=>by rw [hr] at hi; cases hi⟩
  ·rename_i r rs hr;split at hk
   ·
    rename_i i hp;obtain ⟨hmem,hih,hfree,o,ho⟩:=wJ hp;rw [ho] at hk;simp only at hk;rw [← hr] at hmem;have hun:listed.getD i true=false:=(mem_ready.1 hmem).1;have hHs:∀ {st':St},st'.b=st.b->(AP ops hd (listed.setIfInBounds i true)->(∀ b k,look facts b=some k->gi X β0 w b k)/\(ops.any cq=true->∀ b k,look facts b=some k->look st'.b b=some k)):=by
     intro st' e hp;rw [e];exact hH hp.mono
    have hgo:∀ {v:Value} {F1:World->Prop},((F1=fun w=>∀ b k,look facts b=some k->gi X β0 w b k)/\eA o=false∨∀ w,F1 w)->YieldsIf E.P ops F1 o v a->F1 w->el E.P ops Q (fun w=>∀ b k,look facts b=some k->gi X β0 w b k) hd fuel (listed.setIfInBounds i true) (a.put o.dst v) w->el E.P ops Q (fun w=>∀ b k,look facts b=some k->gi X β0 w b k) hd (fuel+1) listed a w:=
     fun hmode hy hF1 hw=>ij ho hmode (Region.noSelect_spec hsel) (fun c a w hq=>absurd hq (hQ _ _ _)) hs hih fuel listed a w hcl (Region.free_spec ho hfree) hmem hy hF1 hw
    rcases eL h hk with ⟨hw,hk⟩ | ⟨hw,hk⟩
    ·split at hk
     ·rename_i p v hps;split at hk
      ·rename_i hkn;have hp':∀ q,p=some q->q:=by intro q hq; subst hq; exact hk.1
       have hk':gN E ops facts hd fuel (listed.setIfInBounds i true) (qk gs o true) (st.aN o.dst v) K:=by
        cases p with
        | none=>exact hk
        | some q=>exact hk.2
       cases hlz:eA o with
       | false=>
        obtain ⟨hF,hinv⟩:=hH ⟨i,o,hih,ho,hlz,hun⟩;have hrun:∀ w',(∀ b k,look facts b=some k->gi X β0 w' b k)->∃u,bP β v u/\(execOp a.eval o).run E.P w' = .ok (.value u) w':=by
         intro w' hF';exact ez (st:={ st with b:=facts }) (fun x v hx=>bR h (by rw [Qt st.t st.b facts x]; exact hx)) (fun b k hb=>(hF' b k hb).mono hm) hps hp'
        obtain ⟨u,hu,hrun0⟩:=hrun w hF;have hy:YieldsIf E.P ops (fun w=>∀ b k,look facts b=some k->gi X β0 w b k) o u a:=by
         refine .inl ⟨hw,fun w' hF'=>?_⟩
         obtain ⟨u',hu',hrun'⟩:=hrun w' hF';rw [bP.Qz hkn hu hu'];exact hrun'
        exact hgo (.inl ⟨rfl,hlz⟩) hy hF (ih (h.aN hu o.dst) (by rw [cJ]; exact hn) hm (hHs (cJ _ _ _)) (hcl.step hmem) hk' hK)
       | true=>
        rw [yq hlz st facts,← yq hlz st []] at hps;obtain ⟨u,hu,hrun0⟩:=ez (st:={ st with b:=[] }) (w:=w) (X:=X) (fun x v hx=>bR h (by rw [Qt st.t st.b [] x]; exact hx)) (fun b k hb=>by rw [look_nil] at hb; cases hb) hps hp'
        have hy:YieldsIf E.P ops (fun _=>True) o u a:=.inl ⟨hw,fun w' _=>r6 hlz hrun0 w'⟩
        exact hgo (.inr fun _=>trivial) hy trivial (ih (h.aN hu o.dst) (by rw [cJ]; exact hn) hm (hHs (cJ _ _ _)) (hcl.step hmem) hk' hK)
      ·exact hk.elim
     ·exact hk.elim
    ·have hy:YieldsIf E.P ops (fun _=>True) o undef a:=.inr ⟨hw,rfl⟩
     exact hgo (.inr fun _=>trivial) hy trivial (ih (h.aN (agi β) o.dst) (by rw [cJ]; exact hn) hm (hHs (cJ _ _ _)) (hcl.step hmem) hk hK)
   ·
    refine ⟨fun h0=>(by rw [h0] at hr; cases hr),fun i hi=>?_⟩
    rw [hr] at hi;have hki:=tQ hk i hi;rw [← hr] at hi;obtain ⟨hun,o,ho,hall⟩:=mem_ready.1 hi;rw [ho] at hki;simp only at hki;unfold wpOp;rw [ho];simp only;have hafter:∀ {st':St} {w':World},(i < hd->AP ops hd listed->(∀ b k,look facts b=some k->gi X β0 w' b k)/\(ops.any cq=true->∀ b k,look facts b=some k->look st'.b b=some k))->
      (AP ops hd (listed.setIfInBounds i true)->(∀ b k,look facts b=some k->gi X β0 w' b k)/\(ops.any cq=true->∀ b k,look facts b=some k->look st'.b b=some k)):=by
     intro st' w' himp hex;rcases Nat.lt_or_ge i hd with hlt | hge
     ·exact himp hlt hex.mono
     ·exfalso
      obtain ⟨j,oj,hj,hoj,hlz,hjl⟩:=hex;have h1:=nV hs hcl ho hall hge hj hoj hlz;have hne:i≠j:=by omega
      rw [getD_set_ne true hne] at hjl;rcases Nat.lt_or_ge j listed.size with h' | h'
      ·simp [h'] at h1 hjl; rw [h1] at hjl; cases hjl
      ·simp [Array.getElem?_eq_none h'] at hjl
    rcases eL h hki with ⟨hw,hki⟩ | ⟨hw,hki⟩
    ·rw [if_pos hw];refine .inl (jB h hE hki ?_);intro β' st' a' w' hk' hsat hag hle hrel;have hap:cq o=true->ops.any cq=true:=by
      intro h1;rw [Array.any_eq_true];have hlt':=(Array.getElem?_eq_some_iff.1 ho).1;exact ⟨i,hlt',by rw [(Array.getElem?_eq_some_iff.1 ho).2]; exact h1⟩
     have hF2:i < hd->(∀ b k,look facts b=some k->gi X β0 w b k)->∀ b k,look facts b=some k->gi X β0 w' b k:=by
      intro hlt hF b k hb;have hR:=hrel (hhd i o hlt ho);rcases hR.world with hkp | ⟨h1,b1,e,ks,xs,id,hb1,hu1,hbut⟩
      ·exact (hF b k hb).keeps hkp
      ·have hlz:eA o=false:=by
        cases hz:eA o with
        | false=>rfl
        | true=>rw [Cr hz] at h1; cases h1
       obtain ⟨_,hinv⟩:=hH ⟨i,o,hlt,ho,hlz,hun⟩;refine (hF b k hb).Yf hbut (fun hu=>?_)
       have hbk:=hinv (hap h1) b k hb;have hnr:=happ (hap h1) b k hb;have hu':afJ β b k id:=⟨by
        rcases hu.1 with h5 | ⟨ad,n,c,h5,h6⟩
        ·exact .inl (hm _ _ h5)
        ·exact .inr ⟨ad,n,c,hm _ _ h5,h6⟩,hu.2⟩
       have:=h.disj b1 b _ k id hb1 hbk rfl ⟨hu1,.inl rfl⟩ hu';subst this;rw [hb1] at hbk;cases hbk
       cases hnr
     have hFi:i < hd->AP ops hd listed->(∀ b k,look facts b=some k->gi X β0 w' b k)/\(ops.any cq=true->∀ b k,look facts b=some k->look st'.b b=some k):=by
      intro hlt hp;obtain ⟨hF,hinv⟩:=hH hp;have hR:=hrel (hhd i o hlt ho);exact ⟨hF2 hlt hF,fun h1 b k hb=>hR.cQ b k (hinv h1 b k hb) (happ h1 b k hb)⟩
     refine ⟨hF2,?_⟩;exact ih hsat (Nat.le_trans hn hle) (fun b r hb=>h.jo hag b r (hm b r hb)) (hafter hFi) (hcl.step hi) hk' (fun β'' st'' a'' w'' hk'' hs'' hag'' hle''=>hK β'' st'' a'' w'' hk'' hs'' (fun b hb=>(hag'' b hb).trans (hag b (by omega))) hle'')
    ·rw [if_neg (by rw [hw]; simp)]
     have hFi:i < hd->AP ops hd listed->(∀ b k,look facts b=some k->gi X β0 w b k)/\(ops.any cq=true->∀ b k,look facts b=some k->look (st.aN o.dst (.tup [])).b b=some k):=by
      intro _ hp;rw [cJ];exact hH hp
     exact ⟨fun _ h=>h,ih (h.aN (agi β) o.dst) (by rw [cJ]; exact hn) hm (hafter hFi) (hcl.step hi) hki hK⟩
theorem Iy (l:List Nat):∀ (m i:Nat),Nat.testBit (l.foldl (fun m i=>Nat.lor m (Nat.shiftLeft 1 i)) m) i=(Nat.testBit m i || decide (i∈l)):=by
 induction l with
 | nil=>intro m i; simp
 | cons x l ih=>
  intro m i;rw [List.foldl_cons,ih];have h1:Nat.lor m (Nat.shiftLeft 1 x)=m ||| 2 ^ x:=by
   show m ||| (1 <<< x)=_;rw [Nat.one_shiftLeft]
  rw [h1,Nat.testBit_or,Nat.testBit_two_pow];by_cases h:x=i
  ·subst h; simp
  ·have h':¬ i=x:=fun e=>h e.symm
   simp [h,h']
theorem lA (l:List Nat) (i:Nat):Nat.testBit (jO l) i=decide (i∈l):=by
 unfold jO; rw [Iy]; simp
theorem tg {x y:Nat} (h:Nat.beq (Nat.land x y) 0=true) (i:Nat) (hx:Nat.testBit x i=true):Nat.testBit y i=false:=by
 have h1:x &&& y=0:=Nat.eq_of_beq_eq_true h;have h2:=congrArg (fun n=>Nat.testBit n i) h1
 simp only [Nat.testBit_and,hx,Bool.true_and,Nat.zero_testBit] at h2;exact h2
theorem agA {i d l:Nat}:∀ {ps:List OpI},oq i d l ps=true->∀ p∈ps,Nat.testBit p.a i=true∨(Nat.beq (Nat.land d p.l) 0=true/\Nat.beq (Nat.land d p.d) 0=true/\Nat.beq (Nat.land l p.d) 0=true)
 | [],_,p,hp=>by cases hp
 | q :: ps,h,p,hp=>by
  simp only [oq,Bool.and_eq_true,Bool.or_eq_true] at h;rcases List.mem_cons.1 hp with rfl | hp
  ·rcases h.1 with h1 | h1
   ·exact .inl h1
   ·exact .inr ⟨h1.1.1,h1.1.2,h1.2⟩
  ·exact agA h.2 p hp
theorem agE:∀ {ps:List OpI} {i k:Nat},k < wQ i ps->∃q,ps[k]? = some q/\Nat.blt q.a (Nat.pow 2 (i+k))=true/\oq (i+k) q.d q.l (ps.drop (k+1))=true
 | [],i,k,h=>by simp [wQ] at h
 | p :: ps,i,k,h=>by
  simp only [wQ] at h;split at h
  ·rename_i hc;rw [Bool.and_eq_true] at hc;cases k with
   | zero=>exact ⟨p,rfl,hc.1,by simpa using hc.2⟩
   | succ k=>
    obtain ⟨q,h1,h2,h3⟩:=agE (ps:=ps) (i:=i+1) (k:=k) (by omega)
    refine ⟨q,by simpa using h1,?_,?_⟩
    ·rw [show i+(k+1)=i+1+k by omega]; exact h2
    ·rw [show i+(k+1)=i+1+k by omega]; simpa using h3
  ·omega
theorem fD {a b:Nat}:Nat.blt a b=true↔a < b:=by
 unfold Nat.blt; rw [Nat.ble_eq]; exact Iff.rfl
theorem n7 {n i j:Nat} (h:j < n):(iX n i)[j]? = some (Nat.blt j i):=by
 unfold iX;simp [h]
theorem jd {n i j:Nat} {b:Bool} (h:j < n):(iX n i).getD j b=Nat.blt j i:=by
 rw [Array.getD_eq_getD_getElem?,n7 h]; rfl
theorem BJ {n i:Nat} (h:i < n):(iX n i).setIfInBounds i true=iX n (i+1):=by
 have hs:∀ k,(iX n k).size=n:=by intro k; simp [iX]
 apply Array.ext
 ·simp [hs]
 ·intro j h1 h2;have hj:j < n:=by rw [hs] at h2; exact h2
  apply Option.some.inj;rw [← Array.getElem?_eq_getElem,← Array.getElem?_eq_getElem,n7 hj,Array.getElem?_setIfInBounds];by_cases e:i=j
  ·subst e; rw [if_pos rfl,hs,if_pos hj];rw [show Nat.blt i (i+1)=true from fD.2 (by omega)]
  ·rw [if_neg e,n7 hj]
   congr 1
   rw [Bool.eq_iff_iff,fD,fD]; omega
theorem Cn {o:Oper} {d:Nat}:Nat.testBit (lP ops o).l d=decide (d∈o.looksAt ops):=lA _ _
theorem AA {o:Oper} {d:Nat} (h:o.dst=some d) (e:Nat):Nat.testBit (lP ops o).d e=decide (d=e):=by
 unfold lP;simp only [h];show Nat.testBit (1 <<< d) e=_;rw [Nat.one_shiftLeft,Nat.testBit_two_pow]
theorem Hu {o:Oper} {k:Nat}:Nat.testBit (lP ops o).a k=true↔∃e∈o.after,Region.binds .any e=true/\e.on=k:=by
 unfold lP;rw [lA];simp only [decide_eq_true_eq,List.mem_map,List.mem_filter,Array.mem_toList_iff];constructor
 ·rintro ⟨e,⟨h1,h2⟩,h3⟩; exact ⟨e,h1,h2,h3⟩
 ·rintro ⟨e,h1,h2,h3⟩; exact ⟨e,⟨h1,h2⟩,h3⟩
theorem pC {i:Nat} {oi:Oper} (hi:ops[i]? = some oi) (hl:i < kg ops):
  (∀ e∈oi.after,Region.binds .any e=true->e.on < i)/\
  (∀ j oj,ops[j]? = some oj->i < j->(∀ e∈oj.after,Region.binds .any e=true->e.on≠i)->oi.apart ops oj=true):=by
 obtain ⟨q,h1,h2,h3⟩:=agE hl;have hq:q=lP ops oi:=by
  rw [List.getElem?_map,Array.getElem?_toList,hi] at h1;exact (Option.some.inj h1).symm
 subst hq;rw [Nat.zero_add] at h2 h3;refine ⟨fun e he hb=>?_,fun j oj hj hij hno=>?_⟩
 ·rcases Nat.lt_or_ge e.on i with h4 | h4
  ·exact h4
  ·have h5:=(Hu (ops:=ops) (o:=oi) (k:=e.on)).2 ⟨e,he,hb,rfl⟩;rw [Nat.testBit_lt_two_pow (Nat.lt_of_lt_of_le (fD.1 h2) (Nat.pow_le_pow_right (by decide) h4))] at h5
   cases h5
 ·have hmem:lP ops oj∈(ops.toList.map (lP ops)).drop (i+1):=by
   refine List.mem_of_getElem? (i:=j - (i+1)) ?_;rw [List.getElem?_drop,List.getElem?_map,Array.getElem?_toList,show i+1+(j - (i+1))=j by omega,hj]
   rfl
  rcases agA h3 _ hmem with h4 | ⟨h4,h5,h6⟩
  ·obtain ⟨e,he,hb,hon⟩:=Hu.1 h4;exact absurd hon (hno e he hb)
  ·unfold Oper.apart;rw [Bool.and_eq_true];constructor
   ·split
    ·rename_i d hd;have hb:Nat.testBit (lP ops oi).d d=true:=by rw [AA hd]; simp
     have h7:=tg h4 d hb;have h8:=tg h5 d hb;rw [Cn] at h7;rw [Bool.and_eq_true];refine ⟨by simpa using h7,?_⟩
     cases hd2:oj.dst with
     | none=>rfl
     | some d2=>
      rw [AA hd2] at h8;have:¬ d2=d:=by simpa using h8
      simp [this]
    ·rfl
   ·split
    ·rename_i d hd;by_cases h9:d∈oi.looksAt ops
     ·have h10:=tg h6 d (by rw [Cn]; simpa using h9)
      rw [AA hd] at h10;simp at h10
     ·simpa using h9
    ·rfl
theorem xd (hE:EnvOk E) (hsel:Region.noSelect ops=true) (hs:jb ops hd=true) (hhd:∀ i o,i < hd->ops[i]? = some o->writes E o=false)
  (hQ:∀ c a w,¬ Q (.panic c) a w) (happ:ops.any cq=true->∀ b k,look facts b=some k->k.agu=false) {lim:Nat} (hlim:lim<=hd) (hlim':lim<=kg ops):
  ∀ (l:List Oper) {i:Nat} {gs:List (Nat × Bool)} {β:cR} {st:St} {a:Act} {w:World},l=ops.toList.drop i->i<=ops.size->Sat X β st a w->n0<=st.b.length->(∀ b r,β0 b=some r->β b=some r)->
  ((∀ b k,look facts b=some k->gi X β0 w b k)/\(ops.any cq=true->∀ b k,look facts b=some k->look st.b b=some k))->
  jW ops (iX ops.size i)->jK E ops facts hd lim l i gs st K->
  (∀ β' st' a' w',K st'->Sat X β' st' a' w'->(∀ b,b < n0->β' b=β b)->n0<=st'.b.length->Q .normal a' w')->
  el E.P ops Q (fun w=>∀ b k,look facts b=some k->gi X β0 w b k) hd (ops.size - i) (iX ops.size i) a w:=by
 intro l;induction l with
 | nil=>
  intro i gs β st a w hl hi h hn hm hH hcl hk hK;exact lU hE hsel hs hhd hQ happ _ h hn hm (fun _=>hH) hcl hk hK
 | cons o rest ih=>
  intro i gs β st a w hl hi h hn hm hH hcl hk hK;simp only [jK,iv] at hk;split at hk
  ·rename_i hc;rw [Bool.and_eq_true] at hc;have hil:i < lim:=fD.1 hc.1;have hih:i < hd:=Nat.lt_of_lt_of_le hil hlim;have hoi:ops.toList[i]? = some o:=by
    have h1:(ops.toList.drop i)[0]? = some o:=by rw [← hl]; rfl
    rw [List.getElem?_drop] at h1;simpa using h1
   have ho:ops[i]? = some o:=by simpa using hoi
   have hlt:i < ops.size:=(Array.getElem?_eq_some_iff.1 ho).1;have hrest:rest=ops.toList.drop (i+1):=by
    have h1:=congrArg (List.drop 1) hl;rw [List.drop_drop] at h1;simpa using h1
   obtain ⟨hdep,hap⟩:=pC ho (Nat.lt_of_lt_of_le hil hlim');have hfree:∀ j oj,ops[j]? = some oj->j≠i->(iX ops.size i).getD j true=false->(∀ e∈oj.after,Region.binds .any e=true->e.on≠i)->oj.apart ops oj=oj.apart ops oj->o.apart ops oj=true:=by
    intro j oj hj hji hun hno _;have hjs:=(Array.getElem?_eq_some_iff.1 hj).1;rw [jd hjs] at hun;have:¬ j < i:=fun h'=>by rw [fD.2 h'] at hun; cases hun
    exact hap j oj hj (by omega) hno
   have hmem:i∈Region.ready .any ops (iX ops.size i):=by
    refine mem_ready.2 ⟨?_,o,ho,fun e he hb=>?_⟩
    ·rw [jd hlt];cases hb:Nat.blt i i with
     | false=>rfl
     | true=>exact absurd (fD.1 hb) (by omega)
    ·have h1:=hdep e he hb;rw [jd (by omega)]
     exact fD.2 h1
   have hstep:∀ {v:Value},YieldsIf E.P ops (fun w=>∀ b k,look facts b=some k->gi X β0 w b k) o v a->
     el E.P ops Q (fun w=>∀ b k,look facts b=some k->gi X β0 w b k) hd (ops.size - (i+1)) (iX ops.size (i+1)) (a.put o.dst v) w->
     el E.P ops Q (fun w=>∀ b k,look facts b=some k->gi X β0 w b k) hd (ops.size - i) (iX ops.size i) a w:=by
    intro v hy hw;rw [show ops.size - i=(ops.size - (i+1))+1 by omega]
    rw [← BJ hlt] at hw;cases hlz:eA o with
    | false=>exact ij ho (.inl ⟨rfl,hlz⟩) (Region.noSelect_spec hsel) (fun c a w hq=>absurd hq (hQ _ _ _)) hs hih _ _ a w hcl (fun j oj h1 h2 h3 h4=>hfree j oj h1 h2 h3 h4 rfl) hmem hy hH.1 hw
    | true=>
     have hy':YieldsIf E.P ops (fun _=>True) o v a:=by
      rcases hy with ⟨h1,h2⟩ | h1
      ·exact .inl ⟨h1,fun w' _=>r6 hlz (h2 w hH.1) w'⟩
      ·exact .inr h1
     exact ij ho (.inr fun _=>trivial) (Region.noSelect_spec hsel) (fun c a w hq=>absurd hq (hQ _ _ _)) hs hih _ _ a w hcl (fun j oj h1 h2 h3 h4=>hfree j oj h1 h2 h3 h4 rfl) hmem hy' trivial hw
   have hcl':jW ops (iX ops.size (i+1)):=by rw [← BJ hlt]; exact hcl.step hmem
   rcases eL h hk with ⟨hw,hk⟩ | ⟨hw,hk⟩
   ·split at hk
    ·rename_i p v hps;split at hk
     ·rename_i hkn;have hp':∀ q,p=some q->q:=by intro q hq; subst hq; exact hk.1
      have hk':jK E ops facts hd lim rest (i+1) (qk gs o true) (st.aN o.dst v) K:=by
       cases p with
       | none=>exact hk
       | some q=>exact hk.2
      have hrun:∀ w',(∀ b k,look facts b=some k->gi X β0 w' b k)->∃u,bP β v u/\(execOp a.eval o).run E.P w' = .ok (.value u) w':=by
       intro w' hF';exact ez (st:={ st with b:=facts }) (fun x v hx=>bR h (by rw [Qt st.t st.b facts x]; exact hx)) (fun b k hb=>(hF' b k hb).mono hm) hps hp'
      obtain ⟨u,hu,hrun0⟩:=hrun w hH.1;refine hstep (v:=u) (.inl ⟨hw,fun w' hF'=>?_⟩) ?_
      ·obtain ⟨u',hu',hrun'⟩:=hrun w' hF';rw [bP.Qz hkn hu hu'];exact hrun'
      ·exact ih hrest hlt (h.aN hu o.dst) (by rw [cJ]; exact hn) hm (by rw [cJ]; exact hH) hcl' hk' hK
     ·exact hk.elim
    ·exact hk.elim
   ·refine hstep (v:=undef) (.inr ⟨hw,rfl⟩) ?_;exact ih hrest hlt (h.aN (agi β) o.dst) (by rw [cJ]; exact hn) hm (by rw [cJ]; exact hH) hcl' hk hK
  ·exact lU hE hsel hs hhd hQ happ _ h hn hm (fun _=>hH) hcl hk hK
theorem mS {cQ:Nat->Bool} {f:IV->IV}:∀ {l:List (Option IV)} {i:Nat},(ox cQ f i l).length=l.length
 | [],_=>rfl
 | none :: l,i=>by simp [eJ,fK,mS (l:=l)]
 | some v :: l,i=>by simp [eJ,fK,mS (l:=l)]
theorem pE {cQ:Nat->Bool} {f:IV->IV}:∀ {l:List (Option IV)} {i j:Nat} {v:IV},(ox cQ f i l)[j]? = some (some v)->∃v0,l[j]? = some (some v0)/\v=f v0
 | [],_,j,v,h=>by simp [yv,eJ] at h
 | none :: l,i,0,v,h=>by simp [yv,eJ] at h
 | none :: l,i,j+1,v,h=>by
  obtain ⟨v0,h1,h2⟩:=pE (l:=l) (i:=i+1) (j:=j) (by simpa [eJ,fK] using h)
  exact ⟨v0,by simpa using h1,h2⟩
 | some u :: l,i,0,v,h=>by
  simp only [fK,List.getElem?_cons_zero,Option.some.injEq] at h;split at h
  ·exact ⟨u,rfl,(Option.some.inj h).symm⟩
  ·cases h
 | some u :: l,i,j+1,v,h=>by
  obtain ⟨v0,h1,h2⟩:=pE (l:=l) (i:=i+1) (j:=j) (by simpa [eJ,fK] using h)
  exact ⟨v0,by simpa using h1,h2⟩
theorem om {α:Type} {l l':List (Option α)} (hl:l.length=l'.length) (h:∀ i,look l i=look l' i):l=l':=by
 apply List.ext_getElem hl;intro i h1 h2;have:=h i;rw [iw,iw] at this;simpa [h1,h2] using this
theorem pz {α:Type} {l:List (Option α)} {i:Nat} (h:l.length<=i):look l i=none:=by
 rw [iw,List.getElem?_eq_none h]; rfl
theorem mf (st:St) (d:Tmp) (v:IV) (i:Nat):look (st.aN (some d) v).t i=if d=i then (if d < st.t.length then some v else none) else look st.t i:=by
 simp only [St.aN,o8]; exact bU _ _ _ _
theorem vF (b:Bool) (s:PStep) (st:St):(Dd b s st).t.length=st.t.length:=by
 unfold Dd; cases b
 ·rfl
 ·exact wh st s.dst s.v
theorem tP {b:Bool} {s:PStep} {st:St} {i:Nat} (h:s.dst≠some i):look (Dd b s st).t i=look st.t i:=by
 unfold Dd;cases b
 ·rfl
 ·simp only [if_true];cases hd:s.dst with
  | none=>rfl
  | some d=>rw [mf,if_neg (fun e=>h (by rw [hd,e]))]
def kD:List PStep->Nat->(Nat->Bool)->St->St
 | [],_,_,st=>st
 | s :: l,i,L,st=>kD l (i+1) L (Dd (L i) s st)
theorem gk:∀ (l:List PStep) (i:Nat) (L:Nat->Bool) (st:St),(kD l i L st).t.length=st.t.length
 | [],_,_,_=>rfl
 | s :: l,i,L,st=>by simp only [kD]; rw [gk l,vF]
theorem nS {i0:Nat}:∀ (l:List PStep) (i:Nat) (L L':Nat->Bool) (st st':St),st.t.length=st'.t.length->look st.t i0=look st'.t i0->
  (∀ k s,l[k]? = some s->s.dst=some i0->L (i+k)=L' (i+k))->look (kD l i L st).t i0=look (kD l i L' st').t i0
 | [],_,_,_,_,_,_,h,_=>h
 | s :: l,i,L,L',st,st',hl,h,hk=>by
  simp only [kD];refine nS l (i+1) L L' _ _ (by rw [vF,vF,hl]) ?_ (fun k s' h1 h2=>?_)
  ·by_cases hd:s.dst=some i0
   ·have:=hk 0 s rfl hd;rw [Nat.add_zero] at this;rw [this];unfold Dd;cases L' i
    ·exact h
    ·simp only [if_true,hd,mf,hl]
   ·rw [tP hd,tP hd,h]
  ·have:=hk (k+1) s' (by simpa using h1) h2
   rwa [show i+(k+1)=i+1+k by omega] at this
theorem FV {i0:Nat}:∀ (l:List PStep) (i:Nat) (L:Nat->Bool) (st:St),(∀ k s,l[k]? = some s->s.dst=some i0->L (i+k)=false)->look (kD l i L st).t i0=look st.t i0
 | [],_,_,_,_=>rfl
 | s :: l,i,L,st,hk=>by
  simp only [kD];rw [FV l (i+1) L _ (fun k s' h1 h2=>by
   have:=hk (k+1) s' (by simpa using h1) h2
   rwa [show i+(k+1)=i+1+k by omega] at this)]
  by_cases hd:s.dst=some i0
  ·have:=hk 0 s rfl hd;rw [Nat.add_zero] at this;rw [this]
   rfl
  ·exact tP hd
theorem vS {i0:Nat}:∀ (l:List PStep) (i j:Nat) (L:Nat->Bool) (st:St) (s:PStep),l[j]? = some s->s.dst=some i0->L (i+j)=true->
  (∀ k s',j < k->l[k]? = some s'->s'.dst=some i0->L (i+k)=false)->i0 < st.t.length->look (kD l i L st).t i0=some s.v
 | [],_,j,_,_,_,h,_,_,_,_=>by simp at h
 | s0 :: l,i,0,L,st,s,h,hd,hL,hk,hlt=>by
  simp at h;subst h;simp only [kD];rw [FV l (i+1) L _ (fun k s' h1 h2=>by
   have:=hk (k+1) s' (by omega) (by simpa using h1) h2
   rwa [show i+(k+1)=i+1+k by omega] at this)]
  rw [Nat.add_zero] at hL;rw [hL];unfold Dd;simp only [if_true,hd,mf,if_pos hlt]
 | s0 :: l,i,j+1,L,st,s,h,hd,hL,hk,hlt=>by
  simp only [kD];refine vS l (i+1) j L _ s (by simpa using h) hd (by rw [← hL]; congr 1; omega) (fun k s' h0 h1 h2=>?_) (by rw [vF]; exact hlt)
  have:=hk (k+1) s' (by omega) (by simpa using h1) h2
  rwa [show i+(k+1)=i+1+k by omega] at this
theorem o5:∀ (l:List PStep) (i:Nat) (L:Nat->Bool) (st:St),(∀ k,L (i+k)=false)->(kD l i L st).t=st.t
 | [],_,_,_,_=>rfl
 | s :: l,i,L,st,h=>by
  simp only [kD];rw [o5 l (i+1) L _ (fun k=>by rw [show i+1+k=i+(k+1) by omega]; exact h (k+1)),show L i=false from h 0]
  rfl
theorem nt:∀ (l:List (Option Prop × PStep)) (i:Nat) (st:St),cn l st=kD (l.map (·.2)) i (fun _=>true) st
 | [],_,_=>rfl
 | (p,s) :: l,i,st=>by simp only [cn,List.map_cons,kD]; exact nt l (i+1) _
theorem vR:∀ (l:List (Option Prop × PStep)) (i j:Nat) (L:Nat->Bool) (st st':St),st.t=st'.t->(∀ k,k < j->L (i+k)=true)->(∀ k,j<=k->L (i+k)=false)->
  (kD (l.map (·.2)) i L st).t=(cn (l.take j) st').t
 | [],i,j,L,st,st',h,_,_=>by simpa [kD,cn] using h
 | (p,s) :: l,i,0,L,st,st',h,_,h2=>by
  rw [o5 _ _ _ _ (fun k=>h2 k (Nat.zero_le _))]
  simpa [cn] using h
 | (p,s) :: l,i,j+1,L,st,st',h,h1,h2=>by
  simp only [List.map_cons,kD,List.take_succ_cons,cn];refine vR l (i+1) j L _ _ ?_ (fun k hk=>by rw [show i+1+k=i+(k+1) by omega]; exact h1 _ (by omega)) (fun k hk=>by rw [show i+1+k=i+(k+1) by omega]; exact h2 _ (by omega))
  have h0:L i=true:=h1 0 (by omega)
  rw [h0];unfold Dd;simp only [if_true];cases s.dst with
  | none=>exact h
  | some d=>simp only [St.aN,h]
def fc:List PStep->Nat->(Nat->Bool)->OB
 | [],_,_=>[]
 | s :: l,i,L=>ji (L i) s.blk++fc l (i+1) L
def agm:List PStep->Nat
 | []=>0
 | s :: l=>(if s.blk.isSome then 1 else 0)+agm l
theorem gQ (b:Bool) (k:Option aq):(ji b k).length=if k.isSome then 1 else 0:=by cases k <;> rfl
theorem yz:∀ (l:List PStep) (i:Nat) (L:Nat->Bool),(fc l i L).length=agm l
 | [],_,_=>rfl
 | s :: l,i,L=>by simp only [fc,agm,List.length_append,gQ,yz l]
theorem tY:∀ (l:List PStep) (i:Nat) (L:Nat->Bool) (st:St),(kD l i L st).b=st.b++fc l i L
 | [],_,_,st=>by simp [kD,fc]
 | s :: l,i,L,st=>by
  simp only [kD,fc];rw [tY l];simp [Dd]
theorem qW:∀ (l:List (Option Prop × PStep)) (st:St),(cn l st).b.length=st.b.length+agm (l.map (·.2))
 | [],st=>by simp [cn,agm]
 | (p,s) :: l,st=>by
  simp only [cn,List.map_cons,agm];rw [qW l];simp only [Dd,List.length_append,gQ];omega
theorem wY:∀ (l:List PStep) (i j:Nat) (L L':Nat->Bool) (s:PStep),l[j]? = some s->s.blk=none->(∀ k,k≠i+j->L' k=L k)->fc l i L' = fc l i L
 | [],_,_,_,_,_,h,_,_=>by simp at h
 | s0 :: l,i,0,L,L',s,h,hb,hL=>by
  simp at h;subst h;simp only [fc,hb,ji];have:∀ (l:List PStep) (i':Nat),i < i'->fc l i' L' = fc l i' L:=by
   intro l;induction l with
   | nil=>intro i' _; rfl
   | cons s l ih=>intro i' hi; simp only [fc]; rw [hL i' (by omega),ih (i' + 1) (by omega)]
  rw [this l (i+1) (by omega)]
 | s0 :: l,i,j+1,L,L',s,h,hb,hL=>by
  simp only [fc];rw [hL i (by omega),wY l (i+1) j L L' s (by simpa using h) hb (fun k hk=>hL k (by omega))]
theorem tp:∀ (l:List PStep) (i j:Nat) (L L':Nat->Bool) (s:PStep) (k:aq),l[j]? = some s->s.blk=some k->L (i+j)=false->L' (i+j)=true->(∀ m,m≠i+j->L' m=L m)->
  fc l i L' = (fc l i L).set (agm (l.take j)) (some k)/\look (fc l i L) (agm (l.take j))=none/\agm (l.take j) < agm l
 | [],_,_,_,_,_,_,h,_,_,_,_=>by simp at h
 | s0 :: l,i,0,L,L',s,k,h,hb,h0,h1,hL=>by
  simp at h;subst h;have hrest:∀ (l:List PStep) (i':Nat),i < i'->fc l i' L' = fc l i' L:=by
   intro l;induction l with
   | nil=>intro i' _; rfl
   | cons s l ih=>intro i' hi; simp only [fc]; rw [hL i' (by omega),ih (i' + 1) (by omega)]
  rw [Nat.add_zero] at h0 h1;simp only [fc,hb,ji,h0,h1,List.take_zero,agm,Option.isSome_some,if_true,Bool.false_eq_true,if_false];rw [hrest l (i+1) (by omega)]
  exact ⟨rfl,rfl,by omega⟩
 | s0 :: l,i,j+1,L,L',s,k,h,hb,h0,h1,hL=>by
  obtain ⟨r1,r2,r3⟩:=tp l (i+1) j L L' s k (by simpa using h) hb (by rw [show i+1+j=i+(j+1) by omega]; exact h0) (by rw [show i+1+j=i+(j+1) by omega]; exact h1) (fun m hm=>hL m (by omega))
  simp only [fc,List.take_succ_cons,agm];rw [hL i (by omega),r1]
  have hl:=gQ (L i) s0.blk;refine ⟨?_,?_,by omega⟩
  ·rw [List.set_append_right _ _ (by rw [hl]; omega),hl]
   congr 2
   omega
  ·rw [cv,hl,if_neg (by omega)]
   rw [show (if s0.blk.isSome=true then 1 else 0)+agm (List.take j l) - (if s0.blk.isSome=true then 1 else 0)=agm (List.take j l) by omega]
   exact r2
theorem ow {cQ:Nat->Bool} {f:IV->IV}:∀ {l l':List (Option IV)} {i:Nat},l.length=l'.length->(∀ k,cQ (i+k)=true->look l k=look l' k)->ox cQ f i l=ox cQ f i l'
 | [],[],_,_,_=>rfl
 | [],_ :: _,_,h,_=>by simp at h
 | _ :: _,[],_,h,_=>by simp at h
 | x :: l,y :: l',i,hl,h=>by
  have ht:=ow (cQ:=cQ) (f:=f) (l:=l) (l':=l') (i:=i+1) (by simpa using hl) (fun k hk=>by
   have:=h (k+1) (by rw [show i+(k+1)=i+1+k by omega]; exact hk)
   simpa [bY] using this)
  have h0:cQ i=true->x=y:=fun hk=>by have:=h 0 (by simpa using hk); simpa [bX] using this
  cases hk:cQ i with
  | true=>
   rw [h0 hk];cases y with
   | none=>rw [eJ,eJ,ht]
   | some v=>rw [fK,fK,ht]
  | false=>
   cases x <;> cases y <;> simp [eJ,fK,hk,ht]
theorem rB {m:Nat} {fa:OB} {st:St} {x:Operand} {v:IV} (h:ev (iZ m fa st) x=some v):ev st x=some v:=by
 cases x with
 | tmp i=>
  simp only [ev,iZ] at h ⊢;rw [bJ] at h;obtain ⟨v0,h1,rfl⟩:=pE h;exact bJ.2 h1
 | const c=>exact h
 | func f=>exact h
 | global g=>exact h
theorem x5 {m:Nat} {fa:OB} {st:St}:∀ {l:List Operand} {vs:List IV},E5 (iZ m fa st) l=some vs->E5 st l=some vs
 | [],vs,h=>h
 | x :: l,vs,h=>by
  simp only [E5] at h ⊢;split at h
  ·rename_i v vs' h1 h2;rw [rB h1,x5 h2];exact h
  ·cases h
theorem rH {E:Env} {ops:Array Oper} {fa:OB}:∀ {l:List Oper} {st:St} {r:List (Option Prop × PStep)},ph E ops fa l st=some r->
  r.length=l.length/\∀ j o,l[j]? = some o->o.guard=none/\∃p s,r[j]? = some (p,s)/\jE E (cn (r.take j) st).b.length (iZ (jO (o.looksAt ops)) fa (cn (r.take j) st)) o=some (p,s)
 | [],st,r,h=>by
  simp only [ph,Option.some.injEq] at h;subst h;exact ⟨rfl,by simp⟩
 | o :: l,st,r,h=>by
  simp only [ph] at h;split at h
  ·cases h
  ·rename_i hg;split at h
   ·rename_i p s hs;split at h
    ·rename_i r' hr';cases h
     obtain ⟨h1,h2⟩:=rH hr';refine ⟨by simp [h1],fun j o' ho'=>?_⟩
     cases j with
     | zero=>
      simp at ho';subst ho';exact ⟨hg,p,s,rfl,by simpa [cn] using hs⟩
     | succ j=>
      obtain ⟨k1,p',s',k2,k3⟩:=h2 j o' (by simpa using ho')
      exact ⟨k1,p',s',by simpa using k2,by simpa [cn] using k3⟩
    ·cases h
   ·cases h
theorem kc {E:Env} {nb:Nat} {r:St} {o:Oper} {p:Option Prop} {s:PStep} (h:jE E nb r o=some (p,s)):s.dst=o.dst:=by
 unfold jE at h;repeat' (split at h)
 all_goals first
  | (cases h; rfl)
  | cases h
theorem yO:∀ {l:List (Option Prop × PStep)} {K:Prop},asks l K->K/\∀ p s,(p,s)∈l->∀ q,p=some q->q
 | [],K,h=>⟨h,fun p s hm=>by cases hm⟩
 | (p,s) :: l,K,h=>by
  simp only [asks] at h;have h':(∀ q,p=some q->q)/\asks l K:=by
   cases p with
   | none=>exact ⟨fun q hq=>(by cases hq),h⟩
   | some q=>exact ⟨fun q' hq=>(by cases hq; exact h.1),h.2⟩
  obtain ⟨k1,k2⟩:=yO h'.2;refine ⟨k1,fun p' s' hm q hq=>?_⟩
  rcases List.mem_cons.1 hm with e | hm
  ·cases e; exact h'.1 q hq
  ·exact k2 p' s' hm q hq
theorem Sat.fill {X:Ctx} {β:cR} {st:St} {a:Act} {w w':World} {n:Nat} {k:aq} {r:Real} (h:Sat X β st a w) (hkp:ba w w') (hn:n < st.b.length) (hl:look st.b n=none) (hβ:β n=none) (hown:k.own=true)
  (hr:∀ id,Uses (ext β n r) n id->w.heap.size<=id) (hb:gi X (ext β n r) w' n k):Sat X (ext β n r) { st with b:=st.b.set n (some k) } a w':=by
 have hm:=gJ (r:=r) hβ;have h':=h.keeps hkp;have lk:∀ b k',look (st.b.set n (some k)) b=some k'->(b=n/\k' = k)∨(b≠n/\look st.b b=some k'):=by
  intro b k' hb';rw [bU] at hb';split at hb'
  ·rename_i e;first
    | rw [if_pos hn] at hb'
    | skip
   exact .inl ⟨e.symm,(Option.some.inj hb').symm⟩
  ·rename_i e;exact .inr ⟨fun e'=>e e'.symm,hb'⟩
 have hold:∀ c k' id,look st.b c=some k'->afJ β c k' id->id < w.heap.size:=fun c k' id hc hu=>oY (h.blks c k' hc) hu
 refine ⟨h.len,?_,?_,?_,?_,h'.below,⟨h'.frm.le,h'.frm.fr,h'.frm.fo,?_⟩,h'.defers⟩
 ·intro i v hv;obtain ⟨u,hu,hr'⟩:=h.tmps i v hv;exact ⟨u,hu,hr'.mono hm⟩
 ·intro b k' hl';rcases lk b k' hl' with ⟨rfl,rfl⟩ | ⟨hne,hl'⟩
  ·exact hb
  ·exact (h'.blks b k' hl').mono hm
 ·intro b c k1 k2 id hb1 hc2 ho hu1 hu2;rcases lk b k1 hb1 with ⟨rfl,rfl⟩ | ⟨hne,hb3⟩ <;> rcases lk c k2 hc2 with ⟨rfl,rfl⟩ | ⟨hne',hc3⟩
  ·rfl
  ·have h1:=hr id hu1.1;have h2:=hold c k2 id hc3 ⟨hu2.1.lJ hne',hu2.2⟩;omega
  ·have h1:=hr id hu2.1;have h2:=hold b k1 id hb3 ⟨hu1.1.lJ hne,hu1.2⟩;omega
  ·exact h.disj b c k1 k2 id hb3 hc3 ho ⟨hu1.1.lJ hne,hu1.2⟩ ⟨hu2.1.lJ hne',hu2.2⟩
 ·intro b hb';simp only [List.length_set] at hb';unfold ext;rw [if_neg (by omega)]
  exact h.bound b hb'
 ·intro c k1 id hc hu;rcases lk c k1 hc with ⟨rfl,rfl⟩ | ⟨hne,hc3⟩
  ·have:=h.frm.new (hr id hu.1);exact ⟨this.1,fun _=>this.2⟩
  ·exact h.frm.apart c k1 id hc3 ⟨hu.1.lJ hne,hu.2⟩
theorem uh {P:Program} {st st':St} {t:TypeId} {c c':IV} {acc:List (aq × Option Nat)} (hb:st.b=[]) (h:rM P st t c acc=some (c',acc)):rM P st' t c acc=some (c',acc):=by
 unfold rM at h ⊢;split at h
 ·exact h
 ·exact h
 ·rename_i b;simp only [rows,hb,look_nil] at h;cases h
 ·split at h
  ·simp at h
  ·cases h
 ·cases h
theorem yc {P:Program} {st:St} {t:TypeId} {c c':IV} {acc acc':List (aq × Option Nat)} (h:rM P st t c acc=some (c',acc')):acc <+:acc':=by
 unfold rM at h;split at h
 ·cases h; exact List.prefix_refl _
 ·cases h; exact List.prefix_refl _
 ·split at h
  ·cases h; exact ⟨_,rfl⟩
  ·cases h
 ·split at h
  ·cases h; exact ⟨_,rfl⟩
  ·cases h
 ·cases h
theorem s9 {P:Program} {st:St}:∀ {cs cs':List IV} {ts:List TypeId} {acc acc':List (aq × Option Nat)},kL P st ts cs acc=some (cs',acc')->acc <+:acc'
 | [],cs',ts,acc,acc',h=>by cases ts <;> (simp only [kL] at h; cases h; exact List.prefix_refl _)
 | c :: cs,cs',[],acc,acc',h=>by simp [kL] at h
 | c :: cs,cs',t :: ts,acc,acc',h=>by
  simp only [kL] at h;split at h
  ·rename_i h1;split at h
   ·rename_i h2;cases h
    exact (yc h1).trans (s9 h2)
   ·cases h
  ·cases h
theorem Io {P:Program} {st:St} {t:TypeId} {c c':IV} {acc acc':List (aq × Option Nat)} (h:ue P st t c acc=some (c',acc')):acc <+:acc':=by
 unfold ue at h;split at h
 ·split at h
  ·rename_i h1;cases h
   exact s9 h1
  ·cases h
 ·exact yc h
theorem prefix_nil {α:Type} {l:List α} (h:l <+:[]):l=[]:=by
 obtain ⟨r,hr⟩:=h;exact (List.append_eq_nil_iff.1 hr).1
theorem uf {P:Program} {st st':St} (hb:st.b=[]):∀ {cs cs':List IV} {ts:List TypeId},kL P st ts cs []=some (cs',[])->kL P st' ts cs []=some (cs',[])
 | [],cs',ts,h=>by cases ts <;> simpa [kL] using h
 | c :: cs,cs',[],h=>by simp [kL] at h
 | c :: cs,cs',t :: ts,h=>by
  simp only [kL] at h ⊢;split at h
  ·rename_i c1 acc1 h1;split at h
   ·rename_i c2 acc2 h2;cases h
    have e:=prefix_nil (s9 h2);subst e;rw [uh hb h1];simp only;rw [uf hb h2]
   ·cases h
  ·cases h
theorem B0 {P:Program} {st st':St} (hb:st.b=[]) {t:TypeId} {c c':IV} (h:ue P st t c []=some (c',[])):ue P st' t c []=some (c',[]):=by
 unfold ue at h ⊢;split at h
 ·split at h
  ·rename_i h1;cases h
   rw [uf hb h1]
  ·cases h
 ·exact uh hb h
theorem wK {P:Program} {st:St}:∀ {cs cs':List IV} {ts:List TypeId} {acc acc':List (aq × Option Nat)},fJ P st ts cs acc=some (cs',acc')->acc <+:acc'
 | [],cs',ts,acc,acc',h=>by cases ts <;> (simp only [fJ] at h; cases h; exact List.prefix_refl _)
 | c :: cs,cs',[],acc,acc',h=>by simp [fJ] at h
 | c :: cs,cs',t :: ts,acc,acc',h=>by
  simp only [fJ] at h;split at h
  ·rename_i h1;split at h
   ·rename_i h2;cases h
    exact (Io h1).trans (wK h2)
   ·cases h
  ·cases h
theorem rL {P:Program} {st st':St} (hb:st.b=[]):∀ {cs cs':List IV} {ts:List TypeId},fJ P st ts cs []=some (cs',[])->fJ P st' ts cs []=some (cs',[])
 | [],cs',ts,h=>by cases ts <;> simpa [fJ] using h
 | c :: cs,cs',[],h=>by simp [fJ] at h
 | c :: cs,cs',t :: ts,h=>by
  simp only [fJ] at h ⊢;split at h
  ·rename_i c1 acc1 h1;split at h
   ·rename_i c2 acc2 h2;cases h
    have e:=prefix_nil (wK h2);subst e;rw [B0 hb h1];simp only;rw [rL hb h2]
   ·cases h
  ·cases h
theorem rG {E:Env} (hE:EnvOk E) {X:Ctx} {β:cR} {st zj:St} {a:Act} {w:World} {o:Oper} {m nb:Nat} {fa:OB} {p:Option Prop} {s:PStep} {Q:Exit->Act->World->Prop} {Kw:Act->World->Prop}
  (hp:jE E nb (iZ m fa zj) o=some (p,s)) (hask:∀ q,p=some q->q) (hr:iZ m fa st=iZ m fa zj) (h:Sat X β st a w) (hf:∀ b k,look fa b=some k->gi X β w b k)
  (hh:s.blk≠none->nb < st.b.length/\look st.b nb=none/\β nb=none)
  (hK:∀ β' u w',ba w w'->(∀ b,b≠nb->β' b=β b)->(s.blk=none->β' = β)->Sat X β' { t:=(st.aN o.dst s.v).t,b:=match s.blk with
   | none=>st.b
   | some k=>st.b.set nb (some k) } (a.put o.dst u) w'->Kw (a.put o.dst u) w'):o.wp E.P a w Kw Q:=by
 have hev:∀ x v,ev (iZ m fa zj) x=some v->bP β v (a.eval x):=fun x v hx=>bR h (rB (by rw [hr]; exact hx))
 have scalar:∀ {v:IV} {u:Value} {w':World},s = ⟨o.dst,v,none⟩->bP β v u->ba w w'->Kw (a.put o.dst u) w':=by
  rintro v u w' rfl hu hkp;refine hK β u w' hkp (fun _ _=>rfl) (fun _=>rfl) ?_
  have:=(h.keeps hkp).aN hu o.dst;have e:({ t:=(st.aN o.dst v).t,b:=st.b }:St)=st.aN o.dst v:=by
   have:=cJ st o.dst v;cases hs:st.aN o.dst v with
   | mk t b=>rw [hs] at this; simp only at this; rw [this]
  simp only [e];exact this
 have alloc:∀ {k:aq} {obj:Obj},s = ⟨o.dst,.ptr nb 0,some k⟩->k.own=true->(gi X (ext β nb (.blk w.heap.size)) (w.alloc obj) nb k)->
   (execOp a.eval o).run E.P w=.ok (.value (.pointer (some ⟨w.heap.size,0,none⟩))) (w.alloc obj)->o.wp E.P a w Kw Q:=by
  rintro k obj rfl ho hb hrun;obtain ⟨h1,h2,h3⟩:=hh (by simp)
  refine nO hrun ?_;refine hK (ext β nb (.blk w.heap.size)) _ _ (ba.alloc w _) (fun b hb=>by unfold ext; rw [if_neg hb]) (fun h0=>by cases h0) ?_
  have hs:=h.fill (r:=.blk w.heap.size) (ba.alloc w obj) h1 h2 h3 ho (fun id hu=>by rw [vJ hu]; exact Nat.le_refl _) hb
  have hs2:=hs.aN (bP.ptr (b:=nb) (o:=0) (cC _ _ _)) o.dst;have e:({ t:=(st.aN o.dst (.ptr nb 0)).t,b:=st.b.set nb (some k) }:St)=St.aN { st with b:=st.b.set nb (some k) } o.dst (.ptr nb 0):=by
   cases o.dst <;> rfl
  simp only [e];exact hs2
 unfold jE at hp;split at hp
 ·rename_i p' v hps;cases hp
  obtain ⟨u,hu,hrun⟩:=ez (st:=iZ m fa zj) hev (fun b k hb=>hf b k hb) hps hask
  exact nO hrun (scalar rfl hu (ba.refl w))
 ·split at hp
  ·rename_i e hop;split at hp
   ·rename_i cells hz;obtain ⟨i,zv,hi,hiz,hzl,hpos,hzr⟩:=nM (β:=β) hz;have hrun:=yR (a:=a) (w:=w) hi hiz hop;split at hp
    ·rename_i hpl;obtain ⟨h1,h2,h3⟩:nb < st.b.length/\look st.b nb=none/\β nb=none:=hh (by
      split at hp <;> (cases hp; simp))
     split at hp
     ·rename_i k hn;cases hp
      have hall:cells.all (isZero k)=true:=by
       unfold pt at hn;repeat' (split at hn)
       all_goals first
        | (cases hn; assumption)
        | cases hn
      rw [sg hzr hall] at hrun;refine alloc rfl rfl ⟨w.heap.size,cC _ _ _,h.le,heap_alloc_new w _,fun x hx=>?_⟩ hrun
      rw [List.mem_replicate] at hx;rw [hx.2];cases k <;> exact ⟨by decide,by decide⟩
     ·cases hp
      exact alloc rfl rfl ⟨w.heap.size,_,cC _ _ _,h.le,heap_alloc_new w _,hzr.mono (gJ h3)⟩ hrun
    ·cases hp
   ·cases hp
  ·rename_i e x hop;split at hp
   ·rename_i v hv;split at hp
    ·rename_i hc;rw [Bool.and_eq_true] at hc;cases hp
     obtain ⟨h1,h2,h3⟩:=hh (by simp)
     have hcr:=(hev x v hv).cells (mm hc.1);exact alloc rfl rfl ⟨w.heap.size,_,cC _ _ _,h.le,heap_alloc_new w _,hcr.mono (gJ h3)⟩ (Hm hop)
    ·cases hp
   ·cases hp
  ·rename_i c hop;obtain ⟨callee,args,tys⟩:=c;split at hp
   ·rename_i f hcal;simp only at hcal;subst hcal;split at hp
    ·rename_i g vs hfv hvs;split at hp
     ·rename_i hen;split at hp
      ·rename_i sp hsp;split at hp
       ·rename_i as hpk;split at hp
        ·rename_i v hF;cases hp
         have hfr:=hev f _ hfv;obtain ⟨cs,ef,hcl,_⟩:=hfr.oF;have hcs:cs = #[]:=Array.eq_empty_of_size_eq_zero (by simpa using hcl.symm)
         subst hcs;have hvs':E5 st args.toList=some vs:=x5 (by rw [hr]; exact hvs)
         have hpk':=rL (st':=st) rfl hpk;obtain ⟨l1,l2⟩:=oN hvs';obtain ⟨p1,p2,p3,p4⟩:=rK (β:=β) (us:=args.toList.map a.eval) (by simpa using l1.symm) (fun i c v hc hv=>by
          simp only [List.getElem?_map,Option.map_eq_some_iff] at hv;obtain ⟨x,hx,rfl⟩:=hv;exact bR h (l2 i x c hx hc)) hpk' (fun p hp=>by simp at hp)
         obtain ⟨hcs,hro⟩:=xo (X:=X) h.blks p4;have hcall:=(hE.ctr g sp hsp) as [] (kv st β w []) (agn β []) w (args.map a.eval) rfl rfl hcs hro (by simpa using p2) (fun i c v hc hv=>p3 i c v hc (by simpa using hv)) (hask _ rfl)
         refine qS hop ef hen (by rw [Array.append_empty]; exact hcall) ?_
         rintro e w' ⟨u,β',rfl,hkp,hrep,hB,hrow⟩;refine ⟨u,rfl,scalar rfl ?_ hkp⟩;rw [hF] at hrep hB;refine hrep.mono (fun b r hb=>?_)
         rw [hB.bound b (Nat.zero_le _)] at hb;cases hb
        ·cases hp
       ·cases hp
      ·cases hp
     ·cases hp
    ·cases hp
   ·cases hp
  ·cases hp
theorem uK {n j:Nat} {p p':Nat->Bool} (hj:j < n) (hp:p j=true) (hp':p' j=false) (h:∀ i,i≠j->p' i=p i):(List.range n).countP p=(List.range n).countP p' + 1:=by
 induction n with
 | zero=>omega
 | succ n ih=>
  rw [List.range_succ,List.countP_append,List.countP_append,List.countP_singleton,List.countP_singleton];by_cases e:j=n
  ·subst e;rw [hp,hp'];have:(List.range j).countP p=(List.range j).countP p':=by
    apply List.countP_congr;intro i hi;rw [h i (by have:=List.mem_range.1 hi; omega)]
   rw [this];simp
  ·rw [ih (by omega),h n (by omega)]
   split <;> omega
theorem so {l:Array Bool} {i j:Nat} (hi:i < l.size):(l.setIfInBounds i true).getD j false=(l.getD j false || j == i):=by
 by_cases e:i=j
 ·subst e;rw [Array.getD_eq_getD_getElem?,Array.getElem?_setIfInBounds,if_pos rfl,if_pos hi];simp
 ·rw [getD_set_ne false e];have:(j == i)=false:=by simp; exact fun h=>e h.symm
  rw [this,Bool.or_false]
theorem rI {hd:Nat} {p:Nat->Bool} (h:(List.range hd).countP p=0):∀ i,i < hd->p i=false:=by
 intro i hi;rw [List.countP_eq_zero] at h;have:=h i (List.mem_range.2 hi);simpa using this
theorem EA (hE:EnvOk E) (hsel:Region.noSelect ops=true) (hs:jb ops hd=true) (hhd:∀ i o,i < hd->ops[i]? = some o->writes E o=false) (hhd2:hd<=ops.size)
  (hQ:∀ c a w,¬ Q (.panic c) a w) (hline:hd<=kg ops) {bM:St} {r:List (Option Prop × PStep)} (hrun:ph E ops bM.b (ops.toList.take hd) bM=some r) (happ:ops.any cq=false)
  (hask:∀ p s,(p,s)∈r->∀ q,p=some q->q) (hn:n0<=bM.b.length) (hk:gN E ops bM.b hd (ops.size - hd) (iX ops.size hd) [] (cn r bM) K)
  (hlen0:∀ b,bM.b.length<=b->β0 b=none):
  ∀ (m:Nat) (listed:Array Bool) {β:cR} {a:Act} {w:World},listed.size=ops.size->(∀ i,hd<=i->listed.getD i false=false)->jW ops listed->m=(List.range hd).countP (fun i=>!listed.getD i false)->
   Sat X β (kD (r.map (·.2)) 0 (fun i=>listed.getD i false) bM) a w->(∀ j s,(r.map (·.2))[j]? = some s->s.blk≠none->listed.getD j false=false->β (bM.b.length+agm ((r.map (·.2)).take j))=none)->
   (∀ b,b < bM.b.length->β b=β0 b)->(∀ b k,look bM.b b=some k->gi X β0 w b k)->
   (∀ β' st' a' w',K st'->Sat X β' st' a' w'->(∀ b,b < n0->β' b=β0 b)->n0<=st'.b.length->Q .normal a' w')->
   el E.P ops Q (fun w=>∀ b k,look bM.b b=some k->gi X β0 w b k) hd (ops.size - hd+m) listed a w:=by
 obtain ⟨hrl,hspec⟩:=rH hrun;have hrlen:r.length=hd:=by rw [hrl,List.length_take]; simp; omega
 intro m;induction m with
 | zero=>
  intro listed β a w hsz hge hcl hm h hhole hag hF hK;have hall:∀ i,i < hd->listed.getD i false=true:=fun i hi=>by
   have:=rI hm.symm i hi;simpa using this
  have hL:listed=iX ops.size hd:=by
   have hps:(iX ops.size hd).size=ops.size:=by simp [iX]
   apply Array.ext
   ·rw [hsz,hps]
   ·intro j h1 h2;have hj:j < ops.size:=by omega
    have e1:listed.getD j false=listed[j]:=by simp [h1]
    have e2:(iX ops.size hd).getD j false=(iX ops.size hd)[j]:=by simp [h2]
    rw [← e1,← e2,jd hj];rcases Nat.lt_or_ge j hd with h3 | h3
    ·rw [hall j h3]; exact (fD.2 h3).symm
    ·rw [hge j h3];cases hb:Nat.blt j hd with
     | false=>rfl
     | true=>exact absurd (fD.1 hb) (by omega)
  have hst:kD (r.map (·.2)) 0 (fun i=>listed.getD i false) bM=cn r bM:=by
   rw [nt r 0 bM];have:∀ (l:List PStep) (i:Nat) (st:St),i+l.length<=hd->kD l i (fun i=>listed.getD i false) st=kD l i (fun _=>true) st:=by
    intro l;induction l with
    | nil=>intro i st _; rfl
    | cons s l ih=>
     intro i st hi;simp only [List.length_cons] at hi;simp only [kD];rw [hall i (by omega),ih (i+1) _ (by omega)]
   exact this _ 0 bM (by simp [hrlen])
  rw [hst] at h;subst hL;rw [Nat.add_zero];have hble:n0<=(cn r bM).b.length:=by rw [qW]; omega
  refine lU (n0:=n0) (β0:=β0) hE hsel hs hhd hQ (fun ha=>by rw [happ] at ha; cases ha) _ h hble (fun b q hb=>?_) ?_ hcl hk ?_
  ·rcases Nat.lt_or_ge b bM.b.length with h1 | h1
   ·rw [hag b h1]; exact hb
   ·rw [hlen0 b h1] at hb; cases hb
  ·rintro ⟨j,oj,hj,_,_,hjl⟩;rw [jd (by omega),fD.2 hj] at hjl
   cases hjl
  ·intro β' st' a' w' hk' hs' hag' hle;exact hK β' st' a' w' hk' hs' (fun b hb=>(hag' b hb).trans (hag b (by omega))) hle
 | succ m ih=>
  intro listed β a w hsz hge hcl hm h hhole hag hF hK;have hready:∃i,i∈Region.ready .any ops listed/\i < hd/\∀ k,k < i->listed.getD k false=true:=by
   have hex:∃i,i < hd/\listed.getD i false=false:=by
    apply Classical.byContradiction;intro hno;have:(List.range hd).countP (fun i=>!listed.getD i false)=0:=by
     rw [List.countP_eq_zero];intro i hi;have hi':=List.mem_range.1 hi;cases hb:listed.getD i false with
     | true=>simp
     | false=>exact absurd ⟨i,hi',hb⟩ hno
    omega
   have hmin:∀ n,(∃i,i < n/\i < hd/\listed.getD i false=false)->∃i,i < hd/\listed.getD i false=false/\∀ k,k < i->listed.getD k false=true:=by
    intro n;induction n with
    | zero=>rintro ⟨i,hi,_⟩; omega
    | succ n ihn=>
     rintro ⟨i,hi,h1,h2⟩;by_cases hb:∃i,i < n/\i < hd/\listed.getD i false=false
     ·exact ihn hb
     ·have e:i=n:=by
       apply Classical.byContradiction;intro hne;exact hb ⟨i,by omega,h1,h2⟩
      subst e;refine ⟨i,h1,h2,fun k hk=>?_⟩
      cases hkb:listed.getD k false with
      | true=>rfl
      | false=>exact absurd ⟨k,hk,by omega,hkb⟩ hb
   obtain ⟨i,hi,hb⟩:=hex;obtain ⟨i,hi,hb,hlow⟩:=hmin (i+1) ⟨i,by omega,hi,hb⟩
   have his:i < ops.size:=by omega
   have hoi:ops[i]? = some ops[i]:=by simp [his]
   refine ⟨i,mem_ready.2 ⟨?_,ops[i],hoi,fun e he hbi=>hlow e.on ((pC hoi (by omega)).1 e he hbi)⟩,hi,hlow⟩
   rw [Array.getD_eq_getD_getElem?] at hb ⊢;simpa [hsz,his] using hb
  have key:∀ j,j∈Region.ready .any ops listed->j < hd->∃o,ops[j]? = some o/\o.guard=none/\o.wp E.P a w (fun a' w'=>(j < hd->(∀ b k,look bM.b b=some k->gi X β0 w b k)->∀ b k,look bM.b b=some k->gi X β0 w' b k)/\el E.P ops Q (fun w=>∀ b k,look bM.b b=some k->gi X β0 w b k) hd (ops.size - hd+m) (listed.setIfInBounds j true) a' w') Q:=by
   intro j hj hjh;obtain ⟨hun,o,ho,hall⟩:=mem_ready.1 hj;have hjs:j < ops.size:=(Array.getElem?_eq_some_iff.1 ho).1;have hjf:listed.getD j false=false:=by
    rw [Array.getD_eq_getD_getElem?] at hun ⊢;simpa [hsz,hjs] using hun
   have hoH:(ops.toList.take hd)[j]? = some o:=by
    rw [List.getElem?_take,if_pos hjh]; simpa using ho
   obtain ⟨hg,p,s,hrj,hstep⟩:=hspec j o hoH;have hsj:(r.map (·.2))[j]? = some s:=by simp [hrj]
   have hsd:s.dst=o.dst:=kc hstep;generalize hS:r.map (·.2)=S at *;generalize hLd:(fun i=>listed.getD i false)=L at *
   have hLi:∀ i,L i=listed.getD i false:=fun i=>by rw [← hLd]
   have hlj:∀ {i:Nat} {oi:Oper},ops[i]? = some oi->i < hd->_:=fun {i} {oi} h1 h2=>pC h1 (Nat.lt_of_lt_of_le h2 hline)
   have hwr:∀ k sk,S[k]? = some sk->∀ τ,sk.dst=some τ->∃ok,ops[k]? = some ok/\ok.dst=some τ/\k < hd:=by
    intro k sk hk1 τ hd1;have hkl:k < hd:=by
     have:=(List.getElem?_eq_some_iff.1 hk1).1;rw [← hS,List.length_map,hrlen] at this;exact this
    have hks:k < ops.size:=by omega
    have hok:ops[k]? = some ops[k]:=by simp [hks]
    have hokH:(ops.toList.take hd)[k]? = some ops[k]:=by rw [List.getElem?_take,if_pos hkl]; simp [hks]
    obtain ⟨_,p2,s2,h2,h3⟩:=hspec k ops[k] hokH;have:S[k]? = some s2:=by rw [← hS]; simp [h2]
    rw [hk1] at this;cases this
    exact ⟨_,hok,by rw [← kc h3]; exact hd1,hkl⟩
   have hafter:∀ k ok,ops[k]? = some ok->j < k->(∃e∈ok.after,Region.binds .any e=true/\e.on=j)->L k=false:=by
    rintro k ok hk1 hjk ⟨e,he,hb,hon⟩;rw [hLi];cases hkl:listed.getD k false with
    | false=>rfl
    | true=>
     have:=hcl k ok hk1 hkl e he hb;rw [hon,hjf] at this;cases this
   have hlook:∀ τ,τ∈o.looksAt ops->∀ k sk,S[k]? = some sk->sk.dst=some τ->L k=decide (k < j):=by
    intro τ hτ k sk hk1 hd1;obtain ⟨ok,hok,hokd,hkh⟩:=hwr k sk hk1 τ hd1;rcases Nat.lt_trichotomy k j with hlt | he | hgt
    ·rw [decide_eq_true hlt,hLi];by_cases hwait:∃e∈o.after,Region.binds .any e=true/\e.on=k
     ·obtain ⟨e,he,hb,hon⟩:=hwait;have:=hall e he hb
      rwa [hon] at this
     ·have:=(hlj hok hkh).2 j o ho hlt (fun e he hb hon=>hwait ⟨e,he,hb,hon⟩)
      exact absurd hτ ((Oper.apart_spec this).1 τ hokd)
    ·subst he;rw [hLi,hjf];simp
    ·rw [decide_eq_false (by omega)]
     by_cases hwait:∃e∈ok.after,Region.binds .any e=true/\e.on=j
     ·exact hafter k ok hok hgt hwait
     ·have:=(hlj ho hjh).2 k ok hok hgt (fun e he hb hon=>hwait ⟨e,he,hb,hon⟩)
      exact absurd hτ ((Oper.apart_spec this).2.2 τ hokd)
   have hlater:∀ τ,o.dst=some τ->∀ k sk,j < k->S[k]? = some sk->sk.dst=some τ->L k=false:=by
    intro τ hτ k sk hjk hk1 hd1;obtain ⟨ok,hok,hokd,hkh⟩:=hwr k sk hk1 τ hd1;by_cases hwait:∃e∈ok.after,Region.binds .any e=true/\e.on=j
    ·exact hafter k ok hok hjk hwait
    ·have:=(hlj ho hjh).2 k ok hok hjk (fun e he hb hon=>hwait ⟨e,he,hb,hon⟩)
     exact absurd hokd ((Oper.apart_spec this).2.1 τ hτ)
   have hre:iZ (jO (o.looksAt ops)) bM.b (kD S 0 L bM)=iZ (jO (o.looksAt ops)) bM.b (cn (r.take j) bM):=by
    unfold iZ;have ht:=vR r 0 j (fun k=>decide (k < j)) bM bM rfl (fun k hk=>by simp; exact hk) (fun k hk=>by simp; omega)
    rw [hS] at ht;rw [← ht]
    congr 1
    refine ow (by rw [gk,gk]) (fun τ hτ=>?_)
    rw [Nat.zero_add,lA] at hτ;refine nS S 0 _ _ bM bM rfl rfl (fun k sk hk1 hd1=>?_)
    rw [Nat.zero_add];exact hlook τ (of_decide_eq_true hτ) k sk hk1 hd1
   have hnb:(cn (r.take j) bM).b.length=bM.b.length+agm (S.take j):=by rw [qW,List.map_take,hS]
   rw [hnb] at hstep;have hL'0:∀ i,(listed.setIfInBounds j true).getD i false=(L i || i == j):=fun i=>by rw [so (by omega),hLi]
   refine ⟨o,ho,hg,rG hE hstep (hask p s (List.mem_of_getElem? hrj)) hre h (fun b k hb=>?_) (fun hbl=>?_) ?_⟩
   ·refine (hF b k hb).mono (fun c q hc=>?_)
    rcases Nat.lt_or_ge c bM.b.length with h1 | h1
    ·rw [hag c h1]; exact hc
    ·rw [hlen0 c h1] at hc; cases hc
   ·obtain ⟨kb,hkb⟩:∃kb,s.blk=some kb:=by
     cases hb:s.blk with
     | none=>exact absurd hb hbl
     | some kb=>exact ⟨kb,rfl⟩
    obtain ⟨q1,q2,q3⟩:=tp S 0 j L (fun i=>L i || i == j) s kb hsj hkb (by rw [Nat.zero_add,hLi]; exact hjf) (by simp) (fun i hi=>by
     have:(i == j)=false:=by simp; omega
     simp [this])
    refine ⟨?_,?_,hhole j s hsj hbl hjf⟩
    ·rw [tY,List.length_append,yz]; omega
    ·rw [tY,cv,if_neg (by omega),Nat.add_sub_cancel_left]; exact q2
   ·intro β' u w' hkp hβ' hβ2 hsat;have hF':∀ b k,look bM.b b=some k->gi X β0 w' b k:=fun b k hb=>(hF b k hb).keeps hkp
    refine ⟨fun _ _=>hF',?_⟩
    have hst':({ t:=((kD S 0 L bM).aN o.dst s.v).t,b:=match s.blk with
      | none=>(kD S 0 L bM).b
      | some k=>(kD S 0 L bM).b.set (bM.b.length+agm (S.take j)) (some k) }:St)=kD S 0 (fun i=>(listed.setIfInBounds j true).getD i false) bM:=by
     have e0:(fun i=>(listed.setIfInBounds j true).getD i false)=fun i=>L i || i == j:=funext hL'0
     rw [e0];have et:((kD S 0 L bM).aN o.dst s.v).t=(kD S 0 (fun i=>L i || i == j) bM).t:=by
      refine om (by rw [wh,gk,gk]) (fun τ=>?_)
      have hother:o.dst≠some τ->look (kD S 0 L bM).t τ=look (kD S 0 (fun i=>L i || i == j) bM).t τ:=by
       intro hne;refine nS S 0 _ _ bM bM rfl rfl (fun k sk hk1 hd1=>?_)
       rw [Nat.zero_add];by_cases hkj:k=j
       ·subst hkj;rw [hsj] at hk1;cases hk1
        exact absurd (by rw [← hsd]; exact hd1) hne
       ·have:(k == j)=false:=by simp [hkj]
        simp [this]
      cases hd0:o.dst with
      | none=>exact hother (by rw [hd0]; simp)
      | some d=>
       rw [mf];by_cases hdt:d=τ
       ·subst hdt;rw [if_pos rfl,gk];by_cases hlt:d < bM.t.length
        ·rw [if_pos hlt];refine (vS S 0 j _ bM s hsj (by rw [hsd,hd0]) (by simp) (fun k sk hjk hk1 hd1=>?_) hlt).symm
         rw [Nat.zero_add];have hkj:(k == j)=false:=by simp; omega
         rw [hlater d hd0 k sk hjk hk1 hd1,hkj]
         rfl
        ·rw [if_neg hlt,pz (by rw [gk]; exact Nat.le_of_not_lt hlt)]
       ·rw [if_neg hdt];exact hother (by rw [hd0]; simpa using hdt)
     have eb:(match s.blk with
      | none=>(kD S 0 L bM).b
      | some k=>(kD S 0 L bM).b.set (bM.b.length+agm (S.take j)) (some k))=(kD S 0 (fun i=>L i || i == j) bM).b:=by
      cases hb:s.blk with
      | none=>
       simp only;rw [tY,tY,wY S 0 j L (fun i=>L i || i == j) s hsj hb (fun i hi=>by
        have:(i == j)=false:=by simp; omega
        simp [this])]
      | some kb=>
       simp only;obtain ⟨q1,q2,q3⟩:=tp S 0 j L (fun i=>L i || i == j) s kb hsj hb (by rw [Nat.zero_add,hLi]; exact hjf) (by simp) (fun i hi=>by
        have:(i == j)=false:=by simp; omega
        simp [this])
       rw [tY,tY,q1,List.set_append_right _ _ (by omega),Nat.add_sub_cancel_left]
     rw [et,eb]
    rw [hst'] at hsat;refine ih (listed.setIfInBounds j true) (by simpa using hsz) (fun i hi=>?_) (hcl.step hj) ?_ hsat ?_ (fun b hb=>?_) hF' hK
    ·rw [hL'0,hLi,hge i hi];have:(i == j)=false:=by simp; omega
     simp [this]
    ·have hflip:=uK (p:=fun i=>!listed.getD i false) (p':=fun i=>!(listed.setIfInBounds j true).getD i false) hjh (by show (!listed.getD j false)=true; rw [hjf]; rfl) (by show (!(listed.setIfInBounds j true).getD j false)=false; rw [hL'0]; simp) (fun i hi=>by
      show (!(listed.setIfInBounds j true).getD i false)=(!listed.getD i false);rw [hL'0,hLi];have:(i == j)=false:=by simp; omega
      simp [this])
     omega
    ·intro k sk hk1 hbl hkl;rw [hL'0,Bool.or_eq_false_iff] at hkl;have hkj:k≠j:=by have:=hkl.2; simpa using this
     have hold:=hhole k sk hk1 hbl (by rw [← hLi]; exact hkl.1)
     by_cases hne:bM.b.length+agm (S.take k)=bM.b.length+agm (S.take j)
     ·
      cases hb:s.blk with
      | none=>rw [hβ2 hb]; exact hold
      | some kb=>
       exfalso
       have hmono:∀ (l:List PStep) (x y:Nat) (sx:PStep),x < y->l[x]? = some sx->sx.blk≠none->y<=l.length->agm (l.take x) < agm (l.take y):=by
        intro l;induction l with
        | nil=>intro x y sx _ h1; simp at h1
        | cons s0 l ihl=>
         intro x y sx hxy h1 h2 hy;cases y with
         | zero=>omega
         | succ y=>
          cases x with
          | zero=>
           simp at h1;subst h1;have:s0.blk.isSome=true:=by cases hb:s0.blk with
            | none=>exact absurd hb h2
            | some _=>rfl
           simp only [List.take_zero,List.take_succ_cons,agm,this,if_true];omega
          | succ x=>
           have:=ihl x y sx (by omega) (by simpa using h1) h2 (by simpa using hy)
           simp only [List.take_succ_cons,agm];omega
       have hjl:=(List.getElem?_eq_some_iff.1 hsj).1;have hkl2:=(List.getElem?_eq_some_iff.1 hk1).1;rcases Nat.lt_or_gt_of_ne hkj with h1 | h1
       ·have:=hmono S k j sk h1 hk1 hbl (by omega)
        omega
       ·have:=hmono S j k s h1 hsj (by rw [hb]; simp) (by omega)
        omega
     ·rw [hβ' _ hne]; exact hold
    ·rw [hβ' b (by omega)]; exact hag b hb
  obtain ⟨i,hir,hih,hlow⟩:=hready;by_cases hP:∃j o,j < hd/\ops[j]? = some o/\eA o=false/\listed.getD j false=false
  ·refine ⟨fun h0=>(by rw [h0] at hir; cases hir),fun j hj=>?_⟩
   obtain ⟨hun,o,ho,hall⟩:=mem_ready.1 hj;have hjh:j < hd:=by
    rcases Nat.lt_or_ge j hd with h1 | h1
    ·exact h1
    exfalso
    obtain ⟨j',o',h2,h3,h4,h5⟩:=hP;have:=nV hs hcl ho hall h1 h2 h3 h4;rw [h5] at this;cases this
   obtain ⟨o',ho',hg',hwp⟩:=key j hj hjh;unfold wpOp;rw [ho'];simp only;rw [if_pos (by simp [Region.wanted,hg'])]
   exact .inl hwp
  ·
   obtain ⟨hun,oi,hoi,hall⟩:=mem_ready.1 hir;have hif:listed.getD i false=false:=by
    have his:i < ops.size:=(Array.getElem?_eq_some_iff.1 hoi).1;rw [Array.getD_eq_getD_getElem?] at hun ⊢;simpa [hsz,his] using hun
   have hlz:eA oi=true:=by
    cases hz:eA oi with
    | true=>rfl
    | false=>exact absurd ⟨i,oi,hih,hoi,hz,hif⟩ hP
   obtain ⟨o',ho',hg',k0⟩:=key i hir hih;rw [hoi] at ho';cases ho'
   have hoH:(ops.toList.take hd)[i]? = some oi:=by
    rw [List.getElem?_take,if_pos hih]; simpa using hoi
   obtain ⟨u,hu⟩:=EM hlz k0;have k1:el E.P ops Q (fun w=>∀ b k,look bM.b b=some k->gi X β0 w b k) hd (ops.size - hd+m) (listed.setIfInBounds i true) (a.put oi.dst u) w:=by
    unfold Oper.wp at k0;rw [hu] at k0;exact k0.2
   have hy:YieldsIf E.P ops (fun _=>True) oi u a:=.inl ⟨by simp [Region.wanted,hg'],fun w' _=>r6 hlz hu w'⟩
   refine ij hoi (.inr fun _=>trivial) (Region.noSelect_spec hsel) (fun c a w hq=>absurd hq (hQ _ _ _)) hs hih _ listed a w hcl ?_ hir hy trivial k1
   intro j oj hoj hji hunj hno;have hjs:j < ops.size:=(Array.getElem?_eq_some_iff.1 hoj).1;have:¬ j < i:=fun hlt=>by
    have h9:=hlow j hlt;rw [Array.getD_eq_getD_getElem?] at h9 hunj;simp [hsz,hjs] at h9 hunj;rw [h9] at hunj;cases hunj
   exact (pC hoi (Nat.lt_of_lt_of_le hih hline)).2 j oj hoj (by omega) hno
theorem Li (n:Nat) (K:Nat->Prop):Sn n K=K n:=by cases n <;> rfl
theorem qv (E:Env) (ops:Array Oper) (i:Nat) (o:Oper) (hi:i < oC E ops) (ho:ops.toList[i]? = some o):writes E o=false:=by
 unfold oC at hi;split at hi
 ·exact uz E ops.toList i o hi ho
 ·omega
theorem jS (hE:EnvOk E) {ops:Array Oper} {id:Nat} {β:cR} {st:St} {a:Act} {w:World} (h:Sat X β st a w) (hn:n0<=st.b.length)
  {hd:Nat} (hc:Region.noSelect ops=true/\jb ops hd=true) (hhd:∀ i o,i < hd->ops.toList[i]? = some o->writes E o=false) (hk:mF E ops hd st K)
  (hK:∀ β' st' a' w',K st'->Sat X β' st' a' w'->(∀ b,b < n0->β' b=β b)->n0<=st'.b.length->Q .normal a' w'):(Code.region id ops true).wp E.P Q a w:=by
 unfold mF at hk;simp only [Li] at hk;have hk:jK E ops (if ops.any cq=true then kO st.b else st.b) (hd) (Nat.min (hd) (kg ops)) ops.toList 0 [] st K:=by
  rw [AM] at hk;have e:ops.any cq=ops.toList.any cq:=by simp
  rw [e];cases hb:ops.toList.any cq <;> rw [hb] at hk <;> simpa using hk
 have hw1:ba w { w with drawn:=w.drawn+1 }:=ba.drawn w _
 have h1:=h.keeps hw1;refine wp_mono (Q:=fun e a w=>e=.normal/\Q .normal a w) ?_ (fun e a w hq=>by obtain ⟨rfl,hq⟩:=hq; exact hq)
 refine wp_region_any hE.mixed (kz (F:=fun w=>∀ b k,look (if ops.any cq=true then kO st.b else st.b) b=some k->gi X β w b k) (hd:=hd) _ _ _ _ ?_)
 have hpre:Array.replicate ops.size false=iX ops.size 0:=by
  apply Array.ext
  ·simp [iX]
  ·intro j h1 h2;have hj:j < ops.size:=by simpa using h1
   apply Option.some.inj;rw [← Array.getElem?_eq_getElem,← Array.getElem?_eq_getElem,n7 hj];rw [Array.getElem?_replicate,if_pos hj]; congr 1
 have hsz:ops.size=ops.size - 0:=rfl;rw [hpre,hsz,Nat.sub_zero];refine xd (n0:=n0) (β0:=β) hE hc.1 hc.2 (fun i o hi ho=>hhd i o hi (by simpa using ho)) (fun c a w hq=>by cases hq.1) ?_ (Nat.min_le_left _ _) (Nat.min_le_right _ _) ops.toList rfl (Nat.zero_le _) h1 hn (fun b r hb=>hb) ?_ ?_ hk
  (fun β' st' a' w' hk' hs' hag hle=>⟨rfl,hK β' st' a' w' hk' hs' hag hle⟩)
 ·intro ha b k hb;rw [if_pos ha] at hb;exact (ago _ b k hb).2
 ·refine ⟨fun b k hb=>?_,fun ha b k hb=>?_⟩
  ·split at hb
   ·exact h1.blks b k (ago _ b k hb).1
   ·exact h1.blks b k hb
  ·rw [if_pos ha] at hb;exact (ago _ b k hb).1
 ·intro j o hj hl;rw [jd (Array.getElem?_eq_some_iff.1 hj).1] at hl;exact absurd (fD.1 hl) (by omega)
theorem yA (E:Env):∀ l:List Oper,lQ E l<=l.length
 | []=>Nat.le_refl _
 | o :: l=>by
  simp only [lQ];split
  ·omega
  ·have:=yA E l;simp only [List.length_cons];omega
theorem LS (E:Env) (ops:Array Oper):oC E ops<=ops.size:=by
 unfold oC;split
 ·have:=yA E ops.toList
  rwa [Array.length_toList] at this
 ·omega
theorem bP.back {β0 β:cR} (hβ:∀ b r,β0 b=some r->β b=some r) {c:IV} {u:Value} (h:bP β0 c u):∀ {v:Value},bP β c v->bP β0 c v:=by
 induction h with
 | int h=>intro v h'; cases h'; exact .int h
 | bool=>intro v h'; cases h'; exact .bool
 | nilp=>intro v h'; cases h'; exact .nilp
 | nils=>intro v h'; cases h'; exact .nils
 | nilf=>intro v h'; cases h'; exact .nilf
 | unk h=>intro v h'; cases h' with | unk h2=>exact .unk h2
 | fn hl h ih=>
  intro v h';cases h' with
  | fn hl2 h2=>
   refine .fn hl2 fun i c v hc hv=>?_
   rename_i caps cs cs';have hi:i < cs.size:=by rw [← hl]; exact (List.getElem?_eq_some_iff.1 hc).1
   exact ih i c cs[i] hc (by simp [hi]) (h2 i c v hc hv)
 | ptr h=>intro v h'; cases h' with | ptr h2=>rw [hβ _ _ h] at h2; cases h2; exact .ptr h
 | pdyn h=>intro v h'; cases h' with | pdyn h2=>rw [hβ _ _ h] at h2; cases h2; exact .pdyn h
 | prow h=>intro v h'; cases h' with | prow h2=>rw [hβ _ _ h] at h2; cases h2; exact .prow h
 | prowd h=>intro v h'; cases h' with | prowd h2=>rw [hβ _ _ h] at h2; cases h2; exact .prowd h
 | sl h=>intro v h'; cases h' with | sl h2=>rw [hβ _ _ h] at h2; cases h2; exact .sl h
 | agg hl h1 h ih=>
  intro v h';cases h' with
  | agg hl2 h12 h2=>
   refine .agg hl2 h12 fun i c v hc hv=>?_
   rename_i cs xs xs';have hi:i < xs.size:=by rw [← hl]; exact (List.getElem?_eq_some_iff.1 hc).1
   exact ih i c xs[i] hc (by simp [hi]) (h2 i c v hc hv)
 | tup hl h ih=>
  intro v h';cases h' with
  | tup hl2 h2=>
   refine .tup hl2 fun i c v hc hv=>?_
   rename_i cs xs xs';have hi:i < xs.size:=by rw [← hl]; exact (List.getElem?_eq_some_iff.1 hc).1
   exact ih i c xs[i] hc (by simp [hi]) (h2 i c v hc hv)
theorem gi.back {X:Ctx} {β0 β:cR} {w w':World} {b:Nat} {k:aq} (h:gi X β0 w b k) (hβ:∀ b r,β0 b=some r->β b=some r) (h':gi X β w' b k) (hr:k.agu=false):gi X β0 w' b k:=by
 cases k with
 | var t cells=>
  obtain ⟨id,cs,h1,h2,h3,h4⟩:=h;obtain ⟨id',cs',g1,g2,g3,g4⟩:=h';rw [hβ _ _ h1] at g1;cases g1
  refine ⟨id,cs',h1,h2,g3,g4.1,g4.2.1,fun i c v hc hv=>?_⟩
  have hi:i < cs.size:=by rw [← h4.1]; exact (List.getElem?_eq_some_iff.1 hc).1
  exact (h4.2.2 i c cs[i] hc (by simp [hi])).back hβ (g4.2.2 i c v hc hv)
 | ints t k xs=>
  obtain ⟨id,h1,h2,_⟩:=h;obtain ⟨id',g1,g2⟩:=h';rw [hβ _ _ h1] at g1;cases g1
  exact ⟨id,h1,g2⟩
 | row e ks xs=>cases hr
 | ro ks xs=>
  obtain ⟨A,c,h1,_⟩:=h;obtain ⟨A',c',g1,g2⟩:=h';rw [hβ _ _ h1] at g1;cases g1
  exact ⟨A,c,h1,g2⟩
theorem KE (ops:Array Oper):jb ops ops.size=true:=by
 unfold jb;have:(dj ops.toList []).drop ops.size=[]:=by
  rw [List.drop_eq_nil_iff,jT];simp
 rw [this]
 rfl
theorem xg (hE:EnvOk E) (hsel:Region.noSelect ops=true) (hQ:∀ c a w,¬ Q (.panic c) a w) (hrow:∀ b k,look facts b=some k->k.agu=false):
  ∀ (fuel:Nat) {listed:Array Bool} {gs:List (Nat × Bool)} {β:cR} {st:St} {a:Act} {w:World},Sat X β st a w->n0<=st.b.length->(∀ b r,β0 b=some r->β b=some r)->
  (∀ b k,look facts b=some k->gi X β0 w b k)->Left facts st->
  jW ops listed->fX E ops facts fuel listed gs st K->
  (∀ β' st' a' w',K st'->Sat X β' st' a' w'->(∀ b,b < n0->β' b=β b)->n0<=st'.b.length->Q .normal a' w')->
  el E.P ops Q (fun w=>∀ b k,look facts b=some k->gi X β0 w b k) ops.size fuel listed a w:=by
 intro fuel;induction fuel with
 | zero=>
  intro listed gs β st a w h hn hm hF hL hcl hk hK;simp only [fX,iv,rP] at hk;split at hk
  ·rename_i hr;exact ⟨hr,hK β st a w hk h (fun _ _=>rfl) hn⟩
  ·exact hk.elim
 | succ fuel ih=>
  intro listed gs β st a w h hn hm hF hL hcl hk hK;simp only [fX,iv,rP] at hk;split at hk
  ·rename_i hr;exact ⟨fun _=>hK β st a w hk h (fun _ _=>rfl) hn,fun i hi=>by rw [hr] at hi; cases hi⟩
  ·rename_i r rs hr;split at hk
   ·
    rename_i i hp;obtain ⟨hmem,hih,hfree,o,ho⟩:=wJ hp;rw [ho] at hk;simp only at hk;rw [← hr] at hmem;have hgo:∀ {v:Value} {F1:World->Prop},((F1=fun w=>∀ b k,look facts b=some k->gi X β0 w b k)/\eA o=false∨∀ w,F1 w)->YieldsIf E.P ops F1 o v a->F1 w->el E.P ops Q (fun w=>∀ b k,look facts b=some k->gi X β0 w b k) ops.size fuel (listed.setIfInBounds i true) (a.put o.dst v) w->el E.P ops Q (fun w=>∀ b k,look facts b=some k->gi X β0 w b k) ops.size (fuel+1) listed a w:=
     fun hmode hy hF1 hw=>ij ho hmode (Region.noSelect_spec hsel) (fun c a w hq=>absurd hq (hQ _ _ _)) (KE ops) hih fuel listed a w hcl (Region.free_spec ho hfree) hmem hy hF1 hw
    rcases eL h hk with ⟨hw,hk⟩ | ⟨hw,hk⟩
    ·split at hk
     ·rename_i p v hps;split at hk
      ·rename_i hkn;have hp':∀ q,p=some q->q:=by intro q hq; subst hq; exact hk.1
       have hk':fX E ops facts fuel (listed.setIfInBounds i true) (qk gs o true) (st.aN o.dst v) K:=by
        cases p with
        | none=>exact hk
        | some q=>exact hk.2
       have hrun:∀ w',(∀ b k,look facts b=some k->gi X β0 w' b k)->∃u,bP β v u/\(execOp a.eval o).run E.P w' = .ok (.value u) w':=by
        intro w' hF';exact ez (st:={ st with b:=facts }) (fun x v hx=>bR h (by rw [Qt st.t st.b facts x]; exact hx)) (fun b k hb=>(hF' b k hb).mono hm) hps hp'
       obtain ⟨u,hu,hrun0⟩:=hrun w hF;have hnext:=ih (h.aN hu o.dst) (by rw [cJ]; exact hn) hm hF (hL.aN _ _) (hcl.step hmem) hk' hK
       cases hlz:eA o with
       | false=>
        have hy:YieldsIf E.P ops (fun w=>∀ b k,look facts b=some k->gi X β0 w b k) o u a:=by
         refine .inl ⟨hw,fun w' hF'=>?_⟩
         obtain ⟨u',hu',hrun'⟩:=hrun w' hF';rw [bP.Qz hkn hu hu'];exact hrun'
        exact hgo (.inl ⟨rfl,hlz⟩) hy hF hnext
       | true=>
        have hy:YieldsIf E.P ops (fun _=>True) o u a:=.inl ⟨hw,fun w' _=>r6 hlz hrun0 w'⟩
        exact hgo (.inr fun _=>trivial) hy trivial hnext
      ·exact hk.elim
     ·exact hk.elim
    ·have hy:YieldsIf E.P ops (fun _=>True) o undef a:=.inr ⟨hw,rfl⟩
     exact hgo (.inr fun _=>trivial) hy trivial (ih (h.aN (agi β) o.dst) (by rw [cJ]; exact hn) hm hF (hL.aN _ _) (hcl.step hmem) hk hK)
   ·
    refine ⟨fun h0=>(by rw [h0] at hr; cases hr),fun i hi=>?_⟩
    rw [hr] at hi;have hki:=tQ hk i hi;rw [← hr] at hi;obtain ⟨hun,o,ho,hall⟩:=mem_ready.1 hi;rw [ho] at hki;simp only at hki;unfold wpOp;rw [ho];simp only;rcases eL h hki with ⟨hw,hki⟩ | ⟨hw,hki⟩
    ·rw [if_pos hw];cases htk:o4 E facts st o with
     | false=>rw [htk] at hki; exact hki.elim
     | true=>
      rw [htk] at hki
      replace hki:rm E st o fun st'=>fX E ops facts fuel (listed.setIfInBounds i true) (qk gs o true) st' K:=hki
      have cont:∀ β' st' a' w',fX E ops facts fuel (listed.setIfInBounds i true) (qk gs o true) st' K->Sat X β' st' a' w'->(∀ b,b < st.b.length->β' b=β b)->st.b.length<=st'.b.length->Left facts st'->
        (i < ops.size->(∀ b k,look facts b=some k->gi X β0 w b k)->∀ b k,look facts b=some k->gi X β0 w' b k)/\el E.P ops Q (fun w=>∀ b k,look facts b=some k->gi X β0 w b k) ops.size fuel (listed.setIfInBounds i true) a' w':=by
       intro β' st' a' w' hk' hsat hag hle hL';have hm':∀ b r,β0 b=some r->β' b=some r:=fun b r hb=>h.jo hag b r (hm b r hb)
       have hF':∀ b k,look facts b=some k->gi X β0 w' b k:=fun b k hb=>(hF b k hb).back hm' (hsat.blks b k (hL' b k hb)) (hrow b k hb)
       exact ⟨fun _ _=>hF',ih hsat (Nat.le_trans hn hle) hm' hF' hL' (hcl.step hi) hk' (fun β'' st'' a'' w'' hk'' hs'' hag'' hle''=>hK β'' st'' a'' w'' hk'' hs'' (fun b hb=>(hag'' b hb).trans (hag b (by omega))) hle'')⟩
      cases hwr:writes E o with
      | false=>
       refine .inl (jB h hE hki ?_);intro β' st' a' w' hk' hsat hag hle hrel;exact cont β' st' a' w' hk' hsat hag hle (fun b k hb=>(hrel hwr).cQ b k (hL b k hb) (hrow b k hb))
      | true=>
       refine .inl (jB h hE (DK hE hL hrow htk hwr hki) ?_);intro β' st' a' w' hk' hsat hag hle hrel;exact cont β' st' a' w' hk'.1 hsat hag hle hk'.2
    ·rw [if_neg (by rw [hw]; simp)]
     exact ⟨fun _ h=>h,ih (h.aN (agi β) o.dst) (by rw [cJ]; exact hn) hm hF (hL.aN _ _) (hcl.step hi) hki hK⟩
theorem JH {P:Program} {o:Oper} {a:Act} {w:World} {φ:Prop} (h:o.wp P a w (fun _ _=>φ) (fun _ _ _=>φ)):φ:=by
 unfold Oper.wp at h;cases hr:(execOp a.eval o).run P w with
 | ok n w'=>
  rw [hr] at h;cases n with
  | value v=>exact h
  | skip=>exact h
  | defer d=>exact h
  | enter f args=>
   obtain ⟨e,w'',fr,hR,_⟩:=h [];cases e with
   | returned v=>exact hR
   | panicked c=>exact hR
   | outgrown=>obtain ⟨_,_,hR⟩:=hR; exact hR
  | row r args=>
   obtain ⟨v,w'',hR,_⟩:=h (Frame.enter P 0 #[] .normal) [];exact hR
  | _=>exact h.elim
 | halt x w'=>
  rw [hr] at h;cases x with
  | panic v=>exact h
  | _=>exact h.elim
theorem CG (hE:EnvOk E) {ops:Array Oper}:∀ {l:List Oper} {β:cR} {st:St} {a:Act} {w:World},Sat X β st a w->jv E ops.toList l st K->∃st',K st':=by
 intro l;induction l with
 | nil=>intro β st a w h hk; exact ⟨st,hk⟩
 | cons o rest ih=>
  intro β st a w h hk;simp only [jv,iv] at hk;rcases eL h hk with ⟨hw,hk⟩ | ⟨hw,hk⟩
  ·have:=jB (Q:=fun _ _ _=>∃β' st' a' w',jv E ops.toList rest st' K/\Sat X β' st' a' w') (Kw:=fun _ _=>∃β' st' a' w',jv E ops.toList rest st' K/\Sat X β' st' a' w') h hE hk (fun β' st' a' w' hk' hs _ _ _=>⟨β',st',a',w',hk',hs⟩)
   obtain ⟨β',st',a',w',hk',hs⟩:=JH this;exact ih hs hk'
  ·exact ih (h.aN (agi β) o.dst) hk
theorem wM:∀ (l:OB) (K:OB->Prop),So l K=K l
 | [],_=>rfl
 | none :: l,K=>wM l fun l=>K (none :: l)
 | some v :: l,K=>wM l fun l=>K (some v :: l)
theorem re (ids:List Nat):∀ (l:OB) (i b:Nat) (k:aq),look (mK ids i l) b=some k->look l b=some k
 | [],i,b,k,h=>by simp only [mK] at h; rw [look_nil] at h; cases h
 | x :: l,i,0,k,h=>by
  simp only [mK] at h;rw [bX] at h ⊢;split at h
  ·cases h
  ·exact h
 | x :: l,i,b+1,k,h=>by
  simp only [mK] at h;rw [bY] at h ⊢;exact re ids l (i+1) b k h
theorem xe (hE:EnvOk E) {ops:Array Oper} {id:Nat} {β:cR} {st:St} {a:Act} {w:World} (h:Sat X β st a w) (hn:n0<=st.b.length)
  (hc:Region.noSelect ops=true) (hk:xf E ops st K)
  (hK:∀ β' st' a' w',K st'->Sat X β' st' a' w'->(∀ b,b < n0->β' b=β b)->n0<=st'.b.length->Q .normal a' w'):(Code.region id ops true).wp E.P Q a w:=by
 unfold xf at hk;obtain ⟨zj,hk,hK1⟩:=CG hE h hk;rw [wM] at hk;generalize hfa:kO (mK (AB E ops.toList st []) 0 st.b)=facts at hk;have hsub:∀ b k,look facts b=some k->look st.b b=some k/\k.agu=false:=by
  intro b k hb;rw [← hfa] at hb;obtain ⟨h1,h2⟩:=ago _ b k hb;exact ⟨re _ _ _ _ _ h1,h2⟩
 have hw1:ba w { w with drawn:=w.drawn+1 }:=ba.drawn w _
 have h1:=h.keeps hw1;refine wp_mono (Q:=fun e a w=>e=.normal/\Q .normal a w) ?_ (fun e a w hq=>by obtain ⟨rfl,hq⟩:=hq; exact hq)
 refine wp_region_any hE.mixed (kz (F:=fun w=>∀ b k,look facts b=some k->gi X β w b k) (hd:=ops.size) _ _ _ _ ?_)
 have hpre:Array.replicate ops.size false=iX ops.size 0:=by
  apply Array.ext
  ·simp [iX]
  ·intro j h1 h2;have hj:j < ops.size:=by simpa using h1
   apply Option.some.inj;rw [← Array.getElem?_eq_getElem,← Array.getElem?_eq_getElem,n7 hj];rw [Array.getElem?_replicate,if_pos hj]; congr 1
 rw [hpre];refine xg (n0:=n0) (β0:=β) hE hc (fun c a w hq=>by cases hq.1) (fun b k hb=>(hsub b k hb).2) ops.size h1 hn (fun b r hb=>hb) (fun b k hb=>h1.blks b k (hsub b k hb).1) (fun b k hb=>(hsub b k hb).1) ?_ hk
  (fun β' st' a' w' hk' hs' hag hle=>⟨rfl,hK β' st' a' w' (by rw [hk']; exact hK1) hs' hag hle⟩)
 intro j o hj hl;rw [jd (Array.getElem?_eq_some_iff.1 hj).1] at hl;exact absurd (fD.1 hl) (by omega)
end
def gC (s:WStep):Nat:=if s.s.blk.isSome then 1 else 0
def afV:List WStep->Nat
 | []=>0
 | s :: l=>gC s+afV l
def ko:List WStep->Nat->(Nat->Bool)->St->St
 | [],_,_,st=>st
 | s :: l,i,L,st=>ko l (i+1) L (Zm (L i) s st)
def bW:List WStep->Nat->(Nat->Bool)->OB->OB
 | [],_,_,b=>b
 | s :: l,i,L,b=>bW l (i+1) L (Ie (L i) s.qX (b++ji (L i) s.s.blk))
theorem nA:∀ (l:List WStep) (i:Nat) (L:Nat->Bool) (st:St),(ko l i L st).b=bW l i L st.b
 | [],_,_,_=>rfl
 | s :: l,i,L,st=>by simp only [ko,bW]; rw [nA l]; rfl
theorem Yj {c:Bool} {s:PStep} {st st':St} (h:st.t=st'.t):(Dd c s st).t=(Dd c s st').t:=by
 unfold Dd; cases c
 ·exact h
 ·simp only [if_true];cases s.dst with
  | none=>exact h
  | some d=>simp only [St.aN,h]
theorem RN:∀ (l:List PStep) (i:Nat) (L:Nat->Bool) (st st':St),st.t=st'.t->(kD l i L st).t=(kD l i L st').t
 | [],_,_,_,_,h=>h
 | s :: l,i,L,st,st',h=>by simp only [kD]; exact RN l (i+1) L _ _ (Yj h)
theorem pU:∀ (l:List WStep) (i:Nat) (L:Nat->Bool) (st:St),(ko l i L st).t=(kD (l.map (·.s)) i L st).t
 | [],_,_,_=>rfl
 | s :: l,i,L,st=>by
  simp only [ko,kD,List.map_cons];rw [pU l];refine RN _ _ _ _ _ ?_;unfold Zm Dd
  rfl
theorem Bw (c:Bool) (u:Option (Nat × aq)) (b:OB):(Ie c u b).length=b.length:=by
 unfold Ie;cases u with
 | none=>rfl
 | some p=>obtain ⟨k,x⟩:=p; cases c <;> simp
theorem kZ:∀ (l:List WStep) (i:Nat) (L:Nat->Bool) (b:OB),(bW l i L b).length=b.length+afV l
 | [],_,_,_=>rfl
 | s :: l,i,L,b=>by
  simp only [bW,afV];rw [kZ l,Bw,List.length_append,gQ,gC];omega
def AT (s:WStep) (c:Bool) (len n:Nat) (acc:Option aq):Option aq:=
 match s.qX with
 | none=>if s.s.blk.isSome=true/\n=len then (if c then s.s.blk else none) else acc
 | some (k,x)=>if c=true/\n=k/\k < len+gC s then some x else if s.s.blk.isSome=true/\n=len then (if c then s.s.blk else none) else acc
def Gi:List WStep->Nat->Nat->(Nat->Bool)->Nat->Option aq->Option aq
 | [],_,_,_,_,acc=>acc
 | s :: l,i,len,L,n,acc=>Gi l (i+1) (len+gC s) L n (AT s (L i) len n acc)
theorem pw (c:Bool) (s:WStep) (b:OB) (n:Nat):look (b++ji c s.s.blk) n=if s.s.blk.isSome=true/\n=b.length then (if c then s.s.blk else none) else look b n:=by
 rw [cv];by_cases h:n < b.length
 ·rw [if_pos h,if_neg (by omega)]
 ·rw [if_neg h];cases hb:s.s.blk with
  | none=>
   simp only [ji,Option.isSome_none,Bool.false_eq_true,false_and,if_false];rw [look_nil,pz (by omega)]
  | some k=>
   simp only [ji,Option.isSome_some,true_and];by_cases he:n=b.length
   ·subst he;rw [if_pos rfl,Nat.sub_self,bX]
   ·rw [if_neg he,pz (by simp; omega),pz (by omega)]
theorem Iz (c:Bool) (s:WStep) (b:OB) (n:Nat):look (Ie c s.qX (b++ji c s.s.blk)) n=AT s c b.length n (look b n):=by
 unfold Ie AT;cases hu:s.qX with
 | none=>exact pw c s b n
 | some p=>
  obtain ⟨k,x⟩:=p;simp only;cases c with
  | false=>
   simp only [Bool.false_eq_true,if_false,false_and];have:=pw false s b n;simpa using this
  | true=>
   simp only [if_true,true_and];rw [bU,List.length_append,gQ];have e:(if s.s.blk.isSome=true then 1 else 0)=gC s:=rfl
   rw [e];by_cases hk:k=n
   ·subst hk;rw [if_pos rfl];by_cases hl:k < b.length+gC s
    ·rw [if_pos hl,if_pos ⟨rfl,hl⟩]
    ·rw [if_neg hl,if_neg (by omega)]
     have:=pw true s b k;simp only [if_true] at this;rw [← this,pz (by rw [List.length_append,gQ,e]; omega)]
   ·rw [if_neg hk,if_neg (fun h=>hk h.1.symm)]
    have:=pw true s b n;simpa using this
theorem vo:∀ (l:List WStep) (i:Nat) (L:Nat->Bool) (b:OB) (n:Nat),look (bW l i L b) n=Gi l i b.length L n (look b n)
 | [],_,_,_,_=>rfl
 | s :: l,i,L,b,n=>by
  simp only [bW,Gi];rw [vo l,Iz,Bw,List.length_append,gQ]
  rfl
def ly (s:WStep) (len n:Nat):Prop:=(s.s.blk.isSome=true/\n=len)∨∃x,s.qX=some (n,x)
theorem zP {s:WStep} {len n:Nat} (h:¬ ly s len n) (c:Bool) (acc:Option aq):AT s c len n acc=acc:=by
 unfold AT;have h1:¬ (s.s.blk.isSome=true/\n=len):=fun h'=>h (.inl h')
 cases hu:s.qX with
 | none=>simp only; rw [if_neg h1]
 | some p=>
  obtain ⟨k,x⟩:=p;simp only;rw [if_neg (fun h'=>h (.inr ⟨x,by rw [hu,h'.2.1]⟩)),if_neg h1]
theorem Pk {s:WStep} {len n:Nat} (h:s.s.blk=none) (acc:Option aq):AT s false len n acc=acc:=by
 unfold AT;rw [h];cases hu:s.qX with
 | none=>simp
 | some p=>simp
theorem x7:∀ (l:List WStep) (i len:Nat) (L L':Nat->Bool) (n:Nat) (acc:Option aq),(∀ j s,l[j]? = some s->ly s (len+afV (l.take j)) n->L (i+j)=L' (i+j))->Gi l i len L n acc=Gi l i len L' n acc
 | [],_,_,_,_,_,_,_=>rfl
 | s :: l,i,len,L,L',n,acc,h=>by
  simp only [Gi];have e:AT s (L i) len n acc=AT s (L' i) len n acc:=by
   by_cases ht:ly s len n
   ·have:=h 0 s rfl (by simpa [afV] using ht)
    rw [Nat.add_zero] at this;rw [this]
   ·rw [zP ht,zP ht]
  rw [e];refine x7 l (i+1) _ L L' n _ (fun j s' hj ht=>?_)
  have:=h (j+1) s' (by simpa using hj) (by simpa [afV,Nat.add_assoc] using ht)
  rwa [show i+(j+1)=i+1+j by omega] at this
theorem wF:∀ (l:List WStep) (i len:Nat) (L:Nat->Bool) (n:Nat) (acc:Option aq),(∀ j s,l[j]? = some s->ly s (len+afV (l.take j)) n->s.s.blk=none/\L (i+j)=false)->Gi l i len L n acc=acc
 | [],_,_,_,_,_,_=>rfl
 | s :: l,i,len,L,n,acc,h=>by
  simp only [Gi];have e:AT s (L i) len n acc=acc:=by
   by_cases ht:ly s len n
   ·obtain ⟨h1,h2⟩:=h 0 s rfl (by simpa [afV] using ht)
    rw [Nat.add_zero] at h2;rw [h2,Pk h1]
   ·rw [zP ht]
  rw [e];refine wF l (i+1) _ L n _ (fun j s' hj ht=>?_)
  have:=h (j+1) s' (by simpa using hj) (by simpa [afV,Nat.add_assoc] using ht)
  rwa [show i+(j+1)=i+1+j by omega] at this
theorem s5:∀ (l:List WStep) (i len:Nat) (L:Nat->Bool) (n:Nat) (acc:Option aq) (j:Nat) (s:WStep),l[j]? = some s->
  (∀ m s',j < m->l[m]? = some s'->ly s' (len+afV (l.take m)) n->s'.s.blk=none/\L (i+m)=false)->∃acc',Gi l i len L n acc=AT s (L (i+j)) (len+afV (l.take j)) n acc'
 | [],_,_,_,_,_,_,_,h,_=>by simp at h
 | s0 :: l,i,len,L,n,acc,0,s,h,hk=>by
  simp at h;subst h;refine ⟨acc,?_⟩;simp only [Gi,List.take_zero,afV,Nat.add_zero];refine wF l (i+1) _ L n _ (fun j s' hj ht=>?_)
  have:=hk (j+1) s' (by omega) (by simpa using hj) (by simpa [afV,Nat.add_assoc] using ht)
  rwa [show i+(j+1)=i+1+j by omega] at this
 | s0 :: l,i,len,L,n,acc,j+1,s,h,hk=>by
  simp only [Gi,List.take_succ_cons,afV];obtain ⟨acc',e⟩:=s5 l (i+1) (len+gC s0) L n (AT s0 (L i) len n acc) j s (by simpa using h) (fun m s' hm hj ht=>by
   have:=hk (m+1) s' (by omega) (by simpa using hj) (by simpa [afV,Nat.add_assoc] using ht)
   rwa [show i+(m+1)=i+1+m by omega] at this)
  refine ⟨acc',?_⟩;rw [e,show i+1+j=i+(j+1) by omega,Nat.add_assoc]
theorem GD:∀ (l:List WStep) (len n:Nat),len<=n->n < len+afV l->∃j s,l[j]? = some s/\s.s.blk.isSome=true/\n=len+afV (l.take j)
 | [],len,n,h1,h2=>by simp [afV] at h2; omega
 | s :: l,len,n,h1,h2=>by
  simp only [afV] at h2;by_cases h:s.s.blk.isSome=true/\n=len
  ·exact ⟨0,s,rfl,h.1,by simp [afV,h.2]⟩
  ·have hge:len+gC s<=n:=by
    unfold gC at *;split
    ·rename_i hb;have:n≠len:=fun e=>h ⟨hb,e⟩
     omega
    ·omega
   obtain ⟨j,s',h3,h4,h5⟩:=GD l (len+gC s) n hge (by omega)
   exact ⟨j+1,s',by simpa using h3,h4,by simp only [List.take_succ_cons,afV]; omega⟩
theorem vB:∀ (l:List WStep) (x y:Nat) (s:WStep),x < y->l[x]? = some s->s.s.blk.isSome=true->afV (l.take x) < afV (l.take y)
 | [],x,y,s,_,h,_=>by simp at h
 | s0 :: l,0,y+1,s,_,h,hb=>by
  simp at h;subst h;simp only [List.take_zero,List.take_succ_cons,afV,gC,if_pos hb];omega
 | s0 :: l,x+1,y+1,s,hxy,h,hb=>by
  simp only [List.take_succ_cons,afV];have:=vB l x y s (by omega) (by simpa using h) hb
  omega
 | _,x,0,_,h,_,_=>by omega
theorem DJ:∀ {l:List (Option Prop × WStep)},je (jL l)=true->∀ {i j:Nat} {si sj:WStep} {k:Nat} {x y:aq},(l.map (·.2))[i]? = some si->(l.map (·.2))[j]? = some sj->si.qX=some (k,x)->sj.qX=some (k,y)->i=j:=by
 have mem:∀ (l:List (Option Prop × WStep)) (i:Nat) (s:WStep) (k:Nat) (x:aq),(l.map (·.2))[i]? = some s->s.qX=some (k,x)->k∈jL l:=by
  intro l;induction l with
  | nil=>intro i s k x h; simp at h
  | cons p l ih=>
   obtain ⟨p,s0⟩:=p;intro i s k x h hu;cases i with
   | zero=>simp at h; subst h; simp [jL,hu]
   | succ i=>
    have:=ih i s k x (by simpa using h) hu
    simp only [jL];split
    ·exact this
    ·exact List.mem_cons_of_mem _ this
 intro l;induction l with
 | nil=>intro _ i j si sj k x y h; simp at h
 | cons p l ih=>
  obtain ⟨p,s0⟩:=p;intro hn i j si sj k x y hi hj hx hy;have tail:je (jL l)=true:=by
   simp only [jL] at hn;split at hn
   ·exact hn
   ·simp only [je,Bool.and_eq_true] at hn; exact hn.2
  have head:∀ (i:Nat) (s:WStep) (z:aq) (w:aq),(l.map (·.2))[i]? = some s->s.qX=some (k,z)->s0.qX=some (k,w)->False:=by
   intro i s z w h1 h2 h3;have:=mem l i s k z h1 h2;simp only [jL,h3,je,Bool.and_eq_true,Bool.not_eq_true'] at hn;have h4:=hn.1;simp at h4;exact h4 this
  cases i with
  | zero=>
   cases j with
   | zero=>rfl
   | succ j=>
    simp at hi;subst hi;exact (head j sj y x (by simpa using hj) hy hx).elim
  | succ i=>
   cases j with
   | zero=>
    simp at hj;subst hj;exact (head i si x y (by simpa using hi) hx hy).elim
   | succ j=>exact congrArg (· + 1) (ih tail (i:=i) (j:=j) (by simpa using hi) (by simpa using hj) hx hy)
theorem qm (P:Program) (n:Nat):∀ (cs:List IV) (ts:List TypeId),lI cs=true->fm P n ts cs=(cs,[])
 | [],[],_=>by simp [fm]
 | [],_ :: _,_=>by simp [fm]
 | c :: cs,[],_=>by simp [fm]
 | c :: cs,t :: ts,h=>by
  cases c with
  | int k x=>simp only [lI] at h; simp only [fm]; rw [qm P n cs ts h]
  | bool b=>simp only [lI] at h; simp only [fm]; rw [qm P n cs ts h]
  | _=>simp [lI] at h
theorem pW {E:Env} {ops:Array Oper} {fa:OB} {n0:Nat}:∀ {l:List Oper} {st:St} {r:List (Option Prop × WStep)},kJ E ops fa n0 l st=some r->
  r.length=l.length/\∀ j o,l[j]? = some o->o.guard=none/\∃p s,r[j]? = some (p,s)/\pg E n0 (gd (r.take j) st).b.length (gd (r.take j) st).b (iZ (jO (o.looksAt ops)) fa (gd (r.take j) st)) o=some (p,s)
 | [],st,r,h=>by
  simp only [kJ,Option.some.injEq] at h;subst h;exact ⟨rfl,by simp⟩
 | o :: l,st,r,h=>by
  simp only [kJ] at h;split at h
  ·cases h
  ·rename_i hg;split at h
   ·rename_i p s hs;split at h
    ·rename_i r' hr';cases h
     obtain ⟨h1,h2⟩:=pW hr';refine ⟨by simp [h1],fun j o' ho'=>?_⟩
     cases j with
     | zero=>
      simp at ho';subst ho';exact ⟨hg,p,s,rfl,by simpa [gd] using hs⟩
     | succ j=>
      obtain ⟨k1,p',s',k2,k3⟩:=h2 j o' (by simpa using ho')
      exact ⟨k1,p',s',by simpa using k2,by simpa [gd] using k3⟩
    ·cases h
   ·cases h
theorem lb:∀ (l:List (Option Prop × WStep)) (i:Nat) (st:St),gd l st=ko (l.map (·.2)) i (fun _=>true) st
 | [],_,_=>rfl
 | (p,s) :: l,i,st=>by simp only [gd,List.map_cons,ko]; exact lb l (i+1) _
theorem dK {E:Env} {n0 nb:Nat} {bs:OB} {r:St} {o:Oper} {p:Option Prop} {s:WStep} (h:pg E n0 nb bs r o=some (p,s)):
  (s.qX=none/\jE E nb r o=some (p,s.s))∨
  ∃t x v k u t' cells,o.op=.store t x v/\ev r x=some (.ptr k 0)/\ev r v=some u/\look bs k=some (.var t' cells)/\n0<=k/\lI u.cells=true/\lK u=true/\cells.length=u.cells.length/\eH E.P t=some u.cells.length/\p=none/\
   s = ⟨⟨o.dst,.tup [],none⟩,some (k,.var t' u.cells)⟩:=by
 unfold pg at h;split at h
 ·rename_i t x v hop;split at h
  ·rename_i k hx;split at h
   ·rename_i u hv;split at h
    ·rename_i t' cells hb;split at h
     ·rename_i hc;cases h
      obtain ⟨h1,h2⟩:=hc;simp only [Bool.and_eq_true] at h1;obtain ⟨⟨⟨h3,h4⟩,h5⟩,h6⟩:=h1;exact .inr ⟨t,x,v,k,u,t',cells,hop,hx,hv,hb,Nat.le_of_ble_eq_true h3,h4,h5,Nat.eq_of_beq_eq_true h6,h2,rfl,rfl⟩
     ·cases h
    ·cases h
   ·cases h
  ·cases h
 ·split at h
  ·rename_i p' s' hs;cases h
   exact .inl ⟨rfl,hs⟩
  ·cases h
section
variable {E:Env} {X:Ctx} {n0:Nat} {ops:Array Oper} {K:St->Prop} {Q:Exit->Act->World->Prop} {β0:cR}
theorem BQ (hE:EnvOk E) (hQ:∀ c a w,¬ Q (.panic c) a w) (hline:ops.size<=kg ops) {bM:St} {r:List (Option Prop × WStep)} (hrun:kJ E ops bM.b bM.b.length ops.toList bM=some r) (hnd:je (jL r)=true)
  (hask:∀ p s,(p,s)∈r->∀ q,p=some q->q) (hn:n0<=bM.b.length) (hk:K (gd r bM)) (hlen0:∀ b,bM.b.length<=b->β0 b=none):
  ∀ (m:Nat) (listed:Array Bool) {β:cR} {a:Act} {w:World},listed.size=ops.size->jW ops listed->m=(List.range ops.size).countP (fun i=>!listed.getD i false)->
   Sat X β (ko (r.map (·.2)) 0 (fun i=>listed.getD i false) bM) a w->
   (∀ j s,(r.map (·.2))[j]? = some s->s.s.blk.isSome=true->listed.getD j false=false->β (bM.b.length+afV ((r.map (·.2)).take j))=none)->
   (∀ j s k x i si,(r.map (·.2))[j]? = some s->s.qX=some (k,x)->listed.getD j false=true->(r.map (·.2))[i]? = some si->si.s.blk.isSome=true->k=bM.b.length+afV ((r.map (·.2)).take i)->listed.getD i false=true)->
   (∀ b,b < bM.b.length->β b=β0 b)->
   (∀ β' st' a' w',K st'->Sat X β' st' a' w'->(∀ b,b < n0->β' b=β0 b)->n0<=st'.b.length->Q .normal a' w')->
   el E.P ops Q (fun _=>True) ops.size m listed a w:=by
 obtain ⟨hrl,hspec⟩:=pW hrun;have hrlen:r.length=ops.size:=by rw [hrl]; simp
 intro m;induction m with
 | zero=>
  intro listed β a w hsz hcl hm h hhole hst hag hK;have hall:∀ i,i < ops.size->listed.getD i false=true:=fun i hi=>by
   have:=rI hm.symm i hi;simpa using this
  have hst1:ko (r.map (·.2)) 0 (fun i=>listed.getD i false) bM=gd r bM:=by
   rw [lb r 0 bM];have:∀ (l:List WStep) (i:Nat) (st:St),i+l.length<=ops.size->ko l i (fun i=>listed.getD i false) st=ko l i (fun _=>true) st:=by
    intro l;induction l with
    | nil=>intro i st _; rfl
    | cons s l ih=>
     intro i st hi;simp only [List.length_cons] at hi;simp only [ko];rw [hall i (by omega),ih (i+1) _ (by omega)]
   exact this _ 0 bM (by simp [hrlen])
  rw [hst1] at h;refine ⟨?_,?_⟩
  ·cases hr:Region.ready .any ops listed with
   | nil=>rfl
   | cons i l=>
    have hi:i∈Region.ready .any ops listed:=by rw [hr]; exact List.mem_cons_self
    obtain ⟨hun,o,ho,_⟩:=mem_ready.1 hi;have his:i < ops.size:=(Array.getElem?_eq_some_iff.1 ho).1;have:=hall i his;rw [Array.getD_eq_getD_getElem?] at this hun;simp [hsz,his] at this hun;rw [this] at hun;cases hun
  ·have hble:n0<=(gd r bM).b.length:=by
    rw [lb r 0 bM,nA,kZ]; omega
   exact hK β _ a w hk h (fun b hb=>hag b (by omega)) hble
 | succ m ih=>
  intro listed β a w hsz hcl hm h hhole hstd hag hK;have key:∀ j,j∈Region.ready .any ops listed->∃o,ops[j]? = some o/\o.guard=none/\o.wp E.P a w (fun a' w'=>(j < ops.size->True->True)/\el E.P ops Q (fun _=>True) ops.size m (listed.setIfInBounds j true) a' w') Q:=by
   intro j hj;obtain ⟨hun,o,ho,hall⟩:=mem_ready.1 hj;have hjs:j < ops.size:=(Array.getElem?_eq_some_iff.1 ho).1;have hjf:listed.getD j false=false:=by
    rw [Array.getD_eq_getD_getElem?] at hun ⊢;simpa [hsz,hjs] using hun
   obtain ⟨hg,p,s,hrj,hstep⟩:=hspec j o (by simpa using ho)
   have hsj:(r.map (·.2))[j]? = some s:=by simp [hrj]
   have hsd:s.s.dst=o.dst:=by
    rcases dK hstep with ⟨_,h2⟩ | ⟨t,x,v,k,u,t',cells,h1,h2,h3,h4,h5,h6,h7,h8,h9,h10,h11⟩
    ·exact kc h2
    ·rw [h11]
   generalize hW:r.map (·.2)=W at *;generalize hLd:(fun i=>listed.getD i false)=L at *
   have hLi:∀ i,L i=listed.getD i false:=fun i=>by rw [← hLd]
   have hwl:W.length=ops.size:=by rw [← hW,List.length_map,hrlen]
   have hlj:∀ {i:Nat} {oi:Oper},ops[i]? = some oi->_:=fun {i} {oi} h1=>pC (ops:=ops) (i:=i) (oi:=oi) h1 (Nat.lt_of_lt_of_le (Array.getElem?_eq_some_iff.1 h1).1 hline)
   have hwr:∀ (k:Nat) (sk:PStep),(W.map (·.s))[k]? = some sk->∀ τ,sk.dst=some τ->∃ok:Oper,ops[k]? = some ok/\ok.dst=some τ:=by
    intro k sk hk1 τ hd1;have hkl:k < ops.size:=by
     have:=(List.getElem?_eq_some_iff.1 hk1).1;rw [List.length_map,hwl] at this;exact this
    have hok:ops[k]? = some ops[k]:=by simp [hkl]
    obtain ⟨_,p2,s2,h2,h3⟩:=hspec k ops[k] (by simp [hkl])
    have e2:W[k]? = some s2:=by rw [← hW]; simp [h2]
    rw [List.getElem?_map,e2] at hk1;cases hk1
    refine ⟨_,hok,?_⟩;rcases dK h3 with ⟨_,h4⟩ | ⟨t,x,v,k,u,t',cells,h1,h2,h3,h4,h5,h6,h7,h8,h9,h10,h11⟩
    ·rw [← kc h4]; exact hd1
    ·rw [h11] at hd1; exact hd1
   have hafter:∀ k ok,ops[k]? = some ok->j < k->(∃e∈ok.after,Region.binds .any e=true/\e.on=j)->L k=false:=by
    rintro k ok hk1 hjk ⟨e,he,hb,hon⟩;rw [hLi];cases hkl:listed.getD k false with
    | false=>rfl
    | true=>
     have:=hcl k ok hk1 hkl e he hb;rw [hon,hjf] at this;cases this
   have hlook:∀ τ,τ∈o.looksAt ops->∀ (k:Nat) (sk:PStep),(W.map (·.s))[k]? = some sk->sk.dst=some τ->L k=decide (k < j):=by
    intro τ hτ k sk hk1 hd1;obtain ⟨ok,hok,hokd⟩:=hwr k sk hk1 τ hd1;rcases Nat.lt_trichotomy k j with hlt | he | hgt
    ·rw [decide_eq_true hlt,hLi];by_cases hwait:∃e∈o.after,Region.binds .any e=true/\e.on=k
     ·obtain ⟨e,he,hb,hon⟩:=hwait;have:=hall e he hb
      rwa [hon] at this
     ·have:=(hlj hok).2 j o ho hlt (fun e he hb hon=>hwait ⟨e,he,hb,hon⟩)
      exact absurd hτ ((Oper.apart_spec this).1 τ hokd)
    ·subst he;rw [hLi,hjf];simp
    ·rw [decide_eq_false (by omega)]
     by_cases hwait:∃e∈ok.after,Region.binds .any e=true/\e.on=j
     ·exact hafter k ok hok hgt hwait
     ·have:=(hlj ho).2 k ok hok hgt (fun e he hb hon=>hwait ⟨e,he,hb,hon⟩)
      exact absurd hτ ((Oper.apart_spec this).2.2 τ hokd)
   have hlater:∀ τ,o.dst=some τ->∀ (k:Nat) (sk:PStep),j < k->(W.map (·.s))[k]? = some sk->sk.dst=some τ->L k=false:=by
    intro τ hτ k sk hjk hk1 hd1;obtain ⟨ok,hok,hokd⟩:=hwr k sk hk1 τ hd1;by_cases hwait:∃e∈ok.after,Region.binds .any e=true/\e.on=j
    ·exact hafter k ok hok hjk hwait
    ·have:=(hlj ho).2 k ok hok hjk (fun e he hb hon=>hwait ⟨e,he,hb,hon⟩)
     exact absurd hokd ((Oper.apart_spec this).2.1 τ hτ)
   have htake:(gd (r.take j) bM).t=(kD (W.map (·.s)) 0 (fun k=>decide (k < j)) bM).t:=by
    have ht:=vR (r.map fun p=>(p.1,p.2.s)) 0 j (fun k=>decide (k < j)) bM bM rfl (fun k hk=>by simp; exact hk) (fun k hk=>by simp; omega)
    have e1:(r.map fun p=>(p.1,p.2.s)).map (·.2)=W.map (·.s):=by rw [← hW]; simp [List.map_map,Function.comp_def]
    rw [e1] at ht;rw [ht,lb _ 0,pU,nt _ 0]
    congr 2
    simp only [List.map_take];rw [e1,hW]
   have hre:iZ (jO (o.looksAt ops)) bM.b (ko W 0 L bM)=iZ (jO (o.looksAt ops)) bM.b (gd (r.take j) bM):=by
    unfold iZ;rw [htake,pU]
    congr 1
    refine ow (by rw [gk,gk]) (fun τ hτ=>?_)
    rw [Nat.zero_add,lA] at hτ;refine nS (W.map (·.s)) 0 _ _ bM bM rfl rfl (fun k sk hk1 hd1=>?_)
    rw [Nat.zero_add];exact hlook τ (of_decide_eq_true hτ) k sk hk1 hd1
   have htb:(gd (r.take j) bM).b=bW (W.take j) 0 (fun _=>true) bM.b:=by
    rw [lb _ 0,nA,List.map_take,hW]
   have hnb:(gd (r.take j) bM).b.length=bM.b.length+afV (W.take j):=by rw [htb,kZ]
   rw [hnb] at hstep;have hL'0:∀ i,(listed.setIfInBounds j true).getD i false=(L i || i == j):=fun i=>by rw [so (by omega),hLi]
   have hsb:(ko W 0 L bM).b.length=bM.b.length+afV W:=by rw [nA,kZ]
   have hone:∀ {i i':Nat} {si si':WStep} {k:Nat} {x y:aq},W[i]? = some si->W[i']? = some si'->si.qX=some (k,x)->si'.qX=some (k,y)->i=i':=by
    intro i i' si si' k x y h1 h2 h3 h4;rw [← hW] at h1 h2;exact DJ hnd h1 h2 h3 h4
   have hsame:∀ {i i':Nat} {si si':WStep},W[i]? = some si->W[i']? = some si'->si.s.blk.isSome=true->si'.s.blk.isSome=true->afV (W.take i)=afV (W.take i')->i=i':=by
    intro i i' si si' h1 h2 h3 h4 h5;rcases Nat.lt_trichotomy i i' with h6 | h6 | h6
    ·have:=vB W i i' si h6 h1 h3; omega
    ·exact h6
    ·have:=vB W i' i si' h6 h2 h4; omega
   have next:∀ {β':cR} {a':Act} {w':World},Sat X β' { t:=((ko W 0 L bM).aN o.dst s.s.v).t,b:=(ko W 0 (fun i=>L i || i == j) bM).b } a' w'->
     (∀ b,b≠bM.b.length+afV (W.take j)->β' b=β b)->(s.s.blk.isSome=false->β' = β)->
     (∀ (k:Nat) (x:aq) (i:Nat) (si:WStep),s.qX=some (k,x)->W[i]? = some si->si.s.blk.isSome=true->k=bM.b.length+afV (W.take i)->L i=true)->
     el E.P ops Q (fun _=>True) ops.size m (listed.setIfInBounds j true) a' w':=by
    intro β' a' w' hsat hβ' hβ2 hnew;have e0:(fun i=>(listed.setIfInBounds j true).getD i false)=fun i=>L i || i == j:=funext hL'0
    have et:((ko W 0 L bM).aN o.dst s.s.v).t=(ko W 0 (fun i=>L i || i == j) bM).t:=by
     refine om (by rw [wh,pU,pU,gk,gk]) (fun τ=>?_)
     have hother:o.dst≠some τ->look (ko W 0 L bM).t τ=look (ko W 0 (fun i=>L i || i == j) bM).t τ:=by
      intro hne;rw [pU,pU];refine nS (W.map (·.s)) 0 _ _ bM bM rfl rfl (fun k sk hk1 hd1=>?_)
      rw [Nat.zero_add];by_cases hkj:k=j
      ·subst hkj;rw [List.getElem?_map,hsj] at hk1;cases hk1
       exact absurd (by rw [← hsd]; exact hd1) hne
      ·have:(k == j)=false:=by simp [hkj]
       simp [this]
     cases hd0:o.dst with
     | none=>exact hother (by rw [hd0]; simp)
     | some d=>
      rw [mf];by_cases hdt:d=τ
      ·subst hdt;rw [if_pos rfl,pU,pU,gk];by_cases hlt:d < bM.t.length
       ·rw [if_pos hlt];refine (vS (W.map (·.s)) 0 j (fun i=>L i || i == j) bM s.s (by simp [hsj]) (by rw [hsd,hd0]) (by simp) (fun k sk hjk hk1 hd1=>?_) hlt).symm
        rw [Nat.zero_add];have hkj:(k == j)=false:=by simp; omega
        rw [hlater d hd0 k sk hjk hk1 hd1,hkj]
        rfl
       ·rw [if_neg hlt,pz (by rw [gk]; exact Nat.le_of_not_lt hlt)]
      ·rw [if_neg hdt];exact hother (by rw [hd0]; simpa using hdt)
    rw [et] at hsat;have hsat':Sat X β' (ko W 0 (fun i=>(listed.setIfInBounds j true).getD i false) bM) a' w':=by rw [e0]; exact hsat
    refine ih (listed.setIfInBounds j true) (by simpa using hsz) (hcl.step hj) ?_ hsat' ?_ ?_ (fun b hb=>?_) hK
    ·have hflip:=uK (p:=fun i=>!listed.getD i false) (p':=fun i=>!(listed.setIfInBounds j true).getD i false) hjs (by show (!listed.getD j false)=true; rw [hjf]; rfl) (by show (!(listed.setIfInBounds j true).getD j false)=false; rw [hL'0]; simp) (fun i hi=>by
      show (!(listed.setIfInBounds j true).getD i false)=(!listed.getD i false);rw [hL'0,hLi];have:(i == j)=false:=by simp; omega
      simp [this])
     omega
    ·intro k sk hk1 hbl hkl;rw [hL'0,Bool.or_eq_false_iff] at hkl;have hkj:k≠j:=by have:=hkl.2; simpa using this
     have hold:=hhole k sk hk1 hbl (by rw [← hLi]; exact hkl.1)
     by_cases hne:bM.b.length+afV (W.take k)=bM.b.length+afV (W.take j)
     ·cases hb:s.s.blk.isSome with
      | false=>rw [hβ2 hb]; exact hold
      | true=>exact absurd (hsame hk1 hsj hbl hb (by omega)) hkj
     ·rw [hβ' _ hne]; exact hold
    ·intro j' s' k x i si h1 h2 h3 h4 h5 h6;rw [hL'0] at h3;rw [hL'0];rcases Bool.or_eq_true_iff.1 h3 with h7 | h7
     ·have:=hstd j' s' k x i si h1 h2 (by rw [← hLi]; exact h7) h4 h5 h6
      rw [hLi,this]; rfl
     ·have e7:j' = j:=by simpa using h7
      subst e7;rw [hsj] at h1;cases h1
      rw [hnew k x i si h2 h4 h5 h6]; rfl
    ·rw [hβ' b (by omega)]; exact hag b hb
   have hptn:∀ n L1,look (ko W 0 L1 bM).b n=Gi W 0 bM.b.length L1 n (look bM.b n):=fun n L1=>by rw [nA,vo]
   have far:∀ n,¬ ly s (bM.b.length+afV (W.take j)) n->look (ko W 0 (fun i=>L i || i == j) bM).b n=look (ko W 0 L bM).b n:=by
    intro n hn;rw [hptn,hptn];refine x7 W 0 _ _ _ n _ (fun i si hi ht=>?_)
    rw [Nat.zero_add];by_cases hij:i=j
    ·subst hij;rw [hsj] at hi;cases hi
     exact absurd ht hn
    ·have:(i == j)=false:=by simp [hij]
     simp [this]
   refine ⟨o,ho,hg,?_⟩;rcases dK hstep with ⟨hup,hps⟩ | ⟨t,x,v,k,u,t',cells,hop,hx,hv,hb,hk0,hpl,hnt,hcl',hsize,hp0,hs0⟩
   ·
    have hfill:s.s.blk≠none->bM.b.length+afV (W.take j) < (ko W 0 L bM).b.length/\look (ko W 0 L bM).b (bM.b.length+afV (W.take j))=none/\∀ kb,s.s.blk=some kb->look (ko W 0 (fun i=>L i || i == j) bM).b (bM.b.length+afV (W.take j))=some kb:=by
     intro hbl;have hsome:s.s.blk.isSome=true:=by cases hb:s.s.blk with
      | none=>exact absurd hb hbl
      | some _=>rfl
     have hlt:afV (W.take j) < afV W:=by
      have h1:=vB W j W.length s (List.getElem?_eq_some_iff.1 hsj).1 hsj hsome
      rwa [List.take_length] at h1
     have idle:∀ (L1:Nat->Bool),(∀ i,i≠j->L1 i=L i)->∀ (i:Nat) (si:WStep),j < i->W[i]? = some si->ly si (bM.b.length+afV (W.take i)) (bM.b.length+afV (W.take j))->si.s.blk=none/\L1 (0+i)=false:=by
      intro L1 hL1 i si hji hi ht;rw [Nat.zero_add];rcases ht with ⟨h1,h2⟩ | ⟨y,h1⟩
      ·exact absurd (hsame hi hsj h1 hsome (by omega)) (by omega)
      ·have hnotb:si.s.blk=none:=by
        have hil:i < ops.size:=by
         have:=(List.getElem?_eq_some_iff.1 hi).1
         rwa [hwl] at this
        obtain ⟨_,p2,s2,h3,h4⟩:=hspec i ops[i] (by simp [hil])
        have e2:W[i]? = some s2:=by rw [← hW]; simp [h3]
        rw [hi] at e2;cases e2
        rcases dK h4 with ⟨h5,_⟩ | ⟨_,_,_,_,_,_,_,_,_,_,_,_,_,_,_,_,_,h11⟩
        ·rw [h5] at h1; cases h1
        ·rw [h11]
       refine ⟨hnotb,?_⟩;rw [hL1 i (by omega),hLi]
       cases hli:listed.getD i false with
       | false=>rfl
       | true=>
        have:=hstd i si _ y j s hi h1 hli hsj hsome rfl;rw [hjf] at this;cases this
     refine ⟨by rw [hsb]; omega,?_,fun kb hkb=>?_⟩
     ·rw [hptn];obtain ⟨acc',e⟩:=s5 W 0 bM.b.length L (bM.b.length+afV (W.take j)) (look bM.b (bM.b.length+afV (W.take j))) j s hsj (idle L (fun _ _=>rfl))
      rw [e,Nat.zero_add,hLi,hjf];unfold AT;rw [hup];simp only;rw [if_pos ⟨hsome,by first | rfl | trivial⟩]
      rfl
     ·rw [hptn];obtain ⟨acc',e⟩:=s5 W 0 bM.b.length (fun i=>L i || i == j) (bM.b.length+afV (W.take j)) (look bM.b (bM.b.length+afV (W.take j))) j s hsj (idle (fun i=>L i || i == j) (fun i hi=>by
       have:(i == j)=false:=by simp [hi]
       simp [this]))
      rw [e,Nat.zero_add];unfold AT;rw [hup];simp only;rw [if_pos ⟨hsome,by first | rfl | trivial⟩,hkb]
      simp
    refine rG hE hps (hask p s (List.mem_of_getElem? hrj)) hre h (fun b kb hb=>h.blks b kb ?_) (fun hbl=>⟨(hfill hbl).1,(hfill hbl).2.1,hhole j s hsj (by cases hb:s.s.blk with
      | none=>exact absurd hb hbl
      | some _=>rfl) hjf⟩) ?_
    ·
     rw [hptn];have hlt:=dc hb;rw [wF W 0 bM.b.length L b _ (fun i si hi ht=>?_)]
     ·exact hb
     ·exfalso
      rcases ht with ⟨_,h2⟩ | ⟨y,h2⟩
      ·omega
      ·have hil:i < ops.size:=by
        have:=(List.getElem?_eq_some_iff.1 hi).1
        rwa [hwl] at this
       obtain ⟨_,p2,s2,h3,h4⟩:=hspec i ops[i] (by simp [hil])
       have e2:W[i]? = some s2:=by rw [← hW]; simp [h3]
       rw [hi] at e2;cases e2
       rcases dK h4 with ⟨h5,_⟩ | ⟨_,_,_,k2,_,_,_,_,_,_,_,h8,_,_,_,_,_,h11⟩
       ·rw [h5] at h2; cases h2
       ·rw [h11] at h2;have:k2=b:=by simpa using congrArg (fun z=>(Option.map Prod.fst z)) h2
        omega
    ·intro β' u w' hkp hβ' hβ2 hsat;refine ⟨fun _ _=>trivial,next ?_ hβ' (fun hb=>hβ2 (by cases hb':s.s.blk with
      | none=>rfl
      | some _=>rw [hb'] at hb; cases hb)) (fun k x i si hu=>by rw [hup] at hu; cases hu)⟩
     have eb:(match s.s.blk with
       | none=>(ko W 0 L bM).b
       | some k=>(ko W 0 L bM).b.set (bM.b.length+afV (W.take j)) (some k))=(ko W 0 (fun i=>L i || i == j) bM).b:=by
      cases hb:s.s.blk with
      | none=>
       simp only;refine om (by rw [nA,nA,kZ,kZ]) (fun n=>?_)
       refine (far n ?_).symm;rintro (⟨h1,_⟩ | ⟨y,h1⟩)
       ·rw [hb] at h1; cases h1
       ·rw [hup] at h1; cases h1
      | some kb=>
       simp only;obtain ⟨q1,q2,q3⟩:=hfill (by rw [hb]; simp)
       refine om (by rw [List.length_set,nA,nA,kZ,kZ]) (fun n=>?_)
       rw [bU];by_cases hn:bM.b.length+afV (W.take j)=n
       ·subst hn;rw [if_pos rfl,if_pos q1,q3 kb hb]
       ·rw [if_neg hn];refine (far n ?_).symm;rintro (⟨_,h1⟩ | ⟨y,h1⟩)
        ·exact hn h1.symm
        ·rw [hup] at h1; cases h1
     rw [← eb];exact hsat
   ·
    subst hs0;have hx':ev (ko W 0 L bM) x=some (.ptr k 0):=rB (by rw [hre]; exact hx)
    have hv':ev (ko W 0 L bM) v=some u:=rB (by rw [hre]; exact hv)
    obtain ⟨id,hxv,hβk⟩:=(bR h hx').gL;have hklt:k < bM.b.length+afV (W.take j):=by have:=dc hb; rw [hnb] at this; exact this
    obtain ⟨i,si,hi,hsome,hki⟩:=GD (W.take j) bM.b.length k hk0 hklt;have hij:i < j:=by
     have:=(List.getElem?_eq_some_iff.1 hi).1;rw [List.length_take] at this;omega
    have hiW:W[i]? = some si:=by rw [List.getElem?_take,if_pos hij] at hi; exact hi
    have hki':k=bM.b.length+afV (W.take i):=by rw [hki,List.take_take,Nat.min_eq_left (by omega)]
    have hLi':L i=true:=by
     rw [hLi];cases hli:listed.getD i false with
     | true=>rfl
     | false=>
      have:=hhole i si hiW hsome hli;rw [← hki',hβk] at this;cases this
    have hsup:si.qX=none:=by
     have hil:i < ops.size:=by
      have:=(List.getElem?_eq_some_iff.1 hiW).1
      rwa [hwl] at this
     obtain ⟨_,p2,s2,h3,h4⟩:=hspec i ops[i] (by simp [hil])
     have e2:W[i]? = some s2:=by rw [← hW]; simp [h3]
     rw [hiW] at e2;cases e2
     rcases dK h4 with ⟨h5,_⟩ | ⟨_,_,_,_,_,_,_,_,_,_,_,_,_,_,_,_,_,h11⟩
     ·exact h5
     ·rw [h11] at hsome; cases hsome
    have atK:AT si true k k=fun _=>si.s.blk:=by
     funext acc
     unfold AT;rw [hsup];simp only;rw [if_pos ⟨hsome,by first | rfl | trivial⟩]
     rfl
    have hbk:si.s.blk=some (.var t' cells):=by
     rw [htb,vo] at hb;obtain ⟨acc',e⟩:=s5 (W.take j) 0 bM.b.length (fun _=>true) k (look bM.b k) i si hi (fun m' s' him hm' ht=>by
      exfalso
      have hmj:m' < j:=by
       have:=(List.getElem?_eq_some_iff.1 hm').1;rw [List.length_take] at this;omega
      have hmW:W[m']? = some s':=by rw [List.getElem?_take,if_pos hmj] at hm'; exact hm'
      rw [List.take_take,Nat.min_eq_left (by omega)] at ht
      rcases ht with ⟨h1,h2⟩ | ⟨y,h1⟩
      ·have:=hsame hmW hiW h1 hsome (by omega)
       omega
      ·have:=hone hmW hsj h1 rfl;omega)
     rw [e] at hb;have e3:bM.b.length+afV ((W.take j).take i)=k:=by rw [hki]
     rw [e3,atK] at hb;exact hb
    have hnow:look (ko W 0 L bM).b k=some (.var t' cells):=by
     rw [hptn];obtain ⟨acc',e⟩:=s5 W 0 bM.b.length L k (look bM.b k) i si hiW (fun m' s' him hm' ht=>by
      rcases ht with ⟨h1,h2⟩ | ⟨y,h1⟩
      ·have:=hsame hm' hiW h1 hsome (by omega)
       omega
      ·have:=hone hm' hsj h1 rfl;subst this;rw [hsj] at hm';cases hm'
       exact ⟨rfl,by rw [Nat.zero_add,hLi,hjf]⟩)
     rw [e,Nat.zero_add,hLi',← hki',atK];exact hbk
    have eb:(ko W 0 L bM).b.set k (some (.var t' u.cells))=(ko W 0 (fun i=>L i || i == j) bM).b:=by
     refine om (by rw [List.length_set,nA,nA,kZ,kZ]) (fun n=>?_)
     rw [bU];by_cases hn:k=n
     ·subst hn;rw [if_pos rfl,if_pos (dc hnow),hptn];obtain ⟨acc',e⟩:=s5 W 0 bM.b.length (fun i=>L i || i == j) k (look bM.b k) j _ hsj (fun m' s' him hm' ht=>by
       rcases ht with ⟨h1,h2⟩ | ⟨y,h1⟩
       ·have:=hsame hm' hiW h1 hsome (by omega)
        omega
       ·have:=hone hm' hsj h1 rfl;omega)
      rw [e];unfold AT;simp only;rw [if_pos ⟨by simp,by first | rfl | trivial,by omega⟩]
     ·rw [if_neg hn];refine (far n ?_).symm;rintro (⟨h1,_⟩ | ⟨y,h1⟩)
      ·cases h1
      ·exact hn (by simpa using congrArg (fun z=>(Option.map Prod.fst z)) h1)
    have hstore:storeAt E.P (ko W 0 L bM) t (.ptr k 0) u fun st'=>(fun st''=>st'' = ({ t:=(ko W 0 L bM).t,b:=(ko W 0 L bM).b.set k (some (.var t' u.cells)) }:St).aN o.dst (.tup [])) (st'.aN o.dst (.tup [])):=by
     unfold storeAt;rw [hsize];simp only;rw [if_neg (by rw [hnt]; simp)]
     simp only [hnow];rw [if_pos (by omega),qm _ _ _ _ hpl]
     simp only [List.append_nil,List.take_zero,List.nil_append,Nat.zero_add,St.jZ];rw [List.drop_eq_nil_of_le (by omega),List.append_nil]
    refine pT (K:=fun st''=>st'' = ({ t:=(ko W 0 L bM).t,b:=(ko W 0 L bM).b.set k (some (.var t' u.cells)) }:St).aN o.dst (.tup [])) (wr:=true) h hop hx' hv' hstore ?_ rfl
    intro β' st' a' w' hst' hsat hβ' hle _;subst hst';have hbe:∀ b,β' b=β b:=by
     intro b;rcases Nat.lt_or_ge b (ko W 0 L bM).b.length with h1 | h1
     ·exact hβ' b h1
     ·rw [h.bound b h1,hsat.bound b (by rw [cJ]; simpa using h1)]
    refine ⟨fun _ _=>trivial,next ?_ (fun b _=>hbe b) (fun _=>funext hbe) (fun k2 y i2 si2 h1 h2 h3 h4=>?_)⟩
    ·rw [← eb];have e:(({ t:=(ko W 0 L bM).t,b:=(ko W 0 L bM).b.set k (some (.var t' u.cells)) }:St).aN o.dst (.tup [])) = { t:=((ko W 0 L bM).aN o.dst (.tup [])).t,b:=(ko W 0 L bM).b.set k (some (.var t' u.cells)) }:=by
      cases o.dst <;> rfl
     rw [e] at hsat;exact hsat
    ·have e1:k=k2:=by simpa using congrArg (fun z=>(Option.map Prod.fst z)) h1
     have:=hsame h2 hiW h3 hsome (by omega)
     rw [this];exact hLi'
  refine ⟨fun h0=>?_,fun j hj=>?_⟩
  ·exfalso
   have hex:∃i,i < ops.size/\listed.getD i false=false:=by
    apply Classical.byContradiction;intro hno;have:(List.range ops.size).countP (fun i=>!listed.getD i false)=0:=by
     rw [List.countP_eq_zero];intro i hi;have hi':=List.mem_range.1 hi;cases hb:listed.getD i false with
     | true=>simp
     | false=>exact absurd ⟨i,hi',hb⟩ hno
    omega
   have hmin:∀ n,(∃i,i < n/\i < ops.size/\listed.getD i false=false)->∃i,i < ops.size/\listed.getD i false=false/\∀ k,k < i->listed.getD k false=true:=by
    intro n;induction n with
    | zero=>rintro ⟨i,hi,_⟩; omega
    | succ n ihn=>
     rintro ⟨i,hi,h1,h2⟩;by_cases hb:∃i,i < n/\i < ops.size/\listed.getD i false=false
     ·exact ihn hb
     ·have e:i=n:=by
       apply Classical.byContradiction;intro hne;exact hb ⟨i,by omega,h1,h2⟩
      subst e;refine ⟨i,h1,h2,fun k hk=>?_⟩
      cases hkb:listed.getD k false with
      | true=>rfl
      | false=>exact absurd ⟨k,hk,by omega,hkb⟩ hb
   obtain ⟨i,hi,hb⟩:=hex;obtain ⟨i,hi,hb,hlow⟩:=hmin (i+1) ⟨i,by omega,hi,hb⟩
   have hoi:ops[i]? = some ops[i]:=by simp [hi]
   have hmem:i∈Region.ready .any ops listed:=by
    refine mem_ready.2 ⟨?_,ops[i],hoi,fun e he hbi=>hlow e.on ((pC hoi (Nat.lt_of_lt_of_le hi hline)).1 e he hbi)⟩
    rw [Array.getD_eq_getD_getElem?] at hb ⊢;simpa [hsz,hi] using hb
   rw [h0] at hmem;cases hmem
  ·obtain ⟨o',ho',hg',hwp⟩:=key j hj;unfold wpOp;rw [ho'];simp only;rw [if_pos (by simp [Region.wanted,hg'])]
   exact .inl hwp
end
theorem BG:∀ (l:List WStep) (i len:Nat) (L:Nat->Bool) (n:Nat) (acc:Option aq) (k:aq),(∀ i,L i=false)->Gi l i len L n acc=some k->acc=some k
 | [],_,_,_,_,_,_,_,h=>h
 | s :: l,i,len,L,n,acc,k,hL,h=>by
  simp only [Gi] at h;have:=BG l _ _ L n _ k hL h;rw [hL i] at this;unfold AT at this;cases hu:s.qX with
  | none=>
   simp only [hu] at this;split at this
   ·simp at this
   ·exact this
  | some p=>
   obtain ⟨k2,x⟩:=p;simp only [hu,Bool.false_eq_true,false_and,if_false] at this;split at this
   ·simp at this
   ·exact this
theorem xt:∀ {l:List (Option Prop × WStep)} {K:Prop},yP l K->K/\∀ p s,(p,s)∈l->∀ q,p=some q->q
 | [],K,h=>⟨h,fun p s hm=>by cases hm⟩
 | (p,s) :: l,K,h=>by
  simp only [yP] at h;have h':(∀ q,p=some q->q)/\yP l K:=by
   cases p with
   | none=>exact ⟨fun q hq=>(by cases hq),h⟩
   | some q=>exact ⟨fun q' hq=>(by cases hq; exact h.1),h.2⟩
  obtain ⟨k1,k2⟩:=xt h'.2;refine ⟨k1,fun p' s' hm q hq=>?_⟩
  rcases List.mem_cons.1 hm with e | hm
  ·cases e; exact h'.1 q hq
  ·exact k2 p' s' hm q hq
section
variable {E:Env} {X:Ctx} {n0:Nat} {K:St->Prop} {Q:Exit->Act->World->Prop}
theorem CF (hE:EnvOk E) {ops:Array Oper} {id:Nat} {β:cR} {st:St} {a:Act} {w:World} (h:Sat X β st a w) (hn:n0<=st.b.length) {r:List (Option Prop × WStep)}
  (hline:ops.size<=kg ops) (hr:kJ E ops st.b st.b.length ops.toList st=some r) (hnd:je (jL r)=true) (hk:yP r (nC (gd r st) K))
  (hK:∀ β' st' a' w',K st'->Sat X β' st' a' w'->(∀ b,b < n0->β' b=β b)->n0<=st'.b.length->Q .normal a' w'):(Code.region id ops true).wp E.P Q a w:=by
 obtain ⟨hk1,hask⟩:=xt hk;rw [iv] at hk1;have hw1:ba w { w with drawn:=w.drawn+1 }:=ba.drawn w _
 have h1:=h.keeps hw1;refine wp_mono (Q:=fun e a w=>e=.normal/\Q .normal a w) ?_ (fun e a w hq=>by obtain ⟨rfl,hq⟩:=hq; exact hq)
 refine wp_region_any hE.mixed (kz (F:=fun _=>True) (hd:=ops.size) _ _ _ _ ?_)
 have hrep:∀ i,(Array.replicate ops.size false).getD i false=false:=by
  intro i;rw [Array.getD_eq_getD_getElem?,Array.getElem?_replicate];split <;> rfl
 have h2:Sat X β (ko (r.map (·.2)) 0 (fun i=>(Array.replicate ops.size false).getD i false) st) a { w with drawn:=w.drawn+1 }:=by
  have ht:(ko (r.map (·.2)) 0 (fun i=>(Array.replicate ops.size false).getD i false) st).t=st.t:=by
   rw [pU]; exact o5 _ 0 _ st (fun k=>hrep _)
  have hb:=nA (r.map (·.2)) 0 (fun i=>(Array.replicate ops.size false).getD i false) st
  have lk:∀ c k,look (bW (r.map (·.2)) 0 (fun i=>(Array.replicate ops.size false).getD i false) st.b) c=some k->look st.b c=some k:=by
   intro c k hc;rw [vo] at hc;exact BG _ _ _ _ _ _ _ (fun i=>hrep i) hc
  have hlen:=kZ (r.map (·.2)) 0 (fun i=>(Array.replicate ops.size false).getD i false) st.b
  generalize ko (r.map (·.2)) 0 (fun i=>(Array.replicate ops.size false).getD i false) st=N2 at *
  obtain ⟨t2,b2⟩:=N2;simp only at ht hb;subst ht;subst hb;exact ⟨h1.len,h1.tmps,fun c k hc=>h1.blks c k (lk c k hc),fun c d k k' id hc hd=>h1.disj c d k k' id (lk c k hc) (lk d k' hd),
   fun c hc=>h1.bound c (by simp only at hc; omega),h1.below,h1.frm.sub (fun c k id hc hu=>⟨c,k,lk c k hc,hu,fun h=>h⟩),h1.defers⟩
 have hsz:(List.range ops.size).countP (fun i=>!(Array.replicate ops.size false).getD i false)=ops.size:=by
  rw [List.countP_eq_length.2]
  ·simp
  ·intro i _;rw [hrep]
   rfl
 exact BQ (Q:=fun e a w=>e=.normal/\Q .normal a w) (n0:=n0) (β0:=β) hE (fun c a w hq=>by cases hq.1) hline hr hnd hask hn hk1 h.bound
  ops.size (Array.replicate ops.size false) (by simp) (fun j o hj hl=>by rw [hrep] at hl; cases hl) hsz.symm h2 (fun j s hj _ _=>h.bound _ (Nat.le_add_right _ _)) (fun j s k x i si _ _ hl=>by rw [hrep] at hl; cases hl) (fun _ _=>rfl)
  (fun β' st' a' w' hk' hs' hag hle=>⟨rfl,hK β' st' a' w' hk' hs' hag hle⟩)
end
section
variable {E:Env} {X:Ctx} {n0:Nat} {K:St->Prop} {Q:Exit->Act->World->Prop}
theorem oM (hE:EnvOk E) {ops:Array Oper} {id:Nat} {β:cR} {st:St} {a:Act} {w:World} (h:Sat X β st a w) (hn:n0<=st.b.length) (hc:Region.noSelect ops=true) (hk:sr E ops st K)
  (hK:∀ β' st' a' w',K st'->Sat X β' st' a' w'->(∀ b,b < n0->β' b=β b)->n0<=st'.b.length->Q .normal a' w'):(Code.region id ops true).wp E.P Q a w:=by
 unfold sr at hk;split at hk
 ·rename_i hs;exact jS hE h hn ⟨hc,hs⟩ (fun i o hi ho=>uz E ops.toList i o hi ho) hk hK
 ·exact xe hE h hn hc hk hK
theorem xh (hE:EnvOk E) {ops:Array Oper} {id:Nat} {β:cR} {st:St} {a:Act} {w:World} (h:Sat X β st a w) (hn:n0<=st.b.length) (hk:xi E ops st K)
  (hK:∀ β' st' a' w',K st'->Sat X β' st' a' w'->(∀ b,b < n0->β' b=β b)->n0<=st'.b.length->Q .normal a' w'):(Code.region id ops true).wp E.P Q a w:=by
 unfold xi at hk;simp only at hk;split at hk
 ·rename_i hc;rw [Bool.and_eq_true] at hc;have hc:Region.noSelect ops=true/\jb ops (oC E ops)=true:=⟨hc.1,KD hc.2⟩;split at hk
  ·rename_i hc2;simp only [Bool.and_eq_true,Bool.not_eq_true'] at hc2;split at hk
   ·rename_i r hr;obtain ⟨hk1,hask⟩:=yO hk;rw [iv] at hk1;have happ:ops.any cq=false:=by
     have:=hc2.2;rw [AM] at this;simpa using this
    have hw1:ba w { w with drawn:=w.drawn+1 }:=ba.drawn w _
    have h1:=h.keeps hw1;have hhl:=LS E ops;refine wp_mono (Q:=fun e a w=>e=.normal/\Q .normal a w) ?_ (fun e a w hq=>by obtain ⟨rfl,hq⟩:=hq; exact hq)
    refine wp_region_any hE.mixed (kz (F:=fun w=>∀ b k,look st.b b=some k->gi X β w b k) (hd:=oC E ops) _ _ _ _ ?_)
    have hrep:∀ i,(Array.replicate ops.size false).getD i false=false:=by
     intro i;rw [Array.getD_eq_getD_getElem?,Array.getElem?_replicate];split <;> rfl
    have hst:kD (r.map (·.2)) 0 (fun i=>(Array.replicate ops.size false).getD i false) st = { t:=st.t,b:=st.b++fc (r.map (·.2)) 0 (fun i=>(Array.replicate ops.size false).getD i false) }:=by
     have ht:=o5 (r.map (·.2)) 0 (fun i=>(Array.replicate ops.size false).getD i false) st (fun k=>hrep _)
     have hb:=tY (r.map (·.2)) 0 (fun i=>(Array.replicate ops.size false).getD i false) st
     cases hs:kD (r.map (·.2)) 0 (fun i=>(Array.replicate ops.size false).getD i false) st with
     | mk t b=>rw [hs] at ht hb; simp only at ht hb; rw [ht,hb]
    have hnone:∀ (l:List PStep) (i c:Nat),look (fc l i (fun i=>(Array.replicate ops.size false).getD i false)) c=none:=by
     intro l;induction l with
     | nil=>intro i c; exact look_nil c
     | cons s l ih=>
      intro i c;simp only [fc];rw [cv];split
      ·cases hb:s.blk with
       | none=>simp only [ji]; exact look_nil _
       | some kb=>
        simp only [ji,hrep];cases c <;> rfl
      ·exact ih _ _
    have h2:Sat X β (kD (r.map (·.2)) 0 (fun i=>(Array.replicate ops.size false).getD i false) st) a { w with drawn:=w.drawn+1 }:=by
     rw [hst];have lk:∀ c k,look (st.b++fc (r.map (·.2)) 0 (fun i=>(Array.replicate ops.size false).getD i false)) c=some k->look st.b c=some k:=by
      intro c k hc;rw [cv] at hc;split at hc
      ·exact hc
      ·rw [hnone] at hc; cases hc
     exact ⟨h1.len,h1.tmps,fun c k hc=>h1.blks c k (lk c k hc),fun c d k k' id hc hd=>h1.disj c d k k' id (lk c k hc) (lk d k' hd),
      fun c hc=>h1.bound c (by simp only [List.length_append] at hc; omega),h1.below,h1.frm.sub (fun c k id hc hu=>⟨c,k,lk c k hc,hu,fun h=>h⟩),h1.defers⟩
    have hsz:ops.size=ops.size - oC E ops+(List.range (oC E ops)).countP (fun i=>!(Array.replicate ops.size false).getD i false):=by
     have:(List.range (oC E ops)).countP (fun i=>!(Array.replicate ops.size false).getD i false)=oC E ops:=by
      rw [List.countP_eq_length.2]
      ·simp
      ·intro i _;rw [hrep]
       rfl
     rw [this];omega
    have main:=EA (Q:=fun e a w=>e=.normal/\Q .normal a w) (n0:=n0) (β0:=β) hE hc.1 hc.2 (fun i o hi ho=>qv E ops i o hi (by simpa using ho)) hhl (fun c a w hq=>by cases hq.1) (Nat.le_of_ble_eq_true hc2.1.2) hr happ hask hn hk1 h.bound
     _ (Array.replicate ops.size false) (by simp) (fun i _=>hrep i) (fun j o hj hl=>by rw [hrep] at hl; cases hl) rfl h2 (fun j s hj _ _=>h.bound _ (Nat.le_add_right _ _)) (fun _ _=>rfl) (fun b k hb=>h1.blks b k hb)
     (fun β' st' a' w' hk' hs' hag hle=>⟨rfl,hK β' st' a' w' hk' hs' hag hle⟩)
    rw [← hsz] at main;exact main
   ·exact jS hE h hn hc (fun i o hi ho=>qv E ops i o hi ho) hk hK
  ·exact jS hE h hn hc (fun i o hi ho=>qv E ops i o hi ho) hk hK
 ·split at hk
  ·rename_i hc;split at hk
   ·rename_i r hr;split at hk
    ·rename_i hnd;split at hr
     ·rename_i hl;exact CF hE h hn (Nat.le_of_ble_eq_true hl) hr hnd hk hK
     ·cases hr
    ·exact oM hE h hn hc hk hK
   ·exact oM hE h hn hc hk hK
  ·exact hk.elim
end
end Go.Vs
namespace Go.Vs
open Go.RowKit
theorem qu:∀ {l:List Nat} {b j:Nat},idxOf l b=some j->l[j]? = some b:=by
 intro l;induction l with
 | nil=>intro b j h; simp [idxOf] at h
 | cons x l ih=>
  intro b j h;simp only [idxOf] at h;split at h
  ·rename_i e; cases h; simp [e]
  ·simp only [Option.map_eq_some_iff] at h;obtain ⟨k,hk,rfl⟩:=h;simpa using ih hk
theorem um:∀ {l:List Nat},je l=true->∀ {i j:Nat} {x:Nat},l[i]? = some x->l[j]? = some x->i=j:=by
 intro l;induction l with
 | nil=>intro _ i j x h; simp at h
 | cons y l ih=>
  intro h i j x hi hj;simp only [je,Bool.and_eq_true,Bool.not_eq_true'] at h;have hnot:∀ k:Nat,l[k]?≠some y:=by
   intro k hk;have:=List.mem_of_getElem? hk;have h1:=h.1;simp at h1;exact h1 this
  cases i with
  | zero=>
   cases j with
   | zero=>rfl
   | succ j=>simp at hi hj; subst hi; exact absurd hj (hnot j)
  | succ i=>
   cases j with
   | zero=>simp at hi hj; subst hj; exact absurd hi (hnot i)
   | succ j=>simp at hi hj; rw [ih h.2 hi hj]
theorem qb (b:OB):∀ (xs seen:List Nat),seen <+:tT b seen xs:=by
 intro xs;induction xs with
 | nil=>intro seen; exact List.prefix_refl _
 | cons x xs ih=>
  intro seen;unfold tT;simp only [List.foldl_cons];split
  ·exact ih seen
  ·exact List.IsPrefix.trans ⟨[x],rfl⟩ (ih (seen++[x]))
theorem wZ (b:OB):∀ (fuel i:Nat) (seen:List Nat),seen <+:pI b fuel i seen:=by
 intro fuel;induction fuel with
 | zero=>intro i seen; exact List.prefix_refl _
 | succ fuel ih=>
  intro i seen;simp only [pI];split
  ·exact List.prefix_refl _
  ·exact (qb b _ seen).trans (ih _ _)
theorem EX (n0:Nat) (cQ:Nat->Bool) (st:St) {j:Nat} (hj:j < n0):(vu n0 cQ st)[j]? = some j:=by
 have h:List.range n0 <+:vu n0 cQ st:=(qb _ _ _).trans (wZ _ _ _ _);obtain ⟨l,hl⟩:=h;rw [← hl,List.getElem?_append_left (by simpa using hj)]
 simp [hj]
section
variable {E:Env} {X:Ctx} {n0:Nat}
def nJ (β:cR) (order:List Nat):cR:=fun j=>match order[j]? with
 | some i=>β i
 | none=>none
theorem IK {order:List Nat} {cQ:Nat->Bool} {st:St} {j:Nat} {k':aq} (hj:look (xN order cQ st).b j=some k'):∃i k,order[j]? = some i/\look st.b i=some k/\k' = pP (idxOf order) k:=by
 rw [bJ] at hj;simp only [xN,List.getElem?_map,Option.map_eq_some_iff] at hj;obtain ⟨i,hi,k,hk,rfl⟩:=hj;exact ⟨i,k,hi,hk,rfl⟩
theorem Cz {β:cR} {st:St} {a:Act} {w:World} (h:Sat X β st a w) (cQ:Nat->Bool) {order:List Nat} (hnd:je order=true):Sat X (nJ β order) (xN order cQ st) a w:=by
 have hρ:∀ b b',idxOf order b=some b'->∀ r,β b=some r->(nJ β order) b' = some r:=by
  intro b b' hb r hr;simp only [nJ,qu hb];exact hr
 have lk:∀ j k',look (xN order cQ st).b j=some k'->∃i k,order[j]? = some i/\look st.b i=some k/\k' = pP (idxOf order) k:=by
  intro j k' hj;rw [bJ] at hj;simp only [xN,List.getElem?_map,Option.map_eq_some_iff] at hj;obtain ⟨i,hi,k,hk,rfl⟩:=hj;exact ⟨i,k,hi,hk,rfl⟩
 have huse:∀ {j i id},order[j]? = some i->Uses (nJ β order) j id->Uses β i id:=by
  intro j i id hi hu;exact hu.congr (by simp only [nJ,hi])
 have hown:∀ k,(pP (idxOf order) k).own=k.own:=by intro k; cases k <;> rfl
 have husek:∀ {j i k id},order[j]? = some i->afJ (nJ β order) j (pP (idxOf order) k) id->afJ β i k id:=by
  intro j i k id hi hu;refine ⟨huse hi hu.1,?_⟩;rcases hu.2 with h1 | ⟨ks,x,xs,h1⟩
  ·exact .inl (by rw [← hown]; exact h1)
  ·cases k <;> simp [pP] at h1
   exact .inr ⟨ks,x,xs,by rw [h1.1,h1.2]⟩
 refine ⟨?_,?_,?_,?_,?_,h.below,h.frm.sub (fun c k id hc hu=>?_),h.defers⟩
 ·simp [xN,mS,h.len]
 ·intro i v hv;rw [bJ] at hv;simp only [xN] at hv;obtain ⟨v0,hx,rfl⟩:=pE hv;obtain ⟨u,hu,hr⟩:=h.tmps i v0 (bJ.2 hx);exact ⟨u,hu,rC hρ hr⟩
 ·intro j k' hj;obtain ⟨i,k,hi,hk,rfl⟩:=lk j k' hj;have hb:=h.blks i k hk;have hβ:(nJ β order) j=β i:=by simp only [nJ,hi]
  cases k with
  | var t cells=>
   obtain ⟨id,cs,h1,h2,h3,h4⟩:=hb;obtain ⟨l1,r1⟩:=mg hρ (cs:=cells) (xs:=cs.toList) (by simpa using h4.1) (fun i c v hc hv=>h4.2.2 i c v hc (by simpa using hv))
   exact ⟨id,cs,hβ.trans h1,h2,h3,by simpa using l1,h4.2.1,fun i c v hc hv=>r1 i c v hc (by simpa using hv)⟩
  | ints t k xs=>
   obtain ⟨id,h1,h2⟩:=hb;exact ⟨id,hβ.trans h1,h2⟩
  | row e ks xs=>
   obtain ⟨A,n,c,h1,h2⟩:=hb;exact ⟨A,n,c,hβ.trans h1,h2⟩
  | ro ks xs=>
   obtain ⟨A,c,h1,h2⟩:=hb;exact ⟨A,c,hβ.trans h1,h2⟩
 ·intro b c k k' id hb hc ho' hu1 hu2;obtain ⟨i,k1,hi,hk1,rfl⟩:=lk b k hb;obtain ⟨i',k2,hi',hk2,rfl⟩:=lk c k' hc;have:=h.disj i i' k1 k2 id hk1 hk2 (by rw [← hown]; exact ho') (husek hi hu1) (husek hi' hu2)
  subst this;exact um hnd hi hi'
 ·intro b hb;simp only [xN,List.length_map] at hb;simp only [nJ,List.getElem?_eq_none hb]
 ·obtain ⟨i,k1,hi,hk1,rfl⟩:=lk c k hc;exact ⟨i,k1,hk1,husek hi hu,fun h0=>by rw [← hown]; exact h0⟩
theorem xa {β:cR} {st:St} {a:Act} {w:World} (h:Sat X β st a w) (cQ:Nat->Bool) (hn:n0<=st.b.length):
  ∃β',Sat X β' (gc n0 cQ st) a w/\(∀ b,b < n0->β' b=β b)/\n0<=(gc n0 cQ st).b.length:=by
 unfold gc;simp only;split
 ·rename_i hnd;generalize ho:vu n0 cQ st=order at *;have hlo:∀ j,j < n0->order[j]? = some j:=fun j hj=>by rw [← ho]; exact EX n0 cQ st hj
  refine ⟨nJ β order,Cz h cQ hnd,?_,?_⟩
  ·intro b hb;simp only [nJ,hlo b hb]
  ·simp only [xN,List.length_map];rcases Nat.eq_zero_or_pos n0 with h0 | h0
   ·omega
   ·have:=(List.getElem?_eq_some_iff.1 (hlo (n0 - 1) (by omega))).1
    omega
 ·exact ⟨β,h,fun _ _=>rfl,hn⟩
theorem Sat.put {β:cR} {st:St} {a:Act} {w:World} {l:Nat} {o:Obj} (h:Sat X β st a w) (hl:w.heap[l]? = some o) (ho:o.isCells=false) (hB:X.B<=l) (hF:¬ X.Fr l) (o':Obj)
  (hq:gh X (w.putObj l o') a.defers):Sat X β st a (w.putObj l o'):=by
 have hother:∀ i,i≠l->(w.putObj l o').heap[i]? = w.heap[i]?:=fun i hi=>World.putObj_heap_other hi
 have hsize:w.heap.size<=(w.putObj l o').heap.size:=(grownBy_putObj' w l o').size;have hbut:C5 w (w.putObj l o') l:=⟨rfl,rfl,rfl,hsize,fun i _ hi=>hother i hi⟩
 have hu:∀ b k,look st.b b=some k->¬ afJ β b k l:=fun b k hb hu=>by
  obtain ⟨o1,h1,h2⟩:=kC (h.blks b k hb) hu;rw [hl] at h1; cases h1; rw [ho] at h2; cases h2
 exact ⟨h.len,h.tmps,fun b k hb=>(h.blks b k hb).Yf hbut (hu b k hb),h.disj,h.bound,h.below.trans ⟨rfl,rfl,rfl,hsize,fun i hi=>hother i (by omega)⟩,
  ⟨Nat.le_trans h.frm.le hsize,fun id hid=>⟨Nat.lt_of_lt_of_le (h.frm.fr id hid).1 hsize,(hother id (by rintro rfl; exact hF hid)).trans (h.frm.fr id hid).2⟩,h.frm.fo,h.frm.apart⟩,hq⟩
theorem gh.put {X:Ctx} {w:World} {ds:List Deferred} {l:Nat} {r:Loop} (h:gh X w ds) (hl:w.heap[l]? = some (.loop r)) (o':Obj):gh X (w.putObj l o') ds:=
 h.Sy fun D hD=>(World.putObj_heap_other (by rintro rfl; rw [hl] at hD; cases hD)).trans hD
theorem A4 {P:Program} {ops:Array Oper} {Q:Exit->Act->World->Prop} {r n:Nat} (hQ:∀ a w,¬ Q .outgrown a w):∀ {l:List Oper} {a:Act} {w:World},(∀ o∈l,∀ c,o.op≠.defer c)->wpList P ops Q l a w->
  wpListIn (Fence.wide.inRound r) n P ops Q l a w:=by
 intro l;induction l with
 | nil=>intro a w _ h; exact h
 | cons o rest ih=>
  intro a w hd h;have ih':∀ a w,wpList P ops Q rest a w->wpListIn (Fence.wide.inRound r) n P ops Q rest a w:=fun a w h=>ih (fun o ho=>hd o (List.mem_cons_of_mem _ ho)) h
  unfold wpList at h;unfold wpListIn;split at h
  ·rename_i hw;rw [if_pos hw];rcases h with h | ⟨_,a0,w0,hq⟩
   ·refine ⟨fun _ _=>trivial,?_⟩
    rw [Oper.semAt_eq _ _ _ (hd o (List.mem_cons_self ..))];unfold Oper.wp at h;generalize (execOp a.eval o).run P w=res at h ⊢;cases res with
    | ok nx w'=>
     cases nx with
     | value v=>exact ih' _ _ h
     | skip=>exact ih' _ _ h
     | defer d=>exact ih' _ _ h
     | enter f args=>
      refine ⟨fun h=>(by cases h),?_⟩
      have h2:Calls P f args w' _:=h;refine CallsIn.mono (F:=Fence.wide) (callsIn_wide.2 h2) ?_;intro e w'' hr;cases e with
      | returned v=>exact ih' _ _ hr
      | panicked chain=>exact hr
      | outgrown=>exact hr
     | row rw args=>
      refine ⟨fun h=>(by cases h),?_⟩
      have h2:Rows P rw args w' _:=h;intro c cs _;obtain ⟨v,w'',hr,hs⟩:=h2 c cs;exact ⟨v,w'',ih' _ _ hr,stepsIn_wide.2 hs⟩
     | _=>exact h.elim
    | halt hh w'=>
     cases hh <;> first | exact h | exact h.elim
   ·exact (hQ a0 w0 hq).elim
  ·rename_i hw;rw [if_neg hw];exact ⟨fun _ _=>trivial,ih' _ _ h⟩
def Out.Tv:Out->Exit
 | .normal=>.normal
 | .exit id=>.exit id
 | .ret=>.ret
def lF (X:Ctx) (β:cR) (n0:Nat) (K:Out->St->Prop) (Q:Exit->Act->World->Prop):Prop:=
 ∀ o β' st' a' w',K o st'->Sat X β' st' a' w'->(∀ b,b < n0->β' b=β b)->n0<=st'.b.length->Q o.Tv a' w'
theorem lF.Ht {β β1:cR} {K:Out->St->Prop} {Q:Exit->Act->World->Prop} (h:lF X β n0 K Q) (ha:∀ b,b < n0->β1 b=β b):lF X β1 n0 K Q:=
 fun o β' st' a' w' hk hs hag hle=>h o β' st' a' w' hk hs (fun b hb=>(hag b hb).trans (ha b hb)) hle
theorem uv {c:Code} {cl:St->St} {f:St->(Out->St->Prop)->Prop}
  (hcl:∀ {β st a w},Sat X β st a w->n0<=st.b.length->∃β',Sat X β' (cl st) a w/\(∀ b,b < n0->β' b=β b)/\n0<=(cl st).b.length)
  (hf:∀ {β st a w} {K:Out->St->Prop} {Q:Exit->Act->World->Prop},Sat X β st a w->n0<=st.b.length->f st K->lF X β n0 K Q->c.wp E.P Q a w):
  ∀ (n:Nat) {β:cR} {st:St} {a:Act} {w:World} {K:Out->St->Prop} {Q:Exit->Act->World->Prop},Sat X β st a w->n0<=st.b.length->oh f cl n st K->lF X β n0 K Q->Code.rounds E.P c Q n a w:=by
 intro n;induction n with
 | zero=>intro β st a w K Q h hn hk hF; exact hk.elim
 | succ n ih=>
  intro β st a w K Q h hn hk hF;simp only [oh] at hk;rw [rounds_succ];refine hf h hn hk ?_;intro o β' st' a' w' hk' hs hag hle;cases o with
  | normal=>
   simp only at hk';obtain ⟨β'',hs'',hag'',hle''⟩:=hcl hs hle;exact ih hs'' hle'' hk' (hF.Ht (fun b hb=>(hag'' b hb).trans (hag b hb)))
  | exit id=>exact hF (.exit id) β' st' a' w' hk' hs hag hle
  | ret=>exact hF .ret β' st' a' w' hk' hs hag hle
theorem cT (kp:Nat):∀ (c:Code) (kp:Nat),(dP kp c).length=jf c
 | .seq x y,kp=>by simp [dP,jf,cT kp x,cT kp y]
 | .cond _ x y,kp=>by simp [dP,jf,cT kp x,cT kp y]
 | .block _ c,kp=>by simp [dP,jf,cT kp c]
 | .loop c,kp=>by simp [dP,jf,cT kp c]
 | .skip,kp=>rfl
 | .region ..,kp=>rfl
 | .exit ..,kp=>rfl
 | .ret,kp=>rfl
 | .rangeFunc ..,kp=>rfl
 | .scope ..,kp=>rfl
 | .label ..,kp=>rfl
 | .goto ..,kp=>rfl
 | .refuse ..,kp=>rfl
def jy (E:Env) (f:FuncId) (n0:Nat) (i:Nat) (l:List (Nat × Code)):Prop:=
 ∀ (j:Nat) p S,l[j]? = some p->E.Λ f (i+j)=some S->aG E f n0 (i+j) p S
theorem jy.left {f:FuncId} {i:Nat} {l m:List (Nat × Code)} (h:jy E f n0 i (l++m)):jy E f n0 i l:=fun j p S hj hS=>h j p S (by rw [List.getElem?_append_left (List.getElem?_eq_some_iff.1 hj).1]; exact hj) hS
theorem jy.right {f:FuncId} {i:Nat} {l m:List (Nat × Code)} (h:jy E f n0 i (l++m)):jy E f n0 (i+l.length) m:=fun j p S hj hS=>by
 rw [Nat.add_assoc] at hS ⊢;exact h (l.length+j) p S (by rw [List.getElem?_append_right (by omega)]; simpa using hj) hS
theorem jy.tail {f:FuncId} {i:Nat} {q:Nat × Code} {m:List (Nat × Code)} (h:jy E f n0 i (q :: m)):jy E f n0 (i+1) m:=fun j p S hj hS=>by
 rw [Nat.add_assoc,Nat.add_comm 1 j] at hS ⊢;exact h (j+1) p S (by simpa using hj) hS
theorem eU (hE:EnvOk E) {f:FuncId} {m r n:Nat}:∀ (c:Code) (kp:Nat) (i:Nat),cw c=true->∀ {X:Ctx} {β:cR} {st:St} {a:Act} {w:World} {K:Out->St->Prop} {Q:Exit->Act->World->Prop},
  (∀ a w,¬ Q .outgrown a w)->Sat X β st a w->n0<=st.b.length->exec E f m kp i c st K->lF X β n0 K Q->c.wpIn (Fence.wide.inRound r) n E.P Q a w
 | .skip,kp,i,_,X,β,st,a,w,K,Q,hQ,h,hn,hk,hF=>wpIn_skip (hF .normal β st a w hk h (fun _ _=>rfl) hn)
 | .region id ops draw,kp,i,hi,X,β,st,a,w,K,Q,hQ,h,hn,hk,hF=>by
  simp only [cw,Bool.and_eq_true,Bool.not_eq_true'] at hi;obtain ⟨rfl,hd⟩:=hi;simp only [exec] at hk;refine wpIn_region_list (A4 hQ ?_ (qa (n0:=n0) hE h hn (by simpa using hk) (fun β' st' a' w' hk' hs' hag hle=>hF .normal β' st' a' w' hk' hs' hag hle)))
  intro o ho c hc;have:=List.all_eq_true.1 hd o ho;rw [hc] at this;cases this
 | .seq x y,kp,i,hi,X,β,st,a,w,K,Q,hQ,h,hn,hk,hF=>by
  simp only [cw,Bool.and_eq_true] at hi;simp only [exec] at hk;refine wpIn_seq (eU hE x _ i hi.1 (fun a w h=>hQ a w h) h hn hk ?_)
  intro o β' st' a' w' hk' hs hag hle;cases o with
  | normal=>exact eU hE y kp _ hi.2 hQ hs hle hk' (hF.Ht hag)
  | exit id=>exact hF (.exit id) β' st' a' w' hk' hs hag hle
  | ret=>exact hF .ret β' st' a' w' hk' hs hag hle
 | .cond c x y,kp,i,hi,X,β,st,a,w,K,Q,hQ,h,hn,hk,hF=>by
  simp only [cw,Bool.and_eq_true] at hi;simp only [exec] at hk;split at hk
  ·rename_i b hb;have hc:=(bR h hb).eC;cases b with
   | true=>exact wpIn_cond_true hc (eU hE x kp i hi.1 hQ h hn hk hF)
   | false=>exact wpIn_cond_false hc (eU hE y kp _ hi.2 hQ h hn hk hF)
  ·exact hk.elim
 | .block id c,kp,i,hi,X,β,st,a,w,K,Q,hQ,h,hn,hk,hF=>by
  simp only [cw] at hi;simp only [exec] at hk;refine wpIn_block (eU hE c kp i hi (fun a w h=>hQ a w h) h hn hk ?_)
  intro o β' st' a' w' hk' hs hag hle;cases o with
  | normal=>exact hF .normal β' st' a' w' hk' hs hag hle
  | exit i=>
   simp only at hk';show Exit.inBlock id Q (.exit i) a' w';unfold Exit.inBlock;by_cases hi:i=id
   ·rw [if_pos hi] at hk';simp only [hi,if_true];exact hF .normal β' st' a' w' hk' hs hag hle
   ·rw [if_neg hi] at hk';simp only [hi,if_false];exact hF (.exit i) β' st' a' w' hk' hs hag hle
  | ret=>exact hF .ret β' st' a' w' hk' hs hag hle
 | .exit id,kp,i,_,X,β,st,a,w,K,Q,hQ,h,hn,hk,hF=>wpIn_exit (hF (.exit id) β st a w hk h (fun _ _=>rfl) hn)
 | .loop ..,kp,i,hi,X,β,st,a,w,K,Q,hQ,h,hn,hk,hF=>by simp [cw] at hi
 | .ret,kp,i,hi,X,β,st,a,w,K,Q,hQ,h,hn,hk,hF=>by simp [cw] at hi
 | .rangeFunc ..,kp,i,hi,X,β,st,a,w,K,Q,hQ,h,hn,hk,hF=>by simp [cw] at hi
 | .scope ..,kp,i,hi,X,β,st,a,w,K,Q,hQ,h,hn,hk,hF=>by simp [cw] at hi
 | .label ..,kp,i,hi,X,β,st,a,w,K,Q,hQ,h,hn,hk,hF=>by simp [cw] at hi
 | .goto ..,kp,i,hi,X,β,st,a,w,K,Q,hQ,h,hn,hk,hF=>by simp [cw] at hi
 | .refuse ..,kp,i,hi,X,β,st,a,w,K,Q,hQ,h,hn,hk,hF=>by simp [cw] at hi
theorem uO {st:St} {g:Operand} {r:Nat} {xs:L2} (h:AJ E st g=some (r,xs)):
  ∃f b ty,ev st g=some (.fn f [.ptr b 0])/\E.back f=true/\look st.b b=some (.var ty [.sl r])/\rows st r=some ([.i64],xs):=by
 unfold AJ at h;split at h
 ·rename_i f b hg;split at h
  ·rename_i hb;split at h
   ·rename_i ty r' hv;split at h
    ·rename_i xs' hr;cases h
     exact ⟨f,b,ty,hg,hb,hv,hr⟩
    ·cases h
   ·cases h
  ·cases h
 ·cases h
theorem UZ (t:List (Option IV)) (b b':OB) (g:Operand):ev { t,b } g=ev { t,b:=b' } g:=by cases g <;> rfl
theorem gh.lt {X:Ctx} {w:World} {ds:List Deferred} (h:gh X w ds):∀ d∈ds,∃D,d.target=.collected D/\D < w.heap.size:=by
 induction h with
 | nil=>intro d hd; cases hd
 | cons h1 h2 h3 h4 _ ih=>
  intro d hd;rcases List.mem_cons.1 hd with rfl | hd
  ·exact ⟨_,rfl,(Array.getElem?_eq_some_iff.1 h1).1⟩
  ·exact ih d hd
theorem qh {β:cR} {b:OB} {w:World} {bb r id:Nat} {ty:TypeId} (hB:di X β b w) (hv:look b bb=some (.var ty [.sl r])) (hid:β bb=some (.blk id)):
  X.B<=id/\∃A n c,w.cell? ⟨id,0,none⟩=some (.slice A n c)/\β r=some (.slc (.slice A n c)):=by
 obtain ⟨id',cs,k1,k2,k3,k4⟩:=hB.blks bb _ hv;rw [hid] at k1;cases k1
 have hs:0 < cs.size:=by have:=k4.1; simp at this; omega
 obtain ⟨A,n,c,e1,e2⟩:=(k4.2.2 0 _ _ rfl (Array.getElem?_eq_getElem hs)).gO;refine ⟨k2,A,n,c,?_,e2⟩;rw [← e1];have h5:=Array.getElem?_eq_getElem hs;simp [World.cell?,k3,h5]
theorem di.LL {β:cR} {b:OB} {w w':World} (h:di X β b w) (hk:ba w w'):di X β b w':=Sat.keeps h hk
theorem uU (hE:EnvOk E) {f:FuncId} {m kp i:Nat} {g:Operand} {ps:Array Tmp} {as c:Code} {β:cR} {st:St} {a:Act} {w:World} {K:Out->St->Prop} {Q:Exit->Act->World->Prop}
  (h:Sat X β st a w) (hn:n0<=st.b.length) (hk:exec E f m kp i (.rangeFunc g ps as c) st K) (hF:lF X β n0 K Q):(Code.rangeFunc g ps as c).wp E.P Q a w:=by
 simp only [exec] at hk;split at hk
 case h_2=>exact hk.elim
 rename_i r xs p q hb hps;split at hk
 case isFalse=>exact hk.elim
 rename_i hin;simp only [Bool.and_eq_true] at hin;have hps':ps = #[p,q]:=by have:=congrArg List.toArray hps; simpa using this
 obtain ⟨bf,bb,ty,hg,hbk,hvar,hrows⟩:=uO hb;obtain ⟨hcall,hback⟩:=hE.back bf hbk;obtain ⟨cs,eg,hl1,hr1⟩:=(bR h hg).oF;have hcs:0 < cs.size:=by simp at hl1; omega
 obtain ⟨id,ep,hid⟩:=(hr1 0 _ _ rfl (Array.getElem?_eq_getElem hcs)).gL;have hcs1:cs = #[.pointer (some ⟨id,0,none⟩)]:=by
  apply Array.ext
  ·simp at hl1 ⊢; omega
  ·intro j h1 h2;simp at h2;subst h2;exact ep
 obtain ⟨hBid,A,n,cp,hcell,hβr⟩:=qh h.Kf hvar hid;obtain ⟨A',n',c',e1,e2,e3,e4,_⟩:=ir h.blks hrows;rw [hβr] at e1;cases e1
 subst e2;have hbb:bb < st.b.length:=dc hvar;have hrl:r < st.b.length:=by
  rcases Nat.lt_or_ge r st.b.length with h0 | h0
  ·exact h0
  ·rw [h.bound r h0] at hβr; cases hβr
 have hnF:∀ j,w.heap.size<=j->¬ X.Fr j:=fun j hj hf=>by have:=(h.frm.fr j hf).1; omega
 refine (wpIn_wide (n:=0)).1 (wpIn_rangeFunc ?_);intro fn _;obtain ⟨rec,hrec⟩:∃rec:LoopState->Option Code->Loop,rec=fun st pe=>{ state:=st,pending:=pe,fn,tmps:=a.tmps,params:=ps,assign:=as,body:=c,defers:=w.heap.size }:=⟨_,rfl⟩
 obtain ⟨W1,hW1⟩:∃W1,(w.alloc (.deferred (some []))).alloc (.loop (rec .ready none))=W1:=⟨_,rfl⟩;have hkeep:ba w W1:=by rw [← hW1]; exact (ba.alloc w _).trans (ba.alloc _ _)
 have hsz:W1.heap.size=w.heap.size+2:=by rw [← hW1]; simp
 have hL1:W1.heap[w.heap.size+1]? = some (.loop (rec .ready none)):=by
  rw [← hW1]; have:=World.alloc_heap_new (w.alloc (.deferred (some []))) (.loop (rec .ready none)); rwa [World.size_alloc] at this
 have hK1:W1.heap[w.heap.size]? = some (.deferred (some [])):=by
  rw [← hW1]; exact (Below.heap_alloc _ _ _ (by simp)).trans (World.alloc_heap_new w _)
 have hBl:X.B<=w.heap.size+1:=Nat.le_trans h.le (Nat.le_succ _);refine ⟨w.heap.size+1,[{ target:=.collected w.heap.size,args:=#[] }],W1,{ target:=.fn (.func bf) cs,args:=#[.func (.yield (w.heap.size+1)) #[] #[]] },W1,bf,
  #[.func (.yield (w.heap.size+1)) #[] #[]]++cs,W1,?_,?_,fun _ _=>trivial,?_,fun h=>(by cases h),?_⟩
 ·rw [← hW1,hrec]; exact run_enterLoop_outer _ _ _ _ _
 ·simp only [resolve,eg];simp [go_sem]
 ·simp [invoke,go_sem,hcall]
 ·rw [hcs1];refine (hback (w.heap.size+1) ⟨id,0,none⟩ A xs.length cp
   (fun k W=>∃β' b',AI E g r (p,q) st.t (fun st' k=>exec E f m 0 i as st' fun o zj=>match o with
     | .normal=>exec E f m 0 i c zj k
     | _=>False) k b' (K .normal)/\di X β' b' W/\(∀ d,d < st.b.length->β' d=β d)/\st.b.length<=b'.length/\
    (∀ D:Nat,w.heap[D]? = some (.deferred (some []))->W.heap[D]? = some (.deferred (some [])))/\W.heap[w.heap.size+1]? = some (.loop (rec .ready none))/\W.heap[w.heap.size]? = some (.deferred (some [])))
   W1 (by omega) ?_ ?_ ?_).mono ?_
  ·exact (qh (di.LL h.Kf hkeep) hvar hid).2.elim fun A2 h2=>by
    obtain ⟨n2,c2,h3,h4⟩:=h2;rw [hβr] at h4;cases h4
    exact h3
  ·rintro k Wk hkn ⟨β',b',hgo,hB,hag,hle,hD,hL,hK⟩;simp only [AI] at hgo;split at hgo
   case h_2=>exact hgo.elim
   rename_i r' xs' hb';split at hgo
   case isFalse=>exact hgo.elim
   rename_i hcnd;simp only [Bool.and_eq_true] at hcnd;obtain rfl:r' = r:=Nat.eq_of_beq_eq_true hcnd.1;have hkx:k < xs'.length:=by have:=hcnd.2; simpa [Nat.blt_eq] using this
   obtain ⟨bf2,bb2,ty2,hg2,_,hvar2,hrows2⟩:=uO hb';rw [UZ st.t b' st.b g] at hg2;have hg3:ev { t:=st.t,b:=st.b } g=some (.fn bf [.ptr bb 0]):=hg;rw [hg3] at hg2;cases hg2
   have hidk:β' bb=some (.blk id):=(hag bb hbb).trans hid;have hβrk:β' r' = some (.slc (.slice A xs.length cp)):=(hag r' hrl).trans hβr;obtain ⟨_,A2,n2,c2,hc2,hr2⟩:=qh hB hvar2 hidk;rw [hβrk] at hr2;cases hr2
   obtain ⟨A3,n3,c3,g1,g2,g3,g4,g5,g6,g7,g8⟩:=ir (st:={ t:=st.t,b:=b' }) hB.blks hrows2;rw [hβrk] at g1;cases g1
   obtain ⟨gg,oo,hA,hcells⟩:=g7 (by omega)
   have hz:dt .i64 (rd xs' k 0):=by
    have hm:xs'.getD k []∈xs':=by rw [List.getD_eq_getElem?_getD,List.getElem?_eq_getElem hkx]; exact List.getElem_mem hkx
    exact g5 _ hm 0 (by simp)
   have hkk:dt .i64 (k:Int):=by
    have:k < maxLen:=by omega
    simp only [dt,IntKind.min,IntKind.max];simp only [maxLen] at this;constructor
    ·have:(0:Int)<=k:=Int.natCast_nonneg k;refine Int.le_trans ?_ this;decide
    ·have h9:(k:Int) < 9223372036854775807:=by omega
     refine Int.le_trans (Int.le_of_lt h9) ?_;decide
   refine ⟨hc2,gg,oo,rd xs' k 0,hA,?_,?_⟩
   ·have:=hcells k 0 hkx (by simp)
    simpa using this
   refine ⟨fn,(Array.zip ps #[.int .i64 (k:Int),.int .i64 (rd xs' k 0)]).foldl (fun t (p,v)=>t.setIfInBounds p v) a.tmps,as,c,?_,?_⟩
   ·have:=run_yield (P:=E.P) (args:=#[.int .i64 (k:Int),.int .i64 (rd xs' k 0)]) hL (by rw [hrec,hps']; rfl)
    rw [hrec] at this;exact this
   refine roundIn_of_wpIn trivial ?_;have hs0:Sat X β' { t:=st.t,b:=b' } { tmps:=a.tmps,defers:=[] } Wk:=di.to (st:={ t:=st.t,b:=b' }) hB h.len (fun j v hv=>by
    obtain ⟨u,hu,hr⟩:=h.tmps j v hv;exact ⟨u,hu,hr.mono (h.jo hag)⟩) .nil
   have hs1:=(hs0.aN (bP.int hkk) (some p)).aN (bP.int hz) (some q);have hs2:Sat (X.jj (rS Wk) Wk) β' _ _ Wk:=hs1.jj (fun _ h=>h) .nil
   have hact:({ tmps:=(Array.zip ps #[.int .i64 (k:Int),.int .i64 (rd xs' k 0)]).foldl (fun t (p,v)=>t.setIfInBounds p v) a.tmps,defers:=[] }:Act) =
     (Act.put { tmps:=a.tmps,defers:=[] } (some p) (.int .i64 (k:Int))).put (some q) (.int .i64 (rd xs' k 0)):=by
    rw [hps']; simp [Act.put]
   rw [hact];refine eU (n0:=b'.length) hE as 0 i hin.1 (fun a w h=>h) hs2 ?_ hgo ?_
   ·simp [St.aN]
   intro o β1 zj a1 W2 hk1 hs3 hag1 hle1;cases o with
   | exit _=>exact hk1.elim
   | ret=>exact hk1.elim
   | normal=>
   obtain ⟨hB2,hS2⟩:=hB.vK hs3.Kf;have hL2:W2.heap[w.heap.size+1]? = some (.loop (rec .ready none)):=(hS2 _ ⟨_,hL,rfl⟩).trans hL;have hx3:Sat X β1 zj a1 W2:=di.to hB2 hs3.len hs3.tmps (hs3.defers.ctx rfl fun D hD=>.inl hD)
   refine ⟨_,run_beginRound hL2 (by rw [hrec]),?_⟩
   have hx4:=hx3.put hL2 rfl hBl (hnF _ (Nat.le_succ _)) (.loop { rec .ready none with state:=.busy }) (hx3.defers.put hL2 _)
   have hsame:(W2.putObj (w.heap.size+1) (.loop { rec .ready none with state:=.busy })).heap[w.heap.size+1]? = some (.loop { rec .ready none with state:=.busy }):=
    World.putObj_heap_same (Array.getElem?_eq_some_iff.1 hL2).1
   have hs4:Sat (X.jj (rS Wk) (W2.putObj (w.heap.size+1) (.loop { rec .ready none with state:=.busy }))) β1 zj a1 _:=hx4.jj (fun id hid=>by
    by_cases e:id=w.heap.size+1
    ·subst e; exact ⟨_,hsame,rfl⟩
    ·obtain ⟨o,h1,h2⟩:=hid;exact ⟨o,(World.putObj_heap_other e).trans ((hS2 id ⟨o,h1,h2⟩).trans h1),h2⟩) ((hs3.defers.put hL2 _).ctx rfl fun D hD=>hD)
   refine eU (n0:=zj.b.length) hE c 0 i hin.2 (fun a w h=>h) hs4 (Nat.le_refl _) hk1 ?_
   intro o2 β2 N2 a2 W4 hk2 hs5 hag2 hle2;cases o2 with
   | exit _=>exact hk2.elim
   | ret=>exact hk2.elim
   | normal=>
   obtain ⟨hB4,hS4⟩:=hx4.Kf.vK hs5.Kf;have hL4:W4.heap[w.heap.size+1]? = some (.loop { rec .ready none with state:=.busy }):=(hS4 _ ⟨_,hL,rfl⟩).trans hsame
   have hend:=run_endRound (P:=E.P) none hL4;have hrr:({ ({ rec .ready none with state:=.busy }:Loop) with state:=if (none:Option Code).isNone then .ready else .done,pending:=none }:Loop)=rec .ready none:=by rw [hrec]; rfl
   rw [hrr] at hend;have hB5:di X β2 N2.b (W4.putObj (w.heap.size+1) (.loop (rec .ready none))):=Sat.put hB4 hL4 rfl hBl (hnF _ (Nat.le_succ _)) _ .nil;have hoth:∀ D:Nat,Wk.heap[D]? = some (.deferred (some []))->(W4.putObj (w.heap.size+1) (.loop (rec .ready none))).heap[D]? = some (.deferred (some [])):=fun D hDk=>by
    have hne:D≠w.heap.size+1:=by rintro rfl; rw [hL] at hDk; cases hDk
    rw [World.putObj_heap_other hne,hS4 D ⟨_,hDk,rfl⟩,World.putObj_heap_other hne,hS2 D ⟨_,hDk,rfl⟩];exact hDk
   refine ⟨_,_,hend,rfl,β2,N2.b,hk2,hB5,fun d hd=>?_,by omega,fun D hDw=>hoth D (hD D hDw),World.putObj_heap_same (Array.getElem?_eq_some_iff.1 hL4).1,hoth _ hK⟩
   rw [hag2 d (by omega),hag1 d (by omega),hag d hd]
  ·exact ⟨β,st.b,hk,di.LL h.Kf hkeep,fun _ _=>rfl,Nat.le_refl _,fun D hDw=>hkeep.deferred D _ hDw rfl,hL1,hK1⟩
  ·rintro e W2 ⟨⟨v,rfl⟩,β',b',hgo,hB,hag,hle,hD,hL,hK⟩;have hend:=run_endLoop (P:=E.P) hL (by rw [hrec]; simp)
   have hpe:(rec .ready none).pending=none:=by rw [hrec]
   generalize Obj.loop { rec .ready none with state:=.exhausted } = o3 at hend
   rw [hpe] at hend;refine ⟨none,_,hend,?_⟩;have hB3:di X β' b' (W2.putObj (w.heap.size+1) o3):=Sat.put hB hL rfl hBl (hnF _ (Nat.le_succ _)) _ .nil;have hoth:∀ D:Nat,W2.heap[D]? = some (.deferred (some []))->(W2.putObj (w.heap.size+1) o3).heap[D]? = some (.deferred (some [])):=fun D hDk=>by
    have hne:D≠w.heap.size+1:=by rintro rfl; rw [hL] at hDk; cases hDk
    rw [World.putObj_heap_other hne];exact hDk
   refine hF .normal β' { t:=st.t,b:=b' } _ _ hgo (di.to (st:={ t:=st.t,b:=b' }) hB3 h.len (fun j v hv=>?_) (.cons (hoth _ hK) h.le (hnF _ (Nat.le_refl _)) (fun d hd he=>?_) (h.defers.Sy fun D hDw=>hoth D (hD D hDw)))) (fun d hd=>hag d (by omega)) (by simp only; omega)
   ·obtain ⟨u,hu,hr⟩:=h.tmps j v hv;exact ⟨u,hu,hr.mono (h.jo hag)⟩
   ·obtain ⟨D,e1,e2⟩:=h.defers.lt d hd;rw [e1] at he;cases he
    omega
theorem fW (hE:EnvOk E) {f:FuncId}:∀ (c:Code) (kp:Nat) (i:Nat),jy E f n0 i (dP kp c)->∀ {β:cR} {st:St} {a:Act} {w:World} {K:Out->St->Prop} {Q:Exit->Act->World->Prop},Sat X β st a w->n0<=st.b.length->
  exec E f n0 kp i c st K->lF X β n0 K Q->c.wp E.P Q a w
 | .skip,kp,i,hL,β,st,a,w,K,Q,h,hn,hk,hF=>wp_skip (hF .normal β st a w hk h (fun _ _=>rfl) hn)
 | .region id ops draw,kp,i,hL,β,st,a,w,K,Q,h,hn,hk,hF=>by
  cases draw with
  | true=>
   simp only [exec,if_true] at hk;exact xh (n0:=n0) hE h hn hk (fun β' st' a' w' hk' hs' hag hle=>hF .normal β' st' a' w' hk' hs' hag hle)
  | false=>
   simp only [exec] at hk;exact wp_region_list (qa (n0:=n0) hE h hn (by simpa using hk) (fun β' st' a' w' hk' hs' hag hle=>hF .normal β' st' a' w' hk' hs' hag hle))
 | .seq x y,kp,i,hL,β,st,a,w,K,Q,h,hn,hk,hF=>by
  simp only [exec] at hk;simp only [dP] at hL;refine wp_seq (fW hE x _ i hL.left h hn hk ?_);intro o β' st' a' w' hk' hs hag hle;cases o with
  | normal=>exact fW hE y kp _ (by have:=hL.right; rw [cT kp] at this; exact this) hs hle hk' (hF.Ht hag)
  | exit id=>exact hF (.exit id) β' st' a' w' hk' hs hag hle
  | ret=>exact hF .ret β' st' a' w' hk' hs hag hle
 | .cond c x y,kp,i,hL,β,st,a,w,K,Q,h,hn,hk,hF=>by
  simp only [exec] at hk;simp only [dP] at hL;split at hk
  ·rename_i b hb;have hc:=(bR h hb).eC;cases b with
   | true=>exact wp_cond_true hc (fW hE x kp i hL.left h hn hk hF)
   | false=>exact wp_cond_false hc (fW hE y kp _ (by have:=hL.right; rw [cT kp] at this; exact this) h hn hk hF)
  ·exact hk.elim
 | .block id c,kp,i,hL,β,st,a,w,K,Q,h,hn,hk,hF=>by
  simp only [exec] at hk;simp only [dP] at hL;refine wp_block (fW hE c kp i hL h hn hk ?_);intro o β' st' a' w' hk' hs hag hle;cases o with
  | normal=>exact hF .normal β' st' a' w' hk' hs hag hle
  | exit i=>
   simp only at hk';show Exit.inBlock id Q (.exit i) a' w';unfold Exit.inBlock;by_cases hi:i=id
   ·rw [if_pos hi] at hk';simp only [hi,if_true];exact hF .normal β' st' a' w' hk' hs hag hle
   ·rw [if_neg hi] at hk';simp only [hi,if_false];exact hF (.exit i) β' st' a' w' hk' hs hag hle
  | ret=>exact hF .ret β' st' a' w' hk' hs hag hle
 | .loop c,kp,i,hL,β,st,a,w,K,Q,h,hn,hk,hF=>by
  simp only [exec] at hk;simp only [dP] at hL;obtain ⟨β',hs',hag',hle'⟩:=xa h (jh (Nat.lor kp (gen c))) hn;split at hk
  ·rename_i S hS;obtain ⟨n,hk⟩:=hL 0 _ S rfl hS _ _ hk;refine wp_loop_rounds n (uv (X:=X) (n0:=n0) (fun hs hl=>xa hs _ hl) (fun hs hl hk hF=>fW hE c _ _ hL.tail hs hl hk hF) n hs' hle' hk ?_)
   intro o β2 N2 a2 w2 hk2 hs2 hag2 hle2;obtain ⟨β3,hs3,hag3,hle3⟩:=xa hs2 (agF E.P f kp o) hle2;exact hF o β3 _ a2 w2 hk2 hs3 (fun b hb=>(hag3 b hb).trans ((hag2 b hb).trans (hag' b hb))) hle3
  ·refine wp_loop_rounds 8 (uv (X:=X) (n0:=n0) (fun hs hl=>xa hs _ hl) (fun hs hl hk hF=>fW hE c _ _ hL.tail hs hl hk hF) 8 hs' hle' hk (hF.Ht hag'))
 | .exit id,kp,i,hL,β,st,a,w,K,Q,h,hn,hk,hF=>wp_exit (hF (.exit id) β st a w hk h (fun _ _=>rfl) hn)
 | .ret,kp,i,hL,β,st,a,w,K,Q,h,hn,hk,hF=>wp_ret (hF .ret β st a w hk h (fun _ _=>rfl) hn)
 | .rangeFunc ..,kp,i,hL,β,st,a,w,K,Q,h,hn,hk,hF=>uU hE h hn hk hF
 | .scope ..,kp,i,hL,β,st,a,w,K,Q,h,hn,hk,hF=>by simp [exec] at hk
 | .label ..,kp,i,hL,β,st,a,w,K,Q,h,hn,hk,hF=>by simp [exec] at hk
 | .goto ..,kp,i,hL,β,st,a,w,K,Q,h,hn,hk,hF=>by simp [exec] at hk
 | .refuse ..,kp,i,hL,β,st,a,w,K,Q,h,hn,hk,hF=>by simp [exec] at hk
def round (E:Env) (f:FuncId) (n0 i:Nat) (p:Nat × Code) (st:St) (k:Out->St->Prop):Prop:=
 exec E f n0 (Nat.lor p.1 (gen p.2)) (i+1) p.2 st fun o st'=>match o with
  | .normal=>k .normal (gc n0 (jh (Nat.lor p.1 (gen p.2))) st')
  | o=>k o (gc n0 (agF E.P f p.1 o) st')
theorem aC {α:Type} {E:Env} {f:FuncId} {n0 i:Nat} {p:Nat × Code} {K:Out->St->Prop} (S:α->St) (I:α->Prop) (m:α->Nat)
  (h:∀ a,I a->∀ k:Out->St->Prop,(∀ a',I a'->m a' < m a->k .normal (S a'))->(∀ o st,o≠.normal->K o st->k o st)->round E f n0 i p (S a) k) {a:α} (ha:I a):
  ∃n,oh (exec E f n0 (Nat.lor p.1 (gen p.2)) (i+1) p.2) (gc n0 (jh (Nat.lor p.1 (gen p.2)))) n (S a) fun o st'=>K o (gc n0 (agF E.P f p.1 o) st'):=by
 have key:∀ n a,I a->m a < n->oh (exec E f n0 (Nat.lor p.1 (gen p.2)) (i+1) p.2) (gc n0 (jh (Nat.lor p.1 (gen p.2)))) n (S a) fun o st'=>K o (gc n0 (agF E.P f p.1 o) st'):=by
  intro n;induction n with
  | zero=>intro a _ h0; exact absurd h0 (Nat.not_lt_zero _)
  | succ n ih=>
   intro a ha hm;simp only [oh];have:=h a ha (fun o st=>match o with
    | .normal=>oh (exec E f n0 (Nat.lor p.1 (gen p.2)) (i+1) p.2) (gc n0 (jh (Nat.lor p.1 (gen p.2)))) n st fun o st'=>K o (gc n0 (agF E.P f p.1 o) st')
    | o=>K o st) (fun a' ha' hlt=>ih a' ha' (by omega)) (fun o st ho hk=>by cases o with
     | normal=>exact absurd rfl ho
     | _=>exact hk)
   unfold round at this;refine cast ?_ this
   congr 1
   funext o st'
   cases o <;> rfl
 exact ⟨m a+1,key _ a ha (Nat.lt_succ_self _)⟩
theorem al {p:Prop} [Decidable p] {A B:Prop}:br (decide p) A B↔(p->A)/\(¬ p->B):=by
 by_cases h:p <;> simp [br,h]
def bp (p:Prop):Bool:=@decide p (Classical.propDecidable p)
theorem xq {p:Prop}:bp p=true↔p:=by simp [bp]
theorem pJ {p:Prop} (h:p):bp p=true:=xq.2 h
theorem oT {p:Prop} (h:¬ p):bp p=false:=by simp [bp,h]
theorem Hl {p:Prop} {A B:Prop}:br (bp p) A B↔(p->A)/\(¬ p->B):=by
 by_cases h:p <;> simp [br,bp,h]
theorem aL {b:Bool} {A B:Prop}:br b A B↔(b=true->A)/\(b=false->B):=by
 cases b <;> simp [br]
def St.i (st:St) (n:Nat):Int:=match look st.t n with
 | some (.int _ x)=>x
 | _=>0
def St.a (st:St) (n:Nat):L1:=match look st.b n with
 | some (.ints _ _ xs)=>xs
 | _=>[]
def St.c (st:St) (b j:Nat):Int:=match look st.b b with
 | some (.var _ cs)=>match lg cs j with
  | some (.int _ x)=>x
  | _=>0
 | _=>0
theorem nm {A:Prop} {α:Type} {K:α->Prop} {e:α} (h:A=K e):A = ∀ t,t=e->K t:=h.trans (propext ⟨fun h t ht=>ht ▸ h,fun h=>h e rfl⟩)
theorem jn (x:Int):x / 18446744073709551616*18446744073709551616+x % 18446744073709551616=x:=by omega
theorem LN (n:Int):n / 6277101735386680763835789423207666416102355444464034512896*6277101735386680763835789423207666416102355444464034512896+n / 340282366920938463463374607431768211456 % 18446744073709551616*340282366920938463463374607431768211456+n / 18446744073709551616 % 18446744073709551616*18446744073709551616+n % 18446744073709551616=n:=by omega
theorem nj {A:Prop} {K:Int->Prop} {a:Int} (h:A=K (a / 18446744073709551616*18446744073709551616+a % 18446744073709551616)):A = ∀ t,t=a->K t:=by rw [h,jn]; exact propext ⟨fun h t ht=>ht ▸ h,fun h=>h a rfl⟩
theorem pr {A:Prop} {K:Int->Prop} {a:Int} (h:A=K (a / 6277101735386680763835789423207666416102355444464034512896*6277101735386680763835789423207666416102355444464034512896+a / 340282366920938463463374607431768211456 % 18446744073709551616*340282366920938463463374607431768211456+a / 18446744073709551616 % 18446744073709551616*18446744073709551616+a % 18446744073709551616)):A = ∀ t,t=a->K t:=by rw [h,LN]; exact propext ⟨fun h t ht=>ht ▸ h,fun h=>h a rfl⟩
theorem nbc {A:Prop} {K:Bool->Prop} {a c d e:Int} (hd:0<=d/\d < 18446744073709551616/\e=c*18446744073709551616+d) (h:A=K (decide (a / 18446744073709551616=c) && (decide (a % 18446744073709551616=d) && true))):A = ∀ t,t=decide (a=e)->K t:=by
 have e:(decide (a / 18446744073709551616=c) && (decide (a % 18446744073709551616=d) && true))=decide (a=e):=by rw [Bool.eq_iff_iff]; simp; omega
 rw [h,e]; exact propext ⟨fun h t ht=>ht ▸ h,fun h=>h _ rfl⟩
def T (n:Nat) (l:List (Nat × IV)):List (Option IV):=l.foldl (fun t p=>t.set p.1 (some p.2)) (List.replicate n none)
def ae (args:List IV) (i j:Nat):Int:=match lg args i with
 | some (.agg cs)=>match lg cs j with
  | some (.int _ x)=>x
  | _=>0
 | some (.int _ x)=>x
 | _=>0
def qV (args:List IV) (i j:Nat):Bool:=match lg args i with
 | some (.agg cs)=>match lg cs j with
  | some (.bool x)=>x
  | _=>false
 | some (.bool x)=>x
 | _=>false
def NM (args:List IV) (i:Nat):FuncId:=match lg args i with
 | some (.fn f _)=>f
 | _=>0
def bl (b:OB) (n j:Nat):Int:=match look b n with
 | some (.var _ cs)=>match lg cs j with
  | some (.int _ x)=>x
  | _=>0
 | _=>0
def dh (b:OB) (n:Nat):L2:=match look b n with
 | some (.row _ _ xs)=>xs
 | some (.ro _ xs)=>xs
 | _=>[]
def St.x (st:St) (n:Nat):L2:=match look st.b n with
 | some (.row _ _ xs)=>xs
 | some (.ro _ xs)=>xs
 | _=>[]
end
end Go.Vs
namespace Go.Vs
open Go.RowKit
section
variable {P:Program} {X:Ctx} {β:cR} {st:St} {a:Act} {w:World}
def sY (tmps:Array Value):ResultVar->Sem Value
 | .tmp t=>pure (tmps.getD t undef)
 | .cell a t=>do loadVar t (← asAddr (tmps.getD a undef))
theorem nB (h:Sat X β st a w) {r:ResultVar} {v:IV} (hr:pc P st r=some v):∃u,(sY a.tmps r).run P w=.ok u w/\bP β v u:=by
 cases r with
 | tmp i=>
  obtain ⟨u,hu,hrep⟩:=jg h hr;exact ⟨u,by simp [sY,hu],hrep⟩
 | cell i t=>
  simp only [pc] at hr;split at hr
  ·rename_i b hb;obtain ⟨u,hu,hrep⟩:=jg h hb;split at hr
   ·rename_i v' hl;cases hr
    obtain ⟨u',hu',hrun⟩:=rZ h.blks hrep hl (by simp)
    obtain ⟨id,rfl,hβ⟩:=hrep.gL;refine ⟨u',?_,hu'⟩;simp only [sY,hu,asAddr,pure_bind];simpa [Instr.loadAt,Instr.sureAddr] using hrun
   ·cases hr
  ·cases hr
theorem uT (h:Sat X β st a w):∀ {rs:List ResultVar} {vs:List IV},agj P st rs=some vs->∃us,(rs.mapM (sY a.tmps)).run P w=.ok us w/\vs.length=us.length/\∀ (i:Nat) c v,vs[i]? = some c->us[i]? = some v->bP β c v:=by
 intro rs;induction rs with
 | nil=>intro vs hv; simp [agj] at hv; subst hv; exact ⟨[],by simp,rfl,by simp⟩
 | cons r rs ih=>
  intro vs hv;simp only [agj] at hv;split at hv
  ·rename_i v vs' h1 h2;cases hv
   obtain ⟨u,hu,hr⟩:=nB h h1;obtain ⟨us,hus,hl,hrs⟩:=ih h2;refine ⟨u :: us,by simp [List.mapM_cons,hu,hus],by simp [hl],?_⟩
   intro i c x hc hx;cases i with
   | zero=>simp at hc hx; subst hc; subst hx; exact hr
   | succ i=>simp at hc hx; exact hrs i c x hc hx
  ·cases hv
theorem Et (fn:Func) (tmps:Array Value):results fn tmps=(do let vs ← fn.results.mapM (sY tmps); pure (if h:vs.size=1 then vs[0] else .tuple vs)):=by
 unfold results
 congr 1
theorem agy (h:Sat X β st a w) {fn:Func} {v:IV} (hv:agM P fn st=some v):∃u,(results fn a.tmps).run P w=.ok u w/\bP β v u:=by
 rw [Et];obtain ⟨rs,hrs⟩:∃rs:List ResultVar,fn.results=rs.toArray:=⟨fn.results.toList,by simp⟩
 unfold agM at hv;rw [hrs] at hv ⊢;simp only [List.mapM_toArray];split at hv
 ·rename_i r hr;simp only at hr;subst hr;obtain ⟨u,hu,hrep⟩:=nB h hv;exact ⟨u,by simp [hu],hrep⟩
 ·rename_i hne;simp only [Option.map_eq_some_iff] at hv;obtain ⟨vs,hvs,rfl⟩:=hv;obtain ⟨us,hus,hl,hrep⟩:=uT h hvs;have hlen:∀ {rs:List ResultVar} {vs:List IV},agj P st rs=some vs->rs.length=vs.length:=by
   intro rs;induction rs with
   | nil=>intro vs h; simp [agj] at h; subst h; rfl
   | cons r rs ih=>
    intro vs h;simp only [agj] at h;split at h
    ·rename_i h2; cases h; simp [ih h2]
    ·cases h
  have h1:us.length≠1:=by
   intro h1;have:=hlen hvs;rw [hl,h1] at this;match rs,this with
   | [r],_=>exact hne r (by simp)
  refine ⟨.tuple us.toArray,?_,.tup (by simp [hl]) (fun i c x hc hx=>hrep i c x hc (by simpa using hx))⟩
  have hus':(List.mapM (sY a.tmps) rs).run P w=.ok us w:=hus;simp [hus',h1]
def cf (P:Program) (g:FuncId) (G:eG):Prop:=
 ∀ args b K,G args b K->∀ X β w (vs:Array Value),di X β b w->args.length=vs.size->(∀ (i:Nat) c v,args[i]? = some c->vs[i]? = some v->bP β c v)->
  Calls P g vs w fun e w'=>∃v u β' b',e=.returned u/\K v b'/\bP β' v u/\di X β' b' w'/\(∀ c,c < b.length->β' c=β c)/\b.length<=b'.length
theorem wX:∀ {l:List Nat} {b:Nat},idxOf l b=none->∀ j:Nat,l[j]?≠some b
 | [],b,_,j=>by simp
 | x :: l,b,h,j=>by
  simp only [idxOf] at h;split at h
  ·cases h
  ·rename_i hne;cases j with
   | zero=>simpa using hne
   | succ j=>
    rw [List.getElem?_cons_succ];refine wX ?_ j;cases h2:idxOf l b with
    | none=>rfl
    | some _=>rw [h2] at h; cases h
theorem gi.same {X:Ctx} {β:cR} {w w':World} {b:Nat} {k:aq} (h:gi X β w b k) (hs:∀ id,afJ β b k id->w'.heap[id]? = w.heap[id]?):gi X β w' b k:=by
 cases k with
 | var t cells=>
  obtain ⟨id',cs,h1,h2,h3,h4⟩:=h;exact ⟨id',cs,h1,h2,(hs id' ⟨.inl h1,.inl rfl⟩).trans h3,h4⟩
 | ints t k xs=>
  obtain ⟨id',h1,h2,h3,h4⟩:=h;exact ⟨id',h1,h2,(hs id' ⟨.inl h1,.inl rfl⟩).trans h3,h4⟩
 | row e ks xs=>
  obtain ⟨A,n,c,h1,h2,h3⟩:=h;refine ⟨A,n,c,h1,⟨h2.1,?_⟩,h3⟩;rcases h2.2 with hn | ⟨g,cap,cur,e1,hb,hg,rest⟩
  ·exact .inl hn
  ·refine .inr ⟨g,cap,cur,e1,hb,?_,rest⟩;rw [hs g ⟨.inr ⟨⟨g,0,none⟩,n,c,by rw [h1,e1]; cases e1; rfl,rfl⟩,.inl rfl⟩]
   exact hg
 | ro ks xs=>
  obtain ⟨A,c,h1,h2,h3,h4⟩:=h;refine ⟨A,c,h1,⟨h2.1,h2.2.1,fun h0=>?_⟩,h3,h4⟩
  obtain ⟨g,o,e,hc⟩:=h2.2.2 h0;subst e;refine ⟨g,o,rfl,fun j u hj=>?_⟩
  refine (World.cell?_of_block (hs g ⟨.inr ⟨_,_,_,h1,rfl⟩,.inr ?_⟩)).trans (hc j u hj);cases xs with
  | nil=>simp at h0
  | cons x xs=>exact ⟨ks,x,xs,rfl⟩
theorem IM {P : Program} {g : FuncId} {G : eG} (hG : cf P g G) : cf P g (qz G) := by
  intro args b K hk X β w vs hS hlen hrep
  unfold qz at hk
  generalize dC b args = order at hk
  split at hk
  rotate_left
  · exact hk.elim
  rename_i hc
  rw [Bool.and_eq_true] at hc
  obtain ⟨hnd, hlt0⟩ := hc
  have hlt : ∀ j i : Nat, order[j]? = some i → i < b.length := by
    intro j i hj
    have := (List.all_eq_true.1 hlt0) i (List.mem_of_getElem? hj)
    exact fD.1 this
  let inO : Nat → Prop := fun i => ∃ j : Nat, order[j]? = some i
  let X' : Ctx := { w0 := X.w0, B := X.B, A0 := X.A0, Fr := fun id => X.Fr id ∨ ∃ i k, ¬ inO i ∧ look b i = some k ∧ afJ β i k id,
                    Fo := fun id => X.Fo id ∨ ∃ i k, ¬ inO i ∧ look b i = some k ∧ k.own = true ∧ afJ β i k id, F0 := w }
  have h0 := Cz hS (fun _ => false) hnd
  have hown : ∀ {f : Nat → Option Nat} (k : aq), (pP f k).own = k.own := by intro f k; cases k <;> rfl
  have hro : ∀ {f : Nat → Option Nat} {k : aq}, (∃ ks x xs, pP f k = .ro ks (x :: xs)) → ∃ ks x xs, k = .ro ks (x :: xs) := by
    rintro f k ⟨ks, x, xs, e⟩
    cases k <;> simp [pP] at e
    exact ⟨ks, x, xs, by rw [e.1, e.2]⟩
  have husek : ∀ {j i : Nat} {k : aq} {id : Nat}, order[j]? = some i → afJ (nJ β order) j (pP (idxOf order) k) id → afJ β i k id := by
    intro j i k id hi hu
    refine ⟨hu.1.congr (by simp only [nJ, hi]), ?_⟩
    rcases hu.2 with h1 | h1
    · exact .inl (by rw [← hown]; exact h1)
    · exact .inr (hro h1)
  have hS' : di X' (nJ β order) (order.map fun i => (look b i).map (pP (idxOf order))) w := by
    refine ⟨rfl, fun i v hv => by simp [look_nil] at hv, h0.blks, h0.disj, h0.bound, h0.below, ⟨h0.frm.le, ?_, ?_, ?_⟩, .nil⟩
    · rintro id (hf | ⟨i, k, _, hk1, hu⟩)
      · exact ⟨(hS.frm.fr id hf).1, rfl⟩
      · exact ⟨oY (hS.blks i k hk1) hu, rfl⟩
    · rintro id (hf | ⟨i, k, hn, hk1, _, hu⟩)
      · exact .inl (hS.frm.fo id hf)
      · exact .inr ⟨i, k, hn, hk1, hu⟩
    · intro c k' id hc hu
      obtain ⟨i, k, hi, hk1, rfl⟩ := IK (st := ⟨[], b⟩) (cQ := fun _ => false) hc
      have hu' := husek hi hu
      have ha := hS.frm.apart i k id hk1 hu'
      refine ⟨?_, fun ho => ?_⟩
      · rintro (hf | ⟨i2, k2, hn, hk2, ho2, hu2⟩)
        · exact ha.1 hf
        · have := hS.disj i2 i k2 k id hk2 hk1 ho2 hu2 hu'
          subst this
          exact hn ⟨c, hi⟩
      · rw [hown] at ho
        rintro (hf | ⟨i2, k2, hn, hk2, hu2⟩)
        · exact ha.2 ho hf
        · have := hS.disj i i2 k k2 id hk1 hk2 ho hu' hu2
          subst this
          exact hn ⟨c, hi⟩
  have hρ : ∀ b0 b', idxOf order b0 = some b' → ∀ r, β b0 = some r → (nJ β order) b' = some r := by
    intro b0 b' hb r hr
    simp only [nJ, qu hb]
    exact hr
  have hcall := hG _ _ _ hk X' (nJ β order) w vs hS' (by simpa using hlen) (by
    intro i c v hc hv
    simp only [List.getElem?_map, Option.map_eq_some_iff] at hc
    obtain ⟨c0, hc0, rfl⟩ := hc
    exact rC hρ (hrep i c0 v hc0 hv))
  refine hcall.mono ?_
  rintro e w' ⟨v, u, β1, b1, rfl, hK, hr, hB, hag, hle⟩
  simp only [List.length_map] at hag hle
  let β2 : cR := fun c => if c < b.length then β c else β1 (order.length + (c - b.length))
  have hβ2 : ∀ {c}, c < b.length → β2 c = β c := fun h => by simp only [β2, if_pos h]
  have hback : ∀ {j c : Nat}, gb order b.length j = some c → β2 c = β1 j ∧ ((∃ i : Nat, order[j]? = some i ∧ c = i) ∨ (order.length ≤ j ∧ c = b.length + (j - order.length))) := by
    intro j c hj
    unfold gb at hj
    rw [pq] at hj
    split at hj
    · rename_i i hi
      cases hj
      have hjl := (List.getElem?_eq_some_iff.1 hi).1
      refine ⟨?_, .inl ⟨_, hi, rfl⟩⟩
      rw [hβ2 (hlt j _ hi), hag j hjl]
      simp only [nJ, hi]
    · rename_i hi
      cases hj
      have hjl : order.length ≤ j := by
        rcases Nat.lt_or_ge j order.length with h1 | h1
        · simp [h1] at hi
        · exact h1
      refine ⟨?_, .inr ⟨hjl, rfl⟩⟩
      simp only [β2]
      rw [if_neg (by omega)]
      congr 1
      omega
  have hinj : ∀ {j j' c : Nat}, gb order b.length j = some c → gb order b.length j' = some c → j = j' := by
    intro j j' c h1 h2
    rcases (hback h1).2 with ⟨i, hi, rfl⟩ | ⟨h3, rfl⟩ <;> rcases (hback h2).2 with ⟨i', hi', e'⟩ | ⟨h3', e'⟩
    · subst e'; exact um hnd hi hi'
    · have := hlt _ _ hi; omega
    · have := hlt _ _ hi'; omega
    · omega
  have hρ2 : ∀ j c, gb order b.length j = some c → ∀ r, β1 j = some r → β2 c = some r := fun j c hj r hr => by rw [(hback hj).1]; exact hr
  have hplen : (js b order b1).length = b.length + (b1.length - order.length) := by simp [js]
  have lk : ∀ c k, look (js b order b1) c = some k → (c < b.length ∧ ¬ inO c ∧ look b c = some k) ∨ ∃ j k1, gb order b.length j = some c ∧ look b1 j = some k1 ∧ k = pP (gb order b.length) k1 := by
    intro c k hc
    unfold js at hc
    rw [cv] at hc
    simp only [List.length_map, List.length_range] at hc
    split at hc
    · rename_i hcl
      rw [bJ] at hc
      simp only [List.getElem?_map, List.getElem?_range hcl, Option.map_some, Option.some.injEq] at hc
      split at hc
      · rename_i j hj
        simp only [Option.map_eq_some_iff] at hc
        obtain ⟨k1, hk1, rfl⟩ := hc
        refine .inr ⟨j, k1, ?_, hk1, rfl⟩
        unfold gb
        rw [pq, qu hj]
      · rename_i hn
        exact .inl ⟨hcl, fun ⟨j, hj⟩ => wX hn j hj, hc⟩
    · rename_i hcl
      rw [bJ] at hc
      simp only [List.getElem?_map, List.getElem?_drop, Option.map_eq_some_iff] at hc
      obtain ⟨x, hx, k1, rfl, rfl⟩ := hc
      refine .inr ⟨order.length + (c - b.length), k1, ?_, bJ.2 hx, rfl⟩
      unfold gb
      rw [pq, List.getElem?_eq_none (by omega)]
      simp only [Option.some.injEq]
      omega
  have husek1 : ∀ {j c : Nat} {k1 : aq} {id : Nat}, gb order b.length j = some c → afJ β2 c (pP (gb order b.length) k1) id → afJ β1 j k1 id := by
    intro j c k1 id hj hu
    refine ⟨hu.1.congr (hback hj).1, ?_⟩
    rcases hu.2 with h1 | h1
    · exact .inl (by rw [← hown]; exact h1)
    · exact .inr (hro h1)
  have huse0 : ∀ {c : Nat} {k : aq} {id : Nat}, c < b.length → afJ β2 c k id → afJ β c k id := fun hcl hu => ⟨hu.1.congr (hβ2 hcl), hu.2⟩
  refine ⟨_, u, β2, _, rfl, hK, rC hρ2 hr, ⟨rfl, fun i v hv => by simp [look_nil] at hv, ?_, ?_, ?_, hB.below, ⟨hB.frm.le, ?_, hS.frm.fo, ?_⟩, .nil⟩, fun c hc => hβ2 hc, by rw [hplen]; omega⟩
  · intro c k hc
    rcases lk c k hc with ⟨hcl, hn, hk1⟩ | ⟨j, k1, hj, hk1, rfl⟩
    · have h1 := (hS.blks c k hk1).same (w' := w') (fun id hu => (hB.frm.fr id (.inr ⟨c, k, hn, hk1, hu⟩)).2)
      refine h1.mono ?_
      intro c0 r hr0
      rcases Nat.lt_or_ge c0 b.length with h2 | h2
      · rw [hβ2 h2]; exact hr0
      · rw [hS.bound c0 h2] at hr0; cases hr0
    · have h1 := hB.blks j k1 hk1
      have hβ := (hback hj).1
      cases k1 with
      | var t cells =>
        obtain ⟨id, cs, h1, h2, h3, h4⟩ := h1
        obtain ⟨l1, r1⟩ := mg hρ2 (cs := cells) (xs := cs.toList) (by simpa using h4.1) (fun i c v hc hv => h4.2.2 i c v hc (by simpa using hv))
        exact ⟨id, cs, hβ.trans h1, h2, h3, by simpa using l1, h4.2.1, fun i c v hc hv => r1 i c v hc (by simpa using hv)⟩
      | ints t k xs =>
        obtain ⟨id, h1, h2⟩ := h1
        exact ⟨id, hβ.trans h1, h2⟩
      | row e ks xs =>
        obtain ⟨A, n, c, h1, h2⟩ := h1
        exact ⟨A, n, c, hβ.trans h1, h2⟩
      | ro ks xs =>
        obtain ⟨A, c, h1, h2⟩ := h1
        exact ⟨A, c, hβ.trans h1, h2⟩
  · intro c d k k' id hc hd ho hu1 hu2
    rcases lk c k hc with ⟨hcl, hn, hk1⟩ | ⟨j, k1, hj, hk1, rfl⟩ <;> rcases lk d k' hd with ⟨hdl, hn', hk1'⟩ | ⟨j', k1', hj', hk1', rfl⟩
    · exact hS.disj c d k k' id hk1 hk1' ho (huse0 hcl hu1) (huse0 hdl hu2)
    · exact absurd (.inr ⟨c, k, hn, hk1, ho, huse0 hcl hu1⟩) (hB.frm.apart j' k1' id hk1' (husek1 hj' hu2)).1
    · exact absurd (.inr ⟨d, k', hn', hk1', huse0 hdl hu2⟩) ((hB.frm.apart j k1 id hk1 (husek1 hj hu1)).2 (by rw [← hown]; exact ho))
    · have := hB.disj j j' k1 k1' id hk1 hk1' (by rw [← hown]; exact ho) (husek1 hj hu1) (husek1 hj' hu2)
      subst this
      rw [hj] at hj'
      exact Option.some.inj hj'
  · intro c hc
    rw [hplen] at hc
    simp only [β2]
    rw [if_neg (by omega)]
    exact hB.bound _ (show b1.length ≤ _ by omega)
  · intro id hf
    have h1 := hB.frm.fr id (.inl hf)
    exact ⟨h1.1, h1.2.trans (hS.frm.fr id hf).2⟩
  · intro c k id hc hu
    rcases lk c k hc with ⟨hcl, hn, hk1⟩ | ⟨j, k1, hj, hk1, rfl⟩
    · exact hS.frm.apart c k id hk1 (huse0 hcl hu)
    · have h1 := hB.frm.apart j k1 id hk1 (husek1 hj hu)
      exact ⟨fun hf => h1.1 (.inl hf), fun ho hf => h1.2 (by rw [← hown]; exact ho) (.inl hf)⟩
theorem lL {P:Program} {X:Ctx} {w:World}:∀ (ts:List TypeId) (as:List IV) (b:OB) {β:cR} {vs:List Value},di X β b w->as.length=vs.length->(∀ (i:Nat) c v,as[i]? = some c->vs[i]? = some v->bP β c v)->
  ∃β',di X β' (dN P ts as b).2 w/\(dN P ts as b).1.length=vs.length/\(∀ (i:Nat) c v,(dN P ts as b).1[i]? = some c->vs[i]? = some v->bP β' c v)/\(∀ c,c < b.length->β' c=β c)/\b.length<=(dN P ts as b).2.length
 | [],as,b,β,vs,hS,hl,hr=>⟨β,hS,hl,hr,fun _ _=>rfl,Nat.le_refl _⟩
 | t :: ts,[],b,β,vs,hS,hl,hr=>⟨β,hS,hl,hr,fun _ _=>rfl,Nat.le_refl _⟩
 | t :: ts,a :: as,b,β,[],hS,hl,hr=>by simp at hl
 | t :: ts,a :: as,b,β,v0 :: vs,hS,hl,hr=>by
  have hl':as.length=vs.length:=by simpa using hl
  have hr':∀ (i:Nat) c v,as[i]? = some c->vs[i]? = some v->bP β c v:=fun i c v hc hv=>hr (i+1) c v (by simpa using hc) (by simpa using hv)
  have h0:=hr 0 a v0 rfl rfl;have plain:∃β',di X β' (dN P ts as b).2 w/\(a :: (dN P ts as b).1).length=(v0 :: vs).length/\(∀ (i:Nat) c v,(a :: (dN P ts as b).1)[i]? = some c->(v0 :: vs)[i]? = some v->bP β' c v)/\(∀ c,c < b.length->β' c=β c)/\b.length<=(dN P ts as b).2.length:=by
   obtain ⟨β',k1,k2,k3,k4,k5⟩:=lL (P:=P) ts as b hS hl' hr';refine ⟨β',k1,by simp [k2],?_,k4,k5⟩
   intro i c v hc hv;cases i with
   | zero=>simp at hc hv; subst hc; subst hv; exact h0.mono (Sat.jo hS k4)
   | succ i=>exact k3 i c v (by simpa using hc) (by simpa using hv)
  cases a with
  | nils=>
   simp only [dN];split
   ·rename_i e ks he hk;obtain ⟨_,_,_,_,_,_,hpos,_⟩:=gP (by rw [he] at hk; simpa using hk:kinds P e=some ks)
    have hS2:di X (ext β b.length (.slc (.slice none 0 0))) (b++[some (.row e ks [])]) w:=Sat.tS (st:=⟨[],b⟩) hS e ks hpos;have hm:=gJ (r:=.slc (.slice none 0 0)) (hS.bound b.length (Nat.le_refl _));obtain ⟨β',k1,k2,k3,k4,k5⟩:=lL (P:=P) ts as (b++[some (.row e ks [])]) hS2 hl' (fun i c v hc hv=>(hr' i c v hc hv).mono hm)
    simp only [List.length_append,List.length_cons,List.length_nil] at k4 k5;refine ⟨β',k1,by simp [k2],?_,fun c hc=>(k4 c (by omega)).trans (dL _ _ _ c hc),by simp only; omega⟩
    intro i c v hc hv;cases i with
    | zero=>
     simp at hc hv;subst hc; subst hv;rw [h0.gI];exact .sl (by rw [k4 b.length (by omega)]; exact cC _ _ _)
    | succ i=>exact k3 i c v (by simpa using hc) (by simpa using hv)
   ·exact plain
  | _=>simpa only [dN] using plain
theorem IA {P:Program} {g:FuncId} {F:eG} (hF:cf P g F):cf P g (lifted P g F):=by
 intro args b K hk X β w vs hS hlen hrep;unfold lifted at hk;split at hk
 ·exact hF args b K hk X β w vs hS hlen hrep
 ·simp only at hk;obtain ⟨β',k1,k2,k3,k4,k5⟩:=lL (P:=P) (BY P g) args b (vs:=vs.toList) hS (by simpa using hlen) (fun i c v hc hv=>hrep i c v hc (by simpa using hv))
  refine (hF _ _ _ hk X β' w vs k1 (by simpa using k2) (fun i c v hc hv=>k3 i c v hc (by simpa using hv))).mono ?_
  rintro e w' ⟨v,u,β1,b1,rfl,hK,hr,hB,hag,hle⟩;exact ⟨v,u,β1,b1,rfl,hK,hr,hB,fun c hc=>(hag c (by omega)).trans (k4 c hc),by omega⟩
theorem xD {b b1:OB} {order:List Nat} {i:Nat} (hi:i < b.length) (h:idxOf order i=none):look (js b order b1) i=look b i:=by
 unfold js;rw [cv,if_pos (by simpa using hi),iw]
 simp only [List.getElem?_map,List.getElem?_range hi,Option.map_some,Option.getD_some];rw [h]
theorem Co {P:Program} {g:FuncId} {G:eG} {args:List IV} {b:OB} {K R:IV->OB->Prop} (hnn:yg args=true)
  (hR:∀ v b',(∀ i,i < b.length->idxOf (dC b args) i=none->look b' i=look b i)->R v b') (hk:lifted P g (qz G) args b K):lifted P g (qz G) args b fun v b'=>K v b'/\R v b':=by
 unfold lifted at hk ⊢;rw [if_pos hnn] at hk ⊢;unfold qz at hk ⊢;split at hk
 ·rename_i hc;rw [if_pos hc];have e:(fun (v:IV) (b1:OB)=>K (BC (gb (dC b args) b.length) v) (js b (dC b args) b1)/\R (BC (gb (dC b args) b.length) v) (js b (dC b args) b1))=fun v b1=>K (BC (gb (dC b args) b.length) v) (js b (dC b args) b1):=by
   funext v b1
   exact propext ⟨fun h=>h.1,fun h=>⟨h,hR _ _ fun i hi hx=>xD hi hx⟩⟩
  rw [e];exact hk
 ·exact hk.elim
structure KnowOk (P:Program) (N:Know) (d:Nat):Prop where
 mixed:P.follows .mixedOrders=true
 ctr:∀ g sp,N.Γ g=some sp->aa P g sp
 loops:∀ d',d' < d->∀ f i S n0,N.Λ f i=some S->aG (ai P N d') f n0 i (lp P f i) S
 funs:∀ g G,N.Τ g=some G->cf P g G
 back:∀ f,N.back f=true->lY P f
theorem Sat.shut {X:Ctx} {β:cR} {st:St} {a:Act} {w:World} {D:Nat} {ds:List Deferred} (h:Sat X β st a w) (hD:w.heap[D]? = some (.deferred (some []))) (hB:X.B<=D) (hF:¬ X.Fr D)
  (hn:∀ d∈ds,d.target≠.collected D) (hq:gh X w ds):Sat X β st { a with defers:=ds } (w.putObj D (.deferred none)):=by
 have hother:∀ i,i≠D->(w.putObj D (.deferred none)).heap[i]? = w.heap[i]?:=fun i hi=>World.putObj_heap_other hi
 have hsize:w.heap.size<=(w.putObj D (.deferred none)).heap.size:=(grownBy_putObj' w D (.deferred none)).size;have hbut:C5 w (w.putObj D (.deferred none)) D:=⟨rfl,rfl,rfl,hsize,fun i _ hi=>hother i hi⟩
 have hu:∀ b k,look st.b b=some k->¬ afJ β b k D:=fun b k hb hu=>by
  obtain ⟨o,h1,h2⟩:=kC (h.blks b k hb) hu;rw [hD] at h1; cases h1; cases h2
 refine ⟨h.len,h.tmps,fun b k hb=>(h.blks b k hb).Yf hbut (hu b k hb),h.disj,h.bound,h.below.trans ⟨rfl,rfl,rfl,hsize,fun i hi=>hother i (by omega)⟩,
  ⟨Nat.le_trans h.frm.le hsize,fun id hid=>⟨Nat.lt_of_lt_of_le (h.frm.fr id hid).1 hsize,(hother id (by rintro rfl; exact hF hid)).trans (h.frm.fr id hid).2⟩,h.frm.fo,h.frm.apart⟩,?_⟩
 show gh X _ ds;clear hbut hu h;induction hq with
 | nil=>exact .nil
 | cons h1 h2 h3 h4 _ ih=>
  refine .cons ((hother _ ?_).trans h1) h2 h3 h4 (ih fun d hd=>hn d (List.mem_cons_of_mem _ hd))
  rintro rfl;exact hn _ (List.mem_cons_self ..) rfl
theorem mQ {P:Program} {fn:Func} {X:Ctx} {β:cR} {st:St} {R:Ending->World->Prop}:∀ {ds:List Deferred} {tmps:Array Value} {w:World},Sat X β st { tmps,defers:=ds } w->
  (∀ w',Sat X β st { tmps,defers:=[] } w'->∃v,(results fn tmps).run P w' = .ok v w'/\R (.returned v) w')->LeavesInM Fence.wide 0 P fn tmps R ds .returning w
 | [],tmps,w,hs,h=>h w hs
 | d :: ds,tmps,w,hs,h=>by
  have hq:=hs.defers;cases hq with
  | cons h1 h2 h3 h4 h5=>exact ⟨by simp,.inl ⟨_,_,rfl,run_takeDeferred h1,mQ (hs.shut h1 h2 h3 h4 h5) h⟩⟩
theorem CM {P:Program} {f:FuncId} {fn:Func} {c:Code} {args:Array Value} {w:World} {R:Ending->World->Prop} (hf:P.funcs[f]? = some fn) (hb:fn.body=some c)
  (h:c.wp P (bodyPostM Fence.wide 0 P fn R) { tmps:=args++Array.replicate (fn.ntmps - args.size) undef,defers:=[] } w):Calls P f args w R:=
 callsIn_wide.1 (callsIn_of_wp_marks (n:=0) hf hb trivial (wpIn_wide.2 h))
theorem pa {P:Program} {N:Know} (hm:P.follows .mixedOrders=true) (hΓ:∀ g sp,N.Γ g=some sp->aa P g sp) (hT:∀ g G,N.Τ g=some G->cf P g G) (hK:∀ f,N.back f=true->lY P f):∀ d,
  (∀ d',d' < d->∀ f i S n0,N.Λ f i=some S->aG (ai P N d') f n0 i (lp P f i) S)->∀ g,cf P g (bQ P N d g):=by
 intro d;induction d with
 | zero=>intro _ g args b K hk; exact hk.elim
 | succ d ih0=>
  intro hΛ;have ih1:=ih0 fun d' hd=>hΛ d' (by omega)
  have ih:EnvOk (ai P N d):=by
   refine ⟨hm,hΓ,fun g args b K hk=>?_,hK,fun g args b K R hf hnn hR hk=>?_⟩
   ·simp only [ai] at hk;split at hk
    ·rename_i G hG;exact IA (IM (hT g G hG)) args b K hk
    ·exact ih1 g args b K hk
   ·simp only [ai] at hf hk ⊢;split at hk
    ·rename_i G hG;exact Co hnn hR hk
    ·rename_i hG;rw [hG] at hf;cases hf
  intro g args b K hk X β w vs hB hlen hrep;simp only [bQ,body] at hk;split at hk
  ·exact hk.elim
  ·rename_i fn hfn;split at hk
   ·exact hk.elim
   ·rename_i c hc;refine CM hfn hc (fW (n0:=b.length) (X:=X) ih c (vh fn) 0 ?_ (β:=β) ?_ (Nat.le_refl _) hk ?_)
    ·intro j p S hj hS;have:=hΛ d (by omega) g (0+j) S b.length hS
     have e:lp P g (0+j)=p:=by simp [lp,hfn,hc,List.getD,hj]
     rw [e] at this;exact this
    ·refine di.to hB (by simp [hlen]) ?_ .nil
     intro i v hv;rw [bJ] at hv;by_cases hi:i < args.length
     ·rw [List.getElem?_append_left (by simpa using hi)] at hv
      simp only [List.getElem?_map,Option.map_eq_some_iff,Option.some.injEq] at hv;obtain ⟨x,hx,rfl⟩:=hv;have hiv:i < vs.size:=by omega
      exact ⟨vs[i],by rw [Array.getElem?_append_left hiv]; simp [hiv],hrep i x _ hx (by simp [hiv])⟩
     ·rw [List.getElem?_append_right (by simpa using hi)] at hv
      rw [List.getElem?_replicate] at hv;split at hv <;> simp at hv
    ·intro o β' st' a' w' hk' hs hag hle;cases o with
     | exit id=>exact hk'.elim
     | normal=>
      simp only at hk';split at hk'
      ·rename_i v hv;refine mQ hs fun w2 hs2=>?_
       obtain ⟨u,hu,hr⟩:=agy hs2 hv;exact ⟨u,hu,v,u,β',st'.b,rfl,hk',hr,hs2.Kf,hag,hle⟩
      ·exact hk'.elim
     | ret=>
      simp only at hk';split at hk'
      ·rename_i v hv;refine mQ hs fun w2 hs2=>?_
       obtain ⟨u,hu,hr⟩:=agy hs2 hv;exact ⟨u,hu,v,u,β',st'.b,rfl,hk',hr,hs2.Kf,hag,hle⟩
      ·exact hk'.elim
theorem cL {N:Know} (d:Nat) (hN:KnowOk P N d) {f:FuncId} {G:eG} (h:∀ args b K,G args b K->bQ P N d f args b fun v b1=>ld b.length v b1 K):cf P f G:=by
 intro args b K hk X β w vs hS hlen hrep;refine (pa hN.mixed hN.ctr hN.funs hN.back d hN.loops f args b _ (h args b K hk) X β w vs hS hlen hrep).mono ?_;rintro e w' ⟨v,u,β1,b1,rfl,hK,hr,hB,hag,hle⟩;have hs:Sat X β1 { t:=[some v],b:=b1 } { tmps:=#[u],defers:=[] } w':=di.to (st:={ t:=[some v],b:=b1 }) hB rfl (by
  intro i v' hv;cases i with
  | zero=>rw [bX] at hv; cases hv; exact ⟨u,rfl,hr⟩
  | succ i=>rw [bY,look_nil] at hv; cases hv) .nil
 obtain ⟨β',h1,h2,h3⟩:=xa hs (fun _=>true) hle
 unfold ld at hK;split at hK
 ·rename_i v' hv';obtain ⟨u',hu',hr'⟩:=h1.tmps 0 v' hv';simp at hu';subst hu';exact ⟨v',u,β',_,rfl,hK,hr',h1.Kf,fun c hc=>(h2 c hc).trans (hag c hc),h3⟩
 ·exact hK.elim
def nI (β:cR) (acc:List (Nat × aq)):cR:=fun j=>match acc[j]? with
 | some (i,_)=>β i
 | none=>none
structure sH (b:List (Option aq)) (acc:List (Nat × aq)):Prop where
 at_:∀ p∈acc,look b p.1=some p.2/\p.2.isSlice=true
 apart:∀ (j j':Nat) p p',acc[j]? = some p->acc[j']? = some p'->p.1=p'.1->p.2.own=true->j=j'
theorem yQ {acc acc':List (Nat × aq)} (h:acc <+:acc'):∀ b r,nI β acc b=some r->nI β acc' b=some r:=by
 obtain ⟨l,rfl⟩:=h;intro b r hb;unfold nI at *;cases hq:acc[b]? with
 | none=>rw [hq] at hb; cases hb
 | some p=>
  have hlt:=(List.getElem?_eq_some_iff.1 hq).1;rw [List.getElem?_append_left hlt,hq];rw [hq] at hb;exact hb
theorem sH.add {b:OB} {acc:List (Nat × aq)} (h:sH b acc) {i:Nat} {k:aq} (hk:look b i=some k) (hs:k.isSlice=true) (hn:k.own=true->∀ p∈acc,p.1≠i):sH b (acc++[(i,k)]):=by
 constructor
 ·intro p hp;rcases List.mem_append.1 hp with hp | hp
  ·exact h.at_ p hp
  ·simp at hp; subst hp; exact ⟨hk,hs⟩
 ·intro j j' p p' hj hj' he ho;rw [List.getElem?_append] at hj hj';split at hj <;> split at hj'
  ·exact h.apart j j' p p' hj hj' he ho
  ·rename_i h1 h2;have hlt:=(List.getElem?_eq_some_iff.1 hj').1;have e0:j' - acc.length=0:=by simp at hlt; omega
   rw [e0] at hj';simp at hj';subst hj';have hm:=List.mem_of_getElem? hj;have:=(h.at_ p hm).1;simp only at he;rw [he,hk] at this;cases this
   exact absurd he (hn ho p hm)
  ·rename_i h1 h2;have hlt:=(List.getElem?_eq_some_iff.1 hj).1;have e0:j - acc.length=0:=by simp at hlt; omega
   rw [e0] at hj;simp at hj;subst hj;exact absurd he.symm (hn ho p' (List.mem_of_getElem? hj'))
  ·have hlt:=(List.getElem?_eq_some_iff.1 hj).1;have hlt':=(List.getElem?_eq_some_iff.1 hj').1;simp at hlt hlt';omega
theorem wA {b:OB} {c c':IV} {acc acc':List (Nat × aq)} {u:Value} (hr:bP β c u) (h:Pf b c acc=some (c',acc')) (ho:sH b acc):
  acc <+:acc'/\bP (nI β acc') c' u/\sH b acc':=by
 have hslice:∀ {i:Nat} {k:aq},bP β (.sl i) u->bP (nI β (acc++[(i,k)])) (.sl acc.length) u:=by
  intro i k hr;obtain ⟨A,n,cp,rfl,hβ⟩:=hr.gO;refine .sl ?_;simp [nI,hβ]
 unfold Pf at h;split at h
 ·cases h; exact ⟨List.prefix_refl _,by rw [hr.aS.1]; exact .int hr.aS.2,ho⟩
 ·cases h; exact ⟨List.prefix_refl _,by rw [hr.eC]; exact .bool,ho⟩
 ·rename_i i;split at h
  ·rename_i e ks xs hk;split at h
   ·cases h
   ·rename_i hn;cases h
    refine ⟨⟨_,rfl⟩,hslice hr,ho.add hk rfl (fun _ p hp=>?_)⟩
    intro he;apply hn;rw [List.any_eq_true];exact ⟨p,hp,by simp [he]⟩
  ·rename_i ks xs hk;cases h
   exact ⟨⟨_,rfl⟩,hslice hr,ho.add hk rfl (fun h0=>by cases h0)⟩
  ·cases h
 ·cases h
theorem Eu {b:OB}:∀ {cs cs':List IV} {acc acc':List (Nat × aq)} {us:List Value},cs.length=us.length->(∀ (i:Nat) c v,cs[i]? = some c->us[i]? = some v->bP β c v)->
  KK b cs acc=some (cs',acc')->sH b acc->
  acc <+:acc'/\cs'.length=us.length/\(∀ (i:Nat) c v,cs'[i]? = some c->us[i]? = some v->bP (nI β acc') c v)/\sH b acc':=by
 intro cs;induction cs with
 | nil=>
  intro cs' acc acc' us hl hr h ho;simp [KK] at h; obtain ⟨rfl,rfl⟩:=h; exact ⟨List.prefix_refl _,hl,by simp,ho⟩
 | cons c cs ih=>
  intro cs' acc acc' us hl hr h ho;cases us with
  | nil=>simp at hl
  | cons u us=>
   simp only [KK] at h;split at h
   ·rename_i c1 acc1 h1;split at h
    ·rename_i cs1 acc2 h2;cases h
     obtain ⟨p1,r1,o1⟩:=wA (hr 0 c u rfl rfl) h1 ho;obtain ⟨p2,l2,r2,o2⟩:=ih (by simpa using hl) (fun i c v hc hv=>hr (i+1) c v (by simpa using hc) (by simpa using hv)) h2 o1
     refine ⟨p1.trans p2,by simp [l2],?_,o2⟩
     intro i c' v hc hv;cases i with
     | zero=>simp at hc hv; subst hc; subst hv; exact r1.mono (yQ p2)
     | succ i=>simp at hc hv; exact r2 i c' v hc hv
    ·cases h
   ·cases h
theorem agN {b:OB} {c c':IV} {acc acc':List (Nat × aq)} {u:Value} (hr:bP β c u) (h:j0 b c acc=some (c',acc')) (ho:sH b acc):
  acc <+:acc'/\bP (nI β acc') c' u/\sH b acc':=by
 unfold j0 at h;split at h
 ·rename_i cs;split at h
  ·rename_i cs1 acc1 h1;cases h
   obtain ⟨xs,rfl,hx⟩:=hr.iT;obtain ⟨p1,l1,r1,o1⟩:=Eu (us:=xs.toList) (by simpa using hx.1) (fun i c v hc hv=>hx.2.2 i c v hc (by simpa using hv)) h1 ho
   exact ⟨p1,.agg (by simpa using l1) hx.2.1 (fun i c v hc hv=>r1 i c v hc (by simpa using hv)),o1⟩
  ·cases h
 ·exact wA hr h ho
theorem BA {b:OB}:∀ {cs cs':List IV} {acc acc':List (Nat × aq)} {us:List Value},cs.length=us.length->(∀ (i:Nat) c v,cs[i]? = some c->us[i]? = some v->bP β c v)->
  BB b cs acc=some (cs',acc')->sH b acc->
  acc <+:acc'/\cs'.length=us.length/\(∀ (i:Nat) c v,cs'[i]? = some c->us[i]? = some v->bP (nI β acc') c v)/\sH b acc':=by
 intro cs;induction cs with
 | nil=>
  intro cs' acc acc' us hl hr h ho;simp [BB] at h; obtain ⟨rfl,rfl⟩:=h; exact ⟨List.prefix_refl _,hl,by simp,ho⟩
 | cons c cs ih=>
  intro cs' acc acc' us hl hr h ho;cases us with
  | nil=>simp at hl
  | cons u us=>
   simp only [BB] at h;split at h
   ·rename_i c1 acc1 h1;split at h
    ·rename_i cs1 acc2 h2;cases h
     obtain ⟨p1,r1,o1⟩:=agN (hr 0 c u rfl rfl) h1 ho;obtain ⟨p2,l2,r2,o2⟩:=ih (by simpa using hl) (fun i c v hc hv=>hr (i+1) c v (by simpa using hc) (by simpa using hv)) h2 o1
     refine ⟨p1.trans p2,by simp [l2],?_,o2⟩
     intro i c' v hc hv;cases i with
     | zero=>simp at hc hv; subst hc; subst hv; exact r1.mono (yQ p2)
     | succ i=>simp at hc hv; exact r2 i c' v hc hv
    ·cases h
   ·cases h
theorem di.res {b:OB} {acc:List (Nat × aq)} (h:di X β b w) (ho:sH b acc):di X (nI β acc) ((acc.map (·.2)).map some) w:=by
 have lk:∀ {j k},look ((acc.map (·.2)).map some) j=some k->∃i,acc[j]? = some (i,k):=by
  intro j k hj;rw [bJ] at hj;simp only [List.getElem?_map,Option.map_eq_some_iff,List.map_map] at hj;obtain ⟨⟨i,x⟩,hx,hxk⟩:=hj;simp at hxk;subst hxk;exact ⟨i,hx⟩
 refine ⟨rfl,fun i v hv=>by simp [look_nil,bX,bY] at hv,?_,?_,?_,h.below,h.frm.sub (fun c k id hc hu=>?_),.nil⟩
 ·intro j k hj;obtain ⟨i,hi⟩:=lk hj;obtain ⟨h1,h2⟩:=ho.at_ _ (List.mem_of_getElem? hi);have hb:=h.blks i k h1;have hβ:nI β acc j=β i:=by simp [nI,hi]
  cases k with
  | row e ks xs=>
   obtain ⟨A,n,c,k1,k2⟩:=hb;exact ⟨A,n,c,hβ.trans k1,k2⟩
  | ro ks xs=>
   obtain ⟨A,c,k1,k2⟩:=hb;exact ⟨A,c,hβ.trans k1,k2⟩
  | _=>simp [aq.isSlice] at h2
 ·intro j j' k k' id hj hj' hown hu hu';obtain ⟨i,hi⟩:=lk hj;obtain ⟨i',hi'⟩:=lk hj';obtain ⟨h1,_⟩:=ho.at_ _ (List.mem_of_getElem? hi);obtain ⟨h1',_⟩:=ho.at_ _ (List.mem_of_getElem? hi');have e:=h.disj i i' k k' id h1 h1' hown ⟨hu.1.congr (by simp [nI,hi]),hu.2⟩ ⟨hu'.1.congr (by simp [nI,hi']),hu'.2⟩
  exact ho.apart j j' _ _ hi hi' e hown
 ·intro j hj;simp only [List.length_map] at hj;simp [nI,hj]
 ·obtain ⟨i,hi⟩:=lk hc;exact ⟨i,k,(ho.at_ _ (List.mem_of_getElem? hi)).1,⟨hu.1.congr (by simp [nI,hi]),hu.2⟩,fun h=>h⟩
theorem nZ {b:OB} {v v':IV} {bs:List aq} {u:Value} (h:di X β b w) (hr:bP β v u) (hv:KJ b v=some (v',bs)):
  ∃β',bP β' v' u/\di X β' (bs.map some) w/\bs.all aq.isSlice=true:=by
 have h0:sH b []:=⟨by simp,by simp⟩
 have hfin:∀ {acc:List (Nat × aq)},sH b acc->(acc.map (·.2)).all aq.isSlice=true:=by
  intro acc ho;rw [List.all_eq_true];intro k hk;obtain ⟨p,hp,rfl⟩:=List.mem_map.1 hk;exact (ho.at_ p hp).2
 unfold KJ at hv;split at hv
 ·rename_i vs;simp only [Option.map_eq_some_iff,Prod.mk.injEq] at hv;obtain ⟨⟨vs',acc⟩,hvs,rfl,rfl⟩:=hv;obtain ⟨xs,rfl,hl,hx⟩:=hr.oZ;obtain ⟨_,l1,r1,o1⟩:=BA (us:=xs.toList) (by simpa using hl) (fun i c v hc hv=>hx i c v hc (by simpa using hv)) hvs h0
  exact ⟨nI β acc,.tup (by simpa using l1) (fun i c v hc hv=>r1 i c v hc (by simpa using hv)),h.res o1,hfin o1⟩
 ·simp only [Option.map_eq_some_iff,Prod.mk.injEq] at hv;obtain ⟨⟨v1,acc⟩,hvs,rfl,rfl⟩:=hv;obtain ⟨_,r1,o1⟩:=agN hr hvs h0;exact ⟨nI β acc,r1,h.res o1,hfin o1⟩
mutual
def Pt:IV->Prop
 | .int k n=>dt k n
 | .agg cs=>rO cs
 | .fn _ cs=>rO cs
 | .tup vs=>rO vs
 | _=>True
def rO:List IV->Prop
 | []=>True
 | c :: cs=>Pt c/\rO cs
end
theorem Lg:∀ {l:List IV},rO l↔∀ v∈l,Pt v:=by
 intro l;induction l with
 | nil=>simp [rO]
 | cons c cs ih=>simp [rO,ih]
theorem pn {l:List IV} {xs:Array Value} (hl:l.length=xs.size) (h:∀ (i:Nat) c v,l[i]? = some c->xs[i]? = some v->Pt c):rO l:=by
 rw [Lg];intro v hv;obtain ⟨i,hi⟩:=List.getElem?_of_mem hv;have hlt:=(List.getElem?_eq_some_iff.1 hi).1;exact h i v xs[i] hi (by simp)
theorem bP.ok {v:IV} {u:Value} (h:bP β v u):Pt v:=by
 induction h with
 | int h=>simpa [Pt] using h
 | agg hl h1 h ih=>simp only [Pt]; exact pn hl ih
 | fn hl h ih=>simp only [Pt]; exact pn hl ih
 | tup hl h ih=>simp only [Pt]; exact pn hl ih
 | _=>simp [Pt]
def okB:aq->Prop
 | .ro ks xs=>aI ks xs/\0 < ks.length/\xs.length<=maxLen
 | _=>False
theorem ab {N:Know} (d:Nat) (hN:KnowOk P N d) {f:FuncId} {sp:Spec}
  (h:∀ as bs,rO as->(∀ k∈bs,okB k)->sp.pre as bs->comes P N d f as bs fun v bs'=>sp.F as bs=(v,bs')):aa P f sp:=by
 intro as bs X β w vs hX hB hS hro hlen hrep hpre;have hok:rO as:=pn hlen (fun i c v hc hv=>(hrep i c v hc hv).ok)
 have hbs:∀ k∈bs,okB k:=by
  intro k hk;obtain ⟨j,hj⟩:=List.getElem?_of_mem hk;have hb:=hS.blks j k (by rw [bJ]; simp [hj])
  have:=hro k hk;cases k with
  | ro ks xs=>
   obtain ⟨A,c,h1,h2,h3,h4,_⟩:=hb;exact ⟨h3,h4,Nat.le_trans h2.1 h2.2.1⟩
  | _=>cases this
 have hc:=pa hN.mixed hN.ctr hN.funs hN.back d hN.loops f as (bs.map some) _ (h as bs hok hbs hpre) X β w vs hS hlen hrep;refine hc.mono fun e w' he=>?_
 obtain ⟨v,u,β1,b',rfl,hk,hr,hB',hag,hle⟩:=he;split at hk
 ·rename_i v' bs' hres;obtain ⟨β',h1,h2,h3⟩:=nZ hB' hr hres;rw [hk];exact ⟨u,β',rfl,by have:=hB'.below; rw [hX,hB] at this; exact ba.wL this,h1,h2,h3⟩
 ·exact hk.elim
end
end Go.Vs
namespace Go.Vs
open Go.RowKit Go.ChangeShapes Go.WideShapes Go.ChangeAt
section
variable {H:Type} {enc:TypeId × Value->H} {P:Program} {w:World} {base:Nat} {spare:Nat->Bool} {held:Bool}
theorem CE {n fuel:Nat} (ih:∀ t ks cs x,fY P n t=some ks->DataW.trod enc P w base spare held fuel t cs=some x->∃xs,dz ks cs xs) {cs:List Value}:
  ∀ (fs:List Field) (off:Nat) l ys kk,fs.mapM (fun (f:Field)=>(fY P n f.type).map fun ks=>(f.offset,P.cellsOf f.type,ks))=some l->gM cs.length off l=some kk->
   fs.mapM (fun (f:Field)=>DataW.trod enc P w base spare held fuel f.type ((cs.drop f.offset).take (P.cellsOf f.type)))=some ys->∃xs,dz kk (cs.drop off) xs:=by
 intro fs;induction fs with
 | nil=>
  intro off l ys kk hl hk hy;simp at hl;subst hl;simp only [gM] at hk;split at hk
  ·cases hk
   rename_i e;subst e;exact ⟨[],by simpa using dz.nil⟩
  ·cases hk
 | cons f fs ihf=>
  intro off l ys kk hl hk hy;simp only [List.mapM_cons,Option.pure_def,Option.bind_eq_bind,Option.bind_eq_some_iff,Option.map_eq_some_iff,Option.some.injEq] at hl hy;obtain ⟨_,⟨ks,hks,rfl⟩,l',hl',rfl⟩:=hl;obtain ⟨y,hy1,ys',hy2,rfl⟩:=hy;simp only [gM] at hk;split at hk
  ·rename_i hc;obtain ⟨ho,hn⟩:=hc;simp only [Option.map_eq_some_iff] at hk;obtain ⟨kk',hk',rfl⟩:=hk;obtain ⟨x1,h1⟩:=ih _ _ _ _ hks hy1;obtain ⟨x2,h2⟩:=ihf _ _ _ _ hl' hk' hy2;refine ⟨x1++x2,?_⟩;have:=h1.append h2;rw [ho,← List.drop_drop,List.take_append_drop] at this;exact this
  ·cases hk
theorem ET {n fuel:Nat} {e:TypeId} {ks:List IntKind} (hn:ks.length=P.cellsOf e) (ih:∀ cs x,DataW.trod enc P w base spare held fuel e cs=some x->∃xs,dz ks cs xs):
  ∀ (m:Nat) {cs:List Value} {ys},cs.length=m*ks.length->(List.range m).mapM (fun i=>DataW.trod enc P w base spare held fuel e ((cs.drop (i*P.cellsOf e)).take (P.cellsOf e)))=some ys->
   ∃xs,dz (List.replicate m ks).flatten cs xs:=by
 intro m;induction m with
 | zero=>
  intro cs ys hl _;have:cs=[]:=List.eq_nil_of_length_eq_zero (by simpa using hl)
  subst this;exact ⟨[],.nil⟩
 | succ m ihm=>
  intro cs ys hl hy;obtain ⟨hyl,hy'⟩:=mapM_some hy;have hpre:(List.range m).mapM (fun i=>DataW.trod enc P w base spare held fuel e (((cs.take (m*ks.length)).drop (i*P.cellsOf e)).take (P.cellsOf e)))=some (ys.take m):=by
   rw [List.range_succ,List.mapM_append] at hy;simp only [Option.bind_eq_bind,Option.bind_eq_some_iff,Option.pure_def,Option.some.injEq] at hy;obtain ⟨y1,h1,y2,h2,rfl⟩:=hy;have hl1:y1.length=m:=by have:=(mapM_some h1).1; simpa using this.symm
   rw [List.take_left' hl1,← h1];refine uu ?_;intro i hi;have hi':i < m:=by simpa using hi
   congr 1
   rw [List.drop_take,List.take_take,← hn]
   congr 1
   have:(i+1)*ks.length<=m*ks.length:=Nat.mul_le_mul_right _ hi';rw [Nat.add_mul] at this;omega
  obtain ⟨x1,h1⟩:=ihm (cs:=cs.take (m*ks.length)) (by rw [List.length_take,hl]; rw [Nat.add_mul]; omega) hpre
  have hlast:=hy' m m ys[m]! (by simp) (by
   have:m < ys.length:=by simp at hyl; omega
   simp [this])
  obtain ⟨x2,h2⟩:=ih _ _ hlast;refine ⟨x1++x2,?_⟩;rw [List.replicate_succ',List.flatten_append];have h3:=h1.append h2;rw [← hn] at h3;have e1:(cs.drop (m*ks.length)).take ks.length=cs.drop (m*ks.length):=by
   apply List.take_of_length_le;rw [List.length_drop,hl,Nat.add_mul];omega
  rw [e1,List.take_append_drop] at h3;simpa using h3
theorem H5:∀ (n:Nat) {t:TypeId} {ks:List IntKind} {fuel:Nat} {cs:List Value} {x:DataW H × List MemPlace},fY P n t=some ks->DataW.trod enc P w base spare held fuel t cs=some x->∃xs,dz ks cs xs:=by
 intro n;induction n with
 | zero=>intro t ks fuel cs x h; simp [fY] at h
 | succ n ih=>
  intro t ks fuel cs x h hx;cases fuel with
  | zero=>simp [DataW.trod] at hx
  | succ fuel=>
   simp only [fY] at h;split at h
   ·rename_i k hu;cases h
    obtain ⟨n,rfl,_,hwf⟩:=DataW.trod_int hu hx;refine ⟨[_],.cons ?_ .nil⟩;simpa [Lit.wf,dt] using hwf
   ·rename_i fs hu;split at h
    rotate_left
    ·cases h
    simp only [Option.bind_eq_some_iff] at h;obtain ⟨l,hl,hk⟩:=h;unfold DataW.trod at hx;rw [hu] at hx;simp only at hx;split at hx
    ·rename_i hlen;simp only [Option.map_eq_some_iff] at hx;obtain ⟨ys,hys,rfl⟩:=hx;rw [← hlen] at hk;obtain ⟨xs,h1⟩:=CE (enc:=enc) (w:=w) (base:=base) (spare:=spare) (held:=held) (cs:=cs) (fun t ks cs x h hx=>ih h hx) fs.toList 0 l ys ks hl hk hys
     exact ⟨xs,by simpa using h1⟩
    ·cases hx
   ·rename_i m e hu;simp only [Option.bind_eq_some_iff] at h;obtain ⟨ks',hk',h⟩:=h;split at h
    rotate_left
    ·cases h
    rename_i hc;cases h
    unfold DataW.trod at hx;rw [hu] at hx;simp only at hx;split at hx
    ·rename_i hlen;simp only [Option.map_eq_some_iff] at hx;obtain ⟨ys,hys,rfl⟩:=hx;exact ET (enc:=enc) (w:=w) (base:=base) (spare:=spare) (held:=held) (n:=ks'.length) hc.1 (fun cs x hx=>ih hk' hx) m (by rw [hlen,hc.2,hc.1]) hys
    ·cases hx
   ·cases h
def jV (W:World) (as:List IV) (bs:List aq) (vs:List Value):Prop:=
 ∃β,di { w0:=W,B:=W.heap.size,A0:=fun _=>True } β (bs.map some) W/\(∀ k∈bs,k.own=false)/\as.length=vs.length/\∀ (i:Nat) c v,as[i]? = some c->vs[i]? = some v->bP β c v
theorem jV.nil {W:World}:jV W [] [] []:=by
 refine ⟨fun _=>none,⟨rfl,fun i v hv=>by simp [look_nil,bX,bY] at hv,fun b k hb=>by simp [look_nil,bX,bY] at hb,fun b c k k' id hb=>by simp [look_nil,bX,bY] at hb,fun _ _=>rfl,Below.refl _ _,⟨Nat.le_refl _,fun _ h=>h.elim,fun _ h=>h.elim,fun _ _ _ _ _=>⟨fun h=>h,fun _ h=>h⟩⟩,.nil⟩,by simp,rfl,by simp⟩
theorem jV.push {W:World} {as bs vs} (h:jV W as bs vs) {c:IV} {v:Value} (hr:∀ β,bP β c v):jV W (as++[c]) bs (vs++[v]):=by
 obtain ⟨β,hS,ho,hl,hrep⟩:=h;refine ⟨β,hS,ho,by simp [hl],?_⟩
 intro i c' v' hc hv;rw [List.getElem?_append] at hc hv;rw [hl] at hc;split at hc
 ·rename_i hi;rw [if_pos hi] at hv;exact hrep i c' v' hc hv
 ·rename_i hi;rw [if_neg hi] at hv;have:i - vs.length=0:=by have:=(List.getElem?_eq_some_iff.1 hc).1; simp at this; omega
  rw [this] at hc hv;simp at hc hv;subst hc; subst hv;exact hr β
theorem jV.int {W:World} {as bs vs} (h:jV W as bs vs) {t:TypeId} {k:IntKind} {v:Value} {d:DataW H} {p:List MemPlace} {r:Reach} {b0:Nat} (ht:P.underlying t=some (.int k)) (hval:Value.okWide P w r b0 t v)
  (hd:DataW.Trod enc P w base spare held t v d p):∃n,dt k n/\jV W (as++[.int k n]) bs (vs++[v]):=by
 obtain ⟨n,rfl,_,_,hw⟩:=open_int ht hval hd;have:dt k n:=by simpa [Lit.wf,dt] using hw
 exact ⟨n,this,h.push fun β=>.int this⟩
theorem jV.slice {W:World} {as bs vs} (h:jV W as bs vs) {t e:TypeId} {ks:List IntKind} {v:Value} {d:DataW H} {p:List MemPlace} {r:Reach} {b0:Nat} (ht:P.underlying t=some (.slice e)) (hk:fY P 8 e=some ks) (hpos:0 < ks.length) (hc:P.cellsOf e=ks.length) (hval:Value.okWide P W r b0 t v)
  (hd:DataW.Trod enc P W base spare held t v d p):∃xs,(∀ x∈xs,x.length=ks.length)/\aI ks xs/\xs.length<=maxLen/\jV W (as++[.sl bs.length]) (bs++[.ro ks xs]) (vs++[v]):=by
 obtain ⟨A,len,cap,rfl⟩:=okWide_slice ht hval;obtain ⟨fuel,hf⟩:=hd;obtain ⟨β,hS,ho,hl,hrep⟩:=h
 suffices hsuff:∃xs,(∀ x∈xs,x.length=ks.length)/\aI ks xs/\xs.length=len/\Reads W ks A cap xs by
  obtain ⟨xs,h1,h2,h3,h4⟩:=hsuff;refine ⟨xs,h1,h2,Nat.le_trans h4.1 h4.2.1,ext β bs.length (.slc (.slice A len cap)),?_,?_,by simp [hl],?_⟩
  ·have hn:β bs.length=none:=hS.bound _ (by simp)
   have hm:=gJ (r:=.slc (.slice A len cap)) hn;have lk:∀ b k,look ((bs++[aq.ro ks xs]).map some) b=some k->(b < bs.length/\look (bs.map some) b=some k)∨(b=bs.length/\k=.ro ks xs):=by
    intro b k hb;rw [List.map_append,cv] at hb;split at hb
    ·rename_i hlt; exact .inl ⟨by simpa using hlt,hb⟩
    ·rename_i hge;simp only [List.length_map] at hb hge;have hz:b - bs.length=0:=by
      have:=dc hb;simp at this;omega
     rw [hz] at hb;simp [look_nil,bX,bY] at hb;exact .inr ⟨by omega,hb.symm⟩
   have hown:∀ b k,look ((bs++[aq.ro ks xs]).map some) b=some k->k.own=false:=by
    intro b k hb;rcases lk b k hb with ⟨_,h5⟩ | ⟨_,rfl⟩
    ·refine ho k ?_;rw [bJ] at h5;simp only [List.getElem?_map,Option.map_eq_some_iff] at h5;obtain ⟨x,hx,hxk⟩:=h5;cases hxk
     exact List.mem_of_getElem? hx
    ·rfl
   refine ⟨rfl,fun i v hv=>by simp [look_nil,bX,bY] at hv,?_,?_,?_,hS.below,⟨hS.le,fun _ h=>h.elim,fun _ h=>h.elim,fun _ _ _ _ _=>⟨fun h=>h,fun _ h=>h⟩⟩,.nil⟩
   ·intro b k hb;rcases lk b k hb with ⟨_,h5⟩ | ⟨rfl,rfl⟩
    ·exact (hS.blks b k h5).mono hm
    ·exact ⟨A,cap,by simp [ext,h3],h4,h2,hpos,fun _ _ _=>.inl trivial⟩
   ·intro b c k k' id hb hc' hown';rw [hown b k hb] at hown';cases hown'
   ·intro b hb;simp at hb;unfold ext;rw [if_neg (by omega)]
    exact hS.bound _ (by simp; omega)
  ·intro k hk';rcases List.mem_append.1 hk' with h5 | h5
   ·exact ho k h5
   ·simp at h5; subst h5; rfl
  ·have hn:β bs.length=none:=hS.bound _ (by simp)
   have hm:=gJ (r:=.slc (.slice A len cap)) hn;intro i c' v' hc' hv;rw [List.getElem?_append] at hc' hv;rw [hl] at hc';split at hc'
   ·rename_i hi;rw [if_pos hi] at hv;exact (hrep i c' v' hc' hv).mono hm
   ·rename_i hi;rw [if_neg hi] at hv;have:i - vs.length=0:=by have:=(List.getElem?_eq_some_iff.1 hc').1; simp at this; omega
    rw [this] at hc' hv;simp at hc' hv;subst hc'; subst hv;exact .sl (by simp [ext])
 rcases Go.Deep.open_slice (enc:=enc) ht hf with ⟨hcs,_⟩ | ⟨a,len',cap',m,n,D,Pl,hcs,hb,hle,hcap,hm,_,hel⟩
 ·simp [Value.cells] at hcs;obtain ⟨rfl,rfl,rfl⟩:=hcs;exact ⟨[],by simp,by intro x hx; simp at hx,rfl,Nat.le_refl _,by simp [maxLen],fun h0=>by simp at h0⟩
 ·simp [Value.cells] at hcs;obtain ⟨rfl,rfl,rfl⟩:=hcs;have hlm:len<=m:=by rw [hm]; split <;> omega
  have hx:∀ i,∃xs,i < len->(∃cs',W.cells? base (a.add (i*ks.length)) ks.length=some cs'/\dz ks cs' xs):=by
   intro i;by_cases hi:i < len
   ·obtain ⟨cs',h1,h2⟩:=hel i (by omega)
    obtain ⟨xs,h3⟩:=H5 (enc:=enc) 8 hk h2;rw [hc] at h1;exact ⟨xs,fun _=>⟨cs',h1,h3⟩⟩
   ·exact ⟨[],fun h0=>absurd h0 hi⟩
  obtain ⟨X,hX⟩:=Classical.axiomOfChoice hx;have hget:∀ i,i < len->((List.range len).map X)[i]? = some (X i):=by intro i hi; simp [hi]
  have hcell:∀ i j,i < len->j < ks.length->W.cell? ((a.add (i*ks.length)).add j)=some (.int (ks.getD j .i64) ((X i).getD j 0))/\dt (ks.getD j .i64) ((X i).getD j 0):=by
   intro i j hi hj;obtain ⟨cs',h1,h2⟩:=hX i hi;obtain ⟨h3,h4⟩:=h2.at j hj;refine ⟨?_,h4⟩;unfold World.cells? at h1;split at h1
   ·have h5:=(mapM_some h1).2 j j (.int (ks.getD j .i64) ((X i).getD j 0)) (by simp [hj]) h3
    exact h5
   ·cases h1
  have hspot:0 < len->a.spot=none:=by
   intro h0;have h1:=(hcell 0 0 h0 hpos).1;have e:(a.add (0*ks.length)).add 0=a:=by simp [Addr.add]
   rw [e] at h1;unfold World.cell? at h1;split at h1
   ·cases hsp:a.spot with
    | none=>rfl
    | some _=>simp [hsp] at h1
   ·cases h1
  refine ⟨(List.range len).map X,?_,?_,by simp,by simpa using hle,hcap,?_⟩
  ·intro x hx';simp only [List.mem_map,List.mem_range] at hx';obtain ⟨i,hi,rfl⟩:=hx';obtain ⟨cs',_,h2⟩:=hX i hi;exact h2.len.2
  ·intro x hx' j hj;simp only [List.mem_map,List.mem_range] at hx';obtain ⟨i,hi,rfl⟩:=hx';exact (hcell i j hi hj).2
  ·intro h0;have h0':0 < len:=by simpa using h0
   obtain ⟨g,o,sp⟩:=a;have hs:=hspot h0';simp only at hs;subst hs;refine ⟨g,o,rfl,?_⟩;intro j u hu;have hjlt:j < len*ks.length:=by
    have:=(List.getElem?_eq_some_iff.1 hu).1;rw [dR] at this;simpa using this
   have hdiv:j / ks.length < len:=Nat.div_lt_of_lt_mul (by rw [Nat.mul_comm]; exact hjlt)
   have hmod:j % ks.length < ks.length:=Nat.mod_lt _ hpos;have hj:j=j / ks.length*ks.length+j % ks.length:=by rw [Nat.mul_comm]; exact (Nat.div_add_mod j ks.length).symm
   have hfl:=mB ks ((List.range len).map X) (j / ks.length) (j % ks.length) (by simpa using hdiv) hmod
   rw [← hj,hu] at hfl;have h1:=(hcell (j / ks.length) (j % ks.length) hdiv hmod).1;cases hfl
   have e:((Addr.mk g o none).add (j / ks.length*ks.length)).add (j % ks.length) = ⟨g,o+j,none⟩:=by
    rw [Go.Deep.add_add,← hj];unfold Addr.add;split
    ·rename_i h0; simp [h0]
    ·rfl
   rw [e] at h1;rw [h1];simp [rd,List.getD,hdiv]
end
theorem VM {P:Program} {f:FuncId} {sp:Spec} (hC:aa P f sp) {W:World} {as:List IV} {bs:List aq} {vs:List Value} (ho:jV W as bs vs) (hpre:sp.pre as bs) (hF:(sp.F as bs).1=.bool true):
  Calls P f vs.toArray W fun e w'=>e=.returned (.bool true)/\Below W.heap.size W w':=by
 obtain ⟨β,hS,hown,hl,hrep⟩:=ho;refine (hC as bs { w0:=W,B:=W.heap.size,A0:=fun _=>True } β W vs.toArray rfl rfl hS hown (by simpa using hl) (fun i c v hc hv=>hrep i c v hc (by simpa using hv)) hpre).mono ?_
 rintro e w' ⟨u,β',rfl,hk,hr,_,_⟩;rw [hF] at hr;exact ⟨by rw [hr.eC],hk.below⟩
end Go.Vs
namespace Go.Vs
open Go.RowKit Go.ChangeShapes Go.WideShapes Go.ChangeAt
section
variable {H:Type} {enc:TypeId × Value->H} {P:Program} {base:Nat} {spare:Nat->Bool} {held:Bool}
inductive FD where
 | flat (t:TypeId) (ks:List IntKind)
 | sl (t e:TypeId) (ks:List IntKind)
def FD.ok (P:Program):FD->Prop
 | .flat t ks=>fY P 8 t=some ks/\P.cellsOf t=ks.length
 | .sl t e ks=>P.underlying t=some (.slice e)/\fY P 8 e=some ks/\0 < ks.length/\P.cellsOf e=ks.length/\P.cellsOf t=1
end
end Go.Vs
