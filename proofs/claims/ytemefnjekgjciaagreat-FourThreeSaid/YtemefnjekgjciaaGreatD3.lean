import Derived.RangeFuncLeaves
import Derived.Shelf.Abstract
import Derived.WalkKit
import Derived.OwnWalkIn
import Derived.TacticsInMore
import Derived.LoopNIn
import Derived.LoopIn
import Derived.Test.YtemefnjekgjciaaGreatC1
import Derived.Test.YtemefnjekgjciaaGreatC2
import Derived.Test.YtemefnjekgjciaaGreatD1
import Derived.Test.YtemefnjekgjciaaGreatD2
set_option linter.unusedVariables false
set_option linter.unusedSimpArgs false
noncomputable section
set_option maxRecDepth 100000
namespace Go.Vs.RS
open Go Go.Proofs Go.Vs Go.IntWalk
def bL (xs:L2):L2:=if bp (xs=[]∨¬ fE xs) then [] else bD xs 33 0 0 0 xs.length 0
theorem g9:bL []=[]:=by unfold bL; rw [pJ (.inl rfl)]; rfl
theorem kY {xs:L2} (h:¬ fE xs):bL xs=[]:=by unfold bL; rw [pJ (.inr h)]; rfl
theorem fZ {xs:L2} (h:xs≠[]) (h2:fE xs):bL xs=bD xs 33 0 0 0 xs.length 0:=by
 unfold bL;rw [oT (by rintro (h3 | h3); exact h h3; exact h3 h2)]
 rfl
def mj (l:List IV) (bs:List aq):Prop:=∃xs,l=[.sl 0]/\bs=[.ro [.u64,.i64] xs]/\xs.length<=1000/\agC xs
def Pa:Vs.Spec:=⟨mj,fun _ bs=>(.sl 0,[.row 70 nk (bL (aA bs 0))])⟩
theorem c37:aa TP 165 WH:=by
 refine ab 1 ⟨mixedOrders,fun g sp h=>(by cases h),cO (N:=NS) (fun _ _=>rfl) 1,fun g G h=>(by cases h),fun f h=>(by cases h)⟩ (N:=NS) ?_
 rintro l bs _ _ ⟨hl,hb,h1,h2,h3,h4⟩;subst hb;obtain ⟨key,lev,rfl⟩:∃key lev,l=[.int .u64 key,.int .i64 lev]:=⟨_,_,hl⟩;clear hl;change 0<=key at h1;change key < 18446744073709551616 at h2;change 0<=lev at h3;change lev<=31 at h4;rw [v37]; delta Jad Jai Jat Jaz JaZ;have e1:IntKind.i64.wrap (2*lev)=2*lev:=i64_in _ (by omega)
 have e2:IntKind.i64.wrap (62 - 2*lev)=62 - 2*lev:=i64_in _ (by omega)
 rw [e1,e2];have e3:min (62 - 2*lev).toNat 64=(62 - 2*lev).toNat:=by omega
 rw [e3];have e4:key.fdiv (2 ^ (62 - 2*lev).toNat)=shr key (62 - 2*lev).toNat:=rfl;rw [e4,Yk (qi h1 _) (by have:=KG h1 (62 - 2*lev).toNat; omega),i64_in (_ % 4) (by omega)]
 exact ⟨by omega,rfl⟩
theorem Gc (x:Int) (pl:Nat):shr x (pl+2)=shr x pl / 4:=by
 rw [gH,gH,Int.pow_add,Int.ediv_ediv_of_nonneg (Int.le_of_lt (Int.pow_pos (by decide)))]
 rfl
theorem KF {x y:Int} (h:x<=y) (pl:Nat):shr x pl<=shr y pl:=by
 rw [gH,gH]; exact Int.ediv_le_ediv (Int.pow_pos (by decide)) h
theorem sZ {x:Int} {lev:Nat} (h:lev<=31):pV x lev=shr x (62 - 2*lev) % 4:=by
 unfold pV;rw [show ((62:Int) - 2*(lev:Int)).toNat=62 - 2*lev by omega]
theorem Pd {xs:L2} (h:fE xs) {i j:Nat} (hij:i<=j) (hj:j < xs.length):rd xs i 0<=rd xs j 0:=by
 rcases Nat.eq_or_lt_of_le hij with rfl | hlt
 ·exact Int.le_refl _
 ·exact h i j hlt hj
structure Part (xs:L2) (lev fr to:Nat):Prop where
 lv:lev<=31
 rise:fE xs
 one:Lc xs lev fr to
 len:to<=xs.length
theorem Part.split {xs:L2} {lev fr to:Nat} (h:Part xs lev fr to) {i:Nat} (h1:fr<=i) (h2:i < to) {j:Nat} (h3:fr<=j) (h4:j < to):
  shr (rd xs i 0) (62 - 2*lev) / 4=shr (rd xs j 0) (62 - 2*lev) / 4:=by
 have:=h.one i j h1 h2 h3 h4;rw [show 64 - 2*lev=(62 - 2*lev)+2 by have:=h.lv; omega,Gc,Gc] at this
 exact this
theorem Part.same {xs:L2} {lev fr to:Nat} (h:Part xs lev fr to) {i j:Nat} (h1:fr<=i) (h2:i < to) (h3:fr<=j) (h4:j < to):
  shr (rd xs i 0) (62 - 2*lev)=shr (rd xs j 0) (62 - 2*lev)↔pV (rd xs i 0) lev=pV (rd xs j 0) lev:=by
 rw [sZ h.lv,sZ h.lv];have:=h.split h1 h2 h3 h4;omega
theorem Part.up {xs:L2} {lev fr to:Nat} (h:Part xs lev fr to) {i j:Nat} (h1:fr<=i) (h3:i<=j) (h4:j < to):
  pV (rd xs i 0) lev<=pV (rd xs j 0) lev:=by
 rw [sZ h.lv,sZ h.lv];have:=h.split h1 (by omega) (show fr<=j by omega) h4
 have h5:=KF (Pd h.rise h3 (by have:=h.len; omega)) (62 - 2*lev)
 omega
theorem zM (x lev:Int):0<=pV x lev/\pV x lev < 4:=by unfold pV; omega
theorem wv (xs:L2) (lev q:Int) (to:Nat):∀ (m t:Nat),to - t<=m->t<=to->
  t<=kH xs lev q to m t/\kH xs lev q to m t<=to/\(∀ j,t<=j->j < kH xs lev q to m t->pV (rd xs j 0) lev=q)/\
  (kH xs lev q to m t=to∨pV (rd xs (kH xs lev q to m t) 0) lev≠q)
 | 0,t,hm,ht=>by
  have:t=to:=by omega
  subst this;exact ⟨Nat.le_refl _,Nat.le_refl _,fun j h1 h2=>by simp only [kH] at h2; omega,.inl rfl⟩
 | m+1,t,hm,ht=>by
  simp only [kH];split
  ·rename_i hc;obtain ⟨h1,h2,h3,h4⟩:=wv xs lev q to m (t+1) (by omega) (by omega)
   refine ⟨by omega,h2,fun j hj1 hj2=>?_,h4⟩
   rcases Nat.eq_or_lt_of_le hj1 with rfl | hlt
   ·exact hc.2
   ·exact h3 j (by omega) hj2
  ·rename_i hc;refine ⟨Nat.le_refl _,ht,fun j h1 h2=>by omega,?_⟩
   rcases Nat.lt_or_ge t to with h | h
   ·exact .inr fun h5=>hc ⟨h,h5⟩
   ·exact .inl (by omega)
theorem Ep {xs:L2} {lev q:Int} {to t:Nat} (h:t < to) (hs:pV (rd xs t 0) lev=q):kH xs lev q to (to - t) t=kH xs lev q to (to - (t+1)) (t+1):=by
 rw [show to - t=(to - (t+1))+1 by omega]
 simp only [kH];rw [if_pos ⟨h,hs⟩]
theorem wq {xs:L2} {lev q:Int} {to t m:Nat} (h:¬ (t < to/\pV (rd xs t 0) lev=q)):kH xs lev q to m t=t:=by
 cases m with
 | zero=>rfl
 | succ m=>simp only [kH]; rw [if_neg h]
theorem Bz {xs:L2} {lev q:Int} {to f:Nat} (h:¬ (f < to/\pV (rd xs f 0) lev=q)):jM xs lev q to f=f:=wq h
theorem Er {xs:L2} {lev fr to f:Nat} {q:Int} (h:Part xs lev fr to) (hf:fr<=f) (hft:f < to) (hq:pV (rd xs f 0) lev=q):jM xs lev q to f=aR xs (62 - 2*lev) to f:=by
 obtain ⟨s1,s2,s3,s4⟩:=dM xs (62 - 2*lev) hft;obtain ⟨r1,r2,r3,r4⟩:=wv xs lev q to (to - f) f (Nat.le_refl _) (by omega)
 change f<=jM xs lev q to f at r1;change jM xs lev q to f<=to at r2;change ∀ j,f<=j->j < jM xs lev q to f->_ at r3;change jM xs lev q to f=to∨pV (rd xs (jM xs lev q to f) 0) lev≠q at r4;rcases Nat.lt_trichotomy (jM xs lev q to f) (aR xs (62 - 2*lev) to f) with hlt | he | hgt
 ·exfalso
  rcases r4 with r4 | r4
  ·omega
  ·have:=s3 (jM xs lev q to f) r1 hlt;rw [h.same (by omega) (by omega) hf hft,hq] at this
   exact r4 this
 ·exact he
 ·exfalso
  rcases s4 with s4 | s4
  ·omega
  ·have:=r3 (aR xs (62 - 2*lev) to f) (by omega) hgt
   apply s4;rw [h.same (by omega) (by omega) hf hft,hq]
   exact this
theorem PJ (N:Know) (n0:Nat):aG (ai TP N 0) 110 n0 0 (lp TP 110 0) YD:=by
 rintro st K ⟨⟨rfl,hst,hp⟩,hK⟩;generalize st.x 1=xs at *;generalize st.x 2=zs at *;generalize st.c 3 0=lev at *;generalize st.c 3 1=key at *;generalize st.c 3 2=fr at *;generalize st.c 3 3=to at *;generalize st.c 3 4=k0 at *;generalize st.c 3 5=k1 at *;generalize st.c 3 6=k2 at *;generalize st.c 3 7=k3 at *;generalize st.i 7=at0 at *;generalize st.i 8=q0 at *;subst hst;obtain ⟨e1,p1,p2,rfl⟩:=hp;obtain ⟨at_,rfl⟩:∃m:Nat,at0=m:=⟨at0.toNat,by omega⟩
 simp only [Int.toNat_natCast] at *;generalize hz0:zs.take at_=zs0 at *;have hl0:zs0.length=at_:=by rw [← hz0,List.length_take]; omega
 subst hl0;subst e1;refine aC (fun p:Int × L1=>Ro xs (zs0++[[lev,key,fr,to]++p.2]) lev key fr to k0 k1 k2 k3 zs0.length p.1) (fun p=>0<=p.1/\p.1<=4/\p.2.length=4/\∀ j:Nat,(j:Int) < p.1->p.2.getD j 0 = -1) (fun p=>(4 - p.1).toNat) ?_ (a:=(0,[k0,k1,k2,k3])) ⟨by simp,by simp,rfl,fun j hj=>by simp only at hj; omega⟩
 rintro ⟨q,ks⟩ ⟨a1,a2,hkl,hks⟩ k hn hk;simp only at a1 a2 hks;show round _ _ _ _ _ (Ro xs (zs0++[[lev,key,fr,to]++ks]) lev key fr to k0 k1 k2 k3 zs0.length q) k;rw [aah]; delta Jaa Jab Jac Jad Jae Jaf Jag Jah Jai Jaj Jak Jan Jao Jap Jaq Jar Jas Jaw Jax Jay JaF JaH JaJ JaK JaM JaQ JaV Jbv Jbf; rw [al];constructor
 ·intro hi;obtain ⟨qn,rfl⟩:∃m:Nat,q=m:=⟨q.toNat,by omega⟩
  have hq4:qn < 4:=by omega
  have hw:(0:Int)<=(zs0.length:Int)/\(zs0.length:Int) < (zs0++[[lev,key,fr,to]++ks]).length:=by simp; omega
  refine ⟨hw,by omega,⟨hw.1,hw.2,by omega,by omega⟩,?_⟩
  simp only [Int.toNat_natCast];rw [ql];rw [i64_in ((qn:Int)+1) (by omega)]
  have:=hn ((qn:Int)+1,ks.set qn (-1)) ⟨by simp only; omega,by simp only; omega,by simpa using hkl,?_⟩ (by simp only; omega)
  ·simp only at this;rw [← TI hkl hq4] at this;exact this
  ·intro j hj;simp only at hj;by_cases e:qn=j
   ·subst e; simp [List.getD,hkl,hq4]
   ·have:=hks j (by omega)
    simp only [List.getD,List.getElem?_set_ne e] at this ⊢;exact this
 ·intro hi;have e:q=4:=by omega
  subst e;have hks':ks=[-1,-1,-1,-1]:=by
   match ks,hkl with
   | [a,b,c,d],_=>
    have h0:=hks 0 (by decide)
    have h1:=hks 1 (by decide)
    have h2:=hks 2 (by decide)
    have h3:=hks 3 (by decide)
    simp [List.getD] at h0 h1 h2 h3;rw [h0,h1,h2,h3]
  subst hks';exact hk _ _ (by simp) hK
theorem PH (n:Nat) (n0:Nat):aG (ai TP (NU n) 0) 110 n0 2 (lp TP 110 2) YB:=by
 rintro st K ⟨⟨rfl,hst,hp⟩,hK⟩;generalize st.x 1=xs at *;generalize st.x 2=zs at *;generalize st.c 3 0=lev at *;generalize st.c 3 1=key at *;generalize st.c 3 2=fr at *;generalize st.c 3 3=to at *;generalize st.c 3 4=k0 at *;generalize st.c 3 5=k1 at *;generalize st.c 3 6=k2 at *;generalize st.c 3 7=k3 at *;generalize st.i 7=at_ at *;generalize st.i 9=f0 at *;generalize st.i 10=q at *;generalize st.i 11=f at *;subst hst;obtain ⟨p1,p2,p3,p4,p5,p6,ht0,p7⟩:=hp;subst ht0;refine aC (fun a:Int=>Jm xs zs lev key fr to k0 k1 k2 k3 at_ f q a) (fun a=>f<=a/\a<=to/\kH xs lev q to.toNat (to.toNat - a.toNat) a.toNat=jM xs lev q to.toNat f.toNat) (fun a=>(to - a).toNat) ?_ (a:=f) ⟨by omega,by omega,rfl⟩
 rintro t ⟨a1,a2,a3⟩ k hn hk;show round _ _ _ _ _ (Jm _ _ _ _ _ _ _ _ _ _ _ _ _ t) k;rw [aaf]; delta Jaa Jab Jac Jad Jae Jaf Jag Jah Jai Jaj Jak Jam Jao Jaq Jar Jas Jaw Jax JaF JaH JaJ JaK JaM JaQ JaV Jbv Jbi Jbz; rw [al];have fin:¬ (t.toNat < to.toNat/\pV (rd xs t.toNat 0) lev=q)->k (Out.exit 4) (Jm xs zs lev key fr to k0 k1 k2 k3 at_ f q t):=by
  intro h;rw [wq h] at a3;refine hk _ _ (by simp) ?_
  rw [← a3] at hK;rw [show ((t.toNat:Nat):Int)=t by omega] at hK
  exact hK
 constructor
 ·intro hi;have hw:(0:Int)<=t/\t < xs.length:=by omega
  have hk0:=p7 t.toNat;refine ⟨hw,hw,⟨rfl,rfl,hk0.1,hk0.2,p1,p2⟩,?_⟩;rw [aL];constructor
  ·intro he;have he':pV (rd xs t.toNat 0) lev=q:=by simpa using he
   rw [i64_in (t+1) (by omega)]
   refine hn (t+1) ⟨by omega,by omega,?_⟩ (by omega)
   rw [show (t+1).toNat=t.toNat+1 by omega,← Ep (by omega) he']
   exact a3
  ·intro he;refine fin fun h=>?_
   rw [h.2] at he;simp at he
 ·intro hi;exact fin (by omega)
structure Inv30 (n:Nat) (xs zs0:L2) (lev:Nat) (key:Int) (fr to:Nat) (p:Nat × Nat × L2):Prop where
 inv:Inv29 n xs zs0 lev key fr to (p.1,p.2.2)
 q:p.2.1<=4
 rest:∀ j,p.1<=j->j < to->(p.2.1:Int)<=pV (rd xs j 0) lev
theorem PI (n:Nat) (n0:Nat):aG (ai TP (NU n) 0) 110 n0 1 (lp TP 110 1) (YC n):=by
 rintro st K ⟨⟨rfl,hst,hp⟩,hK⟩;generalize st.x 1=xs at *;generalize st.x 2=zs at *;generalize st.c 3 0=lev0 at *;generalize st.c 3 1=key at *;generalize st.c 3 2=fr0 at *;generalize st.c 3 3=to0 at *;generalize st.c 3 4=k0 at *;generalize st.c 3 5=k1 at *;generalize st.c 3 6=k2 at *;generalize st.c 3 7=k3 at *;generalize st.i 7=at0 at *;generalize st.i 9=f0 at *;generalize st.i 10=q0 at *;subst hst;obtain ⟨⟨⟨q1,q1',q2,q3,q4,q5,q6,q7,q8⟩,hR,hone⟩,e1,q9,q10,rfl,rfl,q11,q12⟩:=hp;obtain ⟨lev,rfl⟩:∃m:Nat,lev0=m:=⟨lev0.toNat,by omega⟩
 obtain ⟨fr,rfl⟩:∃m:Nat,f0=m:=⟨f0.toNat,by omega⟩
 obtain ⟨to,rfl⟩:∃m:Nat,to0=m:=⟨to0.toNat,by omega⟩
 obtain ⟨at_,rfl⟩:∃m:Nat,at0=m:=⟨at0.toNat,by omega⟩
 simp only [Int.toNat_natCast] at *;generalize hz0:zs.take at_=zs0 at *;have hl0:zs0.length=at_:=by rw [← hz0,List.length_take]; omega
 have hpl:((62:Int) - 2*(lev:Int)).toNat=62 - 2*lev:=by omega
 have hpart:Part xs lev fr to:=⟨by omega,hR,hone,by omega⟩
 have hstart:Inv30 n xs zs0 lev key fr to (fr,0,zs):=by
  refine ⟨⟨Nat.le_refl _,by simp only; omega,⟨[-1,-1,-1,-1],[],rfl,?_,?_⟩,?_⟩,by simp,fun j _ _=>(zM _ _).1⟩
  ·rw [e1]; rfl
  ·simp only [bD];rw [if_neg (by omega)]
   simp
  ·simp only;have:=congrArg List.length e1;simp at this;omega
 refine aC (fun p:Nat × Nat × L2=>Rn xs p.2.2 lev key fr to k0 k1 k2 k3 at_ p.1 p.2.1) (Inv30 n xs zs0 lev key fr to) (fun p=>4 - p.2.1) ?_ (a:=(fr,0,zs)) hstart
 rintro ⟨f,q,zs1⟩ ⟨⟨a1,a2,⟨ks,D,hkl,hz,htree⟩,hcnt⟩,hq4,hrest⟩ k hn hk;simp only at a1 a2 hz htree hcnt hq4 hrest;show round _ _ _ _ _ (Rn xs zs1 lev key fr to k0 k1 k2 k3 at_ f q) k;rw [aag]; delta Jaa Jab Jac Jad Jae Jaf Jag Jah Jai Jaj Jak Jam Jan Jao Jaq Jar Jas Jat Jaw Jax Jay JaB JaF JaG JaH JaI JaJ JaK JaM JaQ JaT JaV JaW JaZ Ja0 Ja4 Jbv Jbi Jbj Jbm Jbo Jbz JbB; rw [al];constructor
 ·intro hi;have hi':q < 4:=by omega
  have hmin:min (62 - 2*lev) 64=62 - 2*lev:=by omega
  have hk0:=q7 f;have hsh:(rd xs f 0).fdiv (2 ^ (62 - 2*lev))=shr (rd xs f 0) (62 - 2*lev):=rfl;have hw1:IntKind.i64.wrap (62 - IntKind.i64.wrap (2*(lev:Int)))=62 - 2*(lev:Int):=by rw [i64_in (2*(lev:Int)) (by omega),i64_in _ (by omega)]
  rw [hw1];simp only [Int.toNat_natCast,hpl,hmin,hsh];rw [FQ hk0.1 hk0.2,i64_in ((lev:Int)+1) (by omega),i64_in ((q:Int)+1) (by omega)]
  refine ⟨⟨by first | rfl | trivial,by first | rfl | trivial,by omega,by omega,by omega,by omega,by omega,by omega,by first | rfl | trivial,q7⟩,?_⟩
  rw [al];by_cases hc:f < to/\pV (rd xs f 0) lev=q
  ·
   rw [Er hpart a1 hc.1 hc.2];obtain ⟨s1,s2,s3,s4⟩:=dM xs (62 - 2*lev) hc.1;have hkp:shr (rd xs f 0) (62 - 2*lev)*2 ^ (62 - 2*lev)=kp xs (62 - 2*lev) f:=rfl;rw [hkp];have hqq:kq xs (62 - 2*lev) f=q:=by
    have:=hc.2;rw [sZ hpart.lv] at this;unfold kq;omega
   have hle:((lev:Int)+1).toNat=lev+1:=by omega
   rw [hle];refine ⟨fun _=>?_,fun h=>absurd h (by omega)⟩
   have hsplit:n*(to - f)=n*(aR xs (62 - 2*lev) to f - f)+n*(to - aR xs (62 - 2*lev) to f):=by rw [← Nat.mul_add]; congr 1; omega
   have hz1:zs1.length=at_+1+D.length:=by rw [hz]; simp [hl0]; omega
   have hmul:((n:Int)+1)*((to:Int) - fr)=(n*(to - fr)+(to - fr):Nat):=by
    have:((to - fr:Nat):Int)=(to:Int) - fr:=by omega
    rw [← this]; push_cast; rw [Int.add_mul]; omega
   have hmul2:(n:Int)*(((aR xs (62 - 2*lev) to f:Nat):Int) - f)=(n*(aR xs (62 - 2*lev) to f - f):Nat):=by
    have:((aR xs (62 - 2*lev) to f - f:Nat):Int)=((aR xs (62 - 2*lev) to f:Nat):Int) - f:=by omega
    rw [← this]; push_cast; rfl
   have q8':zs0.length+((n:Int)+1)*((to:Int) - fr)<=1000000:=by push_cast at q8; exact q8
   rw [hmul] at q8';refine ⟨by omega,by omega,by omega,by omega,by omega,by omega,by omega,⟨by first | rfl | trivial,by first | rfl | trivial,⟨by omega,by omega,by omega,by omega,by omega,by omega,by omega,q7,?_⟩,hR,?_⟩,?_⟩
   ·rw [hmul2,List.length_modify]; omega
   ·intro i j h1 h2 h3 h4;rw [show 64 - 2*((lev:Int)+1).toNat=62 - 2*lev by omega]
    simp only [Int.toNat_natCast] at h1 h2 h3 h4;rw [s3 i h1 h2,s3 j h3 h4]
   ·rw [List.length_modify,hz,show at_=zs0.length from hl0.symm,ql,List.append_assoc,List.cons_append]
    have hlen2:(zs0++([(lev:Int),key,(fr:Int),(to:Int)]++ks) :: D).length=zs0.length+1+D.length:=by simp; omega
    rw [hlen2];have:=hn (aR xs (62 - 2*lev) to f,q+1,zs0++([(lev:Int),key,(fr:Int),(to:Int)]++ks.set q ((zs0.length+1+D.length:Nat):Int)) :: (D++bD xs n (lev+1) (kp xs (62 - 2*lev) f) f (aR xs (62 - 2*lev) to f) (zs0.length+1+D.length))) ⟨⟨by simp only; omega,s2,⟨_,_,by simpa using hkl,rfl,?_⟩,?_⟩,by simp only; omega,?_⟩ (by simp only; omega)
    ·rw [← TI hkl hi'] at this;rw [hl0] at this ⊢;exact this
    ·rw [htree,o9 hc.1];simp only [yt,gq,List.length_append,List.append_assoc,Nat.add_assoc,hqq]
    ·simp only [List.length_append,List.length_cons];have h2:=nR xs n (lev+1) (kp xs (62 - 2*lev) f) f (aR xs (62 - 2*lev) to f) (zs0.length+1+D.length) s1;omega
    ·intro j hj1 hj2;simp only at hj1 ⊢;have hge:=hrest (aR xs (62 - 2*lev) to f) (by omega) (by omega)
     have hup:=hpart.up (i:=aR xs (62 - 2*lev) to f) (by omega) hj1 hj2
     have hne:pV (rd xs (aR xs (62 - 2*lev) to f) 0) lev≠q:=by
      rcases s4 with s4 | s4
      ·omega
      ·intro h5;apply s4;rw [hpart.same (by omega) (by omega) a1 hc.1,h5,hc.2]
     omega
  ·
   rw [Bz hc];refine ⟨fun h=>absurd h (by omega),fun _=>?_⟩
   refine hn (f,q+1,zs1) ⟨⟨a1,a2,⟨ks,D,hkl,hz,htree⟩,hcnt⟩,by simp only; omega,?_⟩ (by simp only; omega)
   intro j hj1 hj2;simp only at hj1 ⊢;have h1:=hrest f (Nat.le_refl _) (by omega)
   have h2:=hpart.up a1 hj1 hj2;have h3:pV (rd xs f 0) lev≠q:=fun h=>hc ⟨by omega,h⟩
   omega
 ·intro hi;have e:f=to:=by
   rcases Nat.lt_or_ge f to with h | h
   ·have h1:=hrest f (Nat.le_refl _) h;have h2:=(zM (rd xs f 0) lev).2;omega
   ·omega
  subst e;refine hk _ _ (by simp) ?_
  rw [agx (Nat.le_refl _)] at htree;simp only [yt,gq,List.append_nil] at htree;rw [hl0] at htree;rw [htree,← hz] at hK;exact hK
theorem UJ {n:Nat} (ih:cf TP 110 (ZN n)):KnowOk TP (NU n) 1:=by
 refine ⟨mixedOrders,?_,?_,?_,fun f h=>(by cases h)⟩
 ·intro g sp h;simp only [NU,V6] at h;split at h
  ·rename_i hg; subst hg; cases h; exact c37
  ·cases h
 ·intro d' hd f i S n0 hS;have:d' = 0:=by omega
  subst this;simp only [NU] at hS;split at hS
  ·rename_i hf;subst hf;split at hS
   ·rename_i hi; subst hi; cases hS; exact PJ (NU n) n0
   ·split at hS
    ·rename_i hi; subst hi; cases hS; exact PI n n0
    ·split at hS
     ·rename_i hi; subst hi; cases hS; exact PH n n0
     ·cases hS
  ·cases hS
 ·intro g G hG;simp only [NU] at hG;split at hG
  ·rename_i hg; subst hg; cases hG; exact ih
  ·cases hG
theorem Xn:∀ n,cf TP 110 (ZN n)
 | 0=>by
  rintro args b K ⟨⟨h1,h2,⟨p1,p2,p3,_⟩,_⟩,hK⟩;exact absurd p3 (by simp only [Int.natCast_zero] at *; omega)
 | n+1=>by
  refine cL 1 (UJ (Xn n)) ?_;rintro args b K ⟨⟨h1,h2,hp⟩,hK⟩;generalize ae args 2 0=lev at *;generalize ae args 2 1=key at *;generalize ae args 2 2=fr at *;generalize ae args 2 3=to at *;generalize ae args 2 4=k0 at *;generalize ae args 2 5=k1 at *;generalize ae args 2 6=k2 at *;generalize ae args 2 7=k3 at *;generalize dh b 1=xs at *;generalize dh b 0=zs at *;subst h1;subst h2;show bQ TP (NU n) 1 110 _ _ (fun v b1=>ld 2 v b1 K)
  rw [v30]; delta Jaa Jab Jac Jad Jae Jaf Jag Jah Jai Jaj Jak Jal Jan Jao Jaq Jar Jas Jav Jaw JaF JaH JaM JaU JaV Ja8 Jbv Jbk Jbm Jbo Jbz;obtain ⟨⟨p1,p1',p2,p3,p4,p5,p6,p7,p8⟩,hR,hone⟩:=hp;have hp:BK (n+1) xs zs lev fr to:=⟨⟨p1,p1',p2,p3,p4,p5,p6,p7,p8⟩,hR,hone⟩;have e0:(List.replicate (1:Nat) (List.replicate (8:Nat) (0:Int))).set (0:Nat) [lev,key,fr,to,k0,k1,k2,k3]=[[lev,key,fr,to,k0,k1,k2,k3]]:=rfl;have hzl:(zs.length:Int)<=1000000:=by
   have:(0:Int)<=((n+1:Nat):Int)*(to - fr):=Int.mul_nonneg (by omega) (by omega)
   omega
  have hlv:(lev.toNat:Int)=lev:=by omega
  have htk:∀ r:L2,(zs++r).take ((zs.length:Nat):Int).toNat=zs:=by intro r; simp
  rw [e0,al,al,i64_in (to - fr) (by omega)]
  simp only [htk];have small:(to - fr<=4∨lev ≥ 32)->K (.sl 2) [none,ro xs,some (.row 70 nk (zs++[ou lev key fr to]))]:=by
   intro h;have:bD xs (n+1) lev.toNat key fr.toNat to.toNat zs.length=[ou lev key fr to]:=by
    simp only [bD];rw [if_pos (by omega)]
    simp only [ou];have h3:((fr.toNat:Nat):Int)=fr:=by omega
    have h4:((to.toNat:Nat):Int)=to:=by omega
    rw [hlv,h3,h4]
   rw [this] at hK;exact hK
  refine ⟨by first | omega | (simp; omega),⟨by first | rfl | trivial,by first | rfl | trivial,?_,by omega,by simp,by first | rfl | trivial⟩,fun h=>small (.inl h),fun h=>⟨fun h2=>small (.inr h2),fun h2=>⟨⟨by first | rfl | trivial,by first | rfl | trivial,?_,?_,by omega,by simp,by first | rfl | trivial,by first | rfl | trivial,by omega,by omega⟩,?_⟩⟩⟩
  ·rw [htk]
  ·rw [htk]; exact hp
  ·rw [htk]
  ·exact hK
theorem c22:aa TP 58 (⟨fun l bs=>mj l bs,fun _ bs=>(.sl 0,[.row 70 nk (bL (aA bs 0))])⟩:Vs.Spec):=by
 refine ab 1 ⟨mixedOrders,?_,cO (N:=YA) (fun _ _=>rfl) 1,?_,fun f h=>(by cases h)⟩ (N:=YA) ?_
 ·intro g sp h;simp only [YA] at h;split at h
  ·rename_i hg; subst hg; cases h; exact Ye
  ·cases h
 ·intro g G hG;simp only [YA] at hG;split at hG
  ·rename_i hg; subst hg; cases hG; exact Xn 33
  ·cases hG
 ·rintro l bs _ _ ⟨xs,rfl,rfl,hl,hk⟩;rw [v22]; delta Jad Jag Jaj Jao Jaq Jar Jav JaF JaG Ja4 Ja7 Jbj Jbs; rw [aL,aL];constructor
  ·intro h;have:xs=[]:=List.eq_nil_of_length_eq_zero (by simpa using h)
   subst this;show (IV.sl 0,[aq.row 70 nk (bL [])])=_;rw [g9]
   rfl
  ·intro h;have hne:xs≠[]:=by rintro rfl; simp at h
   have hpos:0 < xs.length:=List.length_pos_iff.2 hne;refine ⟨⟨_,rfl,rfl,by omega⟩,fun h2=>?_,fun h2=>?_⟩
   ·have h3:¬ fE xs:=fun h4=>by rw [pJ h4] at h2; cases h2
    show (IV.sl 0,[aq.row 70 nk (bL xs)])=_;rw [kY h3]
    rfl
   ·have h3:fE xs:=xq.1 (by simpa using h2)
    refine ⟨⟨rfl,rfl,⟨by omega,by omega,by omega,by omega,by omega,by omega,by omega,hk,by simp; omega⟩,h3,?_⟩,?_⟩
    ·intro i j _ _ _ _;have h4:=hk i;have h5:=hk j;show shr (rd xs i 0) 64=shr (rd xs j 0) 64;rw [gH,gH,Int.ediv_eq_zero_of_lt h4.1 (by simpa using h4.2),Int.ediv_eq_zero_of_lt h5.1 (by simpa using h5.2)]
    ·show (IV.sl 0,[aq.row 70 nk (bL xs)])=_;rw [fZ hne h3]
     rfl
end Go.Vs.RS
namespace Go.Vs.RF
open Go Go.Proofs Go.Vs
def fG:List IntKind:=[.i64,.u64,.i64,.u64,.i64,.u64,.i64,.u64]
def kQ:List IntKind:=[.i64,.u64,.i64,.i64,.i64,.i64,.i64,.i64]
def vd:Vs.Spec:=⟨RS.rE,fun l bs=>(.sl 0,[.row 72 [.u64,.i64] (RS.nU (aA bs 0))])⟩
def De:FuncId->Option Vs.Spec:=fun g=>if g=yF then some vd else if g=mD then some vd else if g=oI then some vf else if g=jk then some vf else if g=lR then some R1 else if g=ak then some Kp else if g=mW then some FZ else if g=gv then some FZ else pM g
def Zl (r:L1):Int:=qt (jc (fr r 4)) (jc (fr r 6))
def mR (xs:L2) (n:Nat):L2:=(List.range n).map fun (i:Nat)=>[Zl (xs.getD i []),(i:Int)]
def gy (xs ks:L2) (i:Int):St:=⟨T 24 [(3,.sl 1),(6,.sl 0),(7,.int .i64 xs.length),(8,.int .i64 i)],[some (.ro aM xs),some (.row 72 [.u64,.i64] ks)]⟩
def c8 (xs ks:L2) (i:Int):St:=⟨T 24 [(0,.sl 0),(3,.sl 1),(4,.int .i64 i)],[some (.ro aM xs),some (.row 72 [.u64,.i64] ks)]⟩
def Mbd:List IntKind:=.u64::MaQ
def MgT (a:L2)(b:Nat)(c:List IntKind)(d:L2)(e:OB):OB:=Mam aM a (.row b c d) e
theorem rKd (Λ:FuncId->Nat->Option aB) (d:Nat) (xs ks:L2) (i:Int) (k:Out->St->Prop):(round (ai TP { Γ:=De,Λ:=Λ,Τ:=fun _=>none } d) cS 1 0 (lp TP cS 0) (gy xs ks i) k) =(∀a,MfL a xs i (∀b,MfM b xs i (∀c,Mgh c xs i (∀e,Mgi e xs i (∀f,Me9 f i i xs i xs f f (y7 (Mdn a b c e []) []) (Mhg ks 16) (k .normal (MaM 24 (MiB 3 1 6 7 xs 8 (Met i)) (MgT xs 72 Mbd (MhA ks 2 [qt (jc (Ma2 a b)) (jc (Ma2 c e)),i]) []))) (k MbI (Ma3 24 3 (.sl 1) [] (MgT xs 72 Mbd ks [])))))))) :=by delta Maa Mab Mac Maf Mag Mai Maj Mal Mam Map Maq Mar Mat Mau Mav MaA MaB MaE MaG MaM MaQ MaS MaU MaX Ma2 Ma3 Ma6 Mbd Mbk Mbo Mbp Mbv MbI Mb5 Mcq Mcu Mdf Mdn Mdp Met Me9 MfL MfM Mgh Mgi MgT Mhg MhA MiB; (iterate 5 refine nm ?_); kernel_rfl
theorem rRk (Λ:FuncId->Nat->Option aB) (d:Nat) (xs ks:L2) (i:Int) (k:Out->St->Prop):(round (ai TP { Γ:=De,Λ:=Λ,Τ:=fun _=>none } d) bz 1 0 (lp TP bz 0) (c8 xs ks i) k) =(∀a,MfL a xs i (∀b,MfM b xs i (∀c,Mgh c xs i (∀e,Mgi e xs i (∀f,Me9 f i i xs i xs f f (y7 (Mdn a b c e []) []) (Mhg ks 16) (k .normal (Ma3 24 0 Mb5 (Mdj 3 1 4 (Met i) []) (MgT xs 72 Mbd (MhA ks 2 [qt (jc (Ma2 a b)) (jc (Ma2 c e)),i]) []))) (k MbI (Ma3 24 3 (.sl 1) [] (MgT xs 72 Mbd ks [])))))))) :=by delta Maa Mab Mac Maf Mag Mai Maj Mal Mam Map Maq Mar Mat Mau Mav MaA MaB MaE MaM MaQ MaS MaU MaX Ma2 Ma3 Ma6 Mbd Mbk Mbo Mbp Mbv MbI Mb5 Mcq Mdj Mdn Mdp Met Me9 MfL MfM Mgh Mgi MgT Mhg MhA; (iterate 5 refine nm ?_); kernel_rfl
def wT (n:Nat) (xs:L2):Prop:=∀ r∈xs,r.length=n
def Xg (n0:Nat) (st:St) (xs:L2):Prop:=aI aM xs/\wT 20 xs/\xs.length<=1000/\n0=1/\st=gy xs [] 0
def W9 (n0:Nat) (st:St) (xs:L2):Prop:=aI aM xs/\wT 20 xs/\xs.length<=1000/\n0=1/\st=c8 xs [] 0
def Lkd:aB:=fun n0 st K=>∃xs,Xg n0 st xs/\K (.exit 0) ⟨T 24 [(3,.sl 1)],[some (.ro aM xs),some (.row 72 [.u64,.i64] (mR xs xs.length))]⟩
def Lrk:aB:=fun n0 st K=>∃xs,W9 n0 st xs/\K (.exit 0) ⟨T 24 [(3,.sl 1)],[some (.ro aM xs),some (.row 72 [.u64,.i64] (mR xs xs.length))]⟩
def SK:Know:={ Γ:=De,Λ:=fun f i=>if f=cS then (if i=0 then some Lkd else none) else if f=bz then (if i=0 then some Lrk else none) else none,Τ:=fun _=>none }
def Mhz (a:Nat)(b:List IntKind)(c:L2):List aq:=[.row a b c]
theorem OX (xs:L2) (K:KP):(comes TP SK 3 cS [.sl 0] [.ro aM xs] K) =(∃a:L2,Mav (Xg 1 (MaM 24 (MiB 3 1 6 7 xs 8 Mdg) (Mc6 aM xs 72 Mbd [])) a) (RS.rE Me5 (Mdv Mbd (mR a (List.length a)))) (K Mb5 (Mhz 72 Mbd (RS.nU (mR a (List.length a)))))) :=by kernel_rfl
theorem J5 (xs:L2) (K:KP):(comes TP SK 3 bz [.sl 0] [.ro aM xs] K) =(∃a:L2,Mav (W9 1 (Ma3 24 0 Mb5 (Mdj 3 1 4 Mdg []) (Mc6 aM xs 72 Mbd [])) a) (RS.rE Me5 (Mdv Mbd (mR a (List.length a)))) (K Mb5 (Mhz 72 Mbd (RS.nU (mR a (List.length a)))))) :=by kernel_rfl
def lE (xs:L2):L2:=RS.nU (mR xs xs.length)
def Za (l:List IV) (bs:List aq):Prop:=∃xs,l=[.sl 0]/\bs=[.ro aM xs]/\wT 20 xs/\xs.length<=1000
def O9:Vs.Spec:=⟨Za,fun _ bs=>(.sl 0,[.row 72 [.u64,.i64] (lE (aA bs 0))])⟩
def Hx:FuncId->Option Vs.Spec:=fun g=>if g=cS then some O9 else if g=bz then some O9 else De g
def dy (ns ks xs cs:L2) (i:Int):St:=⟨T 63 [(1,.sl 1),(2,.sl 2),(8,.sl 3),(17,.sl 0),(18,.int .i64 ns.length),(19,.int .i64 i)],[some (.ro kQ ns),some (.ro [.u64,.i64] ks),some (.ro aM xs),some (.row 160 fG cs)]⟩
def Src (ns ks xs cs:L2) (i:Int):St:=⟨T 67 [(0,.sl 0),(1,.sl 1),(2,.sl 2),(6,.ptr 3 0),(7,.sl 4),(8,.int .i64 i)],[some (.ro kQ ns),some (.ro [.u64,.i64] ks),some (.ro aM xs),some (.var 125 [.sl 5,.int .i64 0]),some (.row 160 fG cs),some (.row 160 fG [])]⟩
section
open Go.IntWalk
theorem QJ:aa TP yF vd:=RS.c15
theorem X5:aa TP mD vd:=RS.c16
theorem Ms:∀ {g:FuncId} {sp:Vs.Spec},De g=some sp->aa TP g sp:=ao QJ (ao X5 (ao aaY (ao X6 (ao Nz (ao Jg (ao QX (ao Nq lW)))))))
theorem yu (xs:L2) (i:Nat):mR xs (i+1)=mR xs i++[[Zl (xs.getD i []),(i:Int)]]:=by
 unfold mR;rw [List.range_succ,List.map_append]
 rfl
theorem se (xs:L2) (n:Nat):(mR xs n).length=n:=by unfold mR; simp
theorem Cw (xs:L2) (n:Nat):RS.hU (mR xs n):=by
 intro x hx;unfold mR at hx;rw [List.mem_map] at hx;obtain ⟨i,_,rfl⟩:=hx;exact ⟨_,_,rfl⟩
theorem SJ {xs:L2} (hr:aI aM xs) (i:Nat):y7 [IV.agg [.int .i64 (rd xs i 4),.int .u64 (rd xs i 5),.int .i64 (rd xs i 6),.int .u64 (rd xs i 7)]] []:=by
 have h4:-9223372036854775808<=rd xs i 4/\rd xs i 4<=9223372036854775807:=pb hr i 4 (by decide)
 have h6:-9223372036854775808<=rd xs i 6/\rd xs i 6<=9223372036854775807:=pb hr i 6 (by decide)
 have h5:0<=rd xs i 5/\rd xs i 5 < 18446744073709551616:=cH hr i 5 (by decide) rfl
 have h7:0<=rd xs i 7/\rd xs i 7 < 18446744073709551616:=cH hr i 7 (by decide) rfl
 rw [ik h5 h7];exact y6 ⟨by omega,by omega⟩ ⟨by omega,by omega⟩
theorem lKd (d n0:Nat):aG (ai TP SK d) cS n0 0 (lp TP cS 0) Lkd:=by
 intro st K hst;obtain ⟨xs,⟨hr,hl,hm,rfl,rfl⟩,hK⟩:=hst;refine aC (fun i:Nat=>gy xs (mR xs i) i) (fun i=>i<=xs.length) (fun i=>xs.length - i) ?_ (a:=0) (Nat.zero_le _)
 intro i hle k hn hk;show round (ai TP { Γ:=De,Λ:=_,Τ:=fun _=>none } d) _ _ _ _ _ k
 rw [rKd]; delta Maa Mab Mac Maf Mag Mai Maj Mal Mam Map Maq Mar Mat Mau Mav MaA MaB MaE MaG MaM MaQ MaS MaU MaX Ma2 Ma3 Ma6 Mbd Mbk Mbo Mbp Mbv MbI Mb5 Mcq Mcu Mdf Mdn Mdp Met Me9 MfL MfM Mgh Mgi MgT Mhg MhA MiB;rw [show ((i:Nat):Int).toNat=i by omega]
 rintro t1 rfl t2 rfl t3 rfl t4 rfl t5 e5;rw [al];constructor
 ·intro hi;have p5:t5:=by rw [e5]; omega
  refine ⟨p5,p5,SJ hr i,by rw [se]; omega,?_⟩
  rw [show IntKind.i64.wrap ((i:Int)+1)=((i+1:Nat):Int) by rw [i64_in _ (by omega)]; rfl]
  have:=hn (i+1) (by omega) (by omega)
  rw [yu] at this;exact this
 ·intro hi;have hi':i=xs.length:=by omega
  subst hi';exact hk _ _ (by simp) hK
theorem lRk (d n0:Nat):aG (ai TP SK d) bz n0 0 (lp TP bz 0) Lrk:=by
 intro st K hst;obtain ⟨xs,⟨hr,hl,hm,rfl,rfl⟩,hK⟩:=hst;refine aC (fun i:Nat=>c8 xs (mR xs i) i) (fun i=>i<=xs.length) (fun i=>xs.length - i) ?_ (a:=0) (Nat.zero_le _)
 intro i hle k hn hk;show round (ai TP { Γ:=De,Λ:=_,Τ:=fun _=>none } d) _ _ _ _ _ k
 rw [rRk]; delta Maa Mab Mac Maf Mag Mai Maj Mal Mam Map Maq Mar Mat Mau Mav MaA MaB MaE MaM MaQ MaS MaU MaX Ma2 Ma3 Ma6 Mbd Mbk Mbo Mbp Mbv MbI Mb5 Mcq Mdj Mdn Mdp Met Me9 MfL MfM Mgh Mgi MgT Mhg MhA;rw [show ((i:Nat):Int).toNat=i by omega]
 rintro t1 rfl t2 rfl t3 rfl t4 rfl t5 e5;rw [al];constructor
 ·intro hi;have p5:t5:=by rw [e5]; omega
  refine ⟨p5,p5,SJ hr i,by rw [se]; omega,?_⟩
  rw [show IntKind.i64.wrap ((i:Int)+1)=((i+1:Nat):Int) by rw [i64_in _ (by omega)]; rfl]
  have:=hn (i+1) (by omega) (by omega)
  rw [yu] at this;exact this
 ·intro hi;have hi':i=xs.length:=by omega
  subst hi';exact hk _ _ (by simp) hK
theorem LJ:KnowOk TP SK 3:=by
 refine ti (fun g sp h=>Ms h) ?_ (fun g G h=>by cases h) 3
 intro f i S hS d n0;simp only [SK] at hS;split at hS
 ·rename_i hf;subst hf;split at hS
  ·rename_i hi; subst hi; cases hS; exact lKd d n0
  ·cases hS
 split at hS
 ·rename_i hf;subst hf;split at hS
  ·rename_i hi; subst hi; cases hS; exact lRk d n0
  ·cases hS
 ·cases hS
theorem BH {xs:L2} (h:xs.length<=1000):RS.rE [IV.sl 0] [aq.ro [.u64,.i64] (mR xs xs.length)]:=⟨_,rfl,rfl,Cw _ _,by rw [se]; omega⟩
theorem Hj:aa TP cS O9:=by
 refine ab (N:=SK) 3 LJ ?_;rintro l bs _ hB ⟨xs,rfl,rfl,hl,hm⟩;have hb:aI aM xs/\0 < aM.length/\xs.length<=maxLen:=hB (.ro aM xs) (List.mem_singleton.2 rfl);show comes _ _ _ _ _ _ fun v bs'=>(IV.sl 0,([.row 72 [.u64,.i64] (lE xs)]:List aq))=(v,bs')
 rw [OX]; delta Maa Mac Mag Mak Mam Map Mat Mav MaG MaM MaQ Mbd Mb5 Mcu Mc6 Mdf Mdg Mdv Me5 Mhz MiB;exact ⟨xs,⟨hb.1,hl,hm,rfl,rfl⟩,BH hm,rfl⟩
theorem CV:aa TP bz O9:=by
 refine ab (N:=SK) 3 LJ ?_;rintro l bs _ hB ⟨xs,rfl,rfl,hl,hm⟩;have hb:aI aM xs/\0 < aM.length/\xs.length<=maxLen:=hB (.ro aM xs) (List.mem_singleton.2 rfl);show comes _ _ _ _ _ _ fun v bs'=>(IV.sl 0,([.row 72 [.u64,.i64] (lE xs)]:List aq))=(v,bs')
 rw [J5]; delta Maa Mac Mag Mak Mam Map Mav MaM MaQ Ma3 Mbd Mb5 Mc6 Mdg Mdj Mdv Me5 Mhz;exact ⟨xs,⟨hb.1,hl,hm,rfl,rfl⟩,BH hm,rfl⟩
theorem U1:∀ {g:FuncId} {sp:Vs.Spec},Hx g=some sp->aa TP g sp:=ao Hj (ao CV Ms)
end
def Xr (ns:L2) (i:Nat):List IV:=bN kQ ns i 0 8
def dx (ns ks xs cs bd sb:L2) (i:Nat) (j:Int):St:=⟨T 63 [(1,.sl 1),(2,.sl 2),(8,.sl 3),(10,.ptr 4 0),(11,.sl 5),(17,.sl 0),(18,.int .i64 ns.length),(19,.int .i64 (i:Int)),(28,.sl 6),(29,.int .i64 sb.length),(30,.int .i64 j)],[some (.ro kQ ns),some (.ro [.u64,.i64] ks),some (.ro aM xs),some (.row 160 fG cs),some (.var 70 (Xr ns i)),some (.row 79 aM bd),some (.ro [.u64,.i64] sb)]⟩
def Med (a:Nat):IV:=Maa (↑a:Int)
def Mgm (a b:L2)(c:OB):OB:=Man kQ a Mbd b c
def Mhn (a b:L2)(c:OB):OB:=Man Mbd a aM b c
theorem rmi (Λ:FuncId->Nat->Option aB) (d:Nat) (ns ks xs cs bd sb:L2) (i:Nat) (j:Int) (k:Out->St->Prop):(round (ai TP { Γ:=Hx,Λ:=Λ,Τ:=fun _=>none } d) aeo 3 1 (lp TP aeo 1) (dx ns ks xs cs bd sb i j) k) =(∀a,Mel a sb j (∀b,MiJ b j sb (∀c,Mdp c a a xs j sb (MiU b c (Mhg bd 160) (k .normal (Ma3 63 1 (.sl 1) (Mdj 2 2 8 Mfu (Mbl 10 4 11 (.sl 5) 17 Mb5 18 (Mat ns) (MaG 19 (Med i) 28 (.sl 6) 29 (Mcu sb) 30 (Met j) []))) (MaV kQ ns (Mhn ks xs (Mag (.row 160 fG cs) (.var 70 (Mai (rd ns i 0) (rd ns i 1) (MaD (rd ns i 2) (rd ns i 3) (MaD (rd ns i 4) (rd ns i 5) (MaD (rd ns i 6) (rd ns i 7) []))))) (Mag (Mc2 (bd++MaU 1 20 0 0 (List.reverse (MfA xs a 19 xs a 18 xs a 17 xs a 16 (Maw (Mar xs a 15) (Mar xs a 14) (Mar xs a 13) (Mar xs a 12) (Maw (Mar xs a 11) (Mar xs a 10) (Mar xs a 9) (Mar xs a 8) (Maw (Mar xs a 7) (Mar xs a 6) (Mar xs a 5) (Mar xs a 4) (Maw (Mar xs a 3) (Mar xs a 2) (Mar xs a 1) (Mar xs a 0) [])))))))) (.ro Mbd sb) []))))))) (k Mee (MaM 63 (Mdf 1 1 2 (.sl 2) 8 Mfu 10 (Mao 4) (MiB 11 5 17 18 ns 19 (Med i))) (Mgm ns ks (MgT xs 160 fG cs (Mba 70 (Mai (rd ns i 0) (rd ns i 1) (MaD (rd ns i 2) (rd ns i 3) (MaD (rd ns i 4) (rd ns i 5) (MaD (rd ns i 6) (rd ns i 7) [])))) 79 aM bd [])))))))) :=by delta Maa Mab Mac Maf Mag Mai Mal Mam Man Mao Map Mar Mat Mau Mav Maw MaA MaD MaE MaG MaM MaQ MaS MaU MaV MaX Ma3 Ma4 Ma6 Mba Mbd Mbk Mbl Mbo Mbp Mbv Mb5 Mcq Mcu Mc2 Mda Mdf Mdj Mdp Med Mee Mel Met Mfu MfA Mgm MgT Mhg Mhn MiB MiJ MiU; (iterate 3 refine nm ?_); kernel_rfl
def fz (xs sb:L2):L2:=sb.map fun k=>xs.getD (k.getD 1 0).toNat []
def oB (n:Nat) (sb:L2):Prop:=∀ k∈sb,0<=k.getD 1 0/\k.getD 1 0 < (n:Int)
def WZ (n0:Nat) (st:St) (ns ks xs cs sb:L2) (i:Nat):Prop:=wT 20 xs/\oB xs.length sb/\sb.length<=1000/\n0=3/\st=dx ns ks xs cs [] sb i 0
def Lmi:aB:=fun n0 st K=>∃ns ks xs cs sb i,WZ n0 st ns ks xs cs sb i/\K (.exit 2) ⟨T 63 [(1,.sl 1),(2,.sl 2),(8,.sl 3),(10,.ptr 4 0),(11,.sl 5),(17,.sl 0),(18,.int .i64 ns.length),(19,.int .i64 (i:Int))],[some (.ro kQ ns),some (.ro [.u64,.i64] ks),some (.ro aM xs),some (.row 160 fG cs),some (.var 70 (Xr ns i)),some (.row 79 aM (fz xs sb))]⟩
def Ym (ns ks xs cs bd:L2) (i:Nat) (j:Int):St:=⟨T 67 [(0,.sl 0),(1,.sl 1),(2,.sl 2),(6,.ptr 3 0),(7,.sl 4),(8,.int .i64 (i:Int)),(9,.sl 5),(10,.int .i64 j)],[some (.ro kQ ns),some (.ro [.u64,.i64] ks),some (.ro aM xs),some (.var 125 [.sl 6,.int .i64 0]),some (.row 160 fG cs),some (.row 79 aM bd),some (.row 160 fG [])]⟩
def Mco (a b:Nat)(c:List IV)(d:Nat)(e:List IntKind)(f:L2)(g:OB):OB:=Mba a (Mak b c) d e f g
abbrev McY (a:Int)(b:L2)(c d:Nat)(e:Prop):Prop:=MaX a b (↑c:Int) d e
theorem rri (Λ:FuncId->Nat->Option aB) (d:Nat) (ns ks xs cs bd:L2) (i:Nat) (j:Int) (k:Out->St->Prop):(round (ai TP { Γ:=Hx,Λ:=Λ,Τ:=fun _=>none } d) aQ 3 1 (lp TP aQ 1) (Ym ns ks xs cs bd i j) k) =(∀a,Mel a ks j (∀b,McY b ns i 3 (∀c,MiJ c j ks (∀e,MiJ e (↑i:Int) ns (∀f,MiJ f a xs (Mav e e (Mbv j b (MiU c f (Mhg bd 160) (k .normal (MaM 67 (Mem 0 Mb5 1 (.sl 1) 2 (.sl 2) 6 3 (Mdf 7 4 8 (Med i) 9 (.sl 5) 10 (Met j) [])) (MaV kQ ns (Mhn ks xs (Mco 125 6 MbD 160 fG cs (Mbe (Mc2 (bd++MaU 1 20 0 0 (List.reverse (MfA xs a 19 xs a 18 xs a 17 xs a 16 (Maw (Mar xs a 15) (Mar xs a 14) (Mar xs a 13) (Mar xs a 12) (Maw (Mar xs a 11) (Mar xs a 10) (Mar xs a 9) (Mar xs a 8) (Maw (Mar xs a 7) (Mar xs a 6) (Mar xs a 5) (Mar xs a 4) (Maw (Mar xs a 3) (Mar xs a 2) (Mar xs a 1) (Mar xs a 0) [])))))))) 160 fG []))))))) (k Mee (Ma3 67 0 Mb5 (Mdj 1 1 2 (.sl 2) (Ma4 6 3 7 (.sl 4) 8 (Med i) 9 (.sl 5) [])) (MaV kQ ns (Mhn ks xs (Mco 125 6 MbD 160 fG cs (Mbe (Mc2 bd) 160 fG []))))))))))))) :=by delta Maa Mac Maf Mag Mak Mal Mam Man Mao Map Mar Mat Mau Mav Maw MaA MaE MaG MaM MaQ MaS MaU MaV MaX MaY Ma3 Ma4 Ma6 Mba Mbd Mbe Mbk Mbo Mbp Mbv MbD Mb5 Mco McY Mc2 Mda Mdf Mdj Med Mee Mel Mem Met MfA Mhg Mhn MiJ MiU; (iterate 5 refine nm ?_); kernel_rfl
def dX (ns ks:L2) (i:Nat):L2:=List.drop (rd ns i 2).toNat (List.take (rd ns i 3).toNat ks)
def WX (n0:Nat) (st:St) (ns ks xs cs:L2) (i:Nat):Prop:=wT 20 xs/\oB xs.length ks/\ks.length<=1000/\i < ns.length/\(0<=rd ns i 2/\rd ns i 2<=rd ns i 3/\rd ns i 3<=ks.length)/\n0=3/\st=Ym ns ks xs cs [] i (rd ns i 2)
def Lri:aB:=fun n0 st K=>∃ns ks xs cs i,WX n0 st ns ks xs cs i/\K (.exit 2) ⟨T 67 [(0,.sl 0),(1,.sl 1),(2,.sl 2),(6,.ptr 3 0),(7,.sl 4),(8,.int .i64 (i:Int)),(9,.sl 5)],[some (.ro kQ ns),some (.ro [.u64,.i64] ks),some (.ro aM xs),some (.var 125 [.sl 6,.int .i64 0]),some (.row 160 fG cs),some (.row 79 aM (fz xs (dX ns ks i))),some (.row 160 fG [])]⟩
def CK (ns ks xs:L2) (i:Nat):L2:=fz xs (dX ns ks i)
def Fg (ns ks xs:L2) (i:Nat):L1:=[cM (CK ns ks xs i) / 18446744073709551616,cM (CK ns ks xs i) % 18446744073709551616,cX (CK ns ks xs i) / 18446744073709551616,cX (CK ns ks xs i) % 18446744073709551616,cY (CK ns ks xs i) / 18446744073709551616,cY (CK ns ks xs i) % 18446744073709551616,qd (rd ns i 0) / 18446744073709551616,qd (rd ns i 0) % 18446744073709551616]
def qR (ns ks xs:L2) (n:Nat):L2:=(List.range n).map (Fg ns ks xs)
def xP (ns ks xs:L2):Nat->Nat->Int
 | 0,_=>0
 | m+1,i=>if cE (CK ns ks xs i)≠0 then cE (CK ns ks xs i) else xP ns ks xs m (i+1)
def xz (ns ks xs:L2):Int:=xP ns ks xs ns.length 0
def Dc (ns ks xs:L2):L2:=if xz ns ks xs=0 then qR ns ks xs ns.length else []
def Gx (ns ks:L2):Prop:=∀ i:Nat,i < ns.length->0<=rd ns i 2/\rd ns i 2<=rd ns i 3/\rd ns i 3<=ks.length
def pCl (ns ks xs:L2):Prop:=(aI kQ ns/\aI aM xs)/\wT 20 xs/\ja xs/\oB xs.length ks/\ks.length<=1000/\ns.length<=1000000/\Gx ns ks
def WY (n0:Nat) (st:St) (ns ks xs:L2):Prop:=pCl ns ks xs/\n0=3/\st=dy ns ks xs [] 0
def WW (n0:Nat) (st:St) (ns ks xs:L2):Prop:=pCl ns ks xs/\n0=3/\st=Src ns ks xs [] 0
def Lmo:aB:=fun n0 st K=>∃ns ks xs,WY n0 st ns ks xs/\br (xz ns ks xs != 0) (K .ret ⟨T 63 [(6,.sl 3),(7,.int .i64 (xz ns ks xs))],[some (.ro kQ ns),some (.ro [.u64,.i64] ks),some (.ro aM xs),some (.row 160 fG [])]⟩) (K (.exit 0) ⟨T 63 [(8,.sl 3)],[some (.ro kQ ns),some (.ro [.u64,.i64] ks),some (.ro aM xs),some (.row 160 fG (qR ns ks xs ns.length))]⟩)
def Lro:aB:=fun n0 st K=>∃ns ks xs,WW n0 st ns ks xs/\br (xz ns ks xs != 0) (K .ret ⟨T 67 [(6,.ptr 3 0)],[some (.ro kQ ns),some (.ro [.u64,.i64] ks),some (.ro aM xs),some (.var 125 [.sl 4,.int .i64 (xz ns ks xs)]),some (.row 160 fG [])]⟩) (K (.exit 0) ⟨T 67 [(6,.ptr 3 0),(7,.sl 4)],[some (.ro kQ ns),some (.ro [.u64,.i64] ks),some (.ro aM xs),some (.var 125 [.sl 5,.int .i64 0]),some (.row 160 fG (qR ns ks xs ns.length)),some (.row 160 fG [])]⟩)
def Hv:Know:={ Γ:=Hx,Λ:=fun f i=>if f=aeo then (if i=0 then some Lmo else if i=1 then some Lmi else none) else if f=aQ then (if i=0 then some Lro else if i=1 then some Lri else none) else none,Τ:=fun _=>none }
def McN (a:L2)(b c:Nat):Int:=Mar a (↑b:Int) c
def Mfp (a b:Int)(c:L2):L2:=List.drop (Int.toNat a) (List.take (Int.toNat b) c)
def MhE (a:L2)(b:Nat)(c d e f g h i:Int)(j:List IV):List IV:=Mai (McN a b 0) c (MaD d e (MaD f g (MaD h i j)))
def MhZ (a:Nat)(b:List IntKind)(c:L2)(d:OB):OB:=Mag (.row a b []) (.ro Mbd c) d
def MiV (a:L2):List aq:=Mdv aM a
theorem rmo (d:Nat) (ns ks xs cs:L2) (i:Nat) (k:Out->St->Prop):(round (ai TP Hv d) aeo 3 0 (lp TP aeo 0) (dy ns ks xs cs i) k) =(∀a,McY a ns i 2 (∀b,McY b ns i 3 (∀c,Mdp c (↑i:Int) (↑i:Int) ns (↑i:Int) ns (MiO c (Mg6 a (a<=b) (b<=Mat ks)) (∃e:L2,∃f:L2,∃g:L2,∃j:L2,∃l:L2,∃m:Nat,MdF (WZ 3 (Ma3 63 1 (.sl 1) (Mdj 2 2 8 Mfu (Mbl 10 4 11 (.sl 5) 17 Mb5 18 (Mat ns) (MaG 19 (Med i) 28 (.sl 6) 29 (Mcu (Mfp a b ks)) 30 Mdg []))) (MaV kQ ns (Mhn ks xs (Mag (.row 160 fG cs) (.var 70 (MhE ns i (McN ns i 1) a b (McN ns i 4) (McN ns i 5) (McN ns i 6) (McN ns i 7) [])) (MhZ 79 aM (Mfp a b ks) []))))) e f g j l m) (Zd Me5 (MiV (fz g l))) (cE (fz g l)) (k .ret (MaM 63 (Mdj 6 3 7 (Maa (cE (fz g l))) []) (Mgm e f (Mc6 aM g 160 fG [])))) (Mav (TZ (MaY (rd e m 0)) []) (Mhg j 64) (k .normal (MaM 63 (Mdj 1 1 2 (.sl 2) (MiB 8 3 17 18 e 19 (Met (↑m:Int)))) (Mgm e f (MgT g 160 fG (MhA j 8 (Maw (Mah (cM (fz g l))) (Mae (cM (fz g l))) (Mah (cX (fz g l))) (Mae (cX (fz g l))) (Maw (Mah (cY (fz g l))) (Mae (cY (fz g l))) (Mah (qd (rd e m 0))) (Mae (qd (rd e m 0))) []))) []))))))) (k MbI (Ma3 63 8 Mfu [] (Mgm ns ks (MgT xs 160 fG cs []))))))) :=by delta Maa Mab Mac Mae Maf Mag Mah Mai Mak Mal Mam Man Mao Map Mar Mat Mau Mav Maw MaA MaD MaG MaM MaQ MaS MaU MaV MaW MaX MaY Ma3 Ma4 Ma6 Mbd Mbk Mbl Mbo Mbp Mbv MbI MbV Mb5 Mcq Mcu McL McN McY Mc6 Mdf Mdg Mdj Mdp Mdv MdF Med Met Me5 Mfp Mfu Mgm MgT Mg6 Mhg Mhn MhA MhE MhZ MiB MiO MiV; (iterate 3 refine nm ?_); kernel_rfl
def Md5 (a b c:L2)(d:Nat):L2:=fz a (dX b c d)
theorem rro (d:Nat) (ns ks xs cs:L2) (i:Nat) (k:Out->St->Prop):(round (ai TP Hv d) aQ 3 0 (lp TP aQ 0) (Src ns ks xs cs i) k) =(∀a,Mdp a (↑i:Int) (↑i:Int) ns (↑i:Int) ns (Mav a a (∃b:L2,∃c:L2,∃e:L2,∃f:L2,∃g:Nat,MdF (WX 3 (MaM 67 (Mem 0 Mb5 1 (.sl 1) 2 (.sl 2) 6 3 (Mdf 7 4 8 (Med i) 9 (.sl 5) 10 (Maa (McN ns i 2)) [])) (MaV kQ ns (Mhn ks xs (Mco 125 6 MbD 160 fG cs (Mbn 79 aM 160 fG []))))) b c e f g) (Zd Me5 (MiV (Md5 e b c g))) (cE (Md5 e b c g)) (k .ret (Ma3 67 6 (Mao 3) [] (MaV kQ b (Mhn c e (Mcz 125 (Mak 4 (MaY (cE (Md5 e b c g)))) 160 fG []))))) (MaE (Mbk (↑g:Int) (↑g:Int) b) (Mbk (↑g:Int) (↑g:Int) b) (TZ (MaY (McN b g 0)) []) (Mhg f 64) (k .normal (MaM 67 (Map 0 Mb5 1 (.sl 1) (Mdf 2 2 6 (Mao 3) 7 (.sl 4) 8 (Met (↑g:Int)) [])) (Mgm b c (Mdb e 125 (Mak 5 MbD) (Mbe (.row 160 fG (MhA f 8 (Maw (Mah (cM (Md5 e b c g))) (Mae (cM (Md5 e b c g))) (Mah (cX (Md5 e b c g))) (Mae (cX (Md5 e b c g))) (Maw (Mah (cY (Md5 e b c g))) (Mae (cY (Md5 e b c g))) (Mah (qd (McN b g 0))) (Mae (qd (McN b g 0))) [])))) 160 fG [])))))))) (k MbI (MbU 67 6 3 7 (.sl 4) [] (Mgm ns ks (Mdb xs 125 (Mak 5 MbD) (Mbe (.row 160 fG cs) 160 fG [])))))) :=by delta Maa Mac Mae Maf Mag Mah Mak Mal Mam Man Mao Map Mar Mat Mav Maw MaA MaE MaG MaM MaQ MaS MaU MaV MaW MaY Ma3 Ma6 Mba Mbd Mbe Mbk Mbn Mbo Mbp Mbs Mbv MbD MbI MbU Mb5 Mco Mcq Mcz McL McN Mdb Mdf Mdp Mdv MdF Md5 Med Mem Met Me5 Mgm Mhg Mhn MhA MiV; refine nm ?_; kernel_rfl
theorem OZ (ns ks xs:L2) (K:KP):(comes TP Hv 3 aeo [.sl 0,.sl 1,.sl 2] [.ro kQ ns,.ro [.u64,.i64] ks,.ro aM xs] K) =(∃a:L2,∃b:L2,∃c:L2,Mcs (WY 3 (MaM 63 (Mdj 1 1 2 (.sl 2) (MiB 8 3 17 18 ns 19 Mdg)) (Mgm ns ks (Mc6 aM xs 160 fG []))) a b c) (xz a b c) (K (MdA (MaY (xz a b c))) (MbR 160 fG [])) (K (MdA MbD) (Mhz 160 fG (qR a b c (List.length a))))) :=by kernel_rfl
theorem J6 (ns ks xs:L2) (K:KP):(comes TP Hv 3 aQ [.sl 0,.sl 1,.sl 2] [.ro kQ ns,.ro [.u64,.i64] ks,.ro aM xs] K) =(∃a:L2,∃b:L2,∃c:L2,Mcs (WW 3 (MaM 67 (Map 0 Mb5 1 (.sl 1) (Mdf 2 2 6 (Mao 3) 7 (.sl 4) 8 Mdg [])) (Mgm ns ks (Mdb xs 125 (Mak 5 MbD) (Mbn 160 fG 160 fG [])))) a b c) (xz a b c) (K (MeM (MaY (xz a b c))) (MbR 160 fG [])) (K (MeM MbD) (Mhz 160 fG (qR a b c (List.length a))))) :=by kernel_rfl
def EB (l:List IV) (bs:List aq):Prop:=∃ns ks xs,l=[.sl 0,.sl 1,.sl 2]/\bs=[.ro kQ ns,.ro [.u64,.i64] ks,.ro aM xs]/\wT 20 xs/\ja xs/\oB xs.length ks/\ks.length<=1000/\ns.length<=1000000/\Gx ns ks
def WE:Vs.Spec:=⟨EB,fun _ bs=>(.tup [.sl 0,.int .i64 (xz (aA bs 0) (aA bs 1) (aA bs 2))],[.row 160 fG (Dc (aA bs 0) (aA bs 1) (aA bs 2))])⟩
def Tz:Vs.Spec:=⟨EB,fun _ bs=>(.agg [.sl 0,.int .i64 (xz (aA bs 0) (aA bs 1) (aA bs 2))],[.row 160 fG (Dc (aA bs 0) (aA bs 1) (aA bs 2))])⟩
section
open Go.IntWalk
theorem Es {r:L1} (h:r.length=20):[r.getD 0 0,r.getD 1 0,r.getD 2 0,r.getD 3 0,r.getD 4 0,r.getD 5 0,r.getD 6 0,r.getD 7 0,r.getD 8 0,r.getD 9 0,r.getD 10 0,r.getD 11 0,r.getD 12 0,r.getD 13 0,r.getD 14 0,r.getD 15 0,r.getD 16 0,r.getD 17 0,r.getD 18 0,r.getD 19 0]=r:=by
 match r,h with
 | [_,_,_,_,_,_,_,_,_,_,_,_,_,_,_,_,_,_,_,_],_=>rfl
theorem Gg {xs:L2} {t:Nat} (h:(xs.getD t []).length=20):[rd xs t 19,rd xs t 18,rd xs t 17,rd xs t 16,rd xs t 15,rd xs t 14,rd xs t 13,rd xs t 12,rd xs t 11,rd xs t 10,rd xs t 9,rd xs t 8,rd xs t 7,rd xs t 6,rd xs t 5,rd xs t 4,rd xs t 3,rd xs t 2,rd xs t 1,rd xs t 0].reverse=xs.getD t []:=Es h
theorem getM {xs:L2} {i:Nat} (h:i < xs.length):xs.getD i []∈xs:=by rw [acY h]; exact List.getElem_mem h
theorem BD {xs:L2} {i j:Nat} (h:i < xs.length):rd xs i j=xs[i].getD j 0:=by unfold rd; rw [acY h]
theorem ya {xs sb:L2} {j:Nat} (h:j < sb.length):fz xs (sb.take (j+1))=fz xs (sb.take j)++[xs.getD (rd sb j 1).toNat []]:=by
 unfold fz rd;rw [List.take_add_one,List.getElem?_eq_getElem h,Option.toList_some,List.map_append,acY h]
 rfl
theorem KV (xs sb:L2):(fz xs sb).length=sb.length:=by unfold fz; simp
theorem Bm (xs sb:L2) (j:Nat):(fz xs (sb.take j)).length<=j:=by rw [KV,List.length_take]; omega
theorem lmi (d n0:Nat):aG (ai TP Hv d) aeo n0 1 (lp TP aeo 1) Lmi:=by
 intro st K hst;obtain ⟨ns,ks,xs,cs,sb,i,⟨hl,hid,hm,rfl,rfl⟩,hK⟩:=hst;refine aC (fun j:Nat=>dx ns ks xs cs (fz xs (sb.take j)) sb i j) (fun j=>j<=sb.length) (fun j=>sb.length - j) ?_ (a:=0) (Nat.zero_le _)
 intro j hle k hn hk;show round (ai TP { Γ:=Hx,Λ:=_,Τ:=fun _=>none } d) _ _ _ _ _ k
 rw [rmi]; delta Maa Mab Mac Maf Mag Mai Mal Mam Man Mao Map Mar Mat Mau Mav Maw MaA MaD MaE MaG MaM MaQ MaS MaU MaV MaX Ma3 Ma4 Ma6 Mba Mbd Mbk Mbl Mbo Mbp Mbv Mb5 Mcq Mcu Mc2 Mda Mdf Mdj Mdp Med Mee Mel Met Mfu MfA Mgm MgT Mhg Mhn MiB MiJ MiU;rw [show ((j:Nat):Int).toNat=j by omega]
 rintro t1 e1 t2 e2 t3 e3;rw [al];constructor
 ·intro hi;have hi':j < sb.length:=by omega
  have hk1:=hid _ (List.getElem_mem hi');have T1:t1=sb[j].getD 1 0:=by rw [e1]; unfold rd; rw [acY hi']
  have p2:t2:=by rw [e2]; omega
  have p3:t3:=by rw [e3,T1]; exact hk1
  have hin:t1.toNat < xs.length:=by rw [T1]; omega
  have:=Bm xs sb j;refine ⟨p2,p2,p3,p3,by omega,?_⟩
  rw [show IntKind.i64.wrap ((j:Int)+1)=((j+1:Nat):Int) by rw [i64_in _ (by omega)]; rfl]
  have hh:=hn (j+1) (by omega) (by omega)
  rw [ya hi',← e1,← Gg (hl _ (getM hin))] at hh;exact hh
 ·intro hi;have hi':j=sb.length:=by omega
  rw [hi',List.take_length];exact hk _ _ (by simp) hK
theorem KX {ns ks:L2} {i j:Nat} (h:0<=rd ns i 2) (hj:j < (dX ns ks i).length):rd (dX ns ks i) j 1=rd ks (rd ns i 2+j).toNat 1/\(rd ns i 2+j).toNat < ks.length:=by
 unfold dX at hj ⊢;rw [List.length_drop,List.length_take] at hj;have e:(rd ns i 2+(j:Int)).toNat=(rd ns i 2).toNat+j:=by omega
 refine ⟨?_,by rw [e]; omega⟩
 unfold rd;have e2:((List.take (rd ns i 3).toNat ks).drop (rd ns i 2).toNat).getD j []=ks.getD ((rd ns i 2).toNat+j) []:=by
  rw [List.getD_eq_getElem?_getD,List.getD_eq_getElem?_getD,List.getElem?_drop,List.getElem?_take,if_pos (by omega)]
 have e3:∀ (x y:L1),x=y->x.getD 1 0=y.getD 1 0:=fun x y h=>by rw [h]
 refine e3 _ _ ?_;have e4:((ns.getD i []).getD 2 0+(j:Int)).toNat=(rd ns i 2).toNat+j:=e;rw [e4];exact e2
theorem lri (d n0:Nat):aG (ai TP Hv d) aQ n0 1 (lp TP aQ 1) Lri:=by
 intro st K hst;obtain ⟨ns,ks,xs,cs,i,⟨hl,hid,hm,hin,⟨h0,h1,h2⟩,rfl,rfl⟩,hK⟩:=hst;have hlen:((dX ns ks i).length:Int)=rd ns i 3 - rd ns i 2:=by
  unfold dX;rw [List.length_drop,List.length_take];omega
 rw [show Ym ns ks xs cs [] i (rd ns i 2)=Ym ns ks xs cs (fz xs ((dX ns ks i).take 0)) i (rd ns i 2+((0:Nat):Int)) by rw [show (rd ns i 2+((0:Nat):Int))=rd ns i 2 by omega]; rfl]
 refine aC (fun j:Nat=>Ym ns ks xs cs (fz xs ((dX ns ks i).take j)) i (rd ns i 2+(j:Int))) (fun j=>j<=(dX ns ks i).length) (fun j=>(dX ns ks i).length - j) ?_ (a:=0) (Nat.zero_le _)
 intro j hle k hn hk;show round (ai TP { Γ:=Hx,Λ:=_,Τ:=fun _=>none } d) _ _ _ _ _ k
 rw [rri]; delta Maa Mac Maf Mag Mak Mal Mam Man Mao Map Mar Mat Mau Mav Maw MaA MaE MaG MaM MaQ MaS MaU MaV MaX MaY Ma3 Ma4 Ma6 Mba Mbd Mbe Mbk Mbo Mbp Mbv MbD Mb5 Mco McY Mc2 Mda Mdf Mdj Med Mee Mel Mem Met MfA Mhg Mhn MiJ MiU;rw [show ((i:Nat):Int).toNat=i by omega]
 rintro t1 e1 t2 e2 t3 e3 t4 e4 t5 e5;have p4:t4:=by rw [e4]; omega
 refine ⟨p4,p4,?_⟩;rw [al];constructor
 ·intro hi;have hi':j < (dX ns ks i).length:=by omega
  obtain ⟨g1,g2⟩:=KX h0 hi';have hk1:=hid _ (List.getElem_mem g2);have T1:t1=ks[(rd ns i 2+(j:Int)).toNat].getD 1 0:=by rw [e1]; exact BD g2
  have p3:t3:=by rw [e3]; omega
  have p5:t5:=by rw [e5,T1]; exact hk1
  have hin2:t1.toNat < xs.length:=by rw [T1]; omega
  have:=Bm xs (dX ns ks i) j;refine ⟨p3,p3,p5,p5,by omega,?_⟩
  rw [show IntKind.i64.wrap (rd ns i 2+(j:Int)+1)=rd ns i 2+((j+1:Nat):Int) by rw [i64_in _ (by omega)]; omega]
  have hh:=hn (j+1) (by omega) (by omega)
  rw [ya hi',g1,← e1,← Gg (hl _ (getM hin2))] at hh;exact hh
 ·intro hi;have hi':j=(dX ns ks i).length:=by omega
  rw [hi',List.take_length];exact hk _ _ (by simp) hK
theorem BX {ns ks:L2} {i:Nat} {k:L1} (h:k∈dX ns ks i):k∈ks:=List.mem_of_mem_take (List.mem_of_mem_drop h)
theorem KW (ns ks:L2) (i:Nat):(dX ns ks i).length<=ks.length:=by unfold dX; rw [List.length_drop,List.length_take]; omega
theorem BV {xs sb:L2} (hm:ja xs) (hid:oB xs.length sb):ja (fz xs sb):=by
 intro r hr;unfold fz at hr;rw [List.mem_map] at hr;obtain ⟨k,hk,rfl⟩:=hr;have:=hid k hk;exact hm _ (getM (by omega))
theorem yM (ns ks xs:L2) (i:Nat):qR ns ks xs (i+1)=qR ns ks xs i++[Fg ns ks xs i]:=by
 unfold qR;rw [List.range_succ,List.map_append]
 rfl
theorem xn (ns ks xs:L2) (n:Nat):(qR ns ks xs n).length=n:=by unfold qR; simp
theorem Lw {ns:L2} (h:aI kQ ns) (i:Nat):bn (rd ns i 0):=by
 by_cases hi:i < ns.length
 ·have:=h _ (List.getElem_mem hi) 0 (by decide)
  have h1:-9223372036854775808<=ns[i].getD 0 0/\ns[i].getD 0 0<=9223372036854775807:=this;unfold rd;rw [acY hi];exact ⟨h1.1,by omega⟩
 ·have:rd ns i 0=0:=by unfold rd; simp [List.getD,List.getElem?_eq_none (by omega:ns.length<=i)]
  rw [this]; exact ⟨by decide,by decide⟩
theorem lmo (d n0:Nat):aG (ai TP Hv d) aeo n0 0 (lp TP aeo 0) Lmo:=by
 intro st K hst;obtain ⟨ns,ks,xs,⟨⟨⟨hn1,hx1⟩,hl,hmay,hid,hks,hns,hno⟩,rfl,rfl⟩,hK⟩:=hst;rw [ah] at hK;refine aC (fun i:Nat=>dy ns ks xs (qR ns ks xs i) i) (fun i=>i<=ns.length/\xP ns ks xs (ns.length - i) i=xz ns ks xs) (fun i=>ns.length - i) ?_ (a:=0) ⟨Nat.zero_le _,rfl⟩
 rintro i ⟨hle,hgo⟩ k hn hk;show round (ai TP Hv d) _ _ _ _ _ k;rw [rmo]; delta Maa Mab Mac Mae Maf Mag Mah Mai Mak Mal Mam Man Mao Map Mar Mat Mau Mav Maw MaA MaD MaG MaM MaQ MaS MaU MaV MaW MaX MaY Ma3 Ma4 Ma6 Mbd Mbk Mbl Mbo Mbp Mbv MbI MbV Mb5 Mcq Mcu McL McN McY Mc6 Mdf Mdg Mdj Mdp Mdv MdF Med Met Me5 Mfp Mfu Mgm MgT Mg6 Mhg Mhn MhA MhE MhZ MiB MiO MiV;rw [show ((i:Nat):Int).toNat=i by omega]
 rintro t1 rfl t2 rfl t3 e3;rw [al];constructor
 ·intro hi;have hi':i < ns.length:=by omega
  have p3:t3:=by rw [e3]; omega
  have hb:=hno i hi';have hidp:oB xs.length (dX ns ks i):=fun k hk=>hid k (BX hk)
  have hlp:(dX ns ks i).length<=1000:=Nat.le_trans (KW ns ks i) hks;refine ⟨p3,p3,hb,ns,ks,xs,qR ns ks xs i,dX ns ks i,i,⟨hl,hidp,hlp,rfl,rfl⟩,⟨_,rfl,rfl,BV hmay hidp⟩,?_⟩;have hgo':xP ns ks xs (ns.length - i) i=if cE (CK ns ks xs i)≠0 then cE (CK ns ks xs i) else xP ns ks xs (ns.length - (i+1)) (i+1):=by
   rw [show ns.length - i=(ns.length - (i+1))+1 by omega]; rfl
  rw [hgo'] at hgo;show br (cE (CK ns ks xs i) != 0) _ _;rw [ah];constructor
  ·intro h;rw [if_pos h] at hgo;rw [← hgo] at hK;exact hk _ _ (by simp) (hK.1 h)
  ·intro h;rw [if_neg (by simpa using h)] at hgo
   refine ⟨⟨_,rfl,rfl,Lw hn1 i⟩,by rw [xn]; omega,?_⟩
   rw [show IntKind.i64.wrap ((i:Int)+1)=((i+1:Nat):Int) by rw [i64_in _ (by omega)]; rfl]
   have hh:=hn (i+1) ⟨hi',hgo⟩ (by omega)
   rw [yM] at hh;exact hh
 ·intro hi;have hi':i=ns.length:=by omega
  subst hi';rw [Nat.sub_self] at hgo;exact hk _ _ (by simp) (hK.2 hgo.symm)
theorem lro (d n0:Nat):aG (ai TP Hv d) aQ n0 0 (lp TP aQ 0) Lro:=by
 intro st K hst;obtain ⟨ns,ks,xs,⟨⟨⟨hn1,hx1⟩,hl,hmay,hid,hks,hns,hno⟩,rfl,rfl⟩,hK⟩:=hst;rw [ah] at hK;refine aC (fun i:Nat=>Src ns ks xs (qR ns ks xs i) i) (fun i=>i<=ns.length/\xP ns ks xs (ns.length - i) i=xz ns ks xs) (fun i=>ns.length - i) ?_ (a:=0) ⟨Nat.zero_le _,rfl⟩
 rintro i ⟨hle,hgo⟩ k hn hk;show round (ai TP Hv d) _ _ _ _ _ k;rw [rro]; delta Maa Mac Mae Maf Mag Mah Mak Mal Mam Man Mao Map Mar Mat Mav Maw MaA MaE MaG MaM MaQ MaS MaU MaV MaW MaY Ma3 Ma6 Mba Mbd Mbe Mbk Mbn Mbo Mbp Mbs Mbv MbD MbI MbU Mb5 Mco Mcq Mcz McL McN Mdb Mdf Mdp Mdv MdF Md5 Med Mem Met Me5 Mgm Mhg Mhn MhA MiV;rw [show ((i:Nat):Int).toNat=i by omega]
 rintro t1 e1;rw [al];constructor
 ·intro hi;have hi':i < ns.length:=by omega
  have p1:t1:=by rw [e1]; omega
  have hb:=hno i hi';have hidp:oB xs.length (dX ns ks i):=fun k hk=>hid k (BX hk)
  refine ⟨p1,p1,ns,ks,xs,qR ns ks xs i,i,⟨hl,hid,hks,hi',hb,rfl,rfl⟩,⟨_,rfl,rfl,BV hmay hidp⟩,?_⟩;have hgo':xP ns ks xs (ns.length - i) i=if cE (CK ns ks xs i)≠0 then cE (CK ns ks xs i) else xP ns ks xs (ns.length - (i+1)) (i+1):=by
   rw [show ns.length - i=(ns.length - (i+1))+1 by omega]; rfl
  rw [hgo'] at hgo;show br (cE (CK ns ks xs i) != 0) _ _;rw [ah];constructor
  ·intro h;rw [if_pos h] at hgo;rw [← hgo] at hK;exact hk _ _ (by simp) (hK.1 h)
  ·intro h;rw [if_neg (by simpa using h)] at hgo
   rw [show ((i:Nat):Int).toNat=i by omega]
   refine ⟨⟨by omega,by omega⟩,⟨by omega,by omega⟩,⟨_,rfl,rfl,Lw hn1 i⟩,by rw [xn]; omega,?_⟩
   rw [show IntKind.i64.wrap ((i:Int)+1)=((i+1:Nat):Int) by rw [i64_in _ (by omega)]; rfl]
   have hh:=hn (i+1) ⟨hi',hgo⟩ (by omega)
   rw [yM] at hh;exact hh
 ·intro hi;have hi':i=ns.length:=by omega
  subst hi';rw [Nat.sub_self] at hgo;exact hk _ _ (by simp) (hK.2 hgo.symm)
theorem LK:KnowOk TP Hv 3:=by
 refine ti (fun g sp h=>U1 h) ?_ (fun g G h=>by cases h) 3
 intro f i S hS d n0;simp only [Hv] at hS;split at hS
 ·rename_i hf;subst hf;split at hS
  ·rename_i hi; subst hi; cases hS; exact lmo d n0
  split at hS
  ·rename_i hi; subst hi; cases hS; exact lmi d n0
  ·cases hS
 split at hS
 ·rename_i hf;subst hf;split at hS
  ·rename_i hi; subst hi; cases hS; exact lro d n0
  split at hS
  ·rename_i hi; subst hi; cases hS; exact lri d n0
  ·cases hS
 ·cases hS
theorem Rb:aa TP aeo WE:=by
 refine ab (N:=Hv) 3 LK ?_;rintro l bs _ hB ⟨ns,ks,xs,rfl,rfl,hl,hmay,hid,hks,hns,hno⟩;have hb0:aI kQ ns/\0 < kQ.length/\ns.length<=maxLen:=hB (.ro kQ ns) (by simp)
 have hb2:aI aM xs/\0 < aM.length/\xs.length<=maxLen:=hB (.ro aM xs) (by simp)
 show comes _ _ _ _ _ _ fun v bs'=>((IV.tup [.sl 0,.int .i64 (xz ns ks xs)],([.row 160 fG (Dc ns ks xs)]:List aq))=(v,bs'))
 rw [OZ]; delta Maa Mac Maf Mag Mak Mam Man Map Mat MaG MaM MaQ MaW MaY Mbd MbD MbR Mb5 Mcs Mcu Mc6 Mdf Mdg Mdj MdA Mgm Mhz MiB;refine ⟨ns,ks,xs,⟨⟨⟨hb0.1,hb2.1⟩,hl,hmay,hid,hks,hns,hno⟩,rfl,rfl⟩,?_⟩;rw [ah];unfold Dc;exact ⟨fun h=>by rw [if_neg h],fun h=>by rw [if_pos h,h]⟩
theorem Nv:aa TP aQ Tz:=by
 refine ab (N:=Hv) 3 LK ?_;rintro l bs _ hB ⟨ns,ks,xs,rfl,rfl,hl,hmay,hid,hks,hns,hno⟩;have hb0:aI kQ ns/\0 < kQ.length/\ns.length<=maxLen:=hB (.ro kQ ns) (by simp)
 have hb2:aI aM xs/\0 < aM.length/\xs.length<=maxLen:=hB (.ro aM xs) (by simp)
 show comes _ _ _ _ _ _ fun v bs'=>((IV.agg [.sl 0,.int .i64 (xz ns ks xs)],([.row 160 fG (Dc ns ks xs)]:List aq))=(v,bs'))
 rw [J6]; delta Maa Mac Maf Mag Mak Mam Man Mao Map MaG MaM MaQ MaW MaY Mbd Mbe Mbn MbD MbR Mb5 Mcs Mdb Mdf Mdg MeM Mgm Mhz;refine ⟨ns,ks,xs,⟨⟨⟨hb0.1,hb2.1⟩,hl,hmay,hid,hks,hns,hno⟩,rfl,rfl⟩,?_⟩;rw [ah];unfold Dc;exact ⟨fun h=>by rw [if_neg h],fun h=>by rw [if_pos h,h]⟩
end
end Go.Vs.RF
namespace Go.Vs.RS
open Go Go.Proofs Go.Vs
def ins (x:L1):L2->L2
 | []=>[x]
 | y :: l=>if key x<=key y then x :: y :: l else y :: ins x l
theorem GR {x z:L1}:∀ {l:L2},z∈ins x l↔z=x∨z∈l:=by
 intro l;induction l with
 | nil=>simp [ins]
 | cons y l ih=>
  unfold ins;split
  ·simp
  ·simp only [List.mem_cons,ih];constructor
   ·rintro (h | h | h)
    ·exact .inr (.inl h)
    ·exact .inl h
    ·exact .inr (.inr h)
   ·rintro (h | h | h)
    ·exact .inr (.inl h)
    ·exact .inl h
    ·exact .inr (.inr h)
theorem Qd (x:L1) (l:L2):(ins x l).length=l.length+1:=by
 induction l with
 | nil=>rfl
 | cons y l ih=>unfold ins; split <;> simp [ih]
theorem Ao {x:L1}:∀ {l:L2},(l.Pairwise fun a b=>key a<=key b)->(ins x l).Pairwise fun a b=>key a<=key b:=by
 intro l;induction l with
 | nil=>intro _; simp [ins]
 | cons y l ih=>
  intro h;unfold ins;split
  ·rename_i hxy;rw [List.pairwise_cons];refine ⟨?_,h⟩;intro z hz;rcases List.mem_cons.1 hz with rfl | hz
   ·exact hxy
   ·have:=(List.pairwise_cons.1 h).1 z hz;omega
  ·rename_i hxy;rw [List.pairwise_cons] at h ⊢;refine ⟨?_,ih h.2⟩;intro z hz;rcases GR.1 hz with rfl | hz
   ·omega
   ·exact h.1 z hz
theorem EV (x:L1) (v:Int):∀ (l:L2),(ins x l).filter (fun x=>decide (key x=v))=(x :: l).filter fun x=>decide (key x=v):=by
 intro l;induction l with
 | nil=>rfl
 | cons y l ih=>
  unfold ins;split
  ·rfl
  ·rename_i hxy;simp only [List.filter_cons] at ih ⊢;rw [ih];by_cases hy:key y=v
   ·have hx:¬ key x=v:=by omega
    simp [hy,hx]
   ·simp [hy]
theorem xC:∀ (xs:L2),hU xs->∃zs,eZ xs zs:=by
 have key1:∀ (xs:L2),∃zs:L2,zs.length=xs.length/\hO xs zs/\(zs.Pairwise fun a b=>key a<=key b)/\∀ z,z∈zs↔z∈xs:=by
  intro xs;induction xs with
  | nil=>exact ⟨[],rfl,hO.refl _,by simp,by simp⟩
  | cons x xs ih=>
   obtain ⟨zs,h1,h2,h3,h4⟩:=ih;refine ⟨ins x zs,by rw [Qd,h1]; rfl,fun v=>?_,Ao h3,fun z=>by rw [GR,h4]; simp⟩
   rw [EV];simp only [List.filter_cons];rw [h2 v]
 intro xs hx;obtain ⟨zs,h1,h2,h3,h4⟩:=key1 xs;refine ⟨zs,h1,h2,?_,fun z hz=>hx z ((h4 z).1 hz)⟩
 intro p q hpq hq;rw [List.pairwise_iff_getElem] at h3;rw [rd_key (by omega),rd_key hq]
 exact h3 p q (by omega) hq hpq
theorem zH {xs:L2} (h:hU xs):eZ xs (nU xs):=by
 obtain ⟨zs,hz⟩:=xC xs h;exact we hz
section
open Go.IntWalk
theorem eZ.perm {xs zs:L2} (h:eZ xs zs):zs.Perm xs:=by
 rw [List.perm_iff_count];intro a;have h1:=congrArg (List.count a) (h.same (key a))
 rwa [List.count_filter (by simp),List.count_filter (by simp)] at h1
theorem Ak {F:xS} {xs:L2} {lev pl:Nat}:∀ {ss:List (Nat × Nat)} {a:Nat} {ks:L1},ks.length=4->(yt F xs lev pl ss a ks).length=4
 | [],a,ks,h=>h
 | (f,t) :: ss,a,ks,h=>by simp only [yt]; exact Ak (by simpa using h)
theorem tj {F:xS} {xs:L2} {lev pl:Nat} {r:L1}:∀ {ss:List (Nat × Nat)} {a:Nat},r∈gq F xs lev pl ss a->∃p∈ss,∃a',r∈F (lev+1) (kp xs pl p.1) p.1 p.2 a'
 | [],a,h=>by simp [gq] at h
 | (f,t) :: ss,a,h=>by
  simp only [gq,List.mem_append] at h;rcases h with h | h
  ·exact ⟨(f,t),List.mem_cons_self ..,a,h⟩
  ·obtain ⟨p,hp,a',h2⟩:=tj h;exact ⟨p,List.mem_cons_of_mem _ hp,a',h2⟩
theorem rv {xs:L2} {pl to:Nat} {p:Nat × Nat}:∀ {m f:Nat},p∈ic xs pl to m f->f<=p.1/\p.1 < to/\p.2=aR xs pl to p.1
 | 0,f,h=>by simp [ic] at h
 | m+1,f,h=>by
  simp only [ic] at h;split at h
  ·rename_i hf;rcases List.mem_cons.1 h with rfl | h
   ·exact ⟨Nat.le_refl _,hf,rfl⟩
   ·obtain ⟨h1,h2,h3⟩:=rv h;have:=(dM xs pl hf).1;exact ⟨by omega,h2,h3⟩
  ·simp at h
theorem tX {xs:L2} {Q:Nat->Int->Nat->Nat->Prop}
  (hs:∀ lev key fr to,Q lev key fr to->lev < 32->4 < to - fr->∀ f,fr<=f->f < to->Q (lev+1) (kp xs (62 - 2*lev) f) f (aR xs (62 - 2*lev) to f)):
  ∀ (n lev:Nat) (key:Int) (fr to a:Nat),Q lev key fr to->∀ r∈bD xs n lev key fr to a,∃(lev':Nat) (key':Int) (fr' to':Nat) (ks:L1),r=[(lev':Int),key',(fr':Int),(to':Int)]++ks/\ks.length=4/\Q lev' key' fr' to'
 | 0,lev,key,fr,to,a,h,r,hr=>by simp [bD] at hr
 | n+1,lev,key,fr,to,a,h,r,hr=>by
  simp only [bD] at hr;split at hr
  ·simp at hr;subst hr;exact ⟨lev,key,fr,to,[-1,-1,-1,-1],rfl,rfl,h⟩
  ·rename_i hc;rcases List.mem_cons.1 hr with rfl | hr
   ·exact ⟨lev,key,fr,to,_,rfl,Ak rfl,h⟩
   ·obtain ⟨p,hp,a',h2⟩:=tj hr;obtain ⟨h3,h4,h5⟩:=rv hp;have hq:=hs lev key fr to h (by omega) (by omega) p.1 h3 h4
    rw [← h5] at hq;exact tX hs n _ _ _ _ _ hq r h2
theorem TM {ts:L2} {i:Nat} {a b c d:Int} {ks:L1} (hi:i < ts.length) (h:ts[i]=[a,b,c,d]++ks):rd ts i 0=a/\rd ts i 1=b/\rd ts i 2=c/\rd ts i 3=d:=by
 simp [rd,List.getD,hi,h]
end
end Go.Vs.RS
namespace Go.Vs.RF
open Go Go.Proofs Go.Vs Go.IntWalk
theorem tM (xs:L2):RS.eZ (mR xs xs.length) (lE xs):=RS.zH (Cw _ _)
theorem tN (xs:L2):(lE xs).length=xs.length:=by rw [(tM xs).len,se]
theorem NF {xs:L2} {k:L1} (h:k∈lE xs):∃i:Nat,i < xs.length/\k=[Zl (xs.getD i []),(i:Int)]:=by
 have h1:=(tM xs).perm.mem_iff.1 h;unfold mR at h1;rw [List.mem_map] at h1;obtain ⟨i,hi,rfl⟩:=h1;exact ⟨i,by simpa using hi,rfl⟩
theorem NG (xs:L2):oB xs.length (lE xs):=by
 intro k hk;obtain ⟨i,hi,rfl⟩:=NF hk;show 0<=(i:Int)/\(i:Int) < xs.length;omega
theorem Hk (xs:L2):RS.agC (lE xs):=by
 intro i;by_cases hi:i < (lE xs).length
 ·obtain ⟨j,hj,e⟩:=NF (List.getElem_mem hi);have:rd (lE xs) i 0=Zl (xs.getD j []):=by rw [BD hi,e]; rfl
  rw [this];exact Qa _ _
 ·have:rd (lE xs) i 0=0:=by unfold rd; simp [List.getD,List.getElem?_eq_none (by omega:(lE xs).length<=i)]
  rw [this]; exact ⟨by decide,by decide⟩
theorem SH (xs:L2):RS.fE (lE xs):=by
 have:=(tM xs).up;unfold RS.fE;exact this
theorem Lj {ks:L2} {i:Nat} (hi:i < (RS.bL ks).length):0<=rd (RS.bL ks) i 2/\rd (RS.bL ks) i 2<=rd (RS.bL ks) i 3/\rd (RS.bL ks) i 3<=ks.length:=by
 have hne:ks≠[]:=by rintro rfl; rw [RS.g9] at hi; simp at hi
 have hR:RS.fE ks:=Classical.byContradiction fun h=>by rw [RS.kY h] at hi; simp at hi
 have hpos:0 < ks.length:=List.length_pos_iff.2 hne;have key:=RS.tX (xs:=ks) (Q:=fun lev key fr to=>fr < to/\to<=ks.length) (by
  rintro lev key fr to ⟨h1,h2⟩ h6 h7 f h8 h9;obtain ⟨s1,s2,s3,s4⟩:=RS.dM ks (62 - 2*lev) h9;exact ⟨s1,by omega⟩) 33 0 0 0 ks.length 0 ⟨hpos,Nat.le_refl _⟩ (RS.bL ks)[i] (by rw [← RS.fZ hne hR]; exact List.getElem_mem hi)
 obtain ⟨lev,key,fr,to,l,e,hl,h1,h2⟩:=key;obtain ⟨r0,r1,r2,r3⟩:=RS.TM hi e;rw [r2,r3];omega
theorem Iq {ks:L2} (h:ks.length<=1000):(RS.bL ks).length<=1000000:=by
 by_cases hne:ks=[]
 ·rw [hne,RS.g9]; simp
 by_cases hR:RS.fE ks
 ·rw [RS.fZ hne hR];have hpos:0 < ks.length:=List.length_pos_iff.2 hne;have:=RS.nR ks 33 0 0 0 ks.length 0 hpos;omega
 ·rw [RS.kY hR]; simp
theorem Hf {xs:L2} (hl:wT 20 xs) (hm:ja xs) (h:xs.length<=1000):EB [IV.sl 0,IV.sl 1,IV.sl 2] [aq.ro kQ (RS.bL (lE xs)),aq.ro [.u64,.i64] (lE xs),aq.ro aM xs]:=
 ⟨_,_,_,rfl,rfl,hl,hm,NG xs,by rw [tN]; exact h,Iq (by rw [tN]; exact h),fun i hi=>Lj hi⟩
theorem Ho {xs:L2} (h:xs.length<=1000):RS.mj [IV.sl 0] [aq.ro [.u64,.i64] (lE xs)]:=⟨_,rfl,rfl,by rw [tN]; exact h,Hk xs⟩
theorem V7:bn 0:=⟨by decide,by decide⟩
theorem zg (w:Nat):∀ (xs:L2) (a:Int),bn (qf w xs a).2
 | [],a=>V7
 | r :: l,a=>by
  unfold qf;split
  ·unfold Kg; split
   ·exact ⟨by decide,by decide⟩
   ·exact lV _
  ·split
   ·exact lV _
   ·exact zg w l _
theorem NL (w:Nat) (xs:L2):bn (uZ w xs):=by
 unfold uZ;split
 ·exact vA _ _
 ·exact zg w xs 0
theorem Yd (xs:L2):bn (cE xs):=by
 unfold cE;split
 ·exact ⟨by decide,by decide⟩
 ·split
  ·exact zg 0 xs 0
  ·split
   ·exact NL _ _
   ·exact NL _ _
theorem Hg (ns ks xs:L2):∀ m i,bn (xP ns ks xs m i)
 | 0,i=>V7
 | m+1,i=>by
  unfold xP;split
  ·exact Yd _
  ·exact Hg ns ks xs m (i+1)
theorem Vb (ns ks xs:L2):bn (xz ns ks xs):=Hg _ _ _ _ _
end Go.Vs.RF
namespace Go.Vs.RS
open Go Go.Proofs Go.Vs Go.IntWalk
def nu (ts:L2) (i:Nat):Nat->Int
 | 0=>rd ts i 2
 | q+1=>if rd ts i (4+q) < 0 then nu ts i q else rd ts (rd ts i (4+q)).toNat 3
def gD (ts:L2) (i:Nat):Nat->Int
 | 0=>0
 | q+1=>if rd ts i (4+q) < 0 then gD ts i q else gD ts i q+1
def Sx (ts:L2) (i q:Nat):Prop:=rd ts i (4+q) < 0∨((i:Int) < rd ts i (4+q)/\rd ts i (4+q) < ts.length/\rd ts (rd ts i (4+q)).toNat 2=nu ts i q/\rd ts (rd ts i (4+q)).toNat 0=rd ts i 0+1)
def z9 (ts:L2) (len:Nat) (i:Nat):Prop:=
 0<=rd ts i 2/\rd ts i 3<=len/\rd ts i 2 < rd ts i 3/\0<=rd ts i 0/\rd ts i 0<=32/\(∀ q,q < 4->Sx ts i q)/\
 ((gD ts i 4=0/\¬ (4 < rd ts i 3 - rd ts i 2/\rd ts i 0 < 32))∨(gD ts i 4≠0/\nu ts i 4=rd ts i 3/\4 < rd ts i 3 - rd ts i 2))
def tm (ts:L2) (j i:Nat):Bool:=decide (gD ts i 4=0/\rd ts i 2<=(j:Int)/\(j:Int) < rd ts i 3)
theorem tV (ts:L2) (i:Nat):∀ q,0<=gD ts i q/\gD ts i q<=q
 | 0=>by simp [gD]
 | q+1=>by
  have:=tV ts i q;simp only [gD];split <;> omega
structure At (ts T:L2) (a:Nat):Prop where
 len:a+T.length<=ts.length
 get:∀ j,j < T.length->∀ c,rd ts (a+j) c=rd T j c
theorem At.left {ts A B:L2} {a:Nat} (h:At ts (A++B) a):At ts A a:=by
 refine ⟨by have:=h.len; rw [List.length_append] at this; omega,fun j hj c=>?_⟩
 rw [h.get j (by rw [List.length_append]; omega)]
 simp [rd,List.getD,List.getElem?_append_left hj]
theorem At.right {ts A B:L2} {a:Nat} (h:At ts (A++B) a):At ts B (a+A.length):=by
 refine ⟨by have:=h.len; rw [List.length_append] at this; omega,fun j hj c=>?_⟩
 rw [Nat.add_assoc,h.get (A.length+j) (by rw [List.length_append]; omega)]
 simp [rd,List.getD,List.getElem?_append_right]
theorem At.tail {ts B:L2} {x:L1} {a:Nat} (h:At ts (x :: B) a):At ts B (a+1):=At.right (A:=[x]) h
theorem At.head {ts B:L2} {x:L1} {a:Nat} (h:At ts (x :: B) a) (c:Nat):rd ts a c=x.getD c 0:=h.get 0 (by simp) c
def qo (ts:L2) (b a m:Nat):Nat:=(List.range m).countP fun j=>tm ts b (a+j)
theorem ID (ts:L2) (b a:Nat):qo ts b a 0=0:=rfl
theorem Cq (ts:L2) (b a m n:Nat):qo ts b a (m+n)=qo ts b a m+qo ts b (a+m) n:=by
 unfold qo;rw [List.range_add,List.countP_append,List.countP_map]
 congr 1
 apply List.countP_congr;intro j _;simp [Nat.add_assoc]
theorem wU (ts:L2) (b a:Nat):qo ts b a 1=if tm ts b a then 1 else 0:=by
 unfold qo;simp [List.range_succ,List.countP_append,List.countP_singleton]
theorem th {F:xS} {xs:L2} {lev pl q:Nat} {d:Int}:∀ {ss:List (Nat × Nat)} {a:Nat} {ks:L1},(∀ p∈ss,kq xs pl p.1≠q)->(yt F xs lev pl ss a ks).getD q d=ks.getD q d
 | [],a,ks,h=>rfl
 | (f,t) :: ss,a,ks,h=>by
  simp only [yt];rw [th (fun p hp=>h p (List.mem_cons_of_mem _ hp))]
  have:=h (f,t) (List.mem_cons_self ..);simp only [List.getD,List.getElem?_set_ne this]
theorem yr {F:xS} {xs:L2} {lev pl q:Nat} {d:Int}:∀ {ss:List (Nat × Nat)} {a:Nat} {ks ks':L1},ks.length=ks'.length->ks.getD q d=ks'.getD q d->
  (yt F xs lev pl ss a ks).getD q d=(yt F xs lev pl ss a ks').getD q d
 | [],a,ks,ks',hl,h=>h
 | (f,t) :: ss,a,ks,ks',hl,h=>by
  simp only [yt];refine yr (by simpa using hl) ?_
  by_cases e:kq xs pl f=q
  ·simp only [e,List.getD,List.getElem?_set_self'];by_cases hq:q < ks.length
   ·have hq':q < ks'.length:=by omega
    simp [hq,hq']
   ·have hq':¬ q < ks'.length:=by omega
    simp [hq,hq']
  ·simp only [List.getD,List.getElem?_set_ne e] at h ⊢;exact h
structure Good (ts:L2) (len lev fr to a m:Nat):Prop where
 r0:rd ts a 0=lev
 r2:rd ts a 2=fr
 r3:rd ts a 3=to
 ok:∀ j,a<=j->j < a+m->z9 ts len j
 qo:∀ b,qo ts b a m=if fr<=b/\b < to then 1 else 0
structure Walk (ts xs:L2) (F:xS) (lev fr to a K:Nat) (KS:L1) (q f a':Nat):Prop where
 lo:fr<=f
 hi:f<=to
 la:a+1<=a'
 from_:nu ts a q=f
 kids:gD ts a q=0↔f=fr
 rest:∀ j,f<=j->j < to->(q:Int)<=pV (rd xs j 0) lev
 at_:At ts (gq F xs lev (62 - 2*lev) (ic xs (62 - 2*lev) to (to - f) f) a') a'
 ks:∀ q',q<=q'->q' < 4->KS.getD q' 0=(yt F xs lev (62 - 2*lev) (ic xs (62 - 2*lev) to (to - f) f) a' [-1,-1,-1,-1]).getD q' 0
 kidok:∀ q',q' < q->Sx ts a q'
 ok:∀ j,a+1<=j->j < a'->z9 ts xs.length j
 qo:∀ b,qo ts b (a+1) (a' - (a+1))=if fr<=b/\b < f then 1 else 0
 sum:a' + (gq F xs lev (62 - 2*lev) (ic xs (62 - 2*lev) to (to - f) f) a').length=a+1+K
theorem EO {xs:L2} {lev f:Nat} (h:lev<=31):(kq xs (62 - 2*lev) f:Int)=pV (rd xs f 0) lev:=by
 rw [sZ h];unfold kq;omega
theorem HB {ts xs:L2} {n lev fr to a K:Nat} {key:Int} {KS:L1} (hpart:Part xs lev fr to) (hrow:∀ q,q < 4->rd ts a (4+q)=KS.getD q 0) (hr0:rd ts a 0=lev)
  (ih:∀ f t a',At ts (bD xs (n+1) (lev+1) (kp xs (62 - 2*lev) f) f t a') a'->f < t->t<=to->fr<=f->Lc xs (lev+1) f t->Good ts xs.length (lev+1) f t a' (bD xs (n+1) (lev+1) (kp xs (62 - 2*lev) f) f t a').length)
  {q f a':Nat} (hq:q < 4) (w:Walk ts xs (bD xs (n+1)) lev fr to a K KS q f a'):∃f2 a2,Walk ts xs (bD xs (n+1)) lev fr to a K KS (q+1) f2 a2:=by
 by_cases hc:f < to/\pV (rd xs f 0) lev=q
 ·obtain ⟨hft,hqf⟩:=hc;obtain ⟨s1,s2,s3,s4⟩:=dM xs (62 - 2*lev) hft;have hat:=w.at_;have hks:=w.ks;have hsum:=w.sum;rw [o9 hft] at hat hks hsum;simp only [gq,yt] at hat hks hsum;have hone:Lc xs (lev+1) f (aR xs (62 - 2*lev) to f):=by
   intro i j h1 h2 h3 h4;rw [show 64 - 2*(lev+1)=62 - 2*lev by omega,s3 i h1 h2,s3 j h3 h4]
  have hg:=ih f (aR xs (62 - 2*lev) to f) a' hat.left s1 s2 w.lo hone;generalize hT:bD xs (n+1) (lev+1) (kp xs (62 - 2*lev) f) f (aR xs (62 - 2*lev) to f) a' = T at *;have hTpos:0 < T.length:=by rw [← hT]; exact Bk _ _ _ _ _ _ _
  have hkq:kq xs (62 - 2*lev) f=q:=by have:=EO (xs:=xs) (f:=f) hpart.lv; omega
  rw [hkq] at hks;have hup:∀ j,aR xs (62 - 2*lev) to f<=j->j < to->((q+1:Nat):Int)<=pV (rd xs j 0) lev:=by
   intro j hj1 hj2;have hge:=w.rest (aR xs (62 - 2*lev) to f) (by omega) (by omega)
   have hu:=hpart.up (i:=aR xs (62 - 2*lev) to f) (by have:=w.lo; omega) hj1 hj2
   have hne:pV (rd xs (aR xs (62 - 2*lev) to f) 0) lev≠q:=by
    rcases s4 with s4 | s4
    ·omega
    ·intro h5;apply s4;rw [hpart.same (by have:=w.lo; omega) (by omega) w.lo hft,h5,hqf]
   omega
  have hothers:∀ p∈ic xs (62 - 2*lev) to (to - aR xs (62 - 2*lev) to f) (aR xs (62 - 2*lev) to f),kq xs (62 - 2*lev) p.1≠q:=by
   intro p hp;obtain ⟨m1,m2,_⟩:=rv hp;have h1:=hup p.1 m1 m2;have h2:=EO (xs:=xs) (f:=p.1) hpart.lv;omega
  have hkid:rd ts a (4+q)=(a':Int):=by
   rw [hrow q hq,hks q (Nat.le_refl _) hq,th hothers];have:q=0∨q=1∨q=2∨q=3:=by omega
   rcases this with rfl | rfl | rfl | rfl <;> rfl
  have hneg:¬ rd ts a (4+q) < 0:=by rw [hkid]; omega
  have hlen:=hat.len;rw [List.length_append] at hlen;refine ⟨aR xs (62 - 2*lev) to f,a' + T.length,by have:=w.lo; omega,s2,by have:=w.la; omega,?_,?_,hup,hat.right,?_,?_,?_,?_,?_⟩
  ·simp only [nu];rw [if_neg hneg,hkid,Int.toNat_natCast,hg.r3]
  ·simp only [gD];rw [if_neg hneg];have:=tV ts a q;have:=w.lo;constructor <;> intro h <;> omega
  ·intro q' h1 h2;rw [hks q' (by omega) h2]
   refine yr (by simp) ?_
   have hne:q≠q':=by omega
   simp only [List.getD,List.getElem?_set_ne hne]
  ·intro q' hq';rcases Nat.eq_or_lt_of_le (Nat.le_of_lt_succ hq') with rfl | hlt
   ·refine .inr ⟨?_,?_,?_,?_⟩
    ·rw [hkid]; have:=w.la; omega
    ·rw [hkid]; omega
    ·rw [hkid,Int.toNat_natCast,hg.r2,w.from_]
    ·rw [hkid,Int.toNat_natCast,hg.r0,hr0]; push_cast; rfl
   ·exact w.kidok q' hlt
  ·intro j h1 h2;rcases Nat.lt_or_ge j a' with h3 | h3
   ·exact w.ok j h1 h3
   ·exact hg.ok j h3 h2
  ·intro b;have hla:=w.la;have h1:=w.qo b;have h2:=hg.qo b;rw [show a' + T.length - (a+1)=(a' - (a+1))+T.length by omega,Cq,show a+1+(a' - (a+1))=a' by omega,h1,h2]
   have:=w.lo;by_cases c1:fr<=b/\b < f
   ·rw [if_pos c1,if_neg (by omega),if_pos (by omega)]
   ·rw [if_neg c1];by_cases c2:f<=b/\b < aR xs (62 - 2*lev) to f
    ·rw [if_pos c2,if_pos (by omega)]
    ·rw [if_neg c2,if_neg (by omega)]
  ·rw [List.length_append] at hsum;omega
 ·have hothers:∀ p∈ic xs (62 - 2*lev) to (to - f) f,kq xs (62 - 2*lev) p.1≠q:=by
   intro p hp;obtain ⟨m1,m2,_⟩:=rv hp;have h1:=w.rest f (Nat.le_refl _) (by omega)
   have h2:=EO (xs:=xs) (f:=p.1) hpart.lv;have h3:=hpart.up w.lo m1 m2;have h4:pV (rd xs f 0) lev≠q:=fun h=>hc ⟨by omega,h⟩
   omega
  have hkid:rd ts a (4+q) = -1:=by
   rw [hrow q hq,w.ks q (Nat.le_refl _) hq,th hothers];have:q=0∨q=1∨q=2∨q=3:=by omega
   rcases this with rfl | rfl | rfl | rfl <;> rfl
  have hneg:rd ts a (4+q) < 0:=by rw [hkid]; decide
  refine ⟨f,a',w.lo,w.hi,w.la,?_,?_,?_,w.at_,fun q' h1 h2=>w.ks q' (by omega) h2,?_,w.ok,w.qo,w.sum⟩
  ·simp only [nu];rw [if_pos hneg];exact w.from_
  ·simp only [gD];rw [if_pos hneg];exact w.kids
  ·intro j hj1 hj2;have h1:=w.rest f (Nat.le_refl _) (by omega)
   have h3:=hpart.up w.lo hj1 hj2;have h4:pV (rd xs f 0) lev≠q:=fun h=>hc ⟨by omega,h⟩
   omega
  ·intro q' hq';rcases Nat.eq_or_lt_of_le (Nat.le_of_lt_succ hq') with rfl | hlt
   ·exact .inl hneg
   ·exact w.kidok q' hlt
theorem leaves {ts xs:L2} (hR:fE xs):∀ (n lev:Nat) (key:Int) (fr to a:Nat),At ts (bD xs (n+1) lev key fr to a) a->fr < to->to<=xs.length->lev+n=32->Lc xs lev fr to->
  Good ts xs.length lev fr to a (bD xs (n+1) lev key fr to a).length:=by
 intro n;induction n with
 | zero=>
  intro lev key fr to a hat h1 h2 h3 hone;have hl:lev=32:=by omega
  subst hl;have e:bD xs (0+1) 32 key fr to a=[[((32:Nat):Int),key,(fr:Int),(to:Int),-1,-1,-1,-1]]:=by
   simp only [bD]; rw [if_pos (by omega)]
  rw [e] at hat ⊢;have hd:=hat.head;have d0:rd ts a 0=32:=by rw [hd]; rfl
  have d2:rd ts a 2=fr:=by rw [hd]; rfl
  have d3:rd ts a 3=to:=by rw [hd]; rfl
  have dk:∀ q,q < 4->rd ts a (4+q) = -1:=by
   intro q hq;have:q=0∨q=1∨q=2∨q=3:=by omega
   rcases this with rfl | rfl | rfl | rfl <;> (rw [hd]; rfl)
  have hw:gD ts a 4=0:=by simp [gD,dk 0 (by omega),dk 1 (by omega),dk 2 (by omega),dk 3 (by omega)]
  refine ⟨by rw [d0]; rfl,d2,d3,?_,?_⟩
  ·intro j hj1 hj2;simp at hj2;have:j=a:=by omega
   subst this;refine ⟨by omega,by omega,by omega,by omega,by omega,fun q hq=>.inl (by rw [dk q hq]; decide),.inl ⟨hw,by omega⟩⟩
  ·intro b;rw [List.length_singleton,wU];unfold tm;rw [hw,d2,d3];by_cases c:fr<=b/\b < to
   ·rw [if_pos c,if_pos (by simp; omega)]
   ·rw [if_neg c,if_neg (by simp; omega)]
 | succ n ih=>
  intro lev key fr to a hat h1 h2 h3 hone;by_cases hc:to - fr<=4
  ·have e:bD xs (n+1+1) lev key fr to a=[[(lev:Int),key,(fr:Int),(to:Int),-1,-1,-1,-1]]:=by
    rw [bD]; rw [if_pos (.inl hc)]
   rw [e] at hat ⊢;have hd:=hat.head;have d0:rd ts a 0=lev:=by rw [hd]; rfl
   have d2:rd ts a 2=fr:=by rw [hd]; rfl
   have d3:rd ts a 3=to:=by rw [hd]; rfl
   have dk:∀ q,q < 4->rd ts a (4+q) = -1:=by
    intro q hq;have:q=0∨q=1∨q=2∨q=3:=by omega
    rcases this with rfl | rfl | rfl | rfl <;> (rw [hd]; rfl)
   have hw:gD ts a 4=0:=by simp [gD,dk 0 (by omega),dk 1 (by omega),dk 2 (by omega),dk 3 (by omega)]
   refine ⟨d0,d2,d3,?_,?_⟩
   ·intro j hj1 hj2;simp at hj2;have:j=a:=by omega
    subst this;refine ⟨by omega,by omega,by omega,by omega,by omega,fun q hq=>.inl (by rw [dk q hq]; decide),.inl ⟨hw,by omega⟩⟩
   ·intro b;rw [List.length_singleton,wU];unfold tm;rw [hw,d2,d3];by_cases c:fr<=b/\b < to
    ·rw [if_pos c,if_pos (by simp; omega)]
    ·rw [if_neg c,if_neg (by simp; omega)]
  ·have e:bD xs (n+1+1) lev key fr to a=([(lev:Int),key,(fr:Int),(to:Int)]++yt (bD xs (n+1)) xs lev (62 - 2*lev) (ic xs (62 - 2*lev) to (to - fr) fr) (a+1) [-1,-1,-1,-1]) ::
     gq (bD xs (n+1)) xs lev (62 - 2*lev) (ic xs (62 - 2*lev) to (to - fr) fr) (a+1):=by
    rw [bD]; rw [if_neg (by omega)]
   rw [e] at hat ⊢;generalize hKS:yt (bD xs (n+1)) xs lev (62 - 2*lev) (ic xs (62 - 2*lev) to (to - fr) fr) (a+1) [-1,-1,-1,-1]=KS at *;have hd:=hat.head;have d0:rd ts a 0=lev:=by rw [hd]; rfl
   have d2:rd ts a 2=fr:=by rw [hd]; rfl
   have d3:rd ts a 3=to:=by rw [hd]; rfl
   have hrow:∀ q,q < 4->rd ts a (4+q)=KS.getD q 0:=by
    intro q hq;rw [hd];simp only [List.getD];rw [List.getElem?_append_right (by simp)]
    simp
   have hpart:Part xs lev fr to:=⟨by omega,hR,hone,h2⟩
   have w0:Walk ts xs (bD xs (n+1)) lev fr to a (gq (bD xs (n+1)) xs lev (62 - 2*lev) (ic xs (62 - 2*lev) to (to - fr) fr) (a+1)).length KS 0 fr (a+1):=by
    refine ⟨Nat.le_refl _,by omega,Nat.le_refl _,by simp only [nu]; exact d2,by simp [gD],fun j _ _=>(zM _ _).1,hat.tail,fun q' _ _=>by rw [hKS],fun q' h=>by omega,fun j hj1 hj2=>by omega,?_,rfl⟩
    intro b;rw [Nat.sub_self,ID,if_neg (by omega)]
   have step:=fun {Kl q f a':Nat} (hq:q < 4) (w:Walk ts xs (bD xs (n+1)) lev fr to a Kl KS q f a')=>HB (key:=key) hpart hrow d0 (fun f t a' hat' hft htt hff hone'=>ih (lev+1) _ f t a' hat' hft (by omega) (by omega) hone') hq w
   obtain ⟨f1,a1,w1⟩:=step (by omega) w0
   obtain ⟨f2,a2,w2⟩:=step (by omega) w1
   obtain ⟨f3,a3,w3⟩:=step (by omega) w2
   obtain ⟨f4,a4,w4⟩:=step (by omega) w3
   have hf4:f4=to:=by
    rcases Nat.lt_or_ge f4 to with h | h
    ·have k1:=w4.rest f4 (Nat.le_refl _) h;have k2:=(zM (rd xs f4 0) lev).2;omega
    ·have:=w4.hi; omega
   subst hf4;have hsum:=w4.sum;rw [agx (Nat.le_refl _)] at hsum;simp only [gq,List.length_nil,Nat.add_zero] at hsum;have hwk:gD ts a 4≠0:=fun h=>by have:=w4.kids.1 h; omega
   refine ⟨d0,d2,d3,?_,?_⟩
   ·intro j hj1 hj2;simp only [List.length_cons] at hj2;rcases Nat.eq_or_lt_of_le hj1 with rfl | hlt
    ·refine ⟨by omega,by omega,by omega,by omega,by omega,fun q hq=>w4.kidok q hq,.inr ⟨hwk,by rw [w4.from_,d3],by omega⟩⟩
    ·exact w4.ok j hlt (by omega)
   ·intro b;rw [List.length_cons,Nat.add_comm,Cq,wU];have hnl:tm ts b a=false:=by unfold tm; simp [hwk]
    rw [hnl];have:=w4.qo b;rw [hsum] at this;rw [show a+1+(gq (bD xs (n+1)) xs lev (62 - 2*lev) (ic xs (62 - 2*lev) f4 (f4 - fr) fr) (a+1)).length - (a+1)=(gq (bD xs (n+1)) xs lev (62 - 2*lev) (ic xs (62 - 2*lev) f4 (f4 - fr) fr) (a+1)).length by omega] at this
    rw [this];simp
theorem FG {xs:L2} (hne:xs≠[]) (hR:fE xs) (hk:agC xs):Good (bL xs) xs.length 0 0 xs.length 0 (bL xs).length:=by
 rw [fZ hne hR];refine leaves hR 32 0 0 0 xs.length 0 ⟨by rw [Nat.zero_add]; exact Nat.le_refl _,fun j _ c=>by rw [Nat.zero_add]⟩ (List.length_pos_iff.2 hne) (Nat.le_refl _) rfl ?_
 intro i j _ _ _ _;have h4:=hk i;have h5:=hk j;show shr (rd xs i 0) 64=shr (rd xs j 0) 64;rw [gH,gH,Int.ediv_eq_zero_of_lt h4.1 (by simpa using h4.2),Int.ediv_eq_zero_of_lt h5.1 (by simpa using h5.2)]
theorem LB {F:xS} {xs:L2} {lev pl:Nat}:∀ {ss:List (Nat × Nat)} {a:Nat} {ks:L1},(∀ x∈ks,(-1:Int)<=x)->∀ x∈yt F xs lev pl ss a ks,(-1:Int)<=x
 | [],a,ks,h=>h
 | (f,t) :: ss,a,ks,h=>by
  simp only [yt];refine LB ?_;intro x hx;rcases List.mem_or_eq_of_mem_set hx with h1 | rfl
  ·exact h x h1
  ·omega
theorem FR {xs:L2}:∀ (n lev:Nat) (key:Int) (fr to a:Nat),∀ r∈bD xs n lev key fr to a,∃(x0 x1 x2 x3:Int) (ks:L1),r=[x0,x1,x2,x3]++ks/\ks.length=4/\∀ x∈ks,(-1:Int)<=x
 | 0,lev,key,fr,to,a,r,hr=>by simp [bD] at hr
 | n+1,lev,key,fr,to,a,r,hr=>by
  simp only [bD] at hr;split at hr
  ·simp at hr;subst hr;exact ⟨_,_,_,_,[-1,-1,-1,-1],rfl,rfl,by simp⟩
  ·rcases List.mem_cons.1 hr with rfl | hr
   ·exact ⟨_,_,_,_,_,rfl,Ak rfl,LB (by simp)⟩
   ·obtain ⟨p,hp,a',h2⟩:=tj hr;exact FR n _ _ _ _ _ r h2
theorem UM {xs:L2} {i q:Nat} (hi:i < (bL xs).length) (hq:q < 4):(-1:Int)<=rd (bL xs) i (4+q):=by
 have hne:xs≠[]:=by rintro rfl; rw [g9] at hi; simp at hi
 have hR:fE xs:=Classical.byContradiction fun h=>by rw [kY h] at hi; simp at hi
 obtain ⟨x0,x1,x2,x3,ks,e,hl,h⟩:=FR (xs:=xs) 33 0 0 0 xs.length 0 (bL xs)[i] (by rw [← fZ hne hR]; exact List.getElem_mem hi)
 have:rd (bL xs) i (4+q)=ks.getD q 0:=by
  unfold rd;rw [show (bL xs).getD i []=(bL xs)[i] by simp [List.getD,hi],e]
  match q,hq with
  | 0,_=>rfl
  | 1,_=>rfl
  | 2,_=>rfl
  | 3,_=>rfl
 rw [this,show ks.getD q 0=ks[q] by simp [List.getD,(by omega:q < ks.length)]]
 exact h _ (List.getElem_mem _)
theorem NH {xs:L2} (hR:fE xs) (hk:agC xs) {i:Nat} (hi:i < (bL xs).length):z9 (bL xs) xs.length i:=by
 have hne:xs≠[]:=by rintro rfl; rw [g9] at hi; simp at hi
 exact (FG hne hR hk).ok i (Nat.zero_le _) (by omega)
end Go.Vs.RS
namespace Go.Vs.RF
open Go Go.Proofs Go.Vs Go.IntWalk
def lN (ns:L2) (n q:Nat):List Nat:=if 0<=rd ns n (4+q) then [(rd ns n (4+q)).toNat] else []
def gm (ns:L2) (n:Nat):List Nat:=lN ns n 0++(lN ns n 1++(lN ns n 2++lN ns n 3))
def ot (ns:L2) (n:Nat):Bool:=decide (rd ns n 4 < 0/\rd ns n 5 < 0/\rd ns n 6 < 0/\rd ns n 7 < 0)
def wt (ns:L2) (n:Nat):Nat:=(rd ns n 3 - rd ns n 2).toNat
def lv (ns:L2) (n:Nat):Nat:=(rd ns n 0).toNat
def sK (ns:L2):List Nat->Nat
 | []=>0
 | n :: l=>wt ns n+sK ns l
def Ca (ns:L2):List Nat->Nat
 | []=>0
 | n :: l=>wt ns n*(34 - lv ns n)+Ca ns l
theorem ra (ns:L2):∀ a b,sK ns (a++b)=sK ns a+sK ns b
 | [],b=>by simp [sK]
 | n :: a,b=>by simp only [List.cons_append,sK,ra ns a b]; omega
theorem GA (ns:L2):∀ a b,Ca ns (a++b)=Ca ns a+Ca ns b
 | [],b=>by simp [Ca]
 | n :: a,b=>by simp only [List.cons_append,Ca,GA ns a b]; omega
def hasB (ns ks:L2) (n:Nat) (i:Int):Bool:=(dX ns ks n).any fun k=>decide (k.getD 1 0=i)
def gr (ns:L2) (len:Nat):Prop:=∀ n,n < ns.length->RS.z9 ns len n/\∀ q,q < 4->(-1:Int)<=rd ns n (4+q)
theorem O1 {ks:L2} (hR:RS.fE ks) (hk:RS.agC ks):gr (RS.bL ks) ks.length:=fun _ hn=>⟨RS.NH hR hk hn,fun _ hq=>RS.UM hn hq⟩
section
variable {ns:L2} {len:Nat}
theorem pD (h:gr ns len) {n:Nat} (hn:n < ns.length) {q:Nat} (hq:q < 4):∀ k∈lN ns n q,k < ns.length/\lv ns k=lv ns n+1:=by
 intro k hk;unfold lN at hk;split at hk
 ·rename_i h0;rw [List.mem_singleton] at hk;subst hk;obtain ⟨⟨_,_,_,h5,h6,h7,_⟩,_⟩:=h n hn;rcases h7 q hq with h8 | ⟨h8,h9,h10,h11⟩
  ·omega
  ·refine ⟨by omega,?_⟩
   unfold lv;rw [h11];omega
 ·cases hk
theorem vq (h:gr ns len) {n:Nat} (hn:n < ns.length):∀ k∈gm ns n,k < ns.length/\lv ns k=lv ns n+1:=by
 intro k hk;unfold gm at hk;simp only [List.mem_append] at hk;rcases hk with hk | hk | hk | hk
 ·exact pD h hn (by omega) k hk
 ·exact pD h hn (by omega) k hk
 ·exact pD h hn (by omega) k hk
 ·exact pD h hn (by omega) k hk
theorem r8 (h:gr ns len) {n:Nat} (hn:n < ns.length) {q:Nat} (hq:q < 4):((sK ns (lN ns n q):Nat):Int)=RS.nu ns n (q+1) - RS.nu ns n q:=by
 obtain ⟨⟨_,_,_,h5,h6,h7,_⟩,_⟩:=h n hn;unfold lN;simp only [RS.nu];rcases h7 q hq with h8 | ⟨h8,h9,h10,h11⟩
 ·rw [if_neg (by omega),if_pos h8]; simp [sK]
 ·rw [if_pos (by omega),if_neg (by omega)]
  obtain ⟨⟨_,_,g3,_⟩,_⟩:=h (rd ns n (4+q)).toNat (by omega)
  rw [← h10];simp only [sK,wt];omega
theorem IB (h:gr ns len) {n:Nat} (hn:n < ns.length):ot ns n=true↔RS.gD ns n 4=0:=by
 unfold ot;simp only [decide_eq_true_eq,RS.gD,Nat.reduceAdd];repeat' split
 all_goals (constructor <;> intro hh <;> omega)
theorem r9 (h:gr ns len) {n:Nat} (hn:n < ns.length) (hl:ot ns n=false):sK ns (gm ns n)=wt ns n:=by
 have a0:=r8 h hn (q:=0) (by omega)
 have a1:=r8 h hn (q:=1) (by omega)
 have a2:=r8 h hn (q:=2) (by omega)
 have a3:=r8 h hn (q:=3) (by omega)
 have hk:¬ RS.gD ns n 4=0:=fun e=>by rw [(IB h hn).2 e] at hl; cases hl
 obtain ⟨⟨h1,h2,h3,h5,h6,h7,h8⟩,_⟩:=h n hn;simp only [Nat.reduceAdd] at a0 a1 a2 a3;have e0:RS.nu ns n 0=rd ns n 2:=rfl;have e4:RS.nu ns n 4=rd ns n 3:=by
  rcases h8 with ⟨h8,_⟩ | ⟨_,h8,_⟩
  ·exact absurd h8 hk
  ·exact h8
 unfold gm wt;rw [ra,ra,ra];omega
theorem nN (h:gr ns len) {n:Nat} (hn:n < ns.length):1<=wt ns n/\wt ns n<=len/\lv ns n<=32:=by
 obtain ⟨⟨h1,h2,h3,h5,h6,h7,h8⟩,_⟩:=h n hn;unfold wt lv;omega
theorem GI (h:gr ns len):∀ {l:List Nat},(∀ n∈l,n < ns.length)->l.length<=sK ns l
 | [],_=>by simp
 | n :: l,hl=>by
  have:=GI h (l:=l) fun k hk=>hl k (List.mem_cons_of_mem _ hk)
  have:=(nN h (hl n (List.mem_cons_self ..))).1;simp only [List.length_cons,sK];omega
theorem Gz {c:Nat}:∀ {l:List Nat},(∀ n∈l,lv ns n=c)->Ca ns l=sK ns l*(34 - c)
 | [],_=>by simp [Ca,sK]
 | n :: l,hl=>by
  simp only [Ca,sK];rw [Gz (fun k hk=>hl k (List.mem_cons_of_mem _ hk)),hl n (List.mem_cons_self ..),Nat.add_mul]
theorem Ln (h:gr ns len) {n:Nat} (hn:n < ns.length) (hl:ot ns n=false):Ca ns (gm ns n) < wt ns n*(34 - lv ns n):=by
 rw [Gz fun k hk=>(vq h hn k hk).2,r9 h hn hl]
 have:=nN h hn;exact Nat.mul_lt_mul_of_pos_left (by omega) (by omega)
theorem PB (h:gr ns len) {n:Nat} (hn:n < ns.length):0 < wt ns n*(34 - lv ns n):=by
 have:=nN h hn;exact Nat.mul_pos (by omega) (by omega)
theorem Pn {ks:L2} (h:gr ns ks.length) {n:Nat} (hn:n < ns.length):(dX ns ks n).length=wt ns n:=by
 obtain ⟨⟨h1,h2,h3,_⟩,_⟩:=h n hn;unfold dX wt;rw [List.length_drop,List.length_take];omega
end
section
variable {σ:Type}
def dF {α:Type} (f:α->σ->σ × Int):List α->σ->σ × Int
 | [],s=>(s,0)
 | a :: l,s=>if (f a s).2≠0 then f a s else dF f l (f a s).1
theorem By {α:Type} (f:α->σ->σ × Int):∀ (a b:List α) (s:σ),dF f (a++b) s=if (dF f a s).2≠0 then dF f a s else dF f b (dF f a s).1
 | [],b,s=>by simp [dF]
 | x :: a,b,s=>by
  simp only [List.cons_append,dF];split
  ·rfl
  ·rename_i h; rw [By f a b]
theorem wm {α:Type} {f g:α->σ->σ × Int}:∀ {l:List α} {s:σ},(∀ a∈l,∀ s,f a s=g a s)->dF f l s=dF g l s
 | [],s,_=>rfl
 | a :: l,s,h=>by
  simp only [dF];rw [h a (List.mem_cons_self ..) s,wm fun b hb=>h b (List.mem_cons_of_mem _ hb)]
def dw (vis:Int->σ->σ × Int) (i:Int) (k:L1) (s:σ):σ × Int:=if k.getD 1 0=i then (s,0) else vis (-1 - k.getD 1 0) s
def jH (vis:Int->σ->σ × Int) (ns ks:L2) (fe:Nat->Int) (fb:Nat->Bool) (i:Int):Nat->Nat->σ->σ × Int
 | 0,_,s=>(s,0)
 | m+1,n,s=>if ot ns n=true then dF (dw vis i) (dX ns ks n) s
  else if hasB ns ks n i=false/\fe n≠0 then (s,fe n)
  else if hasB ns ks n i=false/\fb n=true then vis n s
  else dF (jH vis ns ks fe fb i m) (gm ns n) s
def Cm (vis:Int->σ->σ × Int) (ns ks:L2) (fe:Nat->Int) (fb:Nat->Bool) (i:Int) (n:Nat) (s:σ):σ × Int:=jH vis ns ks fe fb i (33 - lv ns n) n s
theorem Cl {ns:L2} {len:Nat} (h:gr ns len) (vis:Int->σ->σ × Int) (ks:L2) (fe:Nat->Int) (fb:Nat->Bool) (i:Int) {n:Nat} (hn:n < ns.length) (s:σ):
  Cm vis ns ks fe fb i n s=if ot ns n=true then dF (dw vis i) (dX ns ks n) s
  else if hasB ns ks n i=false/\fe n≠0 then (s,fe n)
  else if hasB ns ks n i=false/\fb n=true then vis n s
  else dF (Cm vis ns ks fe fb i) (gm ns n) s:=by
 have hw:=nN h hn;unfold Cm;obtain ⟨m,hm⟩:∃m,33 - lv ns n=m+1:=⟨32 - lv ns n,by omega⟩
 rw [hm];simp only [jH];have e:dF (jH vis ns ks fe fb i m) (gm ns n) s=dF (fun n s=>jH vis ns ks fe fb i (33 - lv ns n) n s) (gm ns n) s:=by
  refine wm fun k hk s=>?_
  have:=(vq h hn k hk).2;show _=jH vis ns ks fe fb i (33 - lv ns k) k s;rw [show 33 - lv ns k=m by omega]
 rw [e]
end
end Go.Vs.RF
namespace Go.Vs.RS
open Go Go.Proofs Go.Vs Go.IntWalk
def kx (xs ys:L2) (i:Int):St:=⟨T 25 [(0,.sl 0),(9,.sl 1),(10,i64 ys.length),(11,i64 i)],[ro xs,ro ys]⟩
def L17:aB:=fun n0 st K=>(n0=1/\st=kx (st.x 0) (st.x 1) 0/\(st.x 0).length<=1000000/\st.x 1=(st.x 0).drop 1)/\br (bp (Jt (st.x 0).length (st.x 0))) (K (.exit 0) ⟨T 25 [],[ro (st.x 0)]⟩) (K .ret ⟨T 25 [(2,.bool false)],[ro (st.x 0)]⟩)
def ZL:Know:={ Γ:=fun _=>none,Λ:=fun f i=>if f=145 then (if i=0 then some L17 else none) else none,Τ:=fun _=>none }
theorem r17 (N:Know) (xs ys:L2) (i:Int) (k:Out->St->Prop):(round (ai TP N 0) 145 1 0 (lp TP 145 0) (kx xs ys i) k) =(JaQ i (Jag ys) (JbC i ys (JaK i i xs) (JaQ (Jam ys i 0) (Jam xs i 0) (k .ret (Jau (Jab (Jaf JaP (Jab (Jac (Jah []))))) [] xs [])) (k .normal (Jbd (Jae (JaO (Jag ys) (JaJ i) (Jaa (Jac (Jae []))))) [] xs (Jaq [] ys []))))) (k (.exit 0) (Jau (Jaa (Jae (Jah []))) [] xs []))) :=by kernel_rfl
def Jbc (a:Int)(b c d:L2):L2:=List.drop (Int.toNat (mn .i64 a (Jag b))) (List.take (Jav c) d)
theorem v17 (xs:L2) (K:KP):(comes TP ZL 1 145 [.sl 0] [.ro [.u64,.i64] xs] K) =(Jar (Jar (0<=mn .i64 1 (Jag xs)) (mn .i64 1 (Jag xs)<=Jag xs) (Jag xs<=Jag xs)) (List.length (List.map Option.some (Jbs [] xs []))=1/\Jar (Jbd (Jae (JaO (Jag (Jbc 1 xs xs xs)) 0 (Jaa (Jac (Jae []))))) [] xs (Jaq [] (Jbc 1 xs xs xs) [])=Jbd (Jae (JaO (Jag (Jbc 1 xs xs xs)) 0 (Jaa (Jac (Jae []))))) [] xs (Jaq [] (Jbc 1 xs xs xs) [])) (JaL xs) (Jbc 1 xs xs xs=List.drop 1 xs)) (br (bp (Jt (List.length xs) xs)) (K (.bool Bool.true) []) (K JaP []))) :=by kernel_rfl
theorem Um (N:Know) (n0:Nat):aG (ai TP N 0) 145 n0 0 (lp TP 145 0) L17:=by
 rintro st K ⟨⟨rfl,hst,hlen,hx1⟩,hbr⟩;rw [hx1] at hst;clear hx1;generalize st.x 0=xs at *;subst hst;rw [Hl] at hbr;have hl1:(xs.drop 1).length=xs.length - 1:=by simp
 refine aC (kx xs (xs.drop 1)) (fun i=>0<=i/\i<=(xs.length - 1:Nat)/\∀ p q:Nat,p < q->(q:Int)<=i->rd xs p 0<=rd xs q 0) (fun i=>(xs.length - i).toNat) ?_ (a:=0) ⟨by omega,by omega,fun p q h1 h2=>by omega⟩
 rintro i ⟨h1,h2,h3⟩ k hn hk;rw [r17]; delta Jaa Jab Jac Jad Jae Jaf Jag Jah Jai Jam Jao Jaq Jar Jau Jaw Jax JaB JaG JaJ JaK JaO JaP JaQ Jbd JbC; rw [al];constructor
 ·intro hi;have hi':i < (xs.length:Int) - 1:=by rw [hl1] at hi; omega
  rw [i64_in (i+1) (by omega)]
  have e0:rd (xs.drop 1) i.toNat 0=rd xs (i+1).toNat 0:=by
   rw [Pg]
   congr 1
   omega
  refine ⟨⟨by omega,hi⟩,⟨by omega,hi⟩,⟨by omega,by omega⟩,⟨by omega,by omega⟩,?_⟩
  rw [al,e0];constructor
  ·intro hlt;refine hk _ _ (by simp) (hbr.2 ?_)
   intro hr;have:=hr i.toNat (i+1).toNat (by omega) (by omega)
   omega
  ·intro hle;refine hn _ ⟨by omega,by omega,fun p q hpq hq=>?_⟩ (by omega)
   by_cases hq':(q:Int)<=i
   ·exact h3 p q hpq hq'
   ·have e1:q=(i+1).toNat:=by omega
    subst e1;by_cases hp:p=i.toNat
    ·subst hp; omega
    ·have:=h3 p i.toNat (by omega) (by omega)
     omega
 ·intro hi;refine hk _ _ (by simp) (hbr.1 ?_)
  intro p q hpq hq;rw [hl1] at hi;exact h3 p q hpq (by omega)
theorem c17:aa TP 145 sQ:=by
 refine ab 1 ⟨mixedOrders,fun g sp h=>(by cases h),?_,fun g G h=>(by cases h),fun f h=>(by cases h)⟩ (N:=ZL) ?_
 ·intro d' hd f i S n0 hS;have:d' = 0:=by omega
  subst this;simp only [ZL] at hS;split at hS
  ·rename_i hf;subst hf;split at hS
   ·rename_i hi;subst hi;cases hS
    exact Um ZL n0
   ·cases hS
  ·cases hS
 ·rintro l bs _ hb ⟨xs,rfl,rfl,hl⟩;rw [v17]; delta Jaa Jab Jac Jad Jae Jaf Jag Jao Jaq Jar Jau Jav Jaw JaG JaL JaO JaP Jbc Jbd Jbs;have key:∀ b:Bool,bp (fE xs)=b->sQ.F [.sl 0] [.ro [.u64,.i64] xs]=(IV.bool b,[]):=by
   rintro b rfl; rfl
  have hmn:mn IntKind.i64 1 (xs.length:Int)=if (xs.length:Int) < 1 then (xs.length:Int) else 1:=rfl
  have hd:xs.drop (mn IntKind.i64 1 (xs.length:Int)).toNat=xs.drop 1:=by
   rw [hmn];split
   ·have:xs=[]:=List.eq_nil_of_length_eq_zero (by omega)
    subst this
    rfl
   ·rfl
  have ht:xs.take ((xs.length:Int)).toNat=xs:=by
   rw [Int.toNat_natCast];exact List.take_length
  refine ⟨⟨?_,?_,by omega⟩,⟨rfl,rfl,hl,by rw [ht]; exact hd⟩,?_⟩
  ·rw [hmn]; split <;> omega
  ·rw [hmn]; split <;> omega
  ·rw [Hl];exact ⟨fun h=>key _ (pJ h),fun h=>key _ (oT h)⟩
def B29 (xs zs:L2) (lev key fr to:Int):OB:=[some (.var 202 [.sl 1,.sl 4]),ro xs,none,some (.var 70 (yf lev key fr to (-1) (-1) (-1) (-1))),some (.row 70 nk zs)]
def Rp (xs zs:L2) (lev key fr to at_ place f:Int):St:=⟨T 110 [(0,.ptr 0 0),(3,.ptr 3 0),(5,i64 at_),(6,i64 place),(7,i64 f)],B29 xs zs lev key fr to⟩
def Jn (xs zs:L2) (lev key fr to at_ place f kf t:Int):St:=⟨T 110 [(0,.ptr 0 0),(3,.ptr 3 0),(5,i64 at_),(6,i64 place),(7,i64 f),(8,.int .u64 kf),(9,i64 t)],B29 xs zs lev key fr to⟩
def KR (xs:L2) (place f kf to t:Int):Prop:=0<=place/\place<=62/\0<=f/\f < to/\to<=xs.length/\xs.length<=1000/\kf=rd xs f.toNat 0/\t=f+1
def YE:aB:=fun n0 st K=>(n0=3/\st=Jn (st.x 1) (st.x 4) (st.c 3 0) (st.c 3 1) (st.c 3 2) (st.c 3 3) (st.i 5) (st.i 6) (st.i 7) (st.i 8) (st.i 9)/\KR (st.x 1) (st.i 6) (st.i 7) (st.i 8) (st.c 3 3) (st.i 9))/\
 K (.exit 2) (Jn (st.x 1) (st.x 4) (st.c 3 0) (st.c 3 1) (st.c 3 2) (st.c 3 3) (st.i 5) (st.i 6) (st.i 7) (st.i 8) (aR (st.x 1) (st.i 6).toNat (st.c 3 3).toNat (st.i 7).toNat))
def JaN (a:List IntKind)(b:L2)(c:OB):OB:=Jaq a b (Option.none::c)
def JaX (a:Nat)(b:List IV):List IV:=.sl 1::.sl a::b
def Jbe (a b:Nat)(c d e:Int)(f:List (Option IV))(g:Nat)(h:List IV)(i:List IntKind)(j:L2)(k l m n:Int)(o:List IV)(p:L2)(q:OB):St:=⟨Jaf (.ptr a b) (Jab (Jbv (Jaa (Jaf (Jad c) (Jaw (Jad d) e f))))),Jas 202 (JaX g h) (JaN i j (JaH 70 k l m n Jap Jap Jap Jap o (JaF [] p q)))⟩
def Jbq (a b:Int):List (Option IV):=Jaw (.int .u64 a) (JaJ b) Ja0
theorem aai (N:Know) (xs zs:L2) (lev key fr to at_ place f kf t:Int) (k:Out->St->Prop):(round (ai TP N 0) 146 3 1 (lp TP 146 1) (Jn xs zs lev key fr to at_ place f kf t) k) =(JaQ t to (JbC t xs (0<=place) (br (Jat (Jam xs t 0) 2 place 64 == Jat kf 2 place 64) (k .normal (Jbe 0 0 at_ place f (Jbq kf t) 4 [] [] xs lev key fr to [] zs [])) (k (.exit 2) (Jbe 0 0 at_ place f (Jaw (.int .u64 kf) t Ja0) 4 [] [] xs lev key fr to [] zs [])))) (k (.exit 2) (Jbe 0 0 at_ place f (Jaw (.int .u64 kf) t Ja0) 4 [] [] xs lev key fr to [] zs []))) :=by kernel_rfl
def KT (n:Nat) (xs zs:L2) (lev key fr to at_ place f:Int):Prop:=
 x9 (n+1) xs (zs.take at_.toNat) lev fr to/\zs=zs.take at_.toNat++[ou lev key fr to]/\0<=at_/\at_+1=zs.length/\place=62 - 2*lev/\f=fr/\4 < to - fr/\lev < 32
def ZO (n:Nat):eG:=fun args b K=>
 (args=[.ptr 0 0,.agg (yf (ae args 1 0) (ae args 1 1) (ae args 1 2) (ae args 1 3) (ae args 1 4) (ae args 1 5) (ae args 1 6) (ae args 1 7))]/\b=[some (.var 202 [.sl 1,.sl 2]),ro (dh b 1),some (.row 70 nk (dh b 2))]/\
  x9 n (dh b 1) (dh b 2) (ae args 1 0) (ae args 1 2) (ae args 1 3))/\
 K (i64 (dh b 2).length) [some (.var 202 [.sl 1,.sl 3]),ro (dh b 1),none,some (.row 70 nk (dh b 2++bD (dh b 1) n (ae args 1 0).toNat (ae args 1 1) (ae args 1 2).toNat (ae args 1 3).toNat (dh b 2).length))]
def YF (n:Nat):aB:=fun n0 st K=>(n0=3/\st=Rp (st.x 1) (st.x 4) (st.c 3 0) (st.c 3 1) (st.c 3 2) (st.c 3 3) (st.i 5) (st.i 6) (st.i 7)/\KT n (st.x 1) (st.x 4) (st.c 3 0) (st.c 3 1) (st.c 3 2) (st.c 3 3) (st.i 5) (st.i 6) (st.i 7))/\
 K (.exit 0) ⟨T 110 [(5,i64 (st.i 5))],[some (.var 202 [.sl 1,.sl 3]),ro (st.x 1),none,some (.row 70 nk ((st.x 4).take (st.i 5).toNat++bD (st.x 1) (n+1) (st.c 3 0).toNat (st.c 3 1) (st.c 3 2).toNat (st.c 3 3).toNat (st.i 5).toNat))]⟩
def SL (n:Nat):Know:={ Γ:=fun _=>none,Λ:=fun f i=>if f=146 then (if i=0 then some (YF n) else if i=1 then some YE else none) else none,Τ:=fun g=>if g=146 then some (ZO n) else none }
def JaS (a:L2)(b c d:Int):Int:=(↑(aR a (Int.toNat b) (Int.toNat c) (Int.toNat d)):Int)
def Ja5 (a b:Nat)(c:L2)(d:Int)(e:Nat)(f g h:Int)(i:L2)(j:L1)(k:Nat):Int:=if (↑a:Int)=(↑b:Int)+JaA c d e f g 64 h then Jag i else List.getD j k 0
def Jbp (a:List IV)(b:List IntKind)(c:L2)(d:List IntKind)(e:L2)(f:OB):OB:=Jas 202 (.sl 1::.sl 2::a) (Jaq b c (JaF d e f))
theorem aaj (n:Nat) (xs zs:L2) (lev key fr to at_ place f:Int) (k:Out->St->Prop):(round (ai TP (SL n) 0) 146 3 0 (lp TP 146 0) (Rp xs zs lev key fr to at_ place f) k) =(JaQ f to (Jar (JaK f f xs) (JaK f f xs) (JaB (Jar (3=3) (Jbe 0 0 at_ place f (Jbq (Jam xs f 0) f) 4 [] [] xs lev key fr to [] zs []=Jbe 0 0 at_ place f (Jbq (Jam xs f 0) f) 4 [] [] xs lev key fr to [] zs []) (KR xs place f (Jam xs f 0) to (JaJ f))) (0<=place) (0<=place) (Jar ([.ptr 0 0,Ja4 (JaJ lev) (JbB xs f place) f (JaS xs place to f) 0 0 0 0 []]=[.ptr 0 0,Ja4 (JaJ lev) (JbB xs f place) f (JaS xs place to f) 0 0 0 0 []]) (Jbp [] [] xs [] zs []=Jbp [] [] xs [] zs []) (x9 n xs zs (JaJ lev) f (JaS xs place to f))) (JaB (0<=place) (JaK at_ at_ (zs++JaW xs n (JaJ lev) (JbB xs f place) f (JaS xs place to f) zs)) (Jax 0 (JaA xs f 0 2 place 64 3) (JaA xs f 0 2 place 64 3) (↑4:Int)) (0<=at_/\Jar (at_ < Jag (zs++JaW xs n (JaJ lev) (JbB xs f place) f (JaS xs place to f) zs)) (0<=JaA xs f 0 2 place 64 3) (4+Int.toNat (JaA xs f 0 2 place 64 3) < 8)) (k .normal (Jbe 0 0 at_ place (JaS xs place to f) (Jab Ja0) 4 [] [] xs lev key fr to [] (Jay (zs++JaW xs n (JaJ lev) (JbB xs f place) f (JaS xs place to f) zs) at_ (fun a=>Jan (Ja5 0 4 xs f 0 2 place 3 zs a 0) (Ja5 1 4 xs f 0 2 place 3 zs a 1) (Ja5 2 4 xs f 0 2 place 3 zs a 2) (Ja5 3 4 xs f 0 2 place 3 zs a 3) (Ja5 4 4 xs f 0 2 place 3 zs a 4) (Ja5 5 4 xs f 0 2 place 3 zs a 5) (Ja5 6 4 xs f 0 2 place 3 zs a 6) (Ja5 7 4 xs f 0 2 place 3 zs a 7) [])) []))))) (k (.exit 0) ⟨Jaa (Jac (Jaf (Jad at_) (Jae (Jak JaM)))),Jas 202 (JaX 3 []) (JaN [] xs (JaF [] zs []))⟩)) :=by kernel_rfl
def Jbl (a:L2)(b c d e:Int):L2:=Jbk a b c d e Jap Jap Jap Jap
theorem v29 (n:Nat) (xs zs:L2) (lev key fr to k0 k1 k2 k3:Int) (K:IV->OB->Prop):(bQ TP (SL n) 1 146 [.ptr 0 0,.agg (yf lev key fr to k0 k1 k2 k3)] [some (.var 202 [.sl 1,.sl 2]),ro xs,some (.row 70 nk zs)] fun v b1=>ld 3 v b1 K) =(JaU ((List.length zs+List.length (List.set (Jal 1 8 0) 0 (Jan lev key fr to Jap Jap Jap Jap [])))*64)/\br (Decidable.decide (Jai (to - fr)<=4)) (K (Jad (Jag zs)) (Jas 202 (JaX 3 []) (JaN [] xs (JaF [] (Jbl zs lev key fr to) [])))) (br (Decidable.decide (lev ≥ 32)) (K (Jad (Jag zs)) (Jas 202 (JaX 3 []) (JaN [] xs (JaF [] (Jbl zs lev key fr to) [])))) (Jbo 3 3 (Jbe 0 0 (Jag zs) (JaZ 2 lev) fr (Jab Ja0) 4 [] [] xs lev key fr to [] (Jbl zs lev key fr to) []=Jbe 0 0 (Jag zs) (JaZ 2 lev) fr (Jab Ja0) 4 [] [] xs lev key fr to [] (Jbl zs lev key fr to) []) (KT n xs (Jbl zs lev key fr to) lev key fr to (Jag zs) (JaZ 2 lev) fr) (K (Jad (Jag zs)) (Jas 202 (JaX 3 []) (JaN [] xs (JaF [] (List.take (Jav zs) (Jbl zs lev key fr to)++bD xs (n+1) (Int.toNat lev) key (Int.toNat fr) (Int.toNat to) (Jav zs)) []))))))) :=by kernel_rfl
theorem PK (N:Know) (n0:Nat):aG (ai TP N 0) 146 n0 1 (lp TP 146 1) YE:=by
 rintro st K ⟨⟨rfl,hst,hp⟩,hK⟩;generalize st.x 1=xs at *;generalize st.x 4=zs at *;generalize st.c 3 0=lev at *;generalize st.c 3 1=key at *;generalize st.c 3 2=fr at *;generalize st.c 3 3=to at *;generalize st.i 5=at_ at *;generalize st.i 6=place at *;generalize st.i 7=f at *;generalize st.i 8=kf at *;generalize st.i 9=t0 at *;subst hst;obtain ⟨p1,p2,p3,p4,p5,p6,rfl,rfl⟩:=hp;have hmin:min place.toNat 64=place.toNat:=by omega
 refine aC (fun a:Int=>Jn xs zs lev key fr to at_ place f (rd xs f.toNat 0) a) (fun a=>f < a/\a<=to/\kG xs place.toNat (rd xs f.toNat 0) to.toNat (to.toNat - a.toNat) a.toNat=aR xs place.toNat to.toNat f.toNat) (fun a=>(to - a).toNat) ?_ (a:=f+1) ⟨by omega,by omega,by
  unfold aR;rw [show (f+1).toNat=f.toNat+1 by omega]⟩
 rintro t ⟨a1,a2,a3⟩ k hn hk;show round _ _ _ _ _ (Jn _ _ _ _ _ _ _ _ _ _ t) k;rw [aai]; delta Jaa Jab Jac Jad Jae Jaf Jag Jah Jai Jaj Jak Jam Jao Jap Jaq Jar Jas Jat Jaw Jax JaB JaF JaH JaJ JaK JaM JaN JaQ JaX Ja0 Jbv Jbe Jbq JbC; rw [al,hmin];have fin:¬ (t.toNat < to.toNat/\shr (rd xs t.toNat 0) place.toNat=shr (rd xs f.toNat 0) place.toNat)->k (Out.exit 2) (Jn xs zs lev key fr to at_ place f (rd xs f.toNat 0) t):=by
  intro h;rw [El h] at a3;refine hk _ _ (by simp) ?_
  rw [← a3] at hK;rw [show ((t.toNat:Nat):Int)=t by omega] at hK
  exact hK
 constructor
 ·intro hi;have hw:(0:Int)<=t/\t < xs.length:=by omega
  refine ⟨hw,hw,p1,p1,?_⟩;rw [aL];constructor
  ·intro he;have he':shr (rd xs t.toNat 0) place.toNat=shr (rd xs f.toNat 0) place.toNat:=by simpa [shr] using he
   rw [i64_in (t+1) (by omega)]
   refine hn (t+1) ⟨by omega,by omega,?_⟩ (by omega)
   rw [show (t+1).toNat=t.toNat+1 by omega,← Em (by omega) he']
   exact a3
  ·intro he;refine fin fun h=>?_
   have:(rd xs t.toNat 0).fdiv (2 ^ place.toNat)=(rd xs f.toNat 0).fdiv (2 ^ place.toNat):=h.2;rw [this] at he;simp at he
 ·intro hi;exact fin (by omega)
theorem PL (n:Nat) (n0:Nat):aG (ai TP (SL n) 0) 146 n0 0 (lp TP 146 0) (YF n):=by
 rintro st K ⟨⟨rfl,hst,hp⟩,hK⟩;generalize st.x 1=xs at *;generalize st.x 4=zs at *;generalize st.c 3 0=lev0 at *;generalize st.c 3 1=key at *;generalize st.c 3 2=fr0 at *;generalize st.c 3 3=to0 at *;generalize st.i 5=at0 at *;generalize st.i 6=place at *;generalize st.i 7=f0 at *;subst hst;obtain ⟨⟨q1,q1',q2,q3,q4,q5,q6,q7,q8⟩,e1,q9,q10,rfl,rfl,q11,q12⟩:=hp;obtain ⟨lev,rfl⟩:∃m:Nat,lev0=m:=⟨lev0.toNat,by omega⟩
 obtain ⟨fr,rfl⟩:∃m:Nat,f0=m:=⟨f0.toNat,by omega⟩
 obtain ⟨to,rfl⟩:∃m:Nat,to0=m:=⟨to0.toNat,by omega⟩
 obtain ⟨at_,rfl⟩:∃m:Nat,at0=m:=⟨at0.toNat,by omega⟩
 simp only [Int.toNat_natCast] at *;generalize hz0:zs.take at_=zs0 at *;have hl0:zs0.length=at_:=by rw [← hz0,List.length_take]; omega
 have hpl:((62:Int) - 2*(lev:Int)).toNat=62 - 2*lev:=by omega
 have hstart:Inv29 n xs zs0 lev key fr to (fr,zs):=by
  refine ⟨Nat.le_refl _,by omega,⟨[-1,-1,-1,-1],[],rfl,?_,?_⟩,?_⟩
  ·rw [e1]; rfl
  ·simp only [bD];rw [if_neg (by omega)]
   simp
  ·simp only;have:=congrArg List.length e1;simp at this;omega
 refine aC (fun p:Nat × L2=>Rp xs p.2 lev key fr to at_ (62 - 2*(lev:Int)) p.1) (Inv29 n xs zs0 lev key fr to) (fun p=>to - p.1) ?_ (a:=(fr,zs)) hstart
 rintro ⟨f,zs1⟩ ⟨a1,a2,⟨ks,D,hkl,hz,htree⟩,hcnt⟩ k hn hk;simp only at a1 a2 hz htree hcnt;show round _ _ _ _ _ (Rp xs zs1 lev key fr to at_ (62 - 2*(lev:Int)) f) k;rw [aaj]; delta Jaa Jab Jac Jad Jae Jaf Jag Jah Jai Jaj Jak Jam Jan Jao Jap Jaq Jar Jas Jat Jaw Jax Jay Jaz JaA JaB JaF JaH JaJ JaK JaM JaN JaQ JaS JaW JaX Ja0 Ja4 Ja5 Jbv Jbe Jbp Jbq JbB; rw [al];constructor
 ·intro hi;have hi':f < to:=by omega
  obtain ⟨s1,s2,s3,s4⟩:=dM xs (62 - 2*lev) hi';have hw:(0:Int)<=(f:Int)/\(f:Int) < xs.length:=by omega
  have hmin:min (62 - 2*lev) 64=62 - 2*lev:=by omega
  have hk0:=q7 f;have hsh:(rd xs f 0).fdiv (2 ^ (62 - 2*lev))=shr (rd xs f 0) (62 - 2*lev):=rfl;simp only [Int.toNat_natCast,hpl,hmin,hsh];rw [FQ hk0.1 hk0.2,Yk (qi hk0.1 _) (by have:=KG hk0.1 (62 - 2*lev); omega),i64_in ((lev:Int)+1) (by omega),i64_in ((f:Int)+1) (by omega)]
  have hq:shr (rd xs f 0) (62 - 2*lev) % 4=(kq xs (62 - 2*lev) f:Int):=by unfold kq; omega
  have hq4:kq xs (62 - 2*lev) f < 4:=by unfold kq; omega
  have hkp:shr (rd xs f 0) (62 - 2*lev)*2 ^ (62 - 2*lev)=kp xs (62 - 2*lev) f:=rfl;rw [hq,hkp];have hle:((lev:Int)+1).toNat=lev+1:=by omega
  rw [hle];have hsub:=nR xs n (lev+1) (kp xs (62 - 2*lev) f) f (aR xs (62 - 2*lev) to f) zs1.length s1;have hsplit:n*(to - f)=n*(aR xs (62 - 2*lev) to f - f)+n*(to - aR xs (62 - 2*lev) to f):=by rw [← Nat.mul_add]; congr 1; omega
  have hz1:zs1.length=at_+1+D.length:=by rw [hz]; simp [hl0]; omega
  have hmul:((n:Int)+1)*((to:Int) - fr)=(n*(to - fr)+(to - fr):Nat):=by
   have:((to - fr:Nat):Int)=(to:Int) - fr:=by omega
   rw [← this]; push_cast; rw [Int.add_mul]; omega
  have hmul2:(n:Int)*(((aR xs (62 - 2*lev) to f:Nat):Int) - f)=(n*(aR xs (62 - 2*lev) to f - f):Nat):=by
   have:((aR xs (62 - 2*lev) to f - f:Nat):Int)=((aR xs (62 - 2*lev) to f:Nat):Int) - f:=by omega
   rw [← this]; push_cast; rfl
  have q8':zs0.length+((n:Int)+1)*((to:Int) - fr)<=1000000:=by push_cast at q8; exact q8
  rw [hmul] at q8';refine ⟨hw,hw,⟨by first | rfl | trivial,by first | rfl | trivial,by omega,by omega,by omega,by omega,by omega,by omega,by simp,rfl⟩,by omega,by omega,⟨by first | rfl | trivial,by first | rfl | trivial,by omega,by omega,by omega,by omega,by omega,by omega,by omega,q7,?_⟩,by omega,?_,?_,?_,?_⟩
  ·rw [hmul2]; omega
  ·simp only [List.length_append]; omega
  ·omega
  ·simp only [List.length_append]; omega
  ·rw [hz,List.append_assoc,List.cons_append,show at_=zs0.length from hl0.symm,ql]
   have hlen2:(zs0++([(lev:Int),key,(fr:Int),(to:Int)]++ks) :: D).length=zs0.length+1+D.length:=by simp; omega
   rw [hlen2];have:=hn (aR xs (62 - 2*lev) to f,zs0++([(lev:Int),key,(fr:Int),(to:Int)]++ks.set (kq xs (62 - 2*lev) f) ((zs0.length+1+D.length:Nat):Int)) :: (D++bD xs n (lev+1) (kp xs (62 - 2*lev) f) f (aR xs (62 - 2*lev) to f) (zs0.length+1+D.length))) ⟨by simp only; omega,s2,?_,?_⟩ (by simp only; omega)
   ·rw [← TI hkl hq4] at this;rw [hl0] at this ⊢;exact this
   ·refine ⟨_,_,by simpa using hkl,rfl,?_⟩
    rw [htree,o9 hi'];simp only [yt,gq,List.length_append,List.append_assoc,Nat.add_assoc]
   ·simp only [List.length_append,List.length_cons];have h2:=nR xs n (lev+1) (kp xs (62 - 2*lev) f) f (aR xs (62 - 2*lev) to f) (zs0.length+1+D.length) s1;omega
 ·intro hi;have e:f=to:=by omega
  subst e;refine hk _ _ (by simp) ?_
  rw [agx (Nat.le_refl _)] at htree;simp only [yt,gq,List.append_nil] at htree;rw [hl0] at htree;rw [htree,← hz] at hK;exact hK
theorem UK {n:Nat} (ih:cf TP 146 (ZO n)):KnowOk TP (SL n) 1:=by
 refine ⟨mixedOrders,fun g sp h=>(by cases h),?_,?_,fun f h=>(by cases h)⟩
 ·intro d' hd f i S n0 hS;have:d' = 0:=by omega
  subst this;simp only [SL] at hS;split at hS
  ·rename_i hf;subst hf;split at hS
   ·rename_i hi; subst hi; cases hS; exact PL n n0
   ·split at hS
    ·rename_i hi; subst hi; cases hS; exact PK (SL n) n0
    ·cases hS
  ·cases hS
 ·intro g G hG;simp only [SL] at hG;split at hG
  ·rename_i hg; subst hg; cases hG; exact ih
  ·cases hG
theorem Xo:∀ n,cf TP 146 (ZO n)
 | 0=>by
  rintro args b K ⟨⟨h1,h2,p1,p2,p3,_⟩,hK⟩;exact absurd p3 (by simp only [Int.natCast_zero] at *; omega)
 | n+1=>by
  refine cL 1 (UK (Xo n)) ?_;rintro args b K ⟨⟨h1,h2,hp⟩,hK⟩;generalize ae args 1 0=lev at *;generalize ae args 1 1=key at *;generalize ae args 1 2=fr at *;generalize ae args 1 3=to at *;generalize ae args 1 4=k0 at *;generalize ae args 1 5=k1 at *;generalize ae args 1 6=k2 at *;generalize ae args 1 7=k3 at *;generalize dh b 1=xs at *;generalize dh b 2=zs at *;subst h1;subst h2;show bQ TP (SL n) 1 146 _ _ (fun v b1=>ld 3 v b1 K)
  rw [v29]; delta Jaa Jab Jac Jad Jae Jaf Jag Jah Jai Jaj Jak Jal Jan Jao Jap Jaq Jar Jas Jav Jaw JaF JaH JaM JaN JaU JaX JaZ Ja0 Jbv Jbe Jbk Jbl Jbo;obtain ⟨p1,p1',p2,p3,p4,p5,p6,p7,p8⟩:=hp;have hp:x9 (n+1) xs zs lev fr to:=⟨p1,p1',p2,p3,p4,p5,p6,p7,p8⟩;have e0:(List.replicate (1:Nat) (List.replicate (8:Nat) (0:Int))).set (0:Nat) [lev,key,fr,to,-1,-1,-1,-1]=[ou lev key fr to]:=rfl;have hzl:(zs.length:Int)<=1000000:=by
   have:(0:Int)<=((n+1:Nat):Int)*(to - fr):=Int.mul_nonneg (by omega) (by omega)
   omega
  have hlv:(lev.toNat:Int)=lev:=by omega
  rw [e0,al,al,i64_in (to - fr) (by omega)]
  have small:(to - fr<=4∨lev ≥ 32)->K (i64 zs.length) [some (.var 202 [.sl 1,.sl 3]),ro xs,none,some (.row 70 nk (zs++[ou lev key fr to]))]:=by
   intro h;have:bD xs (n+1) lev.toNat key fr.toNat to.toNat zs.length=[ou lev key fr to]:=by
    simp only [bD];rw [if_pos (by omega)]
    have h3:(fr.toNat:Int)=fr:=by omega
    have h4:(to.toNat:Int)=to:=by omega
    simp only [ou];rw [hlv];have e1:((fr.toNat:Nat):Int)=fr:=h3;have e2:((to.toNat:Nat):Int)=to:=h4;rw [e1,e2]
   rw [this] at hK;exact hK
  refine ⟨by simp; omega,fun h=>small (.inl h),fun h=>⟨fun h2=>small (.inr h2),fun h2=>⟨⟨rfl,?_,?_⟩,?_⟩⟩⟩
  ·rw [i64_in (2*lev) (by omega),i64_in (62 - 2*lev) (by omega)]
  ·rw [i64_in (2*lev) (by omega),i64_in (62 - 2*lev) (by omega)]
   refine ⟨?_,?_,by omega,?_,rfl,rfl,by omega,by omega⟩
   ·simp only [Int.toNat_natCast,List.take_left'];exact hp
   ·simp
   ·simp
  ·simp only [Int.toNat_natCast,List.take_left'];exact hK
def SW:FuncId->Option Vs.Spec:=fun g=>if g=145 then some sQ else none
theorem XW:∀ {g:FuncId} {sp:Vs.Spec},SW g=some sp->aa TP g sp:=by
 intro g sp h;unfold SW at h;split at h
 ·rename_i hg; subst hg; cases h; exact c17
 ·cases h
def ZJ:Know:={ Γ:=SW,Λ:=fun _ _=>none,Τ:=fun g=>if g=146 then some (ZO 33) else none }
theorem v21 (xs:L2) (K:KP):(comes TP ZJ 1 92 [.sl 0] [.ro [.u64,.i64] xs] K) =(br (Jag xs == 0) (K JaG (Ja7 70 [] [] [])) (zU [JaG] (Jbs [] xs [])/\br (Bool.not (bp (fE xs))) (K JaG (Ja7 70 [] [] [])) (Jar ([.ptr 0 0,Ja4 0 0 0 (Jag xs) 0 0 0 0 []]=[.ptr 0 0,Ja4 0 0 0 (Jag xs) 0 0 0 0 []]) (Jbp [] [] xs [] [] []=Jbp [] [] xs [] [] []) (x9 33 xs [] 0 0 (Jag xs))/\K JaG (Ja7 70 [] ([]++bD xs 33 0 0 0 (Jav xs) 0) [])))) :=by kernel_rfl
theorem c21:aa TP 92 Pa:=by
 refine ab 1 ⟨mixedOrders,fun g sp h=>XW h,cO (N:=ZJ) (fun _ _=>rfl) 1,?_,fun f h=>(by cases h)⟩ (N:=ZJ) ?_
 ·intro g G hG;simp only [ZJ] at hG;split at hG
  ·rename_i hg; subst hg; cases hG; exact Xo 33
  ·cases hG
 ·rintro l bs _ _ ⟨xs,rfl,rfl,hl,hk⟩;rw [v21]; delta Jad Jag Jaj Jao Jaq Jar Jas Jav JaF JaG Ja4 Ja7 Jbp Jbs; rw [aL,aL];constructor
  ·intro h;have:xs=[]:=List.eq_nil_of_length_eq_zero (by simpa using h)
   subst this;show (IV.sl 0,[aq.row 70 nk (bL [])])=_;rw [g9]
   rfl
  ·intro h;have hne:xs≠[]:=by rintro rfl; simp at h
   have hpos:0 < xs.length:=List.length_pos_iff.2 hne;refine ⟨⟨_,rfl,rfl,by omega⟩,fun h2=>?_,fun h2=>⟨⟨rfl,rfl,by omega,by omega,by omega,by omega,by omega,by omega,by omega,hk,by simp; omega⟩,?_⟩⟩
   ·have h3:¬ fE xs:=fun h4=>by rw [pJ h4] at h2; cases h2
    show (IV.sl 0,[aq.row 70 nk (bL xs)])=_;rw [kY h3]
    rfl
   ·have h3:fE xs:=xq.1 (by simpa using h2)
    show (IV.sl 0,[aq.row 70 nk (bL xs)])=_;rw [fZ hne h3]
    rfl
end Go.Vs.RS
namespace Go.Vs
open Go
def uR:aq->aq
 | .row _ ks xs=>.ro ks xs
 | k=>k
theorem tt {bs:List aq} {l:List (Option Nat)} {c:Nat} (hc:c < bs.length):
  (some c∈l->look (Go.Vs.freeze (bs.map some) l) c=some (uR bs[c]))/\(some c ∉ l->look (Go.Vs.freeze (bs.map some) l) c=some bs[c]):=by
 have hb:look (bs.map some) c=some bs[c]:=by rw [bJ]; simp [hc]
 have hnr:bs[c].agu=false->look (Go.Vs.freeze (bs.map some) l) c=some bs[c]:=fun hr=>ju _ _ c _ hb hr
 cases hk:bs[c] with
 | row e ks xs=>
  have hex:∃k,look (Go.Vs.freeze (bs.map some) l) c=some k:=by
   cases hh:look (Go.Vs.freeze (bs.map some) l) c with
   | some k=>exact ⟨k,rfl⟩
   | none=>
    exfalso
    have:=oE (t:=[]) l (bs.map some) c;unfold rows at this;simp only [hh,hb,hk] at this;cases this
  obtain ⟨k,hk2⟩:=hex;rcases lD _ _ _ _ hk2 with h1 | ⟨e',ks',xs',h1,rfl,hm⟩
  ·rw [hb,hk] at h1;cases h1
   exact ⟨fun hmem=>absurd rfl (uC _ _ _ _ hmem hk2),fun _=>hk2⟩
  ·rw [hb,hk] at h1;cases h1
   exact ⟨fun _=>hk2,fun hn=>absurd hm hn⟩
 | var t cells=>rw [hk] at hnr; exact ⟨fun _=>hnr rfl,fun _=>hnr rfl⟩
 | ints t k xs=>rw [hk] at hnr; exact ⟨fun _=>hnr rfl,fun _=>hnr rfl⟩
 | ro ks xs=>rw [hk] at hnr; exact ⟨fun _=>hnr rfl,fun _=>hnr rfl⟩
theorem CA (bs:List aq):Go.Vs.freeze (bs.map some) ((List.range bs.length).map some)=(bs.map uR).map some:=by
 have hl:(Go.Vs.freeze (bs.map some) ((List.range bs.length).map some)).length=bs.length:=by rw [fg]; simp
 apply List.ext_getElem?;intro c;by_cases hc:c < bs.length
 ·rw [bJ.1 ((tt hc).1 (by simp [hc]))]
  simp [hc]
 ·rw [List.getElem?_eq_none (by rw [hl]; omega),List.getElem?_eq_none (by simp; omega)]
def nz:List aq->List aq
 | []=>[]
 | k :: l=>k :: l.map uR
theorem Ar (bs:List aq):Go.Vs.freeze (bs.map some) ((List.range bs.length).map fun i=>if i=0 then none else some i)=(nz bs).map some:=by
 have hl:(Go.Vs.freeze (bs.map some) ((List.range bs.length).map fun i=>if i=0 then none else some i)).length=bs.length:=by rw [fg]; simp
 have hl2:(nz bs).length=bs.length:=by cases bs <;> simp [nz]
 apply List.ext_getElem?;intro c;by_cases hc:c < bs.length
 ·cases bs with
  | nil=>simp at hc
  | cons k l=>
   cases c with
   | zero=>
    rw [bJ.1 ((tt hc).2 (by simp))]
    simp [nz]
   | succ c=>
    rw [bJ.1 ((tt hc).1 (by
     rw [List.mem_map];exact ⟨c+1,by simpa using hc,by simp⟩))]
    have hc':c < l.length:=by simpa using hc
    simp [nz,hc']
 ·rw [List.getElem?_eq_none (by rw [hl]; omega),List.getElem?_eq_none (by rw [List.length_map,hl2]; omega)]
theorem di.uR {X:Ctx} {β:cR} {bs:List aq} {w:World} (h:di X β (bs.map some) w):di X β ((bs.map Go.Vs.uR).map some) w:=by
 have:=Sat.freeze ((List.range bs.length).map some) h;rw [← CA];exact this
theorem di.nz {X:Ctx} {β:cR} {bs:List aq} {w:World} (h:di X β (bs.map some) w):di X β ((Go.Vs.nz bs).map some) w:=by
 have:=Sat.freeze ((List.range bs.length).map fun i=>if i=0 then none else some i) h
 rw [← Ar];exact this
theorem qe {bs:List aq} (h:bs.all aq.isSlice=true):(bs.map uR).all aq.isSlice=true:=by
 rw [List.all_eq_true] at h ⊢;intro k hk;obtain ⟨k0,h0,rfl⟩:=List.mem_map.1 hk;have:=h k0 h0;cases k0 <;> first | rfl | exact this
theorem afC {P:Program} {N:Know} (d:Nat) (hN:KnowOk P N d) {f:FuncId} {sp:Spec}
  (h:∀ l bs,rO l->(∀ k∈bs,okB k)->sp.pre l bs->comes P N d f l bs fun v bs'=>sp.F l bs=(v,bs'.map uR)):aa P f sp:=by
 intro as_ bs X β w vs hX hB hS hro hlen hrep hpre;have hok:rO as_:=pn hlen (fun i c v hc hv=>(hrep i c v hc hv).ok)
 have hbs:∀ k∈bs,okB k:=by
  intro k hk;obtain ⟨j,hj⟩:=List.getElem?_of_mem hk;have hb:=hS.blks j k (by rw [bJ]; simp [hj])
  have:=hro k hk;cases k with
  | ro ks xs=>
   obtain ⟨A,c,h1,h2,h3,h4,_⟩:=hb;exact ⟨h3,h4,Nat.le_trans h2.1 h2.2.1⟩
  | _=>cases this
 have hc:=pa hN.mixed hN.ctr hN.funs hN.back d hN.loops f as_ (bs.map some) _ (h as_ bs hok hbs hpre) X β w vs hS hlen hrep;refine hc.mono fun e w' he=>?_
 obtain ⟨v,u,β1,b',rfl,hk,hr,hB',hag,hle⟩:=he;split at hk
 ·rename_i v' bs' hres;obtain ⟨β',h1,h2,h3⟩:=nZ hB' hr hres;rw [hk];exact ⟨u,β',rfl,by have:=hB'.below; rw [hX,hB] at this; exact ba.wL this,h1,h2.uR,qe h3⟩
 ·exact hk.elim
theorem Bl {bs:List aq} (h:bs.all aq.isSlice=true):(nz bs).all aq.isSlice=true:=by
 cases bs with
 | nil=>rfl
 | cons k l=>
  simp only [List.all_cons,Bool.and_eq_true] at h;simp only [nz,List.all_cons,Bool.and_eq_true];exact ⟨h.1,qe h.2⟩
theorem kl {P:Program} {N:Know} (d:Nat) (hN:KnowOk P N d) {f:FuncId} {sp:Spec}
  (h:∀ l bs,rO l->(∀ k∈bs,okB k)->sp.pre l bs->comes P N d f l bs fun v bs'=>sp.F l bs=(v,nz bs')):aa P f sp:=by
 intro as_ bs X β w vs hX hB hS hro hlen hrep hpre;have hok:rO as_:=pn hlen (fun i c v hc hv=>(hrep i c v hc hv).ok)
 have hbs:∀ k∈bs,okB k:=by
  intro k hk;obtain ⟨j,hj⟩:=List.getElem?_of_mem hk;have hb:=hS.blks j k (by rw [bJ]; simp [hj])
  have:=hro k hk;cases k with
  | ro ks xs=>
   obtain ⟨A,c,h1,h2,h3,h4,_⟩:=hb;exact ⟨h3,h4,Nat.le_trans h2.1 h2.2.1⟩
  | _=>cases this
 have hc:=pa hN.mixed hN.ctr hN.funs hN.back d hN.loops f as_ (bs.map some) _ (h as_ bs hok hbs hpre) X β w vs hS hlen hrep;refine hc.mono fun e w' he=>?_
 obtain ⟨v,u,β1,b',rfl,hk,hr,hB',hag,hle⟩:=he;split at hk
 ·rename_i v' bs' hres;obtain ⟨β',h1,h2,h3⟩:=nZ hB' hr hres;rw [hk];exact ⟨u,β',rfl,by have:=hB'.below; rw [hX,hB] at this; exact ba.wL this,h1,h2.nz,Bl h3⟩
 ·exact hk.elim
def TK (sp:Spec):Spec:=⟨sp.pre,fun l bs=>((sp.F l bs).1,(sp.F l bs).2.map uR)⟩
theorem fk {P:Program} {g:FuncId} {sp:Spec} (h:aa P g sp):aa P g (TK sp):=by
 intro l bs X β w vs hX hB hS hro hlen hrep hpre;refine (h l bs X β w vs hX hB hS hro hlen hrep hpre).mono fun e w' he=>?_
 obtain ⟨u,β',h1,h2,h3,h4,h5⟩:=he;exact ⟨u,β',h1,h2,h3,h4.uR,qe h5⟩
end Go.Vs
namespace Go.Proofs
open Go Go.RowKit Go.Shelf Go.Vs
attribute [local go_sem] Oper.semAt_some
set_option maxRecDepth 100000 in
set_option maxHeartbeats 2000000 in
theorem Re : lY Tryz.prog 153 := by
  refine ⟨fun args w => rfl, ?_⟩
  intro l Bs A n c J W hn hBs hY h0
  have hn' : n ≤ 9223372036854775807 := hn
  refine callsIn_of_wp Tryz.func153 rfl trivial ?_ rfl
  simp only [Tryz.ntmps153, List.size_toArray, List.length_cons, List.length_nil, Nat.reduceAdd, Nat.reduceSub, Array.replicate_succ, Array.replicate_zero, List.push_toArray, List.append_toArray, List.nil_append, List.cons_append]
  gi_wp2
  gi_loopw [3] (fun i wr => ∃ k : Nat, k ≤ n ∧ i = .int .i64 ((k : Int) - 1) ∧ J k wr)
    (fun i _ => (intOf i + 1).toNat)
  case atStart => exact ⟨n, Nat.le_refl _, rfl, h0⟩
  case round =>
    obtain ⟨k, hk, rfl, hJs⟩ := hrel
    cases k with
    | zero =>
      gi_wp2
      go_end0
      exact ⟨⟨_, rfl⟩, hJs⟩
    | succ k =>
      obtain ⟨hb, g, o, z, rfl, hc, hyy⟩ := hY k wr (by omega) hJs
      have e1 : ((k + 1 : Nat) : Int) - 1 = (k : Int) := by omega
      have e2 : (k : Int) < (n : Int) := by omega
      have e3 : (k : Nat) < n := by omega
      rw [e1]
      obtain ⟨fn, tmps, assign, body, hy, hR⟩ := hyy
      gi_wp2
      refine ⟨rfl, hR.mono ?_⟩
      rintro e W3 ⟨rfl, hJ3⟩
      gi_wp2
      go_roundw
      case rel => exact ⟨k, by omega, rfl, hJ3⟩
      case measure => simp [intOf]
end Go.Proofs
namespace Go.Vs.RF
open Go Go.Proofs Go.Vs
def kA (z:L1) (a b c d e f g h:Nat):List IV:=[.int .i64 (z.getD 0 0),.int .i64 (z.getD 1 0),.int .u64 (z.getD 2 0),.int .i64 (z.getD 3 0),.int .u64 (z.getD 4 0),.int .i64 (z.getD 5 0),.int .u64 (z.getD 6 0),.int .i64 (z.getD 7 0),.int .u64 (z.getD 8 0),.int .i64 (z.getD 9 0),.int .u64 (z.getD 10 0),.int .i64 (z.getD 11 0),.int .i64 (z.getD 12 0),
 .sl a,.sl b,.sl c,.sl d,.int .i64 (z.getD 13 0),.int .u64 (z.getD 14 0),.int .i64 (z.getD 15 0),.int .u64 (z.getD 16 0),.int .i64 (z.getD 17 0),.int .u64 (z.getD 18 0),.sl e,.sl f,.sl g,.sl h]
def y0 (xs ts rs us es ks ns cs:L2):OB:=[some (.ro aM xs),some (.ro jt ts),some (.ro ie rs),some (.ro [.i64] us),some (.ro dE es),some (.ro [.u64,.i64] ks),some (.ro kQ ns),some (.ro fG cs)]
def F6:Vs.Spec:=⟨Za,fun _ bs=>(.sl 0,[.ro [.u64,.i64] (lE (aA bs 0))])⟩
def F9:Vs.Spec:=⟨RS.mj,fun _ bs=>(.sl 0,[.ro [.i64,.u64,.i64,.i64,.i64,.i64,.i64,.i64] (RS.bL (aA bs 0))])⟩
def R0:Vs.Spec:=⟨EB,fun _ bs=>(.tup [.sl 0,.int .i64 (xz (aA bs 0) (aA bs 1) (aA bs 2))],[.ro fG (Dc (aA bs 0) (aA bs 1) (aA bs 2))])⟩
def Ko:Vs.Spec:=⟨EB,fun _ bs=>(.agg [.sl 0,.int .i64 (xz (aA bs 0) (aA bs 1) (aA bs 2))],[.ro fG (Dc (aA bs 0) (aA bs 1) (aA bs 2))])⟩
def gj:FuncId->Option Vs.Spec:=fun g=>if g=cS then some F6 else if g=sq then some F9 else if g=aeo then some R0 else if g=bz then some F6 else if g=jY then some F9 else if g=aQ then some Ko else Rz g
def hV (ys:L2) (i j:Int):St:=⟨T 19 [(0,.sl 0),(1,.fn cF [.ptr 1 0]),(7,.int .i64 ys.length),(8,.int .i64 j)],[some (.ro [.u64,.i64] ys),some (.var 3 [.int .i64 i])]⟩
theorem ZZ (a c i:Int) (K:IV->OB->Prop):(bQ TP { Γ:=gj,Λ:=fun _ _=>none,Τ:=fun _=>none } 3 cF [.agg [.int .u64 a,.int .i64 c],.ptr 0 0] [some (.var 3 [.int .i64 i])] fun v b1=>ld 1 v b1 K) =(K (.bool (c == i)) (Md1 3 i [])) :=by kernel_rfl
def pH1 (args:List IV) (b:OB):Prop:=∃a c i,args=[.agg [.int .u64 a,.int .i64 c],.ptr 0 0]/\b=[some (.var 3 [.int .i64 i])]
def Gh1:eG:=fun args b K=>pH1 args b/\K (.bool (decide (ae args 0 1=bl b 0 0))) b
def SN:FuncId->Option eG:=fun g=>if g=cF then some Gh1 else none
def MeE (a b:Nat)(c:Int)(d:List (Nat × IV))(e:OB):St:=Ma3 a b (Maa c) d e
def Miu (a:L2)(b:Int)(c:OB):OB:=Mam Mbd a (.var 3 (MaY b)) c
theorem rIf (Λ:FuncId->Nat->Option aB) (d:Nat) (ys:L2) (i j:Int) (k:Out->St->Prop):(round (ai TP { Γ:=gj,Λ:=Λ,Τ:=SN } d) aZ 2 0 (lp TP aZ 0) (hV ys i j) k) =(∀a,Mel a ys j (∀b,Mdp b j j ys j ys (MiO b (pH1 (MaB (Mab (Mar ys j 0)::MaY a) (MaO 0 [])) (Md1 3 i [])) (br (MaZ a i) (k .ret (MeE 19 4 j [] (Miu ys i []))) (k .normal (MaM 19 (MaG 0 Mb5 1 (.fn 150 (MaO 1 [])) 7 (Mcu ys) 8 (Met j) []) (Miu ys i []))))) (k MbI (MaM 19 [] (Miu ys i []))))) :=by delta Maa Mab Mac Maf Mag Mal Mam Mao Map Mar Mat Mau Mav MaA MaB MaG MaM MaO MaQ MaS MaX MaY MaZ Ma3 Mbd Mbk Mbo Mbp Mbv MbI MbV Mb5 Mcq Mcu Mdp Md1 Mel Met MeE Miu MiO; refine nm ?_; refine nm ?_; kernel_rfl
def ll (ys:L2) (i:Int):Bool:=ys.any fun k=>decide (k.getD 1 0=i)
def pIf (n0:Nat) (st:St) (ys:L2) (i:Int):Prop:=ys.length<=1000000/\n0=2/\st=hV ys i 0
def Lif:aB:=fun n0 st K=>∃ys i,pIf n0 st ys i/\br (ll ys i) (∀ j:Int,0<=j->K .ret ⟨T 19 [(4,.int .i64 j)],[some (.ro [.u64,.i64] ys),some (.var 3 [.int .i64 i])]⟩) (K (.exit 0) ⟨T 19 [],[some (.ro [.u64,.i64] ys),some (.var 3 [.int .i64 i])]⟩)
def ZF:Know:={ Γ:=gj,Λ:=fun f i=>if f=aZ then (if i=0 then some Lif else none) else none,Τ:=SN }
theorem Wh (ys:L2) (i:Int) (K:IV->OB->Prop):(bQ TP ZF 3 bO [.sl 0,.fn cF [.ptr 1 0]] [some (.ro [.u64,.i64] ys),some (.var 3 [.int .i64 i])] fun v b1=>ld 2 v b1 K) =(∃a:L2,∃b:Int,pIf 2 (MaM 19 (MaG 0 Mb5 1 (.fn 150 (MaO 1 [])) 7 (Mcu ys) 8 Mdg []) (Miu ys i [])) a b/\br (ll a b) (∀c:Int,0<=c->K (.bool (Decidable.decide (c ≥ 0))) (Miu a b [])) (K MaJ (Miu a b []))) :=by kernel_rfl
def Xl (args:List IV) (b:OB):Prop:=∃ys i,args=[.sl 0,.fn cF [.ptr 1 0]]/\b=[some (.ro [.u64,.i64] ys),some (.var 3 [.int .i64 i])]/\ys.length<=1000000
def YN:eG:=fun args b K=>Xl args b/\K (.bool (ll (dh b 0) (bl b 1 0))) b
def SO:FuncId->Option eG:=fun g=>if g=bO then some YN else none
def Px (r:L1):IV:=.agg [.int .i64 (r.getD 0 0),.int .u64 (r.getD 1 0),.int .i64 (r.getD 2 0),.int .i64 (r.getD 3 0),.int .i64 (r.getD 4 0),.int .i64 (r.getD 5 0),.int .i64 (r.getD 6 0),.int .i64 (r.getD 7 0)]
def Mb8 (a b c d:L2)(e:List IntKind)(f:L2)(g:List IntKind)(h i j:L2)(k:OB):OB:=Man aM a jt b (Man ie c MaQ d (Man e f g h (Man kQ i fG j k)))
def MjI (a:L1)(b c d e f g h i:L2):OB:=Mac (.var 149 (kA a 1 2 3 4 5 6 7 8)) (Mb8 b c d e dE f Mbd g h i [])
theorem Wf (z r:L1) (xs ts rs us es ks ns cs:L2) (i:Int) (K:IV->OB->Prop):(bQ TP { Γ:=gj,Λ:=fun _ _=>none,Τ:=SO } 3 iD [.ptr 0 0,Px r,.int .i64 i] (some (.var 149 (kA z 1 2 3 4 5 6 7 8)) :: y0 xs ts rs us es ks ns cs) fun v b1=>ld 9 v b1 K) =(∀a,MeH a r (∀b,Meg b r (Mav (Mav (0<=a) (a<=b) (b<=Mat ks)) (Xl (Mak 0 [.fn 150 (MaO 1 [])]) (Miu (Mfp a b ks) i [])) (K (.bool (ll (Mfp a b ks) i)) (MjI z xs ts rs us es ks ns cs))))) :=by delta Maa Mac Mad Maf Mag Mak Mam Man Mao Mat Mau Mav Max MaO MaQ MaY Mbd Mb8 Meg MeH Mfp Miu MjI; refine nm ?_; refine nm ?_; kernel_rfl
def Xh (args:List IV) (b:OB):Prop:=∃z r xs ts rs us es ks ns cs i,args=[.ptr 0 0,Px r,.int .i64 i]/\b=some (.var 149 (kA z 1 2 3 4 5 6 7 8)) :: y0 xs ts rs us es ks ns cs/\(0<=r.getD 2 0/\r.getD 2 0<=r.getD 3 0/\r.getD 3 0<=ks.length)/\ks.length<=1000000
def YL:eG:=fun args b K=>Xh args b/\K (.bool (ll (List.drop (ae args 1 2).toNat (List.take (ae args 1 3).toNat (dh b 6))) (ae args 2 0))) b
theorem Wo (xs:L2) (K:IV->OB->Prop):(bQ TP { Γ:=gj,Λ:=fun _ _=>none,Τ:=fun _=>none } 3 dJ [.sl 0] [some (.ro [.i64] xs)] fun v b1=>ld 1 v b1 K) =(K (.fn 153 (MaO 1 [])) (Mam MaQ xs (.var 29 Me5) [])) :=by kernel_rfl
def Xm (args:List IV) (b:OB):Prop:=∃xs,args=[.sl 0]/\b=[some (.ro [.i64] xs)]
def YO:eG:=fun args b K=>Xm args b/\K (.fn kh [.ptr 1 0]) (b++[some (.var 29 [.sl 0])])
def VI (b:OB) (k:Nat):L1:=[bl b k 0,bl b k 1,bl b k 2,bl b k 3,bl b k 4,bl b k 5,bl b k 6,bl b k 7,bl b k 8,bl b k 9,bl b k 10,bl b k 11,bl b k 12,bl b k 17,bl b k 18,bl b k 19,bl b k 20,bl b k 21,bl b k 22]
def E3 (xs cs:L2) (n i:Nat):Int:=fr (cs.getD n []) 2 - fr (xs.getD i []) 4
def E2 (xs cs:L2) (n i:Nat):Int:=fr (cs.getD n []) 4 - fr (xs.getD i []) 6
def VQ (xs cs:L2) (n i:Nat):Int:=tf (az (E3 xs cs n i) (E3 xs cs n i)) (az (E2 xs cs n i) (E2 xs cs n i))
def UX (z:L1) (xs cs:L2) (n i:Nat):Int:=az (fr z 7) (te (az (E3 xs cs n i) (E3 xs cs n i)) (az (E2 xs cs n i) (E2 xs cs n i)))
def yE (z:L1) (xs cs:L2) (n i:Nat):Int:=ua (if e2 (E3 xs cs n i) (E2 xs cs n i)≠0 then e2 (E3 xs cs n i) (E2 xs cs n i) else if VQ xs cs n i≠0 then VQ xs cs n i else bG (UX z xs cs n i))
def E4 (z:L1) (xs cs:L2) (n i:Nat):Bool:=bp (e2 (E3 xs cs n i) (E2 xs cs n i)=0/\VQ xs cs n i=0/\fr (cs.getD n []) 6<=aep (UX z xs cs n i))
def Ch (z:L1):Prop:=Cg z/\ag (fr z 7)
def Uj (cs:L2):Prop:=∀ r∈cs,ag (fr r 0)/\ag (fr r 2)/\ag (fr r 4)/\ag (fr r 6)
def Mck (a:L1):Int:=Mad a 7
def McE (a:L1):Int:=Mad a 8
theorem Wg (z:L1) (xs ts rs us es ks ns cs:L2) (n i:Int) (K:IV->OB->Prop):(bQ TP { Γ:=gj,Λ:=fun _ _=>none,Τ:=fun _=>none } 3 iE [.ptr 0 0,.int .i64 n,.int .i64 i] (some (.var 149 (kA z 1 2 3 4 5 6 7 8)) :: y0 xs ts rs us es ks ns cs) fun v b1=>ld 9 v b1 K) =(∀a,MiS a (Md2 cs n 2 cs n 3 xs i 4 xs i 5) (Md2 cs n 4 cs n 5 xs i 6 xs i 7) (∀b,Mau b a (∀c,MiT c (Md2 cs n 2 cs n 3 xs i 4 xs i 5) (Md2 cs n 4 cs n 5 xs i 6 xs i 7) (∀d,Mau d c (∀e,Mau e (te (az b b) (az d d)) (∀f,Mau f e (∀g,Mc1 g (Ma2 (Mck z) (McE z)) f (∀j,Mau j g (∀k,Mau k (tf (az b b) (az d d)) (∀l,MgU l cs n (∀m,MgV m cs n (∀o,MfL o cs n (∀p,MfM p cs n (∀q,MfL q xs i (∀r,MfM r xs i (∀s,Mgh s xs i (∀t,Mgi t xs i (∀u,Mgh u cs n (∀v,Mgi v cs n (∀w,MeC w z (∀x,MeP x z (∀y,MiJ y n cs (∀a1,MiJ a1 i xs (∀b1,Md7 b1 (Ma2 u v) j (∀c1,Mge c1 (Mdd (Ma2 l m) q r) (Mdd (Ma2 o p) s t) (MiU y a1 (kB (Mdn l m o p (Mdn q r s t [])) []) (McL c1 (K (.tup (MaJ::MaY c1)) (MjI z xs ts rs us es ks ns cs)) (Mcs (MfP a c [] []) k (K (.tup (MaJ::MaY k)) (MjI z xs ts rs us es ks ns cs)) (MaE (Mgz w x e) y y (ud (MeG u v g) []) (K (.tup (.bool (Mbz b1 0)::MaY (bG (az (Ma2 w x) f)))) (MjI z xs ts rs us es ks ns cs))))))))))))))))))))))))))))))) :=by delta Maa Mab Mac Mad Maf Mag Mai Maj Mam Man Maq Mar Mat Mau Mav Max MaB MaE MaJ MaQ MaS MaW MaX MaY Ma2 Mbd Mbk Mbo Mbq Mbw Mby Mbz MbN Mb8 Mck Mcs McE McL Mc0 Mc1 Mda Mdd Mdn Md2 Md7 MeC MeG MeP MfL MfM MfP Mge Mgh Mgi Mgz MgU MgV MiJ MiS MiT MiU MjI; refine nm ?_; refine nj ?_; refine nm ?_; refine nj ?_; refine nm ?_; refine nj ?_; refine nm ?_; refine nj ?_; (iterate 17 refine nm ?_); kernel_rfl
def Xi (args:List IV) (b:OB) (z:L1) (xs ts rs us es ks ns cs:L2) (n i:Int):Prop:=args=[.ptr 0 0,.int .i64 n,.int .i64 i]/\b=some (.var 149 (kA z 1 2 3 4 5 6 7 8)) :: y0 xs ts rs us es ks ns cs/\Ch z/\aY xs/\Uj cs/\aI fG cs/\(0<=n/\n < cs.length)/\(0<=i/\i < xs.length)
def YM:eG:=fun args b K=>∃z xs ts rs us es ks ns cs n i,Xi args b z xs ts rs us es ks ns cs n i/\K (.tup [.bool (E4 z xs cs n.toNat i.toNat),.int .i64 (yE z xs cs n.toNat i.toNat)]) b
section
open Go.IntWalk
theorem Ya:aa TP cS F6:=fk Hj
theorem Yc:aa TP sq F9:=fk RS.c21
theorem Yb:aa TP aeo R0:=fk Rb
theorem Vl:aa TP bz F6:=fk CV
theorem Vn:aa TP jY F9:=fk RS.c22
theorem Vm:aa TP aQ Ko:=fk Nv
theorem np:∀ {g:FuncId} {sp:Vs.Spec},gj g=some sp->aa TP g sp:=ao Ya (ao Yc (ao Yb (ao Vl (ao Vn (ao Vm QA)))))
theorem Al:KnowOk TP { Γ:=gj,Λ:=fun _ _=>none,Τ:=fun _=>none } 3:=aF (fun g sp h=>np h) (fun _ _=>rfl) (fun _=>rfl) 3
theorem Ir {g:FuncId} {G:eG} (h:(none:Option eG)=some G):cf TP g G:=by cases h
theorem iB {f:FuncId} {G0:eG} {Τ:FuncId->Option eG} (h0:cf TP f G0) (hΤ:∀ g G,Τ g=some G->cf TP g G):∀ g G,(if g=f then some G0 else Τ g)=some G->cf TP g G:=by
 intro g G h;split at h
 ·rename_i hg; subst hg; cases h; exact h0
 ·exact hΤ g G h
theorem UT:cf TP cF Gh1:=by
 refine cL (N:={ Γ:=gj,Λ:=fun _ _=>none,Τ:=fun _=>none }) 3 Al ?_
 rintro args b K ⟨⟨a,c,i,rfl,rfl⟩,hK⟩;show bQ _ _ _ _ _ _ fun v b1=>ld 1 v b1 K
 rw [ZZ]; delta Maa Mac Maf MaY Md1;exact hK
theorem U9 {ys:L2} {i:Int} {j:Nat} (hj:j < ys.length) (h:rd ys j 1=i):ll ys i=true:=by
 unfold ll;rw [List.any_eq_true];exact ⟨ys[j],List.getElem_mem hj,by rw [decide_eq_true_eq,← h,BD hj]⟩
theorem QD {ys:L2} {i:Int} (h:∀ j,j < ys.length->rd ys j 1≠i):ll ys i=false:=by
 unfold ll;rw [List.any_eq_false];intro k hk;obtain ⟨j,hj,rfl⟩:=List.getElem_of_mem hk;have:=h j hj;rw [BD hj] at this;simpa using this
theorem lIf (d n0:Nat):aG (ai TP ZF d) aZ n0 0 (lp TP aZ 0) Lif:=by
 intro st K hst;obtain ⟨ys,i,⟨hl,rfl,rfl⟩,hK⟩:=hst;rw [aL] at hK;refine aC (fun j:Nat=>hV ys i j) (fun j=>j<=ys.length/\∀ p,p < j->rd ys p 1≠i) (fun j=>ys.length - j) ?_ (a:=0) ⟨Nat.zero_le _,fun p hp=>by omega⟩
 rintro j ⟨hle,hno⟩ k hn hk;show round (ai TP { Γ:=gj,Λ:=_,Τ:=SN } d) _ _ _ _ _ k;rw [rIf]; delta Maa Mab Mac Maf Mag Mal Mam Mao Map Mar Mat Mau Mav MaA MaB MaG MaM MaO MaQ MaS MaX MaY MaZ Ma3 Mbd Mbk Mbo Mbp Mbv MbI MbV Mb5 Mcq Mcu Mdp Md1 Mel Met MeE Miu MiO;rw [show ((j:Nat):Int).toNat=j by omega]
 rintro t1 e1 t2 e2;rw [al];constructor
 ·intro hi;have hi':j < ys.length:=by omega
  have p2:t2:=by rw [e2]; omega
  refine ⟨p2,p2,⟨_,_,_,rfl,rfl⟩,?_⟩;rw [al];constructor
  ·intro he;exact hk _ _ (by simp) (hK.1 (U9 hi' (by rw [← e1]; exact he)) j (by omega))
  ·intro he;rw [show IntKind.i64.wrap ((j:Int)+1)=((j+1:Nat):Int) by rw [i64_in _ (by omega)]; rfl]
   refine hn (j+1) ⟨hi',fun p hp=>?_⟩ (by omega)
   by_cases hpj:p=j
   ·subst hpj; rw [← e1]; exact he
   ·exact hno p (by omega)
 ·intro hi;have:j=ys.length:=by omega
  subst this;exact hk _ _ (by simp) (hK.2 (QD hno))
theorem Qj:cf TP bO YN:=by
 refine cL (N:=ZF) 3 ⟨mixedOrders,fun g sp h=>np h,?_,iB UT (fun _ _ h=>Ir h),fun f h=>(by cases h)⟩ ?_
 ·intro d' _ f i S n0 hS;simp only [ZF] at hS;split at hS
  ·rename_i hf; subst hf;split at hS
   ·rename_i hi; subst hi; cases hS; exact lIf d' n0
   ·cases hS
  ·cases hS
 ·rintro args b K ⟨⟨ys,i,rfl,rfl,hl⟩,hK⟩;show bQ _ _ _ _ _ _ fun v b1=>ld 2 v b1 K
  rw [Wh]; delta Maa Mac Maf Mag Mam Mao Map Mat MaG MaJ MaM MaO MaQ MaY Mbd Mb5 Mcu Mdg Miu;refine ⟨ys,i,⟨hl,rfl,rfl⟩,?_⟩;have hK':K (.bool (ll ys i)) [some (.ro [.u64,.i64] ys),some (.var 3 [.int .i64 i])]:=hK;rw [aL];refine ⟨fun h j hj=>?_,fun h=>?_⟩
  ·rw [h] at hK';rw [show decide (j ≥ 0)=true by simpa using hj]
   exact hK'
  ·rw [h] at hK';exact hK'
theorem P8:KnowOk TP { Γ:=gj,Λ:=fun _ _=>none,Τ:=SO } 3:=⟨mixedOrders,fun g sp h=>np h,cO (fun _ _=>rfl) 3,iB Qj (fun _ _ h=>Ir h),fun f h=>(by cases h)⟩
theorem Qh:cf TP iD YL:=by
 refine cL (N:={ Γ:=gj,Λ:=fun _ _=>none,Τ:=SO }) 3 P8 ?_
 rintro args b K ⟨⟨z,r,xs,ts,rs,us,es,ks,ns,cs,i,rfl,rfl,hr,hl⟩,hK⟩;show bQ _ _ _ _ _ _ fun v b1=>ld 9 v b1 K
 rw [Wf]; delta Maa Mac Mad Maf Mag Mak Mam Man Mao Mat Mau Mav Max MaO MaQ MaY Mbd Mb8 Meg MeH Mfp Miu MjI;rintro t1 rfl t2 rfl;refine ⟨hr,⟨_,_,rfl,rfl,?_⟩,hK⟩;rw [List.length_drop,List.length_take]; omega
theorem Qk:cf TP dJ YO:=by
 refine cL (N:={ Γ:=gj,Λ:=fun _ _=>none,Τ:=fun _=>none }) 3 Al ?_
 rintro args b K ⟨⟨xs,rfl,rfl⟩,hK⟩;show bQ _ _ _ _ _ _ fun v b1=>ld 1 v b1 K
 rw [Wo]; delta Mac Mag Mak Mam Mao MaO MaQ Me5;exact hK
theorem SX (b:OB) (k:Nat) (z:L1) (a1 a2 a3 a4 a5 a6 a7 a8:Nat) (h:z.length=19) (hl:look b k=some (.var 149 (kA z a1 a2 a3 a4 a5 a6 a7 a8))):VI b k=z:=by
 have q:∀ j,bl b k j=bl [some (.var 149 (kA z a1 a2 a3 a4 a5 a6 a7 a8))] 0 j:=by intro j; unfold bl; rw [hl]; rfl
 unfold VI;simp only [q];exact KI h
theorem nv {a b c d:Int} (hb:aj b) (hd:aj d):IV.agg [.int .i64 a,.int .u64 b,.int .i64 c,.int .u64 d]=vx (a*18446744073709551616+b) (c*18446744073709551616+d):=(List.cons.inj (ik hb hd)).1
theorem uD (xs:L2) (i j:Nat):rd xs i j*18446744073709551616+rd xs i (j+1)=fr (xs.getD i []) j:=rfl
theorem Ju {cs:L2} (h:aI fG cs) (i j:Nat) (hj:j < 8) (hk:fG.getD j .i64=.u64):aj (rd cs i j):=by
 have:=pb h i j hj;rw [hk] at this;have h1:(0:Int)<=rd cs i j/\rd cs i j<=18446744073709551615:=this;unfold aj; omega
theorem hiC {cs:L2} (h:aI fG cs) (i j:Nat) (hj:j < 8) (hk:fG.getD j .i64=.i64):bn (rd cs i j):=by
 have:=pb h i j hj;rw [hk] at this;have h1:(-9223372036854775808:Int)<=rd cs i j/\rd cs i j<=9223372036854775807:=this;unfold bn; omega
theorem Cp (p q:Int):ag (te p q):=by
 unfold te;split
 ·exact (FW (by unfold iS; split; exact dI _; exact bg)).1
 ·exact bg
theorem Qi:cf TP iE YM:=by
 refine cL (N:={ Γ:=gj,Λ:=fun _ _=>none,Τ:=fun _=>none }) 3 Al ?_
 rintro args b K ⟨z,xs,ts,rs,us,es,ks,ns,cs,n,i,⟨rfl,rfl,hz,hg,hc,hok,hn,hi⟩,hK⟩;show bQ _ _ _ _ _ _ fun v b1=>ld 9 v b1 K
 have hK':=hK;clear hK;have hil:i.toNat < xs.length:=by omega
 have hnl:n.toNat < cs.length:=by omega
 obtain ⟨_,_,m0,m4,m6,_,_⟩:=good_row hg hil;obtain ⟨c0,c2,c4,c6⟩:=hc _ (getM hnl);rw [← acY hil] at m0 m4 m6;have okr:aI aM xs:=fun r hr=>(hg r hr).2.1
 rw [Wg]; delta Maa Mab Mac Mad Maf Mag Mai Maj Mam Man Maq Mar Mat Mau Mav Max MaB MaE MaJ MaQ MaS MaW MaX MaY Ma2 Mbd Mbk Mbo Mbq Mbw Mby Mbz MbN Mb8 Mck Mcs McE McL Mc0 Mc1 Mda Mdd Mdn Md2 Md7 MeC MeG MeP MfL MfM MfP Mge Mgh Mgi Mgz MgU MgV MiJ MiS MiT MiU MjI;rintro t1 e1 j2 rfl t3 e3 j4 rfl t5 e5 j6 rfl t7 e7 j8 rfl t9 e9 t10 e10 t11 e11 t12 e12 t13 e13 t14 e14 t15 e15 t16 e16 t17 e17 t18 e18 t19 e19 t20 e20 t21 e21 t22 e22 t23 e23 t24 e24 t25 e25;rw [uD cs n.toNat 2,uD cs n.toNat 4,uD xs i.toNat 4,uD xs i.toNat 6] at e1 e3;have ui:t22:=by rw [e22]; exact hn
 have p23:t23:=by rw [e23]; exact hi
 have ea:t10*18446744073709551616+t11=fr (cs.getD n.toNat []) 2:=by rw [e10,e11]; rfl
 have eb:t12*18446744073709551616+t13=fr (cs.getD n.toNat []) 4:=by rw [e12,e13]; rfl
 have ec:t14*18446744073709551616+t15=fr (xs.getD i.toNat []) 4:=by rw [e14,e15]; rfl
 have ed:t16*18446744073709551616+t17=fr (xs.getD i.toNat []) 6:=by rw [e16,e17]; rfl
 have ew:t18*18446744073709551616+t19=fr (cs.getD n.toNat []) 6:=by rw [e18,e19]; rfl
 have eh:t20*18446744073709551616+t21=fr z 7:=by rw [e20,e21]; rfl
 rw [ea,eb,ec,ed] at e25;rw [ew] at e24;change j8=aep (az (fr z 7) j6) at e7;rw [eh];change t25=e2 (E3 xs cs n.toNat i.toNat) (E2 xs cs n.toNat i.toNat) at e25;refine ⟨ui,ui,p23,p23,?_,?_⟩
 ·rw [nv (by rw [e11]; exact Ju hok _ 3 (by decide) rfl) (by rw [e13]; exact Ju hok _ 5 (by decide) rfl),nv (by rw [e15]; exact cH okr _ 5 (by decide) rfl) (by rw [e17]; exact cH okr _ 7 (by decide) rfl),ea,eb,ec,ed]
  exact en c2 c4 m4 m6
 rw [ah];refine ⟨fun hne=>?_,fun he=>⟨⟨_,_,rfl,rfl,by rw [e1]; exact mP _ _,by rw [e3]; exact mO _ _⟩,?_⟩⟩
 ·have h1:E4 z xs cs n.toNat i.toNat=false:=by unfold E4; exact oT (by rintro ⟨h,_⟩; rw [e25] at hne; exact hne h)
  have h2:yE z xs cs n.toNat i.toNat=t25:=by unfold yE; rw [bI,if_pos (by rw [← e25]; exact hne),e25]
  rw [h1,h2] at hK';exact hK'
 have he':=kj.1 (by rw [← e25]; exact he)
 have ex:j2=E3 xs cs n.toNat i.toNat:=e1.trans (nE _ he'.1 he'.2);have ey:j4=E2 xs cs n.toNat i.toNat:=e3.trans (nE _ he'.1 he'.2);rw [ex,ey] at e5 e9;change t9=VQ xs cs n.toNat i.toNat at e9;have e7':j8=aep (UX z xs cs n.toNat i.toNat):=by rw [e7,e5]; rfl
 rw [ah];refine ⟨fun hne=>?_,fun he2=>⟨⟨fr z 7,j6,?_,rfl,hz.2,by rw [e5]; exact Cp _ _⟩,ui,ui,?_,?_⟩⟩
 ·have h1:E4 z xs cs n.toNat i.toNat=false:=by unfold E4; exact oT (by rintro ⟨_,h,_⟩; rw [e9] at hne; exact hne h)
  have h2:yE z xs cs n.toNat i.toNat=t9:=by unfold yE; rw [bI,if_neg (by rw [← e25]; simpa using he),if_pos (by rw [← e9]; exact hne),e9]
  rw [h1,h2] at hK';exact hK'
 ·rw [ae6 (by rw [e21]; exact V8 hz.1.1 8 (by decide) rfl) eh.symm]
 ·have hm:=dI (UX z xs cs n.toNat i.toNat);rw [← e7'] at hm;unfold ag at hm;refine ⟨rfl,rfl,⟨by rw [e18]; exact hiC hok _ 6 (by decide) rfl,by rw [e19]; exact Ju hok _ 7 (by decide) rfl⟩,?_,?_⟩
  ·show bn (j8 / 18446744073709551616);unfold bn; omega
  ·show aj (j8 % 18446744073709551616);unfold aj; omega
 ·have h1:E4 z xs cs n.toNat i.toNat=decide (t24<=0):=by
   unfold E4;rw [e24];rw [Bool.eq_iff_iff,xq,decide_eq_true_eq,nq,e7'];exact ⟨fun h=>h.2.2,fun h=>⟨by rw [← e25]; exact he,by rw [← e9]; exact he2,h⟩⟩
  have h2:yE z xs cs n.toNat i.toNat=bG (az (fr z 7) j6):=by
   unfold yE;rw [bI,if_neg (by rw [← e25]; simpa using he),if_neg (by rw [← e9]; simpa using he2),e5]
   rfl
  rw [h1,h2] at hK';exact hK'
end
def VJ (b:OB) (k:Nat):L1:=[bl b k 0,bl b k 1,bl b k 2,bl b k 3,bl b k 4,bl b k 5,bl b k 6,bl b k 7,bl b k 8,bl b k 9,bl b k 10,bl b k 11,bl b k 12,bl b k 13,bl b k 14,bl b k 15,bl b k 16,bl b k 17,bl b k 18,bl b k 19]
def Db (z:L1) (h:Int) (r:L1) (m ax ay px py:Int):Int:=ua (if uA z h r m ax ay≠0 then uA z h r m ax ay else e2 (px+sn z h r m ax ay) (py+sm z h r m ax ay))
def Da (z:L1) (h:Int) (r:L1) (m ax ay px py:Int):Int:=ua (if uA z h r m ax ay≠0 then px else n2 (px+sn z h r m ax ay) (py+sm z h r m ax ay) (px+sn z h r m ax ay))
def C9 (z:L1) (h:Int) (r:L1) (m ax ay px py:Int):Int:=ua (if uA z h r m ax ay≠0 then py else n2 (px+sn z h r m ax ay) (py+sm z h r m ax ay) (py+sm z h r m ax ay))
def qT (r:L1):List IV:=bN aM [r] 0 0 20
def rX (z r:L1) (h px py:Int) (xs ts rs us es ks ns cs:L2):OB:=[some (.var 79 (qT r)),some (.var 110 [.ptr 4 0]),some (.var 25 (fx h).cells),some (.var 31 (vx px py).cells),some (.var 149 (kA z 5 6 7 8 9 10 11 12))]++y0 xs ts rs us es ks ns cs
def MgY (a:List IV)(b:OB):OB:=Mac (.var 79 a) b
def MjR (a b c:Int)(d:List IV)(e f g h i j k l:L2):OB:=MbH 110 (MaO 4 []) 25 a a 31 (Mbc b b c c []) 149 d (Mb8 e f g h dE i Mbd j k l [])
theorem Tf (z r:L1) (h m ax ay px py:Int) (xs ts rs us es ks ns cs:L2) (K:IV->OB->Prop):(bQ TP { Γ:=gj,Λ:=fun _ _=>none,Τ:=fun _=>none } 3 cz [fx m,vx ax ay,.ptr 0 0,.ptr 1 0,.ptr 2 0,.ptr 3 0] (rX z r h px py xs ts rs us es ks ns cs) fun v b1=>ld 13 v b1 K) =(∀a,Mau a ax (∀b,Mau b ay (∀c,Mau c m (∀d,Mau d h (∀e,Mau e px (∀f,Mau f py (∀g,MiS g (Mdd a (Ma0 r 4) (Ma0 r 5)) (Mdd b (Ma0 r 6) (Ma0 r 7)) (∀i,Mau i g (∀j,MiT j (Mdd a (Ma0 r 4) (Ma0 r 5)) (Mdd b (Ma0 r 6) (Ma0 r 7)) (∀k,Mau k j (∀l,Mau l (BT (Ma2 (Mcj z) (Mce z)) (MhC r r) c i k (Ma2 (Mcf z) (Mcg z)) d) (∀n,Mau n l (∀o,Mau o (BS (Ma2 (Mcj z) (Mce z)) (MhC r r) c i k (Ma2 (Mcf z) (Mcg z)) d) (∀p,Mau p o (∀q,Meg q z (∀s,Men s z (∀t,Meo t z (∀u,Mep u z (∀v,Mbg v r 4 (∀w,Mbg w r 5 (∀x,Mbg x r 6 (∀y,Mbg y r 7 (∀a1,Mbg a1 r 0 (∀b1,Mbg b1 r 1 (∀c1,MiS c1 (e+n) (f+p) (∀d1,MiT d1 (e+n) (f+p) (∀e1,Mge e1 (Mdd a v w) (Mdd b x y) (∀f1,Mau f1 (BU (Ma2 q s) (Ma2 a1 b1) c i k (Ma2 t u) d) (Mfm (kB (Mc0 ax ay (Mdn v w x y [])) []) e1 (K (Maa e1) (MgY (Mfj a1 b1 r 2 (Ma0 r 3) v w x y (Ma0 r 8) r 9 r 10 r r r r 14 r 15 r 16 r r r []) (MjR h px py (kA z 5 6 7 8 9 10 11 12) xs ts rs us es ks ns cs))) (Ci (MbN q s (MbN a1 b1 (fx m::Mc0 g j (MeG t u h)))) []) f1 (K (Maa f1) (MgY (Mfj a1 b1 r 2 (Ma0 r 3) v w x y (Ma0 r 8) r 9 r 10 r r r r 14 r 15 r 16 r r r []) (MjR h px py (kA z 5 6 7 8 9 10 11 12) xs ts rs us es ks ns cs))) (MgS px py l o [] []/\K (Maa (e2 (e+n) (f+p))) (MgY (Mfj a1 b1 r 2 (Ma0 r 3) v w x y (Ma0 r 8) r 9 r 10 r r r r 14 r 15 r 16 r r r []) (MjR h c1 d1 (kA z 5 6 7 8 9 10 11 12) xs ts rs us es ks ns cs)))))))))))))))))))))))))))))))) :=by delta Maa Mab Mac Mad Mae Maf Mag Mah Mai Maj Mam Man Mao Maq Mau Max Maz MaB MaD MaO MaQ MaW Ma0 Ma1 Ma2 Mbc Mbd Mbf Mbg Mbw MbH MbN Mb8 Mce Mcf Mcg Mcj Mcs Mc0 Mdd Mdn Mdq Meg Men Meo Mep MeG Mfj Mfm Mge MgS MgY MhC MiS MiT MjR; (iterate 6 refine nj ?_); refine nm ?_; refine nj ?_; refine nm ?_; refine nj ?_; refine nm ?_; refine nj ?_; refine nm ?_; refine nj ?_; (iterate 14 refine nm ?_); kernel_rfl
def T6 (args:List IV) (b:OB):Prop:=∃z r h m ax ay px py xs ts rs us es ks ns cs,args=[fx m,vx ax ay,.ptr 0 0,.ptr 1 0,.ptr 2 0,.ptr 3 0]/\b=rX z r h px py xs ts rs us es ks ns cs/\Cg z/\lC r/\ag h/\ag m/\(ag ax/\ag ay)/\(ag px/\ag py)
def S3 (args:List IV) (b:OB):Int:=Db (VI b 4) (bl b 2 0*18446744073709551616+bl b 2 1) (VJ b 0) (v2 args 0) (v2 args 1) (vy args 1) (bl b 3 0*18446744073709551616+bl b 3 1) (bl b 3 2*18446744073709551616+bl b 3 3)
def S2 (args:List IV) (b:OB):Int:=Da (VI b 4) (bl b 2 0*18446744073709551616+bl b 2 1) (VJ b 0) (v2 args 0) (v2 args 1) (vy args 1) (bl b 3 0*18446744073709551616+bl b 3 1) (bl b 3 2*18446744073709551616+bl b 3 3)
def S1 (args:List IV) (b:OB):Int:=C9 (VI b 4) (bl b 2 0*18446744073709551616+bl b 2 1) (VJ b 0) (v2 args 0) (v2 args 1) (vy args 1) (bl b 3 0*18446744073709551616+bl b 3 1) (bl b 3 2*18446744073709551616+bl b 3 3)
def YK:eG:=fun args b K=>T6 args b/\K (.int .i64 (S3 args b)) (b.set 3 (some (.var 31 (vx (S2 args b) (S1 args b)).cells)))
section
open Go.IntWalk
theorem SY (b:OB) (k:Nat) (r:L1) (h:r.length=20) (hl:look b k=some (.var 79 (qT r))):VJ b k=r:=by
 have q:∀ j,bl b k j=bl [some (.var 79 (qT r))] 0 j:=by intro j; unfold bl; rw [hl]; rfl
 unfold VJ;simp only [q];exact Es h
theorem kS (x:Int):x / 18446744073709551616*18446744073709551616+x % 18446744073709551616=x:=by omega
theorem Pj {z r:L1} {h m ax ay px py:Int} {xs ts rs us es ks ns cs:L2} (hz:z.length=19) (hr:r.length=20):
  S3 [fx m,vx ax ay,.ptr 0 0,.ptr 1 0,.ptr 2 0,.ptr 3 0] (rX z r h px py xs ts rs us es ks ns cs)=Db z h r m ax ay px py/\
  S2 [fx m,vx ax ay,.ptr 0 0,.ptr 1 0,.ptr 2 0,.ptr 3 0] (rX z r h px py xs ts rs us es ks ns cs)=Da z h r m ax ay px py/\
  S1 [fx m,vx ax ay,.ptr 0 0,.ptr 1 0,.ptr 2 0,.ptr 3 0] (rX z r h px py xs ts rs us es ks ns cs)=C9 z h r m ax ay px py:=by
 have e1:VI (rX z r h px py xs ts rs us es ks ns cs) 4=z:=SX _ 4 z 5 6 7 8 9 10 11 12 hz rfl;have e2:VJ (rX z r h px py xs ts rs us es ks ns cs) 0=r:=SY _ 0 r hr rfl;have e3:bl (rX z r h px py xs ts rs us es ks ns cs) 2 0*18446744073709551616+bl (rX z r h px py xs ts rs us es ks ns cs) 2 1=h:=kS h;have e4:bl (rX z r h px py xs ts rs us es ks ns cs) 3 0*18446744073709551616+bl (rX z r h px py xs ts rs us es ks ns cs) 3 1=px:=kS px;have e5:bl (rX z r h px py xs ts rs us es ks ns cs) 3 2*18446744073709551616+bl (rX z r h px py xs ts rs us es ks ns cs) 3 3=py:=kS py;unfold S3 S2 S1;rw [e1,e2,e3,e4,e5,bc _ m 0 rfl,(aeY _ ax ay 1 rfl).1,(aeY _ ax ay 1 rfl).2];exact ⟨rfl,rfl,rfl⟩
theorem ta (r:L1) (j:Nat):rd [r] 0 j*18446744073709551616+rd [r] 0 (j+1)=fr r j:=rfl
theorem L6:cf TP cz YK:=by
 refine cL (N:={ Γ:=gj,Λ:=fun _ _=>none,Τ:=fun _=>none }) 3 Al ?_
 rintro args b K ⟨⟨z,r,h,m,ax,ay,px,py,xs,ts,rs,us,es,ks,ns,cs,rfl,rfl,⟨hz,hg3,hg5⟩,⟨hr,hb,m0,m4,m6,m8,m10⟩,hh,hm,⟨hax,hay⟩,hpx,hpy⟩,hK⟩;show bQ _ _ _ _ _ _ fun v b1=>ld 13 v b1 K
 obtain ⟨eE,eX,eY⟩:=Pj (z:=z) (r:=r) (h:=h) (m:=m) (ax:=ax) (ay:=ay) (px:=px) (py:=py) (xs:=xs) (ts:=ts) (rs:=rs) (us:=us) (es:=es) (ks:=ks) (ns:=ns) (cs:=cs) hz.1 hr;rw [eE,eX,eY] at hK;have hK':K (.int .i64 (Db z h r m ax ay px py)) (rX z r h (Da z h r m ax ay px py) (C9 z h r m ax ay px py) xs ts rs us es ks ns cs):=hK;clear hK eE eX eY;rw [Tf]; delta Maa Mab Mac Mad Mae Maf Mag Mah Mai Maj Mam Man Mao Maq Mau Max Maz MaB MaD MaO MaQ MaW Ma0 Ma1 Ma2 Mbc Mbd Mbf Mbg Mbw MbH MbN Mb8 Mce Mcf Mcg Mcj Mcs Mc0 Mdd Mdn Mdq Meg Men Meo Mep MeG Mfj Mfm Mge MgS MgY MhC MiS MiT MjR;rintro j1 rfl j2 rfl j3 rfl j4 rfl j5 rfl j6 rfl t7 e7 j8 rfl t9 e9 j10 rfl t11 e11 j12 rfl t13 e13 j14 rfl t15 rfl t16 rfl t17 rfl t18 rfl t19 rfl t20 rfl t21 rfl t22 rfl t23 rfl t24 rfl t25 e25 t26 e26 t27 e27 t28 e28;rw [ta r 4,ta r 6] at e7 e9 e27;rw [ta r 0] at e11 e13 e28;change j12=BT (fr z 3) (fr r 0) j3 j8 j10 (fr z 5) j4 at e11;change j14=BS (fr z 3) (fr r 0) j3 j8 j10 (fr z 5) j4 at e13;change t28=BU (fr z 3) (fr r 0) j3 j8 j10 (fr z 5) j4 at e28;have lo:∀ j,j < 20->aM.getD j .i64=.u64->aj (rd [r] 0 j):=fun j hj hk=>lG hb j hj hk
 refine ⟨?_,?_⟩
 ·rw [nv (lo 5 (by decide) rfl) (lo 7 (by decide) rfl),ta r 4,ta r 6]
  exact en hax hay m4 m6
 rw [ah];refine ⟨fun hne=>?_,fun he=>⟨?_,?_⟩⟩
 ·have hv:uA z j4 r j3 j1 j2=t27:=by unfold uA; rw [if_pos (by rw [← e27]; exact hne),e27]
  unfold Db Da C9 at hK';rw [bI,bI,bI,hv,if_pos hne,if_pos hne,if_pos hne] at hK';exact hK'
 ·have he':=kj.1 (by rw [← e27]; exact he)
  rw [show IV.agg [.int .i64 (z.getD 3 0),.int .u64 (z.getD 4 0)]=fx (fr z 3) from EY hz 3 (by decide) rfl,show IV.agg [.int .i64 (z.getD 5 0),.int .u64 (z.getD 6 0)]=fx (fr z 5) from EY hz 5 (by decide) rfl,
   show IV.agg [.int .i64 (rd [r] 0 0),.int .u64 (rd [r] 0 1)]=fx (fr r 0) from (ae6 (lo 1 (by decide) rfl) (ta r 0).symm).symm]
  exact ⟨_,_,_,_,_,_,_,rfl,rfl,hg3,m0,hm,⟨by rw [e7]; exact mP _ _,by rw [e9]; exact mO _ _⟩,hg5,hh⟩
 have he':=kj.1 (by rw [← e27]; exact he)
 have f7:j8=j1 - fr r 4:=e7.trans (nE _ he'.1 he'.2);have f9:j10=j2 - fr r 6:=e9.trans (nE _ he'.1 he'.2);have hz0:¬ e2 (j1 - fr r 4) (j2 - fr r 6)≠0:=fun hh=>hh (by rw [← e27]; exact he)
 have gE:uA z j4 r j3 j1 j2=t28:=by unfold uA; rw [if_neg hz0,e28,f7,f9]
 have gX:sn z j4 r j3 j1 j2=j12:=by unfold sn; rw [if_neg hz0,e11,f7,f9]
 have gY:sm z j4 r j3 j1 j2=j14:=by unfold sm; rw [if_neg hz0,e13,f7,f9]
 unfold Db Da C9 at hK';rw [bI,bI,bI,gE,gX,gY] at hK';rw [ah];refine ⟨fun hne=>?_,fun he2=>⟨?_,?_⟩⟩
 ·rw [if_pos hne,if_pos hne,if_pos hne] at hK';exact hK'
 ·exact en hpx hpy (by rw [e11]; exact (s8 _ _ _ _ _ _ _).1) (by rw [e13]; exact (s8 _ _ _ _ _ _ _).2)
 ·rw [if_neg (by simpa using he2),if_neg (by simpa using he2),if_neg (by simpa using he2),← e25,← e26] at hK'
  exact hK'
end
def PD (z r:L1) (h px py:Int) (xs ts rs us es ks ns cs:L2):OB:=[some (.var 165 [.fn cz [.ptr 2 0,.ptr 1 0,.ptr 3 0,.ptr 4 0]]),some (.var 110 [.ptr 5 0]),some (.var 79 (qT r)),some (.var 25 (fx h).cells),some (.var 31 (vx px py).cells),some (.var 149 (kA z 6 7 8 9 10 11 12 13))]++y0 xs ts rs us es ks ns cs
def Jy:FuncId->Option eG:=fun g=>if g=cz then some YK else none
def MaT (a b:Nat)(c:List IV):List IV:=MaO a (MaO b c)
def MbE (a b c d e f g h i j k l m n o p q r s:Int):L1:=a::b::c::Maw d e f g (Maw h i j k (Maw l m n o (Maw p q r s [])))
def Mch (a b c d:Nat)(e f:List IV):List IV:=.fn 101 (MaT a b (MaT c d e))::f
def MiE (a:OB):OB:=Maz 165 (Mch 2 1 3 4 [] []) 110 (MaO 5 []) a
theorem Tl (z r:L1) (h px py n:Int) (xs ts rs us es ks ns cs:L2) (K:IV->OB->Prop):(bQ TP { Γ:=gj,Λ:=fun _ _=>none,Τ:=Jy } 3 ado [.int .i64 n,.ptr 0 0,.ptr 1 0] (PD z r h px py xs ts rs us es ks ns cs) fun v b1=>ld 14 v b1 K) =(∀a,Mau a h (∀b,Mau b px (∀c,Mau c py (∀d,Mek d cs n (∀e,Mel e cs n (∀f,MgU f cs n (∀g,MgV g cs n (∀i,MfL i cs n (∀j,MfM j cs n (∀k,MeO k z (∀l,MeR l z (∀m,MeH m z (∀o,Meg o z (∀p,Men p z (∀q,Meo q z (∀s,Mep s z (∀t,MeC t z (∀u,MeP u z (∀v,MeS v z (∀w,MdO w z (∀x,MdC x z (∀y,MdP y z (∀a1,MdQ a1 z (∀b1,MdR b1 z (∀c1,MdS c1 z (∀d1,MdT d1 z (∀e1,MdU e1 z (∀f1,MdV f1 z (∀g1,Mbg g1 r 0 (∀i1,Mbg i1 r 1 (∀j1,Mbg j1 r 2 (∀k1,Mbg k1 r 3 (∀l1,Mbg l1 r 4 (∀m1,Mbg m1 r 5 (∀n1,Mbg n1 r 6 (∀o1,Mbg o1 r 7 (∀p1,Mbg p1 r 8 (∀q1,Mbg q1 r 9 (∀r1,Mbg r1 r 10 (∀s1,Mbg s1 r 11 (∀t1,Mbg t1 r 12 (∀u1,Mbg u1 r 13 (∀v1,Mbg v1 r 14 (∀w1,Mbg w1 r 15 (∀x1,Mbg x1 r 16 (∀y1,Mbg y1 r 17 (∀z1,Mbg z1 r 18 (∀a2,Mbg a2 r 19 (∀b2,MiJ b2 n cs (∀c2,Mcl c2 d e (∀d2,Mcl d2 f g (∀e2,Mcl e2 i j (∀f2,Mau f2 (Da (MbE k l m o p q s t u v w x y a1 b1 c1 d1 e1 f1) a (Mh2 g1 i1 j1 k1 l1 m1 n1 o1 p1 q1 r1 s1 t1 u1 v1 w1 x1 y1 z1 a2 []) c2 d2 e2 b c) (∀g2,Mau g2 (C9 (MbE k l m o p q s t u v w x y a1 b1 c1 d1 e1 f1) a (Mh2 g1 i1 j1 k1 l1 m1 n1 o1 p1 q1 r1 s1 t1 u1 v1 w1 x1 y1 z1 a2 []) c2 d2 e2 b c) (Mda b2 b2 b2 b2 (T6 (MbN d e (Mdn f g i j (MaT 0 1 (MaT 2 3 [])))) (MgY (Mdq g1 i1 j1 k1 l1 m1 n1 o1 p1 q1 r1 s1 t1 u1 v1 w1 x1 y1 z1 a2 []) (MjR h px py (Maf k (Mai l m (Maj o p q s (MaP t u v w x y 5 6 7 8 a1 b1 c1 d1 e1 f1 (MaN 9 10 11 12 []))))) xs ts rs us es ks ns cs))) (K (Maa (Db (MbE k l m o p q s t u v w x y a1 b1 c1 d1 e1 f1) a (Mh2 g1 i1 j1 k1 l1 m1 n1 o1 p1 q1 r1 s1 t1 u1 v1 w1 x1 y1 z1 a2 []) c2 d2 e2 b c)) (MiE (MbH 79 (Mdq g1 i1 j1 k1 l1 m1 n1 o1 p1 q1 r1 s1 t1 u1 v1 w1 x1 y1 z1 a2 []) 25 h h 31 (Mbc f2 f2 g2 g2 []) 149 (Maf k (Mai l m (Maj o p q s (MaP t u v w x y 6 7 8 9 a1 b1 c1 d1 e1 f1 (MaN 10 11 12 13 []))))) (Mb8 xs ts rs us dE es Mbd ks ns cs []))))))))))))))))))))))))))))))))))))))))))))))))))))))))))) :=by delta Maa Mab Mac Mad Mae Maf Mag Mah Mai Maj Mak Mam Man Mao Maq Mar Mat Mau Mav Maw Max Maz MaB MaD MaE MaN MaO MaP MaQ MaS MaT MaX Ma0 Ma1 Ma2 Mbc Mbd Mbf Mbg Mbk Mbo MbE MbH MbN Mb8 Mch Mcl Mda Mdn Mdq MdC MdO MdP MdQ MdR MdS MdT MdU MdV Meg Mek Mel Men Meo Mep MeC MeH MeO MeP MeR MeS MfL MfM MgU MgV MgY Mh2 MiE MiJ MjR; (iterate 3 refine nj ?_); (iterate 51 refine nm ?_); kernel_rfl
theorem OF (z r:L1) (h px py n:Int) (xs ts rs us es ks ns cs:L2) (K:IV->OB->Prop):(bQ TP { Γ:=gj,Λ:=fun _ _=>none,Τ:=Jy } 3 bZ [.int .i64 n,.ptr 0 0,.ptr 1 0] (PD z r h px py xs ts rs us es ks ns cs) fun v b1=>ld 14 v b1 K) =(∀a,Mau a h (∀b,Mau b px (∀c,Mau c py (∀d,Mek d xs n (∀e,Mel e xs n (∀f,MfL f xs n (∀g,MfM g xs n (∀i,Mgh i xs n (∀j,Mgi j xs n (∀k,MeO k z (∀l,MeR l z (∀m,MeH m z (∀o,Meg o z (∀p,Men p z (∀q,Meo q z (∀s,Mep s z (∀t,MeC t z (∀u,MeP u z (∀v,MeS v z (∀w,MdO w z (∀x,MdC x z (∀y,MdP y z (∀a1,MdQ a1 z (∀b1,MdR b1 z (∀c1,MdS c1 z (∀d1,MdT d1 z (∀e1,MdU e1 z (∀f1,MdV f1 z (∀g1,Mbg g1 r 0 (∀i1,Mbg i1 r 1 (∀j1,Mbg j1 r 2 (∀k1,Mbg k1 r 3 (∀l1,Mbg l1 r 4 (∀m1,Mbg m1 r 5 (∀n1,Mbg n1 r 6 (∀o1,Mbg o1 r 7 (∀p1,Mbg p1 r 8 (∀q1,Mbg q1 r 9 (∀r1,Mbg r1 r 10 (∀s1,Mbg s1 r 11 (∀t1,Mbg t1 r 12 (∀u1,Mbg u1 r 13 (∀v1,Mbg v1 r 14 (∀w1,Mbg w1 r 15 (∀x1,Mbg x1 r 16 (∀y1,Mbg y1 r 17 (∀z1,Mbg z1 r 18 (∀a2,Mbg a2 r 19 (∀b2,MiJ b2 n xs (∀c2,Mcl c2 d e (∀d2,Mcl d2 f g (∀e2,Mcl e2 i j (∀f2,Mau f2 (Da (MbE k l m o p q s t u v w x y a1 b1 c1 d1 e1 f1) a (Mh2 g1 i1 j1 k1 l1 m1 n1 o1 p1 q1 r1 s1 t1 u1 v1 w1 x1 y1 z1 a2 []) c2 d2 e2 b c) (∀g2,Mau g2 (C9 (MbE k l m o p q s t u v w x y a1 b1 c1 d1 e1 f1) a (Mh2 g1 i1 j1 k1 l1 m1 n1 o1 p1 q1 r1 s1 t1 u1 v1 w1 x1 y1 z1 a2 []) c2 d2 e2 b c) (Mda b2 b2 b2 b2 (T6 (MbN d e (Mdn f g i j (MaT 0 1 (MaT 2 3 [])))) (MgY (Mdq g1 i1 j1 k1 l1 m1 n1 o1 p1 q1 r1 s1 t1 u1 v1 w1 x1 y1 z1 a2 []) (MjR h px py (Maf k (Mai l m (Maj o p q s (MaP t u v w x y 5 6 7 8 a1 b1 c1 d1 e1 f1 (MaN 9 10 11 12 []))))) xs ts rs us es ks ns cs))) (K (Maa (Db (MbE k l m o p q s t u v w x y a1 b1 c1 d1 e1 f1) a (Mh2 g1 i1 j1 k1 l1 m1 n1 o1 p1 q1 r1 s1 t1 u1 v1 w1 x1 y1 z1 a2 []) c2 d2 e2 b c)) (MiE (MbH 79 (Mdq g1 i1 j1 k1 l1 m1 n1 o1 p1 q1 r1 s1 t1 u1 v1 w1 x1 y1 z1 a2 []) 25 h h 31 (Mbc f2 f2 g2 g2 []) 149 (Maf k (Mai l m (Maj o p q s (MaP t u v w x y 6 7 8 9 a1 b1 c1 d1 e1 f1 (MaN 10 11 12 13 []))))) (Mb8 xs ts rs us dE es Mbd ks ns cs []))))))))))))))))))))))))))))))))))))))))))))))))))))))))))) :=by delta Maa Mab Mac Mad Mae Maf Mag Mah Mai Maj Mak Mam Man Mao Maq Mar Mat Mau Mav Maw Max Maz MaB MaD MaE MaN MaO MaP MaQ MaS MaT MaX Ma0 Ma1 Ma2 Mbc Mbd Mbf Mbg Mbk Mbo MbE MbH MbN Mb8 Mch Mcl Mda Mdn Mdq MdC MdO MdP MdQ MdR MdS MdT MdU MdV Meg Mek Mel Men Meo Mep MeC MeH MeO MeP MeR MeS MfL MfM Mgh Mgi MgY Mh2 MiE MiJ MjR; (iterate 3 refine nj ?_); (iterate 51 refine nm ?_); kernel_rfl
def Dl (z r:L1) (h:Int) (xs cs:L2) (c px py:Int):Int:=if 0<=c then Db z h r (fr (cs.getD c.toNat []) 0) (fr (cs.getD c.toNat []) 2) (fr (cs.getD c.toNat []) 4) px py else Db z h r (fr (xs.getD (-1 - c).toNat []) 0) (fr (xs.getD (-1 - c).toNat []) 4) (fr (xs.getD (-1 - c).toNat []) 6) px py
def A5 (z r:L1) (h:Int) (xs cs:L2) (c px py:Int):Int:=if 0<=c then Da z h r (fr (cs.getD c.toNat []) 0) (fr (cs.getD c.toNat []) 2) (fr (cs.getD c.toNat []) 4) px py else Da z h r (fr (xs.getD (-1 - c).toNat []) 0) (fr (xs.getD (-1 - c).toNat []) 4) (fr (xs.getD (-1 - c).toNat []) 6) px py
def pR (z r:L1) (h:Int) (xs cs:L2) (c px py:Int):Int:=if 0<=c then C9 z h r (fr (cs.getD c.toNat []) 0) (fr (cs.getD c.toNat []) 2) (fr (cs.getD c.toNat []) 4) px py else C9 z h r (fr (xs.getD (-1 - c).toNat []) 0) (fr (xs.getD (-1 - c).toNat []) 4) (fr (xs.getD (-1 - c).toNat []) 6) px py
def Zf (z:L1) (xs cs:L2):Prop:=Ch z/\aY xs/\Uj cs/\aI fG cs
def T0 (m:Nat) (args:List IV) (b:OB) (z r:L1) (h px py n:Int) (xs ts rs us es ks ns cs:L2):Prop:=args=[.int .i64 n,.ptr 0 0,.ptr 1 0]/\b=PD z r h px py xs ts rs us es ks ns cs/\Zf z xs cs/\lC r/\ag h/\(ag px/\ag py)/\0<=n/\n < (if m=0 then cs.length else xs.length)
def Rx (m:Nat):eG:=fun args b K=>∃z r h px py n xs ts rs us es ks ns cs,T0 m args b z r h px py n xs ts rs us es ks ns cs/\K (.int .i64 (Dl z r h xs cs (if m=0 then n else -1 - n) px py)) (PD z r h (A5 z r h xs cs (if m=0 then n else -1 - n) px py) (pR z r h xs cs (if m=0 then n else -1 - n) px py) xs ts rs us es ks ns cs)
section
open Go.IntWalk
def zl (z:L1):L1:=[z.getD 0 0,z.getD 1 0,z.getD 2 0,z.getD 3 0,z.getD 4 0,z.getD 5 0,z.getD 6 0,z.getD 7 0,z.getD 8 0,z.getD 9 0,z.getD 10 0,z.getD 11 0,z.getD 12 0,z.getD 13 0,z.getD 14 0,z.getD 15 0,z.getD 16 0,z.getD 17 0,z.getD 18 0]
theorem lZ {z:L1} (h:z.length=19):zl z=z:=KI h
def rl (r:L1):L1:=[r.getD 0 0,r.getD 1 0,r.getD 2 0,r.getD 3 0,r.getD 4 0,r.getD 5 0,r.getD 6 0,r.getD 7 0,r.getD 8 0,r.getD 9 0,r.getD 10 0,r.getD 11 0,r.getD 12 0,r.getD 13 0,r.getD 14 0,r.getD 15 0,r.getD 16 0,r.getD 17 0,r.getD 18 0,r.getD 19 0]
theorem WK {r:L1} (h:r.length=20):rl r=r:=Es h
theorem xT {α:Type} (f:L1->L1->α) {z r:L1} (hz:z.length=19) (hr:r.length=20):f (zl z) (rl r)=f z r:=by rw [lZ hz,WK hr]
theorem GL:KnowOk TP { Γ:=gj,Λ:=fun _ _=>none,Τ:=Jy } 3:=⟨mixedOrders,fun g sp h=>np h,cO (fun _ _=>rfl) 3,iB L6 (fun _ _ h=>Ir h),fun f h=>(by cases h)⟩
theorem L8:cf TP ado (Rx 0):=by
 refine cL (N:={ Γ:=gj,Λ:=fun _ _=>none,Τ:=Jy }) 3 GL ?_
 rintro args b K ⟨z,r,h,px,py,n,xs,ts,rs,us,es,ks,ns,cs,⟨rfl,rfl,⟨hz,hg,hc,hok⟩,hr,hh,⟨hpx,hpy⟩,hn0,hn1⟩,hK'⟩;rw [if_pos rfl] at hK' hn1;have hnl:n.toNat < cs.length:=by omega
 obtain ⟨c0,c2,c4,c6⟩:=hc _ (getM hnl);unfold Dl A5 pR at hK';rw [if_pos hn0,if_pos hn0,if_pos hn0] at hK';show bQ _ _ _ _ _ _ fun v b1=>ld 14 v b1 K
 rw [Tl]; delta Maa Mab Mac Mad Mae Maf Mag Mah Mai Maj Mak Mam Man Mao Maq Mar Mat Mau Mav Maw Max Maz MaB MaD MaE MaN MaO MaP MaQ MaS MaT MaX Ma0 Ma1 Ma2 Mbc Mbd Mbf Mbg Mbk Mbo MbE MbH MbN Mb8 Mch Mcl Mda Mdn Mdq MdC MdO MdP MdQ MdR MdS MdT MdU MdV Meg Mek Mel Men Meo Mep MeC MeH MeO MeP MeR MeS MfL MfM MgU MgV MgY Mh2 MiE MiJ MjR;rintro j1 rfl j2 rfl j3 rfl t4 rfl t5 rfl t6 rfl t7 rfl t8 rfl t9 rfl t10 rfl t11 rfl t12 rfl t13 rfl t14 rfl t15 rfl t16 rfl t17 rfl t18 rfl t19 rfl t20 rfl t21 rfl t22 rfl t23 rfl t24 rfl t25 rfl t26 rfl t27 rfl t28 rfl t29 rfl t30 rfl t31 rfl t32 rfl t33 rfl t34 rfl t35 rfl t36 rfl t37 rfl t38 rfl t39 rfl t40 rfl t41 rfl t42 rfl t43 rfl t44 rfl t45 rfl t46 rfl t47 rfl t48 rfl t49 e49 t50 rfl t51 rfl t52 rfl t53 e53 t54 e54;have p49:t49:=by rw [e49]; exact ⟨hn0,hn1⟩
 refine ⟨p49,p49,p49,p49,⟨z,r,_,fr (cs.getD n.toNat []) 0,fr (cs.getD n.toNat []) 2,fr (cs.getD n.toNat []) 4,_,_,xs,ts,rs,us,es,ks,ns,cs,?_,rfl,hz.1,hr,hh,c0,⟨c2,c4⟩,hpx,hpy⟩,?_⟩
 ·rw [show IV.agg [.int .i64 (rd cs n.toNat 0),.int .u64 (rd cs n.toNat 1)]=fx (fr (cs.getD n.toNat []) 0) from (ae6 (Ju hok n.toNat 1 (by decide) rfl) rfl).symm,nv (Ju hok n.toNat 3 (by decide) rfl) (Ju hok n.toNat 5 (by decide) rfl)]
  rfl
 ·rw [← xT (fun z r=>Db z j1 r (fr (cs.getD n.toNat []) 0) (fr (cs.getD n.toNat []) 2) (fr (cs.getD n.toNat []) 4) j2 j3) hz.1.1.1 hr.1,
   ← xT (fun z r=>Da z j1 r (fr (cs.getD n.toNat []) 0) (fr (cs.getD n.toNat []) 2) (fr (cs.getD n.toNat []) 4) j2 j3) hz.1.1.1 hr.1,
   ← xT (fun z r=>C9 z j1 r (fr (cs.getD n.toNat []) 0) (fr (cs.getD n.toNat []) 2) (fr (cs.getD n.toNat []) 4) j2 j3) hz.1.1.1 hr.1] at hK'
  rw [e53,e54];exact hK'
theorem IL:cf TP bZ (Rx 1):=by
 refine cL (N:={ Γ:=gj,Λ:=fun _ _=>none,Τ:=Jy }) 3 GL ?_
 rintro args b K ⟨z,r,h,px,py,n,xs,ts,rs,us,es,ks,ns,cs,⟨rfl,rfl,⟨hz,hg,hc,hok⟩,hr,hh,⟨hpx,hpy⟩,hn0,hn1⟩,hK'⟩;rw [if_neg (by decide)] at hK' hn1
 have hnl:n.toNat < xs.length:=by omega
 obtain ⟨_,_,c0,c2,c4,_,_⟩:=hg _ (getM hnl);have okr:aI aM xs:=fun r hr=>(hg r hr).2.1
 unfold Dl A5 pR at hK';rw [if_neg (by omega),if_neg (by omega),if_neg (by omega),show (-1 - (-1 - n)).toNat=n.toNat by omega] at hK'
 show bQ _ _ _ _ _ _ fun v b1=>ld 14 v b1 K
 rw [OF]; delta Maa Mab Mac Mad Mae Maf Mag Mah Mai Maj Mak Mam Man Mao Maq Mar Mat Mau Mav Maw Max Maz MaB MaD MaE MaN MaO MaP MaQ MaS MaT MaX Ma0 Ma1 Ma2 Mbc Mbd Mbf Mbg Mbk Mbo MbE MbH MbN Mb8 Mch Mcl Mda Mdn Mdq MdC MdO MdP MdQ MdR MdS MdT MdU MdV Meg Mek Mel Men Meo Mep MeC MeH MeO MeP MeR MeS MfL MfM Mgh Mgi MgY Mh2 MiE MiJ MjR;rintro j1 rfl j2 rfl j3 rfl t4 rfl t5 rfl t6 rfl t7 rfl t8 rfl t9 rfl t10 rfl t11 rfl t12 rfl t13 rfl t14 rfl t15 rfl t16 rfl t17 rfl t18 rfl t19 rfl t20 rfl t21 rfl t22 rfl t23 rfl t24 rfl t25 rfl t26 rfl t27 rfl t28 rfl t29 rfl t30 rfl t31 rfl t32 rfl t33 rfl t34 rfl t35 rfl t36 rfl t37 rfl t38 rfl t39 rfl t40 rfl t41 rfl t42 rfl t43 rfl t44 rfl t45 rfl t46 rfl t47 rfl t48 rfl t49 e49 t50 rfl t51 rfl t52 rfl t53 e53 t54 e54;have p49:t49:=by rw [e49]; exact ⟨hn0,hn1⟩
 refine ⟨p49,p49,p49,p49,⟨z,r,_,fr (xs.getD n.toNat []) 0,fr (xs.getD n.toNat []) 4,fr (xs.getD n.toNat []) 6,_,_,xs,ts,rs,us,es,ks,ns,cs,?_,rfl,hz.1,hr,hh,c0,⟨c2,c4⟩,hpx,hpy⟩,?_⟩
 ·rw [show IV.agg [.int .i64 (rd xs n.toNat 0),.int .u64 (rd xs n.toNat 1)]=fx (fr (xs.getD n.toNat []) 0) from (ae6 (cH okr n.toNat 1 (by decide) rfl) rfl).symm,nv (cH okr n.toNat 5 (by decide) rfl) (cH okr n.toNat 7 (by decide) rfl)]
  rfl
 ·rw [← xT (fun z r=>Db z j1 r (fr (xs.getD n.toNat []) 0) (fr (xs.getD n.toNat []) 4) (fr (xs.getD n.toNat []) 6) j2 j3) hz.1.1.1 hr.1,
   ← xT (fun z r=>Da z j1 r (fr (xs.getD n.toNat []) 0) (fr (xs.getD n.toNat []) 4) (fr (xs.getD n.toNat []) 6) j2 j3) hz.1.1.1 hr.1,
   ← xT (fun z r=>C9 z j1 r (fr (xs.getD n.toNat []) 0) (fr (xs.getD n.toNat []) 4) (fr (xs.getD n.toNat []) 6) j2 j3) hz.1.1.1 hr.1] at hK'
  rw [e53,e54];exact hK'
end
def rY (z r:L1) (h px py:Int) (xs ts rs us es ks ns cs:L2):OB:=[some (.var 149 (kA z 3 4 5 6 7 8 9 10)),some (.var 165 [.fn cz [.ptr 11 0,.ptr 2 0,.ptr 12 0,.ptr 13 0]]),some (.var 110 [.ptr 0 0])]++y0 xs ts rs us es ks ns cs++[some (.var 79 (qT r)),some (.var 25 (fx h).cells),some (.var 31 (vx px py).cells)]
def Oq:IV:=.agg [.fn ado [.ptr 1 0,.ptr 2 0],.fn bZ [.ptr 1 0,.ptr 2 0]]
def Jw:FuncId->Option eG:=fun g=>if g=ado then some (Rx 0) else if g=bZ then some (Rx 1) else none
def Zq (z r:L1) (h px py:Int) (xs ts rs us es ks ns cs ys:L2) (i j:Int):St:=⟨T 39 [(2,.int .i64 i),(7,.ptr 14 0),(20,.sl 15),(21,.int .i64 ys.length),(22,.int .i64 j)],rY z r h px py xs ts rs us es ks ns cs++[some (.var 116 [.fn ado [.ptr 1 0,.ptr 2 0],.fn bZ [.ptr 1 0,.ptr 2 0]]),some (.ro [.u64,.i64] ys)]⟩
def Mcy (a:Nat)(b:List IV)(c:List IntKind)(d:L2)(e:OB):OB:=Mag (.var a b) (.ro c d) e
def Mgc (a:L1)(b c d e f g h i j k l m:Nat)(n o:List IV)(p:Nat)(q:List IV)(r s t u v w x y:L2)(z:Nat)(a1:List IV)(b1 c1:Int)(d1:Nat)(e1 f1 g1 h1:Int)(i1:List IV)(j1:OB):OB:=Maz 149 (kA a b c d e f g h i) 165 (Mch j k l m n o) (Mcy 110 (MaO p q) aM r (Man jt s ie t (Man MaQ u dE v (Man Mbd w kQ x (Mam fG y (.var z a1) (MdI b1 c1 d1 (Mbc e1 f1 g1 h1 i1) j1))))))
def MiR:List IV:=[.fn 105 (MaT 1 2 []),.fn 106 (MaT 1 2 [])]
def Mjq (a:L1)(b c d e f g h i:L2)(j:List IV)(k l m:Int):OB:=Mgc a 3 4 5 6 7 8 9 10 11 2 12 13 [] [] 0 [] b c d e f g h i 79 j k k 31 l l m m [] []
theorem rLf (Λ:FuncId->Nat->Option aB) (d:Nat) (z r:L1) (h px py:Int) (xs ts rs us es ks ns cs ys:L2) (i j:Int) (k:Out->St->Prop):(round (ai TP { Γ:=gj,Λ:=Λ,Τ:=Jw } d) bK 14 0 (lp TP bK 0) (Zq z r h px py xs ts rs us es ks ns cs ys i j) k) =(∀a,Mel a ys j (∀b,Mdp b j j ys j ys (Mav b b (Mcm a i (k .normal (MeE 39 2 i (MfC 7 14 20 15 21 ys 22 (McR j) []) (Mgc z 3 4 5 6 7 8 9 10 11 2 12 13 [] [] 0 [] xs ts rs us es ks ns cs 79 (Mjy (Ma0 r 0) (Ma0 r 1) r) h h 31 px px py py [] (Mcy 116 MiR Mbd ys [])))) (∃c:L1,∃e:L1,∃f:Int,∃g:Int,∃l:Int,∃m:Int,∃n:L2,∃o:L2,∃p:L2,∃q:L2,∃s:L2,∃t:L2,∃u:L2,∃v:L2,Mcs (T0 1 (Maf a (MaT 0 1 [])) (MiE (MbH 79 (Mjy (Ma0 r 0) (Ma0 r 1) r) 25 h h 31 (Mbc px px py py []) 149 (kA z 6 7 8 9 10 11 12 13) (Mb8 xs ts rs us dE es Mbd ks ns cs []))) c e f g l m n o p q s t u v) (Dl c e f n v (MbM - m) g l) (k .ret (MeE 39 8 (Dl c e f n v (MbM - m) g l) [] (Mjq c n o p q s t u v (Mjy (Ma0 e 0) (Ma0 e 1) e) f (A5 c e f n v (MbM - m) g l) (pR c e f n v (MbM - m) g l)))) (k .normal (MeE 39 2 i (MfC 7 14 20 15 21 ys 22 (McR j) []) (Mgc c 3 4 5 6 7 8 9 10 11 2 12 13 [] [] 0 [] n o p q s t u v 79 (Mjy (Ma0 e 0) (Ma0 e 1) e) f f 31 (A5 c e f n v (MbM - m) g l) (A5 c e f n v (MbM - m) g l) (pR c e f n v (MbM - m) g l) (pR c e f n v (MbM - m) g l) [] (Mcy 116 MiR Mbd ys []))))))) (k MbI (MaM 39 [] (Mjq z xs ts rs us es ks ns cs (Mjy (Ma0 r 0) (Ma0 r 1) r) h px py))))) :=by delta Maa Mab Mac Mae Maf Mag Mah Mai Maj Mal Mam Man Mao Map Mar Mat Mau Mav Maz MaA MaD MaG MaM MaO MaQ MaS MaT MaW MaX Ma0 Ma1 Ma3 Ma4 Mbc Mbd Mbf Mbk Mbl Mbo Mbp Mbv MbH MbI MbM Mb8 Mch Mcm Mcq Mcs Mcu Mcy McR Mdp Mdq MdI Mel MeE Mfj MfC Mgc MiE MiR Mjq Mjy; refine nm ?_; refine nm ?_; kernel_rfl
def pN (z r:L1) (h:Int) (xs cs:L2):Int->Int × Int->(Int × Int) × Int:=fun c s=>((A5 z r h xs cs c s.1 s.2,pR z r h xs cs c s.1 s.2),Dl z r h xs cs c s.1 s.2)
def Xw (z r:L1) (h:Int) (xs cs ys:L2) (i px py:Int):(Int × Int) × Int:=dF (dw (pN z r h xs cs) i) ys (px,py)
def PV (z r:L1) (h:Int) (xs cs ys:L2) (i px py:Int):Int:=(Xw z r h xs cs ys i px py).2
def PU (z r:L1) (h:Int) (xs cs ys:L2) (i px py:Int):Int:=(Xw z r h xs cs ys i px py).1.1
def PT (z r:L1) (h:Int) (xs cs ys:L2) (i px py:Int):Int:=(Xw z r h xs cs ys i px py).1.2
def kOk (z r:L1) (h px py:Int) (xs ks cs:L2):Prop:=Zf z xs cs/\lC r/\ag h/\(ag px/\ag py)/\oB xs.length ks/\ks.length<=1000000
def pLf (n0:Nat) (st:St) (z r:L1) (h px py:Int) (xs ts rs us es ks ns cs ys:L2) (i:Int):Prop:=kOk z r h px py xs ys cs/\n0=14/\st=Zq z r h px py xs ts rs us es ks ns cs ys i 0
def nX:aB:=fun n0 st K=>∃z r h px py xs ts rs us es ks ns cs ys i,pLf n0 st z r h px py xs ts rs us es ks ns cs ys i/\br (PV z r h xs cs ys i px py != 0) (K .ret ⟨T 39 [(8,.int .i64 (PV z r h xs cs ys i px py))],rY z r h (PU z r h xs cs ys i px py) (PT z r h xs cs ys i px py) xs ts rs us es ks ns cs⟩) (K (.exit 0) ⟨T 39 [],rY z r h (PU z r h xs cs ys i px py) (PT z r h xs cs ys i px py) xs ts rs us es ks ns cs⟩)
def ZD:Know:={ Γ:=gj,Λ:=fun f i=>if f=bK then (if i=0 then some nX else none) else none,Τ:=Jw }
theorem Tk (z r q:L1) (h px py:Int) (xs ts rs us es ks ns cs:L2) (i:Int) (K:IV->OB->Prop):(bQ TP ZD 3 bK [.ptr 0 0,Px q,.int .i64 i,Oq] (rY z r h px py xs ts rs us es ks ns cs) fun v b1=>ld 14 v b1 K) =(∀a,MeH a q (∀b,Meg b q (Mg6 a (a<=b) (b<=Mat ks)/\(∃c:L1,∃d:L1,∃e:Int,∃f:Int,∃g:Int,∃j:L2,∃k:L2,∃l:L2,∃m:L2,∃n:L2,∃o:L2,∃p:L2,∃s:L2,∃t:L2,∃u:Int,Mcs (pLf 14 (MeE 39 2 i (MfC 7 14 20 15 21 (Mfp a b ks) 22 0 []) (Mgc z 3 4 5 6 7 8 9 10 11 2 12 13 [] [] 0 [] xs ts rs us es ks ns cs 79 (Mjy (Ma0 r 0) (Ma0 r 1) r) h h 31 px px py py [] (Mcy 116 MiR Mbd (Mfp a b ks) []))) c d e f g j k l m n o p s t u) (PV c d e j s t u f g) (K (Maa (PV c d e j s t u f g)) (Mjq c j k l m n o p s (Mjy (Ma0 d 0) (Ma0 d 1) d) e (PU c d e j s t u f g) (PT c d e j s t u f g))) (K Mdg (Mjq c j k l m n o p s (Mjy (Ma0 d 0) (Ma0 d 1) d) e (PU c d e j s t u f g) (PT c d e j s t u f g))))))) :=by delta Maa Mab Mac Mad Mae Maf Mag Mah Mai Maj Mam Man Mao Map Mat Mau Mav Max Maz MaD MaG MaM MaO MaQ MaT MaW Ma0 Ma1 Ma3 Ma4 Mbc Mbd Mbl Mch Mcs Mcu Mcy Mdg Mdq MdI Meg MeE MeH Mfj Mfp MfC Mgc Mg6 MiR Mjq Mjy; refine nm ?_; refine nm ?_; kernel_rfl
def afS (q:L1) (ks:L2):L2:=List.drop (q.getD 2 0).toNat (List.take (q.getD 3 0).toNat ks)
def Sh (args:List IV) (b:OB) (z r q:L1) (h px py:Int) (xs ts rs us es ks ns cs:L2) (i:Int):Prop:=args=[.ptr 0 0,Px q,.int .i64 i,Oq]/\b=rY z r h px py xs ts rs us es ks ns cs/\kOk z r h px py xs ks cs/\(0<=q.getD 2 0/\q.getD 2 0<=q.getD 3 0/\q.getD 3 0<=ks.length)
def Glf:eG:=fun args b K=>∃z r q h px py xs ts rs us es ks ns cs i,Sh args b z r q h px py xs ts rs us es ks ns cs i/\K (.int .i64 (PV z r h xs cs (afS q ks) i px py)) (rY z r h (PU z r h xs cs (afS q ks) i px py) (PT z r h xs cs (afS q ks) i px py) xs ts rs us es ks ns cs)
section
open Go.IntWalk
theorem GO {z r:L1} {h m ax ay px py:Int} (hx:ag px):ag (Da z h r m ax ay px py):=by
 unfold Da; rw [bI]; split
 ·exact hx
 ·exact mP _ _
theorem GN {z r:L1} {h m ax ay px py:Int} (hy:ag py):ag (C9 z h r m ax ay px py):=by
 unfold C9; rw [bI]; split
 ·exact hy
 ·exact mO _ _
theorem y5 {z r:L1} {h c px py:Int} {xs cs:L2} (hx:ag px):ag (A5 z r h xs cs c px py):=by
 unfold A5; split <;> exact GO hx
theorem y4 {z r:L1} {h c px py:Int} {xs cs:L2} (hy:ag py):ag (pR z r h xs cs c px py):=by
 unfold pR; split <;> exact GN hy
theorem L5:∀ g G,Jw g=some G->cf TP g G:=iB L8 (iB IL (fun _ _ h=>Ir h))
theorem wi {σ:Type} (f:L1->σ->σ × Int) {ys:L2} {j:Nat} (h:j < ys.length) (s:σ):dF f (ys.drop j) s=if (f ys[j] s).2≠0 then f ys[j] s else dF f (ys.drop (j+1)) (f ys[j] s).1:=by
 rw [List.drop_eq_getElem_cons h]; rfl
theorem lLf (d n0:Nat):aG (ai TP ZD d) bK n0 0 (lp TP bK 0) nX:=by
 intro st K hst;obtain ⟨z,r,h,px0,py0,xs,ts,rs,us,es,ks,ns,cs,ys,i,⟨⟨hw,hr,hh,⟨hpx0,hpy0⟩,hid,hl⟩,rfl,rfl⟩,hK⟩:=hst;rw [ah] at hK;refine aC (fun p:Nat × Int × Int=>Zq z r h p.2.1 p.2.2 xs ts rs us es ks ns cs ys i p.1) (fun p=>p.1<=ys.length/\ag p.2.1/\ag p.2.2/\dF (dw (pN z r h xs cs) i) (ys.drop p.1) (p.2.1,p.2.2)=Xw z r h xs cs ys i px0 py0) (fun p=>ys.length - p.1) ?_ (a:=(0,px0,py0)) ⟨Nat.zero_le _,hpx0,hpy0,rfl⟩
 rintro ⟨j,px,py⟩ ⟨hle,hpx,hpy,hR⟩ k hn hk;simp only at hle hpx hpy hR;show round (ai TP { Γ:=gj,Λ:=_,Τ:=Jw } d) _ _ _ _ (Zq z r h px py xs ts rs us es ks ns cs ys i j) k;rw [rLf]; delta Maa Mab Mac Mae Maf Mag Mah Mai Maj Mal Mam Man Mao Map Mar Mat Mau Mav Maz MaA MaD MaG MaM MaO MaQ MaS MaT MaW MaX Ma0 Ma1 Ma3 Ma4 Mbc Mbd Mbf Mbk Mbl Mbo Mbp Mbv MbH MbI MbM Mb8 Mch Mcm Mcq Mcs Mcu Mcy McR Mdp Mdq MdI Mel MeE Mfj MfC Mgc MiE MiR Mjq Mjy;rw [show ((j:Nat):Int).toNat=j by omega]
 rintro t1 e1 t2 e2;rw [al];constructor
 ·intro hi;have hi':j < ys.length:=by omega
  have p2:t2:=by rw [e2]; omega
  have hidj:=hid _ (List.getElem_mem hi');have T1:t1=ys[j].getD 1 0:=by rw [e1]; exact BD hi'
  rw [← T1] at hidj;rw [wi _ hi'] at hR;rw [show IntKind.i64.wrap ((j:Int)+1)=((j+1:Nat):Int) by rw [i64_in _ (by omega)]; rfl]
  refine ⟨p2,p2,?_⟩;rw [dp];constructor
  ·intro he;have hf:dw (pN z r h xs cs) i ys[j] (px,py)=((px,py),0):=by unfold dw; rw [if_pos (by rw [← T1]; exact he)]
   rw [hf,if_neg (fun hh=>hh rfl)] at hR
   exact hn (j+1,px,py) ⟨hi',hpx,hpy,hR⟩ (by show ys.length - (j+1) < ys.length - j; omega)
  ·intro he;have hf:dw (pN z r h xs cs) i ys[j] (px,py)=((A5 z r h xs cs (-1 - t1) px py,pR z r h xs cs (-1 - t1) px py),Dl z r h xs cs (-1 - t1) px py):=by unfold dw; rw [if_neg (by rw [← T1]; exact he),← T1]; rfl
   rw [hf] at hR;refine ⟨z,r,h,px,py,t1,xs,ts,rs,us,es,ks,ns,cs,⟨rfl,rfl,hw,hr,hh,⟨hpx,hpy⟩,hidj.1,hidj.2⟩,?_⟩;rw [ah];constructor
   ·intro hne;rw [if_pos hne] at hR;have hE:PV z r h xs cs ys i px0 py0=Dl z r h xs cs (-1 - t1) px py:=(congrArg Prod.snd hR).symm;have hX:PU z r h xs cs ys i px0 py0=A5 z r h xs cs (-1 - t1) px py:=(congrArg (fun p=>p.1.1) hR).symm
    have hY:PT z r h xs cs ys i px0 py0=pR z r h xs cs (-1 - t1) px py:=(congrArg (fun p=>p.1.2) hR).symm
    rw [hE,hX,hY] at hK;exact hk _ _ (by simp) (hK.1 hne)
   ·intro h0;rw [if_neg (by simpa using h0)] at hR
    exact hn (j+1,A5 z r h xs cs (-1 - t1) px py,pR z r h xs cs (-1 - t1) px py) ⟨hi',y5 hpx,y4 hpy,hR⟩ (by show ys.length - (j+1) < ys.length - j; omega)
 ·intro hi;have:j=ys.length:=by omega
  subst this;rw [List.drop_length] at hR;have hE:PV z r h xs cs ys i px0 py0=0:=(congrArg Prod.snd hR).symm;have hX:PU z r h xs cs ys i px0 py0=px:=(congrArg (fun p=>p.1.1) hR).symm
  have hY:PT z r h xs cs ys i px0 py0=py:=(congrArg (fun p=>p.1.2) hR).symm
  rw [hE,hX,hY] at hK;exact hk _ _ (by simp) (hK.2 rfl)
theorem P4:KnowOk TP ZD 3:=cP (f0:=bK) (L:=nX) (fun g sp h=>np h) rfl L5 lLf 3
theorem zQ {q k:L1} {ks:L2} (h:k∈afS q ks):k∈ks:=List.mem_of_mem_take (List.mem_of_mem_drop h)
theorem Gj (q:L1) (ks:L2):(afS q ks).length<=ks.length:=by unfold afS; rw [List.length_drop,List.length_take]; omega
theorem L7:cf TP bK Glf:=by
 refine cL (N:=ZD) 3 P4 ?_;rintro args b K ⟨z,r,q,h,px,py,xs,ts,rs,us,es,ks,ns,cs,i,⟨rfl,rfl,⟨hw,hr,hh,hp,hid,hl⟩,hq⟩,hK⟩;show bQ _ _ _ _ _ _ fun v b1=>ld 14 v b1 K
 rw [Tk]; delta Maa Mab Mac Mad Mae Maf Mag Mah Mai Maj Mam Man Mao Map Mat Mau Mav Max Maz MaD MaG MaM MaO MaQ MaT MaW Ma0 Ma1 Ma3 Ma4 Mbc Mbd Mbl Mch Mcs Mcu Mcy Mdg Mdq MdI Meg MeE MeH Mfj Mfp MfC Mgc Mg6 MiR Mjq Mjy;rintro t1 rfl t2 rfl;refine ⟨hq,z,r,h,px,py,xs,ts,rs,us,es,ks,ns,cs,afS q ks,i,⟨⟨hw,hr,hh,hp,fun k hk=>hid k (zQ hk),Nat.le_trans (Gj q ks) hl⟩,rfl,rfl⟩,?_⟩
 rw [ah];exact ⟨fun _=>hK,fun h0=>by rw [h0] at hK; exact hK⟩
end
def N8:FuncId->Option eG:=fun g=>if g=bK then some Glf else if g=iD then some YL else if g=iE then some YM else if g=dJ then some YO else Jw g
def Vv (z r:L1) (h px py:Int) (xs ts rs us es ks ns cs td:L2) (i:Int):St:=⟨T 86 [(0,.ptr 0 0),(1,.int .i64 i),(5,.ptr 14 0),(7,.ptr 15 0)],rY z r h px py xs ts rs us es ks ns cs++[some (.var 116 [.fn ado [.ptr 1 0,.ptr 2 0],.fn bZ [.ptr 1 0,.ptr 2 0]]),some (.var 29 [.sl 16]),some (.row 3 [.i64] td)]⟩
def MbF (a:L2)(b:Int)(c:L2):L2:=List.take (Int.toNat (Mbb (Mat a) b)) c
abbrev MeN (a:Int)(b:L2)(c d:Nat)(e f:Prop):Prop:=Mcc a 0 (Ma6 ((List.length b+c)*d)/\e) f
def Me7 (a:L1)(b c:L2)(d e:Int):Int:=yE a b c (Int.toNat d) (Int.toNat e)
def MfN (a b c:Nat)(d:Int)(e f:Nat)(g:List (Nat × IV))(h:L1)(i j k l m n o p:Nat)(q r:List IV)(s:Nat)(t:List IV)(u v w x y z a1 b1:L2)(c1:L1)(d1 e1 f1 g1 h1 i1:Int)(j1:List IV)(k1 l1:Nat)(m1:List IV)(n1 o1:Nat)(p1 q1 r1:List IV)(s1:Nat)(t1:L2)(u1:OB):St:=MaM 86 (Ma4 a b c (Maa d) e (Mao 14) f (Mao 15) g) (Mac (.var 149 (kA h i j k l m n o 10)) (Maz 165 (Mch 11 p 12 13 q r) 110 (MaO s t) (Mb8 u v w x dE y Mbd z a1 b1 (MbH 79 (qT c1) 25 d1 e1 31 (Mbc f1 g1 h1 i1 j1) 116 (.fn 105 (MaT k1 l1 m1)::.fn 106 (MaT n1 o1 p1)::q1) (Mco 29 16 r1 s1 MaQ t1 u1)))))
def MfS (a:L1)(b c:L2)(d e:Int):Bool:=E4 a b c (Int.toNat d) (Int.toNat e)
def Mg3 (a:L2):Int:=Mbb (Mat a) 1
def MiM (a:L2)(b:Int):L2:=a++MaU 1 1 0 0 [b]
def Mh5 (a b:L2)(c d e:Int):L2:=MiM (MiM (MiM (MbF a 1 b) c) d) e
def Mi7 (a:L2)(b c:Int):L2:=MiM (MiM (MbF a 1 a) b) c
def Mji (a:Int)(b:L1)(c d e f g h i j:L2)(k:L1)(l m n:Int)(o:L2):St:=MfN 0 0 1 a 5 7 [] b 3 4 5 6 7 8 9 2 [] [] 0 [] c d e f g h i j k l l m m n n [] 1 2 [] 1 2 [] [] [] 3 o []
def Mjm (a:L2)(b:Int):L2:=MiM (MbF a 1 a) b
abbrev Mjr (a:Int)(b:L2)(c:Int)(d:L2)(e f g h:Prop):Prop:=MeN a b 1 8 (MeN c d 1 8 e f) (MeN c b 1 8 g h)
def MjX (a:Int)(b:L1)(c d e f g h i j:L2)(k:L1)(l m n o p:Int)(q:L2):St:=MfN 0 0 1 a 5 7 [] b 3 4 5 6 7 8 9 2 [] [] 0 [] c d e f g h i j k l l (A5 b k l c j m n o) (A5 b k l c j m n o) p p [] 1 2 [] 1 2 [] [] [] 3 q []
theorem rWk (Λ:FuncId->Nat->Option aB) (d:Nat) (z r:L1) (h px py:Int) (xs ts rs us es ks ns cs td:L2) (i:Int) (k:Out->St->Prop):(round (ai TP { Γ:=gj,Λ:=Λ,Τ:=N8,pop:=fun t=>Nat.beq t 29,back:=fun f=>Nat.beq f 153 } d) bV 14 0 (lp TP bV 0) (Vv z r h px py xs ts rs us es ks ns cs td i) k) =(∀a,Mek a td (Mg3 td) (∀b,MfL b ns a (∀c,MfM c ns a (∀e,Mgh e ns a (∀f,Mgi f ns a (∀g,MiJ g (Mg3 td) td (∀j,MiJ j a ns (∀l,Mbo l (Xm Me5 (MaV MaQ (MfX b c e f) [])) (∀m,Mbo m (k .normal (Mji i z xs ts rs us es ks ns cs r h px py (MbF td 1 td))) (∀n,McW n l (Mjr f (MbF td 1 td) e (Mjm td f) (Mjr c (Mi7 td f e) b (Mh5 td td f e c) (k .normal (Mji i z xs ts rs us es ks ns cs r h px py (MiM (Mh5 td td f e c) b))) (k .normal (Mji i z xs ts rs us es ks ns cs r h px py (Mh5 td td f e c))) (k .normal (Mji i z xs ts rs us es ks ns cs r h px py (Mh5 td td f e b))) (k .normal (Mji i z xs ts rs us es ks ns cs r h px py (Mi7 td f e)))) (Mjr c (Mjm td f) b (Mi7 td f c) (k .normal (Mji i z xs ts rs us es ks ns cs r h px py (Mh5 td td f c b))) (k .normal (Mji i z xs ts rs us es ks ns cs r h px py (Mi7 td f c))) (k .normal (Mji i z xs ts rs us es ks ns cs r h px py (Mi7 td f b))) (k .normal (Mji i z xs ts rs us es ks ns cs r h px py (Mjm td f)))) (Mjr c (Mjm td e) b (Mi7 td e c) (k .normal (Mji i z xs ts rs us es ks ns cs r h px py (Mh5 td td e c b))) (k .normal (Mji i z xs ts rs us es ks ns cs r h px py (Mi7 td e c))) (k .normal (Mji i z xs ts rs us es ks ns cs r h px py (Mi7 td e b))) (k .normal (Mji i z xs ts rs us es ks ns cs r h px py (Mjm td e)))) (Mjr c (MbF td 1 td) b (Mjm td c) (k .normal (Mji i z xs ts rs us es ks ns cs r h px py (Mi7 td c b))) (k .normal (Mji i z xs ts rs us es ks ns cs r h px py (Mjm td c))) (k .normal (Mji i z xs ts rs us es ks ns cs r h px py (Mjm td b))) m)) (Md3 (Mat td) 0 (Mda g g (Mgf (Mg3 td) (Mg3 td<=Mat td)) j j (br (MeT b MbM (MaZ c MbM) (Md4 e MbM f MbM)) (∃o:L1,∃p:L1,∃q:L1,∃s:Int,∃t:Int,∃u:Int,∃v:L2,∃w:L2,∃x:L2,∃y:L2,∃a1:L2,∃b1:L2,∃c1:L2,∃d1:L2,∃e1:Int,Mcs (Sh (MaO 0 (McG kQ ns a 0 8 (Maf i (MaB MiR [])))) (Mjq z xs ts rs us es ks ns cs (qT r) h px py) o p q s t u v w x y a1 b1 c1 d1 e1) (PV o p s v d1 (afS q b1) e1 t u) (k .ret (MeE 86 6 (PV o p s v d1 (afS q b1) e1 t u) [] (Mjq o v w x y a1 b1 c1 d1 (qT p) s (PU o p s v d1 (afS q b1) e1 t u) (PT o p s v d1 (afS q b1) e1 t u)))) (k .normal (Mji i o v w x y a1 b1 c1 d1 p s (PU o p s v d1 (afS q b1) e1 t u) (PT o p s v d1 (afS q b1) e1 t u) (MbF td 1 td)))) (Mdu (Xh (MaO 0 (McG kQ ns a 0 8 (MaY i))) (MjI z xs ts rs us es ks ns cs)) (ll (Mfp (Mar ns a 2) (Mar ns a 3) ks) i) (∃o:L1,∃p:L2,∃q:L2,∃s:L2,∃t:L2,∃u:L2,∃v:L2,∃w:L2,∃x:L2,∃y:Int,∃a1:Int,Xi (MaO 0 (MaD a i [])) (MjI z xs ts rs us es ks ns cs) o p q s t u v w x y a1/\Mcm (Me7 o p x y a1) 0 (br (MfS o p x y a1) (∃b1:L1,∃c1:L1,∃d1:Int,∃e1:Int,∃f1:Int,∃g1:Int,∃i1:L2,∃j1:L2,∃k1:L2,∃l1:L2,∃m1:L2,∃n1:L2,∃o1:L2,∃p1:L2,Mcs (T0 0 (Maf a (MaT 0 1 [])) (MiE (MbH 79 (qT r) 25 h h 31 (Mbc px px py py []) 149 (kA z 6 7 8 9 10 11 12 13) (Mb8 xs ts rs us dE es Mbd ks ns cs []))) b1 c1 d1 e1 f1 g1 i1 j1 k1 l1 m1 n1 o1 p1) (Dl b1 c1 d1 i1 p1 g1 e1 f1) (k .ret (MeE 86 6 (Dl b1 c1 d1 i1 p1 g1 e1 f1) [] (Mjq b1 i1 j1 k1 l1 m1 n1 o1 p1 (qT c1) d1 (A5 b1 c1 d1 i1 p1 g1 e1 f1) (pR b1 c1 d1 i1 p1 g1 e1 f1)))) (br (MfS o p x y a1) (k .normal (MjX i b1 i1 j1 k1 l1 m1 n1 o1 p1 c1 d1 g1 e1 f1 (pR b1 c1 d1 i1 p1 g1 e1 f1) (MbF td 1 td))) (l/\Mjr f (MbF td 1 td) e (Mjm td f) (Mjr c (Mi7 td f e) b (Mh5 td td f e c) (k .normal (MjX i b1 i1 j1 k1 l1 m1 n1 o1 p1 c1 d1 g1 e1 f1 (pR b1 c1 d1 i1 p1 g1 e1 f1) (MiM (Mh5 td td f e c) b))) (k .normal (MjX i b1 i1 j1 k1 l1 m1 n1 o1 p1 c1 d1 g1 e1 f1 (pR b1 c1 d1 i1 p1 g1 e1 f1) (Mh5 td td f e c))) (k .normal (MjX i b1 i1 j1 k1 l1 m1 n1 o1 p1 c1 d1 g1 e1 f1 (pR b1 c1 d1 i1 p1 g1 e1 f1) (Mh5 td td f e b))) (k .normal (MjX i b1 i1 j1 k1 l1 m1 n1 o1 p1 c1 d1 g1 e1 f1 (pR b1 c1 d1 i1 p1 g1 e1 f1) (Mi7 td f e)))) (Mjr c (Mjm td f) b (Mi7 td f c) (k .normal (MjX i b1 i1 j1 k1 l1 m1 n1 o1 p1 c1 d1 g1 e1 f1 (pR b1 c1 d1 i1 p1 g1 e1 f1) (Mh5 td td f c b))) (k .normal (MjX i b1 i1 j1 k1 l1 m1 n1 o1 p1 c1 d1 g1 e1 f1 (pR b1 c1 d1 i1 p1 g1 e1 f1) (Mi7 td f c))) (k .normal (MjX i b1 i1 j1 k1 l1 m1 n1 o1 p1 c1 d1 g1 e1 f1 (pR b1 c1 d1 i1 p1 g1 e1 f1) (Mi7 td f b))) (k .normal (MjX i b1 i1 j1 k1 l1 m1 n1 o1 p1 c1 d1 g1 e1 f1 (pR b1 c1 d1 i1 p1 g1 e1 f1) (Mjm td f)))) (Mjr c (Mjm td e) b (Mi7 td e c) (k .normal (MjX i b1 i1 j1 k1 l1 m1 n1 o1 p1 c1 d1 g1 e1 f1 (pR b1 c1 d1 i1 p1 g1 e1 f1) (Mh5 td td e c b))) (k .normal (MjX i b1 i1 j1 k1 l1 m1 n1 o1 p1 c1 d1 g1 e1 f1 (pR b1 c1 d1 i1 p1 g1 e1 f1) (Mi7 td e c))) (k .normal (MjX i b1 i1 j1 k1 l1 m1 n1 o1 p1 c1 d1 g1 e1 f1 (pR b1 c1 d1 i1 p1 g1 e1 f1) (Mi7 td e b))) (k .normal (MjX i b1 i1 j1 k1 l1 m1 n1 o1 p1 c1 d1 g1 e1 f1 (pR b1 c1 d1 i1 p1 g1 e1 f1) (Mjm td e)))) (Mjr c (MbF td 1 td) b (Mjm td c) (k .normal (MjX i b1 i1 j1 k1 l1 m1 n1 o1 p1 c1 d1 g1 e1 f1 (pR b1 c1 d1 i1 p1 g1 e1 f1) (Mi7 td c b))) (k .normal (MjX i b1 i1 j1 k1 l1 m1 n1 o1 p1 c1 d1 g1 e1 f1 (pR b1 c1 d1 i1 p1 g1 e1 f1) (Mjm td c))) (k .normal (MjX i b1 i1 j1 k1 l1 m1 n1 o1 p1 c1 d1 g1 e1 f1 (pR b1 c1 d1 i1 p1 g1 e1 f1) (Mjm td b))) (k .normal (MjX i b1 i1 j1 k1 l1 m1 n1 o1 p1 c1 d1 g1 e1 f1 (pR b1 c1 d1 i1 p1 g1 e1 f1) (MbF td 1 td))))))) (McL (Me7 o p x y a1) (k .ret (MeE 86 6 (Me7 o p x y a1) [] (Mjq z xs ts rs us es ks ns cs (qT r) h px py))) (br (MfS o p x y a1) m n))) (McL (Me7 o p x y a1) (k .ret (MeE 86 6 (Me7 o p x y a1) [] (Mjq z xs ts rs us es ks ns cs (qT r) h px py))) (br (MfS o p x y a1) m n))) n))) (k MbI (MaM 86 [] (Mjq z xs ts rs us es ks ns cs (qT r) h px py)))))))))))))) :=by delta Maa Mab Mac Mae Maf Mag Mah Mai Maj Mak Mal Mam Man Mao Map Mar Mat Mau Mav Maz MaB MaD MaE MaG MaM MaO MaQ MaS MaT MaU MaV MaW MaX MaY MaZ Ma1 Ma3 Ma4 Ma6 Mba Mbb Mbc Mbd Mbf Mbk Mbm Mbo MbF MbH MbI MbM Mb8 Mcc Mch Mcm Mco Mcs Mcy McG McL McW Mda Mdi Mdu MdI Md3 Md4 Mek MeE MeN MeT Me5 Me7 Mfp MfL MfM MfN MfS MfX Mgc Mgf Mgh Mgi Mg3 MiM Mh5 MiE MiJ MiR Mi7 Mji Mjm Mjq Mjr MjI MjX; (iterate 10 refine nm ?_); kernel_rfl
def PR (z r:L1) (h:Int) (xs ks ns cs:L2) (i:Int):Nat->Int × Int->(Int × Int) × Int:=Cm (pN z r h xs cs) ns ks (fun n=>yE z xs cs n i.toNat) (fun n=>E4 z xs cs n i.toNat) i
def S6 (z r:L1) (h:Int) (xs ks ns cs:L2) (i px py:Int):(Int × Int) × Int:=dF (PR z r h xs ks ns cs i) [0] (px,py)
def RE (z r:L1) (h:Int) (xs ks ns cs:L2) (i px py:Int):Int:=(S6 z r h xs ks ns cs i px py).2
def Om (z r:L1) (h:Int) (xs ks ns cs:L2) (i px py:Int):Int:=(S6 z r h xs ks ns cs i px py).1.1
def Ol (z r:L1) (h:Int) (xs ks ns cs:L2) (i px py:Int):Int:=(S6 z r h xs ks ns cs i px py).1.2
def qc (z:L1) (xs ks ns cs:L2):Prop:=Zf z xs cs/\gr ns ks.length/\oB xs.length ks/\ks.length<=1000/\0 < ns.length/\cs.length=ns.length
def Wa (z r:L1) (h px py:Int) (xs ks ns cs:L2) (i:Int):Prop:=qc z xs ks ns cs/\lC r/\ag h/\(ag px/\ag py)/\0<=i/\i < xs.length
def x4 (n0:Nat) (st:St) (z r:L1) (h px py:Int) (xs ts rs us es ks ns cs:L2) (i:Int):Prop:=Wa z r h px py xs ks ns cs i/\n0=14/\st=Vv z r h px py xs ts rs us es ks ns cs [[0]] i
def Lwk:aB:=fun n0 st K=>∃z r h px py xs ts rs us es ks ns cs i,x4 n0 st z r h px py xs ts rs us es ks ns cs i/\br (RE z r h xs ks ns cs i px py != 0) (K .ret ⟨T 86 [(6,.int .i64 (RE z r h xs ks ns cs i px py))],rY z r h (Om z r h xs ks ns cs i px py) (Ol z r h xs ks ns cs i px py) xs ts rs us es ks ns cs⟩) (K (.exit 0) ⟨T 86 [],rY z r h (Om z r h xs ks ns cs i px py) (Ol z r h xs ks ns cs i px py) xs ts rs us es ks ns cs⟩)
def Yw:Know:={ Γ:=gj,Λ:=fun f i=>if f=bV then (if i=0 then some Lwk else none) else none,Τ:=N8,pop:=fun t=>Nat.beq t 29,back:=fun f=>Nat.beq f 153 }
theorem S9 (z r:L1) (h px py:Int) (xs ts rs us es ks ns cs:L2) (i:Int) (K:IV->OB->Prop):(bQ TP Yw 3 bV [.ptr 0 0,.int .i64 i,Oq] (rY z r h px py xs ts rs us es ks ns cs) fun v b1=>ld 14 v b1 K) =(∃a:L1,∃b:L1,∃c:Int,∃d:Int,∃e:Int,∃f:L2,∃g:L2,∃j:L2,∃k:L2,∃l:L2,∃m:L2,∃n:L2,∃o:L2,∃p:Int,Mcs (x4 14 (MfN 0 0 1 i 5 7 [] z 3 4 5 6 7 8 9 2 [] [] 0 [] xs ts rs us es ks ns cs r h h px px py py [] 1 2 [] 1 2 [] [] [] 3 [[0]] []) a b c d e f g j k l m n o p) (RE a b c f m n o p d e) (K (Maa (RE a b c f m n o p d e)) (Mjq a f g j k l m n o (qT b) c (Om a b c f m n o p d e) (Ol a b c f m n o p d e))) (K Mdg (Mjq a f g j k l m n o (qT b) c (Om a b c f m n o p d e) (Ol a b c f m n o p d e)))) :=by kernel_rfl
def Se (args:List IV) (b:OB) (z r:L1) (h px py:Int) (xs ts rs us es ks ns cs:L2) (i:Int):Prop:=args=[.ptr 0 0,.int .i64 i,Oq]/\b=rY z r h px py xs ts rs us es ks ns cs/\Wa z r h px py xs ks ns cs i
def Gwk:eG:=fun args b K=>∃z r h px py xs ts rs us es ks ns cs i,Se args b z r h px py xs ts rs us es ks ns cs i/\K (.int .i64 (RE z r h xs ks ns cs i px py)) (rY z r h (Om z r h xs ks ns cs i px py) (Ol z r h xs ks ns cs i px py) xs ts rs us es ks ns cs)
section
open Go.IntWalk
theorem UR:∀ g G,N8 g=some G->cf TP g G:=iB L7 (iB Qh (iB Qi (iB Qk L5)))
def bx (l:List Nat):L2:=l.map fun (n:Nat)=>[((n:Nat):Int)]
theorem O5 (a b:List Nat):bx (a++b)=bx a++bx b:=List.map_append
theorem O3 (l:List Nat) (n:Nat):rd (bx (l++[n])) l.length 0=n:=by
 unfold rd bx;simp [List.getD]
theorem O2 (l:List Nat) (n:Nat):(bx (l++[n])).take l.length=bx l:=by
 unfold bx;simp
theorem Tw (ns:L2) (n q:Nat):bx (lN ns n q).reverse=if 0<=rd ns n (4+q) then [[rd ns n (4+q)]] else []:=by
 unfold lN;split
 ·rename_i h;show [[((rd ns n (4+q)).toNat:Int)]]=_;rw [show ((rd ns n (4+q)).toNat:Int)=rd ns n (4+q) by omega]
 ·rfl
theorem O4 (ns:L2) (n:Nat) (rest:List Nat):bx (gm ns n++rest).reverse=bx rest.reverse++((if 0<=rd ns n 7 then [[rd ns n 7]] else [])++((if 0<=rd ns n 6 then [[rd ns n 6]] else [])++((if 0<=rd ns n 5 then [[rd ns n 5]] else [])++(if 0<=rd ns n 4 then [[rd ns n 4]] else [])))):=by
 unfold gm;simp only [List.reverse_append,O5,Tw,List.append_assoc]
theorem IC {ns:L2} {len n:Nat} (h:gr ns len) (hn:n < ns.length):(decide (rd ns n 4 = -1) && (decide (rd ns n 5 = -1) && (decide (rd ns n 6 = -1) && (decide (rd ns n 7 = -1) && true))))=ot ns n:=by
 have g:=(h n hn).2;have g0:=g 0 (by omega)
 have g1:=g 1 (by omega)
 have g2:=g 2 (by omega)
 have g3:=g 3 (by omega)
 simp only [Nat.reduceAdd,Nat.add_zero] at g0 g1 g2 g3;unfold ot;rw [Bool.eq_iff_iff];simp only [Bool.and_eq_true,decide_eq_true_eq,Bool.and_true];omega
theorem jr {σ α:Type} (f:α->σ->σ × Int) (a:α) (l:List α) (s:σ):dF f (a :: l) s=if (f a s).2≠0 then f a s else dF f l (f a s).1:=rfl
theorem FP {z r:L1} {h c:Int} {xs cs:L2} {s:Int × Int} (hx:ag s.1) (hy:ag s.2):ag (pN z r h xs cs c s).1.1/\ag (pN z r h xs cs c s).1.2:=⟨y5 hx,y4 hy⟩
theorem Lm {z r:L1} {h i:Int} {xs cs:L2} {k:L1} {s:Int × Int} (hx:ag s.1) (hy:ag s.2):ag (dw (pN z r h xs cs) i k s).1.1/\ag (dw (pN z r h xs cs) i k s).1.2:=by
 unfold dw;split
 ·exact ⟨hx,hy⟩
 ·exact FP hx hy
theorem Gf (z r:L1) (h:Int) (xs cs:L2) (i:Int):∀ (ys:L2) (s:Int × Int),ag s.1->ag s.2->ag (dF (dw (pN z r h xs cs) i) ys s).1.1/\ag (dF (dw (pN z r h xs cs) i) ys s).1.2
 | [],s,hx,hy=>⟨hx,hy⟩
 | k :: ys,s,hx,hy=>by
  have:=Lm (z:=z) (r:=r) (h:=h) (i:=i) (xs:=xs) (cs:=cs) (k:=k) hx hy;rw [jr];split
  ·exact this
  ·exact Gf z r h xs cs i ys _ this.1 this.2
theorem lWk (d n0:Nat):aG (ai TP Yw d) bV n0 0 (lp TP bV 0) Lwk:=by
 intro st K hst;obtain ⟨z,r,h,px0,py0,xs,ts,rs,us,es,ks,ns,cs,i,⟨⟨⟨hw,htr,hid,hks,hns,hcn⟩,hr,hh,⟨hpx0,hpy0⟩,hi0,hi1⟩,rfl,rfl⟩,hK⟩:=hst;rw [ah] at hK;refine aC (fun p:List Nat × Int × Int=>Vv z r h p.2.1 p.2.2 xs ts rs us es ks ns cs (bx p.1.reverse) i) (fun p=>(∀ n∈p.1,n < ns.length)/\sK ns p.1<=1000/\ag p.2.1/\ag p.2.2/\dF (PR z r h xs ks ns cs i) p.1 (p.2.1,p.2.2)=S6 z r h xs ks ns cs i px0 py0) (fun p=>Ca ns p.1) ?_ (a:=([0],px0,py0)) ⟨by simpa using hns,by have:=(nN htr hns).2.1; simp only [sK]; omega,hpx0,hpy0,rfl⟩
 rintro ⟨stk,px,py⟩ ⟨hin,hwt,hpx,hpy,hR⟩ k hn hk;simp only at hin hwt hpx hpy hR;show round (ai TP { Γ:=gj,Λ:=_,Τ:=N8,pop:=fun t=>Nat.beq t 29,back:=fun f=>Nat.beq f 153 } d) _ _ _ _ (Vv z r h px py xs ts rs us es ks ns cs (bx stk.reverse) i) k
 have hlen:=GI htr hin;have done:∀ {R:(Int × Int) × Int},R=S6 z r h xs ks ns cs i px0 py0->RE z r h xs ks ns cs i px0 py0=R.2/\Om z r h xs ks ns cs i px0 py0=R.1.1/\Ol z r h xs ks ns cs i px0 py0=R.1.2:=by
  rintro R rfl; exact ⟨rfl,rfl,rfl⟩
 rw [rWk]; delta Maa Mab Mac Mae Maf Mag Mah Mai Maj Mak Mal Mam Man Mao Map Mar Mat Mau Mav Maz MaB MaD MaE MaG MaM MaO MaQ MaS MaT MaU MaV MaW MaX MaY MaZ Ma1 Ma3 Ma4 Ma6 Mba Mbb Mbc Mbd Mbf Mbk Mbm Mbo MbF MbH MbI MbM Mb8 Mcc Mch Mcm Mco Mcs Mcy McG McL McW Mda Mdi Mdu MdI Md3 Md4 Mek MeE MeN MeT Me5 Me7 Mfp MfL MfM MfN MfS MfX Mgc Mgf Mgh Mgi Mg3 MiM Mh5 MiE MiJ MiR Mi7 Mji Mjm Mjq Mjr MjI MjX;cases stk with
 | nil=>
  rintro t1 e1 t2 e2 t3 e3 t4 e4 t5 e5 t6 e6 t7 e7 t8 e8 t9 e9 t10 e10;clear e10;rw [al];refine ⟨fun hh=>absurd hh (by simp [bx]),fun _=>?_⟩
  obtain ⟨q1,q2,q3⟩:=done hR;rw [q1,q2,q3] at hK;exact hk _ _ (by simp) (hK.2 rfl)
 | cons n rest=>
  have hnn:n < ns.length:=hin n (List.mem_cons_self ..);have hin':∀ m∈rest,m < ns.length:=fun m hm=>hin m (List.mem_cons_of_mem _ hm)
  simp only [List.length_cons,sK] at hlen;simp only [sK] at hwt;have hl1:((bx (n :: rest).reverse).length:Int)=rest.length+1:=by simp [bx]
  have hw1:IntKind.i64.wrap (((bx (n :: rest).reverse).length:Int) - 1)=(rest.length:Int):=by rw [hl1,i64_in _ (by omega)]; omega
  rw [hw1,show ((rest.length:Nat):Int).toNat=rest.reverse.length by simp,show (n :: rest).reverse=rest.reverse++[n] from List.reverse_cons,O3,O2]
  have hl2:((bx (rest.reverse++[n])).length:Int)=rest.length+1:=by simp [bx]
  rintro t1 rfl t2 e2 t3 e3 t4 e4 t5 e5 t6 e6 t7 e7 t8 e8 t9 e9 t10 e10;rw [show ((n:Nat):Int).toNat=n by omega] at e2 e3 e4 e5
  have p6:t6:=by rw [e6,hl2]; omega
  have p7:t7:=by rw [e7]; omega
  have p8:t8:=by rw [e8]; exact ⟨_,rfl,rfl⟩
  have hmu:∀ m,Ca ns (n :: rest)=m->Ca ns rest < m:=by
   intro m hm;have:=PB htr hnn;simp only [Ca] at hm;omega
  have hlk:=Cl htr (pN z r h xs cs) ks (fun n=>yE z xs cs n i.toNat) (fun n=>E4 z xs cs n i.toNat) i hnn (px,py)
  rw [jr] at hR;have hnode:=htr n hnn;obtain ⟨b1,b2,b3,_⟩:=hnode.1;have hq:0<=rd ns n 2/\rd ns n 2<=rd ns n 3/\rd ns n 3<=ks.length:=⟨b1,by omega,b2⟩
  have next:∀ {x y:Int},ag x->ag y->PR z r h xs ks ns cs i n (px,py)=((x,y),0)->k Out.normal (Vv z r h x y xs ts rs us es ks ns cs (bx rest.reverse) i):=by
   intro x y hx hy he;rw [he,if_neg (fun hh=>hh rfl)] at hR
   exact hn (rest,x,y) ⟨hin',(by show sK ns rest<=1000; omega),hx,hy,hR⟩ (hmu _ rfl)
  have stop:∀ {x y e:Int},e≠0->PR z r h xs ks ns cs i n (px,py)=((x,y),e)->k Out.ret ⟨T 86 [(6,.int .i64 e)],rY z r h x y xs ts rs us es ks ns cs⟩:=by
   intro x y e hne he;rw [he,if_pos hne] at hR;obtain ⟨q1,q2,q3⟩:=done hR;rw [q1,q2,q3] at hK;exact hk _ _ (by simp) (hK.1 hne)
  rw [al];refine ⟨fun _=>?_,fun hh=>absurd (by rw [hl2]; omega) hh⟩
  refine ⟨p6,p6,by rw [hl2]; omega,p7,p7,?_⟩
  rw [e2,e3,e4,e5,IC htr hnn,aL];refine ⟨fun hlf=>?_,fun hlf=>?_⟩
  ·
   rw [if_pos hlf] at hlk;refine ⟨z,r,ns.getD n [],h,px,py,xs,ts,rs,us,es,ks,ns,cs,i,⟨rfl,rfl,⟨hw,hr,hh,⟨hpx,hpy⟩,hid,Nat.le_trans hks (by decide)⟩,hq⟩,?_⟩
   have hlf2:PR z r h xs ks ns cs i n (px,py)=Xw z r h xs cs (afS (ns.getD n []) ks) i px py:=hlk;rw [ah];refine ⟨fun hne=>stop hne hlf2,fun h0=>?_⟩
   have hle:=Gf z r h xs cs i (afS (ns.getD n []) ks) (px,py) hpx hpy;refine next hle.1 hle.2 ?_
   rw [hlf2,← h0]; rfl
  rw [if_neg (by rw [hlf]; decide)] at hlk
  have kids:PR z r h xs ks ns cs i n (px,py)=dF (PR z r h xs ks ns cs i) (gm ns n) (px,py)->t10:=by
   intro he;have hgo:k Out.normal (Vv z r h px py xs ts rs us es ks ns cs (bx (gm ns n++rest).reverse) i):=by
    refine hn (gm ns n++rest,px,py) ⟨?_,?_,hpx,hpy,?_⟩ ?_
    ·intro m hm;rcases List.mem_append.1 hm with hm | hm
     ·exact (vq htr hnn m hm).1
     ·exact hin' m hm
    ·show sK ns (gm ns n++rest)<=1000;rw [ra,r9 htr hnn hlf]; exact hwt
    ·show dF _ (gm ns n++rest) (px,py)=_;rw [By,← he]; exact hR
    ·show Ca ns (gm ns n++rest) < Ca ns (n :: rest);rw [GA];have:=Ln htr hnn hlf;simp only [Ca];omega
   rw [O4] at hgo;have hrl:(bx rest.reverse).length=rest.length:=by simp [bx]
   have go:∀ L,L=bx rest.reverse++((if 0<=rd ns n 7 then [[rd ns n 7]] else [])++((if 0<=rd ns n 6 then [[rd ns n 6]] else [])++((if 0<=rd ns n 5 then [[rd ns n 5]] else [])++(if 0<=rd ns n 4 then [[rd ns n 4]] else []))))->k Out.normal (Vv z r h px py xs ts rs us es ks ns cs L i):=by
    rintro L rfl; exact hgo
   rw [e10,e9,e2,e3,e4,e5];generalize rd ns n 7=k3 at go;generalize rd ns n 6=k2 at go;generalize rd ns n 5=k1 at go;generalize rd ns n 4=k0 at go;refine ⟨p8,?_⟩;have room:∀ A:L2,A.length<=rest.length+3->(A.length+1)*8<=140737488355328:=fun A hA=>by omega
   rw [al];refine ⟨fun c3=>⟨room _ (by simp [hrl]),?_⟩,fun c3=>?_⟩
   all_goals rw [al]
   ·refine ⟨fun c2=>⟨room _ (by simp [hrl]),?_⟩,fun c2=>?_⟩
    all_goals rw [al]
    ·refine ⟨fun c1=>⟨room _ (by simp [hrl]),?_⟩,fun c1=>?_⟩
     all_goals rw [al]
     ·exact ⟨fun c0=>⟨room _ (by simp [hrl]),go _ (by rw [if_pos c3,if_pos c2,if_pos c1,if_pos c0]; simp)⟩,fun c0=>go _ (by rw [if_pos c3,if_pos c2,if_pos c1,if_neg c0]; simp)⟩
     ·exact ⟨fun c0=>⟨room _ (by simp [hrl]),go _ (by rw [if_pos c3,if_pos c2,if_neg c1,if_pos c0]; simp)⟩,fun c0=>go _ (by rw [if_pos c3,if_pos c2,if_neg c1,if_neg c0]; simp)⟩
    ·refine ⟨fun c1=>⟨room _ (by simp [hrl]),?_⟩,fun c1=>?_⟩
     all_goals rw [al]
     ·exact ⟨fun c0=>⟨room _ (by simp [hrl]),go _ (by rw [if_pos c3,if_neg c2,if_pos c1,if_pos c0]; simp)⟩,fun c0=>go _ (by rw [if_pos c3,if_neg c2,if_pos c1,if_neg c0]; simp)⟩
     ·exact ⟨fun c0=>⟨room _ (by simp [hrl]),go _ (by rw [if_pos c3,if_neg c2,if_neg c1,if_pos c0]; simp)⟩,fun c0=>go _ (by rw [if_pos c3,if_neg c2,if_neg c1,if_neg c0]; simp)⟩
   ·refine ⟨fun c2=>⟨room _ (by simp [hrl]),?_⟩,fun c2=>?_⟩
    all_goals rw [al]
    ·refine ⟨fun c1=>⟨room _ (by simp [hrl]),?_⟩,fun c1=>?_⟩
     all_goals rw [al]
     ·exact ⟨fun c0=>⟨room _ (by simp [hrl]),go _ (by rw [if_neg c3,if_pos c2,if_pos c1,if_pos c0]; simp)⟩,fun c0=>go _ (by rw [if_neg c3,if_pos c2,if_pos c1,if_neg c0]; simp)⟩
     ·exact ⟨fun c0=>⟨room _ (by simp [hrl]),go _ (by rw [if_neg c3,if_pos c2,if_neg c1,if_pos c0]; simp)⟩,fun c0=>go _ (by rw [if_neg c3,if_pos c2,if_neg c1,if_neg c0]; simp)⟩
    ·refine ⟨fun c1=>⟨room _ (by simp [hrl]),?_⟩,fun c1=>?_⟩
     all_goals rw [al]
     ·exact ⟨fun c0=>⟨room _ (by simp [hrl]),go _ (by rw [if_neg c3,if_neg c2,if_pos c1,if_pos c0]; simp)⟩,fun c0=>go _ (by rw [if_neg c3,if_neg c2,if_pos c1,if_neg c0]; simp)⟩
     ·exact ⟨fun c0=>⟨room _ (by simp [hrl]),go _ (by rw [if_neg c3,if_neg c2,if_neg c1,if_pos c0]; simp)⟩,fun c0=>go _ (by rw [if_neg c3,if_neg c2,if_neg c1,if_neg c0]; simp)⟩
  have hcon:ll (List.drop (rd ns n 2).toNat (List.take (rd ns n 3).toNat ks)) i=hasB ns ks n i:=rfl;refine ⟨⟨z,ns.getD n [],xs,ts,rs,us,es,ks,ns,cs,i,rfl,rfl,hq,Nat.le_trans hks (by decide)⟩,?_⟩
  rw [show ((n:Nat):Int).toNat=n from rfl,hcon,aL]
  refine ⟨fun hno=>?_,fun hyes=>?_⟩
  ·have hno':hasB ns ks n i=false:=by simpa using hno
   refine ⟨z,xs,ts,rs,us,es,ks,ns,cs,n,i,⟨rfl,rfl,hw.1,hw.2.1,hw.2.2.1,hw.2.2.2,⟨by omega,by omega⟩,hi0,hi1⟩,?_⟩
   rw [hno'] at hlk;rw [dp];refine ⟨fun h0=>?_,fun hne=>?_⟩
   ·rw [if_neg (fun hh=>hh.2 h0)] at hlk
    rw [aL];refine ⟨fun hfb=>?_,fun hfb=>?_⟩
    ·rw [if_pos ⟨rfl,hfb⟩] at hlk;refine ⟨z,r,h,px,py,n,xs,ts,rs,us,es,ks,ns,cs,⟨rfl,rfl,hw,hr,hh,⟨hpx,hpy⟩,by omega,by rw [if_pos rfl]; omega⟩,?_⟩
     rw [ah];refine ⟨fun hne=>stop hne hlk,fun h1=>?_⟩
     rw [aL];refine ⟨fun _=>next (y5 hpx) (y4 hpy) ?_,fun hh=>?_⟩
     ·rw [show PR z r h xs ks ns cs i n (px,py)=_ from hlk]
      show ((_,_),Dl z r h xs cs n px py)=_;rw [h1]
     ·rw [hfb] at hh; cases hh
    ·have hfb':E4 z xs cs n i.toNat=false:=hfb;rw [if_neg (fun hh=>by have:=hh.2; rw [hfb'] at this; cases this)] at hlk
     rw [ah];refine ⟨fun hh=>absurd h0 hh,fun _=>?_⟩
     rw [aL];exact ⟨fun hh=>(by rw [hfb] at hh; cases hh),fun _=>kids hlk⟩
   ·rw [if_pos ⟨rfl,hne⟩] at hlk;rw [ah];exact ⟨fun _=>stop hne hlk,fun hh=>absurd hh hne⟩
  ·have hyes':hasB ns ks n i=true:=by simpa using hyes
   rw [hyes',if_neg (fun hh=>by cases hh.1),if_neg (fun hh=>by cases hh.1)] at hlk
   exact kids hlk
theorem PZ:KnowOk TP Yw 3:=by
 refine ⟨mixedOrders,fun g sp h=>np h,?_,UR,?_⟩
 ·intro d' _ f i S n0 hS;simp only [Yw] at hS;split at hS
  ·rename_i hf; subst hf;split at hS
   ·rename_i hi; subst hi; cases hS; exact lWk d' n0
   ·cases hS
  ·cases hS
 ·intro f hf;have:f=153:=Nat.eq_of_beq_eq_true hf;subst this;exact Go.Proofs.Re
theorem L4:cf TP bV Gwk:=by
 refine cL (N:=Yw) 3 PZ ?_;rintro args b K ⟨z,r,h,px,py,xs,ts,rs,us,es,ks,ns,cs,i,⟨rfl,rfl,hwk⟩,hK⟩;show bQ _ _ _ _ _ _ fun v b1=>ld 14 v b1 K
 rw [S9]; delta Maa Mab Mac Mae Maf Mag Mah Mai Maj Mak Mam Man Mao Map Maz MaG MaM MaO MaQ MaT MaW Ma1 Ma4 Mba Mbc Mbd Mbf MbH Mb8 Mch Mco Mcs Mcy Mdg MdI MfN Mgc Mjq;refine ⟨z,r,h,px,py,xs,ts,rs,us,es,ks,ns,cs,i,⟨hwk,rfl,rfl⟩,?_⟩;rw [ah];exact ⟨fun _=>hK,fun h0=>by rw [h0] at hK; exact hK⟩
end
def SM:FuncId->Option eG:=fun g=>if g=bV then some Gwk else none
theorem J0 (z:L1) (h:Int) (xs ts rs us es ks ns cs:L2) (i:Int) (K:IV->OB->Prop):(bQ TP { Γ:=gj,Λ:=fun _ _=>none,Τ:=SM } 3 fL [.ptr 0 0,.int .i64 i,fx h] (some (.var 149 (kA z 1 2 3 4 5 6 7 8)) :: y0 xs ts rs us es ks ns cs) fun v b1=>ld 9 v b1 K) =(∀a,MiJ a i xs (Mav a a (∃b:L1,∃c:L1,∃d:Int,∃e:Int,∃f:Int,∃g:L2,∃j:L2,∃k:L2,∃l:L2,∃m:L2,∃n:L2,∃o:L2,∃p:L2,∃q:Int,Se (MaO 0 (Maf i (MaB MiR []))) (Maz 149 (kA z 3 4 5 6 7 8 9 10) 165 (Mch 11 2 12 13 [] []) (Mcy 110 (MaO 0 []) aM xs (Man jt ts ie rs (Man MaQ us dE es (Man Mbd ks kQ ns (Mam fG cs (.var 79 (Mdq (Mar xs i 0) (Mar xs i 1) (Mar xs i 2) (Mar xs i 3) (Mar xs i 4) (Mar xs i 5) (Mar xs i 6) (Mar xs i 7) (Mar xs i 8) (Mar xs i 9) (Mar xs i 10) (Mar xs i 11) (Mar xs i 12) (Mar xs i 13) (Mar xs i 14) (Mar xs i 15) (Mar xs i 16) (Mar xs i 17) (Mar xs i 18) (Mar xs i 19) [])) (MdI h h 31 (Maj (Mar xs i 8) (Mar xs i 9) (Mar xs i 10) (Mar xs i 11) []) []))))))) b c d e f g j k l m n o p q/\K (.tup (Mc0 (Om b c d g n o p q e f) (Ol b c d g n o p q e f) (MaY (RE b c d g n o p q e f)))) (MjI b g j k l m n o p)))) :=by delta Maa Mab Mac Mae Maf Mag Mah Mai Maj Mam Man Mao Mar Mat Mav Maz MaB MaD MaO MaQ MaS MaT MaY Ma1 Mbd Mbk Mbo Mb8 Mch Mcy Mc0 Mdq MdI MiJ MiR MjI; refine nm ?_; kernel_rfl
def GP (z:L1) (h:Int) (xs ks ns cs:L2) (i:Int):Int:=RE z (xs.getD i.toNat []) h xs ks ns cs i (fr (xs.getD i.toNat []) 8) (fr (xs.getD i.toNat []) 10)
def Qc (z:L1) (h:Int) (xs ks ns cs:L2) (i:Int):Int:=Om z (xs.getD i.toNat []) h xs ks ns cs i (fr (xs.getD i.toNat []) 8) (fr (xs.getD i.toNat []) 10)
def Qb (z:L1) (h:Int) (xs ks ns cs:L2) (i:Int):Int:=Ol z (xs.getD i.toNat []) h xs ks ns cs i (fr (xs.getD i.toNat []) 8) (fr (xs.getD i.toNat []) 10)
def Xf (args:List IV) (b:OB) (z:L1) (h:Int) (xs ts rs us es ks ns cs:L2) (i:Int):Prop:=args=[.ptr 0 0,.int .i64 i,fx h]/\b=some (.var 149 (kA z 1 2 3 4 5 6 7 8)) :: y0 xs ts rs us es ks ns cs/\qc z xs ks ns cs/\ag h/\0<=i/\i < xs.length
def Gkd:eG:=fun args b K=>∃z h xs ts rs us es ks ns cs i,Xf args b z h xs ts rs us es ks ns cs i/\K (.tup [vx (Qc z h xs ks ns cs i) (Qb z h xs ks ns cs i),.int .i64 (GP z h xs ks ns cs i)]) b
def N9:FuncId->Option eG:=fun g=>if g=fL then some Gkd else none
def Zs (z:L1) (h:Int) (xs ts rs us es ks ns cs out:L2) (i:Int):St:=⟨T 42 [(3,.ptr 5 0),(6,.ptr 6 0),(8,.sl 7),(22,.int .i64 xs.length),(23,.int .i64 i)],acX xs ts rs us es++[some (.var 25 (fx h).cells),some (.var 149 (kA z 0 1 2 3 4 8 9 10)),some (.row 31 dm out),some (.ro [.u64,.i64] ks),some (.ro kQ ns),some (.ro fG cs)]⟩
theorem rKk (Λ:FuncId->Nat->Option aB) (d:Nat) (z:L1) (h:Int) (xs ts rs us es ks ns cs out:L2) (i:Int) (k:Out->St->Prop):(round (ai TP { Γ:=gj,Λ:=Λ,Τ:=N9 } d) dS 5 0 (lp TP dS 0) (Zs z h xs ts rs us es ks ns cs out i) k) =(Mcq i xs (∃a:L1,∃b:Int,∃c:L2,∃e:L2,∃f:L2,∃g:L2,∃j:L2,∃l:L2,∃m:L2,∃n:L2,∃o:Int,Mcs (Xf (MaO 0 (Maf i (Mbw h))) (MjI z xs ts rs us es ks ns cs) a b c e f g j l m n o) (GP a b c l m n o) (k .ret (MaM 42 (Mdj 4 5 5 (Maa (GP a b c l m n o)) []) (Mgw xs ts rs us (Mc6 dE es 31 dm [])))) (MgG out 1 32 (k .normal (MdX 42 3 5 (MfC 6 6 8 7 22 xs 23 (McR i) []) xs ts rs us es (MdI h h 149 (kA z 0 1 2 3 4 8 9 10) (Mag (MdK (MhA out 4 (Mjz (Qc a b c l m n o) (Qb a b c l m n o)))) (.ro Mbd ks) (Man kQ ns fG cs []))))))) (k MbI (Ma3 42 8 (.sl 5) [] (Mgw xs ts rs us (Mam dE es (MdK out) []))))) :=by kernel_rfl
def xL (z:L1) (h:Int) (xs ks ns cs:L2):Nat->Nat->L2->L2 × Int
 | 0,_,out=>(out,0)
 | m+1,i,out=>if GP z h xs ks ns cs i≠0 then ([],GP z h xs ks ns cs i) else xL z h xs ks ns cs m (i+1) (out++[cI (Qc z h xs ks ns cs i) (Qb z h xs ks ns cs i)])
def N5 (z:L1) (h:Int) (xs ks ns cs:L2):L2:=(xL z h xs ks ns cs xs.length 0 []).1
def IE (z:L1) (h:Int) (xs ks ns cs:L2):Int:=(xL z h xs ks ns cs xs.length 0 []).2
def Xe (n0:Nat) (st:St) (z:L1) (h:Int) (xs ts rs us es ks ns cs:L2):Prop:=(xs≠[]->qc z xs ks ns cs)/\ag h/\xs.length<=1000/\n0=5/\st=Zs z h xs ts rs us es ks ns cs [] 0
def n4:aB:=fun n0 st K=>∃z h xs ts rs us es ks ns cs,Xe n0 st z h xs ts rs us es ks ns cs/\br (IE z h xs ks ns cs != 0) (K .ret ⟨T 42 [(4,.sl 5),(5,.int .i64 (IE z h xs ks ns cs))],acX xs ts rs us es++[some (.row 31 dm [])]⟩) (K (.exit 0) ⟨T 42 [(8,.sl 5)],acX xs ts rs us es++[some (.row 31 dm (N5 z h xs ks ns cs))]⟩)
def ZE:Know:={ Γ:=gj,Λ:=fun f i=>if f=dS then (if i=0 then some n4 else none) else none,Τ:=N9 }
def MdD (a:L2):L2:=RS.bL (lE a)
theorem OL (z:L1) (xs ts rs us es:L2) (h:Int) (K:KP):(comes TP ZE 3 dS [.agg (af z 0 1 2 3 4),fx h] (aH xs ts rs us es) K) =(∀a,Mau a (xz (MdD xs) (lE xs) xs) (MbV (Za Me5 (MiV xs)) (RS.mj Me5 (Mdv Mbd (lE xs))) (EB (Mak 0 (Mak 1 (Mak 2 []))) (.ro kQ (MdD xs)::MaC Mbd (lE xs) aM xs [])) (McL a (K (MdA (MaY a)) (MfR 31)) (∃b:L1,∃c:Int,∃d:L2,∃e:L2,∃f:L2,∃g:L2,∃i:L2,∃j:L2,∃k:L2,∃l:L2,Mcs (Xe 5 (MdX 42 3 5 (MfC 6 6 8 7 22 xs 23 0 []) xs ts rs us es (MdI h h 149 (kA z 0 1 2 3 4 8 9 10) (MhZ 31 dm (lE xs) (Man kQ (MdD xs) fG (Dc (MdD xs) (lE xs) xs) [])))) b c d e f g i j k l) (IE b c d j k l) (K (MdA (MaY (IE b c d j k l))) (MfR 31)) (K (MdA MbD) (Mg2 (N5 b c d j k l))))))) :=by delta Maa Mab Mac Mae Maf Mag Mah Mai Mak Mam Man Mao Map Mat Mau Mav Maz MaC MaG MaM MaQ MaV MaW MaY Ma1 Ma3 Ma4 Mbd Mbl MbD MbR MbV Mcs Mct Mcu McL Mc3 Mdv MdA MdD MdI MdK MdX Me5 MfC MfR Mg2 MhZ MiV; refine nm ?_; kernel_rfl
def N4 (xs:L2):L2:=RS.bL (lE xs)
def SF (xs:L2):L2:=Dc (RS.bL (lE xs)) (lE xs) xs
def QI (xs:L2):Int:=xz (RS.bL (lE xs)) (lE xs) xs
def mJ (z:L1) (h:Int) (xs:L2):Int:=if QI xs≠0 then QI xs else IE z h xs (lE xs) (N4 xs) (SF xs)
def nG (z:L1) (h:Int) (xs:L2):L2:=if QI xs≠0 then [] else N5 z h xs (lE xs) (N4 xs) (SF xs)
def qj (l:List IV) (bs:List aq):Prop:=∃z xs ts rs us es h,l=[.agg (af z 0 1 2 3 4),fx h]/\bs=aH xs ts rs us es/\Ch z/\aY xs/\ag h/\xs.length<=1000
def zm:Vs.Spec:=⟨qj,fun l bs=>(.tup [.sl 0,.int .i64 (mJ (dv l 0) (v2 l 1) (aA bs 0))],[.row 31 dm (nG (dv l 0) (v2 l 1) (aA bs 0))])⟩
section
open Go.IntWalk
theorem P6:KnowOk TP { Γ:=gj,Λ:=fun _ _=>none,Τ:=SM } 3:=⟨mixedOrders,fun g sp h=>np h,cO (fun _ _=>rfl) 3,iB L4 (fun _ _ h=>Ir h),fun f h=>(by cases h)⟩
theorem EZ:cf TP fL Gkd:=by
 refine cL (N:={ Γ:=gj,Λ:=fun _ _=>none,Τ:=SM }) 3 P6 ?_
 rintro args b K ⟨z,h,xs,ts,rs,us,es,ks,ns,cs,i,⟨rfl,rfl,hw,hh,hi0,hi1⟩,hK⟩;show bQ _ _ _ _ _ _ fun v b1=>ld 9 v b1 K
 have hil:i.toNat < xs.length:=by omega
 have hgood:=hw.1.2.1 _ (getM hil);have okr:aI aM xs:=fun r hr=>(hw.1.2.1 r hr).2.1
 obtain ⟨hr20,hrB,m0,m4,m6,m8,m10⟩:=hgood;rw [J0]; delta Maa Mab Mac Mae Maf Mag Mah Mai Maj Mam Man Mao Mar Mat Mav Maz MaB MaD MaO MaQ MaS MaT MaY Ma1 Mbd Mbk Mbo Mb8 Mch Mcy Mc0 Mdq MdI MiJ MiR MjI;rintro t1 e1;have p1:t1:=by rw [e1]; exact ⟨hi0,hi1⟩
 refine ⟨p1,p1,z,xs.getD i.toNat [],h,fr (xs.getD i.toNat []) 8,fr (xs.getD i.toNat []) 10,xs,ts,rs,us,es,ks,ns,cs,i,⟨rfl,?_,hw,⟨hr20,hrB,m0,m4,m6,m8,m10⟩,hh,⟨m8,m10⟩,hi0,hi1⟩,hK⟩;have e8:(vx (fr (xs.getD i.toNat []) 8) (fr (xs.getD i.toNat []) 10)).cells=[.int .i64 (rd xs i.toNat 8),.int .u64 (rd xs i.toNat 9),.int .i64 (rd xs i.toNat 10),.int .u64 (rd xs i.toNat 11)]:=by
  have:=nv (a:=rd xs i.toNat 8) (b:=rd xs i.toNat 9) (c:=rd xs i.toNat 10) (d:=rd xs i.toNat 11) (cH okr _ 9 (by decide) rfl) (cH okr _ 11 (by decide) rfl)
  rw [uD xs i.toNat 8,uD xs i.toNat 10] at this;rw [← this]; rfl
 unfold rY;rw [e8]
 rfl
theorem US:∀ g G,N9 g=some G->cf TP g G:=iB EZ (fun _ _ h=>Ir h)
theorem Aj (z:L1) (h:Int) (xs ks ns cs:L2):∀ (m i:Nat) (out:L2),(xL z h xs ks ns cs m i out).2≠0->(xL z h xs ks ns cs m i out).1=[]
 | 0,i,out,he=>absurd rfl he
 | m+1,i,out,he=>by
  unfold xL at he ⊢;split
  ·rfl
  ·rename_i h1; rw [if_neg h1] at he; exact Aj z h xs ks ns cs m (i+1) _ he
theorem lKk (d n0:Nat):aG (ai TP ZE d) dS n0 0 (lp TP dS 0) n4:=by
 intro st K hst;obtain ⟨z,h,xs,ts,rs,us,es,ks,ns,cs,⟨hw,hh,hl,rfl,rfl⟩,hK⟩:=hst;rw [ah] at hK;refine aC (fun p:Nat × L2=>Zs z h xs ts rs us es ks ns cs p.2 p.1) (fun p=>p.1<=xs.length/\p.2.length=p.1/\xL z h xs ks ns cs (xs.length - p.1) p.1 p.2=xL z h xs ks ns cs xs.length 0 []) (fun p=>xs.length - p.1) ?_ (a:=(0,[])) ⟨Nat.zero_le _,rfl,rfl⟩
 rintro ⟨i,out⟩ ⟨hle,hol,hR⟩ k hn hk;simp only at hle hol hR;show round (ai TP { Γ:=gj,Λ:=_,Τ:=N9 } d) _ _ _ _ (Zs z h xs ts rs us es ks ns cs out i) k;rw [rKk]; delta Maa Mab Mac Mae Maf Mag Mah Mai Mal Mam Man Mao Map Mat Maw Maz MaA MaG MaM MaO MaQ MaU MaV MaW Ma1 Ma3 Ma4 Ma6 Mbd Mbl Mbp Mbv Mbw MbI Mb8 Mcq Mcs Mct Mcu McR Mc3 Mc6 Mdj MdI MdK MdX MfC Mgw MgG MhA Mjz MjI;rw [al];constructor
 ·intro hi;have hi':i < xs.length:=by omega
  have hw':=hw (by rintro rfl; simp at hi')
  refine ⟨z,h,xs,ts,rs,us,es,ks,ns,cs,i,⟨rfl,rfl,hw',hh,by omega,by omega⟩,?_⟩
  have hs:xL z h xs ks ns cs (xs.length - i) i out=if GP z h xs ks ns cs i≠0 then ([],GP z h xs ks ns cs i) else xL z h xs ks ns cs (xs.length - (i+1)) (i+1) (out++[cI (Qc z h xs ks ns cs i) (Qb z h xs ks ns cs i)]):=by
   rw [show xs.length - i=(xs.length - (i+1))+1 by omega]; rfl
  rw [hs] at hR;rw [ah];constructor
  ·intro hne;rw [if_pos hne] at hR;have hE:IE z h xs ks ns cs=GP z h xs ks ns cs i:=(congrArg Prod.snd hR).symm;rw [hE] at hK;exact hk _ _ (by simp) (hK.1 hne)
  ·intro h0;rw [if_neg (by simpa using h0)] at hR
   refine ⟨by omega,?_⟩
   rw [show IntKind.i64.wrap ((i:Int)+1)=((i+1:Nat):Int) by rw [i64_in _ (by omega)]; rfl]
   exact hn (i+1,out++[cI (Qc z h xs ks ns cs i) (Qb z h xs ks ns cs i)]) ⟨hi',by simp [hol],hR⟩ (by show xs.length - (i+1) < xs.length - i; omega)
 ·intro hi;have:i=xs.length:=by omega
  subst this;rw [Nat.sub_self] at hR;have hE:IE z h xs ks ns cs=0:=(congrArg Prod.snd hR).symm;have hL:N5 z h xs ks ns cs=out:=(congrArg Prod.fst hR).symm;rw [hE,hL] at hK;exact hk _ _ (by simp) (hK.2 rfl)
theorem P5:KnowOk TP ZE 3:=cP (f0:=dS) (L:=n4) (fun g sp h=>np h) rfl US lKk 3
theorem FM (n:Int):ag (qd n):=by
 unfold qd;have h1:0<=mx .i64 0 (mn .i64 n 32)/\mx .i64 0 (mn .i64 n 32)<=32:=by unfold mx mn; split <;> split <;> omega
 generalize mx .i64 0 (mn .i64 n 32)=e at h1;rw [i64_in (32 - e) (by omega)]
 obtain ⟨k,hk,hk2⟩:∃k:Nat,min (32 - e).toNat 64=k/\k<=32:=⟨_,rfl,by omega⟩
 rw [hk];have h2:(2:Int) ^ k<=2 ^ 32:=by
  have:=Nat.pow_le_pow_right (n:=2) (by decide) hk2
  exact_mod_cast this
 have h3:(0:Int) < 2 ^ k:=by
  have:=Nat.pow_pos (n:=k) (show 0 < 2 by decide)
  exact_mod_cast this
 have h4:(2:Int) ^ 32=4294967296:=by decide
 rw [i64_in _ (by omega)]
 unfold ag;omega
theorem Ui {x:Int} (h:ag x):bn (x / 18446744073709551616):=by unfold ag at h; unfold bn; omega
theorem Uh (x:Int):aj (x % 18446744073709551616):=by unfold aj; omega
theorem ND (xs:L2):ag (cM xs):=by unfold cM; split; exact jA 0 xs; exact bg
theorem Hq (w:Nat) (xs:L2):ag (Jv w xs):=by unfold Jv; split; exact vz _ _; exact bg
theorem NC (xs:L2):ag (cX xs):=by unfold cX; split; exact Hq _ _; exact bg
theorem NB (xs:L2):ag (cY xs):=by unfold cY; split; exact Hq _ _; exact bg
theorem MS {ns ks xs:L2} {r:L1} (h:r∈Dc ns ks xs):∃i,r=Fg ns ks xs i:=by
 unfold Dc at h;split at h
 ·unfold qR at h;rw [List.mem_map] at h;obtain ⟨i,_,rfl⟩:=h;exact ⟨i,rfl⟩
 ·cases h
theorem QH (ns ks xs:L2):Uj (Dc ns ks xs):=by
 intro r hr;obtain ⟨i,rfl⟩:=MS hr;refine ⟨?_,?_,?_,?_⟩
 ·rw [show fr (Fg ns ks xs i) 0=cM (CK ns ks xs i) from kS _]; exact ND _
 ·rw [show fr (Fg ns ks xs i) 2=cX (CK ns ks xs i) from kS _]; exact NC _
 ·rw [show fr (Fg ns ks xs i) 4=cY (CK ns ks xs i) from kS _]; exact NB _
 ·rw [show fr (Fg ns ks xs i) 6=qd (rd ns i 0) from kS _]; exact FM _
theorem oA {x:Int} (h:ag x):dt .i64 (x / 18446744073709551616):=by
 have h1:=Ui h;exact ⟨h1.1,by have:=h1.2; show x / 18446744073709551616<=9223372036854775807; omega⟩
theorem oz (x:Int):dt .u64 (x % 18446744073709551616):=by
 have h1:=Uh x;exact ⟨h1.1,by have:=h1.2; show x % 18446744073709551616<=18446744073709551615; omega⟩
theorem QG (ns ks xs:L2):aI fG (Dc ns ks xs):=by
 intro r hr j hj;obtain ⟨i,rfl⟩:=MS hr;match j,hj with
 | 0,_=>exact oA (ND _)
 | 1,_=>exact oz _
 | 2,_=>exact oA (NC _)
 | 3,_=>exact oz _
 | 4,_=>exact oA (NB _)
 | 5,_=>exact oz _
 | 6,_=>exact oA (FM _)
 | 7,_=>exact oz _
theorem Pv {xs:L2} (h:xs≠[]):0 < (N4 xs).length:=by
 have hne:lE xs≠[]:=by
  intro e;have:=tN xs;rw [e] at this;exact h (List.eq_nil_of_length_eq_zero this.symm)
 unfold N4;rw [RS.fZ hne (SH xs)];exact RS.Bk _ _ _ _ _ _ _
theorem RD {z:L1} {xs:L2} (hz:Ch z) (hg:aY xs) (hl:xs.length<=1000) (hne:xs≠[]) (hc:QI xs=0):qc z xs (lE xs) (N4 xs) (SF xs):=by
 refine ⟨⟨hz,hg,QH _ _ _,QG _ _ _⟩,O1 (SH xs) (Hk xs),NG xs,by rw [tN]; exact hl,Pv hne,?_⟩
 have hc':xz (RS.bL (lE xs)) (lE xs) xs=0:=hc;unfold SF N4 Dc;rw [if_pos hc',xn]
theorem mA {xs:L2} (h:aY xs):wT 20 xs:=fun r hr=>(h r hr).1
theorem yB {xs:L2} (h:aY xs):ja xs:=fun r hr=>⟨(h r hr).2.2.1,(h r hr).2.2.2.1,(h r hr).2.2.2.2.1⟩
theorem QY:aa TP dS zm:=by
 refine ab (N:=ZE) 3 P5 ?_;rintro l bs _ _ ⟨z,xs,ts,rs,us,es,h,rfl,rfl,hz,hg,hh,hl⟩;have hF:zm.F [.agg (af z 0 1 2 3 4),fx h] (aH xs ts rs us es)=(.tup [.sl 0,.int .i64 (mJ z h xs)],[.row 31 dm (nG z h xs)]):=by
  show (IV.tup [.sl 0,.int .i64 (mJ (dv _ 0) (v2 _ 1) xs)],[aq.row 31 dm (nG (dv _ 0) (v2 _ 1) xs)])=_;rw [dA _ z 0 1 2 3 4 hz.1.1.1 rfl,bc _ h 1 rfl]
 rw [hF,OL]; delta Maa Mab Mac Mae Maf Mag Mah Mai Mak Mam Man Mao Map Mat Mau Mav Maz MaC MaG MaM MaQ MaV MaW MaY Ma1 Ma3 Ma4 Mbd Mbl MbD MbR MbV Mcs Mct Mcu McL Mc3 Mdv MdA MdD MdI MdK MdX Me5 MfC MfR Mg2 MhZ MiV;rintro t1 e1;refine ⟨⟨_,rfl,rfl,mA hg,hl⟩,Ho hl,Hf (mA hg) (yB hg) hl,?_⟩;have e1':t1=QI xs:=e1;rw [ah];refine ⟨fun hne=>?_,fun h0=>?_⟩
 ·unfold mJ nG;rw [if_pos (by rw [← e1']; exact hne),if_pos (by rw [← e1']; exact hne),e1']
 ·refine ⟨z,h,xs,ts,rs,us,es,lE xs,N4 xs,SF xs,⟨fun hne=>RD hz hg hl hne (by rw [← e1']; exact h0),hh,hl,rfl,rfl⟩,?_⟩
  unfold mJ nG;rw [if_neg (by rw [← e1']; simpa using h0),if_neg (by rw [← e1']; simpa using h0),ah]
  refine ⟨fun hne=>?_,fun h1=>by rw [h1]⟩
  rw [show N5 z h xs (lE xs) (N4 xs) (SF xs)=[] from Aj _ _ _ _ _ _ _ _ _ hne]
end
def Vz:Know:={ Γ:=fun _=>none,Λ:=fun _ _=>none,Τ:=fun _=>none }
abbrev Mgv (a:Nat)(b:L2)(c:Nat)(d:Prop):Prop:=Ma6 ((a+List.length b)*c)/\d
def Mg7 (a:Nat)(b:L2):L2:=List.replicate 0 (List.replicate a 0)++b
abbrev MhG (a:Bool)(b:Prop)(c:Bool)(d e:Prop):Prop:=(a=Bool.true->b)->br c d e
theorem Wn (xs:L2) (K:KP):(comes TP Vz 1 cB [.sl 0] [.ro aM xs] K) =(∀a,MhG a (xs=[]) a (K Mb5 (MbR 79 aM [])) (Mgv 0 xs 160 (K Mb5 [Mc2 (Mg7 20 xs)]))) :=by kernel_rfl
theorem Wi (xs:L2) (K:KP):(comes TP Vz 1 aex [.sl 0] [.ro jt xs] K) =(∀a,MhG a (xs=[]) a (K Mb5 (MbR 99 jt [])) (Mgv 0 xs 48 (K Mb5 (Mhz 99 jt (Mg7 6 xs))))) :=by kernel_rfl
theorem Wj (xs:L2) (K:KP):(comes TP Vz 1 cA [.sl 0] [.ro ie xs] K) =(∀a,MhG a (xs=[]) a (K Mb5 (MbR 101 ie [])) (Mgv 0 xs 80 (K Mb5 (Mhz 101 ie (Mg7 10 xs))))) :=by kernel_rfl
theorem Wl (xs:L2) (K:KP):(comes TP Vz 1 eM [.sl 0] [.ro [.i64] xs] K) =(∀a,MhG a (xs=[]) a (K Mb5 (MbR 3 MaQ [])) (Mgv 0 xs 8 (K Mb5 (Mhz 3 MaQ (Mg7 1 xs))))) :=by kernel_rfl
theorem Wm (xs:L2) (K:KP):(comes TP Vz 1 afu [.sl 0] [.ro dE xs] K) =(∀a,MhG a (xs=[]) a (K Mb5 (MbR 103 dE [])) (Mgv 0 xs 32 (K Mb5 (Mhz 103 dE (Mg7 4 xs))))) :=by kernel_rfl
def zW (ks:List IntKind) (l:List IV) (bs:List aq):Prop:=∃xs,l=[.sl 0]/\bs=[.ro ks xs]/\xs.length<=1000000
def KA:Vs.Spec:=⟨zW aM,fun _ bs=>(.sl 0,[.row 79 aM (aA bs 0)])⟩
def nT (ks:List IntKind):Vs.Spec:=⟨zW ks,fun _ bs=>(.sl 0,[.ro ks (aA bs 0)])⟩
def Od:FuncId->Option Vs.Spec:=fun g=>if g=dS then some zm else gj g
def MbX (a:L1):Int:=Mad a 10
def MbY (a:L1):Int:=Mad a 12
def MbZ (a:L1):Int:=Mad a 13
def Mb0 (a:L1):Int:=Mad a 14
def Mb1 (a:L1):Int:=Mad a 15
def Mb2 (a:L1):Int:=Mad a 16
def Mb3 (a:L1):Int:=Mad a 17
def Mb4 (a:L1):Int:=Mad a 18
def Mb9 (a:L1):Int:=Mad a 0
def Mca (a:L1):Int:=Mad a 1
def Mcb (a:L1):Int:=Mad a 2
def Mcv (a b c d e f g h i j k l m n o p q r s:Int)(t:List IV):List IV:=MaB (MaR a b c d e f g h i j k l m 0 1 2 3 n o p q r s 4 []) t
def McI (a:L1):Int:=Mad a 9
def McK (a b c d e f g h i j k l m n o p q r s t:Int):List IV:=Mcv a b c d e f g h i j k l m n o p q r s (Mbw t)
abbrev Mev (a:List IV)(b c d e f:L2)(g:List aq):Prop:=qj a (MbJ aM b c d e f g)
def Mi3 (a:L1)(b c:Int):List IV:=McK (Mb9 a) (Mca a) (Mcb a) (Mcj a) (Mce a) (Mcf a) (Mcg a) (Mck a) (McE a) (McI a) (MbX a) b (MbY a) (MbZ a) (Mb0 a) (Mb1 a) (Mb2 a) (Mb3 a) (Mb4 a) c
def Mjd (a:L1)(b c:Int):L1:=dv (McK (Mb9 a) (Mca a) (Mcb a) (Mcj a) (Mce a) (Mcf a) (Mcg a) (Mck a) (McE a) (McI a) (MbX a) b (MbY a) (MbZ a) (Mb0 a) (Mb1 a) (Mb2 a) (Mb3 a) (Mb4 a) c) 0
theorem OW (z:L1) (xs ts rs us es:L2) (h:Int) (K:KP):(comes TP { Γ:=Od,Λ:=fun _ _=>none,Τ:=fun _=>none } 3 oK [.agg (af z 0 1 2 3 4),fx h] (aH xs ts rs us es) K) =(∀a,Mau a h (∀b,MdC b z (Mcm b 0 (Gr (Mi3 z b h) (Mfl xs ts rs us es)/\K (MdA (MaY (tK (Mjd z b h) a xs))) (Mg2 (tJ (Mjd z b h) a xs))) (Mev (Mi3 z b h) xs ts rs us es []/\K (MdA (MaY (mJ (Mjd z b h) a xs))) (Mg2 (nG (Mjd z b h) a xs)))))) :=by delta Maa Mab Mad Maf Mai Maj Mak Mau Max MaB MaC MaD MaN MaP MaQ MaR MaY Mbw Mbx MbJ MbX MbY MbZ Mb0 Mb1 Mb2 Mb3 Mb4 Mb9 Mca Mcb Mce Mcf Mcg Mcj Mck Mcm Mcv McE McI McK MdA MdC MdK Mev Mfl Mg2 Mi3 Mjd; refine nj ?_; refine nm ?_; kernel_rfl
def nK (z:L1) (h:Int) (xs:L2):Int:=if z.getD 11 0=0 then tK z h xs else mJ z h xs
def AW (z:L1) (h:Int) (xs:L2):L2:=if z.getD 11 0=0 then tJ z h xs else nG z h xs
def zE:Vs.Spec:=⟨qj,fun l bs=>(.tup [.sl 0,.int .i64 (nK (dv l 0) (v2 l 1) (aA bs 0))],[.row 31 dm (AW (dv l 0) (v2 l 1) (aA bs 0))])⟩
def yU:FuncId->Option Vs.Spec:=fun g=>if g=dn then some D6 else if g=bF then some zw else if g=oK then some zE else if g=cB then some KA else if g=aex then some (nT jt) else if g=cA then some (nT ie) else if g=eM then some (nT [.i64]) else if g=afu then some (nT dE) else Od g
def tU (a b c d e:Nat):List IV:=[.int .i64 0,.int .i64 0,.int .u64 0,.int .i64 0,.int .u64 0,.int .i64 0,.int .u64 0,.int .i64 0,.int .u64 0,.int .i64 0,.int .u64 0,.int .i64 0,.int .i64 0,.sl a,.sl b,.sl c,.sl d,.int .i64 0,.int .u64 0,.int .i64 0,.int .u64 0,.int .i64 0,.int .u64 0,.sl e]
def ig:OB:=[some (.row 79 aM []),some (.row 99 jt []),some (.row 101 ie []),some (.row 3 [.i64] []),some (.row 103 dE [])]
def rq (r p:L1):L1:=[r.getD 0 0,r.getD 1 0,r.getD 2 0,r.getD 3 0,r.getD 4 0,r.getD 5 0,r.getD 6 0,r.getD 7 0,p.getD 0 0,p.getD 1 0,p.getD 2 0,p.getD 3 0,r.getD 12 0,r.getD 13 0,r.getD 14 0,r.getD 15 0,r.getD 16 0,r.getD 17 0,r.getD 18 0,r.getD 19 0]
def pO (r p:L1):L1:=[r.getD 0 0,r.getD 1 0,r.getD 2 0,r.getD 3 0,p.getD 0 0,p.getD 1 0,p.getD 2 0,p.getD 3 0,r.getD 8 0,r.getD 9 0,r.getD 10 0,r.getD 11 0,r.getD 12 0,r.getD 13 0,r.getD 14 0,r.getD 15 0,r.getD 16 0,r.getD 17 0,r.getD 18 0,r.getD 19 0]
def agv (f:L1->L1->L1) (xs ls:L2) (n:Nat):L2:=(List.range xs.length).map fun j=>if j < n then f (xs.getD j []) (ls.getD j []) else xs.getD j []
def age (f:L1->L1->L1) (xs ls:L2):L2:=agv f xs ls xs.length
def Yq (z:L1) (xs ts rs us es ls bd:L2) (i:Int):St:=⟨T 39 [(2,.ptr 5 0),(4,.ptr 6 0),(24,.sl 7),(25,.int .i64 ls.length),(26,.int .i64 i)],acX xs ts rs us es++[some (.var 34 (af z 8 1 2 3 4)),some (.var 34 (tU 9 10 11 12 13)),some (.row 31 dm ls),some (.row 79 aM bd)]++ig⟩
def Mci (a:L1):Int:=Mad a 11
def Md8 (a b c d e:L2)(f:OB):OB:=MaV aM a (Man jt b ie c (Man MaQ d dE e f))
def Meb (a b c d e f g h i j k l m:L1)(n o p q:Nat)(r s t u v w:L1)(x:Nat):List IV:=Mcd (Mb9 a) (Mca b) (Mcb c) (Mcj d) (Mce e) (Mcf f) (Mcg g) (Mck h) (McE i) (McI j) (MbX k) (Mci l) (MbY m) n o p q (MbZ r) (Mb0 s) (Mb1 t) (Mb2 u) (Mb3 v) (Mb4 w) x
def MfJ (a b c d e f g h i j k l m:L1)(n o p q:Nat)(r s t u v w:L1)(x y:Nat)(z:List IV)(a1:OB):OB:=Mdl (Mb9 a) (Mca b) (Mcb c) (Mcj d) (Mce e) (Mcf f) (Mcg g) (Mck h) (McE i) (McI j) (MbX k) (Mci l) (MbY m) n o p q (MbZ r) (Mb0 s) (Mb1 t) (Mb2 u) (Mb3 v) (Mb4 w) x y z a1
def MgN (a:Nat->Int):L1:=List.map a (List.range 20)
def Mg9 (a b c d:Nat)(e:L1)(f g:Nat)(h:L1)(i:Nat):Int:=if a<=b/\c < d then Mad e (f - g) else Mad h i
def Mhi (a:L2):OB:=Mbe (Mc2 a) 79 aM (MdG 3 [])
def Mhx (a b c d e f g h i j k l m:Int)(n o p q:Nat)(r s t u v w:Int)(x y:Nat)(z:List IntKind)(a1:L2)(b1:OB):OB:=Mba 34 (Mcd a b c d e f g h i j k l m n o p q r s t u v w x) y z a1 b1
def Mi0 (a:L1):List IV:=Meb a a a a a a a a a a a a a 8 1 2 3 a a a a a a 4
def Mjf (a:L2)(b:Int):L1:=MfA a b 0 a b 1 a b 2 a b 3 []
def MjL (a:L2)(b:OB):OB:=Mhx 0 0 0 0 0 0 0 0 0 0 0 0 0 9 10 11 12 0 0 0 0 0 0 13 31 dm a b
theorem rKl (Λ:FuncId->Nat->Option aB) (d:Nat) (z:L1) (xs ts rs us es ls bd:L2) (i:Int) (k:Out->St->Prop):(round (ai TP { Γ:=yU,Λ:=Λ,Τ:=fun _=>none } d) dr 5 0 (lp TP dr 0) (Yq z xs ts rs us es ls bd i) k) =(∀a,MiJ a i ls (∀b,Me9 b i i bd i ls a a b b (k .normal (Mc9 39 2 5 (MfC 4 6 24 7 25 ls 26 (McR i) []) xs ts rs us es 34 (Mi0 z) (MjL ls (Mhi (Mbu bd i (fun c=>MgN (fun e=>Mg9 8 e e 12 (Mjf ls i) e 8 c e))))))) (k MbI (Mcx 39 2 5 4 6 [] (Md8 xs ts rs us es (MfJ z z z z z z z z z z z z z 7 1 2 3 z z z z z z 4 34 (Mio 0 0 0 0 0 0 0 0 0 0 0 0 0 8 9 0 0 0 0 0 0) (Mhi bd))))))) :=by delta Maa Mab Mac Mad Maf Mag Mai Maj Mak Mal Mam Man Mao Map Mar Mat Mav Maw Maz MaA MaD MaE MaG MaM MaN MaP MaQ MaR MaS MaV Ma3 Ma4 Mba Mbe Mbk Mbl Mbn Mbo Mbp Mbs Mbu Mbv MbI MbU MbX MbY MbZ Mb0 Mb1 Mb2 Mb3 Mb4 Mb9 Mca Mcb Mcd Mce Mcf Mcg Mci Mcj Mck Mcq Mcu Mcx McE McI McR Mc2 Mc9 Mdl Mdp MdG Md8 Meb Me9 MfA MfC MfJ MgN Mg9 Mhi Mhx Mio MiJ Mi0 Mjf MjL; refine nm ?_; refine nm ?_; kernel_rfl
def pKl (n0:Nat) (st:St) (z:L1) (xs ts rs us es ls:L2):Prop:=ls.length=xs.length/\xs.length<=1000000/\wT 20 xs/\n0=5/\st=Yq z xs ts rs us es ls xs 0
def Lkl:aB:=fun n0 st K=>∃z xs ts rs us es ls,pKl n0 st z xs ts rs us es ls/\K (.exit 0) ⟨T 39 [(2,.ptr 5 0),(4,.ptr 6 0)],acX xs ts rs us es++[some (.var 34 (af z 7 1 2 3 4)),some (.var 34 (tU 8 9 10 11 12)),some (.row 79 aM (age rq xs ls))]++ig⟩
def Yo (z:L1) (xs ts rs us es ls bd:L2) (i:Int):St:=⟨T 40 [(2,.ptr 5 0),(4,.ptr 6 0),(25,.sl 7),(26,.int .i64 ls.length),(27,.int .i64 i)],acX xs ts rs us es++[some (.var 34 (af z 8 1 2 3 4)),some (.var 34 (tU 9 10 11 12 13)),some (.row 31 dm ls),some (.row 79 aM bd)]++ig⟩
def MjE (a:Nat)(b c:L1):Int:=Mg9 4 a a 8 b a 4 c a
theorem rMl (Λ:FuncId->Nat->Option aB) (d:Nat) (z:L1) (xs ts rs us es ls bd:L2) (i:Int) (k:Out->St->Prop):(round (ai TP { Γ:=yU,Λ:=Λ,Τ:=fun _=>none } d) dT 5 0 (lp TP dT 0) (Yo z xs ts rs us es ls bd i) k) =(∀a,MiJ a i ls (∀b,Me9 b i i bd i ls a a b b (k .normal (Mc9 40 2 5 (MfC 4 6 25 7 26 ls 27 (McR i) []) xs ts rs us es 34 (Mi0 z) (MjL ls (Mhi (Mbu bd i (fun c=>MgN (fun e=>MjE e (Mjf ls i) c))))))) (k MbI (Mcx 40 2 5 4 6 [] (Md8 xs ts rs us es (MfJ z z z z z z z z z z z z z 7 1 2 3 z z z z z z 4 34 (Mio 0 0 0 0 0 0 0 0 0 0 0 0 0 8 9 0 0 0 0 0 0) (Mhi bd))))))) :=by delta Maa Mab Mac Mad Maf Mag Mai Maj Mak Mal Mam Man Mao Map Mar Mat Mav Maw Maz MaA MaD MaE MaG MaM MaN MaP MaQ MaR MaS MaV Ma3 Ma4 Mba Mbe Mbk Mbl Mbn Mbo Mbp Mbs Mbu Mbv MbI MbU MbX MbY MbZ Mb0 Mb1 Mb2 Mb3 Mb4 Mb9 Mca Mcb Mcd Mce Mcf Mcg Mci Mcj Mck Mcq Mcu Mcx McE McI McR Mc2 Mc9 Mdl Mdp MdG Md8 Meb Me9 MfA MfC MfJ MgN Mg9 Mhi Mhx Mio MiJ Mi0 Mjf MjE MjL; refine nm ?_; refine nm ?_; kernel_rfl
def pMl (n0:Nat) (st:St) (z:L1) (xs ts rs us es ls:L2):Prop:=ls.length=xs.length/\xs.length<=1000000/\wT 20 xs/\n0=5/\st=Yo z xs ts rs us es ls xs 0
def Lml:aB:=fun n0 st K=>∃z xs ts rs us es ls,pMl n0 st z xs ts rs us es ls/\K (.exit 0) ⟨T 40 [(2,.ptr 5 0),(4,.ptr 6 0)],acX xs ts rs us es++[some (.var 34 (af z 7 1 2 3 4)),some (.var 34 (tU 8 9 10 11 12)),some (.row 79 aM (age pO xs ls))]++ig⟩
def gx (xs:L2) (i:Int):St:=⟨T 26 [(7,.sl 0),(8,.int .i64 xs.length),(9,.int .i64 i)],[some (.ro aM xs)]⟩
theorem rSl (Λ:FuncId->Nat->Option aB) (d:Nat) (xs:L2) (i:Int) (k:Out->St->Prop):(round (ai TP { Γ:=yU,Λ:=Λ,Τ:=fun _=>none } d) eI 1 0 (lp TP eI 0) (gx xs i) k) =(∀a,MiJ a i xs (∀b,Mau b (iW (Mh9 xs i [])) (Mcq i xs (MiZ a (pB (McG aM xs i 0 20 []) []) b (k .ret (Mct 26 2 (Maa b) [] xs [])) (Mbm (agd (Mh9 xs i [])) (k .ret (Mct 26 2 (Maa 6) [] xs [])) (k .normal (Mct 26 7 Mb5 (Map 8 (Mcu xs) 9 (Met i) []) xs [])))) (k MbI (MeU 26 [] xs []))))) :=by delta Maa Mac Mal Map Mat Mau Mav MaA MaB MaM MaS MaV MaW Ma3 Mbk Mbm Mbo Mbp Mbv MbI MbV Mb5 Mcq Mct Mcu McG McL Met MeU Mh9 MiJ MiZ; refine nm ?_; refine nm ?_; kernel_rfl
def kF:L2->Int
 | []=>0
 | r :: l=>if iW r≠0 then iW r else if agd r=true then kF l else 6
def Rm (n0:Nat) (st:St) (xs:L2):Prop:=aY xs/\xs.length<=1000000/\n0=1/\st=gx xs 0
def Lsl:aB:=fun n0 st K=>∃xs,Rm n0 st xs/\br (kF xs != 0) (K .ret ⟨T 26 [(2,.int .i64 (kF xs))],[some (.ro aM xs)]⟩) (K (.exit 0) ⟨T 26 [],[some (.ro aM xs)]⟩)
def Ru:Know:={ Γ:=yU,Λ:=fun f i=>if f=dr then (if i=0 then some Lkl else none) else if f=dT then (if i=0 then some Lml else none) else if f=eI then (if i=0 then some Lsl else none) else none,Τ:=fun _=>none }
theorem Te (xs:L2) (K:KP):(comes TP Ru 3 eI [.sl 0] [.ro aM xs] K) =(∃a:L2,Mcs (Rm 1 (Mct 26 7 Mb5 (Map 8 (Mcu xs) 9 Mdg []) xs []) a) (kF a) (K (Maa (kF a)) []) (K Mdg [])) :=by kernel_rfl
def McT (a b c d e f g h i j k l m n o p q r s:Int)(t:List IV):IV:=.tup (Mcv a b c d e f g h i j k l m n o p q r s t)
def Mf0 (a b c d e:L2)(f:List aq):List aq:=Mc2 a::Mbx b c d dE e f
abbrev Mgo (a:Int)(b:L1)(c:Int)(d:L2)(e:Prop):Prop:=Mau a (nK b c d) e
theorem H4 (z:L1) (xs ts rs us es:L2) (h:Int) (K:KP):(comes TP Ru 3 dr [.agg (af z 0 1 2 3 4),fx h] (aH xs ts rs us es) K) =(∀a,Mau a h (∀b,Mgo b (Mjd z (Mci z) h) a xs (Mcs (Mev (Mi3 z (Mci z) h) xs ts rs us es []) b (K (McT (Mb9 z) (Mca z) (Mcb z) (Mcj z) (Mce z) (Mcf z) (Mcg z) (Mck z) (McE z) (McI z) (MbX z) (Mci z) (MbY z) (MbZ z) (Mb0 z) (Mb1 z) (Mb2 z) (Mb3 z) (Mb4 z) (MaY b)) (Mfl xs ts rs us es)) (zW aM Me5 (MiV xs)/\(∃c:L1,∃d:L2,∃e:L2,∃f:L2,∃g:L2,∃i:L2,∃j:L2,pKl 5 (Mc9 39 2 5 (MfC 4 6 24 7 25 (AW (Mjd z (Mci z) h) a xs) 26 0 []) xs ts rs us es 34 (Mi0 z) (MjL (AW (Mjd z (Mci z) h) a xs) (Mhi xs))) c d e f g i j/\K (McT (Mb9 c) (Mca c) (Mcb c) (Mcj c) (Mce c) (Mcf c) (Mcg c) (Mck c) (McE c) (McI c) (MbX c) (Mci c) (MbY c) (MbZ c) (Mb0 c) (Mb1 c) (Mb2 c) (Mb3 c) (Mb4 c) MbD) (Mf0 (age rq d j) e f g i [])))))) :=by delta Maa Mab Mac Mad Maf Mag Mai Maj Mak Mam Man Mao Map Mat Mau MaB MaC MaD MaG MaM MaN MaP MaQ MaR MaW MaY Ma3 Ma4 Mba Mbe Mbl Mbn Mbw Mbx MbD MbJ MbX MbY MbZ Mb0 Mb1 Mb2 Mb3 Mb4 Mb9 Mca Mcb Mcd Mce Mcf Mcg Mci Mcj Mck Mcs Mcu Mcv McE McI McK McT Mc2 Mc9 Mdv MdG Meb Mev Me5 Mfl MfC Mf0 Mgo Mhi Mhx MiV Mi0 Mi3 Mjd MjL; refine nj ?_; refine nm ?_; kernel_rfl
theorem J7 (z:L1) (xs ts rs us es:L2) (h:Int) (K:KP):(comes TP Ru 3 dT [.agg (af z 0 1 2 3 4),fx h] (aH xs ts rs us es) K) =(∀a,Mau a h (∀b,Mau b (eD a xs) (Mcs (Gq (Mak 0 (Mbw h)) (MiV xs)) b (K (McT (Mb9 z) (Mca z) (Mcb z) (Mcj z) (Mce z) (Mcf z) (Mcg z) (Mck z) (McE z) (McI z) (MbX z) (Mci z) (MbY z) (MbZ z) (Mb0 z) (Mb1 z) (Mb2 z) (Mb3 z) (Mb4 z) (MaY b)) (Mfl xs ts rs us es)) (zW aM Me5 (MiV xs)/\(∃c:L1,∃d:L2,∃e:L2,∃f:L2,∃g:L2,∃i:L2,∃j:L2,pMl 5 (Mc9 40 2 5 (MfC 4 6 25 7 26 (lh a xs) 27 0 []) xs ts rs us es 34 (Mi0 z) (MjL (lh a xs) (Mhi xs))) c d e f g i j/\K (McT (Mb9 c) (Mca c) (Mcb c) (Mcj c) (Mce c) (Mcf c) (Mcg c) (Mck c) (McE c) (McI c) (MbX c) (Mci c) (MbY c) (MbZ c) (Mb0 c) (Mb1 c) (Mb2 c) (Mb3 c) (Mb4 c) MbD) (Mf0 (age pO d j) e f g i [])))))) :=by delta Maa Mab Mac Mad Maf Mag Mai Maj Mak Mam Man Mao Map Mat Mau MaB MaC MaD MaG MaM MaN MaP MaQ MaR MaW MaY Ma3 Ma4 Mba Mbe Mbl Mbn Mbw Mbx MbD MbJ MbX MbY MbZ Mb0 Mb1 Mb2 Mb3 Mb4 Mb9 Mca Mcb Mcd Mce Mcf Mcg Mci Mcj Mck Mcs Mcu Mcv McE McI McT Mc2 Mc9 Mdv MdG Meb Me5 Mfl MfC Mf0 Mhi Mhx MiV Mi0 MjL; refine nj ?_; refine nm ?_; kernel_rfl
def Mi1 (a:L1):List IV:=Meb a a a a a a a a a a a a a 0 1 2 3 a a a a a a 4
theorem Wd (z:L1) (xs ts rs us es:L2) (K:KP):(comes TP Ru 3 qI [.agg (af z 0 1 2 3 4)] (aH xs ts rs us es) K) =(Mda (zW aM Me5 (MiV xs)) (zW jt Me5 (Mdv jt ts)) (zW ie Me5 (Mdv ie rs)) (zW MaQ Me5 (Mfg us)) (zW dE Me5 (Mdv dE es)) (K (.agg (Mi1 z)) (Mf0 xs ts rs us es []))) :=by kernel_rfl
def eF (z:L1) (h:Int) (xs:L2):L2:=if nK z h xs≠0 then xs else age rq xs (AW z h xs)
def lj (h:Int) (xs:L2):L2:=if eD h xs≠0 then xs else age pO xs (lh h xs)
def zI (ts rs us es:L2):Prop:=ts.length<=1000000/\rs.length<=1000000/\us.length<=1000000/\es.length<=1000000
def K5 (l:List IV) (bs:List aq):Prop:=∃z xs ts rs us es,l=[.agg (af z 0 1 2 3 4)]/\bs=aH xs ts rs us es/\KH z/\xs.length<=1000000/\zI ts rs us es
def y3 (z:L1):IV:=.agg (af z 0 1 2 3 4)
def du (l:List IV):L1:=[ae l 0 0,ae l 0 1,ae l 0 2,ae l 0 3,ae l 0 4,ae l 0 5,ae l 0 6,ae l 0 7,ae l 0 8,ae l 0 9,ae l 0 10,ae l 0 11,ae l 0 12,ae l 0 17,ae l 0 18,ae l 0 19,ae l 0 20,ae l 0 21,ae l 0 22]
def RC (l:List IV):IV:=.agg [.int .i64 (ae l 0 0),.int .i64 (ae l 0 1),.int .u64 (ae l 0 2),.int .i64 (ae l 0 3),.int .u64 (ae l 0 4),.int .i64 (ae l 0 5),.int .u64 (ae l 0 6),.int .i64 (ae l 0 7),.int .u64 (ae l 0 8),.int .i64 (ae l 0 9),.int .u64 (ae l 0 10),.int .i64 (ae l 0 11),.int .i64 (ae l 0 12),.sl 0,.sl 1,.sl 2,.sl 3,.int .i64 (ae l 0 17),.int .u64 (ae l 0 18),.int .i64 (ae l 0 19),.int .u64 (ae l 0 20),.int .i64 (ae l 0 21),.int .u64 (ae l 0 22),.sl 4]
def Kv:Vs.Spec:=⟨qj,fun l bs=>(.tup [RC l,.int .i64 (nK (du l) (v2 l 1) (aA bs 0))],aH (eF (du l) (v2 l 1) (aA bs 0)) (aA bs 1) (aA bs 2) (aA bs 3) (aA bs 4))⟩
def Xb (l:List IV) (bs:List aq):Prop:=∃z xs ts rs us es h,l=[.agg (af z 0 1 2 3 4),fx h]/\bs=aH xs ts rs us es/\KH z/\aY xs/\ag h/\xs.length<=1000
def Kr:Vs.Spec:=⟨Xb,fun l bs=>(.tup [RC l,.int .i64 (eD (v2 l 1) (aA bs 0))],aH (lj (v2 l 1) (aA bs 0)) (aA bs 1) (aA bs 2) (aA bs 3) (aA bs 4))⟩
def K3 (l:List IV) (bs:List aq):Prop:=∃xs,l=[.sl 0]/\bs=[.ro aM xs]/\aY xs/\xs.length<=1000000
def RR:Vs.Spec:=⟨K3,fun _ bs=>(.int .i64 (kF (aA bs 0)),[])⟩
def Kq:Vs.Spec:=⟨K5,fun l bs=>(RC l,aH (aA bs 0) (aA bs 1) (aA bs 2) (aA bs 3) (aA bs 4))⟩
section
open Go.IntWalk
theorem r7:KnowOk TP Vz 1:=⟨mixedOrders,fun g sp h=>(by cases h),cO (N:=Vz) (fun _ _=>rfl) 1,fun g G h=>(by cases h),fun f h=>(by cases h)⟩
theorem X4:aa TP cB KA:=by
 refine ab 1 r7 ?_;rintro l bs _ _ ⟨xs,rfl,rfl,hl⟩;rw [Wn]; delta Ma6 MbR Mb5 Mc2 Mgv Mg7 MhG;intro q hq;rw [aL];exact ⟨fun h=>by rw [hq h]; rfl,fun _=>⟨by omega,rfl⟩⟩
theorem X0:aa TP aex (nT jt):=by
 refine afC 1 r7 ?_;rintro l bs _ _ ⟨xs,rfl,rfl,hl⟩;rw [Wi]; delta Ma6 MbR Mb5 Mgv Mg7 Mhz MhG;intro q hq;rw [aL];exact ⟨fun h=>by rw [hq h]; rfl,fun _=>⟨by omega,rfl⟩⟩
theorem X1:aa TP cA (nT ie):=by
 refine afC 1 r7 ?_;rintro l bs _ _ ⟨xs,rfl,rfl,hl⟩;rw [Wj]; delta Ma6 MbR Mb5 Mgv Mg7 Mhz MhG;intro q hq;rw [aL];exact ⟨fun h=>by rw [hq h]; rfl,fun _=>⟨by omega,rfl⟩⟩
theorem X2:aa TP eM (nT [.i64]):=by
 refine afC 1 r7 ?_;rintro l bs _ _ ⟨xs,rfl,rfl,hl⟩;rw [Wl]; delta MaQ Ma6 MbR Mb5 Mgv Mg7 Mhz MhG;intro q hq;rw [aL];exact ⟨fun h=>by rw [hq h]; rfl,fun _=>⟨by omega,rfl⟩⟩
theorem X3:aa TP afu (nT dE):=by
 refine afC 1 r7 ?_;rintro l bs _ _ ⟨xs,rfl,rfl,hl⟩;rw [Wm]; delta Ma6 MbR Mb5 Mgv Mg7 Mhz MhG;intro q hq;rw [aL];exact ⟨fun h=>by rw [hq h]; rfl,fun _=>⟨by omega,rfl⟩⟩
theorem My:∀ {g:FuncId} {sp:Vs.Spec},Od g=some sp->aa TP g sp:=ao QY np
theorem Ux:KnowOk TP { Γ:=Od,Λ:=fun _ _=>none,Τ:=fun _=>none } 3:=aF (fun g sp h=>My h) (fun _ _=>rfl) (fun _=>rfl) 3
theorem aaB {xs ts rs us es:L2} {z:L1} {h:Int} (hz:z.length=19):zE.F [.agg (af z 0 1 2 3 4),fx h] (aH xs ts rs us es)=(.tup [.sl 0,.int .i64 (nK z h xs)],[.row 31 dm (AW z h xs)]):=by
 show (IV.tup [.sl 0,.int .i64 (nK (dv _ 0) (v2 _ 1) xs)],[aq.row 31 dm (AW (dv _ 0) (v2 _ 1) xs)])=_;rw [dA _ z 0 1 2 3 4 hz rfl,bc _ h 1 rfl]
theorem Q9:aa TP oK zE:=by
 refine ab 3 Ux ?_;rintro l bs _ _ ⟨z,xs,ts,rs,us,es,h,rfl,rfl,hz,hg,hh,hl⟩;rw [aaB (z:=z) (xs:=xs) (ts:=ts) (rs:=rs) (us:=us) (es:=es) hz.1.1.1,OW]; delta Maa Mab Mad Maf Mai Maj Mak Mau Max MaB MaC MaD MaN MaP MaQ MaR MaY Mbw Mbx MbJ MbX MbY MbZ Mb0 Mb1 Mb2 Mb3 Mb4 Mb9 Mca Mcb Mce Mcf Mcg Mcj Mck Mcm Mcv McE McI McK MdA MdC MdK Mev Mfl Mg2 Mi3 Mjd;rintro j1 rfl t2 rfl;unfold nK AW;rw [dp];refine ⟨fun h0=>⟨⟨z,xs,ts,rs,us,es,_,rfl,rfl,hz.1,hg,hh,hl⟩,?_⟩,fun h0=>⟨⟨z,xs,ts,rs,us,es,_,rfl,rfl,hz,hg,hh,hl⟩,?_⟩⟩
 ·rw [if_pos h0,if_pos h0,dA _ z 0 1 2 3 4 hz.1.1.1 rfl]
 ·rw [if_neg h0,if_neg h0,dA _ z 0 1 2 3 4 hz.1.1.1 rfl]
theorem Mx:∀ {g:FuncId} {sp:Vs.Spec},yU g=some sp->aa TP g sp:=ao Vq (ao Q3 (ao Q9 (ao X4 (ao X0 (ao X1 (ao X2 (ao X3 My)))))))
theorem jD (f:L1->L1->L1) (xs ls:L2) (n:Nat):(agv f xs ls n).length=xs.length:=by unfold agv; simp
theorem zN {f:L1->L1->L1} {xs ls:L2} {n j:Nat} (hj:j < xs.length):(agv f xs ls n)[j]? = some (if j < n then f (xs.getD j []) (ls.getD j []) else xs.getD j []):=by
 unfold agv;simp [hj]
theorem pd (f:L1->L1->L1) (xs ls:L2):agv f xs ls 0=xs:=by
 apply List.ext_getElem?;intro j;by_cases hj:j < xs.length
 ·rw [zN hj,if_neg (by omega),List.getElem?_eq_getElem hj,acY hj]
 ·rw [List.getElem?_eq_none (by rw [jD]; omega),List.getElem?_eq_none (by omega)]
theorem agp {f:L1->L1->L1} {xs ls:L2} {i:Nat} (hi:i < xs.length) {g:L1->L1} (hg:g (xs.getD i [])=f (xs.getD i []) (ls.getD i [])):(agv f xs ls i).modify i g=agv f xs ls (i+1):=by
 apply List.ext_getElem?;intro j;rw [List.getElem?_modify];by_cases hj:j < xs.length
 ·rw [zN hj,zN hj];by_cases e:i=j
  ·subst e;rw [if_neg (by omega),if_pos (by omega),← hg]
   simp
  ·by_cases h1:j < i
   ·rw [if_pos h1,if_pos (by omega)]; simp [e]
   ·rw [if_neg h1,if_neg (by omega)]; simp [e]
 ·rw [List.getElem?_eq_none (by rw [jD]; omega),List.getElem?_eq_none (by rw [jD]; omega)]; rfl
theorem Bx (x ls:L1) (a b c d:Int) (h:[a,b,c,d]=[ls.getD 0 0,ls.getD 1 0,ls.getD 2 0,ls.getD 3 0]):(List.range 20).map (fun j=>if 8<=j/\j < 12 then [a,b,c,d].getD (j - 8) 0 else x.getD j 0)=rq x ls:=by
 rw [h]; rfl
theorem Bv (x ls:L1) (a b c d:Int) (h:[a,b,c,d]=[ls.getD 0 0,ls.getD 1 0,ls.getD 2 0,ls.getD 3 0]):(List.range 20).map (fun j=>if 4<=j/\j < 8 then [a,b,c,d].getD (j - 4) 0 else x.getD j 0)=pO x ls:=by
 rw [h]; rfl
theorem lKl (d n0:Nat):aG (ai TP Ru d) dr n0 0 (lp TP dr 0) Lkl:=by
 intro st K hst;obtain ⟨z,xs,ts,rs,us,es,ls,⟨hll,hl,h20,rfl,rfl⟩,hK⟩:=hst;have e0:Yq z xs ts rs us es ls xs 0=Yq z xs ts rs us es ls (agv rq xs ls 0) ((0:Nat):Int):=by rw [pd]; rfl
 rw [e0];refine aC (fun i:Nat=>Yq z xs ts rs us es ls (agv rq xs ls i) i) (fun i=>i<=xs.length) (fun i=>xs.length - i) ?_ (a:=0) (Nat.zero_le _)
 rintro i hle k hn hk;show round (ai TP { Γ:=yU,Λ:=_,Τ:=fun _=>none } d) _ _ _ _ _ k
 rw [rKl]; delta Maa Mab Mac Mad Maf Mag Mai Maj Mak Mal Mam Man Mao Map Mar Mat Mav Maw Maz MaA MaD MaE MaG MaM MaN MaP MaQ MaR MaS MaV Ma3 Ma4 Mba Mbe Mbk Mbl Mbn Mbo Mbp Mbs Mbu Mbv MbI MbU MbX MbY MbZ Mb0 Mb1 Mb2 Mb3 Mb4 Mb9 Mca Mcb Mcd Mce Mcf Mcg Mci Mcj Mck Mcq Mcu Mcx McE McI McR Mc2 Mc9 Mdl Mdp MdG Md8 Meb Me9 MfA MfC MfJ MgN Mg9 Mhi Mhx Mio MiJ Mi0 Mjf MjL;rw [show ((i:Nat):Int).toNat=i by omega]
 rintro t1 e1 t2 e2;rw [jD] at e2;rw [al];constructor
 ·intro hi;have hi':i < xs.length:=by omega
  have p1:t1:=by rw [e1]; omega
  have p2:t2:=by rw [e2]; omega
  refine ⟨p1,p1,p2,p2,?_⟩;rw [show IntKind.i64.wrap ((i:Int)+1)=((i+1:Nat):Int) by rw [i64_in _ (by omega)]; rfl]
  have:=hn (i+1) hi' (by omega)
  rw [← agp hi' (g:=fun x=>(List.range 20).map (fun j=>if 8<=j/\j < 12 then [rd ls i 0,rd ls i 1,rd ls i 2,rd ls i 3].getD (j - 8) 0 else x.getD j 0)) (Bx _ (ls.getD i []) _ _ _ _ rfl)] at this
  exact this
 ·intro hi;have:i=xs.length:=by omega
  subst this;exact hk _ _ (by simp) hK
theorem lMl (d n0:Nat):aG (ai TP Ru d) dT n0 0 (lp TP dT 0) Lml:=by
 intro st K hst;obtain ⟨z,xs,ts,rs,us,es,ls,⟨hll,hl,h20,rfl,rfl⟩,hK⟩:=hst;have e0:Yo z xs ts rs us es ls xs 0=Yo z xs ts rs us es ls (agv pO xs ls 0) ((0:Nat):Int):=by rw [pd]; rfl
 rw [e0];refine aC (fun i:Nat=>Yo z xs ts rs us es ls (agv pO xs ls i) i) (fun i=>i<=xs.length) (fun i=>xs.length - i) ?_ (a:=0) (Nat.zero_le _)
 rintro i hle k hn hk;show round (ai TP { Γ:=yU,Λ:=_,Τ:=fun _=>none } d) _ _ _ _ _ k
 rw [rMl]; delta Maa Mab Mac Mad Maf Mag Mai Maj Mak Mal Mam Man Mao Map Mar Mat Mav Maw Maz MaA MaD MaE MaG MaM MaN MaP MaQ MaR MaS MaV Ma3 Ma4 Mba Mbe Mbk Mbl Mbn Mbo Mbp Mbs Mbu Mbv MbI MbU MbX MbY MbZ Mb0 Mb1 Mb2 Mb3 Mb4 Mb9 Mca Mcb Mcd Mce Mcf Mcg Mci Mcj Mck Mcq Mcu Mcx McE McI McR Mc2 Mc9 Mdl Mdp MdG Md8 Meb Me9 MfA MfC MfJ MgN Mg9 Mhi Mhx Mio MiJ Mi0 Mjf MjE MjL;rw [show ((i:Nat):Int).toNat=i by omega]
 rintro t1 e1 t2 e2;rw [jD] at e2;rw [al];constructor
 ·intro hi;have hi':i < xs.length:=by omega
  have p1:t1:=by rw [e1]; omega
  have p2:t2:=by rw [e2]; omega
  refine ⟨p1,p1,p2,p2,?_⟩;rw [show IntKind.i64.wrap ((i:Int)+1)=((i+1:Nat):Int) by rw [i64_in _ (by omega)]; rfl]
  have:=hn (i+1) hi' (by omega)
  rw [← agp hi' (g:=fun x=>(List.range 20).map (fun j=>if 4<=j/\j < 8 then [rd ls i 0,rd ls i 1,rd ls i 2,rd ls i 3].getD (j - 4) 0 else x.getD j 0)) (Bv _ (ls.getD i []) _ _ _ _ rfl)] at this
  exact this
 ·intro hi;have:i=xs.length:=by omega
  subst this;exact hk _ _ (by simp) hK
theorem KC {xs:L2} {i:Nat} (h:i < xs.length):kF (xs.drop i)=if iW xs[i]≠0 then iW xs[i] else if agd xs[i]=true then kF (xs.drop (i+1)) else 6:=by
 rw [List.drop_eq_getElem_cons h]; rfl
theorem lSl (d n0:Nat):aG (ai TP Ru d) eI n0 0 (lp TP eI 0) Lsl:=by
 intro st K hst;obtain ⟨xs,⟨hg,hl,rfl,rfl⟩,hK⟩:=hst;rw [ah] at hK;refine aC (fun i:Nat=>gx xs i) (fun i=>i<=xs.length/\kF (xs.drop i)=kF xs) (fun i=>xs.length - i) ?_ (a:=0) ⟨Nat.zero_le _,rfl⟩
 rintro i ⟨hle,hR⟩ k hn hk;show round (ai TP { Γ:=yU,Λ:=_,Τ:=fun _=>none } d) _ _ _ _ _ k
 rw [rSl]; delta Maa Mac Mal Map Mat Mau Mav MaA MaB MaM MaS MaV MaW Ma3 Mbk Mbm Mbo Mbp Mbv MbI MbV Mb5 Mcq Mct Mcu McG McL Met MeU Mh9 MiJ MiZ;rw [show ((i:Nat):Int).toNat=i by omega]
 rintro t1 e1 t2 e2;rw [al];constructor
 ·intro hi;have hi':i < xs.length:=by omega
  have p1:t1:=by rw [e1]; omega
  have hgi:=hg _ (List.getElem_mem hi');have er:IV.agg (bN aM xs i 0 20)=dG xs[i]:=by
   unfold dG;rw [show bN aM xs i 0 20=bN aM [xs.getD i []] 0 0 20 from rfl,acY hi']
  have ea:gl [IV.agg (bN aM xs i 0 20)] 0=xs[i]:=by rw [er]; exact eu _ 0 _ hgi.1 rfl
  rw [ea] at e2;rw [ea];rw [KC hi'] at hR;refine ⟨p1,p1,?_,?_⟩
  ·rw [er]; exact Gt hgi
  rw [ah];refine ⟨fun hne=>?_,fun h0=>?_⟩
  ·rw [e2,if_pos (by rw [← e2]; exact hne)] at *
   rw [← hR] at hK;exact hk _ _ (by simp) (hK.1 hne)
  ·rw [if_neg (by rw [← e2]; simpa using h0)] at hR
   rw [aL];refine ⟨fun hs=>?_,fun hs=>?_⟩
   ·rw [if_neg (by simpa using hs)] at hR
    rw [← hR] at hK;exact hk _ _ (by simp) (hK.1 (by decide))
   ·rw [if_pos (by simpa using hs)] at hR
    rw [show IntKind.i64.wrap ((i:Int)+1)=((i+1:Nat):Int) by rw [i64_in _ (by omega)]; rfl]
    exact hn (i+1) ⟨hi',hR⟩ (by omega)
 ·intro hi;have:i=xs.length:=by omega
  subst this;rw [List.drop_length] at hR;exact hk _ _ (by simp) (hK.2 hR.symm)
theorem sJ (l:List IV) (z:L1) (h:z.length=19) (hl:lg l 0=some (.agg (af z 0 1 2 3 4))):du l=z:=dA l z 0 1 2 3 4 h hl
theorem Dk (l:List IV) (z:L1) (hl:lg l 0=some (.agg (af z 0 1 2 3 4))):RC l=y3 z:=by
 have q:∀ j,ae l 0 j=ae [.agg (af z 0 1 2 3 4)] 0 j:=by intro j; unfold ae; rw [hl]; rfl
 unfold RC;simp only [q]
 rfl
theorem vp:KnowOk TP Ru 3:=by
 refine ⟨mixedOrders,fun g sp h=>Mx h,?_,fun g G h=>(by cases h),fun f h=>(by cases h)⟩
 intro d' _ f i S n0 hS;simp only [Ru] at hS;split at hS
 ·rename_i hf; subst hf;split at hS
  ·rename_i hi; subst hi; cases hS; exact lKl d' n0
  ·cases hS
 split at hS
 ·rename_i hf; subst hf;split at hS
  ·rename_i hi; subst hi; cases hS; exact lMl d' n0
  ·cases hS
 split at hS
 ·rename_i hf; subst hf;split at hS
  ·rename_i hi; subst hi; cases hS; exact lSl d' n0
  ·cases hS
 ·cases hS
theorem Ve:aa TP eI RR:=by
 refine ab 3 vp ?_;rintro l bs _ _ ⟨xs,rfl,rfl,hg,hl⟩;rw [Te]; delta Maa Mac Map Mat MaM MaV MaW Ma3 Mb5 Mcs Mct Mcu Mdg;refine ⟨xs,⟨hg,hl,rfl,rfl⟩,?_⟩;rw [ah];exact ⟨fun _=>rfl,fun h0=>by show (IV.int .i64 (kF xs),([]:List aq))=_; rw [h0]⟩
theorem XZ:aa TP qI Kq:=by
 refine afC 3 vp ?_;rintro l bs _ _ ⟨z,xs,ts,rs,us,es,rfl,rfl,hz,hl,h1,h2,h3,h4⟩;have hF:Kq.F [.agg (af z 0 1 2 3 4)] (aH xs ts rs us es)=(y3 z,aH xs ts rs us es):=by
  show (RC _,aH xs ts rs us es)=_;rw [Dk _ z rfl]
 rw [hF,Wd]; delta Maa Mab Mad Maf Mai Maj Mak Mav MaC MaD MaE MaN MaP MaQ MaR Mbx MbX MbY MbZ Mb0 Mb1 Mb2 Mb3 Mb4 Mb9 Mca Mcb Mcd Mce Mcf Mcg Mci Mcj Mck McE McI Mc2 Mda Mdv Meb Me5 Mfg Mf0 MiV Mi1;exact ⟨⟨_,rfl,rfl,hl⟩,⟨_,rfl,rfl,h1⟩,⟨_,rfl,rfl,h2⟩,⟨_,rfl,rfl,h3⟩,⟨_,rfl,rfl,h4⟩,rfl⟩
theorem GJ (z:L1) (h:Int) (xs ks ns cs:L2):∀ (m i:Nat) (out:L2),(xL z h xs ks ns cs m i out).2=0->(xL z h xs ks ns cs m i out).1.length=out.length+m
 | 0,i,out,he=>rfl
 | m+1,i,out,he=>by
  unfold xL at he ⊢;by_cases h1:GP z h xs ks ns cs i≠0
  ·rw [if_pos h1] at he; exact absurd he h1
  ·rw [if_neg h1] at he ⊢;rw [GJ z h xs ks ns cs m (i+1) _ he];simp; omega
theorem JI {z:L1} {h:Int} {xs:L2} (he:mJ z h xs=0):(nG z h xs).length=xs.length:=by
 unfold mJ at he;unfold nG;by_cases hc:QI xs≠0
 ·rw [if_pos hc] at he; exact absurd he hc
 ·rw [if_neg hc] at he ⊢;unfold N5;rw [GJ _ _ _ _ _ _ _ _ _ he]; simp
theorem Aq {z:L1} {h:Int} {xs:L2} (hg:aY xs) (he:nK z h xs=0):(AW z h xs).length=xs.length:=by
 unfold nK at he;unfold AW;by_cases h0:z.getD 11 0=0
 ·rw [if_pos h0] at he ⊢;exact (AF z h xs xs.length 0 _ (by omega) (vn hg) (by simp) he).2
 ·rw [if_neg h0] at he ⊢;exact JI he
theorem Jh:aa TP dr Kv:=by
 refine afC 3 vp ?_;rintro l bs _ _ ⟨z,xs,ts,rs,us,es,h,rfl,rfl,hz,hg,hh,hl⟩;have hF:Kv.F [.agg (af z 0 1 2 3 4),fx h] (aH xs ts rs us es)=(.tup [y3 z,.int .i64 (nK z h xs)],aH (eF z h xs) ts rs us es):=by
  show (IV.tup [RC _,.int .i64 (nK (du _) (v2 _ 1) xs)],aH (eF (du _) (v2 _ 1) xs) ts rs us es)=_;rw [Dk _ z rfl,sJ _ z hz.1.1.1 rfl,bc _ h 1 rfl]
 rw [hF,H4]; delta Maa Mab Mac Mad Maf Mag Mai Maj Mak Mam Man Mao Map Mat Mau MaB MaC MaD MaG MaM MaN MaP MaQ MaR MaW MaY Ma3 Ma4 Mba Mbe Mbl Mbn Mbw Mbx MbD MbJ MbX MbY MbZ Mb0 Mb1 Mb2 Mb3 Mb4 Mb9 Mca Mcb Mcd Mce Mcf Mcg Mci Mcj Mck Mcs Mcu Mcv McE McI McK McT Mc2 Mc9 Mdv MdG Meb Mev Me5 Mfl MfC Mf0 Mgo Mhi Mhx MiV Mi0 Mi3 Mjd MjL;rintro j1 rfl t2 e2;rw [dA _ z 0 1 2 3 4 hz.1.1.1 rfl] at e2 ⊢;refine ⟨⟨z,xs,ts,rs,us,es,_,rfl,rfl,hz,hg,hh,hl⟩,?_⟩;rw [ah];unfold eF;refine ⟨fun hne=>?_,fun h0=>?_⟩
 ·rw [if_pos (by rw [← e2]; exact hne),← e2]; rfl
 ·refine ⟨⟨_,rfl,rfl,Nat.le_trans hl (by decide)⟩,z,xs,ts,rs,us,es,AW z j1 xs,⟨Aq hg (by rw [← e2]; exact h0),Nat.le_trans hl (by decide),mA hg,rfl,rfl⟩,?_⟩
  rw [if_neg (by rw [← e2]; simpa using h0),← e2,h0]; rfl
theorem Nw:aa TP dT Kr:=by
 refine afC 3 vp ?_;rintro l bs _ _ ⟨z,xs,ts,rs,us,es,h,rfl,rfl,hz,hg,hh,hl⟩;have hF:Kr.F [.agg (af z 0 1 2 3 4),fx h] (aH xs ts rs us es)=(.tup [y3 z,.int .i64 (eD h xs)],aH (lj h xs) ts rs us es):=by
  show (IV.tup [RC _,.int .i64 (eD (v2 _ 1) xs)],aH (lj (v2 _ 1) xs) ts rs us es)=_;rw [Dk _ z rfl,bc _ h 1 rfl]
 rw [hF,J7]; delta Maa Mab Mac Mad Maf Mag Mai Maj Mak Mam Man Mao Map Mat Mau MaB MaC MaD MaG MaM MaN MaP MaQ MaR MaW MaY Ma3 Ma4 Mba Mbe Mbl Mbn Mbw Mbx MbD MbJ MbX MbY MbZ Mb0 Mb1 Mb2 Mb3 Mb4 Mb9 Mca Mcb Mcd Mce Mcf Mcg Mci Mcj Mck Mcs Mcu Mcv McE McI McT Mc2 Mc9 Mdv MdG Meb Me5 Mfl MfC Mf0 Mhi Mhx MiV Mi0 MjL;rintro j1 rfl t2 e2;refine ⟨⟨xs,_,rfl,rfl,hg,hh,Nat.le_trans hl (by decide)⟩,?_⟩
 rw [ah];unfold lj;refine ⟨fun hne=>?_,fun h0=>?_⟩
 ·rw [if_pos (by rw [← e2]; exact hne),← e2]; rfl
 ·have hlen:(lh j1 xs).length=xs.length:=by
   unfold lh; rw [if_pos (by rw [← e2]; exact h0)]; unfold agk; simp
  refine ⟨⟨_,rfl,rfl,Nat.le_trans hl (by decide)⟩,z,xs,ts,rs,us,es,lh j1 xs,⟨hlen,Nat.le_trans hl (by decide),mA hg,rfl,rfl⟩,?_⟩
  rw [if_neg (by rw [← e2]; simpa using h0),← e2,h0]; rfl
theorem DG (x:Int) (K:KP):(comes TP N7 3 qM [fx x] [] K) =(∀a,Mau a x (∀b,Mdk b a (∀c,Mau c b (∀d,Mau d c (∀e,Mft e d (Mg4 0) (∀f,Mau f e (∀g,Mhm g f 1 (∀i,Mdm i (MaA a 0) (Md9 g g) (Mda (Mgb x) (Mif b) (vk (fo c::MbD) []) (zS (Mgu e 1) []) (lq (MaB (Mc8 g g (Mfc (MaA a 0))) []) []) (K (fx i) [])))))))))) :=by delta Maa Mab Mae Maf Mah Maq Mau Mav MaA MaB MaE MaH MaY Ma2 Mbw MbD MbO Mc8 Mda Mdk Mdm Md9 Mfc Mft Mgb Mgu Mg4 Mhm Mif; refine nj ?_; refine nm ?_; refine nj ?_; refine pr ?_; refine nm ?_; refine pr ?_; refine nm ?_; refine nm ?_; kernel_rfl
theorem FE:aa TP qM o7:=by
 refine ab (N:=N7) 3 (aF (fun g sp h=>yK h) (fun _ _=>rfl) (fun _=>rfl) 3) ?_
 intro l bs _ _ hp;obtain ⟨x,rfl,rfl,hx⟩:=hp;have hF:o7.F [fx x] []=(fx (dQ x),[]):=by
  show (fx (dQ (v2 [fx x] 0)),([]:List aq))=_;rw [bc _ x 0 rfl]
 rw [hF,DG]; delta Maa Mab Mae Maf Mah Maq Mau Mav MaA MaB MaE MaH MaY Ma2 Mbw MbD MbO Mc8 Mda Mdk Mdm Md9 Mfc Mft Mgb Mgu Mg4 Mhm Mif;rintro x rfl t2 e2 j3 rfl q4 rfl t5 e5 q6 rfl t7 e7 t8 e8;have ax:=dq hx;have a2:aD q4:=by rw [e2]; exact ei hx
 rw [← e2] at ax;have e5':q6=q4+1:=e5;have e7':t7=q6 / 2:=e7;have e8':t7 / 18446744073709551616 % 18446744073709551616*18446744073709551616+t7 % 18446744073709551616=t7:=by omega
 rw [e8'] at e8;refine ⟨ka hx,⟨_,rfl,rfl,a2⟩,⟨_,_,rfl,rfl,.inl rfl,by unfold aD at a2; unfold aK; omega,by show aK (q4+1); unfold aD at a2; unfold aK; omega⟩,⟨rfl,rfl,.inl rfl,agw (by unfold aD at a2; unfold aK; omega)⟩,?_,?_⟩
 ·have:=mM (n:=t7) (b:=decide (x < 0)) (by omega) (by omega)
  rw [show t7 / 18446744073709551616 % 18446744073709551616=t7 / 18446744073709551616 by omega]
  exact this
 ·rw [e8,e7',e5',e2]; rfl
end
def Oc:FuncId->Option Vs.Spec:=fun g=>if g=qM then some o7 else if g=dr then some Kv else if g=dT then some Kr else if g=eI then some RR else if g=qI then some Kq else yU g
def MbT (a b c d e f g h i j k l m n o p q r s t:Int)(u:L2):L2:=eF (MbE a b c d e f g h i j k l m n o p q r s) t u
def Mf6 (a b c d e f g h i j k l m n o p q r s t u:Int)(v:L2):L2:=lj a (MbT b c d e f g h i j k l m n o p q r s t u v)
def MgA:List aq:=MbR 79 aM (MbR 99 jt (MbR 101 ie (MbR 3 MaQ (MbR 103 dE []))))
def Mjc (a:Int):IV:=McT 0 0 0 0 0 0 0 0 0 0 0 0 0 0 0 0 0 0 0 (MaY a)
theorem Tr (z:L1) (xs ts rs us es:L2) (h:Int) (K:KP):(comes TP { Γ:=Oc,Λ:=fun _ _=>none,Τ:=fun _=>none } 3 oJ [.agg (af z 0 1 2 3 4),fx h] (aH xs ts rs us es) K) =(∀a,Mau a h (∀b,Mau b (dQ a) (∀c,Mau c b (∀d,MeO d z (∀e,MeR e z (∀f,MeH f z (∀g,Meg g z (∀i,Men i z (∀j,Meo j z (∀k,Mep k z (∀l,MeC l z (∀m,MeP m z (∀n,MeS n z (∀o,MdO o z (∀p,MdC p z (∀q,MdP q z (∀r,MdQ r z (∀s,MdR s z (∀t,MdS t z (∀u,MdT u z (∀v,MdU v z (∀w,MdV w z (∀x,Mbo x (Mga h) (∀y,Mgo y (MbE d e f g i j k l m n o p q r s t u v w) c xs (∀a1,Mau a1 (kF (MbT d e f g i j k l m n o p q r s t u v w c xs)) (∀b1,Mau b1 (eD a (MbT d e f g i j k l m n o p q r s t u v w c xs)) (∀c1,Mau c1 (kF (Mf6 a d e f g i j k l m n o p q r s t u v w c xs)) (∀d1,Mgo d1 (MbE d e f g i j k l m n o p q r s t u v w) c (MbT d e f g i j k l m n o p q r s t u v w c xs) (∀e1,Mau e1 (kF (MbT d e f g i j k l m n o p q r s t u v w c (MbT d e f g i j k l m n o p q r s t u v w c xs))) (∀f1,Mgo f1 (MbE d e f g i j k l m n o p q r s t u v w) c (Mf6 a d e f g i j k l m n o p q r s t u v w c xs) (∀g1,Mau g1 (kF (MbT d e f g i j k l m n o p q r s t u v w c (Mf6 a d e f g i j k l m n o p q r s t u v w c xs))) (∀i1,McW i1 (K5 (Mcv d e f g i j k l m n o p q r s t u v w []) (Mfl (MbT d e f g i j k l m n o p q r s t u v w c xs) ts rs us es)) (K (McT d e f g i j k l m n o p q r s t u v w MbD) (Mfl (MbT d e f g i j k l m n o p q r s t u v w c xs) ts rs us es)) (∀j1,McW j1 (K5 (Mcv d e f g i j k l m n o p q r s t u v w []) (Mfl (Mf6 a d e f g i j k l m n o p q r s t u v w c xs) ts rs us es)) (K (McT d e f g i j k l m n o p q r s t u v w MbD) (Mfl (Mf6 a d e f g i j k l m n o p q r s t u v w c xs) ts rs us es)) (∀k1,McW k1 (K5 (Mcv d e f g i j k l m n o p q r s t u v w []) (Mfl (MbT d e f g i j k l m n o p q r s t u v w c (MbT d e f g i j k l m n o p q r s t u v w c xs)) ts rs us es)) (K (McT d e f g i j k l m n o p q r s t u v w MbD) (Mfl (MbT d e f g i j k l m n o p q r s t u v w c (MbT d e f g i j k l m n o p q r s t u v w c xs)) ts rs us es)) (∀l1,McW l1 (K5 (Mcv d e f g i j k l m n o p q r s t u v w []) (Mfl (MbT d e f g i j k l m n o p q r s t u v w c (Mf6 a d e f g i j k l m n o p q r s t u v w c xs)) ts rs us es)) (K (McT d e f g i j k l m n o p q r s t u v w MbD) (Mfl (MbT d e f g i j k l m n o p q r s t u v w c (Mf6 a d e f g i j k l m n o p q r s t u v w c xs)) ts rs us es)) (∀m1,McW m1 (Mev (McK d e f g i j k l m n o p q r s t u v w b) xs ts rs us es []) (Mcm y 0 (Xb (McK d e f g i j k l m n o p q r s t u v w h) (Mfl (MbT d e f g i j k l m n o p q r s t u v w c xs) ts rs us es)/\Mcm b1 0 (Mav x (Mev (McK d e f g i j k l m n o p q r s t u v w b) (Mf6 a d e f g i j k l m n o p q r s t u v w c xs) ts rs us es []) (MfG f1 (K3 Me5 (MiV (MbT d e f g i j k l m n o p q r s t u v w c (Mf6 a d e f g i j k l m n o p q r s t u v w c xs)))) g1 (K (Mjc g1) MgA) l1 (McL f1 (K (Mjc f1) MgA) l1))) (MfG b1 (K3 Me5 (MiV (Mf6 a d e f g i j k l m n o p q r s t u v w c xs))) c1 (K (Mjc c1) MgA) j1 (McL b1 (K (Mjc b1) MgA) j1))) (Mcm y 0 (Mav x (Mev (McK d e f g i j k l m n o p q r s t u v w b) (MbT d e f g i j k l m n o p q r s t u v w c xs) ts rs us es []) (MfG d1 (K3 Me5 (MiV (MbT d e f g i j k l m n o p q r s t u v w c (MbT d e f g i j k l m n o p q r s t u v w c xs)))) e1 (K (Mjc e1) MgA) k1 (McL d1 (K (Mjc d1) MgA) k1))) (MfG y (K3 Me5 (MiV (MbT d e f g i j k l m n o p q r s t u v w c xs))) a1 (K (Mjc a1) MgA) i1 (McL y (K (Mjc y) MgA) i1)))) (Mav (Mav x m1 m1) x m1))))))))))))))))))))))))))))))))))))) :=by delta Maa Mab Mad Maf Mai Maj Mak Mau Mav Maw Max MaB MaC MaD MaN MaP MaQ MaR MaW MaY Mbo Mbw Mbx MbD MbE MbJ MbR MbT Mcm Mcs Mcv McK McL McT McW Mdv MdC MdO MdP MdQ MdR MdS MdT MdU MdV Meg Men Meo Mep Mev MeC MeH MeO MeP MeR MeS Me5 Mfl MfG Mf6 Mga Mgo MgA MiV Mjc; refine nj ?_; refine nm ?_; refine nj ?_; (iterate 33 refine nm ?_); kernel_rfl
section
open Go.IntWalk
theorem rr {σ α:Type} {P:σ->Prop} {f:α->σ->σ × Int} (hf:∀ a s,P s->P (f a s).1):∀ (l:List α) (s:σ),P s->P (dF f l s).1
 | [],s,h=>h
 | a :: l,s,h=>by
  rw [jr];split
  ·exact hf a s h
  ·exact rr hf l _ (hf a s h)
theorem tc {σ:Type} {P:σ->Prop} {vis:Int->σ->σ × Int} (hv:∀ c s,P s->P (vis c s).1) (ns ks:L2) (fe:Nat->Int) (fb:Nat->Bool) (i:Int):∀ (m n:Nat) (s:σ),P s->P (jH vis ns ks fe fb i m n s).1
 | 0,n,s,h=>h
 | m+1,n,s,h=>by
  simp only [jH];split
  ·exact rr (fun k s hs=>by unfold dw; split; exact hs; exact hv _ s hs) _ _ h
  ·split
   ·exact h
   ·split
    ·exact hv _ s h
    ·exact rr (fun k s hs=>tc hv ns ks fe fb i m k s hs) _ _ h
theorem S5 {z r:L1} {h i px py:Int} {xs ks ns cs:L2} (hx:ag px) (hy:ag py):ag (Om z r h xs ks ns cs i px py)/\ag (Ol z r h xs ks ns cs i px py):=by
 have:=rr (P:=fun s:Int × Int=>ag s.1/\ag s.2) (f:=PR z r h xs ks ns cs i) (fun n s hs=>tc (P:=fun s:Int × Int=>ag s.1/\ag s.2) (vis:=pN z r h xs cs) (fun c s hs=>FP hs.1 hs.2) _ _ _ _ _ _ _ _ hs) [0] (px,py) ⟨hx,hy⟩
 exact this
theorem UO {z:L1} {h:Int} {xs ks ns cs:L2} {i:Int} (hg:lC (xs.getD i.toNat [])):VO (cI (Qc z h xs ks ns cs i) (Qb z h xs ks ns cs i)):=by
 obtain ⟨_,_,_,_,_,m8,m10⟩:=hg;have:=S5 (z:=z) (r:=xs.getD i.toNat []) (h:=h) (i:=i) (xs:=xs) (ks:=ks) (ns:=ns) (cs:=cs) m8 m10;exact ⟨_,_,rfl,this.1,this.2⟩
theorem GK {z:L1} {h:Int} {xs ks ns cs:L2} (hg:aY xs):∀ (m i:Nat) (out:L2),i+m<=xs.length->km out->km (xL z h xs ks ns cs m i out).1
 | 0,i,out,hi,ho=>ho
 | m+1,i,out,hi,ho=>by
  unfold xL;split
  ·intro p hp; cases hp
  ·refine GK hg m (i+1) _ (by omega) ?_
   intro p hp;rcases List.mem_append.1 hp with hp | hp
   ·exact ho p hp
   ·rw [List.mem_singleton] at hp;subst hp;exact UO (hg _ (getM (by omega)))
theorem Qf {z:L1} {h:Int} {xs:L2} (hg:aY xs) (he:nK z h xs=0):km (AW z h xs):=by
 unfold nK at he;unfold AW;by_cases h0:z.getD 11 0=0
 ·rw [if_pos h0] at he ⊢;exact (Qw hg he).1
 ·rw [if_neg h0];unfold nG;split
  ·intro p hp; cases hp
  ·exact GK hg _ _ _ (by omega) (fun p hp=>by cases hp)
theorem IG {r p:L1} (h:lC r) (hp:VO p):lC (rq r p):=by
 obtain ⟨x,y,rfl,h1,h2⟩:=hp;refine ⟨rfl,?_,h.2.2.1,h.2.2.2.1,h.2.2.2.2.1,?_,?_⟩
 ·intro j hj;match j,hj with
  | 0,_=>exact h.2.1 0 (by decide)
  | 1,_=>exact h.2.1 1 (by decide)
  | 2,_=>exact h.2.1 2 (by decide)
  | 3,_=>exact h.2.1 3 (by decide)
  | 4,_=>exact h.2.1 4 (by decide)
  | 5,_=>exact h.2.1 5 (by decide)
  | 6,_=>exact h.2.1 6 (by decide)
  | 7,_=>exact h.2.1 7 (by decide)
  | 8,_=>exact oA h1
  | 9,_=>exact oz x
  | 10,_=>exact oA h2
  | 11,_=>exact oz y
  | 12,_=>exact h.2.1 12 (by decide)
  | 13,_=>exact h.2.1 13 (by decide)
  | 14,_=>exact h.2.1 14 (by decide)
  | 15,_=>exact h.2.1 15 (by decide)
  | 16,_=>exact h.2.1 16 (by decide)
  | 17,_=>exact h.2.1 17 (by decide)
  | 18,_=>exact h.2.1 18 (by decide)
  | 19,_=>exact h.2.1 19 (by decide)
  | j+20,hj=>exact absurd hj (by omega)
 ·rw [show fr (rq r (cI x y)) 8=x from kS x]; exact h1
 ·rw [show fr (rq r (cI x y)) 10=y from kS y]; exact h2
theorem IF {r p:L1} (h:lC r) (hp:VO p):lC (pO r p):=by
 obtain ⟨x,y,rfl,h1,h2⟩:=hp;refine ⟨rfl,?_,h.2.2.1,?_,?_,h.2.2.2.2.2.1,h.2.2.2.2.2.2⟩
 ·intro j hj;match j,hj with
  | 0,_=>exact h.2.1 0 (by decide)
  | 1,_=>exact h.2.1 1 (by decide)
  | 2,_=>exact h.2.1 2 (by decide)
  | 3,_=>exact h.2.1 3 (by decide)
  | 4,_=>exact oA h1
  | 5,_=>exact oz x
  | 6,_=>exact oA h2
  | 7,_=>exact oz y
  | 8,_=>exact h.2.1 8 (by decide)
  | 9,_=>exact h.2.1 9 (by decide)
  | 10,_=>exact h.2.1 10 (by decide)
  | 11,_=>exact h.2.1 11 (by decide)
  | 12,_=>exact h.2.1 12 (by decide)
  | 13,_=>exact h.2.1 13 (by decide)
  | 14,_=>exact h.2.1 14 (by decide)
  | 15,_=>exact h.2.1 15 (by decide)
  | 16,_=>exact h.2.1 16 (by decide)
  | 17,_=>exact h.2.1 17 (by decide)
  | 18,_=>exact h.2.1 18 (by decide)
  | 19,_=>exact h.2.1 19 (by decide)
  | j+20,hj=>exact absurd hj (by omega)
 ·rw [show fr (pO r (cI x y)) 4=x from kS x]; exact h1
 ·rw [show fr (pO r (cI x y)) 6=y from kS y]; exact h2
theorem BE {f:L1->L1->L1} {xs ls:L2} {r:L1} (h:r∈age f xs ls):∃j,j < xs.length/\r=f (xs.getD j []) (ls.getD j []):=by
 unfold age agv at h;rw [List.mem_map] at h;obtain ⟨j,hj,rfl⟩:=h;have hj':j < xs.length:=by simpa using hj
 exact ⟨j,hj',by rw [if_pos hj']⟩
theorem BF (f:L1->L1->L1) (xs ls:L2):(age f xs ls).length=xs.length:=jD _ _ _ _
theorem IJ {xs ls:L2} (hg:aY xs) (hv:km ls) (hl:ls.length=xs.length):aY (age rq xs ls):=by
 intro r hr;obtain ⟨j,hj,rfl⟩:=BE hr;exact IG (hg _ (getM hj)) (hv _ (getM (by omega)))
theorem II {xs ls:L2} (hg:aY xs) (hv:km ls) (hl:ls.length=xs.length):aY (age pO xs ls):=by
 intro r hr;obtain ⟨j,hj,rfl⟩:=BE hr;exact IF (hg _ (getM hj)) (hv _ (getM (by omega)))
theorem mw {z:L1} {h:Int} {xs:L2} (hg:aY xs):aY (eF z h xs):=by
 unfold eF;split
 ·exact hg
 ·rename_i he;have he':=Decidable.not_not.1 he;exact IJ hg (Qf hg he') (Aq hg he')
theorem pF (z:L1) (h:Int) (xs:L2):(eF z h xs).length=xs.length:=by
 unfold eF;split
 ·rfl
 ·exact BF _ _ _
theorem Gv {x p m h:Int}:ag (uV x p m h):=by
 unfold uV;split
 ·rename_i he;unfold pk at he;split at he
  ·rename_i h1; exact absurd he h1
  ·split at he
   ·rename_i h1; exact absurd he h1
   ·exact ff.1 he
 ·exact bg
theorem Ud (r:L1) (h:Int):VO (cI (Iu r h) (It r h)):=by
 refine ⟨_,_,rfl,?_,?_⟩
 ·unfold Iu Sq; split; exact Gv; exact bg
 ·unfold It Sp; split; exact Gv; exact bg
theorem Lp (h:Int) (xs:L2):km (lh h xs):=by
 unfold lh;split
 ·intro p hp;unfold agk at hp;rw [List.mem_map] at hp;obtain ⟨r,_,rfl⟩:=hp;exact Ud r h
 ·intro p hp; cases hp
theorem wN {h:Int} {xs:L2} (hg:aY xs):aY (lj h xs):=by
 unfold lj;split
 ·exact hg
 ·rename_i he;have he':=Decidable.not_not.1 he;exact II hg (Lp _ _) (by rw [Ag he',tb])
theorem Af (h:Int) (xs:L2):(lj h xs).length=xs.length:=by
 unfold lj;split
 ·rfl
 ·exact BF _ _ _
def gu (z:L1) (h:Int) (xs:L2):L2:=eF z (dQ h) (lj h (eF z (dQ h) xs))
def adn (z:L1) (h:Int) (xs:L2):Int:=
 if nK z (dQ h) xs≠0 then nK z (dQ h) xs
 else if eD h (eF z (dQ h) xs)≠0 then eD h (eF z (dQ h) xs)
 else if nK z (dQ h) (lj h (eF z (dQ h) xs))≠0 then nK z (dQ h) (lj h (eF z (dQ h) xs))
 else kF (gu z h xs)
def an (e x:Int):Int:=if e≠0 then 0 else x
def bq (e:Int) (xs:L2):L2:=if e≠0 then [] else xs
def ED (e:Int) (z:L1):L1:=if e≠0 then List.replicate 19 0 else z
def SZ (e:Int) (l:List IV):IV:=.agg [.int .i64 (an e (ae l 0 0)),.int .i64 (an e (ae l 0 1)),.int .u64 (an e (ae l 0 2)),.int .i64 (an e (ae l 0 3)),.int .u64 (an e (ae l 0 4)),.int .i64 (an e (ae l 0 5)),.int .u64 (an e (ae l 0 6)),.int .i64 (an e (ae l 0 7)),.int .u64 (an e (ae l 0 8)),.int .i64 (an e (ae l 0 9)),.int .u64 (an e (ae l 0 10)),.int .i64 (an e (ae l 0 11)),.int .i64 (an e (ae l 0 12)),.sl 0,.sl 1,.sl 2,.sl 3,.int .i64 (an e (ae l 0 17)),.int .u64 (an e (ae l 0 18)),.int .i64 (an e (ae l 0 19)),.int .u64 (an e (ae l 0 20)),.int .i64 (an e (ae l 0 21)),.int .u64 (an e (ae l 0 22)),.sl 4]
def n8 (l:List IV) (bs:List aq):Prop:=∃z xs ts rs us es h,l=[.agg (af z 0 1 2 3 4),fx h]/\bs=aH xs ts rs us es/\Ch z/\aY xs/\ag h/\xs.length<=1000/\zI ts rs us es
def D5:Vs.Spec:=⟨n8,fun l bs=>(.tup [SZ (adn (du l) (v2 l 1) (aA bs 0)) l,.int .i64 (adn (du l) (v2 l 1) (aA bs 0))],
 aH (bq (adn (du l) (v2 l 1) (aA bs 0)) (gu (du l) (v2 l 1) (aA bs 0))) (bq (adn (du l) (v2 l 1) (aA bs 0)) (aA bs 1)) (bq (adn (du l) (v2 l 1) (aA bs 0)) (aA bs 2)) (bq (adn (du l) (v2 l 1) (aA bs 0)) (aA bs 3)) (bq (adn (du l) (v2 l 1) (aA bs 0)) (aA bs 4)))⟩
theorem yW (e:Int) (l:List IV) (z:L1) (hl:lg l 0=some (.agg (af z 0 1 2 3 4))):SZ e l=y3 (ED e z):=by
 have q:∀ j,ae l 0 j=ae [.agg (af z 0 1 2 3 4)] 0 j:=by intro j; unfold ae; rw [hl]; rfl
 unfold SZ;simp only [q];by_cases he:e≠0
 ·have h1:∀ x,an e x=0:=fun x=>if_pos he
  have h2:ED e z=List.replicate 19 0:=if_pos he;simp only [h1,h2]
  rfl
 ·have h1:∀ x,an e x=x:=fun x=>if_neg he
  have h2:ED e z=z:=if_neg he;simp only [h1,h2]
  rfl
theorem Ua {z:L1} {xs ts rs us es:L2} {h:Int} (hz:z.length=19):D5.F [.agg (af z 0 1 2 3 4),fx h] (aH xs ts rs us es) =
  (.tup [y3 (ED (adn z h xs) z),.int .i64 (adn z h xs)],aH (bq (adn z h xs) (gu z h xs)) (bq (adn z h xs) ts) (bq (adn z h xs) rs) (bq (adn z h xs) us) (bq (adn z h xs) es)):=by
 have e1:du [IV.agg (af z 0 1 2 3 4),fx h]=z:=sJ _ z hz rfl;have e2:v2 [IV.agg (af z 0 1 2 3 4),fx h] 1=h:=bc _ h 1 rfl;show (IV.tup [SZ (adn (du [IV.agg (af z 0 1 2 3 4),fx h]) (v2 [IV.agg (af z 0 1 2 3 4),fx h] 1) xs) [IV.agg (af z 0 1 2 3 4),fx h],.int .i64 (adn (du [IV.agg (af z 0 1 2 3 4),fx h]) (v2 [IV.agg (af z 0 1 2 3 4),fx h] 1) xs)],
  aH (bq (adn (du [IV.agg (af z 0 1 2 3 4),fx h]) (v2 [IV.agg (af z 0 1 2 3 4),fx h] 1) xs) (gu (du [IV.agg (af z 0 1 2 3 4),fx h]) (v2 [IV.agg (af z 0 1 2 3 4),fx h] 1) xs)) (bq (adn (du [IV.agg (af z 0 1 2 3 4),fx h]) (v2 [IV.agg (af z 0 1 2 3 4),fx h] 1) xs) ts) (bq (adn (du [IV.agg (af z 0 1 2 3 4),fx h]) (v2 [IV.agg (af z 0 1 2 3 4),fx h] 1) xs) rs) (bq (adn (du [IV.agg (af z 0 1 2 3 4),fx h]) (v2 [IV.agg (af z 0 1 2 3 4),fx h] 1) xs) us) (bq (adn (du [IV.agg (af z 0 1 2 3 4),fx h]) (v2 [IV.agg (af z 0 1 2 3 4),fx h] 1) xs) es))=_
 rw [e1,e2,yW _ _ z rfl]
theorem Mw:∀ {g:FuncId} {sp:Vs.Spec},Oc g=some sp->aa TP g sp:=ao FE (ao Jh (ao Nw (ao Ve (ao XZ Mx))))
theorem Uw:KnowOk TP { Γ:=Oc,Λ:=fun _ _=>none,Τ:=fun _=>none } 3:=aF (fun g sp h=>Mw h) (fun _ _=>rfl) (fun _=>rfl) 3
theorem Vp:aa TP oJ D5:=by
 refine afC 3 Uw ?_;rintro l bs _ _ ⟨z,xs,ts,rs,us,es,h,rfl,rfl,hz,hg,hh,hl,hs⟩;rw [Ua hz.1.1.1,Tr]; delta Maa Mab Mad Maf Mai Maj Mak Mau Mav Maw Max MaB MaC MaD MaN MaP MaQ MaR MaW MaY Mbo Mbw Mbx MbD MbE MbJ MbR MbT Mcm Mcs Mcv McK McL McT McW Mdv MdC MdO MdP MdQ MdR MdS MdT MdU MdV Meg Men Meo Mep Mev MeC MeH MeO MeP MeR MeS Me5 Mfl MfG Mf6 Mga Mgo MgA MiV Mjc;have hzl:([z.getD 0 0,z.getD 1 0,z.getD 2 0,z.getD 3 0,z.getD 4 0,z.getD 5 0,z.getD 6 0,z.getD 7 0,z.getD 8 0,z.getD 9 0,z.getD 10 0,z.getD 11 0,z.getD 12 0,z.getD 13 0,z.getD 14 0,z.getD 15 0,z.getD 16 0,z.getD 17 0,z.getD 18 0]:L1)=z:=lZ hz.1.1.1;rintro j1 rfl t2 e2 j3 rfl t4 rfl t5 rfl t6 rfl t7 rfl t8 rfl t9 rfl t10 rfl t11 rfl t12 rfl t13 rfl t14 rfl t15 rfl t16 rfl t17 rfl t18 rfl t19 rfl t20 rfl t21 rfl t22 rfl t23 e23 t24 e24 t25 e25 t26 e26 t27 e27 t28 e28 t29 e29 t30 e30 t31 e31 t32 e32 t33 e33 t34 e34 t35 e35 t36 e36;rw [hzl] at e24 e25 e26 e27 e28 e29 e30 e31 e32 e33 e34 e35 e36;have hh2:ag j3:=by rw [e2]; exact (qw hh).1
 have p23:t23:=by rw [e23]; exact ⟨_,rfl,rfl,hh⟩
 have hg1:=mw (z:=z) (h:=j3) hg;have hl1:(eF z j3 xs).length<=1000:=by rw [pF]; exact hl
 have hg2:=wN (h:=j1) hg1;have hl2:(lj j1 (eF z j3 xs)).length<=1000:=by rw [Af]; exact hl1
 have hg3:=mw (z:=z) (h:=j3) hg2;have hl3:(eF z j3 (lj j1 (eF z j3 xs))).length<=1000:=by rw [pF]; exact hl2
 have eB:gu z j1 xs=eF z j3 (lj j1 (eF z j3 xs)):=by unfold gu; rw [← e2]
 have bad:∀ {e:Int},e≠0->adn z j1 xs=e->(IV.tup [y3 (ED (adn z j1 xs) z),.int .i64 (adn z j1 xs)],aH (bq (adn z j1 xs) (gu z j1 xs)) (bq (adn z j1 xs) ts) (bq (adn z j1 xs) rs) (bq (adn z j1 xs) us) (bq (adn z j1 xs) es)) =
   (IV.tup [IV.agg [.int .i64 0,.int .i64 0,.int .u64 0,.int .i64 0,.int .u64 0,.int .i64 0,.int .u64 0,.int .i64 0,.int .u64 0,.int .i64 0,.int .u64 0,.int .i64 0,.int .i64 0,.sl 0,.sl 1,.sl 2,.sl 3,.int .i64 0,.int .u64 0,.int .i64 0,.int .u64 0,.int .i64 0,.int .u64 0,.sl 4],.int .i64 e],
    [aq.row 79 aM [],aq.row 99 jt [],aq.row 101 ie [],aq.row 3 [IntKind.i64] [],aq.row 103 dE []].map uR):=by
  rintro e he rfl;have h1:∀ l,bq (adn z j1 xs) l=[]:=fun l=>if_pos he
  have h2:ED (adn z j1 xs) z=List.replicate 19 0:=if_pos he;rw [h1,h1,h1,h1,h1,h2]
  rfl
 have p36:t36:=by
  rw [e36];refine ⟨⟨z,xs,ts,rs,us,es,j3,rfl,rfl,hz,hg,hh2,hl⟩,?_⟩;rw [dp];refine ⟨fun h24=>⟨⟨z,_,ts,rs,us,es,j1,rfl,rfl,hz.1.1,hg1,hh,hl1⟩,?_⟩,fun h24=>?_⟩
  ·have c1:¬ nK z (dQ j1) xs≠0:=by rw [← e2,← e24]; simpa using h24
   rw [dp];refine ⟨fun h26=>⟨p23,⟨z,_,ts,rs,us,es,j3,rfl,rfl,hz,hg2,hh2,hl2⟩,?_⟩,fun h26=>?_⟩
   ·have c2:¬ eD j1 (eF z (dQ j1) xs)≠0:=by rw [← e2,← e26]; simpa using h26
    rw [dp];refine ⟨fun h30=>⟨⟨_,rfl,rfl,hg3,Nat.le_trans hl3 (by decide)⟩,?_⟩,fun h30=>?_⟩
    ·have c3:¬ nK z (dQ j1) (lj j1 (eF z (dQ j1) xs))≠0:=by rw [← e2,← e30]; simpa using h30
     have eE:adn z j1 xs=t31:=by unfold adn; rw [if_neg c1,if_neg c2,if_neg c3,eB,e31]
     rw [ah];refine ⟨fun h31=>bad h31 eE,fun h31=>?_⟩
     rw [e35];refine ⟨⟨z,_,ts,rs,us,es,rfl,rfl,hz.1.1,Nat.le_trans hl3 (by decide),hs⟩,?_⟩
     rw [eE,h31,eB]
     rfl
    ·have eE:adn z j1 xs=t30:=by unfold adn; rw [if_neg c1,if_neg c2,if_pos (by rw [← e2,← e30]; exact h30),← e2,e30]
     rw [ah];exact ⟨fun _=>bad h30 eE,fun hh=>absurd hh h30⟩
   ·have eE:adn z j1 xs=t26:=by unfold adn; rw [if_neg c1,if_pos (by rw [← e2,← e26]; exact h26),← e2,e26]
    rw [dp];refine ⟨fun hh=>absurd hh h26,fun _=>?_⟩
    rw [ah];exact ⟨fun _=>bad h26 eE,fun hh=>absurd hh h26⟩
  ·have eE:adn z j1 xs=t24:=by unfold adn; rw [if_pos (by rw [← e2,← e24]; exact h24),← e2,e24]
   rw [dp];refine ⟨fun hh=>absurd hh h24,fun _=>?_⟩
   rw [dp];refine ⟨fun hh=>absurd hh h24,fun _=>?_⟩
   rw [ah];exact ⟨fun _=>bad h24 eE,fun hh=>absurd hh h24⟩
 exact ⟨⟨p23,p36,p36⟩,p23,p36⟩
end
def Ob:FuncId->Option Vs.Spec:=fun g=>if g=oJ then some D5 else Oc g
def MgH (a:List IV):List IV:=MbN 1 6478629186925990408 a
def Mih:List IV:=MbN (-2) 5489485699857570800 []
abbrev Miz (a:List IV):Prop:=jN (MbN MbM 11968114886783561208 (MgH a)) []
theorem HY (K:KP):(comes TP { Γ:=Ob,Λ:=fun _ _=>none,Τ:=fun _=>none } 3 kU [] [] K) =(∀a,Mbo a (K (.tup (MgH Mih)) []) (Mfw (Mec 13512071919596578) (Mec 10000000000000000) (Mfe 13512071919596578 0 10000000000000000 0 []) (Mec 1) (jN (MbN 1 0 (MgH [])) []) (Miz []) (a/\a) a)) :=by delta Maa Mab Maf Mai Mav MaB MaE MaY Mbo MbM MbN MbV Mec Mfe Mfw MgH Mih Miz; refine nm ?_; kernel_rfl
def NZ:Int:=18446744073709551616+6478629186925990408
def YX:Int:=-36893488147419103232+5489485699857570800
def Po (l:List IV) (bs:List aq):Prop:=l=[]/\bs=[]
def FX:Vs.Spec:=⟨Po,fun _ _=>(.tup [fx NZ,fx YX],[])⟩
def Df:FuncId->Option Vs.Spec:=fun g=>if g=kU then some FX else Ob g
def Zw (z:L1) (xs ts rs us es:L2) (h i:Int):St:=⟨T 45 [(2,.ptr 5 0),(3,.ptr 6 0),(4,.ptr 7 0),(19,.sl 8),(20,.int .i64 3),(21,.int .i64 i)],acX xs ts rs us es++[some (.var 34 (af z 0 1 2 3 4)),some (.var 25 (fx h).cells),some (.var 34 (tU 9 10 11 12 13)),some (.row 25 [.i64,.u64] [[1,6478629186925990408],[-2,5489485699857570800],[1,6478629186925990408]])]++ig⟩
def kt (z:L1) (xs ts rs us es:L2) (h i:Int) (xs' ts' rs' us' es':L2):St:=⟨T 45 [(2,.ptr 5 0),(3,.ptr 6 0),(4,.ptr 7 0),(19,.sl 8),(20,.int .i64 3),(21,.int .i64 i)],acX xs ts rs us es++[some (.var 34 (af z 9 10 11 12 13)),some (.var 25 (fx h).cells),some (.var 34 (tU 14 15 16 17 18)),some (.row 25 [.i64,.u64] [[1,6478629186925990408],[-2,5489485699857570800],[1,6478629186925990408]])]++acX xs' ts' rs' us' es'++ig⟩
def McB (a b c d e f g h i j k l m n o p q r s t u:Int)(v:L2):L2:=bq a (gu (MbE b c d e f g h i j k l m n o p q r s t) u v)
abbrev Mei (a b c d e f g h i j k l m n o p q r s t u:Int)(v:L2)(w:Prop):Prop:=Mau a (adn (MbE b c d e f g h i j k l m n o p q r s t) u v) w
def Mgg:L2:=[[1,6478629186925990408],[(-2),5489485699857570800],[1,6478629186925990408]]
abbrev Mgl (a b c d e f g h i j k l m n o p q r s t:Int)(u v w x y:L2):Prop:=n8 (McK a b c d e f g h i j k l m n o p q r s t) (MbJ aM u v w x y [])
def Mgn (a:Nat)(b:List IV)(c:Nat):OB:=Mcz a b c aM (MdG 3 [])
def Mhh (a:L2):OB:=Mc6 dE a 79 aM (MdG 3 [])
def MiP:List IV:=Mcd 0 0 0 0 0 0 0 0 0 0 0 0 0 6 7 8 9 0 0 0 0 0 0 10
def MiX (a:Int):OB:=MdI a a 34 (Mcd 0 0 0 0 0 0 0 0 0 0 0 0 0 9 10 11 12 0 0 0 0 0 0 13) (Mbe (.row 25 (MdM []) Mgg) 79 aM (MdG 3 []))
def MjM (a:OB):OB:=Mhx 0 0 0 0 0 0 0 0 0 0 0 0 0 14 15 16 17 0 0 0 0 0 0 18 25 (MdM []) Mgg a
def MjY (a b c d e f g h i j k l m n o p q r s t:Int)(u:List IV)(v:OB):OB:=Mdl (an a b) c d e f g h i j (an a k) (an a l) (an a m) (an a n) 9 10 11 12 o p q r s t 13 25 u v
theorem rFa (Λ:FuncId->Nat->Option aB) (d:Nat) (z:L1) (xs ts rs us es:L2) (h:Int) (k:Out->St->Prop):(round (ai TP { Γ:=Df,Λ:=Λ,Τ:=fun _=>none } d) cV 5 0 (lp TP cV 0) (Zw z xs ts rs us es h 0) k) =(∀a,Mau a h (∀b,Mc1 b 24925373260635542024 a (∀c,Mau c b (∀e,Mdc e 24925373260635542024 a (∀f,MeO f z (∀g,MeR g z (∀i,MeH i z (∀j,Meg j z (∀l,Men l z (∀m,Meo m z (∀n,Mep n z (∀o,MeC o z (∀p,MeP p z (∀q,MeS q z (∀r,MdO r z (∀s,MdC s z (∀t,MdP t z (∀u,MdQ u z (∀v,MdR v z (∀w,MdS w z (∀x,MdT x z (∀y,MdU y z (∀a1,MdV a1 z (∀b1,Mbo b1 (MaS 0 0 0 3) (∀c1,Mei c1 f g i j l m n o p q r s t u v w x y a1 c xs (MiO b1 (jN (MgH (Mbw h)) []) (MfG e (Mgl f g i j l m n o p q r s t u v w x y a1 b xs ts rs us es) c1 (k .ret (Mis 45 5 c1 (Md8 xs ts rs us es (Mgn 34 MiP 79)))) (k .normal (Mf4 45 5 6 (Mf1 4 7 19 8 20 3 21 1 []) (Md8 xs ts rs us es (MjY c1 f (an c1 g) (an c1 i) (an c1 j) (an c1 l) (an c1 m) (an c1 n) (an c1 o) (an c1 p) q r s t (an c1 u) (an c1 v) (an c1 w) (an c1 x) (an c1 y) (an c1 a1) (MiK h) (MjM (Mgw (McB c1 f g i j l m n o p q r s t u v w x y a1 c xs) (bq c1 ts) (bq c1 rs) (bq c1 us) (Mhh (bq c1 es)))))))) (McL e (k .ret (Mis 45 5 e (Md8 xs ts rs us es (Mgn 34 MiP 79)))) (k .normal (Mg8 45 5 6 (Mf1 4 7 19 8 20 3 21 1 []) xs ts rs us es (Mcd f g i j l m n o p q r s t 0 1 2 3 u v w x y a1 4) (MiX h))))))))))))))))))))))))))))))) :=by delta Maa Mab Mac Mad Mae Maf Mag Mah Mai Maj Mak Mam Man Mao Map Mau Mav Maw Max Maz MaB MaC MaD MaG MaM MaN MaP MaQ MaR MaS MaV MaW Ma1 Ma4 Mba Mbe Mbl Mbn Mbo Mbq Mbs Mbw Mbx MbE MbJ MbN MbU MbV Mb7 Mcd Mcm Mcs Mcv Mcx Mcz McB McK McL Mc1 Mc6 Mdc Mdl MdC MdG MdI MdM MdO MdP MdQ MdR MdS MdT MdU MdV Md8 Meg Mei Men Meo Mep MeC MeH MeO MeP MeR MeS MfG Mf1 Mf4 Mgg Mgl Mgn Mgw MgH MgR Mg8 Mhh Mhx Mis MiK MiO MiP MiX MjM MjY; refine nj ?_; refine nm ?_; refine nj ?_; (iterate 22 refine nm ?_); kernel_rfl
theorem rFb (Λ:FuncId->Nat->Option aB) (d:Nat) (z:L1) (xs ts rs us es xs' ts' rs' us' es':L2) (h i:Int) (k:Out->St->Prop):(round (ai TP { Γ:=Df,Λ:=Λ,Τ:=fun _=>none } d) cV 5 0 (lp TP cV 0) (kt z xs ts rs us es h i xs' ts' rs' us' es') k) =(∀a,Mau a h (∀b,Mc1 b (Mby Mgg i 0 Mgg i 1) a (∀c,Mau c b (∀e,MeO e z (∀f,MeR f z (∀g,MeH g z (∀j,Meg j z (∀l,Men l z (∀m,Meo m z (∀n,Mep n z (∀o,MeC o z (∀p,MeP p z (∀q,MeS q z (∀r,MdO r z (∀s,MdC s z (∀t,MdP t z (∀u,MdQ u z (∀v,MdR v z (∀w,MdS w z (∀x,MdT x z (∀y,MdU y z (∀a1,MdV a1 z (∀b1,Mbo b1 (MaS 0 i i 3) (∀c1,Mek c1 Mgg i (∀d1,Mel d1 Mgg i (∀e1,Mdc e1 (Ma2 c1 d1) a (∀f1,Mei f1 e f g j l m n o p q r s t u v w x y a1 c xs' (Mbv i 3 (MiO b1 (Mgz c1 d1 h) (MfG e1 (Mgl e f g j l m n o p q r s t u v w x y a1 b xs' ts' rs' us' es') f1 (k .ret (Mis 45 5 f1 (Md8 xs ts rs us es (Mgn 34 MiP 79)))) (k .normal (Mf4 45 5 6 (Mf1 4 7 19 8 20 3 21 (McR i) []) (Md8 xs ts rs us es (MjY f1 e (an f1 f) (an f1 g) (an f1 j) (an f1 l) (an f1 m) (an f1 n) (an f1 o) (an f1 p) q r s t (an f1 u) (an f1 v) (an f1 w) (an f1 x) (an f1 y) (an f1 a1) (MiK h) (MjM (Mgw (McB f1 e f g j l m n o p q r s t u v w x y a1 c xs') (bq f1 ts') (bq f1 rs') (bq f1 us') (Mhh (bq f1 es')))))))) (McL e1 (k .ret (Mis 45 5 e1 (Md8 xs ts rs us es (Mgn 34 MiP 79)))) (k .normal (Mf4 45 5 6 (Mf1 4 7 19 8 20 3 21 (McR i) []) (Md8 xs ts rs us es (Mdl e f g j l m n o p q r s t 9 10 11 12 u v w x y a1 13 25 (MiK h) (MjM (Mgw xs' ts' rs' us' (Mhh es')))))))))) (k MbI (Mcx 45 2 5 4 6 [] (Md8 xs ts rs us es (Mdl e f g j l m n o p q r s t 7 8 9 10 u v w x y a1 11 34 (Mcd 0 0 0 0 0 0 0 0 0 0 0 0 0 12 13 14 15 0 0 0 0 0 0 16) (Mgw xs' ts' rs' us' (Mhh es')))))))))))))))))))))))))))))))))) :=by delta Maa Mab Mac Mad Mae Maf Mag Mah Mai Maj Mak Mal Mam Man Mao Map Maq Mar Mau Mav Maw Max Maz MaA MaB MaC MaD MaG MaM MaN MaP MaQ MaR MaS MaV MaW MaX Ma1 Ma2 Ma4 Mba Mbe Mbl Mbn Mbo Mbp Mbq Mbs Mbv Mbw Mbx Mby MbE MbI MbJ MbN MbU MbV Mb7 Mcd Mcm Mcs Mcv Mcx Mcz McB McK McL McR Mc1 Mc6 Mdc Mdl MdC MdG MdM MdO MdP MdQ MdR MdS MdT MdU MdV Md8 Meg Mei Mek Mel Men Meo Mep MeC MeG MeH MeO MeP MeR MeS MfG Mf1 Mf4 Mgg Mgl Mgn Mgw Mgz Mhh Mhx Mis MiK MiO MiP MjM MjY; refine nj ?_; refine nm ?_; refine nj ?_; (iterate 24 refine nm ?_); kernel_rfl
def EN (i:Nat):Int:=if i=1 then YX else NZ
def xy (z:L1) (h:Int):Nat->Nat->L2->L2 × Int
 | 0,_,xs=>(xs,0)
 | m+1,i,xs=>if bG (az (EN i) h)≠0 then ([],bG (az (EN i) h)) else if adn z (aep (az (EN i) h)) xs≠0 then ([],adn z (aep (az (EN i) h)) xs) else xy z h m (i+1) (gu z (aep (az (EN i) h)) xs)
def qA (z:L1) (h:Int) (xs:L2):L2:=(xy z h 3 0 xs).1
def gR (z:L1) (h:Int) (xs:L2):Int:=(xy z h 3 0 xs).2
def Ld (z:L1) (h:Int) (xs ts rs us es:L2):Prop:=Ch z/\aY xs/\ag h/\xs.length<=1000/\zI ts rs us es
def pFo (n0:Nat) (st:St) (z:L1) (xs ts rs us es:L2) (h:Int):Prop:=Ld z h xs ts rs us es/\n0=5/\st=Zw z xs ts rs us es h 0
def n6:aB:=fun n0 st K=>∃z xs ts rs us es h,pFo n0 st z xs ts rs us es h/\br (gR z h xs != 0) (K .ret ⟨T 45 [(4,.ptr 5 0),(5,.int .i64 (gR z h xs))],acX xs ts rs us es++[some (.var 34 (tU 6 7 8 9 10))]++ig⟩)
 (K (.exit 0) ⟨T 45 [(2,.ptr 5 0),(4,.ptr 6 0)],acX xs ts rs us es++[some (.var 34 (af z 7 8 9 10 11)),some (.var 34 (tU 12 13 14 15 16))]++acX (qA z h xs) ts rs us es++ig⟩)
def mc:Know:={ Γ:=Df,Λ:=fun f i=>if f=cV then (if i=0 then some n6 else none) else none,Τ:=fun _=>none }
theorem OY (z:L1) (xs ts rs us es:L2) (h:Int) (K:KP):(comes TP mc 3 cV [.agg (af z 0 1 2 3 4),fx h] (aH xs ts rs us es) K) =(Po [] []/\(∃a:L1,∃b:L2,∃c:L2,∃d:L2,∃e:L2,∃f:L2,∃g:Int,Mcs (pFo 5 (Mg8 45 5 6 (Mf1 4 7 19 8 20 3 21 0 []) xs ts rs us es (Mi1 z) (MiX h)) a b c d e f g) (gR a g b) (K (Mjc (gR a g b)) MgA) (K (McT (Mb9 a) (Mca a) (Mcb a) (Mcj a) (Mce a) (Mcf a) (Mcg a) (Mck a) (McE a) (McI a) (MbX a) (Mci a) (MbY a) (MbZ a) (Mb0 a) (Mb1 a) (Mb2 a) (Mb3 a) (Mb4 a) MbD) (Mfl (qA a g b) c d e f)))) :=by kernel_rfl
def zG:Vs.Spec:=⟨n8,fun l bs=>(.tup [SZ (gR (du l) (v2 l 1) (aA bs 0)) l,.int .i64 (gR (du l) (v2 l 1) (aA bs 0))],
 aH (bq (gR (du l) (v2 l 1) (aA bs 0)) (qA (du l) (v2 l 1) (aA bs 0))) (bq (gR (du l) (v2 l 1) (aA bs 0)) (aA bs 1)) (bq (gR (du l) (v2 l 1) (aA bs 0)) (aA bs 2)) (bq (gR (du l) (v2 l 1) (aA bs 0)) (aA bs 3)) (bq (gR (du l) (v2 l 1) (aA bs 0)) (aA bs 4)))⟩
def Oa:FuncId->Option Vs.Spec:=fun g=>if g=cV then some zG else Df g
theorem Z3 (z:L1) (xs ts rs us es:L2) (h:Int) (K:KP):(comes TP { Γ:=Oa,Λ:=fun _ _=>none,Τ:=fun _=>none } 3 tD [.agg (af z 0 1 2 3 4),fx h] (aH xs ts rs us es) K) =(∀a,Mau a h (∀b,MdP b z (∀c,MeO c z (∀d,MeR d z (∀e,MeH e z (∀f,Meg f z (∀g,Men g z (∀i,Meo i z (∀j,Mep j z (∀k,MeC k z (∀l,MeP l z (∀m,MeS m z (∀n,MdO n z (∀o,MdC o z (∀p,MdQ p z (∀q,MdR q z (∀r,MdS r z (∀s,MdT s z (∀t,MdU t z (∀u,MdV u z (∀v,Mei v c d e f g i j k l m n o b p q r s t u a xs (∀w,Mau w (gR (MbE c d e f g i j k l m n o b p q r s t u) a xs) (∀x,Mbo x (Mgl c d e f g i j k l m n o b p q r s t u h xs ts rs us es) (Mcm b 0 (x/\K (McT (an v c) (an v d) (an v e) (an v f) (an v g) (an v i) (an v j) (an v k) (an v l) (an v m) (an v n) (an v o) (an v b) (an v p) (an v q) (an v r) (an v s) (an v t) (an v u) (MaY v)) (Mfl (McB v c d e f g i j k l m n o b p q r s t u a xs) (bq v ts) (bq v rs) (bq v us) (bq v es))) (x/\K (McT (an w c) (an w d) (an w e) (an w f) (an w g) (an w i) (an w j) (an w k) (an w l) (an w m) (an w n) (an w o) (an w b) (an w p) (an w q) (an w r) (an w s) (an w t) (an w u) (MaY w)) (Mfl (bq w (qA (MbE c d e f g i j k l m n o b p q r s t u) a xs)) (bq w ts) (bq w rs) (bq w us) (bq w es))))))))))))))))))))))))))) :=by delta Maa Mab Mad Maf Mai Maj Mak Mau Maw Max MaB MaC MaD MaN MaP MaQ MaR MaY Mbo Mbw Mbx MbE MbJ Mcm Mcv McB McK McT MdC MdO MdP MdQ MdR MdS MdT MdU MdV Meg Mei Men Meo Mep MeC MeH MeO MeP MeR MeS Mfl Mgl; refine nj ?_; (iterate 22 refine nm ?_); kernel_rfl
def vt (z:L1) (h:Int) (xs:L2):L2:=if z.getD 12 0=0 then gu z h xs else qA z h xs
def tq (z:L1) (h:Int) (xs:L2):Int:=if z.getD 12 0=0 then adn z h xs else gR z h xs
def TD:Vs.Spec:=⟨n8,fun l bs=>(.tup [SZ (tq (du l) (v2 l 1) (aA bs 0)) l,.int .i64 (tq (du l) (v2 l 1) (aA bs 0))],
 aH (bq (tq (du l) (v2 l 1) (aA bs 0)) (vt (du l) (v2 l 1) (aA bs 0))) (bq (tq (du l) (v2 l 1) (aA bs 0)) (aA bs 1)) (bq (tq (du l) (v2 l 1) (aA bs 0)) (aA bs 2)) (bq (tq (du l) (v2 l 1) (aA bs 0)) (aA bs 3)) (bq (tq (du l) (v2 l 1) (aA bs 0)) (aA bs 4)))⟩
def Hy:FuncId->Option Vs.Spec:=fun g=>if g=tD then some TD else Oa g
section
open Go.IntWalk
theorem Mv:∀ {g:FuncId} {sp:Vs.Spec},Ob g=some sp->aa TP g sp:=ao Vp Mw
theorem Uv:KnowOk TP { Γ:=Ob,Λ:=fun _ _=>none,Τ:=fun _=>none } 3:=aF (fun g sp h=>Mv h) (fun _ _=>rfl) (fun _=>rfl) 3
theorem jq:ag NZ:=⟨by decide,by decide⟩
theorem yX:ag YX:=⟨by decide,by decide⟩
theorem tr (n:Int):IV.agg [.int .i64 n,.int .u64 0]=fx (n*18446744073709551616):=(ae6 ⟨by decide,by decide⟩ (by omega)).symm
theorem Qg:IV.agg [.int .i64 1,.int .u64 6478629186925990408]=fx NZ:=rfl
theorem Jc:aa TP kU FX:=by
 refine ab 3 Uv ?_;rintro l bs _ _ ⟨rfl,rfl⟩;rw [HY]; delta Maa Mab Maf Mai Mav MaB MaE MaY Mbo MbM MbN MbV Mec Mfe Mfw MgH Mih Miz;rintro t1 e1;have p1:t1:=by rw [e1]; rfl
 refine ⟨⟨rfl,rfl,by decide,by decide⟩,⟨rfl,rfl,by decide,by decide⟩,⟨_,_,by rw [tr,tr],rfl,⟨by decide,by decide⟩,⟨by decide,by decide⟩⟩,⟨rfl,rfl,by decide,by decide⟩,⟨_,_,by rw [tr,Qg],rfl,⟨by decide,by decide⟩,jq⟩,⟨-6478629186925990408,NZ,rfl,rfl,⟨by decide,by decide⟩,jq⟩,⟨p1,p1⟩,p1⟩
theorem Mu:∀ {g:FuncId} {sp:Vs.Spec},Df g=some sp->aa TP g sp:=ao Jc Mv
theorem Ps (x:Int):an 0 x=x:=rfl
theorem Pr (l:L2):bq 0 l=l:=rfl
theorem ib {z:L1} {h:Int} {xs:L2} (hg:aY xs):aY (gu z h xs):=mw (wN (mw hg))
theorem jF (z:L1) (h:Int) (xs:L2):(gu z h xs).length=xs.length:=by unfold gu; rw [pF,Af,pF]
def SFo (z:L1) (xs ts rs us es:L2) (h:Int):Option (Nat × L2)->St
 | none=>Zw z xs ts rs us es h 0
 | some (i,bd)=>kt z xs ts rs us es h i bd ts rs us es
def IFo (z:L1) (xs:L2) (h:Int):Option (Nat × L2)->Prop
 | none=>True
 | some (i,bd)=>1<=i/\i<=3/\aY bd/\bd.length<=1000/\xy z h (3 - i) i bd=xy z h 3 0 xs
def mFo:Option (Nat × L2)->Nat
 | none=>4
 | some (i,_)=>3 - i
theorem lFo (d n0:Nat):aG (ai TP mc d) cV n0 0 (lp TP cV 0) n6:=by
 intro st K hst;obtain ⟨z,xs,ts,rs,us,es,h,⟨⟨hz,hg,hh,hl,hs⟩,rfl,rfl⟩,hK⟩:=hst;rw [ah] at hK;have hzl:([z.getD 0 0,z.getD 1 0,z.getD 2 0,z.getD 3 0,z.getD 4 0,z.getD 5 0,z.getD 6 0,z.getD 7 0,z.getD 8 0,z.getD 9 0,z.getD 10 0,z.getD 11 0,z.getD 12 0,z.getD 13 0,z.getD 14 0,z.getD 15 0,z.getD 16 0,z.getD 17 0,z.getD 18 0]:L1)=z:=lZ hz.1.1.1;have fin:∀ {r:L2 × Int},r=xy z h 3 0 xs->gR z h xs=r.2/\qA z h xs=r.1:=by rintro r rfl; exact ⟨rfl,rfl⟩
 refine aC (SFo z xs ts rs us es h) (IFo z xs h) mFo ?_ (a:=none) trivial;rintro (_ | ⟨i,bd⟩) hI k hn hk
 ·show round (ai TP { Γ:=Df,Λ:=_,Τ:=fun _=>none } d) _ _ _ _ (Zw z xs ts rs us es h 0) k
  rw [rFa]; delta Maa Mab Mac Mad Mae Maf Mag Mah Mai Maj Mak Mam Man Mao Map Mau Mav Maw Max Maz MaB MaC MaD MaG MaM MaN MaP MaQ MaR MaS MaV MaW Ma1 Ma4 Mba Mbe Mbl Mbn Mbo Mbq Mbs Mbw Mbx MbE MbJ MbN MbU MbV Mb7 Mcd Mcm Mcs Mcv Mcx Mcz McB McK McL Mc1 Mc6 Mdc Mdl MdC MdG MdI MdM MdO MdP MdQ MdR MdS MdT MdU MdV Md8 Meg Mei Men Meo Mep MeC MeH MeO MeP MeR MeS MfG Mf1 Mf4 Mgg Mgl Mgn Mgw MgH MgR Mg8 Mhh Mhx Mis MiK MiO MiP MiX MjM MjY;rintro j1 rfl t2 e2 j3 rfl t4 e4 t5 rfl t6 rfl t7 rfl t8 rfl t9 rfl t10 rfl t11 rfl t12 rfl t13 rfl t14 rfl t15 rfl t16 rfl t17 rfl t18 rfl t19 rfl t20 rfl t21 rfl t22 rfl t23 rfl t24 e24 t25 e25;rw [hzl] at e25;have p24:t24:=by rw [e24]; omega
  have hm:ag j3:=by rw [e2]; exact dI _
  have eR:xy z j1 3 0 xs=if t4≠0 then ([],t4) else if t25≠0 then ([],t25) else xy z j1 2 1 (gu z j3 xs):=by
   rw [e4,e25,e2]; rfl
  refine ⟨p24,p24,⟨NZ,j1,by rw [Qg],rfl,jq,hh⟩,?_⟩
  rw [dp];refine ⟨fun h4=>⟨⟨z,xs,ts,rs,us,es,j3,rfl,rfl,hz,hg,hm,hl,hs⟩,?_⟩,fun h4=>?_⟩
  ·rw [if_neg (by simpa using h4)] at eR
   rw [ah];refine ⟨fun h25=>?_,fun h25=>?_⟩
   ·rw [if_pos h25] at eR;rw [(fin eR.symm).1] at hK;exact hk _ _ (by simp) (hK.1 h25)
   ·rw [if_neg (by simpa using h25)] at eR
    have:=hn (some (1,gu z j3 xs)) ⟨by omega,by omega,ib hg,by rw [jF]; exact hl,eR.symm⟩ (by show 3 - 1 < 4; omega)
    rw [h25];simp only [Ps,Pr];rw [hzl];exact this
  ·rw [if_pos h4] at eR;rw [(fin eR.symm).1] at hK;rw [ah];exact ⟨fun _=>hk _ _ (by simp) (hK.1 h4),fun hh=>absurd hh h4⟩
 ·obtain ⟨i1,i3,hgb,hlb,hR⟩:=hI;show round (ai TP { Γ:=Df,Λ:=_,Τ:=fun _=>none } d) _ _ _ _ (kt z xs ts rs us es h i bd ts rs us es) k
  rw [rFb]; delta Maa Mab Mac Mad Mae Maf Mag Mah Mai Maj Mak Mal Mam Man Mao Map Maq Mar Mau Mav Maw Max Maz MaA MaB MaC MaD MaG MaM MaN MaP MaQ MaR MaS MaV MaW MaX Ma1 Ma2 Ma4 Mba Mbe Mbl Mbn Mbo Mbp Mbq Mbs Mbv Mbw Mbx Mby MbE MbI MbJ MbN MbU MbV Mb7 Mcd Mcm Mcs Mcv Mcx Mcz McB McK McL McR Mc1 Mc6 Mdc Mdl MdC MdG MdM MdO MdP MdQ MdR MdS MdT MdU MdV Md8 Meg Mei Mek Mel Men Meo Mep MeC MeG MeH MeO MeP MeR MeS MfG Mf1 Mf4 Mgg Mgl Mgn Mgw Mgz Mhh Mhx Mis MiK MiO MiP MjM MjY;rintro j1 rfl t2 e2 j3 rfl t4 rfl t5 rfl t6 rfl t7 rfl t8 rfl t9 rfl t10 rfl t11 rfl t12 rfl t13 rfl t14 rfl t15 rfl t16 rfl t17 rfl t18 rfl t19 rfl t20 rfl t21 rfl t22 rfl t23 e23 t24 e24 t25 e25 t26 e26 t27 e27;rw [hzl] at e27;have hm:ag j3:=by rw [e2]; exact dI _
  rw [al];refine ⟨fun hi=>?_,fun hi=>?_⟩
  ·have hi':i < 3:=by omega
   have p23:t23:=by rw [e23]; omega
   have ek:t24*18446744073709551616+t25=EN i/\IV.agg [.int .i64 t24,.int .u64 t25]=fx (EN i)/\ag (EN i):=by
    rw [e24,e25];rcases (by omega:i=1∨i=2) with rfl | rfl
    ·exact ⟨rfl,rfl,yX⟩
    ·exact ⟨rfl,rfl,jq⟩
   rw [← e24,← e25,ek.1] at e2;rw [ek.1] at e26;have eR:xy z j1 (3 - i) i bd=if t26≠0 then ([],t26) else if t27≠0 then ([],t27) else xy z j1 (3 - (i+1)) (i+1) (gu z j3 bd):=by
    rw [e26,e27,e2,show 3 - i=(3 - (i+1))+1 by omega]; rfl
   rw [hR] at eR;refine ⟨p23,p23,⟨EN i,j1,by rw [ek.2.1],rfl,ek.2.2,hh⟩,?_⟩
   rw [dp];refine ⟨fun h4=>⟨⟨z,bd,ts,rs,us,es,j3,rfl,rfl,hz,hgb,hm,hlb,hs⟩,?_⟩,fun h4=>?_⟩
   ·rw [if_neg (by simpa using h4)] at eR
    rw [ah];refine ⟨fun h25=>?_,fun h25=>?_⟩
    ·rw [if_pos h25] at eR;rw [(fin eR.symm).1] at hK;exact hk _ _ (by simp) (hK.1 h25)
    ·rw [if_neg (by simpa using h25)] at eR
     have:=hn (some (i+1,gu z j3 bd)) ⟨by omega,by omega,ib hgb,by rw [jF]; exact hlb,eR.symm⟩ (by show 3 - (i+1) < 3 - i; omega)
     rw [h25,show IntKind.i64.wrap ((i:Int)+1)=((i+1:Nat):Int) by rw [i64_in _ (by omega)]; rfl]
     simp only [Ps,Pr];rw [hzl];exact this
   ·rw [if_pos h4] at eR;rw [(fin eR.symm).1] at hK;rw [ah];exact ⟨fun _=>hk _ _ (by simp) (hK.1 h4),fun hh=>absurd hh h4⟩
  ·have:i=3:=by omega
   subst this;obtain ⟨q1,q2⟩:=fin hR;rw [q1,q2] at hK;exact hk _ _ (by simp) (hK.2 rfl)
theorem P7:KnowOk TP mc 3:=cP (f0:=cV) (L:=n6) (fun g sp h=>Mu h) rfl (fun g G h=>(by cases h)) lFo 3
theorem Ma {z:L1} {xs ts rs us es:L2} {h:Int} (hz:z.length=19) (E:L1->Int->L2->Int) (B:L1->Int->L2->L2):
  (IV.tup [SZ (E (du [IV.agg (af z 0 1 2 3 4),fx h]) (v2 [IV.agg (af z 0 1 2 3 4),fx h] 1) xs) [IV.agg (af z 0 1 2 3 4),fx h],.int .i64 (E (du [IV.agg (af z 0 1 2 3 4),fx h]) (v2 [IV.agg (af z 0 1 2 3 4),fx h] 1) xs)],
   aH (bq (E (du [IV.agg (af z 0 1 2 3 4),fx h]) (v2 [IV.agg (af z 0 1 2 3 4),fx h] 1) xs) (B (du [IV.agg (af z 0 1 2 3 4),fx h]) (v2 [IV.agg (af z 0 1 2 3 4),fx h] 1) xs)) (bq (E (du [IV.agg (af z 0 1 2 3 4),fx h]) (v2 [IV.agg (af z 0 1 2 3 4),fx h] 1) xs) ts) (bq (E (du [IV.agg (af z 0 1 2 3 4),fx h]) (v2 [IV.agg (af z 0 1 2 3 4),fx h] 1) xs) rs) (bq (E (du [IV.agg (af z 0 1 2 3 4),fx h]) (v2 [IV.agg (af z 0 1 2 3 4),fx h] 1) xs) us) (bq (E (du [IV.agg (af z 0 1 2 3 4),fx h]) (v2 [IV.agg (af z 0 1 2 3 4),fx h] 1) xs) es)) =
  (IV.tup [y3 (ED (E z h xs) z),.int .i64 (E z h xs)],aH (bq (E z h xs) (B z h xs)) (bq (E z h xs) ts) (bq (E z h xs) rs) (bq (E z h xs) us) (bq (E z h xs) es)):=by
 have e1:du [IV.agg (af z 0 1 2 3 4),fx h]=z:=sJ _ z hz rfl;have e2:v2 [IV.agg (af z 0 1 2 3 4),fx h] 1=h:=bc _ h 1 rfl;rw [e1,e2,yW _ _ z rfl]
theorem Yh {e:Int} (he:e≠0) (z:L1) (b ts rs us es:L2):(IV.tup [y3 (ED e z),.int .i64 e],aH (bq e b) (bq e ts) (bq e rs) (bq e us) (bq e es)) =
  (IV.tup [IV.agg [.int .i64 0,.int .i64 0,.int .u64 0,.int .i64 0,.int .u64 0,.int .i64 0,.int .u64 0,.int .i64 0,.int .u64 0,.int .i64 0,.int .u64 0,.int .i64 0,.int .i64 0,.sl 0,.sl 1,.sl 2,.sl 3,.int .i64 0,.int .u64 0,.int .i64 0,.int .u64 0,.int .i64 0,.int .u64 0,.sl 4],.int .i64 e],
   [aq.row 79 aM [],aq.row 99 jt [],aq.row 101 ie [],aq.row 3 [IntKind.i64] [],aq.row 103 dE []].map uR):=by
 have h1:∀ l,bq e l=[]:=fun l=>if_pos he
 have h2:ED e z=List.replicate 19 0:=if_pos he;rw [h1,h1,h1,h1,h1,h2]
 rfl
theorem Ra:aa TP cV zG:=by
 refine afC 3 P7 ?_;rintro l bs _ _ ⟨z,xs,ts,rs,us,es,h,rfl,rfl,hz,hg,hh,hl,hs⟩;have hF:zG.F [.agg (af z 0 1 2 3 4),fx h] (aH xs ts rs us es)=_:=Ma (xs:=xs) (ts:=ts) (rs:=rs) (us:=us) (es:=es) (h:=h) hz.1.1.1 gR qA;rw [hF,OY]; delta Maa Mab Mac Mad Mae Maf Mag Mah Mai Maj Mak Mam Man Mao Map Maz MaB MaC MaD MaG MaM MaN MaP MaQ MaR MaW MaY Ma1 Ma4 Mbe Mbl Mbn Mbs Mbx MbD MbJ MbR MbU MbX MbY MbZ Mb0 Mb1 Mb2 Mb3 Mb4 Mb9 Mca Mcb Mcd Mce Mcf Mcg Mci Mcj Mck Mcs Mcv Mcx McE McI McT MdG MdI MdM Meb Mfl Mf1 Mf4 Mgg MgA MgR Mg8 MiX Mi1 Mjc;refine ⟨⟨rfl,rfl⟩,z,xs,ts,rs,us,es,h,⟨⟨hz,hg,hh,hl,hs⟩,rfl,rfl⟩,?_⟩;rw [ah];refine ⟨fun hne=>Yh hne _ _ _ _ _ _,fun h0=>?_⟩
 rw [h0]
 rfl
theorem Mt:∀ {g:FuncId} {sp:Vs.Spec},Oa g=some sp->aa TP g sp:=ao Ra Mu
theorem Uu:KnowOk TP { Γ:=Oa,Λ:=fun _ _=>none,Τ:=fun _=>none } 3:=aF (fun g sp h=>Mt h) (fun _ _=>rfl) (fun _=>rfl) 3
theorem aaZ:aa TP tD TD:=by
 refine afC 3 Uu ?_;rintro l bs _ _ ⟨z,xs,ts,rs,us,es,h,rfl,rfl,hz,hg,hh,hl,hs⟩;have hF:TD.F [.agg (af z 0 1 2 3 4),fx h] (aH xs ts rs us es)=_:=Ma (xs:=xs) (ts:=ts) (rs:=rs) (us:=us) (es:=es) (h:=h) hz.1.1.1 tq vt;rw [hF,Z3]; delta Maa Mab Mad Maf Mai Maj Mak Mau Maw Max MaB MaC MaD MaN MaP MaQ MaR MaY Mbo Mbw Mbx MbE MbJ Mcm Mcv McB McK McT MdC MdO MdP MdQ MdR MdS MdT MdU MdV Meg Mei Men Meo Mep MeC MeH MeO MeP MeR MeS Mfl Mgl;have hzl:([z.getD 0 0,z.getD 1 0,z.getD 2 0,z.getD 3 0,z.getD 4 0,z.getD 5 0,z.getD 6 0,z.getD 7 0,z.getD 8 0,z.getD 9 0,z.getD 10 0,z.getD 11 0,z.getD 12 0,z.getD 13 0,z.getD 14 0,z.getD 15 0,z.getD 16 0,z.getD 17 0,z.getD 18 0]:L1)=z:=lZ hz.1.1.1;rintro j1 rfl t2 rfl t3 rfl t4 rfl t5 rfl t6 rfl t7 rfl t8 rfl t9 rfl t10 rfl t11 rfl t12 rfl t13 rfl t14 rfl t15 rfl t16 rfl t17 rfl t18 rfl t19 rfl t20 rfl t21 e21 t22 e22 t23 e23;rw [hzl] at e21 e22 ⊢;have p23:t23:=by rw [e23]; exact ⟨z,xs,ts,rs,us,es,j1,rfl,rfl,hz,hg,hh,hl,hs⟩
 rw [dp];refine ⟨fun h0=>⟨p23,?_⟩,fun h0=>⟨p23,?_⟩⟩
 ·rw [show tq z j1 xs=t21 from by unfold tq; rw [if_pos h0,e21],show vt z j1 xs=gu z j1 xs from if_pos h0,← yW t21 [IV.agg (af z 0 1 2 3 4)] z rfl]
  rfl
 ·rw [show tq z j1 xs=t22 from by unfold tq; rw [if_neg h0,e22],show vt z j1 xs=qA z j1 xs from if_neg h0,← yW t22 [IV.agg (af z 0 1 2 3 4)] z rfl]
  rfl
theorem E9:∀ {g:FuncId} {sp:Vs.Spec},Hy g=some sp->aa TP g sp:=ao aaZ Mt
end
def uW (pl:Bool) (z:L1) (h:Int) (r:L1) (m ax ay px py:Int):Int:=if pl=true then Db z h r m ax ay px py else 0
def xI (pl:Bool) (z:L1) (h:Int) (r:L1) (m ax ay px py:Int):Int:=if uW pl z h r m ax ay px py≠0 then 0 else if pl=true then Da z h r m ax ay px py else px
def xH (pl:Bool) (z:L1) (h:Int) (r:L1) (m ax ay px py:Int):Int:=if uW pl z h r m ax ay px py≠0 then 0 else if pl=true then C9 z h r m ax ay px py else py
def sI (e:Int) (ls:L2) (c:Int):L2:=if e≠0 then [] else ls++[[c]]
def ct (s:Nat) (px py e:Int):IV:=.agg [.sl s,.int .i64 (px / 18446744073709551616),.int .u64 (px % 18446744073709551616),.int .i64 (py / 18446744073709551616),.int .u64 (py % 18446744073709551616),.int .i64 e]
def Mht (a b c d e:Int):IV:=MeM (Maj a b c d (MaY e))
def Mib (a b c d e:Int):List IV:=Maf a (fx b::Mc0 c d (Mbw e))
def MjH (a b:Int):IV:=MeM (Mbc a a b b MbD)
theorem We (z:L1) (xs ts rs us es ls:L2) (i c m ax ay px py e h:Int) (K:KP):(comes TP { Γ:=Hy,Λ:=fun _ _=>none,Τ:=fun _=>none } 3 agb [.agg (af z 0 1 2 3 4),.int .i64 i,.int .i64 c,fx m,vx ax ay,ct 5 px py 0,fx h,.bool true] (aH xs ts rs us es++[.ro [.i64] ls]) K) =(∀a,Mau a h (∀b,Mau b m (∀d,Mau d ax (∀f,Mau f ay (∀g,Mau g px (∀j,Mau j py (∀k,Mau k (sn (dv (Mcv (Mb9 z) (Mca z) (Mcb z) (Mcj z) (Mce z) (Mcf z) (Mcg z) (Mck z) (McE z) (McI z) (MbX z) (Mci z) (MbY z) (MbZ z) (Mb0 z) (Mb1 z) (Mb2 z) (Mb3 z) (Mb4 z) (Mib i m ax ay h)) 0) a (MeW xs i) b d f) (∀l,Mau l k (∀n,Mau n (sm (dv (Mcv (Mb9 z) (Mca z) (Mcb z) (Mcj z) (Mce z) (Mcf z) (Mcg z) (Mck z) (McE z) (McI z) (MbX z) (Mci z) (MbY z) (MbZ z) (Mb0 z) (Mb1 z) (Mb2 z) (Mb3 z) (Mb4 z) (Mib i m ax ay h)) 0) a (MeW xs i) b d f) (∀o,Mau o n (∀p,Mge p (g+l) (j+o) (∀q,MiS q (g+l) (j+o) (∀r,MiT r (g+l) (j+o) (∀s,Mau s (uA (dv (Mcv (Mb9 z) (Mca z) (Mcb z) (Mcj z) (Mce z) (Mcf z) (Mcg z) (Mck z) (McE z) (McI z) (MbX z) (Mci z) (MbY z) (MbZ z) (Mb0 z) (Mb1 z) (Mb2 z) (Mb3 z) (Mb4 z) (Mib i m ax ay h)) 0) a (MeW xs i) b d f) (MbV (Ma6 ((0+List.length ls)*8)) (Mhg (Mg7 1 ls) 8) (Y8 (Mcv (Mb9 z) (Mca z) (Mcb z) (Mcj z) (Mce z) (Mcf z) (Mcg z) (Mck z) (McE z) (McI z) (MbX z) (Mci z) (MbY z) (MbZ z) (Mb0 z) (Mb1 z) (Mb2 z) (Mb3 z) (Mb4 z) (Mib i m ax ay h)) (Mfl xs ts rs us es)) (McL s (K (Mht 0 0 0 0 s) (MbR 3 MaQ [])) (Mcs (MgS px py k n [] []) p (K (Mht 0 0 0 0 p) (MbR 3 MaQ [])) (K (MjH q r) (Mhz 3 MaQ (MiM (Mg7 1 ls) c)))))))))))))))))))) :=by delta Maa Mab Mad Mae Maf Mah Mai Maj Mak Mau Mav MaB MaC MaD MaN MaP MaQ MaR MaU MaW MaY Ma6 Mbc Mbw Mbx MbD MbJ MbR MbV MbX MbY MbZ Mb0 Mb1 Mb2 Mb3 Mb4 Mb9 Mca Mcb Mce Mcf Mcg Mci Mcj Mck Mcs Mcv McE McI McL Mc0 MeM MeW Mfl Mge MgS Mg7 Mhg Mht Mhz MiM Mib MiS MiT MjH; (iterate 6 refine nj ?_); refine nm ?_; refine nj ?_; refine nm ?_; refine nj ?_; (iterate 4 refine nm ?_); kernel_rfl
theorem Ti (z:L1) (xs ts rs us es ls:L2) (i c m ax ay px py e h:Int) (K:KP):(comes TP { Γ:=Hy,Λ:=fun _ _=>none,Τ:=fun _=>none } 3 agb [.agg (af z 0 1 2 3 4),.int .i64 i,.int .i64 c,fx m,vx ax ay,ct 5 px py 0,fx h,.bool false] (aH xs ts rs us es++[.ro [.i64] ls]) K) =(Mav (Ma6 ((0+List.length ls)*8)) (Mhg (Mg7 1 ls) 8) (K (MjH px py) (Mhz 3 MaQ (MiM (Mg7 1 ls) c)))) :=by kernel_rfl
def Pp (l:List IV) (bs:List aq):Prop:=∃z xs ts rs us es ls i c m ax ay px py h pl,l=[.agg (af z 0 1 2 3 4),.int .i64 i,.int .i64 c,fx m,vx ax ay,ct 5 px py 0,fx h,.bool pl]/\bs=aH xs ts rs us es++[.ro [.i64] ls]/\Cg z/\aY xs/\(0<=i/\i < xs.length)/\ag m/\(ag ax/\ag ay)/\(ag px/\ag py)/\ag h/\ls.length<=1000000
end Go.Vs.RF
