import Derived.Test.YtemefnjekgjciaaGreatProg
import Derived.Test.YtemefnjekgjciaaGreatC1
import Derived.Test.YtemefnjekgjciaaGreatC2
import Derived.Test.YtemefnjekgjciaaGreatB1
import Derived.Test.YtemefnjekgjciaaGreatB2
import Derived.Test.YtemefnjekgjciaaGreatB3
import Derived.Test.YtemefnjekgjciaaGreatB4
set_option linter.unusedVariables false
set_option linter.unusedSimpArgs false
noncomputable section
set_option maxRecDepth 100000
namespace Go.Vs.RF
open Go Go.Vs
abbrev aau:FuncId:=10
section
open Go.Proofs Go.IntWalk
theorem afd (x y:Int):dH (decide (x < 0) != decide (y < 0)) (cD x*cD y)=x*y:=by
 unfold dH cD;by_cases h0:x < 0 <;> by_cases h1:y < 0 <;> simp [h0,h1,Int.neg_mul,Int.mul_neg]
theorem adE (m:Int):decide (m*18446744073709551616 < 0)=decide (m < 0):=by
 rw [Bool.eq_iff_iff,decide_eq_true_iff,decide_eq_true_iff]; omega
theorem adL (m:Int):cD (m*18446744073709551616)=cD m*18446744073709551616:=by unfold cD; split <;> split <;> omega
theorem acg (m y:Int):az (m*18446744073709551616) y=m*y:=by
 unfold az;rw [adE,adL];have e:cD m*18446744073709551616*cD y=cD m*cD y*18446744073709551616:=by rw [Int.mul_assoc,Int.mul_comm 18446744073709551616,← Int.mul_assoc]
 rw [e];have:(cD m*cD y*18446744073709551616+9223372036854775808) / 18446744073709551616=cD m*cD y:=by
  generalize cD m*cD y=q; omega
 rw [this,afd]
theorem ael (x:Int):az (-x) (-x)=az x x:=by rw [abS,aa3,Int.neg_neg]
end
section
open Go.Proofs Go.IntWalk
theorem uF (f:FuncId) (a b:Int):nL f 0 a b=T4 f a b:=if_pos rfl
theorem uE (f:FuncId) (a b:Int):CI f 0 a b=T9 f a b:=if_pos rfl
section
variable {n e s a b g h:Int}
end
theorem aeJ {x y:Int} (hx:0<=x) (hy:0 < y):Ew x y=(2*(x*18446744073709551616)+y) / (2*y):=by
 unfold Ew cD;rw [if_neg (show ¬ x < 0 by omega),if_neg (show ¬ y < 0 by omega),decide_eq_false (show ¬ x < 0 by omega),decide_eq_false (show ¬ y < 0 by omega)]
 rfl
theorem adQ (a b:Int):T4 fi a b=iY a b:=rfl
theorem adP (a b:Int):T9 fi a b=fF a b:=rfl
theorem afB (a b:Int):T4 dW a b=C6 a:=rfl
theorem afA (a b:Int):T9 dW a b=zk a:=rfl
theorem acP {a b d:Int} (hb:b≠0) (h:Ew a b=d) (m:ag d):iY a b=0/\fF a b=d:=by
 unfold iY fF;rw [if_neg hb,if_neg hb,h,cK m,abY m];exact ⟨rfl,rfl⟩
section
variable {g a b x y s h:Int}
theorem ags {R F m1 m2 m3 d1 d2:Int} (p:ag (az x x)) (q:ag (az y y)) (r:ag (az x x+az y y)) (t:ag (az s s)) (hR:az x x+az y y+az s s=R) (u:ag R) (u0:0 < R)
  (hF:gG (R*18446744073709551616)=F) (F0:F≠0) (e1:az a b=m1) (v1:ag m1) (e2:az g m1=m2) (v2:ag m2) (e3:az m2 h=m3) (v3:ag m3)
  (e4:Ew m3 R=d1) (v4:ag d1) (e5:Ew d1 F=d2) (v5:ag d2):kE g a b x y s h=0/\kN g a b x y s h=d2:=by
 unfold kE kN;rw [G1 p q,abY r,G2 p q,cK r];generalize hn:az x x+az y y=n at *;have u1:TU 0 s=0:=(uF _ _ _).trans (cK t);have w1:q1N 0 s=az s s:=(uE _ _ _).trans (abY t);have u2:R9 n 0 s=0:=by unfold R9 q2E; rw [u1,w1]; exact (uF _ _ _).trans (cK (by rw [hR]; exact u))
 have w2:Sa n 0 s=R:=by unfold Sa; rw [u1,w1]; exact (uE _ _ _).trans ((abY (by rw [hR]; exact u)).trans hR)
 have u3:R8 n 0 s=0:=by unfold R8; rw [u2,w2]; rw [uF,afB]; exact if_neg (by omega)
 have w3:Y6 n 0 s=F:=by unfold Y6; rw [u2,w2]; rw [uE,afA]; exact (if_neg (show ¬ R < 0 by omega)).trans hF
 have u4:R7 n 0 s a b=0:=by unfold R7; rw [u3]; exact (uF _ _ _).trans (cK (by rw [e1]; exact v1))
 have w4:Y5 n 0 s a b=m1:=by unfold Y5; rw [u3]; exact (uE _ _ _).trans ((abY (by rw [e1]; exact v1)).trans e1)
 have u5:R6 n 0 s a b g=0:=by unfold R6; rw [u4,w4]; exact (uF _ _ _).trans (cK (by rw [e2]; exact v2))
 have w5:Y4 n 0 s a b g=m2:=by unfold Y4; rw [u4,w4]; exact (uE _ _ _).trans ((abY (by rw [e2]; exact v2)).trans e2)
 have u6:R5 n 0 s a b g h=0:=by unfold R5; rw [u5,w5]; exact (uF _ _ _).trans (cK (by rw [e3]; exact v3))
 have w6:Y3 n 0 s a b g h=m3:=by unfold Y3; rw [u5,w5]; exact (uE _ _ _).trans ((abY (by rw [e3]; exact v3)).trans e3)
 have u7:TT n 0 s a b g h=0:=by unfold TT; rw [u6,w6,w2]; rw [uF,adQ]; exact (acP (by omega) e4 v4).1
 have w7:Y2 n 0 s a b g h=d1:=by unfold Y2; rw [u6,w6,w2]; rw [uE,adP]; exact (acP (by omega) e4 v4).2
 constructor
 ·unfold KL; rw [u7,w7,w3]; rw [uF,adQ]; exact (acP F0 e5 v5).1
 ·unfold q8N; rw [u7,w7,w3]; rw [uE,adP]; exact (acP F0 e5 v5).2
end
theorem af3 {g a b x y s h d X Y:Int} (k:kE g a b x y s h=0/\kN g a b x y s h=d) (hX:az x d=X) (hY:az y d=Y) (mX:ag X) (mY:ag Y):
  BU g a b x y s h=0/\BT g a b x y s h=X/\BS g a b x y s h=Y:=by
 unfold BU BT BS;rw [bI,bI,bI,if_pos k.1,if_pos k.1,if_pos k.1,k.2,hX,hY];exact ⟨SA mX mY,nE _ mX mY,nE _ mX mY⟩
end
end Go.Vs.RF
namespace Go.Vs.RF
open Go Go.Proofs Go.Vs Go.IntWalk
section
variable {ns:L2} {len:Nat}
theorem Pn {ks:L2} (h:gr ns ks.length) {n:Nat} (hn:n < ns.length):(dX ns ks n).length=wt ns n:=by
 obtain ⟨⟨h1,h2,h3,_⟩,_⟩:=h n hn;unfold dX wt;rw [List.length_drop,List.length_take];omega
end
section
variable {σ:Type}
end
end Go.Vs.RF
namespace Go.Vs.RF
open Go Go.Proofs Go.Vs
section
open Go.IntWalk
theorem aeP {x y:Int} (hx:0<=x) (hy:0<=y):az x y=(x*y+9223372036854775808) / 18446744073709551616:=by
 unfold az cD;rw [if_neg (show ¬ x < 0 by omega),if_neg (show ¬ y < 0 by omega),decide_eq_false (show ¬ x < 0 by omega),decide_eq_false (show ¬ y < 0 by omega)]
 rfl
theorem abn {x y A B:Int} (hx:0<=x) (hy:0<=y) (ha:x<=A) (hb:y<=B):0<=az x y/\az x y<=(A*B+9223372036854775808) / 18446744073709551616:=by
 rw [aeP hx hy];have h0:0<=x*y:=Int.mul_nonneg hx hy;have h1:x*y<=A*B:=Int.mul_le_mul ha hb hy (by omega)
 exact ⟨Int.ediv_nonneg (by omega) (by decide),Int.ediv_le_ediv (by decide) (by omega)⟩
theorem ac8 {x y A B:Int} (hx:-A<=x/\x<=A) (hy:0<=y) (hb:y<=B):-((A*B+9223372036854775808) / 18446744073709551616)<=az x y/\az x y<=(A*B+9223372036854775808) / 18446744073709551616:=by
 by_cases h:0<=x
 ·have:=abn h hy hx.2 hb; omega
 ·have:=abn (x:=-x) (A:=A) (by omega) hy (by omega) hb
  rw [abS] at this; omega
theorem ab3 {x A:Int} (hx:-A<=x/\x<=A):0<=az x x/\az x x<=(A*A+9223372036854775808) / 18446744073709551616:=by
 by_cases h:0<=x
 ·exact abn h h hx.2 hx.2
 ·rw [← ael]; exact abn (by omega) (by omega) (by omega) (by omega)
def aaM (f:L1->Int):L2->Int
 | []=>0
 | r :: l=>f r+aaM f l
theorem abC {f g:L1->Int}:∀ (xs:L2),(∀ r∈xs,f r<=g r)->aaM f xs<=aaM g xs
 | [],_=>Int.le_refl _
 | x :: xs,h=>by
  simp only [aaM];have h1:=h x (by simp)
  have h2:=abC xs (fun r hr=>h r (List.mem_cons_of_mem _ hr))
  omega
theorem abu (c:Int) (f:L1->Int):∀ (xs:L2),aaM (fun r=>c*f r) xs=c*aaM f xs
 | []=>by simp [aaM]
 | x :: xs=>by simp only [aaM]; rw [abu c f xs,Int.mul_add]
theorem abP (c:Int):∀ (xs:L2),aaM (fun _=>c) xs=(xs.length:Int)*c
 | []=>by simp [aaM]
 | x :: xs=>by simp only [aaM,List.length_cons]; rw [abP c xs,Int.natCast_add,Int.add_mul]; omega
theorem afc {f:L1->Int} {xs:L2} (h:∀ r∈xs,1<=f r) (h0:0 < xs.length):1<=aaM f xs:=by
 have:=abC (f:=fun _=>1) (g:=f) xs h
 rw [abP] at this;omega
theorem abG (w:Nat) (f:L1->Int) (M:Int) (hM:0<=M):∀ (xs:L2) (a:Int),(∀ r∈xs,Kg w r=0/\Js w r=f r/\-M<=f r/\f r<=M)->
  -170141183460469231731687303715884105728 < a - xs.length*M->a+xs.length*M < 170141183460469231731687303715884105728->qf w xs a=(a+aaM f xs,0)
 | [],a,_,_,_=>by simp [qf,aaM]
 | r :: l,a,h,h1,h2=>by
  obtain ⟨e1,e2,e3,e4⟩:=h r (by simp)
  simp only [List.length_cons] at h1 h2;rw [Int.natCast_add,Int.add_mul] at h1 h2;have hl:0<=(l.length:Int)*M:=Int.mul_nonneg (by omega) hM
  simp only [qf];rw [if_neg (by rw [e1]; simp),e2]
  have hm:ag (a+f r):=⟨by omega,by omega⟩
  rw [if_neg (by rw [cK hm]; simp),abG w f M hM l (a+f r) (fun r hr=>h r (List.mem_cons_of_mem _ hr)) (by omega) (by omega)]
  simp only [aaM];rw [Int.add_assoc]
theorem aei {x y:Int} (hx:0<=x) (hy:0 < y):Ew x y=(2*(x*18446744073709551616)+y) / (2*y):=by
 unfold Ew cD;rw [if_neg (show ¬ x < 0 by omega),if_neg (show ¬ y < 0 by omega),decide_eq_false (show ¬ x < 0 by omega),decide_eq_false (show ¬ y < 0 by omega)]
 rfl
theorem adB (x y:Int) (hy:y≠0):Ew (-x) y = -Ew x y:=by
 by_cases h0:x=0
 ·subst h0; rw [show (-0:Int)=0 from rfl,acw y hy]; rfl
 ·unfold Ew;rw [abs_neg,show decide (-x < 0) = !decide (x < 0) by by_cases h:x < 0 <;> simp [h] <;> omega,show ((!decide (x < 0)) != decide (y < 0)) = !(decide (x < 0) != decide (y < 0)) by cases decide (x < 0) <;> cases decide (y < 0) <;> rfl,acb]
theorem ac4 {n k lo hi:Int} (hk:1<=k) (h1:k*lo<=n) (h2:n<=k*hi):lo<=Ew n (k*18446744073709551616)/\Ew n (k*18446744073709551616)<=hi:=by
 have pos:∀ {n lo hi:Int},0<=n->k*lo<=n->n<=k*hi->lo<=Ew n (k*18446744073709551616)/\Ew n (k*18446744073709551616)<=hi:=by
  intro n lo hi hn h1 h2;have e:Ew n (k*18446744073709551616)=(2*n+k) / (2*k):=by
   rw [aei hn (by omega),show 2*(n*18446744073709551616)+k*18446744073709551616=(2*n+k)*18446744073709551616 by omega,show 2*(k*18446744073709551616)=(2*k)*18446744073709551616 by omega]
   exact Int.mul_ediv_mul_of_pos_left _ _ (by decide)
  rw [e];constructor
  ·rw [Int.le_ediv_iff_mul_le (by omega),show lo*(2*k)=2*(k*lo) by rw [Int.mul_comm lo,Int.mul_assoc]]
   omega
  ·refine Int.lt_add_one_iff.1 ?_;rw [Int.ediv_lt_iff_lt_mul (by omega),Int.add_mul,show hi*(2*k)=2*(k*hi) by rw [Int.mul_comm hi,Int.mul_assoc]]
   omega
 by_cases hn:0<=n
 ·exact pos hn h1 h2
 ·have:=pos (n:=-n) (lo:=-hi) (hi:=-lo) (by omega) (by rw [Int.mul_neg]; omega) (by rw [Int.mul_neg]; omega)
  rw [adB _ _ (by omega)] at this
  omega
structure Plain (k:L1->Int) (B C:Int) (xs:L2):Prop where
 mass:∀ r∈xs,fr r 0=k r*18446744073709551616/\1<=k r/\k r<=B
 pX:∀ r∈xs,-C<=fr r 4/\fr r 4<=C
 pY:∀ r∈xs,-C<=fr r 6/\fr r 6<=C
theorem acZ {k:Int} {r:L1} {w:Nat} {B C:Int} (hw:w≠0) (h0:fr r 0=k*18446744073709551616) (h1:1<=k) (h2:k<=B) (h3:-C<=fr r w) (h4:fr r w<=C) (hb:B*C < 170141183460469231731687303715884105728):
  Kg w r=0/\Js w r=k*fr r w/\-(B*C)<=k*fr r w/\k*fr r w<=B*C:=by
 have hC:0<=C:=by omega
 have a1:k*fr r w<=k*C:=Int.mul_le_mul_of_nonneg_left h4 (by omega)
 have a2:k*(-C)<=k*fr r w:=Int.mul_le_mul_of_nonneg_left h3 (by omega)
 have a3:k*C<=B*C:=Int.mul_le_mul_of_nonneg_right h2 hC;rw [Int.mul_neg] at a2;have hm:ag (k*fr r w):=⟨by omega,by omega⟩
 unfold Kg Js;rw [if_neg hw,if_neg hw,h0,acg,cK hm,abY hm];exact ⟨rfl,rfl,by omega,by omega⟩
theorem aeq {k:L1->Int} {B C:Int} {xs:L2} (h:Plain k B C xs) (h0:0 < xs.length) (hl:xs.length<=1000) (hB0:1<=B) (hB:B<=100000) (hC0:0<=C) (hC:C<=1208925819614629174706176):
  cE xs=0/\cM xs=aaM k xs*18446744073709551616/\cX xs=Ew (aaM (fun r=>k r*fr r 4) xs) (aaM k xs*18446744073709551616)/\cY xs=Ew (aaM (fun r=>k r*fr r 6) xs) (aaM k xs*18446744073709551616)/\1<=aaM k xs/\
  (∀ lo,(∀ r∈xs,lo<=fr r 4)->lo<=cX xs)/\(∀ hi,(∀ r∈xs,fr r 4<=hi)->cX xs<=hi):=by
 have hBC:B*C<=100000*1208925819614629174706176:=Int.le_trans (Int.mul_le_mul_of_nonneg_right hB hC0) (Int.mul_le_mul_of_nonneg_left hC (by decide))
 have hBC0:0<=B*C:=Int.mul_nonneg (by omega) hC0
 have hLBC:(xs.length:Int)*(B*C)<=1000*(100000*1208925819614629174706176):=Int.le_trans (Int.mul_le_mul_of_nonneg_right (by omega) hBC0) (Int.mul_le_mul_of_nonneg_left hBC (by decide))
 have hLBC0:0<=(xs.length:Int)*(B*C):=Int.mul_nonneg (by omega) hBC0
 have hLB:(xs.length:Int)*(B*18446744073709551616)<=1000*(100000*18446744073709551616):=Int.le_trans (Int.mul_le_mul_of_nonneg_right (by omega) (by omega)) (Int.mul_le_mul_of_nonneg_left (by omega) (by decide))
 have hLB0:0<=(xs.length:Int)*(B*18446744073709551616):=Int.mul_nonneg (by omega) (by omega)
 have t0:∀ r∈xs,Kg 0 r=0/\Js 0 r=18446744073709551616*k r/\-(B*18446744073709551616)<=18446744073709551616*k r/\18446744073709551616*k r<=B*18446744073709551616:=by
  intro r hr;obtain ⟨h1,h2,h3⟩:=h.mass r hr;exact ⟨rfl,by rw [show Js 0 r=fr r 0 from rfl,h1]; omega,by omega,by omega⟩
 have t4:=fun r hr=>acZ (w:=4) (by decide) (h.mass r hr).1 (h.mass r hr).2.1 (h.mass r hr).2.2 (h.pX r hr).1 (h.pX r hr).2 (by omega)
 have t6:=fun r hr=>acZ (w:=6) (by decide) (h.mass r hr).1 (h.mass r hr).2.1 (h.mass r hr).2.2 (h.pY r hr).1 (h.pY r hr).2 (by omega)
 have s0:=abG 0 (fun r=>18446744073709551616*k r) (B*18446744073709551616) (by omega) xs 0 t0 (by omega) (by omega)
 have s4:=abG 4 (fun r=>k r*fr r 4) (B*C) hBC0 xs 0 t4 (by omega) (by omega)
 have s6:=abG 6 (fun r=>k r*fr r 6) (B*C) hBC0 xs 0 t6 (by omega) (by omega)
 rw [abu,Int.zero_add] at s0;rw [Int.zero_add] at s4 s6;have kp:1<=aaM k xs:=afc (fun r hr=>(h.mass r hr).2.1) h0
 have n0:cZ 0 xs=aaM k xs*18446744073709551616:=by unfold cZ; rw [s0,Int.mul_comm]
 have e0:ca 0 xs=0:=by unfold ca; rw [s0]
 have n4:cZ 4 xs=aaM (fun r=>k r*fr r 4) xs:=by unfold cZ; rw [s4]
 have e4:ca 4 xs=0:=by unfold ca; rw [s4]
 have n6:cZ 6 xs=aaM (fun r=>k r*fr r 6) xs:=by unfold cZ; rw [s6]
 have e6:ca 6 xs=0:=by unfold ca; rw [s6]
 have bnd:∀ (w:Nat) (lo hi:Int),(∀ r∈xs,lo<=fr r w)->(∀ r∈xs,fr r w<=hi)->lo<=Ew (aaM (fun r=>k r*fr r w) xs) (aaM k xs*18446744073709551616)/\Ew (aaM (fun r=>k r*fr r w) xs) (aaM k xs*18446744073709551616)<=hi:=by
  intro w lo hi h1 h2;refine ac4 kp ?_ ?_
  ·have:=abC (f:=fun r=>lo*k r) (g:=fun r=>k r*fr r w) xs (fun r hr=>by
    rw [Int.mul_comm];exact Int.mul_le_mul_of_nonneg_left (h1 r hr) (by have:=(h.mass r hr).2.1; omega))
   rw [abu,Int.mul_comm] at this;exact this
  ·have:=abC (f:=fun r=>k r*fr r w) (g:=fun r=>hi*k r) xs (fun r hr=>by
    rw [Int.mul_comm hi];exact Int.mul_le_mul_of_nonneg_left (h2 r hr) (by have:=(h.mass r hr).2.1; omega))
   rw [abu,Int.mul_comm] at this;exact this
 have b4:=bnd 4 (-C) C (fun r hr=>(h.pX r hr).1) (fun r hr=>(h.pX r hr).2)
 have b6:=bnd 6 (-C) C (fun r hr=>(h.pY r hr).1) (fun r hr=>(h.pY r hr).2)
 have hne:aaM k xs*18446744073709551616≠0:=by omega
 have m4:ag (Ew (aaM (fun r=>k r*fr r 4) xs) (aaM k xs*18446744073709551616)):=⟨by omega,by omega⟩
 have m6:ag (Ew (aaM (fun r=>k r*fr r 6) xs) (aaM k xs*18446744073709551616)):=⟨by omega,by omega⟩
 have a4:uZ 4 xs=0:=by unfold uZ iY; rw [if_pos e4,n0,n4,if_neg hne,cK m4]
 have a6:uZ 6 xs=0:=by unfold uZ iY; rw [if_pos e6,n0,n6,if_neg hne,cK m6]
 have c0:cE xs=0:=by unfold cE; rw [if_neg (by omega),if_neg (by rw [e0]; simp),if_neg (by rw [a4]; simp),a6]
 have x4:cX xs=Ew (aaM (fun r=>k r*fr r 4) xs) (aaM k xs*18446744073709551616):=by
  unfold cX Jv fF;rw [if_pos c0,if_pos e4,n0,n4,if_neg hne,abY m4]
 refine ⟨c0,by unfold cM; rw [if_pos c0,n0],x4,?_,kp,fun lo hlo=>?_,fun hi hhi=>?_⟩
 ·unfold cY Jv fF;rw [if_pos c0,if_pos e6,n0,n6,if_neg hne,abY m6]
 ·rw [x4];exact (bnd 4 lo C hlo (fun r hr=>(h.pX r hr).2)).1
 ·rw [x4];exact (bnd 4 (-C) hi (fun r hr=>(h.pX r hr).1) hhi).2
theorem abO (y:Int):az 0 y=0:=by
 have:=acg 0 y;simpa using this
theorem abk (x:Int):az x 0=0:=by rw [abT]; exact abO x
theorem acd {y:Int} (hy:0 < y):Ew 0 y=0:=by
 rw [aeJ (by decide) hy]
 exact Int.ediv_eq_zero_of_lt (by omega) (by omega)
theorem aff {g a b x y h:Int} (hg:0<=g/\g<=55340232221128654848) (ha:0<=a/\a<=166020696663385964544) (hb:0<=b/\b<=18889465931478580854784) (hx:-18889465931478580854784<=x/\x<=18889465931478580854784) (hy:-18889465931478580854784<=y/\y<=18889465931478580854784) (h0:g=0∨h=0):
  BU g a b x y 4611686018427387904 h=0/\BT g a b x y 4611686018427387904 h=0/\BS g a b x y 4611686018427387904 h=0:=by
 have x2:=ab3 hx;have y2:=ab3 hy;rw [show (18889465931478580854784*18889465931478580854784+9223372036854775808:Int) / 18446744073709551616=19342813113834066795298816 by decide] at x2 y2
 have s2:az 4611686018427387904 4611686018427387904=1152921504606846976:=by decide
 obtain ⟨R,hR⟩:∃R,az x x+az y y+az 4611686018427387904 4611686018427387904=R:=⟨_,rfl⟩;have hR':=hR;rw [s2] at hR';have r1:1152921504606846976<=R/\R<=38685627380589638197444608:=by omega
 have m1:=abn ha.1 hb.1 ha.2 hb.2;rw [show (166020696663385964544*18889465931478580854784+9223372036854775808:Int) / 18446744073709551616=170005193383307227693056 by decide] at m1
 have m2:=abn hg.1 m1.1 hg.2 m1.2;rw [show (55340232221128654848*170005193383307227693056+9223372036854775808:Int) / 18446744073709551616=510015580149921683079168 by decide] at m2
 have m3:az (az g (az a b)) h=0:=by
  rcases h0 with h0 | h0
  ·rw [h0,abO,abO]
  ·rw [h0,abk]
 have hs:=(yx (A:=R*18446744073709551616) ⟨by omega,by omega⟩).1
 obtain ⟨F,hF⟩:∃F,gG (R*18446744073709551616)=F:=⟨_,rfl⟩;rw [hF] at hs;have f1:0 < F:=by
  by_cases hc:0 < F
  ·exact hc
  ·exfalso
   have h1:F=0:=by have:=hs.1; omega
   have h2:=hs.2.2;rw [h1] at h2;omega
 have M:∀ {n:Int},-80000000000000000000000000<=n->n<=80000000000000000000000000->ag n:=fun h1 h2=>⟨by omega,by omega⟩
 exact af3 (d:=0) (ags (R:=R) (F:=F) (m1:=az a b) (m2:=az g (az a b)) (m3:=0) (d1:=0) (d2:=0) (M (by omega) (by omega)) (M (by omega) (by omega)) (M (by omega) (by omega)) (by rw [s2]; exact M (by decide) (by decide)) hR (M (by omega) (by omega)) (by omega) hF (by omega) rfl (M (by omega) (by omega)) rfl (M (by omega) (by omega)) m3 bg (acd (by omega)) bg (acd f1) bg) (abk _) (abk _) bg bg
def abA (r:L1):Prop:=lC r/\(∃k,fr r 0=k*18446744073709551616/\1<=k/\k<=9)/\(-4722366482869645213696<=fr r 4/\fr r 4<=4722366482869645213696)/\-4722366482869645213696<=fr r 6/\fr r 6<=4722366482869645213696
def aaw (xs:L2):Prop:=∀ r∈xs,abA r
def abe (z:L1) (h:Int):Prop:=(0<=fr z 3/\fr z 3<=55340232221128654848)/\fr z 5=4611686018427387904/\(fr z 3=0∨h=0)
theorem aes {xs:L2} (h:aaw xs):aY xs:=fun r hr=>(h r hr).1
theorem abo {xs:L2} (h:aaw xs) {i:Nat} (hi:i < xs.length):abA (xs.getD i []):=h _ (getM hi)
theorem abW {r:L1} (h:abA r):0<=fr r 0/\fr r 0<=166020696663385964544:=by
 obtain ⟨_,⟨k,h0,h1,h2⟩,_⟩:=h; omega
theorem ad1 {z:L1} {h:Int} {r:L1} {m ax ay:Int} (hz:abe z h) (hr:abA r) (hm:0<=m/\m<=18889465931478580854784) (hx:-4722366482869645213696<=ax/\ax<=4722366482869645213696) (hy:-4722366482869645213696<=ay/\ay<=4722366482869645213696):
  uA z h r m ax ay=0/\sn z h r m ax ay=0/\sm z h r m ax ay=0:=by
 have h0:=abW hr;obtain ⟨_,_,hrx,hry⟩:=hr;have mx:ag (ax - fr r 4):=⟨by omega,by omega⟩
 have my:ag (ay - fr r 6):=⟨by omega,by omega⟩
 have e:e2 (ax - fr r 4) (ay - fr r 6)=0:=SA mx my;have p:=aff (g:=fr z 3) (a:=fr r 0) (b:=m) (x:=ax - fr r 4) (y:=ay - fr r 6) (h:=h) hz.1 h0 hm ⟨by omega,by omega⟩ ⟨by omega,by omega⟩ hz.2.2
 unfold uA sn sm;rw [e,hz.2.1,if_neg (fun hh=>hh rfl),if_neg (fun hh=>hh rfl),if_neg (fun hh=>hh rfl)]
 exact p
theorem ae3 {z:L1} {h:Int} {xs ps:L2} {i j:Nat} (hz:abe z h) (hc:aaw xs) (hv:km ps) (hl:ps.length=xs.length) (hi:i < xs.length) (hj:j < xs.length):
  Qu z h xs ps i j=0/\IQ z h xs ps i j=ps.getD i []/\IP z h xs ps i j=ps.getD j []:=by
 obtain ⟨px,py,q1,mx,my⟩:=hv _ (getM (show i < ps.length by omega))
 obtain ⟨qx,qy,q2,nx,ny⟩:=hv _ (getM (show j < ps.length by omega))
 have cj:=abo hc hj;have cm:=abW cj;obtain ⟨g0,gx,gy⟩:=ad1 (h:=h) (m:=fr (xs.getD j []) 0) hz (abo hc hi) ⟨cm.1,by omega⟩ cj.2.2.1 cj.2.2.2
 obtain ⟨eE,eP,eQ⟩:=XS z h xs ps i j q1 q2;rw [eE,eP,eQ,q1,q2];unfold KU BO BM BN BL Sd Sc;rw [g0,gx,gy,Int.add_zero,Int.add_zero,Int.sub_zero,Int.sub_zero,SA mx my,SA nx ny];simp only [ne_eq,not_true_eq_false,if_false,nE _ mx my,nE _ nx ny,and_self]
theorem acF {z:L1} {h:Int} {xs:L2} {i:Nat} (hz:abe z h) (hc:aaw xs) (hi:i < xs.length) {ps:L2} (hv:km ps) (hl:ps.length=xs.length):∀ m j,j+m<=xs.length->AX z h xs i m j ps=(ps,0)
 | 0,j,_=>rfl
 | m+1,j,hj=>by
  obtain ⟨e,p,q⟩:=ae3 (i:=i) (j:=j) hz hc hv hl hi (by omega)
  have hs:∀ {k:Nat},k < ps.length->ps.set k (ps.getD k [])=ps:=fun {k} hk=>by rw [acY hk]; exact List.set_getElem_self _
  unfold AX;rw [if_neg (fun hh=>hh e),p,hs (show i < ps.length by omega),q,hs (show j < ps.length by omega)]
  exact acF hz hc hi hv hl m (j+1) (by omega)
theorem acq {z:L1} {h:Int} {xs:L2} (hz:abe z h) (hc:aaw xs) {ps:L2} (hv:km ps) (hl:ps.length=xs.length):∀ m i,i+m=xs.length->mG z h xs m i ps=(ps,0)
 | 0,i,_=>rfl
 | m+1,i,hi=>by
  unfold mG;rw [acF hz hc (by omega) hv hl _ _ (by omega),if_neg (fun hh=>hh rfl)]
  exact acq hz hc hv hl m (i+1) (by omega)
end
section
open Go.IntWalk
theorem ab2 {σ α:Type} {f:α->σ->σ × Int} {s:σ}:∀ l:List α,(∀ a∈l,f a s=(s,0))->dF f l s=(s,0)
 | [],_=>rfl
 | a :: l,h=>by
  simp only [dF];rw [h a (List.mem_cons_self ..),if_neg (fun hh=>hh rfl)]
  exact ab2 l fun b hb=>h b (List.mem_cons_of_mem _ hb)
theorem ac9 {σ:Type} {vis:Int->σ->σ × Int} {s:σ} (hv:∀ c,vis c s=(s,0)) (ns ks:L2) {fe:Nat->Int} (hfe:∀ n,fe n=0) (fb:Nat->Bool) (i:Int):∀ m n,jH vis ns ks fe fb i m n s=(s,0)
 | 0,n=>rfl
 | m+1,n=>by
  simp only [jH];split
  ·exact ab2 _ fun k _=>by unfold dw; split; exact rfl; exact hv _
  ·split
   ·rename_i h; exact absurd (hfe n) h.2
   ·split
    ·exact hv _
    ·exact ab2 _ fun k _=>ac9 hv ns ks hfe fb i m k
def adl (cs:L2):Prop:=∀ n,(0<=fr (cs.getD n []) 0/\fr (cs.getD n []) 0<=18889465931478580854784)/\(-4722366482869645213696<=fr (cs.getD n []) 2/\fr (cs.getD n []) 2<=4722366482869645213696)/\-4722366482869645213696<=fr (cs.getD n []) 4/\fr (cs.getD n []) 4<=4722366482869645213696
theorem get_none {xs:L2} {k:Nat} (h:¬ k < xs.length):xs.getD k []=[]:=by simp [List.getD,List.getElem?_eq_none (by omega:xs.length<=k)]
theorem adk {xs:L2} (h:aaw xs) (k:Nat):(0<=fr (xs.getD k []) 0/\fr (xs.getD k []) 0<=18889465931478580854784)/\(-4722366482869645213696<=fr (xs.getD k []) 4/\fr (xs.getD k []) 4<=4722366482869645213696)/\-4722366482869645213696<=fr (xs.getD k []) 6/\fr (xs.getD k []) 6<=4722366482869645213696:=by
 by_cases hk:k < xs.length
 ·have c:=abo h hk;have m:=abW c;exact ⟨⟨m.1,by omega⟩,c.2.2.1,c.2.2.2⟩
 ·rw [get_none hk]; exact ⟨⟨by decide,by decide⟩,⟨by decide,by decide⟩,by decide,by decide⟩
theorem ae8 {xs:L2} (hc:aaw xs) (h0:0 < xs.length) (hl:xs.length<=100):cE xs=0/\(0<=cM xs/\cM xs<=18889465931478580854784)/\(-4722366482869645213696<=cX xs/\cX xs<=4722366482869645213696)/\-4722366482869645213696<=cY xs/\cY xs<=4722366482869645213696:=by
 have hk:∀ r∈xs,fr r 0=fr r 0 / 18446744073709551616*18446744073709551616/\1<=fr r 0 / 18446744073709551616/\fr r 0 / 18446744073709551616<=9:=by
  intro r hr;obtain ⟨_,⟨k,h1,h2,h3⟩,_⟩:=hc r hr;omega
 have hP:Plain (fun r=>fr r 0 / 18446744073709551616) 9 4722366482869645213696 xs:=⟨hk,fun r hr=>(hc r hr).2.2.1,fun r hr=>(hc r hr).2.2.2⟩
 obtain ⟨e,m,_,y,kp,lo,hi⟩:=aeq hP h0 (by omega) (by decide) (by decide) (by decide) (by decide)
 have htk:aaM (fun r=>fr r 0 / 18446744073709551616) xs<=(xs.length:Int)*9:=by
  have:=abC (f:=fun r=>fr r 0 / 18446744073709551616) (g:=fun _=>9) xs (fun r hr=>(hk r hr).2.2)
  rw [abP] at this;exact this
 refine ⟨e,⟨by omega,by omega⟩,⟨lo _ fun r hr=>(hc r hr).2.2.1.1,hi _ fun r hr=>(hc r hr).2.2.1.2⟩,?_⟩
 rw [y];refine ac4 kp ?_ ?_
 ·have:=abC (f:=fun r=>-4722366482869645213696*(fr r 0 / 18446744073709551616)) (g:=fun r=>fr r 0 / 18446744073709551616*fr r 6) xs (fun r hr=>by
   rw [Int.mul_comm];exact Int.mul_le_mul_of_nonneg_left (hc r hr).2.2.2.1 (by have:=(hk r hr).2.1; omega))
  rw [abu,Int.mul_comm] at this;exact this
 ·have:=abC (f:=fun r=>fr r 0 / 18446744073709551616*fr r 6) (g:=fun r=>4722366482869645213696*(fr r 0 / 18446744073709551616)) xs (fun r hr=>by
   rw [Int.mul_comm 4722366482869645213696];exact Int.mul_le_mul_of_nonneg_left (hc r hr).2.2.2.2 (by have:=(hk r hr).2.1; omega))
  rw [abu,Int.mul_comm] at this;exact this
theorem aej {xs sb:L2} (hc:aaw xs) (hid:oB xs.length sb):aaw (fz xs sb):=by
 intro r hr;unfold fz at hr;rw [List.mem_map] at hr;obtain ⟨k,hk,rfl⟩:=hr;exact abo hc (by have:=hid k hk; omega)
section
variable {xs:L2}
theorem acz (hc:aaw xs) (hl:xs.length<=100) {n:Nat} (hn:n < (N4 xs).length):cE (CK (N4 xs) (lE xs) xs n)=0/\(0<=cM (CK (N4 xs) (lE xs) xs n)/\cM (CK (N4 xs) (lE xs) xs n)<=18889465931478580854784)/\(-4722366482869645213696<=cX (CK (N4 xs) (lE xs) xs n)/\cX (CK (N4 xs) (lE xs) xs n)<=4722366482869645213696)/\-4722366482869645213696<=cY (CK (N4 xs) (lE xs) xs n)/\cY (CK (N4 xs) (lE xs) xs n)<=4722366482869645213696:=by
 have ht:gr (N4 xs) (lE xs).length:=O1 (SH xs) (Hk xs);have hw:=nN ht hn;have hp:=Pn ht hn;have hb:=tN xs;have hlen:(CK (N4 xs) (lE xs) xs n).length=wt (N4 xs) n:=by unfold CK fz; rw [List.length_map,hp]
 exact ae8 (aej hc fun k hk=>NG xs k (BX hk)) (by omega) (by omega)
theorem acH (hc:aaw xs) (hl:xs.length<=100):∀ m i,i+m=(N4 xs).length->xP (N4 xs) (lE xs) xs m i=0
 | 0,i,_=>rfl
 | m+1,i,hi=>by
  unfold xP;rw [if_neg (fun hh=>hh (acz hc hl (by omega)).1)]
  exact acH hc hl m (i+1) (by omega)
theorem acS (hc:aaw xs) (hl:xs.length<=100):QI xs=0:=acH hc hl (N4 xs).length 0 (by omega)
theorem afp (hc:aaw xs) (hl:xs.length<=100):adl (SF xs):=by
 have e:SF xs=qR (N4 xs) (lE xs) xs (N4 xs).length:=if_pos (acS hc hl);intro n;rw [e];by_cases hn:n < (N4 xs).length
 ·have h1:(qR (N4 xs) (lE xs) xs (N4 xs).length).getD n []=Fg (N4 xs) (lE xs) xs n:=by unfold qR; simp [List.getD,hn]
  rw [h1,show fr (Fg (N4 xs) (lE xs) xs n) 0=cM (CK (N4 xs) (lE xs) xs n) from kS _,show fr (Fg (N4 xs) (lE xs) xs n) 2=cX (CK (N4 xs) (lE xs) xs n) from kS _,show fr (Fg (N4 xs) (lE xs) xs n) 4=cY (CK (N4 xs) (lE xs) xs n) from kS _]
  exact (acz hc hl hn).2
 ·rw [get_none (by rw [xn]; exact hn)]
  exact ⟨⟨by decide,by decide⟩,⟨by decide,by decide⟩,by decide,by decide⟩
end
theorem ae2 {z:L1} {xs cs:L2} (hz:0<=fr z 7/\fr z 7<=18446744073709551616) (hc:aaw xs) (hcs:adl cs) (n i:Nat):yE z xs cs n i=0:=by
 obtain ⟨_,bx,b6⟩:=adk hc i;obtain ⟨_,cx,cy⟩:=hcs n;have dx:-18889465931478580854784<=E3 xs cs n i/\E3 xs cs n i<=18889465931478580854784:=by unfold E3; omega
 have dy:-18889465931478580854784<=E2 xs cs n i/\E2 xs cs n i<=18889465931478580854784:=by unfold E2; omega
 have x2:=ab3 dx;have y2:=ab3 dy;rw [show (18889465931478580854784*18889465931478580854784+9223372036854775808:Int) / 18446744073709551616=19342813113834066795298816 by decide] at x2 y2
 have mp:ag (az (E3 xs cs n i) (E3 xs cs n i)):=⟨by omega,by omega⟩
 have mq:ag (az (E2 xs cs n i) (E2 xs cs n i)):=⟨by omega,by omega⟩
 have ms:ag (az (E3 xs cs n i) (E3 xs cs n i)+az (E2 xs cs n i) (E2 xs cs n i)):=⟨by omega,by omega⟩
 have hd:jm (az (E3 xs cs n i) (E3 xs cs n i)) (az (E2 xs cs n i) (E2 xs cs n i))=0:=by rw [G2 mp mq]; exact cK ms
 have hn:iS (az (E3 xs cs n i) (E3 xs cs n i)) (az (E2 xs cs n i) (E2 xs cs n i))=az (E3 xs cs n i) (E3 xs cs n i)+az (E2 xs cs n i) (E2 xs cs n i):=by rw [G1 mp mq]; exact abY ms
 have hL:VQ xs cs n i=0:=by
  unfold VQ tf;rw [if_pos hd,hn];unfold C6;rw [if_neg (by omega)]
 have hl:=FW ms;have hR:bG (UX z xs cs n i)=0:=by
  unfold UX te;rw [if_pos hd,hn];have m:=abn hz.1 hl.2.1 hz.2 (Int.le_of_lt hl.2.2);rw [show (18446744073709551616*79228162514264337593543950336+9223372036854775808:Int) / 18446744073709551616=79228162514264337593543950336 by decide] at m
  exact cK ⟨by omega,by omega⟩
 have he:e2 (E3 xs cs n i) (E2 xs cs n i)=0:=SA ⟨by omega,by omega⟩ ⟨by omega,by omega⟩
 unfold yE;rw [bI,he,hL,hR]; rfl
theorem adb {z:L1} {h:Int} {r:L1} {m ax ay px py:Int} (hz:abe z h) (hr:abA r) (hm:0<=m/\m<=18889465931478580854784) (hx:-4722366482869645213696<=ax/\ax<=4722366482869645213696) (hy:-4722366482869645213696<=ay/\ay<=4722366482869645213696) (mx:ag px) (my:ag py):
  Db z h r m ax ay px py=0/\Da z h r m ax ay px py=px/\C9 z h r m ax ay px py=py:=by
 obtain ⟨g0,gx,gy⟩:=ad1 hz hr hm hx hy;unfold Db Da C9;rw [bI,bI,bI,g0,gx,gy,Int.add_zero,Int.add_zero,SA mx my,nE _ mx my,nE _ mx my];exact ⟨rfl,rfl,rfl⟩
theorem ad9 {z:L1} {h:Int} {r:L1} {xs cs:L2} {px py:Int} (hz:abe z h) (hr:abA r) (hc:aaw xs) (hcs:adl cs) (mx:ag px) (my:ag py) (c:Int):pN z r h xs cs c (px,py)=((px,py),0):=by
 unfold pN A5 pR Dl;by_cases hc0:0<=c
 ·rw [if_pos hc0,if_pos hc0,if_pos hc0];obtain ⟨a,b,d⟩:=hcs c.toNat;obtain ⟨q1,q2,q3⟩:=adb hz hr a b d mx my;show ((_,_),_)=_;rw [q1,q2,q3]
 ·rw [if_neg hc0,if_neg hc0,if_neg hc0];obtain ⟨a,b,d⟩:=adk hc (-1 - c).toNat;obtain ⟨q1,q2,q3⟩:=adb hz hr a b d mx my;show ((_,_),_)=_;rw [q1,q2,q3]
theorem aez {z:L1} {h:Int} {xs cs:L2} (ns ks:L2) {i:Nat} (hz:abe z h) (hth:0<=fr z 7/\fr z 7<=18446744073709551616) (hc:aaw xs) (hcs:adl cs) (hi:i < xs.length):
  GP z h xs ks ns cs i=0/\Qc z h xs ks ns cs i=fr (xs.getD i []) 8/\Qb z h xs ks ns cs i=fr (xs.getD i []) 10:=by
 have cr:=abo hc hi;obtain ⟨_,_,_,_,_,m8,m10⟩:=cr.1;have h1:S6 z (xs.getD i []) h xs ks ns cs i (fr (xs.getD i []) 8) (fr (xs.getD i []) 10)=((fr (xs.getD i []) 8,fr (xs.getD i []) 10),0):=by
  unfold S6;exact ab2 _ fun n _=>ac9 (fun c=>ad9 hz cr hc hcs m8 m10 c) _ _ (fun n=>ae2 hth hc hcs n _) _ _ _ _
 refine ⟨?_,?_,?_⟩
 ·show (S6 z (xs.getD i []) h xs ks ns cs i (fr (xs.getD i []) 8) (fr (xs.getD i []) 10)).2=_;rw [h1]
 ·show (S6 z (xs.getD i []) h xs ks ns cs i (fr (xs.getD i []) 8) (fr (xs.getD i []) 10)).1.1=_;rw [h1]
 ·show (S6 z (xs.getD i []) h xs ks ns cs i (fr (xs.getD i []) 8) (fr (xs.getD i []) 10)).1.2=_;rw [h1]
theorem acA {z:L1} {h:Int} {xs cs:L2} (ns ks:L2) (hz:abe z h) (hth:0<=fr z 7/\fr z 7<=18446744073709551616) (hc:aaw xs) (hcs:adl cs):∀ (m i:Nat) (out:L2),i+m=xs.length->xL z h xs ks ns cs m i out=(out++(xs.drop i).map af8,0)
 | 0,i,out,hi=>by rw [List.drop_eq_nil_of_le (by omega)]; simp [xL]
 | m+1,i,out,hi=>by
  obtain ⟨e,x,y⟩:=aez ns ks hz hth hc hcs (show i < xs.length by omega)
  unfold xL;rw [e,if_neg (fun hh=>hh rfl),x,y,acA ns ks hz hth hc hcs m (i+1) _ (by omega),List.drop_eq_getElem_cons (show i < xs.length by omega),← acY (show i < xs.length by omega),← abJ (abo hc (show i < xs.length by omega)).1]
  simp
theorem abL {z:L1} {h:Int} {xs:L2} (hz:abe z h) (hth:0<=fr z 7/\fr z 7<=18446744073709551616) (hc:aaw xs) (hl:xs.length<=100):nK z h xs=0/\AW z h xs=xs.map af8:=by
 unfold nK AW;by_cases h0:z.getD 11 0=0
 ·rw [if_pos h0,if_pos h0];have hv:km (xs.map af8):=by
   intro p hp;rw [List.mem_map] at hp;obtain ⟨r,hr,rfl⟩:=hp;obtain ⟨_,_,_,_,_,m8,m10⟩:=(hc r hr).1;exact ⟨_,_,abJ (hc r hr).1,m8,m10⟩
  have:=acq hz hc hv (by simp) xs.length 0 (by omega)
  unfold tK tJ;rw [this]; exact ⟨rfl,rfl⟩
 ·rw [if_neg h0,if_neg h0];have hk:=acA (N4 xs) (lE xs) hz hth hc (afp hc hl) xs.length 0 [] (by omega)
  unfold mJ nG IE N5;rw [if_neg (fun hh=>hh (acS hc hl)),if_neg (fun hh=>hh (acS hc hl)),hk]
  exact ⟨rfl,by simp⟩
theorem afe {xs:L2} (hg:aY xs):age rq xs (xs.map af8)=xs:=by
 refine abw (BF _ _ _) fun k hk=>?_
 rw [BF] at hk;rw [abf hk,aa8 hk];exact Es (hg _ (getM hk)).1
theorem abg {z:L1} {h:Int} {xs:L2} (hz:abe z h) (hth:0<=fr z 7/\fr z 7<=18446744073709551616) (hc:aaw xs) (hl:xs.length<=100):eF z h xs=xs:=by
 obtain ⟨e,l⟩:=abL hz hth hc hl;unfold eF;rw [if_neg (fun hh=>hh e),l,afe (aes hc)]
theorem aeI {x m:Int} (hm:18446744073709551616<=m) (hx:-73786976294838206464<=x/\x<=73786976294838206464):-73786976294838206465<=Ew x m/\Ew x m<=73786976294838206465:=by
 have k:∀ X:Int,0<=X->0<=(2*(X*18446744073709551616)+m) / (2*m)/\(2*(X*18446744073709551616)+m) / (2*m)<=X+1:=by
  intro X h0X;have h1:X*18446744073709551616<=X*m:=Int.mul_le_mul_of_nonneg_left (by omega) h0X
  have h2:0<=X*18446744073709551616:=by omega
  refine ⟨Int.ediv_nonneg (by omega) (by omega),Int.ediv_le_of_le_mul (by omega) ?_⟩
  have e:(X+1)*(2*m)=2*(X*m)+2*m:=by rw [Int.add_mul,Int.one_mul,← Int.mul_assoc,Int.mul_comm X 2,Int.mul_assoc]
  rw [e]; omega
 have hm:cD m=m:=by unfold cD; rw [if_neg (by omega)]
 have ha:0<=cD x/\cD x<=73786976294838206464:=by unfold cD; split <;> omega
 have:=k (cD x) ha.1;unfold Ew;rw [hm];generalize (2*(cD x*18446744073709551616)+m) / (2*m)=Q at *;unfold dH; split <;> omega
theorem ae4 {x m:Int} (hm:18446744073709551616<=m) (hx:-73786976294838206464<=x/\x<=73786976294838206464):iY x m=0/\-73786976294838206465<=fF x m/\fF x m<=73786976294838206465:=by
 have h:=aeI hm hx;have my:ag (Ew x m):=⟨by omega,by omega⟩
 unfold iY fF;rw [if_neg (by omega),if_neg (by omega),cK my,abY my]
 exact ⟨rfl,h⟩
theorem adS {x p m h:Int} (hx:-4722366482869645213696<=x/\x<=4722366482869645213696) (hp:-73786976294838206464<=p/\p<=73786976294838206464) (hm:18446744073709551616<=m) (hh:0<=h/\h<=18446744073709551616):
  pk x p m h=0/\x - 73786976294838206465<=uV x p m h/\uV x p m h<=x+73786976294838206465:=by
 have a:=ac8 hp hh.1 hh.2;rw [show (73786976294838206464*18446744073709551616+9223372036854775808:Int) / 18446744073709551616=73786976294838206464 by decide] at a
 obtain ⟨e,l,u⟩:=ae4 hm a;have e1:bG (az p h)=0:=cK ⟨by omega,by omega⟩
 have e2:bG (x+fF (az p h) m)=0:=cK ⟨by omega,by omega⟩
 have e0:pk x p m h=0:=by unfold pk; rw [e1,if_neg (fun hh=>hh rfl),e,if_neg (fun hh=>hh rfl),e2]
 unfold uV;rw [if_pos e0];exact ⟨e0,by omega,by omega⟩
theorem adR {x m:Int} (p:Int) (hx:ag x) (hm:0 < m):pk x p m 0=0/\uV x p m 0=x:=by
 have q0:=acd hm;have d0:iY 0 m=0/\fF 0 m=0:=by
  unfold iY fF;rw [if_neg (by omega),if_neg (by omega),q0]
  exact ⟨rfl,rfl⟩
 have e0:pk x p m 0=0:=by
  unfold pk;rw [abk,d0.1,d0.2,Int.add_zero,cK hx,cK bg]; rfl
 unfold uV;rw [if_pos e0,abk,d0.2,Int.add_zero];exact ⟨e0,rfl⟩
def aeF (r:L1):Prop:=abA r/\(-2379908294192250978304<=fr r 4/\fr r 4<=2379908294192250978304)/\(-2379908294192250978304<=fr r 6/\fr r 6<=2379908294192250978304)/\(-73786976294838206464<=fr r 8/\fr r 8<=73786976294838206464)/\-73786976294838206464<=fr r 10/\fr r 10<=73786976294838206464
theorem abl {r:L1} (hm:Lr r):aeF r:=by
 have hg:=EH hm;obtain ⟨a,b,c,d,ha,hb,hc,hd,rfl⟩:=hm;unfold im at ha hb hc hd;obtain ⟨f0,f4,f6,f8,f10⟩:=Ji a b c d;unfold aeF abA;rw [f0,f4,f6,f8,f10];exact ⟨⟨hg,⟨1+c % 9,rfl,by omega,by omega⟩,⟨by omega,by omega⟩,by omega,by omega⟩,⟨by omega,by omega⟩,⟨by omega,by omega⟩,⟨by omega,by omega⟩,by omega,by omega⟩
theorem adW {r:L1} (h:abA r):18446744073709551616<=fr r 0:=by obtain ⟨_,⟨k,h0,h1,h2⟩,_⟩:=h; omega
theorem adV {r:L1} {h:Int} (hr:aeF r) (hh:0<=h/\h<=18446744073709551616):ur r h=0/\(-4722366482869645213696<=Iu r h/\Iu r h<=4722366482869645213696)/\-4722366482869645213696<=It r h/\It r h<=4722366482869645213696:=by
 have hm:=adW hr.1;obtain ⟨hc,hx,hy,p8,p10⟩:=hr;obtain ⟨ex,lx,ux⟩:=adS (x:=fr r 4) (p:=fr r 8) (m:=fr r 0) (h:=h) ⟨by omega,by omega⟩ p8 hm hh
 obtain ⟨ey,ly,uy⟩:=adS (x:=fr r 6) (p:=fr r 10) (m:=fr r 0) (h:=h) ⟨by omega,by omega⟩ p10 hm hh
 have hx':Sq r h=uV (fr r 4) (fr r 8) (fr r 0) h:=rfl;have hy':Sp r h=uV (fr r 6) (fr r 10) (fr r 0) h:=rfl;have hw:xB 1073741824 (Sq r h) (Sp r h)=true:=by
  unfold xB AV;rw [decide_eq_true (show _/\_ from ⟨by omega,by omega⟩),decide_eq_true (show _/\_ from ⟨by omega,by omega⟩)]; rfl
 have e0:ur r h=0:=by unfold ur; rw [ex,if_neg (fun hh=>hh rfl),ey,if_neg (fun hh=>hh rfl),if_pos hw]
 unfold Iu It;rw [if_pos e0,if_pos e0];exact ⟨e0,⟨by omega,by omega⟩,by omega,by omega⟩
theorem adU {r:L1} (hr:abA r):ur r 0=0/\Iu r 0=fr r 4/\It r 0=fr r 6:=by
 have hm:=adW hr;obtain ⟨⟨_,_,_,m4,m6,_,_⟩,_,hx,hy⟩:=hr;obtain ⟨ex,nx⟩:=adR (fr r 8) m4 (show 0 < fr r 0 by omega)
 obtain ⟨ey,ny⟩:=adR (fr r 10) m6 (show 0 < fr r 0 by omega)
 have hx':Sq r 0=fr r 4:=nx;have hy':Sp r 0=fr r 6:=ny;have hw:xB 1073741824 (Sq r 0) (Sp r 0)=true:=by
  unfold xB AV;rw [hx',hy',decide_eq_true (show _/\_ from ⟨by omega,by omega⟩),decide_eq_true (show _/\_ from ⟨by omega,by omega⟩)]; rfl
 have e0:ur r 0=0:=by unfold ur; rw [ex,if_neg (fun hh=>hh rfl),ey,if_neg (fun hh=>hh rfl),if_pos hw]
 unfold Iu It;rw [if_pos e0,if_pos e0];exact ⟨e0,hx',hy'⟩
theorem ady:∀ {xs:L2},(∀ r∈xs,iW r=0/\agd r=true)->kF xs=0
 | [],_=>rfl
 | r :: l,h=>by
  obtain ⟨h1,h2⟩:=h r (List.mem_cons_self ..);unfold kF;rw [if_neg (fun hh=>hh h1),if_pos h2]
  exact ady fun q hq=>h q (List.mem_cons_of_mem _ hq)
theorem ach {xs:L2} (hc:aaw xs):eD 0 xs=0/\lj 0 xs=xs:=by
 have e:eD 0 xs=0:=abq.2 fun r hr=>(adU (hc r hr)).1
 refine ⟨e,?_⟩;refine abw (Af _ _) fun k hk=>?_
 rw [Af] at hk;have ck:=abo hc hk;obtain ⟨_,nx,ny⟩:=adU ck;rw [(abD e).2 k hk,nx,ny];have hl:=ck.1.1;have:=acu ck.1 (cI (fr (xs.getD k []) 4) (fr (xs.getD k []) 6));have hsx:pO (pO (xs.getD k []) (cI (fr (xs.getD k []) 4) (fr (xs.getD k []) 6))) (cI (fr (xs.getD k []) 4) (fr (xs.getD k []) 6))=pO (xs.getD k []) (cI (fr (xs.getD k []) 4) (fr (xs.getD k []) 6)):=rfl;rw [← hsx];exact this
theorem aek {z:L1} {xs:L2} (hz:abe z 0) (hth:0<=fr z 7/\fr z 7<=18446744073709551616) (hm:∀ r∈xs,Lr r) (hl:xs.length<=100):adn z 0 xs=0/\gu z 0 xs=xs:=by
 have hc:aaw xs:=fun r hr=>(abl (hm r hr)).1
 have h0:dQ 0=0:=rfl;have hb:gu z 0 xs=xs:=by unfold gu; rw [h0,abg hz hth hc hl,(ach hc).2,abg hz hth hc hl]
 refine ⟨?_,hb⟩;have hg:=(abL hz hth hc hl).1;unfold adn;rw [hb,h0,abg hz hth hc hl,(ach hc).2,(ach hc).1,hg,if_neg (fun hh=>hh rfl),if_neg (fun hh=>hh rfl),if_neg (fun hh=>hh rfl)]
 exact ady fun r hr=>⟨(abv (hm r hr)).2.2.1,(abv (hm r hr)).2.2.2⟩
theorem aeQ {xs:L2} {h:Int} (hm:∀ r∈xs,Lr r) (hh:0<=h/\h<=18446744073709551616):eD h xs=0/\aaw (lj h xs)/\kF (lj h xs)=0:=by
 have e:eD h xs=0:=abq.2 fun r hr=>(adV (abl (hm r hr)) hh).1
 have hg:aY xs:=fun r hr=>EH (hm r hr)
 have at_:∀ r∈lj h xs,∃k,k < xs.length/\r=pO (xs.getD k []) (cI (Iu (xs.getD k []) h) (It (xs.getD k []) h)):=by
  intro r hr;obtain ⟨k,hk,rfl⟩:=List.getElem_of_mem hr;rw [Af] at hk;exact ⟨k,hk,by rw [← (abD e).2 k hk,acY]⟩
 refine ⟨e,fun r hr=>?_,ady fun r hr=>?_⟩
 ·have hgr:=wN hg r hr;obtain ⟨k,hk,rfl⟩:=at_ r hr;have hmk:=hm _ (getM hk);obtain ⟨_,bx,b6⟩:=adV (abl hmk) hh;obtain ⟨f4,f6,f8,f10,f0⟩:=abI (xs.getD k []) [] (Iu (xs.getD k []) h) (It (xs.getD k []) h);refine ⟨hgr,?_,?_,?_⟩
  ·rw [f0]; exact (abl hmk).1.2.1
  ·rw [f4]; exact bx
  ·rw [f6]; exact b6
 ·obtain ⟨k,hk,rfl⟩:=at_ r hr;have hs:=abv (hm _ (getM hk));obtain ⟨f4,f6,f8,f10,f0⟩:=abI (xs.getD k []) [] (Iu (xs.getD k []) h) (It (xs.getD k []) h);have hE:iW (pO (xs.getD k []) (cI (Iu (xs.getD k []) h) (It (xs.getD k []) h)))=iW (xs.getD k []):=by unfold iW; rw [f8,f10,f0]
  have hB:agd (pO (xs.getD k []) (cI (Iu (xs.getD k []) h) (It (xs.getD k []) h)))=agd (xs.getD k []):=by unfold agd vY vX; rw [hE,f8,f10,f0]
  rw [hE,hB];exact ⟨hs.2.2.1,hs.2.2.2⟩
theorem adD {z:L1} {h:Int} {xs:L2} (h5:fr z 5=4611686018427387904) (h3:fr z 3=0) (hth:0<=fr z 7/\fr z 7<=18446744073709551616) (hm:∀ r∈xs,Lr r) (hl:xs.length<=100) (hh:0<=h/\h<=18446744073709551616):
  adn z h xs=0/\gu z h xs=lj h xs/\eD h xs=0:=by
 have hc:aaw xs:=fun r hr=>(abl (hm r hr)).1
 have hz:abe z (dQ h):=⟨by rw [h3]; decide,h5,.inl h3⟩
 obtain ⟨me,mc,ms⟩:=aeQ hm hh;have ml:(lj h xs).length<=100:=by rw [Af]; exact hl
 have hb:gu z h xs=lj h xs:=by unfold gu; rw [abg hz hth hc hl,abg hz hth mc ml]
 refine ⟨?_,hb,me⟩;unfold adn;rw [hb,abg hz hth hc hl,(abL hz hth hc hl).1,me,(abL hz hth mc ml).1,if_neg (fun hh=>hh rfl),if_neg (fun hh=>hh rfl),if_neg (fun hh=>hh rfl)]
 exact ms
end
def Sst (z y:L1) (ns xs ys us ls:L2) (how:Int) (bd:L2) (i:Int):St:=⟨T 92 [(0,.sl 0),(1,.int .u8 how),(8,.ptr 1 0),(10,.ptr 2 0),(12,.ptr 3 0),(13,.ptr 4 0),(14,.int .i64 i)],[some (.ro [.u8] ns),some (.var 34 (af z 5 6 7 8 9)),some (.var 34 (af y 10 11 12 13 14)),some (.var 58 [.sl 15,.int .i64 0]),some (.var 34 (af y 16 17 18 19 20)),some (.ro aM xs),some (.ro jt []),some (.ro ie []),some (.ro [.i64] us),some (.ro dE []),some (.ro aM ys),some (.ro jt []),some (.ro ie []),some (.ro [.i64] us),some (.ro dE []),some (.row 31 dm ls),some (.row 79 aM bd),some (.ro jt []),some (.ro ie []),some (.ro [.i64] us),some (.ro dE [])]⟩
theorem rSt (Λ:FuncId->Nat->Option aB) (d:Nat) (z y:L1) (ns xs ys us ls:L2) (how:Int) (bd:L2) (i:Int) (k:Out->St->Prop):(round (ai TP { Γ:=xA,Λ:=Λ,Τ:=fun _=>none } d) aau 1 0 (lp TP aau 0) (Sst z y ns xs ys us ls how bd i) k) =(∀a,MiJ a i ls (∀b,Me9 b i i bd i bd a a b b (k .normal (McS 92 0 Mb5 (Mfd 1 (MbB how) 8 1 (Me1 10 2 12 3 13 4 14 (McR i))) [] ns (Mbf 34 (Meb z z z z z z z z z z z z z 5 6 7 8 z z z z z z 9) 34 (Meb y y y y y y y y y y y y y 10 11 12 13 y y y y y y 14) 58 (Mak 15 MbD) 34 (Meb y y y y y y y y y y y y y 16 17 18 19 y y y y y y 20) (Mde xs [] [] us [] aM ys [] [] us [] (Mag (MdK ls) (Mc2 (Mbu bd i (fun c=>MgN (fun e=>MjE e (Mjf ls i) c)))) (Mf7 [] [] us [])))))) (k MbI (McS 92 0 Mb5 (MdL 1 (MbB how) 8 (Mao 1) 10 2 13 3 []) [] ns (MfJ z z z z z z z z z z z z z 4 5 6 7 z z z z z z 8 34 (Meb y y y y y y y y y y y y y 9 10 11 12 y y y y y y 13) (Mcy 34 (Meb y y y y y y y y y y y y y 14 15 16 17 y y y y y y 18) aM xs (Mew [] [] MaQ us dE [] aM ys jt [] ie [] MaQ us (Mam dE [] (Mc2 bd) (Mf7 [] [] us []))))))))) :=by delta Maa Mab Mac Mad Maf Mag Mai Maj Mak Mal Mam Man Mao Map Mar Mat Mav Maw Maz MaA MaD MaE MaG MaM MaN MaP MaQ MaR MaS MaV MaY Ma3 Ma4 Mbf Mbk Mbl Mbo Mbp Mbu Mbv MbB MbD MbI MbX MbY MbZ Mb0 Mb1 Mb2 Mb3 Mb4 Mb5 Mb9 Mca Mcb Mcd Mce Mcf Mcg Mci Mcj Mck Mcq Mcy McE McI McJ McR McS Mc2 Mde Mdl Mdp MdK MdL Meb Mew Me1 Me9 Mfd MfA MfJ Mf7 MgN Mg9 MiJ Mjf MjE; refine nm ?_; refine nm ?_; kernel_rfl
def pSt (n0:Nat) (st:St) (z y:L1) (ns xs ys us ls:L2) (how:Int) (bd:L2):Prop:=(ls.length=bd.length/\bd.length<=1000/\wT 20 bd)/\n0=1/\st=Sst z y ns xs ys us ls how bd 0
def Lst:aB:=fun n0 st K=>∃z y ns xs ys us ls how bd,pSt n0 st z y ns xs ys us ls how bd/\K (.exit 0) ⟨T 92 [(0,.sl 0),(1,.int .u8 how),(8,.ptr 1 0),(10,.ptr 2 0),(13,.ptr 3 0)],[some (.ro [.u8] ns),some (.var 34 (af z 4 5 6 7 8)),some (.var 34 (af y 9 10 11 12 13)),some (.var 34 (af y 14 15 16 17 18)),some (.ro aM xs),some (.ro jt []),some (.ro ie []),some (.ro [.i64] us),some (.ro dE []),some (.ro aM ys),some (.ro jt []),some (.ro ie []),some (.ro [.i64] us),some (.ro dE []),some (.row 79 aM (age pO bd ls)),some (.ro jt []),some (.ro ie []),some (.ro [.i64] us),some (.ro dE [])]⟩
def Nst:Know:={ Γ:=xA,Λ:=fun f i=>if f=aau then (if i=0 then some Lst else none) else none,Τ:=fun _=>none }
theorem acU (ns:L2) (how h:Int) (K:KP):(comes TP Nst 3 aau [.sl 0,.int .u8 how,.int .u64 h] [.ro [.u8] ns] K) =(∀a,MbC a how 0 (∀b,MbC b how 1 (∀c,MbC c how 2 (∀d,MbC d how 3 (∀e,MbC e how 4 (∀f,MbC f how 5 (∀g,MbC g how 6 (∀i,MbC i how 7 (∀j,MbC j how 8 (∀k,MbC k how 9 (∀l,MbC l how 10 (∀m,MbC m how 11 (∀n,MbC n how 12 (∀o,MbC o how 13 (∀p,MbC p how 14 (∀q,MbC q how 15 (∀r,MbC r how 16 (∀s,MbC s how 17 (∀t,MbC t how 18 (∀u,Mau u (eD (0+h) (FO ns 8)) (∀v,Mei v a b c 0 0 f g i j k l m n o p q r s t (0+h) (FO ns 8) (∀w,MbL w v 0 (∀x,Mei x a b c d e f g i j k l m n o p q r s t 0 (FO ns 8) (Mgx (Mhw 8 how ns) (MeZ a b c d e f g i j k l m n o p q r s t 0 0 (FO ns 8) [] [] (McM ns 8) []) (MeZ a b c 0 0 f g i j k l m n o p q r s t 0 h (FO ns 8) [] [] (McM ns 8) []) (Gq (Mak 0 (MbN 0 h [])) (MiV (FO ns 8))) (Mec x) (Mec v) (McL (Mbp (Mbp x v) u) (K MaJ []) (Mfa (Meu v a b c 0 0 f g i j k l m n o p q r s t (0+h) ns 8) (FO ns 8) (K MaJ []) (Mgv 0 (FO ns 8) 160 (∃y:L1,∃z:L1,∃a1:L2,∃b1:L2,∃c1:L2,∃d1:L2,∃e1:L2,∃f1:Int,∃g1:L2,Mda (pSt 1 (McS 92 0 Mb5 (Mfd 1 (MbB how) 8 1 (Me1 10 2 12 3 13 4 14 0)) [] ns (Mbf 34 (Mcd (an x a) (an x b) (an x c) (an x d) (an x e) (an x f) (an x g) (an x i) (an x j) (an x k) (an x l) (an x m) (an x n) 5 6 7 8 (an x o) (an x p) (an x q) (an x r) (an x s) (an x t) 9) 34 (Mcd (an v a) (an v b) (an v c) w w (an v f) (an v g) (an v i) (an v j) (an v k) (an v l) (an v m) (an v n) 10 11 12 13 (an v o) (an v p) (an v q) (an v r) (an v s) (an v t) 14) 58 (Mak 15 (MaY u)) 34 (Mcd a b c 0 0 f g i j k l m n 16 17 18 19 o p q r s t 20) (Mde (Meu x a b c d e f g i j k l m n o p q r s t 0 ns 8) (McA x) (McA x) (Mdy x ns 8) (McA x) aM (Meu v a b c 0 0 f g i j k l m n o p q r s t (0+h) ns 8) (McA v) (McA v) (Mdy v ns 8) (McA v) (Mag (MdK (lh (0+h) (FO ns 8))) (Mc2 (Mg7 20 (FO ns 8))) (Mf7 [] [] (McM ns 8) []))))) y z a1 b1 c1 d1 e1 f1 g1) (Mhv (Mb9 z) (Mca z) (Mcb z) (Mcj z) (Mce z) (Mcf z) (Mcg z) (Mck z) (McE z) (McI z) (MbX z) (Mci z) (MbY z) (MbZ z) (Mb0 z) (Mb1 z) (Mb2 z) (Mb3 z) (Mb4 z) (Mb9 z) (Mca z) (Mcb z) (Mcj z) (Mce z) (Mcf z) (Mcg z) (Mck z) (McE z) (McI z) (MbX z) (Mci z) (MbY z) 5 6 7 8 (MbZ z) (Mb0 z) (Mb1 z) (Mb2 z) (Mb3 z) (Mb4 z) 9 [] c1 [] [] d1 [] (age pO g1 e1) [] [] d1 [] []) (Mhw 8 f1 a1) (Mhv (Mb9 y) (Mca y) (Mcb y) (Mcj y) (Mce y) (Mcf y) (Mcg y) (Mck y) (McE y) (McI y) (MbX y) (Mci y) (MbY y) (MbZ y) (Mb0 y) (Mb1 y) (Mb2 y) (Mb3 y) (Mb4 y) (Ma8 f1 0) (Ma8 f1 1) (Ma8 f1 2) (Ma8 f1 3) (Ma8 f1 4) (Ma8 f1 5) (Ma8 f1 6) (Ma8 f1 7) (Ma8 f1 8) (Ma8 f1 9) (Ma8 f1 10) (Ma8 f1 11) (Ma8 f1 12) 5 6 7 8 (Ma8 f1 13) (Ma8 f1 14) (Ma8 f1 15) (Ma8 f1 16) (Ma8 f1 17) (Ma8 f1 18) 9 [] b1 [] [] d1 [] (FO a1 8) [] [] (McM a1 8) [] []) MhU (K Ma5 []))))))))))))))))))))))))))))) :=by delta Maa Mab Mac Mad Maf Mag Mai Maj Mak Mal Mam Man Mao Map Mat Mau Mav Maw Max Maz MaB MaC MaD MaE MaG MaJ MaM MaN MaP MaQ MaR MaV MaW MaY Ma3 Ma4 Ma5 Ma6 Ma8 Mbf Mbl Mbp Mbx MbB MbC MbE MbJ MbL MbN MbX MbY MbZ Mb0 Mb1 Mb2 Mb3 Mb4 Mb5 Mb9 Mca Mcb Mcd Mce Mcf Mcg Mci Mcj Mck Mcv McA McB McE McI McL McM McS Mc2 Mda Mde Mdv Mdy MdK Mec Mei Meu MeZ Me1 Mfa Mfd Mf7 Mgv Mgx Mg7 Mhv Mhw MhU MiV; (iterate 23 refine nm ?_); kernel_rfl
section
open Go.IntWalk
theorem lSt (d n0:Nat):aG (ai TP Nst d) aau n0 0 (lp TP aau 0) Lst:=by
 intro st K hst;obtain ⟨z,y,ns,xs,ys,us,ls,how,bd,⟨⟨hll,hl,h20⟩,rfl,rfl⟩,hK⟩:=hst;have e0:Sst z y ns xs ys us ls how bd 0=Sst z y ns xs ys us ls how (agv pO bd ls 0) ((0:Nat):Int):=by rw [pd]; rfl
 rw [e0];refine aC (fun i:Nat=>Sst z y ns xs ys us ls how (agv pO bd ls i) i) (fun i=>i<=bd.length) (fun i=>bd.length - i) ?_ (a:=0) (Nat.zero_le _)
 rintro i hle k hn hk;show round (ai TP { Γ:=xA,Λ:=_,Τ:=fun _=>none } d) _ _ _ _ _ k
 rw [rSt]; delta Maa Mab Mac Mad Maf Mag Mai Maj Mak Mal Mam Man Mao Map Mar Mat Mav Maw Maz MaA MaD MaE MaG MaM MaN MaP MaQ MaR MaS MaV MaY Ma3 Ma4 Mbf Mbk Mbl Mbo Mbp Mbu Mbv MbB MbD MbI MbX MbY MbZ Mb0 Mb1 Mb2 Mb3 Mb4 Mb5 Mb9 Mca Mcb Mcd Mce Mcf Mcg Mci Mcj Mck Mcq Mcy McE McI McJ McR McS Mc2 Mde Mdl Mdp MdK MdL Meb Mew Me1 Me9 Mfd MfA MfJ Mf7 MgN Mg9 MiJ Mjf MjE;rw [show ((i:Nat):Int).toNat=i by omega]
 rintro t1 e1 t2 e2;rw [jD] at e2 ⊢;rw [al];constructor
 ·intro hi;have hi':i < bd.length:=by omega
  have p1:t1:=by rw [e1]; omega
  have p2:t2:=by rw [e2]; omega
  refine ⟨p1,p1,p2,p2,?_⟩;rw [show IntKind.i64.wrap ((i:Int)+1)=((i+1:Nat):Int) by rw [i64_in _ (by omega)]; rfl]
  have:=hn (i+1) hi' (by omega)
  rw [← agp hi' (g:=fun x=>(List.range 20).map (fun j=>if 4<=j/\j < 8 then [rd ls i 0,rd ls i 1,rd ls i 2,rd ls i 3].getD (j - 4) 0 else x.getD j 0)) (Bv _ (ls.getD i []) _ _ _ _ rfl)] at this
  exact this
 ·intro hi;have:i=bd.length:=by omega
  subst this;exact hk _ _ (by simp) hK
theorem afk:KnowOk TP Nst 3:=cP (f0:=aau) (L:=Lst) (fun g sp h=>U3 h) rfl (fun g G h=>(by cases h)) lSt 3
def wg (how:Int):L1:=[0,0,1152921504606846976,0,0,0,4611686018427387904,0,how*72057594037927936,0,how % 4*4611686018427387904,how / 4 % 2,how / 8 % 2,0,0,0,0,0,0]
theorem afa {how:Int} (h:im how):Ch (wg how):=by
 obtain ⟨⟨⟨_,hk⟩,_,h5⟩,h7⟩:=Oj h;refine ⟨⟨⟨rfl,?_⟩,(show ag 0 from ⟨by decide,by decide⟩),h5⟩,h7⟩
 intro j hj;rcases j with _|_|_|_|_|j
 ·exact hk 0 (by omega)
 ·exact hk 1 (by omega)
 ·exact hk 2 (by omega)
 ·exact (show dt .i64 0 from ⟨by decide,by decide⟩)
 ·exact (show dt .u64 0 from ⟨by decide,by decide⟩)
 ·have:=hk (j+5) hj;exact this
theorem afr:aa TP aau ab1:=by
 refine ab 3 afk ?_;rintro l bs _ hB ⟨ns,how,h,rfl,rfl,hh,hu⟩;have hb:aI [.u8] ns/\0 < [IntKind.u8].length/\ns.length<=maxLen:=hB (.ro [.u8] ns) (List.mem_singleton.2 rfl);obtain ⟨hz,hg,hl,huk,hu1,hul⟩:=Ip (ns:=ns) hb.1 (m:=8) ⟨by decide,by decide⟩ hh
 have hl8:(FO ns 8).length<=100:=by have:=(yY (ns:=ns) (m:=8) ⟨by decide,by decide⟩).2; omega
 have hm:∀ r∈FO ns 8,Lr r:=fun r hr=>AH hb.1 _ r hr
 have hzl:([(wz how).getD 0 0,(wz how).getD 1 0,(wz how).getD 2 0,(wz how).getD 3 0,(wz how).getD 4 0,(wz how).getD 5 0,(wz how).getD 6 0,(wz how).getD 7 0,(wz how).getD 8 0,(wz how).getD 9 0,(wz how).getD 10 0,(wz how).getD 11 0,(wz how).getD 12 0,(wz how).getD 13 0,(wz how).getD 14 0,(wz how).getD 15 0,(wz how).getD 16 0,(wz how).getD 17 0,(wz how).getD 18 0]:L1)=wz how:=rfl;have hzg:([(wz how).getD 0 0,(wz how).getD 1 0,(wz how).getD 2 0,0,0,(wz how).getD 5 0,(wz how).getD 6 0,(wz how).getD 7 0,(wz how).getD 8 0,(wz how).getD 9 0,(wz how).getD 10 0,(wz how).getD 11 0,(wz how).getD 12 0,(wz how).getD 13 0,(wz how).getD 14 0,(wz how).getD 15 0,(wz how).getD 16 0,(wz how).getD 17 0,(wz how).getD 18 0]:L1)=wg how:=rfl;have hu':0<=h/\h<=18446744073709551616:=by unfold aj at hu; omega
 have hth:0<=fr (wz how) 7/\fr (wz how) 7<=18446744073709551616:=by
  unfold im at hh;show 0<=(0:Int)*18446744073709551616+how*72057594037927936/\(0:Int)*18446744073709551616+how*72057594037927936<=_;omega
 have hthg:0<=fr (wg how) 7/\fr (wg how) 7<=18446744073709551616:=hth;have g3:0<=fr (wz how) 3/\fr (wz how) 3<=55340232221128654848:=by
  show 0<=(1+how % 3)*18446744073709551616+0/\(1+how % 3)*18446744073709551616+0<=_;omega
 obtain ⟨z0,zb⟩:=aek (z:=wz how) (xs:=FO ns 8) ⟨g3,rfl,.inr rfl⟩ hth hm hl8;obtain ⟨d0,db,de⟩:=adD (z:=wg how) (h:=h) (xs:=FO ns 8) rfl rfl hthg hm hl8 hu';rw [acU]; delta Maa Mab Mac Mad Maf Mag Mai Maj Mak Mal Mam Man Mao Map Mat Mau Mav Maw Max Maz MaB MaC MaD MaE MaG MaJ MaM MaN MaP MaQ MaR MaV MaW MaY Ma3 Ma4 Ma5 Ma6 Ma8 Mbf Mbl Mbp Mbx MbB MbC MbE MbJ MbL MbN MbX MbY MbZ Mb0 Mb1 Mb2 Mb3 Mb4 Mb5 Mb9 Mca Mcb Mcd Mce Mcf Mcg Mci Mcj Mck Mcv McA McB McE McI McL McM McS Mc2 Mda Mde Mdv Mdy MdK Mec Mei Meu MeZ Me1 Mfa Mfd Mf7 Mgv Mgx Mg7 Mhv Mhw MhU MiV; rw [Int.zero_add,vr hu,vr (h:=0) ⟨by decide,by decide⟩]
 rintro t1 rfl t2 rfl t3 rfl t4 rfl t5 rfl t6 rfl t7 rfl t8 rfl t9 rfl t10 rfl t11 rfl t12 rfl t13 rfl t14 rfl t15 rfl t16 rfl t17 rfl t18 rfl t19 rfl t20 e20 t21 e21 t22 e22 t23 e23;rw [hzl] at e23 ⊢;rw [hzg] at e21 ⊢;rw [d0] at e21;rw [z0] at e23;rw [de] at e20;subst e20 e21 e22 e23;simp only [Ps,Pr];rw [db,zb];refine ⟨⟨ns,8,how,rfl,rfl,⟨by decide,by decide⟩,hh⟩,⟨wz how,_,[],[],_,[],0,rfl,rfl,hz,hg,bg,hl,Y1 hul⟩,⟨wg how,_,[],[],_,[],h,rfl,rfl,afa hh,hg,sh hu,hl,Y1 hul⟩,⟨_,h,rfl,rfl,hg,sh hu,by omega⟩,dY ⟨by decide,by decide⟩,dY ⟨by decide,by decide⟩,?_⟩
 rw [ah];refine ⟨fun hh=>absurd (by decide) hh,fun _=>?_⟩
 rw [ah];refine ⟨fun hh=>absurd (by rw [Af]) hh,fun _=>⟨by omega,?_⟩⟩
 have hml:=(abD de).1;have hll:(lh h (FO ns 8)).length=(FO ns 8).length:=by unfold lh agk; rw [if_pos de]; simp
 refine ⟨wz how,wg how,ns,FO ns 8,lj h (FO ns 8),_,lh h (FO ns 8),how,FO ns 8,⟨⟨hll,hl,fun r hr=>(hg r hr).1⟩,rfl,rfl⟩,?_⟩
 rw [← hml];exact ⟨⟨wg how,lj h (FO ns 8),[],[],_,[],rfl,rfl,vb rfl (wN hg) (by rw [Af]; exact hl) huk hu1 hul⟩,⟨ns,8,how,rfl,rfl,⟨by decide,by decide⟩,hh⟩,⟨wz how,FO ns 8,[],[],_,[],rfl,rfl,vb hz.1.1.1 hg hl huk hu1 hul⟩,rN,rfl⟩
end
end Go.Vs.RF
