import Derived.Test.YtemefnjekgjciaaGreatProg
import Derived.Test.YtemefnjekgjciaaGreatC1
import Derived.Test.YtemefnjekgjciaaGreatC2
import Derived.Test.YtemefnjekgjciaaGreatD1
import Derived.Test.YtemefnjekgjciaaGreatD2
import Derived.Test.YtemefnjekgjciaaGreatD3
import Derived.Test.YtemefnjekgjciaaGreatD4
set_option linter.unusedVariables false
set_option linter.unusedSimpArgs false
noncomputable section
set_option maxRecDepth 100000
namespace Go.Vs.RF
open Go Go.Vs
abbrev aa5:FuncId:=11
section
open Go.Proofs Go.IntWalk
theorem abs_neg (x:Int):cD (-x)=cD x:=by unfold cD; split <;> split <;> omega
theorem aeG (x:Int) (hx:x≠0):decide (-x < 0) = !decide (x < 0):=by
 rw [Bool.eq_iff_iff]; simp; omega
theorem acb (b:Bool) (r:Int):dH (!b) r = -dH b r:=by cases b <;> simp [dH]
theorem abS (x y:Int):az (-x) y = -az x y:=by
 by_cases hx:x=0
 ·subst hx; unfold az; simp [cD,dH]
 ·unfold az;rw [abs_neg,aeG x hx,← acb]
  congr 1
  cases decide (x < 0) <;> cases decide (y < 0) <;> rfl
def aeL (l:List IV) (bs:List aq):Prop:=∃ns how h,l=[.sl 0,.int .u8 how,.int .u64 h]/\bs=[.ro [.u8] ns]/\im how/\aj h
def ab1:Vs.Spec:=⟨aeL,fun _ _=>(.bool true,[])⟩
theorem af6 (ns:L2) {how h:Int} (k1:dt .u8 how) (k2:dt .u64 h):aeL [.sl 0,.int .u8 how,.int .u64 h] [.ro [.u8] ns]:=by
 have h1:0<=how/\how<=255:=k1;have h2:0<=h/\h<=18446744073709551615:=k2;exact ⟨ns,how,h,rfl,rfl,⟨h1.1,by omega⟩,⟨h2.1,by omega⟩⟩
end
section
open Go.Proofs
theorem acW (ns:L2) (how h:Int) (K:KP):(comes TP { Γ:=xA,Λ:=fun _ _=>none,Τ:=fun _=>none } 3 aa5 [.sl 0,.int .u8 how,.int .u64 h] [.ro [.u8] ns] K) =(∀a,Mc1 a 24925373260635542024 (0+h) (∀b,Mau b a (∀c,Mc1 c (-31404002447561532432) (0+h) (∀d,Mau d c (∀e,MbC e how 0 (∀f,MbC f how 1 (∀g,MbC g how 2 (∀i,MbC i how 3 (∀j,MbC j how 4 (∀k,MbC k how 5 (∀l,MbC l how 6 (∀m,MbC m how 7 (∀n,MbC n how 8 (∀o,MbC o how 9 (∀p,MbC p how 10 (∀q,MbC q how 11 (∀r,MbC r how 12 (∀s,MbC s how 13 (∀t,MbC t how 14 (∀u,MbC u how 15 (∀v,MbC v how 16 (∀w,MbC w how 17 (∀x,MbC x how 18 (∀y,Mbo y (jN (MgH (MbN 0 h [])) []) (∀z,Mei z e f g i j k l m n o p q r s t u v w x b (FO ns 5) (∀a1,Mau a1 (gR (MbE e f g i j k l m n o p q r s t u v w x) (0+h) (FO ns 5)) (∀b1,MbL b1 z e (∀c1,MbL c1 z f (∀d1,MbL d1 z g (∀e1,MbL e1 z i (∀f1,MbL f1 z j (∀g1,MbL g1 z k (∀i1,MbL i1 z l (∀j1,MbL j1 z m (∀k1,MbL k1 z n (∀l1,MbL l1 z o (∀m1,MbL m1 z p (∀n1,MbL n1 z q (∀o1,MbL o1 z r (∀p1,MbL p1 z s (∀q1,MbL q1 z t (∀r1,MbL r1 z u (∀s1,MbL s1 z v (∀t1,MbL t1 z w (∀u1,MbL u1 z x (∀v1,MfO v1 a1 (∀w1,Mei w1 b1 c1 d1 e1 f1 g1 i1 j1 k1 l1 m1 n1 o1 p1 q1 r1 s1 t1 u1 d (Meu z e f g i j k l m n o p q r s t u v w x b ns 5) (∀x1,Mei x1 b1 c1 d1 e1 f1 g1 i1 j1 k1 l1 m1 n1 o1 p1 q1 r1 s1 t1 u1 b (Meu z e f g i j k l m n o p q r s t u v w x b ns 5) (∀y1,MbL y1 w1 b1 (∀z1,MbL z1 w1 c1 (∀a2,MbL a2 w1 d1 (∀b2,MbL b2 w1 e1 (∀c2,MbL c2 w1 f1 (∀d2,MbL d2 w1 g1 (∀e2,MbL e2 w1 i1 (∀f2,MbL f2 w1 j1 (∀g2,MbL g2 w1 k1 (∀i2,MbL i2 w1 l1 (∀j2,MbL j2 w1 m1 (∀k2,MbL k2 w1 n1 (∀l2,MbL l2 w1 o1 (∀m2,MbL m2 w1 p1 (∀n2,MbL n2 w1 q1 (∀o2,MbL o2 w1 r1 (∀p2,MbL p2 w1 s1 (∀q2,MbL q2 w1 t1 (∀r2,MbL r2 w1 u1 (∀s2,Mei s2 y1 z1 a2 b2 c2 d2 e2 f2 g2 i2 j2 k2 l2 m2 n2 o2 p2 q2 r2 b (McB w1 b1 c1 d1 e1 f1 g1 i1 j1 k1 l1 m1 n1 o1 p1 q1 r1 s1 t1 u1 d (Meu z e f g i j k l m n o p q r s t u v w x b ns 5)) (∀t2,McW t2 (Mgl e f g i j k l m n o p q r s t u v w x a (FO ns 5) [] [] (McM ns 5) []) (Mcm z 0 (Mav (Mfe (-2) 5489485699857570800 0 h []) (Mgl b1 c1 d1 e1 f1 g1 i1 j1 k1 l1 m1 n1 o1 p1 q1 r1 s1 t1 u1 c (Meu z e f g i j k l m n o p q r s t u v w x b ns 5) (McA z) (McA z) (Mdy z ns 5) (McA z)) (Mcm w1 0 (MaE y (Mgl y1 z1 a2 b2 c2 d2 e2 f2 g2 i2 j2 k2 l2 m2 n2 o2 p2 q2 r2 a (McB w1 b1 c1 d1 e1 f1 g1 i1 j1 k1 l1 m1 n1 o1 p1 q1 r1 s1 t1 u1 d (Meu z e f g i j k l m n o p q r s t u v w x b ns 5)) (bq w1 (McA z)) (bq w1 (McA z)) (bq w1 (Mdy z ns 5)) (bq w1 (McA z))) (MjJ (an a1 e) (an a1 f) (an a1 g) (an a1 i) (an a1 j) (an a1 k) (an a1 l) (an a1 m) (an a1 n) (an a1 o) (an a1 p) (an a1 q) (an a1 r) (an a1 s) (an a1 t) (an a1 u) (an a1 v) (an a1 w) (an a1 x) (an s2 y1) (an s2 z1) (an s2 a2) (an s2 b2) (an s2 c2) (an s2 d2) (an s2 e2) (an s2 f2) (an s2 g2) (an s2 i2) (an s2 j2) (an s2 k2) (an s2 l2) (an s2 m2) (an s2 n2) (an s2 o2) (an s2 p2) (an s2 q2) (an s2 r2) (bq a1 (qA (MbE e f g i j k l m n o p q r s t u v w x) (0+h) (FO ns 5))) (McA a1) (Mdy a1 ns 5) (McB s2 y1 z1 a2 b2 c2 d2 e2 f2 g2 i2 j2 k2 l2 m2 n2 o2 p2 q2 r2 b (McB w1 b1 c1 d1 e1 f1 g1 i1 j1 k1 l1 m1 n1 o1 p1 q1 r1 s1 t1 u1 d (Meu z e f g i j k l m n o p q r s t u v w x b ns 5))) (bq s2 (bq w1 (McA z))) (Mfr s2 w1 (Mdy z ns 5))) v1 (Mgk a1 s2 (K Ma5 []) (K MaJ []))) (Mav (MjJ (an a1 e) (an a1 f) (an a1 g) (an a1 i) (an a1 j) (an a1 k) (an a1 l) (an a1 m) (an a1 n) (an a1 o) (an a1 p) (an a1 q) (an a1 r) (an a1 s) (an a1 t) (an a1 u) (an a1 v) (an a1 w) (an a1 x) y1 z1 a2 b2 c2 d2 e2 f2 g2 i2 j2 k2 l2 m2 n2 o2 p2 q2 r2 (bq a1 (qA (MbE e f g i j k l m n o p q r s t u v w x) (0+h) (FO ns 5))) (McA a1) (Mdy a1 ns 5) (McB w1 b1 c1 d1 e1 f1 g1 i1 j1 k1 l1 m1 n1 o1 p1 q1 r1 s1 t1 u1 d (Meu z e f g i j k l m n o p q r s t u v w x b ns 5)) (bq w1 (McA z)) (bq w1 (Mdy z ns 5))) v1 (Mgk a1 w1 (K Ma5 []) (K MaJ []))))) (Mcm z 0 (MaE y (Mgl b1 c1 d1 e1 f1 g1 i1 j1 k1 l1 m1 n1 o1 p1 q1 r1 s1 t1 u1 a (Meu z e f g i j k l m n o p q r s t u v w x b ns 5) (McA z) (McA z) (Mdy z ns 5) (McA z)) (MjJ (an a1 e) (an a1 f) (an a1 g) (an a1 i) (an a1 j) (an a1 k) (an a1 l) (an a1 m) (an a1 n) (an a1 o) (an a1 p) (an a1 q) (an a1 r) (an a1 s) (an a1 t) (an a1 u) (an a1 v) (an a1 w) (an a1 x) (an x1 b1) (an x1 c1) (an x1 d1) (an x1 e1) (an x1 f1) (an x1 g1) (an x1 i1) (an x1 j1) (an x1 k1) (an x1 l1) (an x1 m1) (an x1 n1) (an x1 o1) (an x1 p1) (an x1 q1) (an x1 r1) (an x1 s1) (an x1 t1) (an x1 u1) (bq a1 (qA (MbE e f g i j k l m n o p q r s t u v w x) (0+h) (FO ns 5))) (McA a1) (Mdy a1 ns 5) (McB x1 b1 c1 d1 e1 f1 g1 i1 j1 k1 l1 m1 n1 o1 p1 q1 r1 s1 t1 u1 b (Meu z e f g i j k l m n o p q r s t u v w x b ns 5)) (bq x1 (McA z)) (bq x1 (Mdy z ns 5))) v1 (Mgk a1 x1 (K Ma5 []) (K MaJ []))) (Mav (MjJ (an a1 e) (an a1 f) (an a1 g) (an a1 i) (an a1 j) (an a1 k) (an a1 l) (an a1 m) (an a1 n) (an a1 o) (an a1 p) (an a1 q) (an a1 r) (an a1 s) (an a1 t) (an a1 u) (an a1 v) (an a1 w) (an a1 x) b1 c1 d1 e1 f1 g1 i1 j1 k1 l1 m1 n1 o1 p1 q1 r1 s1 t1 u1 (bq a1 (qA (MbE e f g i j k l m n o p q r s t u v w x) (0+h) (FO ns 5))) (McA a1) (Mdy a1 ns 5) (Meu z e f g i j k l m n o p q r s t u v w x b ns 5) (McA z) (Mdy z ns 5)) v1 (Mgk a1 z (K Ma5 []) (K MaJ []))))) (Mda (Mhw 5 how ns) (Po [] []) (MeZ e f g i j k l m n o p q r s t u v w x 0 h (FO ns 5) [] [] (McM ns 5) []) (Mav y t2 t2) y t2)))))))))))))))))))))))))))))))))))))))))))))))))))))))))))))))))))))) :=by delta Maa Mab Mad Maf Mai Maj Mak Mau Mav Maw Max MaB MaC MaD MaE MaJ MaN MaP MaQ MaR MaY Ma5 Mbo Mbq Mbw Mbx MbB MbC MbE MbJ MbL MbN Mcm Mcv McA McB McK McM McW Mc1 Mda Mdv Mdy Mec Mei Meu MeZ Mfe Mfr MfO Mgk Mgl MgH Mhv Mhw MjJ; refine nm ?_; refine nj ?_; refine nm ?_; refine nj ?_; (iterate 65 refine nm ?_); kernel_rfl
end
section
open Go.Proofs Go.IntWalk
theorem adF:KnowOk TP { Γ:=xA,Λ:=fun _ _=>none,Τ:=fun _=>none } 3:=aF (fun g sp h=>U3 h) (fun _ _=>rfl) (fun _=>rfl) 3
theorem aeP {x y:Int} (hx:0<=x) (hy:0<=y):az x y=(x*y+9223372036854775808) / 18446744073709551616:=by
 unfold az cD;rw [if_neg (show ¬ x < 0 by omega),if_neg (show ¬ y < 0 by omega),decide_eq_false (show ¬ x < 0 by omega),decide_eq_false (show ¬ y < 0 by omega)]
 rfl
theorem abn {x y A B:Int} (hx:0<=x) (hy:0<=y) (ha:x<=A) (hb:y<=B):0<=az x y/\az x y<=(A*B+9223372036854775808) / 18446744073709551616:=by
 rw [aeP hx hy];have h0:0<=x*y:=Int.mul_nonneg hx hy;have h1:x*y<=A*B:=Int.mul_le_mul ha hb hy (by omega)
 exact ⟨Int.ediv_nonneg (by omega) (by decide),Int.ediv_le_ediv (by decide) (by omega)⟩
theorem ac8 {x y A B:Int} (hx:-A<=x/\x<=A) (hy:0<=y) (hb:y<=B):-((A*B+9223372036854775808) / 18446744073709551616)<=az x y/\az x y<=(A*B+9223372036854775808) / 18446744073709551616:=by
 by_cases h:0<=x
 ·have:=abn h hy hx.2 hb; omega
 ·have:=abn (x:=-x) (A:=A) (by omega) hy (by omega) hb
  rw [abS] at this; omega
theorem ac7 {w h:Int} (hw:-55340232221128654848<=w/\w<=55340232221128654848) (hu:aj h):bG (az w h)=0:=by
 have:=ac8 (B:=18446744073709551616) hw hu.1 (by unfold aj at hu; omega)
 exact cK ⟨by omega,by omega⟩
theorem aft:aa TP aa5 ab1:=by
 refine ab 3 adF ?_;rintro l bs _ hB ⟨ns,how,h,rfl,rfl,hh,hu⟩;have hb:aI [.u8] ns/\0 < [IntKind.u8].length/\ns.length<=maxLen:=hB (.ro [.u8] ns) (List.mem_singleton.2 rfl);obtain ⟨hz,hg,hl,huk,hu1,hul⟩:=Ip (ns:=ns) hb.1 (m:=5) ⟨by decide,by decide⟩ hh
 have hzl:([(wz how).getD 0 0,(wz how).getD 1 0,(wz how).getD 2 0,(wz how).getD 3 0,(wz how).getD 4 0,(wz how).getD 5 0,(wz how).getD 6 0,(wz how).getD 7 0,(wz how).getD 8 0,(wz how).getD 9 0,(wz how).getD 10 0,(wz how).getD 11 0,(wz how).getD 12 0,(wz how).getD 13 0,(wz how).getD 14 0,(wz how).getD 15 0,(wz how).getD 16 0,(wz how).getD 17 0,(wz how).getD 18 0]:L1)=wz how:=rfl;rw [acW]; delta Maa Mab Mad Maf Mai Maj Mak Mau Mav Maw Max MaB MaC MaD MaE MaJ MaN MaP MaQ MaR MaY Ma5 Mbo Mbq Mbw Mbx MbB MbC MbE MbJ MbL MbN Mcm Mcv McA McB McK McM McW Mc1 Mda Mdv Mdy Mec Mei Meu MeZ Mfe Mfr MfO Mgk Mgl MgH Mhv Mhw MjJ; rw [Int.zero_add];rintro t1 e1 j2 rfl t3 e3 j4 rfl t5 rfl t6 rfl t7 rfl t8 rfl t9 rfl t10 rfl t11 rfl t12 rfl t13 rfl t14 rfl t15 rfl t16 rfl t17 rfl t18 rfl t19 rfl t20 rfl t21 rfl t22 rfl t23 rfl t24 e24 t25 e25 t26 e26 t27 e27 t28 e28 t29 e29 t30 e30 t31 e31 t32 e32 t33 e33 t34 e34 t35 e35 t36 e36 t37 e37 t38 e38 t39 e39 t40 e40 t41 e41 t42 e42 t43 e43 t44 e44 t45 e45 t46 e46 t47 e47 t48 e48 t49 e49 t50 e50 t51 e51 t52 e52 t53 e53 t54 e54 t55 e55 t56 e56 t57 e57 t58 e58 t59 e59 t60 e60 t61 e61 t62 e62 t63 e63 t64 e64 t65 e65 t66 e66 t67 e67 t68 e68 t69 e69;rw [hzl] at e25 e26 e47 e48 e68 e69;rw [vr hu] at e24;have q24:t24:=by rw [e24]; exact ⟨NZ,h,rfl,rfl,jq,sh hu⟩
 have hm2:ag j2:=by rw [e1]; exact dI _
 have hm4:ag j4:=by rw [e3]; exact dI _
 have eR:xy (wz how) h 3 0 (FO ns 5)=if adn (wz how) j2 (FO ns 5)≠0 then ([],adn (wz how) j2 (FO ns 5)) else
   if adn (wz how) j4 (gu (wz how) j2 (FO ns 5))≠0 then ([],adn (wz how) j4 (gu (wz how) j2 (FO ns 5))) else
   if adn (wz how) j2 (gu (wz how) j4 (gu (wz how) j2 (FO ns 5)))≠0 then ([],adn (wz how) j2 (gu (wz how) j4 (gu (wz how) j2 (FO ns 5)))) else (gu (wz how) j2 (gu (wz how) j4 (gu (wz how) j2 (FO ns 5))),0):=by
  have hA:bG (az NZ h)=0:=ac7 ⟨by decide,by decide⟩ hu
  have hB:bG (az YX h)=0:=ac7 ⟨by decide,by decide⟩ hu
  have k0:EN 0=NZ:=rfl;have k1:EN 1=YX:=rfl;have k2:EN 2=NZ:=rfl;simp only [xy,Nat.zero_add,k0,k1,k2,hA,hB,ne_eq,not_true_eq_false,if_false];rw [e1,e3]; rfl
 have q46:t46:=by rw [e46]; exact dY (by rw [e26]; exact Qp _ _ _)
 have hg1:=ib (z:=wz how) (h:=j2) hg;have hl1:(gu (wz how) j2 (FO ns 5)).length<=1000:=by rw [jF]; exact hl
 have hg2:=ib (z:=wz how) (h:=j4) hg1;have hl2:(gu (wz how) j4 (gu (wz how) j2 (FO ns 5))).length<=1000:=by rw [jF]; exact hl1
 have hg3:=ib (z:=wz how) (h:=j2) hg2;have hl3:(gu (wz how) j2 (gu (wz how) j4 (gu (wz how) j2 (FO ns 5)))).length<=1000:=by rw [jF]; exact hl2
 have q69:t69:=by
  rw [e69];refine ⟨⟨wz how,_,[],[],_,[],j2,rfl,rfl,hz,hg,hm2,hl,Y1 hul⟩,?_⟩;by_cases h25:t25=0
  ·have c1:¬ adn (wz how) j2 (FO ns 5)≠0:=by rw [← e25,h25]; decide
   have hc:∀ x,an t25 x=x:=fun x=>by rw [h25]; rfl
   have hL:∀ x,bq t25 x=x:=fun x=>by rw [h25]; rfl
   simp only [hc] at e27 e28 e29 e30 e31 e32 e33 e34 e35 e36 e37 e38 e39 e40 e41 e42 e43 e44 e45;simp only [hL] at e47 e48 e68 ⊢;subst e27 e28 e29 e30 e31 e32 e33 e34 e35 e36 e37 e38 e39 e40 e41 e42 e43 e44 e45;rw [hzl] at e47 e48 e68 ⊢;rw [dp];refine ⟨fun _=>⟨⟨YX,h,by rw [vr hu]; rfl,rfl,yX,sh hu⟩,⟨wz how,_,[],[],_,[],j4,rfl,rfl,hz,hg1,hm4,hl1,Y1 hul⟩,?_⟩,fun hh=>absurd h25 hh⟩
   by_cases h47:t47=0
   ·have c2:¬ adn (wz how) j4 (gu (wz how) j2 (FO ns 5))≠0:=by rw [← e47,h47]; decide
    have hc:∀ x,an t47 x=x:=fun x=>by rw [h47]; rfl
    have hL:∀ x,bq t47 x=x:=fun x=>by rw [h47]; rfl
    simp only [hc] at e49 e50 e51 e52 e53 e54 e55 e56 e57 e58 e59 e60 e61 e62 e63 e64 e65 e66 e67;simp only [hL] at e68 ⊢;subst e49 e50 e51 e52 e53 e54 e55 e56 e57 e58 e59 e60 e61 e62 e63 e64 e65 e66 e67;rw [hzl] at e68 ⊢;rw [dp];refine ⟨fun _=>⟨q24,⟨wz how,_,[],[],_,[],j2,rfl,rfl,hz,hg2,hm2,hl2,Y1 hul⟩,?_⟩,fun hh=>absurd h47 hh⟩
    rw [if_neg c1,if_neg c2,← e68] at eR;have q26:t26=t68:=by
     rw [e26]; show (xy (wz how) h 3 0 (FO ns 5)).2=_; rw [eR]; split <;> first | rfl | (rename_i hn; exact (Decidable.not_not.1 hn).symm)
    by_cases h68:t68=0
    ·have hf:qA (wz how) h (FO ns 5)=gu (wz how) j2 (gu (wz how) j4 (gu (wz how) j2 (FO ns 5))):=by
      show (xy (wz how) h 3 0 (FO ns 5)).1=_; rw [eR,if_neg (by rw [h68]; decide)]
     rw [q26,hf,h68];simp only [Ps,Pr];refine ⟨⟨wz how,_,[],[],_,[],rfl,rfl,vb hz.1.1.1 hg3 hl3 huk hu1 hul⟩,q46,?_⟩;exact ⟨rN,rfl⟩
    ·have hc:∀ x,an t68 x=0:=fun x=>if_pos h68
     have hL:∀ x,bq t68 x=[]:=fun x=>if_pos h68
     rw [q26];simp only [hc,hL];refine ⟨⟨z0,[],[],[],[],[],rfl,rfl,ri⟩,q46,?_⟩;rw [dp];exact ⟨fun _=>⟨rN,rfl⟩,fun hh=>absurd rfl hh⟩
   ·rw [dp];refine ⟨fun hh=>absurd hh h47,fun _=>?_⟩
    rw [if_neg c1,if_pos (by rw [← e47]; exact h47),← e47] at eR
    have q26:t26=t47:=by rw [e26]; show (xy (wz how) h 3 0 (FO ns 5)).2=_; rw [eR]
    have hc:∀ x,an t47 x=0:=fun x=>if_pos h47
    have hL:∀ x,bq t47 x=[]:=fun x=>if_pos h47
    rw [q26];simp only [e49,e50,e51,e52,e53,e54,e55,e56,e57,e58,e59,e60,e61,e62,e63,e64,e65,e66,e67,hc,hL];refine ⟨⟨z0,[],[],[],[],[],rfl,rfl,ri⟩,q46,?_⟩;rw [dp];exact ⟨fun _=>⟨rN,rfl⟩,fun hh=>absurd rfl hh⟩
  ·rw [dp];refine ⟨fun hh=>absurd hh h25,fun _=>?_⟩
   rw [dp];refine ⟨fun hh=>absurd hh h25,fun _=>?_⟩
   rw [if_pos (by rw [← e25]; exact h25),← e25] at eR
   have q26:t26=t25:=by rw [e26]; show (xy (wz how) h 3 0 (FO ns 5)).2=_; rw [eR]
   have hc:∀ x,an t25 x=0:=fun x=>if_pos h25
   have hL:∀ x,bq t25 x=[]:=fun x=>if_pos h25
   rw [q26];simp only [e27,e28,e29,e30,e31,e32,e33,e34,e35,e36,e37,e38,e39,e40,e41,e42,e43,e44,e45,hc,hL];refine ⟨⟨z0,[],[],[],[],[],rfl,rfl,ri⟩,q46,?_⟩;rw [dp];exact ⟨fun _=>⟨rN,rfl⟩,fun hh=>absurd rfl hh⟩
 exact ⟨⟨ns,5,how,rfl,rfl,⟨by decide,by decide⟩,hh⟩,⟨rfl,rfl⟩,⟨wz how,_,[],[],_,[],h,by rw [vr hu]; rfl,rfl,hz,hg,sh hu,hl,Y1 hul⟩,⟨q24,q69,q69⟩,q24,q69⟩
end
end Go.Vs.RF
