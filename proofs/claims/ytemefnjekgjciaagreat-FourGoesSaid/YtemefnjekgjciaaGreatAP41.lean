import Derived.Test.YtemefnjekgjciaaGreatProg
import Derived.Test.YtemefnjekgjciaaGreatC1
import Derived.Test.YtemefnjekgjciaaGreatC2
import Derived.Test.YtemefnjekgjciaaGreatA1
import Derived.Test.YtemefnjekgjciaaGreatA2
import Derived.Test.YtemefnjekgjciaaGreatA3
import Derived.Test.YtemefnjekgjciaaGreatA4
set_option linter.unusedVariables false
set_option linter.unusedSimpArgs false
noncomputable section
set_option maxRecDepth 100000
namespace Go.Vs.RF
open Go Go.Vs
abbrev aa7:FuncId:=4
section
open Go.Proofs
theorem adv (ns:L2) (how h:Int) (K:KP):(comes TP { Γ:=xA,Λ:=fun _ _=>none,Τ:=fun _=>none } 3 aa7 [.sl 0,.int .u8 how,.int .u64 h] [.ro [.u8] ns] K) =(∀a,MbC a how 0 (∀b,MbC b how 1 (∀c,MbC c how 2 (∀d,MbC d how 3 (∀e,MbC e how 4 (∀f,MbC f how 5 (∀g,MbC g how 6 (∀i,MbC i how 7 (∀j,MbC j how 8 (∀k,MbC k how 9 (∀l,MbC l how 10 (∀m,MbC m how 11 (∀n,MbC n how 13 (∀o,MbC o how 14 (∀p,MbC p how 15 (∀q,MbC q how 16 (∀r,MbC r how 17 (∀s,MbC s how 18 (∀t,Mau t (tq (MbE a b c d e f g i j k l m 1 n o p q r s) (0+h) (FO ns 4)) (∀u,Mau u (gR (MbE a b c d e f g i j k l m 1 n o p q r s) (0+h) (FO ns 4)) (∀v,Mau v (tq (MbE a b c d e f g i j k l m 0 n o p q r s) (0+h) (FO ns 4)) (∀w,Mei w a b c d e f g i j k l m 0 n o p q r s (0+h) (FO ns 4) (∀x,MbL x t 1 (∀y,MbL y t a (∀z,Mbo z (MeZ a b c d e f g i j k l m 0 n o p q r s 0 h (FO ns 4) [] [] (McM ns 4) []) (∀a1,Mbo a1 (MeZ a b c d e f g i j k l m 1 n o p q r s 0 h (FO ns 4) [] [] (McM ns 4) []) (Mda (Mhw 4 how ns) z z a1 a1 (MaW t u (K MaJ []) (MbV (MjJ y (an t b) (an t c) (an t d) (an t e) (an t f) (an t g) (an t i) (an t j) (an t k) (an t l) (an t m) x (an t n) (an t o) (an t p) (an t q) (an t r) (an t s) (an u a) (an u b) (an u c) (an u d) (an u e) (an u f) (an u g) (an u i) (an u j) (an u k) (an u l) (an u m) (an u 1) (an u n) (an u o) (an u p) (an u q) (an u r) (an u s) (Mf3 t a b c d e f g i j k l m 1 n o p q r s (0+h) (FO ns 4)) (McA t) (Mdy t ns 4) (bq u (qA (MbE a b c d e f g i j k l m 1 n o p q r s) (0+h) (FO ns 4))) (McA u) (Mdy u ns 4)) (MjJ (an v a) (an v b) (an v c) (an v d) (an v e) (an v f) (an v g) (an v i) (an v j) (an v k) (an v l) (an v m) (an v 0) (an v n) (an v o) (an v p) (an v q) (an v r) (an v s) (an w a) (an w b) (an w c) (an w d) (an w e) (an w f) (an w g) (an w i) (an w j) (an w k) (an w l) (an w m) (an w 0) (an w n) (an w o) (an w p) (an w q) (an w r) (an w s) (Mf3 v a b c d e f g i j k l m 0 n o p q r s (0+h) (FO ns 4)) (McA v) (Mdy v ns 4) (Meu w a b c d e f g i j k l m 0 n o p q r s (0+h) ns 4) (McA w) (Mdy w ns 4)) (Mec v) (MaW v w (K MaJ []) (Mcs (Mec t) t (zX [] []/\K Ma5 []) (Mcm (Mat (Mf3 t a b c d e f g i j k l m 1 n o p q r s (0+h) (FO ns 4))) (Mat (FO ns 4)) (Mcm y a (Mgk x 1 (K Ma5 []) (K MaJ [])) (K MaJ [])) (K MaJ []))))))))))))))))))))))))))))))))) :=by delta Maa Mab Mad Maf Mai Maj Mak Mat Mau Mav Maw Max MaB MaC MaD MaE MaJ MaN MaP MaQ MaR MaW MaY Ma5 Mbo Mbx MbB MbC MbE MbJ MbL MbN MbV Mcm Mcs Mcv McA McB McM Mda Mdv Mdy Mec Mei Meu MeZ Mf3 Mgk Mhv Mhw MjJ; (iterate 26 refine nm ?_); kernel_rfl
end
section
open Go.Proofs Go.IntWalk
theorem afq {z:L1} {xs us:L2} (e:Int) (hz:z.length=19) (hg:aY xs) (hl:xs.length<=1000) (hu:aI [.i64] us) (hu1:r5 1 us) (hul:us.length<=1000):RI (ED e z) (bq e xs) (bq e []) (bq e []) (bq e us) (bq e []):=by
 by_cases h:e=0
 ·subst h; exact vb hz hg hl hu hu1 hul
 ·have hL:∀ x,bq e x=[]:=fun x=>if_pos h
  rw [hL,hL,hL,show ED e z=List.replicate 19 0 from if_pos h]
  exact ri
def bx (how s:Int):L1:=[0,0,1152921504606846976,1+how % 3,0,0,4611686018427387904,0,how*72057594037927936,0,how % 4*4611686018427387904,how / 4 % 2,s,0,0,0,0,0,0]
theorem acT {how s:Int} (h:im how) (hs:0<=s/\s<=1):Ch (bx how s):=by
 have w:=Oj h;refine ⟨⟨⟨rfl,?_⟩,w.1.2.1,w.1.2.2⟩,w.2⟩;intro j hj;by_cases h12:j=12
 ·subst h12;show dt .i64 s;exact ⟨by show (-9223372036854775808:Int)<=s; omega,by show s<=9223372036854775807; omega⟩
 ·have e:(bx how s).getD j 0=(wz how).getD j 0:=by
   rcases j with _|_|_|_|_|_|_|_|_|_|_|_|_|_|_|_|_|_|_|j <;> first | rfl | exact absurd rfl h12
  rw [e];exact w.1.1.2 j hj
theorem acN (z:L1) (h:Int):∀ (m i:Nat) (xs:L2),(xy z h m i xs).2=0->(xy z h m i xs).1.length=xs.length
 | 0,i,xs,_=>rfl
 | m+1,i,xs,he=>by
  unfold xy at he ⊢;by_cases h1:bG (az (EN i) h)≠0
  ·rw [if_pos h1] at he; exact absurd he h1
  ·rw [if_neg h1] at he ⊢;by_cases h2:adn z (aep (az (EN i) h)) xs≠0
   ·rw [if_pos h2] at he; exact absurd he h2
   ·rw [if_neg h2] at he ⊢;rw [acN z h m (i+1) _ he,jF]
theorem afQ:aa TP aa7 ab1:=by
 refine ab 3 adF ?_;rintro l bs _ hB ⟨ns,how,h,rfl,rfl,hh,hu⟩;have hb:aI [.u8] ns/\0 < [IntKind.u8].length/\ns.length<=maxLen:=hB (.ro [.u8] ns) (List.mem_singleton.2 rfl);obtain ⟨_,hg,hl,huk,hu1,hul⟩:=Ip (ns:=ns) hb.1 (m:=4) ⟨by decide,by decide⟩ hh
 have hz0:=acT (s:=0) hh ⟨by decide,by decide⟩
 have hz1:=acT (s:=1) hh ⟨by decide,by decide⟩
 have hl0:([(wz how).getD 0 0,(wz how).getD 1 0,(wz how).getD 2 0,(wz how).getD 3 0,(wz how).getD 4 0,(wz how).getD 5 0,(wz how).getD 6 0,(wz how).getD 7 0,(wz how).getD 8 0,(wz how).getD 9 0,(wz how).getD 10 0,(wz how).getD 11 0,0,(wz how).getD 13 0,(wz how).getD 14 0,(wz how).getD 15 0,(wz how).getD 16 0,(wz how).getD 17 0,(wz how).getD 18 0]:L1)=bx how 0:=rfl;have hl1:([(wz how).getD 0 0,(wz how).getD 1 0,(wz how).getD 2 0,(wz how).getD 3 0,(wz how).getD 4 0,(wz how).getD 5 0,(wz how).getD 6 0,(wz how).getD 7 0,(wz how).getD 8 0,(wz how).getD 9 0,(wz how).getD 10 0,(wz how).getD 11 0,1,(wz how).getD 13 0,(wz how).getD 14 0,(wz how).getD 15 0,(wz how).getD 16 0,(wz how).getD 17 0,(wz how).getD 18 0]:L1)=bx how 1:=rfl;rw [adv]; delta Maa Mab Mad Maf Mai Maj Mak Mat Mau Mav Maw Max MaB MaC MaD MaE MaJ MaN MaP MaQ MaR MaW MaY Ma5 Mbo Mbx MbB MbC MbE MbJ MbL MbN MbV Mcm Mcs Mcv McA McB McM Mda Mdv Mdy Mec Mei Meu MeZ Mf3 Mgk Mhv Mhw MjJ; rw [Int.zero_add];rintro t1 rfl t2 rfl t3 rfl t4 rfl t5 rfl t6 rfl t7 rfl t8 rfl t9 rfl t10 rfl t11 rfl t12 rfl t13 rfl t14 rfl t15 rfl t16 rfl t17 rfl t18 rfl t19 e19 t20 e20 t21 e21 t22 e22 t23 e23 t24 e24 t25 e25 t26 e26;rw [hl1] at e19 e20 ⊢;rw [hl0] at e21 e22 ⊢;have q25:t25:=by rw [e25]; exact ⟨bx how 0,_,[],[],_,[],h,by rw [vr hu]; rfl,rfl,hz0,hg,sh hu,hl,Y1 hul⟩
 have q26:t26:=by rw [e26]; exact ⟨bx how 1,_,[],[],_,[],h,by rw [vr hu]; rfl,rfl,hz1,hg,sh hu,hl,Y1 hul⟩
 have g1:∀ hh x,tq (bx how 1) hh x=gR (bx how 1) hh x:=fun _ _=>rfl
 have g0:∀ hh x,tq (bx how 0) hh x=adn (bx how 0) hh x:=fun _ _=>rfl
 have b1:∀ hh x,vt (bx how 1) hh x=qA (bx how 1) hh x:=fun _ _=>rfl
 have b0:∀ hh x,vt (bx how 0) hh x=gu (bx how 0) hh x:=fun _ _=>rfl
 rw [g1,← e20] at e19;rw [g0,← e22] at e21;have i19:bn t19:=by rw [e19,e20]; exact Qp _ _ _
 have i21:bn t21:=by rw [e21,e22]; exact vm _ _ _
 simp only [b1,b0];refine ⟨⟨ns,4,how,rfl,rfl,⟨by decide,by decide⟩,hh⟩,q25,q25,q26,q26,?_⟩
 rw [ah];refine ⟨fun hne=>absurd e19 hne,fun _=>?_⟩
 have hgf:=(E0 (bx how 1) h 3 0 (FO ns 4) hg).1;have hlf:=Nat.le_trans (E0 (bx how 1) h 3 0 (FO ns 4) hg).2 hl;have hgo:=ib (z:=bx how 0) (h:=h) hg;have hlo:(gu (bx how 0) h (FO ns 4)).length<=1000:=by rw [jF]; exact hl
 refine ⟨⟨ED t19 (bx how 1),bq t19 (qA (bx how 1) h (FO ns 4)),bq t19 [],bq t19 [],bq t19 (rU (FO ns 4).length),bq t19 [],?_,?_,afq t19 hz1.1.1.1 hgf hlf huk hu1 hul⟩,⟨ED t21 (bx how 0),bq t21 (gu (bx how 0) h (FO ns 4)),bq t21 [],bq t21 [],bq t21 (rU (FO ns 4).length),bq t21 [],?_,?_,afq t21 hz0.1.1.1 hgo hlo huk hu1 hul⟩,dY i21,?_⟩
 ·rw [e23,e24,← e19];by_cases h:t19=0
  ·rw [h]; rfl
  ·have hc:∀ x,an t19 x=0:=fun x=>if_pos h
   rw [show ED t19 (bx how 1)=List.replicate 19 0 from if_pos h]
   simp only [hc]; rfl
 ·rw [← e19]; rfl
 ·rw [← e21];by_cases h:t21=0
  ·rw [h]; rfl
  ·have hc:∀ x,an t21 x=0:=fun x=>if_pos h
   rw [show ED t21 (bx how 0)=List.replicate 19 0 from if_pos h]
   simp only [hc]; rfl
 ·rw [← e21]; rfl
 rw [ah];refine ⟨fun hne=>absurd e21 hne,fun _=>⟨dY i19,?_⟩⟩
 rw [ah];refine ⟨fun _=>⟨rN,rfl⟩,fun h19=>?_⟩
 have hfl:(qA (bx how 1) h (FO ns 4)).length=(FO ns 4).length:=acN _ _ 3 0 _ (by rw [← h19,e19,e20]; rfl)
 rw [h19,Pr,hfl,e24,e23,h19];simp only [Ps,beq_self_eq_true];exact ⟨rN,rfl⟩
end
end Go.Vs.RF
