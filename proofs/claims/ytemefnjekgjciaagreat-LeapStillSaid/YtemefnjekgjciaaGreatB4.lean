import Derived.Test.YtemefnjekgjciaaGreatC1
import Derived.Test.YtemefnjekgjciaaGreatC2
import Derived.Test.YtemefnjekgjciaaGreatB1
import Derived.Test.YtemefnjekgjciaaGreatB2
import Derived.Test.YtemefnjekgjciaaGreatB3
set_option linter.unusedVariables false
set_option linter.unusedSimpArgs false
noncomputable section
set_option maxRecDepth 100000
namespace Go.Vs.RF
open Go Go.Proofs Go.Vs
def Ma8 (a:Int)(b:Nat):Int:=Mad (wz a) b
abbrev MbC (a b:Int)(c:Nat)(d:Prop):Prop:=Max a (wz b) c d
theorem afW (how:Int) (xs us:L2) (K:KP):(comes TP { Γ:=xA,Λ:=fun _ _=>none,Τ:=fun _=>none } 3 aa6 [.agg (af (wz how) 0 1 2 3 4)] (aH xs [] [] us []) K) =(∀a,MbC a how 3 (∀b,MbC b how 4 (∀c,MbC c how 7 (∀d,MbC d how 8 (∀e,MbC e how 9 (∀f,MbC f how 10 (∀g,MbC g how 11 (∀i,MbC i how 12 (MbV (MhK (Ma8 how 0) 0 1099511627776) (MeB (Ma8 how 1) (Ma8 how 2) 1024 []) (MeB a b 1048576 []) (Mbm (GW (Ma2 a b) 0 19342813113834066795298816) (K MaJ []) (Mav (MeB (Ma8 how 5) (Ma8 how 6) 65536 []) (MeB c d 1 []) (Mbm (GW (Ma2 c d) 0 18446744073709551616) (K MaJ []) (Mdu (MeB e f 1 []) (GW (Ma2 e f) 0 18446744073709551616) (K MaJ []) (Mdu (MhK g 0 1) (xU g 0 1) (K MaJ []) (Mdu (MhK i 0 1) (xU i 0 1) (K MaJ []) (Md3 (Mat xs) 32 (K MaJ []) (Mfa us xs (K MaJ []) (MbV (MeB (Ma8 how 13) (Ma8 how 14) 67108864 []) (y7 (Mdn (Ma8 how 15) (Ma8 how 16) (Ma8 how 17) (Ma8 how 18) []) []) (pMp (Mcv (Ma8 how 0) (Ma8 how 1) (Ma8 how 2) a b (Ma8 how 5) (Ma8 how 6) c d e f g i (Ma8 how 13) (Ma8 how 14) (Ma8 how 15) (Ma8 how 16) (Ma8 how 17) (Ma8 how 18) []) (Mfl xs [] [] us [])) (K (.bool (z7 (dv (Mcv (Ma8 how 0) (Ma8 how 1) (Ma8 how 2) a b (Ma8 how 5) (Ma8 how 6) c d e f g i (Ma8 how 13) (Ma8 how 14) (Ma8 how 15) (Ma8 how 16) (Ma8 how 17) (Ma8 how 18) []) 0) xs [] [] us [])) []))))))))))))))))))) :=by delta Maa Mab Mad Maf Mai Maj Mak Maq Mat Mau Mav Max MaB MaC MaD MaJ MaN MaP MaQ MaR MaW MaY Ma2 Ma8 Mbm Mbx MbC MbJ MbN MbV Mcv Mdn Mdu Md3 MeB Mfa Mfl MhK; (iterate 8 refine nm ?_); kernel_rfl
section
open Go.IntWalk
def kpB (r:L1):Prop:=GW (fr r 0) 281474976710656 19342813113834066795298816=true/\GW (fr r 2) 0 1208925819614629174706176=true/\GW (fr r 12) 0 (fr r 0)=true/\GW (fr r 14) 0 1208925819614629174706176=true/\GW (fr r 16) 0 1208925819614629174706176=true/\281474976710656<=fr r 0 - fr r 12/\0<=r.getD 18 0/\r.getD 18 0<=100/\0<=r.getD 19 0/\r.getD 19 0<=65535
def abr (xs:L2):Prop:=∀ r∈xs,kpB r
theorem aeB {z:L1} {h:Int} {xs:L2} (hs:abr xs):abr (eF z h xs):=by
 unfold eF;split
 ·exact hs
 ·intro r hr;obtain ⟨j,hj,rfl⟩:=BE hr;exact abc hs hj
theorem afy {h:Int} {xs:L2} (hs:abr xs):abr (lj h xs):=by
 unfold lj;split
 ·exact hs
 ·intro r hr;obtain ⟨j,hj,rfl⟩:=BE hr;exact abc hs hj
theorem ab0 {z:L1} {h:Int} {xs:L2} (hs:abr xs):abr (gu z h xs):=aeB (afy (aeB hs))
theorem aeC {z:L1} {h:Int}:∀ (m i:Nat) (xs:L2),abr xs->abr (xy z h m i xs).1
 | 0,i,xs,hs=>hs
 | m+1,i,xs,hs=>by
  unfold xy;split
  ·intro r hr; cases hr
  ·split
   ·intro r hr; cases hr
   ·exact aeC m (i+1) _ (ab0 hs)
theorem afX {z:L1} {h:Int} {xs:L2} (hs:abr xs):abr (vt z h xs):=by
 unfold vt; split
 ·exact ab0 hs
 ·exact aeC 3 0 xs hs
theorem aca:∀ {xs:L2},kF xs=0->∀ r∈xs,agd r=true
 | [],_,r,hr=>by cases hr
 | q :: l,he,r,hr=>by
  unfold kF at he;by_cases h1:iW q≠0
  ·rw [if_pos h1] at he; exact absurd he h1
  rw [if_neg h1] at he;by_cases h2:agd q=true
  ·rw [if_pos h2] at he;rcases List.mem_cons.1 hr with rfl | hr
   ·exact h2
   ·exact aca he r hr
  ·rw [if_neg h2] at he; cases he
theorem aeS {r:L1} (hg:lC r) (hs:kpB r) (hi:z8 r) (hw:agd r=true):Su r=true:=by
 obtain ⟨h1,h2,h3,h4,h5,h6,h7,h8,h9,h10⟩:=hs;obtain ⟨_,_,_,m4,m6,m8,m10⟩:=hg;unfold Su;rw [h1,h2,h3,h4,h5,hw,show xB 1073741824 (fr r 4) (fr r 6)=true from hi,decide_eq_true (show _/\_ from ⟨m4.1,m6.1⟩),decide_eq_true (show _/\_ from ⟨m8.1,m10.1⟩),decide_eq_true h6,decide_eq_true (show _/\_/\_/\_ from ⟨h7,h8,h9,h10⟩)]
 rfl
theorem acj {xs:L2} (hb:abi xs) (hs:abr xs):∀ r∈xs,Su r=true:=fun r hr=>aeS (hb.1 r hr) (hs r hr) (hb.2.1 r hr) (aca hb.2.2 r hr)
theorem abv {r:L1} (hm:Lr r):kpB r/\z8 r/\iW r=0/\agd r=true:=by
 obtain ⟨h0,h4,h6,h8,h10⟩:=EG hm;have hq:∀ x,-73786976294838206464<=x/\x<=73786976294838206464->-73786976294838206465<=Ew x (fr r 0)/\Ew x (fr r 0)<=73786976294838206465:=by
  intro x hx;have k:∀ X:Int,0<=X->0<=(2*(X*18446744073709551616)+fr r 0) / (2*fr r 0)/\(2*(X*18446744073709551616)+fr r 0) / (2*fr r 0)<=X+1:=by
   intro X h0X;have h1:X*18446744073709551616<=X*fr r 0:=Int.mul_le_mul_of_nonneg_left (by omega) h0X
   have h2:0<=X*18446744073709551616:=by omega
   refine ⟨Int.ediv_nonneg (by omega) (by omega),Int.ediv_le_of_le_mul (by omega) ?_⟩
   have e:(X+1)*(2*fr r 0)=2*(X*fr r 0)+2*fr r 0:=by rw [Int.add_mul,Int.one_mul,← Int.mul_assoc,Int.mul_comm X 2,Int.mul_assoc]
   rw [e]; omega
  have hm:cD (fr r 0)=fr r 0:=by unfold cD; rw [if_neg (by omega)]
  have ha:0<=cD x/\cD x<=73786976294838206464:=by unfold cD; split <;> omega
  have:=k (cD x) ha.1;unfold Ew;rw [hm];generalize (2*(cD x*18446744073709551616)+fr r 0) / (2*fr r 0)=Q at *;unfold dH; split <;> omega
 have hS:iW r=0:=by
  unfold iW C7 iY;rw [if_neg (show ¬ fr r 0=0 by omega),if_neg (show ¬ fr r 0=0 by omega)]
  have a:=hq _ h8;have b:=hq _ h10;rw [cK ⟨by omega,by omega⟩,cK ⟨by omega,by omega⟩]; rfl
 refine ⟨?_,?_,hS,?_⟩
 ·obtain ⟨a,b,c,d,ha,hb,hc,hd,rfl⟩:=hm;unfold im at ha hb hc hd;have f0:fr (oU a b c d) 0=(1+c % 9)*18446744073709551616:=(Ji a b c d).1;have f2:fr (oU a b c d) 2=d % 3*18446744073709551616+4611686018427387904:=rfl;have f12:fr (oU a b c d) 12=0*18446744073709551616+d*1125899906842624:=rfl;have f14:fr (oU a b c d) 14=0*18446744073709551616+a*1125899906842624:=rfl;have f16:fr (oU a b c d) 16=b % 4*18446744073709551616+0:=rfl;have Ye:(oU a b c d).getD 18 0=0:=rfl;have c19:(oU a b c d).getD 19 0=d*257:=rfl;unfold kpB GW;rw [f0,f2,f12,f14,f16,Ye,c19];refine ⟨decide_eq_true ⟨by omega,by omega,by omega⟩,decide_eq_true ⟨by omega,by omega,by omega⟩,decide_eq_true ⟨by omega,by omega,by omega⟩,decide_eq_true ⟨by omega,by omega,by omega⟩,decide_eq_true ⟨by omega,by omega,by omega⟩,by omega,by omega,by omega,by omega,by omega⟩
 ·unfold z8 xB AV;rw [decide_eq_true (show _/\_ from ⟨by omega,by omega⟩),decide_eq_true (show _/\_ from ⟨by omega,by omega⟩)]; rfl
 ·have a:=hq _ h8;have b:=hq _ h10;unfold agd;rw [decide_eq_true hS];have hx:vY r=Ew (fr r 8) (fr r 0):=by
   unfold vY La fF;rw [if_pos (show C7 (fr r 8) (fr r 10) (fr r 0)=0 from hS),if_neg (show ¬ fr r 0=0 by omega),abY ⟨by omega,by omega⟩]
  have hy:vX r=Ew (fr r 10) (fr r 0):=by
   unfold vX K9 fF;rw [if_pos (show C7 (fr r 8) (fr r 10) (fr r 0)=0 from hS),if_neg (show ¬ fr r 0=0 by omega),abY ⟨by omega,by omega⟩]
  rw [hx,hy];unfold xB AV;rw [decide_eq_true (show _/\_ from ⟨by omega,by omega⟩),decide_eq_true (show _/\_ from ⟨by omega,by omega⟩)]; rfl
theorem abU {xs:L2} (hm:∀ r∈xs,Lr r):abi xs/\abr xs:=by
 refine ⟨⟨fun r hr=>EH (hm r hr),fun r hr=>(abv (hm r hr)).2.1,?_⟩,fun r hr=>(abv (hm r hr)).1⟩
 induction xs with
 | nil=>rfl
 | cons r l ih=>
  obtain ⟨_,_,h3,h4⟩:=abv (hm r (List.mem_cons_self ..));unfold kF;rw [if_neg (fun hc=>hc h3),if_pos h4]
  exact ih fun q hq=>hm q (List.mem_cons_of_mem _ hq)
def aeK (l:List IV) (bs:List aq):Prop:=∃how xs,l=[.agg (af (wz how) 0 1 2 3 4)]/\bs=aH xs [] [] (rU xs.length) []/\im how/\aY xs/\(∀ r∈xs,Su r=true)/\xs.length<=32
def aeE:Vs.Spec:=⟨aeK,fun _ _=>(.bool true,[])⟩
theorem aeZ {a b n:Int} (hb:0<=b/\b < 18446744073709551616) (h:a*18446744073709551616+b=n):IV.agg [.int .i64 a,.int .u64 b]=fx n:=(ae6 hb (by omega)).symm
theorem af9:aa TP aa6 aeE:=by
 refine ab 3 adF ?_;rintro l bs _ _ ⟨how,xs,rfl,rfl,hh,hg,hm,hl⟩;have hl':xs.length<=1000:=by omega
 have hw:RI (wz how) xs [] [] (rU xs.length) []:=vb rfl hg hl' (PA _) (Lk _) (by rw [Ll]; exact hl')
 rw [afW]; delta Maa Mab Mad Maf Mai Maj Mak Maq Mat Mau Mav Max MaB MaC MaD MaJ MaN MaP MaQ MaR MaW MaY Ma2 Ma8 Mbm Mbx MbC MbJ MbN MbV Mcv Mdn Mdu Md3 MeB Mfa Mfl MhK;unfold im at hh;rintro t1 e1 t2 e2 t3 e3 t4 e4 t5 e5 t6 e6 t7 e7 t8 e8;have e1:t1=1+how % 3:=e1;have e2:t2=0:=e2;have e3:t3=0:=e3;have e4:t4=how*72057594037927936:=e4;have e5:t5=0:=e5;have e6:t6=how % 4*4611686018427387904:=e6;have e7:t7=how / 4 % 2:=e7;have e8:t8=how / 8 % 2:=e8;have hM:z7 (wz how) xs [] [] (rU xs.length) []=true:=by
  have h0:scan (VL xs (rU xs.length) (((([]:L2).length:Nat):Int) - 1)) xs.length=true:=by
   unfold scan;rw [List.all_eq_true];intro i hi;have hi':i < xs.length:=by simpa using hi
   unfold VL;rw [abc hm hi'];have:(rU xs.length).getD i []=[-1]:=by unfold rU; rw [List.getD_eq_getElem?_getD,List.getElem?_replicate,if_pos hi']; rfl
   rw [this]
   rfl
  unfold z7;rw [h0]; rfl
 refine ⟨⟨_,_,_,rfl,rfl⟩,⟨1152921504606846976,1024,rfl,rfl,⟨by decide,by decide⟩,by decide,by decide⟩,⟨t1*18446744073709551616+t2,1048576,by rw [aeZ ⟨by omega,by omega⟩ rfl],rfl,⟨by omega,by omega⟩,by decide,by decide⟩,?_⟩
 have q1:GW (t1*18446744073709551616+t2) 0 19342813113834066795298816=true:=decide_eq_true ⟨by omega,by omega,by omega⟩
 have q2:GW (t3*18446744073709551616+t4) 0 18446744073709551616=true:=decide_eq_true ⟨by omega,by omega,by omega⟩
 have q3:GW (t5*18446744073709551616+t6) 0 18446744073709551616=true:=decide_eq_true ⟨by omega,by omega,by omega⟩
 have q4:xU t7 0 1=true:=decide_eq_true ⟨by omega,by omega⟩
 have q5:xU t8 0 1=true:=decide_eq_true ⟨by omega,by omega⟩
 rw [q1,q2,q3,q4,q5];refine ⟨⟨4611686018427387904,65536,rfl,rfl,⟨by decide,by decide⟩,by decide,by decide⟩,⟨t3*18446744073709551616+t4,1,by rw [aeZ ⟨by omega,by omega⟩ rfl],rfl,⟨by omega,by omega⟩,by decide,by decide⟩,⟨t5*18446744073709551616+t6,1,by rw [aeZ ⟨by omega,by omega⟩ rfl],rfl,⟨by omega,by omega⟩,by decide,by decide⟩,⟨_,_,_,rfl,rfl⟩,⟨_,_,_,rfl,rfl⟩,?_⟩
 rw [al];refine ⟨fun hc=>absurd hc (by omega),fun _=>?_⟩
 rw [ah];refine ⟨fun hc=>absurd (by rw [Ll]) hc,fun _=>⟨⟨0,67108864,rfl,rfl,⟨by decide,by decide⟩,by decide,by decide⟩,⟨0,0,rfl,rfl,⟨by decide,by decide⟩,⟨by decide,by decide⟩⟩,?_⟩⟩
 rw [e1,e2,e3,e4,e5,e6,e7,e8];refine ⟨⟨wz how,xs,[],[],rU xs.length,[],rfl,rfl,hw,by rw [Ll]⟩,?_⟩
 show (IV.bool true,([]:List aq))=(IV.bool (z7 _ _ _ _ _ _),[]);rw [show dv _ 0=wz how from dA _ (wz how) 0 1 2 3 4 rfl rfl,hM]
end
def abB:FuncId->Option Vs.Spec:=fun g=>if g=aa6 then some aeE else xA g
def M4 (z:L1) (ns xs us:L2) (h k i:Int):St:=⟨T 84 [(2,.int .u64 h),(9,.ptr 1 0),(10,.ptr 2 0),(11,.int .i64 k),(12,.int .i64 i)],[some (.ro [.u8] ns),some (.var 34 (af z 3 4 5 6 7)),some (.var 34 (af z 3 4 5 6 7)),some (.row 79 aM xs),some (.row 99 jt []),some (.row 101 ie []),some (.row 3 [.i64] us),some (.row 103 dE [])]⟩
def McA (a:Int):L2:=bq a []
def MgI (a:Nat)(b:Int)(c d e f g:Nat)(h:Int)(i:Nat)(j:Int)(k:List (Nat × IV))(l:L2)(m:OB):St:=McS 84 a (Mab b) (Mbl c d e (Mao f) g (Maa h) i j k) [] l m
abbrev Mid (a:Prop)(b c:Int)(d e:Prop):Prop:=MdF a (Mec b) c (zX [] []/\d) e
def Miv (a:L2)(b:Nat)(c:List IV)(d:OB):OB:=Mam [.u8] a (.var b c) d
def MiQ (a b:IV):List (Nat × IV):=McJ 2 a 9 (Mao 1) 10 2 11 b []
def Mjb (a:L2):St:=McS 84 8 Ma5 [] [] a []
def MjN (a:L2)(b:Int)(c d:L2):OB:=MgP a (McA b) (McA b) (bq b c) (McA b) d [] [] c []
def MjZ (a b c d e f g h i j k l m n o p q r s t:Int)(u:List IV)(v:OB):OB:=Mdl (an a b) c d e f g h i j (an a k) (an a l) (an a m) (an a n) 3 4 5 6 o p q r s t 7 34 u v
def bkO (z:L1) (ns bd xs us:L2):OB:=[some (.ro [.u8] ns),some (.var 34 (af z 3 4 5 6 7)),some (.var 34 (af z 8 9 10 11 12)),some (.ro aM bd),some (.ro jt []),some (.ro ie []),some (.ro [.i64] us),some (.ro dE []),some (.ro aM xs),some (.ro jt []),some (.ro ie []),some (.ro [.i64] us),some (.ro dE [])]
def SQb (z:L1) (ns bd xs us:L2) (h k i:Int):St:=⟨T 84 [(2,.int .u64 h),(9,.ptr 1 0),(10,.ptr 2 0),(11,.int .i64 k),(12,.int .i64 i)],bkO z ns bd xs us⟩
def MjD (a b c:L2):OB:=MgP a [] [] b [] c [] [] b []
def af1 (b:Bool):L1->Int->L2->Int:=if b then adn else tq
def aeH (b:Bool):L1->Int->L2->L2:=if b then gu else vt
def qs (b:Bool) (z:L1) (h:Int) (xs:L2):Nat->L2->Prop
 | 0,bd=>bd=xs
 | n+1,bd=>∃p,qs b z h xs n p/\af1 b z h p=0/\bd=aeH b z h p
def pQ0 (n0:Nat) (st:St) (z:L1) (ns xs us:L2) (h m:Int):Prop:=Xq z xs us/\aj h/\(1<=m/\m<=100)/\n0=1/\st=M4 z ns xs us h m 0
def LQ0 (b:Bool):aB:=fun n0 st K=>∃z ns xs us h m,pQ0 n0 st z ns xs us h m/\K .ret ⟨T 84 [(8,.bool true)],[some (.ro [.u8] ns)]⟩/\∀ bd,qs b z h xs m.toNat bd->K (.exit 0) ⟨T 84 [(2,.int .u64 h),(9,.ptr 1 0),(10,.ptr 2 0),(11,.int .i64 m)],bkO z ns bd xs us⟩
def M0 (z:L1) (ns bd xs us:L2) (h k i:Int):St:=⟨T 84 [(2,.int .u64 h),(9,.ptr 1 0),(10,.ptr 2 0),(11,.int .i64 k),(15,.int .i64 i)],bkO z ns bd xs us⟩
abbrev Mgk (a b:Int)(c d:Prop):Prop:=Mcm a b (zX [] []/\c) d
def Mf3 (a b c d e f g h i j k l m n o p q r s t u:Int)(v:L2):L2:=bq a (vt (MbE b c d e f g h i j k l m n o p q r s t) u v)
def pQ1 (b:Bool) (n0:Nat) (st:St) (z:L1) (ns bd xs us:L2) (h m:Int):Prop:=Xq z xs us/\abi xs/\qs b z h xs m.toNat bd/\aj h/\(1<=m/\m<=100)/\n0=1/\st=M0 z ns bd xs us h m 0
def LQ1 (b:Bool):aB:=fun n0 st K=>∃z ns bd xs us h m,pQ1 b n0 st z ns bd xs us h m/\K .ret ⟨T 84 [(8,.bool true)],[some (.ro [.u8] ns)]⟩/\K (.exit 2) ⟨T 84 [(9,.ptr 1 0),(10,.ptr 2 0)],bkO z ns xs xs us⟩
def McM (a:L2)(b:Int):L2:=rU (List.length (FO a b))
abbrev MhU:Prop:=zX [] []
def Mi2 (a:L1):List IV:=Meb a a a a a a a a a a a a a 8 9 10 11 a a a a a a 12
def Mjh (a:L1)(b:List IV)(c:OB):OB:=MfJ a a a a a a a a a a a a a 3 4 5 6 a a a a a a 7 34 b c
abbrev MjK (a b c d e f g h i j k l m n o p q r s:Int)(t u:L2):Prop:=Mhv a b c d e f g h i j k l m n o p q r s a b c d e f g h i j k l m 5 6 7 8 n o p q r s 9 [] t [] [] u [] t [] [] u [] []
section
open Go.IntWalk
theorem acN (z:L1) (h:Int):∀ (m i:Nat) (xs:L2),(xy z h m i xs).2=0->(xy z h m i xs).1.length=xs.length
 | 0,i,xs,_=>rfl
 | m+1,i,xs,he=>by
  unfold xy at he ⊢;by_cases h1:bG (az (EN i) h)≠0
  ·rw [if_pos h1] at he; exact absurd he h1
  ·rw [if_neg h1] at he ⊢;by_cases h2:adn z (aep (az (EN i) h)) xs≠0
   ·rw [if_pos h2] at he; exact absurd he h2
   ·rw [if_neg h2] at he ⊢;rw [acN z h m (i+1) _ he,jF]
theorem ae7:∀ {g:FuncId} {sp:Vs.Spec},abB g=some sp->aa TP g sp:=ao af9 U3
theorem ae0 (z:L1) (h:Int):∀ (m i:Nat) (xs:L2),(xy z h m i xs).1.length<=xs.length
 | 0,i,xs=>Nat.le_refl _
 | m+1,i,xs=>by
  unfold xy; split
  ·exact Nat.zero_le _
  ·split
   ·exact Nat.zero_le _
   ·have:=ae0 z h m (i+1) (gu z (aep (az (EN i) h)) xs);rw [jF] at this;exact this
theorem acK {z:L1} {h:Int} (p:L2):(aeH false z h p).length<=p.length:=by
 show (vt z h p).length<=p.length;unfold vt; split
 ·rw [jF]; exact Nat.le_refl _
 ·unfold qA; exact ae0 z h 3 0 p
theorem adg {z:L1} {h:Int} {p:L2} (he:af1 false z h p=0):(aeH false z h p).length=p.length:=by
 have he:tq z h p=0:=he;show (vt z h p).length=p.length;unfold tq at he;unfold vt;by_cases h0:z.getD 12 0=0
 ·rw [if_pos h0,jF]
 ·rw [if_neg h0] at he ⊢;exact acN z h 3 0 p he
theorem acr {b:Bool} {z:L1} {h:Int} {xs:L2} (hl:xs.length<=1000):∀ n bd,qs b z h xs n bd->bd.length<=1000
 | 0,bd,hc=>by obtain rfl:bd=xs:=hc; exact hl
 | n+1,bd,⟨p,hp,_,e⟩=>by
  have:=acr hl n p hp;subst e;cases b
  ·exact Nat.le_trans (acK p) this
  ·show (gu z h p).length<=1000; rw [jF]; exact this
theorem abt {b:Bool} {z:L1} {h:Int} {xs:L2}:∀ n bd,qs b z h xs n bd->bd.length=xs.length
 | 0,bd,hc=>by obtain rfl:bd=xs:=hc; rfl
 | n+1,bd,⟨p,hp,hE,e⟩=>by
  have:=abt n p hp;subst e;cases b
  ·rw [← this]; exact adg hE
  ·show (gu z h p).length=_; rw [jF]; exact this
theorem abN {b:Bool} {z:L1} {h:Int} {xs:L2} (hb:abi xs):∀ n bd,qs b z h xs n bd->abi bd
 | 0,bd,hc=>by obtain rfl:bd=xs:=hc; exact hb
 | n+1,bd,⟨p,hp,hE,e⟩=>by
  have:=abN hb n p hp;subst e;cases b
  ·exact (ad3 this hE).1
  ·exact (abb this hE).1
theorem acR {b:Bool} {z:L1} {h:Int} {xs:L2} (hs:abr xs):∀ n bd,qs b z h xs n bd->abr bd
 | 0,bd,hc=>by obtain rfl:bd=xs:=hc; exact hs
 | n+1,bd,⟨p,hp,hE,e⟩=>by
  have:=acR hs n p hp;subst e;cases b
  ·exact afX this
  ·exact ab0 this
def SQo (z:L1) (ns xs us:L2) (h m:Int):Option (Nat × L2)->St
 | none=>M4 z ns xs us h m ((0:Nat):Int)
 | some (i,bd)=>SQb z ns bd xs us h m i
def IQo (b:Bool) (z:L1) (h m:Int) (xs:L2):Option (Nat × L2)->Prop
 | none=>True
 | some (i,bd)=>(i:Int)<=m/\aY bd/\bd.length<=1000/\qs b z h xs i bd
def mQo:Option (Nat × L2)->Nat
 | none=>1000
 | some (i,_)=>200 - i
end
def Mew (a b:L2)(c:List IntKind)(d:L2)(e:List IntKind)(f:L2)(g:List IntKind)(h:L2)(i:List IntKind)(j:L2)(k:List IntKind)(l:L2)(m:List IntKind)(n:L2)(o:OB):OB:=Man jt a ie b (Man c d e f (Man g h i j (Man k l m n o)))
def MiH (a b:Int)(c:List IV):List IV:=Mbc a a b b c
def Mdy (a:Int)(b:L2)(c:Int):L2:=bq a (McM b c)
def Meu (a b c d e f g h i j k l m n o p q r s t u:Int)(v:L2)(w:Int):L2:=McB a b c d e f g h i j k l m n o p q r s t u (FO v w)
abbrev MbL (a b c:Int)(d:Prop):Prop:=Mau a (an b c) d
end Go.Vs.RF
