import Derived.Test.YtemefnjekgjciaaGreatC1
import Derived.Test.YtemefnjekgjciaaGreatC2
import Derived.Test.YtemefnjekgjciaaGreatD1
import Derived.Test.YtemefnjekgjciaaGreatD2
import Derived.Test.YtemefnjekgjciaaGreatD3
set_option linter.unusedVariables false
set_option linter.unusedSimpArgs false
noncomputable section
set_option maxRecDepth 100000
namespace Go.Vs.RF
open Go Go.Proofs Go.Vs
section
open Go.IntWalk
def F4:Vs.Spec:=⟨Pp,fun l bs=>
 (ct 0 (xI (qV l 7 0) (du l) (v2 l 6) ((aA bs 0).getD (ae l 1 0).toNat []) (v2 l 3) (v2 l 4) (vy l 4) (ae l 5 1*18446744073709551616+ae l 5 2) (ae l 5 3*18446744073709551616+ae l 5 4))
   (xH (qV l 7 0) (du l) (v2 l 6) ((aA bs 0).getD (ae l 1 0).toNat []) (v2 l 3) (v2 l 4) (vy l 4) (ae l 5 1*18446744073709551616+ae l 5 2) (ae l 5 3*18446744073709551616+ae l 5 4))
   (uW (qV l 7 0) (du l) (v2 l 6) ((aA bs 0).getD (ae l 1 0).toNat []) (v2 l 3) (v2 l 4) (vy l 4) (ae l 5 1*18446744073709551616+ae l 5 2) (ae l 5 3*18446744073709551616+ae l 5 4)),
  [.ro [.i64] (sI (uW (qV l 7 0) (du l) (v2 l 6) ((aA bs 0).getD (ae l 1 0).toNat []) (v2 l 3) (v2 l 4) (vy l 4) (ae l 5 1*18446744073709551616+ae l 5 2) (ae l 5 3*18446744073709551616+ae l 5 4)) (aA bs 5) (ae l 2 0))])⟩
theorem Xt {z:L1} {xs ts rs us es ls:L2} {i c m ax ay px py h:Int} {pl:Bool} (hz:z.length=19):
  F4.F [.agg (af z 0 1 2 3 4),.int .i64 i,.int .i64 c,fx m,vx ax ay,ct 5 px py 0,fx h,.bool pl] (aH xs ts rs us es++[.ro [.i64] ls]) =
  (ct 0 (xI pl z h (xs.getD i.toNat []) m ax ay px py) (xH pl z h (xs.getD i.toNat []) m ax ay px py) (uW pl z h (xs.getD i.toNat []) m ax ay px py),[.ro [.i64] (sI (uW pl z h (xs.getD i.toNat []) m ax ay px py) ls c)]):=by
 have e1:du [IV.agg (af z 0 1 2 3 4),.int .i64 i,.int .i64 c,fx m,vx ax ay,ct 5 px py 0,fx h,.bool pl]=z:=sJ _ z hz rfl;have e2:v2 [IV.agg (af z 0 1 2 3 4),.int .i64 i,.int .i64 c,fx m,vx ax ay,ct 5 px py 0,fx h,.bool pl] 6=h:=bc _ h 6 rfl;have e3:v2 [IV.agg (af z 0 1 2 3 4),.int .i64 i,.int .i64 c,fx m,vx ax ay,ct 5 px py 0,fx h,.bool pl] 3=m:=bc _ m 3 rfl;have e4:=aeY [IV.agg (af z 0 1 2 3 4),.int .i64 i,.int .i64 c,fx m,vx ax ay,ct 5 px py 0,fx h,.bool pl] ax ay 4 rfl;have e5:ae [IV.agg (af z 0 1 2 3 4),.int .i64 i,.int .i64 c,fx m,vx ax ay,ct 5 px py 0,fx h,.bool pl] 5 1*18446744073709551616+ae [IV.agg (af z 0 1 2 3 4),.int .i64 i,.int .i64 c,fx m,vx ax ay,ct 5 px py 0,fx h,.bool pl] 5 2=px:=by rw [show ae [IV.agg (af z 0 1 2 3 4),.int .i64 i,.int .i64 c,fx m,vx ax ay,ct 5 px py 0,fx h,.bool pl] 5 1=px / 18446744073709551616 from rfl,show ae [IV.agg (af z 0 1 2 3 4),.int .i64 i,.int .i64 c,fx m,vx ax ay,ct 5 px py 0,fx h,.bool pl] 5 2=px % 18446744073709551616 from rfl]; exact kS px
 have e6:ae [IV.agg (af z 0 1 2 3 4),.int .i64 i,.int .i64 c,fx m,vx ax ay,ct 5 px py 0,fx h,.bool pl] 5 3*18446744073709551616+ae [IV.agg (af z 0 1 2 3 4),.int .i64 i,.int .i64 c,fx m,vx ax ay,ct 5 px py 0,fx h,.bool pl] 5 4=py:=by rw [show ae [IV.agg (af z 0 1 2 3 4),.int .i64 i,.int .i64 c,fx m,vx ax ay,ct 5 px py 0,fx h,.bool pl] 5 3=py / 18446744073709551616 from rfl,show ae [IV.agg (af z 0 1 2 3 4),.int .i64 i,.int .i64 c,fx m,vx ax ay,ct 5 px py 0,fx h,.bool pl] 5 4=py % 18446744073709551616 from rfl]; exact kS py
 show (fun (z':L1) (h' m' x' y' p q:Int)=>((ct 0 (xI pl z' h' (xs.getD i.toNat []) m' x' y' p q) (xH pl z' h' (xs.getD i.toNat []) m' x' y' p q) (uW pl z' h' (xs.getD i.toNat []) m' x' y' p q),[aq.ro [.i64] (sI (uW pl z' h' (xs.getD i.toNat []) m' x' y' p q) ls c)]):IV × List aq))
  (du [IV.agg (af z 0 1 2 3 4),.int .i64 i,.int .i64 c,fx m,vx ax ay,ct 5 px py 0,fx h,.bool pl]) (v2 [IV.agg (af z 0 1 2 3 4),.int .i64 i,.int .i64 c,fx m,vx ax ay,ct 5 px py 0,fx h,.bool pl] 6) (v2 [IV.agg (af z 0 1 2 3 4),.int .i64 i,.int .i64 c,fx m,vx ax ay,ct 5 px py 0,fx h,.bool pl] 3) (v2 [IV.agg (af z 0 1 2 3 4),.int .i64 i,.int .i64 c,fx m,vx ax ay,ct 5 px py 0,fx h,.bool pl] 4) (vy [IV.agg (af z 0 1 2 3 4),.int .i64 i,.int .i64 c,fx m,vx ax ay,ct 5 px py 0,fx h,.bool pl] 4) (ae [IV.agg (af z 0 1 2 3 4),.int .i64 i,.int .i64 c,fx m,vx ax ay,ct 5 px py 0,fx h,.bool pl] 5 1*18446744073709551616+ae [IV.agg (af z 0 1 2 3 4),.int .i64 i,.int .i64 c,fx m,vx ax ay,ct 5 px py 0,fx h,.bool pl] 5 2) (ae [IV.agg (af z 0 1 2 3 4),.int .i64 i,.int .i64 c,fx m,vx ax ay,ct 5 px py 0,fx h,.bool pl] 5 3*18446744073709551616+ae [IV.agg (af z 0 1 2 3 4),.int .i64 i,.int .i64 c,fx m,vx ax ay,ct 5 px py 0,fx h,.bool pl] 5 4)=_
 rw [e1,e2,e3,e4.1,e4.2,e5,e6]
theorem LC:KnowOk TP { Γ:=Hy,Λ:=fun _ _=>none,Τ:=fun _=>none } 3:=aF (fun g sp h=>E9 h) (fun _ _=>rfl) (fun _=>rfl) 3
theorem Qe (z:L1) (h:Int) (r:L1) (m ax ay:Int):ag (sn z h r m ax ay)/\ag (sm z h r m ax ay):=by
 unfold sn sm;constructor
 ·split; exact bg; exact (s8 _ _ _ _ _ _ _).1
 ·split; exact bg; exact (s8 _ _ _ _ _ _ _).2
theorem SG:aa TP agb F4:=by
 refine afC 3 LC ?_;intro l bs _ _ hp;obtain ⟨z,xs,ts,rs,us,es,ls,i,c,m,ax,ay,px,py,h,pl,h1,h2,hz,hg,hi,hm,ha,hp,hh,hl⟩:=hp;obtain ⟨hpx,hpy⟩:=hp;subst h1 h2;rw [Xt hz.1.1];cases pl with
 | false=>
  rw [Ti (e:=0)]; delta Maa Mab Mae Maf Mah Mai Maj Mak Mav MaQ MaU MaY Ma6 Mbc MbD MeM Mg7 Mhg Mhz MiM MjH;refine ⟨by omega,by simp; omega,?_⟩
  rfl
 | true=>
  rw [We (e:=0)]; delta Maa Mab Mad Mae Maf Mah Mai Maj Mak Mau Mav MaB MaC MaD MaN MaP MaQ MaR MaU MaW MaY Ma6 Mbc Mbw Mbx MbD MbJ MbR MbV MbX MbY MbZ Mb0 Mb1 Mb2 Mb3 Mb4 Mb9 Mca Mcb Mce Mcf Mcg Mci Mcj Mck Mcs Mcv McE McI McL Mc0 MeM MeW Mfl Mge MgS Mg7 Mhg Mht Mhz MiM Mib MiS MiT MjH;rintro j1 rfl j2 rfl j3 rfl j4 rfl j5 rfl j6 rfl t7 e7 j8 rfl t9 e9 j10 rfl t11 e11 t12 e12 t13 e13 t14 e14;rw [dA _ z 0 1 2 3 4 hz.1.1 rfl] at e7 e9 e14;have hgv:=Qe z j1 (xs.getD i.toNat []) j2 j3 j4;rw [← e7,← e9] at hgv;refine ⟨by omega,by simp; omega,⟨z,xs,ts,rs,us,es,i,j2,j3,j4,j1,rfl,rfl,hz,hg,hi,hm,ha,hh⟩,?_⟩
  have mE:uW true z j1 (xs.getD i.toNat []) j2 j3 j4 j5 j6=if t14≠0 then t14 else t11:=by
   unfold uW Db; rw [if_pos rfl,bI,← e14,← e7,← e9,← e11]
  rw [ah];refine ⟨fun hne=>?_,fun h0=>⟨en hpx hpy hgv.1 hgv.2,?_⟩⟩
  ·rw [if_pos hne] at mE;unfold xI xH sI;rw [mE,if_pos hne,if_pos hne,if_pos hne]
   rfl
  ·rw [if_neg (by simpa using h0)] at mE
   rw [ah];refine ⟨fun hne=>?_,fun h1=>?_⟩
   ·unfold xI xH sI;rw [mE,if_pos hne,if_pos hne,if_pos hne]
    rfl
   ·have n11:¬ t11≠0:=by simpa using h1
    have n14:¬ uA z j1 (xs.getD i.toNat []) j2 j3 j4≠0:=by rw [← e14]; simpa using h0
    unfold xI xH sI;rw [mE,if_neg n11,if_neg n11,if_neg n11,if_pos rfl,if_pos rfl];unfold Da C9;rw [bI,bI,if_neg n14,if_neg n14,← e7,← e9,← e12,← e13,h1]
    rfl
end
def EK (s:Nat) (px py e:Int):List IV:=[.sl s,.int .i64 (px / 18446744073709551616),.int .u64 (px % 18446744073709551616),.int .i64 (py / 18446744073709551616),.int .u64 (py % 18446744073709551616),.int .i64 e]
def Py (q:L1):List IV:=[.int .i64 (q.getD 0 0),.int .u64 (q.getD 1 0),.int .i64 (q.getD 2 0),.int .i64 (q.getD 3 0),.int .i64 (q.getD 4 0),.int .i64 (q.getD 5 0),.int .i64 (q.getD 6 0),.int .i64 (q.getD 7 0)]
def XX (q:L1):List IV:=[.int .i64 (q.getD 0 0),.int .u64 (q.getD 1 0),.int .i64 (q.getD 2 0),.int .u64 (q.getD 3 0),.int .i64 (q.getD 4 0),.int .u64 (q.getD 5 0),.int .i64 (q.getD 6 0),.int .u64 (q.getD 7 0)]
def Ur (xs ts rs us es ks ns cs ls:L2):OB:=acX xs ts rs us es++[some (.ro [.u64,.i64] ks),some (.ro kQ ns),some (.ro fG cs),some (.ro [.i64] ls)]
def yo (z:L1) (w h px py:Int) (nd cl:L1) (xs ts rs us es ks ns cs ls:L2):OB:=Ur xs ts rs us es ks ns cs ls++[some (.var 34 (af z 0 1 2 3 4)),some (.var 66 [.sl 5,.sl 6,.sl 7,.int .i64 w]),some (.var 118 (EK 8 px py 0)),some (.var 25 (fx h).cells),some (.var 118 [.sl 16,.int .i64 0,.int .u64 0,.int .i64 0,.int .u64 0,.int .i64 0]),some (.var 70 (Py nd)),some (.var 160 (XX cl)),some (.row 3 [.i64] [])]
def Zi (i n:Int) (pl lf hs:Bool):List (Nat × IV):=[(2,.int .i64 i),(3,.int .i64 n),(6,.bool pl),(7,.ptr 9 0),(8,.ptr 10 0),(11,.ptr 11 0),(12,.ptr 12 0),(14,.ptr 13 0),(15,.ptr 14 0),(16,.ptr 15 0),(17,.bool lf),(18,.bool hs)]
def Ys (i n:Int) (pl lf:Bool) (B:OB) (q:Int):St:=⟨T 191 (Zi i n pl lf false++[(19,.int .i64 q)]),B⟩
def MdN (a:Nat)(b c d e:Int):List IV:=Mak a (Mbc b c d e MbD)
def Mew (a b:L2)(c:List IntKind)(d:L2)(e:List IntKind)(f:L2)(g:List IntKind)(h:L2)(i:List IntKind)(j:L2)(k:List IntKind)(l:L2)(m:List IntKind)(n:L2)(o:OB):OB:=Man jt a ie b (Man c d e f (Man g h i j (Man k l m n o)))
def MeI (a b c d e f g h:L2)(i:OB):OB:=Mew a b MaQ c dE d Mbd e kQ f fG g MaQ h i
def MeY (a b c d e f g:L1)(h:Int)(i:List IV):List IV:=Maj (Mb9 a) (Mca b) (Mcb c) (Mcj d) (Maj (Mce e) (Mcf f) (Mcg g) h i)
def Me8 (a:Int):List IV:=Mak 5 (Mak 6 (Mak 7 (MaY a)))
def Mfo (a:Nat)(b:IV)(c:Nat)(d:Bool)(e f g h:Nat)(i:List (Nat × IV)):List (Nat × IV):=MdL a b c (.bool d) e f g h i
def MfD (a:List IV)(b:Nat)(c d:Int)(e:Nat)(f g h i:Int)(j:Nat)(k l:List IV)(m:Nat)(n:OB):OB:=MbH 118 a b c d 118 (Mak e (Maj f g h i MbD)) j k (Mcz 160 l m MaQ n)
def MfZ (a:Nat)(b:Int)(c:List (Nat × IV))(d e f g h i j k l:L2)(m:OB):St:=Mct 191 a (Maa b) c d (MeI e f g h i j k l m)
def Mip (a:Nat)(b:Int)(c:Nat)(d:Int)(e:Nat)(f:Bool)(g h i:Nat)(j:List (Nat × IV)):List (Nat × IV):=Mem a (Maa b) c (Maa d) e (.bool f) g h (MdE i 10 11 11 12 12 14 13 j)
def MiW (a:List (Nat × IV)):List (Nat × IV):=MdE 11 11 12 12 14 13 15 14 a
def Mjg (a:L1)(b:List IV)(c:OB):OB:=MfJ a a a a a a a a a a a a a 0 1 2 3 a a a a a a 4 66 b c
def MjA (a:L1)(b c d e:Int):List IV:=Mai (Mb9 a) (Mca a) (MaD (Mcb a) (Mcj a) (MaD b c (MaD d e [])))
def MjW (a b c:Int)(d:List IV)(e:L1):OB:=MfD (MdN 8 a a b b) 25 c c 16 0 0 0 0 70 d (MeY e e e e e e e (Mck e) []) 3 []
theorem rK1 (Γ:FuncId->Option Vs.Spec) (Λ:FuncId->Nat->Option aB) (d:Nat) (i n:Int) (pl lf:Bool) (z:L1) (w h px py:Int) (nd cl:L1) (xs ts rs us es ks ns cs ls:L2) (q:Int) (k:Out->St->Prop):(round (ai TP { Γ:=Γ,Λ:=Λ,Τ:=fun _=>none } d) ar 9 0 (lp TP ar 0) (Ys i n pl lf (yo z w h px py nd cl xs ts rs us es ks ns cs ls) q) k) =(∀a,Men a nd (∀b,Meo b nd (∀c,Mep c nd (∀e,MeC e nd (∀f,Mfi f (cW (Maw a b c e []) q) q 4 (br lf (Mav (MbK q q) (Ma7 q q) (k .normal (MfZ 2 i (Mfo 3 (Maa n) 6 pl 7 9 8 10 (MiW (MgJ 16 15 17 (MeV f 0) 18 MaJ 19 q []))) xs ts rs us es ks ns cs ls (Mjg z (Me8 w) (MjW px py h (MjA nd a b c e) cl))))) (k .normal (MfZ 2 i (Mfo 3 (Maa n) 6 pl 7 9 8 10 (MiW (MgJ 16 15 17 MaJ 18 MaJ 19 q []))) xs ts rs us es ks ns cs ls (Mjg z (Me8 w) (MjW px py h (MjA nd a b c e) cl))))) (k MbI (MeU 191 (Mip 2 i 3 n 6 pl 7 9 8 (Ma4 15 14 16 (Mao 15) 17 (.bool lf) 18 MaJ [])) xs (MeI ts rs us es ks ns cs ls (Mjg z (Me8 w) (MjW px py h (MjA nd a b c e) cl)))))))))) :=by delta Maa Mab Mac Mad Mae Maf Mag Mah Mai Maj Mak Mal Mam Man Mao Map Mau Mav Maw Max Maz MaA MaD MaG MaJ MaM MaN MaP MaQ MaR MaS MaV MaY Ma1 Ma3 Ma4 Ma7 Mbc Mbd Mbf Mbl Mbp Mbv MbD MbH MbI MbK MbX MbY MbZ Mb0 Mb1 Mb2 Mb3 Mb4 Mb9 Mca Mcb Mcd Mce Mcf Mcg Mci Mcj Mck Mct Mcz McE McI McJ McR Mdl MdE MdL MdN Mem Men Meo Mep Mew MeC MeI MeU MeV MeY Me8 Mfi Mfo MfD MfJ MfZ MgJ Mip MiW Mjg MjA MjW; (iterate 5 refine nm ?_); kernel_rfl
def VS (i n:Int) (pl lf hs:Bool) (B:OB) (j:Int):St:=⟨T 191 (Zi i n pl lf hs++[(20,.int .i64 j)]),B⟩
def Mjj (a:L1)(b:Int):List IV:=Mai (Mb9 a) (Mca a) (MaD (Mcb a) b (MaD (Mce a) (Mcf a) (MaD (Mcg a) (Mck a) [])))
theorem rK2 (Γ:FuncId->Option Vs.Spec) (Λ:FuncId->Nat->Option aB) (d:Nat) (i n:Int) (pl lf hs:Bool) (z:L1) (w h px py:Int) (nd cl:L1) (xs ts rs us es ks ns cs ls:L2) (j:Int) (k:Out->St->Prop):(round (ai TP { Γ:=Γ,Λ:=Λ,Τ:=fun _=>none } d) ar 9 1 (lp TP ar 1) (VS i n pl lf hs (yo z w h px py nd cl xs ts rs us es ks ns cs ls) j) k) =(∀a,Meg a nd (∀b,MiJ b j ks (Mbv j a (br hs (k .normal (MfZ 2 i (Mfo 3 (Maa n) 6 pl 7 9 8 10 (MiW (MgJ 16 15 17 (.bool lf) 18 Ma5 20 j []))) xs ts rs us es ks ns cs ls (Mjg z (Me8 w) (MjW px py h (Mjj nd a) cl)))) (Mav b b (k .normal (MfZ 2 i (Mfo 3 (Maa n) 6 pl 7 9 8 10 (MiW (MgJ 16 15 17 (.bool lf) 18 (.bool (Mar ks j 1 == i)) 20 j []))) xs ts rs us es ks ns cs ls (Mjg z (Me8 w) (MjW px py h (Mjj nd a) cl)))))) (k Mee (MeU 191 (Mip 2 i 3 n 6 pl 7 9 8 (Ma4 15 14 16 (Mao 15) 17 (.bool lf) 18 (.bool hs) [])) xs (MeI ts rs us es ks ns cs ls (Mjg z (Me8 w) (MjW px py h (Mjj nd a) cl)))))))) :=by delta Maa Mab Mac Mad Mae Maf Mag Mah Mai Maj Mak Mal Mam Man Mao Map Mar Mat Mau Mav Max Maz MaA MaD MaG MaM MaN MaP MaQ MaR MaS MaV MaY Ma1 Ma3 Ma4 Ma5 Mbc Mbd Mbf Mbk Mbl Mbo Mbp Mbv MbD MbH MbX MbY MbZ Mb0 Mb1 Mb2 Mb3 Mb4 Mb9 Mca Mcb Mcd Mce Mcf Mcg Mci Mcj Mck Mct Mcz McE McI McJ McR Mdl MdE MdL MdN Mee Meg Mem Mew MeI MeU MeY Me8 Mfo MfD MfJ MfZ MgJ Mip MiJ MiW Mjg Mjj MjW; refine nm ?_; refine nm ?_; kernel_rfl
def il (pl:Bool) (z:L1) (h:Int) (r:L1) (xs cs:L2):Int->L2 × Int × Int->(L2 × Int × Int) × Int:=fun c s=>
 if 0<=c then ((sI (uW pl z h r (fr (cs.getD c.toNat []) 0) (fr (cs.getD c.toNat []) 2) (fr (cs.getD c.toNat []) 4) s.2.1 s.2.2) s.1 c,xI pl z h r (fr (cs.getD c.toNat []) 0) (fr (cs.getD c.toNat []) 2) (fr (cs.getD c.toNat []) 4) s.2.1 s.2.2,xH pl z h r (fr (cs.getD c.toNat []) 0) (fr (cs.getD c.toNat []) 2) (fr (cs.getD c.toNat []) 4) s.2.1 s.2.2),uW pl z h r (fr (cs.getD c.toNat []) 0) (fr (cs.getD c.toNat []) 2) (fr (cs.getD c.toNat []) 4) s.2.1 s.2.2)
 else ((sI (uW pl z h r (fr (xs.getD (-1 - c).toNat []) 0) (fr (xs.getD (-1 - c).toNat []) 4) (fr (xs.getD (-1 - c).toNat []) 6) s.2.1 s.2.2) s.1 c,xI pl z h r (fr (xs.getD (-1 - c).toNat []) 0) (fr (xs.getD (-1 - c).toNat []) 4) (fr (xs.getD (-1 - c).toNat []) 6) s.2.1 s.2.2,xH pl z h r (fr (xs.getD (-1 - c).toNat []) 0) (fr (xs.getD (-1 - c).toNat []) 4) (fr (xs.getD (-1 - c).toNat []) 6) s.2.1 s.2.2),uW pl z h r (fr (xs.getD (-1 - c).toNat []) 0) (fr (xs.getD (-1 - c).toNat []) 4) (fr (xs.getD (-1 - c).toNat []) 6) s.2.1 s.2.2)
def uY (pl:Bool) (z:L1) (h:Int) (xs ks ns cs:L2) (i:Int):Nat->L2 × Int × Int->(L2 × Int × Int) × Int:=Cm (il pl z h (xs.getD i.toNat []) xs cs) ns ks (fun n=>yE z xs cs n i.toNat) (fun n=>E4 z xs cs n i.toNat) i
def xx (pl:Bool) (z:L1) (h:Int) (xs ks ns cs:L2) (i:Int) (n:Nat) (ls:L2) (px py:Int):Int:=(uY pl z h xs ks ns cs i n (ls,px,py)).2
def xK (pl:Bool) (z:L1) (h:Int) (xs ks ns cs:L2) (i:Int) (n:Nat) (ls:L2) (px py:Int):Int:=if xx pl z h xs ks ns cs i n ls px py≠0 then 0 else (uY pl z h xs ks ns cs i n (ls,px,py)).1.2.1
def xJ (pl:Bool) (z:L1) (h:Int) (xs ks ns cs:L2) (i:Int) (n:Nat) (ls:L2) (px py:Int):Int:=if xx pl z h xs ks ns cs i n ls px py≠0 then 0 else (uY pl z h xs ks ns cs i n (ls,px,py)).1.2.2
def AU (pl:Bool) (z:L1) (h:Int) (xs ks ns cs:L2) (i:Int) (n:Nat) (ls:L2) (px py:Int):L2:=if xx pl z h xs ks ns cs i n ls px py≠0 then [] else (uY pl z h xs ks ns cs i n (ls,px,py)).1.1
def Y9 (m:Nat) (l:List IV) (bs:List aq):Prop:=∃z w xs ts rs us es ks ns cs ls i n px py h pl,l=[.agg (af z 0 1 2 3 4),.agg [.sl 5,.sl 6,.sl 7,.int .i64 w],.int .i64 i,.int .i64 n,ct 8 px py 0,fx h,.bool pl]/\bs=aH xs ts rs us es++[.ro [.u64,.i64] ks,.ro kQ ns,.ro fG cs,.ro [.i64] ls]/\
 qc z xs ks ns cs/\(0<=i/\i < xs.length)/\(0<=n/\n < ns.length)/\33 - lv ns n.toNat<=m/\(ag px/\ag py)/\ag h/\ls.length+wt ns n.toNat<=2000/\xs.length<=1000
def Ku (m:Nat):Vs.Spec:=⟨Y9 m,fun l bs=>
 (ct 0 (xK (qV l 6 0) (du l) (v2 l 5) (aA bs 0) (aA bs 5) (aA bs 6) (aA bs 7) (ae l 2 0) (ae l 3 0).toNat (aA bs 8) (ae l 4 1*18446744073709551616+ae l 4 2) (ae l 4 3*18446744073709551616+ae l 4 4))
   (xJ (qV l 6 0) (du l) (v2 l 5) (aA bs 0) (aA bs 5) (aA bs 6) (aA bs 7) (ae l 2 0) (ae l 3 0).toNat (aA bs 8) (ae l 4 1*18446744073709551616+ae l 4 2) (ae l 4 3*18446744073709551616+ae l 4 4))
   (xx (qV l 6 0) (du l) (v2 l 5) (aA bs 0) (aA bs 5) (aA bs 6) (aA bs 7) (ae l 2 0) (ae l 3 0).toNat (aA bs 8) (ae l 4 1*18446744073709551616+ae l 4 2) (ae l 4 3*18446744073709551616+ae l 4 4)),
  [.ro [.i64] (AU (qV l 6 0) (du l) (v2 l 5) (aA bs 0) (aA bs 5) (aA bs 6) (aA bs 7) (ae l 2 0) (ae l 3 0).toNat (aA bs 8) (ae l 4 1*18446744073709551616+ae l 4 2) (ae l 4 3*18446744073709551616+ae l 4 4))])⟩
def vG (m:Nat):FuncId->Option Vs.Spec:=fun g=>if g=agb then some F4 else if g=ar then some (Ku m) else Hy g
def aaC (i:Int) (pl:Bool):List (Nat × IV):=[(2,.int .i64 i),(6,.bool pl),(7,.ptr 9 0),(8,.ptr 10 0),(11,.ptr 11 0),(12,.ptr 12 0),(14,.ptr 13 0),(15,.ptr 14 0)]
def Zk (z:L1) (w h px py:Int) (nd:L1) (xs ts rs us es ks ns cs ls:L2):OB:=Ur xs ts rs us es ks ns cs ls++[some (.var 34 (af z 0 1 2 3 4)),some (.var 66 [.sl 5,.sl 6,.sl 7,.int .i64 w]),some (.var 118 (EK 8 px py 0)),some (.var 25 (fx h).cells),some (.var 118 [.sl 15,.int .i64 0,.int .u64 0,.int .i64 0,.int .u64 0,.int .i64 0]),some (.var 70 (Py nd)),some (.row 3 [.i64] [])]
def cr (z:L1) (w h x y e:Int) (nd:L1) (xs ts rs us es ks ns cs ls qs:L2):OB:=Ur xs ts rs us es ks ns cs ls++[some (.var 34 (af z 0 1 2 3 4)),some (.var 66 [.sl 5,.sl 6,.sl 7,.int .i64 w]),some (.var 118 (EK 15 x y e)),some (.var 25 (fx h).cells),some (.var 118 [.sl 16,.int .i64 0,.int .u64 0,.int .i64 0,.int .u64 0,.int .i64 0]),some (.var 70 (Py nd)),some (.ro [.i64] qs),some (.row 3 [.i64] [])]
def Uq (i n:Int) (pl hs:Bool):List (Nat × IV):=[(2,.int .i64 i),(3,.int .i64 n),(6,.bool pl),(7,.ptr 9 0),(8,.ptr 10 0),(11,.ptr 11 0),(12,.ptr 12 0),(14,.ptr 13 0),(15,.ptr 14 0),(16,.ptr 15 0),(18,.bool hs)]
def Rk (i n:Int) (pl hs:Bool) (B:OB) (j:Int):St:=⟨T 191 (Uq i n pl hs++[(21,.int .i64 j)]),B⟩
def Zj (z:L1) (w h x y e:Int) (nd cl:L1) (xs ts rs us es ks ns cs ls qs:L2):OB:=Ur xs ts rs us es ks ns cs ls++[some (.var 34 (af z 0 1 2 3 4)),some (.var 66 [.sl 5,.sl 6,.sl 7,.int .i64 w]),some (.var 118 (EK 16 x y e)),some (.var 25 (fx h).cells),some (.var 118 [.sl 17,.int .i64 0,.int .u64 0,.int .i64 0,.int .u64 0,.int .i64 0]),some (.var 70 (Py nd)),some (.var 160 (XX cl)),some (.ro [.i64] qs),some (.row 3 [.i64] [])]
def Vx (i:Int) (pl:Bool) (B:OB) (q:Int):St:=⟨T 191 (aaC i pl++[(26,.int .i64 q)]),B⟩
def MfF (a:Nat)(b c d e f:Int):List IV:=Mak a (Mbc b c d e (MaY f))
def MgB (a b c d e f g h i:L2)(j:Nat)(k:List IV)(l:OB):OB:=Mb8 a b c d dE e Mbd f g h (Mam MaQ i (.var j k) l)
def MhV (a:L2):OB:=Mc6 MaQ a 3 MaQ []
def Mh3 (a:Nat)(b c:Int):List IV:=Mak a (Maj 0 0 b c MbD)
def Miy (a:Nat)(b c d e f:Int)(g:Bool):List IV:=MaB (MdN a b c d e) (fx f::Mfc g)
def MiI (a b c:List IV)(d:OB):OB:=Mbf 25 a 118 (Mh3 17 0 0) 70 b 160 c d
def Mjl (a:Bool)(b:Int):List (Nat × IV):=Mbl 15 14 16 (Mao 15) 18 (.bool a) 21 b []
theorem aad (m:Nat) (Λ:FuncId->Nat->Option aB) (d:Nat) (i n:Int) (pl hs:Bool) (z:L1) (w h px py:Int) (nd cl:L1) (xs ts rs us es ks ns cs ls:L2) (j:Int) (k:Out->St->Prop):(round (ai TP { Γ:=vG m,Λ:=Λ,Τ:=fun _=>none } d) ar 9 2 (lp TP ar 2) (Rk i n pl hs (yo z w h px py nd cl xs ts rs us es ks ns cs ls) j) k) =(∀a,Mau a h (∀b,Mau b px (∀c,Mau c py (∀e,Mel e ks j (∀f,Meg f nd (∀g,MeO g z (∀l,MeR l z (∀o,MeH o z (∀p,Meg p z (∀q,Men q z (∀r,Meo r z (∀s,Mep s z (∀t,MeC t z (∀u,MeP u z (∀v,MeS v z (∀x,MdO x z (∀y,MdC y z (∀a1,MdP a1 z (∀b1,MdQ b1 z (∀c1,MdR c1 z (∀d1,MdS d1 z (∀e1,MdT e1 z (∀f1,MdU f1 z (∀g1,MdV g1 z (∀i1,Mek i1 xs e (∀j1,Mel j1 xs e (∀k1,MfL k1 xs e (∀l1,MfM l1 xs e (∀m1,Mgh m1 xs e (∀n1,Mgi n1 xs e (∀o1,MiJ o1 j ks (∀p1,Mau p1 (Mbb MbM e) (∀q1,MiJ q1 e xs (∀r1,Mcl r1 i1 j1 (∀s1,Mcl s1 k1 l1 (∀t1,Mcl t1 m1 n1 (∀u1,Mau u1 (uW pl (MbE g l o p q r s t u v x y a1 b1 c1 d1 e1 f1 g1) a (MeW xs i) r1 s1 t1 b c) (∀v1,Mau v1 (xI pl (MbE g l o p q r s t u v x y a1 b1 c1 d1 e1 f1 g1) a (MeW xs i) r1 s1 t1 b c) (∀w1,Mfi w1 (xH pl (MbE g l o p q r s t u v x y a1 b1 c1 d1 e1 f1 g1) a (MeW xs i) r1 s1 t1 b c) j f (Mav o1 o1 (MaW e i (Mda q1 q1 q1 q1 (Pp (Mcv g l o p q r s t u v x y a1 b1 c1 d1 e1 f1 g1 (MaD i p1 (MbN i1 j1 (Mdn k1 l1 m1 n1 (Miy 5 px px py py h pl))))) (MaC aM xs jt ts (MaC ie rs MaQ us (MaC dE es MaQ ls [])))) (McL u1 (k .ret (Mc3 191 14 9 [] xs (MeI ts rs us es ks ns cs ls (Mcy 118 (MfF 10 v1 v1 w1 w1 u1) MaQ (sI u1 ls p1) [])))) (k .normal (MaM 191 (Mip 2 i 3 n 6 pl 7 9 8 (Mjl hs (McR j))) (MgB xs ts rs us es ks ns cs ls 34 (Mcd g l o p q r s t u v x y a1 0 1 2 3 b1 c1 d1 e1 f1 g1 4) (Maz 66 (Me8 w) 118 (MfF 16 v1 v1 w1 w1 u1) (MiI (MiK h) (Mjj nd f) (MeY cl cl cl cl cl cl cl (Mck cl) []) (MhV (sI u1 ls p1))))))))) (k .normal (MeU 191 (Mip 2 i 3 n 6 pl 7 9 8 (Mjl hs (McR j))) xs (MeI ts rs us es ks ns cs ls (Mdl g l o p q r s t u v x y a1 0 1 2 3 b1 c1 d1 e1 f1 g1 4 66 (Me8 w) (MjW px py h (Mjj nd f) cl))))))) (k Me0 (MfZ 2 i (Map 3 (Maa n) 6 (.bool pl) (MdE 7 9 8 10 11 11 12 12 (Ma4 14 13 15 (Mao 14) 16 (Mao 15) 18 (.bool hs) []))) xs ts rs us es ks ns cs ls (Mdl g l o p q r s t u v x y a1 0 1 2 3 b1 c1 d1 e1 f1 g1 4 66 (Me8 w) (MjW px py h (Mjj nd f) cl))))))))))))))))))))))))))))))))))))))))))) :=by delta Maa Mab Mac Mad Mae Maf Mag Mah Mai Maj Mak Mal Mam Man Mao Map Maq Mar Mat Mau Mav Maw Max Maz MaA MaB MaC MaD MaE MaG MaM MaN MaP MaQ MaR MaS MaV MaW MaX MaY Ma1 Ma2 Ma3 Ma4 Mbb Mbc Mbd Mbf Mbk Mbl Mbo Mbp Mbv MbD MbE MbH MbM MbN Mb8 Mb9 Mca Mcb Mcd Mce Mcf Mcg Mcj Mck Mcl Mct Mcv Mcy Mcz McL McR Mc3 Mc6 Mda Mdl Mdn MdC MdE MdN MdO MdP MdQ MdR MdS MdT MdU MdV Meg Mek Mel Mem Men Meo Mep Mew MeC MeH MeI MeO MeP MeR MeS MeU MeW MeY Me0 Me8 Mfc Mfi MfD MfF MfL MfM MfZ Mgh Mgi MgB MhV Mh3 Mip Miy MiI MiJ MiK Mjj Mjl MjW; (iterate 3 refine nj ?_); (iterate 36 refine nm ?_); kernel_rfl
theorem aac (m:Nat) (Λ:FuncId->Nat->Option aB) (d:Nat) (i n:Int) (pl hs:Bool) (z:L1) (w h x y:Int) (nd cl:L1) (xs ts rs us es ks ns cs ls qs:L2) (j:Int) (k:Out->St->Prop):(round (ai TP { Γ:=vG m,Λ:=Λ,Τ:=fun _=>none } d) ar 9 2 (lp TP ar 2) (Rk i n pl hs (Zj z w h x y 0 nd cl xs ts rs us es ks ns cs ls qs) j) k) =(∀a,Mau a h (∀b,Mau b x (∀c,Mau c y (∀e,Mel e ks j (∀f,Meg f nd (∀g,MeO g z (∀l,MeR l z (∀o,MeH o z (∀p,Meg p z (∀q,Men q z (∀r,Meo r z (∀s,Mep s z (∀t,MeC t z (∀u,MeP u z (∀v,MeS v z (∀a1,MdO a1 z (∀b1,MdC b1 z (∀c1,MdP c1 z (∀d1,MdQ d1 z (∀e1,MdR e1 z (∀f1,MdS f1 z (∀g1,MdT g1 z (∀i1,MdU i1 z (∀j1,MdV j1 z (∀k1,Mek k1 xs e (∀l1,Mel l1 xs e (∀m1,MfL m1 xs e (∀n1,MfM n1 xs e (∀o1,Mgh o1 xs e (∀p1,Mgi p1 xs e (∀q1,MiJ q1 j ks (∀r1,Mau r1 (Mbb MbM e) (∀s1,MiJ s1 e xs (∀t1,Mcl t1 k1 l1 (∀u1,Mcl u1 m1 n1 (∀v1,Mcl v1 o1 p1 (∀w1,Mau w1 (uW pl (MbE g l o p q r s t u v a1 b1 c1 d1 e1 f1 g1 i1 j1) a (MeW xs i) t1 u1 v1 b c) (∀x1,Mau x1 (xI pl (MbE g l o p q r s t u v a1 b1 c1 d1 e1 f1 g1 i1 j1) a (MeW xs i) t1 u1 v1 b c) (∀y1,Mfi y1 (xH pl (MbE g l o p q r s t u v a1 b1 c1 d1 e1 f1 g1 i1 j1) a (MeW xs i) t1 u1 v1 b c) j f (Mav q1 q1 (MaW e i (Mda s1 s1 s1 s1 (Pp (Mcv g l o p q r s t u v a1 b1 c1 d1 e1 f1 g1 i1 j1 (MaD i r1 (MbN k1 l1 (Mdn m1 n1 o1 p1 (Miy 5 x x y y h pl))))) (MaC aM xs jt ts (MaC ie rs MaQ us (MaC dE es MaQ qs [])))) (McL w1 (k .ret (Mc3 191 14 9 [] xs (MeI ts rs us es ks ns cs ls (Mcy 118 (MfF 10 x1 x1 y1 y1 w1) MaQ (sI w1 qs r1) [])))) (k .normal (MaM 191 (Mip 2 i 3 n 6 pl 7 9 8 (Mjl hs (McR j))) (MgB xs ts rs us es ks ns cs ls 34 (Mcd g l o p q r s t u v a1 b1 c1 0 1 2 3 d1 e1 f1 g1 i1 j1 4) (Maz 66 (Me8 w) 118 (MfF 16 x1 x1 y1 y1 w1) (MiI (MiK h) (Mjj nd f) (MeY cl cl cl cl cl cl cl (Mck cl) []) (MhV (sI w1 qs r1))))))))) (k .normal (MaM 191 (Mip 2 i 3 n 6 pl 7 9 8 (Mjl hs (McR j))) (MgB xs ts rs us es ks ns cs ls 34 (Mcd g l o p q r s t u v a1 b1 c1 0 1 2 3 d1 e1 f1 g1 i1 j1 4) (Maz 66 (Me8 w) 118 (MdN 16 x x y y) (MiI (MiK h) (Mjj nd f) (MeY cl cl cl cl cl cl cl (Mck cl) []) (MhV qs)))))))) (k Me0 (MeE 191 2 i (Map 3 (Maa n) 6 (.bool pl) (MdE 7 9 8 10 11 11 12 12 (Ma4 14 13 15 (Mao 14) 16 (Mao 15) 18 (.bool hs) []))) (MgB xs ts rs us es ks ns cs ls 34 (Mcd g l o p q r s t u v a1 b1 c1 0 1 2 3 d1 e1 f1 g1 i1 j1 4) (Maz 66 (Me8 w) 118 (MdN 16 x x y y) (MiI (MiK h) (Mjj nd f) (MeY cl cl cl cl cl cl cl (Mck cl) []) (MhV qs))))))))))))))))))))))))))))))))))))))))))))) :=by delta Maa Mab Mac Mad Mae Maf Mag Mah Mai Maj Mak Mal Mam Man Mao Map Maq Mar Mat Mau Mav Maw Max Maz MaA MaB MaC MaD MaE MaG MaM MaN MaP MaQ MaR MaS MaV MaW MaX MaY Ma1 Ma2 Ma3 Ma4 Mbb Mbc Mbd Mbf Mbk Mbl Mbo Mbp Mbv MbD MbE MbM MbN Mb8 Mb9 Mca Mcb Mcd Mce Mcf Mcg Mcj Mck Mcl Mct Mcv Mcy McL McR Mc3 Mc6 Mda Mdn MdC MdE MdN MdO MdP MdQ MdR MdS MdT MdU MdV Meg Mek Mel Mem Men Meo Mep Mew MeC MeE MeH MeI MeO MeP MeR MeS MeW MeY Me0 Me8 Mfc Mfi MfF MfL MfM Mgh Mgi MgB MhV Mh3 Mip Miy MiI MiJ MiK Mjj Mjl; (iterate 3 refine nj ?_); (iterate 36 refine nm ?_); kernel_rfl
def Mhr (a:Nat)(b:Bool)(c d e f g h:Nat)(i:List (Nat × IV)):List (Nat × IV):=MdL a (.bool b) c (Mao d) e f g h i
def MiL (a:List IV)(b:Int)(c:List IV)(d:OB):OB:=MbH 118 a 25 b b 118 (Mak 16 (Maj 0 0 0 0 MbD)) 70 c d
def Mjs (a:Int):List (Nat × IV):=Me1 12 12 14 13 15 14 26 (McR a)
theorem aab (m:Nat) (Λ:FuncId->Nat->Option aB) (d:Nat) (i:Int) (pl:Bool) (z:L1) (w h px py:Int) (nd:L1) (xs ts rs us es ks ns cs ls:L2) (q:Int) (k:Out->St->Prop):(round (ai TP { Γ:=vG m,Λ:=Λ,Τ:=fun _=>none } d) ar 9 3 (lp TP ar 3) (Vx i pl (Zk z w h px py nd xs ts rs us es ks ns cs ls) q) k) =(∀a,Mau a h (∀b,Mau b px (∀c,Mau c py (∀e,Men e nd (∀f,Meo f nd (∀g,Mep g nd (∀j,MeC j nd (∀l,MeO l z (∀n,MeR n z (∀o,MeH o z (∀p,Meg p z (∀r,Men r z (∀s,Meo s z (∀t,Mep t z (∀u,MeC u z (∀v,MeP v z (∀x,MeS x z (∀y,MdO y z (∀a1,MdC a1 z (∀b1,MdP b1 z (∀c1,MdQ c1 z (∀d1,MdR d1 z (∀e1,MdS e1 z (∀f1,MdT f1 z (∀g1,MdU g1 z (∀i1,MdV i1 z (∀j1,Mbo j1 (MbK q q) (∀k1,Mbo k1 (Ma7 q q) (∀l1,Mau l1 (cW (Maw e f g j []) q) (∀m1,Mau m1 (xK pl (MbE l n o p r s t u v x y a1 b1 c1 d1 e1 f1 g1 i1) a xs ks ns cs i (Int.toNat l1) ls b c) (∀n1,Mfi n1 (xJ pl (MbE l n o p r s t u v x y a1 b1 c1 d1 e1 f1 g1 i1) a xs ks ns cs i (Int.toNat l1) ls b c) q 4 (Mav j1 k1 (MgK l1 (MbV j1 k1 (Y9 m (Mcv l n o p r s t u v x y a1 b1 c1 d1 e1 f1 g1 i1 (MaB (Me8 w) (MaD i l1 (Miy 8 px px py py h pl)))) (MbJ aM xs ts rs us es (MaC Mbd ks kQ ns (MaC fG cs MaQ ls [])))) (k .normal (MfZ 2 i (Mhr 6 pl 7 9 8 10 11 11 (Mjs q)) xs ts rs us es ks ns cs ls (Mdl l n o p r s t u v x y a1 b1 0 1 2 3 c1 d1 e1 f1 g1 i1 4 66 (Me8 w) (MiL (MfF 15 m1 m1 n1 n1 (xx pl (MbE l n o p r s t u v x y a1 b1 c1 d1 e1 f1 g1 i1) a xs ks ns cs i (Int.toNat l1) ls b c)) h (MjA nd e f g j) (MhV (AU pl (MbE l n o p r s t u v x y a1 b1 c1 d1 e1 f1 g1 i1) a xs ks ns cs i (Int.toNat l1) ls b c))))))) (k .normal (MeE 191 2 i (Mhr 6 pl 7 9 8 10 11 11 (Mjs q)) (MgB xs ts rs us es ks ns cs ls 34 (Mcd l n o p r s t u v x y a1 b1 0 1 2 3 c1 d1 e1 f1 g1 i1 4) (Mbf 66 (Me8 w) 118 (MdN 8 px px py py) 25 (MiK h) 118 (Mh3 15 0 0) (Mcz 70 (MjA nd e f g j) 3 MaQ []))))))) (k (.exit 6) (Mcx 191 11 9 14 10 [] (MgB xs ts rs us es ks ns cs ls 118 (MdN 8 px px py py) (Mcz 118 (Mh3 11 0 0) 3 MaQ []))))))))))))))))))))))))))))))))))) :=by delta Maa Mab Mac Mad Mae Maf Mag Mah Mai Maj Mak Mal Mam Man Mao Map Mau Mav Maw Max Maz MaA MaB MaC MaD MaG MaM MaN MaP MaQ MaR MaS MaV MaY Ma1 Ma3 Ma4 Ma7 Mbc Mbd Mbf Mbl Mbo Mbp Mbs Mbv Mbx MbD MbE MbH MbJ MbK MbU MbV Mb8 Mb9 Mca Mcb Mcc Mcd Mcj Mct Mcv Mcx Mcz McJ McR Mc6 Mdl MdC MdL MdN MdO MdP MdQ MdR MdS MdT MdU MdV Meg Men Meo Mep Mew MeC MeE MeH MeI MeO MeP MeR MeS Me1 Me8 Mfc Mfi MfF MfZ MgB MgK Mhr MhV Mh3 Miy MiK MiL Mjs MjA; (iterate 3 refine nj ?_); (iterate 28 refine nm ?_); kernel_rfl
theorem aaa (m:Nat) (Λ:FuncId->Nat->Option aB) (d:Nat) (i:Int) (pl:Bool) (z:L1) (w h x y e:Int) (nd:L1) (xs ts rs us es ks ns cs ls qs:L2) (q:Int) (k:Out->St->Prop):(round (ai TP { Γ:=vG m,Λ:=Λ,Τ:=fun _=>none } d) ar 9 3 (lp TP ar 3) (Vx i pl (cr z w h x y e nd xs ts rs us es ks ns cs ls qs) q) k) =(∀a,Mau a h (∀b,Mau b x (∀c,Mau c y (∀f,Men f nd (∀g,Meo g nd (∀j,Mep j nd (∀l,MeC l nd (∀n,MeO n z (∀o,MeR o z (∀p,MeH p z (∀r,Meg r z (∀s,Men s z (∀t,Meo t z (∀u,Mep u z (∀v,MeC v z (∀a1,MeP a1 z (∀b1,MeS b1 z (∀c1,MdO c1 z (∀d1,MdC d1 z (∀e1,MdP e1 z (∀f1,MdQ f1 z (∀g1,MdR g1 z (∀i1,MdS i1 z (∀j1,MdT j1 z (∀k1,MdU k1 z (∀l1,MdV l1 z (∀m1,Mbo m1 (MbK q q) (∀n1,Mbo n1 (Ma7 q q) (∀o1,Mau o1 (cW (Maw f g j l []) q) (∀p1,Mau p1 (xK pl (MbE n o p r s t u v a1 b1 c1 d1 e1 f1 g1 i1 j1 k1 l1) a xs ks ns cs i (Int.toNat o1) qs b c) (∀q1,Mau q1 (xJ pl (MbE n o p r s t u v a1 b1 c1 d1 e1 f1 g1 i1 j1 k1 l1) a xs ks ns cs i (Int.toNat o1) qs b c) (∀r1,Mbo r1 (k (.exit 6) (Mcx 191 11 9 14 10 [] (MaV aM xs (MeI ts rs us es ks ns cs ls (Maz 118 (MfF 11 x x y y e) 118 (Mh3 12 0 0) (MhV qs)))))) (Mbv q 4 (Mcm e 0 (Mav m1 n1 (MgK o1 (MbV m1 n1 (Y9 m (Mcv n o p r s t u v a1 b1 c1 d1 e1 f1 g1 i1 j1 k1 l1 (MaB (Me8 w) (MaD i o1 (MaB (MfF 8 x x y y e) (fx h::Mfc pl))))) (MbJ aM xs ts rs us es (MaC Mbd ks kQ ns (MaC fG cs MaQ qs [])))) (k .normal (MfZ 2 i (Mhr 6 pl 7 9 8 10 11 11 (Mjs q)) xs ts rs us es ks ns cs ls (Mdl n o p r s t u v a1 b1 c1 d1 e1 0 1 2 3 f1 g1 i1 j1 k1 l1 4 66 (Me8 w) (MiL (MfF 15 p1 p1 q1 q1 (xx pl (MbE n o p r s t u v a1 b1 c1 d1 e1 f1 g1 i1 j1 k1 l1) a xs ks ns cs i (Int.toNat o1) qs b c)) h (MjA nd f g j l) (MhV (AU pl (MbE n o p r s t u v a1 b1 c1 d1 e1 f1 g1 i1 j1 k1 l1) a xs ks ns cs i (Int.toNat o1) qs b c))))))) (k .normal (MfZ 2 i (Mhr 6 pl 7 9 8 10 11 11 (Mjs q)) xs ts rs us es ks ns cs ls (Mdl n o p r s t u v a1 b1 c1 d1 e1 0 1 2 3 f1 g1 i1 j1 k1 l1 4 66 (Me8 w) (MiL (MfF 15 x x y y e) h (MjA nd f g j l) (MhV qs))))))) r1) r1))))))))))))))))))))))))))))))))) :=by delta Maa Mab Mac Mad Mae Maf Mag Mah Mai Maj Mak Mal Mam Man Mao Map Mau Mav Maw Max Maz MaA MaB MaC MaD MaG MaM MaN MaP MaQ MaR MaS MaV MaY Ma1 Ma3 Ma4 Ma7 Mbc Mbd Mbf Mbl Mbo Mbp Mbs Mbv Mbx MbD MbE MbH MbJ MbK MbU MbV Mb9 Mca Mcb Mcc Mcd Mcj Mcm Mct Mcv Mcx McJ McR Mc6 Mdl MdC MdL MdO MdP MdQ MdR MdS MdT MdU MdV Meg Men Meo Mep Mew MeC MeH MeI MeO MeP MeR MeS Me1 Me8 Mfc MfF MfZ MgK Mhr MhV Mh3 MiL Mjs MjA; (iterate 3 refine nj ?_); (iterate 29 refine nm ?_); kernel_rfl
def pK1 (n0:Nat) (st:St):Prop:=∃i n pl z w h px py nd cl xs ts rs us es ks ns cs ls,n0=9/\st=Ys i n pl true (yo z w h px py nd cl xs ts rs us es ks ns cs ls) 0
def Us (a b c d:Int):Bool:=decide (a < 0/\b < 0/\c < 0/\d < 0)
def XL (st:St):St:=⟨(st.t.set 17 (some (.bool (Us (bl st.b 14 4) (bl st.b 14 5) (bl st.b 14 6) (bl st.b 14 7))))).set 19 none,st.b⟩
def LK1:aB:=fun n0 st K=>pK1 n0 st/\K (.exit 0) (XL st)
def pK2 (n0:Nat) (st:St):Prop:=∃i n pl lf z w h px py nd cl xs ts rs us es ks ns cs ls,(0<=nd.getD 2 0/\nd.getD 2 0<=nd.getD 3 0/\nd.getD 3 0<=ks.length)/\ks.length<=1000/\n0=9/\st=VS i n pl lf false (yo z w h px py nd cl xs ts rs us es ks ns cs ls) (nd.getD 2 0)
def XJ (st:St):St:=⟨(st.t.set 18 (some (.bool (ll (List.drop (bl st.b 14 2).toNat (List.take (bl st.b 14 3).toNat (dh st.b 5))) (st.i 2))))).set 20 none,st.b⟩
def LK2:aB:=fun n0 st K=>pK2 n0 st/\K (.exit 2) (XJ st)
def PS (pl:Bool) (z:L1) (h:Int) (xs cs ys:L2) (i:Int) (ls:L2) (px py:Int):(L2 × Int × Int) × Int:=dF (dw (il pl z h (xs.getD i.toNat []) xs cs) i) ys (ls,px,py)
def aaA (i:Int) (h px py:Int) (nd:L1) (z:L1) (xs ks cs ls:L2):Prop:=Zf z xs cs/\ag h/\(ag px/\ag py)/\(0<=i/\i < xs.length)/\oB xs.length ks/\ks.length<=1000/\(0<=nd.getD 2 0/\nd.getD 2 0<=nd.getD 3 0/\nd.getD 3 0<=ks.length)/\ls.length<=2000/\xs.length<=1000
def pK3 (n0:Nat) (st:St) (i n:Int) (pl hs:Bool) (z:L1) (w h px py:Int) (nd cl:L1) (xs ts rs us es ks ns cs ls:L2):Prop:=aaA i h px py nd z xs ks cs ls/\n0=9/\st=Rk i n pl hs (yo z w h px py nd cl xs ts rs us es ks ns cs ls) (nd.getD 2 0)
def LK3:aB:=fun n0 st K=>∃i n pl hs z w h px py nd cl xs ts rs us es ks ns cs ls,pK3 n0 st i n pl hs z w h px py nd cl xs ts rs us es ks ns cs ls/\∃R,R=PS pl z h xs cs (afS nd ks) i ls px py/\br (R.2 != 0) (K .ret ⟨T 191 [(14,.ptr 9 0)],Ur xs ts rs us es ks ns cs ls++[some (.var 118 (EK 10 R.1.2.1 R.1.2.2 R.2)),some (.ro [.i64] R.1.1)]⟩)
 ((R=((ls,px,py),0)->K (.exit 4) ⟨T 191 (Uq i n pl hs),yo z w h px py nd cl xs ts rs us es ks ns cs ls⟩)/\K (.exit 4) ⟨T 191 (Uq i n pl hs),Zj z w h R.1.2.1 R.1.2.2 0 nd cl xs ts rs us es ks ns cs ls R.1.1⟩)
def tl (pl:Bool) (z:L1) (h:Int) (xs ks ns cs:L2) (i:Int) (l:List Nat) (ls:L2) (px py:Int):(L2 × Int × Int) × Int:=dF (uY pl z h xs ks ns cs i) l (ls,px,py)
def b9 (m n0:Nat) (st:St) (i:Int) (n:Nat) (pl:Bool) (z:L1) (w h px py:Int) (nd:L1) (xs ts rs us es ks ns cs ls:L2):Prop:=qc z xs ks ns cs/\ag h/\(ag px/\ag py)/\(0<=i/\i < xs.length)/\n < ns.length/\nd=ns.getD n []/\ot ns n=false/\33 - lv ns n<=m+1/\ls.length+wt ns n<=2000/\xs.length<=1000/\n0=9/\st=Vx i pl (Zk z w h px py nd xs ts rs us es ks ns cs ls) 0
def JF (e x:Int):Int:=if e≠0 then 0 else x
def LK4 (m:Nat):aB:=fun n0 st K=>∃i n pl z w h px py nd xs ts rs us es ks ns cs ls,b9 m n0 st i n pl z w h px py nd xs ts rs us es ks ns cs ls/\∃R,R=tl pl z h xs ks ns cs i (gm ns n) ls px py/\
 (R=((ls,px,py),0)->K (.exit 6) ⟨T 191 [(11,.ptr 9 0),(14,.ptr 10 0)],Ur xs ts rs us es ks ns cs ls++[some (.var 118 (EK 8 px py 0)),some (.var 118 [.sl 11,.int .i64 0,.int .u64 0,.int .i64 0,.int .u64 0,.int .i64 0]),some (.row 3 [.i64] [])]⟩)/\
 K (.exit 6) ⟨T 191 [(11,.ptr 9 0),(14,.ptr 10 0)],Ur xs ts rs us es ks ns cs ls++[some (.var 118 (EK 11 (JF R.2 R.1.2.1) (JF R.2 R.1.2.2) R.2)),some (.var 118 [.sl 12,.int .i64 0,.int .u64 0,.int .i64 0,.int .u64 0,.int .i64 0]),some (.ro [.i64] (bq R.2 R.1.1)),some (.row 3 [.i64] [])]⟩
def VA (m:Nat):Know:={ Γ:=vG m,Λ:=fun f i=>if f=ar then (if i=0 then some LK1 else if i=1 then some LK2 else if i=2 then some LK3 else if i=3 then some (LK4 m) else none) else none,Τ:=fun _=>none }
def MdY (a:(L2 × Int × Int) × Int):Int:=a.1.2.1
def MdZ (a:(L2 × Int × Int) × Int):Int:=a.1.2.2
def MeL (a:(L2 × Int × Int) × Int):L2:=a.1.1
theorem Tj (m:Nat) (z:L1) (w:Int) (xs ts rs us es ks ns cs ls:L2) (i px py h:Int) (n:Nat) (pl:Bool) (K:KP):(comes TP (VA m) 3 ar [.agg (af z 0 1 2 3 4),.agg [.sl 5,.sl 6,.sl 7,.int .i64 w],.int .i64 i,.int .i64 (n:Int),ct 8 px py 0,fx h,.bool pl] (aH xs ts rs us es++[.ro [.u64,.i64] ks,.ro kQ ns,.ro fG cs,.ro [.i64] ls]) K) =(∀a,Mau a h (∀b,Mau b px (∀c,Mau c py (∀d,MiS d (Md2 cs (↑n:Int) 2 cs (↑n:Int) 3 xs i 4 xs i 5) (Md2 cs (↑n:Int) 4 cs (↑n:Int) 5 xs i 6 xs i 7) (∀e,Mau e d (∀f,MiT f (Md2 cs (↑n:Int) 2 cs (↑n:Int) 3 xs i 4 xs i 5) (Md2 cs (↑n:Int) 4 cs (↑n:Int) 5 xs i 6 xs i 7) (∀g,Mau g f (∀j,Mau j (te (az e e) (az g g)) (∀k,Mau k j (∀l,Mc1 l (Ma2 (Mck z) (McE z)) k (∀o,Mau o l (∀p,Mau p (tf (az e e) (az g g)) (∀q,MfL q xs i (∀r,MfM r xs i (∀s,Mgh s xs i (∀t,Mgi t xs i (∀u,McY u ns n 2 (∀v,McY v ns n 3 (∀x,McY x ns n 4 (∀y,McY y ns n 5 (∀a1,McY a1 ns n 6 (∀b1,McY b1 ns n 7 (∀c1,McY c1 cs n 0 (∀d1,McY d1 cs n 1 (∀e1,McY e1 cs n 2 (∀f1,McY f1 cs n 3 (∀g1,McY g1 cs n 4 (∀i1,McY i1 cs n 5 (∀j1,McY j1 cs n 6 (∀k1,McY k1 cs n 7 (∀l1,MeO l1 z (∀m1,MeR m1 z (∀n1,MeH n1 z (∀o1,Meg o1 z (∀p1,Men p1 z (∀q1,Meo q1 z (∀r1,Mep r1 z (∀s1,MeC s1 z (∀t1,MeP t1 z (∀u1,MeS u1 z (∀v1,MdO v1 z (∀w1,MdC w1 z (∀x1,MdP x1 z (∀y1,MdQ y1 z (∀z1,MdR z1 z (∀a2,MdS a2 z (∀b2,MdT b2 z (∀c2,MdU c2 z (∀d2,MdV d2 z (∀e2,MiJ e2 i xs (∀f2,MiJ f2 (↑n:Int) ns (∀g2,MiJ g2 (↑n:Int) cs (∀i2,Mcl i2 e1 f1 (∀j2,Mcl j2 g1 i1 (∀k2,Mcl k2 c1 d1 (∀l2,Md7 l2 (Ma2 j1 k1) o (∀m2,Mdc m2 (Ma2 s1 t1) k (∀n2,Mge n2 (Mdd i2 q r) (Mdd j2 s t) (∀o2,Mau o2 (xI pl (MbE l1 m1 n1 o1 p1 q1 r1 s1 t1 u1 v1 w1 x1 y1 z1 a2 b2 c2 d2) a (MeW xs i) k2 i2 j2 b c) (∀p2,Mau p2 (xH pl (MbE l1 m1 n1 o1 p1 q1 r1 s1 t1 u1 v1 w1 x1 y1 z1 a2 b2 c2 d2) a (MeW xs i) k2 i2 j2 b c) (∀q2,Mau q2 (uW pl (MbE l1 m1 n1 o1 p1 q1 r1 s1 t1 u1 v1 w1 x1 y1 z1 a2 b2 c2 d2) a (MeW xs i) k2 i2 j2 b c) (Mgx f2 f2 g2 g2 (pK1 9 (MfZ 2 i (Mfo 3 (Med n) 6 pl 7 9 8 10 (MdE 11 11 12 12 14 13 15 14 (Mbl 16 15 17 Ma5 18 MaJ 19 0 []))) xs ts rs us es ks ns cs ls (Mdl l1 m1 n1 o1 p1 q1 r1 s1 t1 u1 v1 w1 x1 0 1 2 3 y1 z1 a2 b2 c2 d2 4 66 (Me8 w) (MfD (MdN 8 px px py py) 25 h h 16 0 0 0 0 70 (MhE ns n (McN ns n 1) u v x y a1 b1 []) (Maj c1 d1 e1 f1 (Maj g1 i1 j1 k1 [])) 3 [])))) (pK2 9 (MfZ 2 i (Mfo 3 (Med n) 6 pl 7 9 8 10 (MiW (Mbl 16 15 17 (.bool (Us x y a1 b1)) 18 MaJ 20 u []))) xs ts rs us es ks ns cs ls (Mdl l1 m1 n1 o1 p1 q1 r1 s1 t1 u1 v1 w1 x1 0 1 2 3 y1 z1 a2 b2 c2 d2 4 66 (Me8 w) (MfD (MdN 8 px px py py) 25 h h 16 0 0 0 0 70 (MhE ns n (McN ns n 1) u v x y a1 b1 []) (Maj c1 d1 e1 f1 (Maj g1 i1 j1 k1 [])) 3 [])))) (br (Us x y a1 b1) (∃r2:Int,∃s2:Int,∃t2:Bool,∃u2:Bool,∃v2:L1,∃w2:Int,∃x2:Int,∃y2:Int,∃z2:Int,∃a3:L1,∃b3:L1,∃c3:L2,∃d3:L2,∃e3:L2,∃f3:L2,∃g3:L2,∃i3:L2,∃j3:L2,∃k3:L2,∃l3:L2,pK3 9 (MeU 191 (Mem 2 (Maa i) 3 (Med n) 6 (.bool pl) 7 9 (MdE 8 10 11 11 12 12 14 13 (Mjl (ll (Mfp u v ks) i) u))) xs (MeI ts rs us es ks ns cs ls (Mdl l1 m1 n1 o1 p1 q1 r1 s1 t1 u1 v1 w1 x1 0 1 2 3 y1 z1 a2 b2 c2 d2 4 66 (Me8 w) (MfD (MdN 8 px px py py) 25 h h 16 0 0 0 0 70 (MhE ns n (McN ns n 1) u v x y a1 b1 []) (Maj c1 d1 e1 f1 (Maj g1 i1 j1 k1 [])) 3 [])))) r2 s2 t2 u2 v2 w2 x2 y2 z2 a3 b3 c3 d3 e3 f3 g3 i3 j3 k3 l3/\(∃m3:(L2 × Int × Int) × Int,Mcs (m3=PS t2 v2 x2 c3 k3 (afS a3 i3) r2 l3 y2 z2) m3.2 (K (MeM (MiH (MdY m3) (MdZ m3) (MaY m3.2))) (Mfg (MeL m3))) ((m3=((l3,(y2,z2)),0)->K (MjH y2 z2) (Mfg l3))/\K (MjH (MdY m3) (MdZ m3)) (Mfg (MeL m3))))) (Mbm (ll (Mfp u v ks) i) (MiZ e2 (kB (Mdn e1 f1 g1 i1 (Mdn q r s t [])) []) n2 (K (Mht 0 0 0 0 n2) (MbR 3 MaQ [])) (Mfm (MfP d f [] []) p (K (Mht 0 0 0 0 p) (MbR 3 MaQ [])) (Mgz s1 t1 j) m2 (K (Mht 0 0 0 0 m2) (MbR 3 MaQ [])) (ud (MeG j1 k1 l) []/\br (Mbz l2 0) (Pp (Mcv l1 m1 n1 o1 p1 q1 r1 s1 t1 u1 v1 w1 x1 y1 z1 a2 b2 c2 d2 (MaD i (↑n:Int) (MbN c1 d1 (Mdn e1 f1 g1 i1 (Miy 5 px px py py h pl))))) (MaC aM xs jt ts (MaC ie rs MaQ us (MaC dE es MaQ ls [])))/\K (MeM (MiH o2 p2 (MaY q2))) (Mfg (sI q2 ls (↑n:Int)))) (∃r2:Int,∃s2:Nat,∃t2:Bool,∃u2:L1,∃v2:Int,∃w2:Int,∃x2:Int,∃y2:Int,∃z2:L1,∃a3:L2,∃b3:L2,∃c3:L2,∃d3:L2,∃e3:L2,∃f3:L2,∃g3:L2,∃i3:L2,∃j3:L2,b9 m 9 (MeE 191 2 i (Mhr 6 pl 7 9 8 10 11 11 (Me1 12 12 14 13 15 14 26 0)) (MgB xs ts rs us es ks ns cs ls 34 (Mcd l1 m1 n1 o1 p1 q1 r1 s1 t1 u1 v1 w1 x1 0 1 2 3 y1 z1 a2 b2 c2 d2 4) (Mbf 66 (Me8 w) 118 (MdN 8 px px py py) 25 (MiK h) 118 (Mh3 15 0 0) (Mcz 70 (MhE ns n (McN ns n 1) u v x y a1 b1 []) 3 MaQ [])))) r2 s2 t2 u2 v2 w2 x2 y2 z2 a3 b3 c3 d3 e3 f3 g3 i3 j3/\(∃k3:(L2 × Int × Int) × Int,Mav (k3=tl t2 u2 w2 a3 f3 g3 i3 r2 (gm g3 s2) j3 x2 y2) (k3=((j3,(x2,y2)),0)->K (MjH x2 y2) (Mfg j3)) (K (MeM (MiH (JF k3.2 (MdY k3)) (JF k3.2 (MdZ k3)) (MaY k3.2))) (Mfg (bq k3.2 (MeL k3))))))))) (∃r2:Int,∃s2:Nat,∃t2:Bool,∃u2:L1,∃v2:Int,∃w2:Int,∃x2:Int,∃y2:Int,∃z2:L1,∃a3:L2,∃b3:L2,∃c3:L2,∃d3:L2,∃e3:L2,∃f3:L2,∃g3:L2,∃i3:L2,∃j3:L2,b9 m 9 (MeE 191 2 i (Mhr 6 pl 7 9 8 10 11 11 (Me1 12 12 14 13 15 14 26 0)) (MgB xs ts rs us es ks ns cs ls 34 (Mcd l1 m1 n1 o1 p1 q1 r1 s1 t1 u1 v1 w1 x1 0 1 2 3 y1 z1 a2 b2 c2 d2 4) (Mbf 66 (Me8 w) 118 (MdN 8 px px py py) 25 (MiK h) 118 (Mh3 15 0 0) (Mcz 70 (MhE ns n (McN ns n 1) u v x y a1 b1 []) 3 MaQ [])))) r2 s2 t2 u2 v2 w2 x2 y2 z2 a3 b3 c3 d3 e3 f3 g3 i3 j3/\(∃k3:(L2 × Int × Int) × Int,Mav (k3=tl t2 u2 w2 a3 f3 g3 i3 r2 (gm g3 s2) j3 x2 y2) (k3=((j3,(x2,y2)),0)->K (MjH x2 y2) (Mfg j3)) (K (MeM (MiH (JF k3.2 (MdY k3)) (JF k3.2 (MdZ k3)) (MaY k3.2))) (Mfg (bq k3.2 (MeL k3)))))))))))))))))))))))))))))))))))))))))))))))))))))))))))))))))))))) :=by delta Maa Mab Mac Mad Mae Maf Mag Mah Mai Maj Mak Mam Man Mao Map Maq Mar Mat Mau Mav Maw Max Maz MaB MaC MaD MaE MaG MaJ MaM MaN MaP MaQ MaR MaS MaV MaW MaX MaY Ma1 Ma2 Ma3 Ma4 Ma5 Mbc Mbd Mbf Mbk Mbl Mbm Mbo Mbq Mbw Mby Mbz MbD MbE MbH MbN MbR MbV Mb7 Mb8 Mcd Mck Mcl Mcs Mct Mcv Mcz McE McJ McL McN McY Mc0 Mc1 Mdc Mdd Mdl Mdn Mdv MdC MdE MdL MdN MdO MdP MdQ MdR MdS MdT MdU MdV MdY MdZ Md2 Md7 Med Meg Mem Men Meo Mep Mew MeC MeE MeG MeH MeI MeL MeM MeO MeP MeR MeS MeU MeW Me1 Me8 Mfc Mfg Mfm Mfo Mfp MfD MfL MfM MfP MfZ Mge Mgh Mgi Mgx Mgz MgB Mhr Mht MhE Mh3 Miy MiH MiJ MiK MiS MiT MiW MiZ Mjl MjH; (iterate 3 refine nj ?_); refine nm ?_; refine nj ?_; refine nm ?_; refine nj ?_; refine nm ?_; refine nj ?_; refine nm ?_; refine nj ?_; (iterate 50 refine nm ?_); kernel_rfl
section
open Go.IntWalk
def yp (nd:L1):Nat->Bool
 | 0=>true
 | q+1=>yp nd q && decide (nd.getD (4+q) 0 < 0)
theorem EL (nd:L1):yp nd 4=Us (nd.getD 4 0) (nd.getD 5 0) (nd.getD 6 0) (nd.getD 7 0):=by
 unfold Us;simp only [yp,Nat.reduceAdd];rw [Bool.eq_iff_iff];simp only [Bool.and_eq_true,decide_eq_true_eq,true_and];constructor
 ·rintro ⟨⟨⟨h1,h2⟩,h3⟩,h4⟩; exact ⟨h1,h2,h3,h4⟩
 ·rintro ⟨h1,h2,h3,h4⟩; exact ⟨⟨⟨h1,h2⟩,h3⟩,h4⟩
theorem Mq (a b c d:Int) {q:Nat} (hq:q < 4) (nd:L1) (h:a=nd.getD 4 0/\b=nd.getD 5 0/\c=nd.getD 6 0/\d=nd.getD 7 0):cW [a,b,c,d] (q:Int)=nd.getD (4+q) 0:=by
 obtain ⟨rfl,rfl,rfl,rfl⟩:=h;match q,hq with
 | 0,_=>rfl
 | 1,_=>rfl
 | 2,_=>rfl
 | 3,_=>rfl
theorem XK (i n:Int) (pl:Bool) (z:L1) (w h px py:Int) (nd cl:L1) (xs ts rs us es ks ns cs ls:L2):XL (Ys i n pl true (yo z w h px py nd cl xs ts rs us es ks ns cs ls) 0) = ⟨T 191 (Zi i n pl (Us (nd.getD 4 0) (nd.getD 5 0) (nd.getD 6 0) (nd.getD 7 0)) false),yo z w h px py nd cl xs ts rs us es ks ns cs ls⟩:=by kernel_rfl
theorem XI (i n:Int) (pl lf:Bool) (z:L1) (w h px py:Int) (nd cl:L1) (xs ts rs us es ks ns cs ls:L2):XJ (VS i n pl lf false (yo z w h px py nd cl xs ts rs us es ks ns cs ls) (nd.getD 2 0)) = ⟨T 191 (Zi i n pl lf (ll (afS nd ks) i)),yo z w h px py nd cl xs ts rs us es ks ns cs ls⟩:=by kernel_rfl
theorem lK1 (m d n0:Nat):aG (ai TP (VA m) d) ar n0 0 (lp TP ar 0) LK1:=by
 intro st K hst;obtain ⟨⟨i,n,pl,z,w,h,px,py,nd,cl,xs,ts,rs,us,es,ks,ns,cs,ls,rfl,rfl⟩,hK⟩:=hst;rw [XK] at hK;refine aC (fun p:Nat × Bool=>Ys i n pl p.2 (yo z w h px py nd cl xs ts rs us es ks ns cs ls) p.1) (fun p=>p.1<=4/\p.2=yp nd p.1) (fun p=>4 - p.1) ?_ (a:=(0,true)) ⟨by omega,rfl⟩
 rintro ⟨q,lf⟩ ⟨hq,hlf⟩ k hn hk;simp only at hq hlf;show round (ai TP { Γ:=vG m,Λ:=_,Τ:=fun _=>none } d) _ _ _ _ (Ys i n pl lf (yo z w h px py nd cl xs ts rs us es ks ns cs ls) q) k
 rw [rK1]; delta Maa Mab Mac Mad Mae Maf Mag Mah Mai Maj Mak Mal Mam Man Mao Map Mau Mav Maw Max Maz MaA MaD MaG MaJ MaM MaN MaP MaQ MaR MaS MaV MaY Ma1 Ma3 Ma4 Ma7 Mbc Mbd Mbf Mbl Mbp Mbv MbD MbH MbI MbK MbX MbY MbZ Mb0 Mb1 Mb2 Mb3 Mb4 Mb9 Mca Mcb Mcd Mce Mcf Mcg Mci Mcj Mck Mct Mcz McE McI McJ McR Mdl MdE MdL MdN Mem Men Meo Mep Mew MeC MeI MeU MeV MeY Me8 Mfi Mfo MfD MfJ MfZ MgJ Mip MiW Mjg MjA MjW;rintro t1 rfl t2 rfl t3 rfl t4 rfl t5 e5;rw [al];refine ⟨fun hi=>?_,fun hi=>?_⟩
 ·have hi':q < 4:=by omega
  rw [Mq _ _ _ _ hi' nd ⟨rfl,rfl,rfl,rfl⟩] at e5;rw [show IntKind.i64.wrap ((q:Int)+1)=((q+1:Nat):Int) by rw [i64_in _ (by omega)]; rfl]
  rw [aL];refine ⟨fun h1=>⟨⟨by omega,by omega⟩,⟨by omega,by omega⟩,?_⟩,fun h1=>?_⟩
  ·exact hn (q+1,decide (t5 < 0)) ⟨hi',by show _=(yp nd q && decide (nd.getD (4+q) 0 < 0)); rw [← hlf,h1,Bool.true_and,e5]⟩ (by show 4 - (q+1) < 4 - q; omega)
  ·exact hn (q+1,false) ⟨hi',by show _=(yp nd q && decide (nd.getD (4+q) 0 < 0)); rw [← hlf,h1,Bool.false_and]⟩ (by show 4 - (q+1) < 4 - q; omega)
 ·have:q=4:=by omega
  subst this;rw [EL] at hlf;subst hlf;exact hk _ _ (by simp) hK
theorem Pm {ks:L2} {A B:Int} {a:Nat} (h:0<=A) (ha:a < (List.drop A.toNat (List.take B.toNat ks)).length):(List.drop A.toNat (List.take B.toNat ks)).getD a []=ks.getD (A+a).toNat []/\(A+a).toNat < ks.length:=by
 rw [List.length_drop,List.length_take] at ha;rw [List.getD_eq_getElem?_getD,List.getD_eq_getElem?_getD,List.getElem?_drop,List.getElem?_take,if_pos (by omega),show (A+(a:Int)).toNat=A.toNat+a by omega]
 exact ⟨rfl,by omega⟩
theorem zR {nd:L1} {ks:L2} {a:Nat} (h:0<=nd.getD 2 0) (ha:a < (afS nd ks).length):rd ks (nd.getD 2 0+a).toNat 1=(afS nd ks)[a].getD 1 0/\(nd.getD 2 0+a).toNat < ks.length:=by
 obtain ⟨h1,h2⟩:=Pm h ha;have h3:(afS nd ks).getD a []=ks.getD (nd.getD 2 0+(a:Int)).toNat []:=h1;rw [acY ha] at h3;refine ⟨?_,h2⟩;rw [h3]; rfl
theorem Gk {nd:L1} {ks:L2} (h:0<=nd.getD 2 0/\nd.getD 2 0<=nd.getD 3 0/\nd.getD 3 0<=ks.length):((afS nd ks).length:Int)=nd.getD 3 0 - nd.getD 2 0:=by
 unfold afS;rw [List.length_drop,List.length_take];omega
theorem MP {ys:L2} {a:Nat} (ha:a < ys.length) (i:Int):ll (ys.take (a+1)) i=(ll (ys.take a) i || decide (ys[a].getD 1 0=i)):=by
 unfold ll;rw [List.take_add_one,List.getElem?_eq_getElem ha,Option.toList_some,List.any_append];simp
theorem lK2 (m d n0:Nat):aG (ai TP (VA m) d) ar n0 1 (lp TP ar 1) LK2:=by
 intro st K hst;obtain ⟨⟨i,n,pl,lf,z,w,h,px,py,nd,cl,xs,ts,rs,us,es,ks,ns,cs,ls,hb,hk1,rfl,rfl⟩,hK⟩:=hst;rw [XI] at hK;have hlen:=Gk hb;have e0:VS i n pl lf false (yo z w h px py nd cl xs ts rs us es ks ns cs ls) (nd.getD 2 0)=VS i n pl lf (ll ((afS nd ks).take 0) i) (yo z w h px py nd cl xs ts rs us es ks ns cs ls) (nd.getD 2 0+((0:Nat):Int)):=by
  rw [show nd.getD 2 0+((0:Nat):Int)=nd.getD 2 0 by omega]; rfl
 rw [e0];refine aC (fun a:Nat=>VS i n pl lf (ll ((afS nd ks).take a) i) (yo z w h px py nd cl xs ts rs us es ks ns cs ls) (nd.getD 2 0+a)) (fun a=>a<=(afS nd ks).length) (fun a=>(afS nd ks).length - a) ?_ (a:=0) (Nat.zero_le _)
 rintro a ha k hn hk;show round (ai TP { Γ:=vG m,Λ:=_,Τ:=fun _=>none } d) _ _ _ _ _ k
 rw [rK2]; delta Maa Mab Mac Mad Mae Maf Mag Mah Mai Maj Mak Mal Mam Man Mao Map Mar Mat Mau Mav Max Maz MaA MaD MaG MaM MaN MaP MaQ MaR MaS MaV MaY Ma1 Ma3 Ma4 Ma5 Mbc Mbd Mbf Mbk Mbl Mbo Mbp Mbv MbD MbH MbX MbY MbZ Mb0 Mb1 Mb2 Mb3 Mb4 Mb9 Mca Mcb Mcd Mce Mcf Mcg Mci Mcj Mck Mct Mcz McE McI McJ McR Mdl MdE MdL MdN Mee Meg Mem Mew MeI MeU MeY Me8 Mfo MfD MfJ MfZ MgJ Mip MiJ MiW Mjg Mjj MjW;rintro t1 rfl t2 e2;rw [al];refine ⟨fun hi=>?_,fun hi=>?_⟩
 ·have hi':a < (afS nd ks).length:=by omega
  obtain ⟨g1,g2⟩:=zR hb.1 hi';have p2:t2:=by rw [e2]; omega
  rw [show IntKind.i64.wrap (nd.getD 2 0+(a:Int)+1)=nd.getD 2 0+((a+1:Nat):Int) by rw [i64_in _ (by omega)]; omega]
  have hgo:=hn (a+1) hi' (by omega)
  rw [MP hi'] at hgo;rw [aL];refine ⟨fun h1=>?_,fun h1=>⟨p2,p2,?_⟩⟩
  ·rw [h1,Bool.true_or] at hgo;exact hgo
  ·rw [h1,Bool.false_or,← g1] at hgo;exact hgo
 ·have:a=(afS nd ks).length:=by omega
  subst this;rw [List.take_length];exact hk _ _ (by simp) hK
theorem xW {pl:Bool} {z:L1} {h:Int} {r:L1} {xs cs:L2} {t:Int} (ht:0<=t) (s:L2 × Int × Int):il pl z h r xs cs (-1 - t) s =
  ((sI (uW pl z h r (fr (xs.getD t.toNat []) 0) (fr (xs.getD t.toNat []) 4) (fr (xs.getD t.toNat []) 6) s.2.1 s.2.2) s.1 (-1 - t),xI pl z h r (fr (xs.getD t.toNat []) 0) (fr (xs.getD t.toNat []) 4) (fr (xs.getD t.toNat []) 6) s.2.1 s.2.2,xH pl z h r (fr (xs.getD t.toNat []) 0) (fr (xs.getD t.toNat []) 4) (fr (xs.getD t.toNat []) 6) s.2.1 s.2.2),uW pl z h r (fr (xs.getD t.toNat []) 0) (fr (xs.getD t.toNat []) 4) (fr (xs.getD t.toNat []) 6) s.2.1 s.2.2):=by
 unfold il;rw [if_neg (by omega),show (-1 - (-1 - t)).toNat=t.toNat by omega]
theorem JM {pl:Bool} {z:L1} {h:Int} {r:L1} {xs cs:L2} (n:Nat) (s:L2 × Int × Int):il pl z h r xs cs n s =
  ((sI (uW pl z h r (fr (cs.getD n []) 0) (fr (cs.getD n []) 2) (fr (cs.getD n []) 4) s.2.1 s.2.2) s.1 n,xI pl z h r (fr (cs.getD n []) 0) (fr (cs.getD n []) 2) (fr (cs.getD n []) 4) s.2.1 s.2.2,xH pl z h r (fr (cs.getD n []) 0) (fr (cs.getD n []) 2) (fr (cs.getD n []) 4) s.2.1 s.2.2),uW pl z h r (fr (cs.getD n []) 0) (fr (cs.getD n []) 2) (fr (cs.getD n []) 4) s.2.1 s.2.2):=by
 unfold il;rw [if_pos (by omega),show ((n:Nat):Int).toNat=n by omega]
theorem Ae {pl:Bool} {z:L1} {h:Int} {r:L1} {m ax ay px py:Int} (hx:ag px):ag (xI pl z h r m ax ay px py):=by
 unfold xI;split
 ·exact bg
 ·split
  ·exact GO hx
  ·exact hx
theorem Ac {pl:Bool} {z:L1} {h:Int} {r:L1} {m ax ay px py:Int} (hy:ag py):ag (xH pl z h r m ax ay px py):=by
 unfold xH;split
 ·exact bg
 ·split
  ·exact GN hy
  ·exact hy
def S3o (i n:Int) (pl hs:Bool) (z:L1) (w h px py:Int) (nd cl:L1) (xs ts rs us es ks ns cs ls:L2):Option (L2 × Int × Int) × Nat->St
 | (none,a)=>Rk i n pl hs (yo z w h px py nd cl xs ts rs us es ks ns cs ls) (nd.getD 2 0+a)
 | (some (L,x,y),a)=>Rk i n pl hs (Zj z w h x y 0 nd cl xs ts rs us es ks ns cs ls L) (nd.getD 2 0+a)
def I3o (f:L1->L2 × Int × Int->(L2 × Int × Int) × Int) (ys ls:L2) (px py:Int) (R:(L2 × Int × Int) × Int):Option (L2 × Int × Int) × Nat->Prop
 | (none,a)=>a<=ys.length/\dF f (ys.drop a) (ls,px,py)=R
 | (some (L,x,y),a)=>a<=ys.length/\L.length<=ls.length+a/\ag x/\ag y/\dF f (ys.drop a) (L,x,y)=R
set_option maxHeartbeats 1000000 in
theorem lK3 (m d n0:Nat):aG (ai TP (VA m) d) ar n0 2 (lp TP ar 2) LK3:=by
 intro st K hst;obtain ⟨i,n,pl,hs,z,w,h,px,py,nd,cl,xs,ts,rs,us,es,ks,ns,cs,ls,⟨⟨hw,hh,⟨hpx0,hpy0⟩,hib,hid,hks,hb,hls,hxl⟩,rfl,rfl⟩,R,hR0,hK⟩:=hst;rw [ah] at hK;have hlen:=Gk hb;have hle0:=Gj nd ks;have okr:aI aM xs:=fun r hr=>(hw.2.1 r hr).2.1
 have hzl:([z.getD 0 0,z.getD 1 0,z.getD 2 0,z.getD 3 0,z.getD 4 0,z.getD 5 0,z.getD 6 0,z.getD 7 0,z.getD 8 0,z.getD 9 0,z.getD 10 0,z.getD 11 0,z.getD 12 0,z.getD 13 0,z.getD 14 0,z.getD 15 0,z.getD 16 0,z.getD 17 0,z.getD 18 0]:L1)=z:=lZ hw.1.1.1.1;have e0:Rk i n pl hs (yo z w h px py nd cl xs ts rs us es ks ns cs ls) (nd.getD 2 0)=S3o i n pl hs z w h px py nd cl xs ts rs us es ks ns cs ls (none,0):=by
  show _=Rk i n pl hs (yo z w h px py nd cl xs ts rs us es ks ns cs ls) (nd.getD 2 0+((0:Nat):Int));rw [show nd.getD 2 0+((0:Nat):Int)=nd.getD 2 0 by omega]
 rw [e0];refine aC (S3o i n pl hs z w h px py nd cl xs ts rs us es ks ns cs ls) (I3o (dw (il pl z h (xs.getD i.toNat []) xs cs) i) (afS nd ks) ls px py R) (fun p=>(afS nd ks).length - p.2) ?_ (a:=(none,0)) ⟨Nat.zero_le _,hR0.symm⟩
 rintro ⟨_ | ⟨L,x,y⟩,a⟩ hI k hn hk
 ·obtain ⟨ha,hR⟩:=hI;have hpx:=hpx0;have hpy:=hpy0;show round (ai TP { Γ:=vG m,Λ:=_,Τ:=fun _=>none } d) _ _ _ _ (Rk i n pl hs (yo z w h px py nd cl xs ts rs us es ks ns cs ls) (nd.getD 2 0+a)) k
  rw [aad]; delta Maa Mab Mac Mad Mae Maf Mag Mah Mai Maj Mak Mal Mam Man Mao Map Maq Mar Mat Mau Mav Maw Max Maz MaA MaB MaC MaD MaE MaG MaM MaN MaP MaQ MaR MaS MaV MaW MaX MaY Ma1 Ma2 Ma3 Ma4 Mbb Mbc Mbd Mbf Mbk Mbl Mbo Mbp Mbv MbD MbE MbH MbM MbN Mb8 Mb9 Mca Mcb Mcd Mce Mcf Mcg Mcj Mck Mcl Mct Mcv Mcy Mcz McL McR Mc3 Mc6 Mda Mdl Mdn MdC MdE MdN MdO MdP MdQ MdR MdS MdT MdU MdV Meg Mek Mel Mem Men Meo Mep Mew MeC MeH MeI MeO MeP MeR MeS MeU MeW MeY Me0 Me8 Mfc Mfi MfD MfF MfL MfM MfZ Mgh Mgi MgB MhV Mh3 Mip Miy MiI MiJ MiK Mjj Mjl MjW;rintro j1 rfl j2 rfl j3 rfl t4 e4 t5 rfl t6 rfl t7 rfl t8 rfl t9 rfl t10 rfl t11 rfl t12 rfl t13 rfl t14 rfl t15 rfl t16 rfl t17 rfl t18 rfl t19 rfl t20 rfl t21 rfl t22 rfl t23 rfl t24 rfl t25 e25 t26 e26 t27 e27 t28 e28 t29 e29 t30 e30 t31 e31 t32 e32 t33 e33 t34 e34 t35 e35 t36 e36 t37 e37 t38 e38 t39 e39;rw [hzl] at e37 e38 e39;rw [al];refine ⟨fun hi=>?_,fun hi=>?_⟩
  ·have hi':a < (afS nd ks).length:=by omega
   obtain ⟨g1,g2⟩:=zR hb.1 hi';have T4:t4=(afS nd ks)[a].getD 1 0:=by rw [e4,g1]
   have hid4:=hid _ (zQ (List.getElem_mem hi'));rw [← T4] at hid4;have htl:t4.toNat < xs.length:=by omega
   have p31:t31:=by rw [e31]; omega
   have p33:t33:=by rw [e33]; exact hid4
   have E32:t32 = -1 - t4:=by rw [e32,i64_in _ (by omega)]
   have M0:t34=fr (xs.getD t4.toNat []) 0:=by rw [e34,e25,e26]; rfl
   have M4:t35=fr (xs.getD t4.toNat []) 4:=by rw [e35,e27,e28]; rfl
   have M6:t36=fr (xs.getD t4.toNat []) 6:=by rw [e36,e29,e30]; rfl
   rw [M0,M4,M6] at e37 e38 e39;obtain ⟨_,_,m0,m4,m6,_,_⟩:=hw.2.1 _ (getM htl);rw [wi _ hi'] at hR;rw [show IntKind.i64.wrap (nd.getD 2 0+(a:Int)+1)=nd.getD 2 0+((a+1:Nat):Int) by rw [i64_in _ (by omega)]; omega]
   refine ⟨p31,p31,?_⟩;rw [ah];refine ⟨fun hne=>⟨p33,p33,p33,p33,?_,?_⟩,fun he=>?_⟩
   ·refine ⟨z,xs,ts,rs,us,es,ls,i,t32,fr (xs.getD t4.toNat []) 0,fr (xs.getD t4.toNat []) 4,fr (xs.getD t4.toNat []) 6,j2,j3,j1,pl,?_,rfl,hw.1.1,hw.2.1,hib,m0,⟨m4,m6⟩,⟨hpx,hpy⟩,hh,by omega⟩
    rw [e25,e26,e27,e28,e29,e30,show IV.agg [.int .i64 (rd xs t4.toNat 0),.int .u64 (rd xs t4.toNat 1)]=fx (fr (xs.getD t4.toNat []) 0) from (ae6 (cH okr t4.toNat 1 (by decide) rfl) rfl).symm,nv (cH okr t4.toNat 5 (by decide) rfl) (cH okr t4.toNat 7 (by decide) rfl)]
    rfl
   ·have hf:dw (il pl z j1 (xs.getD i.toNat []) xs cs) i (afS nd ks)[a] (ls,j2,j3)=((sI t37 ls t32,t38,t39),t37):=by
     unfold dw;rw [if_neg (by rw [← T4]; exact hne),← T4,xW hid4.1,E32]
     simp only [e37,e38,e39]
    rw [hf] at hR;rw [ah];refine ⟨fun h7=>?_,fun h7=>?_⟩
    ·rw [if_pos h7] at hR;subst hR;exact hk _ _ (by simp) (hK.1 h7)
    ·rw [if_neg (by simpa using h7)] at hR
     have hmx:ag t38:=by rw [e38]; exact Ae hpx
     have hmy:ag t39:=by rw [e39]; exact Ac hpy
     have hlen2:(sI t37 ls t32).length<=ls.length+(a+1):=by
      unfold sI; rw [if_neg (by simpa using h7),List.length_append,List.length_singleton]; omega
     have hgo:=hn (some (sI t37 ls t32,t38,t39),a+1) ⟨hi',hlen2,hmx,hmy,hR⟩ (by show (afS nd ks).length - (a+1) < (afS nd ks).length - a; omega)
     rw [h7] at hgo ⊢;exact hgo
   ·have hf:dw (il pl z j1 (xs.getD i.toNat []) xs cs) i (afS nd ks)[a] (ls,j2,j3)=((ls,j2,j3),0):=by
     unfold dw;rw [if_pos (by rw [← T4]; exact he)]
    rw [hf,if_neg (fun hh=>hh rfl)] at hR
    exact hn (none,a+1) ⟨hi',hR⟩ (by show (afS nd ks).length - (a+1) < (afS nd ks).length - a; omega)
  ·have:a=(afS nd ks).length:=by omega
   subst this;rw [List.drop_length] at hR;exact hk _ _ (by simp) ((hK.2 (by rw [← hR]; rfl)).1 hR.symm)
 ·obtain ⟨ha,hL,hpx,hpy,hR⟩:=hI;show round (ai TP { Γ:=vG m,Λ:=_,Τ:=fun _=>none } d) _ _ _ _ (Rk i n pl hs (Zj z w h x y 0 nd cl xs ts rs us es ks ns cs ls L) (nd.getD 2 0+a)) k
  rw [aac]; delta Maa Mab Mac Mad Mae Maf Mag Mah Mai Maj Mak Mal Mam Man Mao Map Maq Mar Mat Mau Mav Maw Max Maz MaA MaB MaC MaD MaE MaG MaM MaN MaP MaQ MaR MaS MaV MaW MaX MaY Ma1 Ma2 Ma3 Ma4 Mbb Mbc Mbd Mbf Mbk Mbl Mbo Mbp Mbv MbD MbE MbM MbN Mb8 Mb9 Mca Mcb Mcd Mce Mcf Mcg Mcj Mck Mcl Mct Mcv Mcy McL McR Mc3 Mc6 Mda Mdn MdC MdE MdN MdO MdP MdQ MdR MdS MdT MdU MdV Meg Mek Mel Mem Men Meo Mep Mew MeC MeE MeH MeI MeO MeP MeR MeS MeW MeY Me0 Me8 Mfc Mfi MfF MfL MfM Mgh Mgi MgB MhV Mh3 Mip Miy MiI MiJ MiK Mjj Mjl;rintro j1 rfl j2 rfl j3 rfl t4 e4 t5 rfl t6 rfl t7 rfl t8 rfl t9 rfl t10 rfl t11 rfl t12 rfl t13 rfl t14 rfl t15 rfl t16 rfl t17 rfl t18 rfl t19 rfl t20 rfl t21 rfl t22 rfl t23 rfl t24 rfl t25 e25 t26 e26 t27 e27 t28 e28 t29 e29 t30 e30 t31 e31 t32 e32 t33 e33 t34 e34 t35 e35 t36 e36 t37 e37 t38 e38 t39 e39;rw [hzl] at e37 e38 e39;rw [al];refine ⟨fun hi=>?_,fun hi=>?_⟩
  ·have hi':a < (afS nd ks).length:=by omega
   obtain ⟨g1,g2⟩:=zR hb.1 hi';have T4:t4=(afS nd ks)[a].getD 1 0:=by rw [e4,g1]
   have hid4:=hid _ (zQ (List.getElem_mem hi'));rw [← T4] at hid4;have htl:t4.toNat < xs.length:=by omega
   have p31:t31:=by rw [e31]; omega
   have p33:t33:=by rw [e33]; exact hid4
   have E32:t32 = -1 - t4:=by rw [e32,i64_in _ (by omega)]
   have M0:t34=fr (xs.getD t4.toNat []) 0:=by rw [e34,e25,e26]; rfl
   have M4:t35=fr (xs.getD t4.toNat []) 4:=by rw [e35,e27,e28]; rfl
   have M6:t36=fr (xs.getD t4.toNat []) 6:=by rw [e36,e29,e30]; rfl
   rw [M0,M4,M6] at e37 e38 e39;obtain ⟨_,_,m0,m4,m6,_,_⟩:=hw.2.1 _ (getM htl);rw [wi _ hi'] at hR;rw [show IntKind.i64.wrap (nd.getD 2 0+(a:Int)+1)=nd.getD 2 0+((a+1:Nat):Int) by rw [i64_in _ (by omega)]; omega]
   refine ⟨p31,p31,?_⟩;rw [ah];refine ⟨fun hne=>⟨p33,p33,p33,p33,?_,?_⟩,fun he=>?_⟩
   ·refine ⟨z,xs,ts,rs,us,es,L,i,t32,fr (xs.getD t4.toNat []) 0,fr (xs.getD t4.toNat []) 4,fr (xs.getD t4.toNat []) 6,j2,j3,j1,pl,?_,rfl,hw.1.1,hw.2.1,hib,m0,⟨m4,m6⟩,⟨hpx,hpy⟩,hh,by omega⟩
    rw [e25,e26,e27,e28,e29,e30,show IV.agg [.int .i64 (rd xs t4.toNat 0),.int .u64 (rd xs t4.toNat 1)]=fx (fr (xs.getD t4.toNat []) 0) from (ae6 (cH okr t4.toNat 1 (by decide) rfl) rfl).symm,nv (cH okr t4.toNat 5 (by decide) rfl) (cH okr t4.toNat 7 (by decide) rfl)]
    rfl
   ·have hf:dw (il pl z j1 (xs.getD i.toNat []) xs cs) i (afS nd ks)[a] (L,j2,j3)=((sI t37 L t32,t38,t39),t37):=by
     unfold dw;rw [if_neg (by rw [← T4]; exact hne),← T4,xW hid4.1,E32]
     simp only [e37,e38,e39]
    rw [hf] at hR;rw [ah];refine ⟨fun h7=>?_,fun h7=>?_⟩
    ·rw [if_pos h7] at hR;subst hR;exact hk _ _ (by simp) (hK.1 h7)
    ·rw [if_neg (by simpa using h7)] at hR
     have hmx:ag t38:=by rw [e38]; exact Ae hpx
     have hmy:ag t39:=by rw [e39]; exact Ac hpy
     have hlen2:(sI t37 L t32).length<=ls.length+(a+1):=by
      unfold sI; rw [if_neg (by simpa using h7),List.length_append,List.length_singleton]; omega
     have hgo:=hn (some (sI t37 L t32,t38,t39),a+1) ⟨hi',hlen2,hmx,hmy,hR⟩ (by show (afS nd ks).length - (a+1) < (afS nd ks).length - a; omega)
     rw [h7] at hgo ⊢;exact hgo
   ·have hf:dw (il pl z j1 (xs.getD i.toNat []) xs cs) i (afS nd ks)[a] (L,j2,j3)=((L,j2,j3),0):=by
     unfold dw;rw [if_pos (by rw [← T4]; exact he)]
    rw [hf,if_neg (fun hh=>hh rfl)] at hR
    exact hn (some (L,j2,j3),a+1) ⟨hi',by omega,hpx,hpy,hR⟩ (by show (afS nd ks).length - (a+1) < (afS nd ks).length - a; omega)
  ·have:a=(afS nd ks).length:=by omega
   subst this;rw [List.drop_length] at hR;subst hR;exact hk _ _ (by simp) (hK.2 rfl).2
theorem PC (e:Int) (ls:L2) (c:Int):(sI e ls c).length<=ls.length+1:=by
 unfold sI; split <;> simp
theorem A7 (pl:Bool) (z:L1) (h:Int) (r:L1) (xs cs:L2) (c:Int) (s:L2 × Int × Int):(il pl z h r xs cs c s).1.1.length<=s.1.length+1:=by
 unfold il; split <;> exact PC _ _ _
theorem JL {pl:Bool} {z:L1} {h:Int} {r:L1} {xs cs:L2} (c:Int) (s:L2 × Int × Int) (hs:ag s.2.1/\ag s.2.2):ag (il pl z h r xs cs c s).1.2.1/\ag (il pl z h r xs cs c s).1.2.2:=by
 unfold il; split <;> exact ⟨Ae hs.1,Ac hs.2⟩
theorem agL {α:Type} {f:α->L2 × Int × Int->(L2 × Int × Int) × Int} {g:α->Nat}:∀ (l:List α) (s:L2 × Int × Int),(∀ a∈l,∀ s,(f a s).1.1.length<=s.1.length+g a)->(dF f l s).1.1.length<=s.1.length+(l.map g).sum
 | [],s,h=>by simp [dF]
 | a :: l,s,h=>by
  rw [jr];have h1:=h a (List.mem_cons_self ..) s;simp only [List.map_cons,List.sum_cons];split
  ·omega
  ·have:=agL l (f a s).1 fun b hb=>h b (List.mem_cons_of_mem _ hb)
   omega
theorem FK (ns:L2):∀ l,(l.map (wt ns)).sum=sK ns l
 | []=>rfl
 | n :: l=>by simp only [List.map_cons,List.sum_cons,sK,FK ns l]
theorem B6 {α:Type}:∀ l:List α,(l.map fun _=>1).sum=l.length
 | []=>rfl
 | a :: l=>by simp only [List.map_cons,List.sum_cons,B6 l,List.length_cons]; omega
theorem ym {pl:Bool} {z:L1} {h:Int} {r:L1} {xs cs ns ks:L2} {fe:Nat->Int} {fb:Nat->Bool} {i:Int} (htr:gr ns ks.length):∀ (m n:Nat) (s:L2 × Int × Int),n < ns.length->(jH (il pl z h r xs cs) ns ks fe fb i m n s).1.1.length<=s.1.length+wt ns n
 | 0,n,s,hn=>by simp only [jH]; omega
 | m+1,n,s,hn=>by
  simp only [jH];split
  ·have:=agL (f:=dw (il pl z h r xs cs) i) (g:=fun _=>1) (dX ns ks n) s (fun a _ s=>by unfold dw; split; simp; exact A7 _ _ _ _ _ _ _ _)
   rw [B6,Pn htr hn] at this;exact this
  ·rename_i hlf;have hlf':ot ns n=false:=by simpa using hlf
   split
   ·simp only; omega
   ·split
    ·have h1:=A7 pl z h r xs cs n s;have h2:=(nN htr hn).1;omega
    ·have:=agL (f:=jH (il pl z h r xs cs) ns ks fe fb i m) (g:=wt ns) (gm ns n) s (fun a ha s=>ym htr m a s (vq htr hn a ha).1)
     rw [FK,r9 htr hn hlf'] at this;exact this
theorem Lu {pl:Bool} {z:L1} {h:Int} {xs ks ns cs:L2} {i:Int} {n:Nat} (htr:gr ns ks.length) (hn:n < ns.length) (s:L2 × Int × Int):(uY pl z h xs ks ns cs i n s).1.1.length<=s.1.length+wt ns n:=ym htr _ _ _ hn
theorem Lt {pl:Bool} {z:L1} {h:Int} {xs ks ns cs:L2} {i:Int} {n:Nat} {s:L2 × Int × Int} (hx:ag s.2.1) (hy:ag s.2.2):ag (uY pl z h xs ks ns cs i n s).1.2.1/\ag (uY pl z h xs ks ns cs i n s).1.2.2:=
 tc (P:=fun s:L2 × Int × Int=>ag s.2.1/\ag s.2.2) (vis:=il pl z h (xs.getD i.toNat []) xs cs) (fun c s hs=>JL c s hs) _ _ _ _ _ _ _ _ ⟨hx,hy⟩
def qp (ns:L2) (n:Nat):Nat->Nat->List Nat
 | 0,_=>[]
 | m+1,q=>lN ns n q++qp ns n m (q+1)
theorem Cv (ns:L2) (n:Nat):qp ns n 4 0=gm ns n:=by
 unfold gm;simp only [qp,List.append_nil,Nat.zero_add,Nat.reduceAdd]
def S4o (i:Int) (pl:Bool) (z:L1) (w h px py:Int) (nd:L1) (xs ts rs us es ks ns cs ls:L2):Option (L2 × Int × Int × Int) × Nat->St
 | (none,q)=>Vx i pl (Zk z w h px py nd xs ts rs us es ks ns cs ls) q
 | (some (L,x,y,e),q)=>Vx i pl (cr z w h x y e nd xs ts rs us es ks ns cs ls L) q
def I4o (ns:L2) (n:Nat) (f:Nat->L2 × Int × Int->(L2 × Int × Int) × Int) (ls:L2) (px py:Int) (R:(L2 × Int × Int) × Int):Option (L2 × Int × Int × Int) × Nat->Prop
 | (none,q)=>q<=4/\ls.length+sK ns (qp ns n (4 - q) q)<=2000/\dF f (qp ns n (4 - q) q) (ls,px,py)=R
 | (some (L,x,y,e),q)=>q<=4/\(e=0->ag x/\ag y/\L.length+sK ns (qp ns n (4 - q) q)<=2000/\dF f (qp ns n (4 - q) q) (L,x,y)=R)/\(e≠0->R.2=e/\L=[]/\x=0/\y=0)
set_option maxHeartbeats 1000000 in
theorem lK4 (m d n0:Nat):aG (ai TP (VA m) d) ar n0 3 (lp TP ar 3) (LK4 m):=by
 intro st K hst;obtain ⟨i,n,pl,z,w,h,px,py,nd,xs,ts,rs,us,es,ks,ns,cs,ls,⟨hw,hh,⟨hpx0,hpy0⟩,hib,hnl,hnd,hlf,hlv,hwt,hxl,rfl,rfl⟩,R,hR0,hK1,hK2⟩:=hst;have htr:=hw.2.1;have hzl:([z.getD 0 0,z.getD 1 0,z.getD 2 0,z.getD 3 0,z.getD 4 0,z.getD 5 0,z.getD 6 0,z.getD 7 0,z.getD 8 0,z.getD 9 0,z.getD 10 0,z.getD 11 0,z.getD 12 0,z.getD 13 0,z.getD 14 0,z.getD 15 0,z.getD 16 0,z.getD 17 0,z.getD 18 0]:L1)=z:=lZ hw.1.1.1.1.1;have hkw:=r9 htr hnl hlf;refine aC (S4o i pl z w h px py nd xs ts rs us es ks ns cs ls) (I4o ns n (uY pl z h xs ks ns cs i) ls px py R) (fun p=>4 - p.2) ?_ (a:=(none,0)) ⟨Nat.zero_le _,by rw [show 4 - 0=4 from rfl,Cv,hkw]; exact hwt,by rw [show 4 - 0=4 from rfl,Cv]; exact hR0.symm⟩
 rintro ⟨_ | ⟨L,x,y,e⟩,q⟩ hI k hn hk
 ·obtain ⟨hq,hws,hR⟩:=hI;have hpx:=hpx0;have hpy:=hpy0;show round (ai TP { Γ:=vG m,Λ:=_,Τ:=fun _=>none } d) _ _ _ _ (Vx i pl (Zk z w h px py nd xs ts rs us es ks ns cs ls) q) k
  rw [aab]; delta Maa Mab Mac Mad Mae Maf Mag Mah Mai Maj Mak Mal Mam Man Mao Map Mau Mav Maw Max Maz MaA MaB MaC MaD MaG MaM MaN MaP MaQ MaR MaS MaV MaY Ma1 Ma3 Ma4 Ma7 Mbc Mbd Mbf Mbl Mbo Mbp Mbs Mbv Mbx MbD MbE MbH MbJ MbK MbU MbV Mb8 Mb9 Mca Mcb Mcc Mcd Mcj Mct Mcv Mcx Mcz McJ McR Mc6 Mdl MdC MdL MdN MdO MdP MdQ MdR MdS MdT MdU MdV Meg Men Meo Mep Mew MeC MeE MeH MeI MeO MeP MeR MeS Me1 Me8 Mfc Mfi MfF MfZ MgB MgK Mhr MhV Mh3 Miy MiK MiL Mjs MjA;rintro j1 rfl j2 rfl j3 rfl t4 rfl t5 rfl t6 rfl t7 rfl t8 rfl t9 rfl t10 rfl t11 rfl t12 rfl t13 rfl t14 rfl t15 rfl t16 rfl t17 rfl t18 rfl t19 rfl t20 rfl t21 rfl t22 rfl t23 rfl t24 rfl t25 rfl t26 rfl t27 e27 t28 e28 t29 e29 t30 e30 t31 e31;rw [hzl] at e30 e31 ⊢;rw [al];refine ⟨fun hi=>?_,fun hi=>?_⟩
  ·have hi':q < 4:=by omega
   have p27:t27:=by rw [e27]; omega
   have p28:t28:=by rw [e28]; omega
   rw [Mq _ _ _ _ hi' nd ⟨rfl,rfl,rfl,rfl⟩,hnd] at e29;change t29=rd ns n (4+q) at e29;rw [show IntKind.i64.wrap ((q:Int)+1)=((q+1:Nat):Int) by rw [i64_in _ (by omega)]; rfl]
   refine ⟨p27,p28,?_⟩;rw [al];refine ⟨fun hk0=>⟨p27,p28,?_⟩,fun hk0=>?_⟩
   ·skip
    have hk1:t29.toNat=(rd ns n (4+q)).toNat:=by rw [e29]
    have hkq:qp ns n (4 - q) q=t29.toNat :: qp ns n (4 - (q+1)) (q+1):=by
     rw [show 4 - q=(4 - (q+1))+1 by omega]
     show lN ns n q++_=_;unfold lN;rw [if_pos (by rw [← e29]; exact hk0),hk1]
     rfl
    have hkid:t29.toNat < ns.length/\lv ns t29.toNat=lv ns n+1:=pD htr hnl hi' t29.toNat (by unfold lN; rw [if_pos (by rw [← e29]; exact hk0),hk1]; exact List.mem_singleton.2 rfl)
    rw [hkq] at hR hws;simp only [sK] at hws;rw [jr] at hR;have hlq:uY pl z j1 xs ks ns cs i t29.toNat (ls,j2,j3)=uY pl z j1 xs ks ns cs i t29.toNat (ls,j2,j3):=rfl;have hl2:=Lu (pl:=pl) (z:=z) (h:=j1) (xs:=xs) (ks:=ks) (ns:=ns) (cs:=cs) (i:=i) htr hkid.1 (ls,j2,j3);have hm2:=Lt (pl:=pl) (z:=z) (h:=j1) (xs:=xs) (ks:=ks) (ns:=ns) (cs:=cs) (i:=i) (n:=t29.toNat) (s:=(ls,j2,j3)) hpx hpy;simp only at hl2;refine ⟨⟨z,w,xs,ts,rs,us,es,ks,ns,cs,ls,i,t29,j2,j3,j1,pl,rfl,rfl,hw,hib,⟨hk0,by omega⟩,by omega,⟨hpx,hpy⟩,hh,by omega,hxl⟩,?_⟩
    rw [e30,e31];refine hn (some (AU pl z j1 xs ks ns cs i t29.toNat ls j2 j3,xK pl z j1 xs ks ns cs i t29.toNat ls j2 j3,xJ pl z j1 xs ks ns cs i t29.toNat ls j2 j3,xx pl z j1 xs ks ns cs i t29.toNat ls j2 j3),q+1) ⟨hi',?_,?_⟩ (by show 4 - (q+1) < 4 - q; omega)
    ·intro hE;have hE':¬ (uY pl z j1 xs ks ns cs i t29.toNat (ls,j2,j3)).2≠0:=fun hh=>hh hE
     rw [if_neg hE'] at hR;unfold xK xJ AU;rw [if_neg (fun hh=>hh hE),if_neg (fun hh=>hh hE),if_neg (fun hh=>hh hE)]
     exact ⟨hm2.1,hm2.2,by omega,hR⟩
    ·intro hE;have hE':(uY pl z j1 xs ks ns cs i t29.toNat (ls,j2,j3)).2≠0:=hE;rw [if_pos hE'] at hR;unfold xK xJ AU;rw [if_pos hE,if_pos hE,if_pos hE,← hR];exact ⟨rfl,rfl,rfl,rfl⟩
   ·have hkq:qp ns n (4 - q) q=qp ns n (4 - (q+1)) (q+1):=by
     rw [show 4 - q=(4 - (q+1))+1 by omega]
     show lN ns n q++_=_;unfold lN;rw [if_neg (by rw [← e29]; exact hk0)]
     rfl
    rw [hkq] at hR hws;exact hn (none,q+1) ⟨hi',hws,hR⟩ (by show 4 - (q+1) < 4 - q; omega)
  ·have:q=4:=by omega
   subst this;exact hk _ _ (by simp) (hK1 hR.symm)
 ·obtain ⟨hq,h0,h1⟩:=hI;show round (ai TP { Γ:=vG m,Λ:=_,Τ:=fun _=>none } d) _ _ _ _ (Vx i pl (cr z w h x y e nd xs ts rs us es ks ns cs ls L) q) k
  rw [aaa]; delta Maa Mab Mac Mad Mae Maf Mag Mah Mai Maj Mak Mal Mam Man Mao Map Mau Mav Maw Max Maz MaA MaB MaC MaD MaG MaM MaN MaP MaQ MaR MaS MaV MaY Ma1 Ma3 Ma4 Ma7 Mbc Mbd Mbf Mbl Mbo Mbp Mbs Mbv Mbx MbD MbE MbH MbJ MbK MbU MbV Mb9 Mca Mcb Mcc Mcd Mcj Mcm Mct Mcv Mcx McJ McR Mc6 Mdl MdC MdL MdO MdP MdQ MdR MdS MdT MdU MdV Meg Men Meo Mep Mew MeC MeH MeI MeO MeP MeR MeS Me1 Me8 Mfc MfF MfZ MgK Mhr MhV Mh3 MiL Mjs MjA;rintro j1 rfl j2 rfl j3 rfl t4 rfl t5 rfl t6 rfl t7 rfl t8 rfl t9 rfl t10 rfl t11 rfl t12 rfl t13 rfl t14 rfl t15 rfl t16 rfl t17 rfl t18 rfl t19 rfl t20 rfl t21 rfl t22 rfl t23 rfl t24 rfl t25 rfl t26 rfl t27 e27 t28 e28 t29 e29 t30 e30 t31 e31 t32 e32;rw [hzl] at e30 e31 ⊢;have fin:(e=0->((L,j2,j3),(0:Int))=R)->t32:=by
   intro hfin;rw [e32];refine hk _ _ (by simp) ?_
   by_cases he:e=0
   ·have hr:=hfin he;rw [← hr] at hK2;rw [he];exact hK2
   ·obtain ⟨r1,r2,r3,r4⟩:=h1 he;rw [r1] at hK2;unfold JF bq at hK2;rw [if_pos he,if_pos he,if_pos he] at hK2;rw [r2,r3,r4];exact hK2
  rw [al];refine ⟨fun hi=>?_,fun hi=>?_⟩
  ·have hi':q < 4:=by omega
   have p27:t27:=by rw [e27]; omega
   have p28:t28:=by rw [e28]; omega
   rw [Mq _ _ _ _ hi' nd ⟨rfl,rfl,rfl,rfl⟩,hnd] at e29;change t29=rd ns n (4+q) at e29;rw [show IntKind.i64.wrap ((q:Int)+1)=((q+1:Nat):Int) by rw [i64_in _ (by omega)]; rfl]
   rw [dp];refine ⟨fun he=>⟨p27,p28,?_⟩,fun he=>fin fun hh=>absurd hh he⟩
   obtain ⟨hpx,hpy,hws,hR⟩:=h0 he;rw [he];rw [al];refine ⟨fun hk0=>⟨p27,p28,?_⟩,fun hk0=>?_⟩
   ·skip
    have hk1:t29.toNat=(rd ns n (4+q)).toNat:=by rw [e29]
    have hkq:qp ns n (4 - q) q=t29.toNat :: qp ns n (4 - (q+1)) (q+1):=by
     rw [show 4 - q=(4 - (q+1))+1 by omega]
     show lN ns n q++_=_;unfold lN;rw [if_pos (by rw [← e29]; exact hk0),hk1]
     rfl
    have hkid:t29.toNat < ns.length/\lv ns t29.toNat=lv ns n+1:=pD htr hnl hi' t29.toNat (by unfold lN; rw [if_pos (by rw [← e29]; exact hk0),hk1]; exact List.mem_singleton.2 rfl)
    rw [hkq] at hR hws;simp only [sK] at hws;rw [jr] at hR;have hlq:uY pl z j1 xs ks ns cs i t29.toNat (L,j2,j3)=uY pl z j1 xs ks ns cs i t29.toNat (L,j2,j3):=rfl;have hl2:=Lu (pl:=pl) (z:=z) (h:=j1) (xs:=xs) (ks:=ks) (ns:=ns) (cs:=cs) (i:=i) htr hkid.1 (L,j2,j3);have hm2:=Lt (pl:=pl) (z:=z) (h:=j1) (xs:=xs) (ks:=ks) (ns:=ns) (cs:=cs) (i:=i) (n:=t29.toNat) (s:=(L,j2,j3)) hpx hpy;simp only at hl2;refine ⟨⟨z,w,xs,ts,rs,us,es,ks,ns,cs,L,i,t29,j2,j3,j1,pl,rfl,rfl,hw,hib,⟨hk0,by omega⟩,by omega,⟨hpx,hpy⟩,hh,by omega,hxl⟩,?_⟩
    rw [e30,e31];refine hn (some (AU pl z j1 xs ks ns cs i t29.toNat L j2 j3,xK pl z j1 xs ks ns cs i t29.toNat L j2 j3,xJ pl z j1 xs ks ns cs i t29.toNat L j2 j3,xx pl z j1 xs ks ns cs i t29.toNat L j2 j3),q+1) ⟨hi',?_,?_⟩ (by show 4 - (q+1) < 4 - q; omega)
    ·intro hE;have hE':¬ (uY pl z j1 xs ks ns cs i t29.toNat (L,j2,j3)).2≠0:=fun hh=>hh hE
     rw [if_neg hE'] at hR;unfold xK xJ AU;rw [if_neg (fun hh=>hh hE),if_neg (fun hh=>hh hE),if_neg (fun hh=>hh hE)]
     exact ⟨hm2.1,hm2.2,by omega,hR⟩
    ·intro hE;have hE':(uY pl z j1 xs ks ns cs i t29.toNat (L,j2,j3)).2≠0:=hE;rw [if_pos hE'] at hR;unfold xK xJ AU;rw [if_pos hE,if_pos hE,if_pos hE,← hR];exact ⟨rfl,rfl,rfl,rfl⟩
   ·have hkq:qp ns n (4 - q) q=qp ns n (4 - (q+1)) (q+1):=by
     rw [show 4 - q=(4 - (q+1))+1 by omega]
     show lN ns n q++_=_;unfold lN;rw [if_neg (by rw [← e29]; exact hk0)]
     rfl
    rw [hkq] at hR hws;exact hn (some (L,j2,j3,0),q+1) ⟨hi',fun _=>⟨hpx,hpy,hws,hR⟩,fun hh=>absurd rfl hh⟩ (by show 4 - (q+1) < 4 - q; omega)
  ·have:q=4:=by omega
   subst this;refine fin fun he=>?_
   exact (h0 he).2.2.2
theorem Up {m:Nat} {z:L1} {xs ts rs us es ks ns cs ls:L2} {w i n px py h:Int} {pl:Bool} (hz:z.length=19):
  (Ku m).F [IV.agg (af z 0 1 2 3 4),.agg [.sl 5,.sl 6,.sl 7,.int .i64 w],.int .i64 i,.int .i64 n,ct 8 px py 0,fx h,.bool pl] (aH xs ts rs us es++[.ro [.u64,.i64] ks,.ro kQ ns,.ro fG cs,.ro [.i64] ls]) =
  (ct 0 (xK pl z h xs ks ns cs i n.toNat ls px py) (xJ pl z h xs ks ns cs i n.toNat ls px py) (xx pl z h xs ks ns cs i n.toNat ls px py),[.ro [.i64] (AU pl z h xs ks ns cs i n.toNat ls px py)]):=by
 have e1:du [IV.agg (af z 0 1 2 3 4),.agg [.sl 5,.sl 6,.sl 7,.int .i64 w],.int .i64 i,.int .i64 n,ct 8 px py 0,fx h,.bool pl]=z:=sJ _ z hz rfl;have e2:v2 [IV.agg (af z 0 1 2 3 4),.agg [.sl 5,.sl 6,.sl 7,.int .i64 w],.int .i64 i,.int .i64 n,ct 8 px py 0,fx h,.bool pl] 5=h:=bc _ h 5 rfl;have e5:ae [IV.agg (af z 0 1 2 3 4),.agg [.sl 5,.sl 6,.sl 7,.int .i64 w],.int .i64 i,.int .i64 n,ct 8 px py 0,fx h,.bool pl] 4 1*18446744073709551616+ae [IV.agg (af z 0 1 2 3 4),.agg [.sl 5,.sl 6,.sl 7,.int .i64 w],.int .i64 i,.int .i64 n,ct 8 px py 0,fx h,.bool pl] 4 2=px:=by rw [show ae [IV.agg (af z 0 1 2 3 4),.agg [.sl 5,.sl 6,.sl 7,.int .i64 w],.int .i64 i,.int .i64 n,ct 8 px py 0,fx h,.bool pl] 4 1=px / 18446744073709551616 from rfl,show ae [IV.agg (af z 0 1 2 3 4),.agg [.sl 5,.sl 6,.sl 7,.int .i64 w],.int .i64 i,.int .i64 n,ct 8 px py 0,fx h,.bool pl] 4 2=px % 18446744073709551616 from rfl]; exact kS px
 have e6:ae [IV.agg (af z 0 1 2 3 4),.agg [.sl 5,.sl 6,.sl 7,.int .i64 w],.int .i64 i,.int .i64 n,ct 8 px py 0,fx h,.bool pl] 4 3*18446744073709551616+ae [IV.agg (af z 0 1 2 3 4),.agg [.sl 5,.sl 6,.sl 7,.int .i64 w],.int .i64 i,.int .i64 n,ct 8 px py 0,fx h,.bool pl] 4 4=py:=by rw [show ae [IV.agg (af z 0 1 2 3 4),.agg [.sl 5,.sl 6,.sl 7,.int .i64 w],.int .i64 i,.int .i64 n,ct 8 px py 0,fx h,.bool pl] 4 3=py / 18446744073709551616 from rfl,show ae [IV.agg (af z 0 1 2 3 4),.agg [.sl 5,.sl 6,.sl 7,.int .i64 w],.int .i64 i,.int .i64 n,ct 8 px py 0,fx h,.bool pl] 4 4=py % 18446744073709551616 from rfl]; exact kS py
 show (fun (z':L1) (h' p q:Int)=>((ct 0 (xK pl z' h' xs ks ns cs i n.toNat ls p q) (xJ pl z' h' xs ks ns cs i n.toNat ls p q) (xx pl z' h' xs ks ns cs i n.toNat ls p q),[aq.ro [.i64] (AU pl z' h' xs ks ns cs i n.toNat ls p q)]):IV × List aq))
  (du [IV.agg (af z 0 1 2 3 4),.agg [.sl 5,.sl 6,.sl 7,.int .i64 w],.int .i64 i,.int .i64 n,ct 8 px py 0,fx h,.bool pl]) (v2 [IV.agg (af z 0 1 2 3 4),.agg [.sl 5,.sl 6,.sl 7,.int .i64 w],.int .i64 i,.int .i64 n,ct 8 px py 0,fx h,.bool pl] 5) (ae [IV.agg (af z 0 1 2 3 4),.agg [.sl 5,.sl 6,.sl 7,.int .i64 w],.int .i64 i,.int .i64 n,ct 8 px py 0,fx h,.bool pl] 4 1*18446744073709551616+ae [IV.agg (af z 0 1 2 3 4),.agg [.sl 5,.sl 6,.sl 7,.int .i64 w],.int .i64 i,.int .i64 n,ct 8 px py 0,fx h,.bool pl] 4 2) (ae [IV.agg (af z 0 1 2 3 4),.agg [.sl 5,.sl 6,.sl 7,.int .i64 w],.int .i64 i,.int .i64 n,ct 8 px py 0,fx h,.bool pl] 4 3*18446744073709551616+ae [IV.agg (af z 0 1 2 3 4),.agg [.sl 5,.sl 6,.sl 7,.int .i64 w],.int .i64 i,.int .i64 n,ct 8 px py 0,fx h,.bool pl] 4 4)=_
 rw [e1,e2,e5,e6]
theorem P3 {m:Nat} (ih:aa TP ar (Ku m)):KnowOk TP (VA m) 3:=by
 refine ⟨mixedOrders,fun g sp h=>ao SG (ao ih E9) h,?_,fun g G h=>(by cases h),fun f h=>(by cases h)⟩
 intro d' _ f i S n0 hS;simp only [VA] at hS;split at hS
 ·rename_i hf; subst hf;split at hS
  ·rename_i hi; subst hi; cases hS; exact lK1 m d' n0
  split at hS
  ·rename_i hi; subst hi; cases hS; exact lK2 m d' n0
  split at hS
  ·rename_i hi; subst hi; cases hS; exact lK3 m d' n0
  split at hS
  ·rename_i hi; subst hi; cases hS; exact lK4 m d' n0
  ·cases hS
 ·cases hS
theorem JN {pl:Bool} {z:L1} {h:Int} {r:L1} {xs cs:L2} {c:Int} {s:L2 × Int × Int} (he:(il pl z h r xs cs c s).2≠0):(il pl z h r xs cs c s).1=([],0,0):=by
 unfold il at he ⊢;split at he
 ·rename_i h0;rw [if_pos h0];simp only at he ⊢;unfold sI xI xH;rw [if_pos he,if_pos he,if_pos he]
 ·rename_i h0;rw [if_neg h0];simp only at he ⊢;unfold sI xI xH;rw [if_pos he,if_pos he,if_pos he]
theorem B9 {pl:Bool} {z:L1} {h:Int} {r:L1} {xs cs:L2} {i:Int}:∀ (ys:L2) (s:L2 × Int × Int),(dF (dw (il pl z h r xs cs) i) ys s).2≠0->(dF (dw (il pl z h r xs cs) i) ys s).1=([],0,0)
 | [],s,he=>absurd rfl he
 | y :: ys,s,he=>by
  rw [jr] at he ⊢;split at he
  ·rename_i h1;rw [if_pos h1];unfold dw at h1 ⊢;split at h1
   ·exact absurd rfl h1
   ·rename_i h2;rw [if_neg h2];exact JN h1
  ·rename_i h1;rw [if_neg h1];exact B9 ys _ he
set_option maxHeartbeats 2000000 in
theorem M9:∀ m,aa TP ar (Ku m)
 | 0=>by
  refine afC 3 LC ?_;intro l bs _ _ hp;obtain ⟨z,w,xs,ts,rs,us,es,ks,ns,cs,ls,i,n,px,py,h,pl,_,_,hw,_,hn,hm,_⟩:=hp;have:=(nN hw.2.1 (n:=n.toNat) (by omega)).2.2
  omega
 | m+1=>by
  refine afC 3 (P3 (M9 m)) ?_;intro l bs _ _ hp;obtain ⟨z,w,xs,ts,rs,us,es,ks,ns,cs,ls,i,n',px,py,h,pl,hl1,hl2,hw,hib,hn',hlv,hpp,hh,hlw,hxl⟩:=hp;obtain ⟨hpx,hpy⟩:=hpp;subst hl1 hl2;rw [Up hw.1.1.1.1.1];obtain ⟨n,rfl⟩:∃n:Nat,n' = (n:Int):=⟨n'.toNat,by omega⟩
  rw [show ((n:Nat):Int).toNat=n by omega] at hlv hlw ⊢
  have hnl:n < ns.length:=by omega
  have htr:=hw.2.1;have hzl:([z.getD 0 0,z.getD 1 0,z.getD 2 0,z.getD 3 0,z.getD 4 0,z.getD 5 0,z.getD 6 0,z.getD 7 0,z.getD 8 0,z.getD 9 0,z.getD 10 0,z.getD 11 0,z.getD 12 0,z.getD 13 0,z.getD 14 0,z.getD 15 0,z.getD 16 0,z.getD 17 0,z.getD 18 0]:L1)=z:=lZ hw.1.1.1.1.1;have hlk:=Cl htr (il pl z h (xs.getD i.toNat []) xs cs) ks (fun n=>yE z xs cs n i.toNat) (fun n=>E4 z xs cs n i.toNat) i hnl (ls,px,py)
  change uY pl z h xs ks ns cs i n (ls,px,py)=_ at hlk;obtain ⟨⟨b1,b2,b3,_⟩,_⟩:=htr n hnl;have hq:0<=(ns.getD n []).getD 2 0/\(ns.getD n []).getD 2 0<=(ns.getD n []).getD 3 0/\(ns.getD n []).getD 3 0<=ks.length:=⟨b1,Int.le_of_lt b3,b2⟩;have ok:∀ {R:(L2 × Int × Int) × Int},uY pl z h xs ks ns cs i n (ls,px,py)=R->R.2=0->(ct 0 (xK pl z h xs ks ns cs i n ls px py) (xJ pl z h xs ks ns cs i n ls px py) (xx pl z h xs ks ns cs i n ls px py),[aq.ro [.i64] (AU pl z h xs ks ns cs i n ls px py)])=(ct 0 R.1.2.1 R.1.2.2 R.2,[aq.ro [.i64] R.1.1]):=by
   intro R hR h0;have hE:xx pl z h xs ks ns cs i n ls px py=0:=by unfold xx; rw [hR,h0]
   unfold xK xJ AU;rw [hE,if_neg (fun hh=>hh rfl),if_neg (fun hh=>hh rfl),if_neg (fun hh=>hh rfl),hR,h0]
  have bad:∀ {R:(L2 × Int × Int) × Int},uY pl z h xs ks ns cs i n (ls,px,py)=R->R.2≠0->(ct 0 (xK pl z h xs ks ns cs i n ls px py) (xJ pl z h xs ks ns cs i n ls px py) (xx pl z h xs ks ns cs i n ls px py),[aq.ro [.i64] (AU pl z h xs ks ns cs i n ls px py)])=(IV.agg [.sl 0,.int .i64 0,.int .u64 0,.int .i64 0,.int .u64 0,.int .i64 R.2],[aq.ro [.i64] []]):=by
   intro R hR h0;have hE:xx pl z h xs ks ns cs i n ls px py=R.2:=by unfold xx; rw [hR]
   unfold xK xJ AU;rw [hE,if_pos h0,if_pos h0,if_pos h0]
   rfl
  have zz:∀ e:Int,(ct 0 0 0 e,[aq.ro [IntKind.i64] []])=(IV.agg [.sl 0,.int .i64 0,.int .u64 0,.int .i64 0,.int .u64 0,.int .i64 e],[aq.ro [IntKind.i64] []]):=fun e=>rfl
  rw [Tj]; delta Maa Mab Mac Mad Mae Maf Mag Mah Mai Maj Mak Mam Man Mao Map Maq Mar Mat Mau Mav Maw Max Maz MaB MaC MaD MaE MaG MaJ MaM MaN MaP MaQ MaR MaS MaV MaW MaX MaY Ma1 Ma2 Ma3 Ma4 Ma5 Mbc Mbd Mbf Mbk Mbl Mbm Mbo Mbq Mbw Mby Mbz MbD MbE MbH MbN MbR MbV Mb7 Mb8 Mcd Mck Mcl Mcs Mct Mcv Mcz McE McJ McL McN McY Mc0 Mc1 Mdc Mdd Mdl Mdn Mdv MdC MdE MdL MdN MdO MdP MdQ MdR MdS MdT MdU MdV MdY MdZ Md2 Md7 Med Meg Mem Men Meo Mep Mew MeC MeE MeG MeH MeI MeL MeM MeO MeP MeR MeS MeU MeW Me1 Me8 Mfc Mfg Mfm Mfo Mfp MfD MfL MfM MfP MfZ Mge Mgh Mgi Mgx Mgz MgB Mhr Mht MhE Mh3 Miy MiH MiJ MiK MiS MiT MiW MiZ Mjl MjH;have okr:aI aM xs:=fun r hr=>(hw.1.2.1 r hr).2.1
  have hil:i.toNat < xs.length:=by omega
  have hnc:n < cs.length:=by rw [hw.2.2.2.2.2]; exact hnl
  obtain ⟨_,_,m0,m4,m6,_,_⟩:=hw.1.2.1 _ (getM hil);obtain ⟨c0,c2,c4,c6⟩:=hw.1.2.2.1 _ (getM hnc);have hok:=hw.1.2.2.2;rintro j1 rfl j2 rfl j3 rfl t4 e4 j5 rfl t6 e6 j7 rfl t8 e8 j9 rfl t10 e10 j11 rfl t12 e12 t13 rfl t14 rfl t15 rfl t16 rfl t17 rfl t18 rfl t19 rfl t20 rfl t21 rfl t22 rfl t23 rfl t24 rfl t25 rfl t26 rfl t27 rfl t28 rfl t29 rfl t30 rfl t31 rfl t32 rfl t33 rfl t34 rfl t35 rfl t36 rfl t37 rfl t38 rfl t39 rfl t40 rfl t41 rfl t42 rfl t43 rfl t44 rfl t45 rfl t46 rfl t47 rfl t48 rfl t49 rfl t50 e50 t51 e51 t52 e52 t53 rfl t54 rfl t55 rfl t56 e56 t57 e57 t58 e58 t59 e59 t60 e60 t61 e61;rw [hzl] at e59 e60 e61;change j5=n2 (E3 xs cs n i.toNat) (E2 xs cs n i.toNat) (E3 xs cs n i.toNat) at e4;change j7=n2 (E3 xs cs n i.toNat) (E2 xs cs n i.toNat) (E2 xs cs n i.toNat) at e6;change j11=aep (az (fr z 7) j9) at e10;change t56=cb (fr (cs.getD n []) 6) j11 at e56;change t57=bG (az (fr z 7) j9) at e57;change t58=e2 (E3 xs cs n i.toNat) (E2 xs cs n i.toNat) at e58;change t59=xI pl z j1 (xs.getD i.toNat []) (fr (cs.getD n []) 0) (fr (cs.getD n []) 2) (fr (cs.getD n []) 4) j2 j3 at e59;change t60=xH pl z j1 (xs.getD i.toNat []) (fr (cs.getD n []) 0) (fr (cs.getD n []) 2) (fr (cs.getD n []) 4) j2 j3 at e60;change t61=uW pl z j1 (xs.getD i.toNat []) (fr (cs.getD n []) 0) (fr (cs.getD n []) 2) (fr (cs.getD n []) 4) j2 j3 at e61;have p50:t50:=by rw [e50]; exact hib
  have p51:t51:=by rw [e51]; omega
  have p52:t52:=by rw [e52]; omega
  have kids:uY pl z j1 xs ks ns cs i n (ls,j2,j3)=dF (uY pl z j1 xs ks ns cs i) (gm ns n) (ls,j2,j3)->
   (tl pl z j1 xs ks ns cs i (gm ns n) ls j2 j3=((ls,j2,j3),0)->(ct 0 (xK pl z j1 xs ks ns cs i n ls j2 j3) (xJ pl z j1 xs ks ns cs i n ls j2 j3) (xx pl z j1 xs ks ns cs i n ls j2 j3),[aq.ro [.i64] (AU pl z j1 xs ks ns cs i n ls j2 j3)])=(ct 0 j2 j3 0,[aq.ro [.i64] ls]))/\
   (ct 0 (xK pl z j1 xs ks ns cs i n ls j2 j3) (xJ pl z j1 xs ks ns cs i n ls j2 j3) (xx pl z j1 xs ks ns cs i n ls j2 j3),[aq.ro [.i64] (AU pl z j1 xs ks ns cs i n ls j2 j3)])=(ct 0 (JF (tl pl z j1 xs ks ns cs i (gm ns n) ls j2 j3).2 (tl pl z j1 xs ks ns cs i (gm ns n) ls j2 j3).1.2.1) (JF (tl pl z j1 xs ks ns cs i (gm ns n) ls j2 j3).2 (tl pl z j1 xs ks ns cs i (gm ns n) ls j2 j3).1.2.2) (tl pl z j1 xs ks ns cs i (gm ns n) ls j2 j3).2,[aq.ro [.i64] (bq (tl pl z j1 xs ks ns cs i (gm ns n) ls j2 j3).2 (tl pl z j1 xs ks ns cs i (gm ns n) ls j2 j3).1.1)]):=by
   intro he;change uY pl z j1 xs ks ns cs i n (ls,j2,j3)=tl pl z j1 xs ks ns cs i (gm ns n) ls j2 j3 at he;refine ⟨fun hun=>?_,?_⟩
   ·rw [hun] at he;exact ok he rfl
   ·by_cases h0:(tl pl z j1 xs ks ns cs i (gm ns n) ls j2 j3).2=0
    ·rw [ok he h0];unfold JF bq;rw [h0,if_neg (fun hh=>hh rfl),if_neg (fun hh=>hh rfl),if_neg (fun hh=>hh rfl)]
    ·rw [bad he h0];unfold JF bq;rw [if_pos h0,if_pos h0,if_pos h0]
     rfl
  have hcon:ll (List.drop (rd ns n 2).toNat (List.take (rd ns n 3).toNat ks)) i=hasB ns ks n i:=rfl;have hlf4:Us (rd ns n 4) (rd ns n 5) (rd ns n 6) (rd ns n 7)=ot ns n:=rfl;rw [show ((n:Nat):Int).toNat=n from rfl]
  refine ⟨p51,p51,p52,p52,⟨i,n,pl,z,w,j1,j2,j3,ns.getD n [],cs.getD n [],xs,ts,rs,us,es,ks,ns,cs,ls,rfl,rfl⟩,⟨i,n,pl,_,z,w,j1,j2,j3,ns.getD n [],cs.getD n [],xs,ts,rs,us,es,ks,ns,cs,ls,hq,hw.2.2.2.1,rfl,rfl⟩,?_⟩;rw [hlf4,hcon,aL];refine ⟨fun hlf=>?_,fun hlf=>?_⟩
  ·rw [if_pos hlf] at hlk;have hlk':uY pl z j1 xs ks ns cs i n (ls,j2,j3)=PS pl z j1 xs cs (afS (ns.getD n []) ks) i ls j2 j3:=hlk;refine ⟨i,n,pl,_,z,w,j1,j2,j3,ns.getD n [],cs.getD n [],xs,ts,rs,us,es,ks,ns,cs,ls,⟨⟨hw.1,hh,⟨hpx,hpy⟩,hib,hw.2.2.1,hw.2.2.2.1,hq,by omega,hxl⟩,rfl,rfl⟩,_,rfl,?_⟩
   rw [ah];refine ⟨fun hne=>?_,fun h0=>⟨fun hun=>?_,?_⟩⟩
   ·rw [bad hlk' hne];have hz:=B9 (pl:=pl) (z:=z) (h:=j1) (r:=xs.getD i.toNat []) (xs:=xs) (cs:=cs) (i:=i) (afS (ns.getD n []) ks) (ls,j2,j3) hne;change (PS pl z j1 xs cs (afS (ns.getD n []) ks) i ls j2 j3).1=([],0,0) at hz;rw [hz]
    rfl
   ·rw [hun] at hlk';rw [ok hlk' rfl]
    rfl
   ·rw [ok hlk' h0,h0]
    rfl
  ·rw [if_neg (by rw [hlf]; decide)] at hlk
   rw [aL];refine ⟨fun hno=>?_,fun hyes=>?_⟩
   ·have hno':hasB ns ks n i=false:=by simpa using hno
    rw [hno'] at hlk;refine ⟨p50,p50,?_,?_⟩
    ·rw [nv (Ju hok n 3 (by decide) rfl) (Ju hok n 5 (by decide) rfl),nv (cH okr _ 5 (by decide) rfl) (cH okr _ 7 (by decide) rfl)]
     exact en c2 c4 m4 m6
    have fd:∀ {e:Int},e≠0->yE z xs cs n i.toNat=e->(ct 0 (xK pl z j1 xs ks ns cs i n ls j2 j3) (xJ pl z j1 xs ks ns cs i n ls j2 j3) (xx pl z j1 xs ks ns cs i n ls j2 j3),[aq.ro [.i64] (AU pl z j1 xs ks ns cs i n ls j2 j3)])=(IV.agg [.sl 0,.int .i64 0,.int .u64 0,.int .i64 0,.int .u64 0,.int .i64 e],[aq.ro [.i64] []]):=by
     rintro e he rfl;rw [if_pos ⟨rfl,he⟩] at hlk;exact bad hlk he
    rw [ah];refine ⟨fun hne=>fd hne (by unfold yE; rw [bI,if_pos (by rw [← e58]; exact hne),e58]),fun h58=>⟨⟨_,_,rfl,rfl,by rw [e4]; exact mP _ _,by rw [e6]; exact mO _ _⟩,?_⟩⟩
    have he':=kj.1 (by rw [← e58]; exact h58)
    have ex:j5=E3 xs cs n i.toNat:=e4.trans (nE _ he'.1 he'.2);have ey:j7=E2 xs cs n i.toNat:=e6.trans (nE _ he'.1 he'.2);rw [ex,ey] at e8 e12;change t12=VQ xs cs n i.toNat at e12;have e10':j11=aep (UX z xs cs n i.toNat):=by rw [e10,e8]; rfl
    have e57':t57=bG (UX z xs cs n i.toNat):=by rw [e57,e8]; rfl
    have n58:¬ e2 (E3 xs cs n i.toNat) (E2 xs cs n i.toNat)≠0:=by rw [← e58]; simpa using h58
    rw [ah];refine ⟨fun hne=>fd hne (by unfold yE; rw [bI,if_neg n58,if_pos (by rw [← e12]; exact hne),e12]),fun h12=>⟨⟨fr z 7,j9,?_,rfl,hw.1.1.2,by rw [e8]; exact Cp _ _⟩,?_⟩⟩
    ·rw [show IV.agg [.int .i64 (z.getD 7 0),.int .u64 (z.getD 8 0)]=fx (fr z 7) from EY hw.1.1.1.1 7 (by decide) rfl]
    have n12:¬ VQ xs cs n i.toNat≠0:=by rw [← e12]; simpa using h12
    rw [ah];refine ⟨fun hne=>fd hne (by unfold yE; rw [bI,if_neg n58,if_neg n12,e57']),fun h57=>⟨?_,?_⟩⟩
    ·have hm:=dI (UX z xs cs n i.toNat);rw [← e10'] at hm;unfold ag at hm;refine ⟨rfl,rfl,⟨hiC hok n 6 (by decide) rfl,Ju hok n 7 (by decide) rfl⟩,?_,?_⟩
     ·show bn (j11 / 18446744073709551616);unfold bn; omega
     ·show aj (j11 % 18446744073709551616);unfold aj; omega
    have hfe:yE z xs cs n i.toNat=0:=by unfold yE; rw [bI,if_neg n58,if_neg n12,← e57',h57]
    have hfb:E4 z xs cs n i.toNat=decide (t56<=0):=by
     unfold E4;rw [e56];rw [Bool.eq_iff_iff,xq,decide_eq_true_eq,nq,e10'];exact ⟨fun h=>h.2.2,fun h=>⟨by rw [← e58]; exact h58,by rw [← e12]; exact h12,h⟩⟩
    rw [if_neg (fun hh=>hh.2 hfe),hfb] at hlk
    rw [al];refine ⟨fun h56=>⟨⟨z,xs,ts,rs,us,es,ls,i,n,fr (cs.getD n []) 0,fr (cs.getD n []) 2,fr (cs.getD n []) 4,j2,j3,j1,pl,?_,rfl,hw.1.1.1,hw.1.2.1,hib,c0,⟨c2,c4⟩,⟨hpx,hpy⟩,hh,by omega⟩,?_⟩,fun h56=>?_⟩
    ·rw [show IV.agg [.int .i64 (rd cs n 0),.int .u64 (rd cs n 1)]=fx (fr (cs.getD n []) 0) from (ae6 (Ju hok n 1 (by decide) rfl) rfl).symm,nv (Ju hok n 3 (by decide) rfl) (Ju hok n 5 (by decide) rfl)]
     rfl
    ·rw [if_pos ⟨rfl,by simpa using h56⟩,JM] at hlk
     simp only at hlk;rw [← e59,← e60,← e61] at hlk;by_cases h61:t61=0
     ·rw [ok hlk h61]
      rfl
     ·rw [bad hlk h61];have z1:t59=0:=by rw [e59]; unfold xI; rw [← e61,if_pos h61]
      have z2:t60=0:=by rw [e60]; unfold xH; rw [← e61,if_pos h61]
      unfold sI;rw [z1,z2,if_pos h61]
      rfl
    ·rw [if_neg (fun hh=>h56 (by simpa using hh.2))] at hlk
     refine ⟨i,n,pl,z,w,j1,j2,j3,ns.getD n [],xs,ts,rs,us,es,ks,ns,cs,ls,⟨hw,hh,⟨hpx,hpy⟩,hib,hnl,rfl,hlf,by omega,hlw,hxl,rfl,rfl⟩,_,rfl,(kids hlk).1,(kids hlk).2⟩
   ·have hyes':hasB ns ks n i=true:=by simpa using hyes
    rw [hyes',if_neg (fun hh=>by cases hh.1),if_neg (fun hh=>by cases hh.1)] at hlk
    exact ⟨i,n,pl,z,w,j1,j2,j3,ns.getD n [],xs,ts,rs,us,es,ks,ns,cs,ls,⟨hw,hh,⟨hpx,hpy⟩,hib,hnl,rfl,hlf,by omega,hlw,hxl,rfl,rfl⟩,_,rfl,(kids hlk).1,(kids hlk).2⟩
end
def JB:FuncId->Option Vs.Spec:=fun g=>if g=agb then some F4 else if g=ar then some (Ku 33) else Hy g
def Zo (z:L1) (w h:Int) (xs ts rs us es ks ns cs out:L2) (i:Int):St:=⟨T 54 [(2,.ptr 5 0),(3,.ptr 6 0),(4,.ptr 7 0),(5,.ptr 8 0),(6,.sl 9),(7,.int .i64 i)],acX xs ts rs us es++[some (.var 34 (af z 0 1 2 3 4)),some (.var 25 (fx h).cells),some (.var 58 [.sl 10,.int .i64 0]),some (.var 66 [.sl 11,.sl 12,.sl 13,.int .i64 w]),some (.row 31 dm out),some (.row 31 dm []),some (.ro [.u64,.i64] ks),some (.ro kQ ns),some (.ro fG cs)]⟩
theorem rRw (Λ:FuncId->Nat->Option aB) (d:Nat) (z:L1) (w h:Int) (xs ts rs us es ks ns cs out:L2) (i:Int) (k:Out->St->Prop):(round (ai TP { Γ:=JB,Λ:=Λ,Τ:=fun _=>none } d) bE 5 0 (lp TP bE 0) (Zo z w h xs ts rs us es ks ns cs out i) k) =(∀a,Mau a h (∀b,MaX b xs i 8 (∀c,MaX c xs i 9 (∀e,MaX e xs i 10 (∀f,MaX f xs i 11 (∀g,MeO g z (∀j,MeR j z (∀l,MeH l z (∀m,Meg m z (∀n,Men n z (∀o,Meo o z (∀p,Mep p z (∀q,MeC q z (∀r,MeP r z (∀s,MeS s z (∀t,MdO t z (∀u,MdC u z (∀v,MdP v z (∀x,MdQ x z (∀y,MdR y z (∀a1,MdS a1 z (∀b1,MdT b1 z (∀c1,MdU c1 z (∀d1,MdV d1 z (∀e1,MiJ e1 i xs (∀f1,Mcl f1 b c (∀g1,Mcl g1 e f (∀i1,Mau i1 (xx Bool.true (MbE g j l m n o p q r s t u v x y a1 b1 c1 d1) a xs ks ns cs i 0 [] f1 g1) (∀j1,Mau j1 (xK Bool.true (MbE g j l m n o p q r s t u v x y a1 b1 c1 d1) a xs ks ns cs i 0 [] f1 g1) (∀k1,Mau k1 (xJ Bool.true (MbE g j l m n o p q r s t u v x y a1 b1 c1 d1) a xs ks ns cs i 0 [] f1 g1) (∀l1,Mgr l1 (Mcs (Y9 33 (Mcv g j l m n o p q r s t u v x y a1 b1 c1 d1 (MaB (Me8 w) (MaD i 0 (MaB (Mak 8 (Maj b c e f MbD)) [fx h,Ma5])))) (MbJ aM xs ts rs us es (MaC Mbd ks kQ ns (MaC fG cs MaQ [] [])))) i1 (k .ret (MhS 54 [] xs ts rs us es (Mgj 58 6 i1 []))) (MgG out 1 32 (k .normal (Mg8 54 5 6 (Mg5 4 7 5 8 6 9 7 (McR i)) xs ts rs us es (Mcd g j l m n o p q r s t u v 0 1 2 3 x y a1 b1 c1 d1 4) (MdI h h 58 (Mak 10 MbD) (Mco 66 11 (Mak 12 (Mak 13 (MaY w))) 31 dm (MhA out 4 (Mjz j1 k1)) (MhZ 31 dm ks (Man kQ ns fG cs [])))))))) i xs (MbV e1 e1 l1 l1) (k MbI (MbU 54 4 5 6 (.sl 6) [] (Man aM xs jt ts (Man ie rs MaQ us (Mam dE es (.var 58 (Mak 7 MbD)) (Mbe (MdK out) 31 dm []))))))))))))))))))))))))))))))))))))) :=by delta Maa Mab Mac Mad Mae Maf Mag Mah Mai Maj Mak Mal Mam Man Mao Map Maq Mar Mat Mau Mav Maw Max Maz MaA MaB MaC MaD MaG MaM MaN MaP MaQ MaR MaS MaU MaV MaW MaX MaY Ma1 Ma2 Ma3 Ma4 Ma5 Ma6 Mba Mbd Mbe Mbk Mbl Mbo Mbp Mbs Mbv Mbx MbD MbE MbI MbJ MbU MbV Mcd Mcl Mco Mcq Mcs Mct Mcv Mcx Mcz McR Mc3 MdC MdI MdK MdO MdP MdQ MdR MdS MdT MdU MdV MdX Meg Men Meo Mep MeC MeH MeO MeP MeR MeS Me8 Mf4 Mgj Mgr MgG MgR Mg5 Mg8 MhA MhS MhZ MiJ Mjz; refine nj ?_; (iterate 30 refine nm ?_); kernel_rfl
def W7 (n0:Nat) (st:St) (z:L1) (w h:Int) (xs ts rs us es ks ns cs:L2):Prop:=qc z xs ks ns cs/\ag h/\xs.length<=1000/\n0=5/\st=Zo z w h xs ts rs us es ks ns cs [] 0
def my:aB:=fun n0 st K=>∃z w h xs ts rs us es ks ns cs,W7 n0 st z w h xs ts rs us es ks ns cs/\br (IE z h xs ks ns cs != 0) (K .ret ⟨T 54 [(4,.ptr 5 0)],acX xs ts rs us es++[some (.var 58 [.sl 6,.int .i64 (IE z h xs ks ns cs)]),some (.row 31 dm [])]⟩) (K (.exit 0) ⟨T 54 [(4,.ptr 5 0),(6,.sl 6)],acX xs ts rs us es++[some (.var 58 [.sl 7,.int .i64 0]),some (.row 31 dm (N5 z h xs ks ns cs)),some (.row 31 dm [])]⟩)
def ZC:Know:={ Γ:=JB,Λ:=fun f i=>if f=bE then (if i=0 then some my else none) else none,Τ:=fun _=>none }
theorem OO (z:L1) (xs ts rs us es:L2) (h:Int) (K:KP):(comes TP ZC 3 bE [.agg (af z 0 1 2 3 4),fx h] (aH xs ts rs us es) K) =(∀a,Mau a (xz (MdD xs) (lE xs) xs) (Mcm (Mat xs) 0 (K (MeM MbD) (MfR 31)) (MbV (Za Me5 (MiV xs)) (RS.mj Me5 (Mdv Mbd (lE xs))) (EB (Mak 0 (Mak 1 (Mak 2 []))) (.ro kQ (MdD xs)::MaC Mbd (lE xs) aM xs [])) (McL a (K (MeM (MaY a)) (MfR 31)) (∃b:L1,∃c:Int,∃d:Int,∃e:L2,∃f:L2,∃g:L2,∃i:L2,∃j:L2,∃k:L2,∃l:L2,∃m:L2,Mcs (W7 5 (Mg8 54 5 6 (Mg5 4 7 5 8 6 9 7 0) xs ts rs us es (Mi1 z) (MdI h h 58 (Mak 10 MbD) (Mcz 66 (Mak 11 (Mak 12 (Mak 13 (MaY a)))) 31 dm (MhZ 31 dm (lE xs) (Man kQ (MdD xs) fG (Dc (MdD xs) (lE xs) xs) []))))) b c d e f g i j k l m) (IE b d e k l m) (K (MeM (MaY (IE b d e k l m))) (MfR 31)) (K (MeM MbD) (Mg2 (N5 b d e k l m)))))))) :=by delta Maa Mab Mac Mad Mae Maf Mag Mah Mai Maj Mak Mam Man Mao Map Mat Mau Mav Maz MaC MaD MaG MaM MaN MaP MaQ MaR MaW MaY Ma1 Ma4 Mbd Mbl Mbs MbD MbR MbU MbV MbX MbY MbZ Mb0 Mb1 Mb2 Mb3 Mb4 Mb9 Mca Mcb Mcd Mce Mcf Mcg Mci Mcj Mck Mcm Mcs Mcx Mcz McE McI McL Mdv MdD MdI MdK Meb MeM Me5 MfR Mf4 MgR Mg2 Mg5 Mg8 MhZ MiV Mi1; refine nm ?_; kernel_rfl
def zp:Vs.Spec:=⟨qj,fun l bs=>(.agg [.sl 0,.int .i64 (mJ (dv l 0) (v2 l 1) (aA bs 0))],[.row 31 dm (nG (dv l 0) (v2 l 1) (aA bs 0))])⟩
def Oi:FuncId->Option Vs.Spec:=fun g=>if g=bE then some zp else JB g
theorem OS (z:L1) (xs ts rs us es:L2) (h:Int) (K:KP):(comes TP { Γ:=Oi,Λ:=fun _ _=>none,Τ:=fun _=>none } 3 gA [.agg (af z 0 1 2 3 4),fx h] (aH xs ts rs us es) K) =(∀a,Mau a h (∀b,MdC b z (Mcm b 0 (Gr (Mi3 z b h) (Mfl xs ts rs us es)/\K (MeM (MaY (tK (Mjd z b h) a xs))) (Mg2 (tJ (Mjd z b h) a xs))) (Mev (Mi3 z b h) xs ts rs us es []/\K (MeM (MaY (mJ (Mjd z b h) a xs))) (Mg2 (nG (Mjd z b h) a xs)))))) :=by delta Maa Mab Mad Maf Mai Maj Mak Mau Max MaB MaC MaD MaN MaP MaQ MaR MaY Mbw Mbx MbJ MbX MbY MbZ Mb0 Mb1 Mb2 Mb3 Mb4 Mb9 Mca Mcb Mce Mcf Mcg Mcj Mck Mcm Mcv McE McI McK MdC MdK Mev MeM Mfl Mg2 Mi3 Mjd; refine nj ?_; refine nm ?_; kernel_rfl
def zA:Vs.Spec:=⟨qj,fun l bs=>(.agg [.sl 0,.int .i64 (nK (dv l 0) (v2 l 1) (aA bs 0))],[.row 31 dm (AW (dv l 0) (v2 l 1) (aA bs 0))])⟩
def JA:FuncId->Option Vs.Spec:=fun g=>if g=gA then some zA else Oi g
section
open Go.IntWalk
def Br {σ τ:Type} (rel:σ->τ->Prop) (r1:σ × Int) (r2:τ × Int):Prop:=r1.2=r2.2/\(r1.2=0->rel r1.1 r2.1)
theorem wj {σ τ α:Type} {rel:σ->τ->Prop} {f:α->σ->σ × Int} {g:α->τ->τ × Int}:∀ (l:List α) (s:σ) (t:τ),(∀ a∈l,∀ s t,rel s t->Br rel (f a s) (g a t))->rel s t->Br rel (dF f l s) (dF g l t)
 | [],s,t,_,h=>⟨rfl,fun _=>h⟩
 | a :: l,s,t,hfg,h=>by
  obtain ⟨h1,h2⟩:=hfg a (List.mem_cons_self ..) s t h;rw [jr,jr];by_cases h0:(f a s).2=0
  ·rw [if_neg (fun hh=>hh h0),if_neg (fun hh=>hh (h1 ▸ h0))]
   exact wj l _ _ (fun b hb=>hfg b (List.mem_cons_of_mem _ hb)) (h2 h0)
  ·rw [if_pos h0,if_pos (fun hh=>h0 (h1 ▸ hh))]
   exact ⟨h1,h2⟩
theorem yl {σ τ:Type} {rel:σ->τ->Prop} {v1:Int->σ->σ × Int} {v2:Int->τ->τ × Int} (hv:∀ c s t,rel s t->Br rel (v1 c s) (v2 c t)) (ns ks:L2) (fe:Nat->Int) (fb:Nat->Bool) (i:Int):∀ (m n:Nat) (s:σ) (t:τ),rel s t->Br rel (jH v1 ns ks fe fb i m n s) (jH v2 ns ks fe fb i m n t)
 | 0,n,s,t,h=>⟨rfl,fun _=>h⟩
 | m+1,n,s,t,h=>by
  simp only [jH];split
  ·refine wj _ _ _ (fun k _ s t hst=>?_) h
   unfold dw;split
   ·exact ⟨rfl,fun _=>hst⟩
   ·exact hv _ _ _ hst
  ·split
   ·exact ⟨rfl,fun _=>h⟩
   ·split
    ·exact hv _ _ _ h
    ·exact wj _ _ _ (fun k _ s t hst=>yl hv ns ks fe fb i m k s t hst) h
theorem Sr {z:L1} {h:Int} {r:L1} {m ax ay px py:Int} (h0:uW true z h r m ax ay px py=0):xI true z h r m ax ay px py=Da z h r m ax ay px py/\xH true z h r m ax ay px py=C9 z h r m ax ay px py:=by
 unfold xI xH;have h1:¬ uW true z h r m ax ay px py≠0:=fun hh=>hh h0
 constructor
 ·rw [if_neg h1,if_pos rfl]
 ·rw [if_neg h1,if_pos rfl]
theorem Xs {z:L1} {h:Int} {r:L1} {m ax ay px py:Int}:uW true z h r m ax ay px py=Db z h r m ax ay px py:=if_pos rfl
theorem Oo {z:L1} {h:Int} {r:L1} {xs cs:L2} (c:Int) (s:L2 × Int × Int) (t:Int × Int) (hst:s.2=t):Br (fun (s:L2 × Int × Int) t=>s.2=t) (il true z h r xs cs c s) (pN z r h xs cs c t):=by
 subst hst;by_cases hc:0<=c
 ·unfold il pN Dl A5 pR Br;rw [if_pos hc,if_pos hc,if_pos hc,if_pos hc];refine ⟨Xs,fun h0=>?_⟩
  have:=Sr h0;exact Prod.ext this.1 this.2
 ·unfold il pN Dl A5 pR Br;rw [if_neg hc,if_neg hc,if_neg hc,if_neg hc];refine ⟨Xs,fun h0=>?_⟩
  have:=Sr h0;exact Prod.ext this.1 this.2
theorem Ek {σ α:Type} (f:α->σ->σ × Int) (a:α) (s:σ):dF f [a] s=f a s:=by
 rw [jr];split
 ·rfl
 ·rename_i h;have h':(f a s).2=0:=Decidable.not_not.1 h;show ((f a s).1,(0:Int))=f a s;rw [← h']
theorem Xu {z:L1} {h:Int} {xs ks ns cs:L2} {i px py:Int}:Br (fun (s:L2 × Int × Int) t=>s.2=t) (uY true z h xs ks ns cs i 0 ([],px,py)) (S6 z (xs.getD i.toNat []) h xs ks ns cs i px py):=by
 unfold S6;rw [Ek];exact yl (fun c s t hst=>Oo c s t hst) _ _ _ _ _ _ _ _ _ rfl
theorem Xv {z:L1} {h:Int} {xs ks ns cs:L2} {i:Int}:xx true z h xs ks ns cs i 0 [] (fr (xs.getD i.toNat []) 8) (fr (xs.getD i.toNat []) 10)=GP z h xs ks ns cs i/\
  (GP z h xs ks ns cs i=0->xK true z h xs ks ns cs i 0 [] (fr (xs.getD i.toNat []) 8) (fr (xs.getD i.toNat []) 10)=Qc z h xs ks ns cs i/\xJ true z h xs ks ns cs i 0 [] (fr (xs.getD i.toNat []) 8) (fr (xs.getD i.toNat []) 10)=Qb z h xs ks ns cs i):=by
 have hs:=Xu (z:=z) (h:=h) (xs:=xs) (ks:=ks) (ns:=ns) (cs:=cs) (i:=i) (px:=fr (xs.getD i.toNat []) 8) (py:=fr (xs.getD i.toNat []) 10);obtain ⟨h1,h2⟩:=hs;refine ⟨h1,fun h0=>?_⟩
 have h1':xx true z h xs ks ns cs i 0 [] (fr (xs.getD i.toNat []) 8) (fr (xs.getD i.toNat []) 10)=0:=h1.trans h0;have h2':=h2 h1';unfold xK xJ;rw [if_neg (fun hh=>hh h1'),if_neg (fun hh=>hh h1')]
 exact ⟨congrArg Prod.fst h2',congrArg Prod.snd h2'⟩
theorem MJ:∀ {g:FuncId} {sp:Vs.Spec},JB g=some sp->aa TP g sp:=ao SG (ao (M9 33) E9)
theorem lRw (d n0:Nat):aG (ai TP ZC d) bE n0 0 (lp TP bE 0) my:=by
 intro st K hst;obtain ⟨z,w,h,xs,ts,rs,us,es,ks,ns,cs,⟨hw,hh,hl,rfl,rfl⟩,hK⟩:=hst;rw [ah] at hK;have hzl:([z.getD 0 0,z.getD 1 0,z.getD 2 0,z.getD 3 0,z.getD 4 0,z.getD 5 0,z.getD 6 0,z.getD 7 0,z.getD 8 0,z.getD 9 0,z.getD 10 0,z.getD 11 0,z.getD 12 0,z.getD 13 0,z.getD 14 0,z.getD 15 0,z.getD 16 0,z.getD 17 0,z.getD 18 0]:L1)=z:=lZ hw.1.1.1.1.1;have okr:aI aM xs:=fun r hr=>(hw.1.2.1 r hr).2.1
 refine aC (fun p:Nat × L2=>Zo z w h xs ts rs us es ks ns cs p.2 p.1) (fun p=>p.1<=xs.length/\p.2.length=p.1/\xL z h xs ks ns cs (xs.length - p.1) p.1 p.2=xL z h xs ks ns cs xs.length 0 []) (fun p=>xs.length - p.1) ?_ (a:=(0,[])) ⟨Nat.zero_le _,rfl,rfl⟩
 rintro ⟨i,out⟩ ⟨hle,hol,hR⟩ k hn hk;simp only at hle hol hR;show round (ai TP { Γ:=JB,Λ:=_,Τ:=fun _=>none } d) _ _ _ _ (Zo z w h xs ts rs us es ks ns cs out i) k
 rw [rRw]; delta Maa Mab Mac Mad Mae Maf Mag Mah Mai Maj Mak Mal Mam Man Mao Map Maq Mar Mat Mau Mav Maw Max Maz MaA MaB MaC MaD MaG MaM MaN MaP MaQ MaR MaS MaU MaV MaW MaX MaY Ma1 Ma2 Ma3 Ma4 Ma5 Ma6 Mba Mbd Mbe Mbk Mbl Mbo Mbp Mbs Mbv Mbx MbD MbE MbI MbJ MbU MbV Mcd Mcl Mco Mcq Mcs Mct Mcv Mcx Mcz McR Mc3 MdC MdI MdK MdO MdP MdQ MdR MdS MdT MdU MdV MdX Meg Men Meo Mep MeC MeH MeO MeP MeR MeS Me8 Mf4 Mgj Mgr MgG MgR Mg5 Mg8 MhA MhS MhZ MiJ Mjz;rintro j1 rfl t2 e2 t3 e3 t4 e4 t5 e5 t6 rfl t7 rfl t8 rfl t9 rfl t10 rfl t11 rfl t12 rfl t13 rfl t14 rfl t15 rfl t16 rfl t17 rfl t18 rfl t19 rfl t20 rfl t21 rfl t22 rfl t23 rfl t24 rfl t25 e25 t26 e26 t27 e27 t28 e28 t29 e29 t30 e30 t31 e31;rw [hzl] at e28 e29 e30;rw [al];constructor
 ·intro hi;have hi':i < xs.length:=by omega
  have p25:t25:=by rw [e25]; omega
  have hit:((i:Nat):Int).toNat=i:=rfl;obtain ⟨_,_,_,_,_,m8,m10⟩:=hw.1.2.1 _ (getM hi');have T26:t26=fr (xs.getD ((i:Nat):Int).toNat []) 8:=by rw [e26,e2,e3]; rfl
  have T27:t27=fr (xs.getD ((i:Nat):Int).toNat []) 10:=by rw [e27,e4,e5]; rfl
  rw [T26,T27] at e28 e29 e30;obtain ⟨q1,q2⟩:=Xv (z:=z) (h:=j1) (xs:=xs) (ks:=ks) (ns:=ns) (cs:=cs) (i:=i);rw [q1] at e28;have hs:xL z j1 xs ks ns cs (xs.length - i) i out=if GP z j1 xs ks ns cs i≠0 then ([],GP z j1 xs ks ns cs i) else xL z j1 xs ks ns cs (xs.length - (i+1)) (i+1) (out++[cI (Qc z j1 xs ks ns cs i) (Qb z j1 xs ks ns cs i)]):=by
   rw [show xs.length - i=(xs.length - (i+1))+1 by omega]; rfl
  rw [hs,← e28] at hR;have hwt:=(nN hw.2.1 hw.2.2.2.2.1).2.1;have hkl:=hw.2.2.2.1;have p31:t31:=by
   rw [e31];refine ⟨⟨z,w,xs,ts,rs,us,es,ks,ns,cs,[],i,0,fr (xs.getD i []) 8,fr (xs.getD i []) 10,j1,true,?_,rfl,hw,⟨by omega,by omega⟩,⟨Int.le_refl 0,by have:=hw.2.2.2.2.1; omega⟩,by show 33 - _<=33; omega,⟨m8,m10⟩,hh,?_,hl⟩,?_⟩
   ·have h1:=nv (a:=rd xs i 8) (b:=rd xs i 9) (c:=rd xs i 10) (d:=rd xs i 11) (cH okr _ 9 (by decide) rfl) (cH okr _ 11 (by decide) rfl)
    rw [uD xs i 8,uD xs i 10] at h1;unfold vx at h1;have h2:=(IV.agg.inj h1);rw [e2,e3,e4,e5,hit];unfold ct;have h3:[IV.sl 8,.int .i64 (rd xs i 8),.int .u64 (rd xs i 9),.int .i64 (rd xs i 10),.int .u64 (rd xs i 11),.int .i64 0]=IV.sl 8 :: ([IV.int .i64 (rd xs i 8),.int .u64 (rd xs i 9),.int .i64 (rd xs i 10),.int .u64 (rd xs i 11)]++[.int .i64 0]):=rfl;rw [h3,h2]
    rfl
   ·show [].length+wt ns 0<=2000;simp only [List.length_nil];omega
   ·rw [ah];refine ⟨fun hne=>?_,fun h0=>⟨by omega,?_⟩⟩
    ·rw [if_pos hne] at hR;have hE:IE z j1 xs ks ns cs=t28:=(congrArg Prod.snd hR).symm;rw [hE] at hK;exact hk _ _ (by simp) (hK.1 hne)
    ·rw [if_neg (by simpa using h0)] at hR
     have hq:=q2 (by rw [← e28]; exact h0)
     rw [hq.1] at e29;rw [hq.2] at e30;rw [show IntKind.i64.wrap ((i:Int)+1)=((i+1:Nat):Int) by rw [i64_in _ (by omega)]; rfl,e29,e30]
     exact hn (i+1,out++[cI (Qc z j1 xs ks ns cs i) (Qb z j1 xs ks ns cs i)]) ⟨hi',by simp [hol],hR⟩ (by show xs.length - (i+1) < xs.length - i; omega)
  exact ⟨p25,p25,p31,p31⟩
 ·intro hi;have:i=xs.length:=by omega
  subst this;rw [Nat.sub_self] at hR;have hE:IE z j1 xs ks ns cs=0:=(congrArg Prod.snd hR).symm;have hL:N5 z j1 xs ks ns cs=out:=(congrArg Prod.fst hR).symm;rw [hE,hL] at hK;exact hk _ _ (by simp) (hK.2 rfl)
theorem P0:KnowOk TP ZC 3:=cP (f0:=bE) (L:=my) (fun g sp h=>MJ h) rfl (fun g G h=>(by cases h)) lRw 3
theorem FL (z:L1) (h:Int):mJ z h []=0/\nG z h []=[]:=by
 have hb:lE []=[]:=List.eq_nil_of_length_eq_zero (by rw [tN]; rfl)
 have hc:QI []=0:=by
  unfold QI;rw [hb,RS.g9]
  rfl
 unfold mJ nG;rw [hc,if_neg (fun hh=>hh rfl),if_neg (fun hh=>hh rfl)]
 exact ⟨rfl,rfl⟩
theorem Q1:aa TP bE zp:=by
 refine ab (N:=ZC) 3 P0 ?_;rintro l bs _ _ ⟨z,xs,ts,rs,us,es,h,rfl,rfl,hz,hg,hh,hl⟩;have hF:zp.F [.agg (af z 0 1 2 3 4),fx h] (aH xs ts rs us es)=(.agg [.sl 0,.int .i64 (mJ z h xs)],[.row 31 dm (nG z h xs)]):=by
  show (IV.agg [.sl 0,.int .i64 (mJ (dv _ 0) (v2 _ 1) xs)],[aq.row 31 dm (nG (dv _ 0) (v2 _ 1) xs)])=_;rw [dA _ z 0 1 2 3 4 hz.1.1.1 rfl,bc _ h 1 rfl]
 rw [hF,OO]; delta Maa Mab Mac Mad Mae Maf Mag Mah Mai Maj Mak Mam Man Mao Map Mat Mau Mav Maz MaC MaD MaG MaM MaN MaP MaQ MaR MaW MaY Ma1 Ma4 Mbd Mbl Mbs MbD MbR MbU MbV MbX MbY MbZ Mb0 Mb1 Mb2 Mb3 Mb4 Mb9 Mca Mcb Mcd Mce Mcf Mcg Mci Mcj Mck Mcm Mcs Mcx Mcz McE McI McL Mdv MdD MdI MdK Meb MeM Me5 MfR Mf4 MgR Mg2 Mg5 Mg8 MhZ MiV Mi1;rintro t1 e1;have e1':t1=QI xs:=e1;rw [dp];refine ⟨fun h0=>?_,fun h0=>⟨⟨_,rfl,rfl,mA hg,hl⟩,Ho hl,Hf (mA hg) (yB hg) hl,?_⟩⟩
 ·have:xs=[]:=List.eq_nil_of_length_eq_zero (by omega)
  subst this;rw [(FL z h).1,(FL z h).2]
 ·have hne0:xs≠[]:=by rintro rfl; exact h0 rfl
  rw [ah];refine ⟨fun hne=>?_,fun hc0=>?_⟩
  ·unfold mJ nG;rw [if_pos (by rw [← e1']; exact hne),if_pos (by rw [← e1']; exact hne),e1']
  ·refine ⟨z,t1,h,xs,ts,rs,us,es,lE xs,N4 xs,SF xs,⟨RD hz hg hl hne0 (by rw [← e1']; exact hc0),hh,hl,rfl,rfl⟩,?_⟩
   unfold mJ nG;rw [if_neg (by rw [← e1']; simpa using hc0),if_neg (by rw [← e1']; simpa using hc0),ah]
   refine ⟨fun hne=>?_,fun h1=>by rw [h1]⟩
   rw [show N5 z h xs (lE xs) (N4 xs) (SF xs)=[] from Aj _ _ _ _ _ _ _ _ _ hne]
theorem MI:∀ {g:FuncId} {sp:Vs.Spec},Oi g=some sp->aa TP g sp:=ao Q1 MJ
theorem UB:KnowOk TP { Γ:=Oi,Λ:=fun _ _=>none,Τ:=fun _=>none } 3:=aF (fun g sp h=>MI h) (fun _ _=>rfl) (fun _=>rfl) 3
theorem Q5:aa TP gA zA:=by
 refine ab 3 UB ?_;rintro l bs _ _ ⟨z,xs,ts,rs,us,es,h,rfl,rfl,hz,hg,hh,hl⟩;have hF:zA.F [.agg (af z 0 1 2 3 4),fx h] (aH xs ts rs us es)=(.agg [.sl 0,.int .i64 (nK z h xs)],[.row 31 dm (AW z h xs)]):=by
  show (IV.agg [.sl 0,.int .i64 (nK (dv _ 0) (v2 _ 1) xs)],[aq.row 31 dm (AW (dv _ 0) (v2 _ 1) xs)])=_;rw [dA _ z 0 1 2 3 4 hz.1.1.1 rfl,bc _ h 1 rfl]
 rw [hF,OS]; delta Maa Mab Mad Maf Mai Maj Mak Mau Max MaB MaC MaD MaN MaP MaQ MaR MaY Mbw Mbx MbJ MbX MbY MbZ Mb0 Mb1 Mb2 Mb3 Mb4 Mb9 Mca Mcb Mce Mcf Mcg Mcj Mck Mcm Mcv McE McI McK MdC MdK Mev MeM Mfl Mg2 Mi3 Mjd;rintro j1 rfl t2 rfl;unfold nK AW;rw [dp];refine ⟨fun h0=>⟨⟨z,xs,ts,rs,us,es,_,rfl,rfl,hz.1,hg,hh,hl⟩,?_⟩,fun h0=>⟨⟨z,xs,ts,rs,us,es,_,rfl,rfl,hz,hg,hh,hl⟩,?_⟩⟩
 ·rw [if_pos h0,if_pos h0,dA _ z 0 1 2 3 4 hz.1.1.1 rfl]
 ·rw [if_neg h0,if_neg h0,dA _ z 0 1 2 3 4 hz.1.1.1 rfl]
theorem MH:∀ {g:FuncId} {sp:Vs.Spec},JA g=some sp->aa TP g sp:=ao Q5 MI
end
def nD (e:Int) (a b c d f:Nat):List IV:=[.int .i64 0,.int .i64 0,.int .u64 0,.int .i64 0,.int .u64 0,.int .i64 0,.int .u64 0,.int .i64 0,.int .u64 0,.int .i64 0,.int .u64 0,.int .i64 0,.int .i64 0,.sl a,.sl b,.sl c,.sl d,.int .i64 0,.int .u64 0,.int .i64 0,.int .u64 0,.int .i64 0,.int .u64 0,.sl f,.int .i64 e]
def NQ (z:L1) (xs ts rs us es ls bd:L2) (i:Int):St:=⟨T 39 [(2,.ptr 5 0),(4,.ptr 6 0),(5,.ptr 7 0),(6,.int .i64 i)],acX xs ts rs us es++[some (.var 34 (af z 8 1 2 3 4)),some (.var 46 (nD 0 9 10 11 12 13)),some (.var 58 [.sl 14,.int .i64 0]),some (.row 79 aM bd)]++ig++[some (.row 31 dm ls)]⟩
def Mfx (a b c d e f g h i j k l m:Int)(n o p q:Nat)(r s t u v w:Int)(x:Nat):List IV:=MaR a b c d e f g h i j k l m n o p q r s t u v w x MbD
def Mje:List IV:=Mfx 0 0 0 0 0 0 0 0 0 0 0 0 0 9 10 11 12 0 0 0 0 0 0 13
theorem Z7 (Λ:FuncId->Nat->Option aB) (d:Nat) (z:L1) (xs ts rs us es ls bd:L2) (i:Int) (k:Out->St->Prop):(round (ai TP { Γ:=JA,Λ:=Λ,Τ:=fun _=>none } d) bw 5 0 (lp TP bw 0) (NQ z xs ts rs us es ls bd i) k) =(∀a,MiJ a i ls (∀b,Me9 b i i bd i bd a a b b (k .normal (MaM 39 (Me1 2 5 4 6 5 7 6 (McR i)) (Md8 xs ts rs us es (MfJ z z z z z z z z z z z z z 8 1 2 3 z z z z z z 4 46 Mje (Mco 58 14 MbD 79 aM (Mbu bd i (fun c=>MgN (fun e=>Mg9 8 e e 12 (Mjf ls i) e 8 c e))) (Mbn 79 aM 99 jt (Mbn 101 ie 3 MaQ (Mag (.row 103 dE []) (MdK ls) [])))))))) (k MbI (Mcx 39 2 5 4 6 [] (Md8 xs ts rs us es (MfJ z z z z z z z z z z z z z 7 1 2 3 z z z z z z 4 46 (Mfx 0 0 0 0 0 0 0 0 0 0 0 0 0 8 9 10 11 0 0 0 0 0 0 12) (Mhi bd))))))) :=by delta Maa Mab Mac Mad Maf Mag Mai Maj Mak Mal Mam Man Mao Map Mar Mat Mav Maw Maz MaA MaD MaE MaG MaM MaN MaP MaQ MaR MaS MaV MaY Ma4 Mba Mbe Mbk Mbl Mbn Mbo Mbp Mbs Mbu Mbv MbD MbI MbU MbX MbY MbZ Mb0 Mb1 Mb2 Mb3 Mb4 Mb9 Mca Mcb Mcd Mce Mcf Mcg Mci Mcj Mck Mco Mcq Mcx McE McI McR Mc2 Mdl Mdp MdG MdK Md8 Me1 Me9 Mfx MfA MfJ MgN Mg9 Mhi MiJ Mje Mjf; refine nm ?_; refine nm ?_; kernel_rfl
def W8 (n0:Nat) (st:St) (z:L1) (xs ts rs us es ls:L2):Prop:=ls.length=xs.length/\xs.length<=1000000/\n0=5/\st=NQ z xs ts rs us es ls xs 0
def VD:aB:=fun n0 st K=>∃z xs ts rs us es ls,W8 n0 st z xs ts rs us es ls/\K (.exit 0) ⟨T 39 [(2,.ptr 5 0),(4,.ptr 6 0)],acX xs ts rs us es++[some (.var 34 (af z 7 1 2 3 4)),some (.var 46 (nD 0 8 9 10 11 12)),some (.row 79 aM (age rq xs ls))]++ig⟩
def Vy:Know:={ Γ:=JA,Λ:=fun f i=>if f=bw then (if i=0 then some VD else none) else none,Τ:=fun _=>none }
def MjT (a:Int):IV:=.agg (MaR 0 0 0 0 0 0 0 0 0 0 0 0 0 0 1 2 3 0 0 0 0 0 0 4 (MaY a))
theorem H0 (z:L1) (xs ts rs us es:L2) (h:Int) (K:KP):(comes TP Vy 3 bw [.agg (af z 0 1 2 3 4),fx h] (aH xs ts rs us es) K) =(∀a,Mau a h (∀b,Mgo b (Mjd z (Mci z) h) a xs (Mcs (Mev (Mi3 z (Mci z) h) xs ts rs us es []) b (K (MjT b) MgA) (Mgv 0 xs 160 (∃c:L1,∃d:L2,∃e:L2,∃f:L2,∃g:L2,∃i:L2,∃j:L2,W8 5 (MaM 39 (Me1 2 5 4 6 5 7 6 0) (Md8 xs ts rs us es (MfJ z z z z z z z z z z z z z 8 1 2 3 z z z z z z 4 46 Mje (Mco 58 14 (MaY b) 79 aM (Mg7 20 xs) (Mbn 79 aM 99 jt (Mbn 101 ie 3 MaQ (Mag (.row 103 dE []) (MdK (AW (Mjd z (Mci z) h) a xs)) []))))))) c d e f g i j/\K (.agg (MaR (Mb9 c) (Mca c) (Mcb c) (Mcj c) (Mce c) (Mcf c) (Mcg c) (Mck c) (McE c) (McI c) (MbX c) (Mci c) (MbY c) 0 1 2 3 (MbZ c) (Mb0 c) (Mb1 c) (Mb2 c) (Mb3 c) (Mb4 c) 4 MbD)) (Mf0 (age rq d j) e f g i [])))))) :=by delta Maa Mab Mac Mad Maf Mag Mai Maj Mak Mam Man Mao Map Mau Maz MaB MaC MaD MaG MaM MaN MaP MaQ MaR MaV MaW MaY Ma4 Ma6 Mba Mbe Mbl Mbn Mbw Mbx MbD MbJ MbR MbX MbY MbZ Mb0 Mb1 Mb2 Mb3 Mb4 Mb9 Mca Mcb Mcd Mce Mcf Mcg Mci Mcj Mck Mco Mcs Mcv McE McI McK Mc2 Mdl MdK Md8 Mev Me1 Mfx MfJ Mf0 Mgo Mgv MgA Mg7 Mi3 Mjd Mje MjT; refine nj ?_; refine nm ?_; kernel_rfl
def S0 (e:Int) (l:List IV):IV:=.agg [.int .i64 (an e (ae l 0 0)),.int .i64 (an e (ae l 0 1)),.int .u64 (an e (ae l 0 2)),.int .i64 (an e (ae l 0 3)),.int .u64 (an e (ae l 0 4)),.int .i64 (an e (ae l 0 5)),.int .u64 (an e (ae l 0 6)),.int .i64 (an e (ae l 0 7)),.int .u64 (an e (ae l 0 8)),.int .i64 (an e (ae l 0 9)),.int .u64 (an e (ae l 0 10)),.int .i64 (an e (ae l 0 11)),.int .i64 (an e (ae l 0 12)),.sl 0,.sl 1,.sl 2,.sl 3,.int .i64 (an e (ae l 0 17)),.int .u64 (an e (ae l 0 18)),.int .i64 (an e (ae l 0 19)),.int .u64 (an e (ae l 0 20)),.int .i64 (an e (ae l 0 21)),.int .u64 (an e (ae l 0 22)),.sl 4,.int .i64 e]
def DS:Vs.Spec:=⟨qj,fun l bs=>(S0 (nK (du l) (v2 l 1) (aA bs 0)) l,
 [.row 79 aM (bq (nK (du l) (v2 l 1) (aA bs 0)) (eF (du l) (v2 l 1) (aA bs 0))),.ro jt (bq (nK (du l) (v2 l 1) (aA bs 0)) (aA bs 1)),.ro ie (bq (nK (du l) (v2 l 1) (aA bs 0)) (aA bs 2)),.ro [.i64] (bq (nK (du l) (v2 l 1) (aA bs 0)) (aA bs 3)),.ro dE (bq (nK (du l) (v2 l 1) (aA bs 0)) (aA bs 4))])⟩
def Dh:FuncId->Option Vs.Spec:=fun g=>if g=bw then some DS else JA g
def Pu (z:L1) (e:Int) (a b c d f:Nat):List IV:=[.int .i64 (z.getD 0 0),.int .i64 (z.getD 1 0),.int .u64 (z.getD 2 0),.int .i64 (z.getD 3 0),.int .u64 (z.getD 4 0),.int .i64 (z.getD 5 0),.int .u64 (z.getD 6 0),.int .i64 (z.getD 7 0),.int .u64 (z.getD 8 0),.int .i64 (z.getD 9 0),.int .u64 (z.getD 10 0),.int .i64 (z.getD 11 0),.int .i64 (z.getD 12 0),.sl a,.sl b,.sl c,.sl d,.int .i64 (z.getD 13 0),.int .u64 (z.getD 14 0),.int .i64 (z.getD 15 0),.int .u64 (z.getD 16 0),.int .i64 (z.getD 17 0),.int .u64 (z.getD 18 0),.sl f,.int .i64 e]
def R4 (ts rs us es:L2):OB:=[some (.ro jt ts),some (.ro ie rs),some (.ro [.i64] us),some (.ro dE es)]
def VR (z:L1) (h:Int) (W:L2) (ts0 rA us0 es0:L2) (ts rs us es ls bd:L2) (i:Int):St:=⟨T 84 [(3,.ptr 5 0),(4,.ptr 6 0),(5,.ptr 7 0),(6,.ptr 8 0),(7,.int .i64 i)],acX W ts0 rA us0 es0++[some (.var 25 (fx h).cells),some (.var 46 (nD 0 9 10 11 12 13)),some (.var 46 (Pu z 0 14 15 16 17 18)),some (.var 58 [.sl 19,.int .i64 0])]++ig++[some (.row 79 aM bd)]++R4 ts rs us es++[some (.row 31 dm ls)]⟩
def Mf7 (a b c d:L2):OB:=Man jt a ie b (Man MaQ c dE d [])
def MhL (a b:L2)(c:List IntKind)(d:L2)(e:List IntKind)(f:L2)(g:OB):OB:=Mag (Mc2 a) (.ro jt b) (Man c d e f g)
theorem rL1 (Λ:FuncId->Nat->Option aB) (d:Nat) (z:L1) (h:Int) (W ts0 rA us0 es0 ts rs us es ls bd:L2) (i:Int) (k:Out->St->Prop):(round (ai TP { Γ:=Dh,Λ:=Λ,Τ:=fun _=>none } d) aW 5 0 (lp TP aW 0) (VR z h W ts0 rA us0 es0 ts rs us es ls bd i) k) =(∀a,MiJ a i ls (∀b,Me9 b i i bd i bd a a b b (k .normal (Mc9 84 3 5 (Me1 4 6 5 7 6 8 7 (McR i)) W ts0 rA us0 es0 25 (MiK h) (Maz 46 Mje 46 (Mfx (Mb9 z) (Mca z) (Mcb z) (Mcj z) (Mce z) (Mcf z) (Mcg z) (Mck z) (McE z) (McI z) (MbX z) (Mci z) (MbY z) 14 15 16 17 (MbZ z) (Mb0 z) (Mb1 z) (Mb2 z) (Mb3 z) (Mb4 z) 18) (Mcz 58 (Mak 19 MbD) 79 aM (MdG 3 (MhL (Mbu bd i (fun c=>MgN (fun e=>MjE e (Mjf ls i) c))) ts ie rs MaQ us (Mam dE es (MdK ls) []))))))) (k MbI (Mc9 84 3 5 (Mbs 4 6 5 (Mao 7) []) W ts0 rA us0 es0 25 (MiK h) (Maz 46 (Mfx 0 0 0 0 0 0 0 0 0 0 0 0 0 8 9 10 11 0 0 0 0 0 0 12) 46 (Mfx (Mb9 z) (Mca z) (Mcb z) (Mcj z) (Mce z) (Mcf z) (Mcg z) (Mck z) (McE z) (McI z) (MbX z) (Mci z) (MbY z) 13 14 15 16 (MbZ z) (Mb0 z) (Mb1 z) (Mb2 z) (Mb3 z) (Mb4 z) 17) (MhD 3 bd (Mf7 ts rs us es))))))) :=by delta Maa Mab Mac Mad Mae Maf Mag Mah Mai Maj Mak Mal Mam Man Mao Map Mar Mat Mav Maw Maz MaA MaD MaE MaG MaM MaN MaP MaQ MaR MaS MaY Ma1 Ma3 Ma4 Mbe Mbk Mbl Mbn Mbo Mbp Mbs Mbu Mbv MbD MbI MbX MbY MbZ Mb0 Mb1 Mb2 Mb3 Mb4 Mb9 Mca Mcb Mce Mcf Mcg Mci Mcj Mck Mcq Mcz McE McI McR Mc2 Mc9 Mdp MdG MdK Me1 Me9 Mfx MfA Mf7 MgN Mg9 MhD MhL MiJ MiK Mje Mjf MjE; refine nm ?_; refine nm ?_; kernel_rfl
def pL1 (n0:Nat) (st:St):Prop:=∃z h W ts0 rA us0 es0 ts rs us es ls bd,ls.length=bd.length/\bd.length<=1000000/\n0=5/\st=VR z h W ts0 rA us0 es0 ts rs us es ls bd 0
def XG (st:St):St:=⟨T 84 [(3,.ptr 5 0),(4,.ptr 6 0),(5,.ptr 7 0)],acX (dh st.b 0) (dh st.b 1) (dh st.b 2) (dh st.b 3) (dh st.b 4)++[some (.var 25 [.int .i64 (bl st.b 5 0),.int .u64 (bl st.b 5 1)]),some (.var 46 (nD 0 8 9 10 11 12)),some (.var 46 [.int .i64 (bl st.b 7 0),.int .i64 (bl st.b 7 1),.int .u64 (bl st.b 7 2),.int .i64 (bl st.b 7 3),.int .u64 (bl st.b 7 4),.int .i64 (bl st.b 7 5),.int .u64 (bl st.b 7 6),.int .i64 (bl st.b 7 7),.int .u64 (bl st.b 7 8),.int .i64 (bl st.b 7 9),.int .u64 (bl st.b 7 10),.int .i64 (bl st.b 7 11),.int .i64 (bl st.b 7 12),.sl 13,.sl 14,.sl 15,.sl 16,.int .i64 (bl st.b 7 17),.int .u64 (bl st.b 7 18),.int .i64 (bl st.b 7 19),.int .u64 (bl st.b 7 20),.int .i64 (bl st.b 7 21),.int .u64 (bl st.b 7 22),.sl 17,.int .i64 0])]++ig++[some (.row 79 aM (age pO (dh st.b 14) (dh st.b 19)))]++R4 (dh st.b 15) (dh st.b 16) (dh st.b 17) (dh st.b 18)⟩
def Ll1:aB:=fun n0 st K=>pL1 n0 st/\K (.exit 0) (XG st)
def Zr (z:L1) (W ts0 rA us0 es0 ts rs us es bd:L2) (i:Int):St:=⟨T 84 [(4,.ptr 5 0),(8,.ptr 6 0),(9,.int .i64 i)],acX W ts0 rA us0 es0++[some (.var 46 (nD 0 7 8 9 10 11)),some (.var 46 (Pu z 0 12 13 14 15 16))]++ig++[some (.row 79 aM bd)]++R4 ts rs us es⟩
def MiF (a:List IV)(b:OB):OB:=Maz 46 (Mfx 0 0 0 0 0 0 0 0 0 0 0 0 0 7 8 9 10 0 0 0 0 0 0 11) 46 a b
theorem rL2 (Λ:FuncId->Nat->Option aB) (d:Nat) (z:L1) (W ts0 rA us0 es0 ts rs us es bd:L2) (i:Int) (k:Out->St->Prop):(round (ai TP { Γ:=Dh,Λ:=Λ,Τ:=fun _=>none } d) aW 5 1 (lp TP aW 1) (Zr z W ts0 rA us0 es0 ts rs us es bd i) k) =(∀a,MiJ a i bd (∀b,Mau b (iW (Mh9 bd i [])) (Mcq i bd (MiZ a (pB (McG aM bd i 0 20 []) []) b (k .ret (MhS 84 [] W ts0 rA us0 es0 (Mgn 46 (MaR 0 0 0 0 0 0 0 0 0 0 0 0 0 6 7 8 9 0 0 0 0 0 0 10 (MaY b)) 79))) (Mbm (agd (Mh9 bd i [])) (k .ret (MhS 84 [] W ts0 rA us0 es0 (Mgn 46 (MaR 0 0 0 0 0 0 0 0 0 0 0 0 0 6 7 8 9 0 0 0 0 0 0 10 (MaY 6)) 79))) (k .normal (MhS 84 (Mbs 8 6 9 (Met i) []) W ts0 rA us0 es0 (MiF (Mfx (Mb9 z) (Mca z) (Mcb z) (Mcj z) (Mce z) (Mcf z) (Mcg z) (Mck z) (McE z) (McI z) (MbX z) (Mci z) (MbY z) 12 13 14 15 (MbZ z) (Mb0 z) (Mb1 z) (Mb2 z) (Mb3 z) (Mb4 z) 16) (MhD 3 bd (Mf7 ts rs us es))))))) (k Mee (Mcx 84 4 5 8 6 [] (Md8 W ts0 rA us0 es0 (MiF (Mfx (Mb9 z) (Mca z) (Mcb z) (Mcj z) (Mce z) (Mcf z) (Mcg z) (Mck z) (McE z) (McI z) (MbX z) (Mci z) (MbY z) 12 13 14 15 (MbZ z) (Mb0 z) (Mb1 z) (Mb2 z) (Mb3 z) (Mb4 z) 16) (MhD 3 bd (Mf7 ts rs us es))))))))) :=by delta Maa Mab Mac Mad Maf Mag Mai Maj Mak Mal Mam Man Mao Map Mat Mau Mav Maz MaA MaB MaD MaM MaN MaP MaQ MaR MaS MaV MaW MaY Ma3 Mbe Mbk Mbm Mbn Mbo Mbp Mbs Mbv MbD MbU MbV MbX MbY MbZ Mb0 Mb1 Mb2 Mb3 Mb4 Mb9 Mca Mcb Mce Mcf Mcg Mci Mcj Mck Mcq Mct Mcx Mcz McE McG McI McL Mc2 Mc3 MdG MdX Md8 Mee Met Mfx Mf7 Mgn MhD MhS Mh9 MiF MiJ MiZ; refine nm ?_; refine nm ?_; kernel_rfl
def pL2 (n0:Nat) (st:St):Prop:=∃z W ts0 rA us0 es0 ts rs us es bd,aY bd/\bd.length<=1000000/\n0=5/\st=Zr z W ts0 rA us0 es0 ts rs us es bd 0
def Ll2:aB:=fun n0 st K=>pL2 n0 st/\br (kF (dh st.b 12) != 0) (K .ret ⟨T 84 [(4,.ptr 5 0)],acX (dh st.b 0) (dh st.b 1) (dh st.b 2) (dh st.b 3) (dh st.b 4)++[some (.var 46 (nD (kF (dh st.b 12)) 6 7 8 9 10))]++ig⟩) (K (.exit 2) ⟨st.t.set 9 none,st.b⟩)
def NT:Know:={ Γ:=Dh,Λ:=fun f i=>if f=aW then (if i=0 then some Ll1 else if i=1 then some Ll2 else none) else none,Τ:=fun _=>none }
abbrev MbL (a b c:Int)(d:Prop):Prop:=Mau a (an b c) d
def Meq (a b c d e f g h i j k l m n o p q r s t u:Int)(v:L2):L2:=bq a (MbT b c d e f g h i j k l m n o p q r s t u v)
def Mfr (a b:Int)(c:L2):L2:=bq a (bq b c)
def Mju (a:L2)(b:Int):L2:=age pO a (lh b a)
theorem OR (z:L1) (xs ts rs us es:L2) (h:Int) (K:KP):(comes TP NT 3 aW [.agg (af z 0 1 2 3 4),fx h] (aH xs ts rs us es) K) =(∀a,Mau a h (∀b,Mau b (dQ a) (∀c,Mau c b (∀d,MeO d z (∀e,MeR e z (∀f,MeH f z (∀g,Meg g z (∀i,Men i z (∀j,Meo j z (∀k,Mep k z (∀l,MeC l z (∀m,MeP m z (∀n,MeS n z (∀o,MdO o z (∀p,MdC p z (∀q,MdP q z (∀r,MdQ r z (∀s,MdR s z (∀t,MdS t z (∀u,MdT u z (∀v,MdU v z (∀w,MdV w z (∀x,Mbo x (Mga h) (∀y,Mgo y (MbE d e f g i j k l m n o p q r s t u v w) c xs (∀a1,MbL a1 y d (∀b1,MbL b1 y e (∀c1,MbL c1 y f (∀d1,MbL d1 y g (∀e1,MbL e1 y i (∀f1,MbL f1 y j (∀g1,MbL g1 y k (∀i1,MbL i1 y l (∀j1,MbL j1 y m (∀k1,MbL k1 y n (∀l1,MbL l1 y o (∀m1,MbL m1 y p (∀n1,MbL n1 y q (∀o1,MbL o1 y r (∀p1,MbL p1 y s (∀q1,MbL q1 y t (∀r1,MbL r1 y u (∀s1,MbL s1 y v (∀t1,MbL t1 y w (∀u1,Mau u1 (eD a (Meq y d e f g i j k l m n o p q r s t u v w c xs)) (∀v1,Mgo v1 (MbE a1 b1 c1 d1 e1 f1 g1 i1 j1 k1 l1 m1 n1 o1 p1 q1 r1 s1 t1) c (Mju (Meq y d e f g i j k l m n o p q r s t u v w c xs) a) (∀w1,Mau w1 (kF (Meq v1 a1 b1 c1 d1 e1 f1 g1 i1 j1 k1 l1 m1 n1 o1 p1 q1 r1 s1 t1 c (Mju (Meq y d e f g i j k l m n o p q r s t u v w c xs) a))) (∀x1,Mbo x1 (K (.agg (MaR (an v1 a1) (an v1 b1) (an v1 c1) (an v1 d1) (an v1 e1) (an v1 f1) (an v1 g1) (an v1 i1) (an v1 j1) (an v1 k1) (an v1 l1) (an v1 m1) (an v1 n1) 0 1 2 3 (an v1 o1) (an v1 p1) (an v1 q1) (an v1 r1) (an v1 s1) (an v1 t1) 4 (MaY v1))) (Mf0 (Meq v1 a1 b1 c1 d1 e1 f1 g1 i1 j1 k1 l1 m1 n1 o1 p1 q1 r1 s1 t1 c (Mju (Meq y d e f g i j k l m n o p q r s t u v w c xs) a)) (Mfr v1 y ts) (Mfr v1 y rs) (Mfr v1 y us) (Mfr v1 y es) [])) (∀y1,Mbo y1 (Mfm (Mev (McK a1 b1 c1 d1 e1 f1 g1 i1 j1 k1 l1 m1 n1 o1 p1 q1 r1 s1 t1 b) (Mju (Meq y d e f g i j k l m n o p q r s t u v w c xs) a) (bq y ts) (bq y rs) (bq y us) (bq y es) []) v1 x1 (pL2 5 (MhS 84 (Mbs 8 6 9 Mdg []) xs ts rs us es (MiF (MaR (an v1 a1) (an v1 b1) (an v1 c1) (an v1 d1) (an v1 e1) (an v1 f1) (an v1 g1) (an v1 i1) (an v1 j1) (an v1 k1) (an v1 l1) (an v1 m1) (an v1 n1) 12 13 14 15 (an v1 o1) (an v1 p1) (an v1 q1) (an v1 r1) (an v1 s1) (an v1 t1) 16 (MaY v1)) (MhD 3 (Meq v1 a1 b1 c1 d1 e1 f1 g1 i1 j1 k1 l1 m1 n1 o1 p1 q1 r1 s1 t1 c (Mju (Meq y d e f g i j k l m n o p q r s t u v w c xs) a)) (Mf7 (Mfr v1 y ts) (Mfr v1 y rs) (Mfr v1 y us) (Mfr v1 y es)))))) w1 (K (MjT w1) MgA) x1) (∀z1,Mbo z1 (Mfm (Mev (McK d e f g i j k l m n o p q r s t u v w b) xs ts rs us es []) y (K (.agg (MaR a1 b1 c1 d1 e1 f1 g1 i1 j1 k1 l1 m1 n1 0 1 2 3 o1 p1 q1 r1 s1 t1 4 (MaY y))) (Mf0 (Meq y d e f g i j k l m n o p q r s t u v w c xs) (bq y ts) (bq y rs) (bq y us) (bq y es) [])) (Gq (Mak 0 (Mbw h)) (MiV (Meq y d e f g i j k l m n o p q r s t u v w c xs))) u1 (K (MjT u1) MgA) (MbV (pL1 5 (Mc9 84 3 5 (Me1 4 6 5 7 6 8 7 0) xs ts rs us es 25 (MiK h) (Maz 46 Mje 46 (MaR a1 b1 c1 d1 e1 f1 g1 i1 j1 k1 l1 m1 n1 14 15 16 17 o1 p1 q1 r1 s1 t1 18 (MaY y)) (Mcz 58 (Mak 19 (MaY u1)) 79 aM (MdG 3 (MhL (Meq y d e f g i j k l m n o p q r s t u v w c xs) (bq y ts) ie (bq y rs) MaQ (bq y us) (Mam dE (bq y es) (MdK (lh a (Meq y d e f g i j k l m n o p q r s t u v w c xs))) []))))))) (Mav x y1 y1) x y1)) (Mav (Mav x z1 z1) x z1)))))))))))))))))))))))))))))))))))))))))))))))))) :=by delta Maa Mab Mac Mad Mae Maf Mag Mah Mai Maj Mak Mam Man Mao Map Mau Mav Maw Max Maz MaB MaC MaD MaG MaM MaN MaP MaQ MaR MaV MaW MaY Ma1 Ma3 Ma4 Mbe Mbl Mbn Mbo Mbs Mbw Mbx MbD MbE MbJ MbL MbR MbT MbV Mcs Mct Mcv Mcz McK Mc2 Mc3 Mc9 Mdg Mdv MdC MdG MdK MdO MdP MdQ MdR MdS MdT MdU MdV MdX Meg Men Meo Mep Meq Mev MeC MeH MeO MeP MeR MeS Me1 Mfm Mfr Mfx Mf0 Mf7 Mga Mgo MgA MhD MhL MhS MiF MiK MiV Mje Mju MjT; refine nj ?_; refine nm ?_; refine nj ?_; (iterate 46 refine nm ?_); kernel_rfl
def zy:Vs.Spec:=⟨n8,fun l bs=>(S0 (adn (du l) (v2 l 1) (aA bs 0)) l,
 [.row 79 aM (bq (adn (du l) (v2 l 1) (aA bs 0)) (gu (du l) (v2 l 1) (aA bs 0))),.ro jt (bq (adn (du l) (v2 l 1) (aA bs 0)) (aA bs 1)),.ro ie (bq (adn (du l) (v2 l 1) (aA bs 0)) (aA bs 2)),.ro [.i64] (bq (adn (du l) (v2 l 1) (aA bs 0)) (aA bs 3)),.ro dE (bq (adn (du l) (v2 l 1) (aA bs 0)) (aA bs 4))])⟩
def Oh:FuncId->Option Vs.Spec:=fun g=>if g=aW then some zy else Dh g
section
open Go.IntWalk
def EF (e:Int) (z:L1):IV:=.agg (Pu (ED e z) e 0 1 2 3 4)
theorem Dj (e:Int) (l:List IV) (z:L1) (hl:lg l 0=some (.agg (af z 0 1 2 3 4))):S0 e l=EF e z:=by
 have q:∀ j,ae l 0 j=ae [.agg (af z 0 1 2 3 4)] 0 j:=by intro j; unfold ae; rw [hl]; rfl
 unfold S0 EF;simp only [q];by_cases he:e≠0
 ·have h1:∀ x,an e x=0:=fun x=>if_pos he
  have h2:ED e z=List.replicate 19 0:=if_pos he;simp only [h1,h2]
  rfl
 ·have h1:∀ x,an e x=x:=fun x=>if_neg he
  have h2:ED e z=z:=if_neg he;simp only [h1,h2]
  rfl
theorem Aa {z:L1} {xs ts rs us es:L2} {h:Int} (hz:z.length=19) (E:L1->Int->L2->Int) (B:L1->Int->L2->L2):
  ((S0 (E (du [IV.agg (af z 0 1 2 3 4),fx h]) (v2 [IV.agg (af z 0 1 2 3 4),fx h] 1) xs) [IV.agg (af z 0 1 2 3 4),fx h],
   [aq.row 79 aM (bq (E (du [IV.agg (af z 0 1 2 3 4),fx h]) (v2 [IV.agg (af z 0 1 2 3 4),fx h] 1) xs) (B (du [IV.agg (af z 0 1 2 3 4),fx h]) (v2 [IV.agg (af z 0 1 2 3 4),fx h] 1) xs)),.ro jt (bq (E (du [IV.agg (af z 0 1 2 3 4),fx h]) (v2 [IV.agg (af z 0 1 2 3 4),fx h] 1) xs) ts),.ro ie (bq (E (du [IV.agg (af z 0 1 2 3 4),fx h]) (v2 [IV.agg (af z 0 1 2 3 4),fx h] 1) xs) rs),.ro [.i64] (bq (E (du [IV.agg (af z 0 1 2 3 4),fx h]) (v2 [IV.agg (af z 0 1 2 3 4),fx h] 1) xs) us),.ro dE (bq (E (du [IV.agg (af z 0 1 2 3 4),fx h]) (v2 [IV.agg (af z 0 1 2 3 4),fx h] 1) xs) es)]):IV × List aq) =
  (EF (E z h xs) z,[aq.row 79 aM (bq (E z h xs) (B z h xs)),.ro jt (bq (E z h xs) ts),.ro ie (bq (E z h xs) rs),.ro [.i64] (bq (E z h xs) us),.ro dE (bq (E z h xs) es)]):=by
 have e1:du [IV.agg (af z 0 1 2 3 4),fx h]=z:=sJ _ z hz rfl;have e2:v2 [IV.agg (af z 0 1 2 3 4),fx h] 1=h:=bc _ h 1 rfl;rw [e1,e2,Dj _ _ z rfl]
theorem C0 {e:Int} (he:e≠0) (z:L1) (b ts rs us es:L2):((EF e z,[aq.row 79 aM (bq e b),.ro jt (bq e ts),.ro ie (bq e rs),.ro [.i64] (bq e us),.ro dE (bq e es)]):IV × List aq) =
  (IV.agg [.int .i64 0,.int .i64 0,.int .u64 0,.int .i64 0,.int .u64 0,.int .i64 0,.int .u64 0,.int .i64 0,.int .u64 0,.int .i64 0,.int .u64 0,.int .i64 0,.int .i64 0,.sl 0,.sl 1,.sl 2,.sl 3,.int .i64 0,.int .u64 0,.int .i64 0,.int .u64 0,.int .i64 0,.int .u64 0,.sl 4,.int .i64 e],nz [aq.row 79 aM [],aq.row 99 jt [],aq.row 101 ie [],aq.row 3 [IntKind.i64] [],aq.row 103 dE []]):=by
 have h1:∀ l,bq e l=[]:=fun l=>if_pos he
 have h2:ED e z=List.replicate 19 0:=if_pos he;unfold EF;rw [h1,h1,h1,h1,h1,h2]
 rfl
theorem aaI (d n0:Nat):aG (ai TP Vy d) bw n0 0 (lp TP bw 0) VD:=by
 intro st K hst;obtain ⟨z,xs,ts,rs,us,es,ls,⟨hll,hl,rfl,rfl⟩,hK⟩:=hst;have e0:NQ z xs ts rs us es ls xs 0=NQ z xs ts rs us es ls (agv rq xs ls 0) ((0:Nat):Int):=by rw [pd]; rfl
 rw [e0];refine aC (fun i:Nat=>NQ z xs ts rs us es ls (agv rq xs ls i) i) (fun i=>i<=xs.length) (fun i=>xs.length - i) ?_ (a:=0) (Nat.zero_le _)
 rintro i hle k hn hk;show round (ai TP { Γ:=JA,Λ:=_,Τ:=fun _=>none } d) _ _ _ _ _ k
 rw [Z7]; delta Maa Mab Mac Mad Maf Mag Mai Maj Mak Mal Mam Man Mao Map Mar Mat Mav Maw Maz MaA MaD MaE MaG MaM MaN MaP MaQ MaR MaS MaV MaY Ma4 Mba Mbe Mbk Mbl Mbn Mbo Mbp Mbs Mbu Mbv MbD MbI MbU MbX MbY MbZ Mb0 Mb1 Mb2 Mb3 Mb4 Mb9 Mca Mcb Mcd Mce Mcf Mcg Mci Mcj Mck Mco Mcq Mcx McE McI McR Mc2 Mdl Mdp MdG MdK Md8 Me1 Me9 Mfx MfA MfJ MgN Mg9 Mhi MiJ Mje Mjf;rw [show ((i:Nat):Int).toNat=i by omega,jD]
 rintro t1 e1 t2 e2;rw [al];constructor
 ·intro hi;have hi':i < xs.length:=by omega
  have p1:t1:=by rw [e1]; omega
  have p2:t2:=by rw [e2]; omega
  rw [show IntKind.i64.wrap ((i:Int)+1)=((i+1:Nat):Int) by rw [i64_in _ (by omega)]; rfl]
  have:=hn (i+1) hi' (by omega)
  rw [← agp hi' (g:=fun x=>(List.range 20).map (fun j=>if 8<=j/\j < 12 then [rd ls i 0,rd ls i 1,rd ls i 2,rd ls i 3].getD (j - 8) 0 else x.getD j 0)) (Bx _ (ls.getD i []) _ _ _ _ rfl)] at this
  refine ⟨?_,?_,?_,?_,this⟩ <;> first | exact p1 | exact p2
 ·intro hi;have:i=xs.length:=by omega
  subst this;exact hk _ _ (by simp) hK
theorem LG:KnowOk TP Vy 3:=cP (f0:=bw) (L:=VD) (fun g sp h=>MH h) rfl (fun g G h=>(by cases h)) aaI 3
theorem Je:aa TP bw DS:=by
 refine kl 3 LG ?_;rintro l bs _ _ ⟨z,xs,ts,rs,us,es,h,rfl,rfl,hz,hg,hh,hl⟩;have hF:DS.F [.agg (af z 0 1 2 3 4),fx h] (aH xs ts rs us es)=_:=Aa (xs:=xs) (ts:=ts) (rs:=rs) (us:=us) (es:=es) (h:=h) hz.1.1.1 nK eF;rw [hF,H0]; delta Maa Mab Mac Mad Maf Mag Mai Maj Mak Mam Man Mao Map Mau Maz MaB MaC MaD MaG MaM MaN MaP MaQ MaR MaV MaW MaY Ma4 Ma6 Mba Mbe Mbl Mbn Mbw Mbx MbD MbJ MbR MbX MbY MbZ Mb0 Mb1 Mb2 Mb3 Mb4 Mb9 Mca Mcb Mcd Mce Mcf Mcg Mci Mcj Mck Mco Mcs Mcv McE McI McK Mc2 Mdl MdK Md8 Mev Me1 Mfx MfJ Mf0 Mgo Mgv MgA Mg7 Mi3 Mjd Mje MjT;rintro j1 rfl t2 e2;rw [dA _ z 0 1 2 3 4 hz.1.1.1 rfl] at e2 ⊢;refine ⟨⟨z,xs,ts,rs,us,es,_,rfl,rfl,hz,hg,hh,hl⟩,?_⟩;rw [ah,← e2];refine ⟨fun hne=>C0 hne _ _ _ _ _ _,fun h0=>⟨by omega,?_⟩⟩
 have hgk:nK z j1 xs=0:=by rw [← e2]; exact h0
 refine ⟨z,xs,ts,rs,us,es,AW z j1 xs,⟨Aq hg hgk,Nat.le_trans hl (by decide),rfl,by rw [h0]; rfl⟩,?_⟩
 rw [h0];unfold eF;rw [hgk,if_neg (fun hh=>hh rfl)]
 rfl
theorem MG:∀ {g:FuncId} {sp:Vs.Spec},Dh g=some sp->aa TP g sp:=ao Je MH
theorem XF (z:L1) (h:Int) (W ts0 rA us0 es0 ts rs us es ls bd:L2):XG (VR z h W ts0 rA us0 es0 ts rs us es ls bd 0) = ⟨T 84 [(3,.ptr 5 0),(4,.ptr 6 0),(5,.ptr 7 0)],acX W ts0 rA us0 es0++[some (.var 25 (fx h).cells),some (.var 46 (nD 0 8 9 10 11 12)),some (.var 46 (Pu z 0 13 14 15 16 17))]++ig++[some (.row 79 aM (age pO bd ls))]++R4 ts rs us es⟩:=by kernel_rfl
theorem lL1 (d n0:Nat):aG (ai TP NT d) aW n0 0 (lp TP aW 0) Ll1:=by
 intro st K hst;obtain ⟨⟨z,h,W,ts0,rA,us0,es0,ts,rs,us,es,ls,bd,hll,hl,rfl,rfl⟩,hK⟩:=hst;rw [XF] at hK;have e0:VR z h W ts0 rA us0 es0 ts rs us es ls bd 0=VR z h W ts0 rA us0 es0 ts rs us es ls (agv pO bd ls 0) ((0:Nat):Int):=by rw [pd]; rfl
 rw [e0];refine aC (fun i:Nat=>VR z h W ts0 rA us0 es0 ts rs us es ls (agv pO bd ls i) i) (fun i=>i<=bd.length) (fun i=>bd.length - i) ?_ (a:=0) (Nat.zero_le _)
 rintro i hle k hn hk;show round (ai TP { Γ:=Dh,Λ:=_,Τ:=fun _=>none } d) _ _ _ _ _ k
 rw [rL1]; delta Maa Mab Mac Mad Mae Maf Mag Mah Mai Maj Mak Mal Mam Man Mao Map Mar Mat Mav Maw Maz MaA MaD MaE MaG MaM MaN MaP MaQ MaR MaS MaY Ma1 Ma3 Ma4 Mbe Mbk Mbl Mbn Mbo Mbp Mbs Mbu Mbv MbD MbI MbX MbY MbZ Mb0 Mb1 Mb2 Mb3 Mb4 Mb9 Mca Mcb Mce Mcf Mcg Mci Mcj Mck Mcq Mcz McE McI McR Mc2 Mc9 Mdp MdG MdK Me1 Me9 Mfx MfA Mf7 MgN Mg9 MhD MhL MiJ MiK Mje Mjf MjE;rw [show ((i:Nat):Int).toNat=i by omega,jD]
 rintro t1 e1 t2 e2;rw [al];constructor
 ·intro hi;have hi':i < bd.length:=by omega
  have p1:t1:=by rw [e1]; omega
  have p2:t2:=by rw [e2]; omega
  rw [show IntKind.i64.wrap ((i:Int)+1)=((i+1:Nat):Int) by rw [i64_in _ (by omega)]; rfl]
  have:=hn (i+1) hi' (by omega)
  rw [← agp hi' (g:=fun x=>(List.range 20).map (fun j=>if 4<=j/\j < 8 then [rd ls i 0,rd ls i 1,rd ls i 2,rd ls i 3].getD (j - 4) 0 else x.getD j 0)) (Bv _ (ls.getD i []) _ _ _ _ rfl)] at this
  refine ⟨?_,?_,?_,?_,this⟩ <;> first | exact p1 | exact p2
 ·intro hi;have:i=bd.length:=by omega
  subst this;exact hk _ _ (by simp) hK
theorem lL2 (d n0:Nat):aG (ai TP NT d) aW n0 1 (lp TP aW 1) Ll2:=by
 intro st K hst;obtain ⟨⟨z,W,ts0,rA,us0,es0,ts,rs,us,es,bd,hg,hl,rfl,rfl⟩,hK⟩:=hst;have ha:dh (Zr z W ts0 rA us0 es0 ts rs us es bd 0).b 12=bd:=rfl;rw [ha,ah] at hK;refine aC (fun i:Nat=>Zr z W ts0 rA us0 es0 ts rs us es bd i) (fun i=>i<=bd.length/\kF (bd.drop i)=kF bd) (fun i=>bd.length - i) ?_ (a:=0) ⟨Nat.zero_le _,rfl⟩
 rintro i ⟨hle,hR⟩ k hn hk;show round (ai TP { Γ:=Dh,Λ:=_,Τ:=fun _=>none } d) _ _ _ _ _ k
 rw [rL2]; delta Maa Mab Mac Mad Maf Mag Mai Maj Mak Mal Mam Man Mao Map Mat Mau Mav Maz MaA MaB MaD MaM MaN MaP MaQ MaR MaS MaV MaW MaY Ma3 Mbe Mbk Mbm Mbn Mbo Mbp Mbs Mbv MbD MbU MbV MbX MbY MbZ Mb0 Mb1 Mb2 Mb3 Mb4 Mb9 Mca Mcb Mce Mcf Mcg Mci Mcj Mck Mcq Mct Mcx Mcz McE McG McI McL Mc2 Mc3 MdG MdX Md8 Mee Met Mfx Mf7 Mgn MhD MhS Mh9 MiF MiJ MiZ;rw [show ((i:Nat):Int).toNat=i by omega]
 rintro t1 e1 t2 e2;rw [al];constructor
 ·intro hi;have hi':i < bd.length:=by omega
  have p1:t1:=by rw [e1]; omega
  have hgi:=hg _ (List.getElem_mem hi');have er:IV.agg (bN aM bd i 0 20)=dG bd[i]:=by
   unfold dG;rw [show bN aM bd i 0 20=bN aM [bd.getD i []] 0 0 20 from rfl,acY hi']
  have ea:gl [IV.agg (bN aM bd i 0 20)] 0=bd[i]:=by rw [er]; exact eu _ 0 _ hgi.1 rfl
  rw [ea] at e2;rw [ea];rw [KC hi'] at hR;refine ⟨p1,p1,?_,?_⟩
  ·rw [er]; exact Gt hgi
  rw [ah];refine ⟨fun hne=>?_,fun h0=>?_⟩
  ·rw [e2,if_pos (by rw [← e2]; exact hne)] at *
   rw [← hR] at hK;exact hk _ _ (by simp) (hK.1 hne)
  ·rw [if_neg (by rw [← e2]; simpa using h0)] at hR
   rw [aL];refine ⟨fun hs=>?_,fun hs=>?_⟩
   ·rw [if_neg (by simpa using hs)] at hR
    rw [← hR] at hK;exact hk _ _ (by simp) (hK.1 (by decide))
   ·rw [if_pos (by simpa using hs)] at hR
    rw [show IntKind.i64.wrap ((i:Int)+1)=((i+1:Nat):Int) by rw [i64_in _ (by omega)]; rfl]
    exact hn (i+1) ⟨hi',hR⟩ (by omega)
 ·intro hi;have:i=bd.length:=by omega
  subst this;rw [List.drop_length] at hR;exact hk _ _ (by simp) (hK.2 hR.symm)
theorem LH:KnowOk TP NT 3:=by
 refine ⟨mixedOrders,fun g sp h=>MG h,?_,fun g G h=>(by cases h),fun f h=>(by cases h)⟩
 intro d' _ f i S n0 hS;simp only [NT] at hS;split at hS
 ·rename_i hf; subst hf;split at hS
  ·rename_i hi; subst hi; cases hS; exact lL1 d' n0
  ·split at hS
   ·rename_i hi; subst hi; cases hS; exact lL2 d' n0
   ·cases hS
 ·cases hS
theorem Lo (h:Int) (xs:L2) (he:eD h xs=0):(lh h xs).length=xs.length:=by
 unfold lh; rw [if_pos he]; unfold agk; simp
theorem Q4:aa TP aW zy:=by
 refine kl 3 LH ?_;rintro l bs _ _ ⟨z,xs,ts,rs,us,es,h,rfl,rfl,hz,hg,hh,hl,hs⟩;have hF:zy.F [.agg (af z 0 1 2 3 4),fx h] (aH xs ts rs us es)=_:=Aa (xs:=xs) (ts:=ts) (rs:=rs) (us:=us) (es:=es) (h:=h) hz.1.1.1 adn gu;rw [hF,OR]; delta Maa Mab Mac Mad Mae Maf Mag Mah Mai Maj Mak Mam Man Mao Map Mau Mav Maw Max Maz MaB MaC MaD MaG MaM MaN MaP MaQ MaR MaV MaW MaY Ma1 Ma3 Ma4 Mbe Mbl Mbn Mbo Mbs Mbw Mbx MbD MbE MbJ MbL MbR MbT MbV Mcs Mct Mcv Mcz McK Mc2 Mc3 Mc9 Mdg Mdv MdC MdG MdK MdO MdP MdQ MdR MdS MdT MdU MdV MdX Meg Men Meo Mep Meq Mev MeC MeH MeO MeP MeR MeS Me1 Mfm Mfr Mfx Mf0 Mf7 Mga Mgo MgA MhD MhL MhS MiF MiK MiV Mje Mju MjT;rintro j1 rfl t2 e2 j3 rfl t4 rfl t5 rfl t6 rfl t7 rfl t8 rfl t9 rfl t10 rfl t11 rfl t12 rfl t13 rfl t14 rfl t15 rfl t16 rfl t17 rfl t18 rfl t19 rfl t20 rfl t21 rfl t22 rfl t23 e23 t24 e24 t25 e25 t26 e26 t27 e27 t28 e28 t29 e29 t30 e30 t31 e31 t32 e32 t33 e33 t34 e34 t35 e35 t36 e36 t37 e37 t38 e38 t39 e39 t40 e40 t41 e41 t42 e42 t43 e43 t44 e44 t45 e45 t46 e46 t47 e47 t48 e48 t49 e49;have hzl:([z.getD 0 0,z.getD 1 0,z.getD 2 0,z.getD 3 0,z.getD 4 0,z.getD 5 0,z.getD 6 0,z.getD 7 0,z.getD 8 0,z.getD 9 0,z.getD 10 0,z.getD 11 0,z.getD 12 0,z.getD 13 0,z.getD 14 0,z.getD 15 0,z.getD 16 0,z.getD 17 0,z.getD 18 0]:L1)=z:=lZ hz.1.1.1;rw [hzl] at e24 e44 e45 e46 e47 e48 e49;have hh2:ag j3:=by rw [e2]; exact (qw hh).1
 have p23:t23:=by rw [e23]; exact ⟨_,rfl,rfl,hh⟩
 have hg1:=mw (z:=z) (h:=j3) hg;have hl1:(eF z j3 xs).length<=1000:=by rw [pF]; exact hl
 have hg2:=wN (h:=j1) hg1;have hl2:(lj j1 (eF z j3 xs)).length<=1000:=by rw [Af]; exact hl1
 have hg3:=mw (z:=z) (h:=j3) hg2;have hl3:(eF z j3 (lj j1 (eF z j3 xs))).length<=1000:=by rw [pF]; exact hl2
 have eB:gu z j1 xs=eF z j3 (lj j1 (eF z j3 xs)):=by unfold gu; rw [← e2]
 have p49:t49:=by
  rw [e49];refine ⟨⟨z,xs,ts,rs,us,es,j3,rfl,rfl,hz,hg,hh2,hl⟩,?_⟩;rw [ah];refine ⟨fun h24=>?_,fun h24=>?_⟩
  ·have eE:adn z j1 xs=t24:=by unfold adn; rw [if_pos (by rw [← e2,← e24]; exact h24),← e2,e24]
   have hc:∀ x,an t24 x=0:=fun x=>if_pos h24
   have hL:∀ x,bq t24 x=[]:=fun x=>if_pos h24
   rw [eE];simp only [e25,e26,e27,e28,e29,e30,e31,e32,e33,e34,e35,e36,e37,e38,e39,e40,e41,e42,e43,hc,hL];unfold EF;rw [show ED t24 z=List.replicate 19 0 from if_pos h24]
   rfl
  ·have h24':nK z j3 xs=0:=by rw [← e24]; exact h24
   have c1:¬ nK z (dQ j1) xs≠0:=by rw [← e2,h24']; decide
   have hc:∀ x,an t24 x=x:=fun x=>by rw [h24]; rfl
   have hL:∀ x,bq t24 x=x:=fun x=>by rw [h24]; rfl
   simp only [hc] at e25 e26 e27 e28 e29 e30 e31 e32 e33 e34 e35 e36 e37 e38 e39 e40 e41 e42 e43;simp only [hL] at e44 e45 e46 e47 e48 ⊢;subst e25 e26 e27 e28 e29 e30 e31 e32 e33 e34 e35 e36 e37 e38 e39 e40 e41 e42 e43;rw [hzl] at e45 e46 e47 e48;refine ⟨⟨_,_,rfl,rfl,hg1,hh,Nat.le_trans hl1 (by decide)⟩,?_⟩
   rw [ah];refine ⟨fun h44=>?_,fun h44=>?_⟩
   ·have eE:adn z j1 xs=t44:=by unfold adn; rw [if_neg c1,if_pos (by rw [← e2,← e44]; exact h44),← e2,e44]
    rw [eE];exact C0 h44 _ _ _ _ _ _
   ·have h44':eD j1 (eF z j3 xs)=0:=by rw [← e44]; exact h44
    have c2:¬ eD j1 (eF z (dQ j1) xs)≠0:=by rw [← e2,h44']; decide
    have hmv:age pO (eF z j3 xs) (lh j1 (eF z j3 xs))=lj j1 (eF z j3 xs):=by
     unfold lj; rw [if_neg (by rw [h44']; decide)]
    rw [hmv] at e45 e46 e47 e48;have p48:t48:=by
     rw [e48];refine ⟨⟨z,_,ts,rs,us,es,j3,rfl,rfl,hz,hg2,hh2,hl2⟩,?_⟩;rw [ah];refine ⟨fun h45=>?_,fun h45=>?_⟩
     ·have eE:adn z j1 xs=t45:=by unfold adn; rw [if_neg c1,if_neg c2,if_pos (by rw [← e2,← e45]; exact h45),← e2,e45]
      rw [e47,eE];have hc:∀ x,an t45 x=0:=fun x=>if_pos h45
      have hL:∀ x,bq t45 x=[]:=fun x=>if_pos h45
      simp only [hc,hL];unfold EF;rw [show ED t45 z=List.replicate 19 0 from if_pos h45]
      rfl
     ·have c3:¬ nK z (dQ j1) (lj j1 (eF z (dQ j1) xs))≠0:=by rw [← e2,← e45,h45]; decide
      have hc:∀ x,an t45 x=x:=fun x=>by rw [h45]; rfl
      have hL:∀ x,bq t45 x=x:=fun x=>by rw [h45]; rfl
      simp only [hc,hL] at e46 e47 ⊢;have eE:adn z j1 xs=t46:=by unfold adn; rw [if_neg c1,if_neg c2,if_neg c3,eB,e46]
      refine ⟨⟨z,xs,ts,rs,us,es,ts,rs,us,es,_,hg3,Nat.le_trans hl3 (by decide),rfl,by rw [h45]; rfl⟩,?_⟩
      rw [ah,eE];refine ⟨fun h46=>C0 h46 _ _ _ _ _ _,fun h46=>?_⟩
      rw [e47,eE,h46,h45,eB]
      rfl
    refine ⟨⟨z,j1,xs,ts,rs,us,es,ts,rs,us,es,lh j1 (eF z j3 xs),eF z j3 xs,Lo _ _ h44',Nat.le_trans hl1 (by decide),rfl,by rw [h24,h44]; rfl⟩,?_⟩
    exact ⟨⟨p23,p48,p48⟩,p23,p48⟩
 exact ⟨⟨p23,p49,p49⟩,p23,p49⟩
end
def Mds (a:Int)(b:List IV):IV:=Mcn a 6478629186925990408 b
theorem DH (K:KP):(comes TP { Γ:=Oh,Λ:=fun _ _=>none,Τ:=fun _=>none } 3 eO [] [] K) =(∀a,MfO a 1 (∀b,Mbo b (jN (MbN 1 0 (MgH [])) []) (∀c,Mbo c (Miz []) (∀d:St,d=⟨Option.some (Mao 0)::Mcp (Mao 1) (Mao 2) (Mcp (Mcn 13512071919596578 0 []) (Mcn 10000000000000000 0 []) (Mcp (Mds 1 MbD) (Mds 1 []) (Mcp (Mds 1 []) (Mcn 1 0 []) (Mcp (Mds 1 []) (Mcn MbM 11968114886783561208 MbD) (Mcp (Mcn MbM 11968114886783561208 []) (Mds 1 []) (Mcp (Mcn (-2) 5489485699857570800 MbD) (Mcn (-2) 5489485699857570800 []) [])))))),Mac (.var 25 (Mai 1 6478629186925990408 [])) (Maz 25 (Mai (-2) 5489485699857570800 []) 25 (Mai 1 6478629186925990408 []) [])⟩->Mfw (Mec 13512071919596578) (Mec 10000000000000000) (Mfe 13512071919596578 0 10000000000000000 0 []) a b c (MbV a b c (d=d)) (K (.tup (MgH Mih)) []))))) :=by delta Maa Mab Mac Maf Mag Mai Mao Mav Maz MaB MaE MaY Mbo MbD MbM MbN MbV Mcn Mcp Mds Mec Mfe Mfw MfO MgH Mih Miz; (iterate 4 refine nm ?_); kernel_rfl
def Dg:FuncId->Option Vs.Spec:=fun g=>if g=eO then some FX else Oh g
section
open Go.IntWalk
theorem MF:∀ {g:FuncId} {sp:Vs.Spec},Oh g=some sp->aa TP g sp:=ao Q4 MG
theorem UA:KnowOk TP { Γ:=Oh,Λ:=fun _ _=>none,Τ:=fun _=>none } 3:=aF (fun g sp h=>MF h) (fun _ _=>rfl) (fun _=>rfl) 3
theorem FF:aa TP eO FX:=by
 refine ab 3 UA ?_;rintro l bs _ _ ⟨rfl,rfl⟩;rw [DH]; delta Maa Mab Mac Maf Mag Mai Mao Mav Maz MaB MaE MaY Mbo MbD MbM MbN MbV Mcn Mcp Mds Mec Mfe Mfw MfO MgH Mih Miz;rintro t1 e1 t2 e2 t3 e3 t4 e4;have p1:t1:=by rw [e1]; exact ⟨rfl,rfl,by decide,by decide⟩
 have p2:t2:=by rw [e2]; exact ⟨_,_,by rw [tr,Qg],rfl,⟨by decide,by decide⟩,jq⟩
 have p3:t3:=by rw [e3]; exact ⟨-6478629186925990408,NZ,rfl,rfl,⟨by decide,by decide⟩,jq⟩
 exact ⟨⟨rfl,rfl,by decide,by decide⟩,⟨rfl,rfl,by decide,by decide⟩,⟨_,_,by rw [tr,tr],rfl,⟨by decide,by decide⟩,⟨by decide,by decide⟩⟩,p1,p2,p3,⟨p1,p2,p3,rfl⟩,rfl⟩
theorem ME:∀ {g:FuncId} {sp:Vs.Spec},Dg g=some sp->aa TP g sp:=ao FF MF
end
def Zv (z:L1) (xs ts rs us es:L2) (h i:Int):St:=⟨T 47 [(2,.ptr 5 0),(3,.ptr 6 0),(4,.ptr 7 0),(7,.sl 8),(8,.int .i64 i)],acX xs ts rs us es++[some (.var 34 (af z 0 1 2 3 4)),some (.var 25 (fx h).cells),some (.var 46 (nD 0 9 10 11 12 13)),some (.row 25 [.i64,.u64] [[1,6478629186925990408],[-2,5489485699857570800],[1,6478629186925990408]])]++ig⟩
def MiG (a:OB):OB:=Mba 46 (Mfx 0 0 0 0 0 0 0 0 0 0 0 0 0 14 15 16 17 0 0 0 0 0 0 18) 25 (MdM []) Mgg a
theorem rRa (Λ:FuncId->Nat->Option aB) (d:Nat) (z:L1) (xs ts rs us es:L2) (h:Int) (k:Out->St->Prop):(round (ai TP { Γ:=Dg,Λ:=Λ,Τ:=fun _=>none } d) bk 5 0 (lp TP bk 0) (Zv z xs ts rs us es h 0) k) =(∀a,Mau a h (∀b,Mc1 b 24925373260635542024 a (∀c,Mau c b (∀e,MeO e z (∀f,MeR f z (∀g,MeH g z (∀i,Meg i z (∀j,Men j z (∀l,Meo l z (∀m,Mep m z (∀n,MeC n z (∀o,MeP o z (∀p,MeS p z (∀q,MdO q z (∀r,MdC r z (∀s,MdP s z (∀t,MdQ t z (∀u,MdR u z (∀v,MdS v z (∀w,MdT w z (∀x,MdU x z (∀y,MdV y z (∀a1,Mbo a1 (MaS 0 0 0 3) (∀b1,Mdt b1 (Ma2 1 6478629186925990408) a (∀c1,Mb7 c1 b1 (∀d1,Mbq d1 b1 (∀e1,Mei e1 e f g i j l m n o p q r s t u v w x y c xs (MiZ a1 (jN (MgH (Mbw h)) []) c1 (k .ret (MhS 47 [] xs ts rs us es (Mgn 46 (MaR 0 0 0 0 0 0 0 0 0 0 0 0 0 6 7 8 9 0 0 0 0 0 0 10 (MaY c1)) 79))) (Mcs (Mgl e f g i j l m n o p q r s t u v w x y d1 xs ts rs us es) e1 (k .ret (MhS 47 [] xs ts rs us es (Mba 46 (MaR (an e1 e) (an e1 f) (an e1 g) (an e1 i) (an e1 j) (an e1 l) (an e1 m) (an e1 n) (an e1 o) (an e1 p) (an e1 q) (an e1 r) (an e1 s) 6 7 8 9 (an e1 t) (an e1 u) (an e1 v) (an e1 w) (an e1 x) (an e1 y) 10 (MaY e1)) 79 aM (McB e1 e f g i j l m n o p q r s t u v w x y c xs) (Mf7 (bq e1 ts) (bq e1 rs) (bq e1 us) (bq e1 es))))) (k .normal (MdX 47 2 5 (Mg5 3 6 4 7 7 8 8 1) xs ts rs us es (MjY e1 e (an e1 f) (an e1 g) (an e1 i) (an e1 j) (an e1 l) (an e1 m) (an e1 n) (an e1 o) p q r s (an e1 t) (an e1 u) (an e1 v) (an e1 w) (an e1 x) (an e1 y) (MiK h) (MiG (MhL (McB e1 e f g i j l m n o p q r s t u v w x y c xs) (bq e1 ts) ie (bq e1 rs) MaQ (bq e1 us) (Mhh (bq e1 es)))))))))))))))))))))))))))))))))))) :=by delta Maa Mab Mac Mad Mae Maf Mag Mah Mai Maj Mak Mam Man Mao Map Maq Mau Mav Maw Max Maz MaB MaC MaD MaG MaM MaN MaP MaQ MaR MaS MaV MaW MaY Ma1 Ma2 Ma3 Ma4 Mba Mbe Mbl Mbn Mbo Mbq Mbw Mbx MbD MbE MbJ MbN MbV Mb7 Mcd Mcs Mct Mcv Mcz McB McK McL Mc1 Mc2 Mc3 Mc6 Mdl Mdt MdC MdG MdM MdO MdP MdQ MdR MdS MdT MdU MdV MdX Meg Mei Men Meo Mep MeC MeH MeO MeP MeR MeS Mfx Mf7 Mgg Mgl Mgn MgH Mg5 Mhh MhL MhS MiG MiK MiZ MjY; refine nj ?_; refine nm ?_; refine nj ?_; (iterate 24 refine nm ?_); kernel_rfl
def kr (z:L1) (xs ts rs us es:L2) (h i:Int) (bd:L2):St:=⟨T 47 [(2,.ptr 5 0),(3,.ptr 6 0),(4,.ptr 7 0),(7,.sl 8),(8,.int .i64 i)],acX xs ts rs us es++[some (.var 34 (af z 9 10 11 12 13)),some (.var 25 (fx h).cells),some (.var 46 (nD 0 14 15 16 17 18)),some (.row 25 [.i64,.u64] [[1,6478629186925990408],[-2,5489485699857570800],[1,6478629186925990408]])]++[some (.row 79 aM bd)]++R4 ts rs us es++ig⟩
theorem rRb (Λ:FuncId->Nat->Option aB) (d:Nat) (z:L1) (xs ts rs us es bd:L2) (h i:Int) (k:Out->St->Prop):(round (ai TP { Γ:=Dg,Λ:=Λ,Τ:=fun _=>none } d) bk 5 0 (lp TP bk 0) (kr z xs ts rs us es h i bd) k) =(∀a,Mau a h (∀b,Mc1 b (Mby Mgg i 0 Mgg i 1) a (∀c,Mau c b (∀e,MeO e z (∀f,MeR f z (∀g,MeH g z (∀j,Meg j z (∀l,Men l z (∀m,Meo m z (∀n,Mep n z (∀o,MeC o z (∀p,MeP p z (∀q,MeS q z (∀r,MdO r z (∀s,MdC s z (∀t,MdP t z (∀u,MdQ u z (∀v,MdR v z (∀w,MdS w z (∀x,MdT x z (∀y,MdU y z (∀a1,MdV a1 z (∀b1,Mbo b1 (MaS 0 i i 3) (∀c1,Mek c1 Mgg i (∀d1,Mel d1 Mgg i (∀e1,Mdc e1 (Ma2 c1 d1) a (∀f1,Mei f1 e f g j l m n o p q r s t u v w x y a1 c bd (Mbv i 3 (MiZ b1 (Mgz c1 d1 h) e1 (k .ret (MhS 47 [] xs ts rs us es (Mgn 46 (MaR 0 0 0 0 0 0 0 0 0 0 0 0 0 6 7 8 9 0 0 0 0 0 0 10 (MaY e1)) 79))) (Mcs (Mgl e f g j l m n o p q r s t u v w x y a1 b bd ts rs us es) f1 (k .ret (MhS 47 [] xs ts rs us es (Mba 46 (MaR (an f1 e) (an f1 f) (an f1 g) (an f1 j) (an f1 l) (an f1 m) (an f1 n) (an f1 o) (an f1 p) (an f1 q) (an f1 r) (an f1 s) (an f1 t) 6 7 8 9 (an f1 u) (an f1 v) (an f1 w) (an f1 x) (an f1 y) (an f1 a1) 10 (MaY f1)) 79 aM (McB f1 e f g j l m n o p q r s t u v w x y a1 c bd) (Mf7 (bq f1 ts) (bq f1 rs) (bq f1 us) (bq f1 es))))) (k .normal (MdX 47 2 5 (Mg5 3 6 4 7 7 8 8 (McR i)) xs ts rs us es (MjY f1 e (an f1 f) (an f1 g) (an f1 j) (an f1 l) (an f1 m) (an f1 n) (an f1 o) (an f1 p) q r s t (an f1 u) (an f1 v) (an f1 w) (an f1 x) (an f1 y) (an f1 a1) (MiK h) (MiG (MhL (McB f1 e f g j l m n o p q r s t u v w x y a1 c bd) (bq f1 ts) ie (bq f1 rs) MaQ (bq f1 us) (Mhh (bq f1 es))))))))) (k MbI (Mcx 47 2 5 4 6 [] (Md8 xs ts rs us es (Mdl e f g j l m n o p q r s t 7 8 9 10 u v w x y a1 11 46 (Mfx 0 0 0 0 0 0 0 0 0 0 0 0 0 12 13 14 15 0 0 0 0 0 0 16) (MhL bd ts ie rs MaQ us (Mhh es)))))))))))))))))))))))))))))))))) :=by delta Maa Mab Mac Mad Mae Maf Mag Mah Mai Maj Mak Mal Mam Man Mao Map Maq Mar Mau Mav Maw Max Maz MaA MaB MaC MaD MaG MaM MaN MaP MaQ MaR MaS MaV MaW MaX MaY Ma1 Ma2 Ma3 Ma4 Mba Mbe Mbl Mbn Mbo Mbp Mbq Mbs Mbv Mbw Mbx Mby MbD MbE MbI MbJ MbN MbU MbV Mb7 Mcd Mcs Mct Mcv Mcx Mcz McB McK McL McR Mc1 Mc2 Mc3 Mc6 Mdc Mdl MdC MdG MdM MdO MdP MdQ MdR MdS MdT MdU MdV MdX Md8 Meg Mei Mek Mel Men Meo Mep MeC MeG MeH MeO MeP MeR MeS Mfx Mf7 Mgg Mgl Mgn Mgz Mg5 Mhh MhL MhS MiG MiK MiZ MjY; refine nj ?_; refine nm ?_; refine nj ?_; (iterate 24 refine nm ?_); kernel_rfl
def Xa (n0:Nat) (st:St) (z:L1) (xs ts rs us es:L2) (h:Int):Prop:=Ld z h xs ts rs us es/\n0=5/\st=Zv z xs ts rs us es h 0
def ny:aB:=fun n0 st K=>∃z xs ts rs us es h,Xa n0 st z xs ts rs us es h/\br (gR z h xs != 0) (K .ret ⟨T 47 [(4,.ptr 5 0)],acX xs ts rs us es++[some (.var 46 (nD (gR z h xs) 6 7 8 9 10))]++ig⟩/\K .ret ⟨T 47 [(4,.ptr 5 0)],acX xs ts rs us es++[some (.var 46 (nD (gR z h xs) 6 7 8 9 10))]++[some (.row 79 aM [])]++R4 [] [] [] []⟩)
 (K (.exit 0) ⟨T 47 [(2,.ptr 5 0),(4,.ptr 6 0)],acX xs ts rs us es++[some (.var 34 (af z 7 8 9 10 11)),some (.var 46 (nD 0 12 13 14 15 16))]++[some (.row 79 aM (qA z h xs))]++R4 ts rs us es++ig⟩)
def k9:Know:={ Γ:=Dg,Λ:=fun f i=>if f=bk then (if i=0 then some ny else none) else none,Τ:=fun _=>none }
theorem OT (z:L1) (xs ts rs us es:L2) (h:Int) (K:KP):(comes TP k9 3 bk [.agg (af z 0 1 2 3 4),fx h] (aH xs ts rs us es) K) =(Po [] []/\(∃a:L1,∃b:L2,∃c:L2,∃d:L2,∃e:L2,∃f:L2,∃g:Int,Mcs (Xa 5 (Mc9 47 2 5 (Mg5 3 6 4 7 7 8 8 0) xs ts rs us es 34 (Mi1 z) (MdI h h 46 Mje (Mbe (.row 25 (MdM []) Mgg) 79 aM (MdG 3 [])))) a b c d e f g) (gR a g b) (K (MjT (gR a g b)) MgA/\K (MjT (gR a g b)) (MbR 79 aM (Mbx [] [] [] dE [] []))) (K (.agg (MaR (Mb9 a) (Mca a) (Mcb a) (Mcj a) (Mce a) (Mcf a) (Mcg a) (Mck a) (McE a) (McI a) (MbX a) (Mci a) (MbY a) 0 1 2 3 (MbZ a) (Mb0 a) (Mb1 a) (Mb2 a) (Mb3 a) (Mb4 a) 4 MbD)) (Mf0 (qA a g b) c d e f [])))) :=by kernel_rfl
def zB:Vs.Spec:=⟨n8,fun l bs=>(S0 (gR (du l) (v2 l 1) (aA bs 0)) l,
 [.row 79 aM (bq (gR (du l) (v2 l 1) (aA bs 0)) (qA (du l) (v2 l 1) (aA bs 0))),.ro jt (bq (gR (du l) (v2 l 1) (aA bs 0)) (aA bs 1)),.ro ie (bq (gR (du l) (v2 l 1) (aA bs 0)) (aA bs 2)),.ro [.i64] (bq (gR (du l) (v2 l 1) (aA bs 0)) (aA bs 3)),.ro dE (bq (gR (du l) (v2 l 1) (aA bs 0)) (aA bs 4))])⟩
def Og:FuncId->Option Vs.Spec:=fun g=>if g=bk then some zB else Dg g
theorem Wq (z:L1) (xs ts rs us es:L2) (h:Int) (K:KP):(comes TP { Γ:=Og,Λ:=fun _ _=>none,Τ:=fun _=>none } 3 iP [.agg (af z 0 1 2 3 4),fx h] (aH xs ts rs us es) K) =(∀a,Mau a h (∀b,MdP b z (∀c,MeO c z (∀d,MeR d z (∀e,MeH e z (∀f,Meg f z (∀g,Men g z (∀i,Meo i z (∀j,Mep j z (∀k,MeC k z (∀l,MeP l z (∀m,MeS m z (∀n,MdO n z (∀o,MdC o z (∀p,MdQ p z (∀q,MdR q z (∀r,MdS r z (∀s,MdT s z (∀t,MdU t z (∀u,MdV u z (∀v,Mei v c d e f g i j k l m n o b p q r s t u a xs (∀w,Mau w (gR (MbE c d e f g i j k l m n o b p q r s t u) a xs) (∀x,Mbo x (Mgl c d e f g i j k l m n o b p q r s t u h xs ts rs us es) (Mcm b 0 (x/\K (.agg (MaR (an v c) (an v d) (an v e) (an v f) (an v g) (an v i) (an v j) (an v k) (an v l) (an v m) (an v n) (an v o) (an v b) 0 1 2 3 (an v p) (an v q) (an v r) (an v s) (an v t) (an v u) 4 (MaY v))) (Mf0 (McB v c d e f g i j k l m n o b p q r s t u a xs) (bq v ts) (bq v rs) (bq v us) (bq v es) [])) (x/\K (.agg (MaR (an w c) (an w d) (an w e) (an w f) (an w g) (an w i) (an w j) (an w k) (an w l) (an w m) (an w n) (an w o) (an w b) 0 1 2 3 (an w p) (an w q) (an w r) (an w s) (an w t) (an w u) 4 (MaY w))) (Mf0 (bq w (qA (MbE c d e f g i j k l m n o b p q r s t u) a xs)) (bq w ts) (bq w rs) (bq w us) (bq w es) [])))))))))))))))))))))))))) :=by delta Maa Mab Mad Maf Mai Maj Mak Mau Maw Max MaB MaC MaD MaN MaP MaQ MaR MaY Mbo Mbw Mbx MbE MbJ Mcm Mcv McB McK Mc2 MdC MdO MdP MdQ MdR MdS MdT MdU MdV Meg Mei Men Meo Mep MeC MeH MeO MeP MeR MeS Mf0 Mgl; refine nj ?_; (iterate 22 refine nm ?_); kernel_rfl
def Kn:Vs.Spec:=⟨n8,fun l bs=>(S0 (tq (du l) (v2 l 1) (aA bs 0)) l,
 [.row 79 aM (bq (tq (du l) (v2 l 1) (aA bs 0)) (vt (du l) (v2 l 1) (aA bs 0))),.ro jt (bq (tq (du l) (v2 l 1) (aA bs 0)) (aA bs 1)),.ro ie (bq (tq (du l) (v2 l 1) (aA bs 0)) (aA bs 2)),.ro [.i64] (bq (tq (du l) (v2 l 1) (aA bs 0)) (aA bs 3)),.ro dE (bq (tq (du l) (v2 l 1) (aA bs 0)) (aA bs 4))])⟩
def Of:FuncId->Option Vs.Spec:=fun g=>if g=iP then some Kn else Og g
section
open Go.IntWalk
def SRo (z:L1) (xs ts rs us es:L2) (h:Int):Option (Nat × L2)->St
 | none=>Zv z xs ts rs us es h 0
 | some (i,bd)=>kr z xs ts rs us es h i bd
def IRo (z:L1) (xs:L2) (h:Int):Option (Nat × L2)->Prop
 | none=>True
 | some (i,bd)=>1<=i/\i<=3/\aY bd/\bd.length<=1000/\xy z h (3 - i) i bd=xy z h 3 0 xs
def mRo:Option (Nat × L2)->Nat
 | none=>4
 | some (i,_)=>3 - i
theorem lRo (d n0:Nat):aG (ai TP k9 d) bk n0 0 (lp TP bk 0) ny:=by
 intro st K hst;obtain ⟨z,xs,ts,rs,us,es,h,⟨⟨hz,hg,hh,hl,hs⟩,rfl,rfl⟩,hK⟩:=hst;rw [ah] at hK;have hzl:([z.getD 0 0,z.getD 1 0,z.getD 2 0,z.getD 3 0,z.getD 4 0,z.getD 5 0,z.getD 6 0,z.getD 7 0,z.getD 8 0,z.getD 9 0,z.getD 10 0,z.getD 11 0,z.getD 12 0,z.getD 13 0,z.getD 14 0,z.getD 15 0,z.getD 16 0,z.getD 17 0,z.getD 18 0]:L1)=z:=lZ hz.1.1.1;have fin:∀ {r:L2 × Int},r=xy z h 3 0 xs->gR z h xs=r.2/\qA z h xs=r.1:=by rintro r rfl; exact ⟨rfl,rfl⟩
 refine aC (SRo z xs ts rs us es h) (IRo z xs h) mRo ?_ (a:=none) trivial;rintro (_ | ⟨i,bd⟩) hI k hn hk
 ·show round (ai TP { Γ:=Dg,Λ:=_,Τ:=fun _=>none } d) _ _ _ _ (Zv z xs ts rs us es h 0) k
  rw [rRa]; delta Maa Mab Mac Mad Mae Maf Mag Mah Mai Maj Mak Mam Man Mao Map Maq Mau Mav Maw Max Maz MaB MaC MaD MaG MaM MaN MaP MaQ MaR MaS MaV MaW MaY Ma1 Ma2 Ma3 Ma4 Mba Mbe Mbl Mbn Mbo Mbq Mbw Mbx MbD MbE MbJ MbN MbV Mb7 Mcd Mcs Mct Mcv Mcz McB McK McL Mc1 Mc2 Mc3 Mc6 Mdl Mdt MdC MdG MdM MdO MdP MdQ MdR MdS MdT MdU MdV MdX Meg Mei Men Meo Mep MeC MeH MeO MeP MeR MeS Mfx Mf7 Mgg Mgl Mgn MgH Mg5 Mhh MhL MhS MiG MiK MiZ MjY;rintro j1 rfl t2 e2 j3 rfl t4 rfl t5 rfl t6 rfl t7 rfl t8 rfl t9 rfl t10 rfl t11 rfl t12 rfl t13 rfl t14 rfl t15 rfl t16 rfl t17 rfl t18 rfl t19 rfl t20 rfl t21 rfl t22 rfl t23 e23 t24 e24 t25 e25 t26 e26 t27 e27;rw [hzl] at e27;have p23:t23:=by rw [e23]; omega
  have q24:t24=az (EN 0) j1:=e24;have q26:t26=j3:=by rw [e26,q24,e2]; rfl
  have hm:ag j3:=by rw [e2]; exact dI _
  have eR:xy z j1 3 0 xs=if t25≠0 then ([],t25) else if t27≠0 then ([],t27) else xy z j1 2 1 (gu z j3 xs):=by
   rw [e25,q24,e27,e2]; rfl
  refine ⟨p23,p23,⟨NZ,j1,by rw [Qg],rfl,jq,hh⟩,?_⟩
  rw [ah];refine ⟨fun h4=>?_,fun h4=>⟨⟨z,xs,ts,rs,us,es,j3,by rw [q26]; rfl,rfl,hz,hg,hm,hl,hs⟩,?_⟩⟩
  ·rw [if_pos h4] at eR;rw [(fin eR.symm).1] at hK;exact hk _ _ (by simp) (hK.1 h4).1
  ·rw [if_neg (by rw [h4]; decide)] at eR
   rw [ah];refine ⟨fun h25=>?_,fun h25=>?_⟩
   ·rw [if_pos h25] at eR;rw [(fin eR.symm).1] at hK;have hc:∀ x,an t27 x=0:=fun x=>if_pos h25
    have hL:∀ x,bq t27 x=[]:=fun x=>if_pos h25
    simp only [hc,hL];exact hk _ _ (by simp) (hK.1 h25).2
   ·rw [if_neg (by rw [h25]; decide)] at eR
    have:=hn (some (1,gu z j3 xs)) ⟨by omega,by omega,ib hg,by rw [jF]; exact hl,eR.symm⟩ (by show 3 - 1 < 4; omega)
    rw [h25];simp only [Ps,Pr];rw [hzl];exact this
 ·obtain ⟨i1,i3,hgb,hlb,hR⟩:=hI;show round (ai TP { Γ:=Dg,Λ:=_,Τ:=fun _=>none } d) _ _ _ _ (kr z xs ts rs us es h i bd) k
  rw [rRb]; delta Maa Mab Mac Mad Mae Maf Mag Mah Mai Maj Mak Mal Mam Man Mao Map Maq Mar Mau Mav Maw Max Maz MaA MaB MaC MaD MaG MaM MaN MaP MaQ MaR MaS MaV MaW MaX MaY Ma1 Ma2 Ma3 Ma4 Mba Mbe Mbl Mbn Mbo Mbp Mbq Mbs Mbv Mbw Mbx Mby MbD MbE MbI MbJ MbN MbU MbV Mb7 Mcd Mcs Mct Mcv Mcx Mcz McB McK McL McR Mc1 Mc2 Mc3 Mc6 Mdc Mdl MdC MdG MdM MdO MdP MdQ MdR MdS MdT MdU MdV MdX Md8 Meg Mei Mek Mel Men Meo Mep MeC MeG MeH MeO MeP MeR MeS Mfx Mf7 Mgg Mgl Mgn Mgz Mg5 Mhh MhL MhS MiG MiK MiZ MjY;rintro j1 rfl t2 e2 j3 rfl t4 rfl t5 rfl t6 rfl t7 rfl t8 rfl t9 rfl t10 rfl t11 rfl t12 rfl t13 rfl t14 rfl t15 rfl t16 rfl t17 rfl t18 rfl t19 rfl t20 rfl t21 rfl t22 rfl t23 e23 t24 e24 t25 e25 t26 e26 t27 e27;rw [hzl] at e27;have hm:ag j3:=by rw [e2]; exact dI _
  rw [al];refine ⟨fun hi=>?_,fun hi=>?_⟩
  ·have hi':i < 3:=by omega
   have p23:t23:=by rw [e23]; omega
   have ek:t24*18446744073709551616+t25=EN i/\IV.agg [.int .i64 t24,.int .u64 t25]=fx (EN i)/\ag (EN i):=by
    rw [e24,e25];rcases (by omega:i=1∨i=2) with rfl | rfl
    ·exact ⟨rfl,rfl,yX⟩
    ·exact ⟨rfl,rfl,jq⟩
   rw [← e24,← e25,ek.1] at e2;rw [ek.1] at e26;have eR:xy z j1 (3 - i) i bd=if t26≠0 then ([],t26) else if t27≠0 then ([],t27) else xy z j1 (3 - (i+1)) (i+1) (gu z j3 bd):=by
    rw [e26,e27,e2,show 3 - i=(3 - (i+1))+1 by omega]; rfl
   rw [hR] at eR;refine ⟨p23,p23,⟨EN i,j1,by rw [ek.2.1],rfl,ek.2.2,hh⟩,?_⟩
   rw [ah];refine ⟨fun h4=>?_,fun h4=>⟨⟨z,bd,ts,rs,us,es,j3,rfl,rfl,hz,hgb,hm,hlb,hs⟩,?_⟩⟩
   ·rw [if_pos h4] at eR;rw [(fin eR.symm).1] at hK;exact hk _ _ (by simp) (hK.1 h4).1
   ·rw [if_neg (by rw [h4]; decide)] at eR
    rw [ah];refine ⟨fun h25=>?_,fun h25=>?_⟩
    ·rw [if_pos h25] at eR;rw [(fin eR.symm).1] at hK;have hc:∀ x,an t27 x=0:=fun x=>if_pos h25
     have hL:∀ x,bq t27 x=[]:=fun x=>if_pos h25
     simp only [hc,hL];exact hk _ _ (by simp) (hK.1 h25).2
    ·rw [if_neg (by rw [h25]; decide)] at eR
     have:=hn (some (i+1,gu z j3 bd)) ⟨by omega,by omega,ib hgb,by rw [jF]; exact hlb,eR.symm⟩ (by show 3 - (i+1) < 3 - i; omega)
     rw [h25,show IntKind.i64.wrap ((i:Int)+1)=((i+1:Nat):Int) by rw [i64_in _ (by omega)]; rfl]
     simp only [Ps,Pr];rw [hzl];exact this
  ·have:i=3:=by omega
   subst this;obtain ⟨q1,q2⟩:=fin hR;rw [q1,q2] at hK;exact hk _ _ (by simp) (hK.2 rfl)
theorem P1:KnowOk TP k9 3:=cP (f0:=bk) (L:=ny) (fun g sp h=>ME h) rfl (fun g G h=>(by cases h)) lRo 3
theorem Q6:aa TP bk zB:=by
 refine kl 3 P1 ?_;rintro l bs _ _ ⟨z,xs,ts,rs,us,es,h,rfl,rfl,hz,hg,hh,hl,hs⟩;have hF:zB.F [.agg (af z 0 1 2 3 4),fx h] (aH xs ts rs us es)=_:=Aa (xs:=xs) (ts:=ts) (rs:=rs) (us:=us) (es:=es) (h:=h) hz.1.1.1 gR qA;rw [hF,OT]; delta Maa Mab Mac Mad Mae Maf Mag Mah Mai Maj Mak Mam Man Mao Map Maz MaC MaD MaG MaM MaN MaP MaQ MaR MaW MaY Ma1 Ma3 Ma4 Mbe Mbl Mbn Mbx MbD MbR MbX MbY MbZ Mb0 Mb1 Mb2 Mb3 Mb4 Mb9 Mca Mcb Mcd Mce Mcf Mcg Mci Mcj Mck Mcs McE McI Mc2 Mc9 MdG MdI MdM Meb Mfx Mf0 Mgg MgA Mg5 Mi1 Mje MjT;refine ⟨⟨rfl,rfl⟩,z,xs,ts,rs,us,es,h,⟨⟨hz,hg,hh,hl,hs⟩,rfl,rfl⟩,?_⟩;rw [ah];refine ⟨fun hne=>⟨C0 hne _ _ _ _ _ _,C0 hne _ _ _ _ _ _⟩,fun h0=>?_⟩
 rw [h0]
 rfl
theorem MD:∀ {g:FuncId} {sp:Vs.Spec},Og g=some sp->aa TP g sp:=ao Q6 ME
theorem Uz:KnowOk TP { Γ:=Og,Λ:=fun _ _=>none,Τ:=fun _=>none } 3:=aF (fun g sp h=>MD h) (fun _ _=>rfl) (fun _=>rfl) 3
theorem X7:aa TP iP Kn:=by
 refine kl 3 Uz ?_;rintro l bs _ _ ⟨z,xs,ts,rs,us,es,h,rfl,rfl,hz,hg,hh,hl,hs⟩;have hF:Kn.F [.agg (af z 0 1 2 3 4),fx h] (aH xs ts rs us es)=_:=Aa (xs:=xs) (ts:=ts) (rs:=rs) (us:=us) (es:=es) (h:=h) hz.1.1.1 tq vt;rw [hF,Wq]; delta Maa Mab Mad Maf Mai Maj Mak Mau Maw Max MaB MaC MaD MaN MaP MaQ MaR MaY Mbo Mbw Mbx MbE MbJ Mcm Mcv McB McK Mc2 MdC MdO MdP MdQ MdR MdS MdT MdU MdV Meg Mei Men Meo Mep MeC MeH MeO MeP MeR MeS Mf0 Mgl;have hzl:([z.getD 0 0,z.getD 1 0,z.getD 2 0,z.getD 3 0,z.getD 4 0,z.getD 5 0,z.getD 6 0,z.getD 7 0,z.getD 8 0,z.getD 9 0,z.getD 10 0,z.getD 11 0,z.getD 12 0,z.getD 13 0,z.getD 14 0,z.getD 15 0,z.getD 16 0,z.getD 17 0,z.getD 18 0]:L1)=z:=lZ hz.1.1.1;rintro j1 rfl t2 rfl t3 rfl t4 rfl t5 rfl t6 rfl t7 rfl t8 rfl t9 rfl t10 rfl t11 rfl t12 rfl t13 rfl t14 rfl t15 rfl t16 rfl t17 rfl t18 rfl t19 rfl t20 rfl t21 e21 t22 e22 t23 e23;rw [hzl] at e21 e22 ⊢;have p23:t23:=by rw [e23]; exact ⟨z,xs,ts,rs,us,es,j1,rfl,rfl,hz,hg,hh,hl,hs⟩
 rw [dp];refine ⟨fun h0=>⟨p23,?_⟩,fun h0=>⟨p23,?_⟩⟩
 ·rw [show tq z j1 xs=t21 from by unfold tq; rw [if_pos h0,e21],show vt z j1 xs=gu z j1 xs from if_pos h0,← Dj t21 [IV.agg (af z 0 1 2 3 4)] z rfl]
  rfl
 ·rw [show tq z j1 xs=t22 from by unfold tq; rw [if_neg h0,e22],show vt z j1 xs=qA z j1 xs from if_neg h0,← Dj t22 [IV.agg (af z 0 1 2 3 4)] z rfl]
  rfl
theorem MC:∀ {g:FuncId} {sp:Vs.Spec},Of g=some sp->aa TP g sp:=ao X7 MD
end
theorem To (K:KP):(comes TP { Γ:=Of,Λ:=fun _ _=>none,Τ:=fun _=>none } 3 fU [] [] K) =(∀a,MfO a 1 (Mgx (Po [] []) (jN (MgH Mih) []) (Miz []) a a (ud (MgH (MbN 1 0 [])) []) (K Ma5 []))) :=by delta Maa Mab Maf Mai Mav MaB MaE MaY Ma5 Mbo MbM MbN Mec MfO Mgx MgH Mih Miz; refine nm ?_; kernel_rfl
section
open Go.IntWalk
theorem Uy:KnowOk TP { Γ:=Of,Λ:=fun _ _=>none,Τ:=fun _=>none } 3:=aF (fun g sp h=>MC h) (fun _ _=>rfl) (fun _=>rfl) 3
theorem Oj {how:Int} (h:im how):Ch (wz how):=by
 unfold im at h;refine ⟨S4 h,?_⟩;show ag (0*18446744073709551616+how*72057594037927936);exact ⟨by omega,by omega⟩
theorem oa {ks:List IntKind}:aI ks []:=fun r hr=>by cases hr
theorem len_nil {n:Nat}:r5 n []:=fun r hr=>by cases hr
theorem Vj:aa TP fU Ga:=by
 refine ab 3 Uy ?_;rintro l bs _ _ ⟨rfl,rfl⟩;rw [To]; delta Maa Mab Maf Mai Mav MaB MaE MaY Ma5 Mbo MbM MbN Mec MfO Mgx MgH Mih Miz;rintro t1 e1;have p1:t1:=by rw [e1]; exact ⟨rfl,rfl,by decide,by decide⟩
 refine ⟨⟨rfl,rfl⟩,⟨NZ,YX,rfl,rfl,jq,yX⟩,⟨-6478629186925990408,NZ,rfl,rfl,⟨by decide,by decide⟩,jq⟩,p1,p1,⟨rfl,rfl,⟨⟨by decide,by decide⟩,⟨by decide,by decide⟩⟩,⟨by decide,by decide⟩,⟨by decide,by decide⟩⟩,rfl⟩
end
def xA:FuncId->Option Vs.Spec:=fun g=>if g=fU then some Ga else Of g
section
open Go.IntWalk
theorem ru {σ α:Type} {P:Int->Prop} (h0:P 0) {f:α->σ->σ × Int} (hf:∀ a s,P (f a s).2):∀ (l:List α) (s:σ),P (dF f l s).2
 | [],s=>h0
 | a :: l,s=>by
  simp only [dF];split
  ·exact hf a s
  ·exact ru h0 hf l _
theorem yn {σ:Type} {P:Int->Prop} (h0:P 0) {vis:Int->σ->σ × Int} (hv:∀ c s,P (vis c s).2) (ns ks:L2) {fe:Nat->Int} (hfe:∀ n,P (fe n)) (fb:Nat->Bool) (i:Int):∀ (m n:Nat) (s:σ),P (jH vis ns ks fe fb i m n s).2
 | 0,n,s=>h0
 | m+1,n,s=>by
  simp only [jH];split
  ·exact ru h0 (fun k s=>by unfold dw; split; exact h0; exact hv _ s) _ _
  ·split
   ·exact hfe n
   ·split
    ·exact hv _ s
    ·exact ru h0 (fun k s=>yn h0 hv ns ks hfe fb i m k s) _ _
theorem oX:bn 0:=⟨by decide,by decide⟩
theorem UY (z:L1) (xs cs:L2) (n i:Nat):bn (yE z xs cs n i):=by
 unfold yE; rw [bI];split
 ·exact yH _ _
 ·split
  ·exact PW _ _
  ·exact lV _
theorem UL (z:L1) (h:Int) (r:L1) (m ax ay px py:Int):bn (Db z h r m ax ay px py):=by
 unfold Db; rw [bI];split
 ·exact LV _ _ _ _ _ _
 ·exact yH _ _
theorem S8 (z r:L1) (h:Int) (xs cs:L2) (c px py:Int):bn (Dl z r h xs cs c px py):=by
 unfold Dl; split <;> exact UL _ _ _ _ _ _ _ _
theorem UP (z:L1) (h:Int) (xs ks ns cs:L2) (i:Int):bn (GP z h xs ks ns cs i):=
 ru (P:=bn) oX (fun n s=>yn (P:=bn) oX (fun c s=>S8 _ _ _ _ _ _ _ _) _ _ (fun n=>UY _ _ _ _ _) _ _ _ _ _) _ _
theorem LA (z:L1) (h:Int) (xs ks ns cs:L2):∀ (m i:Nat) (out:L2),bn (xL z h xs ks ns cs m i out).2
 | 0,i,out=>oX
 | m+1,i,out=>by
  unfold xL;split
  ·exact UP _ _ _ _ _ _ _
  ·exact LA z h xs ks ns cs m (i+1) _
theorem Ok (z:L1) (h:Int) (xs:L2):bn (mJ z h xs):=by
 unfold mJ; split
 ·exact Vb _ _ _
 ·exact LA _ _ _ _ _ _ _ _ _
theorem L0 (z:L1) (h:Int) (xs:L2):bn (nK z h xs):=by
 unfold nK; split
 ·exact Qx _ _ _
 ·exact Ok _ _ _
theorem Lf (x p m h:Int):bn (pk x p m h):=by
 unfold pk; split
 ·exact lV _
 ·split
  ·exact vA _ _
  ·exact lV _
theorem Uf (r:L1) (h:Int):bn (ur r h):=by
 unfold ur; split
 ·exact Lf _ _ _ _
 ·split
  ·exact Lf _ _ _ _
  ·split <;> exact ⟨by decide,by decide⟩
theorem GC (h:Int):∀ xs,bn (eD h xs)
 | []=>oX
 | r :: l=>by
  unfold eD; split
  ·exact Uf _ _
  ·exact GC h l
theorem Gb:∀ xs,bn (kF xs)
 | []=>oX
 | r :: l=>by
  unfold kF; split
  ·unfold iW C7; split <;> exact vA _ _
  ·split
   ·exact Gb l
   ·exact ⟨by decide,by decide⟩
theorem vm (z:L1) (h:Int) (xs:L2):bn (adn z h xs):=by
 unfold adn;repeat' split
 ·exact L0 _ _ _
 ·exact GC _ _
 ·exact L0 _ _ _
 ·exact Gb _
theorem L9 (z:L1) (h:Int):∀ (m i:Nat) (xs:L2),bn (xy z h m i xs).2
 | 0,i,xs=>oX
 | m+1,i,xs=>by
  unfold xy; split
  ·exact lV _
  ·split
   ·exact vm _ _ _
   ·exact L9 z h m (i+1) _
theorem Qp (z:L1) (h:Int) (xs:L2):bn (gR z h xs):=L9 _ _ _ _ _
end
def McA (a:Int):L2:=bq a []
abbrev MeZ (a b c d e f g h i j k l m n o p q r s t u:Int)(v w x y z:L2):Prop:=n8 (Mcv a b c d e f g h i j k l m n o p q r s (MbN t u [])) (MbJ aM v w x y z [])
def Mf3 (a b c d e f g h i j k l m n o p q r s t u:Int)(v:L2):L2:=bq a (vt (MbE b c d e f g h i j k l m n o p q r s t) u v)
abbrev Mhv (a b c d e f g h i j k l m n o p q r s t u v w x y z a1 b1 c1 d1 e1 f1:Int)(g1 h1 i1 j1:Nat)(k1 l1 m1 n1 o1 p1:Int)(q1:Nat)(r1:List IV)(s1 t1 u1 v1 w1 x1 y1 z1 a2 b2:L2)(c2:List aq):Prop:=W5 (Mcv a b c d e f g h i j k l m n o p q r s (MaB (MaR t u v w x y z a1 b1 c1 d1 e1 f1 g1 h1 i1 j1 k1 l1 m1 n1 o1 p1 q1 []) r1)) (MaC aM s1 jt t1 (MaC ie u1 MaQ v1 (MaC dE w1 aM x1 (Mbx y1 z1 a2 dE b2 c2))))
def MhI (a:Nat)(b:Int)(c:Nat)(d:Int)(e f g:Nat)(h:IV)(i:List (Nat × IV))(j:L2)(k:OB):St:=MaM 55 (McJ a (Mab b) c (MbB d) e f g h i) (Mdx [] j k)
abbrev MhN (a:Int)(b c:Prop):Prop:=McL a (zX [] []/\b) c
def Mij (a:IV)(b:L2)(c:OB):St:=McS 55 8 a [] [] b c
def Xq (z:L1) (xs us:L2):Prop:=Ch z/\aY xs/\xs.length<=1000/\aI [.i64] us/\r5 1 us/\us.length<=1000
def Ma8 (a:Int)(b:Nat):Int:=Mad (wz a) b
def McM (a:L2)(b:Int):L2:=rU (List.length (FO a b))
abbrev Mhw (a b:Int)(c:L2):Prop:=KY (Mak 0 (Maf a [MbB b])) (Mdv [.u8] c)
abbrev MhU:Prop:=zX [] []
abbrev MbC (a b:Int)(c:Nat)(d:Prop):Prop:=Max a (wz b) c d
def Mdy (a:Int)(b:L2)(c:Int):L2:=bq a (McM b c)
def Meu (a b c d e f g h i j k l m n o p q r s t u:Int)(v:L2)(w:Int):L2:=McB a b c d e f g h i j k l m n o p q r s t u (FO v w)
abbrev Mgk (a b:Int)(c d:Prop):Prop:=Mcm a b (zX [] []/\c) d
abbrev MjJ (a b c d e f g h i j k l m n o p q r s t u v w x y z a1 b1 c1 d1 e1 f1 g1 h1 i1 j1 k1 l1:Int)(m1 n1 o1 p1 q1 r1:L2):Prop:=Mhv a b c d e f g h i j k l m n o p q r s t u v w x y z a1 b1 c1 d1 e1 f1 5 6 7 8 g1 h1 i1 j1 k1 l1 9 [] m1 n1 n1 o1 n1 p1 q1 q1 r1 q1 []
section
open Go.IntWalk
theorem U3:∀ {g:FuncId} {sp:Vs.Spec},xA g=some sp->aa TP g sp:=ao Vj MC
theorem Y1 {us:L2} (h:us.length<=1000):zI [] [] us []:=⟨by decide,by decide,Nat.le_trans h (by decide),by decide⟩
theorem IH {xs:L2} (h:aY xs):aI aM xs:=fun r hr=>(h r hr).2.1
theorem vb {z:L1} {xs us:L2} (hz:z.length=19) (hg:aY xs) (hl:xs.length<=1000) (hu:aI [.i64] us) (hu1:r5 1 us) (hul:us.length<=1000):RI z xs [] [] us []:=
 ⟨⟨IH hg,oa,oa,hu,oa⟩,⟨fun r hr=>(hg r hr).1,len_nil,len_nil,hu1,len_nil⟩,⟨Nat.le_trans hl (by decide),by decide,by decide,Nat.le_trans hul (by decide),by decide⟩,hz⟩
theorem ri:RI z0 [] [] [] [] []:=⟨⟨oa,oa,oa,oa,oa⟩,⟨len_nil,len_nil,len_nil,len_nil,len_nil⟩,⟨by decide,by decide,by decide,by decide,by decide⟩,rfl⟩
theorem Ll (n:Nat):(rU n).length=n:=List.length_replicate
theorem PA (n:Nat):aI [.i64] (rU n):=by
 intro r hr j hj;obtain rfl:=(List.mem_replicate.1 hr).2;obtain rfl:j=0:=by simpa using hj
 exact ⟨by decide,by decide⟩
theorem Lk (n:Nat):r5 1 (rU n):=by
 intro r hr;obtain rfl:=(List.mem_replicate.1 hr).2
 rfl
theorem Ip {ns:L2} (h:aI [.u8] ns) {m how:Int} (hm:0<=m/\m<=1000) (hh:im how):Xq (wz how) (FO ns m) (rU (FO ns m).length):=
 ⟨Oj hh,JK h m,(yY hm).1,PA _,Lk _,by rw [Ll]; exact (yY hm).1⟩
end
end Go.Vs.RF
