import Derived.Test.YtemefnjekgjciaaGreatProg
import Derived.Test.YtemefnjekgjciaaGreatC1
import Derived.Test.YtemefnjekgjciaaGreatC2
import Derived.Test.YtemefnjekgjciaaGreatD1
import Derived.Test.YtemefnjekgjciaaGreatD2
import Derived.Test.YtemefnjekgjciaaGreatD3
import Derived.Test.YtemefnjekgjciaaGreatD4
set_option linter.unusedVariables false
set_option linter.unusedSimpArgs false
noncomputable section
set_option maxRecDepth 100000
namespace Go.Vs.RF
open Go Go.Vs
abbrev bh:FuncId:=12
section
open Go.Proofs
def VU (z:L1) (ns xs us:L2) (h n i:Int):St:=⟨T 55 [(2,.int .u64 h),(3,.int .u8 n),(9,.ptr 1 0),(10,.int .i64 i)],[some (.ro [.u8] ns),some (.var 34 (af z 2 3 4 5 6)),some (.row 79 aM xs),some (.row 99 jt []),some (.row 101 ie []),some (.row 3 [.i64] us),some (.row 103 dE [])]⟩
def Yt (z:L1) (ns xs ts rs us es:L2) (h n i:Int):St:=⟨T 55 [(2,.int .u64 h),(3,.int .u8 n),(9,.ptr 1 0),(10,.int .i64 i)],[some (.ro [.u8] ns),some (.var 34 (af z 2 3 4 5 6)),some (.row 79 aM xs)]++R4 ts rs us es⟩
end
section
open Go.Proofs Go.IntWalk
theorem LZ (z:L1) (h:Int) (xs:L2):bn (tq z h xs):=by
 unfold tq; split
 ·exact vm _ _ _
 ·exact Qp _ _ _
end
section
open Go.Proofs
theorem rMa (Λ:FuncId->Nat->Option aB) (d:Nat) (z:L1) (ns xs us:L2) (h n i:Int) (k:Out->St->Prop):(round (ai TP { Γ:=xA,Λ:=Λ,Τ:=fun _=>none } d) bh 1 0 (lp TP bh 0) (VU z ns xs us h n i) k) =(∀a,MeO a z (∀b,MeR b z (∀c,MeH c z (∀e,Meg e z (∀f,Men f z (∀g,Meo g z (∀j,Mep j z (∀l,MeC l z (∀m,MeP m z (∀o,MeS o z (∀p,MdO p z (∀q,MdC q z (∀r,MdP r z (∀s,MdQ s z (∀t,MdR t z (∀u,MdS u z (∀v,MdT v z (∀w,MdU w z (∀x,MdV x z (∀y,MgL y 1 n 3 (∀a1,Mau a1 (tq (MbE a b c e f g j l m o p q r s t u v w x) (0+h) xs) (∀b1,Mbo b1 (MeZ a b c e f g j l m o p q r s t u v w x 0 h xs [] [] us []) ((3:Int)≠0/\Mbv i y (MaE b1 b1 (Mhv (an a1 a) (an a1 b) (an a1 c) (an a1 e) (an a1 f) (an a1 g) (an a1 j) (an a1 l) (an a1 m) (an a1 o) (an a1 p) (an a1 q) (an a1 r) (an a1 s) (an a1 t) (an a1 u) (an a1 v) (an a1 w) (an a1 x) (an a1 a) (an a1 b) (an a1 c) (an a1 e) (an a1 f) (an a1 g) (an a1 j) (an a1 l) (an a1 m) (an a1 o) (an a1 p) (an a1 q) (an a1 r) 5 6 7 8 (an a1 s) (an a1 t) (an a1 u) (an a1 v) (an a1 w) (an a1 x) 9 [] (Mf3 a1 a b c e f g j l m o p q r s t u v w x (0+h) xs) (McA a1) (McA a1) (bq a1 us) (McA a1) (Mf3 a1 a b c e f g j l m o p q r s t u v w x (0+h) xs) (McA a1) (McA a1) (bq a1 us) (McA a1) []) (Mec a1) (MaW a1 a1 (k .ret (Mij MaJ ns [])) (MhN a1 (k .ret (Mij Ma5 ns [])) (k .normal (MhI 2 h 3 n 9 1 10 (Met i) [] ns (Mhx (an a1 a) (an a1 b) (an a1 c) (an a1 e) (an a1 f) (an a1 g) (an a1 j) (an a1 l) (an a1 m) (an a1 o) (an a1 p) (an a1 q) (an a1 r) 2 3 4 5 (an a1 s) (an a1 t) (an a1 u) (an a1 v) (an a1 w) (an a1 x) 6 79 aM (Mf3 a1 a b c e f g j l m o p q r s t u v w x (0+h) xs) (Mf7 (McA a1) (McA a1) (bq a1 us) (McA a1)))))))) (k MbI (MaM 55 [] (Mdx [] ns [])))))))))))))))))))))))))) :=by delta Maa Mab Mac Mad Maf Mag Mai Maj Mak Mal Mam Man Mao Map Mau Mav Maw Max MaA MaB MaC MaD MaE MaG MaJ MaM MaN MaP MaQ MaR MaV MaW MaY Ma3 Ma5 Mba Mbo Mbp Mbv Mbx MbB MbE MbI MbJ MbN Mcd Mcv McA McJ McL McS Mdo Mdx MdC MdO MdP MdQ MdR MdS MdT MdU MdV Mec Meg Men Meo Mep Met MeC MeH MeO MeP MeR MeS MeZ Mf3 Mf7 MgL Mhv Mhx MhI MhN Mij; (iterate 22 refine nm ?_); kernel_rfl
theorem rMb (Λ:FuncId->Nat->Option aB) (d:Nat) (z:L1) (ns xs ts rs us es:L2) (h n i:Int) (k:Out->St->Prop):(round (ai TP { Γ:=xA,Λ:=Λ,Τ:=fun _=>none } d) bh 1 0 (lp TP bh 0) (Yt z ns xs ts rs us es h n i) k) =(∀a,MeO a z (∀b,MeR b z (∀c,MeH c z (∀e,Meg e z (∀f,Men f z (∀g,Meo g z (∀j,Mep j z (∀l,MeC l z (∀m,MeP m z (∀o,MeS o z (∀p,MdO p z (∀q,MdC q z (∀r,MdP r z (∀s,MdQ s z (∀t,MdR t z (∀u,MdS u z (∀v,MdT v z (∀w,MdU w z (∀x,MdV x z (∀y,MgL y 1 n 3 (∀a1,Mau a1 (tq (MbE a b c e f g j l m o p q r s t u v w x) (0+h) xs) (∀b1,Mbo b1 (MeZ a b c e f g j l m o p q r s t u v w x 0 h xs ts rs us es) ((3:Int)≠0/\Mbv i y (MaE b1 b1 (Mhv (an a1 a) (an a1 b) (an a1 c) (an a1 e) (an a1 f) (an a1 g) (an a1 j) (an a1 l) (an a1 m) (an a1 o) (an a1 p) (an a1 q) (an a1 r) (an a1 s) (an a1 t) (an a1 u) (an a1 v) (an a1 w) (an a1 x) (an a1 a) (an a1 b) (an a1 c) (an a1 e) (an a1 f) (an a1 g) (an a1 j) (an a1 l) (an a1 m) (an a1 o) (an a1 p) (an a1 q) (an a1 r) 5 6 7 8 (an a1 s) (an a1 t) (an a1 u) (an a1 v) (an a1 w) (an a1 x) 9 [] (Mf3 a1 a b c e f g j l m o p q r s t u v w x (0+h) xs) (bq a1 ts) (bq a1 rs) (bq a1 us) (bq a1 es) (Mf3 a1 a b c e f g j l m o p q r s t u v w x (0+h) xs) (bq a1 ts) (bq a1 rs) (bq a1 us) (bq a1 es) []) (Mec a1) (MaW a1 a1 (k .ret (Mij MaJ ns [])) (MhN a1 (k .ret (Mij Ma5 ns [])) (k .normal (MhI 2 h 3 n 9 1 10 (Met i) [] ns (Mhx (an a1 a) (an a1 b) (an a1 c) (an a1 e) (an a1 f) (an a1 g) (an a1 j) (an a1 l) (an a1 m) (an a1 o) (an a1 p) (an a1 q) (an a1 r) 2 3 4 5 (an a1 s) (an a1 t) (an a1 u) (an a1 v) (an a1 w) (an a1 x) 6 79 aM (Mf3 a1 a b c e f g j l m o p q r s t u v w x (0+h) xs) (Mf7 (bq a1 ts) (bq a1 rs) (bq a1 us) (bq a1 es)))))))) (k MbI (MaM 55 [] (Mdx [] ns [])))))))))))))))))))))))))) :=by delta Maa Mab Mac Mad Maf Mag Mai Maj Mak Mal Mam Man Mao Map Mau Mav Maw Max MaA MaB MaC MaD MaE MaG MaJ MaM MaN MaP MaQ MaR MaV MaW MaY Ma3 Ma5 Mba Mbo Mbp Mbv Mbx MbB MbE MbI MbJ MbN Mcd Mcv McJ McL McS Mdo Mdx MdC MdO MdP MdQ MdR MdS MdT MdU MdV Mec Meg Men Meo Mep Met MeC MeH MeO MeP MeR MeS MeZ Mf3 Mf7 MgL Mhv Mhx MhI MhN Mij; (iterate 22 refine nm ?_); kernel_rfl
def pLm (n0:Nat) (st:St) (z:L1) (ns xs us:L2) (h n:Int):Prop:=Xq z xs us/\aj h/\im n/\n0=1/\st=VU z ns xs us h n 0
def ZM:aB:=fun n0 st K=>∃z ns xs us h n,pLm n0 st z ns xs us h n/\K .ret ⟨T 55 [(8,.bool true)],[some (.ro [.u8] ns)]⟩/\K (.exit 0) ⟨T 55 [],[some (.ro [.u8] ns)]⟩
def lx:Know:={ Γ:=xA,Λ:=fun f i=>if f=bh then (if i=0 then some ZM else none) else none,Τ:=fun _=>none }
theorem DI (ns:L2) (how h n:Int) (K:KP):(comes TP lx 3 bh [.sl 0,.int .u8 how,.int .u64 h,.int .u8 n] [.ro [.u8] ns] K) =(Mhw 5 how ns/\(∃a:L1,∃b:L2,∃c:L2,∃d:L2,∃e:Int,∃f:Int,MbV (pLm 1 (MhI 2 h 3 n 9 1 10 Mdg [] ns (Mhx (Ma8 how 0) (Ma8 how 1) (Ma8 how 2) (Ma8 how 3) (Ma8 how 4) (Ma8 how 5) (Ma8 how 6) (Ma8 how 7) (Ma8 how 8) (Ma8 how 9) (Ma8 how 10) (Ma8 how 11) (Ma8 how 12) 2 3 4 5 (Ma8 how 13) (Ma8 how 14) (Ma8 how 15) (Ma8 how 16) (Ma8 how 17) (Ma8 how 18) 6 79 aM (FO ns 5) (Mha 3 (McM ns 5) []))) a b c d e f) (K Ma5 []) MhU (K Ma5 []))) :=by kernel_rfl
end
section
open Go.Proofs Go.IntWalk
theorem E0 (z:L1) (h:Int):∀ (m i:Nat) (xs:L2),aY xs->aY (xy z h m i xs).1/\(xy z h m i xs).1.length<=xs.length
 | 0,i,xs,hg=>⟨hg,Nat.le_refl _⟩
 | m+1,i,xs,hg=>by
  unfold xy; split
  ·exact ⟨(fun r hr=>by cases hr),Nat.zero_le _⟩
  ·split
   ·exact ⟨(fun r hr=>by cases hr),Nat.zero_le _⟩
   ·have:=E0 z h m (i+1) _ (ib (z:=z) (h:=aep (az (EN i) h)) hg);rw [jF] at this;exact this
theorem GV {z:L1} {h:Int} {xs:L2} (hg:aY xs):aY (vt z h xs):=by
 unfold vt; split
 ·exact ib hg
 ·exact (E0 z h 3 0 xs hg).1
theorem LY {z:L1} {h:Int} {xs:L2} (hg:aY xs):(vt z h xs).length<=xs.length:=by
 unfold vt; split
 ·rw [jF]; exact Nat.le_refl _
 ·exact (E0 z h 3 0 xs hg).2
def SLm (z:L1) (ns xs us:L2) (h n:Int):Option (Nat × L2)->St
 | none=>VU z ns xs us h n ((0:Nat):Int)
 | some (i,bd)=>Yt z ns bd [] [] us [] h n i
def ILm:Option (Nat × L2)->Prop
 | none=>True
 | some (i,bd)=>aY bd/\bd.length<=1000/\i<=10
def mLm:Option (Nat × L2)->Nat
 | none=>1000
 | some (i,_)=>100 - i
theorem N0 {n:Int} (h:im n) (m:Int) (hm:0 < m) (hm9:m<=9:=by decide):IntKind.i64.wrap (1+(IntKind.i64.wrap n).tmod m)=1+n % m/\0<=n % m/\n % m < m:=by
 unfold im at h;rw [i64_in n (by omega),fH h.1]
 have h1:=Int.emod_nonneg n (show m≠0 by omega)
 have h2:=Int.emod_lt_of_pos n hm;exact ⟨i64_in _ (by omega),h1,h2⟩
theorem lMm (d n0:Nat):aG (ai TP lx d) bh n0 0 (lp TP bh 0) ZM:=by
 intro st K hst;obtain ⟨z,ns,xs,us,h,n,⟨⟨hz,hg,hl,hu,hu1,hul⟩,hh,hn8,rfl,rfl⟩,hK⟩:=hst;have hzl:([z.getD 0 0,z.getD 1 0,z.getD 2 0,z.getD 3 0,z.getD 4 0,z.getD 5 0,z.getD 6 0,z.getD 7 0,z.getD 8 0,z.getD 9 0,z.getD 10 0,z.getD 11 0,z.getD 12 0,z.getD 13 0,z.getD 14 0,z.getD 15 0,z.getD 16 0,z.getD 17 0,z.getD 18 0]:L1)=z:=lZ hz.1.1.1;refine aC (SLm z ns xs us h n) ILm mLm ?_ (a:=none) trivial;rintro (_ | ⟨i,bd⟩) hI k hn hk
 ·show round (ai TP { Γ:=xA,Λ:=_,Τ:=fun _=>none } d) _ _ _ _ (VU z ns xs us h n ((0:Nat):Int)) k
  rw [rMa]; delta Maa Mab Mac Mad Maf Mag Mai Maj Mak Mal Mam Man Mao Map Mau Mav Maw Max MaA MaB MaC MaD MaE MaG MaJ MaM MaN MaP MaQ MaR MaV MaW MaY Ma3 Ma5 Mba Mbo Mbp Mbv Mbx MbB MbE MbI MbJ MbN Mcd Mcv McA McJ McL McS Mdo Mdx MdC MdO MdP MdQ MdR MdS MdT MdU MdV Mec Meg Men Meo Mep Met MeC MeH MeO MeP MeR MeS MeZ Mf3 Mf7 MgL Mhv Mhx MhI MhN Mij;rintro t1 rfl t2 rfl t3 rfl t4 rfl t5 rfl t6 rfl t7 rfl t8 rfl t9 rfl t10 rfl t11 rfl t12 rfl t13 rfl t14 rfl t15 rfl t16 rfl t17 rfl t18 rfl t19 rfl t20 e20 t21 e21 t22 e22;rw [hzl,Int.zero_add] at e21 ⊢;rw [vr hh] at e22;have q22:t22:=by rw [e22]; exact ⟨z,xs,[],[],us,[],h,rfl,rfl,hz,hg,sh hh,hl,Y1 hul⟩
  rw [al];refine ⟨by decide,fun hi=>⟨q22,q22,?_⟩,fun hi=>hk _ _ (by simp) hK.2⟩
  have hgo:aY (vt z h xs):=GV hg;have hlo:(vt z h xs).length<=1000:=Nat.le_trans (LY hg) hl;have hiE:bn t21:=by rw [e21]; exact LZ _ _ _
  have hne:(t21 != t21)=false:=by simp
  by_cases h21:t21=0
  ·have hc:∀ x,an t21 x=x:=fun x=>by rw [h21]; rfl
   have hL:∀ x,bq t21 x=x:=fun x=>by rw [h21]; rfl
   simp only [hc,hL];refine ⟨⟨z,_,[],[],us,[],rfl,rfl,vb hz.1.1.1 hgo hlo hu hu1 hul⟩,dY hiE,?_⟩;rw [aL,hne];refine ⟨fun hh=>(by cases hh),fun _=>?_⟩
   rw [ah];refine ⟨fun hh=>absurd h21 hh,fun _=>?_⟩
   rw [show IntKind.i64.wrap (((0:Nat):Int)+1)=((0+1:Nat):Int) by rw [i64_in _ (by have:=N0 hn8 3 (by decide); omega)]; rfl]
   exact hn (some (0+1,vt z h xs)) ⟨hgo,hlo,by have:=N0 hn8 3 (by decide); omega⟩ (by show 100 - (0+1) < 1000; omega)
  ·have hc:∀ x,an t21 x=0:=fun x=>if_pos h21
   have hL:∀ x,bq t21 x=[]:=fun x=>if_pos h21
   simp only [hc,hL];refine ⟨⟨z0,[],[],[],[],[],rfl,rfl,ri⟩,dY hiE,?_⟩;rw [aL,hne];refine ⟨fun hh=>(by cases hh),fun _=>?_⟩
   rw [ah];exact ⟨fun _=>⟨rN,hk _ _ (by simp) hK.1⟩,fun hh=>absurd hh h21⟩
 ·obtain ⟨hgb,hlb,hi0⟩:=hI;show round (ai TP { Γ:=xA,Λ:=_,Τ:=fun _=>none } d) _ _ _ _ (Yt z ns bd [] [] us [] h n i) k
  rw [rMb]; delta Maa Mab Mac Mad Maf Mag Mai Maj Mak Mal Mam Man Mao Map Mau Mav Maw Max MaA MaB MaC MaD MaE MaG MaJ MaM MaN MaP MaQ MaR MaV MaW MaY Ma3 Ma5 Mba Mbo Mbp Mbv Mbx MbB MbE MbI MbJ MbN Mcd Mcv McJ McL McS Mdo Mdx MdC MdO MdP MdQ MdR MdS MdT MdU MdV Mec Meg Men Meo Mep Met MeC MeH MeO MeP MeR MeS MeZ Mf3 Mf7 MgL Mhv Mhx MhI MhN Mij;rintro t1 rfl t2 rfl t3 rfl t4 rfl t5 rfl t6 rfl t7 rfl t8 rfl t9 rfl t10 rfl t11 rfl t12 rfl t13 rfl t14 rfl t15 rfl t16 rfl t17 rfl t18 rfl t19 rfl t20 e20 t21 e21 t22 e22;rw [hzl,Int.zero_add] at e21 ⊢;rw [vr hh] at e22;have q22:t22:=by rw [e22]; exact ⟨z,bd,[],[],us,[],h,rfl,rfl,hz,hgb,sh hh,hlb,Y1 hul⟩
  rw [al];refine ⟨by decide,fun hi=>⟨q22,q22,?_⟩,fun hi=>hk _ _ (by simp) hK.2⟩
  have hgo:aY (vt z h bd):=GV hgb;have hlo:(vt z h bd).length<=1000:=Nat.le_trans (LY hgb) hlb;have hiE:bn t21:=by rw [e21]; exact LZ _ _ _
  have hne:(t21 != t21)=false:=by simp
  by_cases h21:t21=0
  ·have hc:∀ x,an t21 x=x:=fun x=>by rw [h21]; rfl
   have hL:∀ x,bq t21 x=x:=fun x=>by rw [h21]; rfl
   simp only [hc,hL];refine ⟨⟨z,_,[],[],us,[],rfl,rfl,vb hz.1.1.1 hgo hlo hu hu1 hul⟩,dY hiE,?_⟩;rw [aL,hne];refine ⟨fun hh=>(by cases hh),fun _=>?_⟩
   rw [ah];refine ⟨fun hh=>absurd h21 hh,fun _=>?_⟩
   rw [show IntKind.i64.wrap ((i:Int)+1)=((i+1:Nat):Int) by rw [i64_in _ (by have:=N0 hn8 3 (by decide); omega)]; rfl]
   exact hn (some (i+1,vt z h bd)) ⟨hgo,hlo,by have:=N0 hn8 3 (by decide); omega⟩ (by show 100 - (i+1) < 100 - i; have:=N0 hn8 3 (by decide); omega)
  ·have hc:∀ x,an t21 x=0:=fun x=>if_pos h21
   have hL:∀ x,bq t21 x=[]:=fun x=>if_pos h21
   simp only [hc,hL];refine ⟨⟨z0,[],[],[],[],[],rfl,rfl,ri⟩,dY hiE,?_⟩;rw [aL,hne];refine ⟨fun hh=>(by cases hh),fun _=>?_⟩
   rw [ah];exact ⟨fun _=>⟨rN,hk _ _ (by simp) hK.1⟩,fun hh=>absurd hh h21⟩
theorem afl:KnowOk TP lx 3:=cP (f0:=bh) (L:=ZM) (fun g sp h=>U3 h) rfl (fun g G h=>(by cases h)) lMm 3
def K6 (l:List IV) (bs:List aq):Prop:=∃ns how h n,l=[.sl 0,.int .u8 how,.int .u64 h,.int .u8 n]/\bs=[.ro [.u8] ns]/\im how/\aj h/\im n
def O8:Vs.Spec:=⟨K6,fun _ _=>(.bool true,[])⟩
theorem Vt:aa TP bh O8:=by
 refine ab 3 afl ?_;rintro l bs _ hB ⟨ns,how,h,n,rfl,rfl,hh,hu,hn⟩;have hb:aI [.u8] ns/\0 < [IntKind.u8].length/\ns.length<=maxLen:=hB (.ro [.u8] ns) (List.mem_singleton.2 rfl);rw [DI]; delta Maa Mab Mac Mad Maf Mag Mai Maj Mak Mao Map Mav MaD MaG MaM MaN MaP MaQ MaR MaV Ma5 Ma8 Mba Mbe Mbn MbB MbV Mcd McJ McM Mdg Mdv Mdx Mha Mhw Mhx MhI MhU;exact ⟨⟨ns,5,how,rfl,rfl,⟨by decide,by decide⟩,hh⟩,wz how,ns,FO ns 5,_,h,n,⟨Ip hb.1 ⟨by decide,by decide⟩ hh,hu,hn,rfl,rfl⟩,rfl,rN,rfl⟩
theorem Xx (ns:L2) {how h n:Int} (k1:dt .u8 how) (k2:dt .u64 h) (k3:dt .u8 n):K6 [.sl 0,.int .u8 how,.int .u64 h,.int .u8 n] [.ro [.u8] ns]:=by
 have h1:0<=how/\how<=255:=k1;have h2:0<=h/\h<=18446744073709551615:=k2;have h3:0<=n/\n<=255:=k3;exact ⟨ns,how,h,n,rfl,rfl,⟨h1.1,by omega⟩,⟨h2.1,by omega⟩,⟨h3.1,by omega⟩⟩
end
end Go.Vs.RF
