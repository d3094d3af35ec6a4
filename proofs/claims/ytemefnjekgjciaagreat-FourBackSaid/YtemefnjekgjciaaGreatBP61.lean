import Derived.Test.YtemefnjekgjciaaGreatProg
import Derived.Test.YtemefnjekgjciaaGreatC1
import Derived.Test.YtemefnjekgjciaaGreatC2
import Derived.Test.YtemefnjekgjciaaGreatB1
import Derived.Test.YtemefnjekgjciaaGreatB2
import Derived.Test.YtemefnjekgjciaaGreatB3
import Derived.Test.YtemefnjekgjciaaGreatB4
set_option linter.unusedVariables false
set_option linter.unusedSimpArgs false
noncomputable section
set_option maxRecDepth 100000
namespace Go.Vs.RF
open Go Go.Vs
abbrev aap:FuncId:=3
section
open Go.Proofs Go.IntWalk
theorem L9 (z:L1) (h:Int):∀ (m i:Nat) (xs:L2),bn (xy z h m i xs).2
 | 0,i,xs=>oX
 | m+1,i,xs=>by
  unfold xy; split
  ·exact lV _
  ·split
   ·exact vm _ _ _
   ·exact L9 z h m (i+1) _
theorem Qp (z:L1) (h:Int) (xs:L2):bn (gR z h xs):=L9 _ _ _ _ _
theorem LZ (z:L1) (h:Int) (xs:L2):bn (tq z h xs):=by
 unfold tq; split
 ·exact vm _ _ _
 ·exact Qp _ _ _
theorem E0 (z:L1) (h:Int):∀ (m i:Nat) (xs:L2),aY xs->aY (xy z h m i xs).1/\(xy z h m i xs).1.length<=xs.length
 | 0,i,xs,hg=>⟨hg,Nat.le_refl _⟩
 | m+1,i,xs,hg=>by
  unfold xy; split
  ·exact ⟨(fun r hr=>by cases hr),Nat.zero_le _⟩
  ·split
   ·exact ⟨(fun r hr=>by cases hr),Nat.zero_le _⟩
   ·have:=E0 z h m (i+1) _ (ib (z:=z) (h:=aep (az (EN i) h)) hg);rw [jF] at this;exact this
theorem GV {z:L1} {h:Int} {xs:L2} (hg:aY xs):aY (vt z h xs):=by
 unfold vt; split
 ·exact ib hg
 ·exact (E0 z h 3 0 xs hg).1
end
section
open Go.Proofs
theorem rXa (Λ:FuncId->Nat->Option aB) (d:Nat) (z:L1) (ns xs us:L2) (h m i:Int) (k:Out->St->Prop):(round (ai TP { Γ:=abB,Λ:=Λ,Τ:=fun _=>none } d) aap 1 0 (lp TP aap 0) (M4 z ns xs us h m i) k) =(∀a,MeO a z (∀b,MeR b z (∀c,MeH c z (∀e,Meg e z (∀f,Men f z (∀g,Meo g z (∀j,Mep j z (∀l,MeC l z (∀n,MeP n z (∀o,MeS o z (∀p,MdO p z (∀q,MdC q z (∀r,MdP r z (∀s,MdQ s z (∀t,MdR t z (∀u,MdS u z (∀v,MdT v z (∀w,MdU w z (∀x,MdV x z (∀y,Mfi y (tq (MbE a b c e f g j l n o p q r s t u v w x) (0+h) xs) i m (Mid (MeZ a b c e f g j l n o p q r s t u v w x 0 h xs [] [] us []) y y (k .ret (Mjb ns)) (k .normal (MgI 2 h 9 1 10 2 11 m 12 (McR i) [] ns (MjZ y a (an y b) (an y c) (an y e) (an y f) (an y g) (an y j) (an y l) (an y n) o p q r (an y s) (an y t) (an y u) (an y v) (an y w) (an y x) (Mio a b c e f g j l n o p q r 8 9 s t u v w x) (MjN (Mf3 y a b c e f g j l n o p q r s t u v w x (0+h) xs) y us xs))))) (k MbI (MaM 84 (MiQ (Mab h) (Maa m)) (Miv ns 34 (Mcd a b c e f g j l n o p q r 3 4 5 6 s t u v w x 7) (Mhx a b c e f g j l n o p q r 3 4 5 6 s t u v w x 7 79 aM xs (Mha 3 us []))))))))))))))))))))))))) :=by delta Maa Mab Mac Mad Maf Mag Mai Maj Mak Mal Mam Man Mao Map Mau Mav Maw Max Maz MaA MaB MaC MaD MaG MaM MaN MaP MaQ MaR MaV MaW MaY Ma3 Ma4 Ma5 Mba Mbe Mbl Mbn Mbp Mbv Mbx MbE MbI MbJ MbN Mcd Mcv McA McJ McL McR McS Mde Mdl MdC MdF MdO MdP MdQ MdR MdS MdT MdU MdV Mec Meg Men Meo Mep MeC MeH MeO MeP MeR MeS MeZ Mfi Mf3 MgI MgP Mha Mhx Mid Mio Miv MiQ Mjb MjN MjZ; (iterate 20 refine nm ?_); kernel_rfl
theorem rXb (Λ:FuncId->Nat->Option aB) (d:Nat) (z:L1) (ns bd xs us:L2) (h m i:Int) (k:Out->St->Prop):(round (ai TP { Γ:=abB,Λ:=Λ,Τ:=fun _=>none } d) aap 1 0 (lp TP aap 0) (SQb z ns bd xs us h m i) k) =(∀a,MeO a z (∀b,MeR b z (∀c,MeH c z (∀e,Meg e z (∀f,Men f z (∀g,Meo g z (∀j,Mep j z (∀l,MeC l z (∀n,MeP n z (∀o,MeS o z (∀p,MdO p z (∀q,MdC q z (∀r,MdP r z (∀s,MdQ s z (∀t,MdR t z (∀u,MdS u z (∀v,MdT v z (∀w,MdU w z (∀x,MdV x z (∀y,Mfi y (tq (MbE a b c e f g j l n o p q r s t u v w x) (0+h) bd) i m (Mid (MeZ a b c e f g j l n o p q r s t u v w x 0 h bd [] [] us []) y y (k .ret (Mjb ns)) (k .normal (MgI 2 h 9 1 10 2 11 m 12 (McR i) [] ns (MjZ y a (an y b) (an y c) (an y e) (an y f) (an y g) (an y j) (an y l) (an y n) o p q r (an y s) (an y t) (an y u) (an y v) (an y w) (an y x) (Mio a b c e f g j l n o p q r 8 9 s t u v w x) (MjN (Mf3 y a b c e f g j l n o p q r s t u v w x (0+h) bd) y us xs))))) (k MbI (MaM 84 (MiQ (Mab h) (Maa m)) (Mdx [] ns (Mdl a b c e f g j l n o p q r 3 4 5 6 s t u v w x 7 34 (Mio a b c e f g j l n o p q r 8 9 s t u v w x) (MjD bd us xs))))))))))))))))))))))))) :=by delta Maa Mab Mac Mad Maf Mag Mai Maj Mak Mal Mam Man Mao Map Mau Mav Maw Max Maz MaA MaB MaC MaD MaG MaM MaN MaP MaQ MaR MaV MaW MaY Ma3 Ma4 Ma5 Mbl Mbp Mbv Mbx MbE MbI MbJ MbN Mcd Mcv McA McJ McL McR McS Mde Mdl Mdx MdC MdF MdO MdP MdQ MdR MdS MdT MdU MdV Mec Meg Men Meo Mep MeC MeH MeO MeP MeR MeS MeZ Mfi Mf3 MgI MgP Mid Mio MiQ Mjb MjD MjN MjZ; (iterate 20 refine nm ?_); kernel_rfl
theorem rX1 (Λ:FuncId->Nat->Option aB) (d:Nat) (z:L1) (ns bd xs us:L2) (h m i:Int) (k:Out->St->Prop):(round (ai TP { Γ:=abB,Λ:=Λ,Τ:=fun _=>none } d) aap 1 1 (lp TP aap 1) (M0 z ns bd xs us h m i) k) =(∀a,Mau a (-(0+h)) (∀b,Mau b a (∀c,MeO c z (∀e,MeR e z (∀f,MeH f z (∀g,Meg g z (∀j,Men j z (∀l,Meo l z (∀n,Mep n z (∀o,MeC o z (∀p,MeP p z (∀q,MeS q z (∀r,MdO r z (∀s,MdC s z (∀t,MdP t z (∀u,MdQ u z (∀v,MdR v z (∀w,MdS w z (∀x,MdT x z (∀y,MdU y z (∀a1,MdV a1 z (∀b1,Mbo b1 (Cj (MbN 0 h []) []) (∀c1,Mau c1 (tq (MbE c e f g j l n o p q r s t u v w x y a1) b bd) (∀d1,MfO d1 c1 (∀e1,Mbo e1 (MdF (Mgl c e f g j l n o p q r s t u v w x y a1 a bd [] [] us []) d1 c1 (d1/\Mgk c1 3 (k .ret (Mjb ns)) (k .ret (McS 84 8 MaJ [] [] ns []))) (k .normal (MgI 2 h 9 1 10 2 11 m 15 (McR i) [] ns (MjZ c1 c (an c1 e) (an c1 f) (an c1 g) (an c1 j) (an c1 l) (an c1 n) (an c1 o) (an c1 p) q r s t (an c1 u) (an c1 v) (an c1 w) (an c1 x) (an c1 y) (an c1 a1) (Mio c e f g j l n o p q r s t 8 9 u v w x y a1) (MjN (Mf3 c1 c e f g j l n o p q r s t u v w x y a1 b bd) c1 us xs))))) (Mbv i m (Mav (Mav b1 e1 e1) b1 e1) (k Mee (Mcx 84 9 1 10 2 [] (Mdx [] ns (Mdl c e f g j l n o p q r s t 3 4 5 6 u v w x y a1 7 34 (Mio c e f g j l n o p q r s t 8 9 u v w x y a1) (MjD bd us xs))))))))))))))))))))))))))))))) :=by delta Maa Mab Mac Mad Maf Mag Mai Maj Mak Mal Mam Man Mao Map Mau Mav Maw Max Maz MaA MaB MaC MaD MaG MaJ MaM MaN MaP MaQ MaR MaV MaW MaY Ma3 Ma4 Ma5 Mbl Mbo Mbp Mbs Mbv Mbw Mbx MbE MbJ MbN MbU Mcd Mcm Mcv Mcx McA McK McL McR McS Mde Mdl Mdx MdC MdF MdO MdP MdQ MdR MdS MdT MdU MdV Mec Mee Meg Men Meo Mep MeC MeH MeO MeP MeR MeS MfO Mf3 Mgk Mgl MgI MgP Mio Mjb MjD MjN MjZ; refine nm ?_; refine nj ?_; (iterate 23 refine nm ?_); kernel_rfl
def Nfb:Know:={ Γ:=abB,Λ:=fun f i=>if f=aap then (if i=0 then some (LQ0 false) else if i=1 then some (LQ1 false) else none) else none,Τ:=fun _=>none }
theorem adw (ns:L2) (how h n:Int) (K:KP):(comes TP Nfb 3 aap [.sl 0,.int .u8 how,.int .u64 h,.int .u8 n] [.ro [.u8] ns] K) =(Mav (Mhw 5 how ns) ((4:Int)≠0) (∃a:L1,∃b:L2,∃c:L2,∃d:L2,∃e:Int,∃f:Int,Mav (pQ0 1 (Ma3 84 2 (Mab h) (Mbl 9 1 10 (Mao 2) 11 (Maa (Mbp 1 (Mdo n 4))) 12 0 []) (Miv ns 34 (Mcd (Ma8 how 0) (Ma8 how 1) (Ma8 how 2) (Ma8 how 3) (Ma8 how 4) (Ma8 how 5) (Ma8 how 6) (Ma8 how 7) (Ma8 how 8) (Ma8 how 9) (Ma8 how 10) (Ma8 how 11) (Ma8 how 12) 3 4 5 6 (Ma8 how 13) (Ma8 how 14) (Ma8 how 15) (Ma8 how 16) (Ma8 how 17) (Ma8 how 18) 7) (Mhx (Ma8 how 0) (Ma8 how 1) (Ma8 how 2) (Ma8 how 3) (Ma8 how 4) (Ma8 how 5) (Ma8 how 6) (Ma8 how 7) (Ma8 how 8) (Ma8 how 9) (Ma8 how 10) (Ma8 how 11) (Ma8 how 12) 3 4 5 6 (Ma8 how 13) (Ma8 how 14) (Ma8 how 15) (Ma8 how 16) (Ma8 how 17) (Ma8 how 18) 7 79 aM (FO ns 5) (Mha 3 (McM ns 5) [])))) a b c d e f) (K Ma5 []) (∀g:L2,qs Bool.false a e c (Int.toNat f) g->Mfa g c (K MaJ []) (aeK (Mcv (Mb9 a) (Mca a) (Mcb a) (Mcj a) (Mce a) (Mcf a) (Mcg a) (Mck a) (McE a) (McI a) (MbX a) (Mci a) (MbY a) (MbZ a) (Mb0 a) (Mb1 a) (Mb2 a) (Mb3 a) (Mb4 a) []) (Mfl g [] [] d [])/\(∃i:L1,∃j:L2,∃k:L2,∃l:L2,∃m:L2,∃o:Int,∃p:Int,MaE (pQ1 Bool.false 1 (MgI 2 e 9 1 10 2 11 f 15 0 [] b (Mjh a (Mi2 a) (MjD g d c))) i j k l m o p) (K Ma5 []) (MjK (Mb9 i) (Mca i) (Mcb i) (Mcj i) (Mce i) (Mcf i) (Mcg i) (Mck i) (McE i) (McI i) (MbX i) (Mci i) (MbY i) (MbZ i) (Mb0 i) (Mb1 i) (Mb2 i) (Mb3 i) (Mb4 i) l m) MhU (K Ma5 [])))))) :=by kernel_rfl
end
section
open Go.Proofs Go.IntWalk
theorem lX0 (d n0:Nat):aG (ai TP Nfb d) aap n0 0 (lp TP aap 0) (LQ0 false):=by
 intro st K hst;obtain ⟨z,ns,xs,us,h,m,⟨⟨hz,hg,hl,hu,hu1,hul⟩,hh,⟨hm1,hm2⟩,rfl,rfl⟩,hK⟩:=hst;have hzl:([z.getD 0 0,z.getD 1 0,z.getD 2 0,z.getD 3 0,z.getD 4 0,z.getD 5 0,z.getD 6 0,z.getD 7 0,z.getD 8 0,z.getD 9 0,z.getD 10 0,z.getD 11 0,z.getD 12 0,z.getD 13 0,z.getD 14 0,z.getD 15 0,z.getD 16 0,z.getD 17 0,z.getD 18 0]:L1)=z:=lZ hz.1.1.1;refine aC (SQo z ns xs us h m) (IQo false z h m xs) mQo ?_ (a:=none) trivial;rintro (_ | ⟨i,bd⟩) hI k hn hk
 ·show round (ai TP { Γ:=abB,Λ:=_,Τ:=fun _=>none } d) _ _ _ _ (M4 z ns xs us h m ((0:Nat):Int)) k
  rw [rXa]; delta Maa Mab Mac Mad Maf Mag Mai Maj Mak Mal Mam Man Mao Map Mau Mav Maw Max Maz MaA MaB MaC MaD MaG MaM MaN MaP MaQ MaR MaV MaW MaY Ma3 Ma4 Ma5 Mba Mbe Mbl Mbn Mbp Mbv Mbx MbE MbI MbJ MbN Mcd Mcv McA McJ McL McR McS Mde Mdl MdC MdF MdO MdP MdQ MdR MdS MdT MdU MdV Mec Meg Men Meo Mep MeC MeH MeO MeP MeR MeS MeZ Mfi Mf3 MgI MgP Mha Mhx Mid Mio Miv MiQ Mjb MjN MjZ;rintro t1 rfl t2 rfl t3 rfl t4 rfl t5 rfl t6 rfl t7 rfl t8 rfl t9 rfl t10 rfl t11 rfl t12 rfl t13 rfl t14 rfl t15 rfl t16 rfl t17 rfl t18 rfl t19 rfl t20 e20;rw [hzl,Int.zero_add] at e20 ⊢;rw [al];refine ⟨fun hi=>⟨⟨z,xs,[],[],us,[],h,by rw [vr hh]; rfl,rfl,hz,hg,sh hh,hl,Y1 hul⟩,dY (by rw [e20]; exact LZ _ _ _),?_⟩,fun hi=>?_⟩
  ·rw [ah];refine ⟨fun hne=>⟨rN,hk _ _ (by simp) hK.1⟩,fun h0=>?_⟩
   rw [h0];simp only [Ps,Pr];rw [show IntKind.i64.wrap (((0:Nat):Int)+1)=((0+1:Nat):Int) by rw [i64_in _ (by omega)]; rfl]
   exact hn (some (0+1,vt z h xs)) ⟨by omega,GV hg,(Nat.le_trans (acK _) hl),⟨xs,rfl,e20.symm.trans h0,rfl⟩⟩ (by show 200 - (0+1) < 1000; omega)
  ·exact absurd hi (by omega)
 ·obtain ⟨hi0,hgb,hlb,hc⟩:=hI;show round (ai TP { Γ:=abB,Λ:=_,Τ:=fun _=>none } d) _ _ _ _ (SQb z ns bd xs us h m i) k
  rw [rXb]; delta Maa Mab Mac Mad Maf Mag Mai Maj Mak Mal Mam Man Mao Map Mau Mav Maw Max Maz MaA MaB MaC MaD MaG MaM MaN MaP MaQ MaR MaV MaW MaY Ma3 Ma4 Ma5 Mbl Mbp Mbv Mbx MbE MbI MbJ MbN Mcd Mcv McA McJ McL McR McS Mde Mdl Mdx MdC MdF MdO MdP MdQ MdR MdS MdT MdU MdV Mec Meg Men Meo Mep MeC MeH MeO MeP MeR MeS MeZ Mfi Mf3 MgI MgP Mid Mio MiQ Mjb MjD MjN MjZ;rintro t1 rfl t2 rfl t3 rfl t4 rfl t5 rfl t6 rfl t7 rfl t8 rfl t9 rfl t10 rfl t11 rfl t12 rfl t13 rfl t14 rfl t15 rfl t16 rfl t17 rfl t18 rfl t19 rfl t20 e20;rw [hzl,Int.zero_add] at e20 ⊢;rw [al];refine ⟨fun hi=>⟨⟨z,bd,[],[],us,[],h,by rw [vr hh]; rfl,rfl,hz,hgb,sh hh,hlb,Y1 hul⟩,dY (by rw [e20]; exact LZ _ _ _),?_⟩,fun hi=>?_⟩
  ·rw [ah];refine ⟨fun hne=>⟨rN,hk _ _ (by simp) hK.1⟩,fun h0=>?_⟩
   rw [h0];simp only [Ps,Pr];rw [show IntKind.i64.wrap ((i:Int)+1)=((i+1:Nat):Int) by rw [i64_in _ (by omega)]; rfl]
   exact hn (some (i+1,vt z h bd)) ⟨by omega,GV hgb,(Nat.le_trans (acK _) hlb),⟨bd,hc,e20.symm.trans h0,rfl⟩⟩ (by show 200 - (i+1) < 200 - i; omega)
  ·have:i=m.toNat:=by omega
   subst this;exact hk _ _ (by simp) (hK.2 bd hc)
theorem lX1 (d n0:Nat):aG (ai TP Nfb d) aap n0 1 (lp TP aap 1) (LQ1 false):=by
 intro st K hst;obtain ⟨z,ns,bd0,xs,us,h,m,⟨⟨hz,hg,hl,hu,hu1,hul⟩,hb,hc0,hh,⟨hm1,hm2⟩,rfl,rfl⟩,hK⟩:=hst;have hzl:([z.getD 0 0,z.getD 1 0,z.getD 2 0,z.getD 3 0,z.getD 4 0,z.getD 5 0,z.getD 6 0,z.getD 7 0,z.getD 8 0,z.getD 9 0,z.getD 10 0,z.getD 11 0,z.getD 12 0,z.getD 13 0,z.getD 14 0,z.getD 15 0,z.getD 16 0,z.getD 17 0,z.getD 18 0]:L1)=z:=lZ hz.1.1.1;refine aC (fun s:Nat × L2=>M0 z ns s.2 xs us h m s.1) (fun s=>(s.1:Int)<=m/\s.2.length<=1000/\qs false z h xs (m.toNat - s.1) s.2) (fun s=>200 - s.1) ?_ (a:=(0,bd0)) ⟨by show ((0:Nat):Int)<=m; omega,acr hl _ _ hc0,hc0⟩
 rintro ⟨i,bd⟩ ⟨him,hlb,hc⟩ k hn hk;show round (ai TP { Γ:=abB,Λ:=_,Τ:=fun _=>none } d) _ _ _ _ (M0 z ns bd xs us h m i) k
 have him:(i:Int)<=m:=him;have hlb:bd.length<=1000:=hlb;have hc:qs false z h xs (m.toNat - i) bd:=hc;rw [rX1]; delta Maa Mab Mac Mad Maf Mag Mai Maj Mak Mal Mam Man Mao Map Mau Mav Maw Max Maz MaA MaB MaC MaD MaG MaJ MaM MaN MaP MaQ MaR MaV MaW MaY Ma3 Ma4 Ma5 Mbl Mbo Mbp Mbs Mbv Mbw Mbx MbE MbJ MbN MbU Mcd Mcm Mcv Mcx McA McK McL McR McS Mde Mdl Mdx MdC MdF MdO MdP MdQ MdR MdS MdT MdU MdV Mec Mee Meg Men Meo Mep MeC MeH MeO MeP MeR MeS MfO Mf3 Mgk Mgl MgI MgP Mio Mjb MjD MjN MjZ;rintro t1 e1 j2 rfl t3 rfl t4 rfl t5 rfl t6 rfl t7 rfl t8 rfl t9 rfl t10 rfl t11 rfl t12 rfl t13 rfl t14 rfl t15 rfl t16 rfl t17 rfl t18 rfl t19 rfl t20 rfl t21 rfl t22 e22 t23 e23 t24 e24 t25 e25;rw [hzl] at e23 e25;have hj:j2 = -h:=by rw [e1]; omega
 rw [al];refine ⟨fun hi=>?_,fun hi=>?_⟩
 ·obtain ⟨a,ha⟩:∃a,m.toNat - i=a+1:=⟨m.toNat - i - 1,by omega⟩
  rw [ha] at hc;obtain ⟨p,hp,hE,rfl⟩:=hc;have hbp:=abN hb _ _ hp;have hlp:=acr hl _ _ hp;have hE:tq z h p=0:=hE;have hbd:aeH false z h p=vt z h p:=rfl;rw [hbd] at e23 e25 hlb;obtain ⟨hb2,hr⟩:=ad3 hbp hE;rw [← hj,← e23] at hr;have hmj:ag j2:=by rw [hj]; exact PE (sh hh)
  have ui:t22:=by rw [e22]; exact ⟨h,by rw [vr hh],rfl,sh hh⟩
  have p25:t25:=by
   rw [e25];have p24:t24:=by rw [e24]; exact dY (by rw [e23]; exact LZ _ _ _)
   refine ⟨⟨z,_,[],[],us,[],j2,by rw [e1]; rfl,rfl,hz,hb2.1,hmj,hlb,Y1 hul⟩,p24,?_⟩
   rw [ah];refine ⟨fun hne=>⟨p24,?_⟩,fun h0=>?_⟩
   ·rcases hr with hr | ⟨hr,_⟩
    ·rw [dp];exact ⟨fun _=>⟨rN,hk _ _ (by simp) hK.1⟩,fun hh=>absurd hr hh⟩
    ·exact absurd hr hne
   ·rcases hr with hr | ⟨hr,hr'⟩
    ·rw [hr] at h0; cases h0
    rw [h0,hr'];simp only [Ps,Pr];rw [show IntKind.i64.wrap ((i:Int)+1)=((i+1:Nat):Int) by rw [i64_in _ (by omega)]; rfl]
    exact hn (i+1,p) ⟨by show ((i+1:Nat):Int)<=m; omega,hlp,by show qs false z h xs (m.toNat - (i+1)) p; rw [show m.toNat - (i+1)=a by omega]; exact hp⟩ (by show 200 - (i+1) < 200 - i; omega)
  exact ⟨⟨ui,p25,p25⟩,ui,p25⟩
 ·rw [show m.toNat - i=0 by omega] at hc
  obtain rfl:bd=xs:=hc;exact hk _ _ (by simp) hK.2
theorem afE:KnowOk TP Nfb 3:=by
 refine ⟨mixedOrders,fun g sp h=>ae7 h,?_,fun g G h=>(by cases h),fun f h=>(by cases h)⟩
 intro d' _ f i S n0 hS;simp only [Nfb] at hS;split at hS
 ·rename_i hf; subst hf;split at hS
  ·rename_i hi; subst hi; cases hS; exact lX0 d' n0
  ·split at hS
   ·rename_i hi; subst hi; cases hS; exact lX1 d' n0
   ·cases hS
 ·cases hS
theorem afR:aa TP aap O8:=by
 refine ab 3 afE ?_;rintro l bs _ hB ⟨ns,how,h,n,rfl,rfl,hh,hu,hn⟩;have hb:aI [.u8] ns/\0 < [IntKind.u8].length/\ns.length<=maxLen:=hB (.ro [.u8] ns) (List.mem_singleton.2 rfl);have hw:=Ip (ns:=ns) hb.1 (m:=5) ⟨by decide,by decide⟩ hh
 obtain ⟨hk,hs⟩:=abU (AH hb.1 (eK ns 5));have hk:abi (FO ns 5):=hk;have hs:abr (FO ns 5):=hs;have h6:=(yY (ns:=ns) (m:=5) ⟨by decide,by decide⟩).2
 obtain ⟨t,t1,t2⟩:=N0 hn 4 (by decide)
 rw [adw]; delta Maa Mab Mac Mad Maf Mag Mai Maj Mak Mal Mam Man Mao Map Mat Mav Maz MaB MaC MaD MaE MaG MaJ MaM MaN MaP MaQ MaR MaV MaW Ma3 Ma4 Ma5 Ma8 Mba Mbe Mbl Mbn Mbp Mbx MbB MbJ MbX MbY MbZ Mb0 Mb1 Mb2 Mb3 Mb4 Mb9 Mca Mcb Mcd Mce Mcf Mcg Mci Mcj Mck Mcv McE McI McM McS Mde Mdl Mdo Mdv Meb Mfa Mfl MfJ MgI MgP Mha Mhv Mhw Mhx MhU Miv Mi2 Mjh MjD MjK;refine ⟨⟨ns,5,how,rfl,rfl,⟨by decide,by decide⟩,hh⟩,by decide,wz how,ns,FO ns 5,_,h,1+n % 4,⟨hw,hu,⟨by omega,by omega⟩,rfl,by rw [t]; rfl⟩,rfl,?_⟩
 intro bd hc;have hcb:=abN hk _ _ hc;have hcl:=abt _ _ hc;have hcs:=acR hs _ _ hc;rw [ah];refine ⟨fun hne=>absurd (by rw [hcl]) hne,fun _=>⟨⟨how,bd,rfl,by rw [hcl]; rfl,hh,hcb.1,acj hcb hcs,by rw [hcl]; exact Nat.le_trans h6 (by decide)⟩,?_⟩⟩
 refine ⟨wz how,ns,bd,FO ns 5,_,h,1+n % 4,⟨hw,hk,hc,hu,⟨by omega,by omega⟩,rfl,rfl⟩,rfl,?_⟩
 exact ⟨⟨wz how,_,[],[],_,[],rfl,rfl,vb rfl hw.2.1 hw.2.2.1 hw.2.2.2.1 hw.2.2.2.2.1 hw.2.2.2.2.2⟩,rN,rfl⟩
end
end Go.Vs.RF
