import Derived.IntWalk
import Derived.Test.YtemefnjekgjciaaGreatWC1
import Derived.Test.YtemefnjekgjciaaGreatWC2
import Derived.Test.YtemefnjekgjciaaGreatW1
set_option linter.unusedVariables false
set_option linter.unusedSimpArgs false
noncomputable section
set_option maxRecDepth 100000
namespace Go.Vs.RF
open Go Go.Proofs Go.Vs
section
open Go.IntWalk
theorem pb {ks:List IntKind} {xs:L2} (h:aI ks xs) (i j:Nat) (hj:j < ks.length):dt (ks.getD j .i64) (rd xs i j):=by
 unfold rd;by_cases hi:i < xs.length
 ·have:xs.getD i []=xs[i]:=by simp [List.getD,hi]
  rw [this];exact h _ (List.getElem_mem hi) j hj
 ·have:xs.getD i []=[]:=by simp [List.getD,hi]
  rw [this];show dt (ks.getD j .i64) 0;generalize ks.getD j .i64=k;cases k <;> exact ⟨by decide,by decide⟩
theorem cH {xs:L2} (h:aI aM xs) (i j:Nat) (hj:j < 20) (hk:aM.getD j .i64=.u64):aj (rd xs i j):=by
 have:=pb h i j hj;rw [hk] at this;have h1:(0:Int)<=rd xs i j/\rd xs i j<=18446744073709551615:=this;unfold aj; omega
theorem acY {xs:L2} {i:Nat} (hi:i < xs.length):xs.getD i []=xs[i]:=by simp [List.getD,hi]
theorem bA {xs:L2} {i:Nat} (hi:i < xs.length) (j:Nat):rd xs i j*18446744073709551616+rd xs i (j+1)=fr xs[i] j:=by
 unfold rd; rw [acY hi]; rfl
theorem iz:KnowOk TP mI 3:=aF (fun g sp h=>lW h) (fun _ _=>rfl) (fun _=>rfl) 3
theorem aaW:aa TP aO WB:=by
 refine ab (N:=mI) 3 iz ?_;rintro l bs _ _ ⟨x,y,rfl,rfl⟩;show comes _ _ _ _ _ _ _;rw [Z1];show (fx (v2 [vx x y] 0),([]:List aq))=_;rw [(aeY _ x y 0 rfl).1]
theorem aaV:aa TP aX WA:=by
 refine ab (N:=mI) 3 iz ?_;rintro l bs _ _ ⟨x,y,rfl,rfl⟩;show comes _ _ _ _ _ _ _;rw [Z0];show (fx (vy [vx x y] 0),([]:List aq))=_;rw [(aeY _ x y 0 rfl).2]
theorem aa0:aa TP df WG:=by
 refine ab (N:=mI) 3 iz ?_;rintro l bs _ _ ⟨r,rfl,rfl⟩;show comes _ _ _ _ _ _ _;rw [Z4]; delta Maa Mac Mai Mal MaD Ma2 Ma8 Mb2 Mb3
 rfl
theorem G6:∀ {g:FuncId} {sp:Vs.Spec},Jz g=some sp->aa TP g sp:=ao aaW (ao aaV (ao aa0 lW))
theorem XH:KnowOk TP Nu 3:=aF (fun g sp h=>G6 h) (fun _ _=>rfl) (fun _=>rfl) 3
theorem lG {r:L1} (h:uS r) (j:Nat) (hj:j < 20) (hk:aM.getD j .i64=.u64):aj (r.getD j 0):=by
 have:=h j hj;rw [hk] at this;have h1:(0:Int)<=r.getD j 0/\r.getD j 0<=18446744073709551615:=this;unfold aj; omega
theorem ik {a b c d:Int} (hb:aj b) (hd:aj d):[IV.agg [.int .i64 a,.int .u64 b,.int .i64 c,.int .u64 d]]=[IV.agg [.int .i64 ((a*18446744073709551616+b) / 18446744073709551616),.int .u64 ((a*18446744073709551616+b) % 18446744073709551616),.int .i64 ((c*18446744073709551616+d) / 18446744073709551616),.int .u64 ((c*18446744073709551616+d) % 18446744073709551616)]]:=by
 unfold aj at hb hd;rw [show (a*18446744073709551616+b) / 18446744073709551616=a by omega,show (a*18446744073709551616+b) % 18446744073709551616=b by omega,show (c*18446744073709551616+d) / 18446744073709551616=c by omega,show (c*18446744073709551616+d) % 18446744073709551616=d by omega]
theorem aaP (r:L1) (hr:uS r) (hm:PF r) (K:IV->OB->Prop) (hK:K (.tup [fx (aep (az (fr r 0) (fr r 4))),.int .i64 (bG (az (fr r 0) (fr r 4)))]) [some (.var 238 [.fn aO []])]):
  bQ TP Nu 3 bt [dG r,.ptr 0 0] [some (.var 238 [.fn aO []])] fun v b1=>ld 1 v b1 K:=by
 rw [Ww]; delta Maa Mab Mac Mad Mae Mag Mai Mal Mam Map Maq Mat Mav Max Maz MaD MaE MaM Ma2 Ma8 Ma9 Mba Mbl Mbo Mbw MbA MbE MbJ Mb2 Mb4 Mch Mcl Mco Mcq Mdv Mdz MdC MdK Meu Mff Mfh MgS Mi9 MjR;rintro t1 e1 j2 rfl t3 e3 t4 e4 t5 e5 t6 e6 t7 e7 t8 e8 t9 e9;have p8:t8:=by
  rw [e8];exact ⟨fr r 4,fr r 6,by unfold vx; rw [show fr r 4=rd [r] 0 4*18446744073709551616+rd [r] 0 5 from rfl,show fr r 6=rd [r] 0 6*18446744073709551616+rd [r] 0 7 from rfl]; exact ik (lG hr 5 (by decide) rfl) (lG hr 7 (by decide) rfl),rfl⟩
 have e34:t3*18446744073709551616+t4=fr r 0:=by rw [e3,e4]; rfl
 have ok4:aj t4:=by rw [e4]; exact lG hr 1 (by decide) rfl
 have p7:t7:=by rw [e7]; exact ⟨fr r 0,j2,by rw [ae6 ok4 e34.symm],rfl,hm.1,by rw [e1]; exact hm.2.1⟩
 refine ⟨p8,p7,⟨p8,p7,rfl⟩,?_⟩;rw [e6,e5,e34,e1];exact hK
theorem aaO (r:L1) (hr:uS r) (hm:PF r) (K:IV->OB->Prop) (hK:K (.tup [fx (aep (az (fr r 0) (fr r 6))),.int .i64 (bG (az (fr r 0) (fr r 6)))]) [some (.var 238 [.fn aX []])]):
  bQ TP Nu 3 bt [dG r,.ptr 0 0] [some (.var 238 [.fn aX []])] fun v b1=>ld 1 v b1 K:=by
 rw [Wv]; delta Maa Mab Mac Mad Mae Mag Mai Mal Mam Map Maq Mat Mav Max Maz MaD MaE MaM Ma2 Ma8 Ma9 Mba Mbl Mbo Mbw MbA MbE MbJ Mb2 Mb4 Mch Mcl Mco Mcq Mdv Mdz MdC MdK Meu Mff Mfi MgS Mi9 MjR;rintro t1 e1 j2 rfl t3 e3 t4 e4 t5 e5 t6 e6 t7 e7 t8 e8 t9 e9;have p8:t8:=by
  rw [e8];exact ⟨fr r 4,fr r 6,by unfold vx; rw [show fr r 4=rd [r] 0 4*18446744073709551616+rd [r] 0 5 from rfl,show fr r 6=rd [r] 0 6*18446744073709551616+rd [r] 0 7 from rfl]; exact ik (lG hr 5 (by decide) rfl) (lG hr 7 (by decide) rfl),rfl⟩
 have e34:t3*18446744073709551616+t4=fr r 0:=by rw [e3,e4]; rfl
 have ok4:aj t4:=by rw [e4]; exact lG hr 1 (by decide) rfl
 have p7:t7:=by rw [e7]; exact ⟨fr r 0,j2,by rw [ae6 ok4 e34.symm],rfl,hm.1,by rw [e1]; exact hm.2.2⟩
 refine ⟨p8,p7,⟨p8,p7,rfl⟩,?_⟩;rw [e6,e5,e34,e1];exact hK
theorem XR:cf TP bt G21:=by
 refine cL (N:=Nu) 3 XH ?_;rintro args b K ⟨⟨r,rfl,hr,hm,hb⟩,hK⟩;rcases hb with rfl | rfl
 ·exact aaP r hr hm K hK
 ·exact aaO r hr hm K hK
theorem L3:∀ g G,Jx g=some G->cf TP g G:=by
 intro g G h;unfold Jx at h;split at h
 ·rename_i hg; subst hg; cases h; exact XR
 ·cases h
theorem jw {s:Int} {A B:Prop}:br (bG s != 0) A B↔(¬ ag s->A)/\(ag s->B):=by
 rw [ah];constructor
 ·rintro ⟨h1,h2⟩;exact ⟨fun h=>h1 fun h0=>h (ff.1 h0),fun h=>h2 (ff.2 h)⟩
 ·rintro ⟨h1,h2⟩;exact ⟨fun h=>h1 fun h0=>h (ff.2 h0),fun h=>h2 (ff.1 h)⟩
theorem l8 (w:Nat) {xs:L2} {i:Nat} (hi:i < xs.length) (a:Int):qf w (xs.drop i) a=if Kg w xs[i]≠0 then (0,Kg w xs[i]) else if bG (a+Js w xs[i])≠0 then (0,bG (a+Js w xs[i])) else qf w (xs.drop (i+1)) (a+Js w xs[i]):=by
 rw [List.drop_eq_getElem_cons hi]; rfl
theorem l7 (w:Nat) {xs:L2} {i:Nat} (hi:¬ i < xs.length) (a:Int):qf w (xs.drop i) a=(a,0):=by
 rw [List.drop_eq_nil_of_le (by omega)]; rfl
def Jq (w:Nat) (xs:L2) (p:Int × Nat):Prop:=p.2<=xs.length/\ag p.1/\qf w (xs.drop p.2) p.1=qf w xs 0
theorem mo {n m:Nat} (h:n < m) (hm:m<=maxLen):IntKind.i64.wrap ((n:Int)+1)=((n+1:Nat):Int):=by
 have hm':m<=9223372036854775807:=hm;rw [i64_in _ (by omega)]; rfl
theorem XA (d n0:Nat):aG (ai TP ZB d) aV n0 0 (lp TP aV 0) NV:=by
 intro st K hst;obtain ⟨xs,⟨hr,hm,hmay,rfl,rfl⟩,hK⟩:=hst;have hm':xs.length<=9223372036854775807:=hm;refine aC (fun p:Int × Nat=>Zn xs p.1 p.2) (Jq 0 xs) (fun p=>xs.length - p.2) ?_ (a:=(0,0)) ⟨by simp,bg,rfl⟩
 rintro ⟨a,i⟩ ⟨h1,h2,h3⟩ k hn hk;simp only at h1 h2 h3;show round (ai TP { Γ:=Jz,Λ:=_,Τ:=Jx } d) _ _ _ _ (Zn xs a i) k;rw [WO]; delta Maa Mab Mac Mad Mae Mag Mah Mai Maj Mal Mam Man Map Maq Mar Mas Mat Mav Max Maz MaA MaC MaD MaH MaI MaM MaR MaV Ma1 Ma3 Ma6 Ma9 Mba Mbl Mbp Mbu MbA MbC MbF MbM MbT MbV Mb2 Mca Mcb Mcg Mcn Mcr McA Mdr Mdv MdN MdP Md7 Mfs Mgy Mh1 Mh6 Mi9;rintro a rfl t2 e2 t3 e3 t4 e4 t5 e5 t6 e6;rw [al];constructor
 ·intro hi;have hi':i < xs.length:=by omega
  have et:(i:Int).toNat=i:=by omega
  rw [et] at e2 e3;have hmi:=(hmay _ (List.getElem_mem hi')).1;have ex:t2*18446744073709551616+t3=fr xs[i] 0:=by rw [e2,e3]; exact bA hi' 0
  have ok3:aj t3:=by rw [e3]; exact cH hr i 1 (by decide) rfl
  refine ⟨⟨by omega,hi⟩,⟨by omega,hi⟩,⟨xs.getD i [],by rw [et,e2,e3]; rfl,rfl⟩,⟨a,fr xs[i] 0,by rw [ae6 ok3 ex.symm],rfl,h2,hmi⟩,?_⟩
  rw [ex] at e4;rw [l8 0 hi',if_neg (show ¬ Kg 0 xs[i]≠0 from fun h=>h rfl),show Js 0 xs[i]=fr xs[i] 0 from rfl,← e4] at h3
  rw [e5,jw];constructor
  ·intro hno;rw [if_pos (by rw [dU hno]; decide)] at h3
   have hE:ca 0 xs=bG t4:=(congrArg Prod.snd h3).symm;rw [hE,jw] at hK;exact hk _ _ (by simp) (hK.1 hno)
  ·intro hmy;rw [if_neg (by rw [cK hmy]; simp)] at h3
   rw [mo hi' hm,e6,abY hmy];exact hn (t4,i+1) ⟨hi',hmy,h3⟩ (by simp; omega)
 ·intro hi;have hi':¬ i < xs.length:=by omega
  rw [l7 0 hi'] at h3;have hE:ca 0 xs=0:=(congrArg Prod.snd h3).symm;have hN:cZ 0 xs=a:=(congrArg Prod.fst h3).symm;rw [hE,hN,ah] at hK;exact hk _ _ (by simp) (hK.2 rfl)
theorem Xz (d n0:Nat):aG (ai TP ZA d) aV n0 0 (lp TP aV 0) (yT aO 4):=by
 intro st K hst;obtain ⟨xs,⟨hr,hm,hmay,rfl,rfl⟩,hK⟩:=hst;have hm':xs.length<=9223372036854775807:=hm;refine aC (fun p:Int × Nat=>Vw aO xs p.1 p.2) (Jq 4 xs) (fun p=>xs.length - p.2) ?_ (a:=(0,0)) ⟨by simp,bg,rfl⟩
 rintro ⟨a,i⟩ ⟨h1,h2,h3⟩ k hn hk;simp only at h1 h2 h3;show round (ai TP { Γ:=Jz,Λ:=_,Τ:=Jx } d) _ _ _ _ (Vw aO xs a i) k;rw [WN]; delta Maa Mab Mac Mad Mae Mag Mah Mai Maj Mal Mam Man Map Maq Mar Mas Mat Mav Max Maz MaA MaC MaD MaE MaG MaH MaM MaR MaV Ma1 Ma3 Ma6 Ma9 Mba Mbl Mbp Mbu MbA MbC MbE MbF MbH MbM MbP MbT MbV Mb4 Mca Mcb Mcg Mcn Mcr Mcv Mcy McA Mdg Mdo Mdr Mdv MdP Md7 MeT Mfh Mfj Mfk Mfs Mfy Mg2 Mh1 Mh6 Mif MiA MiO Mi9 Mju Mj1;rintro a rfl t2 e2 j3 rfl t4 e4 t5 e5 t6 e6 t7 e7 t8 e8 t9 e9 t10 e10;rw [al];constructor
 ·intro hi;have hi':i < xs.length:=by omega
  have et:(i:Int).toNat=i:=by omega
  have hmi:=hmay _ (List.getElem_mem hi');have e0:fr xs[i] 0=rd xs (i:Int).toNat 0*18446744073709551616+rd xs (i:Int).toNat 1:=by rw [et]; exact (bA hi' 0).symm
  have ew:fr xs[i] 4=rd xs (i:Int).toNat 4*18446744073709551616+rd xs (i:Int).toNat 5:=by rw [et]; exact (bA hi' 4).symm
  have hrow:uS (xs.getD i []):=by rw [acY hi']; exact hr _ (List.getElem_mem hi')
  refine ⟨⟨by omega,hi⟩,⟨by omega,hi⟩,⟨xs.getD i [],by rw [e4,e5,e6,e7,et]; rfl,hrow,by rw [acY hi']; exact hmi,.inl rfl⟩,?_⟩
  rw [l8 4 hi',show Kg 4 xs[i]=bG (az (fr xs[i] 0) (fr xs[i] 4)) from rfl,show Js 4 xs[i]=aep (az (fr xs[i] 0) (fr xs[i] 4)) from rfl] at h3
  rw [e4,e5,e6,e7,← e0,← ew] at e10;rw [← e0,← ew] at e2;rw [e10,jw];constructor
  ·intro hno;rw [if_pos (by rw [dU hno]; decide)] at h3
   have hE:ca 4 xs=bG (az (fr xs[i] 0) (fr xs[i] 4)):=(congrArg Prod.snd h3).symm;rw [hE,jw] at hK;exact hk _ _ (by simp) (hK.1 hno)
  intro hmm;rw [if_neg (by rw [cK hmm]; simp),← e2] at h3
  refine ⟨aU h2 (by rw [e2]; exact dI _),?_⟩
  rw [e8,jw];constructor
  ·intro hno;rw [if_pos (by rw [dU hno]; decide)] at h3
   have hE:ca 4 xs=bG (a+j3):=(congrArg Prod.snd h3).symm;rw [hE,jw] at hK;exact hk _ _ (by simp) (hK.1 hno)
  ·intro hmy;rw [if_neg (by rw [cK hmy]; simp)] at h3
   rw [mo hi' hm,e9,abY hmy];exact hn (a+j3,i+1) ⟨hi',hmy,h3⟩ (by simp; omega)
 ·intro hi;have hi':¬ i < xs.length:=by omega
  rw [l7 4 hi'] at h3;have hE:ca 4 xs=0:=(congrArg Prod.snd h3).symm;have hN:cZ 4 xs=a:=(congrArg Prod.fst h3).symm;rw [hE,hN,ah] at hK;exact hk _ _ (by simp) (hK.2 rfl)
theorem Xy (d n0:Nat):aG (ai TP Zz d) aV n0 0 (lp TP aV 0) (yT aX 6):=by
 intro st K hst;obtain ⟨xs,⟨hr,hm,hmay,rfl,rfl⟩,hK⟩:=hst;have hm':xs.length<=9223372036854775807:=hm;refine aC (fun p:Int × Nat=>Vw aX xs p.1 p.2) (Jq 6 xs) (fun p=>xs.length - p.2) ?_ (a:=(0,0)) ⟨by simp,bg,rfl⟩
 rintro ⟨a,i⟩ ⟨h1,h2,h3⟩ k hn hk;simp only at h1 h2 h3;show round (ai TP { Γ:=Jz,Λ:=_,Τ:=Jx } d) _ _ _ _ (Vw aX xs a i) k;rw [WM]; delta Maa Mab Mac Mad Mae Mag Mah Mai Maj Mal Mam Man Map Maq Mar Mas Mat Mav Max Maz MaA MaC MaD MaE MaG MaH MaM MaR MaV Ma1 Ma3 Ma6 Ma9 Mba Mbl Mbp Mbu MbA MbC MbE MbF MbH MbM MbP MbT MbV Mb4 Mca Mcb Mcg Mcn Mcr Mcv Mcy McA Mdg Mdo Mdr Mdv MdP Md7 MeT Mfi Mfs Mfy MfM MfN Mg2 Mh1 Mh6 Mif MiA MiO Mi9 Mju Mj1;rintro a rfl t2 e2 j3 rfl t4 e4 t5 e5 t6 e6 t7 e7 t8 e8 t9 e9 t10 e10;rw [al];constructor
 ·intro hi;have hi':i < xs.length:=by omega
  have et:(i:Int).toNat=i:=by omega
  have hmi:=hmay _ (List.getElem_mem hi');have e0:fr xs[i] 0=rd xs (i:Int).toNat 0*18446744073709551616+rd xs (i:Int).toNat 1:=by rw [et]; exact (bA hi' 0).symm
  have ew:fr xs[i] 6=rd xs (i:Int).toNat 6*18446744073709551616+rd xs (i:Int).toNat 7:=by rw [et]; exact (bA hi' 6).symm
  have hrow:uS (xs.getD i []):=by rw [acY hi']; exact hr _ (List.getElem_mem hi')
  refine ⟨⟨by omega,hi⟩,⟨by omega,hi⟩,⟨xs.getD i [],by rw [e4,e5,e6,e7,et]; rfl,hrow,by rw [acY hi']; exact hmi,.inr rfl⟩,?_⟩
  rw [l8 6 hi',show Kg 6 xs[i]=bG (az (fr xs[i] 0) (fr xs[i] 6)) from rfl,show Js 6 xs[i]=aep (az (fr xs[i] 0) (fr xs[i] 6)) from rfl] at h3
  rw [e4,e5,e6,e7,← e0,← ew] at e10;rw [← e0,← ew] at e2;rw [e10,jw];constructor
  ·intro hno;rw [if_pos (by rw [dU hno]; decide)] at h3
   have hE:ca 6 xs=bG (az (fr xs[i] 0) (fr xs[i] 6)):=(congrArg Prod.snd h3).symm;rw [hE,jw] at hK;exact hk _ _ (by simp) (hK.1 hno)
  intro hmm;rw [if_neg (by rw [cK hmm]; simp),← e2] at h3
  refine ⟨aU h2 (by rw [e2]; exact dI _),?_⟩
  rw [e8,jw];constructor
  ·intro hno;rw [if_pos (by rw [dU hno]; decide)] at h3
   have hE:ca 6 xs=bG (a+j3):=(congrArg Prod.snd h3).symm;rw [hE,jw] at hK;exact hk _ _ (by simp) (hK.1 hno)
  ·intro hmy;rw [if_neg (by rw [cK hmy]; simp)] at h3
   rw [mo hi' hm,e9,abY hmy];exact hn (a+j3,i+1) ⟨hi',hmy,h3⟩ (by simp; omega)
 ·intro hi;have hi':¬ i < xs.length:=by omega
  rw [l7 6 hi'] at h3;have hE:ca 6 xs=0:=(congrArg Prod.snd h3).symm;have hN:cZ 6 xs=a:=(congrArg Prod.fst h3).symm;rw [hE,hN,ah] at hK;exact hk _ _ (by simp) (hK.2 rfl)
theorem cP {N:Know} {f0:FuncId} {L:aB} (hΓ:∀ g sp,N.Γ g=some sp->aa TP g sp) (hΛ:N.Λ=fun f i=>if f=f0 then (if i=0 then some L else none) else none) (hΤ:∀ g G,N.Τ g=some G->cf TP g G)
  (h:∀ d n0,aG (ai TP N d) f0 n0 0 (lp TP f0 0) L) (d:Nat) (hb:∀ f,N.back f=true->lY TP f:=by intro f h; cases h):KnowOk TP N d:=by
 refine ⟨mixedOrders,hΓ,?_,hΤ,hb⟩;intro d' _ f i S n0 hS;rw [hΛ] at hS;simp only at hS;split at hS
 ·split at hS
  ·cases hS
   rename_i hf hi;subst hf; subst hi;exact h d' n0
  ·cases hS
 ·cases hS
theorem LI {N:Know} {f0:FuncId} {G:eG} (hΓ:∀ g sp,N.Γ g=some sp->aa TP g sp) (hΛ:∀ f i,N.Λ f i=none) (hΤ:N.Τ=fun g=>if g=f0 then some G else none)
  (h:cf TP f0 G) (d:Nat) (hb:∀ f,N.back f=true->lY TP f:=by intro f h; cases h):KnowOk TP N d:=by
 refine ⟨mixedOrders,hΓ,cO hΛ d,?_,hb⟩;intro g G' hG;rw [hΤ] at hG;simp only at hG;split at hG
 ·rename_i hg; subst hg; cases hG; exact h
 ·cases hG
end
def oU (a b c d:Int):L1:=[1+c % 9,0,d % 3,4611686018427387904,a - 128,b*72057594037927936,b - 128,c*1099511627776,d % 7 - 3,a,c % 5 - 2,d*1152921504606846976 % 18446744073709551616,0,d*1125899906842624,0,a*1125899906842624,b % 4,0,0,d*257]
def im (n:Int):Prop:=0<=n/\n < 256
def Sj (l:List IV) (bs:List aq):Prop:=∃a b c d,l=[.int .u8 a,.int .u8 b,.int .u8 c,.int .u8 d]/\bs=[]/\im a/\im b/\im c/\im d
def Eh:Vs.Spec:=⟨Sj,fun l _=>(dG (oU (ae l 0 0) (ae l 1 0) (ae l 2 0) (ae l 3 0)),[])⟩
def Mc1 (a b:Int):Int:=Int.tmod (Mah a) b
abbrev MeZ (a:Int):Prop:=BI (Ma2 a) []
abbrev MfR (a b:Int)(c:Prop):Prop:=Maz a (Mat (Mcz b MbX)) c
theorem Tu (a b c d:Int) (K:KP):(comes TP mI 3 eS [.int .u8 a,.int .u8 b,.int .u8 c,.int .u8 d] [] K) =(∀e,Maz e (MbC 1 (Mc1 c 9)) (∀f,MfR f (Mc1 b 4) (∀g,MfR g e (Mh4 0 56 0 40 ((9:Int)≠0) (MeZ e) (Mbi ((3:Int)≠0) ((7:Int)≠0) ((5:Int)≠0) ((0:Int)<=60) ((0:Int)<=50) ((0:Int)<=50) ((4:Int)≠0) (MeZ (Mc1 b 4)) (K (.agg (Mdv (Mag g) (Mae g) (Mah (Int.tmod d 3)) 4611686018427387904 (MaJ (Mah a) 128) (MdH (Maw b) 72057594037927936) (MaJ (Mah b) 128) (MdH (Maw c) 1099511627776) (MaJ (Mah (Int.tmod d 7)) 3) (Maw a) (MaJ (Mah (Int.tmod c 5)) 2) (MdH (Maw d) 1152921504606846976) 0 (MdH (Maw d) 1125899906842624) 0 (MdH (Maw a) 1125899906842624) (Mag f) (Mae f) 0 (Mah (Mah d*257)) [])) [])))))) :=by delta Maa Mac Mae Mag Mah Mai Mal Map Mat Maw Max Maz MaI MaJ MaM Ma2 Mbi MbC MbX Mcz Mc1 Mdv MdH MeZ MfR Mh4; (iterate 3 refine nm ?_); kernel_rfl
def Oe:FuncId->Option Vs.Spec:=fun g=>if g=eS then some Eh else pM g
def NI (ns:L2) (i:Nat):L1:=oU (rd ns (4*i) 0) (rd ns (4*i+1) 0) (rd ns (4*i+2) 0) (rd ns (4*i+3) 0)
def gp (ns:L2) (n:Nat):L2:=(List.range n).map (NI ns)
def eK (ns:L2) (m:Int):Nat:=min (ns.length / 4) m.toNat
def mr (ns zs:L2) (m i:Int):St:=⟨T 44 [(0,.sl 0),(1,.int .i64 m),(5,.sl 1),(6,.int .i64 i)],[some (.ro [.u8] ns),some (.row 79 aM zs)]⟩
def Mbj (a b c d e f g h i j k l m n o p:Int)(q:L1):L1:=MaF a b c d (MaF e f g h (MaF i j k l (MaF m n o p q)))
def Mc5 (a b c d:Int)(e:Nat):Int:=Ma8 (oU a b c d) e
def Mdd (a:L2):aq:=.row 79 aM a
abbrev Mel (a:L2)(b c:Nat):Prop:=(List.length a+b)*c<=140737488355328
abbrev MgD (a b:Prop)(c:Int)(d:L2)(e f:Prop):Prop:=Mbw a b (Mcg c d e f)
def MgZ:List IntKind:=[.u8]
def Mg0 (a:L2)(b:Nat)(c:L1):L2:=a++Mau 1 b 0 0 c
def Mhe (a:Int)(b:List IV):List IV:=.int .u8 a::b
def MiX (a b c:Nat)(d:OB):St:=Mbe a b (.sl c) [] d
abbrev Mi3 (a b:Prop):Prop:=Max a a b
abbrev Mi8 (a:Prop)(b:Int)(c:L2)(d:Prop):Prop:=Mbw a (Mbp b b c) d
theorem Ph (Λ:FuncId->Nat->Option aB) (d:Nat) (ns zs:L2) (m i:Int) (k:Out->St->Prop):(round (ai TP { Γ:=Oe,Λ:=Λ,Τ:=fun _=>none } d) bo 1 0 (lp TP bo 0) (mr ns zs m i) k) =(∀a,MdP a ns i (∀b,Mi8 b i ns (∀c,MdP c ns (Mcr i) (∀e,MdP e ns (MbC i 2) (∀f,MdP f ns (MbC i 3) (∀g,Mi8 g (Mcr i) ns (∀j,Mi8 j (MbC i 2) ns (∀l,Mi8 l (MbC i 3) ns (∀n,MgD n (k MbT (MiX 44 5 1 (Maj MgZ ns (Mdd zs) []))) (MbC i 3) ns (MbF (Man zs) m (Mi3 b (Mbi g g j j l l (Sj (Mhe a (Mhe c (Mhe e (Mhe f [])))) []) (Mel zs 1 160) (k .normal (MaH 44 (MbK 0 0 1 m (Mef 5 1 6 (MbC i 4))) (Maj MgZ ns (Mdd (Mg0 zs 20 (List.reverse (MaF (Mc5 a c e f 19) (Mc5 a c e f 18) (Mc5 a c e f 17) (Mc5 a c e f 16) (Mbj (Mc5 a c e f 15) (Mc5 a c e f 14) (Mc5 a c e f 13) (Mc5 a c e f 12) (Mc5 a c e f 11) (Mc5 a c e f 10) (Mc5 a c e f 9) (Mc5 a c e f 8) (Mc5 a c e f 7) (Mc5 a c e f 6) (Mc5 a c e f 5) (Mc5 a c e f 4) (Mc5 a c e f 3) (Mc5 a c e f 2) (Mc5 a c e f 1) (Mc5 a c e f 0) []))))) []))))) n) n))))))))) :=by delta Maa Mab Mad Mah Maj Man Mar Mas Mau Max Maz MaC MaF MaH MaI MaV Ma1 Ma8 Mbe Mbi Mbj Mbp Mbw MbC MbF MbK MbT Mcg Mcr Mc5 Mdd MdP Mef Mel MgD MgZ Mg0 Mhe MiX Mi3 Mi8; (iterate 9 refine nm ?_); kernel_rfl
def K7 (ns:L2) (m:Int):Prop:=aI [.u8] ns/\ns.length<=maxLen/\0<=m/\m<=1000
def B2 (n0:Nat) (st:St) (ns:L2) (m:Int):Prop:=K7 ns m/\n0=1/\st=mr ns [] m 0
def AR:aB:=fun n0 st K=>∃ns m,B2 n0 st ns m/\K (.exit 0) ⟨T 44 [(5,.sl 1)],[some (.ro [.u8] ns),some (.row 79 aM (gp ns (eK ns m)))]⟩
def AQ:Know:={ Γ:=Oe,Λ:=fun f i=>if f=bo then (if i=0 then some AR else none) else none,Τ:=fun _=>none }
def MaT (a:Nat)(b:List IntKind):aq:=.row a b []
def Mcm:IV:=.sl 0
def MdI:aq:=MaT 79 aM
def Mhu (a b c:Nat):List (Nat × IV):=Mef a b c 0
theorem Kb (ns:L2) (m:Int) (K:KP):(comes TP AQ 3 bo [.sl 0,.int .i64 m] [.ro [.u8] ns] K) =(∃a:L2,∃b:Int,B2 1 (MaH 44 (MbK 0 0 1 m (Mhu 5 1 6)) (Maj MgZ ns MdI [])) a b/\K Mcm [Mdd (gp a (eK a b))]) :=by kernel_rfl
def Gs (l:List IV) (bs:List aq):Prop:=∃ns m,l=[.sl 0,.int .i64 m]/\bs=[.ro [.u8] ns]/\0<=m/\m<=1000
def zb:Vs.Spec:=⟨Gs,fun l bs=>(.sl 0,[.row 79 aM (gp (aA bs 0) (eK (aA bs 0) (ae l 1 0)))])⟩
section
open Go.IntWalk
theorem fH {a b:Int} (h:0<=a):a.tmod b=a % b:=Int.tmod_eq_emod_of_nonneg h
theorem NA:aa TP eS Eh:=by
 refine ab (N:=mI) 3 iz ?_;rintro l bs _ _ ⟨a,b,c,d,rfl,rfl,ha,hb,hc,hd⟩;unfold im at ha hb hc hd;show comes _ _ _ _ _ _ fun v bs'=>(dG (oU a b c d),([]:List aq))=(v,bs')
 rw [Tu]; delta Maa Mac Mae Mag Mah Mai Mal Map Mat Maw Max Maz MaI MaJ MaM Ma2 Mbi MbC MbX Mcz Mc1 Mdv MdH MeZ MfR Mh4;rintro t1 e1 t2 e2 t3 e3;rw [i64_in c (by omega),fH hc.1,i64_in (1+c % 9) (by omega)] at e1
 rw [i64_in b (by omega),fH hb.1,ke (by omega)] at e2
 rw [e1,ke (by omega)] at e3
 refine ⟨by decide,by decide,by decide,dY (by unfold bn; omega),by decide,by decide,by decide,by decide,by decide,by decide,by decide,dY (by rw [i64_in b (by omega),fH hb.1]; unfold bn; omega),?_⟩
 rw [fH hd.1,fH hd.1,fH hc.1,i64_in a (by omega),i64_in b (by omega),i64_in (d % 3) (by omega),i64_in (a - 128) (by omega),i64_in (b - 128) (by omega),u64_in b (by omega),u64_in c (by omega),u64_in a (by omega),u64_in d (by omega),
  u64_in (b*72057594037927936) (by omega),u64_in (c*1099511627776) (by omega),i64_in (d % 7) (by omega),i64_in (d % 7 - 3) (by omega),i64_in (c % 5) (by omega),i64_in (c % 5 - 2) (by omega),u64_in (d*1125899906842624) (by omega),u64_in (a*1125899906842624) (by omega),i64_in d (by omega),i64_in (d*257) (by omega)]
 have k1:t3 / 18446744073709551616=1+c % 9:=by omega
 have k2:t3 % 18446744073709551616=0:=by omega
 have k3:t2 / 18446744073709551616=b % 4:=by omega
 have k4:t2 % 18446744073709551616=0:=by omega
 have k5:IntKind.u64.wrap (d*1152921504606846976)=d*1152921504606846976 % 18446744073709551616:=by exact wu _
 rw [k1,k2,k3,k4,k5]
 rfl
theorem U2:∀ {g:FuncId} {sp:Vs.Spec},Oe g=some sp->aa TP g sp:=ao NA lW
theorem tW {ns:L2} (h:aI [.u8] ns) (i:Nat):im (rd ns i 0):=by
 have:=pb h i 0 (by decide)
 have h1:(0:Int)<=rd ns i 0/\rd ns i 0<=255:=this;unfold im; omega
theorem CZ (ns:L2) (n:Nat):gp ns (n+1)=gp ns n++[NI ns n]:=by
 unfold gp; rw [List.range_succ,List.map_append]; rfl
theorem xr (ns:L2) (n:Nat):(gp ns n).length=n:=by unfold gp; simp
theorem PX (d n0:Nat):aG (ai TP AQ d) bo n0 0 (lp TP bo 0) AR:=by
 intro st K hst;obtain ⟨ns,m,⟨⟨hr,hl,hm0,hm1⟩,rfl,rfl⟩,hK⟩:=hst;have hl':ns.length<=9223372036854775807:=hl;refine aC (fun n:Nat=>mr ns (gp ns n) m (4*n)) (fun n=>n<=eK ns m) (fun n=>eK ns m - n) ?_ (a:=0) (Nat.zero_le _)
 intro n hle k hn hk;show round (ai TP { Γ:=Oe,Λ:=_,Τ:=fun _=>none } d) _ _ _ _ _ k
 rw [Ph]; delta Maa Mab Mad Mah Maj Man Mar Mas Mau Max Maz MaC MaF MaH MaI MaV Ma1 Ma8 Mbe Mbi Mbj Mbp Mbw MbC MbF MbK MbT Mcg Mcr Mc5 Mdd MdP Mef Mel MgD MgZ Mg0 Mhe MiX Mi3 Mi8;have hm2:eK ns m<=m.toNat:=Nat.min_le_right _ _;have hm3:eK ns m<=ns.length / 4:=Nat.min_le_left _ _;rw [xr,i64_in (4*(n:Int)+1) (by omega),i64_in (4*(n:Int)+2) (by omega),i64_in (4*(n:Int)+3) (by omega),i64_in (4*(n:Int)+4) (by omega)]
 rintro t1 e1 t2 e2 t3 e3 t4 e4 t5 e5 t6 e6 t7 e7 t8 e8 t9 e9;have stop:n=eK ns m->t9:=by
  rintro rfl;rw [e9];exact hk _ _ (by simp) hK
 rw [al];refine ⟨fun h1=>?_,fun h1=>stop (by unfold eK at *; omega)⟩
 rw [al];refine ⟨fun h2=>?_,fun h2=>stop (by unfold eK at *; omega)⟩
 have hlt:n < eK ns m:=by unfold eK; omega
 have p2:t2:=by rw [e2]; omega
 have p6:t6:=by rw [e6]; omega
 have p7:t7:=by rw [e7]; omega
 have p8:t8:=by rw [e8]; omega
 rw [show (4*(n:Int)).toNat=4*n by omega] at e1
 rw [show (4*(n:Int)+1).toNat=4*n+1 by omega] at e3
 rw [show (4*(n:Int)+2).toNat=4*n+2 by omega] at e4
 rw [show (4*(n:Int)+3).toNat=4*n+3 by omega] at e5
 refine ⟨p2,p2,p6,p6,p7,p7,p8,p8,⟨t1,t3,t4,t5,rfl,rfl,by rw [e1]; exact tW hr _,by rw [e3]; exact tW hr _,by rw [e4]; exact tW hr _,by rw [e5]; exact tW hr _⟩,by omega,?_⟩
 have:=hn (n+1) hlt (by omega)
 rw [CZ] at this;rw [show ((4*((n+1:Nat):Int)))=4*(n:Int)+4 by omega] at this
 rw [e1,e3,e4,e5];exact this
theorem CY:aa TP bo zb:=by
 refine ab (N:=AQ) 3 (cP (f0:=bo) (L:=AR) (fun g sp h=>U2 h) rfl (fun g G h=>by cases h) PX 3) ?_
 rintro l bs _ hB ⟨ns,m,rfl,rfl,h0,h1⟩;have hb:aI [.u8] ns/\0 < [IntKind.u8].length/\ns.length<=maxLen:=hB (.ro [.u8] ns) (List.mem_singleton.2 rfl);show comes _ _ _ _ _ _ _;rw [Kb]; delta Maa Mab Mad Maj Mar MaH MaT MbK Mcm Mdd MdI Mef MgZ Mhu;exact ⟨ns,m,⟨⟨hb.1,hb.2.2,h0,h1⟩,rfl,rfl⟩,rfl⟩
end
def SV:FuncId->Option Vs.Spec:=fun g=>pM g
def Uk (r:L1):Prop:=ag (fr r 0)/\ag (fr r 4)/\ag (fr r 6)/\ag (fr r 8)/\ag (fr r 10)
section
open Go.IntWalk
theorem MO:∀ {g:FuncId} {sp:Vs.Spec},SV g=some sp->aa TP g sp:=lW
end
def dm:List IntKind:=[.i64,.u64,.i64,.u64]
def SU:FuncId->Option Vs.Spec:=fun g=>SV g
def AY:FuncId->Option Vs.Spec:=fun g=>SU g
def cI (x y:Int):L1:=[x / 18446744073709551616,x % 18446744073709551616,y / 18446744073709551616,y % 18446744073709551616]
def lC (r:L1):Prop:=r.length=20/\uS r/\Uk r
def aY (xs:L2):Prop:=∀ r∈xs,lC r
def kx (xs ys:L2) (i:Int):St:=⟨T 26 [(0,.sl 0),(1,.sl 1),(5,.int .i64 i)],[some (.ro dm xs),some (.ro dm ys)]⟩
def Mak (a:List IntKind)(b:L2)(c:List IntKind)(d:L2)(e:OB):OB:=Maj a b (.ro c d) e
def Mea (a b:Int)(c d:Bool):Bool:=Bool.and (Ma0 a b) (Bool.and c d)
abbrev Mfc (a:Prop)(b c:Int)(d:L2)(e:Int)(f:L2)(g h i j k l:Prop):Prop:=Mbw a (Mbp b c d) (Mcg e f (MaI g h i j k) l)
def Mfe (a b c:Nat)(d:Int):List (Nat × IV):=Mef a b c (Mcr d)
abbrev Mg3 (a:Int)(b:L2)(c:Int)(d:Prop):Prop:=Ma1 a b c 2 d
abbrev Mg4 (a:Int)(b:L2)(c:Int)(d:Prop):Prop:=Ma1 a b c 3 d
theorem aeh (Λ:FuncId->Nat->Option aB) (d:Nat) (xs ys:L2) (i:Int) (k:Out->St->Prop):(round (ai TP { Γ:=AY,Λ:=Λ,Τ:=fun _=>none } d) aat 2 0 (lp TP aat 0) (kx xs ys i) k) =(∀a,MdP a xs i (∀b,MdP b ys i (∀c,Md7 c xs i (∀e,Md7 e ys i (∀f,Mg3 f xs i (∀g,Mg3 g ys i (∀j,Mg4 j xs i (∀l,Mg4 l ys i (∀m,Mi8 m i xs (∀n,Mfc n i i ys i xs m m n n (Mbx (Mea a b (Ma0 c e) (MdB f g j l)) (k .ret (Mbe 26 4 MaU [] (Mak dm xs dm ys []))) (k .normal (Mbe 26 0 Mcm (Mfe 1 1 5 i) (Mak dm xs dm ys [])))) (k MbT (MaH 26 [] (Mak dm xs dm ys []))))))))))))) :=by delta Maa Mab Mad Mah Maj Mak Man Mar Mas Max Maz MaC MaH MaI MaU MaV Ma0 Ma1 Mbe Mbp Mbw Mbx MbC MbF MbK MbT Mcg Mcm Mcr MdB MdP Md7 Mea Mef Mfc Mfe Mg3 Mg4 Mi8; (iterate 10 refine nm ?_); kernel_rfl
def pSv (n0:Nat) (st:St) (xs ys:L2):Prop:=xs.length=ys.length/\xs.length<=1000000/\(∀ r∈xs,r.length=4)/\(∀ r∈ys,r.length=4)/\n0=2/\st=kx xs ys 0
section
open Go.IntWalk
theorem MN:∀ {g:FuncId} {sp:Vs.Spec},SU g=some sp->aa TP g sp:=MO
theorem Fe:∀ {g:FuncId} {sp:Vs.Spec},AY g=some sp->aa TP g sp:=MN
end
def LSv:aB:=fun n0 st K=>∃xs ys,pSv n0 st xs ys/\br (bp (xs=ys)) (K (.exit 0) ⟨T 26 [],[some (.ro dm xs),some (.ro dm ys)]⟩) (K .ret ⟨T 26 [(4,.bool false)],[some (.ro dm xs),some (.ro dm ys)]⟩)
def tB:Know:={ Γ:=AY,Λ:=fun f i=>if f=aat then (if i=0 then some LSv else none) else none,Τ:=fun _=>none }
abbrev Mgw (a b:L2)(c d:Prop):Prop:=Ma3 (Man a) (Man b) c d
theorem ads (xs ys:L2) (K:KP):(comes TP tB 3 aat [.sl 0,.sl 1] [.ro dm xs,.ro dm ys] K) =(Mgw xs ys (K MaU []) (∃a:L2,∃b:L2,MeE (pSv 2 (Mbe 26 0 Mcm (Mhu 1 1 5) (Mak dm xs dm ys [])) a b) (bp (a=b)) (K Mby []) (K MaU []))) :=by kernel_rfl
def af4 (l:List IV) (bs:List aq):Prop:=∃xs ys,l=[.sl 0,.sl 1]/\bs=[.ro dm xs,.ro dm ys]/\xs.length<=1000000/\(∀ r∈xs,r.length=4)/\(∀ r∈ys,r.length=4)
def aeD:Vs.Spec:=⟨af4,fun _ bs=>(.bool (bp (aA bs 0=aA bs 1)),[])⟩
def V5:FuncId->Option Vs.Spec:=fun g=>AY g
def V4:FuncId->Option Vs.Spec:=fun g=>V5 g
section
open Go.IntWalk
theorem good_row {xs:L2} (h:aY xs) {i:Nat} (hi:i < xs.length):lC xs[i]:=h _ (List.getElem_mem hi)
theorem adO {r:L1} (h:r.length=4):[r.getD 0 0,r.getD 1 0,r.getD 2 0,r.getD 3 0]=r:=by
 match r,h with
 | [_,_,_,_],_=>rfl
theorem af7 (d n0:Nat):aG (ai TP tB d) aat n0 0 (lp TP aat 0) LSv:=by
 intro st K hst;obtain ⟨xs,ys,⟨hl,hm,hx,hy,rfl,rfl⟩,hK⟩:=hst;rw [Hl] at hK;refine aC (fun i:Nat=>kx xs ys i) (fun i=>i<=xs.length/\∀ p,p < i->xs[p]? = ys[p]?) (fun i=>xs.length - i) ?_ (a:=0) ⟨Nat.zero_le _,fun p hp=>by omega⟩
 rintro i ⟨hle,he⟩ k hn hk;show round (ai TP { Γ:=AY,Λ:=_,Τ:=fun _=>none } d) _ _ _ _ _ k
 rw [aeh]; delta Maa Mab Mad Mah Maj Mak Man Mar Mas Max Maz MaC MaH MaI MaU MaV Ma0 Ma1 Mbe Mbp Mbw Mbx MbC MbF MbK MbT Mcg Mcm Mcr MdB MdP Md7 Mea Mef Mfc Mfe Mg3 Mg4 Mi8;rw [show ((i:Nat):Int).toNat=i by omega]
 rintro t1 rfl t2 rfl t3 rfl t4 rfl t5 rfl t6 rfl t7 rfl t8 rfl t9 e9 t10 e10;rw [al];constructor
 ·intro hi;have hi':i < xs.length:=by omega
  have hi2:i < ys.length:=by omega
  have p9:t9:=by rw [e9]; omega
  have p10:t10:=by rw [e10]; omega
  refine ⟨p9,p9,p10,p10,?_⟩;have rx:=adO (hx _ (List.getElem_mem hi'));have ry:=adO (hy _ (List.getElem_mem hi2));have hd:∀ j,rd xs i j=xs[i].getD j 0:=fun j=>by unfold rd; rw [acY hi']
  have hd2:∀ j,rd ys i j=ys[i].getD j 0:=fun j=>by unfold rd; rw [acY hi2]
  rw [hd,hd,hd,hd,hd2,hd2,hd2,hd2,aL,Bool.not_eq_true',Bool.not_eq_false'];constructor
  ·intro hne;refine hk _ _ (by simp) (hK.2 ?_)
   intro hxy;subst hxy;simp at hne
  ·intro heq;simp only [Bool.and_eq_true,decide_eq_true_iff,Bool.and_true] at heq;obtain ⟨a0,a1,a2,a3⟩:=heq;have hrow:xs[i]=ys[i]:=by rw [← rx,← ry,a0,a1,a2,a3]
   rw [show IntKind.i64.wrap ((i:Int)+1)=((i+1:Nat):Int) by rw [i64_in _ (by omega)]; rfl]
   refine hn (i+1) ⟨hi',fun p hp=>?_⟩ (by omega)
   by_cases e:p=i
   ·subst e;rw [List.getElem?_eq_getElem hi',List.getElem?_eq_getElem hi2,hrow]
   ·exact he p (by omega)
 ·intro hi;refine hk _ _ (by simp) (hK.1 ?_)
  apply List.ext_getElem?;intro p;by_cases hp:p < xs.length
  ·exact he p (by omega)
  ·rw [List.getElem?_eq_none (by omega),List.getElem?_eq_none (by omega)]
theorem Ub {g:FuncId} {G:eG}:(fun _:FuncId=>(none:Option eG)) g=some G->cf TP g G:=fun h=>by cases h
theorem adK:aa TP aat aeD:=by
 refine ab (N:=tB) 3 (cP (f0:=aat) (L:=LSv) (fun g sp h=>Fe h) rfl (fun g G h=>Ub h) af7 3) ?_
 rintro l bs _ hB ⟨xs,ys,rfl,rfl,hl,hx,hy⟩;show comes _ _ _ _ _ _ fun v bs'=>(IV.bool (bp (xs=ys)),([]:List aq))=(v,bs')
 rw [ads]; delta Maa Mab Mad Maj Mak Man Mar MaH MaU Ma3 Mbe Mby MbK Mcm Mef MeE Mgw Mhu; rw [ah];refine ⟨fun h=>?_,fun h=>⟨xs,ys,⟨by omega,hl,hx,hy,rfl,rfl⟩,?_⟩⟩
 ·rw [oT (fun e=>h (by rw [e]))]
 ·rw [Hl];exact ⟨fun e=>by rw [pJ e],fun e=>by rw [oT e]⟩
theorem U8:∀ {g:FuncId} {sp:Vs.Spec},V5 g=some sp->aa TP g sp:=Fe
theorem U7:∀ {g:FuncId} {sp:Vs.Spec},V4 g=some sp->aa TP g sp:=U8
theorem Ji (a b c d:Int):fr (oU a b c d) 0=(1+c % 9)*18446744073709551616/\fr (oU a b c d) 4=(a - 128)*18446744073709551616+b*72057594037927936/\fr (oU a b c d) 6=(b - 128)*18446744073709551616+c*1099511627776/\
  fr (oU a b c d) 8=(d % 7 - 3)*18446744073709551616+a/\fr (oU a b c d) 10=(c % 5 - 2)*18446744073709551616+d*1152921504606846976 % 18446744073709551616:=by
 refine ⟨?_,rfl,rfl,rfl,rfl⟩;show (1+c % 9)*18446744073709551616+0=_;omega
theorem FH {a b c d:Int} (ha:im a) (hb:im b) (hc:im c) (hd:im d):uS (oU a b c d):=by
 unfold im at ha hb hc hd;have I:∀ {n:Int},-9223372036854775808<=n->n<=9223372036854775807->dt .i64 n:=fun h1 h2=>⟨h1,h2⟩
 have U:∀ {n:Int},0<=n->n<=18446744073709551615->dt .u64 n:=fun h1 h2=>⟨h1,h2⟩
 intro j hj;rcases j with _|_|_|_|_|_|_|_|_|_|_|_|_|_|_|_|_|_|_|_|j
 ·show dt .i64 (1+c % 9); exact I (by omega) (by omega)
 ·show dt .u64 0; exact U (by omega) (by omega)
 ·show dt .i64 (d % 3); exact I (by omega) (by omega)
 ·show dt .u64 4611686018427387904; exact U (by omega) (by omega)
 ·show dt .i64 (a - 128); exact I (by omega) (by omega)
 ·show dt .u64 (b*72057594037927936); exact U (by omega) (by omega)
 ·show dt .i64 (b - 128); exact I (by omega) (by omega)
 ·show dt .u64 (c*1099511627776); exact U (by omega) (by omega)
 ·show dt .i64 (d % 7 - 3); exact I (by omega) (by omega)
 ·show dt .u64 a; exact U (by omega) (by omega)
 ·show dt .i64 (c % 5 - 2); exact I (by omega) (by omega)
 ·show dt .u64 (d*1152921504606846976 % 18446744073709551616); exact U (by omega) (by omega)
 ·show dt .i64 0; exact I (by omega) (by omega)
 ·show dt .u64 (d*1125899906842624); exact U (by omega) (by omega)
 ·show dt .i64 0; exact I (by omega) (by omega)
 ·show dt .u64 (a*1125899906842624); exact U (by omega) (by omega)
 ·show dt .i64 (b % 4); exact I (by omega) (by omega)
 ·show dt .u64 0; exact U (by omega) (by omega)
 ·show dt .i64 0; exact I (by omega) (by omega)
 ·show dt .i64 (d*257); exact I (by omega) (by omega)
 ·omega
def Lr (r:L1):Prop:=∃a b c d,im a/\im b/\im c/\im d/\r=oU a b c d
theorem AH {ns:L2} (h:aI [.u8] ns) (n:Nat):∀ r∈gp ns n,Lr r:=by
 intro r hr;unfold gp at hr;rw [List.mem_map] at hr;obtain ⟨i,_,rfl⟩:=hr;exact ⟨_,_,_,_,tW h _,tW h _,tW h _,tW h _,rfl⟩
theorem EG {r:L1} (h:Lr r):(18446744073709551616<=fr r 0/\fr r 0<=166020696663385964544)/\(-2361183241434822606848<=fr r 4/\fr r 4<=2361183241434822606848)/\(-2361183241434822606848<=fr r 6/\fr r 6<=2361183241434822606848)/\
  (-73786976294838206464<=fr r 8/\fr r 8<=73786976294838206464)/\-73786976294838206464<=fr r 10/\fr r 10<=73786976294838206464:=by
 obtain ⟨a,b,c,d,ha,hb,hc,hd,rfl⟩:=h;obtain ⟨e0,e4,e6,e8,e10⟩:=Ji a b c d;unfold im at ha hb hc hd;rw [e0,e4,e6,e8,e10];omega
theorem EH {r:L1} (h:Lr r):lC r:=by
 obtain ⟨h0,h4,h6,h8,h10⟩:=EG h;obtain ⟨a,b,c,d,ha,hb,hc,hd,rfl⟩:=h;exact ⟨rfl,FH ha hb hc hd,⟨by omega,by omega⟩,⟨by omega,by omega⟩,⟨by omega,by omega⟩,⟨by omega,by omega⟩,⟨by omega,by omega⟩⟩
end
def jt:List IntKind:=[.i64,.i64,.i64,.u64,.i64,.u64]
def ie:List IntKind:=[.i64,.i64,.u64,.i64,.u64,.i64,.i64,.i64,.i64,.u64]
def dE:List IntKind:=[.i64,.i64,.i64,.i64]
def af (z:L1) (a b c d e:Nat):List IV:=[.int .i64 (z.getD 0 0),.int .i64 (z.getD 1 0),.int .u64 (z.getD 2 0),.int .i64 (z.getD 3 0),.int .u64 (z.getD 4 0),.int .i64 (z.getD 5 0),.int .u64 (z.getD 6 0),.int .i64 (z.getD 7 0),.int .u64 (z.getD 8 0),.int .i64 (z.getD 9 0),.int .u64 (z.getD 10 0),.int .i64 (z.getD 11 0),.int .i64 (z.getD 12 0),
 .sl a,.sl b,.sl c,.sl d,.int .i64 (z.getD 13 0),.int .u64 (z.getD 14 0),.int .i64 (z.getD 15 0),.int .u64 (z.getD 16 0),.int .i64 (z.getD 17 0),.int .u64 (z.getD 18 0),.sl e]
def aH (xs ts rs us es:L2):List aq:=[.ro aM xs,.ro jt ts,.ro ie rs,.ro [.i64] us,.ro dE es]
def V3:FuncId->Option Vs.Spec:=fun g=>if g=aat then some aeD else if g=eS then some Eh else if g=bo then some zb else V4 g
def SS:FuncId->Option Vs.Spec:=fun g=>if g=oH then some D2 else if g=ee then some ve else V3 g
def Yz:Know:={ Γ:=SS,Λ:=fun _ _=>none,Τ:=fun _=>none }
def Maf (a:L1)(b:Nat):Int:=List.getD a b 0
abbrev MaL (a:Int)(b:L1)(c:Nat)(d:Prop):Prop:=Maz a (Maf b c) d
abbrev MeH (a:Int)(b:L1)(c:Prop):Prop:=MaL a b 3 c
abbrev Me9 (a:Int)(b:L1)(c:Prop):Prop:=MaL a b 4 c
abbrev Mfa (a:Int)(b:L1)(c:Prop):Prop:=MaL a b 5 c
abbrev Mfb (a:Int)(b:L1)(c:Prop):Prop:=MaL a b 6 c
abbrev Mgk (a b c:Int)(d:Prop):Prop:=Maz a (e2 b c) d
abbrev Mjc (a b c:Prop):Prop:=Mb4 a a b c
theorem HZ (z:L1) (xs ts rs us es:L2) (i m ax ay h:Int) (K:KP):(comes TP Yz 3 fu [.agg (af z 0 1 2 3 4),.int .i64 i,fx m,vx ax ay,fx h] (aH xs ts rs us es) K) =(∀a,Maz a ax (∀b,Maz b ay (∀c,Maz c m (∀d,Maz d h (∀e,Mjq e (a - MbH xs i 4 xs i 5) (b - MbH xs i 6 xs i 7) (∀f,Maz f e (∀g,Mjr g (a - MbH xs i 4 xs i 5) (b - MbH xs i 6 xs i 7) (∀j,Maz j g (∀k,Mfj k xs i (∀l,Mfk l xs i (∀n,MfM n xs i (∀o,MfN o xs i (∀p,MdP p xs i (∀q,Md7 q xs i (∀r,MeH r z (∀s,Me9 s z (∀t,Mfa t z (∀u,Mfb u z (∀v,Mi8 v i xs (∀w,Mch w p q (∀x,Mch x r s (∀y,Mch y t u (∀a1,Mgk a1 (Mdq a k l) (Mdq b n o) (∀b1,Maz b1 (BT x w c f j y d) (∀c1,Maz c1 (BS x w c f j y d) (Mju v (MfT ax ay (MdC k l n o [])) a1 (K (.agg (Mbn e e g g (Ma2 a1))) []) (Mjc v (Ci (Mb2 r s (Mb2 p q (Mbl m (Mdc e g (Meu t u h))))) []) (K (.agg (Mbn b1 b1 c1 c1 (Ma2 (BU x w c f j y d)))) [])))))))))))))))))))))))))))) :=by delta Maa Mac Mae Maf Mag Mai Mal Man Map Mas Mat Max Maz MaD MaL MaV Ma1 Ma2 Ma3 Mba Mbl Mbn Mbp Mbw MbE MbH Mb2 Mb4 Mch McA Mdc Mdq MdC MdP Md7 Meu MeH Me9 Mfa Mfb Mfj Mfk MfM MfN MfT Mgk Mi8 Mjc Mjq Mjr Mju; (iterate 4 refine nj ?_); refine nm ?_; refine nj ?_; refine nm ?_; refine nj ?_; (iterate 17 refine nm ?_); kernel_rfl
def uA (z:L1) (h:Int) (r:L1) (m ax ay:Int):Int:=if e2 (ax - fr r 4) (ay - fr r 6)≠0 then e2 (ax - fr r 4) (ay - fr r 6) else BU (fr z 3) (fr r 0) m (ax - fr r 4) (ay - fr r 6) (fr z 5) h
def sn (z:L1) (h:Int) (r:L1) (m ax ay:Int):Int:=if e2 (ax - fr r 4) (ay - fr r 6)≠0 then 0 else BT (fr z 3) (fr r 0) m (ax - fr r 4) (ay - fr r 6) (fr z 5) h
def sm (z:L1) (h:Int) (r:L1) (m ax ay:Int):Int:=if e2 (ax - fr r 4) (ay - fr r 6)≠0 then 0 else BS (fr z 3) (fr r 0) m (ax - fr r 4) (ay - fr r 6) (fr z 5) h
def dv (l:List IV) (i:Nat):L1:=[ae l i 0,ae l i 1,ae l i 2,ae l i 3,ae l i 4,ae l i 5,ae l i 6,ae l i 7,ae l i 8,ae l i 9,ae l i 10,ae l i 11,ae l i 12,ae l i 17,ae l i 18,ae l i 19,ae l i 20,ae l i 21,ae l i 22]
def kt:List IntKind:=[.i64,.i64,.u64,.i64,.u64,.i64,.u64,.i64,.u64,.i64,.u64,.i64,.i64,.i64,.u64,.i64,.u64,.i64,.u64]
def KH (z:L1):Prop:=z.length=19/\∀ j,j < 19->dt (kt.getD j .i64) (z.getD j 0)
def Cg (z:L1):Prop:=KH z/\ag (fr z 3)/\ag (fr z 5)
def Y8 (l:List IV) (bs:List aq):Prop:=∃z xs ts rs us es i m ax ay h,l=[.agg (af z 0 1 2 3 4),.int .i64 i,fx m,vx ax ay,fx h]/\bs=aH xs ts rs us es/\Cg z/\aY xs/\(0<=i/\i < xs.length)/\ag m/\(ag ax/\ag ay)/\ag h
def Ty:Vs.Spec:=⟨Y8,fun l bs=>(nP (sn (dv l 0) (v2 l 4) ((aA bs 0).getD (ae l 1 0).toNat []) (v2 l 2) (v2 l 3) (vy l 3)) (sm (dv l 0) (v2 l 4) ((aA bs 0).getD (ae l 1 0).toNat []) (v2 l 2) (v2 l 3) (vy l 3)) (uA (dv l 0) (v2 l 4) ((aA bs 0).getD (ae l 1 0).toNat []) (v2 l 2) (v2 l 3) (vy l 3)),[])⟩
section
open Go.IntWalk
theorem U6:∀ {g:FuncId} {sp:Vs.Spec},V3 g=some sp->aa TP g sp:=ao adK (ao NA (ao CY U7))
theorem MM:∀ {g:FuncId} {sp:Vs.Spec},SS g=some sp->aa TP g sp:=ao Vo (ao CQ U6)
theorem LF:KnowOk TP Yz 3:=aF (fun g sp h=>MM h) (fun _ _=>rfl) (fun _=>rfl) 3
theorem KI {z:L1} (h:z.length=19):[z.getD 0 0,z.getD 1 0,z.getD 2 0,z.getD 3 0,z.getD 4 0,z.getD 5 0,z.getD 6 0,z.getD 7 0,z.getD 8 0,z.getD 9 0,z.getD 10 0,z.getD 11 0,z.getD 12 0,z.getD 13 0,z.getD 14 0,z.getD 15 0,z.getD 16 0,z.getD 17 0,z.getD 18 0]=z:=by
 match z,h with
 | [_,_,_,_,_,_,_,_,_,_,_,_,_,_,_,_,_,_,_],_=>rfl
theorem dA (l:List IV) (z:L1) (a b c d e:Nat) (h:z.length=19) (hl:lg l 0=some (.agg (af z a b c d e))):dv l 0=z:=by
 have q:∀ j,ae l 0 j=ae [.agg (af z a b c d e)] 0 j:=by intro j; unfold ae; rw [hl]; rfl
 unfold dv;simp only [q];exact KI h
theorem V8 {z:L1} (h:KH z) (j:Nat) (hj:j < 19) (hk:kt.getD j .i64=.u64):aj (z.getD j 0):=by
 have:=h.2 j hj;rw [hk] at this;have h1:(0:Int)<=z.getD j 0/\z.getD j 0<=18446744073709551615:=this;unfold aj; omega
theorem EY {z:L1} (h:KH z) (j:Nat) (hj:j+1 < 19) (hk:kt.getD (j+1) .i64=.u64):IV.agg [.int .i64 (z.getD j 0),.int .u64 (z.getD (j+1) 0)]=fx (fr z j):=(ae6 (V8 h (j+1) hj hk) rfl).symm
theorem s8 (g a b x y s h:Int):ag (BT g a b x y s h)/\ag (BS g a b x y s h):=by
 unfold BT BS;rw [bI,bI];constructor
 ·split; exact mP _ _; exact bg
 ·split; exact mO _ _; exact bg
theorem kj {s t:Int}:e2 s t=0↔ag s/\ag t:=by
 unfold e2; split
 ·rename_i h; exact ⟨fun _=>h,fun _=>rfl⟩
 ·rename_i h; exact ⟨fun h'=>absurd h' (by decide),fun h'=>absurd h' h⟩
theorem Z5 {z:L1} {xs ts rs us es:L2} {i m ax ay h:Int} (hz:z.length=19):Ty.F [.agg (af z 0 1 2 3 4),.int .i64 i,fx m,vx ax ay,fx h] (aH xs ts rs us es) =
  (nP (sn z h (xs.getD i.toNat []) m ax ay) (sm z h (xs.getD i.toNat []) m ax ay) (uA z h (xs.getD i.toNat []) m ax ay),[]):=by
 show (nP (sn (dv _ 0) (v2 _ 4) (xs.getD i.toNat []) (v2 _ 2) (v2 _ 3) (vy _ 3)) (sm (dv _ 0) (v2 _ 4) (xs.getD i.toNat []) (v2 _ 2) (v2 _ 3) (vy _ 3)) (uA (dv _ 0) (v2 _ 4) (xs.getD i.toNat []) (v2 _ 2) (v2 _ 3) (vy _ 3)),([]:List aq))=_;rw [dA _ z 0 1 2 3 4 hz rfl,bc _ h 4 rfl,bc _ m 2 rfl,(aeY _ ax ay 3 rfl).1,(aeY _ ax ay 3 rfl).2]
theorem Jd:aa TP fu Ty:=by
 refine ab (N:=Yz) 3 LF ?_;rintro l bs _ _ ⟨z,xs,ts,rs,us,es,i,m,ax,ay,h,rfl,rfl,⟨hz,hg3,hg5⟩,hg,⟨hi0,hi1⟩,hm,⟨hax,hay⟩,hh⟩;rw [Z5 hz.1,HZ]; delta Maa Mac Mae Maf Mag Mai Mal Man Map Mas Mat Max Maz MaD MaL MaV Ma1 Ma2 Ma3 Mba Mbl Mbn Mbp Mbw MbE MbH Mb2 Mb4 Mch McA Mdc Mdq MdC MdP Md7 Meu MeH Me9 Mfa Mfb Mfj Mfk MfM MfN MfT Mgk Mi8 Mjc Mjq Mjr Mju;have hil:i.toNat < xs.length:=by omega
 rw [acY hil];obtain ⟨g1,g2,m0,m4,m6,m8,m10⟩:=good_row hg hil;rw [bA hil 4,bA hil 6];rintro j1 rfl j2 rfl j3 rfl j4 rfl t5 e5 j6 rfl t7 e7 j8 rfl t9 rfl t10 rfl t11 rfl t12 rfl t13 rfl t14 rfl t15 rfl t16 rfl t17 rfl t18 rfl t19 e19 t20 e20 t21 e21 t22 e22 t23 e23 t24 e24 t25 e25;rw [bA hil 4,bA hil 6] at e23;rw [bA hil 0] at e20;have p19:t19:=by rw [e19]; omega
 have okr:aI aM xs:=fun r hr=>(hg r hr).2.1
 have a0:IV.agg [.int .i64 (rd xs i.toNat 0),.int .u64 (rd xs i.toNat 1)]=fx (fr xs[i.toNat] 0):=(ae6 (cH okr _ 1 (by decide) rfl) (bA hil 0).symm).symm
 have av:kB [vx j1 j2,IV.agg [.int .i64 (rd xs i.toNat 4),.int .u64 (rd xs i.toNat 5),.int .i64 (rd xs i.toNat 6),.int .u64 (rd xs i.toNat 7)]] []:=by
  have:=ik (a:=rd xs i.toNat 4) (b:=rd xs i.toNat 5) (c:=rd xs i.toNat 6) (d:=rd xs i.toNat 7) (cH okr _ 5 (by decide) rfl) (cH okr _ 7 (by decide) rfl)
  rw [bA hil 4,bA hil 6] at this;rw [List.cons.inj this |>.1];exact en hax hay m4 m6
 refine ⟨p19,p19,av,?_⟩;rw [ah];refine ⟨fun hne=>?_,fun he=>⟨p19,p19,?_,?_⟩⟩
 ·have hne':e2 (j1 - fr xs[i.toNat] 4) (j2 - fr xs[i.toNat] 6)≠0:=by rw [← e23]; exact hne
  have hno:=fun hh=>hne' (kj.2 hh)
  unfold sn sm uA;rw [if_pos hne',if_pos hne',if_pos hne',e5,e7,agz _ hno,agz _ hno,e23]
  rfl
 ·have he':=kj.1 (by rw [← e23]; exact he)
  rw [a0,EY hz 3 (by decide) rfl,EY hz 5 (by decide) rfl]
  exact ⟨_,_,_,_,_,_,_,rfl,rfl,hg3,m0,hm,⟨by rw [e5]; exact mP _ _,by rw [e7]; exact mO _ _⟩,hg5,hh⟩
 ·have he':=kj.1 (by rw [← e23]; exact he)
  rw [nE _ he'.1 he'.2] at e5 e7;have hz0:¬ e2 (j1 - fr xs[i.toNat] 4) (j2 - fr xs[i.toNat] 6)≠0:=fun hh=>hh (by rw [← e23]; exact he)
  unfold sn sm uA;rw [if_neg hz0,if_neg hz0,if_neg hz0,e24,e25,e20,show t21=fr z 3 from e21,show t22=fr z 5 from e22,e5,e7]
  rfl
end
def JE:FuncId->Option Vs.Spec:=fun g=>if g=fu then some Ty else SS g
def acX (xs ts rs us es:L2):OB:=[some (.ro aM xs),some (.ro jt ts),some (.ro ie rs),some (.ro [.i64] us),some (.ro dE es)]
def uQ:FuncId->Option Vs.Spec:=fun g=>JE g
section
open Go.IntWalk
theorem ML:∀ {g:FuncId} {sp:Vs.Spec},JE g=some sp->aa TP g sp:=ao Jd MM
theorem Fc:∀ {g:FuncId} {sp:Vs.Spec},uQ g=some sp->aa TP g sp:=ML
end
def JD:FuncId->Option Vs.Spec:=fun g=>if g=bo then some zb else uQ g
def z0:L1:=[0,0,0,0,0,0,0,0,0,0,0,0,0,0,0,0,0,0,0]
def Pz (xs us:L2):OB:=[some (.row 79 aM xs),some (.row 99 jt []),some (.row 101 ie []),some (.row 3 [.i64] us),some (.row 103 dE [])]
def mu (z:L1) (ns xs us:L2) (i:Int):St:=⟨T 51 [(6,.ptr 1 0),(7,.ptr 2 0),(8,.int .i64 i)],[some (.ro [.u8] ns),some (.var 34 (af z0 3 4 5 6 7)),some (.var 34 (af z 8 9 10 11 12))]++Pz [] []++Pz xs us⟩
def May (a b:Nat)(c:List IV):List IV:=Mao a (Mao b c)
def MaX (a:L2):aq:=.row 3 [.i64] a
def Ma4 (a b c d e f g:Int)(h:List IV):List IV:=Mai a (Mal b c (Map d e f g h))
def Ma5 (a b c d e f:Int)(g h i j:Nat)(k l m n o p:Int)(q:List IV):List IV:=Map a b c d (MaM e f (May g h (May i j (Mal k l (Map m n o p q)))))
def Mbd (a b c d e f g h i j k l m:Int)(n o p q:Nat)(r s t u v w:Int)(x:Nat):List IV:=Ma4 a b c d e f g (Ma5 h i j k l m n o p q r s t u v w (Mao x []))
abbrev Mbh (a:Nat)(b:Prop):Prop:=a<=140737488355328/\b
def Mck (a:Nat)(b:List IntKind)(c:Nat)(d:List IntKind)(e:OB):OB:=Mad (MaT a b) (MaT c d) e
def Mdi (a:Nat)(b:L2)(c:OB):OB:=Mck a jt 101 ie (Mad (MaX b) (MaT 103 dE) c)
def MdM (a b c:Nat)(d:Int):List (Nat × IV):=MdF a b c (Mcr d)
def MgM (a b:Nat)(c:List IntKind)(d:L2)(e:Nat)(f:List IntKind)(g:aq)(h:OB):OB:=Mck a aM b jt (Mad (MaT 101 c) (MaX d) (Mad (MaT e f) g h))
def MgN (a b:Nat)(c d:L2)(e:OB):OB:=MgM a b ie c 103 dE (Mdd d) e
abbrev Mik (a:L2)(b:Nat)(c:Prop):Prop:=Mbh ((List.length a+1)*b) c
def Mir (a b c d e:Nat):List IV:=Mbd 0 0 0 0 0 0 0 0 0 0 0 0 0 a b c d 0 0 0 0 0 0 e
theorem TN (Λ:FuncId->Nat->Option aB) (d:Nat) (z:L1) (ns xs us:L2) (i:Int) (k:Out->St->Prop):(round (ai TP { Γ:=JD,Λ:=Λ,Τ:=fun _=>none } d) bB 1 0 (lp TP bB 0) (mu z ns xs us i) k) =(Mcg i xs (Mik us 8 (k .normal (MbD 51 6 1 (MdM 7 2 8 i) (Mab (.ro MgZ ns) (Mav 34 (Mir 3 4 5 6 7) 34 (af z 8 9 10 11 12) (MgN 79 99 [] xs (Mdi 99 (us++Mau 1 1 0 0 [Mbk]) []))))))) (k MbT (Mh1 51 6 1 7 2 (Mab (.ro MgZ ns) (Mav 34 (Mir 3 4 5 6 7) 34 (af z 8 9 10 11 12) (MgN 79 99 [] xs (Mdi 99 us []))))))) :=by kernel_rfl
def rU (n:Nat):L2:=List.replicate n [-1]
def Xc (n0:Nat) (st:St) (z:L1) (ns xs:L2):Prop:=xs.length<=1000/\n0=1/\st=mu z ns xs [] 0
def LWo:aB:=fun n0 st K=>∃z ns xs,Xc n0 st z ns xs/\K (.exit 0) ⟨T 51 [(6,.ptr 1 0),(7,.ptr 2 0)],[some (.ro [.u8] ns),some (.var 34 (af z0 3 4 5 6 7)),some (.var 34 (af z 8 9 10 11 12))]++Pz [] []++Pz xs (rU xs.length)⟩
def ZH:Know:={ Γ:=JD,Λ:=fun f i=>if f=bB then (if i=0 then some LWo else none) else none,Τ:=fun _=>none }
def Mbv (a:Nat)(b:Int):List IV:=Mao a (Ma2 b)
def Mdw (a:L1)(b:Nat):List IV:=af a 0 1 2 3 b
def Mev (a:OB):OB:=Mdi 99 [] a
theorem OJ (ns:L2) (m how:Int) (K:KP):(comes TP ZH 3 bB [.sl 0,.int .i64 m,.int .u8 how] [.ro [.u8] ns] K) =(∀a,Maz a (MbC 1 (Mc1 how 3)) (∀b,MfR b a (Max ((3:Int)≠0) (MeZ a) (Mbi ((0:Int)<=56) ((4:Int)≠0) ((0:Int)<=62) ((4:Int)≠0) ((2:Int)≠0) ((8:Int)≠0) ((2:Int)≠0) (Gs (Mbv 0 m) (MeV MgZ ns)) (∃c:L1,∃d:L2,∃e:L2,Xc 1 (MbD 51 6 1 (MdF 7 2 8 0) (Mab (.ro MgZ ns) (Mav 34 (Mir 3 4 5 6 7) 34 (Mbd 0 0 1152921504606846976 (Mag b) (Mae b) 0 4611686018427387904 0 (MdH (Maw how) 72057594037927936) 0 (MdH (Maw (Int.tmod how 4)) 4611686018427387904) (Int.tmod (Mah (Int.tdiv (Mah how) 4)) 2) (Int.tmod (Mah (Int.tdiv (Mah how) 8)) 2) 8 9 10 11 0 0 0 0 0 0 12) (MgN 79 99 [] (gp ns (eK ns m)) (Mev []))))) c d e/\K (.agg (Mdw c 4)) [Mdd e,MaT 99 jt,MaT 101 ie,MaX (rU (List.length e)),MaT 103 dE]))))) :=by delta Maa Mab Mac Mad Mae Mag Mah Mai Mal Mam Mao Map Maq Mar Mat Mav Maw Max May Maz MaA MaH MaI MaM MaT MaX Ma2 Ma4 Ma5 Mbd Mbe Mbi Mbv MbC MbD MbX Mck Mcz Mc1 Mdd Mdi Mdw MdF MdH Mev MeV MeZ MfR MgM MgN MgZ Mir; refine nm ?_; refine nm ?_; kernel_rfl
def wz (how:Int):L1:=[0,0,1152921504606846976,1+how % 3,0,0,4611686018427387904,0,how*72057594037927936,0,how % 4*4611686018427387904,how / 4 % 2,how / 8 % 2,0,0,0,0,0,0]
def KY (l:List IV) (bs:List aq):Prop:=∃ns m how,l=[.sl 0,.int .i64 m,.int .u8 how]/\bs=[.ro [.u8] ns]/\(0<=m/\m<=1000)/\im how
def FO (ns:L2) (m:Int):L2:=gp ns (eK ns m)
def FY:Vs.Spec:=⟨KY,fun l bs=>(.agg (af (wz (ae l 2 0)) 0 1 2 3 4),[.row 79 aM (FO (aA bs 0) (ae l 1 0)),.row 99 jt [],.row 101 ie [],.row 3 [.i64] (rU (FO (aA bs 0) (ae l 1 0)).length),.row 103 dE []])⟩
def V2:FuncId->Option Vs.Spec:=fun g=>if g=bB then some FY else JD g
section
open Go.IntWalk
theorem MK:∀ {g:FuncId} {sp:Vs.Spec},JD g=some sp->aa TP g sp:=ao CY (Fc)
theorem Is (n:Nat):rU n++[[-1]]=rU (n+1):=by unfold rU; rw [List.replicate_succ']
theorem lWo (d n0:Nat):aG (ai TP ZH d) bB n0 0 (lp TP bB 0) LWo:=by
 intro st K hst;obtain ⟨z,ns,xs,⟨hl,rfl,rfl⟩,hK⟩:=hst;refine aC (fun i:Nat=>mu z ns xs (rU i) i) (fun i=>i<=xs.length) (fun i=>xs.length - i) ?_ (a:=0) (Nat.zero_le _)
 intro i hle k hn hk;show round (ai TP { Γ:=JD,Λ:=_,Τ:=fun _=>none } d) _ _ _ _ _ k
 rw [TN]; delta Maa Mab Mac Mad Mah Mai Mal Mam Man Mao Map Maq Mar Mau Mav May MaA MaC MaH MaM MaR MaT MaX Ma4 Ma5 Mbd Mbe Mbh Mbk MbC MbD MbF MbT Mcg Mck Mcn Mcr Mdd Mdi MdF MdM MgM MgN MgZ Mh1 Mik Mir; rw [al];constructor
 ·intro hi;have hi':i < xs.length:=by omega
  refine ⟨by unfold rU; rw [List.length_replicate]; omega,?_⟩
  have:=hn (i+1) hi' (by omega)
  rw [← Is] at this;rw [show IntKind.i64.wrap ((i:Int)+1)=((i+1:Nat):Int) by rw [i64_in _ (by omega)]; rfl]
  exact this
 ·intro hi;have hi':i=xs.length:=by omega
  subst hi';exact hk _ _ (by simp) hK
theorem UC:KnowOk TP ZH 3:=cP (f0:=bB) (L:=LWo) (fun g sp h=>MK h) rfl (fun g G h=>Ub h) lWo 3
theorem yY {ns:L2} {m:Int} (h:0<=m/\m<=1000):(FO ns m).length<=1000/\(FO ns m).length<=m.toNat:=by
 unfold FO eK; rw [xr];have:min (ns.length / 4) m.toNat<=m.toNat:=Nat.min_le_right _ _;omega
theorem QW:aa TP bB FY:=by
 refine ab (N:=ZH) 3 UC ?_;rintro l bs _ hB ⟨ns,m,how,rfl,rfl,hm,hh⟩;unfold im at hh;show comes _ _ _ _ _ _ fun v bs'=>((IV.agg (af (wz how) 0 1 2 3 4),([.row 79 aM (FO ns m),.row 99 jt [],.row 101 ie [],.row 3 [.i64] (rU (FO ns m).length),.row 103 dE []]:List aq))=(v,bs'))
 rw [OJ]; delta Maa Mab Mac Mad Mae Mag Mah Mai Mal Mam Mao Map Maq Mar Mat Mav Maw Max May Maz MaA MaH MaI MaM MaT MaX Ma2 Ma4 Ma5 Mbd Mbe Mbi Mbv MbC MbD MbX Mck Mcz Mc1 Mdd Mdi Mdw MdF MdH Mev MeV MeZ MfR MgM MgN MgZ Mir;rintro t1 e1 t2 e2;rw [i64_in how (by omega),fH hh.1,i64_in (1+how % 3) (by omega)] at e1
 rw [e1,ke (by omega)] at e2
 have k1:t2 / 18446744073709551616=1+how % 3:=by omega
 have k2:t2 % 18446744073709551616=0:=by omega
 rw [k1,k2,i64_in how (by omega),u64_in how (by omega),u64_in (how*72057594037927936) (by omega),fH hh.1,u64_in (how % 4) (by omega),u64_in (how % 4*4611686018427387904) (by omega),
  Int.tdiv_eq_ediv_of_nonneg hh.1,Int.tdiv_eq_ediv_of_nonneg hh.1,i64_in (how / 4) (by omega),i64_in (how / 8) (by omega),fH (show 0<=how / 4 by omega),fH (show 0<=how / 8 by omega)]
 refine ⟨by decide,by rw [e1]; exact dY (by unfold bn; omega),by decide,by decide,by decide,by decide,by decide,by decide,by decide,⟨ns,m,rfl,rfl,hm⟩,wz how,ns,FO ns m,⟨(yY hm).1,rfl,rfl⟩,rfl⟩
theorem U5:∀ {g:FuncId} {sp:Vs.Spec},V2 g=some sp->aa TP g sp:=ao QW MK
def wa:L2:=[[2,0,2,4611686018427387904,0,9223372036854775808,0,1099511627776,-1,128,-1,2305843009213693952,0,2251799813685248,0,144115188075855872,0,0,0,514],[2,0,2,4611686018427387904,2,9223372036854775808,0,1099511627776,-1,130,-1,2305843009213693952,0,2251799813685248,0,146366987889541120,0,0,0,514]]
end
def zX (l:List IV) (bs:List aq):Prop:=l=[]/\bs=[]
def Ga:Vs.Spec:=⟨zX,fun _ _=>(.bool true,[])⟩
def V1:FuncId->Option Vs.Spec:=fun g=>if g=ee then some ve else V2 g
section
open Go.IntWalk
theorem S4 {how:Int} (h:im how):Cg (wz how):=by
 unfold im at h;have I:∀ {n:Int},-9223372036854775808<=n->n<=9223372036854775807->dt .i64 n:=fun h1 h2=>⟨h1,h2⟩
 have U:∀ {n:Int},0<=n->n<=18446744073709551615->dt .u64 n:=fun h1 h2=>⟨h1,h2⟩
 refine ⟨⟨rfl,?_⟩,?_,?_⟩
 ·intro j hj;rcases j with _|_|_|_|_|_|_|_|_|_|_|_|_|_|_|_|_|_|_|j
  ·show dt .i64 0; exact I (by omega) (by omega)
  ·show dt .i64 0; exact I (by omega) (by omega)
  ·show dt .u64 1152921504606846976; exact U (by omega) (by omega)
  ·show dt .i64 (1+how % 3); exact I (by omega) (by omega)
  ·show dt .u64 0; exact U (by omega) (by omega)
  ·show dt .i64 0; exact I (by omega) (by omega)
  ·show dt .u64 4611686018427387904; exact U (by omega) (by omega)
  ·show dt .i64 0; exact I (by omega) (by omega)
  ·show dt .u64 (how*72057594037927936); exact U (by omega) (by omega)
  ·show dt .i64 0; exact I (by omega) (by omega)
  ·show dt .u64 (how % 4*4611686018427387904); exact U (by omega) (by omega)
  ·show dt .i64 (how / 4 % 2); exact I (by omega) (by omega)
  ·show dt .i64 (how / 8 % 2); exact I (by omega) (by omega)
  ·show dt .i64 0; exact I (by omega) (by omega)
  ·show dt .u64 0; exact U (by omega) (by omega)
  ·show dt .i64 0; exact I (by omega) (by omega)
  ·show dt .u64 0; exact U (by omega) (by omega)
  ·show dt .i64 0; exact I (by omega) (by omega)
  ·show dt .u64 0; exact U (by omega) (by omega)
  ·omega
 ·show ag ((1+how % 3)*18446744073709551616+0); exact ⟨by omega,by omega⟩
 ·show ag (0*18446744073709551616+4611686018427387904); exact ⟨by decide,by decide⟩
theorem JK {ns:L2} (h:aI [.u8] ns) (m:Int):aY (FO ns m):=fun r hr=>EH (AH h _ r hr)
theorem sh {h:Int} (k:aj h):ag h:=by unfold aj at k; exact ⟨by omega,by omega⟩
theorem vr {h:Int} (k:aj h):IV.agg [.int .i64 0,.int .u64 h]=fx h:=(ae6 k (by omega)).symm
theorem LV (z:L1) (h:Int) (r:L1) (m ax ay:Int):bn (uA z h r m ax ay):=by
 unfold uA; split
 ·exact yH _ _
 ·exact TY _ _ _ _ _ _ _
theorem ahZ {l:L1} (h:∀ n∈l,im n):aI [.u8] (l.map fun n=>[n]):=by
 intro r hr j hj;rw [List.mem_map] at hr;obtain ⟨n,hn,rfl⟩:=hr;have:=h n hn;unfold im at this;have hj0:j=0:=by simp at hj; exact hj
 subst hj0;exact ⟨this.1,by show n<=255; omega⟩
theorem ahY:wa=FO ([128,128,1,2,130,128,1,2].map fun n=>[n]) 2:=rfl
theorem ag6:aY wa:=by
 rw [ahY];exact JK (ahZ (by intro n hn; simp at hn; unfold im; omega)) 2
theorem U4:∀ {g:FuncId} {sp:Vs.Spec},V1 g=some sp->aa TP g sp:=ao CQ U5
theorem rN:zX [] []:=⟨rfl,rfl⟩
end
def RA:FuncId->Option Vs.Spec:=fun g=>V1 g
def hJ:FuncId->Option Vs.Spec:=fun g=>RA g
def r5 (n:Nat) (xs:L2):Prop:=∀ r∈xs,r.length=n
def Rz:FuncId->Option Vs.Spec:=fun g=>hJ g
section
open Go.IntWalk
theorem QB:∀ {g:FuncId} {sp:Vs.Spec},RA g=some sp->aa TP g sp:=U4
theorem G8:∀ {g:FuncId} {sp:Vs.Spec},hJ g=some sp->aa TP g sp:=QB
theorem QA:∀ {g:FuncId} {sp:Vs.Spec},Rz g=some sp->aa TP g sp:=G8
end
def whS (b:OB):Nat:=match look b 1 with
 | some (.var _ [.fn g _])=>if g=aO then 4 else 6
 | _=>0
def Zb (args:List IV) (b:OB):Prop:=∃xs,aI aM xs/\xs.length<=maxLen/\ja xs/\((args=[.sl 0,.fn df []]/\b=[some (.ro aM xs)])∨(args=[.sl 0,.fn bt [.ptr 1 0]]/\(b=[some (.ro aM xs),some (.var 238 [.fn aO []])]∨b=[some (.ro aM xs),some (.var 238 [.fn aX []])])))
def VG:eG:=fun args b K=>Zb args b/\K (.tup [fx (cZ (whS b) (dh b 0)),.int .i64 (ca (whS b) (dh b 0))]) b
def VC:Know:={ Γ:=pM,Λ:=fun _ _=>none,Τ:=fun g=>if g=aV then some VG else none }
abbrev Mc4 (a b c d:Prop):Prop:=Mbw a (b/\c) d
abbrev Mf7 (a b:Int)(c:Prop)(d:Int)(e f:Prop)(g:Int)(h i:Prop):Prop:=Mci a b (Mcv c d e f) (McA g h i)
def Mhg (a b c d e f g:Int):IV:=.tup (Mb2 a b (MdC c d e f (Ma2 g)))
abbrev MjV (a b c d:Prop):Prop:=Max (Max a b c) (a/\d) c
theorem Ka (xs:L2) (K:KP):(comes TP VC 3 lR [.sl 0] [.ro aM xs] K) =(∀a,Maz a (cZ 6 xs) (∀b,Maz b a (∀c,Maz c (cZ 0 xs) (∀d,Maz d c (∀e,Maz e (cZ 4 xs) (∀f,Maz f e (∀g,MeA g b d (∀i,Meo i b d (∀j,MeA j f d (∀k,Meo k f d (∀l,Maz l (ca 0 xs) (∀m,Maz m (ca 6 xs) (∀n,Maz n (ca 4 xs) (∀o,Mbw o (K (Mhg 0 0 0 0 0 0 g) []) (∀p,Mbw p (K (Mhg 0 0 0 0 0 0 j) []) (∀q,Mbw q (K (Mhg 0 0 0 0 0 0 1) []) (∀r,Mbw r (K (Mhg 0 0 0 0 0 0 l) []) (∀s,Mbw s (K (Mhg 0 0 0 0 0 0 m) []) (∀t,Mbw t (K (Mhg 0 0 0 0 0 0 n) []) (∀u,Mbw u (MfJ a c) (∀v,Mbw v (K (MbJ c (MdC 0 0 0 0 Mb3)) []) (∀w,Mbw w (K (MbJ c (MdC 0 0 (Mag a) (Mae a) Mb3)) []) (∀x,Mbw x (K (MbJ c (MaD (Map (Mag e) (Mae e) 0 0 []) Mb3)) []) (∀y,Mbw y (K (MbJ c (MdC 0 0 (Mag i) (Mae i) Mb3)) []) (∀z,Mbw z (K (MbJ c (MaD (Map (Mag k) (Mae k) 0 0 []) Mb3)) []) (∀a1,Mbw a1 (K (MbJ c (Mdc e a Mb3)) []) (∀b1,Mbw b1 (Zb (Mao 0 [MaG 184 1 []]) (MdN xs 238 Mfi [])) (∀c1,Mbw c1 (K (MbJ c (Mdc k a Mb3)) []) (∀d1,Mbw d1 (K (MbJ c (Mdc e i Mb3)) []) (∀e1,Mbw e1 (K (MbJ c (Mdc k i Mb3)) []) (∀f1,Mc4 f1 o o (∀g1,Mc4 g1 p p (∀i1,Mc4 i1 r r (∀j1,Mc4 j1 s s (∀k1,Mc4 k1 t t (∀l1,Mc4 l1 o f1 (∀m1,Mc4 m1 f1 o (∀n1,Mc4 n1 p g1 (∀o1,Mc4 o1 g1 p (∀p1,Mc4 p1 r i1 (∀q1,Mc4 q1 i1 r (∀r1,Mc4 r1 s j1 (∀s1,Mc4 s1 j1 s (∀t1,Mc4 t1 t k1 (∀u1,Mc4 u1 k1 t (∀v1,Mbw v1 (MjV l1 f1 m1 o) (∀w1,Mbw w1 (MjV p1 i1 q1 r) (∀x1,Mbw x1 (MjV r1 j1 s1 s) (Mci (Man xs) 0 (Mjz q) (Mcv (Zb (Mao 0 [.fn 182 []]) (Mbu xs [])) l w1 (Mgl l (Mgl l (McA l w1 (Mjz v)) b1 (Mf7 m 0 u g v1 (Mjz y) m x1 (Mjz w))) (Zb (Mao 0 [MaG 184 1 []]) (MdN xs 238 Mfh [])) (Mci n 0 (MeT e c j (McA j (MjV n1 g1 o1 p) (Mjz z)) (b1/\Mf7 m 0 u g v1 (Mjz e1) m x1 (Mjz c1))) (McA n (McA n (MjV t1 k1 u1 t) (Mjz x)) (b1/\Mf7 m 0 u g v1 (Mjz d1) m x1 (Mjz a1))))))))))))))))))))))))))))))))))))))))))))))))))))))) :=by delta Maa Mab Mac Mad Mae Mag Mai Maj Mal Mam Man Mao Map Max Maz MaD MaG Ma2 Ma3 Mbl Mbu Mbw MbE MbJ Mb2 Mb3 Mci Mcv McA Mc4 Mdc MdC MdN Meo MeA MeT Mfh Mfi MfJ Mf7 Mgl Mhg Mjz MjV; refine nm ?_; refine nj ?_; refine nm ?_; refine nj ?_; refine nm ?_; refine nj ?_; (iterate 42 refine nm ?_); kernel_rfl
def uZ (w:Nat) (xs:L2):Int:=if ca w xs=0 then iY (cZ w xs) (cZ 0 xs) else ca w xs
def Jv (w:Nat) (xs:L2):Int:=if ca w xs=0 then fF (cZ w xs) (cZ 0 xs) else 0
def cE (xs:L2):Int:=if xs.length=0 then 1 else if ca 0 xs≠0 then ca 0 xs else if uZ 4 xs≠0 then uZ 4 xs else uZ 6 xs
def cM (xs:L2):Int:=if cE xs=0 then cZ 0 xs else 0
def cX (xs:L2):Int:=if cE xs=0 then Jv 4 xs else 0
def cY (xs:L2):Int:=if cE xs=0 then Jv 6 xs else 0
def Zd (l:List IV) (bs:List aq):Prop:=∃xs,l=[.sl 0]/\bs=[.ro aM xs]/\ja xs
def CL (xs:L2):IV:=.tup [fx (cM xs),vx (cX xs) (cY xs),.int .i64 (cE xs)]
def Lq (xs:L2):IV:=.agg [.int .i64 (cM xs / 18446744073709551616),.int .u64 (cM xs % 18446744073709551616),.int .i64 (cX xs / 18446744073709551616),.int .u64 (cX xs % 18446744073709551616),.int .i64 (cY xs / 18446744073709551616),.int .u64 (cY xs % 18446744073709551616),.int .i64 (cE xs)]
def R1:Vs.Spec:=⟨Zd,fun _ bs=>(CL (aA bs 0),[])⟩
def Kp:Vs.Spec:=⟨Zd,fun _ bs=>(Lq (aA bs 0),[])⟩
section
open Go.IntWalk
theorem FU (w:Nat):∀ (xs:L2) (a:Int),(qf w xs a).2≠0->(qf w xs a).1=0
 | [],a,h=>absurd rfl h
 | r :: l,a,h=>by
  unfold qf at h ⊢;split
  ·rfl
  ·rename_i h1;rw [if_neg h1] at h;split
   ·rfl
   ·rename_i h2;rw [if_neg h2] at h;exact FU w l _ h
theorem FT (w:Nat):∀ (xs:L2) (a:Int),ag a->ag (qf w xs a).1
 | [],a,h=>h
 | r :: l,a,h=>by
  unfold qf;split
  ·exact bg
  ·split
   ·exact bg
   ·rename_i h2;exact FT w l _ (ff.1 (by simpa using h2))
theorem jA (w:Nat) (xs:L2):ag (cZ w xs):=FT w xs 0 bg
theorem aaT:KnowOk TP ZB 3:=cP (f0:=aV) (L:=NV) (fun g sp h=>G6 h) rfl L3 XA 3
theorem aaS:KnowOk TP ZA 3:=cP (f0:=aV) (L:=yT aO 4) (fun g sp h=>G6 h) rfl L3 Xz 3
theorem aaR:KnowOk TP Zz 3:=cP (f0:=aV) (L:=yT aX 6) (fun g sp h=>G6 h) rfl L3 Xy 3
theorem vP {w:Nat} {xs:L2} {b:OB} {K:IV->OB->Prop} (hK:K (.tup [fx (cZ w xs),.int .i64 (ca w xs)]) b):
  br (ca w xs != 0) (K (.tup [.agg [.int .i64 0,.int .u64 0],.int .i64 (ca w xs)]) b) (K (.tup [fx (cZ w xs),.int .i64 0]) b):=by
 rw [ah];constructor
 ·intro h;rw [show cZ w xs=0 from FU w xs 0 h] at hK
  exact hK
 ·intro h;rw [h] at hK;exact hK
theorem Qn:cf TP aV (fun args b K=>(∃xs,aI aM xs/\xs.length<=maxLen/\ja xs/\args=[.sl 0,.fn df []]/\b=[some (.ro aM xs)])/\K (.tup [fx (cZ 0 (dh b 0)),.int .i64 (ca 0 (dh b 0))]) b):=by
 refine cL (N:=ZB) 3 aaT ?_;rintro args b K ⟨⟨xs,hr,hl,hm,rfl,rfl⟩,hK⟩;show bQ _ _ _ _ _ _ fun v b1=>ld 1 v b1 K
 rw [Td]; delta Maa Mab Mac Mad Mai Mal Mam Man Maq Mar Mav MaA MaD MaH Ma2 Ma3 Mbl Mbu MbJ MbM MbV Mb2 Mb3 Mca Mcv Mfs Mf2 MhR MiT;exact ⟨xs,⟨hr,hl,hm,rfl,rfl⟩,vP hK⟩
theorem Qm:cf TP aV (fun args b K=>(∃xs,aI aM xs/\xs.length<=maxLen/\ja xs/\args=[.sl 0,.fn bt [.ptr 1 0]]/\b=[some (.ro aM xs),some (.var 238 [.fn aO []])])/\K (.tup [fx (cZ 4 (dh b 0)),.int .i64 (ca 4 (dh b 0))]) b):=by
 refine cL (N:=ZA) 3 aaS ?_;rintro args b K ⟨⟨xs,hr,hl,hm,rfl,rfl⟩,hK⟩;show bQ _ _ _ _ _ _ fun v b1=>ld 2 v b1 K
 rw [Tc]; delta Maa Mab Mac Mad Mai Maj Mal Mam Man Maq Mar Mav MaA MaD MaG MaH Ma2 Ma3 Mbl MbJ MbM MbV Mb2 Mb3 Mca Mcv Mcy MdN Mfh Mfs Mf2 MhR Mif MiO MiT;exact ⟨xs,⟨hr,hl,hm,rfl,rfl⟩,vP hK⟩
theorem Ql:cf TP aV (fun args b K=>(∃xs,aI aM xs/\xs.length<=maxLen/\ja xs/\args=[.sl 0,.fn bt [.ptr 1 0]]/\b=[some (.ro aM xs),some (.var 238 [.fn aX []])])/\K (.tup [fx (cZ 6 (dh b 0)),.int .i64 (ca 6 (dh b 0))]) b):=by
 refine cL (N:=Zz) 3 aaR ?_;rintro args b K ⟨⟨xs,hr,hl,hm,rfl,rfl⟩,hK⟩;show bQ _ _ _ _ _ _ fun v b1=>ld 2 v b1 K
 rw [Tb]; delta Maa Mab Mac Mad Mai Maj Mal Mam Man Maq Mar Mav MaA MaD MaG MaH Ma2 Ma3 Mbl MbJ MbM MbV Mb2 Mb3 Mca Mcv Mcy MdN Mfi Mfs Mf2 MhR Mif MiO MiT;exact ⟨xs,⟨hr,hl,hm,rfl,rfl⟩,vP hK⟩
theorem UU:cf TP aV VG:=by
 rintro args b K ⟨⟨xs,hr,hl,hm,h⟩,hK⟩;rcases h with ⟨rfl,rfl⟩ | ⟨rfl,rfl | rfl⟩
 ·exact Qn _ _ _ ⟨⟨xs,hr,hl,hm,rfl,rfl⟩,hK⟩
 ·exact Qm _ _ _ ⟨⟨xs,hr,hl,hm,rfl,rfl⟩,hK⟩
 ·exact Ql _ _ _ ⟨⟨xs,hr,hl,hm,rfl,rfl⟩,hK⟩
theorem P9:KnowOk TP VC 3:=LI (f0:=aV) (G:=VG) (fun g sp h=>lW h) (fun _ _=>rfl) rfl UU 3
theorem sB {xs:L2} {e:Int} (he:e≠0) (h:cE xs=e):(CL xs,([]:List aq))=(.tup [.agg [.int .i64 0,.int .u64 0],.agg [.int .i64 0,.int .u64 0,.int .i64 0,.int .u64 0],.int .i64 e],[]):=by
 unfold CL cM cX cY;rw [h,if_neg he,if_neg he,if_neg he]
 rfl
theorem Nz:aa TP lR R1:=by
 refine ab (N:=VC) 3 P9 ?_;rintro l bs _ hB ⟨xs,rfl,rfl,hm⟩;have hb:aI aM xs/\0 < aM.length/\xs.length<=maxLen:=hB (.ro aM xs) (List.mem_singleton.2 rfl);show comes _ _ _ _ _ _ fun v bs'=>(CL xs,([]:List aq))=(v,bs')
 rw [Ka]; delta Maa Mab Mac Mad Mae Mag Mai Maj Mal Mam Man Mao Map Max Maz MaD MaG Ma2 Ma3 Mbl Mbu Mbw MbE MbJ Mb2 Mb3 Mci Mcv McA Mc4 Mdc MdC MdN Meo MeA MeT Mfh Mfi MfJ Mf7 Mgl Mhg Mjz MjV;rintro t1 e1 j2 rfl t3 e3 j4 rfl t5 e5 j6 rfl t7 e7 t8 e8 t9 e9 t10 e10 t11 e11 t12 e12 t13 e13 _ rfl _ rfl _ rfl _ rfl _ rfl _ rfl t20 e20 _ rfl _ rfl _ rfl _ rfl _ rfl _ rfl t27 e27 _ rfl _ rfl _ rfl _ rfl _ rfl _ rfl _ rfl _ rfl _ rfl _ rfl _ rfl _ rfl _ rfl _ rfl _ rfl _ rfl _ rfl _ rfl _ rfl _ rfl _ rfl;simp only [and_self];have k20:t20:=by rw [e20]; exact aU (by rw [e1]; exact jA 6 xs) (by rw [e3]; exact jA 0 xs)
 have k27:t27:=by rw [e27]; exact ⟨xs,hb.1,hb.2.2,hm,.inr ⟨rfl,.inr rfl⟩⟩
 rw [dp];refine ⟨fun h0=>?_,fun h0=>?_⟩
 ·exact sB (by decide) (if_pos (by omega))
 have hlen:¬ xs.length=0:=by omega
 refine ⟨⟨xs,hb.1,hb.2.2,hm,.inl ⟨rfl,rfl⟩⟩,?_⟩;rw [ah];refine ⟨fun h=>sB h (by unfold cE; rw [if_neg hlen,if_pos (by rw [← e11]; exact h),e11]),fun h=>?_⟩
 have hs0:¬ ca 0 xs≠0:=by rw [← e11]; simpa using h
 rw [ah];refine ⟨fun h'=>absurd h h',fun _=>?_⟩
 refine ⟨⟨xs,hb.1,hb.2.2,hm,.inr ⟨rfl,.inl rfl⟩⟩,?_⟩;have fin:∀ {a b:Int},uZ 4 xs=0->Jv 4 xs=a->uZ 6 xs=0->Jv 6 xs=b->(CL xs,([]:List aq))=(.tup [fx j4,vx a b,.int .i64 0],[]):=by
  intro a b h1 h2 h3 h4;have hc:cE xs=0:=by unfold cE; rw [if_neg hlen,if_neg hs0,if_neg (by simpa using h1),h3]
  unfold CL cM cX cY;rw [hc,if_pos rfl,if_pos rfl,if_pos rfl,h2,h4,e3]
 have stop4:∀ {e:Int},e≠0->uZ 4 xs=e->(CL xs,([]:List aq))=(.tup [.agg [.int .i64 0,.int .u64 0],.agg [.int .i64 0,.int .u64 0,.int .i64 0,.int .u64 0],.int .i64 e],[]):=by
  intro e he h;exact sB he (by unfold cE; rw [if_neg hlen,if_neg hs0,if_pos (by rw [h]; exact he),h])
 have stop6:∀ {e:Int},uZ 4 xs=0->e≠0->uZ 6 xs=e->(CL xs,([]:List aq))=(.tup [.agg [.int .i64 0,.int .u64 0],.agg [.int .i64 0,.int .u64 0,.int .i64 0,.int .u64 0],.int .i64 e],[]):=by
  intro e h4 he h;exact sB he (by unfold cE; rw [if_neg hlen,if_neg hs0,if_neg (by simpa using h4),h])
 have ax4:t13=0->uZ 4 xs=t9/\Jv 4 xs=t10:=by
  intro h;unfold uZ Jv;rw [if_pos (by rw [← e13]; exact h),if_pos (by rw [← e13]; exact h),e9,e10,e5,e3]
  exact ⟨rfl,rfl⟩
 have ax6:t12=0->uZ 6 xs=t7/\Jv 6 xs=t8:=by
  intro h;unfold uZ Jv;rw [if_pos (by rw [← e12]; exact h),if_pos (by rw [← e12]; exact h),e7,e8,e1,e3]
  exact ⟨rfl,rfl⟩
 have ax4':t13≠0->uZ 4 xs=t13:=by
  intro h;unfold uZ;rw [if_neg (by rw [← e13]; exact h),e13]
 have ax6':t12≠0->uZ 6 xs=t12:=by
  intro h;unfold uZ;rw [if_neg (by rw [← e12]; exact h),e12]
 rw [dp];refine ⟨fun h13=>?_,fun h13=>?_⟩
 ·refine ⟨aU (by rw [e5]; exact jA 4 xs) (by rw [e3]; exact jA 0 xs),?_⟩
  rw [ah];refine ⟨fun h=>?_,fun h9=>?_⟩
  ·rw [ah];exact ⟨fun h9=>stop4 h9 (ax4 h13).1,fun h9=>absurd h9 h⟩
  refine ⟨k27,?_⟩;rw [dp];refine ⟨fun h12=>⟨k20,?_⟩,fun h12=>?_⟩
  ·rw [ah];exact ⟨fun h7=>stop6 (by rw [(ax4 h13).1,h9]) h7 (ax6 h12).1,fun h7=>fin (by rw [(ax4 h13).1,h9]) (ax4 h13).2 (by rw [(ax6 h12).1,h7]) (ax6 h12).2⟩
  ·rw [ah];exact ⟨fun _=>stop6 (by rw [(ax4 h13).1,h9]) h12 (ax6' h12),fun h=>absurd h h12⟩
 ·rw [ah];refine ⟨fun _=>?_,fun h=>absurd h h13⟩
  rw [ah];exact ⟨fun _=>stop4 h13 (ax4' h13),fun h=>absurd h h13⟩
end
def Ce:List IV:=[.int .i64 0,.int .u64 0,.int .i64 0,.int .u64 0,.int .i64 0,.int .u64 0,.int .i64 0]
def Iw (e:Int):List IV:=[.int .i64 0,.int .u64 0,.int .i64 0,.int .u64 0,.int .i64 0,.int .u64 0,.int .i64 e]
def Zu (xs:L2) (m i:Int):St:=⟨T 111 [(0,.sl 0),(2,.ptr 1 0),(3,.ptr 2 0),(4,.int .i64 i)],[some (.ro aM xs),some (.var 171 Ce),some (.var 25 (fx m).cells)]⟩
def Rl (xs ds:L2) (m a s i:Int):St:=⟨T 111 [(0,.sl 0),(2,.ptr 1 0),(3,.ptr 2 0),(6,.sl 3),(7,.int .i64 a),(8,.ptr 4 0),(9,.int .i64 i)],[some (.ro aM xs),some (.var 171 Ce),some (.var 25 (fx m).cells),some (.row 25 [.i64,.u64] ds),some (.var 25 (fx s).cells)]⟩
def Me7 (a b c d e f g:Int):List IV:=Mal a b (Map c d e f (Ma2 g))
def Mfw (a b c d e f:Int):List IV:=Mal a b (Map c d e f Mb3)
def Mgu (a b c d e f:Nat)(g:List (Nat × IV))(h:OB):St:=Mbe a b Mcm (MaR c d e f g) h
def Mg5 (a:L2)(b c d e f g h i:Int)(j:OB):OB:=Mbu a (Mav 171 (Mfw b c d e f g) 25 (Ma9 h i []) j)
def Mj4 (a:L2)(b:Int):St:=MbD 111 2 1 [] (MdN a 171 (Me7 0 0 0 0 0 0 b) [])
theorem rc0 (Λ:FuncId->Nat->Option aB) (d:Nat) (xs:L2) (m i:Int) (k:Out->St->Prop):(round (ai TP { Γ:=pM,Λ:=Λ,Τ:=fun _=>none } d) ak 1 0 (lp TP ak 0) (Zu xs m i) k) =(∀a,Maz a m (∀b,MdP b xs i (∀c,Md7 c xs i (∀e,Mi8 e i xs (∀f,Mgy f a (Mba b c) (∀g,Mcb g f (∀j,MbA j f (Mcg i xs (Mju e (jN (Mbl m (Mb2 b c [])) []) g (k .ret (Mj4 xs g)) (k .normal (MaH 111 (Mca 0 Mcm 2 1 (MdM 3 2 4 i)) (Mg5 xs 0 0 0 0 0 0 j j [])))) (k MbT (Mgu 111 0 2 1 3 2 [] (Mg5 xs 0 0 0 0 0 0 m m []))))))))))) :=by delta Maa Mab Mac Mad Mae Mag Mah Mai Maj Mal Mam Man Map Maq Mar Mas Mat Mav Max Maz MaA MaC MaD MaH MaR MaV Ma1 Ma2 Ma3 Ma9 Mba Mbe Mbl Mbp Mbu Mbw MbA MbC MbD MbF MbT Mb2 Mb3 Mb4 Mca Mcb Mcg Mcm Mcr McA MdF MdM MdN MdP Md7 Me7 Mfw Mgu Mgy Mg5 Mi8 Mju Mj4; refine nj ?_; (iterate 6 refine nm ?_); kernel_rfl
def MdU (a:Nat)(b:List IntKind)(c:L2):aq:=.row a (.i64::.u64::b) c
def MeY:Out:=.exit 4
def MhC (a:List IntKind)(b:L2)(c:Nat)(d:List IV)(e:OB):OB:=Mad (MdU 25 a b) (.var c d) e
theorem rc2 (Λ:FuncId->Nat->Option aB) (d:Nat) (xs ds:L2) (m s i:Int) (k:Out->St->Prop):(round (ai TP { Γ:=pM,Λ:=Λ,Τ:=fun _=>none } d) ak 1 2 (lp TP ak 2) (Rl xs ds m 0 s i) k) =(∀a,Maz a s (∀b,Mdg b (Mj1 xs i) (MbH xs i 4 xs i 5) (∀c,Maz c b (∀e,MdP e xs i (∀f,Md7 f xs i (∀g,Mfj g xs i (∀j,Mfk j xs i (∀l,Mg2 l a c (∀n,Mfy n a c (∀o,Mi8 o i xs (∀p,Mdo p (Mba e f) (Mba g j) (Mcg i xs (Mdm o o o o (MfL e f g j []) (McA p (k .ret (Mj4 xs p)) (MeT s b l (k .ret (Mj4 xs l)) (k .normal (Mgu 111 0 2 1 3 2 (MbK 6 3 7 0 (MdM 8 4 9 i)) (Mg5 xs 0 0 0 0 0 0 m m (MhC [] ds 25 (Mi9 n) []))))))) (k MeY (MaH 111 (Mca 0 Mcm 2 1 (MbV 3 2 6 3 (Mca 7 Mew 8 4 []))) (Mg5 xs 0 0 0 0 0 0 m m (MhC [] ds 25 (Mi9 s) [])))))))))))))))) :=by delta Maa Mab Mac Mad Mae Mag Mah Mai Maj Mal Mam Man Map Maq Mar Mas Mat Mav Max Maz MaA MaC MaD MaH MaI MaR MaV Ma1 Ma2 Ma3 Ma9 Mba Mbe Mbl Mbp Mbu Mbw MbA MbC MbD MbE MbF MbH MbK MbV Mb2 Mb3 Mca Mcb Mcg Mcm Mcr Mcv McA Mdg Mdm Mdo MdF MdM MdN MdP MdU Md7 Mew MeT MeY Me7 Mfj Mfk Mfw Mfy MfL Mgu Mg2 Mg5 MhC Mi8 Mi9 Mj1 Mj4; refine nj ?_; refine nm ?_; refine nj ?_; (iterate 8 refine nm ?_); kernel_rfl
theorem rc3 (Λ:FuncId->Nat->Option aB) (d:Nat) (xs ds:L2) (m s i:Int) (k:Out->St->Prop):(round (ai TP { Γ:=pM,Λ:=Λ,Τ:=fun _=>none } d) ak 1 2 (lp TP ak 2) (Rl xs ds m 1 s i) k) =(∀a,Maz a s (∀b,Mdg b (Mj1 xs i) (MbH xs i 6 xs i 7) (∀c,Maz c b (∀e,MdP e xs i (∀f,Md7 f xs i (∀g,MfM g xs i (∀j,MfN j xs i (∀l,Mg2 l a c (∀n,Mfy n a c (∀o,Mi8 o i xs (∀p,Mdo p (Mba e f) (Mba g j) (Mcg i xs (Mfz o o o o o o (MfL e f g j []) (McA p (k .ret (Mj4 xs p)) (MeT s b l (k .ret (Mj4 xs l)) (k .normal (Mgu 111 0 2 1 3 2 (MbK 6 3 7 1 (MdM 8 4 9 i)) (Mg5 xs 0 0 0 0 0 0 m m (MhC [] ds 25 (Mi9 n) []))))))) (k MeY (MaH 111 (Mca 0 Mcm 2 1 (MbV 3 2 6 3 (Mca 7 MfF 8 4 []))) (Mg5 xs 0 0 0 0 0 0 m m (MhC [] ds 25 (Mi9 s) [])))))))))))))))) :=by delta Maa Mab Mac Mad Mae Mag Mah Mai Maj Mal Mam Man Map Maq Mar Mas Mat Mav Max Maz MaA MaC MaD MaH MaI MaR MaV Ma1 Ma2 Ma3 Ma9 Mba Mbe Mbl Mbp Mbu Mbw MbA MbC MbD MbE MbF MbH MbK MbV Mb2 Mb3 Mb4 Mca Mcb Mcg Mcm Mcr Mcv McA Mdg Mdo MdF MdM MdN MdP MdU Md7 MeT MeY Me7 Mfw Mfy Mfz MfF MfL MfM MfN Mgu Mg2 Mg5 MhC Mi8 Mi9 Mj1 Mj4; refine nj ?_; refine nm ?_; refine nj ?_; (iterate 8 refine nm ?_); kernel_rfl
def N6 (a:Int):Nat:=if a=0 then 4 else 6
def pC0 (n0:Nat) (st:St) (xs:L2):Prop:=aI aM xs/\xs.length<=maxLen/\ja xs/\n0=1/\st=Zu xs 0 0
def pC2 (n0:Nat) (st:St) (xs ds:L2) (m a:Int):Prop:=aI aM xs/\xs.length<=maxLen/\ja xs/\(a=0∨a=1)/\n0=1/\st=Rl xs ds m a 0 0
def Lc0:aB:=fun n0 st K=>∃xs,pC0 n0 st xs/\br (ca 0 xs != 0) (K .ret ⟨T 111 [(2,.ptr 1 0)],[some (.ro aM xs),some (.var 171 (Iw (ca 0 xs)))]⟩) (K (.exit 0) ⟨T 111 [(0,.sl 0),(2,.ptr 1 0),(3,.ptr 2 0)],[some (.ro aM xs),some (.var 171 Ce),some (.var 25 (fx (cZ 0 xs)).cells)]⟩)
def Lc2:aB:=fun n0 st K=>∃xs ds m a,pC2 n0 st xs ds m a/\br (ca (N6 a) xs != 0) (K .ret ⟨T 111 [(2,.ptr 1 0)],[some (.ro aM xs),some (.var 171 (Iw (ca (N6 a) xs)))]⟩) (K (.exit 4) ⟨T 111 [(0,.sl 0),(2,.ptr 1 0),(3,.ptr 2 0),(6,.sl 3),(7,.int .i64 a),(8,.ptr 4 0)],[some (.ro aM xs),some (.var 171 Ce),some (.var 25 (fx m).cells),some (.row 25 [.i64,.u64] ds),some (.var 25 (fx (cZ (N6 a) xs)).cells)]⟩)
def me (xs ds:L2) (m a:Int):St:=⟨T 111 [(0,.sl 0),(2,.ptr 1 0),(3,.ptr 2 0),(6,.sl 3),(7,.int .i64 a)],[some (.ro aM xs),some (.var 171 Ce),some (.var 25 (fx m).cells),some (.row 25 [.i64,.u64] ds)]⟩
def Ii (x:Int):L1:=[x / 18446744073709551616,x % 18446744073709551616]
def Hr (w:Nat) (xs:L2) (m:Int):Int:=if ca w xs≠0 then ca w xs else iY (cZ w xs) m
def pC1 (n0:Nat) (st:St) (xs:L2) (m:Int):Prop:=aI aM xs/\xs.length<=maxLen/\ja xs/\ag m/\n0=1/\st=me xs [] m 0
def Lc1:aB:=fun n0 st K=>∃xs m,pC1 n0 st xs m/\br (Hr 4 xs m != 0) (K .ret ⟨T 111 [(2,.ptr 1 0)],[some (.ro aM xs),some (.var 171 (Iw (Hr 4 xs m)))]⟩) (br (Hr 6 xs m != 0) (K .ret ⟨T 111 [(2,.ptr 1 0)],[some (.ro aM xs),some (.var 171 (Iw (Hr 6 xs m)))]⟩) (K (.exit 2) ⟨T 111 [(2,.ptr 1 0),(3,.ptr 2 0),(6,.sl 3)],[some (.ro aM xs),some (.var 171 Ce),some (.var 25 (fx m).cells),some (.row 25 [.i64,.u64] [Ii (fF (cZ 4 xs) m),Ii (fF (cZ 6 xs) m)])]⟩))
def Jo:Know:={ Γ:=pM,Λ:=fun f i=>if f=ak then (if i=0 then some Lc0 else if i=1 then some Lc1 else if i=2 then some Lc2 else none) else none,Τ:=fun _=>none }
def Mez:Out:=.exit 2
def MeS (a:Nat)(b c:Int)(d:aq):OB:=Maq a (Ma9 b c []) d []
def Mic (a:Int)(b:L2)(c:Int)(d:L2):Int:=Mba (Mag (cZ (N6 a) b)) (Mae (cZ (N6 c) d))
theorem rc1 (d:Nat) (xs ds:L2) (m a:Int) (k:Out->St->Prop):(round (ai TP Jo d) ak 1 1 (lp TP ak 1) (me xs ds m a) k) =(MbF a 2 (∃b:L2,∃c:L2,∃e:Int,∃f:Int,Mcv (pC2 1 (Mgu 111 0 2 1 3 2 (MbK 6 3 7 a (MdF 8 4 9 0)) (Mg5 xs 0 0 0 0 0 0 m m (MhC [] ds 25 (Mfs 0) []))) b c e f) (ca (N6 f) b) (k .ret (Mj4 b (ca (N6 f) b))) (MeT (cZ (N6 f) b) e (iY (Mic f b f b) (MjA e)) (k .ret (Mj4 b (iY (Mic f b f b) (MjA e)))) (Mik c 16 (k .normal (Mgu 111 0 2 1 3 2 (Mfe 6 3 7 f) (MdN b 171 (Mfw 0 0 0 0 0 0) (MeS 25 e e (MdU 25 [] (Mg0 c 2 [Mag (fF (Mic f b f b) (MjA e)),Mae (fF (Mic f b f b) (MjA e))]))))))))) (k Mez (MbD 111 2 1 (MbV 3 2 6 3 []) (MdN xs 171 (Mfw 0 0 0 0 0 0) (MeS 25 m m (MdU 25 [] ds)))))) :=by kernel_rfl
theorem H3 (xs:L2) (K:KP):(comes TP Jo 3 ak [.sl 0] [.ro aM xs] K) =(∀a,Mbw a ((0:Int)<=0/\0 < (↑2:Int)) (∀b,Mbw b ((0:Int)<=1/\1 < (↑2:Int)) (Mci (Man xs) 0 (K (.agg (Me7 0 0 0 0 0 0 1)) []) (∃c:L2,Mcv (pC0 1 (MaH 111 (Mca 0 Mcm 2 1 (MdF 3 2 4 0)) (Mbu xs (Mav 171 (Mfw 0 0 0 0 0 0) 25 (Mfs 0) []))) c) (ca 0 c) (K (.agg (Me7 0 0 0 0 0 0 (ca 0 c))) []) (∃d:L2,∃e:Int,Mcv (pC1 1 (Mgu 111 0 2 1 3 2 (Mhu 6 3 7) (MdN c 171 (Mfw 0 0 0 0 0 0) (MeS 25 (cZ 0 c) (cZ 0 c) (MdU 25 [] [])))) d e) (Hr 4 d e) (K (.agg (Me7 0 0 0 0 0 0 (Hr 4 d e))) []) (McA (Hr 6 d e) (K (.agg (Me7 0 0 0 0 0 0 (Hr 6 d e))) []) (MaI a a b b (K (.agg (Mfw (Mag e) (Mae e) (Mag (fF (cZ 4 d) e)) (Mae (fF (cZ 4 d) e)) (Mag (fF (cZ 6 d) e)) (Mae (fF (cZ 6 d) e)))) [])))))))) :=by delta Maa Mab Mac Mad Mae Mag Mai Maj Mal Mam Man Map Maq Mar Mav Max MaA MaH MaI MaR Ma2 Ma3 Ma9 Mbe Mbu Mbw MbK Mb3 Mca Mci Mcm Mcv McA MdF MdN MdU Mef MeS Me7 Mfs Mfw Mgu Mhu; refine nm ?_; refine nm ?_; kernel_rfl
section
open Go.IntWalk
theorem lc0 (d n0:Nat):aG (ai TP Jo d) ak n0 0 (lp TP ak 0) Lc0:=by
 intro st K hst;obtain ⟨xs,⟨hr,hm,hmay,rfl,rfl⟩,hK⟩:=hst;have hm':xs.length<=9223372036854775807:=hm;refine aC (fun p:Int × Nat=>Zu xs p.1 p.2) (Jq 0 xs) (fun p=>xs.length - p.2) ?_ (a:=(0,0)) ⟨by simp,bg,rfl⟩
 rintro ⟨a,i⟩ ⟨h1,h2,h3⟩ k hn hk;simp only at h1 h2 h3;show round (ai TP { Γ:=pM,Λ:=_,Τ:=fun _=>none } d) _ _ _ _ (Zu xs a i) k
 rw [rc0]; delta Maa Mab Mac Mad Mae Mag Mah Mai Maj Mal Mam Man Map Maq Mar Mas Mat Mav Max Maz MaA MaC MaD MaH MaR MaV Ma1 Ma2 Ma3 Ma9 Mba Mbe Mbl Mbp Mbu Mbw MbA MbC MbD MbF MbT Mb2 Mb3 Mb4 Mca Mcb Mcg Mcm Mcr McA MdF MdM MdN MdP Md7 Me7 Mfw Mgu Mgy Mg5 Mi8 Mju Mj4;rintro a rfl t2 e2 t3 e3 t4 e4 t5 e5 t6 e6 t7 e7;rw [al];constructor
 ·intro hi;have hi':i < xs.length:=by omega
  have et:(i:Int).toNat=i:=by omega
  rw [et] at e2 e3;have hmi:=(hmay _ (List.getElem_mem hi')).1;have ex:t2*18446744073709551616+t3=fr xs[i] 0:=by rw [e2,e3]; exact bA hi' 0
  have ok3:aj t3:=by rw [e3]; exact cH hr i 1 (by decide) rfl
  have p4:t4:=by rw [e4]; omega
  refine ⟨p4,p4,⟨a,fr xs[i] 0,by rw [ae6 ok3 ex.symm],rfl,h2,hmi⟩,?_⟩
  rw [ex] at e5;rw [l8 0 hi',if_neg (show ¬ Kg 0 xs[i]≠0 from fun h=>h rfl),show Js 0 xs[i]=fr xs[i] 0 from rfl,← e5,← e6] at h3
  rw [ah];constructor
  ·intro hno;rw [if_pos hno] at h3;have hE:ca 0 xs=t6:=(congrArg Prod.snd h3).symm;rw [hE,ah] at hK;exact hk _ _ (by simp) (hK.1 hno)
  ·intro hmy;rw [if_neg (by simpa using hmy)] at h3
   have hmf:ag t5:=ff.1 (by rw [← e6]; exact hmy)
   rw [mo hi' hm,e7,abY hmf];exact hn (t5,i+1) ⟨hi',hmf,h3⟩ (by simp; omega)
 ·intro hi;have hi':¬ i < xs.length:=by omega
  rw [l7 0 hi'] at h3;have hE:ca 0 xs=0:=(congrArg Prod.snd h3).symm;have hN:cZ 0 xs=a:=(congrArg Prod.fst h3).symm;rw [hE,hN,ah] at hK;exact hk _ _ (by simp) (hK.2 rfl)
theorem aaF (d:Nat) {xs ds:L2} {m:Int} {K:Out->St->Prop} (hr:aI aM xs) (hm:xs.length<=maxLen) (hmay:ja xs)
  (hK:br (ca 4 xs != 0) (K .ret ⟨T 111 [(2,.ptr 1 0)],[some (.ro aM xs),some (.var 171 (Iw (ca 4 xs)))]⟩) (K (.exit 4) ⟨T 111 [(0,.sl 0),(2,.ptr 1 0),(3,.ptr 2 0),(6,.sl 3),(7,.int .i64 0),(8,.ptr 4 0)],[some (.ro aM xs),some (.var 171 Ce),some (.var 25 (fx m).cells),some (.row 25 [.i64,.u64] ds),some (.var 25 (fx (cZ 4 xs)).cells)]⟩)):
  ∃n,oh (exec (ai TP Jo d) ak 1 (Nat.lor (lp TP ak 2).1 (gen (lp TP ak 2).2)) (2+1) (lp TP ak 2).2) (gc 1 (jh (Nat.lor (lp TP ak 2).1 (gen (lp TP ak 2).2)))) n (Rl xs ds m 0 0 0) fun o st'=>K o (gc 1 (agF (ai TP Jo d).P ak (lp TP ak 2).1 o) st'):=by
 have hm':xs.length<=9223372036854775807:=hm;refine aC (fun p:Int × Nat=>Rl xs ds m 0 p.1 p.2) (Jq 4 xs) (fun p=>xs.length - p.2) ?_ (a:=(0,0)) ⟨by simp,bg,rfl⟩
 rintro ⟨a,i⟩ ⟨h1,h2,h3⟩ k hn hk;simp only at h1 h2 h3;show round (ai TP { Γ:=pM,Λ:=_,Τ:=fun _=>none } d) _ _ _ _ (Rl xs ds m 0 a i) k
 rw [rc2]; delta Maa Mab Mac Mad Mae Mag Mah Mai Maj Mal Mam Man Map Maq Mar Mas Mat Mav Max Maz MaA MaC MaD MaH MaI MaR MaV Ma1 Ma2 Ma3 Ma9 Mba Mbe Mbl Mbp Mbu Mbw MbA MbC MbD MbE MbF MbH MbK MbV Mb2 Mb3 Mca Mcb Mcg Mcm Mcr Mcv McA Mdg Mdm Mdo MdF MdM MdN MdP MdU Md7 Mew MeT MeY Me7 Mfj Mfk Mfw Mfy MfL Mgu Mg2 Mg5 MhC Mi8 Mi9 Mj1 Mj4;rintro a rfl t2 e2 j3 q3 t4 e4 t5 e5 t6 e6 t7 e7 t8 e8 t9 e9 t10 e10 t11 e11;rw [al];constructor
 ·intro hi;have hi':i < xs.length:=by omega
  have et:(i:Int).toNat=i:=by omega
  rw [et] at e2 e4 e5 e6 e7;have hmi:=hmay _ (List.getElem_mem hi');have ex:t4*18446744073709551616+t5=fr xs[i] 0:=by rw [e4,e5]; exact bA hi' 0
  have ey:t6*18446744073709551616+t7=fr xs[i] 4:=by rw [e6,e7]; exact bA hi' 4
  have ok5:aj t5:=by rw [e5]; exact cH hr i 1 (by decide) rfl
  have ok7:aj t7:=by rw [e7]; exact cH hr i 5 (by decide) rfl
  have T2:t2=aep (az (fr xs[i] 0) (fr xs[i] 4)):=by rw [e2,bA hi' 0,bA hi' 4]
  have T11:t11=bG (az (fr xs[i] 0) (fr xs[i] 4)):=by rw [e11,ex,ey]
  have p10:t10:=by rw [e10]; omega
  refine ⟨p10,p10,p10,p10,⟨fr xs[i] 0,fr xs[i] 4,by rw [ae6 ok5 ex.symm,ae6 ok7 ey.symm],rfl,hmi.1,hmi.2.1⟩,?_⟩
  rw [l8 4 hi',show Kg 4 xs[i]=bG (az (fr xs[i] 0) (fr xs[i] 4)) from rfl,show Js 4 xs[i]=aep (az (fr xs[i] 0) (fr xs[i] 4)) from rfl,← T11,← T2] at h3
  rw [q3] at e8 e9;rw [← e8] at h3;rw [ah];constructor
  ·intro hno;rw [if_pos hno] at h3;have hE:ca 4 xs=t11:=(congrArg Prod.snd h3).symm;rw [hE,ah] at hK;exact hk _ _ (by simp) (hK.1 hno)
  intro h11;rw [if_neg (by simpa using h11)] at h3
  refine ⟨aU h2 (by rw [T2]; exact dI _),?_⟩
  rw [ah];constructor
  ·intro hno;rw [if_pos hno] at h3;have hE:ca 4 xs=t8:=(congrArg Prod.snd h3).symm;rw [hE,ah] at hK;exact hk _ _ (by simp) (hK.1 hno)
  ·intro hmy;rw [if_neg (by simpa using hmy)] at h3
   have hmf:ag (a+t2):=ff.1 (by rw [← e8]; exact hmy)
   rw [mo hi' hm,e9,abY hmf];exact hn (a+t2,i+1) ⟨hi',hmf,h3⟩ (by simp; omega)
 ·intro hi;have hi':¬ i < xs.length:=by omega
  rw [l7 4 hi'] at h3;have hE:ca 4 xs=0:=(congrArg Prod.snd h3).symm;have hN:cZ 4 xs=a:=(congrArg Prod.fst h3).symm;rw [hE,hN,ah] at hK;exact hk _ _ (by simp) (hK.2 rfl)
theorem aaE (d:Nat) {xs ds:L2} {m:Int} {K:Out->St->Prop} (hr:aI aM xs) (hm:xs.length<=maxLen) (hmay:ja xs)
  (hK:br (ca 6 xs != 0) (K .ret ⟨T 111 [(2,.ptr 1 0)],[some (.ro aM xs),some (.var 171 (Iw (ca 6 xs)))]⟩) (K (.exit 4) ⟨T 111 [(0,.sl 0),(2,.ptr 1 0),(3,.ptr 2 0),(6,.sl 3),(7,.int .i64 1),(8,.ptr 4 0)],[some (.ro aM xs),some (.var 171 Ce),some (.var 25 (fx m).cells),some (.row 25 [.i64,.u64] ds),some (.var 25 (fx (cZ 6 xs)).cells)]⟩)):
  ∃n,oh (exec (ai TP Jo d) ak 1 (Nat.lor (lp TP ak 2).1 (gen (lp TP ak 2).2)) (2+1) (lp TP ak 2).2) (gc 1 (jh (Nat.lor (lp TP ak 2).1 (gen (lp TP ak 2).2)))) n (Rl xs ds m 1 0 0) fun o st'=>K o (gc 1 (agF (ai TP Jo d).P ak (lp TP ak 2).1 o) st'):=by
 have hm':xs.length<=9223372036854775807:=hm;refine aC (fun p:Int × Nat=>Rl xs ds m 1 p.1 p.2) (Jq 6 xs) (fun p=>xs.length - p.2) ?_ (a:=(0,0)) ⟨by simp,bg,rfl⟩
 rintro ⟨a,i⟩ ⟨h1,h2,h3⟩ k hn hk;simp only at h1 h2 h3;show round (ai TP { Γ:=pM,Λ:=_,Τ:=fun _=>none } d) _ _ _ _ (Rl xs ds m 1 a i) k
 rw [rc3]; delta Maa Mab Mac Mad Mae Mag Mah Mai Maj Mal Mam Man Map Maq Mar Mas Mat Mav Max Maz MaA MaC MaD MaH MaI MaR MaV Ma1 Ma2 Ma3 Ma9 Mba Mbe Mbl Mbp Mbu Mbw MbA MbC MbD MbE MbF MbH MbK MbV Mb2 Mb3 Mb4 Mca Mcb Mcg Mcm Mcr Mcv McA Mdg Mdo MdF MdM MdN MdP MdU Md7 MeT MeY Me7 Mfw Mfy Mfz MfF MfL MfM MfN Mgu Mg2 Mg5 MhC Mi8 Mi9 Mj1 Mj4;rintro a rfl t2 e2 j3 q3 t4 e4 t5 e5 t6 e6 t7 e7 t8 e8 t9 e9 t10 e10 t11 e11;rw [al];constructor
 ·intro hi;have hi':i < xs.length:=by omega
  have et:(i:Int).toNat=i:=by omega
  rw [et] at e2 e4 e5 e6 e7;have hmi:=hmay _ (List.getElem_mem hi');have ex:t4*18446744073709551616+t5=fr xs[i] 0:=by rw [e4,e5]; exact bA hi' 0
  have ey:t6*18446744073709551616+t7=fr xs[i] 6:=by rw [e6,e7]; exact bA hi' 6
  have ok5:aj t5:=by rw [e5]; exact cH hr i 1 (by decide) rfl
  have ok7:aj t7:=by rw [e7]; exact cH hr i 7 (by decide) rfl
  have T2:t2=aep (az (fr xs[i] 0) (fr xs[i] 6)):=by rw [e2,bA hi' 0,bA hi' 6]
  have T11:t11=bG (az (fr xs[i] 0) (fr xs[i] 6)):=by rw [e11,ex,ey]
  have p10:t10:=by rw [e10]; omega
  refine ⟨p10,p10,p10,p10,p10,p10,⟨fr xs[i] 0,fr xs[i] 6,by rw [ae6 ok5 ex.symm,ae6 ok7 ey.symm],rfl,hmi.1,hmi.2.2⟩,?_⟩
  rw [l8 6 hi',show Kg 6 xs[i]=bG (az (fr xs[i] 0) (fr xs[i] 6)) from rfl,show Js 6 xs[i]=aep (az (fr xs[i] 0) (fr xs[i] 6)) from rfl,← T11,← T2] at h3
  rw [q3] at e8 e9;rw [← e8] at h3;rw [ah];constructor
  ·intro hno;rw [if_pos hno] at h3;have hE:ca 6 xs=t11:=(congrArg Prod.snd h3).symm;rw [hE,ah] at hK;exact hk _ _ (by simp) (hK.1 hno)
  intro h11;rw [if_neg (by simpa using h11)] at h3
  refine ⟨aU h2 (by rw [T2]; exact dI _),?_⟩
  rw [ah];constructor
  ·intro hno;rw [if_pos hno] at h3;have hE:ca 6 xs=t8:=(congrArg Prod.snd h3).symm;rw [hE,ah] at hK;exact hk _ _ (by simp) (hK.1 hno)
  ·intro hmy;rw [if_neg (by simpa using hmy)] at h3
   have hmf:ag (a+t2):=ff.1 (by rw [← e8]; exact hmy)
   rw [mo hi' hm,e9,abY hmf];exact hn (a+t2,i+1) ⟨hi',hmf,h3⟩ (by simp; omega)
 ·intro hi;have hi':¬ i < xs.length:=by omega
  rw [l7 6 hi'] at h3;have hE:ca 6 xs=0:=(congrArg Prod.snd h3).symm;have hN:cZ 6 xs=a:=(congrArg Prod.fst h3).symm;rw [hE,hN,ah] at hK;exact hk _ _ (by simp) (hK.2 rfl)
theorem lc2 (d n0:Nat):aG (ai TP Jo d) ak n0 2 (lp TP ak 2) Lc2:=by
 intro st K hst;obtain ⟨xs,ds,m,a,⟨hr,hm,hmay,ha,rfl,rfl⟩,hK⟩:=hst;rcases ha with rfl | rfl
 ·exact aaF d hr hm hmay hK
 ·exact aaE d hr hm hmay hK
theorem AK (x:Int):x / 18446744073709551616*18446744073709551616+x % 18446744073709551616=x:=by omega
theorem lc1 (d n0:Nat):aG (ai TP Jo d) ak n0 1 (lp TP ak 1) Lc1:=by
 intro st K hst;obtain ⟨xs,m,⟨hr,hm,hmay,hmm,rfl,rfl⟩,hK⟩:=hst;rw [ah,ah] at hK;refine aC (fun i:Nat=>me xs (if i=0 then [] else if i=1 then [Ii (fF (cZ 4 xs) m)] else [Ii (fF (cZ 4 xs) m),Ii (fF (cZ 6 xs) m)]) m i) (fun i=>i<=2/\(1<=i->Hr 4 xs m=0)/\(2<=i->Hr 6 xs m=0)) (fun i=>2 - i) ?_ (a:=0) ⟨by omega,fun h=>by omega,fun h=>by omega⟩
 rintro i ⟨hi,h4,h6⟩ k hn hk;show round (ai TP Jo d) _ _ _ _ _ k;rw [rc1]; delta Maa Mab Mac Mad Mae Mag Mah Mai Maj Mal Mam Map Maq Mar Mat Mau Mav MaA MaC MaH MaR Ma2 Ma3 Ma9 Mba Mbe Mbh Mbl Mbu MbC MbD MbE MbF MbK MbV Mb3 Mcm Mcr Mcv MdF MdN MdU Mef Mez MeS MeT Me7 Mfe Mfs Mfw Mgu Mg0 Mg5 MhC Mic Mik MjA Mj4;rcases (show i=0∨i=1∨i=2 by omega) with rfl | rfl | rfl
 ·refine SI (by decide) ⟨xs,[],m,0,⟨hr,hm,hmay,.inl rfl,rfl,rfl⟩,?_⟩
  show br (ca 4 xs != 0) (k .ret _) _;rw [AK,AK,ah,show N6 0=4 from rfl]
  have hs:Hr 4 xs m=if ca 4 xs≠0 then ca 4 xs else iY (cZ 4 xs) m:=rfl
  refine ⟨fun h=>?_,fun h0=>⟨aU (jA 4 xs) hmm,?_⟩⟩
  ·rw [if_pos h] at hs;rw [hs] at hK;exact hk _ _ (by simp) (hK.1 h)
  ·rw [if_neg (by simpa using h0)] at hs
   rw [ah,← hs];refine ⟨fun h=>hk _ _ (by simp) (hK.1 h),fun h=>⟨by decide,?_⟩⟩
   exact hn 1 ⟨by omega,fun _=>h,fun h=>by omega⟩ (by omega)
 ·refine SI (by decide) ⟨xs,[Ii (fF (cZ 4 xs) m)],m,1,⟨hr,hm,hmay,.inr rfl,rfl,rfl⟩,?_⟩
  show br (ca 6 xs != 0) (k .ret _) _;rw [AK,AK,ah,show N6 1=6 from rfl]
  have hs:Hr 6 xs m=if ca 6 xs≠0 then ca 6 xs else iY (cZ 6 xs) m:=rfl
  have z4:=h4 (by omega)
  have hK2:=hK.2 z4;refine ⟨fun h=>?_,fun h0=>⟨aU (jA 6 xs) hmm,?_⟩⟩
  ·rw [if_pos h] at hs;rw [hs] at hK2;exact hk _ _ (by simp) (hK2.1 h)
  ·rw [if_neg (by simpa using h0)] at hs
   rw [ah,← hs];refine ⟨fun h=>hk _ _ (by simp) (hK2.1 h),fun h=>⟨by show (1+1)*16<=140737488355328; decide,?_⟩⟩
   exact hn 2 ⟨by omega,fun _=>z4,fun _=>h⟩ (by omega)
 ·refine gK (by decide) ?_
  have hK2:=hK.2 (h4 (by omega))
  exact hk _ _ (by simp) (hK2.2 (h6 (by omega)))
theorem ti {N:Know} (hΓ:∀ g sp,N.Γ g=some sp->aa TP g sp) (hL:∀ f i S,N.Λ f i=some S->∀ d n0,aG (ai TP N d) f n0 i (lp TP f i) S) (hΤ:∀ g G,N.Τ g=some G->cf TP g G) (d:Nat) (hb:∀ f,N.back f=true->lY TP f:=by intro f h; cases h):KnowOk TP N d:=
 ⟨mixedOrders,hΓ,fun d' _ f i S n0 hS=>hL f i S hS d' n0,hΤ,hb⟩
theorem UE:KnowOk TP Jo 3:=by
 refine ti (fun g sp h=>lW h) ?_ (fun g G h=>by cases h) 3
 intro f i S hS d n0;simp only [Jo] at hS;split at hS
 ·rename_i hf;subst hf;split at hS
  ·rename_i hi; subst hi; cases hS; exact lc0 d n0
  split at hS
  ·rename_i hi; subst hi; cases hS; exact lc1 d n0
  split at hS
  ·rename_i hi; subst hi; cases hS; exact lc2 d n0
  ·cases hS
 ·cases hS
theorem rW {xs:L2} {e:Int} (he:e≠0) (h:cE xs=e):(Lq xs,([]:List aq))=(.agg [.int .i64 0,.int .u64 0,.int .i64 0,.int .u64 0,.int .i64 0,.int .u64 0,.int .i64 e],[]):=by
 unfold Lq cM cX cY;rw [h,if_neg he,if_neg he,if_neg he]
 rfl
theorem Jg:aa TP ak Kp:=by
 refine ab (N:=Jo) 3 UE ?_;rintro l bs _ hB ⟨xs,rfl,rfl,hmay⟩;have hb:aI aM xs/\0 < aM.length/\xs.length<=maxLen:=hB (.ro aM xs) (List.mem_singleton.2 rfl);show comes _ _ _ _ _ _ fun v bs'=>(Lq xs,([]:List aq))=(v,bs')
 rw [H3]; delta Maa Mab Mac Mad Mae Mag Mai Maj Mal Mam Man Map Maq Mar Mav Max MaA MaH MaI MaR Ma2 Ma3 Ma9 Mbe Mbu Mbw MbK Mb3 Mca Mci Mcm Mcv McA MdF MdN MdU Mef MeS Me7 Mfs Mfw Mgu Mhu;rintro t1 e1 t2 e2;have p1:t1:=by rw [e1]; decide
 have p2:t2:=by rw [e2]; decide
 rw [dp];refine ⟨fun h=>rW (by decide) (by unfold cE; rw [if_pos (by omega)]),fun h=>?_⟩
 have n0:¬ xs.length=0:=by omega
 refine ⟨xs,⟨hb.1,hb.2.2,hmay,rfl,rfl⟩,?_⟩;rw [ah];refine ⟨fun h1=>rW h1 (by unfold cE; rw [if_neg n0,if_pos h1]),fun h1=>?_⟩
 refine ⟨xs,cZ 0 xs,⟨hb.1,hb.2.2,hmay,jA 0 xs,rfl,rfl⟩,?_⟩;have hax:∀ w,Hr w xs (cZ 0 xs)=uZ w xs:=by
  intro w;unfold Hr uZ;by_cases h:ca w xs=0
  ·rw [if_neg (by simpa using h),if_pos h]
  ·rw [if_pos h,if_neg h]
 have hcE:cE xs=if uZ 4 xs≠0 then uZ 4 xs else uZ 6 xs:=by unfold cE; rw [if_neg n0,if_neg (by simpa using h1)]
 rw [hax,hax,ah];refine ⟨fun h4=>rW h4 (by rw [hcE,if_pos h4]),fun h4=>?_⟩
 rw [if_neg (by simpa using h4)] at hcE
 rw [ah];refine ⟨fun h6=>rW h6 hcE,fun h6=>⟨p1,p1,p2,p2,?_⟩⟩
 have z:∀ w,uZ w xs=0->Jv w xs=fF (cZ w xs) (cZ 0 xs):=by
  intro w hw;unfold uZ at hw;unfold Jv;by_cases h:ca w xs=0
  ·rw [if_pos h]
  ·rw [if_neg h] at hw; exact absurd hw h
 have h0:cE xs=0:=hcE.trans h6;unfold Lq cM cX cY;rw [h0,if_pos rfl,if_pos rfl,if_pos rfl,z 4 h4,z 6 h6]
end
def jc (x:Int):Int:=mx .i64 (-2147483648) (mn .i64 (x / 18446744073709551616) 2147483647)+2147483648
def kq (A:BitVec 64):Nat->BitVec 64
 | 0=>0
 | n+1=>kq A n ||| ((A >>> n) &&& 1) <<< (2*n)
def TC (x:Int):Int:=((kq (BitVec.ofInt 64 x) 32).toNat:Int)
def PY (a b:Int) (n:Nat):BitVec 64:=kq (BitVec.ofInt 64 a) n ||| (kq (BitVec.ofInt 64 b) n) <<< 1
def qt (a b:Int):Int:=((PY a b 32).toNat:Int)
def vM (n:Int):Prop:=0<=n/\n < 4294967296
def T3 (l:List IV) (bs:List aq):Prop:=∃x,l=[.int .u32 x]/\bs=[]/\vM x
def RQ:Vs.Spec:=⟨T3,fun l _=>(.int .u64 (TC (ae l 0 0)),[])⟩
def Mhj (a:BitVec 64)(b c:Int):Int:=Maw (Mc3 (MaN (Maw (Mbz a (MaN (Maw b))))) (MaN c))
theorem JQ (x:Int) (K:KP):(comes TP mI 3 jQ [.int .u32 x] [] K) =(∀a,Maz a (Mhj (MaN (Maw x)) (Maw x*65536) 281470681808895) (∀b,Maz b (Mhj (MaN a) (a*256) 71777214294589695) (∀c,Maz c (Mhj (MaN b) (b*16) 1085102592571150095) (∀d,Maz d (Mhj (MaN c) (c*4) 3689348814741910323) (Mfz (MaV 0 0 0 5) ((0:Int)<=0) ((0:Int)<=16) (MaV 0 1 1 5) ((0:Int)<=1) ((0:Int)<=8) (MaV 0 2 2 5) (Mbi ((0:Int)<=2) ((0:Int)<=4) (MaV 0 3 3 5) ((0:Int)<=3) ((0:Int)<=2) (MaV 0 4 4 5) ((0:Int)<=4) ((0:Int)<=1) (K (Mac (Mhj (MaN d) (d*2) 6148914691236517205)) []))))))) :=by delta Mac Maw Max Maz MaI MaN MaV Mbi Mbz Mb4 Mc3 Mfz Mhj; (iterate 4 refine nm ?_); kernel_rfl
def K4 (l:List IV) (bs:List aq):Prop:=∃x,l=[fx x]/\bs=[]/\wW x
def F2:Vs.Spec:=⟨K4,fun l _=>(.int .u32 (jc (v2 l 0)),[])⟩
def Mc2 (a:Int):IV:=.int .u32 a
theorem Wc (x:Int) (K:KP):(comes TP mI 3 mZ [fx x] [] K) =(∀a,Maz a x (MgC x/\K (Mc2 (IntKind.wrap .u32 (MbC (Mcz (-2147483648) (mn .i64 (Mag a) 2147483647)) 2147483648))) [])) :=by delta Mag Mah Maz Mbl MbC MbE Mcz Mc2 MgC; refine nj ?_; kernel_rfl
theorem Tg (x:Int) (K:KP):(comes TP mI 3 gS [fx x] [] K) =(∀a,Maz a x (MgC x/\K (Mc2 (IntKind.wrap .u32 (MbC (Mcz (-2147483648) (mn .i64 (Mag a) 2147483647)) 2147483648))) [])) :=by delta Mag Mah Maz Mbl MbC MbE Mcz Mc2 MgC; refine nj ?_; kernel_rfl
def JC:FuncId->Option Vs.Spec:=fun g=>if g=jQ then some RQ else if g=mZ then some F2 else if g=gS then some F2 else pM g
def Yp (a b n i:Int):St:=⟨T 32 [(0,.int .u32 a),(1,.int .u32 b),(5,.int .u64 n),(6,.int .i64 i)],[]⟩
theorem Z9 (Λ:FuncId->Nat->Option aB) (d:Nat) (a b n i:Int) (k:Out->St->Prop):(round (ai TP { Γ:=JC,Λ:=Λ,Τ:=fun _=>none } d) bS 0 0 (lp TP bS 0) (Yp a b n i) k) =(∀c,Maz c (Mii i) (∀e,Me2 e (Mcr (Mah (2*i))) i 32 (Mh4 0 i 0 (Mah (2*i)) (0<=i) (0<=e) (k .normal (MaH 32 (Mgx 0 (Mc2 a) 1 (Mc2 b) 5 (Mac (McB (MaN n) (Mbz (MaN (Maw (MhY (Maw a) c 1*Mii (Mah (2*i))))) (MaN (Maw (MhY (Maw b) c 1*Mii e)))))) 6 (Mcr i) []) []))) (k MbT (Mbe 32 5 (Mac n) [] [])))) :=by delta Maa Mac Mah Mar Maw Max Maz MaC MaH MaI MaN Mbe Mbz MbC MbF MbT Mcr McB Mc2 Mc3 Me2 Mgx MhY Mh4 Mii; refine nm ?_; refine nm ?_; kernel_rfl
def Xd (n0:Nat) (st:St) (a b:Int):Prop:=vM a/\vM b/\n0=0/\st=Yp a b 0 0
def Ls:aB:=fun n0 st K=>∃a b,Xd n0 st a b/\K (.exit 0) ⟨T 32 [(5,.int .u64 (qt a b))],[]⟩
def qx:Know:={ Γ:=JC,Λ:=fun f i=>if f=bS then (if i=0 then some Ls else none) else none,Τ:=fun _=>none }
theorem Wu (a b:Int) (K:KP):(comes TP qx 3 bS [.int .u32 a,.int .u32 b] [] K) =(∃c:Int,∃d:Int,Xd 0 (MaH 32 (Mgx 0 (Mc2 a) 1 (Mc2 b) 5 (Mac 0) 6 0 []) []) c d/\K (Mac (qt c d)) []) :=by kernel_rfl
def pKy (l:List IV) (bs:List aq):Prop:=∃a b,l=[.int .u32 a,.int .u32 b]/\bs=[]/\vM a/\vM b
def WD:Vs.Spec:=⟨pKy,fun l _=>(.int .u64 (qt (ae l 0 0) (ae l 1 0)),[])⟩
def V0:FuncId->Option Vs.Spec:=fun g=>if g=bS then some WD else JC g
def Yy:Know:={ Γ:=V0,Λ:=fun _ _=>none,Τ:=fun _=>none }
theorem Z2 (x y:Int) (K:KP):(comes TP Yy 4 oI [vx x y] [] K) =(∀a,Maz a x (∀b,Maz b y (∀c,Maz c (jc a) (∀d,Maz d (jc b) (Mdm (K4 (MbE x) []) (K4 (MbE y) []) (T3 [Mc2 c] []) (T3 [Mc2 d] []) ((0:Int)<=1) (K (Mac (McB (MaN (TC c)) (TC d*2))) [])))))) :=by delta Mac Maw Max Maz MaI MaN Mbl Mbz MbE McB Mc2 Mdm; refine nj ?_; refine nj ?_; refine nm ?_; refine nm ?_; kernel_rfl
theorem Wp (x y:Int) (K:KP):(comes TP Yy 4 jk [vx x y] [] K) =(∀a,Maz a x (∀b,Maz b y (∀c,Maz c (jc a) (∀d,Maz d (jc b) (Mb4 (K4 (MbE x) []) (K4 (MbE y) []) (pKy [Mc2 c,Mc2 d] []) (K (Mac (qt c d)) [])))))) :=by delta Mac Max Maz Mbl MbE Mb4 Mc2; refine nj ?_; refine nj ?_; refine nm ?_; refine nm ?_; kernel_rfl
def vf:Vs.Spec:=⟨y7,fun l _=>(.int .u64 (qt (jc (v2 l 0)) (jc (vy l 0))),[])⟩
def qd (n:Int):Int:=IntKind.i64.wrap (1*2 ^ min (IntKind.i64.wrap (32 - mx .i64 0 (mn .i64 n 32))).toNat 64)*18446744073709551616
def TZ (l:List IV) (bs:List aq):Prop:=∃n,l=[.int .i64 n]/\bs=[]/\bn n
def FZ:Vs.Spec:=⟨TZ,fun l _=>(fx (qd (ae l 0 0)),[])⟩
theorem OK (n:Int) (K:KP):(comes TP mI 3 mW [.int .i64 n] [] K) =(∀a,Maz a (MaJ 32 (Mcz 0 (mn .i64 n 32))) (∀b,Maz b (Mah (1*Mii a)) (∀c,MfR c b (Max (0<=a) (MeZ b) (K (fx c) []))))) :=by delta Maa Mah Mai Mat Max Maz MaJ Ma2 MbX Mcz MeZ MfR Mii; (iterate 3 refine nm ?_); kernel_rfl
theorem J3 (n:Int) (K:KP):(comes TP mI 3 gv [.int .i64 n] [] K) =(∀a,Maz a (MaJ 32 (Mcz 0 (mn .i64 n 32))) (∀b,Maz b (Mah (1*Mii a)) (∀c,MfR c b (Max (0<=a) (MeZ b) (K (fx c) []))))) :=by delta Maa Mah Mai Mat Max Maz MaJ Ma2 MbX Mcz MeZ MfR Mii; (iterate 3 refine nm ?_); kernel_rfl
section
open Go.IntWalk
def N1 (X:BitVec 64) (s:Nat) (M:BitVec 64):BitVec 64:=(X ||| X <<< s) &&& M
def N3 (X:BitVec 64):BitVec 64:=N1 (N1 (N1 (N1 (N1 X 16 281470681808895#64) 8 71777214294589695#64) 4 1085102592571150095#64) 2 3689348814741910323#64) 1 6148914691236517205#64
theorem vT (X Y:BitVec 64) (s:Nat) (M:BitVec 64):N1 (X ||| Y) s M=N1 X s M ||| N1 Y s M:=by
 unfold N1;apply BitVec.eq_of_getLsbD_eq;intro i hi;simp only [BitVec.getLsbD_and,BitVec.getLsbD_or,BitVec.getLsbD_shiftLeft];cases X.getLsbD i <;> cases Y.getLsbD i <;> cases M.getLsbD i <;> simp
 all_goals cases X.getLsbD (i - s) <;> cases Y.getLsbD (i - s) <;> simp
theorem TG (X Y:BitVec 64):N3 (X ||| Y)=N3 X ||| N3 Y:=by
 unfold N3;rw [vT,vT,vT,vT,vT]
def EJ (A:BitVec 64):Nat->BitVec 64
 | 0=>0
 | n+1=>EJ A n ||| ((A >>> n) &&& 1) <<< n
theorem Rh (Y:BitVec 64):Y &&& 1=0∨Y &&& 1=1:=by
 by_cases h:Y.getLsbD 0=true
 ·right;apply BitVec.eq_of_getLsbD_eq;intro i hi;rw [BitVec.getLsbD_and];by_cases h0:i=0
  ·subst h0; rw [h]; rfl
  ·have:(1:BitVec 64).getLsbD i=false:=by
    rw [show (1:BitVec 64)=1#64 from rfl,BitVec.getLsbD_one]
    simp [h0]
   rw [this,Bool.and_false]
 ·left;apply BitVec.eq_of_getLsbD_eq;intro i hi;rw [BitVec.getLsbD_and];by_cases h0:i=0
  ·subst h0;have:Y.getLsbD 0=false:=by simpa using h
   rw [this]; simp
  ·have:(1:BitVec 64).getLsbD i=false:=by
    rw [show (1:BitVec 64)=1#64 from rfl,BitVec.getLsbD_one]
    simp [h0]
   rw [this,Bool.and_false]; simp
theorem O6:∀ n,n < 32->N3 ((1:BitVec 64) <<< n)=(1:BitVec 64) <<< (2*n):=by decide
theorem Kk (A:BitVec 64):∀ n,n<=32->N3 (EJ A n)=kq A n
 | 0,_=>by show N3 0=0; decide
 | n+1,h=>by
  unfold EJ kq;rw [TG,Kk A n (by omega)]
  rcases Rh (A >>> n) with e | e
  ·rw [e];rw [show (0:BitVec 64) <<< n=0 by simp,show (0:BitVec 64) <<< (2*n)=0 by simp,show N3 0=0 by decide]
  ·rw [e,O6 n (by omega)]
theorem GF (A:BitVec 64) (i:Nat) (hi:i < 64):∀ n,n<=64->(EJ A n).getLsbD i=(decide (i < n) && A.getLsbD i)
 | 0,_=>by unfold EJ; simp
 | n+1,h=>by
  unfold EJ;rw [BitVec.getLsbD_or,GF A i hi n (by omega),BitVec.getLsbD_shiftLeft,BitVec.getLsbD_and,BitVec.getLsbD_ushiftRight,show (1:BitVec 64)=1#64 from rfl,BitVec.getLsbD_one]
  rw [decide_eq_true hi,Bool.true_and];rcases Nat.lt_trichotomy i n with h1 | h1 | h1
  ·simp [h1,show i < n+1 by omega]
  ·subst h1; simp
  ·simp [show ¬ i < n by omega,show ¬ i < n+1 by omega,show i - n≠0 by omega]
theorem PG {A:BitVec 64} (h:A.toNat < 4294967296):EJ A 32=A:=by
 apply BitVec.eq_of_getLsbD_eq;intro i hi;rw [GF A i hi 32 (by decide)]
 by_cases h1:i < 32
 ·simp [h1]
 ·have:A.getLsbD i=false:=by
   show A.toNat.testBit i=false;refine Nat.testBit_lt_two_pow (Nat.lt_of_lt_of_le (show A.toNat < 2 ^ 32 from h) ?_)
   exact Nat.pow_le_pow_right (n:=2) (by decide) (show 32<=i by omega)
  simp [h1,this]
theorem H8 {A:BitVec 64} (h:A.toNat < 4294967296):N3 A=kq A 32:=by
 have:=Kk A 32 (Nat.le_refl _)
 rwa [PG h] at this
theorem ob (X:BitVec 64):BitVec.ofInt 64 (X.toNat:Int)=X:=by simp
theorem vL (X:BitVec 64):IntKind.u64.wrap (X.toNat:Int)=X.toNat:=u64_in _ (by have:=X.isLt; omega)
theorem O0 (n:Int):IntKind.u64.wrap n=n % 18446744073709551616:=by
 unfold IntKind.wrap;simp only [show IntKind.signed .u64=false from rfl,show IntKind.bits .u64=64 from rfl,Bool.false_and,Bool.false_eq_true,if_false]
 rw [show (2:Int) ^ 64=18446744073709551616 by decide]
theorem zc (X:BitVec 64) (s:Nat):IntKind.u64.wrap ((X.toNat:Int)*2 ^ s)=((X <<< s).toNat:Int):=by
 rw [O0,BitVec.toNat_shiftLeft,Nat.shiftLeft_eq,Int.natCast_emod,Int.natCast_mul,Int.natCast_pow]
 rfl
theorem vQ (X:BitVec 64) (s:Nat) (c m:Int) (hc:c=2 ^ s):IntKind.u64.wrap ((BitVec.ofInt 64 (IntKind.u64.wrap ((X ||| BitVec.ofInt 64 (IntKind.u64.wrap ((X.toNat:Int)*c))).toNat:Int)) &&& BitVec.ofInt 64 m).toNat:Int)=((N1 X s (BitVec.ofInt 64 m)).toNat:Int):=by
 subst hc;simp only [zc,ob,vL]
 rfl
theorem Lh {a:Int} (h:0<=a) (h2:a < 18446744073709551616):a=((BitVec.ofInt 64 a).toNat:Int):=by
 rw [BitVec.toNat_ofInt];have:(a % ((2 ^ 64:Nat):Int))=a:=Int.emod_eq_of_lt h (by simpa using h2)
 rw [this]; omega
theorem MW:aa TP jQ RQ:=by
 refine ab (N:=mI) 3 iz ?_;rintro l bs _ _ ⟨x,rfl,rfl,hx⟩;show comes _ _ _ _ _ _ fun v bs'=>(IV.int .u64 (TC x),([]:List aq))=(v,bs')
 rw [JQ]; delta Mac Maw Max Maz MaI MaN MaV Mbi Mbz Mb4 Mc3 Mfz Mhj; rw [u64_in x ⟨hx.1,by have:=hx.2; omega⟩]
 have e0:x=((BitVec.ofInt 64 x).toNat:Int):=Lh hx.1 (by have:=hx.2; omega)
 have hlt:(BitVec.ofInt 64 x).toNat < 4294967296:=by have:=hx.2; omega
 have hF:TC x=((N3 (BitVec.ofInt 64 x)).toNat:Int):=by unfold TC; rw [H8 hlt]
 rw [hF];generalize BitVec.ofInt 64 x=X at e0;subst e0;intro t1 e1 t2 e2 t3 e3 t4 e4;rw [vQ X 16 65536 281470681808895 (by decide)] at e1
 subst e1;rw [ob,vQ _ 8 256 71777214294589695 (by decide)] at e2
 subst e2;rw [ob,vQ _ 4 16 1085102592571150095 (by decide)] at e3
 subst e3;rw [ob,vQ _ 2 4 3689348814741910323 (by decide)] at e4
 subst e4;refine ⟨by decide,by decide,by decide,by decide,by decide,by decide,by decide,by decide,by decide,by decide,by decide,by decide,by decide,by decide,by decide,?_⟩
 rw [ob,vQ _ 1 2 6148914691236517205 (by decide)]
 rfl
theorem sX (x:Int):vM (jc x):=by
 unfold jc vM mx mn;split <;> split <;> omega
theorem XY:aa TP mZ F2:=by
 refine ab (N:=mI) 3 iz ?_;rintro l bs _ _ ⟨x,rfl,rfl,hx⟩;show comes _ _ _ _ _ _ fun v bs'=>(IV.int .u32 (jc (v2 [fx x] 0)),([]:List aq))=(v,bs')
 rw [bc _ x 0 rfl,Wc]; delta Mag Mah Maz Mbl MbC MbE Mcz Mc2 MgC;rintro j1 rfl;have h:=sX j1;have e:mx .i64 (-2147483648) (mn .i64 (j1 / 18446744073709551616) 2147483647)+2147483648=jc j1:=rfl;rw [e,i64_in (jc j1) ⟨by have:=h.1; omega,by have:=h.2; omega⟩,u32_in (jc j1) ⟨h.1,by have:=h.2; omega⟩]
 exact ⟨vl hx,rfl⟩
theorem Vf:aa TP gS F2:=by
 refine ab (N:=mI) 3 iz ?_;rintro l bs _ _ ⟨x,rfl,rfl,hx⟩;show comes _ _ _ _ _ _ fun v bs'=>(IV.int .u32 (jc (v2 [fx x] 0)),([]:List aq))=(v,bs')
 rw [bc _ x 0 rfl,Tg]; delta Mag Mah Maz Mbl MbC MbE Mcz Mc2 MgC;rintro j1 rfl;have h:=sX j1;have e:mx .i64 (-2147483648) (mn .i64 (j1 / 18446744073709551616) 2147483647)+2147483648=jc j1:=rfl;rw [e,i64_in (jc j1) ⟨by have:=h.1; omega,by have:=h.2; omega⟩,u32_in (jc j1) ⟨h.1,by have:=h.2; omega⟩]
 exact ⟨vl hx,rfl⟩
theorem G9:∀ {g:FuncId} {sp:Vs.Spec},JC g=some sp->aa TP g sp:=ao MW (ao XY (ao Vf lW))
theorem Lz (a b:Int) (n:Nat):PY a b (n+1)=PY a b n ||| ((((BitVec.ofInt 64 a) >>> n) &&& 1) <<< (2*n) ||| (((BitVec.ofInt 64 b) >>> n) &&& 1) <<< (2*n+1)):=by
 have e:∀ A:BitVec 64,kq A (n+1)=kq A n ||| ((A >>> n) &&& 1) <<< (2*n):=fun _=>rfl
 unfold PY;rw [e,e,BitVec.shiftLeft_or_distrib,← BitVec.shiftLeft_add];apply BitVec.eq_of_getLsbD_eq;intro i hi;simp only [BitVec.getLsbD_or];generalize BitVec.getLsbD (kq (BitVec.ofInt 64 a) n) i=p;generalize BitVec.getLsbD (kq (BitVec.ofInt 64 b) n <<< 1) i=q;generalize BitVec.getLsbD ((BitVec.ofInt 64 a >>> n &&& 1) <<< (2*n)) i=r;generalize BitVec.getLsbD ((BitVec.ofInt 64 b >>> n &&& 1) <<< (2*n+1)) i=s;cases p <;> cases q <;> cases r <;> cases s <;> rfl
theorem Hp {a:Int} (h0:0<=a) (h1:a < 4294967296) (i s:Nat):IntKind.u64.wrap (IntKind.u64.wrap (((BitVec.ofInt 64 (a.fdiv (2 ^ i)) &&& BitVec.ofInt 64 1).toNat:Nat):Int)*2 ^ s)=(((((BitVec.ofInt 64 a) >>> i) &&& 1) <<< s).toNat:Int):=by
 have e:BitVec.ofInt 64 (a.fdiv (2 ^ i))=(BitVec.ofInt 64 a) >>> i:=by
  apply BitVec.eq_of_toNat_eq;rw [BitVec.toNat_ofInt,BitVec.toNat_ushiftRight,BitVec.toNat_ofInt,Nat.shiftRight_eq_div_pow];have p:(0:Int) < 2 ^ i:=Int.pow_pos (by decide)
  rw [Int.fdiv_eq_ediv_of_nonneg _ (by omega)]
  have q0:0<=a / 2 ^ i:=Int.ediv_nonneg h0 (by omega)
  have q1:a / 2 ^ i<=a:=Int.ediv_le_self _ h0;rw [Int.emod_eq_of_lt q0 (by simp; omega),Int.emod_eq_of_lt h0 (by simp; omega)]
  obtain ⟨n,rfl⟩:=Int.eq_ofNat_of_zero_le h0;have:((n:Int) / 2 ^ i)=((n / 2 ^ i:Nat):Int):=by rw [Int.natCast_ediv,Int.natCast_pow]; rfl
  rw [this,Int.toNat_natCast,Int.toNat_natCast]
 rw [e,show BitVec.ofInt 64 1=(1:BitVec 64) by decide,vL,zc]
theorem aaJ (d n0:Nat):aG (ai TP qx d) bS n0 0 (lp TP bS 0) Ls:=by
 intro st K hst;obtain ⟨a,b,⟨ha,hb,rfl,rfl⟩,hK⟩:=hst;have e0:((PY a b 0).toNat:Int)=0:=by show (((0:BitVec 64) ||| (0:BitVec 64) <<< 1).toNat:Int)=0; decide
 rw [show Yp a b 0 0=Yp a b ((PY a b 0).toNat:Int) ((0:Nat):Int) by rw [e0]; rfl]
 refine aC (fun i:Nat=>Yp a b ((PY a b i).toNat:Int) i) (fun i=>i<=32) (fun i=>32 - i) ?_ (a:=0) (Nat.zero_le _)
 intro i hle k hn hk;show round (ai TP { Γ:=JC,Λ:=_,Τ:=fun _=>none } d) _ _ _ _ _ k
 rw [Z9]; delta Maa Mac Mah Mar Maw Max Maz MaC MaH MaI MaN Mbe Mbz MbC MbF MbT Mcr McB Mc2 Mc3 Me2 Mgx MhY Mh4 Mii;rintro t1 rfl t2 e2;rw [i64_in (2*(i:Int)) (by omega),i64_in (2*(i:Int)+1) (by omega)] at e2
 rw [i64_in (2*(i:Int)) (by omega),al]
 constructor
 ·intro hi;have T2:min t2.toNat 64=2*i+1:=by omega
  rw [T2,show min (2*(i:Int)).toNat 64=2*i by omega,show min ((i:Nat):Int).toNat 64=i by omega]
  rw [u64_in a ⟨ha.1,by have:=ha.2; omega⟩,u64_in b ⟨hb.1,by have:=hb.2; omega⟩,Hp ha.1 ha.2,Hp hb.1 hb.2,ob,ob,ob,vL,vL,ob,← Lz,i64_in ((i:Int)+1) (by omega)]
  exact ⟨by omega,by omega,by omega,by omega,hn (i+1) (by omega) (by omega)⟩
 ·intro hi;have hi':i=32:=by omega
  subst hi';exact hk _ _ (by simp) hK
theorem X9:aa TP bS WD:=by
 refine ab (N:=qx) 3 (cP (f0:=bS) (L:=Ls) (fun g sp h=>G9 h) rfl (fun g G h=>by cases h) aaJ 3) ?_
 rintro l bs _ _ ⟨a,b,rfl,rfl,ha,hb⟩;show comes _ _ _ _ _ _ fun v bs'=>(IV.int .u64 (qt a b),([]:List aq))=(v,bs')
 rw [Wu]; delta Maa Mac Mar MaH Mc2 Mgx;exact ⟨a,b,⟨ha,hb,rfl,rfl⟩,rfl⟩
theorem QC:∀ {g:FuncId} {sp:Vs.Spec},V0 g=some sp->aa TP g sp:=ao X9 G9
theorem LD:KnowOk TP Yy 4:=aF (fun g sp h=>QC h) (fun _ _=>rfl) (fun _=>rfl) 4
theorem aaY:aa TP oI vf:=by
 refine ab (N:=Yy) 4 LD ?_;rintro l bs _ _ ⟨x,y,rfl,rfl,hx,hy⟩;show comes _ _ _ _ _ _ fun v bs'=>(IV.int .u64 (qt (jc (v2 [vx x y] 0)) (jc (vy [vx x y] 0))),([]:List aq))=(v,bs')
 rw [(aeY _ x y 0 rfl).1,(aeY _ x y 0 rfl).2,Z2]; delta Mac Maw Max Maz MaI MaN Mbl Mbz MbE McB Mc2 Mdm;rintro j1 rfl j2 rfl t3 rfl t4 rfl;refine ⟨⟨j1,rfl,rfl,hx⟩,⟨j2,rfl,rfl,hy⟩,⟨_,rfl,rfl,sX _⟩,⟨_,rfl,rfl,sX _⟩,by decide,?_⟩
 unfold TC qt PY;rw [show (2:Int)=2 ^ 1 by decide,zc,ob,ob,vL]
theorem X6:aa TP jk vf:=by
 refine ab (N:=Yy) 4 LD ?_;rintro l bs _ _ ⟨x,y,rfl,rfl,hx,hy⟩;show comes _ _ _ _ _ _ fun v bs'=>(IV.int .u64 (qt (jc (v2 [vx x y] 0)) (jc (vy [vx x y] 0))),([]:List aq))=(v,bs')
 rw [(aeY _ x y 0 rfl).1,(aeY _ x y 0 rfl).2,Wp]; delta Mac Max Maz Mbl MbE Mb4 Mc2;rintro j1 rfl j2 rfl t3 rfl t4 rfl;exact ⟨⟨j1,rfl,rfl,hx⟩,⟨j2,rfl,rfl,hy⟩,⟨_,_,rfl,rfl,sX _,sX _⟩,rfl⟩
theorem Qa (a b:Int):0<=qt a b/\qt a b < 18446744073709551616:=by
 unfold qt;have:=(PY a b 32).isLt;omega
theorem Uc {k:Int} (h:-9223372036854775807<=k):mx .i64 k (-9223372036854775807)=k:=by unfold mx; rw [if_neg (by omega)]
theorem FN {n:Int} (h:bn n) {K:Int->Prop} (hK:K (qd n)):
  ∀ t1:Int,t1=IntKind.i64.wrap (32 - mx .i64 0 (mn .i64 n 32))->∀ t2:Int,t2=IntKind.i64.wrap (1*2 ^ min t1.toNat 64)->∀ t3:Int,t3=mx .i64 t2 (-9223372036854775807)*18446744073709551616->0<=t1/\BI [.int .i64 t2] []/\K t3:=by
 intro t1 e1 t2 e2 t3 e3;have b:0<=32 - mx .i64 0 (mn .i64 n 32)/\32 - mx .i64 0 (mn .i64 n 32)<=32:=by
  unfold mx mn; split <;> split <;> omega
 have T1:t1=32 - mx .i64 0 (mn .i64 n 32):=by rw [e1,i64_in _ (by omega)]
 have hm:min t1.toNat 64<=32:=by omega
 have p1:(2:Int) ^ min t1.toNat 64<=2 ^ 32:=by
  have:=Nat.pow_le_pow_right (show 0 < 2 by decide) hm
  exact_mod_cast this
 have p0:(0:Int) < 2 ^ min t1.toNat 64:=Int.pow_pos (by decide)
 have q:(2:Int) ^ 32=4294967296:=by decide
 have T2:t2=1*2 ^ min t1.toNat 64:=by rw [e2,i64_in _ (by omega)]
 refine ⟨by omega,dY ⟨by omega,by omega⟩,?_⟩
 rw [e3,Uc (by omega),e2,e1]
 exact hK
theorem QX:aa TP mW FZ:=by
 refine ab (N:=mI) 3 iz ?_;rintro l bs _ _ ⟨n,rfl,rfl,h⟩;show comes _ _ _ _ _ _ fun v bs'=>(fx (qd n),([]:List aq))=(v,bs')
 rw [OK]; delta Maa Mah Mai Mat Max Maz MaJ Ma2 MbX Mcz MeZ MfR Mii;exact FN h (K:=fun t=>(fx (qd n),([]:List aq))=(fx t,[])) rfl
theorem Nq:aa TP gv FZ:=by
 refine ab (N:=mI) 3 iz ?_;rintro l bs _ _ ⟨n,rfl,rfl,h⟩;show comes _ _ _ _ _ _ fun v bs'=>(fx (qd n),([]:List aq))=(v,bs')
 rw [J3]; delta Maa Mah Mai Mat Max Maz MaJ Ma2 MbX Mcz MeZ MfR Mii;exact FN h (K:=fun t=>(fx (qd n),([]:List aq))=(fx t,[])) rfl
end
end Go.Vs.RF
namespace Go.Vs.RS
open Go Go.Proofs Go.Vs
def T (n:Nat) (l:List (Nat × IV)):List (Option IV):=l.foldl (fun t p=>t.set p.1 (some p.2)) (List.replicate n none)
abbrev i64 (n:Int):IV:=.int .i64 n
abbrev ro (xs:L2):Option aq:=some (.ro [.u64,.i64] xs)
abbrev row (xs:L2):Option aq:=some (.row 72 [.u64,.i64] xs)
def EE:Know:={ Γ:=fun _=>none,Λ:=fun _ _=>none,Τ:=fun _=>none }
def hU (xs:L2):Prop:=∀ x∈xs,∃a b,x=[a,b]
def key (x:L1):Int:=x.getD 0 0
def hO (xs zs:L2):Prop:=∀ v:Int,zs.filter (fun x=>decide (key x=v))=xs.filter (fun x=>decide (key x=v))
def Jt (n:Nat) (zs:L2):Prop:=∀ p q:Nat,p < q->q < n->rd zs p 0<=rd zs q 0
structure eZ (xs zs:L2):Prop where
 len:zs.length=xs.length
 same:hO xs zs
 up:Jt zs.length zs
 two:hU zs
def VV (xs zs:L2) (i:Int):St:=⟨T 53 [(3,.sl 1),(4,i64 i)],[ro xs,row zs]⟩
def Rq (xs zs:L2) (i j:Int):St:=⟨T 53 [(3,.sl 1),(4,i64 i),(5,i64 j)],[ro xs,row zs]⟩
def YG:aB:=fun n0 st K=>(n0=1/\st=Rq (st.x 0) (st.x 1) (st.i 4) (st.i 4)/\hU (st.x 1)/\1<=st.i 4/\st.i 4 < (st.x 1).length/\(st.x 1).length<=1000000/\Jt (st.i 4).toNat (st.x 1))/\
 ∀ zs':L2,zs'.length=(st.x 1).length->hO (st.x 1) zs'->Jt ((st.i 4).toNat+1) zs'->hU zs'->K (.exit 2) (VV (st.x 0) zs' (st.i 4))
def L16:aB:=fun n0 st K=>(n0=1/\st=VV (st.x 0) (st.x 1) 1/\hU (st.x 1)/\(st.x 1).length<=1000000)/\
 ∀ zs':L2,eZ (st.x 1) zs'->K (.exit 0) ⟨T 53 [(3,.sl 1)],[ro (st.x 0),row zs']⟩
def VX:Know:={ Γ:=fun _=>none,Λ:=fun f i=>if f=108 then (if i=0 then some L16 else if i=1 then some YG else none) else none,Τ:=fun _=>none }
def Jaa (a:List (Option IV)):List (Option IV):=Option.none::a
def Jab (a:List (Option IV)):List (Option IV):=Jaa (Jaa a)
def Jac (a:List (Option IV)):List (Option IV):=Jab (Jab a)
def Jad (a:Int):IV:=.int .i64 a
def Jae (a:List (Option IV)):List (Option IV):=Jac (Jac a)
def Jaf (a:IV)(b:List (Option IV)):List (Option IV):=Option.some a::b
def Jag (a:L2):Int:=(↑(List.length a):Int)
def Jah (a:List (Option IV)):List (Option IV):=Jae (Jae a)
def Jai (a:Int):Int:=IntKind.wrap .i64 a
def Jak (a:List (Option IV)):List (Option IV):=Jah (Jah a)
def Jam (a:L2)(b:Int)(c:Nat):Int:=rd a (Int.toNat b) c
def Jao (a:List IntKind):List IntKind:=.u64::.i64::a
def Jaq (a:List IntKind)(b:L2)(c:OB):OB:=Option.some (.ro (Jao a) b)::c
abbrev Jar (a b c:Prop):Prop:=a/\b/\c
def Jau (a:List (Option IV))(b:List IntKind)(c:L2)(d:OB):St:=⟨a,Jaq b c d⟩
def Jaw (a:IV)(b:Int)(c:List (Option IV)):List (Option IV):=Jaf a (Jaf (Jad b) c)
abbrev Jax (a b c d:Int):Prop:=a<=b/\c < d
def Jay (a:L2)(b:Int)(c:L1->L1):L2:=List.modify a (Int.toNat b) c
abbrev JaB (a b c d e:Prop):Prop:=Jar a b (Jar c d e)
def JaC (a:List IntKind)(b:L2)(c:OB):OB:=Option.some (.row 72 (Jao a) b)::c
def JaD (a:List (Option IV))(b:List IntKind)(c:L2)(d:List IntKind)(e:L2)(f:OB):St:=Jau (Jaa (Jab a)) b c (JaC d e f)
abbrev JaK (a b:Int)(c:L2):Prop:=Jax 0 a b (Jag c)
def JaO (a b:Int)(c:List (Option IV)):List (Option IV):=Jaf (.sl 1) (Jaw (Jad a) b c)
abbrev JaQ (a b:Int)(c d:Prop):Prop:=br (Decidable.decide (a < b)) c d
abbrev Ja1 (a b:Int)(c:L2):Prop:=JaK (Jai (a - 1)) (Jai (b - 1)) c
def Ja2 (a:L2)(b:Int)(c:Nat):Int:=Jam a (Jai (b - 1)) c
def Jbg (a:Int)(b:List (Option IV)):List (Option IV):=Jaw (.sl 1) a (Jah (Jak b))
def Jbn (a:List (Option IV)):List (Option IV):=Jaa (Jab (Jac (Jae (Jak a))))
abbrev JbC (a:Int)(b:L2)(c d:Prop):Prop:=JaB (JaK a a b) (JaK a a b) c c d
theorem aak (N:Know) (xs zs:L2) (i j:Int) (k:Out->St->Prop):(round (ai TP N 0) 108 1 1 (lp TP 108 1) (Rq xs zs i j) k) =(br (Decidable.decide (j > 0)) (JbC j zs (Ja1 j j zs) (JaQ (Jam zs j 0) (Ja2 zs j 0) (JbC j zs (Ja1 j j zs) (JaB (JaK j j zs) (JaK j j zs) (Ja1 j j (Jay zs j (fun a=>[Ja2 zs j 0,Ja2 zs j 1]))) (Ja1 j j (Jay zs j (fun a=>[Ja2 zs j 0,Ja2 zs j 1]))) (k .normal (JaD (JaO i (Jai (j - 1)) (Jbn [])) [] xs [] (Jay (Jay zs j (fun a=>[Ja2 zs j 0,Ja2 zs j 1])) (Jai (j - 1)) (fun a=>[Jam zs j 0,Jam zs j 1])) [])))) (k (.exit 2) (JaD (Jbg i []) [] xs [] zs [])))) (k (.exit 2) (JaD (Jbg i []) [] xs [] zs []))) :=by kernel_rfl
def JaJ (a:Int):Int:=Jai (a+1)
abbrev JaL (a:L2):Prop:=List.length a<=1000000
abbrev JaY (a b:L2):Prop:=List.length a=List.length b
abbrev Jbo (a b:Nat)(c d e:Prop):Prop:=Jar (a=b) c d/\e
theorem r16 (xs zs:L2) (i:Int) (k:Out->St->Prop):(round (ai TP VX 0) 108 1 0 (lp TP 108 0) (VV xs zs i) k) =(JaQ i (Jag zs) (Jbo 1 1 (JaD (JaO i i (Jbn [])) [] xs [] zs []=JaD (JaO i i (Jbn [])) [] xs [] zs []) (JaB (hU zs) (1<=i) (i < Jag zs) (JaL zs) (Jt (Int.toNat i) zs)) (∀a,JaY a zs->hO zs a->Jt (Int.toNat i+1) a->hU a->k .normal (JaD (Jbg (JaJ i) []) [] xs [] a []))) (k (.exit 0) (JaD (Jaf (.sl 1) (Jaa (Jah (Jak [])))) [] xs [] zs []))) :=by kernel_rfl
def Jal (a b:Nat)(c:Int):L2:=List.replicate a (List.replicate b c)
def JaG:IV:=.sl 0
abbrev JaU (a:Nat):Prop:=a<=140737488355328
def Jbb (a:Nat)(b:List IntKind)(c:L2)(d:List aq):List aq:=.row a (Jao b) c::d
theorem v16 (xs:L2) (K:KP):(comes TP VX 1 108 [.sl 0] [.ro [.u64,.i64] xs] K) =(Jar (JaU ((0+List.length xs)*16)) (1=1/\Jar (JaD (Jbg 1 []) [] xs [] (Jal 0 2 0++xs) []=JaD (Jbg 1 []) [] xs [] (Jal 0 2 0++xs) []) (hU (Jal 0 2 0++xs)) (JaL (Jal 0 2 0++xs))) (∀a:L2,eZ (Jal 0 2 0++xs) a->K JaG (Jbb 72 [] a []))) :=by kernel_rfl
def m5 (xs:L2) (i:Int):St:=⟨T 22 [(0,.sl 0),(3,i64 i)],[ro xs]⟩
def L18:aB:=fun n0 st K=>(n0=1/\st=m5 (st.x 0) 1/\(st.x 0).length<=1000000)/\br (bp (Jt (st.x 0).length (st.x 0))) (K (.exit 0) ⟨T 22 [],[ro (st.x 0)]⟩) (K .ret ⟨T 22 [(2,.bool false)],[ro (st.x 0)]⟩)
def ZK:Know:={ Γ:=fun _=>none,Λ:=fun f i=>if f=109 then (if i=0 then some L18 else none) else none,Τ:=fun _=>none }
def JaP:IV:=.bool Bool.false
def Jbd (a:List (Option IV))(b:List IntKind)(c:L2)(d:OB):St:=Jau (Jaf JaG a) b c d
theorem r18 (N:Know) (xs:L2) (i:Int) (k:Out->St->Prop):(round (ai TP N 0) 109 1 0 (lp TP 109 0) (m5 xs i) k) =(JaQ i (Jag xs) (JbC i xs (Ja1 i i xs) (JaQ (Jam xs i 0) (Ja2 xs i 0) (k .ret (Jau (Jab (Jaf JaP (Jaa (Jab (Jah []))))) [] xs [])) (k .normal (Jbd (Jab (Jaf (Jad (JaJ i)) (Jab (Jah [])))) [] xs [])))) (k (.exit 0) (Jau (Jab (Jac (Jah []))) [] xs []))) :=by kernel_rfl
theorem v18 (xs:L2) (K:KP):(comes TP ZK 1 109 [.sl 0] [.ro [.u64,.i64] xs] K) =(Jbo 1 1 (Jbd (Jab (Jaf (Jad 1) (Jab (Jah [])))) [] xs []=Jbd (Jab (Jaf (Jad 1) (Jab (Jah [])))) [] xs []) (JaL xs) (br (bp (Jt (List.length xs) xs)) (K (.bool Bool.true) []) (K JaP []))) :=by kernel_rfl
theorem v28 (xs:L2) (K:KP):(comes TP EE 1 180 [.sl 0] [.ro [.u64,.i64] xs] K) =(∀a:Bool,(a=Bool.true->xs=[])->br a (K JaG (Jbb 72 [] [] [])) (JaU ((0+List.length xs)*16)/\K JaG (Jbb 72 [] (Jal 0 2 0++xs) []))) :=by kernel_rfl
theorem rV {α:Type} (l:List α) (i:Nat) (a:α):(l.modify i fun _=>a)=l.set i a:=by
 apply List.ext_getElem?;intro j;rw [List.getElem?_modify,List.getElem?_set];by_cases h:i=j
 ·subst h;by_cases h2:i < l.length
  ·simp [h2]
  ·simp [h2]
 ·simp [h]
theorem rd_key {zs:L2} {p:Nat} (h:p < zs.length):rd zs p 0=key zs[p]:=by
 simp [rd,key,List.getD,h]
theorem sW {zs:L2} (h:hU zs) {p:Nat} (hp:p < zs.length):[rd zs p 0,rd zs p 1]=zs[p]:=by
 obtain ⟨a,b,e⟩:=h zs[p] (List.getElem_mem hp);simp [rd,List.getD,hp,e]
theorem rn {zs:L2} (h:Jt zs.length zs):zs.Pairwise fun a b=>key a<=key b:=by
 rw [List.pairwise_iff_getElem];intro i j hi hj hij;have:=h i j hij hj
 rwa [rd_key hi,rd_key hj] at this
theorem uniq:∀ (zs zs':L2),(zs.Pairwise fun a b=>key a<=key b)->(zs'.Pairwise fun a b=>key a<=key b)->hO zs zs'->zs=zs':=by
 intro zs;induction zs with
 | nil=>
  intro zs' _ _ hf;cases zs' with
  | nil=>rfl
  | cons b bs=>
   have:=hf (key b);simp at this
 | cons a l ih=>
  intro zs' h1 h2 hf;cases zs' with
  | nil=>
   have:=hf (key a);simp at this
  | cons b bs=>
   rw [List.pairwise_cons] at h1 h2;have hab:key a=key b:=by
    have e1:=hf (key a);have e2:=hf (key b);by_cases hk:key a=key b
    ·exact hk
    ·have hk':¬ key b=key a:=fun h=>hk h.symm
     simp only [List.filter_cons,hk,hk',decide_false,decide_true,if_true,Bool.false_eq_true,if_false] at e1 e2;have m1:a∈bs:=by
      have:a∈bs.filter (fun x=>decide (key x=key a)):=by rw [e1]; simp
      exact (List.mem_filter.1 this).1
     have m2:b∈l:=by
      have:b∈l.filter (fun x=>decide (key x=key b)):=by rw [← e2]; simp
      exact (List.mem_filter.1 this).1
     have:=h1.1 b m2;have:=h2.1 a m1;omega
   have e1:=hf (key a);simp only [List.filter_cons,hab,decide_true,if_true,List.cons.injEq] at e1;obtain ⟨rfl,_⟩:=e1
   congr 1
   refine ih bs h1.2 h2.2 ?_;intro v;have ev:=hf v;simp only [List.filter_cons] at ev;split at ev
   ·simpa using ev
   ·exact ev
def nU (xs:L2):L2:=@dite _ (∃zs,eZ xs zs) (Classical.propDecidable _) (fun h=>Classical.choose h) (fun _=>xs)
theorem we {xs zs:L2} (h:eZ xs zs):eZ xs (nU xs):=by
 unfold nU;have h':∃zs,eZ xs zs:=⟨zs,h⟩;rw [dif_pos h'];exact Classical.choose_spec h'
theorem eZ.eq {xs zs:L2} (h:eZ xs zs):nU xs=zs:=by
 have h2:=we h;refine uniq _ _ (rn h2.up) (rn h.up) ?_;intro v;rw [h.same v,h2.same v]
theorem Kc {α:Type} {zs:List α} {j:Nat} (h1:1<=j) (h2:j < zs.length):zs=zs.take (j - 1)++([zs[j - 1],zs[j]]++zs.drop (j+1)):=by
 have e1:zs.drop (j - 1)=zs[j - 1] :: zs.drop j:=by
  rw [List.drop_eq_getElem_cons (by omega)]
  congr 2
  omega
 have e2:zs.drop j=zs[j] :: zs.drop (j+1):=List.drop_eq_getElem_cons h2
 conv=>lhs; rw [← List.take_append_drop (j - 1) zs,e1,e2]
 rfl
theorem H7 {α:Type} {zs:List α} {j:Nat} (h1:1<=j) (h2:j < zs.length):(zs.set j zs[j - 1]).set (j - 1) zs[j]=zs.take (j - 1)++([zs[j],zs[j - 1]]++zs.drop (j+1)):=by
 apply List.ext_getElem?;intro p;have hl:(zs.take (j - 1)).length=j - 1:=by simp; omega
 rw [List.getElem?_set,List.getElem?_set];by_cases hp1:j - 1=p
 ·subst hp1;rw [List.getElem?_append_right (by omega),hl]
  simp;omega
 ·by_cases hp2:j=p
  ·subst hp2;rw [List.getElem?_append_right (by omega),hl]
   have:j - (j - 1)=1:=by omega
   rw [this];simp [hp1];omega
  ·simp only [hp1,hp2,if_false];by_cases hp3:p < j - 1
   ·rw [List.getElem?_append_left (by omega)]
    simp [hp3]
   ·rw [List.getElem?_append_right (by omega),hl,List.getElem?_append_right (by simp; omega)]
    simp
    congr 1
    omega
theorem Eo {zs:L2} {j:Nat} (h1:1<=j) (h2:j < zs.length) (hne:key zs[j]≠key zs[j - 1]):hO zs ((zs.set j zs[j - 1]).set (j - 1) zs[j]):=by
 intro v;rw [H7 h1 h2]
 conv=>rhs; rw [Kc h1 h2]
 simp only [List.filter_append]
 congr 2
 simp only [List.filter_cons,List.filter_nil];by_cases ha:key zs[j]=v
 ·have hb:¬ key zs[j - 1]=v:=fun h=>hne (by rw [ha,h])
  simp [ha,hb]
 ·simp [ha]
theorem hO.refl (xs:L2):hO xs xs:=fun _=>rfl
theorem hO.trans {a b c:L2} (h:hO a b) (h':hO b c):hO a c:=fun v=>(h' v).trans (h v)
def dg (s x:Int):Int:=IntKind.u64.wrap ↑(BitVec.ofInt 64 (x.fdiv (2 ^ min s.toNat 64)) &&& BitVec.ofInt 64 255).toNat
def vC (s d:Int) (ys:L2):Nat:=(ys.filter fun x=>decide (dg s (key x)=d)).length
def gC (s d:Int) (ys:L2):Nat:=(ys.filter fun x=>decide (dg s (key x) < d)).length
def pass (s:Int) (ys:L2):L2:=(List.range 256).flatMap fun (d:Nat)=>ys.filter fun x=>decide (dg s (key x)=(d:Int))
def tk (ys:L2):Prop:=∀ x∈ys,0<=key x/\key x < 18446744073709551616
def qZ:L1:=List.replicate 257 0
def GQ (s:Int) (ys:L2) (A:L1):Prop:=A.length=257/\A.getD 0 0=0/\∀ d:Nat,d < 256->A.getD (d+1) 0=vC s d ys
def An (s:Int) (ys:L2) (A:L1):Prop:=A.length=257/\∀ d:Nat,d < 257->A.getD d 0=gC s d ys
def ZQ (xs ys zs:L2) (A:L1):OB:=[ro xs,row ys,row zs,some (.ints 235 .i64 A)]
def Yv (xs ys zs:L2) (s:Int):St:=⟨T 78 [(3,.sl 1),(4,.sl 2),(5,i64 s)],[ro xs,row ys,row zs]⟩
def Yu (xs ys zs:L2) (A:L1) (s:Int):St:=⟨T 78 [(3,.sl 1),(4,.sl 2),(5,i64 s),(6,.ptr 3 0)],ZQ xs ys zs A⟩
def Rs (xs ys zs:L2) (A:L1) (s j:Int):St:=⟨T 78 [(3,.sl 1),(4,.sl 2),(5,i64 s),(6,.ptr 3 0),(22,.sl 1),(23,i64 ys.length),(24,i64 j)],ZQ xs ys zs A⟩
def Rr (xs ys zs:L2) (A:L1) (s j:Int):St:=⟨T 78 [(3,.sl 1),(4,.sl 2),(5,i64 s),(6,.ptr 3 0),(39,i64 j)],ZQ xs ys zs A⟩
def NR (xs ys zs:L2) (A:L1) (s j:Int):St:=⟨T 78 [(3,.sl 1),(4,.sl 2),(5,i64 s),(6,.ptr 3 0),(52,.sl 1),(53,i64 ys.length),(54,i64 j)],ZQ xs ys zs A⟩
def YJ:aB:=fun n0 st K=>(n0=1/\st=Rs (st.x 0) (st.x 1) (st.x 2) qZ (st.i 5) 0/\(st.x 1).length<=1000000/\0<=st.i 5)/\
 ∀ A':L1,GQ (st.i 5) (st.x 1) A'->K (.exit 2) (Yu (st.x 0) (st.x 1) (st.x 2) A' (st.i 5))
def YI:aB:=fun n0 st K=>(n0=1/\st=Rr (st.x 0) (st.x 1) (st.x 2) (st.a 3) (st.i 5) 0/\(st.x 1).length<=1000000/\0<=st.i 5/\GQ (st.i 5) (st.x 1) (st.a 3))/\
 ∀ A':L1,An (st.i 5) (st.x 1) A'->K (.exit 4) (Yu (st.x 0) (st.x 1) (st.x 2) A' (st.i 5))
def YH:aB:=fun n0 st K=>(n0=1/\st=NR (st.x 0) (st.x 1) (st.x 2) (st.a 3) (st.i 5) 0/\(st.x 1).length<=1000000/\0<=st.i 5/\An (st.i 5) (st.x 1) (st.a 3)/\(st.x 2).length=(st.x 1).length/\hU (st.x 1))/\
 K (.exit 6) (Yv (st.x 0) (st.x 1) (pass (st.i 5) (st.x 1)) (st.i 5))
def L15:aB:=fun n0 st K=>(n0=1/\st=Yv (st.x 0) (st.x 1) (st.x 2) 0/\(st.x 1).length<=1000000/\(st.x 2).length=(st.x 1).length/\hU (st.x 1)/\tk (st.x 1))/\
 ∀ zs':L2,eZ (st.x 1) zs'->K (.exit 0) ⟨T 78 [(3,.sl 1)],[ro (st.x 0),row zs']⟩
def aA (bs:List aq) (i:Nat):L2:=match bs[i]? with
 | some (.row _ _ xs)=>xs
 | some (.ro _ xs)=>xs
 | _=>[]
def rF (l:List IV) (bs:List aq):Prop:=∃xs,l=[.sl 0]/\bs=[.ro [.u64,.i64] xs]/\xs.length<=1000000
def F8:Vs.Spec:=⟨rF,fun l bs=>(.sl 0,[.row 72 [.u64,.i64] (aA bs 0)])⟩
def Rw:Know:={ Γ:=fun g=>if g=180 then some F8 else none,Λ:=fun f i=>if f=144 then (if i=0 then some L15 else if i=1 then some YJ else if i=2 then some YI else if i=3 then some YH else none) else none,Τ:=fun _=>none }
def Jat (a b c:Int)(d:Nat):Int:=Int.fdiv a (b ^ Min.min (Int.toNat c) d)
def Jaz (a b:Int):Int:=IntKind.wrap .u64 (↑(BitVec.toNat (BitVec.ofInt 64 a &&& BitVec.ofInt 64 b)):Int)
def JaA (a:L2)(b:Int)(c:Nat)(d e:Int)(f:Nat)(g:Int):Int:=Jaz (Jat (Jam a b c) d e f) g
def JaM:List (Option IV):=Jak (Jak [])
def JaR (a:L2)(b c:Int):Int:=JaA a b 0 2 c 64 255
def Ja3 (a:List (Option IV))(b:List IntKind)(c:L2)(d:List IntKind)(e:L2)(f:List IntKind)(g:L2)(h:L1)(i:OB):St:=JaD (Jaf (.sl 1) (Jaf (.sl 2) a)) b c d e (JaC f g (Option.some (.ints 235 .i64 h)::i))
def Ja9 (a:Int)(b:Nat)(c:List (Option IV)):List (Option IV):=Jaf (Jad a) (Jaf (.ptr b 0) (Jaa (Jab c)))
def Jbh (a:L2)(b c:Int):Int:=IntKind.wrap .u64 (JaR a b c+1)
abbrev Jbx (a:Int)(b:L1):Prop:=Jax 0 a a (↑(List.length b):Int)
def Jby (a:List (Option IV))(b c d:L2)(e:L1):St:=Ja3 a [] b [] c [] d e []
abbrev JbA (a:Int):Prop:=Jax 0 a a 257
theorem aan (N:Know) (xs ys zs:L2) (A:L1) (s j:Int) (k:Out->St->Prop):(round (ai TP N 0) 144 1 1 (lp TP 144 1) (Rs xs ys zs A s j) k) =(JaQ j (Jag ys) (JaK j j ys/\Jar (JaK j j ys) (0<=s) (JaB (JbA (Jbh ys j s)) (Jbx (Jbh ys j s) A) (JbA (Jbh ys j s)) (Jbx (Jbh ys j s) A) (k .normal (Jby (Ja9 s 3 (Jac (Jae (JaO (Jag ys) (JaJ j) (Jaa (Jac (Jah (Jak [])))))))) xs ys zs (qO A (Jbh ys j s) (JaJ (cW A (Jbh ys j s)))))))) (k (.exit 2) (Jby (Ja9 s 3 (Jac JaM)) xs ys zs A))) :=by kernel_rfl
def Ja6 (a:Int)(b:Nat)(c:List (Option IV)):List (Option IV):=Jaf (Jad a) (Jaf (.ptr b 0) c)
def Jbr (a:Int)(b:List (Option IV)):List (Option IV):=Jak (Jaf (Jad a) (Jab (Jac (Jak b))))
theorem aam (N:Know) (xs ys zs:L2) (A:L1) (s j:Int) (k:Out->St->Prop):(round (ai TP N 0) 144 1 2 (lp TP 144 2) (Rr xs ys zs A s j) k) =(JaQ j 256 (Jar (JbA (JaJ j)) (Jbx (JaJ j) A) (JaB (JbA j) (Jbx j A) (JbA (JaJ j)) (Jbx (JaJ j) A) (k .normal (Jby (Ja6 s 3 (Jbr (JaJ j) [])) xs ys zs (qO A (JaJ j) (Jai (cW A (JaJ j)+cW A j))))))) (k (.exit 4) (Jby (Ja9 s 3 (Jac JaM)) xs ys zs A))) :=by kernel_rfl
def Jba (a:Int)(b:List IntKind)(c:L2)(d:List IntKind)(e:L2)(f:List IntKind)(g:L2)(h:OB):St:=JaD (Jaf (.sl 1) (Jaw (.sl 2) a (Jae JaM))) b c d e (JaC f g h)
def Jbt (a:L2)(b:Int)(c:List (Option IV)):List (Option IV):=Jaa (Jac (Jae (Jak (JaO (Jag a) b (Jaa (Jab (Jac (Jah c))))))))
theorem aal (N:Know) (xs ys zs:L2) (A:L1) (s j:Int) (k:Out->St->Prop):(round (ai TP N 0) 144 1 3 (lp TP 144 3) (NR xs ys zs A s j) k) =(JaQ j (Jag ys) (JaK j j ys/\Jar (JaK j j ys) (0<=s) (JaB (JbA (JaR ys j s)) (Jbx (JaR ys j s) A) (JaK (cW A (JaR ys j s)) (cW A (JaR ys j s)) zs) (JaK (cW A (JaR ys j s)) (cW A (JaR ys j s)) zs) (JaB (JbA (JaR ys j s)) (Jbx (JaR ys j s) A) (JbA (JaR ys j s)) (Jbx (JaR ys j s) A) (k .normal (Jby (Ja6 s 3 (Jbt ys (JaJ j) [])) xs ys (Jay zs (cW A (JaR ys j s)) (fun a=>[Jam ys j 0,Jam ys j 1])) (qO A (JaR ys j s) (JaJ (cW A (JaR ys j s))))))))) (k (.exit 6) (Jba s [] xs [] ys [] zs []))) :=by kernel_rfl
def Jan (a b c d e f g h:Int)(i:L1):L1:=a::b::c::d::e::f::g::h::i
def JaE (a b c d e f g h i j k l m n o p q r s t u v w x y z a1 b1 c1 d1 e1 f1:Int)(g1:L1):L1:=Jan a b c d e f g h (Jan i j k l m n o p (Jan q r s t u v w x (Jan y z a1 b1 c1 d1 e1 f1 g1)))
def Jbw:L1:=JaE 0 0 0 0 0 0 0 0 0 0 0 0 0 0 0 0 0 0 0 0 0 0 0 0 0 0 0 0 0 0 0 0 (JaE 0 0 0 0 0 0 0 0 0 0 0 0 0 0 0 0 0 0 0 0 0 0 0 0 0 0 0 0 0 0 0 0 (JaE 0 0 0 0 0 0 0 0 0 0 0 0 0 0 0 0 0 0 0 0 0 0 0 0 0 0 0 0 0 0 0 0 (JaE 0 0 0 0 0 0 0 0 0 0 0 0 0 0 0 0 0 0 0 0 0 0 0 0 0 0 0 0 0 0 0 0 (JaE 0 0 0 0 0 0 0 0 0 0 0 0 0 0 0 0 0 0 0 0 0 0 0 0 0 0 0 0 0 0 0 0 (JaE 0 0 0 0 0 0 0 0 0 0 0 0 0 0 0 0 0 0 0 0 0 0 0 0 0 0 0 0 0 0 0 0 (JaE 0 0 0 0 0 0 0 0 0 0 0 0 0 0 0 0 0 0 0 0 0 0 0 0 0 0 0 0 0 0 0 0 (JaE 0 0 0 0 0 0 0 0 0 0 0 0 0 0 0 0 0 0 0 0 0 0 0 0 0 0 0 0 0 0 0 0 [])))))))
theorem r15 (xs ys zs:L2) (s:Int) (k:Out->St->Prop):(round (ai TP Rw 0) 144 1 0 (lp TP 144 0) (Yv xs ys zs s) k) =(JaQ s 64 ((1=1/\Jar (Ja3 (Ja9 s 3 (Jac (Jae (JaO (Jag ys) 0 (Jaa (Jac (Jah (Jak [])))))))) [] xs [] ys [] zs (0::Jbw) []=Ja3 (Ja9 s 3 (Jac (Jae (JaO (Jag ys) 0 (Jaa (Jac (Jah (Jak [])))))))) [] xs [] ys [] zs (0::Jbw) []) (JaL ys) (0<=s))/\(∀a:L1,GQ s ys a->JaB (1=1) (Jby (Ja6 s 3 (Jbr 0 [])) xs ys zs a=Jby (Ja6 s 3 (Jbr 0 [])) xs ys zs a) (JaL ys) (0<=s) (GQ s ys a)/\(∀b:L1,An s ys b->Jbo 1 1 (Jby (Ja6 s 3 (Jbt ys 0 [])) xs ys zs b=Jby (Ja6 s 3 (Jbt ys 0 [])) xs ys zs b) (JaB (JaL ys) (0<=s) (An s ys b) (JaY zs ys) (hU ys)) (k .normal (Jba (Jai (s+8)) [] xs [] (pass s ys) [] ys []))))) (k (.exit 0) (JaD (Jaf (.sl 1) (Jab (Jae JaM))) [] xs [] ys []))) :=by kernel_rfl
def Jav (a:L2):Nat:=Int.toNat (Jag a)
def Jbs (a:List IntKind)(b:L2)(c:List aq):List aq:=.ro (Jao a) b::c
def Jbu (a:L2)(b:Int):L2:=Jal (Jav a) 2 b
theorem v15 (xs:L2) (K:KP):(comes TP Rw 1 144 [.sl 0] [.ro [.u64,.i64] xs] K) =(JaB (rF [JaG] (Jbs [] xs [])/\Jar (0<=Jag xs/\Jag xs*16<=140737488355328) (1=1/\JaB (Jba 0 [] xs [] xs [] (Jbu xs 0) []=Jba 0 [] xs [] xs [] (Jbu xs 0) []) (JaL xs) (JaY (Jbu xs 0) xs) (hU xs) (tk xs)) (∀a:L2,eZ xs a->K JaG (Jbb 72 [] a []))) (0<=Jag xs/\Jag xs*16<=140737488355328) (rF [JaG] (Jbs [] xs [])) (1=1/\JaB (Jba 0 [] xs [] xs [] (Jbu xs 0) []=Jba 0 [] xs [] xs [] (Jbu xs 0) []) (JaL xs) (JaY (Jbu xs 0) xs) (hU xs) (tk xs)) (∀a:L2,eZ xs a->K JaG (Jbb 72 [] a []))) :=by kernel_rfl
section
open Go.IntWalk
theorem Ul (N:Know) (n0:Nat):aG (ai TP N 0) 109 n0 0 (lp TP 109 0) L18:=by
 rintro st K ⟨⟨rfl,hst,hlen⟩,hbr⟩;generalize st.x 0=xs at *;subst hst;rw [Hl] at hbr;refine aC (m5 xs) (fun i=>1<=i/\(i<=xs.length∨i=1)/\∀ p q:Nat,p < q->(q:Int) < i->rd xs p 0<=rd xs q 0) (fun i=>(xs.length+1 - i).toNat) ?_ (a:=1) ⟨by omega,by omega,fun p q h1 h2=>by omega⟩
 rintro i ⟨h1,h2,h3⟩ k hn hk;rw [r18]; delta Jaa Jab Jac Jad Jae Jaf Jag Jah Jai Jam Jao Jaq Jar Jau Jax JaB JaG JaJ JaK JaP JaQ Ja1 Ja2 Jbd JbC; rw [al];constructor
 ·intro hi;rw [i64_in (i - 1) (by omega),i64_in (i+1) (by omega)]
  refine ⟨⟨by omega,hi⟩,⟨by omega,hi⟩,⟨by omega,by omega⟩,⟨by omega,by omega⟩,?_⟩
  rw [al];constructor
  ·intro hlt;refine hk _ _ (by simp) (hbr.2 ?_)
   intro hr;have:=hr (i - 1).toNat i.toNat (by omega) (by omega)
   omega
  ·intro hle;refine hn _ ⟨by omega,by omega,fun p q hpq hq=>?_⟩ (by omega)
   by_cases hq':(q:Int) < i
   ·exact h3 p q hpq hq'
   ·have e1:q=i.toNat:=by omega
    subst e1;by_cases hp:p=(i - 1).toNat
    ·subst hp; omega
    ·have:=h3 p (i - 1).toNat (by omega) (by omega)
     omega
 ·intro hi;refine hk _ _ (by simp) (hbr.1 ?_)
  intro p q hpq hq;exact h3 p q hpq (by omega)
theorem Pg (xs:L2) (n i:Nat):rd (xs.drop n) i 0=rd xs (n+i) 0:=by
 simp [rd,List.getD,List.getElem?_drop]
structure I16 (zs0:L2) (i:Int) (a:L2 × Int):Prop where
 len:a.1.length=zs0.length
 same:hO zs0 a.1
 two:hU a.1
 lo:0<=a.2
 hi:a.2<=i
 up:∀ p q:Nat,p < q->(q:Int)<=i->(p:Int)≠a.2->(q:Int)≠a.2->rd a.1 p 0<=rd a.1 q 0
 less:∀ q:Nat,a.2 < q->(q:Int)<=i->rd a.1 a.2.toNat 0 < rd a.1 q 0
theorem PM (N:Know) (n0:Nat):aG (ai TP N 0) 108 n0 1 (lp TP 108 1) YG:=by
 rintro st K ⟨⟨rfl,hst,hx,h1,h2,hm,hs⟩,hK⟩;generalize st.x 0=xs at *;generalize st.x 1=zs0 at *;generalize st.i 4=i at *;subst hst;refine aC (fun a:L2 × Int=>Rq xs a.1 i a.2) (I16 zs0 i) (fun a=>a.2.toNat) ?_ (a:=(zs0,i)) ⟨rfl,hO.refl _,hx,by simp; omega,by simp,?_,?_⟩
 ·rintro ⟨zs,j⟩ ⟨a1,a2,a3,a4,a5,a6,a7⟩ k hn hk;simp only at a1 a2 a3 a4 a5 a6 a7;have fin:(∀ p q:Nat,p < q->(q:Int)<=i->rd zs p 0<=rd zs q 0)->k (Out.exit 2) (VV xs zs i):=by
   intro hup;refine hk _ _ (by simp) (hK zs a1 a2 ?_ a3)
   intro p q hpq hq;exact hup p q hpq (by omega)
  show round _ _ _ _ _ (Rq xs zs i j) k;rw [aak]; delta Jaa Jab Jac Jad Jae Jaf Jag Jah Jai Jak Jam Jao Jaq Jar Jau Jaw Jax Jay JaB JaC JaD JaK JaO JaQ Ja1 Ja2 Jbg Jbn JbC; rw [al];constructor
  ·intro hj;rw [i64_in (j - 1) (by omega)]
   refine ⟨⟨by omega,by omega⟩,⟨by omega,by omega⟩,⟨by omega,by omega⟩,⟨by omega,by omega⟩,?_⟩
   rw [al];have ej:(j - 1).toNat=j.toNat - 1:=by omega
   constructor
   ·intro hlt;simp only [rV,List.length_set];refine ⟨⟨by omega,by omega⟩,⟨by omega,by omega⟩,⟨by omega,by omega⟩,⟨by omega,by omega⟩,⟨by omega,by omega⟩,⟨by omega,by omega⟩,⟨by omega,by omega⟩,⟨by omega,by omega⟩,?_⟩
    have hjl:j.toNat < zs.length:=by omega
    have hjl':j.toNat - 1 < zs.length:=by omega
    rw [ej,sW a3 hjl,sW a3 hjl'];rw [ej,rd_key hjl,rd_key hjl'] at hlt;have hrd:∀ p:Nat,rd ((zs.set j.toNat zs[j.toNat - 1]).set (j.toNat - 1) zs[j.toNat]) p 0=if p=j.toNat - 1 then key zs[j.toNat] else if p=j.toNat then key zs[j.toNat - 1] else rd zs p 0:=by
     intro p;unfold rd;by_cases e1:p=j.toNat - 1
     ·subst e1;simp [List.getD,key,hjl']
     ·by_cases e2:p=j.toNat
      ·subst e2;have:¬ j.toNat - 1=j.toNat:=by omega
       simp [List.getD,key,hjl,e1,this,List.getElem?_set]
      ·have e1':¬ j.toNat - 1=p:=fun h=>e1 h.symm
       have e2':¬ j.toNat=p:=fun h=>e2 h.symm
       simp [List.getD,e1,e2,e1',e2',List.getElem?_set]
    refine hn (_,j - 1) ⟨?_,?_,?_,?_,?_,?_,?_⟩ (by simp; omega)
    ·simp [a1]
    ·exact a2.trans (Eo (by omega) hjl (by omega))
    ·intro x hx';rcases List.mem_or_eq_of_mem_set hx' with hx' | rfl
     ·rcases List.mem_or_eq_of_mem_set hx' with hx' | rfl
      ·exact a3 x hx'
      ·exact a3 _ (List.getElem_mem _)
     ·exact a3 _ (List.getElem_mem _)
    ·simp; omega
    ·simp; omega
    ·intro p q hpq hq hp hq';simp only at hp hq' hq ⊢;rw [hrd,hrd];have n1:¬ p=j.toNat - 1:=by omega
     have n2:¬ q=j.toNat - 1:=by omega
     simp only [n1,n2,if_false];by_cases hpj:p=j.toNat
     ·subst hpj;have n3:¬ q=j.toNat:=by omega
      simp only [n3,if_true,if_false];have:=a6 (j.toNat - 1) q (by omega) hq (by omega) (by omega)
      rw [rd_key hjl'] at this;exact this
     ·by_cases hqj:q=j.toNat
      ·subst hqj;simp only [hpj,if_true,if_false];have:=a6 p (j.toNat - 1) (by omega) (by omega) (by omega) (by omega)
       rw [rd_key hjl'] at this;exact this
      ·simp only [hpj,hqj,if_false];exact a6 p q hpq hq (by omega) (by omega)
    ·intro q hq hqi;simp only at hq hqi ⊢;rw [ej,hrd,hrd];have n2:¬ q=j.toNat - 1:=by omega
     simp only [n2,if_true,if_false];by_cases hqj:q=j.toNat
     ·simp only [hqj,if_true];omega
     ·simp only [hqj,if_false];have:=a7 q (by omega) hqi
      rw [rd_key hjl] at this;exact this
   ·intro hge;refine fin ?_;intro p q hpq hq;by_cases hqj:(q:Int)=j
    ·have e1:q=j.toNat:=by omega
     subst e1;by_cases hp:p=j.toNat - 1
     ·subst hp; rw [← ej]; omega
     ·have:=a6 p (j.toNat - 1) (by omega) (by omega) (by omega) (by omega)
      rw [← ej] at this;omega
    ·by_cases hpj:(p:Int)=j
     ·have e1:p=j.toNat:=by omega
      subst e1;have:=a7 q (by omega) hq
      omega
     ·exact a6 p q hpq hq hpj hqj
  ·intro hj;refine fin ?_;intro p q hpq hq;by_cases hpj:(p:Int)=j
   ·have e1:p=j.toNat:=by omega
    subst e1;have:=a7 q (by omega) hq
    omega
   ·exact a6 p q hpq hq hpj (by omega)
 ·intro p q hpq hq hp hq';simp only at hp hq' ⊢;exact hs p q hpq (by omega)
 ·intro q hq hqi;simp only at hq;omega
theorem Un (n0:Nat):aG (ai TP VX 0) 108 n0 0 (lp TP 108 0) L16:=by
 rintro st K ⟨⟨rfl,hst,hx,hm⟩,hK⟩;generalize st.x 0=xs at *;generalize st.x 1=zs0 at *;subst hst;refine aC (fun a:L2 × Int=>VV xs a.1 a.2) (fun a=>a.1.length=zs0.length/\hO zs0 a.1/\hU a.1/\1<=a.2/\(a.2<=zs0.length∨a.2=1)/\Jt a.2.toNat a.1) (fun a=>(zs0.length+1 - a.2).toNat) ?_ (a:=(zs0,1)) ⟨rfl,hO.refl _,hx,by simp,by simp,fun p q h1 h2=>by simp at h2; omega⟩
 rintro ⟨zs,i⟩ ⟨a1,a2,a3,a4,a5,a6⟩ k hn hk;simp only at a1 a2 a3 a4 a5 a6;show round _ _ _ _ _ (VV xs zs i) k;rw [r16]; delta Jaa Jab Jac Jad Jae Jaf Jag Jah Jai Jak Jao Jaq Jar Jau Jaw JaB JaC JaD JaJ JaL JaO JaQ JaY Jbg Jbn Jbo; rw [al];constructor
 ·intro hi;refine ⟨⟨rfl,rfl,a3,a4,hi,by omega,a6⟩,?_⟩
  intro zs' l1 l2 l3 l4;rw [i64_in (i+1) (by omega)]
  refine hn (zs',i+1) ⟨by simp; omega,a2.trans l2,l4,by simp; omega,by simp; omega,?_⟩ (by simp; omega)
  have e:(i+1).toNat=i.toNat+1:=by omega
  simp only [e];exact l3
 ·intro hi;refine hk _ _ (by simp) (hK zs ⟨a1,a2,?_,a3⟩)
  intro p q hpq hq;exact a6 p q hpq (by omega)
theorem oS (s x:Int):0<=dg s x/\dg s x < 256:=by
 unfold dg;have h:(BitVec.ofInt 64 (x.fdiv (2 ^ min s.toNat 64)) &&& BitVec.ofInt 64 255).toNat<=255:=by
  rw [BitVec.toNat_and];exact Nat.and_le_right
 rw [u64_in _ (by omega)]
 omega
theorem oR (A:L1) (i j v:Int) (hi:0<=i) (hj:0<=j) (hl:i < A.length):cW (qO A i v) j=if j=i then v else cW A j:=by
 unfold cW qO;by_cases h:j=i
 ·subst h;simp [List.getD,hl,show j.toNat < A.length by omega]
 ·have:¬ i.toNat=j.toNat:=by omega
  simp [List.getD,h,List.getElem?_set,this]
theorem oO (A:L1) (i v:Int):(qO A i v).length=A.length:=by simp [qO]
theorem l6 {p:L1->Bool} {ys:L2} {j:Nat} (h:j < ys.length):(ys.take (j+1)).filter p=(ys.take j).filter p++if p ys[j] then [ys[j]] else []:=by
 rw [List.take_add_one,List.filter_append,List.getElem?_eq_getElem h]
 congr 1
 simp [List.filter_cons]
theorem sA (s d:Int) {ys:L2} {j:Nat} (h:j < ys.length):(vC s d (ys.take (j+1)):Int)=vC s d (ys.take j)+if dg s (key ys[j])=d then 1 else 0:=by
 unfold vC;rw [l6 h];by_cases hd:dg s (key ys[j])=d <;> simp [hd]
theorem MQ (s d:Int) (ys:L2):vC s d ys<=ys.length:=List.length_filter_le _ _
theorem He (s d:Int) (ys:L2):gC s d ys<=ys.length:=List.length_filter_le _ _
theorem AZ:qZ.length=257:=List.length_replicate
theorem yI (i:Int):cW qZ i=0:=by
 unfold cW qZ;rw [List.getD,List.getElem?_replicate];split <;> rfl
theorem mH (s d:Int) (ys:L2):gC s (d+1) ys=gC s d ys+vC s d ys:=by
 unfold gC vC;induction ys with
 | nil=>rfl
 | cons y ys ih=>
  simp only [List.filter_cons];by_cases h1:dg s (key y) < d
  ·have h2:dg s (key y) < d+1:=by omega
   have h3:¬ dg s (key y)=d:=by omega
   simp [h1,h2,h3,ih];omega
  ·by_cases h3:dg s (key y)=d
   ·have h2:dg s (key y) < d+1:=by omega
    simp only [h1,h2,decide_true,decide_false,if_true,Bool.false_eq_true,if_false,List.length_cons,ih];simp [h3];omega
   ·have h2:¬ dg s (key y) < d+1:=by omega
    simp [h1,h2,h3,ih]
theorem tL (s:Int) (ys:L2):gC s 0 ys=0:=by
 unfold gC;rw [List.length_eq_zero_iff,List.filter_eq_nil_iff];intro y _;have:=(oS s (key y)).1;simp;omega
theorem xm (s:Int) (ys:L2):gC s 256 ys=ys.length:=by
 unfold gC
 congr 1
 rw [List.filter_eq_self];intro y _;have:=(oS s (key y)).2;simp;omega
theorem PQ (N:Know) (n0:Nat):aG (ai TP N 0) 144 n0 1 (lp TP 144 1) YJ:=by
 rintro st K ⟨⟨rfl,hst,hlen,hs⟩,hK⟩;generalize st.x 0=xs at *;generalize st.x 1=ys at *;generalize st.x 2=zs at *;generalize st.i 5=s at *;subst hst;refine aC (fun a:L1 × Int=>Rs xs ys zs a.1 s a.2) (fun a=>a.1.length=257/\0<=a.2/\a.2<=ys.length/\cW a.1 0=0/\∀ d:Int,0<=d->d < 256->cW a.1 (d+1)=vC s d (ys.take a.2.toNat)) (fun a=>(ys.length - a.2).toNat) ?_ (a:=(qZ,0)) ⟨AZ,by simp,by simp,yI _,?_⟩
 ·rintro ⟨A,j⟩ ⟨a1,a2,a3,a4,a5⟩ k hn hk;simp only at a1 a2 a3 a4 a5;show round _ _ _ _ _ (Rs xs ys zs A s j) k;rw [aan]; delta Jaa Jab Jac Jad Jae Jaf Jag Jah Jai Jak Jam Jao Jaq Jar Jat Jau Jaw Jax Jaz JaA JaB JaC JaD JaJ JaK JaM JaO JaQ JaR Ja3 Ja9 Jbh Jbx Jby JbA; rw [al];constructor
  ·intro hj;have hjl:j.toNat < ys.length:=by omega
   rw [i64_in (j+1) (by omega)]
   rw [rd_key hjl];have hdg:=oS s (key ys[j.toNat]);have hfold:IntKind.u64.wrap (↑(BitVec.ofInt 64 ((key ys[j.toNat]).fdiv (2 ^ min s.toNat 64)) &&& BitVec.ofInt 64 255).toNat:Int)=dg s (key ys[j.toNat]):=rfl;simp only [hfold];rw [u64_in (dg s (key ys[j.toNat])+1) (by omega)]
   have hc:=a5 (dg s (key ys[j.toNat])) hdg.1 hdg.2;have hcl:=MQ s (dg s (key ys[j.toNat])) (ys.take j.toNat);have htl:(ys.take j.toNat).length<=1000000:=by simp; omega
   rw [i64_in (cW A (dg s (key ys[j.toNat])+1)+1) (by omega)]
   refine ⟨⟨by omega,hj⟩,⟨by omega,hj⟩,hs,⟨by omega,by omega⟩,⟨by omega,by omega⟩,⟨by omega,by omega⟩,⟨by omega,by omega⟩,?_⟩
   refine hn (qO A (dg s (key ys[j.toNat])+1) (cW A (dg s (key ys[j.toNat])+1)+1),j+1) ⟨by simp [oO,a1],by simp; omega,by simp; omega,?_,?_⟩ (by simp; omega)
   ·simp only;rw [oR _ _ _ _ (by omega) (by omega) (by omega),if_neg (by omega)]
    exact a4
   ·intro d hd1 hd2;simp only;have e:(j+1).toNat=j.toNat+1:=by omega
    rw [e,sA s d hjl,oR _ _ _ _ (by omega) (by omega) (by omega)]
    by_cases hd:dg s (key ys[j.toNat])=d
    ·subst hd;simp [hc]
    ·rw [if_neg (by omega),if_neg hd,a5 d hd1 hd2]
     omega
  ·intro hj;refine hk _ _ (by simp) (hK A ⟨a1,?_,?_⟩)
   ·simpa [cW] using a4
   ·intro d hd;have:=a5 d (by omega) (by omega)
    have e:j.toNat=ys.length:=by omega
    rw [e,List.take_length] at this;rw [← this];simp only [cW]
    congr 1
 ·intro d h1 h2;rw [yI];simp [vC]
theorem PO (N:Know) (n0:Nat):aG (ai TP N 0) 144 n0 2 (lp TP 144 2) YI:=by
 rintro st K ⟨⟨rfl,hst,hlen,hs,hc⟩,hK⟩;generalize st.x 0=xs at *;generalize st.x 1=ys at *;generalize st.x 2=zs at *;generalize st.i 5=s at *;generalize st.a 3=A0 at *;subst hst;refine aC (fun a:L1 × Int=>Rr xs ys zs a.1 s a.2) (fun a=>a.1.length=257/\0<=a.2/\a.2<=256/\(∀ d:Int,0<=d->d<=a.2->cW a.1 d=gC s d ys)/\∀ d:Int,a.2<=d->d < 256->cW a.1 (d+1)=vC s d ys) (fun a=>(256 - a.2).toNat) ?_ (a:=(A0,0)) ⟨hc.1,by simp,by simp,?_,?_⟩
 ·rintro ⟨A,j⟩ ⟨a1,a2,a3,a4,a5⟩ k hn hk;simp only at a1 a2 a3 a4 a5;show round _ _ _ _ _ (Rr xs ys zs A s j) k;rw [aam]; delta Jaa Jab Jac Jad Jae Jaf Jah Jai Jak Jao Jaq Jar Jau Jax JaB JaC JaD JaJ JaM JaQ Ja3 Ja6 Ja9 Jbr Jbx Jby JbA; rw [al];constructor
  ·intro hj;rw [i64_in (j+1) (by omega)]
   have e1:=a4 j a2 (by omega)
   have e2:=a5 j (by omega) hj
   have l1:=He s j ys;have l2:=MQ s j ys;rw [i64_in (cW A (j+1)+cW A j) (by omega)]
   refine ⟨⟨by omega,by omega⟩,⟨by omega,by omega⟩,⟨by omega,by omega⟩,⟨by omega,by omega⟩,⟨by omega,by omega⟩,⟨by omega,by omega⟩,?_⟩
   refine hn (qO A (j+1) (cW A (j+1)+cW A j),j+1) ⟨by simp [oO,a1],by simp; omega,by simp; omega,?_,?_⟩ (by simp; omega)
   ·intro d hd1 hd2;simp only at hd2 ⊢;rw [oR _ _ _ _ (by omega) (by omega) (by omega)]
    by_cases hd:d=j+1
    ·subst hd;rw [if_pos rfl,mH,e1,e2];omega
    ·rw [if_neg hd];exact a4 d hd1 (by omega)
   ·intro d hd1 hd2;simp only at hd1 ⊢;rw [oR _ _ _ _ (by omega) (by omega) (by omega),if_neg (by omega)]
    exact a5 d (by omega) hd2
  ·intro hj;refine hk _ _ (by simp) (hK A ⟨a1,?_⟩)
   intro d hd;have:=a4 d (by omega) (by omega)
   simpa [cW] using this
 ·intro d h1 h2;simp only at h2;have:d=0:=by omega
  subst this;rw [tL];simpa [cW] using hc.2.1
 ·intro d h1 h2;have:=hc.2.2 d.toNat (by omega)
  have e:(d.toNat:Int)=d:=by omega
  rw [e] at this;simp only [cW];rw [← this]
  congr 1
  simp only at h1;omega
theorem pieces {α:Type} (Z:List α) (f:Nat->List α) (o:Nat->Nat) (h0:o 0=0) (hs:∀ d,o (d+1)=o d+(f d).length):∀ m,o m<=Z.length->(∀ d,d < m->∀ t,t < (f d).length->Z[o d+t]? = (f d)[t]?)->Z.take (o m)=(List.range m).flatMap f:=by
 intro m;induction m with
 | zero=>intro _ _; simp [h0]
 | succ m ih=>
  intro hl h;rw [List.range_succ,List.flatMap_append,← ih (by rw [hs] at hl; omega) (fun d hd=>h d (by omega)),hs,List.take_add]
  congr 1
  simp only [List.flatMap_cons,List.flatMap_nil,List.append_nil];apply List.ext_getElem?;intro t;by_cases ht:t < (f m).length
  ·rw [List.getElem?_take,if_pos ht,List.getElem?_drop];exact h m (by omega) t ht
  ·rw [List.getElem?_eq_none (by simp; omega),List.getElem?_eq_none (by omega)]
def VP (s d:Int) (ys:L2):L2:=ys.filter fun x=>decide (dg s (key x)=d)
theorem mV (s d:Int) (ys:L2):(VP s d ys).length=vC s d ys:=rfl
theorem Md (s d:Int) {ys:L2} {j:Nat} (h:j < ys.length):VP s d (ys.take (j+1))=VP s d (ys.take j)++if dg s (key ys[j])=d then [ys[j]] else []:=by
 unfold VP;rw [l6 h];by_cases hd:dg s (key ys[j])=d <;> simp [hd]
theorem uL (s d:Int) (ys:L2) (j:Nat):vC s d (ys.take j)<=vC s d ys:=
 ((List.take_sublist j ys).filter _).length_le
theorem yL (s:Int) (ys:L2) {d e:Int} (h:d<=e):gC s d ys<=gC s e ys:=by
 unfold gC;induction ys with
 | nil=>simp
 | cons y ys ih=>
  simp only [List.filter_cons];by_cases h1:dg s (key y) < d
  ·have h2:dg s (key y) < e:=by omega
   simp [h1,h2,ih]
  ·by_cases h2:dg s (key y) < e
   ·simp [h1,h2]; omega
   ·simp [h1,h2,ih]
structure I15c (s:Int) (ys:L2) (a:(L1 × L2) × Int):Prop where
 lenA:a.1.1.length=257
 lo:0<=a.2
 hi:a.2<=ys.length
 lenZ:a.1.2.length=ys.length
 at_:∀ d:Int,0<=d->d < 256->cW a.1.1 d=gC s d ys+vC s d (ys.take a.2.toNat)
 put:∀ d:Int,0<=d->d < 256->∀ t:Nat,t < vC s d (ys.take a.2.toNat)->a.1.2[gC s d ys+t]? = (VP s d (ys.take a.2.toNat))[t]?
theorem PN (N:Know) (n0:Nat):aG (ai TP N 0) 144 n0 3 (lp TP 144 3) YH:=by
 rintro st K ⟨⟨rfl,hst,hlen,hs,hc,hz,hr⟩,hK⟩;generalize st.x 0=xs at *;generalize st.x 1=ys at *;generalize st.x 2=zs at *;generalize st.i 5=s at *;generalize st.a 3=A0 at *;subst hst;refine aC (fun a:(L1 × L2) × Int=>NR xs ys a.1.2 a.1.1 s a.2) (I15c s ys) (fun a=>(ys.length - a.2).toNat) ?_ (a:=((A0,zs),0)) ⟨hc.1,by simp,by simp,hz,?_,?_⟩
 ·rintro ⟨⟨A,Z⟩,j⟩ ⟨a1,a2,a3,a4,a5,a6⟩ k hn hk;simp only at a1 a2 a3 a4 a5 a6;show round _ _ _ _ _ (NR xs ys Z A s j) k;rw [aal]; delta Jaa Jab Jac Jad Jae Jaf Jag Jah Jai Jak Jam Jao Jaq Jar Jat Jau Jaw Jax Jay Jaz JaA JaB JaC JaD JaJ JaK JaM JaO JaQ JaR Ja3 Ja6 Jba Jbt Jbx Jby JbA; rw [al];constructor
  ·intro hj;have hjl:j.toNat < ys.length:=by omega
   rw [i64_in (j+1) (by omega)]
   rw [sW hr hjl,rd_key hjl];have hdg:=oS s (key ys[j.toNat]);have hfold:IntKind.u64.wrap (↑(BitVec.ofInt 64 ((key ys[j.toNat]).fdiv (2 ^ min s.toNat 64)) &&& BitVec.ofInt 64 255).toNat:Int)=dg s (key ys[j.toNat]):=rfl;simp only [hfold,rV];generalize hd0:dg s (key ys[j.toNat])=d0 at *;have e1:=a5 d0 hdg.1 hdg.2;have e2:=sA s d0 hjl;rw [hd0,if_pos rfl] at e2;have e3:=uL s d0 ys (j.toNat+1);have e4:=mH s d0 ys;have e5:=He s (d0+1) ys;rw [i64_in (cW A d0+1) (by omega)]
   have hp:(cW A d0).toNat=gC s d0 ys+vC s d0 (ys.take j.toNat):=by omega
   have fin:k Out.normal (NR xs ys (Z.set (cW A d0).toNat ys[j.toNat]) (qO A d0 (cW A d0+1)) s (j+1)):=by
    refine hn ((qO A d0 (cW A d0+1),Z.set (cW A d0).toNat ys[j.toNat]),j+1) ⟨by simp [oO,a1],by simp; omega,by simp; omega,by simp [a4],?_,?_⟩ (by simp; omega)
    ·intro d hd1 hd2;have e:(j+1).toNat=j.toNat+1:=by omega
     simp only [e];rw [sA s d hjl,hd0,oR _ _ _ _ (by omega) (by omega) (by omega)]
     by_cases hd:d=d0
     ·subst hd;rw [if_pos rfl,if_pos rfl,e1];omega
     ·rw [if_neg hd,if_neg (fun h=>hd h.symm),a5 d hd1 hd2]
      omega
    ·intro d hd1 hd2 t ht;have e:(j+1).toNat=j.toNat+1:=by omega
     simp only [e] at ht ⊢;have hcs:=sA s d hjl;rw [hd0] at hcs;rw [Md s d hjl,hd0,hp,List.getElem?_set];by_cases hd:d0=d
     ·subst hd;rw [if_pos rfl] at hcs ⊢;by_cases htt:t < vC s d0 (ys.take j.toNat)
      ·rw [if_neg (by omega),List.getElem?_append_left (by rw [mV]; exact htt)]
       exact a6 d0 hd1 hd2 t htt
      ·have:t=vC s d0 (ys.take j.toNat):=by omega
       subst this;rw [if_pos rfl,if_pos (by omega),List.getElem?_append_right (by rw [mV]; exact Nat.le_refl _),mV]
       simp
     ·rw [if_neg hd] at hcs ⊢;have ht':t < vC s d (ys.take j.toNat):=by omega
      have l1:=uL s d ys j.toNat;have l2:=mH s d ys;have hne:¬ gC s d0 ys+vC s d0 (ys.take j.toNat)=gC s d ys+t:=by
       rcases Int.lt_or_gt_of_ne hd with h | h
       ·have:=yL s ys (show d0+1<=d by omega)
        omega
       ·have:=yL s ys (show d+1<=d0 by omega)
        omega
      rw [if_neg hne,List.append_nil];exact a6 d hd1 hd2 t ht'
   repeat' apply And.intro
   all_goals first | exact fin | exact hs | omega
  ·intro hj;have e:j.toNat=ys.length:=by omega
   have hZ:Z=pass s ys:=by
    have hpc:=pieces Z (fun d=>VP s (d:Int) ys) (fun d=>gC s (d:Int) ys) (by simpa using tL s ys) (fun d=>by
     have:=mH s (d:Int) ys;simpa [mV] using this) 256 (by have:=xm s ys; rw [a4]; exact Nat.le_of_eq (by simpa using this)) (fun d hd t ht=>by
     have:=a6 (d:Int) (by omega) (by omega) t (by rw [e,List.take_length]; exact ht)
     rw [e,List.take_length] at this;exact this)
    have h256:gC s ((256:Nat):Int) ys=Z.length:=by rw [a4]; exact xm s ys
    simp only [h256,List.take_length] at hpc;exact hpc
   rw [hZ];exact hk _ _ (by simp) hK
 ·intro d h1 h2;have:=hc.2 d.toNat (by omega)
  have e:(d.toNat:Int)=d:=by omega
  rw [e] at this;simp only [cW];rw [this];simp [vC]
 ·intro d h1 h2 t ht;simp [vC] at ht
theorem SB {s x:Int} (hs:0<=s) (hs':s<=63) (hx:0<=x) (hx':x < 18446744073709551616):dg s x=x / 2 ^ s.toNat % 256:=by
 have hm:min s.toNat 64=s.toNat:=by omega
 have hpow:(0:Int) < 2 ^ s.toNat:=Int.pow_pos (by decide)
 have hq:0<=x / 2 ^ s.toNat:=Int.ediv_nonneg hx (by omega)
 have hq':x / 2 ^ s.toNat<=x:=Int.ediv_le_self _ hx;have hand:(BitVec.ofInt 64 (x / 2 ^ s.toNat) &&& BitVec.ofInt 64 255).toNat=(x / 2 ^ s.toNat).toNat % 256:=by
  rw [BitVec.toNat_and,BitVec.toNat_ofInt];have e1:((x / 2 ^ s.toNat) % ((2 ^ 64:Nat):Int)).toNat=(x / 2 ^ s.toNat).toNat:=by
   rw [Int.emod_eq_of_lt hq (by omega)]
  rw [e1];exact Nat.and_two_pow_sub_one_eq_mod _ 8
 unfold dg;rw [hm,Int.fdiv_eq_ediv_of_nonneg _ (by omega),hand]
 have:(x / 2 ^ s.toNat).toNat % 256 < 256:=Nat.mod_lt _ (by decide)
 rw [u64_in _ (by omega)]
 omega
theorem Ck {s x y:Int} (hs:0<=s) (hs':s<=56) (hx:0<=x) (hx':x < 18446744073709551616) (hy:0<=y) (hy':y < 18446744073709551616)
  (h:dg s x < dg s y∨(dg s x=dg s y/\x % 2 ^ s.toNat<=y % 2 ^ s.toNat)):x % 2 ^ (s+8).toNat<=y % 2 ^ (s+8).toNat:=by
 rw [SB hs (by omega) hx hx',SB hs (by omega) hy hy'] at h
 have e:(2:Int) ^ (s+8).toNat=2 ^ s.toNat*256:=by
  rw [show (s+8).toNat=s.toNat+8 by omega,Int.pow_add]
  rfl
 have hpow:(0:Int) < 2 ^ s.toNat:=Int.pow_pos (by decide)
 have key:∀ z:Int,z % (2 ^ s.toNat*256)=2 ^ s.toNat*(z / 2 ^ s.toNat % 256)+z % 2 ^ s.toNat:=by
  intro z;have e3:z / (2 ^ s.toNat*256)=z / 2 ^ s.toNat / 256:=(Int.ediv_ediv_of_nonneg (by omega)).symm
  rw [Int.emod_def z (2 ^ s.toNat*256),e3,Int.emod_def z (2 ^ s.toNat),Int.emod_def (z / 2 ^ s.toNat) 256,Int.mul_sub,Int.mul_assoc];omega
 rw [e,key x,key y];generalize x / 2 ^ s.toNat % 256=a at *;generalize y / 2 ^ s.toNat % 256=b at *;have hx2:=Int.emod_lt_of_pos x hpow;have hy2:=Int.emod_nonneg y (show (2:Int) ^ s.toNat≠0 by omega)
 generalize x % 2 ^ s.toNat=p at *;generalize y % 2 ^ s.toNat=q at *;generalize (2:Int) ^ s.toNat=m at *;rcases h with h | ⟨rfl,h⟩
 ·have:m*(a+1)<=m*b:=Int.mul_le_mul_of_nonneg_left (by omega) (by omega)
  rw [Int.mul_add] at this;omega
 ·omega
theorem Cf {s:Int} {ys:L2} {x:L1} (h:x∈pass s ys):x∈ys:=by
 unfold pass at h;simp only [List.mem_flatMap,List.mem_filter] at h;obtain ⟨d,_,h,_⟩:=h;exact h
theorem BW (s:Int) (ys:L2):(pass s ys).length=ys.length:=by
 have key:∀ m:Nat,((List.range m).flatMap fun (d:Nat)=>ys.filter fun x=>decide (dg s (key x)=(d:Int))).length=gC s m ys:=by
  intro m;induction m with
  | zero=>simpa using (tL s ys).symm
  | succ m ih=>
   rw [List.range_succ,List.flatMap_append,List.length_append,ih];have:=mH s (m:Int) ys;simp only [List.flatMap_cons,List.flatMap_nil,List.append_nil];unfold vC at this;rw [← this]
   rfl
 have:=key 256;rw [show ((256:Nat):Int)=256 from rfl,xm] at this
 exact this
theorem Im (s:Int) (ys:L2):hO ys (pass s ys):=by
 intro v;unfold pass;rw [List.filter_flatMap];have hr:=oS s v;have key:∀ m:Nat,((List.range m).flatMap fun (d:Nat)=>(ys.filter fun x=>decide (dg s (key x)=(d:Int))).filter fun x=>decide (key x=v))=if dg s v < m then ys.filter (fun x=>decide (key x=v)) else []:=by
  intro m;induction m with
  | zero=>
   rw [if_neg (by omega)]
   rfl
  | succ m ih=>
   rw [List.range_succ,List.flatMap_append,ih];simp only [List.flatMap_cons,List.flatMap_nil,List.append_nil,List.filter_filter];by_cases hd:dg s v=m
   ·rw [if_neg (by omega),if_pos (by omega),List.nil_append]
    apply List.filter_congr;intro x _;by_cases hx:key x=v
    ·subst hx; simp [hd]
    ·simp [hx]
   ·have:(ys.filter fun x=>decide (key x=v) && decide (dg s (key x)=(m:Int)))=[]:=by
     rw [List.filter_eq_nil_iff];intro x _;by_cases hx:key x=v
     ·subst hx; simp [hd]
     ·simp [hx]
    rw [this,List.append_nil];by_cases h2:dg s v < m
    ·rw [if_pos h2,if_pos (by omega)]
    ·rw [if_neg h2,if_neg (by omega)]
 have:=key 256;rw [if_pos (by omega)] at this
 exact this
theorem xF {s:Int} {ys:L2} (hs:0<=s) (hs':s<=56) (hk:tk ys) (h:ys.Pairwise fun a b=>key a % 2 ^ s.toNat<=key b % 2 ^ s.toNat):
  (pass s ys).Pairwise fun a b=>key a % 2 ^ (s+8).toNat<=key b % 2 ^ (s+8).toNat:=by
 have key:∀ m:Nat,((List.range m).flatMap fun (d:Nat)=>ys.filter fun x=>decide (dg s (key x)=(d:Int))).Pairwise fun a b=>key a % 2 ^ (s+8).toNat<=key b % 2 ^ (s+8).toNat:=by
  intro m;induction m with
  | zero=>simp
  | succ m ih=>
   rw [List.range_succ,List.flatMap_append,List.pairwise_append];refine ⟨ih,?_,?_⟩
   ·simp only [List.flatMap_cons,List.flatMap_nil,List.append_nil];have h2:=(h.sublist (List.filter_sublist (p:=fun x=>decide (dg s (key x)=(m:Int)))))
    refine List.Pairwise.imp_of_mem ?_ h2;intro a b ha hb hab;rw [List.mem_filter] at ha hb;have da:dg s (key a)=m:=by simpa using ha.2
    have db:dg s (key b)=m:=by simpa using hb.2
    exact Ck hs hs' (hk a ha.1).1 (hk a ha.1).2 (hk b hb.1).1 (hk b hb.1).2 (.inr ⟨by omega,hab⟩)
   ·intro a ha b hb;simp only [List.mem_flatMap,List.mem_filter,List.mem_range,List.flatMap_cons,List.flatMap_nil,List.append_nil] at ha hb;obtain ⟨d,hd,ha,hda⟩:=ha;obtain ⟨hb,hdb⟩:=hb;have da:dg s (key a)=d:=by simpa using hda
    have db:dg s (key b)=m:=by simpa using hdb
    exact Ck hs hs' (hk a ha).1 (hk a ha).2 (hk b hb).1 (hk b hb).2 (.inl (by omega))
 exact key 256
structure I15 (ys0:L2) (a:(L2 × L2) × Int):Prop where
 lenY:a.1.1.length=ys0.length
 lenZ:a.1.2.length=ys0.length
 same:hO ys0 a.1.1
 two:hU a.1.1
 keys:tk a.1.1
 lo:0<=a.2
 hi:a.2<=64
 eight:a.2 % 8=0
 up:a.1.1.Pairwise fun x y=>key x % 2 ^ a.2.toNat<=key y % 2 ^ a.2.toNat
theorem Uo (n0:Nat):aG (ai TP Rw 0) 144 n0 0 (lp TP 144 0) L15:=by
 rintro st K ⟨⟨rfl,hst,hlen,hz,hr,hkeys⟩,hK⟩;generalize st.x 0=xs at *;generalize st.x 1=ys0 at *;generalize st.x 2=zs0 at *;subst hst;refine aC (fun a:(L2 × L2) × Int=>Yv xs a.1.1 a.1.2 a.2) (I15 ys0) (fun a=>(64 - a.2).toNat) ?_ (a:=((ys0,zs0),0)) ⟨rfl,hz,hO.refl _,hr,hkeys,by simp,by simp,by simp,?_⟩
 ·rintro ⟨⟨ys,zs⟩,s⟩ ⟨a1,a2,a3,a4,a5,a6,a7,a8,a9⟩ k hn hk;simp only at a1 a2 a3 a4 a5 a6 a7 a8 a9;show round _ _ _ _ _ (Yv xs ys zs s) k;rw [r15]; delta Jaa Jab Jac Jad Jae Jaf Jag Jah Jai Jak Jan Jao Jaq Jar Jau Jaw JaB JaC JaD JaE JaL JaM JaO JaQ JaY Ja3 Ja6 Ja9 Jba Jbo Jbr Jbt Jbw Jby; rw [al];constructor
  ·intro hs;have hl:ys.length<=1000000:=by omega
   refine ⟨⟨rfl,rfl,hl,a6⟩,fun A1 h1=>⟨⟨rfl,rfl,hl,a6,h1⟩,fun A2 h2=>⟨⟨rfl,rfl,hl,a6,h2,by omega,a4⟩,?_⟩⟩⟩
   rw [i64_in (s+8) (by omega)]
   refine hn ((pass s ys,ys),s+8) ⟨by simp [BW,a1],a1,a3.trans (Im s ys),fun x hx=>a4 x (Cf hx),fun x hx=>a5 x (Cf hx),by simp; omega,by simp; omega,by simp; omega,?_⟩ (by simp; omega)
   exact xF a6 (by omega) a5 a9
  ·intro hs;have e:s=64:=by omega
   subst e;refine hk _ _ (by simp) (hK ys ⟨a1,a3,?_,a4⟩)
   intro p q hpq hq;rw [List.pairwise_iff_getElem] at a9;have:=a9 p q (by omega) hq hpq
   rw [rd_key (by omega),rd_key hq]
   have k1:=a5 ys[p] (List.getElem_mem _);have k2:=a5 ys[q] (List.getElem_mem _);have e64:(2:Int) ^ (64:Int).toNat=18446744073709551616:=by decide
   rw [e64,Int.emod_eq_of_lt k1.1 k1.2,Int.emod_eq_of_lt k2.1 k2.2] at this;exact this
 ·have:∀ (l:L2),l.Pairwise fun x y=>key x % 2 ^ (0:Int).toNat<=key y % 2 ^ (0:Int).toNat:=by
   intro l;rw [List.pairwise_iff_getElem];intro i j _ _ _;have e0:(2:Int) ^ (0:Int).toNat=1:=by decide
   rw [e0,Int.emod_one,Int.emod_one];omega
  exact this ys0
end
theorem mixedOrders:TP.follows .mixedOrders=true:=by kernel_rfl
theorem cO {P:Program} {N:Know} (h:∀ f i,N.Λ f i=none) (d:Nat):∀ d',d' < d->∀ f i S n0,N.Λ f i=some S->aG (ai P N d') f n0 i (lp P f i) S:=by
 intro d' _ f i S n0 hS;rw [h] at hS;cases hS
theorem c28:aa TP 180 F8:=by
 refine ab 1 ⟨mixedOrders,fun g sp h=>(by cases h),cO (N:=EE) (fun _ _=>rfl) 1,fun g G h=>(by cases h),fun f h=>(by cases h)⟩ (N:=EE) ?_
 rintro l bs _ _ ⟨xs,rfl,rfl,hl⟩;rw [v28]; delta Jal Jao JaG JaU Jbb;intro q hq;rw [aL];constructor
 ·intro h;rw [hq h]
  rfl
 ·intro _;exact ⟨by omega,rfl⟩
theorem wc {xs zs:L2} (h:eZ (List.replicate 0 (List.replicate 2 0)++xs) zs):eZ xs zs:=h
def rE (l:List IV) (bs:List aq):Prop:=∃xs,l=[.sl 0]/\bs=[.ro [.u64,.i64] xs]/\hU xs/\xs.length<=1000000
def DQ:Vs.Spec:=⟨rE,fun l bs=>(.sl 0,[.row 72 [.u64,.i64] (nU (aA bs 0))])⟩
theorem c16:aa TP 108 DQ:=by
 refine ab 1 ⟨mixedOrders,fun g sp h=>(by cases h),?_,fun g G h=>(by cases h),fun f h=>(by cases h)⟩ (N:=VX) ?_
 ·intro d' hd f i S n0 hS;have:d' = 0:=by omega
  subst this;simp only [VX] at hS;split at hS
  ·rename_i hf;subst hf;split at hS
   ·rename_i hi;subst hi;cases hS
    exact Un n0
   ·split at hS
    ·rename_i hi;subst hi;cases hS
     exact PM VX n0
    ·cases hS
  ·cases hS
 ·rintro l bs _ _ ⟨xs,rfl,rfl,h2,hl⟩;rw [v16]; delta Jaa Jab Jac Jad Jae Jaf Jah Jak Jal Jao Jaq Jar Jau Jaw JaC JaD JaG JaL JaU Jbb Jbg;refine ⟨by omega,⟨rfl,rfl,h2,hl⟩,?_⟩
  intro zs' hs;have:=(wc hs).eq;show (IV.sl 0,[aq.row 72 [.u64,.i64] (nU xs)])=_;rw [this]
theorem B7 {xs:L2} (h:aI [.u64,.i64] xs):tk xs:=by
 intro x hx;have:=h x hx 0 (by simp)
 simp [dt,IntKind.min,IntKind.max,IntKind.bits,IntKind.signed] at this;unfold key;simp [List.getD];omega
theorem c15:aa TP 144 DQ:=by
 refine ab 1 ⟨mixedOrders,fun g sp h=>?_,?_,fun g G h=>(by cases h),fun f h=>(by cases h)⟩ (N:=Rw) ?_
 ·simp only [Rw] at h;split at h
  ·rename_i hg;subst hg;cases h
   exact c28
  ·cases h
 ·intro d' hd f i S n0 hS;have:d' = 0:=by omega
  subst this;simp only [Rw] at hS;split at hS
  ·rename_i hf;subst hf;split at hS
   ·rename_i hi;subst hi;cases hS
    exact Uo n0
   ·split at hS
    ·rename_i hi;subst hi;cases hS
     exact PQ Rw n0
    ·split at hS
     ·rename_i hi;subst hi;cases hS
      exact PO Rw n0
     ·split at hS
      ·rename_i hi;subst hi;cases hS
       exact PN Rw n0
      ·cases hS
  ·cases hS
 ·rintro l bs _ hb ⟨xs,rfl,rfl,h2,hl⟩;have hb1:okB (.ro [.u64,.i64] xs):=hb _ (by simp)
  have hk:=B7 hb1.1;have e0:aA (List.map (fun x=>x.fst) ([]++[(aq.ro [IntKind.u64,IntKind.i64] xs,some (0:Nat))])) (0:Nat)=xs:=rfl
  rw [v15]; delta Jaa Jab Jac Jad Jae Jaf Jag Jah Jak Jal Jao Jaq Jar Jau Jav Jaw JaB JaC JaD JaG JaL JaM JaY Jba Jbb Jbs Jbu;have hl':xs.length<=1000000:=hl;have fin:∀ zs':L2,eZ xs zs'->DQ.F [.sl 0] [.ro [.u64,.i64] xs]=(IV.sl 0,[aq.row 72 [IntKind.u64,IntKind.i64] zs']):=by
   intro zs' hs;show (IV.sl 0,[aq.row 72 [.u64,.i64] (nU xs)])=_;rw [hs.eq]
  have hpc:rF [IV.sl 0] [aq.ro [IntKind.u64,IntKind.i64] xs]:=⟨xs,rfl,rfl,hl⟩;exact ⟨⟨hpc,⟨by omega,by omega⟩,⟨rfl,rfl,hl',by simp,h2,hk⟩,fin⟩,⟨by omega,by omega⟩,hpc,⟨rfl,rfl,hl',by simp,h2,hk⟩,fin⟩
def zU (l:List IV) (bs:List aq):Prop:=∃xs,l=[.sl 0]/\bs=[.ro [.u64,.i64] xs]/\xs.length<=1000000
def fE (xs:L2):Prop:=Jt xs.length xs
def sQ:Vs.Spec:=⟨zU,fun l bs=>(.bool (bp (fE (aA bs 0))),[])⟩
theorem Ye:aa TP 109 sQ:=by
 refine ab 1 ⟨mixedOrders,fun g sp h=>(by cases h),?_,fun g G h=>(by cases h),fun f h=>(by cases h)⟩ (N:=ZK) ?_
 ·intro d' hd f i S n0 hS;have:d' = 0:=by omega
  subst this;simp only [ZK] at hS;split at hS
  ·rename_i hf;subst hf;split at hS
   ·rename_i hi;subst hi;cases hS
    exact Ul ZK n0
   ·cases hS
  ·cases hS
 ·rintro l bs _ hb ⟨xs,rfl,rfl,hl⟩;rw [v18]; delta Jaa Jab Jac Jad Jae Jaf Jah Jao Jaq Jar Jau JaG JaL JaP Jbd Jbo;have key:∀ b:Bool,bp (fE xs)=b->sQ.F [.sl 0] [.ro [.u64,.i64] xs]=(IV.bool b,[]):=by
   rintro b rfl; rfl
  refine ⟨⟨rfl,rfl,hl⟩,?_⟩;rw [Hl];exact ⟨fun h=>key _ (pJ h),fun h=>key _ (oT h)⟩
def nk:List IntKind:=[.i64,.u64,.i64,.i64,.i64,.i64,.i64,.i64]
def yf (lev key fr to k0 k1 k2 k3:Int):List IV:=[.int .i64 lev,.int .u64 key,.int .i64 fr,.int .i64 to,.int .i64 k0,.int .i64 k1,.int .i64 k2,.int .i64 k3]
def shr (x:Int) (pl:Nat):Int:=x.fdiv (2 ^ pl)
def kG (xs:L2) (pl:Nat) (kf:Int) (to:Nat):Nat->Nat->Nat
 | 0,t=>t
 | m+1,t=>if t < to/\shr (rd xs t 0) pl=shr kf pl then kG xs pl kf to m (t+1) else t
def aR (xs:L2) (pl:Nat) (to f:Nat):Nat:=kG xs pl (rd xs f 0) to (to - (f+1)) (f+1)
def ic (xs:L2) (pl:Nat) (to:Nat):Nat->Nat->List (Nat × Nat)
 | 0,_=>[]
 | m+1,f=>if f < to then (f,aR xs pl to f) :: ic xs pl to m (aR xs pl to f) else []
def kq (xs:L2) (pl f:Nat):Nat:=(shr (rd xs f 0) pl % 4).toNat
def kp (xs:L2) (pl f:Nat):Int:=shr (rd xs f 0) pl*2 ^ pl
abbrev xS:=Nat->Int->Nat->Nat->Nat->L2
def gq (F:xS) (xs:L2) (lev pl:Nat):List (Nat × Nat)->Nat->L2
 | [],_=>[]
 | (f,t) :: ss,a=>F (lev+1) (kp xs pl f) f t a++gq F xs lev pl ss (a+(F (lev+1) (kp xs pl f) f t a).length)
def yt (F:xS) (xs:L2) (lev pl:Nat):List (Nat × Nat)->Nat->L1->L1
 | [],_,ks=>ks
 | (f,t) :: ss,a,ks=>yt F xs lev pl ss (a+(F (lev+1) (kp xs pl f) f t a).length) (ks.set (kq xs pl f) a)
def bD (xs:L2):Nat->xS
 | 0,_,_,_,_,_=>[]
 | n+1,lev,key,fr,to,a=>
  if to - fr<=4∨32<=lev then [[(lev:Int),key,fr,to,-1,-1,-1,-1]]
  else ([(lev:Int),key,fr,to]++yt (bD xs n) xs lev (62 - 2*lev) (ic xs (62 - 2*lev) to (to - fr) fr) (a+1) [-1,-1,-1,-1]) ::
   gq (bD xs n) xs lev (62 - 2*lev) (ic xs (62 - 2*lev) to (to - fr) fr) (a+1)
def agC (xs:L2):Prop:=∀ i,0<=rd xs i 0/\rd xs i 0 < 18446744073709551616
def x9 (n:Nat) (xs zs:L2) (lev fr to:Int):Prop:=0<=lev/\lev<=32/\33<=lev+n/\0<=fr/\fr < to/\to<=xs.length/\xs.length<=1000/\agC xs/\zs.length+n*(to - fr)<=1000000
def ou (lev key fr to:Int):L1:=[lev,key,fr,to,-1,-1,-1,-1]
section
open Go.IntWalk
theorem qi {x:Int} (h:0<=x) (pl:Nat):0<=shr x pl:=Int.fdiv_nonneg h (Int.le_of_lt (Int.pow_pos (by decide)))
theorem gH (x:Int) (pl:Nat):shr x pl=x / 2 ^ pl:=Int.fdiv_eq_ediv_of_nonneg _ (Int.le_of_lt (Int.pow_pos (by decide)))
theorem Ej (x:Int) (pl:Nat):shr x pl*2 ^ pl<=x:=by
 rw [gH]; exact Int.ediv_mul_le _ (Int.ne_of_gt (Int.pow_pos (by decide)))
theorem KG {x:Int} (h:0<=x) (pl:Nat):shr x pl<=x:=by
 rw [gH]; exact Int.ediv_le_self _ h
theorem FQ {x:Int} (h:0<=x) (h2:x < 18446744073709551616) (pl:Nat):IntKind.u64.wrap (shr x pl*2 ^ pl)=shr x pl*2 ^ pl:=by
 have h1:=Ej x pl;have h0:0<=shr x pl*2 ^ pl:=Int.mul_nonneg (qi h pl) (Int.le_of_lt (Int.pow_pos (by decide)))
 exact u64_in _ (by omega)
theorem Yk {a:Int} (h:0<=a) (h2:a < 18446744073709551616):IntKind.u64.wrap (((BitVec.ofInt 64 a &&& BitVec.ofInt 64 3).toNat:Nat):Int)=a % 4:=by
 have e1:(BitVec.ofInt 64 a &&& BitVec.ofInt 64 3).toNat=a.toNat % 4:=by
  rw [BitVec.toNat_and,BitVec.toNat_ofInt,BitVec.toNat_ofInt];have e2:(a % ((2 ^ 64:Nat):Int)).toNat=a.toNat:=by
   rw [Int.emod_eq_of_lt h (by simpa using h2)]
  have e3:((3:Int) % ((2 ^ 64:Nat):Int)).toNat=2 ^ 2 - 1:=by decide
  rw [e2,e3,Nat.and_two_pow_sub_one_eq_mod]
 rw [e1];have e4:((a.toNat % 4:Nat):Int)=a % 4:=by omega
 rw [e4];exact u64_in _ (by omega)
theorem wo (xs:L2) (pl:Nat) (kf:Int) (to:Nat):∀ (m t:Nat),to - t<=m->t<=to->
  t<=kG xs pl kf to m t/\kG xs pl kf to m t<=to/\(∀ j,t<=j->j < kG xs pl kf to m t->shr (rd xs j 0) pl=shr kf pl)/\
  (kG xs pl kf to m t=to∨shr (rd xs (kG xs pl kf to m t) 0) pl≠shr kf pl)
 | 0,t,hm,ht=>by
  have:t=to:=by omega
  subst this;exact ⟨Nat.le_refl _,Nat.le_refl _,fun j h1 h2=>by simp only [kG] at h2; omega,.inl rfl⟩
 | m+1,t,hm,ht=>by
  simp only [kG];split
  ·rename_i hc;obtain ⟨h1,h2,h3,h4⟩:=wo xs pl kf to m (t+1) (by omega) (by omega)
   refine ⟨by omega,h2,fun j hj1 hj2=>?_,h4⟩
   rcases Nat.eq_or_lt_of_le hj1 with rfl | hlt
   ·exact hc.2
   ·exact h3 j (by omega) hj2
  ·rename_i hc;refine ⟨Nat.le_refl _,ht,fun j h1 h2=>by omega,?_⟩
   rcases Nat.lt_or_ge t to with h | h
   ·exact .inr fun h5=>hc ⟨h,h5⟩
   ·exact .inl (by omega)
theorem Em {xs:L2} {pl:Nat} {kf:Int} {to t:Nat} (h:t < to) (hs:shr (rd xs t 0) pl=shr kf pl):kG xs pl kf to (to - t) t=kG xs pl kf to (to - (t+1)) (t+1):=by
 rw [show to - t=(to - (t+1))+1 by omega]
 simp only [kG];rw [if_pos ⟨h,hs⟩]
theorem El {xs:L2} {pl:Nat} {kf:Int} {to t m:Nat} (h:¬ (t < to/\shr (rd xs t 0) pl=shr kf pl)):kG xs pl kf to m t=t:=by
 cases m with
 | zero=>rfl
 | succ m=>simp only [kG]; rw [if_neg h]
theorem dM (xs:L2) (pl:Nat) {to f:Nat} (h:f < to):
  f < aR xs pl to f/\aR xs pl to f<=to/\(∀ j,f<=j->j < aR xs pl to f->shr (rd xs j 0) pl=shr (rd xs f 0) pl)/\
  (aR xs pl to f=to∨shr (rd xs (aR xs pl to f) 0) pl≠shr (rd xs f 0) pl):=by
 obtain ⟨h1,h2,h3,h4⟩:=wo xs pl (rd xs f 0) to (to - (f+1)) (f+1) (Nat.le_refl _) (by omega)
 refine ⟨h1,h2,fun j hj1 hj2=>?_,h4⟩
 rcases Nat.eq_or_lt_of_le hj1 with rfl | hlt
 ·rfl
 ·exact h3 j hlt hj2
theorem xY (xs:L2) (pl to:Nat):∀ (m m' f:Nat),to - f<=m->to - f<=m'->ic xs pl to m f=ic xs pl to m' f
 | 0,m',f,h,_=>by
  cases m' with
  | zero=>rfl
  | succ m'=>simp only [ic]; rw [if_neg (by omega)]
 | m+1,0,f,_,h=>by simp only [ic]; rw [if_neg (by omega)]
 | m+1,m' + 1,f,h,h'=>by
  simp only [ic];split
  ·rename_i hf;have:=(dM xs pl hf).1;rw [xY xs pl to m m' _ (by omega) (by omega)]
  ·rfl
theorem o9 {xs:L2} {pl to f:Nat} (h:f < to):ic xs pl to (to - f) f=(f,aR xs pl to f) :: ic xs pl to (to - aR xs pl to f) (aR xs pl to f):=by
 rw [show to - f=(to - f - 1)+1 by omega]
 simp only [ic];rw [if_pos h];have:=(dM xs pl h).1;rw [xY xs pl to (to - f - 1) (to - aR xs pl to f) _ (by omega) (by omega)]
theorem agx {xs:L2} {pl to f m:Nat} (h:to<=f):ic xs pl to m f=[]:=by
 cases m with
 | zero=>rfl
 | succ m=>simp only [ic]; rw [if_neg (by omega)]
theorem Cu {F:xS} {xs:L2} {lev pl n:Nat} (hF:∀ lev key f t a,f < t->(F lev key f t a).length<=n*(t - f)) (to:Nat):
  ∀ (m f a:Nat),to - f<=m->f<=to->(gq F xs lev pl (ic xs pl to (to - f) f) a).length<=n*(to - f)
 | 0,f,a,h,h'=>by rw [agx (by omega)]; simp [gq]
 | m+1,f,a,h,h'=>by
  rcases Nat.lt_or_ge f to with hf | hf
  ·rw [o9 hf];obtain ⟨h1,h2,_,_⟩:=dM xs pl hf;simp only [gq,List.length_append];have e1:=hF (lev+1) (kp xs pl f) f (aR xs pl to f) a h1;have e2:=Cu (xs:=xs) (lev:=lev) (pl:=pl) hF to m (aR xs pl to f) (a+(F (lev+1) (kp xs pl f) f (aR xs pl to f) a).length) (by omega) h2
   have e3:n*(to - f)=n*(aR xs pl to f - f)+n*(to - aR xs pl to f):=by rw [← Nat.mul_add]; congr 1; omega
   omega
  ·rw [agx hf]; simp [gq]
theorem nR (xs:L2):∀ (n lev:Nat) (key:Int) (f t a:Nat),f < t->(bD xs n lev key f t a).length<=n*(t - f)
 | 0,_,_,_,_,_,_=>by simp [bD]
 | n+1,lev,key,f,t,a,h=>by
  simp only [bD];split
  ·simp only [List.length_cons,List.length_nil];have:1*1<=(n+1)*(t - f):=Nat.mul_le_mul (by omega) (by omega)
   omega
  ·have:=Cu (lev:=lev) (pl:=62 - 2*lev) (xs:=xs) (fun lev key f t a h=>nR xs n lev key f t a h) t (t - f) f (a+1) (Nat.le_refl _) (by omega)
   simp only [List.length_cons];rw [Nat.add_mul];omega
theorem Bk (xs:L2) (n lev:Nat) (key:Int) (f t a:Nat):0 < (bD xs (n+1) lev key f t a).length:=by
 simp only [bD];split <;> simp
theorem TI {ks:L1} (hl:ks.length=4) {q:Nat} (hq:q < 4) (lev key fr to v:Int):
  ([if (((0:Nat):Int)=((4:Nat):Int)+(q:Int)) then v else ([lev,key,fr,to]++ks).getD 0 0,if (((1:Nat):Int)=((4:Nat):Int)+(q:Int)) then v else ([lev,key,fr,to]++ks).getD 1 0,if (((2:Nat):Int)=((4:Nat):Int)+(q:Int)) then v else ([lev,key,fr,to]++ks).getD 2 0,if (((3:Nat):Int)=((4:Nat):Int)+(q:Int)) then v else ([lev,key,fr,to]++ks).getD 3 0,if (((4:Nat):Int)=((4:Nat):Int)+(q:Int)) then v else ([lev,key,fr,to]++ks).getD 4 0,if (((5:Nat):Int)=((4:Nat):Int)+(q:Int)) then v else ([lev,key,fr,to]++ks).getD 5 0,if (((6:Nat):Int)=((4:Nat):Int)+(q:Int)) then v else ([lev,key,fr,to]++ks).getD 6 0,if (((7:Nat):Int)=((4:Nat):Int)+(q:Int)) then v else ([lev,key,fr,to]++ks).getD 7 0]:L1)=[lev,key,fr,to]++ks.set q v:=by
 match ks,hl with
 | [a,b,c,d],_=>
  have:q=0∨q=1∨q=2∨q=3:=by omega
  rcases this with rfl | rfl | rfl | rfl <;> simp [List.getD]
theorem ql {α:Type} (l:List α) (x:α) (r:List α) (f:α->α):(l++x :: r).modify l.length f=l++f x :: r:=by
 induction l with
 | nil=>simp
 | cons a l ih=>simp only [List.cons_append,List.length_cons,List.modify_succ_cons,ih]
structure Inv29 (n:Nat) (xs zs0:L2) (lev:Nat) (key:Int) (fr to:Nat) (p:Nat × L2):Prop where
 lo:fr<=p.1
 hi:p.1<=to
 form:∃ks D,ks.length=4/\p.2=zs0++([(lev:Int),key,fr,to]++ks) :: D/\
  bD xs (n+1) lev key fr to zs0.length=([(lev:Int),key,fr,to]++yt (bD xs n) xs lev (62 - 2*lev) (ic xs (62 - 2*lev) to (to - p.1) p.1) (zs0.length+1+D.length) ks) ::
   (D++gq (bD xs n) xs lev (62 - 2*lev) (ic xs (62 - 2*lev) to (to - p.1) p.1) (zs0.length+1+D.length))
 vC:p.2.length+n*(to - p.1)<=zs0.length+1+n*(to - fr)
end
def pV (key lev:Int):Int:=shr key (62 - 2*lev).toNat % 4
def Sb (l:List IV) (bs:List aq):Prop:=l=[.int .u64 (ae l 0 0),.int .i64 (ae l 1 0)]/\bs=[]/\0<=ae l 0 0/\ae l 0 0 < 18446744073709551616/\0<=ae l 1 0/\ae l 1 0<=31
def WH:Vs.Spec:=⟨Sb,fun l _=>(.int .i64 (pV (ae l 0 0) (ae l 1 0)),[])⟩
def NS:Know:={ Γ:=fun _=>none,Λ:=fun _ _=>none,Τ:=fun _=>none }
def V6:FuncId->Option Vs.Spec:=fun g=>if g=165 then some WH else none
def JaZ (a b:Int):Int:=Jai (62 - Jai (a*b))
theorem v37 (key lev:Int) (K:KP):(comes TP NS 1 165 [.int .u64 key,.int .i64 lev] [] K) =(0<=JaZ 2 lev/\K (Jad (Jai (Jaz (Jat key 2 (JaZ 2 lev) 64) 3))) []) :=by kernel_rfl
def ZP (xs zs:L2) (lev key fr to k0 k1 k2 k3:Int):OB:=[none,ro xs,some (.row 70 nk zs),some (.var 70 (yf lev key fr to k0 k1 k2 k3))]
def Ro (xs zs:L2) (lev key fr to k0 k1 k2 k3 at_ q:Int):St:=⟨T 101 [(0,.sl 2),(1,.sl 1),(5,.ptr 3 0),(7,i64 at_),(8,i64 q)],ZP xs zs lev key fr to k0 k1 k2 k3⟩
def Rn (xs zs:L2) (lev key fr to k0 k1 k2 k3 at_ f q:Int):St:=⟨T 101 [(0,.sl 2),(1,.sl 1),(5,.ptr 3 0),(7,i64 at_),(9,i64 f),(10,i64 q)],ZP xs zs lev key fr to k0 k1 k2 k3⟩
def Jm (xs zs:L2) (lev key fr to k0 k1 k2 k3 at_ f q t:Int):St:=⟨T 101 [(0,.sl 2),(1,.sl 1),(5,.ptr 3 0),(7,i64 at_),(9,i64 f),(10,i64 q),(11,i64 t)],ZP xs zs lev key fr to k0 k1 k2 k3⟩
def kH (xs:L2) (lev q:Int) (to:Nat):Nat->Nat->Nat
 | 0,t=>t
 | m+1,t=>if t < to/\pV (rd xs t 0) lev=q then kH xs lev q to m (t+1) else t
def jM (xs:L2) (lev q:Int) (to f:Nat):Nat:=kH xs lev q to (to - f) f
def KN (xs:L2) (lev to f q t:Int):Prop:=0<=lev/\lev<=31/\0<=f/\f<=to/\to<=xs.length/\xs.length<=1000/\t=f/\agC xs
def YB:aB:=fun n0 st K=>(n0=2/\st=Jm (st.x 1) (st.x 2) (st.c 3 0) (st.c 3 1) (st.c 3 2) (st.c 3 3) (st.c 3 4) (st.c 3 5) (st.c 3 6) (st.c 3 7) (st.i 7) (st.i 9) (st.i 10) (st.i 11)/\KN (st.x 1) (st.c 3 0) (st.c 3 3) (st.i 9) (st.i 10) (st.i 11))/\
 K (.exit 4) (Jm (st.x 1) (st.x 2) (st.c 3 0) (st.c 3 1) (st.c 3 2) (st.c 3 3) (st.c 3 4) (st.c 3 5) (st.c 3 6) (st.c 3 7) (st.i 7) (st.i 9) (st.i 10) (jM (st.x 1) (st.c 3 0) (st.i 10) (st.c 3 3).toNat (st.i 9).toNat))
def Jaj (a:List IntKind):List IntKind:=.i64::.i64::a
def Jap:Int:=(-1)
def Jas (a:Nat)(b:List IV)(c:OB):OB:=Option.some (.var a b)::c
def JaF (a:List IntKind)(b:L2)(c:OB):OB:=Option.some (.row 70 (.i64::.u64::Jaj (Jaj (Jaj a))) b)::c
def JaH (a:Nat)(b c d e f g h i:Int)(j:List IV)(k:OB):OB:=Jas a (Jad b::.int .u64 c::Jad d::Jad e::Jad f::Jad g::Jad h::Jad i::j) k
def JaV (a b:IV)(c:List (Option IV))(d:List IntKind)(e:L2)(f:List IntKind)(g:L2)(h i j k l m n o:Int)(p:List IV)(q:OB):St:=⟨Jaf a (Jaf b (Jaa (Jab c))),Option.none::Jaq d e (JaF f g (JaH 70 h i j k l m n o p q))⟩
def Jbv (a:List (Option IV)):List (Option IV):=Jaf (.ptr 3 0) a
def Jbf (a b c:Int)(d:L1)(e:Nat):Int:=if a=b+c then Jap else List.getD d e 0
theorem aah (N:Know) (xs zs:L2) (lev key fr to k0 k1 k2 k3 at_ q:Int) (k:Out->St->Prop):(round (ai TP N 0) 110 2 0 (lp TP 110 0) (Ro xs zs lev key fr to k0 k1 k2 k3 at_ q) k) =(JaQ q 4 (JaK at_ at_ zs/\Jar (Jax 0 q q 4) (0<=at_/\Jar (at_ < Jag zs) (0<=q) (4+Int.toNat q < 8)) (k .normal (JaV (.sl 2) (.sl 1) (Jbv (Jaa (Jaw (Jad at_) (JaJ q) (Jac (Jae (Jah JaM)))))) [] xs [] (Jay zs at_ (fun a=>Jan (Jbf 0 4 q a 0) (Jbf 1 4 q a 1) (Jbf 2 4 q a 2) (Jbf 3 4 q a 3) (Jbf 4 4 q a 4) (Jbf 5 4 q a 5) (Jbf 6 4 q a 6) (Jbf 7 4 q a 7) [])) lev key fr to k0 k1 k2 k3 [] []))) (k (.exit 0) (JaV (.sl 2) (.sl 1) (Jbv (Jaa (Jaf (Jad at_) (Jaa (Jac (Jae (Jah JaM))))))) [] xs [] zs lev key fr to k0 k1 k2 k3 [] []))) :=by kernel_rfl
def Lc (xs:L2) (lev fr to:Nat):Prop:=∀ i j:Nat,fr<=i->i < to->fr<=j->j < to->shr (rd xs i 0) (64 - 2*lev)=shr (rd xs j 0) (64 - 2*lev)
def BK (n:Nat) (xs zs:L2) (lev fr to:Int):Prop:=x9 n xs zs lev fr to/\fE xs/\Lc xs lev.toNat fr.toNat to.toNat
def ZN (n:Nat):eG:=fun args b K=>
 (args=[.sl 0,.sl 1,.agg (yf (ae args 2 0) (ae args 2 1) (ae args 2 2) (ae args 2 3) (ae args 2 4) (ae args 2 5) (ae args 2 6) (ae args 2 7))]/\b=[some (.row 70 nk (dh b 0)),ro (dh b 1)]/\
  BK n (dh b 1) (dh b 0) (ae args 2 0) (ae args 2 2) (ae args 2 3))/\
 K (.sl 2) [none,ro (dh b 1),some (.row 70 nk (dh b 0++bD (dh b 1) n (ae args 2 0).toNat (ae args 2 1) (ae args 2 2).toNat (ae args 2 3).toNat (dh b 0).length))]
def KQ (zs:L2) (lev key fr to k0 k1 k2 k3 at_ q:Int):Prop:=zs=zs.take at_.toNat++[[lev,key,fr,to,k0,k1,k2,k3]]/\0<=at_/\at_+1=zs.length/\q=0
def YD:aB:=fun n0 st K=>(n0=2/\st=Ro (st.x 1) (st.x 2) (st.c 3 0) (st.c 3 1) (st.c 3 2) (st.c 3 3) (st.c 3 4) (st.c 3 5) (st.c 3 6) (st.c 3 7) (st.i 7) (st.i 8)/\KQ (st.x 2) (st.c 3 0) (st.c 3 1) (st.c 3 2) (st.c 3 3) (st.c 3 4) (st.c 3 5) (st.c 3 6) (st.c 3 7) (st.i 7) (st.i 8))/\
 K (.exit 0) ⟨T 101 [(0,.sl 2),(1,.sl 1),(5,.ptr 3 0),(7,i64 (st.i 7))],ZP (st.x 1) ((st.x 2).take (st.i 7).toNat++[ou (st.c 3 0) (st.c 3 1) (st.c 3 2) (st.c 3 3)]) (st.c 3 0) (st.c 3 1) (st.c 3 2) (st.c 3 3) (st.c 3 4) (st.c 3 5) (st.c 3 6) (st.c 3 7)⟩
def KO (n:Nat) (xs zs:L2) (lev key fr to at_ f q:Int):Prop:=
 BK (n+1) xs (zs.take at_.toNat) lev fr to/\zs=zs.take at_.toNat++[ou lev key fr to]/\0<=at_/\at_+1=zs.length/\f=fr/\q=0/\4 < to - fr/\lev < 32
def YC (n:Nat):aB:=fun n0 st K=>(n0=2/\st=Rn (st.x 1) (st.x 2) (st.c 3 0) (st.c 3 1) (st.c 3 2) (st.c 3 3) (st.c 3 4) (st.c 3 5) (st.c 3 6) (st.c 3 7) (st.i 7) (st.i 9) (st.i 10)/\KO n (st.x 1) (st.x 2) (st.c 3 0) (st.c 3 1) (st.c 3 2) (st.c 3 3) (st.i 7) (st.i 9) (st.i 10))/\
 K (.exit 2) ⟨T 101 [(0,.sl 2)],[none,ro (st.x 1),some (.row 70 nk ((st.x 2).take (st.i 7).toNat++bD (st.x 1) (n+1) (st.c 3 0).toNat (st.c 3 1) (st.c 3 2).toNat (st.c 3 3).toNat (st.i 7).toNat))]⟩
def NU (n:Nat):Know:={ Γ:=V6,Λ:=fun f i=>if f=110 then (if i=0 then some YD else if i=1 then some (YC n) else if i=2 then some YB else none) else none,Τ:=fun g=>if g=110 then some (ZN n) else none }
def Jbi (a b c:Int):List (Option IV):=Jaa (Jaf (Jad a) (Jaw (Jad b) c (Jaa (Jae (Jah JaM)))))
def Jbz (a:Int)(b:List (Option IV))(c d:L2)(e f g h i j k l:Int):St:=JaV (.sl 2) (.sl 1) (Jbv (Jaa (Jaf (Jad a) b))) [] c [] d e f g h i j k l [] []
theorem aaf (n:Nat) (xs zs:L2) (lev key fr to k0 k1 k2 k3 at_ f q t:Int) (k:Out->St->Prop):(round (ai TP (NU n) 0) 110 2 2 (lp TP 110 2) (Jm xs zs lev key fr to k0 k1 k2 k3 at_ f q t) k) =(JaQ t to (JaK t t xs/\Jar (JaK t t xs) (Sb [.int .u64 (Jam xs t 0),Jad lev] []) (br (pV (Jam xs t 0) lev == q) (k .normal (Jbz at_ (Jbi f q (JaJ t)) xs zs lev key fr to k0 k1 k2 k3)) (k (.exit 4) (Jbz at_ (Jbi f q t) xs zs lev key fr to k0 k1 k2 k3)))) (k (.exit 4) (Jbz at_ (Jbi f q t) xs zs lev key fr to k0 k1 k2 k3))) :=by kernel_rfl
def JaI (a b:Int)(c:L2)(d:L1)(e:Nat):Int:=if a=4+b then Jag c else List.getD d e 0
def JaT (a:L2)(b c d e:Int):Int:=(↑(jM a b c (Int.toNat d) (Int.toNat e)):Int)
def JaW (a:L2)(b:Nat)(c d e f:Int)(g:L2):L2:=bD a b (Int.toNat c) d (Int.toNat e) (Int.toNat f) (List.length g)
def Ja0:List (Option IV):=Jac (Jak JaM)
def Ja4 (a b c d e f g h:Int)(i:List IV):IV:=.agg (Jad a::.int .u64 b::Jad c::Jad d::Jad e::Jad f::Jad g::Jad h::i)
def Jbj (a:IV)(b:List IV):List IV:=JaG::.sl 1::a::b
def Jbm (a b:Int):List (Option IV):=Jaa (Jaw (Jad a) b (Jab (Jae (Jah JaM))))
def JbB (a:L2)(b c:Int):Int:=IntKind.wrap .u64 (Jat (Jam a b 0) 2 c 64*2 ^ Min.min (Int.toNat c) 64)
theorem aag (n:Nat) (xs zs:L2) (lev key fr to k0 k1 k2 k3 at_ f q:Int) (k:Out->St->Prop):(round (ai TP (NU n) 0) 110 2 1 (lp TP 110 1) (Rn xs zs lev key fr to k0 k1 k2 k3 at_ f q) k) =(JaQ q 4 (Jbo 2 2 (Jbz at_ (Jbi f q f) xs zs lev key fr to k0 k1 k2 k3=Jbz at_ (Jbi f q f) xs zs lev key fr to k0 k1 k2 k3) (KN xs lev to f q f) (br (Decidable.decide (JaT xs lev q to f > f)) (JaB (JaK at_ at_ zs) (Jax 0 q q 4) (0<=at_/\Jar (at_ < Jag zs) (0<=q) (4+Int.toNat q < 8)) (JaK f f xs) (JaB (JaK f f xs) (0<=JaZ 2 lev) (0<=JaZ 2 lev) (Jar (Jbj (Ja4 (JaJ lev) (JbB xs f (JaZ 2 lev)) f (JaT xs lev q to f) 0 0 0 0 []) []=Jbj (Ja4 (JaJ lev) (JbB xs f (JaZ 2 lev)) f (JaT xs lev q to f) 0 0 0 0 []) []) (JaF [] (Jay zs at_ (fun a=>Jan (JaI 0 q zs a 0) (JaI 1 q zs a 1) (JaI 2 q zs a 2) (JaI 3 q zs a 3) (JaI 4 q zs a 4) (JaI 5 q zs a 5) (JaI 6 q zs a 6) (JaI 7 q zs a 7) [])) (Jaq [] xs [])=JaF [] (Jay zs at_ (fun a=>Jan (JaI 0 q zs a 0) (JaI 1 q zs a 1) (JaI 2 q zs a 2) (JaI 3 q zs a 3) (JaI 4 q zs a 4) (JaI 5 q zs a 5) (JaI 6 q zs a 6) (JaI 7 q zs a 7) [])) (Jaq [] xs [])) (BK n xs (Jay zs at_ (fun a=>Jan (JaI 0 q zs a 0) (JaI 1 q zs a 1) (JaI 2 q zs a 2) (JaI 3 q zs a 3) (JaI 4 q zs a 4) (JaI 5 q zs a 5) (JaI 6 q zs a 6) (JaI 7 q zs a 7) [])) (JaJ lev) f (JaT xs lev q to f))) (k .normal (Jbz at_ (Jbm (JaT xs lev q to f) (JaJ q)) xs (Jay zs at_ (fun a=>Jan (JaI 0 q zs a 0) (JaI 1 q zs a 1) (JaI 2 q zs a 2) (JaI 3 q zs a 3) (JaI 4 q zs a 4) (JaI 5 q zs a 5) (JaI 6 q zs a 6) (JaI 7 q zs a 7) [])++JaW xs n (JaJ lev) (JbB xs f (JaZ 2 lev)) f (JaT xs lev q to f) (Jay zs at_ (fun a=>Jan (JaI 0 q zs a 0) (JaI 1 q zs a 1) (JaI 2 q zs a 2) (JaI 3 q zs a 3) (JaI 4 q zs a 4) (JaI 5 q zs a 5) (JaI 6 q zs a 6) (JaI 7 q zs a 7) []))) lev key fr to k0 k1 k2 k3)))) (k .normal (Jbz at_ (Jbm (JaT xs lev q to f) (JaJ q)) xs zs lev key fr to k0 k1 k2 k3)))) (k (.exit 2) ⟨Jaf (.sl 2) Ja0,Option.none::Jaq [] xs (JaF [] zs [])⟩)) :=by kernel_rfl
def Ja8 (a b:L2)(c d e f:Int)(g:L2):L2:=List.take (Jav a) b++ou c d e f::g
def Jbk (a:L2)(b c d e f g h i:Int):L2:=a++List.set (Jal 1 8 0) 0 (Jan b c d e f g h i [])
theorem v30 (n:Nat) (xs zs:L2) (lev key fr to k0 k1 k2 k3:Int) (K:IV->OB->Prop):(bQ TP (NU n) 1 110 [.sl 0,.sl 1,.agg (yf lev key fr to k0 k1 k2 k3)] [some (.row 70 nk zs),ro xs] fun v b1=>ld 2 v b1 K) =(Jar (JaU ((List.length zs+1)*64)) (Jar (2=2) (JaV (.sl 2) (.sl 1) (Jbv (Jaa (Jaw (Jad (Jag zs)) 0 (Jac (Jae (Jah JaM)))))) [] xs [] (Jbk zs lev key fr to k0 k1 k2 k3) lev key fr to k0 k1 k2 k3 [] []=JaV (.sl 2) (.sl 1) (Jbv (Jaa (Jaw (Jad (Jag zs)) 0 (Jac (Jae (Jah JaM)))))) [] xs [] (Jbk zs lev key fr to k0 k1 k2 k3) lev key fr to k0 k1 k2 k3 [] []) (KQ (Jbk zs lev key fr to k0 k1 k2 k3) lev key fr to k0 k1 k2 k3 (Jag zs) 0)) (br (Decidable.decide (Jai (to - fr)<=4)) (K (.sl 2) (Option.none::Jaq [] xs (JaF [] (Ja8 zs (Jbk zs lev key fr to k0 k1 k2 k3) lev key fr to []) []))) (br (Decidable.decide (lev ≥ 32)) (K (.sl 2) (Option.none::Jaq [] xs (JaF [] (Ja8 zs (Jbk zs lev key fr to k0 k1 k2 k3) lev key fr to []) []))) (Jbo 2 2 (Jbz (Jag zs) (Jbm fr 0) xs (Ja8 zs (Jbk zs lev key fr to k0 k1 k2 k3) lev key fr to []) lev key fr to k0 k1 k2 k3=Jbz (Jag zs) (Jbm fr 0) xs (Ja8 zs (Jbk zs lev key fr to k0 k1 k2 k3) lev key fr to []) lev key fr to k0 k1 k2 k3) (KO n xs (Ja8 zs (Jbk zs lev key fr to k0 k1 k2 k3) lev key fr to []) lev key fr to (Jag zs) fr 0) (K (.sl 2) (Option.none::Jaq [] xs (JaF [] (List.take (Jav zs) (Ja8 zs (Jbk zs lev key fr to k0 k1 k2 k3) lev key fr to [])++bD xs (n+1) (Int.toNat lev) key (Int.toNat fr) (Int.toNat to) (Jav zs)) []))))))) :=by kernel_rfl
def YA:Know:={ Γ:=fun g=>if g=109 then some sQ else none,Λ:=fun _ _=>none,Τ:=fun g=>if g=110 then some (ZN 33) else none }
def Ja7 (a:Nat)(b:List IntKind)(c:L2)(d:List aq):List aq:=.row a (.i64::.u64::Jaj (Jaj (Jaj b))) c::d
theorem v22 (xs:L2) (K:KP):(comes TP YA 1 58 [.sl 0] [.ro [.u64,.i64] xs] K) =(br (Jag xs == 0) (K JaG (Ja7 70 [] [] [])) (zU [JaG] (Jbs [] xs [])/\br (Bool.not (bp (fE xs))) (K JaG (Ja7 70 [] [] [])) (Jar (Jbj (Ja4 0 0 0 (Jag xs) 0 0 0 0 []) []=Jbj (Ja4 0 0 0 (Jag xs) 0 0 0 0 []) []) (JaF [] [] (Jaq [] xs [])=JaF [] [] (Jaq [] xs [])) (BK 33 xs [] 0 0 (Jag xs))/\K JaG (Ja7 70 [] ([]++bD xs 33 0 0 0 (Jav xs) 0) [])))) :=by kernel_rfl
section
open Go.IntWalk
def bL (xs:L2):L2:=if bp (xs=[]∨¬ fE xs) then [] else bD xs 33 0 0 0 xs.length 0
theorem g9:bL []=[]:=by unfold bL; rw [pJ (.inl rfl)]; rfl
theorem kY {xs:L2} (h:¬ fE xs):bL xs=[]:=by unfold bL; rw [pJ (.inr h)]; rfl
theorem fZ {xs:L2} (h:xs≠[]) (h2:fE xs):bL xs=bD xs 33 0 0 0 xs.length 0:=by
 unfold bL;rw [oT (by rintro (h3 | h3); exact h h3; exact h3 h2)]
 rfl
def mj (l:List IV) (bs:List aq):Prop:=∃xs,l=[.sl 0]/\bs=[.ro [.u64,.i64] xs]/\xs.length<=1000/\agC xs
def Pa:Vs.Spec:=⟨mj,fun _ bs=>(.sl 0,[.row 70 nk (bL (aA bs 0))])⟩
theorem c37:aa TP 165 WH:=by
 refine ab 1 ⟨mixedOrders,fun g sp h=>(by cases h),cO (N:=NS) (fun _ _=>rfl) 1,fun g G h=>(by cases h),fun f h=>(by cases h)⟩ (N:=NS) ?_
 rintro l bs _ _ ⟨hl,hb,h1,h2,h3,h4⟩;subst hb;obtain ⟨key,lev,rfl⟩:∃key lev,l=[.int .u64 key,.int .i64 lev]:=⟨_,_,hl⟩;clear hl;change 0<=key at h1;change key < 18446744073709551616 at h2;change 0<=lev at h3;change lev<=31 at h4;rw [v37]; delta Jad Jai Jat Jaz JaZ;have e1:IntKind.i64.wrap (2*lev)=2*lev:=i64_in _ (by omega)
 have e2:IntKind.i64.wrap (62 - 2*lev)=62 - 2*lev:=i64_in _ (by omega)
 rw [e1,e2];have e3:min (62 - 2*lev).toNat 64=(62 - 2*lev).toNat:=by omega
 rw [e3];have e4:key.fdiv (2 ^ (62 - 2*lev).toNat)=shr key (62 - 2*lev).toNat:=rfl;rw [e4,Yk (qi h1 _) (by have:=KG h1 (62 - 2*lev).toNat; omega),i64_in (_ % 4) (by omega)]
 exact ⟨by omega,rfl⟩
theorem Gc (x:Int) (pl:Nat):shr x (pl+2)=shr x pl / 4:=by
 rw [gH,gH,Int.pow_add,Int.ediv_ediv_of_nonneg (Int.le_of_lt (Int.pow_pos (by decide)))]
 rfl
theorem KF {x y:Int} (h:x<=y) (pl:Nat):shr x pl<=shr y pl:=by
 rw [gH,gH]; exact Int.ediv_le_ediv (Int.pow_pos (by decide)) h
theorem sZ {x:Int} {lev:Nat} (h:lev<=31):pV x lev=shr x (62 - 2*lev) % 4:=by
 unfold pV;rw [show ((62:Int) - 2*(lev:Int)).toNat=62 - 2*lev by omega]
theorem Pd {xs:L2} (h:fE xs) {i j:Nat} (hij:i<=j) (hj:j < xs.length):rd xs i 0<=rd xs j 0:=by
 rcases Nat.eq_or_lt_of_le hij with rfl | hlt
 ·exact Int.le_refl _
 ·exact h i j hlt hj
structure Part (xs:L2) (lev fr to:Nat):Prop where
 lv:lev<=31
 rise:fE xs
 one:Lc xs lev fr to
 len:to<=xs.length
theorem Part.split {xs:L2} {lev fr to:Nat} (h:Part xs lev fr to) {i:Nat} (h1:fr<=i) (h2:i < to) {j:Nat} (h3:fr<=j) (h4:j < to):
  shr (rd xs i 0) (62 - 2*lev) / 4=shr (rd xs j 0) (62 - 2*lev) / 4:=by
 have:=h.one i j h1 h2 h3 h4;rw [show 64 - 2*lev=(62 - 2*lev)+2 by have:=h.lv; omega,Gc,Gc] at this
 exact this
theorem Part.same {xs:L2} {lev fr to:Nat} (h:Part xs lev fr to) {i j:Nat} (h1:fr<=i) (h2:i < to) (h3:fr<=j) (h4:j < to):
  shr (rd xs i 0) (62 - 2*lev)=shr (rd xs j 0) (62 - 2*lev)↔pV (rd xs i 0) lev=pV (rd xs j 0) lev:=by
 rw [sZ h.lv,sZ h.lv];have:=h.split h1 h2 h3 h4;omega
theorem Part.up {xs:L2} {lev fr to:Nat} (h:Part xs lev fr to) {i j:Nat} (h1:fr<=i) (h3:i<=j) (h4:j < to):
  pV (rd xs i 0) lev<=pV (rd xs j 0) lev:=by
 rw [sZ h.lv,sZ h.lv];have:=h.split h1 (by omega) (show fr<=j by omega) h4
 have h5:=KF (Pd h.rise h3 (by have:=h.len; omega)) (62 - 2*lev)
 omega
theorem zM (x lev:Int):0<=pV x lev/\pV x lev < 4:=by unfold pV; omega
theorem wv (xs:L2) (lev q:Int) (to:Nat):∀ (m t:Nat),to - t<=m->t<=to->
  t<=kH xs lev q to m t/\kH xs lev q to m t<=to/\(∀ j,t<=j->j < kH xs lev q to m t->pV (rd xs j 0) lev=q)/\
  (kH xs lev q to m t=to∨pV (rd xs (kH xs lev q to m t) 0) lev≠q)
 | 0,t,hm,ht=>by
  have:t=to:=by omega
  subst this;exact ⟨Nat.le_refl _,Nat.le_refl _,fun j h1 h2=>by simp only [kH] at h2; omega,.inl rfl⟩
 | m+1,t,hm,ht=>by
  simp only [kH];split
  ·rename_i hc;obtain ⟨h1,h2,h3,h4⟩:=wv xs lev q to m (t+1) (by omega) (by omega)
   refine ⟨by omega,h2,fun j hj1 hj2=>?_,h4⟩
   rcases Nat.eq_or_lt_of_le hj1 with rfl | hlt
   ·exact hc.2
   ·exact h3 j (by omega) hj2
  ·rename_i hc;refine ⟨Nat.le_refl _,ht,fun j h1 h2=>by omega,?_⟩
   rcases Nat.lt_or_ge t to with h | h
   ·exact .inr fun h5=>hc ⟨h,h5⟩
   ·exact .inl (by omega)
theorem Ep {xs:L2} {lev q:Int} {to t:Nat} (h:t < to) (hs:pV (rd xs t 0) lev=q):kH xs lev q to (to - t) t=kH xs lev q to (to - (t+1)) (t+1):=by
 rw [show to - t=(to - (t+1))+1 by omega]
 simp only [kH];rw [if_pos ⟨h,hs⟩]
theorem wq {xs:L2} {lev q:Int} {to t m:Nat} (h:¬ (t < to/\pV (rd xs t 0) lev=q)):kH xs lev q to m t=t:=by
 cases m with
 | zero=>rfl
 | succ m=>simp only [kH]; rw [if_neg h]
theorem Bz {xs:L2} {lev q:Int} {to f:Nat} (h:¬ (f < to/\pV (rd xs f 0) lev=q)):jM xs lev q to f=f:=wq h
theorem Er {xs:L2} {lev fr to f:Nat} {q:Int} (h:Part xs lev fr to) (hf:fr<=f) (hft:f < to) (hq:pV (rd xs f 0) lev=q):jM xs lev q to f=aR xs (62 - 2*lev) to f:=by
 obtain ⟨s1,s2,s3,s4⟩:=dM xs (62 - 2*lev) hft;obtain ⟨r1,r2,r3,r4⟩:=wv xs lev q to (to - f) f (Nat.le_refl _) (by omega)
 change f<=jM xs lev q to f at r1;change jM xs lev q to f<=to at r2;change ∀ j,f<=j->j < jM xs lev q to f->_ at r3;change jM xs lev q to f=to∨pV (rd xs (jM xs lev q to f) 0) lev≠q at r4;rcases Nat.lt_trichotomy (jM xs lev q to f) (aR xs (62 - 2*lev) to f) with hlt | he | hgt
 ·exfalso
  rcases r4 with r4 | r4
  ·omega
  ·have:=s3 (jM xs lev q to f) r1 hlt;rw [h.same (by omega) (by omega) hf hft,hq] at this
   exact r4 this
 ·exact he
 ·exfalso
  rcases s4 with s4 | s4
  ·omega
  ·have:=r3 (aR xs (62 - 2*lev) to f) (by omega) hgt
   apply s4;rw [h.same (by omega) (by omega) hf hft,hq]
   exact this
theorem PJ (N:Know) (n0:Nat):aG (ai TP N 0) 110 n0 0 (lp TP 110 0) YD:=by
 rintro st K ⟨⟨rfl,hst,hp⟩,hK⟩;generalize st.x 1=xs at *;generalize st.x 2=zs at *;generalize st.c 3 0=lev at *;generalize st.c 3 1=key at *;generalize st.c 3 2=fr at *;generalize st.c 3 3=to at *;generalize st.c 3 4=k0 at *;generalize st.c 3 5=k1 at *;generalize st.c 3 6=k2 at *;generalize st.c 3 7=k3 at *;generalize st.i 7=at0 at *;generalize st.i 8=q0 at *;subst hst;obtain ⟨e1,p1,p2,rfl⟩:=hp;obtain ⟨at_,rfl⟩:∃m:Nat,at0=m:=⟨at0.toNat,by omega⟩
 simp only [Int.toNat_natCast] at *;generalize hz0:zs.take at_=zs0 at *;have hl0:zs0.length=at_:=by rw [← hz0,List.length_take]; omega
 subst hl0;subst e1;refine aC (fun p:Int × L1=>Ro xs (zs0++[[lev,key,fr,to]++p.2]) lev key fr to k0 k1 k2 k3 zs0.length p.1) (fun p=>0<=p.1/\p.1<=4/\p.2.length=4/\∀ j:Nat,(j:Int) < p.1->p.2.getD j 0 = -1) (fun p=>(4 - p.1).toNat) ?_ (a:=(0,[k0,k1,k2,k3])) ⟨by simp,by simp,rfl,fun j hj=>by simp only at hj; omega⟩
 rintro ⟨q,ks⟩ ⟨a1,a2,hkl,hks⟩ k hn hk;simp only at a1 a2 hks;show round _ _ _ _ _ (Ro xs (zs0++[[lev,key,fr,to]++ks]) lev key fr to k0 k1 k2 k3 zs0.length q) k;rw [aah]; delta Jaa Jab Jac Jad Jae Jaf Jag Jah Jai Jaj Jak Jan Jao Jap Jaq Jar Jas Jaw Jax Jay JaF JaH JaJ JaK JaM JaQ JaV Jbv Jbf; rw [al];constructor
 ·intro hi;obtain ⟨qn,rfl⟩:∃m:Nat,q=m:=⟨q.toNat,by omega⟩
  have hq4:qn < 4:=by omega
  have hw:(0:Int)<=(zs0.length:Int)/\(zs0.length:Int) < (zs0++[[lev,key,fr,to]++ks]).length:=by simp; omega
  refine ⟨hw,by omega,⟨hw.1,hw.2,by omega,by omega⟩,?_⟩
  simp only [Int.toNat_natCast];rw [ql];rw [i64_in ((qn:Int)+1) (by omega)]
  have:=hn ((qn:Int)+1,ks.set qn (-1)) ⟨by simp only; omega,by simp only; omega,by simpa using hkl,?_⟩ (by simp only; omega)
  ·simp only at this;rw [← TI hkl hq4] at this;exact this
  ·intro j hj;simp only at hj;by_cases e:qn=j
   ·subst e; simp [List.getD,hkl,hq4]
   ·have:=hks j (by omega)
    simp only [List.getD,List.getElem?_set_ne e] at this ⊢;exact this
 ·intro hi;have e:q=4:=by omega
  subst e;have hks':ks=[-1,-1,-1,-1]:=by
   match ks,hkl with
   | [a,b,c,d],_=>
    have h0:=hks 0 (by decide)
    have h1:=hks 1 (by decide)
    have h2:=hks 2 (by decide)
    have h3:=hks 3 (by decide)
    simp [List.getD] at h0 h1 h2 h3;rw [h0,h1,h2,h3]
  subst hks';exact hk _ _ (by simp) hK
theorem PH (n:Nat) (n0:Nat):aG (ai TP (NU n) 0) 110 n0 2 (lp TP 110 2) YB:=by
 rintro st K ⟨⟨rfl,hst,hp⟩,hK⟩;generalize st.x 1=xs at *;generalize st.x 2=zs at *;generalize st.c 3 0=lev at *;generalize st.c 3 1=key at *;generalize st.c 3 2=fr at *;generalize st.c 3 3=to at *;generalize st.c 3 4=k0 at *;generalize st.c 3 5=k1 at *;generalize st.c 3 6=k2 at *;generalize st.c 3 7=k3 at *;generalize st.i 7=at_ at *;generalize st.i 9=f0 at *;generalize st.i 10=q at *;generalize st.i 11=f at *;subst hst;obtain ⟨p1,p2,p3,p4,p5,p6,ht0,p7⟩:=hp;subst ht0;refine aC (fun a:Int=>Jm xs zs lev key fr to k0 k1 k2 k3 at_ f q a) (fun a=>f<=a/\a<=to/\kH xs lev q to.toNat (to.toNat - a.toNat) a.toNat=jM xs lev q to.toNat f.toNat) (fun a=>(to - a).toNat) ?_ (a:=f) ⟨by omega,by omega,rfl⟩
 rintro t ⟨a1,a2,a3⟩ k hn hk;show round _ _ _ _ _ (Jm _ _ _ _ _ _ _ _ _ _ _ _ _ t) k;rw [aaf]; delta Jaa Jab Jac Jad Jae Jaf Jag Jah Jai Jaj Jak Jam Jao Jaq Jar Jas Jaw Jax JaF JaH JaJ JaK JaM JaQ JaV Jbv Jbi Jbz; rw [al];have fin:¬ (t.toNat < to.toNat/\pV (rd xs t.toNat 0) lev=q)->k (Out.exit 4) (Jm xs zs lev key fr to k0 k1 k2 k3 at_ f q t):=by
  intro h;rw [wq h] at a3;refine hk _ _ (by simp) ?_
  rw [← a3] at hK;rw [show ((t.toNat:Nat):Int)=t by omega] at hK
  exact hK
 constructor
 ·intro hi;have hw:(0:Int)<=t/\t < xs.length:=by omega
  have hk0:=p7 t.toNat;refine ⟨hw,hw,⟨rfl,rfl,hk0.1,hk0.2,p1,p2⟩,?_⟩;rw [aL];constructor
  ·intro he;have he':pV (rd xs t.toNat 0) lev=q:=by simpa using he
   rw [i64_in (t+1) (by omega)]
   refine hn (t+1) ⟨by omega,by omega,?_⟩ (by omega)
   rw [show (t+1).toNat=t.toNat+1 by omega,← Ep (by omega) he']
   exact a3
  ·intro he;refine fin fun h=>?_
   rw [h.2] at he;simp at he
 ·intro hi;exact fin (by omega)
structure Inv30 (n:Nat) (xs zs0:L2) (lev:Nat) (key:Int) (fr to:Nat) (p:Nat × Nat × L2):Prop where
 inv:Inv29 n xs zs0 lev key fr to (p.1,p.2.2)
 q:p.2.1<=4
 rest:∀ j,p.1<=j->j < to->(p.2.1:Int)<=pV (rd xs j 0) lev
theorem PI (n:Nat) (n0:Nat):aG (ai TP (NU n) 0) 110 n0 1 (lp TP 110 1) (YC n):=by
 rintro st K ⟨⟨rfl,hst,hp⟩,hK⟩;generalize st.x 1=xs at *;generalize st.x 2=zs at *;generalize st.c 3 0=lev0 at *;generalize st.c 3 1=key at *;generalize st.c 3 2=fr0 at *;generalize st.c 3 3=to0 at *;generalize st.c 3 4=k0 at *;generalize st.c 3 5=k1 at *;generalize st.c 3 6=k2 at *;generalize st.c 3 7=k3 at *;generalize st.i 7=at0 at *;generalize st.i 9=f0 at *;generalize st.i 10=q0 at *;subst hst;obtain ⟨⟨⟨q1,q1',q2,q3,q4,q5,q6,q7,q8⟩,hR,hone⟩,e1,q9,q10,rfl,rfl,q11,q12⟩:=hp;obtain ⟨lev,rfl⟩:∃m:Nat,lev0=m:=⟨lev0.toNat,by omega⟩
 obtain ⟨fr,rfl⟩:∃m:Nat,f0=m:=⟨f0.toNat,by omega⟩
 obtain ⟨to,rfl⟩:∃m:Nat,to0=m:=⟨to0.toNat,by omega⟩
 obtain ⟨at_,rfl⟩:∃m:Nat,at0=m:=⟨at0.toNat,by omega⟩
 simp only [Int.toNat_natCast] at *;generalize hz0:zs.take at_=zs0 at *;have hl0:zs0.length=at_:=by rw [← hz0,List.length_take]; omega
 have hpl:((62:Int) - 2*(lev:Int)).toNat=62 - 2*lev:=by omega
 have hpart:Part xs lev fr to:=⟨by omega,hR,hone,by omega⟩
 have hstart:Inv30 n xs zs0 lev key fr to (fr,0,zs):=by
  refine ⟨⟨Nat.le_refl _,by simp only; omega,⟨[-1,-1,-1,-1],[],rfl,?_,?_⟩,?_⟩,by simp,fun j _ _=>(zM _ _).1⟩
  ·rw [e1]; rfl
  ·simp only [bD];rw [if_neg (by omega)]
   simp
  ·simp only;have:=congrArg List.length e1;simp at this;omega
 refine aC (fun p:Nat × Nat × L2=>Rn xs p.2.2 lev key fr to k0 k1 k2 k3 at_ p.1 p.2.1) (Inv30 n xs zs0 lev key fr to) (fun p=>4 - p.2.1) ?_ (a:=(fr,0,zs)) hstart
 rintro ⟨f,q,zs1⟩ ⟨⟨a1,a2,⟨ks,D,hkl,hz,htree⟩,hcnt⟩,hq4,hrest⟩ k hn hk;simp only at a1 a2 hz htree hcnt hq4 hrest;show round _ _ _ _ _ (Rn xs zs1 lev key fr to k0 k1 k2 k3 at_ f q) k;rw [aag]; delta Jaa Jab Jac Jad Jae Jaf Jag Jah Jai Jaj Jak Jam Jan Jao Jaq Jar Jas Jat Jaw Jax Jay JaB JaF JaG JaH JaI JaJ JaK JaM JaQ JaT JaV JaW JaZ Ja0 Ja4 Jbv Jbi Jbj Jbm Jbo Jbz JbB; rw [al];constructor
 ·intro hi;have hi':q < 4:=by omega
  have hmin:min (62 - 2*lev) 64=62 - 2*lev:=by omega
  have hk0:=q7 f;have hsh:(rd xs f 0).fdiv (2 ^ (62 - 2*lev))=shr (rd xs f 0) (62 - 2*lev):=rfl;have hw1:IntKind.i64.wrap (62 - IntKind.i64.wrap (2*(lev:Int)))=62 - 2*(lev:Int):=by rw [i64_in (2*(lev:Int)) (by omega),i64_in _ (by omega)]
  rw [hw1];simp only [Int.toNat_natCast,hpl,hmin,hsh];rw [FQ hk0.1 hk0.2,i64_in ((lev:Int)+1) (by omega),i64_in ((q:Int)+1) (by omega)]
  refine ⟨⟨by first | rfl | trivial,by first | rfl | trivial,by omega,by omega,by omega,by omega,by omega,by omega,by first | rfl | trivial,q7⟩,?_⟩
  rw [al];by_cases hc:f < to/\pV (rd xs f 0) lev=q
  ·
   rw [Er hpart a1 hc.1 hc.2];obtain ⟨s1,s2,s3,s4⟩:=dM xs (62 - 2*lev) hc.1;have hkp:shr (rd xs f 0) (62 - 2*lev)*2 ^ (62 - 2*lev)=kp xs (62 - 2*lev) f:=rfl;rw [hkp];have hqq:kq xs (62 - 2*lev) f=q:=by
    have:=hc.2;rw [sZ hpart.lv] at this;unfold kq;omega
   have hle:((lev:Int)+1).toNat=lev+1:=by omega
   rw [hle];refine ⟨fun _=>?_,fun h=>absurd h (by omega)⟩
   have hsplit:n*(to - f)=n*(aR xs (62 - 2*lev) to f - f)+n*(to - aR xs (62 - 2*lev) to f):=by rw [← Nat.mul_add]; congr 1; omega
   have hz1:zs1.length=at_+1+D.length:=by rw [hz]; simp [hl0]; omega
   have hmul:((n:Int)+1)*((to:Int) - fr)=(n*(to - fr)+(to - fr):Nat):=by
    have:((to - fr:Nat):Int)=(to:Int) - fr:=by omega
    rw [← this]; push_cast; rw [Int.add_mul]; omega
   have hmul2:(n:Int)*(((aR xs (62 - 2*lev) to f:Nat):Int) - f)=(n*(aR xs (62 - 2*lev) to f - f):Nat):=by
    have:((aR xs (62 - 2*lev) to f - f:Nat):Int)=((aR xs (62 - 2*lev) to f:Nat):Int) - f:=by omega
    rw [← this]; push_cast; rfl
   have q8':zs0.length+((n:Int)+1)*((to:Int) - fr)<=1000000:=by push_cast at q8; exact q8
   rw [hmul] at q8';refine ⟨by omega,by omega,by omega,by omega,by omega,by omega,by omega,⟨by first | rfl | trivial,by first | rfl | trivial,⟨by omega,by omega,by omega,by omega,by omega,by omega,by omega,q7,?_⟩,hR,?_⟩,?_⟩
   ·rw [hmul2,List.length_modify]; omega
   ·intro i j h1 h2 h3 h4;rw [show 64 - 2*((lev:Int)+1).toNat=62 - 2*lev by omega]
    simp only [Int.toNat_natCast] at h1 h2 h3 h4;rw [s3 i h1 h2,s3 j h3 h4]
   ·rw [List.length_modify,hz,show at_=zs0.length from hl0.symm,ql,List.append_assoc,List.cons_append]
    have hlen2:(zs0++([(lev:Int),key,(fr:Int),(to:Int)]++ks) :: D).length=zs0.length+1+D.length:=by simp; omega
    rw [hlen2];have:=hn (aR xs (62 - 2*lev) to f,q+1,zs0++([(lev:Int),key,(fr:Int),(to:Int)]++ks.set q ((zs0.length+1+D.length:Nat):Int)) :: (D++bD xs n (lev+1) (kp xs (62 - 2*lev) f) f (aR xs (62 - 2*lev) to f) (zs0.length+1+D.length))) ⟨⟨by simp only; omega,s2,⟨_,_,by simpa using hkl,rfl,?_⟩,?_⟩,by simp only; omega,?_⟩ (by simp only; omega)
    ·rw [← TI hkl hi'] at this;rw [hl0] at this ⊢;exact this
    ·rw [htree,o9 hc.1];simp only [yt,gq,List.length_append,List.append_assoc,Nat.add_assoc,hqq]
    ·simp only [List.length_append,List.length_cons];have h2:=nR xs n (lev+1) (kp xs (62 - 2*lev) f) f (aR xs (62 - 2*lev) to f) (zs0.length+1+D.length) s1;omega
    ·intro j hj1 hj2;simp only at hj1 ⊢;have hge:=hrest (aR xs (62 - 2*lev) to f) (by omega) (by omega)
     have hup:=hpart.up (i:=aR xs (62 - 2*lev) to f) (by omega) hj1 hj2
     have hne:pV (rd xs (aR xs (62 - 2*lev) to f) 0) lev≠q:=by
      rcases s4 with s4 | s4
      ·omega
      ·intro h5;apply s4;rw [hpart.same (by omega) (by omega) a1 hc.1,h5,hc.2]
     omega
  ·
   rw [Bz hc];refine ⟨fun h=>absurd h (by omega),fun _=>?_⟩
   refine hn (f,q+1,zs1) ⟨⟨a1,a2,⟨ks,D,hkl,hz,htree⟩,hcnt⟩,by simp only; omega,?_⟩ (by simp only; omega)
   intro j hj1 hj2;simp only at hj1 ⊢;have h1:=hrest f (Nat.le_refl _) (by omega)
   have h2:=hpart.up a1 hj1 hj2;have h3:pV (rd xs f 0) lev≠q:=fun h=>hc ⟨by omega,h⟩
   omega
 ·intro hi;have e:f=to:=by
   rcases Nat.lt_or_ge f to with h | h
   ·have h1:=hrest f (Nat.le_refl _) h;have h2:=(zM (rd xs f 0) lev).2;omega
   ·omega
  subst e;refine hk _ _ (by simp) ?_
  rw [agx (Nat.le_refl _)] at htree;simp only [yt,gq,List.append_nil] at htree;rw [hl0] at htree;rw [htree,← hz] at hK;exact hK
theorem UJ {n:Nat} (ih:cf TP 110 (ZN n)):KnowOk TP (NU n) 1:=by
 refine ⟨mixedOrders,?_,?_,?_,fun f h=>(by cases h)⟩
 ·intro g sp h;simp only [NU,V6] at h;split at h
  ·rename_i hg; subst hg; cases h; exact c37
  ·cases h
 ·intro d' hd f i S n0 hS;have:d' = 0:=by omega
  subst this;simp only [NU] at hS;split at hS
  ·rename_i hf;subst hf;split at hS
   ·rename_i hi; subst hi; cases hS; exact PJ (NU n) n0
   ·split at hS
    ·rename_i hi; subst hi; cases hS; exact PI n n0
    ·split at hS
     ·rename_i hi; subst hi; cases hS; exact PH n n0
     ·cases hS
  ·cases hS
 ·intro g G hG;simp only [NU] at hG;split at hG
  ·rename_i hg; subst hg; cases hG; exact ih
  ·cases hG
theorem Xn:∀ n,cf TP 110 (ZN n)
 | 0=>by
  rintro args b K ⟨⟨h1,h2,⟨p1,p2,p3,_⟩,_⟩,hK⟩;exact absurd p3 (by simp only [Int.natCast_zero] at *; omega)
 | n+1=>by
  refine cL 1 (UJ (Xn n)) ?_;rintro args b K ⟨⟨h1,h2,hp⟩,hK⟩;generalize ae args 2 0=lev at *;generalize ae args 2 1=key at *;generalize ae args 2 2=fr at *;generalize ae args 2 3=to at *;generalize ae args 2 4=k0 at *;generalize ae args 2 5=k1 at *;generalize ae args 2 6=k2 at *;generalize ae args 2 7=k3 at *;generalize dh b 1=xs at *;generalize dh b 0=zs at *;subst h1;subst h2;show bQ TP (NU n) 1 110 _ _ (fun v b1=>ld 2 v b1 K)
  rw [v30]; delta Jaa Jab Jac Jad Jae Jaf Jag Jah Jai Jaj Jak Jal Jan Jao Jaq Jar Jas Jav Jaw JaF JaH JaM JaU JaV Ja8 Jbv Jbk Jbm Jbo Jbz;obtain ⟨⟨p1,p1',p2,p3,p4,p5,p6,p7,p8⟩,hR,hone⟩:=hp;have hp:BK (n+1) xs zs lev fr to:=⟨⟨p1,p1',p2,p3,p4,p5,p6,p7,p8⟩,hR,hone⟩;have e0:(List.replicate (1:Nat) (List.replicate (8:Nat) (0:Int))).set (0:Nat) [lev,key,fr,to,k0,k1,k2,k3]=[[lev,key,fr,to,k0,k1,k2,k3]]:=rfl;have hzl:(zs.length:Int)<=1000000:=by
   have:(0:Int)<=((n+1:Nat):Int)*(to - fr):=Int.mul_nonneg (by omega) (by omega)
   omega
  have hlv:(lev.toNat:Int)=lev:=by omega
  have htk:∀ r:L2,(zs++r).take ((zs.length:Nat):Int).toNat=zs:=by intro r; simp
  rw [e0,al,al,i64_in (to - fr) (by omega)]
  simp only [htk];have small:(to - fr<=4∨lev ≥ 32)->K (.sl 2) [none,ro xs,some (.row 70 nk (zs++[ou lev key fr to]))]:=by
   intro h;have:bD xs (n+1) lev.toNat key fr.toNat to.toNat zs.length=[ou lev key fr to]:=by
    simp only [bD];rw [if_pos (by omega)]
    simp only [ou];have h3:((fr.toNat:Nat):Int)=fr:=by omega
    have h4:((to.toNat:Nat):Int)=to:=by omega
    rw [hlv,h3,h4]
   rw [this] at hK;exact hK
  refine ⟨by first | omega | (simp; omega),⟨by first | rfl | trivial,by first | rfl | trivial,?_,by omega,by simp,by first | rfl | trivial⟩,fun h=>small (.inl h),fun h=>⟨fun h2=>small (.inr h2),fun h2=>⟨⟨by first | rfl | trivial,by first | rfl | trivial,?_,?_,by omega,by simp,by first | rfl | trivial,by first | rfl | trivial,by omega,by omega⟩,?_⟩⟩⟩
  ·rw [htk]
  ·rw [htk]; exact hp
  ·rw [htk]
  ·exact hK
theorem c22:aa TP 58 (⟨fun l bs=>mj l bs,fun _ bs=>(.sl 0,[.row 70 nk (bL (aA bs 0))])⟩:Vs.Spec):=by
 refine ab 1 ⟨mixedOrders,?_,cO (N:=YA) (fun _ _=>rfl) 1,?_,fun f h=>(by cases h)⟩ (N:=YA) ?_
 ·intro g sp h;simp only [YA] at h;split at h
  ·rename_i hg; subst hg; cases h; exact Ye
  ·cases h
 ·intro g G hG;simp only [YA] at hG;split at hG
  ·rename_i hg; subst hg; cases hG; exact Xn 33
  ·cases hG
 ·rintro l bs _ _ ⟨xs,rfl,rfl,hl,hk⟩;rw [v22]; delta Jad Jag Jaj Jao Jaq Jar Jav JaF JaG Ja4 Ja7 Jbj Jbs; rw [aL,aL];constructor
  ·intro h;have:xs=[]:=List.eq_nil_of_length_eq_zero (by simpa using h)
   subst this;show (IV.sl 0,[aq.row 70 nk (bL [])])=_;rw [g9]
   rfl
  ·intro h;have hne:xs≠[]:=by rintro rfl; simp at h
   have hpos:0 < xs.length:=List.length_pos_iff.2 hne;refine ⟨⟨_,rfl,rfl,by omega⟩,fun h2=>?_,fun h2=>?_⟩
   ·have h3:¬ fE xs:=fun h4=>by rw [pJ h4] at h2; cases h2
    show (IV.sl 0,[aq.row 70 nk (bL xs)])=_;rw [kY h3]
    rfl
   ·have h3:fE xs:=xq.1 (by simpa using h2)
    refine ⟨⟨rfl,rfl,⟨by omega,by omega,by omega,by omega,by omega,by omega,by omega,hk,by simp; omega⟩,h3,?_⟩,?_⟩
    ·intro i j _ _ _ _;have h4:=hk i;have h5:=hk j;show shr (rd xs i 0) 64=shr (rd xs j 0) 64;rw [gH,gH,Int.ediv_eq_zero_of_lt h4.1 (by simpa using h4.2),Int.ediv_eq_zero_of_lt h5.1 (by simpa using h5.2)]
    ·show (IV.sl 0,[aq.row 70 nk (bL xs)])=_;rw [fZ hne h3]
     rfl
end
end Go.Vs.RS
namespace Go.Vs.RF
open Go Go.Proofs Go.Vs
def fG:List IntKind:=[.i64,.u64,.i64,.u64,.i64,.u64,.i64,.u64]
def kQ:List IntKind:=[.i64,.u64,.i64,.i64,.i64,.i64,.i64,.i64]
def vd:Vs.Spec:=⟨RS.rE,fun l bs=>(.sl 0,[.row 72 [.u64,.i64] (RS.nU (aA bs 0))])⟩
def De:FuncId->Option Vs.Spec:=fun g=>if g=yF then some vd else if g=mD then some vd else if g=oI then some vf else if g=jk then some vf else if g=lR then some R1 else if g=ak then some Kp else if g=mW then some FZ else if g=gv then some FZ else pM g
def Zl (r:L1):Int:=qt (jc (fr r 4)) (jc (fr r 6))
def mR (xs:L2) (n:Nat):L2:=(List.range n).map fun (i:Nat)=>[Zl (xs.getD i []),(i:Int)]
def lx (xs ks:L2) (i:Int):St:=⟨T 24 [(3,.sl 1),(6,.sl 0),(7,.int .i64 xs.length),(8,.int .i64 i)],[some (.ro aM xs),some (.row 72 [.u64,.i64] ks)]⟩
def k9 (xs ks:L2) (i:Int):St:=⟨T 24 [(0,.sl 0),(3,.sl 1),(4,.int .i64 i)],[some (.ro aM xs),some (.row 72 [.u64,.i64] ks)]⟩
def MaW:List IntKind:=.u64::MaO
def Mgi (a b c:Nat)(d:List (Nat × IV)):List (Nat × IV):=Mar a (.sl b) c Mcm d
def Mg1 (a:L2)(b:aq):OB:=Maj aM a b []
def MhL (a:L2):aq:=.row 72 MaW a
theorem rKd (Λ:FuncId->Nat->Option aB) (d:Nat) (xs ks:L2) (i:Int) (k:Out->St->Prop):(round (ai TP { Γ:=De,Λ:=Λ,Τ:=fun _=>none } d) cS 1 0 (lp TP cS 0) (lx xs ks i) k) =(∀a,Mfj a xs i (∀b,Mfk b xs i (∀c,MfM c xs i (∀e,MfN e xs i (∀f,Mfc f i i xs i xs f f (y7 (MdC a b c e []) []) (Mel ks 1 16) (k .normal (MaH 24 (Mgi 3 1 6 (Mdr 7 xs 8 i [])) (Mg1 xs (MhL (Mg0 ks 2 [qt (jc (Mba a b)) (jc (Mba c e)),i]))))) (k MbT (MiX 24 3 1 (Mg1 xs (MhL ks))))))))) :=by delta Maa Mab Mac Mad Mah Mai Maj Mal Man Map Mar Mas Mat Mau Max Maz MaC MaD MaH MaI MaO MaV MaW Ma1 Mba Mbe Mbp Mbw MbC MbF MbM MbT Mcg Mcm Mcr Mdr MdC Mel Mfc Mfj Mfk MfM MfN Mgi Mg0 Mg1 MhL MiX; (iterate 5 refine nm ?_); kernel_rfl
theorem rRk (Λ:FuncId->Nat->Option aB) (d:Nat) (xs ks:L2) (i:Int) (k:Out->St->Prop):(round (ai TP { Γ:=De,Λ:=Λ,Τ:=fun _=>none } d) bz 1 0 (lp TP bz 0) (k9 xs ks i) k) =(∀a,Mfj a xs i (∀b,Mfk b xs i (∀c,MfM c xs i (∀e,MfN e xs i (∀f,Mfc f i i xs i xs f f (y7 (MdC a b c e []) []) (Mel ks 1 16) (k .normal (Mbe 24 0 Mcm (Mfe 3 1 4 i) (Mg1 xs (MhL (Mg0 ks 2 [qt (jc (Mba a b)) (jc (Mba c e)),i]))))) (k MbT (MiX 24 3 1 (Mg1 xs (MhL ks))))))))) :=by delta Maa Mab Mac Mad Mah Mai Maj Mal Man Map Mar Mas Mat Mau Max Maz MaC MaD MaH MaI MaO MaV MaW Ma1 Mba Mbe Mbp Mbw MbC MbF MbK MbT Mcg Mcm Mcr MdC Mef Mel Mfc Mfe Mfj Mfk MfM MfN Mg0 Mg1 MhL MiX; (iterate 5 refine nm ?_); kernel_rfl
def wT (n:Nat) (xs:L2):Prop:=∀ r∈xs,r.length=n
def Xg (n0:Nat) (st:St) (xs:L2):Prop:=aI aM xs/\wT 20 xs/\xs.length<=1000/\n0=1/\st=lx xs [] 0
def W9 (n0:Nat) (st:St) (xs:L2):Prop:=aI aM xs/\wT 20 xs/\xs.length<=1000/\n0=1/\st=k9 xs [] 0
def Lkd:aB:=fun n0 st K=>∃xs,Xg n0 st xs/\K (.exit 0) ⟨T 24 [(3,.sl 1)],[some (.ro aM xs),some (.row 72 [.u64,.i64] (mR xs xs.length))]⟩
def Lrk:aB:=fun n0 st K=>∃xs,W9 n0 st xs/\K (.exit 0) ⟨T 24 [(3,.sl 1)],[some (.ro aM xs),some (.row 72 [.u64,.i64] (mR xs xs.length))]⟩
def SK:Know:={ Γ:=De,Λ:=fun f i=>if f=cS then (if i=0 then some Lkd else none) else if f=bz then (if i=0 then some Lrk else none) else none,Τ:=fun _=>none }
theorem OX (xs:L2) (K:KP):(comes TP SK 3 cS [.sl 0] [.ro aM xs] K) =(∃a:L2,Max (Xg 1 (MaH 24 (Mgi 3 1 6 (Mf2 7 xs 8 0)) (Mg1 xs (MaT 72 MaW))) a) (RS.rE Med (MeV MaW (mR a (List.length a)))) (K Mcm [MhL (RS.nU (mR a (List.length a)))])) :=by kernel_rfl
theorem J5 (xs:L2) (K:KP):(comes TP SK 3 bz [.sl 0] [.ro aM xs] K) =(∃a:L2,Max (W9 1 (Mbe 24 0 Mcm (Mhu 3 1 4) (Mg1 xs (MaT 72 MaW))) a) (RS.rE Med (MeV MaW (mR a (List.length a)))) (K Mcm [MhL (RS.nU (mR a (List.length a)))])) :=by kernel_rfl
def lE (xs:L2):L2:=RS.nU (mR xs xs.length)
def Za (l:List IV) (bs:List aq):Prop:=∃xs,l=[.sl 0]/\bs=[.ro aM xs]/\wT 20 xs/\xs.length<=1000
def O9:Vs.Spec:=⟨Za,fun _ bs=>(.sl 0,[.row 72 [.u64,.i64] (lE (aA bs 0))])⟩
def Hx:FuncId->Option Vs.Spec:=fun g=>if g=cS then some O9 else if g=bz then some O9 else De g
def lu (ns ks xs cs:L2) (i:Int):St:=⟨T 63 [(1,.sl 1),(2,.sl 2),(8,.sl 3),(17,.sl 0),(18,.int .i64 ns.length),(19,.int .i64 i)],[some (.ro kQ ns),some (.ro [.u64,.i64] ks),some (.ro aM xs),some (.row 160 fG cs)]⟩
def Src (ns ks xs cs:L2) (i:Int):St:=⟨T 67 [(0,.sl 0),(1,.sl 1),(2,.sl 2),(6,.ptr 3 0),(7,.sl 4),(8,.int .i64 i)],[some (.ro kQ ns),some (.ro [.u64,.i64] ks),some (.ro aM xs),some (.var 125 [.sl 5,.int .i64 0]),some (.row 160 fG cs),some (.row 160 fG [])]⟩
section
open Go.IntWalk
theorem QJ:aa TP yF vd:=RS.c15
theorem X5:aa TP mD vd:=RS.c16
theorem Ms:∀ {g:FuncId} {sp:Vs.Spec},De g=some sp->aa TP g sp:=ao QJ (ao X5 (ao aaY (ao X6 (ao Nz (ao Jg (ao QX (ao Nq lW)))))))
theorem yu (xs:L2) (i:Nat):mR xs (i+1)=mR xs i++[[Zl (xs.getD i []),(i:Int)]]:=by
 unfold mR;rw [List.range_succ,List.map_append]
 rfl
theorem se (xs:L2) (n:Nat):(mR xs n).length=n:=by unfold mR; simp
theorem Cw (xs:L2) (n:Nat):RS.hU (mR xs n):=by
 intro x hx;unfold mR at hx;rw [List.mem_map] at hx;obtain ⟨i,_,rfl⟩:=hx;exact ⟨_,_,rfl⟩
theorem SJ {xs:L2} (hr:aI aM xs) (i:Nat):y7 [IV.agg [.int .i64 (rd xs i 4),.int .u64 (rd xs i 5),.int .i64 (rd xs i 6),.int .u64 (rd xs i 7)]] []:=by
 have h4:-9223372036854775808<=rd xs i 4/\rd xs i 4<=9223372036854775807:=pb hr i 4 (by decide)
 have h6:-9223372036854775808<=rd xs i 6/\rd xs i 6<=9223372036854775807:=pb hr i 6 (by decide)
 have h5:0<=rd xs i 5/\rd xs i 5 < 18446744073709551616:=cH hr i 5 (by decide) rfl
 have h7:0<=rd xs i 7/\rd xs i 7 < 18446744073709551616:=cH hr i 7 (by decide) rfl
 rw [ik h5 h7];exact y6 ⟨by omega,by omega⟩ ⟨by omega,by omega⟩
theorem lKd (d n0:Nat):aG (ai TP SK d) cS n0 0 (lp TP cS 0) Lkd:=by
 intro st K hst;obtain ⟨xs,⟨hr,hl,hm,rfl,rfl⟩,hK⟩:=hst;refine aC (fun i:Nat=>lx xs (mR xs i) i) (fun i=>i<=xs.length) (fun i=>xs.length - i) ?_ (a:=0) (Nat.zero_le _)
 intro i hle k hn hk;show round (ai TP { Γ:=De,Λ:=_,Τ:=fun _=>none } d) _ _ _ _ _ k
 rw [rKd]; delta Maa Mab Mac Mad Mah Mai Maj Mal Man Map Mar Mas Mat Mau Max Maz MaC MaD MaH MaI MaO MaV MaW Ma1 Mba Mbe Mbp Mbw MbC MbF MbM MbT Mcg Mcm Mcr Mdr MdC Mel Mfc Mfj Mfk MfM MfN Mgi Mg0 Mg1 MhL MiX;rw [show ((i:Nat):Int).toNat=i by omega]
 rintro t1 rfl t2 rfl t3 rfl t4 rfl t5 e5;rw [al];constructor
 ·intro hi;have p5:t5:=by rw [e5]; omega
  refine ⟨p5,p5,SJ hr i,by rw [se]; omega,?_⟩
  rw [show IntKind.i64.wrap ((i:Int)+1)=((i+1:Nat):Int) by rw [i64_in _ (by omega)]; rfl]
  have:=hn (i+1) (by omega) (by omega)
  rw [yu] at this;exact this
 ·intro hi;have hi':i=xs.length:=by omega
  subst hi';exact hk _ _ (by simp) hK
theorem lRk (d n0:Nat):aG (ai TP SK d) bz n0 0 (lp TP bz 0) Lrk:=by
 intro st K hst;obtain ⟨xs,⟨hr,hl,hm,rfl,rfl⟩,hK⟩:=hst;refine aC (fun i:Nat=>k9 xs (mR xs i) i) (fun i=>i<=xs.length) (fun i=>xs.length - i) ?_ (a:=0) (Nat.zero_le _)
 intro i hle k hn hk;show round (ai TP { Γ:=De,Λ:=_,Τ:=fun _=>none } d) _ _ _ _ _ k
 rw [rRk]; delta Maa Mab Mac Mad Mah Mai Maj Mal Man Map Mar Mas Mat Mau Max Maz MaC MaD MaH MaI MaO MaV MaW Ma1 Mba Mbe Mbp Mbw MbC MbF MbK MbT Mcg Mcm Mcr MdC Mef Mel Mfc Mfe Mfj Mfk MfM MfN Mg0 Mg1 MhL MiX;rw [show ((i:Nat):Int).toNat=i by omega]
 rintro t1 rfl t2 rfl t3 rfl t4 rfl t5 e5;rw [al];constructor
 ·intro hi;have p5:t5:=by rw [e5]; omega
  refine ⟨p5,p5,SJ hr i,by rw [se]; omega,?_⟩
  rw [show IntKind.i64.wrap ((i:Int)+1)=((i+1:Nat):Int) by rw [i64_in _ (by omega)]; rfl]
  have:=hn (i+1) (by omega) (by omega)
  rw [yu] at this;exact this
 ·intro hi;have hi':i=xs.length:=by omega
  subst hi';exact hk _ _ (by simp) hK
theorem LJ:KnowOk TP SK 3:=by
 refine ti (fun g sp h=>Ms h) ?_ (fun g G h=>by cases h) 3
 intro f i S hS d n0;simp only [SK] at hS;split at hS
 ·rename_i hf;subst hf;split at hS
  ·rename_i hi; subst hi; cases hS; exact lKd d n0
  ·cases hS
 split at hS
 ·rename_i hf;subst hf;split at hS
  ·rename_i hi; subst hi; cases hS; exact lRk d n0
  ·cases hS
 ·cases hS
theorem BH {xs:L2} (h:xs.length<=1000):RS.rE [IV.sl 0] [aq.ro [.u64,.i64] (mR xs xs.length)]:=⟨_,rfl,rfl,Cw _ _,by rw [se]; omega⟩
theorem Hj:aa TP cS O9:=by
 refine ab (N:=SK) 3 LJ ?_;rintro l bs _ hB ⟨xs,rfl,rfl,hl,hm⟩;have hb:aI aM xs/\0 < aM.length/\xs.length<=maxLen:=hB (.ro aM xs) (List.mem_singleton.2 rfl);show comes _ _ _ _ _ _ fun v bs'=>(IV.sl 0,([.row 72 [.u64,.i64] (lE xs)]:List aq))=(v,bs')
 rw [OX]; delta Maa Mab Mad Maj Man Mao Mar Max MaH MaO MaT MaW MbM Mcm Med MeV Mf2 Mgi Mg1 MhL;exact ⟨xs,⟨hb.1,hl,hm,rfl,rfl⟩,BH hm,rfl⟩
theorem CV:aa TP bz O9:=by
 refine ab (N:=SK) 3 LJ ?_;rintro l bs _ hB ⟨xs,rfl,rfl,hl,hm⟩;have hb:aI aM xs/\0 < aM.length/\xs.length<=maxLen:=hB (.ro aM xs) (List.mem_singleton.2 rfl);show comes _ _ _ _ _ _ fun v bs'=>(IV.sl 0,([.row 72 [.u64,.i64] (lE xs)]:List aq))=(v,bs')
 rw [J5]; delta Maa Mab Mad Maj Mao Mar Max MaH MaO MaT MaW Mbe MbK Mcm Med Mef MeV Mg1 Mhu MhL;exact ⟨xs,⟨hb.1,hl,hm,rfl,rfl⟩,BH hm,rfl⟩
theorem U1:∀ {g:FuncId} {sp:Vs.Spec},Hx g=some sp->aa TP g sp:=ao Hj (ao CV Ms)
end
def Xr (ns:L2) (i:Nat):List IV:=bN kQ ns i 0 8
def lr (ns ks xs cs bd sb:L2) (i:Nat) (j:Int):St:=⟨T 63 [(1,.sl 1),(2,.sl 2),(8,.sl 3),(10,.ptr 4 0),(11,.sl 5),(17,.sl 0),(18,.int .i64 ns.length),(19,.int .i64 (i:Int)),(28,.sl 6),(29,.int .i64 sb.length),(30,.int .i64 j)],[some (.ro kQ ns),some (.ro [.u64,.i64] ks),some (.ro aM xs),some (.row 160 fG cs),some (.var 70 (Xr ns i)),some (.row 79 aM bd),some (.ro [.u64,.i64] sb)]⟩
def Mdk (a:Nat)(b:IV)(c d:Nat)(e:List (Nat × IV)):List (Nat × IV):=Mar a b c (.sl d) e
def Me6 (a:L2):aq:=.row 160 fG a
def Mf0 (a b c d:Nat)(e:List (Nat × IV)):List (Nat × IV):=Mdk a (.sl b) c d e
def MgA (a:Nat)(b:List (Nat × IV))(c d:L2)(e:OB):St:=MaH a b (Mak kQ c MaW d e)
def MhD (a b:L2)(c:List IntKind)(d:L2)(e:OB):OB:=Mab (.ro kQ a) (Mak MaW b c d e)
abbrev Mjm (a b c d:Prop):Prop:=Mdm a a b b c d
theorem rmi (Λ:FuncId->Nat->Option aB) (d:Nat) (ns ks xs cs bd sb:L2) (i:Nat) (j:Int) (k:Out->St->Prop):(round (ai TP { Γ:=Hx,Λ:=Λ,Τ:=fun _=>none } d) aeo 3 1 (lp TP aeo 1) (lr ns ks xs cs bd sb i j) k) =(∀a,Md7 a sb j (∀b,Mi8 b j sb (∀c,Mbw c (Mbp a a xs) (Mcg j sb (Mjm b c (Mel bd 1 160) (k .normal (Mbe 63 1 (.sl 1) (Mf0 2 2 8 3 (MbV 10 4 11 5 (MbK 17 0 18 (Man ns) (Mdk 19 (Maa (↑i:Int)) 28 6 (Mdr 29 sb 30 j []))))) (MhD ns ks aM xs (Mad (Me6 cs) (.var 70 (Mal (rd ns i 0) (rd ns i 1) (MaM (rd ns i 2) (rd ns i 3) (MaM (rd ns i 4) (rd ns i 5) (MaM (rd ns i 6) (rd ns i 7) []))))) (Mad (Mdd (Mg0 bd 20 (List.reverse (MaF (Mas xs a 19) (Mas xs a 18) (Mas xs a 17) (Mas xs a 16) (Mbj (Mas xs a 15) (Mas xs a 14) (Mas xs a 13) (Mas xs a 12) (Mas xs a 11) (Mas xs a 10) (Mas xs a 9) (Mas xs a 8) (Mas xs a 7) (Mas xs a 6) (Mas xs a 5) (Mas xs a 4) (Mas xs a 3) (Mas xs a 2) (Mas xs a 1) (Mas xs a 0) []))))) (.ro MaW sb) [])))))) (k Mez (MgA 63 (Mf0 1 1 2 2 (Mca 8 (.sl 3) 10 4 (Mgi 11 5 17 (Mf2 18 ns 19 (↑i:Int))))) ns ks (Maj aM xs (Me6 cs) (Maq 70 (Mal (rd ns i 0) (rd ns i 1) (MaM (rd ns i 2) (rd ns i 3) (MaM (rd ns i 4) (rd ns i 5) (MaM (rd ns i 6) (rd ns i 7) [])))) (Mdd bd) [])))))))) :=by delta Maa Mab Mac Mad Mah Mai Maj Mak Mal Mam Man Maq Mar Mas Mau Max Maz MaA MaC MaF MaH MaI MaM MaO MaV MaW Ma1 Mbe Mbj Mbp Mbw MbC MbF MbK MbM MbV Mca Mcg Mcm Mcr Mdd Mdk Mdm Mdr Md7 Mel Mez Me6 Mf0 Mf2 Mgi MgA Mg0 MhD Mi8 Mjm; (iterate 3 refine nm ?_); kernel_rfl
def fz (xs sb:L2):L2:=sb.map fun k=>xs.getD (k.getD 1 0).toNat []
def oB (n:Nat) (sb:L2):Prop:=∀ k∈sb,0<=k.getD 1 0/\k.getD 1 0 < (n:Int)
def WZ (n0:Nat) (st:St) (ns ks xs cs sb:L2) (i:Nat):Prop:=wT 20 xs/\oB xs.length sb/\sb.length<=1000/\n0=3/\st=lr ns ks xs cs [] sb i 0
def Lmi:aB:=fun n0 st K=>∃ns ks xs cs sb i,WZ n0 st ns ks xs cs sb i/\K (.exit 2) ⟨T 63 [(1,.sl 1),(2,.sl 2),(8,.sl 3),(10,.ptr 4 0),(11,.sl 5),(17,.sl 0),(18,.int .i64 ns.length),(19,.int .i64 (i:Int))],[some (.ro kQ ns),some (.ro [.u64,.i64] ks),some (.ro aM xs),some (.row 160 fG cs),some (.var 70 (Xr ns i)),some (.row 79 aM (fz xs sb))]⟩
def Ym (ns ks xs cs bd:L2) (i:Nat) (j:Int):St:=⟨T 67 [(0,.sl 0),(1,.sl 1),(2,.sl 2),(6,.ptr 3 0),(7,.sl 4),(8,.int .i64 (i:Int)),(9,.sl 5),(10,.int .i64 j)],[some (.ro kQ ns),some (.ro [.u64,.i64] ks),some (.ro aM xs),some (.var 125 [.sl 6,.int .i64 0]),some (.row 160 fG cs),some (.row 79 aM bd),some (.row 160 fG [])]⟩
abbrev Mc8 (a:Int)(b:L2)(c d:Nat)(e:Prop):Prop:=Ma1 a b (↑c:Int) d e
def MgK:aq:=MaT 160 fG
theorem rri (Λ:FuncId->Nat->Option aB) (d:Nat) (ns ks xs cs bd:L2) (i:Nat) (j:Int) (k:Out->St->Prop):(round (ai TP { Γ:=Hx,Λ:=Λ,Τ:=fun _=>none } d) aQ 3 1 (lp TP aQ 1) (Ym ns ks xs cs bd i j) k) =(∀a,Md7 a ks j (∀b,Mc8 b ns i 3 (∀c,Mi8 c j ks (∀e,Mi8 e (↑i:Int) ns (∀f,Mi8 f a xs (Mi3 e (MbF j b (Mjm c f (Mel bd 1 160) (k .normal (MaH 67 (Mdk 0 Mcm 1 1 (Mca 2 (.sl 2) 6 3 (MbK 7 4 8 (↑i:Int) (Mfe 9 5 10 j)))) (MhD ns ks aM xs (Maq 125 (Mbv 6 0) (Me6 cs) (Mad (Mdd (Mg0 bd 20 (List.reverse (MaF (Mas xs a 19) (Mas xs a 18) (Mas xs a 17) (Mas xs a 16) (Mbj (Mas xs a 15) (Mas xs a 14) (Mas xs a 13) (Mas xs a 12) (Mas xs a 11) (Mas xs a 10) (Mas xs a 9) (Mas xs a 8) (Mas xs a 7) (Mas xs a 6) (Mas xs a 5) (Mas xs a 4) (Mas xs a 3) (Mas xs a 2) (Mas xs a 1) (Mas xs a 0) []))))) MgK [])))))) (k Mez (Mbe 67 0 Mcm (Mf0 1 1 2 2 (MbV 6 3 7 4 (Mdk 8 (Maa (↑i:Int)) 9 5 []))) (MhD ns ks aM xs (Maq 125 (Mbv 6 0) (Me6 cs) (Mad (Mdd bd) MgK [])))))))))))) :=by delta Maa Mab Mad Mah Mai Maj Mak Mam Man Mao Maq Mar Mas Mau Max Maz MaA MaC MaF MaH MaI MaO MaT MaV MaW Ma1 Ma2 Mbe Mbj Mbp Mbv Mbw MbC MbF MbK MbV Mca Mcm Mcr Mc8 Mdd Mdk Mdm Md7 Mef Mel Mez Me6 Mfe Mf0 MgK Mg0 MhD Mi3 Mi8 Mjm; (iterate 5 refine nm ?_); kernel_rfl
def dX (ns ks:L2) (i:Nat):L2:=List.drop (rd ns i 2).toNat (List.take (rd ns i 3).toNat ks)
def WX (n0:Nat) (st:St) (ns ks xs cs:L2) (i:Nat):Prop:=wT 20 xs/\oB xs.length ks/\ks.length<=1000/\i < ns.length/\(0<=rd ns i 2/\rd ns i 2<=rd ns i 3/\rd ns i 3<=ks.length)/\n0=3/\st=Ym ns ks xs cs [] i (rd ns i 2)
def Lri:aB:=fun n0 st K=>∃ns ks xs cs i,WX n0 st ns ks xs cs i/\K (.exit 2) ⟨T 67 [(0,.sl 0),(1,.sl 1),(2,.sl 2),(6,.ptr 3 0),(7,.sl 4),(8,.int .i64 (i:Int)),(9,.sl 5)],[some (.ro kQ ns),some (.ro [.u64,.i64] ks),some (.ro aM xs),some (.var 125 [.sl 6,.int .i64 0]),some (.row 160 fG cs),some (.row 79 aM (fz xs (dX ns ks i))),some (.row 160 fG [])]⟩
def CK (ns ks xs:L2) (i:Nat):L2:=fz xs (dX ns ks i)
def Fg (ns ks xs:L2) (i:Nat):L1:=[cM (CK ns ks xs i) / 18446744073709551616,cM (CK ns ks xs i) % 18446744073709551616,cX (CK ns ks xs i) / 18446744073709551616,cX (CK ns ks xs i) % 18446744073709551616,cY (CK ns ks xs i) / 18446744073709551616,cY (CK ns ks xs i) % 18446744073709551616,qd (rd ns i 0) / 18446744073709551616,qd (rd ns i 0) % 18446744073709551616]
def qR (ns ks xs:L2) (n:Nat):L2:=(List.range n).map (Fg ns ks xs)
def xP (ns ks xs:L2):Nat->Nat->Int
 | 0,_=>0
 | m+1,i=>if cE (CK ns ks xs i)≠0 then cE (CK ns ks xs i) else xP ns ks xs m (i+1)
def xz (ns ks xs:L2):Int:=xP ns ks xs ns.length 0
def Dc (ns ks xs:L2):L2:=if xz ns ks xs=0 then qR ns ks xs ns.length else []
def Gx (ns ks:L2):Prop:=∀ i:Nat,i < ns.length->0<=rd ns i 2/\rd ns i 2<=rd ns i 3/\rd ns i 3<=ks.length
def pCl (ns ks xs:L2):Prop:=(aI kQ ns/\aI aM xs)/\wT 20 xs/\ja xs/\oB xs.length ks/\ks.length<=1000/\ns.length<=1000000/\Gx ns ks
def WY (n0:Nat) (st:St) (ns ks xs:L2):Prop:=pCl ns ks xs/\n0=3/\st=lu ns ks xs [] 0
def WW (n0:Nat) (st:St) (ns ks xs:L2):Prop:=pCl ns ks xs/\n0=3/\st=Src ns ks xs [] 0
def Lmo:aB:=fun n0 st K=>∃ns ks xs,WY n0 st ns ks xs/\br (xz ns ks xs != 0) (K .ret ⟨T 63 [(6,.sl 3),(7,.int .i64 (xz ns ks xs))],[some (.ro kQ ns),some (.ro [.u64,.i64] ks),some (.ro aM xs),some (.row 160 fG [])]⟩) (K (.exit 0) ⟨T 63 [(8,.sl 3)],[some (.ro kQ ns),some (.ro [.u64,.i64] ks),some (.ro aM xs),some (.row 160 fG (qR ns ks xs ns.length))]⟩)
def Lro:aB:=fun n0 st K=>∃ns ks xs,WW n0 st ns ks xs/\br (xz ns ks xs != 0) (K .ret ⟨T 67 [(6,.ptr 3 0)],[some (.ro kQ ns),some (.ro [.u64,.i64] ks),some (.ro aM xs),some (.var 125 [.sl 4,.int .i64 (xz ns ks xs)]),some (.row 160 fG [])]⟩) (K (.exit 0) ⟨T 67 [(6,.ptr 3 0),(7,.sl 4)],[some (.ro kQ ns),some (.ro [.u64,.i64] ks),some (.ro aM xs),some (.var 125 [.sl 5,.int .i64 0]),some (.row 160 fG (qR ns ks xs ns.length)),some (.row 160 fG [])]⟩)
def Hv:Know:={ Γ:=Hx,Λ:=fun f i=>if f=aeo then (if i=0 then some Lmo else if i=1 then some Lmi else none) else if f=aQ then (if i=0 then some Lro else if i=1 then some Lri else none) else none,Τ:=fun _=>none }
def Mb7 (a:L2)(b:List aq):List aq:=.ro aM a::b
def McU (a:L2)(b c:Nat):Int:=Mas a (↑b:Int) c
def Md6 (a b:Int)(c:L2):L2:=List.drop (Int.toNat a) (List.take (Int.toNat b) c)
def MhQ (a:L2)(b:Nat)(c d e f g h i:Int)(j:List IV):List IV:=Mal (McU a b 0) c (MaM d e (MaM f g (MaM h i j)))
def Mid (a:Nat)(b:List IntKind)(c:L2)(d:OB):OB:=Mad (MaT a b) (.ro MaW c) d
abbrev Mjo (a:Prop)(b:Int)(c:L2)(d e:Prop):Prop:=Mbw a (Mbp b b c) (Mcg b c d e)
abbrev Mkm (a b:Int)(c:L2):Prop:=Max (0<=a) (a<=b) (b<=Man c)
theorem rmo (d:Nat) (ns ks xs cs:L2) (i:Nat) (k:Out->St->Prop):(round (ai TP Hv d) aeo 3 0 (lp TP aeo 0) (lu ns ks xs cs i) k) =(∀a,Mc8 a ns i 2 (∀b,Mc8 b ns i 3 (∀c,Mjo c (↑i:Int) ns (Mjc c (Mkm a b ks) (∃e:L2,∃f:L2,∃g:L2,∃j:L2,∃l:L2,∃m:Nat,Meq (WZ 3 (Mbe 63 1 (.sl 1) (Mf0 2 2 8 3 (MbV 10 4 11 5 (MbK 17 0 18 (Man ns) (Mdk 19 (Maa (↑i:Int)) 28 6 (Mf2 29 (Md6 a b ks) 30 0))))) (MhD ns ks aM xs (Mad (Me6 cs) (.var 70 (MhQ ns i (McU ns i 1) a b (McU ns i 4) (McU ns i 5) (McU ns i 6) (McU ns i 7) [])) (Mid 79 aM (Md6 a b ks) [])))) e f g j l m) (Zd Med (Mb7 (fz g l) [])) (cE (fz g l)) (k .ret (MgA 63 (Mef 6 3 7 (cE (fz g l))) e f (Mg1 g MgK))) (Max (TZ (Ma2 (rd e m 0)) []) (Mel j 1 64) (k .normal (MgA 63 (Mf0 1 1 2 2 (Mgi 8 3 17 (Mdr 18 e 19 (↑m:Int) []))) e f (Mg1 g (Me6 (Mg0 j 8 (MaF (Mag (cM (fz g l))) (Mae (cM (fz g l))) (Mag (cX (fz g l))) (Mae (cX (fz g l))) (MaF (Mag (cY (fz g l))) (Mae (cY (fz g l))) (Mag (qd (rd e m 0))) (Mae (qd (rd e m 0))) [])))))))))) (k MbT (MiX 63 8 3 (Mak kQ ns MaW ks (Mg1 xs (Me6 cs)))))))) :=by delta Maa Mab Mac Mad Mae Mag Mah Mai Maj Mak Mal Mam Man Mao Mar Mas Mau Max Maz MaA MaC MaF MaH MaM MaO MaT MaV MaW Ma1 Ma2 Ma3 Mbe Mbp Mbw MbC MbF MbK MbM MbT MbV Mb4 Mb7 Mcg Mcm Mcr McA McU Mc8 Mdk Mdr Md6 Med Mef Mel Meq Me6 Mf0 Mf2 Mgi MgA MgK Mg0 Mg1 MhD MhQ Mid MiX Mjc Mjo Mkm; (iterate 3 refine nm ?_); kernel_rfl
def MdW (a b c:L2)(d:Nat):L2:=fz a (dX b c d)
theorem rro (d:Nat) (ns ks xs cs:L2) (i:Nat) (k:Out->St->Prop):(round (ai TP Hv d) aQ 3 0 (lp TP aQ 0) (Src ns ks xs cs i) k) =(∀a,Mjo a (↑i:Int) ns (Mi3 a (∃b:L2,∃c:L2,∃e:L2,∃f:L2,∃g:Nat,Meq (WX 3 (MaH 67 (Mdk 0 Mcm 1 1 (Mca 2 (.sl 2) 6 3 (MbK 7 4 8 (↑i:Int) (Mef 9 5 10 (McU ns i 2))))) (MhD ns ks aM xs (Maq 125 (Mbv 6 0) (Me6 cs) (Mck 79 aM 160 fG [])))) b c e f g) (Zd Med (Mb7 (MdW e b c g) [])) (cE (MdW e b c g)) (k .ret (MbD 67 6 3 [] (MhD b c aM e (Maq 125 (Mbv 4 (cE (MdW e b c g))) MgK [])))) (MaI (Mbp (↑g:Int) (↑g:Int) b) (Mbp (↑g:Int) (↑g:Int) b) (TZ (Ma2 (McU b g 0)) []) (Mel f 1 64) (k .normal (MgA 67 (Mdk 0 Mcm 1 1 (Mca 2 (.sl 2) 6 3 (Mfe 7 4 8 (↑g:Int)))) b c (MdN e 125 (Mbv 5 0) (Mad (Me6 (Mg0 f 8 (MaF (Mag (cM (MdW e b c g))) (Mae (cM (MdW e b c g))) (Mag (cX (MdW e b c g))) (Mae (cX (MdW e b c g))) (MaF (Mag (cY (MdW e b c g))) (Mae (cY (MdW e b c g))) (Mag (qd (McU b g 0))) (Mae (qd (McU b g 0))) [])))) MgK []))))))) (k MbT (MgA 67 (MbV 6 3 7 4 []) ns ks (MdN xs 125 (Mbv 5 0) (Mad (Me6 cs) MgK []))))) :=by delta Maa Mab Mad Mae Mag Mah Mai Maj Mak Mam Man Mao Maq Mar Mas Mau Max MaA MaC MaF MaH MaI MaO MaT MaV MaW Ma2 Ma3 Mbe Mbp Mbv Mbw MbC MbD MbF MbK MbT MbV Mb7 Mca Mcg Mck Mcm Mcr McA McU Mdk MdN MdW Med Mef Mel Meq Me6 Mfe MgA MgK Mg0 MhD Mi3 Mjo; refine nm ?_; kernel_rfl
def Mhd (a:Int):IV:=.tup (Mbv 0 a)
theorem OZ (ns ks xs:L2) (K:KP):(comes TP Hv 3 aeo [.sl 0,.sl 1,.sl 2] [.ro kQ ns,.ro [.u64,.i64] ks,.ro aM xs] K) =(∃a:L2,∃b:L2,∃c:L2,Mcv (WY 3 (MgA 63 (Mf0 1 1 2 2 (Mgi 8 3 17 (Mf2 18 ns 19 0))) ns ks (Mg1 xs MgK)) a b c) (xz a b c) (K (Mhd (xz a b c)) [MaT 160 fG]) (K (Mhd 0) [Me6 (qR a b c (List.length a))])) :=by kernel_rfl
def MgW (a:Int):IV:=.agg (Mbv 0 a)
theorem J6 (ns ks xs:L2) (K:KP):(comes TP Hv 3 aQ [.sl 0,.sl 1,.sl 2] [.ro kQ ns,.ro [.u64,.i64] ks,.ro aM xs] K) =(∃a:L2,∃b:L2,∃c:L2,Mcv (WW 3 (MgA 67 (Mdk 0 Mcm 1 1 (Mca 2 (.sl 2) 6 3 (Mhu 7 4 8))) ns ks (MdN xs 125 (Mbv 5 0) (Mck 160 fG 160 fG []))) a b c) (xz a b c) (K (MgW (xz a b c)) [MaT 160 fG]) (K (MgW 0) [Me6 (qR a b c (List.length a))])) :=by kernel_rfl
def EB (l:List IV) (bs:List aq):Prop:=∃ns ks xs,l=[.sl 0,.sl 1,.sl 2]/\bs=[.ro kQ ns,.ro [.u64,.i64] ks,.ro aM xs]/\wT 20 xs/\ja xs/\oB xs.length ks/\ks.length<=1000/\ns.length<=1000000/\Gx ns ks
def WE:Vs.Spec:=⟨EB,fun _ bs=>(.tup [.sl 0,.int .i64 (xz (aA bs 0) (aA bs 1) (aA bs 2))],[.row 160 fG (Dc (aA bs 0) (aA bs 1) (aA bs 2))])⟩
def Tz:Vs.Spec:=⟨EB,fun _ bs=>(.agg [.sl 0,.int .i64 (xz (aA bs 0) (aA bs 1) (aA bs 2))],[.row 160 fG (Dc (aA bs 0) (aA bs 1) (aA bs 2))])⟩
section
open Go.IntWalk
theorem Es {r:L1} (h:r.length=20):[r.getD 0 0,r.getD 1 0,r.getD 2 0,r.getD 3 0,r.getD 4 0,r.getD 5 0,r.getD 6 0,r.getD 7 0,r.getD 8 0,r.getD 9 0,r.getD 10 0,r.getD 11 0,r.getD 12 0,r.getD 13 0,r.getD 14 0,r.getD 15 0,r.getD 16 0,r.getD 17 0,r.getD 18 0,r.getD 19 0]=r:=by
 match r,h with
 | [_,_,_,_,_,_,_,_,_,_,_,_,_,_,_,_,_,_,_,_],_=>rfl
theorem Gg {xs:L2} {t:Nat} (h:(xs.getD t []).length=20):[rd xs t 19,rd xs t 18,rd xs t 17,rd xs t 16,rd xs t 15,rd xs t 14,rd xs t 13,rd xs t 12,rd xs t 11,rd xs t 10,rd xs t 9,rd xs t 8,rd xs t 7,rd xs t 6,rd xs t 5,rd xs t 4,rd xs t 3,rd xs t 2,rd xs t 1,rd xs t 0].reverse=xs.getD t []:=Es h
theorem getM {xs:L2} {i:Nat} (h:i < xs.length):xs.getD i []∈xs:=by rw [acY h]; exact List.getElem_mem h
theorem BD {xs:L2} {i j:Nat} (h:i < xs.length):rd xs i j=xs[i].getD j 0:=by unfold rd; rw [acY h]
theorem ya {xs sb:L2} {j:Nat} (h:j < sb.length):fz xs (sb.take (j+1))=fz xs (sb.take j)++[xs.getD (rd sb j 1).toNat []]:=by
 unfold fz rd;rw [List.take_add_one,List.getElem?_eq_getElem h,Option.toList_some,List.map_append,acY h]
 rfl
theorem KV (xs sb:L2):(fz xs sb).length=sb.length:=by unfold fz; simp
theorem Bm (xs sb:L2) (j:Nat):(fz xs (sb.take j)).length<=j:=by rw [KV,List.length_take]; omega
theorem lmi (d n0:Nat):aG (ai TP Hv d) aeo n0 1 (lp TP aeo 1) Lmi:=by
 intro st K hst;obtain ⟨ns,ks,xs,cs,sb,i,⟨hl,hid,hm,rfl,rfl⟩,hK⟩:=hst;refine aC (fun j:Nat=>lr ns ks xs cs (fz xs (sb.take j)) sb i j) (fun j=>j<=sb.length) (fun j=>sb.length - j) ?_ (a:=0) (Nat.zero_le _)
 intro j hle k hn hk;show round (ai TP { Γ:=Hx,Λ:=_,Τ:=fun _=>none } d) _ _ _ _ _ k
 rw [rmi]; delta Maa Mab Mac Mad Mah Mai Maj Mak Mal Mam Man Maq Mar Mas Mau Max Maz MaA MaC MaF MaH MaI MaM MaO MaV MaW Ma1 Mbe Mbj Mbp Mbw MbC MbF MbK MbM MbV Mca Mcg Mcm Mcr Mdd Mdk Mdm Mdr Md7 Mel Mez Me6 Mf0 Mf2 Mgi MgA Mg0 MhD Mi8 Mjm;rw [show ((j:Nat):Int).toNat=j by omega]
 rintro t1 e1 t2 e2 t3 e3;rw [al];constructor
 ·intro hi;have hi':j < sb.length:=by omega
  have hk1:=hid _ (List.getElem_mem hi');have T1:t1=sb[j].getD 1 0:=by rw [e1]; unfold rd; rw [acY hi']
  have p2:t2:=by rw [e2]; omega
  have p3:t3:=by rw [e3,T1]; exact hk1
  have hin:t1.toNat < xs.length:=by rw [T1]; omega
  have:=Bm xs sb j;refine ⟨p2,p2,p3,p3,by omega,?_⟩
  rw [show IntKind.i64.wrap ((j:Int)+1)=((j+1:Nat):Int) by rw [i64_in _ (by omega)]; rfl]
  have hh:=hn (j+1) (by omega) (by omega)
  rw [ya hi',← e1,← Gg (hl _ (getM hin))] at hh;exact hh
 ·intro hi;have hi':j=sb.length:=by omega
  rw [hi',List.take_length];exact hk _ _ (by simp) hK
theorem KX {ns ks:L2} {i j:Nat} (h:0<=rd ns i 2) (hj:j < (dX ns ks i).length):rd (dX ns ks i) j 1=rd ks (rd ns i 2+j).toNat 1/\(rd ns i 2+j).toNat < ks.length:=by
 unfold dX at hj ⊢;rw [List.length_drop,List.length_take] at hj;have e:(rd ns i 2+(j:Int)).toNat=(rd ns i 2).toNat+j:=by omega
 refine ⟨?_,by rw [e]; omega⟩
 unfold rd;have e2:((List.take (rd ns i 3).toNat ks).drop (rd ns i 2).toNat).getD j []=ks.getD ((rd ns i 2).toNat+j) []:=by
  rw [List.getD_eq_getElem?_getD,List.getD_eq_getElem?_getD,List.getElem?_drop,List.getElem?_take,if_pos (by omega)]
 have e3:∀ (x y:L1),x=y->x.getD 1 0=y.getD 1 0:=fun x y h=>by rw [h]
 refine e3 _ _ ?_;have e4:((ns.getD i []).getD 2 0+(j:Int)).toNat=(rd ns i 2).toNat+j:=e;rw [e4];exact e2
theorem lri (d n0:Nat):aG (ai TP Hv d) aQ n0 1 (lp TP aQ 1) Lri:=by
 intro st K hst;obtain ⟨ns,ks,xs,cs,i,⟨hl,hid,hm,hin,⟨h0,h1,h2⟩,rfl,rfl⟩,hK⟩:=hst;have hlen:((dX ns ks i).length:Int)=rd ns i 3 - rd ns i 2:=by
  unfold dX;rw [List.length_drop,List.length_take];omega
 rw [show Ym ns ks xs cs [] i (rd ns i 2)=Ym ns ks xs cs (fz xs ((dX ns ks i).take 0)) i (rd ns i 2+((0:Nat):Int)) by rw [show (rd ns i 2+((0:Nat):Int))=rd ns i 2 by omega]; rfl]
 refine aC (fun j:Nat=>Ym ns ks xs cs (fz xs ((dX ns ks i).take j)) i (rd ns i 2+(j:Int))) (fun j=>j<=(dX ns ks i).length) (fun j=>(dX ns ks i).length - j) ?_ (a:=0) (Nat.zero_le _)
 intro j hle k hn hk;show round (ai TP { Γ:=Hx,Λ:=_,Τ:=fun _=>none } d) _ _ _ _ _ k
 rw [rri]; delta Maa Mab Mad Mah Mai Maj Mak Mam Man Mao Maq Mar Mas Mau Max Maz MaA MaC MaF MaH MaI MaO MaT MaV MaW Ma1 Ma2 Mbe Mbj Mbp Mbv Mbw MbC MbF MbK MbV Mca Mcm Mcr Mc8 Mdd Mdk Mdm Md7 Mef Mel Mez Me6 Mfe Mf0 MgK Mg0 MhD Mi3 Mi8 Mjm;rw [show ((i:Nat):Int).toNat=i by omega]
 rintro t1 e1 t2 e2 t3 e3 t4 e4 t5 e5;have p4:t4:=by rw [e4]; omega
 refine ⟨p4,p4,?_⟩;rw [al];constructor
 ·intro hi;have hi':j < (dX ns ks i).length:=by omega
  obtain ⟨g1,g2⟩:=KX h0 hi';have hk1:=hid _ (List.getElem_mem g2);have T1:t1=ks[(rd ns i 2+(j:Int)).toNat].getD 1 0:=by rw [e1]; exact BD g2
  have p3:t3:=by rw [e3]; omega
  have p5:t5:=by rw [e5,T1]; exact hk1
  have hin2:t1.toNat < xs.length:=by rw [T1]; omega
  have:=Bm xs (dX ns ks i) j;refine ⟨p3,p3,p5,p5,by omega,?_⟩
  rw [show IntKind.i64.wrap (rd ns i 2+(j:Int)+1)=rd ns i 2+((j+1:Nat):Int) by rw [i64_in _ (by omega)]; omega]
  have hh:=hn (j+1) (by omega) (by omega)
  rw [ya hi',g1,← e1,← Gg (hl _ (getM hin2))] at hh;exact hh
 ·intro hi;have hi':j=(dX ns ks i).length:=by omega
  rw [hi',List.take_length];exact hk _ _ (by simp) hK
theorem BX {ns ks:L2} {i:Nat} {k:L1} (h:k∈dX ns ks i):k∈ks:=List.mem_of_mem_take (List.mem_of_mem_drop h)
theorem KW (ns ks:L2) (i:Nat):(dX ns ks i).length<=ks.length:=by unfold dX; rw [List.length_drop,List.length_take]; omega
theorem BV {xs sb:L2} (hm:ja xs) (hid:oB xs.length sb):ja (fz xs sb):=by
 intro r hr;unfold fz at hr;rw [List.mem_map] at hr;obtain ⟨k,hk,rfl⟩:=hr;have:=hid k hk;exact hm _ (getM (by omega))
theorem yM (ns ks xs:L2) (i:Nat):qR ns ks xs (i+1)=qR ns ks xs i++[Fg ns ks xs i]:=by
 unfold qR;rw [List.range_succ,List.map_append]
 rfl
theorem xn (ns ks xs:L2) (n:Nat):(qR ns ks xs n).length=n:=by unfold qR; simp
theorem Lw {ns:L2} (h:aI kQ ns) (i:Nat):bn (rd ns i 0):=by
 by_cases hi:i < ns.length
 ·have:=h _ (List.getElem_mem hi) 0 (by decide)
  have h1:-9223372036854775808<=ns[i].getD 0 0/\ns[i].getD 0 0<=9223372036854775807:=this;unfold rd;rw [acY hi];exact ⟨h1.1,by omega⟩
 ·have:rd ns i 0=0:=by unfold rd; simp [List.getD,List.getElem?_eq_none (by omega:ns.length<=i)]
  rw [this]; exact ⟨by decide,by decide⟩
theorem lmo (d n0:Nat):aG (ai TP Hv d) aeo n0 0 (lp TP aeo 0) Lmo:=by
 intro st K hst;obtain ⟨ns,ks,xs,⟨⟨⟨hn1,hx1⟩,hl,hmay,hid,hks,hns,hno⟩,rfl,rfl⟩,hK⟩:=hst;rw [ah] at hK;refine aC (fun i:Nat=>lu ns ks xs (qR ns ks xs i) i) (fun i=>i<=ns.length/\xP ns ks xs (ns.length - i) i=xz ns ks xs) (fun i=>ns.length - i) ?_ (a:=0) ⟨Nat.zero_le _,rfl⟩
 rintro i ⟨hle,hgo⟩ k hn hk;show round (ai TP Hv d) _ _ _ _ _ k;rw [rmo]; delta Maa Mab Mac Mad Mae Mag Mah Mai Maj Mak Mal Mam Man Mao Mar Mas Mau Max Maz MaA MaC MaF MaH MaM MaO MaT MaV MaW Ma1 Ma2 Ma3 Mbe Mbp Mbw MbC MbF MbK MbM MbT MbV Mb4 Mb7 Mcg Mcm Mcr McA McU Mc8 Mdk Mdr Md6 Med Mef Mel Meq Me6 Mf0 Mf2 Mgi MgA MgK Mg0 Mg1 MhD MhQ Mid MiX Mjc Mjo Mkm;rw [show ((i:Nat):Int).toNat=i by omega]
 rintro t1 rfl t2 rfl t3 e3;rw [al];constructor
 ·intro hi;have hi':i < ns.length:=by omega
  have p3:t3:=by rw [e3]; omega
  have hb:=hno i hi';have hidp:oB xs.length (dX ns ks i):=fun k hk=>hid k (BX hk)
  have hlp:(dX ns ks i).length<=1000:=Nat.le_trans (KW ns ks i) hks;refine ⟨p3,p3,hb,ns,ks,xs,qR ns ks xs i,dX ns ks i,i,⟨hl,hidp,hlp,rfl,rfl⟩,⟨_,rfl,rfl,BV hmay hidp⟩,?_⟩;have hgo':xP ns ks xs (ns.length - i) i=if cE (CK ns ks xs i)≠0 then cE (CK ns ks xs i) else xP ns ks xs (ns.length - (i+1)) (i+1):=by
   rw [show ns.length - i=(ns.length - (i+1))+1 by omega]; rfl
  rw [hgo'] at hgo;show br (cE (CK ns ks xs i) != 0) _ _;rw [ah];constructor
  ·intro h;rw [if_pos h] at hgo;rw [← hgo] at hK;exact hk _ _ (by simp) (hK.1 h)
  ·intro h;rw [if_neg (by simpa using h)] at hgo
   refine ⟨⟨_,rfl,rfl,Lw hn1 i⟩,by rw [xn]; omega,?_⟩
   rw [show IntKind.i64.wrap ((i:Int)+1)=((i+1:Nat):Int) by rw [i64_in _ (by omega)]; rfl]
   have hh:=hn (i+1) ⟨hi',hgo⟩ (by omega)
   rw [yM] at hh;exact hh
 ·intro hi;have hi':i=ns.length:=by omega
  subst hi';rw [Nat.sub_self] at hgo;exact hk _ _ (by simp) (hK.2 hgo.symm)
theorem lro (d n0:Nat):aG (ai TP Hv d) aQ n0 0 (lp TP aQ 0) Lro:=by
 intro st K hst;obtain ⟨ns,ks,xs,⟨⟨⟨hn1,hx1⟩,hl,hmay,hid,hks,hns,hno⟩,rfl,rfl⟩,hK⟩:=hst;rw [ah] at hK;refine aC (fun i:Nat=>Src ns ks xs (qR ns ks xs i) i) (fun i=>i<=ns.length/\xP ns ks xs (ns.length - i) i=xz ns ks xs) (fun i=>ns.length - i) ?_ (a:=0) ⟨Nat.zero_le _,rfl⟩
 rintro i ⟨hle,hgo⟩ k hn hk;show round (ai TP Hv d) _ _ _ _ _ k;rw [rro]; delta Maa Mab Mad Mae Mag Mah Mai Maj Mak Mam Man Mao Maq Mar Mas Mau Max MaA MaC MaF MaH MaI MaO MaT MaV MaW Ma2 Ma3 Mbe Mbp Mbv Mbw MbC MbD MbF MbK MbT MbV Mb7 Mca Mcg Mck Mcm Mcr McA McU Mdk MdN MdW Med Mef Mel Meq Me6 Mfe MgA MgK Mg0 MhD Mi3 Mjo;rw [show ((i:Nat):Int).toNat=i by omega]
 rintro t1 e1;rw [al];constructor
 ·intro hi;have hi':i < ns.length:=by omega
  have p1:t1:=by rw [e1]; omega
  have hb:=hno i hi';have hidp:oB xs.length (dX ns ks i):=fun k hk=>hid k (BX hk)
  refine ⟨p1,p1,ns,ks,xs,qR ns ks xs i,i,⟨hl,hid,hks,hi',hb,rfl,rfl⟩,⟨_,rfl,rfl,BV hmay hidp⟩,?_⟩;have hgo':xP ns ks xs (ns.length - i) i=if cE (CK ns ks xs i)≠0 then cE (CK ns ks xs i) else xP ns ks xs (ns.length - (i+1)) (i+1):=by
   rw [show ns.length - i=(ns.length - (i+1))+1 by omega]; rfl
  rw [hgo'] at hgo;show br (cE (CK ns ks xs i) != 0) _ _;rw [ah];constructor
  ·intro h;rw [if_pos h] at hgo;rw [← hgo] at hK;exact hk _ _ (by simp) (hK.1 h)
  ·intro h;rw [if_neg (by simpa using h)] at hgo
   rw [show ((i:Nat):Int).toNat=i by omega]
   refine ⟨⟨by omega,by omega⟩,⟨by omega,by omega⟩,⟨_,rfl,rfl,Lw hn1 i⟩,by rw [xn]; omega,?_⟩
   rw [show IntKind.i64.wrap ((i:Int)+1)=((i+1:Nat):Int) by rw [i64_in _ (by omega)]; rfl]
   have hh:=hn (i+1) ⟨hi',hgo⟩ (by omega)
   rw [yM] at hh;exact hh
 ·intro hi;have hi':i=ns.length:=by omega
  subst hi';rw [Nat.sub_self] at hgo;exact hk _ _ (by simp) (hK.2 hgo.symm)
theorem LK:KnowOk TP Hv 3:=by
 refine ti (fun g sp h=>U1 h) ?_ (fun g G h=>by cases h) 3
 intro f i S hS d n0;simp only [Hv] at hS;split at hS
 ·rename_i hf;subst hf;split at hS
  ·rename_i hi; subst hi; cases hS; exact lmo d n0
  split at hS
  ·rename_i hi; subst hi; cases hS; exact lmi d n0
  ·cases hS
 split at hS
 ·rename_i hf;subst hf;split at hS
  ·rename_i hi; subst hi; cases hS; exact lro d n0
  split at hS
  ·rename_i hi; subst hi; cases hS; exact lri d n0
  ·cases hS
 ·cases hS
theorem Rb:aa TP aeo WE:=by
 refine ab (N:=Hv) 3 LK ?_;rintro l bs _ hB ⟨ns,ks,xs,rfl,rfl,hl,hmay,hid,hks,hns,hno⟩;have hb0:aI kQ ns/\0 < kQ.length/\ns.length<=maxLen:=hB (.ro kQ ns) (by simp)
 have hb2:aI aM xs/\0 < aM.length/\xs.length<=maxLen:=hB (.ro aM xs) (by simp)
 show comes _ _ _ _ _ _ fun v bs'=>((IV.tup [.sl 0,.int .i64 (xz ns ks xs)],([.row 160 fG (Dc ns ks xs)]:List aq))=(v,bs'))
 rw [OZ]; delta Maa Mab Mad Mai Maj Mak Man Mao Mar MaH MaO MaT MaW Ma2 Ma3 Mbv MbM Mcm Mcv Mdk Me6 Mf0 Mf2 Mgi MgA MgK Mg1 Mhd;refine ⟨ns,ks,xs,⟨⟨⟨hb0.1,hb2.1⟩,hl,hmay,hid,hks,hns,hno⟩,rfl,rfl⟩,?_⟩;rw [ah];unfold Dc;exact ⟨fun h=>by rw [if_neg h],fun h=>by rw [if_pos h,h]⟩
theorem Nv:aa TP aQ Tz:=by
 refine ab (N:=Hv) 3 LK ?_;rintro l bs _ hB ⟨ns,ks,xs,rfl,rfl,hl,hmay,hid,hks,hns,hno⟩;have hb0:aI kQ ns/\0 < kQ.length/\ns.length<=maxLen:=hB (.ro kQ ns) (by simp)
 have hb2:aI aM xs/\0 < aM.length/\xs.length<=maxLen:=hB (.ro aM xs) (by simp)
 show comes _ _ _ _ _ _ fun v bs'=>((IV.agg [.sl 0,.int .i64 (xz ns ks xs)],([.row 160 fG (Dc ns ks xs)]:List aq))=(v,bs'))
 rw [J6]; delta Maa Mab Mad Mai Maj Mak Mam Mao Mar MaH MaO MaT MaW Ma2 Ma3 Mbv MbK Mca Mck Mcm Mcv Mdk MdN Mef Me6 MgA MgW Mhu;refine ⟨ns,ks,xs,⟨⟨⟨hb0.1,hb2.1⟩,hl,hmay,hid,hks,hns,hno⟩,rfl,rfl⟩,?_⟩;rw [ah];unfold Dc;exact ⟨fun h=>by rw [if_neg h],fun h=>by rw [if_pos h,h]⟩
end
end Go.Vs.RF
namespace Go.Vs.RS
open Go Go.Proofs Go.Vs
def ins (x:L1):L2->L2
 | []=>[x]
 | y :: l=>if key x<=key y then x :: y :: l else y :: ins x l
theorem GR {x z:L1}:∀ {l:L2},z∈ins x l↔z=x∨z∈l:=by
 intro l;induction l with
 | nil=>simp [ins]
 | cons y l ih=>
  unfold ins;split
  ·simp
  ·simp only [List.mem_cons,ih];constructor
   ·rintro (h | h | h)
    ·exact .inr (.inl h)
    ·exact .inl h
    ·exact .inr (.inr h)
   ·rintro (h | h | h)
    ·exact .inr (.inl h)
    ·exact .inl h
    ·exact .inr (.inr h)
theorem Qd (x:L1) (l:L2):(ins x l).length=l.length+1:=by
 induction l with
 | nil=>rfl
 | cons y l ih=>unfold ins; split <;> simp [ih]
theorem Ao {x:L1}:∀ {l:L2},(l.Pairwise fun a b=>key a<=key b)->(ins x l).Pairwise fun a b=>key a<=key b:=by
 intro l;induction l with
 | nil=>intro _; simp [ins]
 | cons y l ih=>
  intro h;unfold ins;split
  ·rename_i hxy;rw [List.pairwise_cons];refine ⟨?_,h⟩;intro z hz;rcases List.mem_cons.1 hz with rfl | hz
   ·exact hxy
   ·have:=(List.pairwise_cons.1 h).1 z hz;omega
  ·rename_i hxy;rw [List.pairwise_cons] at h ⊢;refine ⟨?_,ih h.2⟩;intro z hz;rcases GR.1 hz with rfl | hz
   ·omega
   ·exact h.1 z hz
theorem EV (x:L1) (v:Int):∀ (l:L2),(ins x l).filter (fun x=>decide (key x=v))=(x :: l).filter fun x=>decide (key x=v):=by
 intro l;induction l with
 | nil=>rfl
 | cons y l ih=>
  unfold ins;split
  ·rfl
  ·rename_i hxy;simp only [List.filter_cons] at ih ⊢;rw [ih];by_cases hy:key y=v
   ·have hx:¬ key x=v:=by omega
    simp [hy,hx]
   ·simp [hy]
theorem xC:∀ (xs:L2),hU xs->∃zs,eZ xs zs:=by
 have key1:∀ (xs:L2),∃zs:L2,zs.length=xs.length/\hO xs zs/\(zs.Pairwise fun a b=>key a<=key b)/\∀ z,z∈zs↔z∈xs:=by
  intro xs;induction xs with
  | nil=>exact ⟨[],rfl,hO.refl _,by simp,by simp⟩
  | cons x xs ih=>
   obtain ⟨zs,h1,h2,h3,h4⟩:=ih;refine ⟨ins x zs,by rw [Qd,h1]; rfl,fun v=>?_,Ao h3,fun z=>by rw [GR,h4]; simp⟩
   rw [EV];simp only [List.filter_cons];rw [h2 v]
 intro xs hx;obtain ⟨zs,h1,h2,h3,h4⟩:=key1 xs;refine ⟨zs,h1,h2,?_,fun z hz=>hx z ((h4 z).1 hz)⟩
 intro p q hpq hq;rw [List.pairwise_iff_getElem] at h3;rw [rd_key (by omega),rd_key hq]
 exact h3 p q (by omega) hq hpq
theorem zH {xs:L2} (h:hU xs):eZ xs (nU xs):=by
 obtain ⟨zs,hz⟩:=xC xs h;exact we hz
section
open Go.IntWalk
theorem eZ.perm {xs zs:L2} (h:eZ xs zs):zs.Perm xs:=by
 rw [List.perm_iff_count];intro a;have h1:=congrArg (List.count a) (h.same (key a))
 rwa [List.count_filter (by simp),List.count_filter (by simp)] at h1
theorem Ak {F:xS} {xs:L2} {lev pl:Nat}:∀ {ss:List (Nat × Nat)} {a:Nat} {ks:L1},ks.length=4->(yt F xs lev pl ss a ks).length=4
 | [],a,ks,h=>h
 | (f,t) :: ss,a,ks,h=>by simp only [yt]; exact Ak (by simpa using h)
theorem tj {F:xS} {xs:L2} {lev pl:Nat} {r:L1}:∀ {ss:List (Nat × Nat)} {a:Nat},r∈gq F xs lev pl ss a->∃p∈ss,∃a',r∈F (lev+1) (kp xs pl p.1) p.1 p.2 a'
 | [],a,h=>by simp [gq] at h
 | (f,t) :: ss,a,h=>by
  simp only [gq,List.mem_append] at h;rcases h with h | h
  ·exact ⟨(f,t),List.mem_cons_self ..,a,h⟩
  ·obtain ⟨p,hp,a',h2⟩:=tj h;exact ⟨p,List.mem_cons_of_mem _ hp,a',h2⟩
theorem rv {xs:L2} {pl to:Nat} {p:Nat × Nat}:∀ {m f:Nat},p∈ic xs pl to m f->f<=p.1/\p.1 < to/\p.2=aR xs pl to p.1
 | 0,f,h=>by simp [ic] at h
 | m+1,f,h=>by
  simp only [ic] at h;split at h
  ·rename_i hf;rcases List.mem_cons.1 h with rfl | h
   ·exact ⟨Nat.le_refl _,hf,rfl⟩
   ·obtain ⟨h1,h2,h3⟩:=rv h;have:=(dM xs pl hf).1;exact ⟨by omega,h2,h3⟩
  ·simp at h
theorem tX {xs:L2} {Q:Nat->Int->Nat->Nat->Prop}
  (hs:∀ lev key fr to,Q lev key fr to->lev < 32->4 < to - fr->∀ f,fr<=f->f < to->Q (lev+1) (kp xs (62 - 2*lev) f) f (aR xs (62 - 2*lev) to f)):
  ∀ (n lev:Nat) (key:Int) (fr to a:Nat),Q lev key fr to->∀ r∈bD xs n lev key fr to a,∃(lev':Nat) (key':Int) (fr' to':Nat) (ks:L1),r=[(lev':Int),key',(fr':Int),(to':Int)]++ks/\ks.length=4/\Q lev' key' fr' to'
 | 0,lev,key,fr,to,a,h,r,hr=>by simp [bD] at hr
 | n+1,lev,key,fr,to,a,h,r,hr=>by
  simp only [bD] at hr;split at hr
  ·simp at hr;subst hr;exact ⟨lev,key,fr,to,[-1,-1,-1,-1],rfl,rfl,h⟩
  ·rename_i hc;rcases List.mem_cons.1 hr with rfl | hr
   ·exact ⟨lev,key,fr,to,_,rfl,Ak rfl,h⟩
   ·obtain ⟨p,hp,a',h2⟩:=tj hr;obtain ⟨h3,h4,h5⟩:=rv hp;have hq:=hs lev key fr to h (by omega) (by omega) p.1 h3 h4
    rw [← h5] at hq;exact tX hs n _ _ _ _ _ hq r h2
theorem TM {ts:L2} {i:Nat} {a b c d:Int} {ks:L1} (hi:i < ts.length) (h:ts[i]=[a,b,c,d]++ks):rd ts i 0=a/\rd ts i 1=b/\rd ts i 2=c/\rd ts i 3=d:=by
 simp [rd,List.getD,hi,h]
end
end Go.Vs.RS
namespace Go.Vs.RF
open Go Go.Proofs Go.Vs Go.IntWalk
theorem tM (xs:L2):RS.eZ (mR xs xs.length) (lE xs):=RS.zH (Cw _ _)
theorem tN (xs:L2):(lE xs).length=xs.length:=by rw [(tM xs).len,se]
theorem NF {xs:L2} {k:L1} (h:k∈lE xs):∃i:Nat,i < xs.length/\k=[Zl (xs.getD i []),(i:Int)]:=by
 have h1:=(tM xs).perm.mem_iff.1 h;unfold mR at h1;rw [List.mem_map] at h1;obtain ⟨i,hi,rfl⟩:=h1;exact ⟨i,by simpa using hi,rfl⟩
theorem NG (xs:L2):oB xs.length (lE xs):=by
 intro k hk;obtain ⟨i,hi,rfl⟩:=NF hk;show 0<=(i:Int)/\(i:Int) < xs.length;omega
theorem Hk (xs:L2):RS.agC (lE xs):=by
 intro i;by_cases hi:i < (lE xs).length
 ·obtain ⟨j,hj,e⟩:=NF (List.getElem_mem hi);have:rd (lE xs) i 0=Zl (xs.getD j []):=by rw [BD hi,e]; rfl
  rw [this];exact Qa _ _
 ·have:rd (lE xs) i 0=0:=by unfold rd; simp [List.getD,List.getElem?_eq_none (by omega:(lE xs).length<=i)]
  rw [this]; exact ⟨by decide,by decide⟩
theorem SH (xs:L2):RS.fE (lE xs):=by
 have:=(tM xs).up;unfold RS.fE;exact this
theorem Lj {ks:L2} {i:Nat} (hi:i < (RS.bL ks).length):0<=rd (RS.bL ks) i 2/\rd (RS.bL ks) i 2<=rd (RS.bL ks) i 3/\rd (RS.bL ks) i 3<=ks.length:=by
 have hne:ks≠[]:=by rintro rfl; rw [RS.g9] at hi; simp at hi
 have hR:RS.fE ks:=Classical.byContradiction fun h=>by rw [RS.kY h] at hi; simp at hi
 have hpos:0 < ks.length:=List.length_pos_iff.2 hne;have key:=RS.tX (xs:=ks) (Q:=fun lev key fr to=>fr < to/\to<=ks.length) (by
  rintro lev key fr to ⟨h1,h2⟩ h6 h7 f h8 h9;obtain ⟨s1,s2,s3,s4⟩:=RS.dM ks (62 - 2*lev) h9;exact ⟨s1,by omega⟩) 33 0 0 0 ks.length 0 ⟨hpos,Nat.le_refl _⟩ (RS.bL ks)[i] (by rw [← RS.fZ hne hR]; exact List.getElem_mem hi)
 obtain ⟨lev,key,fr,to,l,e,hl,h1,h2⟩:=key;obtain ⟨r0,r1,r2,r3⟩:=RS.TM hi e;rw [r2,r3];omega
theorem Iq {ks:L2} (h:ks.length<=1000):(RS.bL ks).length<=1000000:=by
 by_cases hne:ks=[]
 ·rw [hne,RS.g9]; simp
 by_cases hR:RS.fE ks
 ·rw [RS.fZ hne hR];have hpos:0 < ks.length:=List.length_pos_iff.2 hne;have:=RS.nR ks 33 0 0 0 ks.length 0 hpos;omega
 ·rw [RS.kY hR]; simp
theorem Hf {xs:L2} (hl:wT 20 xs) (hm:ja xs) (h:xs.length<=1000):EB [IV.sl 0,IV.sl 1,IV.sl 2] [aq.ro kQ (RS.bL (lE xs)),aq.ro [.u64,.i64] (lE xs),aq.ro aM xs]:=
 ⟨_,_,_,rfl,rfl,hl,hm,NG xs,by rw [tN]; exact h,Iq (by rw [tN]; exact h),fun i hi=>Lj hi⟩
theorem Ho {xs:L2} (h:xs.length<=1000):RS.mj [IV.sl 0] [aq.ro [.u64,.i64] (lE xs)]:=⟨_,rfl,rfl,by rw [tN]; exact h,Hk xs⟩
theorem V7:bn 0:=⟨by decide,by decide⟩
theorem zg (w:Nat):∀ (xs:L2) (a:Int),bn (qf w xs a).2
 | [],a=>V7
 | r :: l,a=>by
  unfold qf;split
  ·unfold Kg; split
   ·exact ⟨by decide,by decide⟩
   ·exact lV _
  ·split
   ·exact lV _
   ·exact zg w l _
theorem NL (w:Nat) (xs:L2):bn (uZ w xs):=by
 unfold uZ;split
 ·exact vA _ _
 ·exact zg w xs 0
theorem Yd (xs:L2):bn (cE xs):=by
 unfold cE;split
 ·exact ⟨by decide,by decide⟩
 ·split
  ·exact zg 0 xs 0
  ·split
   ·exact NL _ _
   ·exact NL _ _
theorem Hg (ns ks xs:L2):∀ m i,bn (xP ns ks xs m i)
 | 0,i=>V7
 | m+1,i=>by
  unfold xP;split
  ·exact Yd _
  ·exact Hg ns ks xs m (i+1)
theorem Vb (ns ks xs:L2):bn (xz ns ks xs):=Hg _ _ _ _ _
end Go.Vs.RF
namespace Go.Vs.RS
open Go Go.Proofs Go.Vs Go.IntWalk
def nu (ts:L2) (i:Nat):Nat->Int
 | 0=>rd ts i 2
 | q+1=>if rd ts i (4+q) < 0 then nu ts i q else rd ts (rd ts i (4+q)).toNat 3
def gD (ts:L2) (i:Nat):Nat->Int
 | 0=>0
 | q+1=>if rd ts i (4+q) < 0 then gD ts i q else gD ts i q+1
def Sx (ts:L2) (i q:Nat):Prop:=rd ts i (4+q) < 0∨((i:Int) < rd ts i (4+q)/\rd ts i (4+q) < ts.length/\rd ts (rd ts i (4+q)).toNat 2=nu ts i q/\rd ts (rd ts i (4+q)).toNat 0=rd ts i 0+1)
def z9 (ts:L2) (len:Nat) (i:Nat):Prop:=
 0<=rd ts i 2/\rd ts i 3<=len/\rd ts i 2 < rd ts i 3/\0<=rd ts i 0/\rd ts i 0<=32/\(∀ q,q < 4->Sx ts i q)/\
 ((gD ts i 4=0/\¬ (4 < rd ts i 3 - rd ts i 2/\rd ts i 0 < 32))∨(gD ts i 4≠0/\nu ts i 4=rd ts i 3/\4 < rd ts i 3 - rd ts i 2))
def tm (ts:L2) (j i:Nat):Bool:=decide (gD ts i 4=0/\rd ts i 2<=(j:Int)/\(j:Int) < rd ts i 3)
theorem tV (ts:L2) (i:Nat):∀ q,0<=gD ts i q/\gD ts i q<=q
 | 0=>by simp [gD]
 | q+1=>by
  have:=tV ts i q;simp only [gD];split <;> omega
structure At (ts T:L2) (a:Nat):Prop where
 len:a+T.length<=ts.length
 get:∀ j,j < T.length->∀ c,rd ts (a+j) c=rd T j c
theorem At.left {ts A B:L2} {a:Nat} (h:At ts (A++B) a):At ts A a:=by
 refine ⟨by have:=h.len; rw [List.length_append] at this; omega,fun j hj c=>?_⟩
 rw [h.get j (by rw [List.length_append]; omega)]
 simp [rd,List.getD,List.getElem?_append_left hj]
theorem At.right {ts A B:L2} {a:Nat} (h:At ts (A++B) a):At ts B (a+A.length):=by
 refine ⟨by have:=h.len; rw [List.length_append] at this; omega,fun j hj c=>?_⟩
 rw [Nat.add_assoc,h.get (A.length+j) (by rw [List.length_append]; omega)]
 simp [rd,List.getD,List.getElem?_append_right]
theorem At.tail {ts B:L2} {x:L1} {a:Nat} (h:At ts (x :: B) a):At ts B (a+1):=At.right (A:=[x]) h
theorem At.head {ts B:L2} {x:L1} {a:Nat} (h:At ts (x :: B) a) (c:Nat):rd ts a c=x.getD c 0:=h.get 0 (by simp) c
def qo (ts:L2) (b a m:Nat):Nat:=(List.range m).countP fun j=>tm ts b (a+j)
theorem ID (ts:L2) (b a:Nat):qo ts b a 0=0:=rfl
theorem Cq (ts:L2) (b a m n:Nat):qo ts b a (m+n)=qo ts b a m+qo ts b (a+m) n:=by
 unfold qo;rw [List.range_add,List.countP_append,List.countP_map]
 congr 1
 apply List.countP_congr;intro j _;simp [Nat.add_assoc]
theorem wU (ts:L2) (b a:Nat):qo ts b a 1=if tm ts b a then 1 else 0:=by
 unfold qo;simp [List.range_succ,List.countP_append,List.countP_singleton]
theorem th {F:xS} {xs:L2} {lev pl q:Nat} {d:Int}:∀ {ss:List (Nat × Nat)} {a:Nat} {ks:L1},(∀ p∈ss,kq xs pl p.1≠q)->(yt F xs lev pl ss a ks).getD q d=ks.getD q d
 | [],a,ks,h=>rfl
 | (f,t) :: ss,a,ks,h=>by
  simp only [yt];rw [th (fun p hp=>h p (List.mem_cons_of_mem _ hp))]
  have:=h (f,t) (List.mem_cons_self ..);simp only [List.getD,List.getElem?_set_ne this]
theorem yr {F:xS} {xs:L2} {lev pl q:Nat} {d:Int}:∀ {ss:List (Nat × Nat)} {a:Nat} {ks ks':L1},ks.length=ks'.length->ks.getD q d=ks'.getD q d->
  (yt F xs lev pl ss a ks).getD q d=(yt F xs lev pl ss a ks').getD q d
 | [],a,ks,ks',hl,h=>h
 | (f,t) :: ss,a,ks,ks',hl,h=>by
  simp only [yt];refine yr (by simpa using hl) ?_
  by_cases e:kq xs pl f=q
  ·simp only [e,List.getD,List.getElem?_set_self'];by_cases hq:q < ks.length
   ·have hq':q < ks'.length:=by omega
    simp [hq,hq']
   ·have hq':¬ q < ks'.length:=by omega
    simp [hq,hq']
  ·simp only [List.getD,List.getElem?_set_ne e] at h ⊢;exact h
structure Good (ts:L2) (len lev fr to a m:Nat):Prop where
 r0:rd ts a 0=lev
 r2:rd ts a 2=fr
 r3:rd ts a 3=to
 ok:∀ j,a<=j->j < a+m->z9 ts len j
 qo:∀ b,qo ts b a m=if fr<=b/\b < to then 1 else 0
structure Walk (ts xs:L2) (F:xS) (lev fr to a K:Nat) (KS:L1) (q f a':Nat):Prop where
 lo:fr<=f
 hi:f<=to
 la:a+1<=a'
 from_:nu ts a q=f
 kids:gD ts a q=0↔f=fr
 rest:∀ j,f<=j->j < to->(q:Int)<=pV (rd xs j 0) lev
 at_:At ts (gq F xs lev (62 - 2*lev) (ic xs (62 - 2*lev) to (to - f) f) a') a'
 ks:∀ q',q<=q'->q' < 4->KS.getD q' 0=(yt F xs lev (62 - 2*lev) (ic xs (62 - 2*lev) to (to - f) f) a' [-1,-1,-1,-1]).getD q' 0
 kidok:∀ q',q' < q->Sx ts a q'
 ok:∀ j,a+1<=j->j < a'->z9 ts xs.length j
 qo:∀ b,qo ts b (a+1) (a' - (a+1))=if fr<=b/\b < f then 1 else 0
 sum:a' + (gq F xs lev (62 - 2*lev) (ic xs (62 - 2*lev) to (to - f) f) a').length=a+1+K
theorem EO {xs:L2} {lev f:Nat} (h:lev<=31):(kq xs (62 - 2*lev) f:Int)=pV (rd xs f 0) lev:=by
 rw [sZ h];unfold kq;omega
theorem HB {ts xs:L2} {n lev fr to a K:Nat} {key:Int} {KS:L1} (hpart:Part xs lev fr to) (hrow:∀ q,q < 4->rd ts a (4+q)=KS.getD q 0) (hr0:rd ts a 0=lev)
  (ih:∀ f t a',At ts (bD xs (n+1) (lev+1) (kp xs (62 - 2*lev) f) f t a') a'->f < t->t<=to->fr<=f->Lc xs (lev+1) f t->Good ts xs.length (lev+1) f t a' (bD xs (n+1) (lev+1) (kp xs (62 - 2*lev) f) f t a').length)
  {q f a':Nat} (hq:q < 4) (w:Walk ts xs (bD xs (n+1)) lev fr to a K KS q f a'):∃f2 a2,Walk ts xs (bD xs (n+1)) lev fr to a K KS (q+1) f2 a2:=by
 by_cases hc:f < to/\pV (rd xs f 0) lev=q
 ·obtain ⟨hft,hqf⟩:=hc;obtain ⟨s1,s2,s3,s4⟩:=dM xs (62 - 2*lev) hft;have hat:=w.at_;have hks:=w.ks;have hsum:=w.sum;rw [o9 hft] at hat hks hsum;simp only [gq,yt] at hat hks hsum;have hone:Lc xs (lev+1) f (aR xs (62 - 2*lev) to f):=by
   intro i j h1 h2 h3 h4;rw [show 64 - 2*(lev+1)=62 - 2*lev by omega,s3 i h1 h2,s3 j h3 h4]
  have hg:=ih f (aR xs (62 - 2*lev) to f) a' hat.left s1 s2 w.lo hone;generalize hT:bD xs (n+1) (lev+1) (kp xs (62 - 2*lev) f) f (aR xs (62 - 2*lev) to f) a' = T at *;have hTpos:0 < T.length:=by rw [← hT]; exact Bk _ _ _ _ _ _ _
  have hkq:kq xs (62 - 2*lev) f=q:=by have:=EO (xs:=xs) (f:=f) hpart.lv; omega
  rw [hkq] at hks;have hup:∀ j,aR xs (62 - 2*lev) to f<=j->j < to->((q+1:Nat):Int)<=pV (rd xs j 0) lev:=by
   intro j hj1 hj2;have hge:=w.rest (aR xs (62 - 2*lev) to f) (by omega) (by omega)
   have hu:=hpart.up (i:=aR xs (62 - 2*lev) to f) (by have:=w.lo; omega) hj1 hj2
   have hne:pV (rd xs (aR xs (62 - 2*lev) to f) 0) lev≠q:=by
    rcases s4 with s4 | s4
    ·omega
    ·intro h5;apply s4;rw [hpart.same (by have:=w.lo; omega) (by omega) w.lo hft,h5,hqf]
   omega
  have hothers:∀ p∈ic xs (62 - 2*lev) to (to - aR xs (62 - 2*lev) to f) (aR xs (62 - 2*lev) to f),kq xs (62 - 2*lev) p.1≠q:=by
   intro p hp;obtain ⟨m1,m2,_⟩:=rv hp;have h1:=hup p.1 m1 m2;have h2:=EO (xs:=xs) (f:=p.1) hpart.lv;omega
  have hkid:rd ts a (4+q)=(a':Int):=by
   rw [hrow q hq,hks q (Nat.le_refl _) hq,th hothers];have:q=0∨q=1∨q=2∨q=3:=by omega
   rcases this with rfl | rfl | rfl | rfl <;> rfl
  have hneg:¬ rd ts a (4+q) < 0:=by rw [hkid]; omega
  have hlen:=hat.len;rw [List.length_append] at hlen;refine ⟨aR xs (62 - 2*lev) to f,a' + T.length,by have:=w.lo; omega,s2,by have:=w.la; omega,?_,?_,hup,hat.right,?_,?_,?_,?_,?_⟩
  ·simp only [nu];rw [if_neg hneg,hkid,Int.toNat_natCast,hg.r3]
  ·simp only [gD];rw [if_neg hneg];have:=tV ts a q;have:=w.lo;constructor <;> intro h <;> omega
  ·intro q' h1 h2;rw [hks q' (by omega) h2]
   refine yr (by simp) ?_
   have hne:q≠q':=by omega
   simp only [List.getD,List.getElem?_set_ne hne]
  ·intro q' hq';rcases Nat.eq_or_lt_of_le (Nat.le_of_lt_succ hq') with rfl | hlt
   ·refine .inr ⟨?_,?_,?_,?_⟩
    ·rw [hkid]; have:=w.la; omega
    ·rw [hkid]; omega
    ·rw [hkid,Int.toNat_natCast,hg.r2,w.from_]
    ·rw [hkid,Int.toNat_natCast,hg.r0,hr0]; push_cast; rfl
   ·exact w.kidok q' hlt
  ·intro j h1 h2;rcases Nat.lt_or_ge j a' with h3 | h3
   ·exact w.ok j h1 h3
   ·exact hg.ok j h3 h2
  ·intro b;have hla:=w.la;have h1:=w.qo b;have h2:=hg.qo b;rw [show a' + T.length - (a+1)=(a' - (a+1))+T.length by omega,Cq,show a+1+(a' - (a+1))=a' by omega,h1,h2]
   have:=w.lo;by_cases c1:fr<=b/\b < f
   ·rw [if_pos c1,if_neg (by omega),if_pos (by omega)]
   ·rw [if_neg c1];by_cases c2:f<=b/\b < aR xs (62 - 2*lev) to f
    ·rw [if_pos c2,if_pos (by omega)]
    ·rw [if_neg c2,if_neg (by omega)]
  ·rw [List.length_append] at hsum;omega
 ·have hothers:∀ p∈ic xs (62 - 2*lev) to (to - f) f,kq xs (62 - 2*lev) p.1≠q:=by
   intro p hp;obtain ⟨m1,m2,_⟩:=rv hp;have h1:=w.rest f (Nat.le_refl _) (by omega)
   have h2:=EO (xs:=xs) (f:=p.1) hpart.lv;have h3:=hpart.up w.lo m1 m2;have h4:pV (rd xs f 0) lev≠q:=fun h=>hc ⟨by omega,h⟩
   omega
  have hkid:rd ts a (4+q) = -1:=by
   rw [hrow q hq,w.ks q (Nat.le_refl _) hq,th hothers];have:q=0∨q=1∨q=2∨q=3:=by omega
   rcases this with rfl | rfl | rfl | rfl <;> rfl
  have hneg:rd ts a (4+q) < 0:=by rw [hkid]; decide
  refine ⟨f,a',w.lo,w.hi,w.la,?_,?_,?_,w.at_,fun q' h1 h2=>w.ks q' (by omega) h2,?_,w.ok,w.qo,w.sum⟩
  ·simp only [nu];rw [if_pos hneg];exact w.from_
  ·simp only [gD];rw [if_pos hneg];exact w.kids
  ·intro j hj1 hj2;have h1:=w.rest f (Nat.le_refl _) (by omega)
   have h3:=hpart.up w.lo hj1 hj2;have h4:pV (rd xs f 0) lev≠q:=fun h=>hc ⟨by omega,h⟩
   omega
  ·intro q' hq';rcases Nat.eq_or_lt_of_le (Nat.le_of_lt_succ hq') with rfl | hlt
   ·exact .inl hneg
   ·exact w.kidok q' hlt
theorem leaves {ts xs:L2} (hR:fE xs):∀ (n lev:Nat) (key:Int) (fr to a:Nat),At ts (bD xs (n+1) lev key fr to a) a->fr < to->to<=xs.length->lev+n=32->Lc xs lev fr to->
  Good ts xs.length lev fr to a (bD xs (n+1) lev key fr to a).length:=by
 intro n;induction n with
 | zero=>
  intro lev key fr to a hat h1 h2 h3 hone;have hl:lev=32:=by omega
  subst hl;have e:bD xs (0+1) 32 key fr to a=[[((32:Nat):Int),key,(fr:Int),(to:Int),-1,-1,-1,-1]]:=by
   simp only [bD]; rw [if_pos (by omega)]
  rw [e] at hat ⊢;have hd:=hat.head;have d0:rd ts a 0=32:=by rw [hd]; rfl
  have d2:rd ts a 2=fr:=by rw [hd]; rfl
  have d3:rd ts a 3=to:=by rw [hd]; rfl
  have dk:∀ q,q < 4->rd ts a (4+q) = -1:=by
   intro q hq;have:q=0∨q=1∨q=2∨q=3:=by omega
   rcases this with rfl | rfl | rfl | rfl <;> (rw [hd]; rfl)
  have hw:gD ts a 4=0:=by simp [gD,dk 0 (by omega),dk 1 (by omega),dk 2 (by omega),dk 3 (by omega)]
  refine ⟨by rw [d0]; rfl,d2,d3,?_,?_⟩
  ·intro j hj1 hj2;simp at hj2;have:j=a:=by omega
   subst this;refine ⟨by omega,by omega,by omega,by omega,by omega,fun q hq=>.inl (by rw [dk q hq]; decide),.inl ⟨hw,by omega⟩⟩
  ·intro b;rw [List.length_singleton,wU];unfold tm;rw [hw,d2,d3];by_cases c:fr<=b/\b < to
   ·rw [if_pos c,if_pos (by simp; omega)]
   ·rw [if_neg c,if_neg (by simp; omega)]
 | succ n ih=>
  intro lev key fr to a hat h1 h2 h3 hone;by_cases hc:to - fr<=4
  ·have e:bD xs (n+1+1) lev key fr to a=[[(lev:Int),key,(fr:Int),(to:Int),-1,-1,-1,-1]]:=by
    rw [bD]; rw [if_pos (.inl hc)]
   rw [e] at hat ⊢;have hd:=hat.head;have d0:rd ts a 0=lev:=by rw [hd]; rfl
   have d2:rd ts a 2=fr:=by rw [hd]; rfl
   have d3:rd ts a 3=to:=by rw [hd]; rfl
   have dk:∀ q,q < 4->rd ts a (4+q) = -1:=by
    intro q hq;have:q=0∨q=1∨q=2∨q=3:=by omega
    rcases this with rfl | rfl | rfl | rfl <;> (rw [hd]; rfl)
   have hw:gD ts a 4=0:=by simp [gD,dk 0 (by omega),dk 1 (by omega),dk 2 (by omega),dk 3 (by omega)]
   refine ⟨d0,d2,d3,?_,?_⟩
   ·intro j hj1 hj2;simp at hj2;have:j=a:=by omega
    subst this;refine ⟨by omega,by omega,by omega,by omega,by omega,fun q hq=>.inl (by rw [dk q hq]; decide),.inl ⟨hw,by omega⟩⟩
   ·intro b;rw [List.length_singleton,wU];unfold tm;rw [hw,d2,d3];by_cases c:fr<=b/\b < to
    ·rw [if_pos c,if_pos (by simp; omega)]
    ·rw [if_neg c,if_neg (by simp; omega)]
  ·have e:bD xs (n+1+1) lev key fr to a=([(lev:Int),key,(fr:Int),(to:Int)]++yt (bD xs (n+1)) xs lev (62 - 2*lev) (ic xs (62 - 2*lev) to (to - fr) fr) (a+1) [-1,-1,-1,-1]) ::
     gq (bD xs (n+1)) xs lev (62 - 2*lev) (ic xs (62 - 2*lev) to (to - fr) fr) (a+1):=by
    rw [bD]; rw [if_neg (by omega)]
   rw [e] at hat ⊢;generalize hKS:yt (bD xs (n+1)) xs lev (62 - 2*lev) (ic xs (62 - 2*lev) to (to - fr) fr) (a+1) [-1,-1,-1,-1]=KS at *;have hd:=hat.head;have d0:rd ts a 0=lev:=by rw [hd]; rfl
   have d2:rd ts a 2=fr:=by rw [hd]; rfl
   have d3:rd ts a 3=to:=by rw [hd]; rfl
   have hrow:∀ q,q < 4->rd ts a (4+q)=KS.getD q 0:=by
    intro q hq;rw [hd];simp only [List.getD];rw [List.getElem?_append_right (by simp)]
    simp
   have hpart:Part xs lev fr to:=⟨by omega,hR,hone,h2⟩
   have w0:Walk ts xs (bD xs (n+1)) lev fr to a (gq (bD xs (n+1)) xs lev (62 - 2*lev) (ic xs (62 - 2*lev) to (to - fr) fr) (a+1)).length KS 0 fr (a+1):=by
    refine ⟨Nat.le_refl _,by omega,Nat.le_refl _,by simp only [nu]; exact d2,by simp [gD],fun j _ _=>(zM _ _).1,hat.tail,fun q' _ _=>by rw [hKS],fun q' h=>by omega,fun j hj1 hj2=>by omega,?_,rfl⟩
    intro b;rw [Nat.sub_self,ID,if_neg (by omega)]
   have step:=fun {Kl q f a':Nat} (hq:q < 4) (w:Walk ts xs (bD xs (n+1)) lev fr to a Kl KS q f a')=>HB (key:=key) hpart hrow d0 (fun f t a' hat' hft htt hff hone'=>ih (lev+1) _ f t a' hat' hft (by omega) (by omega) hone') hq w
   obtain ⟨f1,a1,w1⟩:=step (by omega) w0
   obtain ⟨f2,a2,w2⟩:=step (by omega) w1
   obtain ⟨f3,a3,w3⟩:=step (by omega) w2
   obtain ⟨f4,a4,w4⟩:=step (by omega) w3
   have hf4:f4=to:=by
    rcases Nat.lt_or_ge f4 to with h | h
    ·have k1:=w4.rest f4 (Nat.le_refl _) h;have k2:=(zM (rd xs f4 0) lev).2;omega
    ·have:=w4.hi; omega
   subst hf4;have hsum:=w4.sum;rw [agx (Nat.le_refl _)] at hsum;simp only [gq,List.length_nil,Nat.add_zero] at hsum;have hwk:gD ts a 4≠0:=fun h=>by have:=w4.kids.1 h; omega
   refine ⟨d0,d2,d3,?_,?_⟩
   ·intro j hj1 hj2;simp only [List.length_cons] at hj2;rcases Nat.eq_or_lt_of_le hj1 with rfl | hlt
    ·refine ⟨by omega,by omega,by omega,by omega,by omega,fun q hq=>w4.kidok q hq,.inr ⟨hwk,by rw [w4.from_,d3],by omega⟩⟩
    ·exact w4.ok j hlt (by omega)
   ·intro b;rw [List.length_cons,Nat.add_comm,Cq,wU];have hnl:tm ts b a=false:=by unfold tm; simp [hwk]
    rw [hnl];have:=w4.qo b;rw [hsum] at this;rw [show a+1+(gq (bD xs (n+1)) xs lev (62 - 2*lev) (ic xs (62 - 2*lev) f4 (f4 - fr) fr) (a+1)).length - (a+1)=(gq (bD xs (n+1)) xs lev (62 - 2*lev) (ic xs (62 - 2*lev) f4 (f4 - fr) fr) (a+1)).length by omega] at this
    rw [this];simp
theorem FG {xs:L2} (hne:xs≠[]) (hR:fE xs) (hk:agC xs):Good (bL xs) xs.length 0 0 xs.length 0 (bL xs).length:=by
 rw [fZ hne hR];refine leaves hR 32 0 0 0 xs.length 0 ⟨by rw [Nat.zero_add]; exact Nat.le_refl _,fun j _ c=>by rw [Nat.zero_add]⟩ (List.length_pos_iff.2 hne) (Nat.le_refl _) rfl ?_
 intro i j _ _ _ _;have h4:=hk i;have h5:=hk j;show shr (rd xs i 0) 64=shr (rd xs j 0) 64;rw [gH,gH,Int.ediv_eq_zero_of_lt h4.1 (by simpa using h4.2),Int.ediv_eq_zero_of_lt h5.1 (by simpa using h5.2)]
theorem LB {F:xS} {xs:L2} {lev pl:Nat}:∀ {ss:List (Nat × Nat)} {a:Nat} {ks:L1},(∀ x∈ks,(-1:Int)<=x)->∀ x∈yt F xs lev pl ss a ks,(-1:Int)<=x
 | [],a,ks,h=>h
 | (f,t) :: ss,a,ks,h=>by
  simp only [yt];refine LB ?_;intro x hx;rcases List.mem_or_eq_of_mem_set hx with h1 | rfl
  ·exact h x h1
  ·omega
theorem FR {xs:L2}:∀ (n lev:Nat) (key:Int) (fr to a:Nat),∀ r∈bD xs n lev key fr to a,∃(x0 x1 x2 x3:Int) (ks:L1),r=[x0,x1,x2,x3]++ks/\ks.length=4/\∀ x∈ks,(-1:Int)<=x
 | 0,lev,key,fr,to,a,r,hr=>by simp [bD] at hr
 | n+1,lev,key,fr,to,a,r,hr=>by
  simp only [bD] at hr;split at hr
  ·simp at hr;subst hr;exact ⟨_,_,_,_,[-1,-1,-1,-1],rfl,rfl,by simp⟩
  ·rcases List.mem_cons.1 hr with rfl | hr
   ·exact ⟨_,_,_,_,_,rfl,Ak rfl,LB (by simp)⟩
   ·obtain ⟨p,hp,a',h2⟩:=tj hr;exact FR n _ _ _ _ _ r h2
theorem UM {xs:L2} {i q:Nat} (hi:i < (bL xs).length) (hq:q < 4):(-1:Int)<=rd (bL xs) i (4+q):=by
 have hne:xs≠[]:=by rintro rfl; rw [g9] at hi; simp at hi
 have hR:fE xs:=Classical.byContradiction fun h=>by rw [kY h] at hi; simp at hi
 obtain ⟨x0,x1,x2,x3,ks,e,hl,h⟩:=FR (xs:=xs) 33 0 0 0 xs.length 0 (bL xs)[i] (by rw [← fZ hne hR]; exact List.getElem_mem hi)
 have:rd (bL xs) i (4+q)=ks.getD q 0:=by
  unfold rd;rw [show (bL xs).getD i []=(bL xs)[i] by simp [List.getD,hi],e]
  match q,hq with
  | 0,_=>rfl
  | 1,_=>rfl
  | 2,_=>rfl
  | 3,_=>rfl
 rw [this,show ks.getD q 0=ks[q] by simp [List.getD,(by omega:q < ks.length)]]
 exact h _ (List.getElem_mem _)
theorem NH {xs:L2} (hR:fE xs) (hk:agC xs) {i:Nat} (hi:i < (bL xs).length):z9 (bL xs) xs.length i:=by
 have hne:xs≠[]:=by rintro rfl; rw [g9] at hi; simp at hi
 exact (FG hne hR hk).ok i (Nat.zero_le _) (by omega)
end Go.Vs.RS
namespace Go.Vs.RF
open Go Go.Proofs Go.Vs Go.IntWalk
def lN (ns:L2) (n q:Nat):List Nat:=if 0<=rd ns n (4+q) then [(rd ns n (4+q)).toNat] else []
def gm (ns:L2) (n:Nat):List Nat:=lN ns n 0++(lN ns n 1++(lN ns n 2++lN ns n 3))
def ot (ns:L2) (n:Nat):Bool:=decide (rd ns n 4 < 0/\rd ns n 5 < 0/\rd ns n 6 < 0/\rd ns n 7 < 0)
def wt (ns:L2) (n:Nat):Nat:=(rd ns n 3 - rd ns n 2).toNat
def lv (ns:L2) (n:Nat):Nat:=(rd ns n 0).toNat
def sK (ns:L2):List Nat->Nat
 | []=>0
 | n :: l=>wt ns n+sK ns l
def Ca (ns:L2):List Nat->Nat
 | []=>0
 | n :: l=>wt ns n*(34 - lv ns n)+Ca ns l
theorem ra (ns:L2):∀ a b,sK ns (a++b)=sK ns a+sK ns b
 | [],b=>by simp [sK]
 | n :: a,b=>by simp only [List.cons_append,sK,ra ns a b]; omega
theorem GA (ns:L2):∀ a b,Ca ns (a++b)=Ca ns a+Ca ns b
 | [],b=>by simp [Ca]
 | n :: a,b=>by simp only [List.cons_append,Ca,GA ns a b]; omega
def hasB (ns ks:L2) (n:Nat) (i:Int):Bool:=(dX ns ks n).any fun k=>decide (k.getD 1 0=i)
def gr (ns:L2) (len:Nat):Prop:=∀ n,n < ns.length->RS.z9 ns len n/\∀ q,q < 4->(-1:Int)<=rd ns n (4+q)
theorem O1 {ks:L2} (hR:RS.fE ks) (hk:RS.agC ks):gr (RS.bL ks) ks.length:=fun _ hn=>⟨RS.NH hR hk hn,fun _ hq=>RS.UM hn hq⟩
section
variable {ns:L2} {len:Nat}
theorem pD (h:gr ns len) {n:Nat} (hn:n < ns.length) {q:Nat} (hq:q < 4):∀ k∈lN ns n q,k < ns.length/\lv ns k=lv ns n+1:=by
 intro k hk;unfold lN at hk;split at hk
 ·rename_i h0;rw [List.mem_singleton] at hk;subst hk;obtain ⟨⟨_,_,_,h5,h6,h7,_⟩,_⟩:=h n hn;rcases h7 q hq with h8 | ⟨h8,h9,h10,h11⟩
  ·omega
  ·refine ⟨by omega,?_⟩
   unfold lv;rw [h11];omega
 ·cases hk
theorem vq (h:gr ns len) {n:Nat} (hn:n < ns.length):∀ k∈gm ns n,k < ns.length/\lv ns k=lv ns n+1:=by
 intro k hk;unfold gm at hk;simp only [List.mem_append] at hk;rcases hk with hk | hk | hk | hk
 ·exact pD h hn (by omega) k hk
 ·exact pD h hn (by omega) k hk
 ·exact pD h hn (by omega) k hk
 ·exact pD h hn (by omega) k hk
theorem r8 (h:gr ns len) {n:Nat} (hn:n < ns.length) {q:Nat} (hq:q < 4):((sK ns (lN ns n q):Nat):Int)=RS.nu ns n (q+1) - RS.nu ns n q:=by
 obtain ⟨⟨_,_,_,h5,h6,h7,_⟩,_⟩:=h n hn;unfold lN;simp only [RS.nu];rcases h7 q hq with h8 | ⟨h8,h9,h10,h11⟩
 ·rw [if_neg (by omega),if_pos h8]; simp [sK]
 ·rw [if_pos (by omega),if_neg (by omega)]
  obtain ⟨⟨_,_,g3,_⟩,_⟩:=h (rd ns n (4+q)).toNat (by omega)
  rw [← h10];simp only [sK,wt];omega
theorem IB (h:gr ns len) {n:Nat} (hn:n < ns.length):ot ns n=true↔RS.gD ns n 4=0:=by
 unfold ot;simp only [decide_eq_true_eq,RS.gD,Nat.reduceAdd];repeat' split
 all_goals (constructor <;> intro hh <;> omega)
theorem r9 (h:gr ns len) {n:Nat} (hn:n < ns.length) (hl:ot ns n=false):sK ns (gm ns n)=wt ns n:=by
 have a0:=r8 h hn (q:=0) (by omega)
 have a1:=r8 h hn (q:=1) (by omega)
 have a2:=r8 h hn (q:=2) (by omega)
 have a3:=r8 h hn (q:=3) (by omega)
 have hk:¬ RS.gD ns n 4=0:=fun e=>by rw [(IB h hn).2 e] at hl; cases hl
 obtain ⟨⟨h1,h2,h3,h5,h6,h7,h8⟩,_⟩:=h n hn;simp only [Nat.reduceAdd] at a0 a1 a2 a3;have e0:RS.nu ns n 0=rd ns n 2:=rfl;have e4:RS.nu ns n 4=rd ns n 3:=by
  rcases h8 with ⟨h8,_⟩ | ⟨_,h8,_⟩
  ·exact absurd h8 hk
  ·exact h8
 unfold gm wt;rw [ra,ra,ra];omega
theorem nN (h:gr ns len) {n:Nat} (hn:n < ns.length):1<=wt ns n/\wt ns n<=len/\lv ns n<=32:=by
 obtain ⟨⟨h1,h2,h3,h5,h6,h7,h8⟩,_⟩:=h n hn;unfold wt lv;omega
theorem GI (h:gr ns len):∀ {l:List Nat},(∀ n∈l,n < ns.length)->l.length<=sK ns l
 | [],_=>by simp
 | n :: l,hl=>by
  have:=GI h (l:=l) fun k hk=>hl k (List.mem_cons_of_mem _ hk)
  have:=(nN h (hl n (List.mem_cons_self ..))).1;simp only [List.length_cons,sK];omega
theorem Gz {c:Nat}:∀ {l:List Nat},(∀ n∈l,lv ns n=c)->Ca ns l=sK ns l*(34 - c)
 | [],_=>by simp [Ca,sK]
 | n :: l,hl=>by
  simp only [Ca,sK];rw [Gz (fun k hk=>hl k (List.mem_cons_of_mem _ hk)),hl n (List.mem_cons_self ..),Nat.add_mul]
theorem Ln (h:gr ns len) {n:Nat} (hn:n < ns.length) (hl:ot ns n=false):Ca ns (gm ns n) < wt ns n*(34 - lv ns n):=by
 rw [Gz fun k hk=>(vq h hn k hk).2,r9 h hn hl]
 have:=nN h hn;exact Nat.mul_lt_mul_of_pos_left (by omega) (by omega)
theorem PB (h:gr ns len) {n:Nat} (hn:n < ns.length):0 < wt ns n*(34 - lv ns n):=by
 have:=nN h hn;exact Nat.mul_pos (by omega) (by omega)
theorem Pn {ks:L2} (h:gr ns ks.length) {n:Nat} (hn:n < ns.length):(dX ns ks n).length=wt ns n:=by
 obtain ⟨⟨h1,h2,h3,_⟩,_⟩:=h n hn;unfold dX wt;rw [List.length_drop,List.length_take];omega
end
section
variable {σ:Type}
def dF {α:Type} (f:α->σ->σ × Int):List α->σ->σ × Int
 | [],s=>(s,0)
 | a :: l,s=>if (f a s).2≠0 then f a s else dF f l (f a s).1
theorem By {α:Type} (f:α->σ->σ × Int):∀ (a b:List α) (s:σ),dF f (a++b) s=if (dF f a s).2≠0 then dF f a s else dF f b (dF f a s).1
 | [],b,s=>by simp [dF]
 | x :: a,b,s=>by
  simp only [List.cons_append,dF];split
  ·rfl
  ·rename_i h; rw [By f a b]
theorem wm {α:Type} {f g:α->σ->σ × Int}:∀ {l:List α} {s:σ},(∀ a∈l,∀ s,f a s=g a s)->dF f l s=dF g l s
 | [],s,_=>rfl
 | a :: l,s,h=>by
  simp only [dF];rw [h a (List.mem_cons_self ..) s,wm fun b hb=>h b (List.mem_cons_of_mem _ hb)]
def dw (vis:Int->σ->σ × Int) (i:Int) (k:L1) (s:σ):σ × Int:=if k.getD 1 0=i then (s,0) else vis (-1 - k.getD 1 0) s
def jH (vis:Int->σ->σ × Int) (ns ks:L2) (fe:Nat->Int) (fb:Nat->Bool) (i:Int):Nat->Nat->σ->σ × Int
 | 0,_,s=>(s,0)
 | m+1,n,s=>if ot ns n=true then dF (dw vis i) (dX ns ks n) s
  else if hasB ns ks n i=false/\fe n≠0 then (s,fe n)
  else if hasB ns ks n i=false/\fb n=true then vis n s
  else dF (jH vis ns ks fe fb i m) (gm ns n) s
def Cm (vis:Int->σ->σ × Int) (ns ks:L2) (fe:Nat->Int) (fb:Nat->Bool) (i:Int) (n:Nat) (s:σ):σ × Int:=jH vis ns ks fe fb i (33 - lv ns n) n s
theorem Cl {ns:L2} {len:Nat} (h:gr ns len) (vis:Int->σ->σ × Int) (ks:L2) (fe:Nat->Int) (fb:Nat->Bool) (i:Int) {n:Nat} (hn:n < ns.length) (s:σ):
  Cm vis ns ks fe fb i n s=if ot ns n=true then dF (dw vis i) (dX ns ks n) s
  else if hasB ns ks n i=false/\fe n≠0 then (s,fe n)
  else if hasB ns ks n i=false/\fb n=true then vis n s
  else dF (Cm vis ns ks fe fb i) (gm ns n) s:=by
 have hw:=nN h hn;unfold Cm;obtain ⟨m,hm⟩:∃m,33 - lv ns n=m+1:=⟨32 - lv ns n,by omega⟩
 rw [hm];simp only [jH];have e:dF (jH vis ns ks fe fb i m) (gm ns n) s=dF (fun n s=>jH vis ns ks fe fb i (33 - lv ns n) n s) (gm ns n) s:=by
  refine wm fun k hk s=>?_
  have:=(vq h hn k hk).2;show _=jH vis ns ks fe fb i (33 - lv ns k) k s;rw [show 33 - lv ns k=m by omega]
 rw [e]
end
end Go.Vs.RF
namespace Go.Vs.RS
open Go Go.Proofs Go.Vs Go.IntWalk
def m7 (xs ys:L2) (i:Int):St:=⟨T 25 [(0,.sl 0),(9,.sl 1),(10,i64 ys.length),(11,i64 i)],[ro xs,ro ys]⟩
def L17:aB:=fun n0 st K=>(n0=1/\st=m7 (st.x 0) (st.x 1) 0/\(st.x 0).length<=1000000/\st.x 1=(st.x 0).drop 1)/\br (bp (Jt (st.x 0).length (st.x 0))) (K (.exit 0) ⟨T 25 [],[ro (st.x 0)]⟩) (K .ret ⟨T 25 [(2,.bool false)],[ro (st.x 0)]⟩)
def ZL:Know:={ Γ:=fun _=>none,Λ:=fun f i=>if f=145 then (if i=0 then some L17 else none) else none,Τ:=fun _=>none }
theorem r17 (N:Know) (xs ys:L2) (i:Int) (k:Out->St->Prop):(round (ai TP N 0) 145 1 0 (lp TP 145 0) (m7 xs ys i) k) =(JaQ i (Jag ys) (JbC i ys (JaK i i xs) (JaQ (Jam ys i 0) (Jam xs i 0) (k .ret (Jau (Jab (Jaf JaP (Jab (Jac (Jah []))))) [] xs [])) (k .normal (Jbd (Jae (JaO (Jag ys) (JaJ i) (Jaa (Jac (Jae []))))) [] xs (Jaq [] ys []))))) (k (.exit 0) (Jau (Jaa (Jae (Jah []))) [] xs []))) :=by kernel_rfl
def Jbc (a:Int)(b c d:L2):L2:=List.drop (Int.toNat (mn .i64 a (Jag b))) (List.take (Jav c) d)
theorem v17 (xs:L2) (K:KP):(comes TP ZL 1 145 [.sl 0] [.ro [.u64,.i64] xs] K) =(Jar (Jar (0<=mn .i64 1 (Jag xs)) (mn .i64 1 (Jag xs)<=Jag xs) (Jag xs<=Jag xs)) (List.length (List.map Option.some (Jbs [] xs []))=1/\Jar (Jbd (Jae (JaO (Jag (Jbc 1 xs xs xs)) 0 (Jaa (Jac (Jae []))))) [] xs (Jaq [] (Jbc 1 xs xs xs) [])=Jbd (Jae (JaO (Jag (Jbc 1 xs xs xs)) 0 (Jaa (Jac (Jae []))))) [] xs (Jaq [] (Jbc 1 xs xs xs) [])) (JaL xs) (Jbc 1 xs xs xs=List.drop 1 xs)) (br (bp (Jt (List.length xs) xs)) (K (.bool Bool.true) []) (K JaP []))) :=by kernel_rfl
theorem Um (N:Know) (n0:Nat):aG (ai TP N 0) 145 n0 0 (lp TP 145 0) L17:=by
 rintro st K ⟨⟨rfl,hst,hlen,hx1⟩,hbr⟩;rw [hx1] at hst;clear hx1;generalize st.x 0=xs at *;subst hst;rw [Hl] at hbr;have hl1:(xs.drop 1).length=xs.length - 1:=by simp
 refine aC (m7 xs (xs.drop 1)) (fun i=>0<=i/\i<=(xs.length - 1:Nat)/\∀ p q:Nat,p < q->(q:Int)<=i->rd xs p 0<=rd xs q 0) (fun i=>(xs.length - i).toNat) ?_ (a:=0) ⟨by omega,by omega,fun p q h1 h2=>by omega⟩
 rintro i ⟨h1,h2,h3⟩ k hn hk;rw [r17]; delta Jaa Jab Jac Jad Jae Jaf Jag Jah Jai Jam Jao Jaq Jar Jau Jaw Jax JaB JaG JaJ JaK JaO JaP JaQ Jbd JbC; rw [al];constructor
 ·intro hi;have hi':i < (xs.length:Int) - 1:=by rw [hl1] at hi; omega
  rw [i64_in (i+1) (by omega)]
  have e0:rd (xs.drop 1) i.toNat 0=rd xs (i+1).toNat 0:=by
   rw [Pg]
   congr 1
   omega
  refine ⟨⟨by omega,hi⟩,⟨by omega,hi⟩,⟨by omega,by omega⟩,⟨by omega,by omega⟩,?_⟩
  rw [al,e0];constructor
  ·intro hlt;refine hk _ _ (by simp) (hbr.2 ?_)
   intro hr;have:=hr i.toNat (i+1).toNat (by omega) (by omega)
   omega
  ·intro hle;refine hn _ ⟨by omega,by omega,fun p q hpq hq=>?_⟩ (by omega)
   by_cases hq':(q:Int)<=i
   ·exact h3 p q hpq hq'
   ·have e1:q=(i+1).toNat:=by omega
    subst e1;by_cases hp:p=i.toNat
    ·subst hp; omega
    ·have:=h3 p i.toNat (by omega) (by omega)
     omega
 ·intro hi;refine hk _ _ (by simp) (hbr.1 ?_)
  intro p q hpq hq;rw [hl1] at hi;exact h3 p q hpq (by omega)
theorem c17:aa TP 145 sQ:=by
 refine ab 1 ⟨mixedOrders,fun g sp h=>(by cases h),?_,fun g G h=>(by cases h),fun f h=>(by cases h)⟩ (N:=ZL) ?_
 ·intro d' hd f i S n0 hS;have:d' = 0:=by omega
  subst this;simp only [ZL] at hS;split at hS
  ·rename_i hf;subst hf;split at hS
   ·rename_i hi;subst hi;cases hS
    exact Um ZL n0
   ·cases hS
  ·cases hS
 ·rintro l bs _ hb ⟨xs,rfl,rfl,hl⟩;rw [v17]; delta Jaa Jab Jac Jad Jae Jaf Jag Jao Jaq Jar Jau Jav Jaw JaG JaL JaO JaP Jbc Jbd Jbs;have key:∀ b:Bool,bp (fE xs)=b->sQ.F [.sl 0] [.ro [.u64,.i64] xs]=(IV.bool b,[]):=by
   rintro b rfl; rfl
  have hmn:mn IntKind.i64 1 (xs.length:Int)=if (xs.length:Int) < 1 then (xs.length:Int) else 1:=rfl
  have hd:xs.drop (mn IntKind.i64 1 (xs.length:Int)).toNat=xs.drop 1:=by
   rw [hmn];split
   ·have:xs=[]:=List.eq_nil_of_length_eq_zero (by omega)
    subst this
    rfl
   ·rfl
  have ht:xs.take ((xs.length:Int)).toNat=xs:=by
   rw [Int.toNat_natCast];exact List.take_length
  refine ⟨⟨?_,?_,by omega⟩,⟨rfl,rfl,hl,by rw [ht]; exact hd⟩,?_⟩
  ·rw [hmn]; split <;> omega
  ·rw [hmn]; split <;> omega
  ·rw [Hl];exact ⟨fun h=>key _ (pJ h),fun h=>key _ (oT h)⟩
def B29 (xs zs:L2) (lev key fr to:Int):OB:=[some (.var 202 [.sl 1,.sl 4]),ro xs,none,some (.var 70 (yf lev key fr to (-1) (-1) (-1) (-1))),some (.row 70 nk zs)]
def Rp (xs zs:L2) (lev key fr to at_ place f:Int):St:=⟨T 110 [(0,.ptr 0 0),(3,.ptr 3 0),(5,i64 at_),(6,i64 place),(7,i64 f)],B29 xs zs lev key fr to⟩
def Jn (xs zs:L2) (lev key fr to at_ place f kf t:Int):St:=⟨T 110 [(0,.ptr 0 0),(3,.ptr 3 0),(5,i64 at_),(6,i64 place),(7,i64 f),(8,.int .u64 kf),(9,i64 t)],B29 xs zs lev key fr to⟩
def KR (xs:L2) (place f kf to t:Int):Prop:=0<=place/\place<=62/\0<=f/\f < to/\to<=xs.length/\xs.length<=1000/\kf=rd xs f.toNat 0/\t=f+1
def YE:aB:=fun n0 st K=>(n0=3/\st=Jn (st.x 1) (st.x 4) (st.c 3 0) (st.c 3 1) (st.c 3 2) (st.c 3 3) (st.i 5) (st.i 6) (st.i 7) (st.i 8) (st.i 9)/\KR (st.x 1) (st.i 6) (st.i 7) (st.i 8) (st.c 3 3) (st.i 9))/\
 K (.exit 2) (Jn (st.x 1) (st.x 4) (st.c 3 0) (st.c 3 1) (st.c 3 2) (st.c 3 3) (st.i 5) (st.i 6) (st.i 7) (st.i 8) (aR (st.x 1) (st.i 6).toNat (st.c 3 3).toNat (st.i 7).toNat))
def JaN (a:List IntKind)(b:L2)(c:OB):OB:=Jaq a b (Option.none::c)
def JaX (a:Nat)(b:List IV):List IV:=.sl 1::.sl a::b
def Jbe (a b:Nat)(c d e:Int)(f:List (Option IV))(g:Nat)(h:List IV)(i:List IntKind)(j:L2)(k l m n:Int)(o:List IV)(p:L2)(q:OB):St:=⟨Jaf (.ptr a b) (Jab (Jbv (Jaa (Jaf (Jad c) (Jaw (Jad d) e f))))),Jas 202 (JaX g h) (JaN i j (JaH 70 k l m n Jap Jap Jap Jap o (JaF [] p q)))⟩
def Jbq (a b:Int):List (Option IV):=Jaw (.int .u64 a) (JaJ b) Ja0
theorem aai (N:Know) (xs zs:L2) (lev key fr to at_ place f kf t:Int) (k:Out->St->Prop):(round (ai TP N 0) 146 3 1 (lp TP 146 1) (Jn xs zs lev key fr to at_ place f kf t) k) =(JaQ t to (JbC t xs (0<=place) (br (Jat (Jam xs t 0) 2 place 64 == Jat kf 2 place 64) (k .normal (Jbe 0 0 at_ place f (Jbq kf t) 4 [] [] xs lev key fr to [] zs [])) (k (.exit 2) (Jbe 0 0 at_ place f (Jaw (.int .u64 kf) t Ja0) 4 [] [] xs lev key fr to [] zs [])))) (k (.exit 2) (Jbe 0 0 at_ place f (Jaw (.int .u64 kf) t Ja0) 4 [] [] xs lev key fr to [] zs []))) :=by kernel_rfl
def KT (n:Nat) (xs zs:L2) (lev key fr to at_ place f:Int):Prop:=
 x9 (n+1) xs (zs.take at_.toNat) lev fr to/\zs=zs.take at_.toNat++[ou lev key fr to]/\0<=at_/\at_+1=zs.length/\place=62 - 2*lev/\f=fr/\4 < to - fr/\lev < 32
def ZO (n:Nat):eG:=fun args b K=>
 (args=[.ptr 0 0,.agg (yf (ae args 1 0) (ae args 1 1) (ae args 1 2) (ae args 1 3) (ae args 1 4) (ae args 1 5) (ae args 1 6) (ae args 1 7))]/\b=[some (.var 202 [.sl 1,.sl 2]),ro (dh b 1),some (.row 70 nk (dh b 2))]/\
  x9 n (dh b 1) (dh b 2) (ae args 1 0) (ae args 1 2) (ae args 1 3))/\
 K (i64 (dh b 2).length) [some (.var 202 [.sl 1,.sl 3]),ro (dh b 1),none,some (.row 70 nk (dh b 2++bD (dh b 1) n (ae args 1 0).toNat (ae args 1 1) (ae args 1 2).toNat (ae args 1 3).toNat (dh b 2).length))]
def YF (n:Nat):aB:=fun n0 st K=>(n0=3/\st=Rp (st.x 1) (st.x 4) (st.c 3 0) (st.c 3 1) (st.c 3 2) (st.c 3 3) (st.i 5) (st.i 6) (st.i 7)/\KT n (st.x 1) (st.x 4) (st.c 3 0) (st.c 3 1) (st.c 3 2) (st.c 3 3) (st.i 5) (st.i 6) (st.i 7))/\
 K (.exit 0) ⟨T 110 [(5,i64 (st.i 5))],[some (.var 202 [.sl 1,.sl 3]),ro (st.x 1),none,some (.row 70 nk ((st.x 4).take (st.i 5).toNat++bD (st.x 1) (n+1) (st.c 3 0).toNat (st.c 3 1) (st.c 3 2).toNat (st.c 3 3).toNat (st.i 5).toNat))]⟩
def SL (n:Nat):Know:={ Γ:=fun _=>none,Λ:=fun f i=>if f=146 then (if i=0 then some (YF n) else if i=1 then some YE else none) else none,Τ:=fun g=>if g=146 then some (ZO n) else none }
def JaS (a:L2)(b c d:Int):Int:=(↑(aR a (Int.toNat b) (Int.toNat c) (Int.toNat d)):Int)
def Ja5 (a b:Nat)(c:L2)(d:Int)(e:Nat)(f g h:Int)(i:L2)(j:L1)(k:Nat):Int:=if (↑a:Int)=(↑b:Int)+JaA c d e f g 64 h then Jag i else List.getD j k 0
def Jbp (a:List IV)(b:List IntKind)(c:L2)(d:List IntKind)(e:L2)(f:OB):OB:=Jas 202 (.sl 1::.sl 2::a) (Jaq b c (JaF d e f))
theorem aaj (n:Nat) (xs zs:L2) (lev key fr to at_ place f:Int) (k:Out->St->Prop):(round (ai TP (SL n) 0) 146 3 0 (lp TP 146 0) (Rp xs zs lev key fr to at_ place f) k) =(JaQ f to (Jar (JaK f f xs) (JaK f f xs) (JaB (Jar (3=3) (Jbe 0 0 at_ place f (Jbq (Jam xs f 0) f) 4 [] [] xs lev key fr to [] zs []=Jbe 0 0 at_ place f (Jbq (Jam xs f 0) f) 4 [] [] xs lev key fr to [] zs []) (KR xs place f (Jam xs f 0) to (JaJ f))) (0<=place) (0<=place) (Jar ([.ptr 0 0,Ja4 (JaJ lev) (JbB xs f place) f (JaS xs place to f) 0 0 0 0 []]=[.ptr 0 0,Ja4 (JaJ lev) (JbB xs f place) f (JaS xs place to f) 0 0 0 0 []]) (Jbp [] [] xs [] zs []=Jbp [] [] xs [] zs []) (x9 n xs zs (JaJ lev) f (JaS xs place to f))) (JaB (0<=place) (JaK at_ at_ (zs++JaW xs n (JaJ lev) (JbB xs f place) f (JaS xs place to f) zs)) (Jax 0 (JaA xs f 0 2 place 64 3) (JaA xs f 0 2 place 64 3) (↑4:Int)) (0<=at_/\Jar (at_ < Jag (zs++JaW xs n (JaJ lev) (JbB xs f place) f (JaS xs place to f) zs)) (0<=JaA xs f 0 2 place 64 3) (4+Int.toNat (JaA xs f 0 2 place 64 3) < 8)) (k .normal (Jbe 0 0 at_ place (JaS xs place to f) (Jab Ja0) 4 [] [] xs lev key fr to [] (Jay (zs++JaW xs n (JaJ lev) (JbB xs f place) f (JaS xs place to f) zs) at_ (fun a=>Jan (Ja5 0 4 xs f 0 2 place 3 zs a 0) (Ja5 1 4 xs f 0 2 place 3 zs a 1) (Ja5 2 4 xs f 0 2 place 3 zs a 2) (Ja5 3 4 xs f 0 2 place 3 zs a 3) (Ja5 4 4 xs f 0 2 place 3 zs a 4) (Ja5 5 4 xs f 0 2 place 3 zs a 5) (Ja5 6 4 xs f 0 2 place 3 zs a 6) (Ja5 7 4 xs f 0 2 place 3 zs a 7) [])) []))))) (k (.exit 0) ⟨Jaa (Jac (Jaf (Jad at_) (Jae (Jak JaM)))),Jas 202 (JaX 3 []) (JaN [] xs (JaF [] zs []))⟩)) :=by kernel_rfl
def Jbl (a:L2)(b c d e:Int):L2:=Jbk a b c d e Jap Jap Jap Jap
theorem v29 (n:Nat) (xs zs:L2) (lev key fr to k0 k1 k2 k3:Int) (K:IV->OB->Prop):(bQ TP (SL n) 1 146 [.ptr 0 0,.agg (yf lev key fr to k0 k1 k2 k3)] [some (.var 202 [.sl 1,.sl 2]),ro xs,some (.row 70 nk zs)] fun v b1=>ld 3 v b1 K) =(JaU ((List.length zs+List.length (List.set (Jal 1 8 0) 0 (Jan lev key fr to Jap Jap Jap Jap [])))*64)/\br (Decidable.decide (Jai (to - fr)<=4)) (K (Jad (Jag zs)) (Jas 202 (JaX 3 []) (JaN [] xs (JaF [] (Jbl zs lev key fr to) [])))) (br (Decidable.decide (lev ≥ 32)) (K (Jad (Jag zs)) (Jas 202 (JaX 3 []) (JaN [] xs (JaF [] (Jbl zs lev key fr to) [])))) (Jbo 3 3 (Jbe 0 0 (Jag zs) (JaZ 2 lev) fr (Jab Ja0) 4 [] [] xs lev key fr to [] (Jbl zs lev key fr to) []=Jbe 0 0 (Jag zs) (JaZ 2 lev) fr (Jab Ja0) 4 [] [] xs lev key fr to [] (Jbl zs lev key fr to) []) (KT n xs (Jbl zs lev key fr to) lev key fr to (Jag zs) (JaZ 2 lev) fr) (K (Jad (Jag zs)) (Jas 202 (JaX 3 []) (JaN [] xs (JaF [] (List.take (Jav zs) (Jbl zs lev key fr to)++bD xs (n+1) (Int.toNat lev) key (Int.toNat fr) (Int.toNat to) (Jav zs)) []))))))) :=by kernel_rfl
theorem PK (N:Know) (n0:Nat):aG (ai TP N 0) 146 n0 1 (lp TP 146 1) YE:=by
 rintro st K ⟨⟨rfl,hst,hp⟩,hK⟩;generalize st.x 1=xs at *;generalize st.x 4=zs at *;generalize st.c 3 0=lev at *;generalize st.c 3 1=key at *;generalize st.c 3 2=fr at *;generalize st.c 3 3=to at *;generalize st.i 5=at_ at *;generalize st.i 6=place at *;generalize st.i 7=f at *;generalize st.i 8=kf at *;generalize st.i 9=t0 at *;subst hst;obtain ⟨p1,p2,p3,p4,p5,p6,rfl,rfl⟩:=hp;have hmin:min place.toNat 64=place.toNat:=by omega
 refine aC (fun a:Int=>Jn xs zs lev key fr to at_ place f (rd xs f.toNat 0) a) (fun a=>f < a/\a<=to/\kG xs place.toNat (rd xs f.toNat 0) to.toNat (to.toNat - a.toNat) a.toNat=aR xs place.toNat to.toNat f.toNat) (fun a=>(to - a).toNat) ?_ (a:=f+1) ⟨by omega,by omega,by
  unfold aR;rw [show (f+1).toNat=f.toNat+1 by omega]⟩
 rintro t ⟨a1,a2,a3⟩ k hn hk;show round _ _ _ _ _ (Jn _ _ _ _ _ _ _ _ _ _ t) k;rw [aai]; delta Jaa Jab Jac Jad Jae Jaf Jag Jah Jai Jaj Jak Jam Jao Jap Jaq Jar Jas Jat Jaw Jax JaB JaF JaH JaJ JaK JaM JaN JaQ JaX Ja0 Jbv Jbe Jbq JbC; rw [al,hmin];have fin:¬ (t.toNat < to.toNat/\shr (rd xs t.toNat 0) place.toNat=shr (rd xs f.toNat 0) place.toNat)->k (Out.exit 2) (Jn xs zs lev key fr to at_ place f (rd xs f.toNat 0) t):=by
  intro h;rw [El h] at a3;refine hk _ _ (by simp) ?_
  rw [← a3] at hK;rw [show ((t.toNat:Nat):Int)=t by omega] at hK
  exact hK
 constructor
 ·intro hi;have hw:(0:Int)<=t/\t < xs.length:=by omega
  refine ⟨hw,hw,p1,p1,?_⟩;rw [aL];constructor
  ·intro he;have he':shr (rd xs t.toNat 0) place.toNat=shr (rd xs f.toNat 0) place.toNat:=by simpa [shr] using he
   rw [i64_in (t+1) (by omega)]
   refine hn (t+1) ⟨by omega,by omega,?_⟩ (by omega)
   rw [show (t+1).toNat=t.toNat+1 by omega,← Em (by omega) he']
   exact a3
  ·intro he;refine fin fun h=>?_
   have:(rd xs t.toNat 0).fdiv (2 ^ place.toNat)=(rd xs f.toNat 0).fdiv (2 ^ place.toNat):=h.2;rw [this] at he;simp at he
 ·intro hi;exact fin (by omega)
theorem PL (n:Nat) (n0:Nat):aG (ai TP (SL n) 0) 146 n0 0 (lp TP 146 0) (YF n):=by
 rintro st K ⟨⟨rfl,hst,hp⟩,hK⟩;generalize st.x 1=xs at *;generalize st.x 4=zs at *;generalize st.c 3 0=lev0 at *;generalize st.c 3 1=key at *;generalize st.c 3 2=fr0 at *;generalize st.c 3 3=to0 at *;generalize st.i 5=at0 at *;generalize st.i 6=place at *;generalize st.i 7=f0 at *;subst hst;obtain ⟨⟨q1,q1',q2,q3,q4,q5,q6,q7,q8⟩,e1,q9,q10,rfl,rfl,q11,q12⟩:=hp;obtain ⟨lev,rfl⟩:∃m:Nat,lev0=m:=⟨lev0.toNat,by omega⟩
 obtain ⟨fr,rfl⟩:∃m:Nat,f0=m:=⟨f0.toNat,by omega⟩
 obtain ⟨to,rfl⟩:∃m:Nat,to0=m:=⟨to0.toNat,by omega⟩
 obtain ⟨at_,rfl⟩:∃m:Nat,at0=m:=⟨at0.toNat,by omega⟩
 simp only [Int.toNat_natCast] at *;generalize hz0:zs.take at_=zs0 at *;have hl0:zs0.length=at_:=by rw [← hz0,List.length_take]; omega
 have hpl:((62:Int) - 2*(lev:Int)).toNat=62 - 2*lev:=by omega
 have hstart:Inv29 n xs zs0 lev key fr to (fr,zs):=by
  refine ⟨Nat.le_refl _,by omega,⟨[-1,-1,-1,-1],[],rfl,?_,?_⟩,?_⟩
  ·rw [e1]; rfl
  ·simp only [bD];rw [if_neg (by omega)]
   simp
  ·simp only;have:=congrArg List.length e1;simp at this;omega
 refine aC (fun p:Nat × L2=>Rp xs p.2 lev key fr to at_ (62 - 2*(lev:Int)) p.1) (Inv29 n xs zs0 lev key fr to) (fun p=>to - p.1) ?_ (a:=(fr,zs)) hstart
 rintro ⟨f,zs1⟩ ⟨a1,a2,⟨ks,D,hkl,hz,htree⟩,hcnt⟩ k hn hk;simp only at a1 a2 hz htree hcnt;show round _ _ _ _ _ (Rp xs zs1 lev key fr to at_ (62 - 2*(lev:Int)) f) k;rw [aaj]; delta Jaa Jab Jac Jad Jae Jaf Jag Jah Jai Jaj Jak Jam Jan Jao Jap Jaq Jar Jas Jat Jaw Jax Jay Jaz JaA JaB JaF JaH JaJ JaK JaM JaN JaQ JaS JaW JaX Ja0 Ja4 Ja5 Jbv Jbe Jbp Jbq JbB; rw [al];constructor
 ·intro hi;have hi':f < to:=by omega
  obtain ⟨s1,s2,s3,s4⟩:=dM xs (62 - 2*lev) hi';have hw:(0:Int)<=(f:Int)/\(f:Int) < xs.length:=by omega
  have hmin:min (62 - 2*lev) 64=62 - 2*lev:=by omega
  have hk0:=q7 f;have hsh:(rd xs f 0).fdiv (2 ^ (62 - 2*lev))=shr (rd xs f 0) (62 - 2*lev):=rfl;simp only [Int.toNat_natCast,hpl,hmin,hsh];rw [FQ hk0.1 hk0.2,Yk (qi hk0.1 _) (by have:=KG hk0.1 (62 - 2*lev); omega),i64_in ((lev:Int)+1) (by omega),i64_in ((f:Int)+1) (by omega)]
  have hq:shr (rd xs f 0) (62 - 2*lev) % 4=(kq xs (62 - 2*lev) f:Int):=by unfold kq; omega
  have hq4:kq xs (62 - 2*lev) f < 4:=by unfold kq; omega
  have hkp:shr (rd xs f 0) (62 - 2*lev)*2 ^ (62 - 2*lev)=kp xs (62 - 2*lev) f:=rfl;rw [hq,hkp];have hle:((lev:Int)+1).toNat=lev+1:=by omega
  rw [hle];have hsub:=nR xs n (lev+1) (kp xs (62 - 2*lev) f) f (aR xs (62 - 2*lev) to f) zs1.length s1;have hsplit:n*(to - f)=n*(aR xs (62 - 2*lev) to f - f)+n*(to - aR xs (62 - 2*lev) to f):=by rw [← Nat.mul_add]; congr 1; omega
  have hz1:zs1.length=at_+1+D.length:=by rw [hz]; simp [hl0]; omega
  have hmul:((n:Int)+1)*((to:Int) - fr)=(n*(to - fr)+(to - fr):Nat):=by
   have:((to - fr:Nat):Int)=(to:Int) - fr:=by omega
   rw [← this]; push_cast; rw [Int.add_mul]; omega
  have hmul2:(n:Int)*(((aR xs (62 - 2*lev) to f:Nat):Int) - f)=(n*(aR xs (62 - 2*lev) to f - f):Nat):=by
   have:((aR xs (62 - 2*lev) to f - f:Nat):Int)=((aR xs (62 - 2*lev) to f:Nat):Int) - f:=by omega
   rw [← this]; push_cast; rfl
  have q8':zs0.length+((n:Int)+1)*((to:Int) - fr)<=1000000:=by push_cast at q8; exact q8
  rw [hmul] at q8';refine ⟨hw,hw,⟨by first | rfl | trivial,by first | rfl | trivial,by omega,by omega,by omega,by omega,by omega,by omega,by simp,rfl⟩,by omega,by omega,⟨by first | rfl | trivial,by first | rfl | trivial,by omega,by omega,by omega,by omega,by omega,by omega,by omega,q7,?_⟩,by omega,?_,?_,?_,?_⟩
  ·rw [hmul2]; omega
  ·simp only [List.length_append]; omega
  ·omega
  ·simp only [List.length_append]; omega
  ·rw [hz,List.append_assoc,List.cons_append,show at_=zs0.length from hl0.symm,ql]
   have hlen2:(zs0++([(lev:Int),key,(fr:Int),(to:Int)]++ks) :: D).length=zs0.length+1+D.length:=by simp; omega
   rw [hlen2];have:=hn (aR xs (62 - 2*lev) to f,zs0++([(lev:Int),key,(fr:Int),(to:Int)]++ks.set (kq xs (62 - 2*lev) f) ((zs0.length+1+D.length:Nat):Int)) :: (D++bD xs n (lev+1) (kp xs (62 - 2*lev) f) f (aR xs (62 - 2*lev) to f) (zs0.length+1+D.length))) ⟨by simp only; omega,s2,?_,?_⟩ (by simp only; omega)
   ·rw [← TI hkl hq4] at this;rw [hl0] at this ⊢;exact this
   ·refine ⟨_,_,by simpa using hkl,rfl,?_⟩
    rw [htree,o9 hi'];simp only [yt,gq,List.length_append,List.append_assoc,Nat.add_assoc]
   ·simp only [List.length_append,List.length_cons];have h2:=nR xs n (lev+1) (kp xs (62 - 2*lev) f) f (aR xs (62 - 2*lev) to f) (zs0.length+1+D.length) s1;omega
 ·intro hi;have e:f=to:=by omega
  subst e;refine hk _ _ (by simp) ?_
  rw [agx (Nat.le_refl _)] at htree;simp only [yt,gq,List.append_nil] at htree;rw [hl0] at htree;rw [htree,← hz] at hK;exact hK
theorem UK {n:Nat} (ih:cf TP 146 (ZO n)):KnowOk TP (SL n) 1:=by
 refine ⟨mixedOrders,fun g sp h=>(by cases h),?_,?_,fun f h=>(by cases h)⟩
 ·intro d' hd f i S n0 hS;have:d' = 0:=by omega
  subst this;simp only [SL] at hS;split at hS
  ·rename_i hf;subst hf;split at hS
   ·rename_i hi; subst hi; cases hS; exact PL n n0
   ·split at hS
    ·rename_i hi; subst hi; cases hS; exact PK (SL n) n0
    ·cases hS
  ·cases hS
 ·intro g G hG;simp only [SL] at hG;split at hG
  ·rename_i hg; subst hg; cases hG; exact ih
  ·cases hG
theorem Xo:∀ n,cf TP 146 (ZO n)
 | 0=>by
  rintro args b K ⟨⟨h1,h2,p1,p2,p3,_⟩,hK⟩;exact absurd p3 (by simp only [Int.natCast_zero] at *; omega)
 | n+1=>by
  refine cL 1 (UK (Xo n)) ?_;rintro args b K ⟨⟨h1,h2,hp⟩,hK⟩;generalize ae args 1 0=lev at *;generalize ae args 1 1=key at *;generalize ae args 1 2=fr at *;generalize ae args 1 3=to at *;generalize ae args 1 4=k0 at *;generalize ae args 1 5=k1 at *;generalize ae args 1 6=k2 at *;generalize ae args 1 7=k3 at *;generalize dh b 1=xs at *;generalize dh b 2=zs at *;subst h1;subst h2;show bQ TP (SL n) 1 146 _ _ (fun v b1=>ld 3 v b1 K)
  rw [v29]; delta Jaa Jab Jac Jad Jae Jaf Jag Jah Jai Jaj Jak Jal Jan Jao Jap Jaq Jar Jas Jav Jaw JaF JaH JaM JaN JaU JaX JaZ Ja0 Jbv Jbe Jbk Jbl Jbo;obtain ⟨p1,p1',p2,p3,p4,p5,p6,p7,p8⟩:=hp;have hp:x9 (n+1) xs zs lev fr to:=⟨p1,p1',p2,p3,p4,p5,p6,p7,p8⟩;have e0:(List.replicate (1:Nat) (List.replicate (8:Nat) (0:Int))).set (0:Nat) [lev,key,fr,to,-1,-1,-1,-1]=[ou lev key fr to]:=rfl;have hzl:(zs.length:Int)<=1000000:=by
   have:(0:Int)<=((n+1:Nat):Int)*(to - fr):=Int.mul_nonneg (by omega) (by omega)
   omega
  have hlv:(lev.toNat:Int)=lev:=by omega
  rw [e0,al,al,i64_in (to - fr) (by omega)]
  have small:(to - fr<=4∨lev ≥ 32)->K (i64 zs.length) [some (.var 202 [.sl 1,.sl 3]),ro xs,none,some (.row 70 nk (zs++[ou lev key fr to]))]:=by
   intro h;have:bD xs (n+1) lev.toNat key fr.toNat to.toNat zs.length=[ou lev key fr to]:=by
    simp only [bD];rw [if_pos (by omega)]
    have h3:(fr.toNat:Int)=fr:=by omega
    have h4:(to.toNat:Int)=to:=by omega
    simp only [ou];rw [hlv];have e1:((fr.toNat:Nat):Int)=fr:=h3;have e2:((to.toNat:Nat):Int)=to:=h4;rw [e1,e2]
   rw [this] at hK;exact hK
  refine ⟨by simp; omega,fun h=>small (.inl h),fun h=>⟨fun h2=>small (.inr h2),fun h2=>⟨⟨rfl,?_,?_⟩,?_⟩⟩⟩
  ·rw [i64_in (2*lev) (by omega),i64_in (62 - 2*lev) (by omega)]
  ·rw [i64_in (2*lev) (by omega),i64_in (62 - 2*lev) (by omega)]
   refine ⟨?_,?_,by omega,?_,rfl,rfl,by omega,by omega⟩
   ·simp only [Int.toNat_natCast,List.take_left'];exact hp
   ·simp
   ·simp
  ·simp only [Int.toNat_natCast,List.take_left'];exact hK
def SW:FuncId->Option Vs.Spec:=fun g=>if g=145 then some sQ else none
theorem XW:∀ {g:FuncId} {sp:Vs.Spec},SW g=some sp->aa TP g sp:=by
 intro g sp h;unfold SW at h;split at h
 ·rename_i hg; subst hg; cases h; exact c17
 ·cases h
def ZJ:Know:={ Γ:=SW,Λ:=fun _ _=>none,Τ:=fun g=>if g=146 then some (ZO 33) else none }
theorem v21 (xs:L2) (K:KP):(comes TP ZJ 1 92 [.sl 0] [.ro [.u64,.i64] xs] K) =(br (Jag xs == 0) (K JaG (Ja7 70 [] [] [])) (zU [JaG] (Jbs [] xs [])/\br (Bool.not (bp (fE xs))) (K JaG (Ja7 70 [] [] [])) (Jar ([.ptr 0 0,Ja4 0 0 0 (Jag xs) 0 0 0 0 []]=[.ptr 0 0,Ja4 0 0 0 (Jag xs) 0 0 0 0 []]) (Jbp [] [] xs [] [] []=Jbp [] [] xs [] [] []) (x9 33 xs [] 0 0 (Jag xs))/\K JaG (Ja7 70 [] ([]++bD xs 33 0 0 0 (Jav xs) 0) [])))) :=by kernel_rfl
theorem c21:aa TP 92 Pa:=by
 refine ab 1 ⟨mixedOrders,fun g sp h=>XW h,cO (N:=ZJ) (fun _ _=>rfl) 1,?_,fun f h=>(by cases h)⟩ (N:=ZJ) ?_
 ·intro g G hG;simp only [ZJ] at hG;split at hG
  ·rename_i hg; subst hg; cases hG; exact Xo 33
  ·cases hG
 ·rintro l bs _ _ ⟨xs,rfl,rfl,hl,hk⟩;rw [v21]; delta Jad Jag Jaj Jao Jaq Jar Jas Jav JaF JaG Ja4 Ja7 Jbp Jbs; rw [aL,aL];constructor
  ·intro h;have:xs=[]:=List.eq_nil_of_length_eq_zero (by simpa using h)
   subst this;show (IV.sl 0,[aq.row 70 nk (bL [])])=_;rw [g9]
   rfl
  ·intro h;have hne:xs≠[]:=by rintro rfl; simp at h
   have hpos:0 < xs.length:=List.length_pos_iff.2 hne;refine ⟨⟨_,rfl,rfl,by omega⟩,fun h2=>?_,fun h2=>⟨⟨rfl,rfl,by omega,by omega,by omega,by omega,by omega,by omega,by omega,hk,by simp; omega⟩,?_⟩⟩
   ·have h3:¬ fE xs:=fun h4=>by rw [pJ h4] at h2; cases h2
    show (IV.sl 0,[aq.row 70 nk (bL xs)])=_;rw [kY h3]
    rfl
   ·have h3:fE xs:=xq.1 (by simpa using h2)
    show (IV.sl 0,[aq.row 70 nk (bL xs)])=_;rw [fZ hne h3]
    rfl
end Go.Vs.RS
namespace Go.Vs
open Go
def uR:aq->aq
 | .row _ ks xs=>.ro ks xs
 | k=>k
theorem tt {bs:List aq} {l:List (Option Nat)} {c:Nat} (hc:c < bs.length):
  (some c∈l->look (Go.Vs.freeze (bs.map some) l) c=some (uR bs[c]))/\(some c ∉ l->look (Go.Vs.freeze (bs.map some) l) c=some bs[c]):=by
 have hb:look (bs.map some) c=some bs[c]:=by rw [bJ]; simp [hc]
 have hnr:bs[c].agu=false->look (Go.Vs.freeze (bs.map some) l) c=some bs[c]:=fun hr=>ju _ _ c _ hb hr
 cases hk:bs[c] with
 | row e ks xs=>
  have hex:∃k,look (Go.Vs.freeze (bs.map some) l) c=some k:=by
   cases hh:look (Go.Vs.freeze (bs.map some) l) c with
   | some k=>exact ⟨k,rfl⟩
   | none=>
    exfalso
    have:=oE (t:=[]) l (bs.map some) c;unfold rows at this;simp only [hh,hb,hk] at this;cases this
  obtain ⟨k,hk2⟩:=hex;rcases lD _ _ _ _ hk2 with h1 | ⟨e',ks',xs',h1,rfl,hm⟩
  ·rw [hb,hk] at h1;cases h1
   exact ⟨fun hmem=>absurd rfl (uC _ _ _ _ hmem hk2),fun _=>hk2⟩
  ·rw [hb,hk] at h1;cases h1
   exact ⟨fun _=>hk2,fun hn=>absurd hm hn⟩
 | var t cells=>rw [hk] at hnr; exact ⟨fun _=>hnr rfl,fun _=>hnr rfl⟩
 | ints t k xs=>rw [hk] at hnr; exact ⟨fun _=>hnr rfl,fun _=>hnr rfl⟩
 | ro ks xs=>rw [hk] at hnr; exact ⟨fun _=>hnr rfl,fun _=>hnr rfl⟩
theorem CA (bs:List aq):Go.Vs.freeze (bs.map some) ((List.range bs.length).map some)=(bs.map uR).map some:=by
 have hl:(Go.Vs.freeze (bs.map some) ((List.range bs.length).map some)).length=bs.length:=by rw [fg]; simp
 apply List.ext_getElem?;intro c;by_cases hc:c < bs.length
 ·rw [bJ.1 ((tt hc).1 (by simp [hc]))]
  simp [hc]
 ·rw [List.getElem?_eq_none (by rw [hl]; omega),List.getElem?_eq_none (by simp; omega)]
theorem di.uR {X:Ctx} {β:cR} {bs:List aq} {w:World} (h:di X β (bs.map some) w):di X β ((bs.map Go.Vs.uR).map some) w:=by
 have:=Sat.freeze ((List.range bs.length).map some) h;rw [← CA];exact this
theorem qe {bs:List aq} (h:bs.all aq.isSlice=true):(bs.map uR).all aq.isSlice=true:=by
 rw [List.all_eq_true] at h ⊢;intro k hk;obtain ⟨k0,h0,rfl⟩:=List.mem_map.1 hk;have:=h k0 h0;cases k0 <;> first | rfl | exact this
theorem afC {P:Program} {N:Know} (d:Nat) (hN:KnowOk P N d) {f:FuncId} {sp:Spec}
  (h:∀ l bs,rO l->(∀ k∈bs,okB k)->sp.pre l bs->comes P N d f l bs fun v bs'=>sp.F l bs=(v,bs'.map uR)):aa P f sp:=by
 intro as_ bs X β w vs hX hB hS hro hlen hrep hpre;have hok:rO as_:=pn hlen (fun i c v hc hv=>(hrep i c v hc hv).ok)
 have hbs:∀ k∈bs,okB k:=by
  intro k hk;obtain ⟨j,hj⟩:=List.getElem?_of_mem hk;have hb:=hS.blks j k (by rw [bJ]; simp [hj])
  have:=hro k hk;cases k with
  | ro ks xs=>
   obtain ⟨A,c,h1,h2,h3,h4,_⟩:=hb;exact ⟨h3,h4,Nat.le_trans h2.1 h2.2.1⟩
  | _=>cases this
 have hc:=pa hN.mixed hN.ctr hN.funs hN.back d hN.loops f as_ (bs.map some) _ (h as_ bs hok hbs hpre) X β w vs hS hlen hrep;refine hc.mono fun e w' he=>?_
 obtain ⟨v,u,β1,b',rfl,hk,hr,hB',hag,hle⟩:=he;split at hk
 ·rename_i v' bs' hres;obtain ⟨β',h1,h2,h3⟩:=nZ hB' hr hres;rw [hk];exact ⟨u,β',rfl,by have:=hB'.below; rw [hX,hB] at this; exact ba.wL this,h1,h2.uR,qe h3⟩
 ·exact hk.elim
def TK (sp:Spec):Spec:=⟨sp.pre,fun l bs=>((sp.F l bs).1,(sp.F l bs).2.map uR)⟩
theorem fk {P:Program} {g:FuncId} {sp:Spec} (h:aa P g sp):aa P g (TK sp):=by
 intro l bs X β w vs hX hB hS hro hlen hrep hpre;refine (h l bs X β w vs hX hB hS hro hlen hrep hpre).mono fun e w' he=>?_
 obtain ⟨u,β',h1,h2,h3,h4,h5⟩:=he;exact ⟨u,β',h1,h2,h3,h4.uR,qe h5⟩
end Go.Vs
