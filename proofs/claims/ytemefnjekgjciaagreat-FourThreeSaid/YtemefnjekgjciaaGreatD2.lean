import Derived.IntWalk
import Derived.Test.YtemefnjekgjciaaGreatC1
import Derived.Test.YtemefnjekgjciaaGreatC2
import Derived.Test.YtemefnjekgjciaaGreatD1
set_option linter.unusedVariables false
set_option linter.unusedSimpArgs false
noncomputable section
set_option maxRecDepth 100000
namespace Go.Vs.RF
open Go Go.Proofs Go.Vs
section
open Go.IntWalk
theorem pb {ks:List IntKind} {xs:L2} (h:aI ks xs) (i j:Nat) (hj:j < ks.length):dt (ks.getD j .i64) (rd xs i j):=by
 unfold rd;by_cases hi:i < xs.length
 ·have:xs.getD i []=xs[i]:=by simp [List.getD,hi]
  rw [this];exact h _ (List.getElem_mem hi) j hj
 ·have:xs.getD i []=[]:=by simp [List.getD,hi]
  rw [this];show dt (ks.getD j .i64) 0;generalize ks.getD j .i64=k;cases k <;> exact ⟨by decide,by decide⟩
theorem cH {xs:L2} (h:aI aM xs) (i j:Nat) (hj:j < 20) (hk:aM.getD j .i64=.u64):aj (rd xs i j):=by
 have:=pb h i j hj;rw [hk] at this;have h1:(0:Int)<=rd xs i j/\rd xs i j<=18446744073709551615:=this;unfold aj; omega
theorem acY {xs:L2} {i:Nat} (hi:i < xs.length):xs.getD i []=xs[i]:=by simp [List.getD,hi]
theorem bA {xs:L2} {i:Nat} (hi:i < xs.length) (j:Nat):rd xs i j*18446744073709551616+rd xs i (j+1)=fr xs[i] j:=by
 unfold rd; rw [acY hi]; rfl
theorem iz:KnowOk TP mI 3:=aF (fun g sp h=>lW h) (fun _ _=>rfl) (fun _=>rfl) 3
theorem aaW:aa TP aO WB:=by
 refine ab (N:=mI) 3 iz ?_;rintro l bs _ _ ⟨x,y,rfl,rfl⟩;show comes _ _ _ _ _ _ _;rw [Z1];show (fx (v2 [vx x y] 0),([]:List aq))=_;rw [(aeY _ x y 0 rfl).1]
theorem aaV:aa TP aX WA:=by
 refine ab (N:=mI) 3 iz ?_;rintro l bs _ _ ⟨x,y,rfl,rfl⟩;show comes _ _ _ _ _ _ _;rw [Z0];show (fx (vy [vx x y] 0),([]:List aq))=_;rw [(aeY _ x y 0 rfl).2]
theorem aa0:aa TP df WG:=by
 refine ab (N:=mI) 3 iz ?_;rintro l bs _ _ ⟨r,rfl,rfl⟩;show comes _ _ _ _ _ _ _;rw [Z4]; delta Maa Mab Maf Mai MaB MaY Ma0 MbD MbN
 rfl
theorem G6:∀ {g:FuncId} {sp:Vs.Spec},Jz g=some sp->aa TP g sp:=ao aaW (ao aaV (ao aa0 lW))
theorem XH:KnowOk TP Nu 3:=aF (fun g sp h=>G6 h) (fun _ _=>rfl) (fun _=>rfl) 3
theorem lG {r:L1} (h:uS r) (j:Nat) (hj:j < 20) (hk:aM.getD j .i64=.u64):aj (r.getD j 0):=by
 have:=h j hj;rw [hk] at this;have h1:(0:Int)<=r.getD j 0/\r.getD j 0<=18446744073709551615:=this;unfold aj; omega
theorem ik {a b c d:Int} (hb:aj b) (hd:aj d):[IV.agg [.int .i64 a,.int .u64 b,.int .i64 c,.int .u64 d]]=[IV.agg [.int .i64 ((a*18446744073709551616+b) / 18446744073709551616),.int .u64 ((a*18446744073709551616+b) % 18446744073709551616),.int .i64 ((c*18446744073709551616+d) / 18446744073709551616),.int .u64 ((c*18446744073709551616+d) % 18446744073709551616)]]:=by
 unfold aj at hb hd;rw [show (a*18446744073709551616+b) / 18446744073709551616=a by omega,show (a*18446744073709551616+b) % 18446744073709551616=b by omega,show (c*18446744073709551616+d) / 18446744073709551616=c by omega,show (c*18446744073709551616+d) % 18446744073709551616=d by omega]
theorem aaP (r:L1) (hr:uS r) (hm:PF r) (K:IV->OB->Prop) (hK:K (.tup [fx (aep (az (fr r 0) (fr r 4))),.int .i64 (bG (az (fr r 0) (fr r 4)))]) [some (.var 238 [.fn aO []])]):
  bQ TP Nu 3 bt [dG r,.ptr 0 0] [some (.var 238 [.fn aO []])] fun v b1=>ld 1 v b1 K:=by
 rw [Ww]; delta Maa Mab Mac Mae Maf Mag Mah Mai Maj Mao Maq Mau Mav Maz MaB MaD MaY Ma0 Ma1 Ma2 Mbg Mbo Mbq Mbw MbA MbN MbV Mcl Mcn Mcp Mcr Mdn Mdq Mdt MdH MeG Mfj Mgz MgF MiK Mjy;rintro t1 e1 j2 rfl t3 e3 t4 e4 t5 e5 t6 e6 t7 e7 t8 e8 t9 e9;have p8:t8:=by
  rw [e8];exact ⟨fr r 4,fr r 6,by unfold vx; rw [show fr r 4=rd [r] 0 4*18446744073709551616+rd [r] 0 5 from rfl,show fr r 6=rd [r] 0 6*18446744073709551616+rd [r] 0 7 from rfl]; exact ik (lG hr 5 (by decide) rfl) (lG hr 7 (by decide) rfl),rfl⟩
 have e34:t3*18446744073709551616+t4=fr r 0:=by rw [e3,e4]; rfl
 have ok4:aj t4:=by rw [e4]; exact lG hr 1 (by decide) rfl
 have p7:t7:=by rw [e7]; exact ⟨fr r 0,j2,by rw [ae6 ok4 e34.symm],rfl,hm.1,by rw [e1]; exact hm.2.1⟩
 refine ⟨p8,p7,⟨p8,p7,rfl⟩,?_⟩;rw [e6,e5,e34,e1];exact hK
theorem aaO (r:L1) (hr:uS r) (hm:PF r) (K:IV->OB->Prop) (hK:K (.tup [fx (aep (az (fr r 0) (fr r 6))),.int .i64 (bG (az (fr r 0) (fr r 6)))]) [some (.var 238 [.fn aX []])]):
  bQ TP Nu 3 bt [dG r,.ptr 0 0] [some (.var 238 [.fn aX []])] fun v b1=>ld 1 v b1 K:=by
 rw [Wv]; delta Maa Mab Mac Mae Maf Mag Mah Mai Maj Mao Maq Mau Mav Maz MaB MaD MaY Ma0 Ma1 Ma2 Mbg Mbo Mbq Mbw MbA MbN MbV Mcl Mcn Mcp Mcr Mdn Mdq Mdt MdH MeG Mfj Mgz MgF MiK Mjy;rintro t1 e1 j2 rfl t3 e3 t4 e4 t5 e5 t6 e6 t7 e7 t8 e8 t9 e9;have p8:t8:=by
  rw [e8];exact ⟨fr r 4,fr r 6,by unfold vx; rw [show fr r 4=rd [r] 0 4*18446744073709551616+rd [r] 0 5 from rfl,show fr r 6=rd [r] 0 6*18446744073709551616+rd [r] 0 7 from rfl]; exact ik (lG hr 5 (by decide) rfl) (lG hr 7 (by decide) rfl),rfl⟩
 have e34:t3*18446744073709551616+t4=fr r 0:=by rw [e3,e4]; rfl
 have ok4:aj t4:=by rw [e4]; exact lG hr 1 (by decide) rfl
 have p7:t7:=by rw [e7]; exact ⟨fr r 0,j2,by rw [ae6 ok4 e34.symm],rfl,hm.1,by rw [e1]; exact hm.2.2⟩
 refine ⟨p8,p7,⟨p8,p7,rfl⟩,?_⟩;rw [e6,e5,e34,e1];exact hK
theorem XR:cf TP bt G21:=by
 refine cL (N:=Nu) 3 XH ?_;rintro args b K ⟨⟨r,rfl,hr,hm,hb⟩,hK⟩;rcases hb with rfl | rfl
 ·exact aaP r hr hm K hK
 ·exact aaO r hr hm K hK
theorem L3:∀ g G,Jx g=some G->cf TP g G:=by
 intro g G h;unfold Jx at h;split at h
 ·rename_i hg; subst hg; cases h; exact XR
 ·cases h
theorem jw {s:Int} {A B:Prop}:br (bG s != 0) A B↔(¬ ag s->A)/\(ag s->B):=by
 rw [ah];constructor
 ·rintro ⟨h1,h2⟩;exact ⟨fun h=>h1 fun h0=>h (ff.1 h0),fun h=>h2 (ff.2 h)⟩
 ·rintro ⟨h1,h2⟩;exact ⟨fun h=>h1 fun h0=>h (ff.2 h0),fun h=>h2 (ff.1 h)⟩
theorem l8 (w:Nat) {xs:L2} {i:Nat} (hi:i < xs.length) (a:Int):qf w (xs.drop i) a=if Kg w xs[i]≠0 then (0,Kg w xs[i]) else if bG (a+Js w xs[i])≠0 then (0,bG (a+Js w xs[i])) else qf w (xs.drop (i+1)) (a+Js w xs[i]):=by
 rw [List.drop_eq_getElem_cons hi]; rfl
theorem l7 (w:Nat) {xs:L2} {i:Nat} (hi:¬ i < xs.length) (a:Int):qf w (xs.drop i) a=(a,0):=by
 rw [List.drop_eq_nil_of_le (by omega)]; rfl
def Jq (w:Nat) (xs:L2) (p:Int × Nat):Prop:=p.2<=xs.length/\ag p.1/\qf w (xs.drop p.2) p.1=qf w xs 0
theorem mo {n m:Nat} (h:n < m) (hm:m<=maxLen):IntKind.i64.wrap ((n:Int)+1)=((n+1:Nat):Int):=by
 have hm':m<=9223372036854775807:=hm;rw [i64_in _ (by omega)]; rfl
theorem XA (d n0:Nat):aG (ai TP ZB d) aV n0 0 (lp TP aV 0) NV:=by
 intro st K hst;obtain ⟨xs,⟨hr,hm,hmay,rfl,rfl⟩,hK⟩:=hst;have hm':xs.length<=9223372036854775807:=hm;refine aC (fun p:Int × Nat=>Zn xs p.1 p.2) (Jq 0 xs) (fun p=>xs.length - p.2) ?_ (a:=(0,0)) ⟨by simp,bg,rfl⟩
 rintro ⟨a,i⟩ ⟨h1,h2,h3⟩ k hn hk;simp only at h1 h2 h3;show round (ai TP { Γ:=Jz,Λ:=_,Τ:=Jx } d) _ _ _ _ (Zn xs a i) k;rw [WO]; delta Maa Mab Mac Mae Maf Mag Mah Mai Maj Mal Mam Mao Map Maq Mar Mat Mau Mav Maz MaA MaB MaD MaE MaG MaM MaS MaV MaW MaX Ma1 Ma2 Ma4 Mbk Mbl Mbp Mbq Mbs Mbv MbI MbN MbU Mb5 Mb7 Mcq Mcu Mcx McL McR Mdb Mdq Mek Mel MeU Mfd Mft Mgp MgJ Mis MiD MjG;rintro a rfl t2 e2 t3 e3 t4 e4 t5 e5 t6 e6;rw [al];constructor
 ·intro hi;have hi':i < xs.length:=by omega
  have et:(i:Int).toNat=i:=by omega
  rw [et] at e2 e3;have hmi:=(hmay _ (List.getElem_mem hi')).1;have ex:t2*18446744073709551616+t3=fr xs[i] 0:=by rw [e2,e3]; exact bA hi' 0
  have ok3:aj t3:=by rw [e3]; exact cH hr i 1 (by decide) rfl
  refine ⟨⟨by omega,hi⟩,⟨by omega,hi⟩,⟨xs.getD i [],by rw [et,e2,e3]; rfl,rfl⟩,⟨a,fr xs[i] 0,by rw [ae6 ok3 ex.symm],rfl,h2,hmi⟩,?_⟩
  rw [ex] at e4;rw [l8 0 hi',if_neg (show ¬ Kg 0 xs[i]≠0 from fun h=>h rfl),show Js 0 xs[i]=fr xs[i] 0 from rfl,← e4] at h3
  rw [e5,jw];constructor
  ·intro hno;rw [if_pos (by rw [dU hno]; decide)] at h3
   have hE:ca 0 xs=bG t4:=(congrArg Prod.snd h3).symm;rw [hE,jw] at hK;exact hk _ _ (by simp) (hK.1 hno)
  ·intro hmy;rw [if_neg (by rw [cK hmy]; simp)] at h3
   rw [mo hi' hm,e6,abY hmy];exact hn (t4,i+1) ⟨hi',hmy,h3⟩ (by simp; omega)
 ·intro hi;have hi':¬ i < xs.length:=by omega
  rw [l7 0 hi'] at h3;have hE:ca 0 xs=0:=(congrArg Prod.snd h3).symm;have hN:cZ 0 xs=a:=(congrArg Prod.fst h3).symm;rw [hE,hN,ah] at hK;exact hk _ _ (by simp) (hK.2 rfl)
theorem Xz (d n0:Nat):aG (ai TP ZA d) aV n0 0 (lp TP aV 0) (yT aO 4):=by
 intro st K hst;obtain ⟨xs,⟨hr,hm,hmay,rfl,rfl⟩,hK⟩:=hst;have hm':xs.length<=9223372036854775807:=hm;refine aC (fun p:Int × Nat=>Vw aO xs p.1 p.2) (Jq 4 xs) (fun p=>xs.length - p.2) ?_ (a:=(0,0)) ⟨by simp,bg,rfl⟩
 rintro ⟨a,i⟩ ⟨h1,h2,h3⟩ k hn hk;simp only at h1 h2 h3;show round (ai TP { Γ:=Jz,Λ:=_,Τ:=Jx } d) _ _ _ _ (Vw aO xs a i) k;rw [WN]; delta Maa Mab Mac Mae Maf Mag Mah Mai Maj Mal Mam Mao Map Maq Mar Mat Mau Mav Maz MaA MaB MaD MaG MaM MaO MaS MaV MaW MaX Ma1 Ma2 Ma4 Mbk Mbl Mbp Mbq Mbs Mbv Mbw Mby MbG MbI MbU MbV Mb5 Mb7 Mcq Mcs Mcu Mcx McL McR McZ Mc1 Mdb Mdc Mdq Mek Mel Mfd Mff Mfs MfL MfM MgF MgJ MgQ Mis MiD Mit MiZ Mja MjC MjG;rintro a rfl t2 e2 j3 rfl t4 e4 t5 e5 t6 e6 t7 e7 t8 e8 t9 e9 t10 e10;rw [al];constructor
 ·intro hi;have hi':i < xs.length:=by omega
  have et:(i:Int).toNat=i:=by omega
  have hmi:=hmay _ (List.getElem_mem hi');have e0:fr xs[i] 0=rd xs (i:Int).toNat 0*18446744073709551616+rd xs (i:Int).toNat 1:=by rw [et]; exact (bA hi' 0).symm
  have ew:fr xs[i] 4=rd xs (i:Int).toNat 4*18446744073709551616+rd xs (i:Int).toNat 5:=by rw [et]; exact (bA hi' 4).symm
  have hrow:uS (xs.getD i []):=by rw [acY hi']; exact hr _ (List.getElem_mem hi')
  refine ⟨⟨by omega,hi⟩,⟨by omega,hi⟩,⟨xs.getD i [],by rw [e4,e5,e6,e7,et]; rfl,hrow,by rw [acY hi']; exact hmi,.inl rfl⟩,?_⟩
  rw [l8 4 hi',show Kg 4 xs[i]=bG (az (fr xs[i] 0) (fr xs[i] 4)) from rfl,show Js 4 xs[i]=aep (az (fr xs[i] 0) (fr xs[i] 4)) from rfl] at h3
  rw [e4,e5,e6,e7,← e0,← ew] at e10;rw [← e0,← ew] at e2;rw [e10,jw];constructor
  ·intro hno;rw [if_pos (by rw [dU hno]; decide)] at h3
   have hE:ca 4 xs=bG (az (fr xs[i] 0) (fr xs[i] 4)):=(congrArg Prod.snd h3).symm;rw [hE,jw] at hK;exact hk _ _ (by simp) (hK.1 hno)
  intro hmm;rw [if_neg (by rw [cK hmm]; simp),← e2] at h3
  refine ⟨aU h2 (by rw [e2]; exact dI _),?_⟩
  rw [e8,jw];constructor
  ·intro hno;rw [if_pos (by rw [dU hno]; decide)] at h3
   have hE:ca 4 xs=bG (a+j3):=(congrArg Prod.snd h3).symm;rw [hE,jw] at hK;exact hk _ _ (by simp) (hK.1 hno)
  ·intro hmy;rw [if_neg (by rw [cK hmy]; simp)] at h3
   rw [mo hi' hm,e9,abY hmy];exact hn (a+j3,i+1) ⟨hi',hmy,h3⟩ (by simp; omega)
 ·intro hi;have hi':¬ i < xs.length:=by omega
  rw [l7 4 hi'] at h3;have hE:ca 4 xs=0:=(congrArg Prod.snd h3).symm;have hN:cZ 4 xs=a:=(congrArg Prod.fst h3).symm;rw [hE,hN,ah] at hK;exact hk _ _ (by simp) (hK.2 rfl)
theorem Xy (d n0:Nat):aG (ai TP Zz d) aV n0 0 (lp TP aV 0) (yT aX 6):=by
 intro st K hst;obtain ⟨xs,⟨hr,hm,hmay,rfl,rfl⟩,hK⟩:=hst;have hm':xs.length<=9223372036854775807:=hm;refine aC (fun p:Int × Nat=>Vw aX xs p.1 p.2) (Jq 6 xs) (fun p=>xs.length - p.2) ?_ (a:=(0,0)) ⟨by simp,bg,rfl⟩
 rintro ⟨a,i⟩ ⟨h1,h2,h3⟩ k hn hk;simp only at h1 h2 h3;show round (ai TP { Γ:=Jz,Λ:=_,Τ:=Jx } d) _ _ _ _ (Vw aX xs a i) k;rw [WM]; delta Maa Mab Mac Mae Maf Mag Mah Mai Maj Mal Mam Mao Map Maq Mar Mat Mau Mav Maz MaA MaB MaD MaG MaM MaO MaS MaV MaW MaX Ma1 Ma2 Ma4 Mbk Mbl Mbp Mbq Mbs Mbv Mbw Mby MbG MbI MbU MbV Mb5 Mb7 Mcq Mcs Mcu Mcx McL McR McZ Mc1 Mdb Mdc Mdq Mek Mel Mfd Mff Mfs Mgh Mgi MgF MgJ MgQ Mis MiD Mit MiZ Mja MjC MjG;rintro a rfl t2 e2 j3 rfl t4 e4 t5 e5 t6 e6 t7 e7 t8 e8 t9 e9 t10 e10;rw [al];constructor
 ·intro hi;have hi':i < xs.length:=by omega
  have et:(i:Int).toNat=i:=by omega
  have hmi:=hmay _ (List.getElem_mem hi');have e0:fr xs[i] 0=rd xs (i:Int).toNat 0*18446744073709551616+rd xs (i:Int).toNat 1:=by rw [et]; exact (bA hi' 0).symm
  have ew:fr xs[i] 6=rd xs (i:Int).toNat 6*18446744073709551616+rd xs (i:Int).toNat 7:=by rw [et]; exact (bA hi' 6).symm
  have hrow:uS (xs.getD i []):=by rw [acY hi']; exact hr _ (List.getElem_mem hi')
  refine ⟨⟨by omega,hi⟩,⟨by omega,hi⟩,⟨xs.getD i [],by rw [e4,e5,e6,e7,et]; rfl,hrow,by rw [acY hi']; exact hmi,.inr rfl⟩,?_⟩
  rw [l8 6 hi',show Kg 6 xs[i]=bG (az (fr xs[i] 0) (fr xs[i] 6)) from rfl,show Js 6 xs[i]=aep (az (fr xs[i] 0) (fr xs[i] 6)) from rfl] at h3
  rw [e4,e5,e6,e7,← e0,← ew] at e10;rw [← e0,← ew] at e2;rw [e10,jw];constructor
  ·intro hno;rw [if_pos (by rw [dU hno]; decide)] at h3
   have hE:ca 6 xs=bG (az (fr xs[i] 0) (fr xs[i] 6)):=(congrArg Prod.snd h3).symm;rw [hE,jw] at hK;exact hk _ _ (by simp) (hK.1 hno)
  intro hmm;rw [if_neg (by rw [cK hmm]; simp),← e2] at h3
  refine ⟨aU h2 (by rw [e2]; exact dI _),?_⟩
  rw [e8,jw];constructor
  ·intro hno;rw [if_pos (by rw [dU hno]; decide)] at h3
   have hE:ca 6 xs=bG (a+j3):=(congrArg Prod.snd h3).symm;rw [hE,jw] at hK;exact hk _ _ (by simp) (hK.1 hno)
  ·intro hmy;rw [if_neg (by rw [cK hmy]; simp)] at h3
   rw [mo hi' hm,e9,abY hmy];exact hn (a+j3,i+1) ⟨hi',hmy,h3⟩ (by simp; omega)
 ·intro hi;have hi':¬ i < xs.length:=by omega
  rw [l7 6 hi'] at h3;have hE:ca 6 xs=0:=(congrArg Prod.snd h3).symm;have hN:cZ 6 xs=a:=(congrArg Prod.fst h3).symm;rw [hE,hN,ah] at hK;exact hk _ _ (by simp) (hK.2 rfl)
theorem cP {N:Know} {f0:FuncId} {L:aB} (hΓ:∀ g sp,N.Γ g=some sp->aa TP g sp) (hΛ:N.Λ=fun f i=>if f=f0 then (if i=0 then some L else none) else none) (hΤ:∀ g G,N.Τ g=some G->cf TP g G)
  (h:∀ d n0,aG (ai TP N d) f0 n0 0 (lp TP f0 0) L) (d:Nat) (hb:∀ f,N.back f=true->lY TP f:=by intro f h; cases h):KnowOk TP N d:=by
 refine ⟨mixedOrders,hΓ,?_,hΤ,hb⟩;intro d' _ f i S n0 hS;rw [hΛ] at hS;simp only at hS;split at hS
 ·split at hS
  ·cases hS
   rename_i hf hi;subst hf; subst hi;exact h d' n0
  ·cases hS
 ·cases hS
theorem LI {N:Know} {f0:FuncId} {G:eG} (hΓ:∀ g sp,N.Γ g=some sp->aa TP g sp) (hΛ:∀ f i,N.Λ f i=none) (hΤ:N.Τ=fun g=>if g=f0 then some G else none)
  (h:cf TP f0 G) (d:Nat) (hb:∀ f,N.back f=true->lY TP f:=by intro f h; cases h):KnowOk TP N d:=by
 refine ⟨mixedOrders,hΓ,cO hΛ d,?_,hb⟩;intro g G' hG;rw [hΤ] at hG;simp only at hG;split at hG
 ·rename_i hg; subst hg; cases hG; exact h
 ·cases hG
end
def oU (a b c d:Int):L1:=[1+c % 9,0,d % 3,4611686018427387904,a - 128,b*72057594037927936,b - 128,c*1099511627776,d % 7 - 3,a,c % 5 - 2,d*1152921504606846976 % 18446744073709551616,0,d*1125899906842624,0,a*1125899906842624,b % 4,0,0,d*257]
def im (n:Int):Prop:=0<=n/\n < 256
def Sj (l:List IV) (bs:List aq):Prop:=∃a b c d,l=[.int .u8 a,.int .u8 b,.int .u8 c,.int .u8 d]/\bs=[]/\im a/\im b/\im c/\im d
def Eh:Vs.Spec:=⟨Sj,fun l _=>(dG (oU (ae l 0 0) (ae l 1 0) (ae l 2 0) (ae l 3 0)),[])⟩
def Mdo (a b:Int):Int:=Int.tmod (Mal a) b
abbrev Mec (a:Int):Prop:=BI (MaY a) []
abbrev MfK (a b:Int)(c:Prop):Prop:=Mau a (Maq (McD b MbP)) c
abbrev MgL (a b c d:Int)(e:Prop):Prop:=Mau a (Mbp b (Mdo c d)) e
theorem Tu (a b c d:Int) (K:KP):(comes TP mI 3 eS [.int .u8 a,.int .u8 b,.int .u8 c,.int .u8 d] [] K) =(∀e,MgL e 1 c 9 (∀f,MfK f (Mdo b 4) (∀g,MfK g e (MaE ((0:Int)<=56) ((0:Int)<=40) ((9:Int)≠0) (Mec e) (Ma9 ((3:Int)≠0) ((7:Int)≠0) ((5:Int)≠0) ((0:Int)<=60) ((0:Int)<=50) ((0:Int)<=50) ((4:Int)≠0) (Mec (Mdo b 4)) (K (.agg (Mdq (Mah g) (Mae g) (Mal (Int.tmod d 3)) 4611686018427387904 (Mbb (Mal a) 128) (MdB (Mas b) 72057594037927936) (Mbb (Mal b) 128) (MdB (Mas c) 1099511627776) (Mbb (Mal (Int.tmod d 7)) 3) (Mas a) (Mbb (Mal (Int.tmod c 5)) 2) (MdB (Mas d) 1152921504606846976) 0 (MdB (Mas d) 1125899906842624) 0 (MdB (Mas a) 1125899906842624) (Mah f) (Mae f) 0 (Mal (Mal d*257)) [])) [])))))) :=by delta Maa Mab Mae Maf Mah Mai Maj Mal Maq Mas Mau Mav MaD MaE MaY Ma9 Mbb Mbp MbP McD Mdo Mdq MdB Mec MfK MgL; (iterate 3 refine nm ?_); kernel_rfl
def Oe:FuncId->Option Vs.Spec:=fun g=>if g=eS then some Eh else pM g
def NI (ns:L2) (i:Nat):L1:=oU (rd ns (4*i) 0) (rd ns (4*i+1) 0) (rd ns (4*i+2) 0) (rd ns (4*i+3) 0)
def gp (ns:L2) (n:Nat):L2:=(List.range n).map (NI ns)
def eK (ns:L2) (m:Int):Nat:=min (ns.length / 4) m.toNat
def kd (ns zs:L2) (m i:Int):St:=⟨T 44 [(0,.sl 0),(1,.int .i64 m),(5,.sl 1),(6,.int .i64 i)],[some (.ro [.u8] ns),some (.row 79 aM zs)]⟩
abbrev Ma6 (a:Nat):Prop:=a<=140737488355328
def MbB (a:Int):IV:=.int .u8 a
def McU (a b c d:Int)(e:Nat):Int:=Ma0 (oU a b c d) e
def Mc2 (a:L2):aq:=.row 79 aM a
abbrev Mgr (a b:Prop)(c:Int)(d:L2)(e f:Prop):Prop:=Mbo a b (Mcq c d e f)
abbrev Mhg (a:L2)(b:Nat):Prop:=Ma6 ((List.length a+1)*b)
def Mh2 (a b c d e f g h i j k l m n o p q r s t:Int)(u:L1):L1:=Maw a b c d (Maw e f g h (Maw i j k l (Maw m n o p (Maw q r s t u))))
abbrev MiJ (a:Prop)(b:Int)(c:L2)(d:Prop):Prop:=Mbo a (Mbk b b c) d
theorem Ph (Λ:FuncId->Nat->Option aB) (d:Nat) (ns zs:L2) (m i:Int) (k:Out->St->Prop):(round (ai TP { Γ:=Oe,Λ:=Λ,Τ:=fun _=>none } d) bo 1 0 (lp TP bo 0) (kd ns zs m i) k) =(∀a,Mek a ns i (∀b,MiJ b i ns (∀c,Mek c ns (McR i) (∀e,Mek e ns (Mbp i 2) (∀f,Mek f ns (Mbp i 3) (∀g,MiJ g (McR i) ns (∀j,MiJ j (Mbp i 2) ns (∀l,MiJ l (Mbp i 3) ns (∀n,Mgr n (k MbI (Ma3 44 5 (.sl 1) [] (Mam [.u8] ns (Mc2 zs) []))) (Mbp i 3) ns (Mbv (Mat zs) m (Mav b b (Ma9 g g j j l l (Sj [MbB a,MbB c,MbB e,MbB f] []) (Mhg zs 160) (k .normal (MaM 44 (MaG 0 Mb5 1 (Maa m) 5 (.sl 1) 6 (Maa (Mbp i 4)) []) (Mam [.u8] ns (Mc2 (zs++MaU 1 20 0 0 (List.reverse (Mh2 (McU a c e f 19) (McU a c e f 18) (McU a c e f 17) (McU a c e f 16) (McU a c e f 15) (McU a c e f 14) (McU a c e f 13) (McU a c e f 12) (McU a c e f 11) (McU a c e f 10) (McU a c e f 9) (McU a c e f 8) (McU a c e f 7) (McU a c e f 6) (McU a c e f 5) (McU a c e f 4) (McU a c e f 3) (McU a c e f 2) (McU a c e f 1) (McU a c e f 0) [])))) []))))) n) n))))))))) :=by delta Maa Mac Mag Mal Mam Map Mar Mat Mau Mav Maw MaA MaE MaG MaM MaS MaU MaX Ma0 Ma3 Ma6 Ma9 Mbk Mbo Mbp Mbv MbB MbI Mb5 Mcq McR McU Mc2 Mek Mgr Mhg Mh2 MiJ; (iterate 9 refine nm ?_); kernel_rfl
def K7 (ns:L2) (m:Int):Prop:=aI [.u8] ns/\ns.length<=maxLen/\0<=m/\m<=1000
def B2 (n0:Nat) (st:St) (ns:L2) (m:Int):Prop:=K7 ns m/\n0=1/\st=kd ns [] m 0
def AR:aB:=fun n0 st K=>∃ns m,B2 n0 st ns m/\K (.exit 0) ⟨T 44 [(5,.sl 1)],[some (.ro [.u8] ns),some (.row 79 aM (gp ns (eK ns m)))]⟩
def AQ:Know:={ Γ:=Oe,Λ:=fun f i=>if f=bo then (if i=0 then some AR else none) else none,Τ:=fun _=>none }
def Mc6 (a:List IntKind)(b:L2)(c:Nat)(d:List IntKind)(e:OB):OB:=Mam a b (.row c d []) e
theorem Kb (ns:L2) (m:Int) (K:KP):(comes TP AQ 3 bo [.sl 0,.int .i64 m] [.ro [.u8] ns] K) =(∃a:L2,∃b:Int,B2 1 (MaM 44 (MaG 0 Mb5 1 (Maa m) 5 (.sl 1) 6 Mdg []) (Mc6 [.u8] ns 79 aM [])) a b/\K Mb5 [Mc2 (gp a (eK a b))]) :=by kernel_rfl
def Gs (l:List IV) (bs:List aq):Prop:=∃ns m,l=[.sl 0,.int .i64 m]/\bs=[.ro [.u8] ns]/\0<=m/\m<=1000
def wa:Vs.Spec:=⟨Gs,fun l bs=>(.sl 0,[.row 79 aM (gp (aA bs 0) (eK (aA bs 0) (ae l 1 0)))])⟩
section
open Go.IntWalk
theorem fH {a b:Int} (h:0<=a):a.tmod b=a % b:=Int.tmod_eq_emod_of_nonneg h
theorem NA:aa TP eS Eh:=by
 refine ab (N:=mI) 3 iz ?_;rintro l bs _ _ ⟨a,b,c,d,rfl,rfl,ha,hb,hc,hd⟩;unfold im at ha hb hc hd;show comes _ _ _ _ _ _ fun v bs'=>(dG (oU a b c d),([]:List aq))=(v,bs')
 rw [Tu]; delta Maa Mab Mae Maf Mah Mai Maj Mal Maq Mas Mau Mav MaD MaE MaY Ma9 Mbb Mbp MbP McD Mdo Mdq MdB Mec MfK MgL;rintro t1 e1 t2 e2 t3 e3;rw [i64_in c (by omega),fH hc.1,i64_in (1+c % 9) (by omega)] at e1
 rw [i64_in b (by omega),fH hb.1,cm (by omega)] at e2
 rw [e1,cm (by omega)] at e3
 refine ⟨by decide,by decide,by decide,dY (by unfold bn; omega),by decide,by decide,by decide,by decide,by decide,by decide,by decide,dY (by rw [i64_in b (by omega),fH hb.1]; unfold bn; omega),?_⟩
 rw [fH hd.1,fH hd.1,fH hc.1,i64_in a (by omega),i64_in b (by omega),i64_in (d % 3) (by omega),i64_in (a - 128) (by omega),i64_in (b - 128) (by omega),u64_in b (by omega),u64_in c (by omega),u64_in a (by omega),u64_in d (by omega),
  u64_in (b*72057594037927936) (by omega),u64_in (c*1099511627776) (by omega),i64_in (d % 7) (by omega),i64_in (d % 7 - 3) (by omega),i64_in (c % 5) (by omega),i64_in (c % 5 - 2) (by omega),u64_in (d*1125899906842624) (by omega),u64_in (a*1125899906842624) (by omega),i64_in d (by omega),i64_in (d*257) (by omega)]
 have k1:t3 / 18446744073709551616=1+c % 9:=by omega
 have k2:t3 % 18446744073709551616=0:=by omega
 have k3:t2 / 18446744073709551616=b % 4:=by omega
 have k4:t2 % 18446744073709551616=0:=by omega
 have k5:IntKind.u64.wrap (d*1152921504606846976)=d*1152921504606846976 % 18446744073709551616:=by exact wu _
 rw [k1,k2,k3,k4,k5]
 rfl
theorem U2:∀ {g:FuncId} {sp:Vs.Spec},Oe g=some sp->aa TP g sp:=ao NA lW
theorem tW {ns:L2} (h:aI [.u8] ns) (i:Nat):im (rd ns i 0):=by
 have:=pb h i 0 (by decide)
 have h1:(0:Int)<=rd ns i 0/\rd ns i 0<=255:=this;unfold im; omega
theorem CZ (ns:L2) (n:Nat):gp ns (n+1)=gp ns n++[NI ns n]:=by
 unfold gp; rw [List.range_succ,List.map_append]; rfl
theorem xr (ns:L2) (n:Nat):(gp ns n).length=n:=by unfold gp; simp
theorem PX (d n0:Nat):aG (ai TP AQ d) bo n0 0 (lp TP bo 0) AR:=by
 intro st K hst;obtain ⟨ns,m,⟨⟨hr,hl,hm0,hm1⟩,rfl,rfl⟩,hK⟩:=hst;have hl':ns.length<=9223372036854775807:=hl;refine aC (fun n:Nat=>kd ns (gp ns n) m (4*n)) (fun n=>n<=eK ns m) (fun n=>eK ns m - n) ?_ (a:=0) (Nat.zero_le _)
 intro n hle k hn hk;show round (ai TP { Γ:=Oe,Λ:=_,Τ:=fun _=>none } d) _ _ _ _ _ k
 rw [Ph]; delta Maa Mac Mag Mal Mam Map Mar Mat Mau Mav Maw MaA MaE MaG MaM MaS MaU MaX Ma0 Ma3 Ma6 Ma9 Mbk Mbo Mbp Mbv MbB MbI Mb5 Mcq McR McU Mc2 Mek Mgr Mhg Mh2 MiJ;have hm2:eK ns m<=m.toNat:=Nat.min_le_right _ _;have hm3:eK ns m<=ns.length / 4:=Nat.min_le_left _ _;rw [xr,i64_in (4*(n:Int)+1) (by omega),i64_in (4*(n:Int)+2) (by omega),i64_in (4*(n:Int)+3) (by omega),i64_in (4*(n:Int)+4) (by omega)]
 rintro t1 e1 t2 e2 t3 e3 t4 e4 t5 e5 t6 e6 t7 e7 t8 e8 t9 e9;have stop:n=eK ns m->t9:=by
  rintro rfl;rw [e9];exact hk _ _ (by simp) hK
 rw [al];refine ⟨fun h1=>?_,fun h1=>stop (by unfold eK at *; omega)⟩
 rw [al];refine ⟨fun h2=>?_,fun h2=>stop (by unfold eK at *; omega)⟩
 have hlt:n < eK ns m:=by unfold eK; omega
 have p2:t2:=by rw [e2]; omega
 have p6:t6:=by rw [e6]; omega
 have p7:t7:=by rw [e7]; omega
 have p8:t8:=by rw [e8]; omega
 rw [show (4*(n:Int)).toNat=4*n by omega] at e1
 rw [show (4*(n:Int)+1).toNat=4*n+1 by omega] at e3
 rw [show (4*(n:Int)+2).toNat=4*n+2 by omega] at e4
 rw [show (4*(n:Int)+3).toNat=4*n+3 by omega] at e5
 refine ⟨p2,p2,p6,p6,p7,p7,p8,p8,⟨t1,t3,t4,t5,rfl,rfl,by rw [e1]; exact tW hr _,by rw [e3]; exact tW hr _,by rw [e4]; exact tW hr _,by rw [e5]; exact tW hr _⟩,by omega,?_⟩
 have:=hn (n+1) hlt (by omega)
 rw [CZ] at this;rw [show ((4*((n+1:Nat):Int)))=4*(n:Int)+4 by omega] at this
 rw [e1,e3,e4,e5];exact this
theorem CY:aa TP bo wa:=by
 refine ab (N:=AQ) 3 (cP (f0:=bo) (L:=AR) (fun g sp h=>U2 h) rfl (fun g G h=>by cases h) PX 3) ?_
 rintro l bs _ hB ⟨ns,m,rfl,rfl,h0,h1⟩;have hb:aI [.u8] ns/\0 < [IntKind.u8].length/\ns.length<=maxLen:=hB (.ro [.u8] ns) (List.mem_singleton.2 rfl);show comes _ _ _ _ _ _ _;rw [Kb]; delta Maa Mac Mag Mam Map MaG MaM Mb5 Mc2 Mc6 Mdg;exact ⟨ns,m,⟨⟨hb.1,hb.2.2,h0,h1⟩,rfl,rfl⟩,rfl⟩
end
def AV (m x:Int):Bool:=decide (-(m*18446744073709551616)<=x/\x<=m*18446744073709551616)
def xB (m x y:Int):Bool:=AV m x && AV m y
def b8 (l:List IV) (bs:List aq):Prop:=∃x y m,l=[vx x y,.int .i64 m]/\bs=[]/\wW x/\wW y/\0<=m/\m<=1099511627776
def K8 (l:List IV) (bs:List aq):Prop:=∃x m,l=[fx x,.int .i64 m]/\bs=[]/\wW x/\0<=m/\m<=1099511627776
def Tx:Vs.Spec:=⟨b8,fun l _=>(.bool (xB (ae l 1 0) (v2 l 0) (vy l 0)),[])⟩
def KB:Vs.Spec:=⟨K8,fun l _=>(.bool (!AV (ae l 1 0) (v2 l 0)),[])⟩
abbrev MfO (a:Prop)(b:Int)(c:Prop):Prop:=Mbo a (Mec b) c
abbrev MgM (a:Prop)(b c:Int)(d:List aq)(e:Prop):Prop:=Mav a (ud (MbG b c) d) e
theorem JP (x y m:Int) (K:KP):(comes TP mI 3 kW [vx x y,.int .i64 m] [] K) =(∀a,Mau a x (∀b,Mau b y (∀c,MfK c m (∀d,Mau d c (∀e,MfK e (Mbb 0 m) (∀f,Mau f e (∀g,Md7 g a d (∀i,Md7 i a f (∀j,Md7 j b d (∀k,Md7 k b f (∀l,MfO l m (∀n,MfO n (Mbb 0 m) (MgM l x c [] (br (Mbz g 0) (MgM n x e [] (MgK i (MgM l y c [] (br (Mbz j 0) (MgM n y e [] (K (.bool (Decidable.decide (k ≥ 0))) [])) (K MaJ []))) (K MaJ []))) (K MaJ []))))))))))))))) :=by delta Maa Maf Mal Maq Mau Mav MaJ MaY Mbb Mbo Mbw Mbz MbG MbP Mcc McD Md7 Mec MfK MfO MgK MgM; refine nj ?_; refine nj ?_; refine nm ?_; refine nj ?_; refine nm ?_; refine nj ?_; (iterate 6 refine nm ?_); kernel_rfl
theorem J2 (x m:Int) (K:KP):(comes TP mI 3 fv [fx x,.int .i64 m] [] K) =(∀a,Mau a x (∀b,MfK b m (∀c,Mau c b (∀d,MfK d (Mbb 0 m) (∀e,Mau e d (∀f,Md7 f a c (∀g,Md7 g a e (MgM (Mec m) x b [] (Md3 f 0 (K Ma5 []) (MgM (Mec (Mbb 0 m)) x d [] (K (MeV g 0) []))))))))))) :=by delta Maa Maf Mal Maq Mau Mav MaA MaY Ma5 Mbb Mbw MbG MbP McD Md3 Md7 Mec MeV MfK MgM; refine nj ?_; refine nm ?_; refine nj ?_; refine nm ?_; refine nj ?_; refine nm ?_; refine nm ?_; kernel_rfl
def C7 (x y m:Int):Int:=if iY x m≠0 then iY x m else iY y m
def La (x y m:Int):Int:=if C7 x y m=0 then fF x m else 0
def K9 (x y m:Int):Int:=if C7 x y m=0 then fF y m else 0
def D4:Vs.Spec:=⟨vI,fun l _=>(.tup [vx (La (v2 l 0) (vy l 0) (v2 l 1)) (K9 (v2 l 0) (vy l 0) (v2 l 1)),.int .i64 (C7 (v2 l 0) (vy l 0) (v2 l 1))],[])⟩
theorem Th (x y m:Int) (K:KP):(comes TP mI 3 nf [vx x y,fx m] [] K) =(∀a,Mau a x (∀b,Mau b m (∀c,Mau c y (∀d,MeK d a b (∀e,MeK e c b (∀f,Mey f a b (∀g,Mey g c b (MeX x m d (K (Me4 d) []) y m e (K (Me4 e) []) (K (Mhy f g) []))))))))) :=by delta Maa Mab Maf Mai Maj Mau MaB MaW MaY Mbw MbD MbG Mcs McZ Mc0 Mey MeK MeX Me4 Mhy; (iterate 3 refine nj ?_); (iterate 4 refine nm ?_); kernel_rfl
def pk (x p m h:Int):Int:=if bG (az p h)≠0 then bG (az p h) else if iY (az p h) m≠0 then iY (az p h) m else bG (x+fF (az p h) m)
def uV (x p m h:Int):Int:=if pk x p m h=0 then x+fF (az p h) m else 0
def VK (l:List IV) (bs:List aq):Prop:=∃x p m h,l=[fx x,fx p,fx m,fx h]/\bs=[]/\ag x/\ag p/\ag m/\ag h
def TB:Vs.Spec:=⟨VK,fun l _=>(.tup [fx (uV (v2 l 0) (v2 l 1) (v2 l 2) (v2 l 3)),.int .i64 (pk (v2 l 0) (v2 l 1) (v2 l 2) (v2 l 3))],[])⟩
def Eb:Vs.Spec:=⟨VK,fun l _=>(ch (uV (v2 l 0) (v2 l 1) (v2 l 2) (v2 l 3)) (pk (v2 l 0) (v2 l 1) (v2 l 2) (v2 l 3)),[])⟩
theorem ZY (x p m h:Int) (K:KP):(comes TP mI 3 qN [fx x,fx p,fx m,fx h] [] K) =(∀a,Mau a p (∀b,Mau b h (∀c,Mau c m (∀d,Mau d x (∀e,Mc1 e a b (∀f,Mau f e (∀g,Mey g f c (∀i,Mau i g (∀j,MeK j f c (∀k,Mdc k a b (∀l,Mfs l d i (MeX p h k (K (Me2 e k) []) e m j (K (Me2 g j) []) (MfB x g/\K (MdH l (d+i)) []))))))))))))) :=by delta Maa Maf Mau MaW MaY Mbq Mbw MbA MbG Mb7 Mcs McZ Mc1 Mdc MdH Mey MeK MeX Me2 Mfs MfB; (iterate 4 refine nj ?_); refine nm ?_; refine nj ?_; refine nm ?_; refine nj ?_; (iterate 3 refine nm ?_); kernel_rfl
theorem Tm (x p m h:Int) (K:KP):(comes TP mI 3 agh [fx x,fx p,fx m,fx h] [] K) =(∀a,Mau a p (∀b,Mau b h (∀c,Mau c m (∀d,Mau d x (∀e,Mc1 e a b (∀f,Mau f e (∀g,Mey g f c (∀i,Mau i g (∀j,MeK j f c (∀k,Mdc k a b (∀l,Mfs l d i (MeX p h k (K (Mhe e e k) []) e m j (K (Mhe g g j) []) (MfB x g/\K (Mi6 l (d+i)) []))))))))))))) :=by delta Maa Mab Mae Maf Mah Mai Mau MaW MaY Ma1 Mbq Mbw MbG Mb7 Mcs McZ Mc1 Mdc Mey MeK MeX Mfs MfB Mhe Mi6; (iterate 4 refine nj ?_); refine nm ?_; refine nj ?_; refine nm ?_; refine nj ?_; (iterate 3 refine nm ?_); kernel_rfl
def SV:FuncId->Option Vs.Spec:=fun g=>if g=kW then some Tx else if g=fv then some KB else if g=nf then some D4 else if g=qN then some TB else if g=agh then some Eb else pM g
def Rv:Know:={ Γ:=SV,Λ:=fun _ _=>none,Τ:=fun _=>none }
def vY (r:L1):Int:=La (fr r 8) (fr r 10) (fr r 0)
def vX (r:L1):Int:=K9 (fr r 8) (fr r 10) (fr r 0)
def iW (r:L1):Int:=C7 (fr r 8) (fr r 10) (fr r 0)
def agd (r:L1):Bool:=decide (iW r=0) && xB 65536 (vY r) (vX r)
def gl (l:List IV) (i:Nat):L1:=[ae l i 0,ae l i 1,ae l i 2,ae l i 3,ae l i 4,ae l i 5,ae l i 6,ae l i 7,ae l i 8,ae l i 9,ae l i 10,ae l i 11,ae l i 12,ae l i 13,ae l i 14,ae l i 15,ae l i 16,ae l i 17,ae l i 18,ae l i 19]
def Uk (r:L1):Prop:=ag (fr r 0)/\ag (fr r 4)/\ag (fr r 6)/\ag (fr r 8)/\ag (fr r 10)
def pB (l:List IV) (bs:List aq):Prop:=∃r,l=[dG r]/\bs=[]/\r.length=20/\uS r/\Uk r
def zo:Vs.Spec:=⟨pB,fun l _=>(.tup [vx (vY (gl l 0)) (vX (gl l 0)),.int .i64 (iW (gl l 0))],[])⟩
def v7:Vs.Spec:=⟨pB,fun l _=>(nP (vY (gl l 0)) (vX (gl l 0)) (iW (gl l 0)),[])⟩
theorem OM (r:L1) (K:KP):(comes TP Rv 3 lT [dG r] [] K) =(∀a,Mbg a r 8 (∀b,Mbg b r 9 (∀c,Mbg c r 10 (∀d,Mbg d r 11 (∀e,Mbg e r 0 (∀f,Mbg f r 1 (∀g,Mcl g a b (∀i,Mcl i c d (∀j,Mcl j e f (∀k,Mau k (La g i j) (∀l,Mau l (K9 g i j) (vI (Mdn a b c d (MbN e f [])) []/\K (.tup (Mc0 k l (MaY (C7 g i j)))) [])))))))))))) :=by delta Maa Mab Maf Mai Maj Maq Mau MaB MaY Ma0 Ma2 Mbg MbN Mcl Mc0 Mdn; (iterate 11 refine nm ?_); kernel_rfl
theorem J4 (r:L1) (K:KP):(comes TP Rv 3 fT [dG r] [] K) =(∀a,Mbg a r 8 (∀b,Mbg b r 9 (∀c,Mbg c r 0 (∀d,Mbg d r 1 (∀e,Mbg e r 10 (∀f,Mbg f r 11 (∀g,Mcl g a b (∀i,Mcl i c d (∀j,Mcl j e f (∀k,MeK k g i (∀l,MeK l j i (∀m,Mey m g i (∀n,Mey n j i (Mfm (Mfe a b c d []) k (K (MfW k) []) (Mfe e f c d []) l (K (MfW l) []) (K (MhT m m n n) []))))))))))))))) :=by delta Maa Mab Mae Maf Mah Mai Maj Maq Mau MaB MaW MaY Ma0 Ma2 Mbc Mbg MbD MbN Mcl Mcr Mcs Mey MeK Mfe Mfm MfW MhT; (iterate 13 refine nm ?_); kernel_rfl
def mb:Vs.Spec:=⟨y7,fun l _=>(.bool (xB 1073741824 (v2 l 0) (vy l 0)),[])⟩
theorem J8 (x y:Int) (K:KP):(comes TP Rv 3 kX [vx x y] [] K) =(∀a,Mau a x (∀b,Mau b y (b8 (Mc0 x y (MaY 1073741824)) []/\K (.bool (xB 1073741824 a b)) []))) :=by delta Maa Maf Mau MaY Mc0; refine nj ?_; refine nj ?_; kernel_rfl
theorem H2 (x y:Int) (K:KP):(comes TP Rv 3 fw [vx x y] [] K) =(∀a,Mau a x (∀b,Mau b y (Mdu (K8 (fx x::MaY 1073741824) []) (Bool.not (AV 1073741824 a)) (K8 (fx y::MaY 1073741824) []/\K (.bool (Bool.not (Bool.not (AV 1073741824 b)))) []) (K MaJ [])))) :=by delta Maa Maf Mau MaJ MaY Mbm Mdu; refine nj ?_; refine nj ?_; kernel_rfl
section
open Go.IntWalk
theorem pG {m:Int} (h:-1099511627776<=m/\m<=1099511627776):wW (m*18446744073709551616):=⟨by omega,by omega⟩
theorem Gy {k:Int} (h:-9223372036854775807<=k):mx .i64 k (-9223372036854775807)=k:=by unfold mx; rw [if_neg (by omega)]
theorem QF {a b:Int}:cb a b < 0↔a < b:=by
 unfold cb; split
 ·omega
 ·split <;> omega
theorem Ap {m x:Int}:AV m x=true↔-(m*18446744073709551616)<=x/\x<=m*18446744073709551616:=by unfold AV; exact decide_eq_true_iff
theorem MV:aa TP kW Tx:=by
 refine ab (N:=mI) 3 iz ?_;rintro l bs _ _ ⟨x,y,m,rfl,rfl,hx,hy,h0,h1⟩;have hF:Tx.F [vx x y,.int .i64 m] []=(.bool (xB m x y),[]):=by
  show (IV.bool (xB m (v2 _ 0) (vy _ 0)),([]:List aq))=_;rw [(aeY _ x y 0 rfl).1,(aeY _ x y 0 rfl).2]
 rw [hF,JP]; delta Maa Maf Mal Maq Mau Mav MaJ MaY Mbb Mbo Mbw Mbz MbG MbP Mcc McD Md7 Mec MfK MfO MgK MgM;rintro j1 rfl j2 rfl t3 e3 j4 rfl t5 e5 j6 rfl t7 e7 t8 e8 t9 e9 t10 e10 t11 e11 t12 e12;rw [Gy (by omega)] at e3
 rw [i64_in (0 - m) (by omega),Gy (by omega)] at e5
 have p11:t11:=by rw [e11]; exact dY ⟨by omega,by omega⟩
 have p12:t12:=by rw [e12,i64_in (0 - m) (by omega)]; exact dY ⟨by omega,by omega⟩
 have f4:wW j4:=by rw [e3]; exact pG ⟨by omega,by omega⟩
 have f6:wW j6:=by rw [e5]; exact pG ⟨by omega,by omega⟩
 have no:∀ {x:Int},¬ (-(m*18446744073709551616)<=x/\x<=m*18446744073709551616)->AV m x=false:=fun h=>by
  cases hb:AV m _ with
  | false=>rfl
  | true=>exact absurd (Ap.1 hb) h
 refine ⟨p11,mi hx f4,?_⟩;rw [al,e7,nq];refine ⟨fun a1=>⟨p12,mi hx f6,?_⟩,fun a1=>by unfold xB; rw [no (by omega)]; rfl⟩
 rw [al,e8,AG];refine ⟨fun a2=>⟨p11,mi hy f4,?_⟩,fun a2=>by unfold xB; rw [no (by omega)]; rfl⟩
 have yes:AV m j1=true:=Ap.2 (by omega)
 rw [al,e9,nq];refine ⟨fun a3=>⟨p12,mi hy f6,?_⟩,fun a3=>by unfold xB; rw [yes,no (by omega)]; rfl⟩
 unfold xB;rw [yes,Bool.true_and,e10];unfold AV;rw [show decide (-(m*18446744073709551616)<=j2/\j2<=m*18446744073709551616)=decide (cb j2 j6 ≥ 0) by
  rw [Bool.eq_iff_iff,decide_eq_true_iff,decide_eq_true_iff,AG]; omega]
theorem No:aa TP fv KB:=by
 refine ab (N:=mI) 3 iz ?_;rintro l bs _ _ ⟨x,m,rfl,rfl,hx,h0,h1⟩;have hF:KB.F [fx x,.int .i64 m] []=(.bool (!AV m x),[]):=by
  show (IV.bool (!AV m (v2 _ 0)),([]:List aq))=_;rw [bc _ x 0 rfl]
 rw [hF,J2]; delta Maa Maf Mal Maq Mau Mav MaA MaY Ma5 Mbb Mbw MbG MbP McD Md3 Md7 Mec MeV MfK MgM;rintro j1 rfl t2 e2 j3 rfl t4 e4 j5 rfl t6 e6 t7 e7;rw [Gy (by omega)] at e2
 rw [i64_in (0 - m) (by omega),Gy (by omega)] at e4
 have f3:wW j3:=by rw [e2]; exact pG ⟨by omega,by omega⟩
 have f5:wW j5:=by rw [e4]; exact pG ⟨by omega,by omega⟩
 refine ⟨dY ⟨by omega,by omega⟩,mi hx f3,?_⟩
 rw [al,e6,Va];constructor
 ·intro h;have:AV m j1=false:=by
   cases hb:AV m j1 with
   | false=>rfl
   | true=>have:=Ap.1 hb; omega
  rw [this]; rfl
 ·intro h;refine ⟨by rw [i64_in (0 - m) (by omega)]; exact dY ⟨by omega,by omega⟩,mi hx f5,?_⟩
  rw [e7];unfold AV;rw [show (!decide (-(m*18446744073709551616)<=j1/\j1<=m*18446744073709551616))=decide (cb j1 j5 < 0) by
   rw [Pw,Bool.eq_iff_iff,decide_eq_true_iff,decide_eq_true_iff,QF]; omega]
theorem Qv {x m:Int} (h:iY x m≠0):fF x m=0:=by
 unfold iY at h; unfold fF;split
 ·rfl
 ·rename_i hm;rw [if_neg hm] at h;exact po (fun hh=>h (cK hh))
theorem Vg:aa TP nf D4:=by
 refine ab (N:=mI) 3 iz ?_;rintro l bs _ _ ⟨x,y,m,rfl,rfl,⟨hx,hy⟩,hm⟩;have hF:D4.F [vx x y,fx m] []=(.tup [vx (La x y m) (K9 x y m),.int .i64 (C7 x y m)],[]):=by
  show (IV.tup [vx (La (v2 _ 0) (vy _ 0) (v2 _ 1)) (K9 (v2 _ 0) (vy _ 0) (v2 _ 1)),.int .i64 (C7 (v2 _ 0) (vy _ 0) (v2 _ 1))],([]:List aq))=_;rw [(aeY _ x y 0 rfl).1,(aeY _ x y 0 rfl).2,bc _ m 1 rfl]
 rw [hF,Th]; delta Maa Mab Maf Mai Maj Mau MaB MaW MaY Mbw MbD MbG Mcs McZ Mc0 Mey MeK MeX Me4 Mhy;rintro j1 rfl j2 rfl j3 rfl t4 e4 t5 e5 t6 e6 t7 e7;refine ⟨aU hx hm,?_⟩;rw [ah];refine ⟨fun h=>?_,fun h=>⟨aU hy hm,?_⟩⟩
 ·have:C7 j1 j3 j2=t4:=by unfold C7; rw [← e4,if_pos h]
  unfold La K9;rw [this,if_neg h,if_neg h]
  rfl
 ·have:C7 j1 j3 j2=t5:=by unfold C7; rw [← e4,if_neg (by simpa using h),← e5]
  unfold La K9;rw [this,ah];refine ⟨fun h5=>?_,fun h5=>?_⟩
  ·rw [if_neg h5,if_neg h5]; rfl
  ·rw [if_pos h5,if_pos h5,h5,e6,e7]
theorem Le {x p m h:Int} (hx:ag x) (hp:ag p) (hm:ag m) (hh:ag h) {K:Int->Int->Prop} (hK:K (uV x p m h) (pk x p m h)):
  ∀ {t5 t7 t9 t10 t11:Int},t5=aep (az p h)->t7=fF t5 m->t9=iY t5 m->t10=bG (az p h)->t11=aep (x+t7)->
  jN [fx p,fx h] []/\br (t10 != 0) (K t5 t10) (jN [fx t5,fx m] []/\br (t9 != 0) (K t7 t9) (jN [fx x,fx t7] []/\K t11 (bG (x+t7)))):=by
 intro t5 t7 t9 t10 t11 e5 e7 e9 e10 e11;refine ⟨aU hp hh,?_⟩;have m5:ag t5:=by rw [e5]; exact dI _
 have m7:ag t7:=by rw [e7]; exact vz _ _
 rw [ah];refine ⟨fun h1=>?_,fun h1=>⟨aU m5 hm,?_⟩⟩
 ·have hE:pk x p m h=t10:=by unfold pk; rw [← e10,if_pos h1]
  have hN:uV x p m h=t5:=by
   unfold uV; rw [hE,if_neg h1,e5,po (fun hh=>h1 (by rw [e10]; exact cK hh))]
  rw [hE,hN] at hK; exact hK
 ·have hmay:ag (az p h):=ff.1 (by rw [← e10]; exact h1)
  have e5':t5=az p h:=by rw [e5,abY hmay]
  rw [e5'] at e7 e9;rw [ah];refine ⟨fun h2=>?_,fun h2=>⟨aU hx m7,?_⟩⟩
  ·have hE:pk x p m h=t9:=by unfold pk; rw [← e10,if_neg (by simpa using h1),← e9,if_pos h2]
   have hN:uV x p m h=t7:=by
    unfold uV; rw [hE,if_neg h2,e7,Qv (by rw [← e9]; exact h2)]
   rw [hE,hN] at hK; exact hK
  ·have hE:pk x p m h=bG (x+t7):=by unfold pk; rw [← e10,if_neg (by simpa using h1),← e9,if_neg (by simpa using h2),← e7]
   have hN:uV x p m h=t11:=by
    unfold uV; rw [hE,e11,← e7];by_cases hh:ag (x+t7)
    ·rw [if_pos (cK hh),abY hh]
    ·rw [if_neg (by rw [dU hh]; decide),po hh]
   rw [hE,hN] at hK; exact hK
theorem aaU:aa TP qN TB:=by
 refine ab (N:=mI) 3 iz ?_;rintro l bs _ _ ⟨x,p,m,h,rfl,rfl,hx,hp,hm,hh⟩;have hF:TB.F [fx x,fx p,fx m,fx h] []=(.tup [fx (uV x p m h),.int .i64 (pk x p m h)],[]):=by
  show (IV.tup [fx (uV (v2 _ 0) (v2 _ 1) (v2 _ 2) (v2 _ 3)),.int .i64 (pk (v2 _ 0) (v2 _ 1) (v2 _ 2) (v2 _ 3))],([]:List aq))=_;rw [bc _ x 0 rfl,bc _ p 1 rfl,bc _ m 2 rfl,bc _ h 3 rfl]
 rw [hF,ZY]; delta Maa Maf Mau MaW MaY Mbq Mbw MbA MbG Mb7 Mcs McZ Mc1 Mdc MdH Mey MeK MeX Me2 Mfs MfB;rintro j1 rfl j2 rfl j3 rfl j4 rfl t5 e5 j6 rfl t7 e7 j8 rfl t9 e9 t10 e10 t11 e11;exact Le (K:=fun n e=>(IV.tup [fx (uV j4 j1 j3 j2),.int .i64 (pk j4 j1 j3 j2)],([]:List aq))=(IV.tup [fx n,.int .i64 e],[])) hx hp hm hh rfl e5 e7 e9 e10 e11
theorem Vi:aa TP agh Eb:=by
 refine ab (N:=mI) 3 iz ?_;rintro l bs _ _ ⟨x,p,m,h,rfl,rfl,hx,hp,hm,hh⟩;have hF:Eb.F [fx x,fx p,fx m,fx h] []=(ch (uV x p m h) (pk x p m h),[]):=by
  show (ch (uV (v2 _ 0) (v2 _ 1) (v2 _ 2) (v2 _ 3)) (pk (v2 _ 0) (v2 _ 1) (v2 _ 2) (v2 _ 3)),([]:List aq))=_;rw [bc _ x 0 rfl,bc _ p 1 rfl,bc _ m 2 rfl,bc _ h 3 rfl]
 rw [hF,Tm]; delta Maa Mab Mae Maf Mah Mai Mau MaW MaY Ma1 Mbq Mbw MbG Mb7 Mcs McZ Mc1 Mdc Mey MeK MeX Mfs MfB Mhe Mi6;rintro j1 rfl j2 rfl j3 rfl j4 rfl t5 e5 j6 rfl t7 e7 j8 rfl t9 e9 t10 e10 t11 e11;exact Le (K:=fun n e=>(ch (uV j4 j1 j3 j2) (pk j4 j1 j3 j2),([]:List aq))=(ch n e,[])) hx hp hm hh rfl e5 e7 e9 e10 e11
theorem MO:∀ {g:FuncId} {sp:Vs.Spec},SV g=some sp->aa TP g sp:=ao MV (ao No (ao Vg (ao aaU (ao Vi lW))))
theorem Am:KnowOk TP Rv 3:=aF (fun g sp h=>MO h) (fun _ _=>rfl) (fun _=>rfl) 3
theorem TJ {r:L1} (h:r.length=20):[r.getD 0 0,r.getD 1 0,r.getD 2 0,r.getD 3 0,r.getD 4 0,r.getD 5 0,r.getD 6 0,r.getD 7 0,r.getD 8 0,r.getD 9 0,r.getD 10 0,r.getD 11 0,r.getD 12 0,r.getD 13 0,r.getD 14 0,r.getD 15 0,r.getD 16 0,r.getD 17 0,r.getD 18 0,r.getD 19 0]=r:=by
 match r,h with
 | [_,_,_,_,_,_,_,_,_,_,_,_,_,_,_,_,_,_,_,_],_=>rfl
theorem eu (l:List IV) (i:Nat) (r:L1) (h:r.length=20) (hl:lg l i=some (dG r)):gl l i=r:=by
 have e:∀ j,ae l i j=ae [dG r] 0 j:=by intro j; unfold ae; rw [hl]; rfl
 unfold gl;simp only [e];exact TJ h
theorem mU {r:L1} (h:uS r) (j:Nat) (hj:j+1 < 20) (hk:aM.getD (j+1) .i64=.u64):IV.agg [.int .i64 (rd [r] 0 j),.int .u64 (rd [r] 0 (j+1))]=fx (fr r j):=(ae6 (lG h (j+1) hj hk) rfl).symm
theorem QZ:aa TP lT zo:=by
 refine ab (N:=Rv) 3 Am ?_;rintro l bs _ _ ⟨r,rfl,rfl,hl,hr,h0,h4,h6,h8,h10⟩;have hF:zo.F [dG r] []=(.tup [vx (vY r) (vX r),.int .i64 (iW r)],[]):=by
  show (IV.tup [vx (vY (gl _ 0)) (vX (gl _ 0)),.int .i64 (iW (gl _ 0))],([]:List aq))=_;rw [eu _ 0 r hl rfl]
 rw [hF,OM]; delta Maa Mab Maf Mai Maj Maq Mau MaB MaY Ma0 Ma2 Mbg MbN Mcl Mc0 Mdn;rintro t1 rfl t2 rfl t3 rfl t4 rfl t5 rfl t6 rfl t7 rfl t8 rfl t9 rfl t10 rfl t11 rfl;refine ⟨⟨fr r 8,fr r 10,fr r 0,?_,rfl,⟨h8,h10⟩,h0⟩,rfl⟩;rw [mU hr 0 (by decide) rfl]
 congr 1
 have:=ik (a:=r.getD 8 0) (b:=r.getD 9 0) (c:=r.getD 10 0) (d:=r.getD 11 0) (lG hr 9 (by decide) rfl) (lG hr 11 (by decide) rfl)
 exact List.cons.inj this |>.1
theorem HA (x y e:Int):nP x y e=.agg [.int .i64 (x / 18446744073709551616),.int .u64 (x % 18446744073709551616),.int .i64 (y / 18446744073709551616),.int .u64 (y % 18446744073709551616),.int .i64 e]:=rfl
theorem Nr:aa TP fT v7:=by
 refine ab (N:=Rv) 3 Am ?_;rintro l bs _ _ ⟨r,rfl,rfl,hl,hr,h0,h4,h6,h8,h10⟩;have hF:v7.F [dG r] []=(nP (vY r) (vX r) (iW r),[]):=by
  show (nP (vY (gl _ 0)) (vX (gl _ 0)) (iW (gl _ 0)),([]:List aq))=_;rw [eu _ 0 r hl rfl]
 rw [hF,J4]; delta Maa Mab Mae Maf Mah Mai Maj Maq Mau MaB MaW MaY Ma0 Ma2 Mbc Mbg MbD MbN Mcl Mcr Mcs Mey MeK Mfe Mfm MfW MhT;rintro t1 rfl t2 rfl t3 rfl t4 rfl t5 rfl t6 rfl t7 e7 t8 e8 t9 e9 t10 e10 t11 e11 t12 e12 t13 e13;rw [show t7=fr r 8 from e7] at *
 rw [show t8=fr r 0 from e8] at *
 rw [show t9=fr r 10 from e9] at *
 rw [mU hr 0 (by decide) rfl,mU hr 8 (by decide) rfl,mU hr 10 (by decide) rfl]
 refine ⟨aU h8 h0,?_⟩;rw [ah];refine ⟨fun h=>?_,fun h=>⟨aU h10 h0,?_⟩⟩
 ·have:iW r=t10:=by unfold iW C7; rw [← e10,if_pos h]
  unfold vY vX La K9;rw [show C7 (fr r 8) (fr r 10) (fr r 0)=iW r from rfl,this,if_neg h,if_neg h]
  rfl
 ·have:iW r=t11:=by unfold iW C7; rw [← e10,if_neg (by simpa using h),← e11]
  unfold vY vX La K9;rw [show C7 (fr r 8) (fr r 10) (fr r 0)=iW r from rfl,this,ah]
  refine ⟨fun h5=>?_,fun h5=>?_⟩
  ·rw [if_neg h5,if_neg h5]; rfl
  ·rw [if_pos h5,if_pos h5,h5,e12,e13,HA]
theorem Nx:aa TP kX mb:=by
 refine ab (N:=Rv) 3 Am ?_;rintro l bs _ _ ⟨x,y,rfl,rfl,hx,hy⟩;have hF:mb.F [vx x y] []=(.bool (xB 1073741824 x y),[]):=by
  show (IV.bool (xB 1073741824 (v2 _ 0) (vy _ 0)),([]:List aq))=_;rw [(aeY _ x y 0 rfl).1,(aeY _ x y 0 rfl).2]
 rw [hF,J8]; delta Maa Maf Mau MaY Mc0;rintro j1 rfl j2 rfl;exact ⟨⟨j1,j2,_,rfl,rfl,hx,hy,by decide,by decide⟩,rfl⟩
theorem Jf:aa TP fw mb:=by
 refine ab (N:=Rv) 3 Am ?_;rintro l bs _ _ ⟨x,y,rfl,rfl,hx,hy⟩;have hF:mb.F [vx x y] []=(.bool (xB 1073741824 x y),[]):=by
  show (IV.bool (xB 1073741824 (v2 _ 0) (vy _ 0)),([]:List aq))=_;rw [(aeY _ x y 0 rfl).1,(aeY _ x y 0 rfl).2]
 rw [hF,H2]; delta Maa Maf Mau MaJ MaY Mbm Mdu;rintro j1 rfl j2 rfl;refine ⟨⟨j1,_,rfl,rfl,hx,by decide,by decide⟩,?_⟩
 unfold xB;rw [aL,Bool.not_not];refine ⟨fun h=>⟨⟨j2,_,rfl,rfl,hy,by decide,by decide⟩,by rw [h,Bool.not_not,Bool.true_and]⟩,fun h=>by rw [h]; rfl⟩
end
def dm:List IntKind:=[.i64,.u64,.i64,.u64]
def SU:FuncId->Option Vs.Spec:=fun g=>if g=lT then some zo else if g=fT then some v7 else if g=kX then some mb else if g=fw then some mb else SV g
def VB:Know:={ Γ:=SU,Λ:=fun _ _=>none,Τ:=fun _=>none }
def MiC (a:L1)(b:Nat)(c:List IV):L1:=gl (MaB (bN aM [a] 0 b 20) c) 0
theorem Tp (r:L1) (K:KP):(comes TP VB 3 ng [dG r] [] K) =(∀a,Mau a (vY (MiC r 0 [])) (∀b,Mau b a (∀c,Mau c (vX (MiC r 0 [])) (∀d,Mau d c (∀e,Mau e (iW (MiC r 0 [])) (pB (MaB (bN aM [r] 0 0 20) []) []/\Mcm e 0 (b8 (Mc0 a c (MaY 65536)) []/\K (.tup (.bool (xB 65536 b d)::MaY e)) []) (K (.tup (MaJ::MaY e)) []))))))) :=by delta Maa Maf Mau MaB MaJ MaY Mcm Mc0 MiC; refine nm ?_; refine nj ?_; refine nm ?_; refine nj ?_; refine nm ?_; kernel_rfl
theorem OP (r:L1) (K:KP):(comes TP VB 3 gz [dG r] [] K) =(∀a,Mau a (vY (MiC r 0 [])) (∀b,Mau b a (∀c,Mau c (vX (MiC r 0 [])) (∀d,Mau d c (∀e,Mau e (iW (MiC r 0 [])) (Mcs (pB (MaB (bN aM [r] 0 0 20) []) []) e (K (.agg (MaJ::MaY e)) []) (Mdu (K8 (fx a::MaY 65536) []) (Bool.not (AV 65536 b)) (K8 (fx c::MaY 65536) []/\K (.agg (.bool (Bool.not (Bool.not (AV 65536 d)))::MbD)) []) (K (.agg (MaJ::MbD)) [])))))))) :=by delta Maa Maf Mau MaB MaJ MaW MaY Mbm MbD Mcs Mdu MiC; refine nm ?_; refine nj ?_; refine nm ?_; refine nj ?_; refine nm ?_; kernel_rfl
def DR:Vs.Spec:=⟨pB,fun l _=>(.tup [.bool (agd (gl l 0)),.int .i64 (iW (gl l 0))],[])⟩
def zu:Vs.Spec:=⟨pB,fun l _=>(.agg [.bool (agd (gl l 0)),.int .i64 (iW (gl l 0))],[])⟩
def Sq (r:L1) (h:Int):Int:=uV (fr r 4) (fr r 8) (fr r 0) h
def Sp (r:L1) (h:Int):Int:=uV (fr r 6) (fr r 10) (fr r 0) h
def ur (r:L1) (h:Int):Int:=if pk (fr r 4) (fr r 8) (fr r 0) h≠0 then pk (fr r 4) (fr r 8) (fr r 0) h else if pk (fr r 6) (fr r 10) (fr r 0) h≠0 then pk (fr r 6) (fr r 10) (fr r 0) h else if xB 1073741824 (Sq r h) (Sp r h) then 0 else 5
def Iu (r:L1) (h:Int):Int:=if ur r h=0 then Sq r h else 0
def It (r:L1) (h:Int):Int:=if ur r h=0 then Sp r h else 0
def cj (l:List IV) (bs:List aq):Prop:=∃r h,l=[dG r,fx h]/\bs=[]/\r.length=20/\uS r/\Uk r/\ag h
def zD:Vs.Spec:=⟨cj,fun l _=>(.tup [vx (Iu (gl l 0) (v2 l 1)) (It (gl l 0) (v2 l 1)),.int .i64 (ur (gl l 0) (v2 l 1))],[])⟩
def Mbr:Int:=(-170141183460469231731687303715884105728)
def Mgd (a b c d e f:Int)(g:List IV):List IV:=MbN a b (MbN c d (MbN e f g))
def MhC (a b:L1):Int:=Ma2 (Ma0 a 0) (Ma0 b 1)
theorem OD (r:L1) (h:Int) (K:KP):(comes TP VB 3 lS [dG r,fx h] [] K) =(∀a,Mau a h (∀b,Mau b (uV (Ma2 (Ma0 r 4) (Ma0 r 5)) (Ma2 (Ma0 r 8) (Ma0 r 9)) (MhC r r) a) (∀c,Mau c b (∀d,Mau d (uV (Ma2 (Ma0 r 6) (Ma0 r 7)) (Ma2 (Ma0 r 10) (Ma0 r 11)) (MhC r r) a) (∀e,Mau e d (∀f,Mbg f r 4 (∀g,Mbg g r 5 (∀i,Mbg i r 8 (∀j,Mbg j r 9 (∀k,Mbg k r 0 (∀l,Mbg l r 1 (∀m,Mbg m r 6 (∀n,Mbg n r 7 (∀o,Mbg o r 10 (∀p,Mbg p r 11 (∀q,Mcl q k l (∀s,Mbo s (K (Me4 5) []) (∀t,Mbo t (y7 (Mc0 b d []) []) (∀u,Mau u (pk (Ma2 f g) (Ma2 i j) q a) (∀v,Mau v (pk (Ma2 m n) (Ma2 o p) q a) (Mfm (VK (Mgd f g i j k l (Mbw h)) []) u (K (Me4 u) []) (VK (Mgd m n o p k l (Mbw h)) []) v (K (Me4 v) []) (Mdu t (Bool.and (MaA Mbr c) (MaA Mbr e)) s (Mdu t (xB 1073741824 c e) s (K (Mhy b d) [])))))))))))))))))))))))) :=by delta Maa Mab Maf Mai Maj Maq Mau MaA MaB MaW MaY Ma0 Ma2 Mbg Mbm Mbo Mbr Mbw MbD MbN Mcl Mcs Mc0 Mdu Me4 Mfm Mgd Mhy MhC; refine nj ?_; refine nm ?_; refine nj ?_; refine nm ?_; refine nj ?_; (iterate 15 refine nm ?_); kernel_rfl
def AY:FuncId->Option Vs.Spec:=fun g=>if g=ng then some DR else if g=gz then some zu else if g=lS then some zD else SU g
def cI (x y:Int):L1:=[x / 18446744073709551616,x % 18446744073709551616,y / 18446744073709551616,y % 18446744073709551616]
def eD (h:Int):L2->Int
 | []=>0
 | r :: l=>if ur r h≠0 then ur r h else eD h l
def agk (h:Int) (xs:L2):L2:=xs.map fun r=>cI (Iu r h) (It r h)
def lh (h:Int) (xs:L2):L2:=if eD h xs=0 then agk h xs else []
def lC (r:L1):Prop:=r.length=20/\uS r/\Uk r
def aY (xs:L2):Prop:=∀ r∈xs,lC r
def c9 (xs zs:L2) (h i:Int):St:=⟨T 32 [(3,.ptr 1 0),(6,.sl 2),(11,.sl 0),(12,.int .i64 xs.length),(13,.int .i64 i)],[some (.ro aM xs),some (.var 25 (fx h).cells),some (.row 31 dm zs)]⟩
def Mba (a:Nat)(b:List IV)(c:Nat)(d:List IntKind)(e:L2)(f:OB):OB:=Mag (.var a b) (.row c d e) f
def Mct (a b:Nat)(c:IV)(d:List (Nat × IV))(e:L2)(f:OB):St:=Ma3 a b c d (MaV aM e f)
def McG (a:List IntKind)(b:L2)(c:Int)(d e:Nat)(f:List IV):List IV:=MaB (bN a b (Int.toNat c) d e) f
def Mc3 (a b c:Nat)(d:List (Nat × IV))(e:L2)(f:OB):St:=Mct a b (Mao c) d e f
def Mdf (a b c:Nat)(d:IV)(e:Nat)(f:IV)(g:Nat)(h:IV)(i:List (Nat × IV)):List (Nat × IV):=MaG a (.sl b) c d e f g h i
def Mdj (a b c:Nat)(d:IV)(e:List (Nat × IV)):List (Nat × IV):=Map a (.sl b) c d e
def MdK (a:L2):aq:=.row 31 dm a
def Met (a:Int):IV:=Maa (Mbp a 1)
abbrev MgG (a:L2)(b c:Nat)(d:Prop):Prop:=Ma6 ((List.length a+b)*c)/\d
def Mhq (a b:Int)(c:L2)(d:OB):OB:=Mba 25 (Ma1 a b []) 31 dm c d
def MhA (a:L2)(b:Nat)(c:L1):L2:=a++MaU 1 b 0 0 c
def Mh9 (a:L2)(b:Int)(c:List IV):L1:=gl (McG aM a b 0 20 c) 0
def MiB (a b c d:Nat)(e:L2)(f:Nat)(g:IV):List (Nat × IV):=Mdf a b c Mb5 d (Mcu e) f g []
def Mjz (a b:Int):L1:=Maw (Mah a) (Mae a) (Mah b) (Mae b) []
theorem WT (Λ:FuncId->Nat->Option aB) (d:Nat) (xs zs:L2) (h i:Int) (k:Out->St->Prop):(round (ai TP { Γ:=AY,Λ:=Λ,Τ:=fun _=>none } d) dn 1 0 (lp TP dn 0) (c9 xs zs h i) k) =(∀a,Mau a h (∀b,MiJ b i xs (∀c,Mau c (ur (Mh9 xs i (Mbw h)) a) (∀e,Mau e (Iu (Mh9 xs i (Mbw h)) a) (∀f,Mau f (It (Mh9 xs i (Mbw h)) a) (Mcq i xs (MiZ b (cj (McG aM xs i 0 20 (Mbw h)) []) c (k .ret (MaM 32 (Mdj 4 1 5 (Maa c) []) (Mc6 aM xs 31 dm []))) (MgG zs 1 32 (k .normal (Mc3 32 3 1 (MiB 6 2 11 12 xs 13 (Met i)) xs (Mhq h h (MhA zs 4 (Mjz e f)) []))))) (k MbI (Ma3 32 6 (.sl 1) [] (Mam aM xs (MdK zs) []))))))))) :=by delta Maa Mab Mac Mae Maf Mag Mah Mai Mal Mam Mao Map Mat Mau Mav Maw MaA MaB MaG MaM MaS MaU MaV MaW Ma1 Ma3 Ma6 Mba Mbk Mbo Mbp Mbv Mbw MbI MbV Mb5 Mcq Mct Mcu McG McL Mc3 Mc6 Mdf Mdj MdK Met MgG Mhq MhA Mh9 MiB MiJ MiZ Mjz; refine nj ?_; (iterate 4 refine nm ?_); kernel_rfl
def c7 (xs zs:L2) (h i:Int):St:=⟨T 81 [(0,.sl 0),(3,.ptr 1 0),(4,.ptr 2 0),(5,.sl 3),(6,.int .i64 i)],[some (.ro aM xs),some (.var 25 (fx h).cells),some (.var 58 [.sl 4,.int .i64 0]),some (.row 31 dm zs),some (.row 31 dm [])]⟩
def Mbe (a:aq)(b:Nat)(c:List IntKind)(d:OB):OB:=Mag a (.row b c []) d
def Mcz (a:Nat)(b:List IV)(c:Nat)(d:List IntKind)(e:OB):OB:=Mag (.var a b) (.row c d []) e
def Mgj (a b:Nat)(c:Int)(d:OB):OB:=Mcz a (Mak b (MaY c)) 31 dm d
def Mia (a b:Int)(c:Nat)(d:L2)(e:OB):OB:=MdI a b 58 (Mak c MbD) (Mbe (MdK d) 31 dm e)
theorem TO (Λ:FuncId->Nat->Option aB) (d:Nat) (xs zs:L2) (h i:Int) (k:Out->St->Prop):(round (ai TP { Γ:=AY,Λ:=Λ,Τ:=fun _=>none } d) bF 1 0 (lp TP bF 0) (c7 xs zs h i) k) =(∀a,Mau a h (∀b,Mau b (uV (Mby xs i 4 xs i 5) (Mby xs i 8 xs i 9) (MjC xs i) a) (∀c,Mau c b (∀e,Mau e (uV (Mby xs i 6 xs i 7) (Mby xs i 10 xs i 11) (MjC xs i) a) (∀f,Mau f e (∀g,MfL g xs i (∀j,MfM j xs i (∀l,MaX l xs i 8 (∀m,MaX m xs i 9 (∀n,Mek n xs i (∀o,Mel o xs i (∀p,Mgh p xs i (∀q,Mgi q xs i (∀r,MaX r xs i 10 (∀s,MaX s xs i 11 (∀t,MiJ t i xs (∀u,Mcl u n o (∀v,Mau v (pk (Ma2 g j) (Ma2 l m) u a) (∀w,Mau w (pk (Ma2 p q) (Ma2 r s) u a) (Mcq i xs (Mfw t t t t t t (VK (Mgd g j l m n o (Mbw h)) []) (McL v (k .ret (Mc3 81 4 1 [] xs (Mgj 58 2 v []))) (Mfw t t t t t t (VK (Mgd p q r s n o (Mbw h)) []) (McL w (k .ret (Mc3 81 4 1 [] xs (Mgj 58 2 w []))) (Mdu (y7 (Mc0 b e []) []) (xB 1073741824 c f) (k .ret (Mc3 81 4 1 [] xs (Mgj 58 2 5 []))) (MgG zs 1 32 (k .normal (Mct 81 0 Mb5 (Mg5 3 1 4 2 5 3 6 (McR i)) xs (Mia h h 4 (MhA zs 4 (Mjz b e)) []))))))))) (k MbI (MbU 81 4 1 5 (.sl 2) [] (Mdb xs 58 (Mak 3 MbD) (Mbe (MdK zs) 31 dm [])))))))))))))))))))))))) :=by delta Maa Mab Mac Mae Maf Mag Mah Mai Mak Mal Mam Mao Map Maq Mar Mat Mau Mav Maw Maz MaA MaB MaE MaG MaM MaS MaU MaV MaW MaX MaY Ma1 Ma2 Ma3 Ma4 Ma6 Mbe Mbk Mbl Mbm Mbo Mbp Mbs Mbv Mbw Mby MbD MbI MbN MbU MbV Mb5 Mcl Mcq Mct Mcz McL McR Mc0 Mc3 Mdb Mdu MdI MdK Mek Mel Mfw MfL MfM Mgd Mgh Mgi Mgj MgG Mg5 MhA Mia MiJ Mjz MjC; refine nj ?_; refine nm ?_; refine nj ?_; refine nm ?_; refine nj ?_; (iterate 14 refine nm ?_); kernel_rfl
def pMv (n0:Nat) (st:St) (xs:L2) (h:Int):Prop:=aY xs/\ag h/\xs.length<=1000000/\n0=1/\st=c9 xs [] h 0
def pRm (n0:Nat) (st:St) (xs:L2) (h:Int):Prop:=aY xs/\ag h/\xs.length<=1000000/\n0=1/\st=c7 xs [] h 0
section
open Go.IntWalk
theorem MN:∀ {g:FuncId} {sp:Vs.Spec},SU g=some sp->aa TP g sp:=ao QZ (ao Nr (ao Nx (ao Jf MO)))
theorem EP:KnowOk TP VB 3:=aF (fun g sp h=>MN h) (fun _ _=>rfl) (fun _=>rfl) 3
theorem Sl (x y m:Int):ag (La x y m)/\ag (K9 x y m):=by
 unfold La K9;constructor
 ·split; exact vz _ _; exact bg
 ·split; exact vz _ _; exact bg
theorem Gt {r:L1} (h:lC r):pB [dG r] []:=⟨r,rfl,rfl,h.1,h.2.1,h.2.2⟩
theorem ky (xs:L2) (i:Nat):IV.agg (bN aM xs i 0 20)=dG (xs.getD i []):=rfl
theorem Km {r:L1} (h:r.length=20):DR.F [dG r] []=(.tup [.bool (agd r),.int .i64 (iW r)],[]):=by
 show (IV.tup [.bool (agd (gl _ 0)),.int .i64 (iW (gl _ 0))],([]:List aq))=_;rw [eu _ 0 r h rfl]
theorem Ia {r:L1} (h:r.length=20):zu.F [dG r] []=(.agg [.bool (agd r),.int .i64 (iW r)],[]):=by
 show (IV.agg [.bool (agd (gl _ 0)),.int .i64 (iW (gl _ 0))],([]:List aq))=_;rw [eu _ 0 r h rfl]
theorem Vk:aa TP ng DR:=by
 refine ab (N:=VB) 3 EP ?_;rintro l bs _ _ ⟨r,rfl,rfl,hl,hr,hb⟩;rw [Km hl,Tp]; delta Maa Maf Mau MaB MaJ MaY Mcm Mc0 MiC;rw [ky,show [r].getD 0 []=r from rfl,eu _ 0 r hl rfl]
 rintro t1 e1 j2 rfl t3 e3 j4 rfl t5 e5;obtain ⟨m1,m2⟩:=Sl (fr r 8) (fr r 10) (fr r 0);refine ⟨Gt ⟨hl,hr,hb⟩,?_⟩;unfold agd;rw [dp,← e5];refine ⟨fun h=>⟨⟨_,_,_,rfl,rfl,kR (by rw [e1]; exact m1),kR (by rw [e3]; exact m2),by decide,by decide⟩,?_⟩,fun h=>?_⟩
 ·rw [h,← e1,← e3]; simp
 ·rw [decide_eq_false h]; rfl
theorem Q2:aa TP gz zu:=by
 refine ab (N:=VB) 3 EP ?_;rintro l bs _ _ ⟨r,rfl,rfl,hl,hr,hb⟩;rw [Ia hl,OP]; delta Maa Maf Mau MaB MaJ MaW MaY Mbm MbD Mcs Mdu MiC;rw [ky,show [r].getD 0 []=r from rfl,eu _ 0 r hl rfl]
 rintro t1 e1 j2 rfl t3 e3 j4 rfl t5 e5;obtain ⟨m1,m2⟩:=Sl (fr r 8) (fr r 10) (fr r 0);refine ⟨Gt ⟨hl,hr,hb⟩,?_⟩;unfold agd;rw [ah,← e5];refine ⟨fun h=>?_,fun h=>⟨⟨_,_,rfl,rfl,kR (by rw [e1]; exact m1),by decide,by decide⟩,?_⟩⟩
 ·rw [decide_eq_false h]; rfl
 ·unfold xB;rw [h,← e1,← e3,aL,Bool.not_not,Bool.not_not];refine ⟨fun h1=>⟨⟨_,_,rfl,rfl,kR (by rw [e3]; exact m2),by decide,by decide⟩,?_⟩,fun h1=>?_⟩
  ·rw [h1]; simp
  ·rw [h1]; simp
theorem zZ (x p m h:Int):ag (uV x p m h):=by
 unfold uV;split
 ·rename_i hE;unfold pk at hE;split at hE
  ·rename_i h1; exact absurd hE h1
  ·split at hE
   ·rename_i h2; exact absurd hE h2
   ·exact ff.1 hE
 ·exact bg
theorem Ic {r:L1} (h:Int) (hl:r.length=20):zD.F [dG r,fx h] []=(.tup [vx (Iu r h) (It r h),.int .i64 (ur r h)],[]):=by
 show (IV.tup [vx (Iu (gl _ 0) (v2 _ 1)) (It (gl _ 0) (v2 _ 1)),.int .i64 (ur (gl _ 0) (v2 _ 1))],([]:List aq))=_;rw [eu _ 0 r hl rfl,bc _ h 1 rfl]
theorem Ue {r:L1} {h:Int} (he:ur r h≠0):Iu r h=0/\It r h=0:=by unfold Iu It; rw [if_neg he,if_neg he]; exact ⟨rfl,rfl⟩
theorem QV:aa TP lS zD:=by
 refine ab (N:=VB) 3 EP ?_;rintro l bs _ _ ⟨r,h,rfl,rfl,hl,hr,⟨h0,h4,h6,h8,h10⟩,hh⟩;rw [Ic h hl,OD]; delta Maa Mab Maf Mai Maj Maq Mau MaA MaB MaW MaY Ma0 Ma2 Mbg Mbm Mbo Mbr Mbw MbD MbN Mcl Mcs Mc0 Mdu Me4 Mfm Mgd Mhy MhC;rintro j1 rfl t2 e2 j3 rfl t4 e4 j5 rfl t6 rfl t7 rfl t8 rfl t9 rfl t10 rfl t11 rfl t12 rfl t13 rfl t14 rfl t15 rfl t16 rfl t17 e17 t18 e18 t19 e19 t20 e20;rw [show j3=Sq r j1 from e2] at *
 rw [show j5=Sp r j1 from e4] at *
 rw [mU hr 0 (by decide) rfl,mU hr 4 (by decide) rfl,mU hr 6 (by decide) rfl,mU hr 8 (by decide) rfl,mU hr 10 (by decide) rfl]
 have m3:ag (Sq r j1):=zZ _ _ _ _;have m5:ag (Sp r j1):=zZ _ _ _ _;have stop:∀ {e:Int},e≠0->ur r j1=e->(IV.tup [vx (Iu r j1) (It r j1),.int .i64 (ur r j1)],([]:List aq))=(.tup [.agg [.int .i64 0,.int .u64 0,.int .i64 0,.int .u64 0],.int .i64 e],[]):=by
  intro e he h;obtain ⟨z1,z2⟩:=Ue (r:=r) (h:=j1) (by rw [h]; exact he)
  rw [z1,z2,h]; rfl
 refine ⟨⟨_,_,_,_,rfl,rfl,h4,h8,h0,hh⟩,?_⟩;rw [ah];refine ⟨fun h=>stop h (by unfold ur; rw [if_pos (by rw [e19] at h; exact h),e19]; rfl),fun h19=>⟨⟨_,_,_,_,rfl,rfl,h6,h10,h0,hh⟩,?_⟩⟩
 have c19:¬ pk (fr r 4) (fr r 8) (fr r 0) j1≠0:=fun hh=>hh (by rw [e19] at h19; exact h19)
 rw [ah];refine ⟨fun h=>stop h (by unfold ur; rw [if_neg c19,if_pos (by rw [e20] at h; exact h),e20]; rfl),fun h20=>?_⟩
 have c20:¬ pk (fr r 6) (fr r 10) (fr r 0) j1≠0:=fun hh=>hh (by rw [e20] at h20; exact h20)
 have p18:t18:=by rw [e18]; exact y6 (kR m3) (kR m5)
 refine ⟨p18,?_⟩;rw [show (!(decide (-170141183460469231731687303715884105728 < Sq r j1) && decide (-170141183460469231731687303715884105728 < Sp r j1)))=false by rw [decide_eq_true m3.1,decide_eq_true m5.1]; rfl]
 refine ⟨p18,?_⟩;rw [aL,Bool.not_eq_true',Bool.not_eq_false'];refine ⟨fun hw=>?_,fun hw=>?_⟩
 ·rw [e17];exact stop (by decide) (by unfold ur; rw [if_neg c19,if_neg c20,hw]; rfl)
 ·have hE:ur r j1=0:=by unfold ur; rw [if_neg c19,if_neg c20,hw]; rfl
  unfold Iu It;rw [hE,if_pos rfl,if_pos rfl]
theorem Fe:∀ {g:FuncId} {sp:Vs.Spec},AY g=some sp->aa TP g sp:=ao Vk (ao Q2 (ao QV MN))
end
def qq:aB:=fun n0 st K=>∃xs h,pMv n0 st xs h/\br (eD h xs != 0) (K .ret ⟨T 32 [(4,.sl 1),(5,.int .i64 (eD h xs))],[some (.ro aM xs),some (.row 31 dm [])]⟩) (K (.exit 0) ⟨T 32 [(6,.sl 1)],[some (.ro aM xs),some (.row 31 dm (agk h xs))]⟩)
def pY:aB:=fun n0 st K=>∃xs h,pRm n0 st xs h/\br (eD h xs != 0) (K .ret ⟨T 81 [(4,.ptr 1 0)],[some (.ro aM xs),some (.var 58 [.sl 2,.int .i64 (eD h xs)]),some (.row 31 dm [])]⟩) (K (.exit 0) ⟨T 81 [(4,.ptr 1 0),(5,.sl 2)],[some (.ro aM xs),some (.var 58 [.sl 3,.int .i64 0]),some (.row 31 dm (agk h xs)),some (.row 31 dm [])]⟩)
def mq:Know:={ Γ:=AY,Λ:=fun f i=>if f=dn then (if i=0 then some qq else none) else none,Τ:=fun _=>none }
def ml:Know:={ Γ:=AY,Λ:=fun f i=>if f=bF then (if i=0 then some pY else none) else none,Τ:=fun _=>none }
def MbR (a:Nat)(b:List IntKind)(c:List aq):List aq:=.row a b []::c
def MdA (a:List IV):IV:=.tup (Mak 0 a)
def MfR (a:Nat):List aq:=MbR a dm []
def Mg2 (a:L2):List aq:=[MdK a]
theorem Ts (xs:L2) (h:Int) (K:KP):(comes TP mq 3 dn [.sl 0,fx h] [.ro aM xs] K) =(∃a:L2,∃b:Int,Mcs (pMv 1 (Mc3 32 3 1 (MiB 6 2 11 12 xs 13 Mdg) xs (Mcz 25 (MiK h) 31 dm [])) a b) (eD b a) (K (MdA (MaY (eD b a))) (MfR 31)) (K (MdA MbD) (Mg2 (agk b a)))) :=by kernel_rfl
def Mbn (a:Nat)(b:List IntKind)(c:Nat)(d:List IntKind)(e:OB):OB:=Mbe (.row a b []) c d e
def MeM (a:List IV):IV:=.agg (Mak 0 a)
theorem OQ (xs:L2) (h:Int) (K:KP):(comes TP ml 3 bF [.sl 0,fx h] [.ro aM xs] K) =(∃a:L2,∃b:Int,Mcs (pRm 1 (Mct 81 0 Mb5 (Mg5 3 1 4 2 5 3 6 0) xs (MdI h h 58 (Mak 4 MbD) (Mbn 31 dm 31 dm []))) a b) (eD b a) (K (MeM (MaY (eD b a))) (MfR 31)) (K (MeM MbD) (Mg2 (agk b a)))) :=by kernel_rfl
def Gq (l:List IV) (bs:List aq):Prop:=∃xs h,l=[.sl 0,fx h]/\bs=[.ro aM xs]/\aY xs/\ag h/\xs.length<=1000000
def D6:Vs.Spec:=⟨Gq,fun l bs=>(.tup [.sl 0,.int .i64 (eD (v2 l 1) (aA bs 0))],[.row 31 dm (lh (v2 l 1) (aA bs 0))])⟩
def zw:Vs.Spec:=⟨Gq,fun l bs=>(.agg [.sl 0,.int .i64 (eD (v2 l 1) (aA bs 0))],[.row 31 dm (lh (v2 l 1) (aA bs 0))])⟩
def V5:FuncId->Option Vs.Spec:=fun g=>AY g
def V4:FuncId->Option Vs.Spec:=fun g=>V5 g
section
open Go.IntWalk
theorem Cc (h:Int) {xs:L2} {i:Nat} (hi:i < xs.length):eD h (xs.drop i)=if ur xs[i] h≠0 then ur xs[i] h else eD h (xs.drop (i+1)):=by
 rw [List.drop_eq_getElem_cons hi]; rfl
theorem Cb (h:Int) {xs:L2} {i:Nat} (hi:¬ i < xs.length):eD h (xs.drop i)=0:=by
 rw [List.drop_eq_nil_of_le (by omega)]; rfl
theorem wO (h:Int) {xs:L2} {i:Nat} (hi:i < xs.length):agk h (xs.take (i+1))=agk h (xs.take i)++[cI (Iu xs[i] h) (It xs[i] h)]:=by
 unfold agk; rw [List.take_add_one,List.getElem?_eq_getElem hi,Option.toList_some,List.map_append]; rfl
theorem tb (h:Int) (xs:L2):(agk h xs).length=xs.length:=by unfold agk; simp
theorem good_row {xs:L2} (h:aY xs) {i:Nat} (hi:i < xs.length):lC xs[i]:=h _ (List.getElem_mem hi)
theorem Ib {xs:L2} {h:Int} {i:Nat} (hg:aY xs) (hi:i < xs.length) (hh:ag h):cj [IV.agg (bN aM xs i 0 20),fx h] []:=by
 obtain ⟨h1,h2,h3⟩:=good_row hg hi;exact ⟨xs[i],h,by rw [ky,acY hi],rfl,h1,h2,h3,hh⟩
theorem XE (d n0:Nat):aG (ai TP mq d) dn n0 0 (lp TP dn 0) qq:=by
 intro st K hst;obtain ⟨xs,h,⟨hg,hh,hl,rfl,rfl⟩,hK⟩:=hst;refine aC (fun i:Nat=>c9 xs (agk h (xs.take i)) h i) (fun i=>i<=xs.length/\eD h (xs.drop i)=eD h xs) (fun i=>xs.length - i) ?_ (a:=0) ⟨Nat.zero_le _,rfl⟩
 rintro i ⟨hle,he⟩ k hn hk;show round (ai TP { Γ:=AY,Λ:=_,Τ:=fun _=>none } d) _ _ _ _ _ k
 rw [WT]; delta Maa Mab Mac Mae Maf Mag Mah Mai Mal Mam Mao Map Mat Mau Mav Maw MaA MaB MaG MaM MaS MaU MaV MaW Ma1 Ma3 Ma6 Mba Mbk Mbo Mbp Mbv Mbw MbI MbV Mb5 Mcq Mct Mcu McG McL Mc3 Mc6 Mdf Mdj MdK Met MgG Mhq MhA Mh9 MiB MiJ MiZ Mjz;rw [show ((i:Nat):Int).toNat=i by omega]
 rintro j1 e1 t2 e2 t3 e3 t4 e4 t5 e5;subst e1;rw [al];constructor
 ·intro hi;have hi':i < xs.length:=by omega
  obtain ⟨g1,g2,g3⟩:=good_row hg hi';have hra:gl [IV.agg (bN aM xs i 0 20),fx j1] 0=xs[i]:=eu _ 0 _ g1 (by rw [ky,acY hi']; rfl)
  rw [hra] at e3 e4 e5;have p2:t2:=by rw [e2]; omega
  refine ⟨p2,p2,Ib hg hi' hh,?_⟩;rw [Cc j1 hi',← e3] at he;rw [ah];constructor
  ·intro h3;rw [if_pos h3] at he;rw [ah,← he] at hK;exact hk _ _ (by simp) (hK.1 h3)
  ·intro h3;rw [if_neg (fun hh=>hh h3)] at he
   have hz:(agk j1 (xs.take i)).length=i:=by rw [tb,List.length_take]; omega
   refine ⟨by rw [hz]; omega,?_⟩
   have:=hn (i+1) ⟨hi',he⟩ (by omega)
   rw [wO j1 hi',← e4,← e5] at this;rw [show IntKind.i64.wrap ((i:Int)+1)=((i+1:Nat):Int) by rw [i64_in _ (by omega)]; rfl]
   exact this
 ·intro hi;have hi':i=xs.length:=by omega
  subst hi';rw [Cb j1 (by omega)] at he
  rw [ah,← he] at hK;rw [List.take_length];exact hk _ _ (by simp) (hK.2 rfl)
theorem Ut (d n0:Nat):aG (ai TP ml d) bF n0 0 (lp TP bF 0) pY:=by
 intro st K hst;obtain ⟨xs,h,⟨hg,hh,hl,rfl,rfl⟩,hK⟩:=hst;refine aC (fun i:Nat=>c7 xs (agk h (xs.take i)) h i) (fun i=>i<=xs.length/\eD h (xs.drop i)=eD h xs) (fun i=>xs.length - i) ?_ (a:=0) ⟨Nat.zero_le _,rfl⟩
 rintro i ⟨hle,he⟩ k hn hk;show round (ai TP { Γ:=AY,Λ:=_,Τ:=fun _=>none } d) _ _ _ _ _ k
 rw [TO]; delta Maa Mab Mac Mae Maf Mag Mah Mai Mak Mal Mam Mao Map Maq Mar Mat Mau Mav Maw Maz MaA MaB MaE MaG MaM MaS MaU MaV MaW MaX MaY Ma1 Ma2 Ma3 Ma4 Ma6 Mbe Mbk Mbl Mbm Mbo Mbp Mbs Mbv Mbw Mby MbD MbI MbN MbU MbV Mb5 Mcl Mcq Mct Mcz McL McR Mc0 Mc3 Mdb Mdu MdI MdK Mek Mel Mfw MfL MfM Mgd Mgh Mgi Mgj MgG Mg5 MhA Mia MiJ Mjz MjC;rw [show ((i:Nat):Int).toNat=i by omega]
 rintro j1 e1 t2 e2 j3 rfl t4 e4 j5 rfl t6 e6 t7 e7 t8 e8 t9 e9 t10 e10 t11 e11 t12 e12 t13 e13 t14 e14 t15 e15 t16 e16 t17 e17 t18 e18 t19 e19;subst e1;rw [al];constructor
 ·intro hi;have hi':i < xs.length:=by omega
  obtain ⟨g1,g2,m0,m4,m6,m8,m10⟩:=good_row hg hi';have okr:aI aM xs:=fun r hr=>(hg r hr).2.1
  have ft:∀ j,j+1 < 20->aM.getD (j+1) .i64=.u64->IV.agg [.int .i64 (rd xs i j),.int .u64 (rd xs i (j+1))]=fx (fr xs[i] j):=fun j h1 h2=>(ae6 (cH okr i (j+1) h1 h2) (bA hi' j).symm).symm
  have ej3:j3=Sq xs[i] j1:=by rw [e2,bA hi' 4,bA hi' 8,bA hi' 0]; rfl
  have ej5:j5=Sp xs[i] j1:=by rw [e4,bA hi' 6,bA hi' 10,bA hi' 0]; rfl
  have e18':t18=pk (fr xs[i] 4) (fr xs[i] 8) (fr xs[i] 0) j1:=by rw [e18,e17,e6,e7,e8,e9,e10,e11,bA hi' 4,bA hi' 8,bA hi' 0]
  have e19':t19=pk (fr xs[i] 6) (fr xs[i] 10) (fr xs[i] 0) j1:=by rw [e19,e17,e12,e13,e14,e15,e10,e11,bA hi' 6,bA hi' 10,bA hi' 0]
  rw [e6,e7,e8,e9,e10,e11,e12,e13,e14,e15,ft 0 (by decide) rfl,ft 4 (by decide) rfl,ft 6 (by decide) rfl,ft 8 (by decide) rfl,ft 10 (by decide) rfl]
  have p16:t16:=by rw [e16]; omega
  have n3:ag (Sq xs[i] j1):=zZ _ _ _ _;have n5:ag (Sp xs[i] j1):=zZ _ _ _ _;rw [Cc j1 hi'] at he;have stop:∀ {e:Int},e≠0->ur xs[i] j1=e->k .ret ⟨T 81 [(4,.ptr 1 0)],[some (.ro aM xs),some (.var 58 [.sl 2,.int .i64 e]),some (.row 31 dm [])]⟩:=by
   intro e h0 h1;rw [h1,if_pos h0] at he;rw [ah,← he] at hK;exact hk _ _ (by simp) (hK.1 h0)
  refine ⟨p16,p16,p16,p16,p16,p16,⟨_,_,_,_,rfl,rfl,m4,m8,m0,hh⟩,?_⟩;rw [ah];refine ⟨fun h=>stop h (by unfold ur; rw [if_pos (by rw [← e18']; exact h),e18']),fun h18=>⟨p16,p16,p16,p16,p16,p16,⟨_,_,_,_,rfl,rfl,m6,m10,m0,hh⟩,?_⟩⟩
  have Ye:¬ pk (fr xs[i] 4) (fr xs[i] 8) (fr xs[i] 0) j1≠0:=fun hh=>hh (by rw [← e18']; exact h18)
  rw [ah];refine ⟨fun h=>stop h (by unfold ur; rw [if_neg Ye,if_pos (by rw [← e19']; exact h),e19']),fun h19=>⟨y6 (kR (by rw [ej3]; exact n3)) (kR (by rw [ej5]; exact n5)),?_⟩⟩
  have c19:¬ pk (fr xs[i] 6) (fr xs[i] 10) (fr xs[i] 0) j1≠0:=fun hh=>hh (by rw [← e19']; exact h19)
  rw [ej3,ej5,aL,Bool.not_eq_true',Bool.not_eq_false'];constructor
  ·intro hw;exact stop (by decide) (by unfold ur; rw [if_neg Ye,if_neg c19,hw]; rfl)
  ·intro hw;have hE:ur xs[i] j1=0:=by unfold ur; rw [if_neg Ye,if_neg c19,hw]; rfl
   have hz:(agk j1 (xs.take i)).length=i:=by rw [tb,List.length_take]; omega
   refine ⟨by rw [hz]; omega,?_⟩
   rw [hE,if_neg (fun hh=>hh rfl)] at he
   have:=hn (i+1) ⟨hi',he⟩ (by omega)
   rw [wO j1 hi'] at this;unfold Iu It at this;rw [hE,if_pos rfl,if_pos rfl] at this;rw [show IntKind.i64.wrap ((i:Int)+1)=((i+1:Nat):Int) by rw [i64_in _ (by omega)]; rfl]
   exact this
 ·intro hi;have hi':i=xs.length:=by omega
  subst hi';rw [Cb j1 (by omega)] at he
  rw [ah,← he] at hK;rw [List.take_length];exact hk _ _ (by simp) (hK.2 rfl)
theorem GB {h:Int} {xs:L2} (he:eD h xs≠0):lh h xs=[]:=if_neg he
theorem Ag {h:Int} {xs:L2} (he:eD h xs=0):lh h xs=agk h xs:=if_pos he
theorem Ub {g:FuncId} {G:eG}:(fun _:FuncId=>(none:Option eG)) g=some G->cf TP g G:=fun h=>by cases h
theorem Vq:aa TP dn D6:=by
 refine ab (N:=mq) 3 (cP (f0:=dn) (L:=qq) (fun g sp h=>Fe h) rfl (fun g G h=>Ub h) XE 3) ?_
 rintro l bs _ hB ⟨xs,h,rfl,rfl,hg,hh,hl⟩;have hF:D6.F [.sl 0,fx h] [.ro aM xs]=(.tup [.sl 0,.int .i64 (eD h xs)],[.row 31 dm (lh h xs)]):=by
  show (IV.tup [.sl 0,.int .i64 (eD (v2 _ 1) xs)],[aq.row 31 dm (lh (v2 _ 1) xs)])=_;rw [bc _ h 1 rfl]
 rw [hF,Ts]; delta Maa Mab Mac Mae Maf Mag Mah Mai Mak Mao Map Mat MaG MaM MaV MaW MaY Ma1 Ma3 MbD MbR Mb5 Mcs Mct Mcu Mcz Mc3 Mdf Mdg MdA MdK MfR Mg2 MiB MiK;refine ⟨xs,h,⟨hg,hh,hl,rfl,rfl⟩,?_⟩;rw [ah];exact ⟨fun he=>by rw [GB he],fun he=>by rw [Ag he,he]⟩
theorem Q3:aa TP bF zw:=by
 refine ab (N:=ml) 3 (cP (f0:=bF) (L:=pY) (fun g sp h=>Fe h) rfl (fun g G h=>Ub h) Ut 3) ?_
 rintro l bs _ hB ⟨xs,h,rfl,rfl,hg,hh,hl⟩;have hF:zw.F [.sl 0,fx h] [.ro aM xs]=(.agg [.sl 0,.int .i64 (eD h xs)],[.row 31 dm (lh h xs)]):=by
  show (IV.agg [.sl 0,.int .i64 (eD (v2 _ 1) xs)],[aq.row 31 dm (lh (v2 _ 1) xs)])=_;rw [bc _ h 1 rfl]
 rw [hF,OQ]; delta Maa Mab Mac Mae Maf Mag Mah Mai Mak Mao Map Maz MaG MaM MaV MaW MaY Ma1 Ma3 Ma4 Mbe Mbl Mbn MbD MbR Mb5 Mcs Mct MdI MdK MeM MfR Mg2 Mg5;refine ⟨xs,h,⟨hg,hh,hl,rfl,rfl⟩,?_⟩;rw [ah];exact ⟨fun he=>by rw [GB he],fun he=>by rw [Ag he,he]⟩
theorem U8:∀ {g:FuncId} {sp:Vs.Spec},V5 g=some sp->aa TP g sp:=Fe
theorem U7:∀ {g:FuncId} {sp:Vs.Spec},V4 g=some sp->aa TP g sp:=U8
theorem Ji (a b c d:Int):fr (oU a b c d) 0=(1+c % 9)*18446744073709551616/\fr (oU a b c d) 4=(a - 128)*18446744073709551616+b*72057594037927936/\fr (oU a b c d) 6=(b - 128)*18446744073709551616+c*1099511627776/\
  fr (oU a b c d) 8=(d % 7 - 3)*18446744073709551616+a/\fr (oU a b c d) 10=(c % 5 - 2)*18446744073709551616+d*1152921504606846976 % 18446744073709551616:=by
 refine ⟨?_,rfl,rfl,rfl,rfl⟩;show (1+c % 9)*18446744073709551616+0=_;omega
theorem FH {a b c d:Int} (ha:im a) (hb:im b) (hc:im c) (hd:im d):uS (oU a b c d):=by
 unfold im at ha hb hc hd;have I:∀ {n:Int},-9223372036854775808<=n->n<=9223372036854775807->dt .i64 n:=fun h1 h2=>⟨h1,h2⟩
 have U:∀ {n:Int},0<=n->n<=18446744073709551615->dt .u64 n:=fun h1 h2=>⟨h1,h2⟩
 intro j hj;rcases j with _|_|_|_|_|_|_|_|_|_|_|_|_|_|_|_|_|_|_|_|j
 ·show dt .i64 (1+c % 9); exact I (by omega) (by omega)
 ·show dt .u64 0; exact U (by omega) (by omega)
 ·show dt .i64 (d % 3); exact I (by omega) (by omega)
 ·show dt .u64 4611686018427387904; exact U (by omega) (by omega)
 ·show dt .i64 (a - 128); exact I (by omega) (by omega)
 ·show dt .u64 (b*72057594037927936); exact U (by omega) (by omega)
 ·show dt .i64 (b - 128); exact I (by omega) (by omega)
 ·show dt .u64 (c*1099511627776); exact U (by omega) (by omega)
 ·show dt .i64 (d % 7 - 3); exact I (by omega) (by omega)
 ·show dt .u64 a; exact U (by omega) (by omega)
 ·show dt .i64 (c % 5 - 2); exact I (by omega) (by omega)
 ·show dt .u64 (d*1152921504606846976 % 18446744073709551616); exact U (by omega) (by omega)
 ·show dt .i64 0; exact I (by omega) (by omega)
 ·show dt .u64 (d*1125899906842624); exact U (by omega) (by omega)
 ·show dt .i64 0; exact I (by omega) (by omega)
 ·show dt .u64 (a*1125899906842624); exact U (by omega) (by omega)
 ·show dt .i64 (b % 4); exact I (by omega) (by omega)
 ·show dt .u64 0; exact U (by omega) (by omega)
 ·show dt .i64 0; exact I (by omega) (by omega)
 ·show dt .i64 (d*257); exact I (by omega) (by omega)
 ·omega
def Lr (r:L1):Prop:=∃a b c d,im a/\im b/\im c/\im d/\r=oU a b c d
theorem AH {ns:L2} (h:aI [.u8] ns) (n:Nat):∀ r∈gp ns n,Lr r:=by
 intro r hr;unfold gp at hr;rw [List.mem_map] at hr;obtain ⟨i,_,rfl⟩:=hr;exact ⟨_,_,_,_,tW h _,tW h _,tW h _,tW h _,rfl⟩
theorem EG {r:L1} (h:Lr r):(18446744073709551616<=fr r 0/\fr r 0<=166020696663385964544)/\(-2361183241434822606848<=fr r 4/\fr r 4<=2361183241434822606848)/\(-2361183241434822606848<=fr r 6/\fr r 6<=2361183241434822606848)/\
  (-73786976294838206464<=fr r 8/\fr r 8<=73786976294838206464)/\-73786976294838206464<=fr r 10/\fr r 10<=73786976294838206464:=by
 obtain ⟨a,b,c,d,ha,hb,hc,hd,rfl⟩:=h;obtain ⟨e0,e4,e6,e8,e10⟩:=Ji a b c d;unfold im at ha hb hc hd;rw [e0,e4,e6,e8,e10];omega
theorem EH {r:L1} (h:Lr r):lC r:=by
 obtain ⟨h0,h4,h6,h8,h10⟩:=EG h;obtain ⟨a,b,c,d,ha,hb,hc,hd,rfl⟩:=h;exact ⟨rfl,FH ha hb hc hd,⟨by omega,by omega⟩,⟨by omega,by omega⟩,⟨by omega,by omega⟩,⟨by omega,by omega⟩,⟨by omega,by omega⟩⟩
end
def jt:List IntKind:=[.i64,.i64,.i64,.u64,.i64,.u64]
def ie:List IntKind:=[.i64,.i64,.u64,.i64,.u64,.i64,.i64,.i64,.i64,.u64]
def dE:List IntKind:=[.i64,.i64,.i64,.i64]
def af (z:L1) (a b c d e:Nat):List IV:=[.int .i64 (z.getD 0 0),.int .i64 (z.getD 1 0),.int .u64 (z.getD 2 0),.int .i64 (z.getD 3 0),.int .u64 (z.getD 4 0),.int .i64 (z.getD 5 0),.int .u64 (z.getD 6 0),.int .i64 (z.getD 7 0),.int .u64 (z.getD 8 0),.int .i64 (z.getD 9 0),.int .u64 (z.getD 10 0),.int .i64 (z.getD 11 0),.int .i64 (z.getD 12 0),
 .sl a,.sl b,.sl c,.sl d,.int .i64 (z.getD 13 0),.int .u64 (z.getD 14 0),.int .i64 (z.getD 15 0),.int .u64 (z.getD 16 0),.int .i64 (z.getD 17 0),.int .u64 (z.getD 18 0),.sl e]
def aH (xs ts rs us es:L2):List aq:=[.ro aM xs,.ro jt ts,.ro ie rs,.ro [.i64] us,.ro dE es]
def V3:FuncId->Option Vs.Spec:=fun g=>if g=eS then some Eh else if g=bo then some wa else V4 g
def SS:FuncId->Option Vs.Spec:=fun g=>if g=oH then some D2 else if g=ee then some ve else V3 g
def Yz:Know:={ Γ:=SS,Λ:=fun _ _=>none,Τ:=fun _=>none }
def Mad (a:L1)(b:Nat):Int:=List.getD a b 0
abbrev Max (a:Int)(b:L1)(c:Nat)(d:Prop):Prop:=Mau a (Mad b c) d
def Mce (a:L1):Int:=Mad a 4
def Mcf (a:L1):Int:=Mad a 5
def Mcg (a:L1):Int:=Mad a 6
def Mcj (a:L1):Int:=Mad a 3
abbrev McW (a b c d:Prop):Prop:=Mbo a (b/\c) d
def Md2 (a:L2)(b:Int)(c:Nat)(d:L2)(e:Int)(f:Nat)(g:L2)(h:Int)(i:Nat)(j:L2)(k:Int)(l:Nat):Int:=Mby a b c d e f - Mby g h i j k l
abbrev Meg (a:Int)(b:L1)(c:Prop):Prop:=Max a b 3 c
abbrev Men (a:Int)(b:L1)(c:Prop):Prop:=Max a b 4 c
abbrev Meo (a:Int)(b:L1)(c:Prop):Prop:=Max a b 5 c
abbrev Mep (a:Int)(b:L1)(c:Prop):Prop:=Max a b 6 c
def Mf2 (a b c d e:Int):IV:=.tup (Mc0 a b (Mc0 c d (MaY e)))
abbrev Mge (a b c:Int)(d:Prop):Prop:=Mau a (e2 b c) d
abbrev MiU (a b c d:Prop):Prop:=Mda a a b b c d
abbrev Mjx (a b c d:Prop):Prop:=Mav (Mav a b c) (a/\d) c
theorem JY (z:L1) (xs ts rs us es:L2) (i j px py qx qy h:Int) (K:KP):(comes TP Yz 3 jR [.agg (af z 0 1 2 3 4),.int .i64 i,.int .i64 j,vx px py,vx qx qy,fx h] (aH xs ts rs us es) K) =(∀a,Mau a h (∀b,Mau b px (∀c,Mau c py (∀d,Mau d qx (∀e,Mau e qy (∀f,MiS f (Md2 xs j 4 xs j 5 xs i 4 xs i 5) (Md2 xs j 6 xs j 7 xs i 6 xs i 7) (∀g,Mau g f (∀k,MiT k (Md2 xs j 4 xs j 5 xs i 4 xs i 5) (Md2 xs j 6 xs j 7 xs i 6 xs i 7) (∀l,Mau l k (∀m,Mau m (BT (Ma2 (Mcj z) (Mce z)) (MjC xs i) (MjC xs j) g l (Ma2 (Mcf z) (Mcg z)) a) (∀n,Mau n m (∀o,Mau o (BS (Ma2 (Mcj z) (Mce z)) (MjC xs i) (MjC xs j) g l (Ma2 (Mcf z) (Mcg z)) a) (∀p,Mau p o (∀q,MfL q xs j (∀r,MfM r xs j (∀s,Mgh s xs j (∀t,Mgi t xs j (∀u,MfL u xs i (∀v,MfM v xs i (∀w,Mgh w xs i (∀x,Mgi x xs i (∀y,Mek y xs i (∀a1,Mel a1 xs i (∀b1,Mek b1 xs j (∀c1,Mel c1 xs j (∀d1,Meg d1 z (∀e1,Men e1 z (∀f1,Meo f1 z (∀g1,Mep g1 z (∀i1,Mge i1 (b+n) (c+p) (∀j1,MiJ j1 i xs (∀k1,MiJ k1 j xs (∀l1,MiS l1 (b+n) (c+p) (∀m1,MiT m1 (b+n) (c+p) (∀n1,MiS n1 (d - n) (e - p) (∀o1,MiT o1 (d - n) (e - p) (∀p1,Mge p1 (Mdd (Ma2 q r) u v) (Mdd (Ma2 s t) w x) (∀q1,Mau q1 (BU (Ma2 d1 e1) (Ma2 y a1) (Ma2 b1 c1) g l (Ma2 f1 g1) a) (∀r1,Mbo r1 (K (Mf2 l1 m1 qx qy i1) []) (∀s1,Mbo s1 (K (Mf2 px py qx qy p1) []) (∀t1,Mbo t1 (K (Mf2 px py qx qy q1) []) (∀u1,Mbo u1 (K (Mf2 l1 m1 n1 o1 (e2 (d - n) (e - p))) []) (∀v1,McW v1 r1 r1 (∀w1,McW w1 s1 s1 (∀x1,McW x1 t1 t1 (∀y1,McW y1 u1 u1 (∀z1,McW z1 r1 v1 (∀a2,McW a2 v1 r1 (∀b2,McW b2 s1 w1 (∀c2,McW c2 w1 s1 (∀d2,McW d2 t1 x1 (∀e2,McW e2 x1 t1 (∀f2,McW f2 u1 y1 (∀g2,McW g2 y1 u1 (MiU j1 k1 (kB (Mdn q r s t (Mdn u v w x [])) []) (McL p1 (Mjx b2 w1 c2 s1) (Mfm (Ci (Mgd d1 e1 y a1 b1 c1 (Mc0 f k (MeG f1 g1 h))) []) q1 (Mjx d2 x1 e2 t1) (MgS px py m o [] []) i1 (Mjx z1 v1 a2 r1) (MbV (MgS qx qy m o [] []) (Mav f2 y1 g2) (f2/\u1) g2)))))))))))))))))))))))))))))))))))))))))))))))))))))))))) :=by delta Maa Mab Mad Maf Mai Maj Maq Mar Mat Mau Mav Max MaB MaE MaS MaW MaX MaY Ma2 Mbk Mbo Mbw Mby MbN MbV Mce Mcf Mcg Mcj Mcs McL McW Mc0 Mda Mdd Mdn Md2 Meg Mek Mel Men Meo Mep MeG Mfm MfL MfM Mf2 Mgd Mge Mgh Mgi MgS MiJ MiS MiT MiU Mjx MjC; (iterate 5 refine nj ?_); refine nm ?_; refine nj ?_; refine nm ?_; refine nj ?_; refine nm ?_; refine nj ?_; refine nm ?_; refine nj ?_; (iterate 41 refine nm ?_); kernel_rfl
abbrev MiO (a b c:Prop):Prop:=MbV a a b c
theorem HZ (z:L1) (xs ts rs us es:L2) (i m ax ay h:Int) (K:KP):(comes TP Yz 3 fu [.agg (af z 0 1 2 3 4),.int .i64 i,fx m,vx ax ay,fx h] (aH xs ts rs us es) K) =(∀a,Mau a ax (∀b,Mau b ay (∀c,Mau c m (∀d,Mau d h (∀e,MiS e (a - Mby xs i 4 xs i 5) (b - Mby xs i 6 xs i 7) (∀f,Mau f e (∀g,MiT g (a - Mby xs i 4 xs i 5) (b - Mby xs i 6 xs i 7) (∀j,Mau j g (∀k,MfL k xs i (∀l,MfM l xs i (∀n,Mgh n xs i (∀o,Mgi o xs i (∀p,Mek p xs i (∀q,Mel q xs i (∀r,Meg r z (∀s,Men s z (∀t,Meo t z (∀u,Mep u z (∀v,MiJ v i xs (∀w,Mcl w p q (∀x,Mcl x r s (∀y,Mcl y t u (∀a1,Mge a1 (Mdd a k l) (Mdd b n o) (∀b1,Mau b1 (BT x w c f j y d) (∀c1,Mau c1 (BS x w c f j y d) (MiZ v (kB (Mc0 ax ay (Mdn k l n o [])) []) a1 (K (.agg (MiH e g (MaY a1))) []) (MiO v (Ci (MbN r s (MbN p q (fx m::Mc0 e g (MeG t u h)))) []) (K (.agg (MiH b1 c1 (MaY (BU x w c f j y d)))) [])))))))))))))))))))))))))))) :=by delta Maa Mab Mad Mae Maf Mah Mai Maj Maq Mar Mat Mau Mav Max MaB MaS MaW MaX MaY Ma2 Mbc Mbk Mbo Mbw Mby MbN MbV Mcl McL Mc0 Mdd Mdn Meg Mek Mel Men Meo Mep MeG MfL MfM Mge Mgh Mgi MiH MiJ MiO MiS MiT MiZ; (iterate 4 refine nj ?_); refine nm ?_; refine nj ?_; refine nm ?_; refine nj ?_; (iterate 17 refine nm ?_); kernel_rfl
def uA (z:L1) (h:Int) (r:L1) (m ax ay:Int):Int:=if e2 (ax - fr r 4) (ay - fr r 6)≠0 then e2 (ax - fr r 4) (ay - fr r 6) else BU (fr z 3) (fr r 0) m (ax - fr r 4) (ay - fr r 6) (fr z 5) h
def sn (z:L1) (h:Int) (r:L1) (m ax ay:Int):Int:=if e2 (ax - fr r 4) (ay - fr r 6)≠0 then 0 else BT (fr z 3) (fr r 0) m (ax - fr r 4) (ay - fr r 6) (fr z 5) h
def sm (z:L1) (h:Int) (r:L1) (m ax ay:Int):Int:=if e2 (ax - fr r 4) (ay - fr r 6)≠0 then 0 else BS (fr z 3) (fr r 0) m (ax - fr r 4) (ay - fr r 6) (fr z 5) h
def dv (l:List IV) (i:Nat):L1:=[ae l i 0,ae l i 1,ae l i 2,ae l i 3,ae l i 4,ae l i 5,ae l i 6,ae l i 7,ae l i 8,ae l i 9,ae l i 10,ae l i 11,ae l i 12,ae l i 17,ae l i 18,ae l i 19,ae l i 20,ae l i 21,ae l i 22]
def cx:List IntKind:=[.i64,.i64,.u64,.i64,.u64,.i64,.u64,.i64,.u64,.i64,.u64,.i64,.i64,.i64,.u64,.i64,.u64,.i64,.u64]
def KH (z:L1):Prop:=z.length=19/\∀ j,j < 19->dt (cx.getD j .i64) (z.getD j 0)
def Cg (z:L1):Prop:=KH z/\ag (fr z 3)/\ag (fr z 5)
def pPd (l:List IV) (bs:List aq):Prop:=∃z xs ts rs us es i j px py qx qy h,l=[.agg (af z 0 1 2 3 4),.int .i64 i,.int .i64 j,vx px py,vx qx qy,fx h]/\bs=aH xs ts rs us es/\Cg z/\aY xs/\(0<=i/\i < xs.length)/\(0<=j/\j < xs.length)/\(ag px/\ag py)/\(ag qx/\ag qy)/\ag h
def KU (z:L1) (h:Int) (r s:L1) (px py qx qy:Int):Int:=if uA z h r (fr s 0) (fr s 4) (fr s 6)≠0 then uA z h r (fr s 0) (fr s 4) (fr s 6) else if e2 (px+sn z h r (fr s 0) (fr s 4) (fr s 6)) (py+sm z h r (fr s 0) (fr s 4) (fr s 6))≠0 then e2 (px+sn z h r (fr s 0) (fr s 4) (fr s 6)) (py+sm z h r (fr s 0) (fr s 4) (fr s 6)) else e2 (qx - sn z h r (fr s 0) (fr s 4) (fr s 6)) (qy - sm z h r (fr s 0) (fr s 4) (fr s 6))
def Sd (z:L1) (h:Int) (r s:L1) (px py v k:Int):Int:=if uA z h r (fr s 0) (fr s 4) (fr s 6)≠0 then v else n2 (px+sn z h r (fr s 0) (fr s 4) (fr s 6)) (py+sm z h r (fr s 0) (fr s 4) (fr s 6)) (v+k)
def Sc (z:L1) (h:Int) (r s:L1) (px py qx qy v k:Int):Int:=if uA z h r (fr s 0) (fr s 4) (fr s 6)≠0 then v else if e2 (px+sn z h r (fr s 0) (fr s 4) (fr s 6)) (py+sm z h r (fr s 0) (fr s 4) (fr s 6))≠0 then v else n2 (qx - sn z h r (fr s 0) (fr s 4) (fr s 6)) (qy - sm z h r (fr s 0) (fr s 4) (fr s 6)) (v - k)
def b7 (z:L1) (h:Int) (r s:L1) (px py qx qy:Int):IV:=.tup [vx (Sd z h r s px py px (sn z h r (fr s 0) (fr s 4) (fr s 6))) (Sd z h r s px py py (sm z h r (fr s 0) (fr s 4) (fr s 6))),vx (Sc z h r s px py qx qy qx (sn z h r (fr s 0) (fr s 4) (fr s 6))) (Sc z h r s px py qx qy qy (sm z h r (fr s 0) (fr s 4) (fr s 6))),.int .i64 (KU z h r s px py qx qy)]
def BO (z:L1) (h:Int) (r s:L1) (px py qx qy:Int):Int:=Sd z h r s px py px (sn z h r (fr s 0) (fr s 4) (fr s 6))
def BM (z:L1) (h:Int) (r s:L1) (px py qx qy:Int):Int:=Sd z h r s px py py (sm z h r (fr s 0) (fr s 4) (fr s 6))
def BN (z:L1) (h:Int) (r s:L1) (px py qx qy:Int):Int:=Sc z h r s px py qx qy qx (sn z h r (fr s 0) (fr s 4) (fr s 6))
def BL (z:L1) (h:Int) (r s:L1) (px py qx qy:Int):Int:=Sc z h r s px py qx qy qy (sm z h r (fr s 0) (fr s 4) (fr s 6))
def TA:Vs.Spec:=⟨pPd,fun l bs=>(.tup [vx (BO (dv l 0) (v2 l 5) ((aA bs 0).getD (ae l 1 0).toNat []) ((aA bs 0).getD (ae l 2 0).toNat []) (v2 l 3) (vy l 3) (v2 l 4) (vy l 4)) (BM (dv l 0) (v2 l 5) ((aA bs 0).getD (ae l 1 0).toNat []) ((aA bs 0).getD (ae l 2 0).toNat []) (v2 l 3) (vy l 3) (v2 l 4) (vy l 4)),
 vx (BN (dv l 0) (v2 l 5) ((aA bs 0).getD (ae l 1 0).toNat []) ((aA bs 0).getD (ae l 2 0).toNat []) (v2 l 3) (vy l 3) (v2 l 4) (vy l 4)) (BL (dv l 0) (v2 l 5) ((aA bs 0).getD (ae l 1 0).toNat []) ((aA bs 0).getD (ae l 2 0).toNat []) (v2 l 3) (vy l 3) (v2 l 4) (vy l 4)),.int .i64 (KU (dv l 0) (v2 l 5) ((aA bs 0).getD (ae l 1 0).toNat []) ((aA bs 0).getD (ae l 2 0).toNat []) (v2 l 3) (vy l 3) (v2 l 4) (vy l 4))],[])⟩
def Y8 (l:List IV) (bs:List aq):Prop:=∃z xs ts rs us es i m ax ay h,l=[.agg (af z 0 1 2 3 4),.int .i64 i,fx m,vx ax ay,fx h]/\bs=aH xs ts rs us es/\Cg z/\aY xs/\(0<=i/\i < xs.length)/\ag m/\(ag ax/\ag ay)/\ag h
def Ty:Vs.Spec:=⟨Y8,fun l bs=>(nP (sn (dv l 0) (v2 l 4) ((aA bs 0).getD (ae l 1 0).toNat []) (v2 l 2) (v2 l 3) (vy l 3)) (sm (dv l 0) (v2 l 4) ((aA bs 0).getD (ae l 1 0).toNat []) (v2 l 2) (v2 l 3) (vy l 3)) (uA (dv l 0) (v2 l 4) ((aA bs 0).getD (ae l 1 0).toNat []) (v2 l 2) (v2 l 3) (vy l 3)),[])⟩
section
open Go.IntWalk
theorem U6:∀ {g:FuncId} {sp:Vs.Spec},V3 g=some sp->aa TP g sp:=ao NA (ao CY U7)
theorem MM:∀ {g:FuncId} {sp:Vs.Spec},SS g=some sp->aa TP g sp:=ao Vo (ao CQ U6)
theorem LF:KnowOk TP Yz 3:=aF (fun g sp h=>MM h) (fun _ _=>rfl) (fun _=>rfl) 3
theorem KI {z:L1} (h:z.length=19):[z.getD 0 0,z.getD 1 0,z.getD 2 0,z.getD 3 0,z.getD 4 0,z.getD 5 0,z.getD 6 0,z.getD 7 0,z.getD 8 0,z.getD 9 0,z.getD 10 0,z.getD 11 0,z.getD 12 0,z.getD 13 0,z.getD 14 0,z.getD 15 0,z.getD 16 0,z.getD 17 0,z.getD 18 0]=z:=by
 match z,h with
 | [_,_,_,_,_,_,_,_,_,_,_,_,_,_,_,_,_,_,_],_=>rfl
theorem dA (l:List IV) (z:L1) (a b c d e:Nat) (h:z.length=19) (hl:lg l 0=some (.agg (af z a b c d e))):dv l 0=z:=by
 have q:∀ j,ae l 0 j=ae [.agg (af z a b c d e)] 0 j:=by intro j; unfold ae; rw [hl]; rfl
 unfold dv;simp only [q];exact KI h
theorem V8 {z:L1} (h:KH z) (j:Nat) (hj:j < 19) (hk:cx.getD j .i64=.u64):aj (z.getD j 0):=by
 have:=h.2 j hj;rw [hk] at this;have h1:(0:Int)<=z.getD j 0/\z.getD j 0<=18446744073709551615:=this;unfold aj; omega
theorem EY {z:L1} (h:KH z) (j:Nat) (hj:j+1 < 19) (hk:cx.getD (j+1) .i64=.u64):IV.agg [.int .i64 (z.getD j 0),.int .u64 (z.getD (j+1) 0)]=fx (fr z j):=(ae6 (V8 h (j+1) hj hk) rfl).symm
theorem s8 (g a b x y s h:Int):ag (BT g a b x y s h)/\ag (BS g a b x y s h):=by
 unfold BT BS;rw [bI,bI];constructor
 ·split; exact mP _ _; exact bg
 ·split; exact mO _ _; exact bg
theorem LU (z:L1) (h:Int) (r:L1) (m ax ay:Int):ag (sn z h r m ax ay)/\ag (sm z h r m ax ay):=by
 unfold sn sm;constructor
 ·split; exact bg; exact (s8 _ _ _ _ _ _ _).1
 ·split; exact bg; exact (s8 _ _ _ _ _ _ _).2
theorem kj {s t:Int}:e2 s t=0↔ag s/\ag t:=by
 unfold e2; split
 ·rename_i h; exact ⟨fun _=>h,fun _=>rfl⟩
 ·rename_i h; exact ⟨fun h'=>absurd h' (by decide),fun h'=>absurd h' h⟩
theorem aas {z:L1} {xs ts rs us es:L2} {i j px py qx qy h:Int} (hz:z.length=19):TA.F [.agg (af z 0 1 2 3 4),.int .i64 i,.int .i64 j,vx px py,vx qx qy,fx h] (aH xs ts rs us es) =
  (b7 z h (xs.getD i.toNat []) (xs.getD j.toNat []) px py qx qy,[]):=by
 show (IV.tup [vx (BO (dv _ 0) (v2 _ 5) (xs.getD i.toNat []) (xs.getD j.toNat []) (v2 _ 3) (vy _ 3) (v2 _ 4) (vy _ 4)) (BM (dv _ 0) (v2 _ 5) (xs.getD i.toNat []) (xs.getD j.toNat []) (v2 _ 3) (vy _ 3) (v2 _ 4) (vy _ 4)),
  vx (BN (dv _ 0) (v2 _ 5) (xs.getD i.toNat []) (xs.getD j.toNat []) (v2 _ 3) (vy _ 3) (v2 _ 4) (vy _ 4)) (BL (dv _ 0) (v2 _ 5) (xs.getD i.toNat []) (xs.getD j.toNat []) (v2 _ 3) (vy _ 3) (v2 _ 4) (vy _ 4)),.int .i64 (KU (dv _ 0) (v2 _ 5) (xs.getD i.toNat []) (xs.getD j.toNat []) (v2 _ 3) (vy _ 3) (v2 _ 4) (vy _ 4))],([]:List aq))=_
 rw [dA _ z 0 1 2 3 4 hz rfl,bc _ h 5 rfl,(aeY _ px py 3 rfl).1,(aeY _ px py 3 rfl).2,(aeY _ qx qy 4 rfl).1,(aeY _ qx qy 4 rfl).2]
 rfl
theorem Z5 {z:L1} {xs ts rs us es:L2} {i m ax ay h:Int} (hz:z.length=19):Ty.F [.agg (af z 0 1 2 3 4),.int .i64 i,fx m,vx ax ay,fx h] (aH xs ts rs us es) =
  (nP (sn z h (xs.getD i.toNat []) m ax ay) (sm z h (xs.getD i.toNat []) m ax ay) (uA z h (xs.getD i.toNat []) m ax ay),[]):=by
 show (nP (sn (dv _ 0) (v2 _ 4) (xs.getD i.toNat []) (v2 _ 2) (v2 _ 3) (vy _ 3)) (sm (dv _ 0) (v2 _ 4) (xs.getD i.toNat []) (v2 _ 2) (v2 _ 3) (vy _ 3)) (uA (dv _ 0) (v2 _ 4) (xs.getD i.toNat []) (v2 _ 2) (v2 _ 3) (vy _ 3)),([]:List aq))=_;rw [dA _ z 0 1 2 3 4 hz rfl,bc _ h 4 rfl,bc _ m 2 rfl,(aeY _ ax ay 3 rfl).1,(aeY _ ax ay 3 rfl).2]
theorem Jd:aa TP fu Ty:=by
 refine ab (N:=Yz) 3 LF ?_;rintro l bs _ _ ⟨z,xs,ts,rs,us,es,i,m,ax,ay,h,rfl,rfl,⟨hz,hg3,hg5⟩,hg,⟨hi0,hi1⟩,hm,⟨hax,hay⟩,hh⟩;rw [Z5 hz.1,HZ]; delta Maa Mab Mad Mae Maf Mah Mai Maj Maq Mar Mat Mau Mav Max MaB MaS MaW MaX MaY Ma2 Mbc Mbk Mbo Mbw Mby MbN MbV Mcl McL Mc0 Mdd Mdn Meg Mek Mel Men Meo Mep MeG MfL MfM Mge Mgh Mgi MiH MiJ MiO MiS MiT MiZ;have hil:i.toNat < xs.length:=by omega
 rw [acY hil];obtain ⟨g1,g2,m0,m4,m6,m8,m10⟩:=good_row hg hil;rw [bA hil 4,bA hil 6];rintro j1 rfl j2 rfl j3 rfl j4 rfl t5 e5 j6 rfl t7 e7 j8 rfl t9 rfl t10 rfl t11 rfl t12 rfl t13 rfl t14 rfl t15 rfl t16 rfl t17 rfl t18 rfl t19 e19 t20 e20 t21 e21 t22 e22 t23 e23 t24 e24 t25 e25;rw [bA hil 4,bA hil 6] at e23;rw [bA hil 0] at e20;have p19:t19:=by rw [e19]; omega
 have okr:aI aM xs:=fun r hr=>(hg r hr).2.1
 have a0:IV.agg [.int .i64 (rd xs i.toNat 0),.int .u64 (rd xs i.toNat 1)]=fx (fr xs[i.toNat] 0):=(ae6 (cH okr _ 1 (by decide) rfl) (bA hil 0).symm).symm
 have av:kB [vx j1 j2,IV.agg [.int .i64 (rd xs i.toNat 4),.int .u64 (rd xs i.toNat 5),.int .i64 (rd xs i.toNat 6),.int .u64 (rd xs i.toNat 7)]] []:=by
  have:=ik (a:=rd xs i.toNat 4) (b:=rd xs i.toNat 5) (c:=rd xs i.toNat 6) (d:=rd xs i.toNat 7) (cH okr _ 5 (by decide) rfl) (cH okr _ 7 (by decide) rfl)
  rw [bA hil 4,bA hil 6] at this;rw [List.cons.inj this |>.1];exact en hax hay m4 m6
 refine ⟨p19,p19,av,?_⟩;rw [ah];refine ⟨fun hne=>?_,fun he=>⟨p19,p19,?_,?_⟩⟩
 ·have hne':e2 (j1 - fr xs[i.toNat] 4) (j2 - fr xs[i.toNat] 6)≠0:=by rw [← e23]; exact hne
  have hno:=fun hh=>hne' (kj.2 hh)
  unfold sn sm uA;rw [if_pos hne',if_pos hne',if_pos hne',e5,e7,agz _ hno,agz _ hno,e23]
  rfl
 ·have he':=kj.1 (by rw [← e23]; exact he)
  rw [a0,EY hz 3 (by decide) rfl,EY hz 5 (by decide) rfl]
  exact ⟨_,_,_,_,_,_,_,rfl,rfl,hg3,m0,hm,⟨by rw [e5]; exact mP _ _,by rw [e7]; exact mO _ _⟩,hg5,hh⟩
 ·have he':=kj.1 (by rw [← e23]; exact he)
  rw [nE _ he'.1 he'.2] at e5 e7;have hz0:¬ e2 (j1 - fr xs[i.toNat] 4) (j2 - fr xs[i.toNat] 6)≠0:=fun hh=>hh (by rw [← e23]; exact he)
  unfold sn sm uA;rw [if_neg hz0,if_neg hz0,if_neg hz0,e24,e25,e20,show t21=fr z 3 from e21,show t22=fr z 5 from e22,e5,e7]
  rfl
set_option maxHeartbeats 1000000 in
theorem M8:aa TP jR TA:=by
 refine ab (N:=Yz) 3 LF ?_;rintro l bs _ _ ⟨z,xs,ts,rs,us,es,i,j,px,py,qx,qy,h,rfl,rfl,⟨hz,hg3,hg5⟩,hg,⟨hi0,hi1⟩,⟨hj0,hj1⟩,⟨hpx,hpy⟩,⟨hqx,hqy⟩,hh⟩;rw [aas hz.1,JY]; delta Maa Mab Mad Maf Mai Maj Maq Mar Mat Mau Mav Max MaB MaE MaS MaW MaX MaY Ma2 Mbk Mbo Mbw Mby MbN MbV Mce Mcf Mcg Mcj Mcs McL McW Mc0 Mda Mdd Mdn Md2 Meg Mek Mel Men Meo Mep MeG Mfm MfL MfM Mf2 Mgd Mge Mgh Mgi MgS MiJ MiS MiT MiU Mjx MjC;have hil:i.toNat < xs.length:=by omega
 have hjl:j.toNat < xs.length:=by omega
 rw [acY hil,acY hjl];obtain ⟨_,_,m0,m4,m6,_,_⟩:=good_row hg hil;obtain ⟨_,_,k0,k4,k6,_,_⟩:=good_row hg hjl;rw [bA hil 4,bA hil 6,bA hjl 4,bA hjl 6,bA hil 0,bA hjl 0];rintro j1 rfl j2 rfl j3 rfl j4 rfl j5 rfl t6 e6 j7 rfl t8 e8 j9 rfl t10 e10 j11 rfl t12 e12 j13 rfl t14 rfl t15 rfl t16 rfl t17 rfl t18 rfl t19 rfl t20 rfl t21 rfl t22 rfl t23 rfl t24 rfl t25 rfl t26 rfl t27 rfl t28 rfl t29 rfl t30 e30 t31 e31 t32 e32 t33 e33 t34 e34 t35 e35 t36 e36 t37 e37 t38 e38 _ rfl _ rfl _ rfl _ rfl _ rfl _ rfl _ rfl _ rfl _ rfl _ rfl _ rfl _ rfl _ rfl _ rfl _ rfl _ rfl;simp only [and_self];rw [bA hil 4,bA hil 6,bA hjl 4,bA hjl 6] at e37;rw [bA hil 0,bA hjl 0] at e38;have okr:aI aM xs:=fun r hr=>(hg r hr).2.1
 have a0:IV.agg [.int .i64 (rd xs i.toNat 0),.int .u64 (rd xs i.toNat 1)]=fx (fr xs[i.toNat] 0):=(ae6 (cH okr _ 1 (by decide) rfl) (bA hil 0).symm).symm
 have b0:IV.agg [.int .i64 (rd xs j.toNat 0),.int .u64 (rd xs j.toNat 1)]=fx (fr xs[j.toNat] 0):=(ae6 (cH okr _ 1 (by decide) rfl) (bA hjl 0).symm).symm
 have av:kB [IV.agg [.int .i64 (rd xs j.toNat 4),.int .u64 (rd xs j.toNat 5),.int .i64 (rd xs j.toNat 6),.int .u64 (rd xs j.toNat 7)],IV.agg [.int .i64 (rd xs i.toNat 4),.int .u64 (rd xs i.toNat 5),.int .i64 (rd xs i.toNat 6),.int .u64 (rd xs i.toNat 7)]] []:=by
  have h1:=ik (a:=rd xs i.toNat 4) (b:=rd xs i.toNat 5) (c:=rd xs i.toNat 6) (d:=rd xs i.toNat 7) (cH okr _ 5 (by decide) rfl) (cH okr _ 7 (by decide) rfl)
  have h2:=ik (a:=rd xs j.toNat 4) (b:=rd xs j.toNat 5) (c:=rd xs j.toNat 6) (d:=rd xs j.toNat 7) (cH okr _ 5 (by decide) rfl) (cH okr _ 7 (by decide) rfl)
  rw [bA hil 4,bA hil 6] at h1;rw [bA hjl 4,bA hjl 6] at h2;rw [List.cons.inj h1 |>.1,List.cons.inj h2 |>.1];exact en k4 k6 m4 m6
 have p31:t31:=by rw [e31]; omega
 have p32:t32:=by rw [e32]; omega
 refine ⟨p31,p31,p32,p32,av,?_⟩;rw [ah];refine ⟨fun hne=>?_,fun he=>⟨?_,?_⟩⟩
 ·have hne':e2 (fr xs[j.toNat] 4 - fr xs[i.toNat] 4) (fr xs[j.toNat] 6 - fr xs[i.toNat] 6)≠0:=by rw [← e37]; exact hne
  have hgv:uA z j1 xs[i.toNat] (fr xs[j.toNat] 0) (fr xs[j.toNat] 4) (fr xs[j.toNat] 6)=t37:=by unfold uA; rw [if_pos hne',e37]
  unfold b7 Sd Sc KU;rw [hgv];simp only [if_pos hne]
 ·have he':=kj.1 (by rw [← e37]; exact he)
  rw [a0,b0,EY hz 3 (by decide) rfl,EY hz 5 (by decide) rfl]
  exact ⟨_,_,_,_,_,_,_,rfl,rfl,hg3,m0,k0,⟨by rw [e6]; exact mP _ _,by rw [e8]; exact mO _ _⟩,hg5,hh⟩
 ·have he':=kj.1 (by rw [← e37]; exact he)
  have hz0:¬ e2 (fr xs[j.toNat] 4 - fr xs[i.toNat] 4) (fr xs[j.toNat] 6 - fr xs[i.toNat] 6)≠0:=fun hh=>hh (by rw [← e37]; exact he)
  rw [nE _ he'.1 he'.2] at e6 e8;have hE:uA z j1 xs[i.toNat] (fr xs[j.toNat] 0) (fr xs[j.toNat] 4) (fr xs[j.toNat] 6)=t38:=by
   unfold uA; rw [if_neg hz0,e38,e6,e8]; rfl
  have hX:sn z j1 xs[i.toNat] (fr xs[j.toNat] 0) (fr xs[j.toNat] 4) (fr xs[j.toNat] 6)=j11:=by
   unfold sn; rw [if_neg hz0,e10,e6,e8]; rfl
  have hY:sm z j1 xs[i.toNat] (fr xs[j.toNat] 0) (fr xs[j.toNat] 4) (fr xs[j.toNat] 6)=j13:=by
   unfold sm; rw [if_neg hz0,e12,e6,e8]; rfl
  obtain ⟨mX,mY⟩:=LU z j1 xs[i.toNat] (fr xs[j.toNat] 0) (fr xs[j.toNat] 4) (fr xs[j.toNat] 6);rw [hX] at mX;rw [hY] at mY;unfold b7 Sd Sc KU;rw [hE,hX,hY,ah];refine ⟨fun h38=>?_,fun h38=>⟨en hpx hpy mX mY,?_⟩⟩
  ·simp only [if_pos h38]
  ·have n38:¬ t38≠0:=fun hh=>hh h38
   simp only [if_neg n38];rw [← e30,← e33,← e34,ah];refine ⟨fun h30=>?_,fun h30=>⟨en hqx hqy mX mY,?_⟩⟩
   ·simp only [if_pos h30]
   ·have n30:¬ t30≠0:=fun hh=>hh h30
    simp only [if_neg n30];rw [← e35,← e36]
end
def JE:FuncId->Option Vs.Spec:=fun g=>if g=jR then some TA else if g=fu then some Ty else SS g
def acX (xs ts rs us es:L2):OB:=[some (.ro aM xs),some (.ro jt ts),some (.ro ie rs),some (.ro [.i64] us),some (.ro dE es)]
def de (z:L1) (xs ts rs us es zs:L2) (i:Int):St:=⟨T 22 [(1,.ptr 5 0),(3,.sl 6),(4,.int .i64 i)],acX xs ts rs us es++[some (.var 34 (af z 0 1 2 3 4)),some (.row 31 dm zs)]⟩
def Man (a:List IntKind)(b:L2)(c:List IntKind)(d:L2)(e:OB):OB:=Mam a b (.ro c d) e
abbrev Mdp (a:Prop)(b c:Int)(d:L2)(e:Int)(f:L2)(g h:Prop):Prop:=Mbo a (Mbk b c d) (Mcq e f g h)
def Mdr (a:L1)(b:Nat):List IV:=af a 0 1 2 3 b
def MdX (a b c:Nat)(d:List (Nat × IV))(e f g h i:L2)(j:OB):St:=Mc3 a b c d e (Man jt f ie g (Man MaQ h dE i j))
def MfA (a:L2)(b:Int)(c:Nat)(d:L2)(e:Int)(f:Nat)(g:L2)(h:Int)(i:Nat)(j:L2)(k:Int)(l:Nat)(m:L1):L1:=Maw (Mar a b c) (Mar d e f) (Mar g h i) (Mar j k l) m
def Mgw (a b c d:L2)(e:OB):OB:=Man aM a jt b (Man ie c MaQ d e)
theorem Z8 (Λ:FuncId->Nat->Option aB) (d:Nat) (z:L1) (xs ts rs us es zs:L2) (i:Int) (k:Out->St->Prop):(round (ai TP { Γ:=JE,Λ:=Λ,Τ:=fun _=>none } d) bm 5 0 (lp TP bm 0) (de z xs ts rs us es zs i) k) =(∀a,Mdp a i i xs i xs (MiO a (Mhg zs 32) (k .normal (MdX 22 1 5 (Mdj 3 6 4 (Met i) []) xs ts rs us es (Mba 34 (Mdr z 4) 31 dm (MhA zs 4 (MfA xs i 8 xs i 9 xs i 10 xs i 11 [])) [])))) (k MbI (Ma3 22 3 (.sl 5) [] (Mgw xs ts rs us (Mam dE es (MdK zs) []))))) :=by delta Maa Mac Mag Mal Mam Man Mao Map Mar Mat Mav Maw MaA MaM MaQ MaS MaU MaV Ma3 Ma6 Mba Mbk Mbo Mbp Mbv MbI MbV Mcq Mct Mc3 Mdj Mdp Mdr MdK MdX Met MfA Mgw Mhg MhA MiO; refine nm ?_; kernel_rfl
def af8 (r:L1):L1:=[r.getD 8 0,r.getD 9 0,r.getD 10 0,r.getD 11 0]
def pMo (n0:Nat) (st:St) (z:L1) (xs ts rs us es:L2):Prop:=xs.length<=1000/\n0=5/\st=de z xs ts rs us es [] 0
def s6:aB:=fun n0 st K=>∃z xs ts rs us es,pMo n0 st z xs ts rs us es/\K (.exit 0) ⟨T 22 [(3,.sl 5)],acX xs ts rs us es++[some (.row 31 dm (xs.map af8))]⟩
def ZI:Know:={ Γ:=JE,Λ:=fun f i=>if f=bm then (if i=0 then some s6 else none) else none,Τ:=fun _=>none }
theorem HP (z:L1) (xs ts rs us es:L2) (K:KP):(comes TP ZI 3 bm [.agg (af z 0 1 2 3 4)] (aH xs ts rs us es) K) =(∃a:L1,∃b:L2,∃c:L2,∃d:L2,∃e:L2,∃f:L2,pMo 5 (MdX 22 1 5 (Mdj 3 6 4 Mdg []) xs ts rs us es (Mcz 34 (Mdr z 4) 31 dm [])) a b c d e f/\K Mb5 (Mg2 (List.map af8 b))) :=by kernel_rfl
def W0 (l:List IV) (bs:List aq):Prop:=∃z xs ts rs us es,l=[.agg (af z 0 1 2 3 4)]/\bs=aH xs ts rs us es/\xs.length<=1000
def RX:Vs.Spec:=⟨W0,fun _ bs=>(.sl 0,[.row 31 dm ((aA bs 0).map af8)])⟩
def uQ:FuncId->Option Vs.Spec:=fun g=>if g=bm then some RX else JE g
def Qu (z:L1) (h:Int) (xs ps:L2) (i j:Nat):Int:=KU z h (xs.getD i []) (xs.getD j []) (fr (ps.getD i []) 0) (fr (ps.getD i []) 2) (fr (ps.getD j []) 0) (fr (ps.getD j []) 2)
def IQ (z:L1) (h:Int) (xs ps:L2) (i j:Nat):L1:=cI (BO z h (xs.getD i []) (xs.getD j []) (fr (ps.getD i []) 0) (fr (ps.getD i []) 2) (fr (ps.getD j []) 0) (fr (ps.getD j []) 2)) (BM z h (xs.getD i []) (xs.getD j []) (fr (ps.getD i []) 0) (fr (ps.getD i []) 2) (fr (ps.getD j []) 0) (fr (ps.getD j []) 2))
def IP (z:L1) (h:Int) (xs ps:L2) (i j:Nat):L1:=cI (BN z h (xs.getD i []) (xs.getD j []) (fr (ps.getD i []) 0) (fr (ps.getD i []) 2) (fr (ps.getD j []) 0) (fr (ps.getD j []) 2)) (BL z h (xs.getD i []) (xs.getD j []) (fr (ps.getD i []) 0) (fr (ps.getD i []) 2) (fr (ps.getD j []) 0) (fr (ps.getD j []) 2))
def AX (z:L1) (h:Int) (xs:L2) (i:Nat):Nat->Nat->L2->L2 × Int
 | 0,_,ps=>(ps,0)
 | m+1,j,ps=>if Qu z h xs ps i j≠0 then ([],Qu z h xs ps i j) else AX z h xs i m (j+1) ((ps.set i (IQ z h xs ps i j)).set j (IP z h xs ps i j))
def mG (z:L1) (h:Int) (xs:L2):Nat->Nat->L2->L2 × Int
 | 0,_,ps=>(ps,0)
 | m+1,i,ps=>if (AX z h xs i (xs.length - (i+1)) (i+1) ps).2≠0 then ([],(AX z h xs i (xs.length - (i+1)) (i+1) ps).2) else mG z h xs m (i+1) (AX z h xs i (xs.length - (i+1)) (i+1) ps).1
def tJ (z:L1) (h:Int) (xs:L2):L2:=(mG z h xs xs.length 0 (xs.map af8)).1
def tK (z:L1) (h:Int) (xs:L2):Int:=(mG z h xs xs.length 0 (xs.map af8)).2
def hM (z:L1) (xs ts rs us es zs:L2) (h i:Int):St:=⟨T 70 [(2,.ptr 5 0),(3,.ptr 6 0),(6,.sl 7),(15,.sl 0),(16,.int .i64 xs.length),(17,.int .i64 i)],acX xs ts rs us es++[some (.var 34 (af z 0 1 2 3 4)),some (.var 25 (fx h).cells),some (.row 31 dm zs)]⟩
def Mc9 (a b c:Nat)(d:List (Nat × IV))(e f g h i:L2)(j:Nat)(k:List IV)(l:OB):St:=Ma3 a b (Mao c) d (Man aM e jt f (Man ie g MaQ h (Mam dE i (.var j k) l)))
def Mfv:IV:=.sl 7
def MgR (a b c d e:L2)(f:List IV)(g:OB):OB:=Man aM a jt b (Man ie c MaQ d (Mam dE e (.var 34 f) g))
def Mg8 (a b c:Nat)(d:List (Nat × IV))(e f g h i:L2)(j:List IV)(k:OB):St:=Mf4 a b c d (MgR e f g h i j k)
def Mhp (a b:Nat)(c:List (Nat × IV))(d e f g h:L2)(i:L1)(j:OB):St:=Mc9 a b 5 c d e f g h 34 (Mdr i 4) j
theorem TS (Λ:FuncId->Nat->Option aB) (d:Nat) (z:L1) (xs ts rs us es zs:L2) (h i:Int) (k:Out->St->Prop):(round (ai TP { Γ:=uQ,Λ:=Λ,Τ:=fun _=>none } d) aP 5 0 (lp TP aP 0) (hM z xs ts rs us es zs h i) k) =(∀a,Mdp a i i xs i xs (MiO a (Mhg zs 32) (k .normal (Mg8 70 5 6 (MiB 6 7 15 16 xs 17 (Met i)) xs ts rs us es (Mdr z 4) (Mhq h h (MhA zs 4 (MfA xs i 8 xs i 9 xs i 10 xs i 11 [])) [])))) (k MbI (Mhp 70 2 (Mbs 3 6 6 Mfv []) xs ts rs us es z (Mhq h h zs [])))) :=by delta Maa Mab Mac Mae Maf Mag Mah Mai Mal Mam Man Mao Map Mar Mat Mav Maw MaA MaG MaM MaQ MaS MaU Ma1 Ma3 Ma6 Mba Mbk Mbo Mbp Mbs Mbv MbI MbU MbV Mb5 Mcq Mcu Mcx Mc9 Mdf Mdp Mdr Met Mfv MfA Mf4 MgR Mg8 Mhg Mhp Mhq MhA MiB MiO; refine nm ?_; kernel_rfl
def pKa (n0:Nat) (st:St) (z:L1) (xs ts rs us es:L2) (h:Int):Prop:=xs.length<=1000/\n0=5/\st=hM z xs ts rs us es [] h 0
def ux:aB:=fun n0 st K=>∃z xs ts rs us es h,pKa n0 st z xs ts rs us es h/\K (.exit 0) ⟨T 70 [(2,.ptr 5 0),(3,.ptr 6 0),(6,.sl 7)],acX xs ts rs us es++[some (.var 34 (af z 0 1 2 3 4)),some (.var 25 (fx h).cells),some (.row 31 dm (xs.map af8))]⟩
def Zt (z:L1) (xs ts rs us es zs:L2) (h n i:Int):St:=⟨T 70 [(2,.ptr 5 0),(3,.ptr 6 0),(6,.sl 7),(28,.int .i64 n),(29,.int .i64 i)],acX xs ts rs us es++[some (.var 34 (af z 0 1 2 3 4)),some (.var 25 (fx h).cells),some (.row 31 dm zs)]⟩
def Zp (z:L1) (xs ts rs us es zs:L2) (h i:Int):St:=⟨T 87 [(2,.ptr 5 0),(3,.ptr 6 0),(4,.ptr 7 0),(5,.sl 8),(6,.int .i64 i)],acX xs ts rs us es++[some (.var 34 (af z 0 1 2 3 4)),some (.var 25 (fx h).cells),some (.var 58 [.sl 9,.int .i64 0]),some (.row 31 dm zs),some (.row 31 dm [])]⟩
def Yr (z:L1) (xs ts rs us es zs:L2) (h n i j:Int):St:=⟨T 70 [(2,.ptr 5 0),(3,.ptr 6 0),(6,.sl 7),(9,.int .i64 i),(10,.int .i64 j),(28,.int .i64 n),(29,.int .i64 i)],acX xs ts rs us es++[some (.var 34 (af z 0 1 2 3 4)),some (.var 25 (fx h).cells),some (.row 31 dm zs)]⟩
def MaC (a:List IntKind)(b:L2)(c:List IntKind)(d:L2)(e:List aq):List aq:=.ro a b::.ro c d::e
def Mbx (a b c:L2)(d:List IntKind)(e:L2)(f:List aq):List aq:=MaC jt a ie b (MaC MaQ c d e f)
def MbJ (a:List IntKind)(b c d e f:L2)(g:List aq):List aq:=.ro a b::Mbx c d e dE f g
def MeW (a:L2)(b:Int):L1:=List.getD a (Int.toNat b) []
def Me0:Out:=.exit 4
def Mfl (a b c d e:L2):List aq:=MbJ aM a b c d e []
def MfI (a:L1)(b:List IV):L1:=dv (MaB (Mdr a 4) b) 0
def Mf1 (a b c d e:Nat)(f:Int)(g:Nat)(h:Int)(i:List (Nat × IV)):List (Nat × IV):=Mbl a b c (.sl d) e (Maa f) g h i
abbrev MgU (a:Int)(b:L2)(c:Int)(d:Prop):Prop:=MaX a b c 2 d
abbrev MgV (a:Int)(b:L2)(c:Int)(d:Prop):Prop:=MaX a b c 3 d
def MhH (a b c d e f g h i j k:Int):List IV:=MaD a b (Mdn c d e f (Mdn g h i j (Mbw k)))
def MhW (a:Int)(b:Nat):IV:=.prow 7 a 4 b
theorem TQ (Λ:FuncId->Nat->Option aB) (d:Nat) (z:L1) (xs ts rs us es zs:L2) (h n i j:Int) (k:Out->St->Prop):(round (ai TP { Γ:=uQ,Λ:=Λ,Τ:=fun _=>none } d) aP 5 2 (lp TP aP 2) (Yr z xs ts rs us es zs h n i j) k) =(∀a,Mau a h (∀b,Mek b zs i (∀c,Mel c zs i (∀e,MgU e zs i (∀f,MgV f zs i (∀g,Mek g zs j (∀l,Mel l zs j (∀m,MgU m zs j (∀o,MgV o zs j (∀p,MiJ p i zs (∀q,MiJ q j zs (∀r,Mcl r b c (∀s,Mcl s e f (∀t,Mcl t g l (∀u,Mcl u m o (∀v,Mbo v (pPd (MaB (Mdr z 4) (MhH i j b c e f g l m o h)) (Mfl xs ts rs us es)) (∀w,Mau w (KU (MfI z (MhH i j b c e f g l m o h)) a (MeW xs i) (MeW xs j) r s t u) (∀x,Mau x (BO (MfI z (MhH i j b c e f g l m o h)) a (MeW xs i) (MeW xs j) r s t u) (∀y,Mau y (BM (MfI z (MhH i j b c e f g l m o h)) a (MeW xs i) (MeW xs j) r s t u) (∀a1,Mau a1 (BN (MfI z (MhH i j b c e f g l m o h)) a (MeW xs i) (MeW xs j) r s t u) (∀b1,Mau b1 (BL (MfI z (MhH i j b c e f g l m o h)) a (MeW xs i) (MeW xs j) r s t u) (∀c1,Mbo c1 (k .ret (MaM 70 (Mdj 4 5 5 (Maa w) []) (Mgw xs ts rs us (Mc6 dE es 31 dm [])))) (∀d1,MiJ d1 j (Mbu zs i (fun e1=>Mjz x y)) (∀e1,Mbo e1 (k .normal (Mhp 70 2 (Mbs 3 6 6 Mfv (MaG 9 (Maa i) 10 (Met j) 28 (Maa n) 29 (Maa i) [])) xs ts rs us es z (Mhq h h (Mbu (Mbu zs i (fun f1=>Mjz x y)) j (fun f1=>Mjz a1 b1)) []))) (∀f1:St,f1=Mhp 70 2 (Mf1 3 6 6 7 9 i 10 j (Mbl 11 8 12 (Mao 9) 13 (Maa w) 28 n (MfY 29 (Maa i) 34 (Maa j) 35 Mfv 36 (Mcu zs) 37 (MeV j (Mat zs)) 40 (Mf2 x y a1 b1 w) 41 (.agg (Mdr z 4)) 42 (Maa i) (MfY 43 (Maa j) 44 Mfv 45 (Maa i) 46 (MhW i 0) 47 (Mcr b c e f []) 48 Mfv 49 (Maa j) 50 (MhW j 0) (MfY 51 (Mcr g l m o []) 52 (fx h) 53 (Mf2 x y a1 b1 w) 54 (vx x y) 55 (vx a1 b1) 56 (Maa w) 57 (Maa w) 58 (.bool (w != 0)) (Mdf 60 7 61 (Maa i) 62 Mfv 63 (Maa j) (MaG 64 (vx x y) 65 (vx a1 b1) 66 (MhW i 0) 67 (MhW j 0) []))))))) xs ts rs us es z (Mhq h h (Mbu (Mbu zs i (fun g1=>Mjz x y)) j (fun g1=>Mjz a1 b1)) (Maz 31 (Mbc x x y y []) 31 (Mbc a1 a1 b1 b1 []) []))->(∀g1:St,g1=Mhp 70 2 (Mf1 3 6 6 7 9 i 10 j (Mbl 11 9 12 (Mao 8) 13 (Maa w) 28 n (MfY 29 (Maa i) 34 (Maa j) 35 Mfv 36 (Mcu zs) 37 (MeV j (Mat zs)) 40 (Mf2 x y a1 b1 w) 41 (.agg (Mdr z 4)) 42 (Maa i) (MfY 43 (Maa j) 44 Mfv 45 (Maa i) 46 (MhW i 0) 47 (Mcr b c e f []) 48 Mfv 49 (Maa j) 50 (MhW j 0) (MfY 51 (Mcr g l m o []) 52 (fx h) 53 (Mf2 x y a1 b1 w) 54 (vx x y) 55 (vx a1 b1) 56 (Maa w) 57 (Maa w) 58 (.bool (w != 0)) (Mdf 60 7 61 (Maa i) 62 Mfv 63 (Maa j) (MaG 64 (vx x y) 65 (vx a1 b1) 66 (MhW i 0) 67 (MhW j 0) []))))))) xs ts rs us es z (Mhq h h (Mbu (Mbu zs i (fun i1=>Mjz x y)) j (fun i1=>Mjz a1 b1)) (Maz 31 (Mbc a1 a1 b1 b1 []) 31 (Mbc x x y y []) []))->(∀i1,Mbo i1 (Mcs v w c1 (MiU p d1 (MaE p p d1 d1 (f1=f1)) e1)) (∀j1,Mgr j1 (Mcs v w c1 (MiU p d1 (MaE p p d1 d1 (g1=g1)) e1)) j zs (Mfw p p q q (MdF v (McL w c1 (MiU p d1 (MaE p p d1 d1 (f1=f1)) e1)) w c1 (MiU p d1 (MaE p p d1 d1 (g1=g1)) e1)) (i1/\i1) j1 j1) (k Me0 (Mhp 70 2 (Mf1 3 6 6 7 28 n 29 i []) xs ts rs us es z (Mhq h h zs []))))))))))))))))))))))))))))))) :=by delta Maa Mab Mac Mae Maf Mag Mah Mai Maj Mal Mam Man Mao Map Maq Mar Mat Mau Mav Maw Maz MaA MaB MaC MaD MaE MaG MaM MaQ MaS MaW MaX MaY Ma1 Ma2 Ma3 Ma4 Mba Mbc Mbk Mbl Mbo Mbp Mbs Mbu Mbv Mbw Mbx MbJ MbV Mcl Mcq Mcr Mcs Mcu McL Mc0 Mc6 Mc9 Mda Mdf Mdj Mdn Mdr MdF Mek Mel Met MeV MeW Me0 Mfl Mfv Mfw MfI MfY Mf1 Mf2 Mgr Mgw MgU MgV Mhp Mhq MhH MhW MiJ MiU Mjz; refine nj ?_; (iterate 27 refine nm ?_); kernel_rfl
def Yn (z:L1) (xs ts rs us es zs:L2) (h i j:Int):St:=⟨T 87 [(2,.ptr 5 0),(3,.ptr 6 0),(4,.ptr 7 0),(5,.sl 8),(6,.int .i64 i),(7,.int .i64 j)],acX xs ts rs us es++[some (.var 34 (af z 0 1 2 3 4)),some (.var 25 (fx h).cells),some (.var 58 [.sl 9,.int .i64 0]),some (.row 31 dm zs),some (.row 31 dm [])]⟩
def Mee:Out:=.exit 2
def MhS (a:Nat)(b:List (Nat × IV))(c d e f g:L2)(h:OB):St:=MdX a 4 5 b c d e f g h
theorem WU (Λ:FuncId->Nat->Option aB) (d:Nat) (z:L1) (xs ts rs us es zs:L2) (h i j:Int) (k:Out->St->Prop):(round (ai TP { Γ:=uQ,Λ:=Λ,Τ:=fun _=>none } d) aE 5 1 (lp TP aE 1) (Yn z xs ts rs us es zs h i j) k) =(∀a,Mau a h (∀b,Mau b (sn (MfI z (Maf i (MbN (Mar xs j 0) (Mar xs j 1) (Mdn (Mar xs j 4) (Mar xs j 5) (Mar xs j 6) (Mar xs j 7) (Mbw h))))) a (MeW xs i) (MjC xs j) (Mby xs j 4 xs j 5) (Mby xs j 6 xs j 7)) (∀c,Mau c b (∀e,Mau e (sm (MfI z (Maf i (MbN (Mar xs j 0) (Mar xs j 1) (Mdn (Mar xs j 4) (Mar xs j 5) (Mar xs j 6) (Mar xs j 7) (Mbw h))))) a (MeW xs i) (MjC xs j) (Mby xs j 4 xs j 5) (Mby xs j 6 xs j 7)) (∀f,Mau f e (∀g,Mek g xs j (∀l,Mel l xs j (∀m,MfL m xs j (∀n,MfM n xs j (∀o,Mgh o xs j (∀p,Mgi p xs j (∀q,Mek q zs i (∀r,Mel r zs i (∀s,MgU s zs i (∀t,MgV t zs i (∀u,Mek u zs j (∀v,Mel v zs j (∀w,MgU w zs j (∀x,MgV x zs j (∀y,MiJ y j xs (∀a1,MiJ a1 i zs (∀b1,MiJ b1 j zs (∀c1,Mft c1 (Ma2 q r) c (∀d1,Mft d1 (Ma2 s t) f (∀e1,Mau e1 (Ma2 u v - c) (∀f1,Mau f1 (Ma2 w x - f) (∀g1,Mge g1 c1 d1 (∀i1,Mge i1 e1 f1 (∀j1,MiS j1 c1 d1 (∀k1,MiT k1 c1 d1 (∀l1,MiS l1 e1 f1 (∀m1,MiT m1 e1 f1 (∀n1,Mau n1 (uA (MfI z (Maf i (MbN g l (Mdn m n o p (Mbw h))))) a (MeW xs i) (Ma2 g l) (Ma2 m n) (Ma2 o p)) (∀o1,MiJ o1 j (Mbu zs i (fun p1=>Mjz j1 k1)) (∀p1,Mgr p1 (Mcs (Y8 (MaB (Mdr z 4) (Maf i (MbN g l (Mdn m n o p (Mbw h))))) (Mfl xs ts rs us es)) n1 (k .ret (MhS 87 [] xs ts rs us es (Mgj 58 6 n1 []))) (MiZ a1 (kB (Mdn q r s t (Mc0 b e [])) []) g1 (k .ret (MhS 87 [] xs ts rs us es (Mgj 58 6 g1 []))) (MiZ b1 (kB (Mdn u v w x (Mc0 b e [])) []) i1 (k .ret (MhS 87 [] xs ts rs us es (Mgj 58 6 i1 []))) (MaE a1 a1 o1 o1 (k .normal (Mg8 87 5 6 (Mf1 4 7 5 8 6 i 7 (McR j) []) xs ts rs us es (Mdr z 4) (Mia h h 9 (Mbu (Mbu zs i (fun q1=>Mjz j1 k1)) j (fun q1=>Mjz l1 m1)) []))))))) j zs (Mda y y y y p1 p1) (k Mee (Mhp 87 2 (Mg5 3 6 4 7 5 8 6 i) xs ts rs us es z (Mia h h 9 zs [])))))))))))))))))))))))))))))))))))))) :=by delta Maa Mab Mac Mae Maf Mag Mah Mai Maj Mak Mal Mam Man Mao Map Maq Mar Mat Mau Mav Maw Maz MaA MaB MaC MaE MaG MaM MaQ MaS MaV MaW MaX MaY Ma1 Ma2 Ma3 Ma4 Mbe Mbk Mbl Mbo Mbp Mbs Mbu Mbv Mbw Mbx Mby MbD MbJ MbN MbU MbV Mcq Mcs Mct Mcx Mcz McL McR Mc0 Mc3 Mc9 Mda Mdn Mdr MdI MdK MdX Mee Mek Mel MeW Mfl Mft MfI MfL MfM Mf1 Mf4 Mge Mgh Mgi Mgj Mgr MgR MgU MgV Mg5 Mg8 Mhp MhS Mia MiJ MiS MiT MiZ Mjz MjC; refine nj ?_; refine nm ?_; refine nj ?_; refine nm ?_; refine nj ?_; (iterate 30 refine nm ?_); kernel_rfl
def VO (p:L1):Prop:=∃x y,p=cI x y/\ag x/\ag y
def km (zs:L2):Prop:=∀ p∈zs,VO p
def G4 (z:L1) (xs zs:L2) (h:Int):Prop:=Cg z/\aY xs/\ag h/\km zs/\zs.length=xs.length/\xs.length<=1000
def pKc (n0:Nat) (st:St) (z:L1) (xs ts rs us es zs:L2) (h:Int) (i:Nat):Prop:=G4 z xs zs h/\i < xs.length/\n0=5/\st=Yr z xs ts rs us es zs h xs.length i (IntKind.i64.wrap ((i:Int)+1))
def XM (z:L1) (h:Int) (xs:L2) (i:Nat) (zs:L2):L2 × Int:=AX z h xs i (xs.length - (i+1)) (i+1) zs
def tn (z:L1) (h:Int) (xs:L2) (i:Nat) (zs:L2):L2:=(XM z h xs i zs).1
def lO (z:L1) (h:Int) (xs:L2) (i:Nat) (zs:L2):Int:=(XM z h xs i zs).2
def VY:aB:=fun n0 st K=>∃z xs ts rs us es zs h i,pKc n0 st z xs ts rs us es zs h i/\br (lO z h xs i zs != 0) (K .ret ⟨T 70 [(4,.sl 5),(5,.int .i64 (lO z h xs i zs))],acX xs ts rs us es++[some (.row 31 dm [])]⟩)
 (K (.exit 4) ⟨T 70 [(2,.ptr 5 0),(3,.ptr 6 0),(6,.sl 7),(28,.int .i64 xs.length),(29,.int .i64 i)],acX xs ts rs us es++[some (.var 34 (af z 0 1 2 3 4)),some (.var 25 (fx h).cells),some (.row 31 dm (tn z h xs i zs))]⟩)
theorem TR (Λ:FuncId->Nat->Option aB) (d:Nat) (z:L1) (xs ts rs us es zs:L2) (h n i:Int) (k:Out->St->Prop):(round (ai TP { Γ:=uQ,Λ:=fun f i=>if f=aP then (if i=2 then some VY else Λ f i) else Λ f i,Τ:=fun _=>none } d) aP 5 1 (lp TP aP 1) (Zt z xs ts rs us es zs h n i) k)=(br (decide (i < n)) (∃z_1 xs_1 ts_1 rs_1 us_1 es_1 zs_1 h_1 i_1,pKc 5 (St.mk (T 70 [(2,.ptr 5 0),(3,.ptr 6 0),(6,.sl 7),(9,.int .i64 i),(10,.int .i64 (IntKind.i64.wrap (i+1))),(28,.int .i64 n),(29,.int .i64 i)]) [some (.ro aM xs),some (.ro jt ts),some (.ro ie rs),some (.ro [.i64] us),some (.ro dE es),some (.var 34 (af z 0 1 2 3 4)),some (.var 25 [.int .i64 (h / 18446744073709551616),.int .u64 (h % 18446744073709551616)]),some (.row 31 dm zs)]) z_1 xs_1 ts_1 rs_1 us_1 es_1 zs_1 h_1 i_1/\br (lO z_1 h_1 xs_1 i_1 zs_1 != (0:Int)) (k Out.ret (St.mk (T 70 [(4,.sl 5),(5,.int .i64 (lO z_1 h_1 xs_1 i_1 zs_1))]) [some (.ro aM xs_1),some (.ro jt ts_1),some (.ro ie rs_1),some (.ro [.i64] us_1),some (.ro dE es_1),some (.row 31 dm [])])) (k Out.normal (St.mk (T 70 [(2,.ptr 5 0),(3,.ptr 6 0),(6,.sl 7),(28,.int .i64 (↑xs_1.length:Int)),(29,.int .i64 (IntKind.i64.wrap ((↑i_1:Int)+1)))]) [some (.ro aM xs_1),some (.ro jt ts_1),some (.ro ie rs_1),some (.ro [.i64] us_1),some (.ro dE es_1),some (.var 34 (af z_1 0 1 2 3 4)),some (.var 25 [.int .i64 (h_1 / 18446744073709551616),.int .u64 (h_1 % 18446744073709551616)]),some (.row 31 dm (tn z_1 h_1 xs_1 i_1 zs_1))]))) (k (Out.exit 2) (St.mk (T 70 [(6,.sl 5)]) [some (.ro aM xs),some (.ro jt ts),some (.ro ie rs),some (.ro [.i64] us),some (.ro dE es),some (.row 31 dm zs)]))):=by kernel_rfl
def pKb (n0:Nat) (st:St) (z:L1) (xs ts rs us es zs:L2) (h:Int):Prop:=G4 z xs zs h/\n0=5/\st=Zt z xs ts rs us es zs h xs.length 0
def B3 (z:L1) (h:Int) (xs zs:L2):L2:=(mG z h xs xs.length 0 zs).1
def pQ (z:L1) (h:Int) (xs zs:L2):Int:=(mG z h xs xs.length 0 zs).2
def tB:aB:=fun n0 st K=>∃z xs ts rs us es zs h,pKb n0 st z xs ts rs us es zs h/\br (pQ z h xs zs != 0) (K .ret ⟨T 70 [(4,.sl 5),(5,.int .i64 (pQ z h xs zs))],acX xs ts rs us es++[some (.row 31 dm [])]⟩) (K (.exit 2) ⟨T 70 [(6,.sl 5)],acX xs ts rs us es++[some (.row 31 dm (B3 z h xs zs))]⟩)
def Hw:Know:={ Γ:=uQ,Λ:=fun f i=>if f=aP then (if i=2 then some VY else if i=0 then some ux else if i=1 then some tB else none) else none,Τ:=fun _=>none }
def MfC (a b c d e:Nat)(f:L2)(g:Nat)(h:Int)(i:List (Nat × IV)):List (Nat × IV):=Mbl a b c (.sl d) e (Mcu f) g h i
theorem Tt (z:L1) (xs ts rs us es:L2) (h:Int) (K:KP):(comes TP Hw 3 aP [.agg (af z 0 1 2 3 4),fx h] (aH xs ts rs us es) K) =(∃a:L1,∃b:L2,∃c:L2,∃d:L2,∃e:L2,∃f:L2,∃g:Int,pKa 5 (Mg8 70 5 6 (MiB 6 7 15 16 xs 17 Mdg) xs ts rs us es (Mdr z 4) (Mcz 25 (MiK h) 31 dm [])) a b c d e f g/\(∃i:L1,∃j:L2,∃k:L2,∃l:L2,∃m:L2,∃n:L2,∃o:L2,∃p:Int,Mcs (pKb 5 (Mhp 70 2 (MfC 3 6 6 7 28 (List.map af8 b) 29 0 []) b c d e f a (Mhq g g (List.map af8 b) [])) i j k l m n o p) (pQ i p j o) (K (MdA (MaY (pQ i p j o))) (MfR 31)) (K (MdA MbD) (Mg2 (B3 i p j o))))) :=by kernel_rfl
def pDb (n0:Nat) (st:St) (z:L1) (xs ts rs us es zs:L2) (h:Int) (i:Nat):Prop:=G4 z xs zs h/\i < xs.length/\n0=5/\st=Yn z xs ts rs us es zs h i (IntKind.i64.wrap ((i:Int)+1))
def VZ:aB:=fun n0 st K=>∃z xs ts rs us es zs h i,pDb n0 st z xs ts rs us es zs h i/\br (lO z h xs i zs != 0) (K .ret ⟨T 87 [(4,.ptr 5 0)],acX xs ts rs us es++[some (.var 58 [.sl 6,.int .i64 (lO z h xs i zs)]),some (.row 31 dm [])]⟩)
 (K (.exit 2) ⟨T 87 [(2,.ptr 5 0),(3,.ptr 6 0),(4,.ptr 7 0),(5,.sl 8),(6,.int .i64 i)],acX xs ts rs us es++[some (.var 34 (af z 0 1 2 3 4)),some (.var 25 (fx h).cells),some (.var 58 [.sl 9,.int .i64 0]),some (.row 31 dm (tn z h xs i zs)),some (.row 31 dm [])]⟩)
theorem WV (Λ:FuncId->Nat->Option aB) (d:Nat) (z:L1) (xs ts rs us es zs:L2) (h i:Int) (k:Out->St->Prop):(round (ai TP { Γ:=uQ,Λ:=fun f i=>if f=aE then (if i=1 then some VZ else Λ f i) else Λ f i,Τ:=fun _=>none } d) aE 5 0 (lp TP aE 0) (Zp z xs ts rs us es zs h i) k)=(br (decide (i < (↑zs.length:Int))) (∃z_1 xs_1 ts_1 rs_1 us_1 es_1 zs_1 h_1 i_1,pDb 5 (St.mk (T 87 [(2,.ptr 5 0),(3,.ptr 6 0),(4,.ptr 7 0),(5,.sl 8),(6,.int .i64 i),(7,.int .i64 (IntKind.i64.wrap (i+1)))]) [some (.ro aM xs),some (.ro jt ts),some (.ro ie rs),some (.ro [.i64] us),some (.ro dE es),some (.var 34 (af z 0 1 2 3 4)),some (.var 25 [.int .i64 (h / 18446744073709551616),.int .u64 (h % 18446744073709551616)]),some (.var 58 [.sl 9,.int .i64 0]),some (.row 31 dm zs),some (.row 31 dm [])]) z_1 xs_1 ts_1 rs_1 us_1 es_1 zs_1 h_1 i_1/\br (lO z_1 h_1 xs_1 i_1 zs_1 != (0:Int)) (k Out.ret (St.mk (T 87 [(4,.ptr 5 0)]) [some (.ro aM xs_1),some (.ro jt ts_1),some (.ro ie rs_1),some (.ro [.i64] us_1),some (.ro dE es_1),some (.var 58 [.sl 6,.int .i64 (lO z_1 h_1 xs_1 i_1 zs_1)]),some (.row 31 dm [])])) (k Out.normal (St.mk (T 87 [(2,.ptr 5 0),(3,.ptr 6 0),(4,.ptr 7 0),(5,.sl 8),(6,.int .i64 (IntKind.i64.wrap ((↑i_1:Int)+1)))]) [some (.ro aM xs_1),some (.ro jt ts_1),some (.ro ie rs_1),some (.ro [.i64] us_1),some (.ro dE es_1),some (.var 34 (af z_1 0 1 2 3 4)),some (.var 25 [.int .i64 (h_1 / 18446744073709551616),.int .u64 (h_1 % 18446744073709551616)]),some (.var 58 [.sl 9,.int .i64 0]),some (.row 31 dm (tn z_1 h_1 xs_1 i_1 zs_1)),some (.row 31 dm [])]))) (k (Out.exit 0) (St.mk (T 87 [(4,.ptr 5 0),(5,.sl 6)]) [some (.ro aM xs),some (.ro jt ts),some (.ro ie rs),some (.ro [.i64] us),some (.ro dE es),some (.var 58 [.sl 7,.int .i64 0]),some (.row 31 dm zs),some (.row 31 dm [])]))):=by kernel_rfl
def Xk (n0:Nat) (st:St) (z:L1) (xs ts rs us es zs:L2) (h:Int):Prop:=G4 z xs zs h/\n0=5/\st=Zp z xs ts rs us es zs h 0
def VF:aB:=fun n0 st K=>∃z xs ts rs us es zs h,Xk n0 st z xs ts rs us es zs h/\br (pQ z h xs zs != 0) (K .ret ⟨T 87 [(4,.ptr 5 0)],acX xs ts rs us es++[some (.var 58 [.sl 6,.int .i64 (pQ z h xs zs)]),some (.row 31 dm [])]⟩)
 (K (.exit 0) ⟨T 87 [(4,.ptr 5 0),(5,.sl 6)],acX xs ts rs us es++[some (.var 58 [.sl 7,.int .i64 0]),some (.row 31 dm (B3 z h xs zs)),some (.row 31 dm [])]⟩)
def Jp:Know:={ Γ:=uQ,Λ:=fun f i=>if f=aE then (if i=1 then some VZ else if i=0 then some VF else none) else none,Τ:=fun _=>none }
theorem J9 (z:L1) (xs ts rs us es:L2) (h:Int) (K:KP):(comes TP Jp 3 aE [.agg (af z 0 1 2 3 4),fx h] (aH xs ts rs us es) K) =(W0 (MaB (Mdr z 4) []) (Mfl xs ts rs us es)/\(∃a:L1,∃b:L2,∃c:L2,∃d:L2,∃e:L2,∃f:L2,∃g:L2,∃i:Int,Mcs (Xk 5 (Mhp 87 2 (Mg5 3 6 4 7 5 8 6 0) xs ts rs us es z (Mia h h 9 (List.map af8 xs) [])) a b c d e f g i) (pQ a i b g) (K (MeM (MaY (pQ a i b g))) (MfR 31)) (K (MeM MbD) (Mg2 (B3 a i b g))))) :=by kernel_rfl
def Gr (l:List IV) (bs:List aq):Prop:=∃z xs ts rs us es h,l=[.agg (af z 0 1 2 3 4),fx h]/\bs=aH xs ts rs us es/\Cg z/\aY xs/\ag h/\xs.length<=1000
def Ea:Vs.Spec:=⟨Gr,fun l bs=>(.tup [.sl 0,.int .i64 (tK (dv l 0) (v2 l 1) (aA bs 0))],[.row 31 dm (tJ (dv l 0) (v2 l 1) (aA bs 0))])⟩
def v9:Vs.Spec:=⟨Gr,fun l bs=>(.agg [.sl 0,.int .i64 (tK (dv l 0) (v2 l 1) (aA bs 0))],[.row 31 dm (tJ (dv l 0) (v2 l 1) (aA bs 0))])⟩
section
open Go.IntWalk
theorem wV {N:Know} (hΓ:∀ g sp,N.Γ g=some sp->aa TP g sp) (hL:∀ f i S,N.Λ f i=some S->∀ d n0,aG (ai TP N d) f n0 i (lp TP f i) S) (hΤ:∀ g G,N.Τ g=some G->cf TP g G) (d:Nat) (hb:∀ f,N.back f=true->lY TP f:=by intro f h; cases h):KnowOk TP N d:=
 ⟨mixedOrders,hΓ,fun d' _ f i S n0 hS=>hL f i S hS d' n0,hΤ,hb⟩
theorem ML:∀ {g:FuncId} {sp:Vs.Spec},JE g=some sp->aa TP g sp:=ao M8 (ao Jd MM)
theorem yj {xs:L2} {i:Nat} (hi:i < xs.length):(xs.take (i+1)).map af8=(xs.take i).map af8++[[rd xs i 8,rd xs i 9,rd xs i 10,rd xs i 11]]:=by
 have e:af8 xs[i]=[rd xs i 8,rd xs i 9,rd xs i 10,rd xs i 11]:=by unfold af8 rd; rw [acY hi]
 rw [List.take_add_one,List.getElem?_eq_getElem hi,Option.toList_some,List.map_append,← e]; rfl
theorem lMo (d n0:Nat):aG (ai TP ZI d) bm n0 0 (lp TP bm 0) s6:=by
 intro st K hst;obtain ⟨z,xs,ts,rs,us,es,⟨hl,rfl,rfl⟩,hK⟩:=hst;refine aC (fun i:Nat=>de z xs ts rs us es ((xs.take i).map af8) i) (fun i=>i<=xs.length) (fun i=>xs.length - i) ?_ (a:=0) (Nat.zero_le _)
 intro i hle k hn hk;show round (ai TP { Γ:=JE,Λ:=_,Τ:=fun _=>none } d) _ _ _ _ _ k
 rw [Z8]; delta Maa Mac Mag Mal Mam Man Mao Map Mar Mat Mav Maw MaA MaM MaQ MaS MaU MaV Ma3 Ma6 Mba Mbk Mbo Mbp Mbv MbI MbV Mcq Mct Mc3 Mdj Mdp Mdr MdK MdX Met MfA Mgw Mhg MhA MiO;rw [show ((i:Nat):Int).toNat=i by omega]
 rintro t1 e1;rw [al];constructor
 ·intro hi;have hi':i < xs.length:=by omega
  have p1:t1:=by rw [e1]; omega
  refine ⟨p1,p1,by rw [List.length_map,List.length_take]; omega,?_⟩
  have:=hn (i+1) hi' (by omega)
  rw [yj hi'] at this;rw [show IntKind.i64.wrap ((i:Int)+1)=((i+1:Nat):Int) by rw [i64_in _ (by omega)]; rfl]
  exact this
 ·intro hi;rw [show i=xs.length by omega,List.take_length]
  exact hk _ _ (by simp) hK
theorem UF:KnowOk TP ZI 3:=cP (f0:=bm) (L:=s6) (fun g sp h=>ML h) rfl (fun g G h=>Ub h) lMo 3
theorem I3:aa TP bm RX:=by
 refine ab (N:=ZI) 3 UF ?_;rintro l bs _ _ ⟨z,xs,ts,rs,us,es,rfl,rfl,hl⟩;rw [HP]; delta Maa Mac Mag Mam Man Mao Map MaM MaQ MaV Ma3 Mb5 Mct Mcz Mc3 Mdg Mdj Mdr MdK MdX Mg2;exact ⟨z,xs,ts,rs,us,es,⟨hl,rfl,rfl⟩,rfl⟩
theorem Fc:∀ {g:FuncId} {sp:Vs.Spec},uQ g=some sp->aa TP g sp:=ao I3 ML
theorem mL {α:Type} (l:List α) (i:Nat) (a:α):l.set i a=l.modify i (fun _=>a):=by
 apply List.ext_getElem?;intro p;rw [List.getElem?_set,List.getElem?_modify];by_cases h:i=p
 ·subst h;rw [if_pos rfl];by_cases hl:i < l.length
  ·rw [if_pos hl,List.getElem?_eq_getElem hl]; simp
  ·rw [if_neg hl,List.getElem?_eq_none (by omega)]; rfl
 ·rw [if_neg h]; simp [h]
theorem nQ {zs:L2} {i:Nat} {x y:Int} (h:zs.getD i []=cI x y):IV.agg [.int .i64 (rd zs i 0),.int .u64 (rd zs i 1),.int .i64 (rd zs i 2),.int .u64 (rd zs i 3)]=vx x y/\rd zs i 0*18446744073709551616+rd zs i 1=x/\rd zs i 2*18446744073709551616+rd zs i 3=y:=by
 have e:∀ j,rd zs i j=(cI x y).getD j 0:=by intro j; unfold rd; rw [h]
 rw [e,e,e,e];refine ⟨rfl,?_,?_⟩
 ·show x / 18446744073709551616*18446744073709551616+x % 18446744073709551616=x; omega
 ·show y / 18446744073709551616*18446744073709551616+y % 18446744073709551616=y; omega
theorem eo {zs:L2} {i:Nat} {x y:Int} (h:zs.getD i []=cI x y):fr (zs.getD i []) 0=x/\fr (zs.getD i []) 2=y:=(nQ h).2
theorem pL {zs:L2} (h:km zs) {i:Nat} (hi:i < zs.length):∃x y,zs.getD i []=cI x y/\ag x/\ag y:=by
 rw [acY hi]; exact h _ (List.getElem_mem hi)
theorem C2 {zs:L2} (h:km zs) (i:Nat) {x y:Int} (hx:ag x) (hy:ag y):km (zs.set i (cI x y)):=by
 intro p hp;rcases List.mem_or_eq_of_mem_set hp with hp | rfl
 ·exact h p hp
 ·exact ⟨x,y,rfl,hx,hy⟩
theorem TW (z:L1) (h:Int) (r s:L1) {px py qx qy:Int} (h1:ag px) (h2:ag py) (h3:ag qx) (h4:ag qy):
  (ag (BO z h r s px py qx qy)/\ag (BM z h r s px py qx qy))/\ag (BN z h r s px py qx qy)/\ag (BL z h r s px py qx qy):=by
 unfold BO BM BN BL Sd Sc;refine ⟨⟨?_,?_⟩,?_,?_⟩
 ·split; exact h1; exact mP _ _
 ·split; exact h2; exact mO _ _
 ·split; exact h3; split; exact h3; exact mP _ _
 ·split; exact h4; split; exact h4; exact mO _ _
theorem zi (z:L1) (h:Int) (xs:L2) {ps:L2} (hv:km ps) {i j:Nat} (hi:i < ps.length) (hj:j < ps.length):km ((ps.set i (IQ z h xs ps i j)).set j (IP z h xs ps i j)):=by
 obtain ⟨a,b,e1,ha,hb⟩:=pL hv hi;obtain ⟨c,d,e2,hc,hd⟩:=pL hv hj;unfold IQ IP;rw [(eo e1).1,(eo e1).2,(eo e2).1,(eo e2).2];obtain ⟨⟨m1,m2⟩,m3,m4⟩:=TW z h (xs.getD i []) (xs.getD j []) ha hb hc hd;exact C2 (C2 hv i m1 m2) j m3 m4
theorem E8 (z:L1) (h:Int) (xs:L2) (i:Nat):∀ (m j:Nat) (ps:L2),km ps->i < ps.length->j+m<=ps.length->(AX z h xs i m j ps).2=0->km (AX z h xs i m j ps).1/\(AX z h xs i m j ps).1.length=ps.length
 | 0,j,ps,hv,_,_,_=>⟨hv,rfl⟩
 | m+1,j,ps,hv,hi,hj,he=>by
  unfold AX at he ⊢;by_cases hd:Qu z h xs ps i j≠0
  ·rw [if_pos hd] at he; exact absurd he hd
  ·rw [if_neg hd] at he ⊢;have l2:((ps.set i (IQ z h xs ps i j)).set j (IP z h xs ps i j)).length=ps.length:=by simp
   obtain ⟨q1,q2⟩:=E8 z h xs i m (j+1) _ (zi z h xs hv hi (by omega)) (by rw [l2]; exact hi) (by rw [l2]; omega) he
   exact ⟨q1,by rw [q2,l2]⟩
theorem AF (z:L1) (h:Int) (xs:L2):∀ (m i:Nat) (ps:L2),i+m=xs.length->km ps->ps.length=xs.length->(mG z h xs m i ps).2=0->km (mG z h xs m i ps).1/\(mG z h xs m i ps).1.length=xs.length
 | 0,i,ps,_,hv,hl,_=>⟨hv,hl⟩
 | m+1,i,ps,hm,hv,hl,he=>by
  unfold mG at he ⊢;by_cases hd:(AX z h xs i (xs.length - (i+1)) (i+1) ps).2≠0
  ·rw [if_pos hd] at he; exact absurd he hd
  ·rw [if_neg hd] at he ⊢;obtain ⟨q1,q2⟩:=E8 z h xs i _ _ _ hv (by omega) (by omega) (Decidable.not_not.1 hd)
   exact AF z h xs m (i+1) _ (by omega) q1 (by omega) he
theorem xk (z:L1) (h:Int) (xs:L2):∀ (m i:Nat) (ps:L2),(mG z h xs m i ps).2≠0->(mG z h xs m i ps).1=[]
 | 0,i,ps,he=>absurd rfl he
 | m+1,i,ps,he=>by
  unfold mG at he ⊢;by_cases hd:(AX z h xs i (xs.length - (i+1)) (i+1) ps).2≠0
  ·rw [if_pos hd]
  ·rw [if_neg hd] at he ⊢;exact xk z h xs m (i+1) _ he
theorem aaz {r:L1} (h:lC r):VO (af8 r):=by
 obtain ⟨h1,h2,m0,m4,m6,m8,m10⟩:=h;have l9:aj (r.getD 9 0):=by have:dt .u64 (r.getD 9 0):=h2 9 (by decide); have e2:r.getD 9 0<=18446744073709551615:=this.2; exact ⟨this.1,by omega⟩
 have l11:aj (r.getD 11 0):=by have:dt .u64 (r.getD 11 0):=h2 11 (by decide); have e2:r.getD 11 0<=18446744073709551615:=this.2; exact ⟨this.1,by omega⟩
 refine ⟨fr r 8,fr r 10,?_,m8,m10⟩;unfold aj at l9 l11;unfold af8 cI fr;rw [show (r.getD 8 0*18446744073709551616+r.getD (8+1) 0) / 18446744073709551616=r.getD 8 0 by show (r.getD 8 0*18446744073709551616+r.getD 9 0) / _=_; omega,
  show (r.getD 8 0*18446744073709551616+r.getD (8+1) 0) % 18446744073709551616=r.getD 9 0 by show (r.getD 8 0*18446744073709551616+r.getD 9 0) % _=_; omega,
  show (r.getD 10 0*18446744073709551616+r.getD (10+1) 0) / 18446744073709551616=r.getD 10 0 by show (r.getD 10 0*18446744073709551616+r.getD 11 0) / _=_; omega,
  show (r.getD 10 0*18446744073709551616+r.getD (10+1) 0) % 18446744073709551616=r.getD 11 0 by show (r.getD 10 0*18446744073709551616+r.getD 11 0) % _=_; omega]
theorem vn {xs:L2} (h:aY xs):km (xs.map af8):=by
 intro p hp;rw [List.mem_map] at hp;obtain ⟨r,hr,rfl⟩:=hp;exact aaz (h r hr)
theorem lKa (d n0:Nat):aG (ai TP Hw d) aP n0 0 (lp TP aP 0) ux:=by
 intro st K hst;obtain ⟨z,xs,ts,rs,us,es,h,⟨hl,rfl,rfl⟩,hK⟩:=hst;refine aC (fun i:Nat=>hM z xs ts rs us es ((xs.take i).map af8) h i) (fun i=>i<=xs.length) (fun i=>xs.length - i) ?_ (a:=0) (Nat.zero_le _)
 intro i hle k hn hk;show round (ai TP { Γ:=uQ,Λ:=_,Τ:=fun _=>none } d) _ _ _ _ _ k
 rw [TS]; delta Maa Mab Mac Mae Maf Mag Mah Mai Mal Mam Man Mao Map Mar Mat Mav Maw MaA MaG MaM MaQ MaS MaU Ma1 Ma3 Ma6 Mba Mbk Mbo Mbp Mbs Mbv MbI MbU MbV Mb5 Mcq Mcu Mcx Mc9 Mdf Mdp Mdr Met Mfv MfA Mf4 MgR Mg8 Mhg Mhp Mhq MhA MiB MiO;rw [show ((i:Nat):Int).toNat=i by omega]
 rintro t1 e1;rw [al];constructor
 ·intro hi;have hi':i < xs.length:=by omega
  have p1:t1:=by rw [e1]; omega
  refine ⟨p1,p1,by rw [List.length_map,List.length_take]; omega,?_⟩
  have:=hn (i+1) hi' (by omega)
  rw [yj hi'] at this;rw [show IntKind.i64.wrap ((i:Int)+1)=((i+1:Nat):Int) by rw [i64_in _ (by omega)]; rfl]
  exact this
 ·intro hi;rw [show i=xs.length by omega,List.take_length]
  exact hk _ _ (by simp) hK
theorem CJ (z:L1) (h:Int) (xs:L2) (i j:Nat) (zs:L2) (hj:j < xs.length):AX z h xs i (xs.length - j) j zs =
  if Qu z h xs zs i j≠0 then ([],Qu z h xs zs i j) else AX z h xs i (xs.length - (j+1)) (j+1) ((zs.set i (IQ z h xs zs i j)).set j (IP z h xs zs i j)):=by
 rw [show xs.length - j=(xs.length - (j+1))+1 by omega]; rfl
theorem yJ (z:L1) (h:Int) (xs:L2) (i:Nat) (zs:L2) (hi:i < xs.length):mG z h xs (xs.length - i) i zs =
  if lO z h xs i zs≠0 then ([],lO z h xs i zs) else mG z h xs (xs.length - (i+1)) (i+1) (tn z h xs i zs):=by
 rw [show xs.length - i=(xs.length - (i+1))+1 by omega]; rfl
theorem lKc (d n0:Nat):aG (ai TP Hw d) aP n0 2 (lp TP aP 2) VY:=by
 intro st K hst;obtain ⟨z,xs,ts,rs,us,es,zs0,h,i,⟨⟨hz,hg,hh,hv0,hl0,hl⟩,hi,rfl,rfl⟩,hK⟩:=hst;rw [show IntKind.i64.wrap ((i:Int)+1)=((i+1:Nat):Int) by rw [i64_in _ (by omega)]; rfl]
 refine aC (fun p:Nat × L2=>Yr z xs ts rs us es p.2 h xs.length i p.1) (fun p=>km p.2/\p.2.length=xs.length/\p.1<=xs.length/\AX z h xs i (xs.length - p.1) p.1 p.2=XM z h xs i zs0) (fun p=>xs.length - p.1) ?_ (a:=(i+1,zs0)) ⟨hv0,hl0,hi,rfl⟩
 rintro ⟨j,zs⟩ ⟨hv,hlz,hle,hin⟩ k hn hk;simp only at hv hlz hle hin;show round (ai TP { Γ:=uQ,Λ:=_,Τ:=fun _=>none } d) _ _ _ _ _ k
 rw [show Yr z xs ts rs us es (j,zs).2 h (xs.length) i (j,zs).1=Yr z xs ts rs us es zs h xs.length i j from rfl]
 rw [TQ]; delta Maa Mab Mac Mae Maf Mag Mah Mai Maj Mal Mam Man Mao Map Maq Mar Mat Mau Mav Maw Maz MaA MaB MaC MaD MaE MaG MaM MaQ MaS MaW MaX MaY Ma1 Ma2 Ma3 Ma4 Mba Mbc Mbk Mbl Mbo Mbp Mbs Mbu Mbv Mbw Mbx MbJ MbV Mcl Mcq Mcr Mcs Mcu McL Mc0 Mc6 Mc9 Mda Mdf Mdj Mdn Mdr MdF Mek Mel Met MeV MeW Me0 Mfl Mfv Mfw MfI MfY Mf1 Mf2 Mgr Mgw MgU MgV Mhp Mhq MhH MhW MiJ MiU Mjz;rw [show ((i:Nat):Int).toNat=i by omega,show ((j:Nat):Int).toNat=j by omega]
 rintro j1 rfl t2 rfl t3 rfl t4 rfl t5 rfl t6 rfl t7 rfl t8 rfl t9 rfl t10 e10 t11 e11 t12 e12 t13 e13 t14 e14 t15 e15 t16 e16 t17 e17 t18 e18 t19 e19 t20 e20 t21 e21 t22 e22 t23 e23 t24 e24 t25 _ t26 _ t27 e27 t28 e28;rw [dA _ z 0 1 2 3 4 hz.1.1 rfl] at e17 e18 e19 e20 e21;rw [al];constructor
 ·intro hj;have hj':j < xs.length:=by omega
  obtain ⟨px,py,q1,hpx,hpy⟩:=pL hv (i:=i) (by omega)
  obtain ⟨qx,qy,q2,hqx,hqy⟩:=pL hv (i:=j) (by omega)
  obtain ⟨c1,c2,c3⟩:=nQ q1;obtain ⟨c4,c5,c6⟩:=nQ q2;rw [c2] at e12;rw [c3] at e13;rw [c5] at e14;rw [c6] at e15;rw [c1,c4] at e16;subst e12; subst e13; subst e14; subst e15;have p10:t10:=by rw [e10]; omega
  have p11:t11:=by rw [e11]; omega
  have p23:t23:=by rw [e23,List.length_modify]; omega
  have p16:t16:=by rw [e16]; exact ⟨_,_,_,_,_,_,_,_,_,_,_,_,_,rfl,rfl,hz,hg,⟨by omega,by omega⟩,⟨by omega,by omega⟩,⟨hpx,hpy⟩,⟨hqx,hqy⟩,hh⟩
  have eE:Qu z j1 xs zs i j=t17:=by unfold Qu; rw [(eo q1).1,(eo q1).2,(eo q2).1,(eo q2).2,e17]
  have eP:IQ z j1 xs zs i j=cI t18 t19:=by unfold IQ; rw [(eo q1).1,(eo q1).2,(eo q2).1,(eo q2).2,e18,e19]
  have eQ:IP z j1 xs zs i j=cI t20 t21:=by unfold IP; rw [(eo q1).1,(eo q1).2,(eo q2).1,(eo q2).2,e20,e21]
  rw [CJ z j1 xs i j zs hj',eE] at hin;have h22:t17≠0->t22:=by
   intro hne;rw [e22];rw [if_pos hne] at hin;have i1:lO z j1 xs i zs0=t17:=by unfold lO; rw [← hin]
   rw [i1,ah] at hK;exact hk _ _ (by simp) (hK.1 hne)
  have h24:t17=0->t24:=by
   intro he;rw [if_neg (fun hh'=>hh' he)] at hin
   have l2:((zs.set i (IQ z j1 xs zs i j)).set j (IP z j1 xs zs i j)).length=xs.length:=by simp [hlz]
   have:=hn (j+1,(zs.set i (IQ z j1 xs zs i j)).set j (IP z j1 xs zs i j)) ⟨zi z j1 xs hv (by omega) (by omega),l2,hj',hin⟩ (by show xs.length - (j+1) < xs.length - j; omega)
   rw [e24,show IntKind.i64.wrap ((j:Int)+1)=((j+1:Nat):Int) by rw [i64_in _ (by omega)]; rfl]
   simp only at this;rw [eP,eQ,mL,mL] at this;exact this
  have hb:∀ {A:Prop},A->br (t17 != 0) t22 (t10/\t10/\t23/\t23/\(t10/\t10/\t23/\t23/\A)/\t24):=by
   intro A ha;rw [ah];exact ⟨h22,fun he=>⟨p10,p10,p23,p23,⟨p10,p10,p23,p23,ha⟩,h24 he⟩⟩
  have p27:t27:=by rw [e27]; exact ⟨p16,hb rfl⟩
  have p28:t28:=by rw [e28]; exact ⟨p16,hb rfl⟩
  exact ⟨p10,p10,p11,p11,⟨p16,hb rfl,hb rfl⟩,⟨p27,p27⟩,p28,p28⟩
 ·intro hj;have hj':j=xs.length:=by omega
  subst hj';rw [Nat.sub_self] at hin;have i1:lO z j1 xs i zs0=0:=by unfold lO; rw [← hin]; rfl
  have i2:tn z j1 xs i zs0=zs:=by unfold tn; rw [← hin]; rfl
  rw [i1,i2,ah] at hK;exact hk _ _ (by simp) (hK.2 rfl)
theorem aaG:(fun f i=>if f=aP then (if i=2 then some VY else Hw.Λ f i) else Hw.Λ f i)=Hw.Λ:=by
 funext f i
 show (if f=aP then (if i=2 then some VY else Hw.Λ f i) else Hw.Λ f i)=Hw.Λ f i
 by_cases h:f=aP
 ·by_cases h2:i=2
  ·rw [if_pos h,if_pos h2]; subst h; subst h2; rfl
  ·rw [if_pos h,if_neg h2]
 ·rw [if_neg h]
theorem LQ {z:L1} {h:Int} {xs zs:L2} {i:Nat} (hv:km zs) (hl:zs.length=xs.length) (hi:i < xs.length) (he:lO z h xs i zs=0):km (tn z h xs i zs)/\(tn z h xs i zs).length=xs.length:=by
 obtain ⟨q1,q2⟩:=E8 z h xs i (xs.length - (i+1)) (i+1) zs hv (by omega) (by omega) he
 exact ⟨q1,by show (AX z h xs i (xs.length - (i+1)) (i+1) zs).1.length=_; rw [q2,hl]⟩
theorem lKb (d n0:Nat):aG (ai TP Hw d) aP n0 1 (lp TP aP 1) tB:=by
 intro st K hst;obtain ⟨z,xs,ts,rs,us,es,zs0,h,⟨⟨hz,hg,hh,hv0,hl0,hl⟩,rfl,rfl⟩,hK⟩:=hst;refine aC (fun p:Nat × L2=>Zt z xs ts rs us es p.2 h xs.length p.1) (fun p=>km p.2/\p.2.length=xs.length/\p.1<=xs.length/\mG z h xs (xs.length - p.1) p.1 p.2=mG z h xs xs.length 0 zs0) (fun p=>xs.length - p.1) ?_ (a:=(0,zs0)) ⟨hv0,hl0,Nat.zero_le _,rfl⟩
 rintro ⟨i,zs⟩ ⟨hv,hlz,hle,hin⟩ k hn hk;simp only at hv hlz hle hin;have key:=TR Hw.Λ d z xs ts rs us es zs h xs.length i k;rw [aaG] at key;show round (ai TP Hw d) _ _ _ _ (Zt z xs ts rs us es zs h xs.length i) k;refine key.mpr ?_;rw [al];constructor
 ·intro hi;have hi':i < xs.length:=by omega
  refine ⟨z,xs,ts,rs,us,es,zs,h,i,⟨⟨hz,hg,hh,hv,hlz,hl⟩,hi',rfl,rfl⟩,?_⟩;rw [yJ z h xs i zs hi'] at hin;rw [ah];constructor
  ·intro hne;rw [if_pos hne] at hin;have i1:pQ z h xs zs0=lO z h xs i zs:=by unfold pQ; rw [← hin]
   rw [i1,ah] at hK;exact hk _ _ (by simp) (hK.1 hne)
  ·intro he;rw [if_neg (fun hh'=>hh' he)] at hin
   obtain ⟨q1,q2⟩:=LQ hv hlz hi' he;have:=hn (i+1,tn z h xs i zs) ⟨q1,q2,hi',hin⟩ (by show xs.length - (i+1) < xs.length - i; omega)
   rw [show IntKind.i64.wrap ((i:Int)+1)=((i+1:Nat):Int) by rw [i64_in _ (by omega)]; rfl]
   exact this
 ·intro hi;have hi':i=xs.length:=by omega
  subst hi';rw [Nat.sub_self] at hin;have i1:pQ z h xs zs0=0:=by unfold pQ; rw [← hin]; rfl
  have i2:B3 z h xs zs0=zs:=by unfold B3; rw [← hin]; rfl
  rw [i1,i2,ah] at hK;exact hk _ _ (by simp) (hK.2 rfl)
theorem UG:KnowOk TP Hw 3:=by
 refine wV (fun g sp h=>Fc h) ?_ (fun g G h=>Ub h) 3
 intro f i S hS;change (if f=aP then (if i=2 then some VY else if i=0 then some ux else if i=1 then some tB else none) else none)=some S at hS
 split at hS
 ·rename_i hf;subst hf;split at hS
  ·rename_i hi; subst hi; cases hS; exact lKc
  ·split at hS
   ·rename_i hi; subst hi; cases hS; exact lKa
   ·split at hS
    ·rename_i hi; subst hi; cases hS; exact lKb
    ·cases hS
 ·cases hS
theorem UN {z:L1} {xs ts rs us es:L2} {h:Int} (hz:z.length=19):Ea.F [.agg (af z 0 1 2 3 4),fx h] (aH xs ts rs us es)=(.tup [.sl 0,.int .i64 (tK z h xs)],[.row 31 dm (tJ z h xs)]):=by
 show (IV.tup [.sl 0,.int .i64 (tK (dv _ 0) (v2 _ 1) xs)],[aq.row 31 dm (tJ (dv _ 0) (v2 _ 1) xs)])=_;rw [dA _ z 0 1 2 3 4 hz rfl,bc _ h 1 rfl]
theorem Mp {z:L1} {xs ts rs us es:L2} {h:Int} (hz:z.length=19):v9.F [.agg (af z 0 1 2 3 4),fx h] (aH xs ts rs us es)=(.agg [.sl 0,.int .i64 (tK z h xs)],[.row 31 dm (tJ z h xs)]):=by
 show (IV.agg [.sl 0,.int .i64 (tK (dv _ 0) (v2 _ 1) xs)],[aq.row 31 dm (tJ (dv _ 0) (v2 _ 1) xs)])=_;rw [dA _ z 0 1 2 3 4 hz rfl,bc _ h 1 rfl]
theorem Vr:aa TP aP Ea:=by
 refine ab (N:=Hw) 3 UG ?_;rintro l bs _ _ ⟨z,xs,ts,rs,us,es,h,rfl,rfl,hz,hg,hh,hl⟩;rw [UN hz.1.1,Tt]; delta Maa Mab Mac Mae Maf Mag Mah Mai Mak Mam Man Mao Map Mat MaG MaM MaQ MaW MaY Ma1 Ma3 Ma4 Mba Mbl Mbs MbD MbR MbU Mb5 Mcs Mcu Mcx Mcz Mc9 Mdf Mdg Mdr MdA MdK MfC MfR Mf4 MgR Mg2 Mg8 Mhp Mhq MiB MiK;refine ⟨z,xs,ts,rs,us,es,h,⟨hl,rfl,rfl⟩,z,xs,ts,rs,us,es,xs.map af8,h,⟨⟨hz,hg,hh,vn hg,List.length_map _,hl⟩,rfl,by rw [List.length_map]; rfl⟩,?_⟩
 rw [ah];constructor
 ·intro hne;have:tJ z h xs=[]:=xk z h xs _ _ _ hne;rw [this]
  rfl
 ·intro he;have:tK z h xs=0:=he;rw [this]
  rfl
theorem XS (z:L1) (h:Int) (xs zs:L2) (i j:Nat) {px py qx qy:Int} (q1:zs.getD i []=cI px py) (q2:zs.getD j []=cI qx qy):
  Qu z h xs zs i j=KU z h (xs.getD i []) (xs.getD j []) px py qx qy/\IQ z h xs zs i j=cI (BO z h (xs.getD i []) (xs.getD j []) px py qx qy) (BM z h (xs.getD i []) (xs.getD j []) px py qx qy)/\IP z h xs zs i j=cI (BN z h (xs.getD i []) (xs.getD j []) px py qx qy) (BL z h (xs.getD i []) (xs.getD j []) px py qx qy):=by
 unfold Qu IQ IP;rw [(eo q1).1,(eo q1).2,(eo q2).1,(eo q2).2];exact ⟨rfl,rfl,rfl⟩
set_option maxHeartbeats 1000000 in
theorem lDb (d n0:Nat):aG (ai TP Jp d) aE n0 1 (lp TP aE 1) VZ:=by
 intro st K hst;obtain ⟨z,xs,ts,rs,us,es,zs0,h,i,⟨⟨hz,hg,hh,hv0,hl0,hl⟩,hi,rfl,rfl⟩,hK⟩:=hst;rw [show IntKind.i64.wrap ((i:Int)+1)=((i+1:Nat):Int) by rw [i64_in _ (by omega)]; rfl]
 refine aC (fun p:Nat × L2=>Yn z xs ts rs us es p.2 h i p.1) (fun p=>km p.2/\p.2.length=xs.length/\p.1<=xs.length/\AX z h xs i (xs.length - p.1) p.1 p.2=XM z h xs i zs0) (fun p=>xs.length - p.1) ?_ (a:=(i+1,zs0)) ⟨hv0,hl0,hi,rfl⟩
 rintro ⟨j,zs⟩ ⟨hv,hlz,hle,hin⟩ k hn hk;simp only at hv hlz hle hin;show round (ai TP { Γ:=uQ,Λ:=_,Τ:=fun _=>none } d) _ _ _ _ _ k
 rw [show Yn z xs ts rs us es (j,zs).2 h i (j,zs).1=Yn z xs ts rs us es zs h i j from rfl]
 rw [WU]; delta Maa Mab Mac Mae Maf Mag Mah Mai Maj Mak Mal Mam Man Mao Map Maq Mar Mat Mau Mav Maw Maz MaA MaB MaC MaE MaG MaM MaQ MaS MaV MaW MaX MaY Ma1 Ma2 Ma3 Ma4 Mbe Mbk Mbl Mbo Mbp Mbs Mbu Mbv Mbw Mbx Mby MbD MbJ MbN MbU MbV Mcq Mcs Mct Mcx Mcz McL McR Mc0 Mc3 Mc9 Mda Mdn Mdr MdI MdK MdX Mee Mek Mel MeW Mfl Mft MfI MfL MfM Mf1 Mf4 Mge Mgh Mgi Mgj Mgr MgR MgU MgV Mg5 Mg8 Mhp MhS Mia MiJ MiS MiT MiZ Mjz MjC;rw [show ((i:Nat):Int).toNat=i by omega,show ((j:Nat):Int).toNat=j by omega]
 rintro j1 rfl t2 e2 j3 rfl t4 e4 j5 rfl t6 rfl t7 rfl t8 rfl t9 rfl t10 rfl t11 rfl t12 rfl t13 rfl t14 rfl t15 rfl t16 rfl t17 rfl t18 rfl t19 rfl t20 e20 t21 e21 t22 e22 t23 e23 t24 e24 t25 e25 t26 e26 t27 e27 t28 e28 t29 e29 t30 e30 t31 e31 t32 e32 t33 e33 t34 e34 t35 e35;rw [dA _ z 0 1 2 3 4 hz.1.1 rfl] at e2 e4 e33;rw [al];constructor
 ·intro hj;have hj':j < xs.length:=by omega
  obtain ⟨px,py,q1,hpx,hpy⟩:=pL hv (i:=i) (by omega)
  obtain ⟨qx,qy,q2,hqx,hqy⟩:=pL hv (i:=j) (by omega)
  obtain ⟨c1,c2,c3⟩:=nQ q1;obtain ⟨c4,c5,c6⟩:=nQ q2;rw [c1,c4] at e35;rw [c2] at e23;rw [c3] at e24;rw [c5] at e25;rw [c6] at e26;have okr:aI aM xs:=fun r hr=>(hg r hr).2.1
  obtain ⟨_,_,k0,k4,k6,_,_⟩:=good_row hg hj';have b0:IV.agg [.int .i64 (rd xs j 0),.int .u64 (rd xs j 1)]=fx (fr xs[j] 0):=(ae6 (cH okr _ 1 (by decide) rfl) (bA hj' 0).symm).symm
  have b4:IV.agg [.int .i64 (rd xs j 4),.int .u64 (rd xs j 5),.int .i64 (rd xs j 6),.int .u64 (rd xs j 7)]=vx (fr xs[j] 4) (fr xs[j] 6):=by
   have h1:=ik (a:=rd xs j 4) (b:=rd xs j 5) (c:=rd xs j 6) (d:=rd xs j 7) (cH okr _ 5 (by decide) rfl) (cH okr _ 7 (by decide) rfl)
   rw [bA hj' 4,bA hj' 6] at h1;exact (List.cons.inj h1).1
  rw [bA hj' 0,bA hj' 4,bA hj' 6] at e2 e4 e33;rw [b0,b4] at e35;have p20:t20:=by rw [e20]; omega
  have Sk:t21:=by rw [e21]; omega
  have ui:t22:=by rw [e22]; omega
  have p34:t34:=by rw [e34,List.length_modify]; omega
  have p16:Y8 [IV.agg (af z 0 1 2 3 4),.int .i64 i,fx (fr xs[j] 0),vx (fr xs[j] 4) (fr xs[j] 6),fx j1] (aH xs ts rs us es):=⟨_,_,_,_,_,_,_,_,_,_,_,rfl,rfl,hz,hg,⟨by omega,by omega⟩,k0,⟨k4,k6⟩,hh⟩
  obtain ⟨mX,mY⟩:=LU z j1 (xs.getD i []) (fr xs[j] 0) (fr xs[j] 4) (fr xs[j] 6);rw [← e2] at mX;rw [← e4] at mY;obtain ⟨eE,eP,eQ⟩:=XS z j1 xs zs i j q1 q2;unfold KU at eE;unfold BO BM Sd at eP;unfold BN BL Sc at eQ;rw [acY hj'] at eE eP eQ;rw [← e33,← e2,← e4,← e23,← e24,← e25,← e26,← e27,← e28] at eE;rw [← e33,← e2,← e4,← e23,← e24,← e29,← e30] at eP;rw [← e33,← e2,← e4,← e23,← e24,← e25,← e26,← e27,← e31,← e32] at eQ;rw [CJ z j1 xs i j zs hj',eE] at hin;have hret:∀ {t:Int},t≠0->XM z j1 xs i zs0=([],t)->k Out.ret ⟨T 87 [(4,.ptr 5 0)],acX xs ts rs us es++[some (.var 58 [.sl 6,.int .i64 t]),some (.row 31 dm [])]⟩:=by
   intro t hne hin;have i1:lO z j1 xs i zs0=t:=by unfold lO; rw [hin]
   rw [i1,ah] at hK;exact hk _ _ (by simp) (hK.1 hne)
  have p35:t35:=by
   rw [e35];refine ⟨p16,?_⟩;rw [ah];refine ⟨fun h33=>?_,fun h33=>⟨Sk,Sk,en hpx hpy mX mY,?_⟩⟩
   ·simp only [if_pos h33] at hin;exact hret h33 hin.symm
   ·have n33:¬ t33≠0:=fun hh=>hh h33
    simp only [if_neg n33] at hin eP eQ;rw [ah];refine ⟨fun h27=>?_,fun h27=>⟨ui,ui,en hqx hqy mX mY,?_⟩⟩
    ·simp only [if_pos h27] at hin;exact hret h27 hin.symm
    ·have n27:¬ t27≠0:=fun hh=>hh h27
     simp only [if_neg n27] at hin eQ;rw [ah];refine ⟨fun h28=>?_,fun h28=>⟨Sk,Sk,p34,p34,?_⟩⟩
     ·rw [if_pos h28] at hin;exact hret h28 hin.symm
     ·have n28:¬ t28≠0:=fun hh=>hh h28
      rw [if_neg n28] at hin;have l2:((zs.set i (IQ z j1 xs zs i j)).set j (IP z j1 xs zs i j)).length=xs.length:=by simp [hlz]
      have:=hn (j+1,(zs.set i (IQ z j1 xs zs i j)).set j (IP z j1 xs zs i j)) ⟨zi z j1 xs hv (by omega) (by omega),l2,hj',hin⟩ (by show xs.length - (j+1) < xs.length - j; omega)
      rw [show IntKind.i64.wrap ((j:Int)+1)=((j+1:Nat):Int) by rw [i64_in _ (by omega)]; rfl]
      simp only at this;rw [eP,eQ,mL,mL] at this;exact this
  exact ⟨p20,p20,p20,p20,p35,p35⟩
 ·intro hj;have hj':j=xs.length:=by omega
  subst hj';rw [Nat.sub_self] at hin;have i1:lO z j1 xs i zs0=0:=by unfold lO; rw [← hin]; rfl
  have i2:tn z j1 xs i zs0=zs:=by unfold tn; rw [← hin]; rfl
  rw [i1,i2,ah] at hK;exact hk _ _ (by simp) (hK.2 rfl)
theorem aaH:(fun f i=>if f=aE then (if i=1 then some VZ else Jp.Λ f i) else Jp.Λ f i)=Jp.Λ:=by
 funext f i
 show (if f=aE then (if i=1 then some VZ else Jp.Λ f i) else Jp.Λ f i)=Jp.Λ f i
 by_cases h:f=aE
 ·by_cases h2:i=1
  ·rw [if_pos h,if_pos h2]; subst h; subst h2; rfl
  ·rw [if_pos h,if_neg h2]
 ·rw [if_neg h]
theorem aaL (d n0:Nat):aG (ai TP Jp d) aE n0 0 (lp TP aE 0) VF:=by
 intro st K hst;obtain ⟨z,xs,ts,rs,us,es,zs0,h,⟨⟨hz,hg,hh,hv0,hl0,hl⟩,rfl,rfl⟩,hK⟩:=hst;refine aC (fun p:Nat × L2=>Zp z xs ts rs us es p.2 h p.1) (fun p=>km p.2/\p.2.length=xs.length/\p.1<=xs.length/\mG z h xs (xs.length - p.1) p.1 p.2=mG z h xs xs.length 0 zs0) (fun p=>xs.length - p.1) ?_ (a:=(0,zs0)) ⟨hv0,hl0,Nat.zero_le _,rfl⟩
 rintro ⟨i,zs⟩ ⟨hv,hlz,hle,hin⟩ k hn hk;simp only at hv hlz hle hin;have key:=WV Jp.Λ d z xs ts rs us es zs h i k;rw [aaH] at key;show round (ai TP Jp d) _ _ _ _ (Zp z xs ts rs us es zs h i) k;refine key.mpr ?_;rw [al,hlz];constructor
 ·intro hi;have hi':i < xs.length:=by omega
  refine ⟨z,xs,ts,rs,us,es,zs,h,i,⟨⟨hz,hg,hh,hv,hlz,hl⟩,hi',rfl,rfl⟩,?_⟩;rw [yJ z h xs i zs hi'] at hin;rw [ah];constructor
  ·intro hne;rw [if_pos hne] at hin;have i1:pQ z h xs zs0=lO z h xs i zs:=by unfold pQ; rw [← hin]
   rw [i1,ah] at hK;exact hk _ _ (by simp) (hK.1 hne)
  ·intro he;rw [if_neg (fun hh'=>hh' he)] at hin
   obtain ⟨q1,q2⟩:=LQ hv hlz hi' he;have:=hn (i+1,tn z h xs i zs) ⟨q1,q2,hi',hin⟩ (by show xs.length - (i+1) < xs.length - i; omega)
   rw [show IntKind.i64.wrap ((i:Int)+1)=((i+1:Nat):Int) by rw [i64_in _ (by omega)]; rfl]
   exact this
 ·intro hi;have hi':i=xs.length:=by omega
  subst hi';rw [Nat.sub_self] at hin;have i1:pQ z h xs zs0=0:=by unfold pQ; rw [← hin]; rfl
  have i2:B3 z h xs zs0=zs:=by unfold B3; rw [← hin]; rfl
  rw [i1,i2,ah] at hK;exact hk _ _ (by simp) (hK.2 rfl)
theorem UI:KnowOk TP Jp 3:=by
 refine wV (fun g sp h=>Fc h) ?_ (fun g G h=>Ub h) 3
 intro f i S hS;change (if f=aE then (if i=1 then some VZ else if i=0 then some VF else none) else none)=some S at hS
 split at hS
 ·rename_i hf;subst hf;split at hS
  ·rename_i hi; subst hi; cases hS; exact lDb
  ·split at hS
   ·rename_i hi; subst hi; cases hS; exact aaL
   ·cases hS
 ·cases hS
theorem Ny:aa TP aE v9:=by
 refine ab (N:=Jp) 3 UI ?_;rintro l bs _ _ ⟨z,xs,ts,rs,us,es,h,rfl,rfl,hz,hg,hh,hl⟩;rw [Mp hz.1.1,J9]; delta Maa Mab Mac Mae Maf Mag Mah Mai Mak Mam Man Mao Map Maz MaB MaC MaG MaM MaQ MaW MaY Ma1 Ma3 Ma4 Mbe Mbl Mbx MbD MbJ MbR Mcs Mc9 Mdr MdI MdK MeM Mfl MfR Mg2 Mg5 Mhp Mia;refine ⟨⟨z,xs,ts,rs,us,es,rfl,rfl,hl⟩,z,xs,ts,rs,us,es,xs.map af8,h,⟨⟨hz,hg,hh,vn hg,List.length_map _,hl⟩,rfl,rfl⟩,?_⟩;rw [ah];constructor
 ·intro hne;have:tJ z h xs=[]:=xk z h xs _ _ _ hne;rw [this]
  rfl
 ·intro he;have:tK z h xs=0:=he;rw [this]
  rfl
end
def JD:FuncId->Option Vs.Spec:=fun g=>if g=bo then some wa else if g=aP then some Ea else if g=aE then some v9 else uQ g
def z0:L1:=[0,0,0,0,0,0,0,0,0,0,0,0,0,0,0,0,0,0,0]
def Pz (xs us:L2):OB:=[some (.row 79 aM xs),some (.row 99 jt []),some (.row 101 ie []),some (.row 3 [.i64] us),some (.row 103 dE [])]
def ke (z:L1) (ns xs us:L2) (i:Int):St:=⟨T 51 [(6,.ptr 1 0),(7,.ptr 2 0),(8,.int .i64 i)],[some (.ro [.u8] ns),some (.var 34 (af z0 3 4 5 6 7)),some (.var 34 (af z 8 9 10 11 12))]++Pz [] []++Pz xs us⟩
def MaN (a b c d:Nat)(e:List IV):List IV:=Mak a (Mak b (Mak c (Mak d e)))
def MaP (a b c d e f:Int)(g h i j:Nat)(k l m n o p:Int)(q:List IV):List IV:=Maj a b c d (MaD e f (MaN g h i j (Mai k l (Maj m n o p q))))
def MaR (a b c d e f g h i j k l m:Int)(n o p q:Nat)(r s t u v w:Int)(x:Nat)(y:List IV):List IV:=Maf a (Mai b c (Maj d e f g (MaP h i j k l m n o p q r s t u v w (Mak x y))))
def Mcd (a b c d e f g h i j k l m:Int)(n o p q:Nat)(r s t u v w:Int)(x:Nat):List IV:=MaR a b c d e f g h i j k l m n o p q r s t u v w x []
def McS (a b:Nat)(c:IV)(d:List (Nat × IV))(e:List IntKind)(f:L2)(g:OB):St:=Ma3 a b c d (MaV (.u8::e) f g)
def Mdl (a b c d e f g h i j k l m:Int)(n o p q:Nat)(r s t u v w:Int)(x y:Nat)(z:List IV)(a1:OB):OB:=Maz 34 (Mcd a b c d e f g h i j k l m n o p q r s t u v w x) y z a1
def Mdx (a:List IntKind)(b:L2)(c:OB):OB:=MaV (.u8::a) b c
def Mha (a:Nat)(b:L2)(c:OB):OB:=Mbn 99 jt 101 ie (Mbe (.row a MaQ b) 103 dE c)
def MhD (a:Nat)(b:L2)(c:OB):OB:=Mbn 79 aM 99 jt (Mbn 101 ie a MaQ (Mag (.row 103 dE []) (Mc2 b) c))
theorem TN (Λ:FuncId->Nat->Option aB) (d:Nat) (z:L1) (ns xs us:L2) (i:Int) (k:Out->St->Prop):(round (ai TP { Γ:=JD,Λ:=Λ,Τ:=fun _=>none } d) bB 1 0 (lp TP bB 0) (ke z ns xs us i) k) =(Mcq i xs (MgG us 1 8 (k .normal (McS 51 6 (Mao 1) (Mbs 7 2 8 (Met i) []) [] ns (Mdl 0 0 0 0 0 0 0 0 0 0 0 0 0 3 4 5 6 0 0 0 0 0 0 7 34 (af z 8 9 10 11 12) (MhD 3 xs (Mha 3 (us++MaU 1 1 0 0 [MbM]) [])))))) (k MbI (Mcx 51 6 1 7 2 [] (Mdx [] ns (Mdl 0 0 0 0 0 0 0 0 0 0 0 0 0 3 4 5 6 0 0 0 0 0 0 7 34 (af z 8 9 10 11 12) (MhD 3 xs (Mha 3 us []))))))) :=by kernel_rfl
def rU (n:Nat):L2:=List.replicate n [-1]
def Xc (n0:Nat) (st:St) (z:L1) (ns xs:L2):Prop:=xs.length<=1000/\n0=1/\st=ke z ns xs [] 0
def pf:aB:=fun n0 st K=>∃z ns xs,Xc n0 st z ns xs/\K (.exit 0) ⟨T 51 [(6,.ptr 1 0),(7,.ptr 2 0)],[some (.ro [.u8] ns),some (.var 34 (af z0 3 4 5 6 7)),some (.var 34 (af z 8 9 10 11 12))]++Pz [] []++Pz xs (rU xs.length)⟩
def ZH:Know:={ Γ:=JD,Λ:=fun f i=>if f=bB then (if i=0 then some pf else none) else none,Τ:=fun _=>none }
def MdG (a:Nat)(b:OB):OB:=Mbn 99 jt 101 ie (Mbn a MaQ 103 dE b)
def Mio (a b c d e f g h i j k l m:Int)(n o:Nat)(p q r s t u:Int):List IV:=Mcd a b c d e f g h i j k l m n o 10 11 p q r s t u 12
theorem OJ (ns:L2) (m how:Int) (K:KP):(comes TP ZH 3 bB [.sl 0,.int .i64 m,.int .u8 how] [.ro [.u8] ns] K) =(∀a,MgL a 1 how 3 (∀b,MfK b a (Mav ((3:Int)≠0) (Mec a) (Ma9 ((0:Int)<=56) ((4:Int)≠0) ((0:Int)<=62) ((4:Int)≠0) ((2:Int)≠0) ((8:Int)≠0) ((2:Int)≠0) (Gs (Mak 0 (MaY m)) (Mdv [.u8] ns)) (∃c:L1,∃d:L2,∃e:L2,Xc 1 (McS 51 6 (Mao 1) (Mbs 7 2 8 Mdg []) [] ns (Mdl 0 0 0 0 0 0 0 0 0 0 0 0 0 3 4 5 6 0 0 0 0 0 0 7 34 (Mio 0 0 1152921504606846976 (Mah b) (Mae b) 0 4611686018427387904 0 (MdB (Mas how) 72057594037927936) 0 (MdB (Mas (Int.tmod how 4)) 4611686018427387904) (Int.tmod (Mal (Int.tdiv (Mal how) 4)) 2) (Int.tmod (Mal (Int.tdiv (Mal how) 8)) 2) 8 9 0 0 0 0 0 0) (MhD 3 (gp ns (eK ns m)) (MdG 3 [])))) c d e/\K (.agg (Mdr c 4)) (Mc2 e::MbR 99 jt (MbR 101 ie (.row 3 MaQ (rU (List.length e))::MbR 103 dE [])))))))) :=by delta Maa Mab Mac Mae Maf Mag Mah Mai Maj Mak Mal Mao Map Maq Mas Mau Mav Maz MaD MaE MaM MaN MaP MaQ MaR MaV MaY Ma3 Ma9 Mbe Mbn Mbp Mbs MbP MbR Mcd McD McS Mc2 Mdg Mdl Mdo Mdr Mdv MdB MdG Mec MfK MgL MhD Mio; refine nm ?_; refine nm ?_; kernel_rfl
def wz (how:Int):L1:=[0,0,1152921504606846976,1+how % 3,0,0,4611686018427387904,0,how*72057594037927936,0,how % 4*4611686018427387904,how / 4 % 2,how / 8 % 2,0,0,0,0,0,0]
def KY (l:List IV) (bs:List aq):Prop:=∃ns m how,l=[.sl 0,.int .i64 m,.int .u8 how]/\bs=[.ro [.u8] ns]/\(0<=m/\m<=1000)/\im how
def FO (ns:L2) (m:Int):L2:=gp ns (eK ns m)
def FY:Vs.Spec:=⟨KY,fun l bs=>(.agg (af (wz (ae l 2 0)) 0 1 2 3 4),[.row 79 aM (FO (aA bs 0) (ae l 1 0)),.row 99 jt [],.row 101 ie [],.row 3 [.i64] (rU (FO (aA bs 0) (ae l 1 0)).length),.row 103 dE []])⟩
def V2:FuncId->Option Vs.Spec:=fun g=>if g=bB then some FY else JD g
section
open Go.IntWalk
theorem MK:∀ {g:FuncId} {sp:Vs.Spec},JD g=some sp->aa TP g sp:=ao CY (ao Vr (ao Ny Fc))
theorem Is (n:Nat):rU n++[[-1]]=rU (n+1):=by unfold rU; rw [List.replicate_succ']
theorem lWo (d n0:Nat):aG (ai TP ZH d) bB n0 0 (lp TP bB 0) pf:=by
 intro st K hst;obtain ⟨z,ns,xs,⟨hl,rfl,rfl⟩,hK⟩:=hst;refine aC (fun i:Nat=>ke z ns xs (rU i) i) (fun i=>i<=xs.length) (fun i=>xs.length - i) ?_ (a:=0) (Nat.zero_le _)
 intro i hle k hn hk;show round (ai TP { Γ:=JD,Λ:=_,Τ:=fun _=>none } d) _ _ _ _ _ k
 rw [TN]; delta Maa Mab Mac Maf Mag Mai Maj Mak Mal Mao Map Mat Maz MaA MaD MaM MaN MaP MaQ MaR MaU MaV Ma3 Ma6 Mbe Mbn Mbp Mbs Mbv MbI MbM MbU Mcd Mcq Mcx McS Mc2 Mdl Mdx Met MgG Mha MhD; rw [al];constructor
 ·intro hi;have hi':i < xs.length:=by omega
  refine ⟨by unfold rU; rw [List.length_replicate]; omega,?_⟩
  have:=hn (i+1) hi' (by omega)
  rw [← Is] at this;rw [show IntKind.i64.wrap ((i:Int)+1)=((i+1:Nat):Int) by rw [i64_in _ (by omega)]; rfl]
  exact this
 ·intro hi;have hi':i=xs.length:=by omega
  subst hi';exact hk _ _ (by simp) hK
theorem UC:KnowOk TP ZH 3:=cP (f0:=bB) (L:=pf) (fun g sp h=>MK h) rfl (fun g G h=>Ub h) lWo 3
theorem yY {ns:L2} {m:Int} (h:0<=m/\m<=1000):(FO ns m).length<=1000/\(FO ns m).length<=m.toNat:=by
 unfold FO eK; rw [xr];have:min (ns.length / 4) m.toNat<=m.toNat:=Nat.min_le_right _ _;omega
theorem QW:aa TP bB FY:=by
 refine ab (N:=ZH) 3 UC ?_;rintro l bs _ hB ⟨ns,m,how,rfl,rfl,hm,hh⟩;unfold im at hh;show comes _ _ _ _ _ _ fun v bs'=>((IV.agg (af (wz how) 0 1 2 3 4),([.row 79 aM (FO ns m),.row 99 jt [],.row 101 ie [],.row 3 [.i64] (rU (FO ns m).length),.row 103 dE []]:List aq))=(v,bs'))
 rw [OJ]; delta Maa Mab Mac Mae Maf Mag Mah Mai Maj Mak Mal Mao Map Maq Mas Mau Mav Maz MaD MaE MaM MaN MaP MaQ MaR MaV MaY Ma3 Ma9 Mbe Mbn Mbp Mbs MbP MbR Mcd McD McS Mc2 Mdg Mdl Mdo Mdr Mdv MdB MdG Mec MfK MgL MhD Mio;rintro t1 e1 t2 e2;rw [i64_in how (by omega),fH hh.1,i64_in (1+how % 3) (by omega)] at e1
 rw [e1,cm (by omega)] at e2
 have k1:t2 / 18446744073709551616=1+how % 3:=by omega
 have k2:t2 % 18446744073709551616=0:=by omega
 rw [k1,k2,i64_in how (by omega),u64_in how (by omega),u64_in (how*72057594037927936) (by omega),fH hh.1,u64_in (how % 4) (by omega),u64_in (how % 4*4611686018427387904) (by omega),
  Int.tdiv_eq_ediv_of_nonneg hh.1,Int.tdiv_eq_ediv_of_nonneg hh.1,i64_in (how / 4) (by omega),i64_in (how / 8) (by omega),fH (show 0<=how / 4 by omega),fH (show 0<=how / 8 by omega)]
 refine ⟨by decide,by rw [e1]; exact dY (by unfold bn; omega),by decide,by decide,by decide,by decide,by decide,by decide,by decide,⟨ns,m,rfl,rfl,hm⟩,wz how,ns,FO ns m,⟨(yY hm).1,rfl,rfl⟩,rfl⟩
theorem U5:∀ {g:FuncId} {sp:Vs.Spec},V2 g=some sp->aa TP g sp:=ao QW MK
end
def zX (l:List IV) (bs:List aq):Prop:=l=[]/\bs=[]
def Ga:Vs.Spec:=⟨zX,fun _ _=>(.bool true,[])⟩
def V1:FuncId->Option Vs.Spec:=fun g=>if g=ee then some ve else V2 g
section
open Go.IntWalk
theorem S4 {how:Int} (h:im how):Cg (wz how):=by
 unfold im at h;have I:∀ {n:Int},-9223372036854775808<=n->n<=9223372036854775807->dt .i64 n:=fun h1 h2=>⟨h1,h2⟩
 have U:∀ {n:Int},0<=n->n<=18446744073709551615->dt .u64 n:=fun h1 h2=>⟨h1,h2⟩
 refine ⟨⟨rfl,?_⟩,?_,?_⟩
 ·intro j hj;rcases j with _|_|_|_|_|_|_|_|_|_|_|_|_|_|_|_|_|_|_|j
  ·show dt .i64 0; exact I (by omega) (by omega)
  ·show dt .i64 0; exact I (by omega) (by omega)
  ·show dt .u64 1152921504606846976; exact U (by omega) (by omega)
  ·show dt .i64 (1+how % 3); exact I (by omega) (by omega)
  ·show dt .u64 0; exact U (by omega) (by omega)
  ·show dt .i64 0; exact I (by omega) (by omega)
  ·show dt .u64 4611686018427387904; exact U (by omega) (by omega)
  ·show dt .i64 0; exact I (by omega) (by omega)
  ·show dt .u64 (how*72057594037927936); exact U (by omega) (by omega)
  ·show dt .i64 0; exact I (by omega) (by omega)
  ·show dt .u64 (how % 4*4611686018427387904); exact U (by omega) (by omega)
  ·show dt .i64 (how / 4 % 2); exact I (by omega) (by omega)
  ·show dt .i64 (how / 8 % 2); exact I (by omega) (by omega)
  ·show dt .i64 0; exact I (by omega) (by omega)
  ·show dt .u64 0; exact U (by omega) (by omega)
  ·show dt .i64 0; exact I (by omega) (by omega)
  ·show dt .u64 0; exact U (by omega) (by omega)
  ·show dt .i64 0; exact I (by omega) (by omega)
  ·show dt .u64 0; exact U (by omega) (by omega)
  ·omega
 ·show ag ((1+how % 3)*18446744073709551616+0); exact ⟨by omega,by omega⟩
 ·show ag (0*18446744073709551616+4611686018427387904); exact ⟨by decide,by decide⟩
theorem JK {ns:L2} (h:aI [.u8] ns) (m:Int):aY (FO ns m):=fun r hr=>EH (AH h _ r hr)
theorem sh {h:Int} (k:aj h):ag h:=by unfold aj at k; exact ⟨by omega,by omega⟩
theorem vr {h:Int} (k:aj h):IV.agg [.int .i64 0,.int .u64 h]=fx h:=(ae6 k (by omega)).symm
theorem LV (z:L1) (h:Int) (r:L1) (m ax ay:Int):bn (uA z h r m ax ay):=by
 unfold uA; split
 ·exact yH _ _
 ·exact TY _ _ _ _ _ _ _
theorem TX (z:L1) (h:Int) (r s:L1) (px py qx qy:Int):bn (KU z h r s px py qx qy):=by
 unfold KU; split
 ·exact LV _ _ _ _ _ _
 ·split
  ·exact yH _ _
  ·exact yH _ _
theorem Mr (z:L1) (h:Int) (xs:L2) (i:Nat):∀ (m j:Nat) (ps:L2),bn (AX z h xs i m j ps).2
 | 0,j,ps=>⟨by show (-9223372036854775808:Int)<=0; decide,by show (0:Int) < 9223372036854775808; decide⟩
 | m+1,j,ps=>by
  unfold AX; split
  ·exact TX _ _ _ _ _ _ _ _
  ·exact Mr z h xs i m (j+1) _
theorem G5 (z:L1) (h:Int) (xs:L2):∀ (m i:Nat) (ps:L2),bn (mG z h xs m i ps).2
 | 0,i,ps=>⟨by show (-9223372036854775808:Int)<=0; decide,by show (0:Int) < 9223372036854775808; decide⟩
 | m+1,i,ps=>by
  unfold mG; split
  ·exact Mr _ _ _ _ _ _ _
  ·exact G5 z h xs m (i+1) _
theorem Qx (z:L1) (h:Int) (xs:L2):bn (tK z h xs):=G5 _ _ _ _ _ _
theorem Qw {z:L1} {h:Int} {xs:L2} (hg:aY xs) (he:tK z h xs=0):km (tJ z h xs)/\(tJ z h xs).length=xs.length:=
 AF z h xs xs.length 0 _ (by omega) (vn hg) (List.length_map _) he
theorem U4:∀ {g:FuncId} {sp:Vs.Spec},V1 g=some sp->aa TP g sp:=ao CQ U5
theorem rN:zX [] []:=⟨rfl,rfl⟩
end
def RA:FuncId->Option Vs.Spec:=fun g=>V1 g
def xU (n lo hi:Int):Bool:=decide (lo<=n/\n<=hi)
def hJ:FuncId->Option Vs.Spec:=fun g=>RA g
def wS (z:L1) (xs ts rs us es:L2):OB:=[some (.ro aM xs),some (.ro jt ts),some (.ro ie rs),some (.ro [.i64] us),some (.ro dE es),some (.ro aM xs),some (.ro jt ts),some (.ro ie rs),some (.ro [.i64] us),some (.ro dE es),some (.var 34 (af z 0 1 2 3 4)),some (.var 34 (af z 5 6 7 8 9))]
def Ss (n:Nat) (z:L1) (xs ts rs us es:L2) (i:Int):St:=⟨T 211 [(2,.ptr 10 0),(3,.ptr 11 0),(n,.int .i64 i)],wS z xs ts rs us es⟩
theorem rA (Λ:FuncId->Nat->Option aB) (d:Nat) (z:L1) (xs ts rs us es:L2) (i:Int) (k:Out->St->Prop):(round (ai TP { Γ:=hJ,Λ:=Λ,Τ:=fun _=>none } d) aw 10 0 (lp TP aw 0) (Ss 5 z xs ts rs us es i) k)=(∀ (t1:Int),t1=rd xs i.toNat 0->∀ (t2:Int),t2=rd xs i.toNat 1->∀ (t3:Int),t3=rd xs i.toNat 2->∀ (t4:Int),t4=rd xs i.toNat 3->∀ (t5:Int),t5=rd xs i.toNat 4->∀ (t6:Int),t6=rd xs i.toNat 5->∀ (t7:Int),t7=rd xs i.toNat 6->∀ (t8:Int),t8=rd xs i.toNat 7->∀ (t9:Int),t9=rd xs i.toNat 8->∀ (t10:Int),t10=rd xs i.toNat 9->∀ (t11:Int),t11=rd xs i.toNat 10->∀ (t12:Int),t12=rd xs i.toNat 11->∀ (t13:Int),t13=rd xs i.toNat 12->∀ (t14:Int),t14=rd xs i.toNat 13->∀ (t15:Int),t15=rd xs i.toNat 14->∀ (t16:Int),t16=rd xs i.toNat 15->∀ (t17:Int),t17=rd xs i.toNat 16->∀ (t18:Int),t18=rd xs i.toNat 17->∀ (t19:Int),t19=rd xs i.toNat 18->∀ (t20:Int),t20=rd xs i.toNat 19->∀ (t21:Prop),t21=((0:Int)<=i/\i < (↑xs.length:Int))->br (decide (i < (↑xs.length:Int))) (t21/\t21/\t21/\t21/\br (!(decide (t1=t1) && (decide (t2=t2) && (decide (t3=t3) && (decide (t4=t4) && (decide (t5=t5) && (decide (t6=t6) && (decide (t7=t7) && (decide (t8=t8) && (decide (t9=t9) && (decide (t10=t10) && (decide (t11=t11) && (decide (t12=t12) && (decide (t13=t13) && (decide (t14=t14) && (decide (t15=t15) && (decide (t16=t16) && (decide (t17=t17) && (decide (t18=t18) && (decide (t19=t19) && (decide (t20=t20) && true))))))))))))))))))))) (k Out.ret (St.mk (T 211 [(4,.bool false)]) [some (.ro aM xs),some (.ro jt ts),some (.ro ie rs),some (.ro [.i64] us),some (.ro dE es),some (.ro aM xs),some (.ro jt ts),some (.ro ie rs),some (.ro [.i64] us),some (.ro dE es)])) (k Out.normal (St.mk (T 211 [(2,.ptr 10 0),(3,.ptr 11 0),(5,.int .i64 (IntKind.i64.wrap (i+1)))]) [some (.ro aM xs),some (.ro jt ts),some (.ro ie rs),some (.ro [.i64] us),some (.ro dE es),some (.ro aM xs),some (.ro jt ts),some (.ro ie rs),some (.ro [.i64] us),some (.ro dE es),some (.var 34 (af z 0 1 2 3 4)),some (.var 34 (af z 5 6 7 8 9))]))) (k (Out.exit 0) (St.mk (T 211 [(2,.ptr 10 0),(3,.ptr 11 0)]) [some (.ro aM xs),some (.ro jt ts),some (.ro ie rs),some (.ro [.i64] us),some (.ro dE es),some (.ro aM xs),some (.ro jt ts),some (.ro ie rs),some (.ro [.i64] us),some (.ro dE es),some (.var 34 (af z 0 1 2 3 4)),some (.var 34 (af z 5 6 7 8 9))]))):=by (iterate 21 refine nm ?_); kernel_rfl
def Mde (a b c d e:L2)(f:List IntKind)(g h i j k:L2)(l:OB):OB:=Man aM a jt b (Man ie c MaQ d (Man dE e f g (Man jt h ie i (Man MaQ j dE k l))))
def MeT (a b:Int)(c d:Bool):Bool:=Bool.and (MaZ a b) (Bool.and c d)
abbrev Me9 (a:Prop)(b c:Int)(d:L2)(e:Int)(f:L2)(g h i j k l:Prop):Prop:=Mdp a b c d e f (MaE g h i j k) l
def MgP (a b c d e f g h i j:L2):OB:=Mde a b c d e aM f g h i j []
def Mho (a b c d:Nat)(e:IV)(f:List (Nat × IV))(g:OB):St:=Ma3 211 a (Mao 10) (Mbs b c d e f) g
abbrev Mi9 (a:Prop)(b:Int)(c:L2)(d e:Prop):Prop:=Me9 a b b c b c a a a a d e
def Mjv (a b c d:Int):Bool:=MeT a a (MaZ b b) (Md4 c c d d)
def Mj0 (a b c d e:L2)(f:L1):OB:=Mde a b c d e aM a b c d e (Maz 34 (Mdr f 4) 34 (af f 5 6 7 8 9) [])
theorem rs1 (Λ:FuncId->Nat->Option aB) (d:Nat) (z:L1) (xs ts rs us es:L2) (i:Int) (k:Out->St->Prop):(round (ai TP { Γ:=hJ,Λ:=Λ,Τ:=fun _=>none } d) aw 10 1 (lp TP aw 1) (Ss 6 z xs ts rs us es i) k) =(∀a,Mek a ts i (∀b,Mel b ts i (∀c,MgU c ts i (∀e,MgV e ts i (∀f,MfL f ts i (∀g,MfM g ts i (∀j,Mi9 j i ts (Mbm (MeT a a (MaZ b b) (Mjv c e f g)) (k .ret (Ma3 211 4 MaJ [] (MgP xs ts rs us es xs ts rs us es))) (k .normal (Mho 2 3 11 6 (Met i) [] (Mj0 xs ts rs us es z)))) (k Mee (Mf4 211 10 11 [] (Mj0 xs ts rs us es z)))))))))) :=by delta Maa Mac Mag Mal Mam Man Mao Map Mar Mat Mau Mav Maz MaA MaE MaJ MaM MaQ MaS MaX MaZ Ma3 Mbk Mbm Mbo Mbp Mbs Mbv MbU Mcq Mcx Mde Mdp Mdr Md4 Mee Mek Mel Met MeT Me9 MfL MfM Mf4 MgP MgU MgV Mho Mi9 Mjv Mj0; (iterate 7 refine nm ?_); kernel_rfl
theorem rs2 (Λ:FuncId->Nat->Option aB) (d:Nat) (z:L1) (xs ts rs us es:L2) (i:Int) (k:Out->St->Prop):(round (ai TP { Γ:=hJ,Λ:=Λ,Τ:=fun _=>none } d) aw 10 2 (lp TP aw 2) (Ss 7 z xs ts rs us es i) k) =(∀a,Mek a rs i (∀b,Mel b rs i (∀c,MgU c rs i (∀e,MgV e rs i (∀f,MfL f rs i (∀g,MfM g rs i (∀j,Mgh j rs i (∀l,Mgi l rs i (∀m,MaX m rs i 8 (∀n,MaX n rs i 9 (∀o,Mi9 o i rs (Mbm (MeT a a (MaZ b b) (MeT c c (MaZ e e) (MeT f f (MaZ g g) (Mjv j l m n)))) (k .ret (Ma3 211 4 MaJ [] (MgP xs ts rs us es xs ts rs us es))) (k .normal (Mho 2 3 11 7 (Met i) [] (Mj0 xs ts rs us es z)))) (k Me0 (Mf4 211 10 11 [] (Mj0 xs ts rs us es z)))))))))))))) :=by delta Maa Mac Mag Mal Mam Man Mao Map Mar Mat Mau Mav Maz MaA MaE MaJ MaM MaQ MaS MaX MaZ Ma3 Mbk Mbm Mbo Mbp Mbs Mbv MbU Mcq Mcx Mde Mdp Mdr Md4 Mek Mel Met MeT Me0 Me9 MfL MfM Mf4 Mgh Mgi MgP MgU MgV Mho Mi9 Mjv Mj0; (iterate 11 refine nm ?_); kernel_rfl
theorem rs3 (Λ:FuncId->Nat->Option aB) (d:Nat) (z:L1) (xs ts rs us es:L2) (i:Int) (k:Out->St->Prop):(round (ai TP { Γ:=hJ,Λ:=Λ,Τ:=fun _=>none } d) aw 10 3 (lp TP aw 3) (Ss 8 z xs ts rs us es i) k) =(∀a,Mek a us i (∀b,Mi9 b i us (MaW a a (k .ret (Ma3 211 4 MaJ [] (MgP xs ts rs us es xs ts rs us es))) (k .normal (Mho 2 3 11 8 (Met i) [] (Mj0 xs ts rs us es z)))) (k (.exit 6) (Mf4 211 10 11 [] (Mj0 xs ts rs us es z))))) :=by delta Maa Mac Mag Mal Mam Man Mao Map Mar Mat Mau Mav Maz MaA MaE MaJ MaM MaQ MaS MaW MaX Ma3 Mbk Mbo Mbp Mbs Mbv MbU Mcq Mcx Mde Mdp Mdr Mek Met Me9 Mf4 MgP Mho Mi9 Mj0; refine nm ?_; refine nm ?_; kernel_rfl
theorem rs4 (Λ:FuncId->Nat->Option aB) (d:Nat) (z:L1) (xs ts rs us es:L2) (i:Int) (k:Out->St->Prop):(round (ai TP { Γ:=hJ,Λ:=Λ,Τ:=fun _=>none } d) aw 10 4 (lp TP aw 4) (Ss 9 z xs ts rs us es i) k) =(∀a,Mek a es i (∀b,Mel b es i (∀c,MgU c es i (∀e,MgV e es i (∀f,Mi9 f i es (Mbm (Mjv a b c e) (k .ret (Ma3 211 4 MaJ [] (MgP xs ts rs us es xs ts rs us es))) (k .normal (Mho 2 3 11 9 (Met i) [] (Mj0 xs ts rs us es z)))) (k (.exit 8) (MaM 211 [] (MgP xs ts rs us es xs ts rs us es)))))))) :=by delta Maa Mac Mag Mal Mam Man Mao Map Mar Mat Mau Mav Maz MaA MaE MaJ MaM MaQ MaS MaX MaZ Ma3 Mbk Mbm Mbo Mbp Mbs Mbv Mcq Mde Mdp Mdr Md4 Mek Mel Met MeT Me9 MgP MgU MgV Mho Mi9 Mjv Mj0; (iterate 5 refine nm ?_); kernel_rfl
def Cs (es:L2) (i:Nat):Int:=if i=0 then 0 else (es.getD (i - 1) []).getD 0 0
def eB (e:L1) (m n:Int):Bool:=xU (e.getD 0 0) m n && (xU (e.getD 1 0) 1 8 && (xU (e.getD 2 0) (-1) 65535 && xU (e.getD 3 0) (-1) 65535))
def r5 (n:Nat) (xs:L2):Prop:=∀ r∈xs,r.length=n
def RI (z:L1) (xs ts rs us es:L2):Prop:=(aI aM xs/\aI jt ts/\aI ie rs/\aI [.i64] us/\aI dE es)/\(r5 20 xs/\r5 6 ts/\r5 10 rs/\r5 1 us/\r5 4 es)/\(xs.length<=maxLen/\ts.length<=maxLen/\rs.length<=maxLen/\us.length<=maxLen/\es.length<=maxLen)/\z.length=19
def wSr (xs ts rs us es:L2):OB:=[some (.ro aM xs),some (.ro jt ts),some (.ro ie rs),some (.ro [.i64] us),some (.ro dE es),some (.ro aM xs),some (.ro jt ts),some (.ro ie rs),some (.ro [.i64] us),some (.ro dE es)]
def T5 (n:Nat) (n0:Nat) (st:St) (z:L1) (xs ts rs us es:L2):Prop:=RI z xs ts rs us es/\n0=10/\st=Ss n z xs ts rs us es 0
def Ls (n:Nat) (e:Nat):aB:=fun n0 st K=>∃z xs ts rs us es,T5 n n0 st z xs ts rs us es/\K (.exit e) ⟨T 211 [(2,.ptr 10 0),(3,.ptr 11 0)],wS z xs ts rs us es⟩
def Ls9:aB:=fun n0 st K=>∃z xs ts rs us es,T5 9 n0 st z xs ts rs us es/\K (.exit 8) ⟨T 211 [],wSr xs ts rs us es⟩
def Rt:Know:={ Γ:=hJ,Λ:=fun f i=>if f=aw then (if i=0 then some (Ls 5 0) else if i=1 then some (Ls 6 2) else if i=2 then some (Ls 7 4) else if i=3 then some (Ls 8 6) else if i=4 then some Ls9 else none) else none,Τ:=fun _=>none }
abbrev MdC (a:Int)(b:L1)(c:Prop):Prop:=Max a b 11 c
abbrev MdO (a:Int)(b:L1)(c:Prop):Prop:=Max a b 10 c
abbrev MdP (a:Int)(b:L1)(c:Prop):Prop:=Max a b 12 c
abbrev MdQ (a:Int)(b:L1)(c:Prop):Prop:=Max a b 13 c
abbrev MdR (a:Int)(b:L1)(c:Prop):Prop:=Max a b 14 c
abbrev MdS (a:Int)(b:L1)(c:Prop):Prop:=Max a b 15 c
abbrev MdT (a:Int)(b:L1)(c:Prop):Prop:=Max a b 16 c
abbrev MdU (a:Int)(b:L1)(c:Prop):Prop:=Max a b 17 c
abbrev MdV (a:Int)(b:L1)(c:Prop):Prop:=Max a b 18 c
abbrev MeC (a:Int)(b:L1)(c:Prop):Prop:=Max a b 7 c
abbrev MeH (a:Int)(b:L1)(c:Prop):Prop:=Max a b 2 c
abbrev MeO (a:Int)(b:L1)(c:Prop):Prop:=Max a b 0 c
abbrev MeP (a:Int)(b:L1)(c:Prop):Prop:=Max a b 8 c
abbrev MeR (a:Int)(b:L1)(c:Prop):Prop:=Max a b 1 c
abbrev MeS (a:Int)(b:L1)(c:Prop):Prop:=Max a b 9 c
abbrev Mfa (a b:L2)(c d:Prop):Prop:=MaW (Mat a) (Mat b) c d
abbrev Mjt (a b:Int)(c d:Prop):Prop:=Mbm (Md4 a a b b) c d
theorem ON (z:L1) (xs ts rs us es:L2) (K:KP):(comes TP Rt 3 aw [.agg (af z 0 1 2 3 4),.agg (af z 5 6 7 8 9)] (aH xs ts rs us es++aH xs ts rs us es) K) =(∀a,MeO a z (∀b,MeR b z (∀c,MeH c z (∀d,Meg d z (∀e,Men e z (∀f,Meo f z (∀g,Mep g z (∀i,MeC i z (∀j,MeP j z (∀k,MeS k z (∀l,MdO l z (∀m,MdC m z (∀n,MdP n z (∀o,MdQ o z (∀p,MdR p z (∀q,MdS q z (∀r,MdT r z (∀s,MdU s z (∀t,MdV t z (MaW a a (K MaJ []) (Mjt b c (K MaJ []) (Mjt d e (K MaJ []) (Mjt f g (K MaJ []) (Mjt i j (K MaJ []) (Mjt k l (K MaJ []) (MaW m m (K MaJ []) (MaW n n (K MaJ []) (Mjt o p (K MaJ []) (Mbm (Mjv q r s t) (K MaJ []) (Mfa xs xs (K MaJ []) (Mfa ts ts (K MaJ []) (Mfa rs rs (K MaJ []) (Mfa us us (K MaJ []) (Mfa es es (K MaJ []) (∃u:L1,∃v:L2,∃w:L2,∃x:L2,∃y:L2,∃a1:L2,T5 5 10 (Mho 2 3 11 5 Mdg [] (Mde xs ts rs us es aM xs ts rs us es (Mdl a b c d e f g i j k l m n 0 1 2 3 o p q r s t 4 34 (Mcd a b c d e f g i j k l m n 5 6 7 8 o p q r s t 9) []))) u v w x y a1/\(∃b1:L1,∃c1:L2,∃d1:L2,∃e1:L2,∃f1:L2,∃g1:L2,T5 6 10 (Mho 2 3 11 6 Mdg [] (Mj0 v w x y a1 u)) b1 c1 d1 e1 f1 g1/\(∃i1:L1,∃j1:L2,∃k1:L2,∃l1:L2,∃m1:L2,∃n1:L2,T5 7 10 (Mho 2 3 11 7 Mdg [] (Mj0 c1 d1 e1 f1 g1 b1)) i1 j1 k1 l1 m1 n1/\(∃o1:L1,∃p1:L2,∃q1:L2,∃r1:L2,∃s1:L2,∃t1:L2,T5 8 10 (Mho 2 3 11 8 Mdg [] (Mj0 j1 k1 l1 m1 n1 i1)) o1 p1 q1 r1 s1 t1/\(∃u1:L1,∃v1:L2,∃w1:L2,∃x1:L2,∃y1:L2,∃z1:L2,T5 9 10 (Mho 2 3 11 9 Mdg [] (Mj0 p1 q1 r1 s1 t1 o1)) u1 v1 w1 x1 y1 z1/\K Ma5 []))))))))))))))))))))))))))))))))))))))) :=by delta Maa Mab Mac Mad Maf Mag Mai Maj Mak Mam Man Mao Map Mat Mau Max Maz MaD MaJ MaM MaN MaP MaQ MaR MaW MaZ Ma3 Ma5 Mbm Mbs Mcd Mde Mdg Mdl Mdr MdC MdO MdP MdQ MdR MdS MdT MdU MdV Md4 Meg Men Meo Mep MeC MeH MeO MeP MeR MeS MeT Mfa Mho Mjt Mjv Mj0; (iterate 19 refine nm ?_); kernel_rfl
def W5 (l:List IV) (bs:List aq):Prop:=∃z xs ts rs us es,l=[.agg (af z 0 1 2 3 4),.agg (af z 5 6 7 8 9)]/\bs=aH xs ts rs us es++aH xs ts rs us es/\RI z xs ts rs us es
def Wz:Vs.Spec:=⟨W5,fun _ _=>(.bool true,[])⟩
def Rz:FuncId->Option Vs.Spec:=fun g=>if g=aw then some Wz else hJ g
section
open Go.IntWalk
theorem QB:∀ {g:FuncId} {sp:Vs.Spec},RA g=some sp->aa TP g sp:=U4
theorem G8:∀ {g:FuncId} {sp:Vs.Spec},hJ g=some sp->aa TP g sp:=QB
theorem od {i:Nat} (h:(i:Int) < 9223372036854775807):IntKind.i64.wrap ((i:Int)+1)=((i+1:Nat):Int):=by rw [i64_in _ (by omega)]; rfl
theorem ls0 (d n0:Nat):aG (ai TP Rt d) aw n0 0 (lp TP aw 0) (Ls 5 0):=by
 intro st K hst;obtain ⟨z,xs,ts,rs,us,es,⟨hw,rfl,rfl⟩,hK⟩:=hst;obtain ⟨_,_,⟨mx,mt,mr,mu,me⟩,hz⟩:=hw;have m':xs.length<=9223372036854775807:=mx;refine aC (fun i:Nat=>Ss 5 z xs ts rs us es i) (fun i=>i<=xs.length) (fun i=>xs.length - i) ?_ (a:=0) (Nat.zero_le _)
 intro i hle k hn hk;show round (ai TP { Γ:=hJ,Λ:=_,Τ:=fun _=>none } d) _ _ _ _ _ k
 rw [rA];intro t1 e1 t2 e2 t3 e3 t4 e4 t5 e5 t6 e6 t7 e7 t8 e8 t9 e9 t10 e10 t11 e11 t12 e12 t13 e13 t14 e14 t15 e15 t16 e16 t17 e17 t18 e18 t19 e19 t20 e20 t21 e21;rw [al];constructor
 ·intro hi;have p:t21:=by rw [e21]; omega
  refine ⟨p,p,p,p,gK (by simp) ?_⟩
  rw [od (by omega)]
  exact hn (i+1) (by omega) (by omega)
 ·intro hi;exact hk _ _ (by simp) hK
theorem ls1 (d n0:Nat):aG (ai TP Rt d) aw n0 1 (lp TP aw 1) (Ls 6 2):=by
 intro st K hst;obtain ⟨z,xs,ts,rs,us,es,⟨hw,rfl,rfl⟩,hK⟩:=hst;obtain ⟨_,_,⟨mx,mt,mr,mu,me⟩,hz⟩:=hw;have m':ts.length<=9223372036854775807:=mt;refine aC (fun i:Nat=>Ss 6 z xs ts rs us es i) (fun i=>i<=ts.length) (fun i=>ts.length - i) ?_ (a:=0) (Nat.zero_le _)
 intro i hle k hn hk;show round (ai TP { Γ:=hJ,Λ:=_,Τ:=fun _=>none } d) _ _ _ _ _ k
 rw [rs1]; delta Maa Mac Mag Mal Mam Man Mao Map Mar Mat Mau Mav Maz MaA MaE MaJ MaM MaQ MaS MaX MaZ Ma3 Mbk Mbm Mbo Mbp Mbs Mbv MbU Mcq Mcx Mde Mdp Mdr Md4 Mee Mek Mel Met MeT Me9 MfL MfM Mf4 MgP MgU MgV Mho Mi9 Mjv Mj0;intro t1 e1 t2 e2 t3 e3 t4 e4 t5 e5 t6 e6 t7 e7;rw [al];constructor
 ·intro hi;have p:t7:=by rw [e7]; omega
  refine ⟨p,p,p,p,gK (by simp) ?_⟩
  rw [od (by omega)]
  exact hn (i+1) (by omega) (by omega)
 ·intro hi;exact hk _ _ (by simp) hK
theorem ls2 (d n0:Nat):aG (ai TP Rt d) aw n0 2 (lp TP aw 2) (Ls 7 4):=by
 intro st K hst;obtain ⟨z,xs,ts,rs,us,es,⟨hw,rfl,rfl⟩,hK⟩:=hst;obtain ⟨_,_,⟨mx,mt,mr,mu,me⟩,hz⟩:=hw;have m':rs.length<=9223372036854775807:=mr;refine aC (fun i:Nat=>Ss 7 z xs ts rs us es i) (fun i=>i<=rs.length) (fun i=>rs.length - i) ?_ (a:=0) (Nat.zero_le _)
 intro i hle k hn hk;show round (ai TP { Γ:=hJ,Λ:=_,Τ:=fun _=>none } d) _ _ _ _ _ k
 rw [rs2]; delta Maa Mac Mag Mal Mam Man Mao Map Mar Mat Mau Mav Maz MaA MaE MaJ MaM MaQ MaS MaX MaZ Ma3 Mbk Mbm Mbo Mbp Mbs Mbv MbU Mcq Mcx Mde Mdp Mdr Md4 Mek Mel Met MeT Me0 Me9 MfL MfM Mf4 Mgh Mgi MgP MgU MgV Mho Mi9 Mjv Mj0;intro t1 e1 t2 e2 t3 e3 t4 e4 t5 e5 t6 e6 t7 e7 t8 e8 t9 e9 t10 e10 t11 e11;rw [al];constructor
 ·intro hi;have p:t11:=by rw [e11]; omega
  refine ⟨p,p,p,p,gK (by simp) ?_⟩
  rw [od (by omega)]
  exact hn (i+1) (by omega) (by omega)
 ·intro hi;exact hk _ _ (by simp) hK
theorem ls3 (d n0:Nat):aG (ai TP Rt d) aw n0 3 (lp TP aw 3) (Ls 8 6):=by
 intro st K hst;obtain ⟨z,xs,ts,rs,us,es,⟨hw,rfl,rfl⟩,hK⟩:=hst;obtain ⟨_,_,⟨mx,mt,mr,mu,me⟩,hz⟩:=hw;have m':us.length<=9223372036854775807:=mu;refine aC (fun i:Nat=>Ss 8 z xs ts rs us es i) (fun i=>i<=us.length) (fun i=>us.length - i) ?_ (a:=0) (Nat.zero_le _)
 intro i hle k hn hk;show round (ai TP { Γ:=hJ,Λ:=_,Τ:=fun _=>none } d) _ _ _ _ _ k
 rw [rs3]; delta Maa Mac Mag Mal Mam Man Mao Map Mar Mat Mau Mav Maz MaA MaE MaJ MaM MaQ MaS MaW MaX Ma3 Mbk Mbo Mbp Mbs Mbv MbU Mcq Mcx Mde Mdp Mdr Mek Met Me9 Mf4 MgP Mho Mi9 Mj0;intro t1 e1 t2 e2;rw [al];constructor
 ·intro hi;have p:t2:=by rw [e2]; omega
  refine ⟨p,p,p,p,gK (by simp) ?_⟩
  rw [od (by omega)]
  exact hn (i+1) (by omega) (by omega)
 ·intro hi;exact hk _ _ (by simp) hK
theorem ls4 (d n0:Nat):aG (ai TP Rt d) aw n0 4 (lp TP aw 4) Ls9:=by
 intro st K hst;obtain ⟨z,xs,ts,rs,us,es,⟨hw,rfl,rfl⟩,hK⟩:=hst;obtain ⟨_,_,⟨mx,mt,mr,mu,me⟩,hz⟩:=hw;have m':es.length<=9223372036854775807:=me;refine aC (fun i:Nat=>Ss 9 z xs ts rs us es i) (fun i=>i<=es.length) (fun i=>es.length - i) ?_ (a:=0) (Nat.zero_le _)
 intro i hle k hn hk;show round (ai TP { Γ:=hJ,Λ:=_,Τ:=fun _=>none } d) _ _ _ _ _ k
 rw [rs4]; delta Maa Mac Mag Mal Mam Man Mao Map Mar Mat Mau Mav Maz MaA MaE MaJ MaM MaQ MaS MaX MaZ Ma3 Mbk Mbm Mbo Mbp Mbs Mbv Mcq Mde Mdp Mdr Md4 Mek Mel Met MeT Me9 MgP MgU MgV Mho Mi9 Mjv Mj0;intro t1 e1 t2 e2 t3 e3 t4 e4 t5 e5;rw [al];constructor
 ·intro hi;have p:t5:=by rw [e5]; omega
  refine ⟨p,p,p,p,gK (by simp) ?_⟩
  rw [od (by omega)]
  exact hn (i+1) (by omega) (by omega)
 ·intro hi;exact hk _ _ (by simp) hK
theorem UD:KnowOk TP Rt 3:=by
 refine wV (fun g sp h=>G8 h) ?_ (fun g G h=>Ub h) 3
 intro f i S hS d n0;simp only [Rt] at hS;split at hS
 ·rename_i hf;subst hf;split at hS
  ·rename_i hi; subst hi; cases hS; exact ls0 d n0
  split at hS
  ·rename_i hi; subst hi; cases hS; exact ls1 d n0
  split at hS
  ·rename_i hi; subst hi; cases hS; exact ls2 d n0
  split at hS
  ·rename_i hi; subst hi; cases hS; exact ls3 d n0
  split at hS
  ·rename_i hi; subst hi; cases hS; exact ls4 d n0
  ·cases hS
 ·cases hS
theorem Q0:aa TP aw Wz:=by
 refine ab (N:=Rt) 3 UD ?_;rintro l bs _ _ ⟨z,xs,ts,rs,us,es,rfl,rfl,hw⟩;show comes _ _ _ _ _ _ fun v bs'=>(IV.bool true,([]:List aq))=(v,bs')
 rw [ON]; delta Maa Mab Mac Mad Maf Mag Mai Maj Mak Mam Man Mao Map Mat Mau Max Maz MaD MaJ MaM MaN MaP MaQ MaR MaW MaZ Ma3 Ma5 Mbm Mbs Mcd Mde Mdg Mdl Mdr MdC MdO MdP MdQ MdR MdS MdT MdU MdV Md4 Meg Men Meo Mep MeC MeH MeO MeP MeR MeS MeT Mfa Mho Mjt Mjv Mj0;rintro t1 rfl t2 rfl t3 rfl t4 rfl t5 rfl t6 rfl t7 rfl t8 rfl t9 rfl t10 rfl t11 rfl t12 rfl t13 rfl t14 rfl t15 rfl t16 rfl t17 rfl t18 rfl t19 rfl;refine gK (by simp) (gK (by simp) (gK (by simp) (gK (by simp) (gK (by simp) (gK (by simp) (gK (by simp) (gK (by simp) (gK (by simp) (gK (by simp) (gK (by simp) (gK (by simp) (gK (by simp) (gK (by simp) (gK (by simp) ?_))))))))))))))
 exact ⟨z,xs,ts,rs,us,es,⟨hw,rfl,rfl⟩,z,xs,ts,rs,us,es,⟨hw,rfl,rfl⟩,z,xs,ts,rs,us,es,⟨hw,rfl,rfl⟩,z,xs,ts,rs,us,es,⟨hw,rfl,rfl⟩,z,xs,ts,rs,us,es,⟨hw,rfl,rfl⟩,rfl⟩
theorem QA:∀ {g:FuncId} {sp:Vs.Spec},Rz g=some sp->aa TP g sp:=ao Q0 G8
end
def v5 (b:OB):Nat:=match look b 1 with
 | some (.var _ [.fn g _])=>if g=aO then 4 else 6
 | _=>0
def Zb (args:List IV) (b:OB):Prop:=∃xs,aI aM xs/\xs.length<=maxLen/\ja xs/\((args=[.sl 0,.fn df []]/\b=[some (.ro aM xs)])∨(args=[.sl 0,.fn bt [.ptr 1 0]]/\(b=[some (.ro aM xs),some (.var 238 [.fn aO []])]∨b=[some (.ro aM xs),some (.var 238 [.fn aX []])])))
def VG:eG:=fun args b K=>Zb args b/\K (.tup [fx (cZ (v5 b) (dh b 0)),.int .i64 (ca (v5 b) (dh b 0))]) b
def VC:Know:={ Γ:=pM,Λ:=fun _ _=>none,Τ:=fun g=>if g=aV then some VG else none }
abbrev MfG (a:Int)(b:Prop)(c:Int)(d e f:Prop):Prop:=Mcm a 0 (Mcs b c d e) f
def Mhb (a b c d e f g:Int):IV:=.tup (MbN a b (Mdn c d e f (MaY g)))
theorem Ka (xs:L2) (K:KP):(comes TP VC 3 lR [.sl 0] [.ro aM xs] K) =(∀a,Mau a (cZ 6 xs) (∀b,Mau b a (∀c,Mau c (cZ 0 xs) (∀d,Mau d c (∀e,Mau e (cZ 4 xs) (∀f,Mau f e (∀g,MeK g b d (∀i,Mey i b d (∀j,MeK j f d (∀k,Mey k f d (∀l,Mau l (ca 0 xs) (∀m,Mau m (ca 6 xs) (∀n,Mau n (ca 4 xs) (∀o,Mbo o (K (Mhb 0 0 0 0 0 0 g) []) (∀p,Mbo p (K (Mhb 0 0 0 0 0 0 j) []) (∀q,Mbo q (K (Mhb 0 0 0 0 0 0 1) []) (∀r,Mbo r (K (Mhb 0 0 0 0 0 0 l) []) (∀s,Mbo s (K (Mhb 0 0 0 0 0 0 m) []) (∀t,Mbo t (K (Mhb 0 0 0 0 0 0 n) []) (∀u,Mbo u (MfB a c) (∀v,Mbo v (K (MbA c (Mdn 0 0 0 0 MbD)) []) (∀w,Mbo w (K (MbA c (Mdn 0 0 (Mah a) (Mae a) MbD)) []) (∀x,Mbo x (K (MbA c (MaB (Maj (Mah e) (Mae e) 0 0 []) MbD)) []) (∀y,Mbo y (K (MbA c (Mdn 0 0 (Mah i) (Mae i) MbD)) []) (∀z,Mbo z (K (MbA c (MaB (Maj (Mah k) (Mae k) 0 0 []) MbD)) []) (∀a1,Mbo a1 (K (MbA c (Mc0 e a MbD)) []) (∀b1,Mbo b1 (Zb (Mak 0 [.fn 184 (MaO 1 [])]) (Mff xs 186 [] [])) (∀c1,Mbo c1 (K (MbA c (Mc0 k a MbD)) []) (∀d1,Mbo d1 (K (MbA c (Mc0 e i MbD)) []) (∀e1,Mbo e1 (K (MbA c (Mc0 k i MbD)) []) (∀f1,McW f1 o o (∀g1,McW g1 p p (∀i1,McW i1 r r (∀j1,McW j1 s s (∀k1,McW k1 t t (∀l1,McW l1 o f1 (∀m1,McW m1 f1 o (∀n1,McW n1 p g1 (∀o1,McW o1 g1 p (∀p1,McW p1 r i1 (∀q1,McW q1 i1 r (∀r1,McW r1 s j1 (∀s1,McW s1 j1 s (∀t1,McW t1 t k1 (∀u1,McW u1 k1 t (∀v1,Mbo v1 (Mjx l1 f1 m1 o) (∀w1,Mbo w1 (Mjx p1 i1 q1 r) (∀x1,Mbo x1 (Mjx r1 j1 s1 s) (Mcm (Mat xs) 0 (Mjk q) (Mcs (Zb (Mak 0 [.fn 182 []]) (MaV aM xs [])) l w1 (MeD l (MeD l (MeD l w1 (v/\v) v) b1 (MfG m u g v1 (Mjk y) (MeD m x1 (w/\w) w))) (Zb (Mak 0 [.fn 184 (MaO 1 [])]) (Mff xs 185 [] [])) (Mcm n 0 (McZ e c [] j (MeD j (Mjx n1 g1 o1 p) (z/\z) z) (b1/\MfG m u g v1 (Mjk e1) (MeD m x1 (c1/\c1) c1))) (MeD n (MeD n (Mjx t1 k1 u1 t) (x/\x) x) b1 (MfG m u g v1 (Mjk d1) (MeD m x1 (a1/\a1) a1))))))))))))))))))))))))))))))))))))))))))))))))))))))) :=by delta Maa Mab Mac Mae Maf Mag Mah Mai Maj Mak Mam Mao Mat Mau Mav MaB MaO MaV MaW MaY Mbo Mbw MbA MbD MbG MbN Mcm Mcs McL McW McZ Mc0 Mdb Mdn Mey MeD MeK Mff MfB MfG Mhb Mjk Mjx; refine nm ?_; refine nj ?_; refine nm ?_; refine nj ?_; refine nm ?_; refine nj ?_; (iterate 42 refine nm ?_); kernel_rfl
def uZ (w:Nat) (xs:L2):Int:=if ca w xs=0 then iY (cZ w xs) (cZ 0 xs) else ca w xs
def Jv (w:Nat) (xs:L2):Int:=if ca w xs=0 then fF (cZ w xs) (cZ 0 xs) else 0
def cE (xs:L2):Int:=if xs.length=0 then 1 else if ca 0 xs≠0 then ca 0 xs else if uZ 4 xs≠0 then uZ 4 xs else uZ 6 xs
def cM (xs:L2):Int:=if cE xs=0 then cZ 0 xs else 0
def cX (xs:L2):Int:=if cE xs=0 then Jv 4 xs else 0
def cY (xs:L2):Int:=if cE xs=0 then Jv 6 xs else 0
def Zd (l:List IV) (bs:List aq):Prop:=∃xs,l=[.sl 0]/\bs=[.ro aM xs]/\ja xs
def CL (xs:L2):IV:=.tup [fx (cM xs),vx (cX xs) (cY xs),.int .i64 (cE xs)]
def Lq (xs:L2):IV:=.agg [.int .i64 (cM xs / 18446744073709551616),.int .u64 (cM xs % 18446744073709551616),.int .i64 (cX xs / 18446744073709551616),.int .u64 (cX xs % 18446744073709551616),.int .i64 (cY xs / 18446744073709551616),.int .u64 (cY xs % 18446744073709551616),.int .i64 (cE xs)]
def R1:Vs.Spec:=⟨Zd,fun _ bs=>(CL (aA bs 0),[])⟩
def Kp:Vs.Spec:=⟨Zd,fun _ bs=>(Lq (aA bs 0),[])⟩
section
open Go.IntWalk
theorem FU (w:Nat):∀ (xs:L2) (a:Int),(qf w xs a).2≠0->(qf w xs a).1=0
 | [],a,h=>absurd rfl h
 | r :: l,a,h=>by
  unfold qf at h ⊢;split
  ·rfl
  ·rename_i h1;rw [if_neg h1] at h;split
   ·rfl
   ·rename_i h2;rw [if_neg h2] at h;exact FU w l _ h
theorem FT (w:Nat):∀ (xs:L2) (a:Int),ag a->ag (qf w xs a).1
 | [],a,h=>h
 | r :: l,a,h=>by
  unfold qf;split
  ·exact bg
  ·split
   ·exact bg
   ·rename_i h2;exact FT w l _ (ff.1 (by simpa using h2))
theorem jA (w:Nat) (xs:L2):ag (cZ w xs):=FT w xs 0 bg
theorem aaT:KnowOk TP ZB 3:=cP (f0:=aV) (L:=NV) (fun g sp h=>G6 h) rfl L3 XA 3
theorem aaS:KnowOk TP ZA 3:=cP (f0:=aV) (L:=yT aO 4) (fun g sp h=>G6 h) rfl L3 Xz 3
theorem aaR:KnowOk TP Zz 3:=cP (f0:=aV) (L:=yT aX 6) (fun g sp h=>G6 h) rfl L3 Xy 3
theorem vP {w:Nat} {xs:L2} {b:OB} {K:IV->OB->Prop} (hK:K (.tup [fx (cZ w xs),.int .i64 (ca w xs)]) b):
  br (ca w xs != 0) (K (.tup [.agg [.int .i64 0,.int .u64 0],.int .i64 (ca w xs)]) b) (K (.tup [fx (cZ w xs),.int .i64 0]) b):=by
 rw [ah];constructor
 ·intro h;rw [show cZ w xs=0 from FU w xs 0 h] at hK
  exact hK
 ·intro h;rw [h] at hK;exact hK
theorem Qn:cf TP aV (fun args b K=>(∃xs,aI aM xs/\xs.length<=maxLen/\ja xs/\args=[.sl 0,.fn df []]/\b=[some (.ro aM xs)])/\K (.tup [fx (cZ 0 (dh b 0)),.int .i64 (ca 0 (dh b 0))]) b):=by
 refine cL (N:=ZB) 3 aaT ?_;rintro args b K ⟨⟨xs,hr,hl,hm,rfl,rfl⟩,hK⟩;show bQ _ _ _ _ _ _ fun v b1=>ld 1 v b1 K
 rw [Td]; delta Maa Mab Mac Maf Mag Mai Mao Map Mat Maz MaB MaG MaM MaV MaW MaY Ma4 Mbl MbA MbD MbN Mb5 Mcs Mcu MeU Mfd MhF MiD;exact ⟨xs,⟨hr,hl,hm,rfl,rfl⟩,vP hK⟩
theorem Qm:cf TP aV (fun args b K=>(∃xs,aI aM xs/\xs.length<=maxLen/\ja xs/\args=[.sl 0,.fn bt [.ptr 1 0]]/\b=[some (.ro aM xs),some (.var 238 [.fn aO []])])/\K (.tup [fx (cZ 4 (dh b 0)),.int .i64 (ca 4 (dh b 0))]) b):=by
 refine cL (N:=ZA) 3 aaS ?_;rintro args b K ⟨⟨xs,hr,hl,hm,rfl,rfl⟩,hK⟩;show bQ _ _ _ _ _ _ fun v b1=>ld 2 v b1 K
 rw [Tc]; delta Maa Mab Mac Maf Mag Mai Mam Mao Map Mat Maz MaB MaG MaM MaO MaW MaY Ma4 Mbl MbA MbD MbN Mb5 Mcs Mcu Mdb Mfd Mff MhF MiD Mja;exact ⟨xs,⟨hr,hl,hm,rfl,rfl⟩,vP hK⟩
theorem Ql:cf TP aV (fun args b K=>(∃xs,aI aM xs/\xs.length<=maxLen/\ja xs/\args=[.sl 0,.fn bt [.ptr 1 0]]/\b=[some (.ro aM xs),some (.var 238 [.fn aX []])])/\K (.tup [fx (cZ 6 (dh b 0)),.int .i64 (ca 6 (dh b 0))]) b):=by
 refine cL (N:=Zz) 3 aaR ?_;rintro args b K ⟨⟨xs,hr,hl,hm,rfl,rfl⟩,hK⟩;show bQ _ _ _ _ _ _ fun v b1=>ld 2 v b1 K
 rw [Tb]; delta Maa Mab Mac Maf Mag Mai Mam Mao Map Mat Maz MaB MaG MaM MaO MaW MaY Ma4 Mbl MbA MbD MbN Mb5 Mcs Mcu Mdb Mfd Mff MhF MiD Mja;exact ⟨xs,⟨hr,hl,hm,rfl,rfl⟩,vP hK⟩
theorem UU:cf TP aV VG:=by
 rintro args b K ⟨⟨xs,hr,hl,hm,h⟩,hK⟩;rcases h with ⟨rfl,rfl⟩ | ⟨rfl,rfl | rfl⟩
 ·exact Qn _ _ _ ⟨⟨xs,hr,hl,hm,rfl,rfl⟩,hK⟩
 ·exact Qm _ _ _ ⟨⟨xs,hr,hl,hm,rfl,rfl⟩,hK⟩
 ·exact Ql _ _ _ ⟨⟨xs,hr,hl,hm,rfl,rfl⟩,hK⟩
theorem P9:KnowOk TP VC 3:=LI (f0:=aV) (G:=VG) (fun g sp h=>lW h) (fun _ _=>rfl) rfl UU 3
theorem sB {xs:L2} {e:Int} (he:e≠0) (h:cE xs=e):(CL xs,([]:List aq))=(.tup [.agg [.int .i64 0,.int .u64 0],.agg [.int .i64 0,.int .u64 0,.int .i64 0,.int .u64 0],.int .i64 e],[]):=by
 unfold CL cM cX cY;rw [h,if_neg he,if_neg he,if_neg he]
 rfl
theorem Nz:aa TP lR R1:=by
 refine ab (N:=VC) 3 P9 ?_;rintro l bs _ hB ⟨xs,rfl,rfl,hm⟩;have hb:aI aM xs/\0 < aM.length/\xs.length<=maxLen:=hB (.ro aM xs) (List.mem_singleton.2 rfl);show comes _ _ _ _ _ _ fun v bs'=>(CL xs,([]:List aq))=(v,bs')
 rw [Ka]; delta Maa Mab Mac Mae Maf Mag Mah Mai Maj Mak Mam Mao Mat Mau Mav MaB MaO MaV MaW MaY Mbo Mbw MbA MbD MbG MbN Mcm Mcs McL McW McZ Mc0 Mdb Mdn Mey MeD MeK Mff MfB MfG Mhb Mjk Mjx;rintro t1 e1 j2 rfl t3 e3 j4 rfl t5 e5 j6 rfl t7 e7 t8 e8 t9 e9 t10 e10 t11 e11 t12 e12 t13 e13 _ rfl _ rfl _ rfl _ rfl _ rfl _ rfl t20 e20 _ rfl _ rfl _ rfl _ rfl _ rfl _ rfl t27 e27 _ rfl _ rfl _ rfl _ rfl _ rfl _ rfl _ rfl _ rfl _ rfl _ rfl _ rfl _ rfl _ rfl _ rfl _ rfl _ rfl _ rfl _ rfl _ rfl _ rfl _ rfl;simp only [and_self];have k20:t20:=by rw [e20]; exact aU (by rw [e1]; exact jA 6 xs) (by rw [e3]; exact jA 0 xs)
 have k27:t27:=by rw [e27]; exact ⟨xs,hb.1,hb.2.2,hm,.inr ⟨rfl,.inr rfl⟩⟩
 rw [dp];refine ⟨fun h0=>?_,fun h0=>?_⟩
 ·exact sB (by decide) (if_pos (by omega))
 have hlen:¬ xs.length=0:=by omega
 refine ⟨⟨xs,hb.1,hb.2.2,hm,.inl ⟨rfl,rfl⟩⟩,?_⟩;rw [ah];refine ⟨fun h=>sB h (by unfold cE; rw [if_neg hlen,if_pos (by rw [← e11]; exact h),e11]),fun h=>?_⟩
 have hs0:¬ ca 0 xs≠0:=by rw [← e11]; simpa using h
 rw [ah];refine ⟨fun h'=>absurd h h',fun _=>?_⟩
 refine ⟨⟨xs,hb.1,hb.2.2,hm,.inr ⟨rfl,.inl rfl⟩⟩,?_⟩;have fin:∀ {a b:Int},uZ 4 xs=0->Jv 4 xs=a->uZ 6 xs=0->Jv 6 xs=b->(CL xs,([]:List aq))=(.tup [fx j4,vx a b,.int .i64 0],[]):=by
  intro a b h1 h2 h3 h4;have hc:cE xs=0:=by unfold cE; rw [if_neg hlen,if_neg hs0,if_neg (by simpa using h1),h3]
  unfold CL cM cX cY;rw [hc,if_pos rfl,if_pos rfl,if_pos rfl,h2,h4,e3]
 have stop4:∀ {e:Int},e≠0->uZ 4 xs=e->(CL xs,([]:List aq))=(.tup [.agg [.int .i64 0,.int .u64 0],.agg [.int .i64 0,.int .u64 0,.int .i64 0,.int .u64 0],.int .i64 e],[]):=by
  intro e he h;exact sB he (by unfold cE; rw [if_neg hlen,if_neg hs0,if_pos (by rw [h]; exact he),h])
 have stop6:∀ {e:Int},uZ 4 xs=0->e≠0->uZ 6 xs=e->(CL xs,([]:List aq))=(.tup [.agg [.int .i64 0,.int .u64 0],.agg [.int .i64 0,.int .u64 0,.int .i64 0,.int .u64 0],.int .i64 e],[]):=by
  intro e h4 he h;exact sB he (by unfold cE; rw [if_neg hlen,if_neg hs0,if_neg (by simpa using h4),h])
 have ax4:t13=0->uZ 4 xs=t9/\Jv 4 xs=t10:=by
  intro h;unfold uZ Jv;rw [if_pos (by rw [← e13]; exact h),if_pos (by rw [← e13]; exact h),e9,e10,e5,e3]
  exact ⟨rfl,rfl⟩
 have ax6:t12=0->uZ 6 xs=t7/\Jv 6 xs=t8:=by
  intro h;unfold uZ Jv;rw [if_pos (by rw [← e12]; exact h),if_pos (by rw [← e12]; exact h),e7,e8,e1,e3]
  exact ⟨rfl,rfl⟩
 have ax4':t13≠0->uZ 4 xs=t13:=by
  intro h;unfold uZ;rw [if_neg (by rw [← e13]; exact h),e13]
 have ax6':t12≠0->uZ 6 xs=t12:=by
  intro h;unfold uZ;rw [if_neg (by rw [← e12]; exact h),e12]
 rw [dp];refine ⟨fun h13=>?_,fun h13=>?_⟩
 ·refine ⟨aU (by rw [e5]; exact jA 4 xs) (by rw [e3]; exact jA 0 xs),?_⟩
  rw [ah];refine ⟨fun h=>?_,fun h9=>?_⟩
  ·rw [ah];exact ⟨fun h9=>stop4 h9 (ax4 h13).1,fun h9=>absurd h9 h⟩
  refine ⟨k27,?_⟩;rw [dp];refine ⟨fun h12=>⟨k20,?_⟩,fun h12=>?_⟩
  ·rw [ah];exact ⟨fun h7=>stop6 (by rw [(ax4 h13).1,h9]) h7 (ax6 h12).1,fun h7=>fin (by rw [(ax4 h13).1,h9]) (ax4 h13).2 (by rw [(ax6 h12).1,h7]) (ax6 h12).2⟩
  ·rw [ah];exact ⟨fun _=>stop6 (by rw [(ax4 h13).1,h9]) h12 (ax6' h12),fun h=>absurd h h12⟩
 ·rw [ah];refine ⟨fun _=>?_,fun h=>absurd h h13⟩
  rw [ah];exact ⟨fun _=>stop4 h13 (ax4' h13),fun h=>absurd h h13⟩
end
def Ce:List IV:=[.int .i64 0,.int .u64 0,.int .i64 0,.int .u64 0,.int .i64 0,.int .u64 0,.int .i64 0]
def Iw (e:Int):List IV:=[.int .i64 0,.int .u64 0,.int .i64 0,.int .u64 0,.int .i64 0,.int .u64 0,.int .i64 e]
def Zu (xs:L2) (m i:Int):St:=⟨T 111 [(0,.sl 0),(2,.ptr 1 0),(3,.ptr 2 0),(4,.int .i64 i)],[some (.ro aM xs),some (.var 171 Ce),some (.var 25 (fx m).cells)]⟩
def Rl (xs ds:L2) (m a s i:Int):St:=⟨T 111 [(0,.sl 0),(2,.ptr 1 0),(3,.ptr 2 0),(6,.sl 3),(7,.int .i64 a),(8,.ptr 4 0),(9,.int .i64 i)],[some (.ro aM xs),some (.var 171 Ce),some (.var 25 (fx m).cells),some (.row 25 [.i64,.u64] ds),some (.var 25 (fx s).cells)]⟩
def Me6 (a b c d e f g:Int):List IV:=Mai a b (Maj c d e f (MaY g))
def Mfn (a b c d e f:Int):List IV:=Mai a b (Maj c d e f MbD)
def MgO (a b c d e f g h:Int)(i:OB):OB:=Maz 171 (Mfn a b c d e f) 25 (Ma1 g h []) i
def MjF (a:L2)(b:Int):St:=Ma3 111 2 (Mao 1) [] (Mdb a 171 (Me6 0 0 0 0 0 0 b) [])
theorem rc0 (Λ:FuncId->Nat->Option aB) (d:Nat) (xs:L2) (m i:Int) (k:Out->St->Prop):(round (ai TP { Γ:=pM,Λ:=Λ,Τ:=fun _=>none } d) ak 1 0 (lp TP ak 0) (Zu xs m i) k) =(∀a,Mau a m (∀b,Mek b xs i (∀c,Mel c xs i (∀e,MiJ e i xs (∀f,Mgp f a b c (∀g,Mb7 g f (∀j,Mbq j f (Mcq i xs (MiZ e (jN (fx m::MbN b c []) []) g (k .ret (MjF xs g)) (k .normal (MeU 111 (McJ 0 Mb5 2 (Mao 1) 3 2 4 (Met i) []) xs (MgO 0 0 0 0 0 0 j j [])))) (k MbI (Mct 111 0 Mb5 (Mbs 2 1 3 (Mao 2) []) xs (MgO 0 0 0 0 0 0 m m []))))))))))) :=by delta Maa Mab Mac Mae Maf Mag Mah Mai Maj Mal Mam Mao Map Maq Mar Mat Mau Mav Maz MaA MaB MaG MaM MaS MaV MaW MaX MaY Ma1 Ma2 Ma3 Mbk Mbo Mbp Mbq Mbs Mbv MbD MbI MbN MbV Mb5 Mb7 Mcq Mct McJ McL Mdb Mek Mel Met MeU Me6 Mfn Mft Mgp MgO MiJ MiZ MjF; refine nj ?_; (iterate 6 refine nm ?_); kernel_rfl
def MdM (a:List IntKind):List IntKind:=.i64::.u64::a
def Mfu:IV:=.sl 3
def Mh4 (a:Nat)(b:L2)(c:Nat)(d:List IV)(e:OB):OB:=Mag (.row a (MdM []) b) (.var c d) e
theorem rc2 (Λ:FuncId->Nat->Option aB) (d:Nat) (xs ds:L2) (m s i:Int) (k:Out->St->Prop):(round (ai TP { Γ:=pM,Λ:=Λ,Τ:=fun _=>none } d) ak 1 2 (lp TP ak 2) (Rl xs ds m 0 s i) k) =(∀a,Mau a s (∀b,Mc1 b (MjC xs i) (Mby xs i 4 xs i 5) (∀c,Mau c b (∀e,Mek e xs i (∀f,Mel f xs i (∀g,MfL g xs i (∀j,MfM j xs i (∀l,MgQ l a c (∀n,Mfs n a c (∀o,MiJ o i xs (∀p,Mdc p (Ma2 e f) (Ma2 g j) (Mcq i xs (Mda o o o o (Mfe e f g j []) (McL p (k .ret (MjF xs p)) (McZ s b [] l (k .ret (MjF xs l)) (k .normal (Mct 111 0 Mb5 (Mbs 2 1 3 (Mao 2) (McJ 6 Mfu 7 Mdg 8 4 9 (Met i) [])) xs (MgO 0 0 0 0 0 0 m m (Mh4 25 ds 25 (MiK n) []))))))) (k Me0 (MeU 111 (Mfd 0 Mb5 2 1 (Ma4 3 2 6 Mfu 7 Mdg 8 (Mao 4) [])) xs (MgO 0 0 0 0 0 0 m m (Mh4 25 ds 25 (MiK s) [])))))))))))))))) :=by delta Maa Mab Mac Mae Maf Mag Mah Mai Maj Mal Mam Mao Map Maq Mar Mat Mau Mav Maz MaA MaB MaE MaG MaM MaS MaV MaW MaX MaY Ma1 Ma2 Ma3 Ma4 Mbk Mbo Mbp Mbq Mbs Mbv Mbw Mby MbD MbG MbN Mb5 Mb7 Mcq Mcs Mct McJ McL McZ Mc1 Mda Mdb Mdc Mdg MdM Mek Mel Met MeU Me0 Me6 Mfd Mfe Mfn Mfs Mfu MfL MfM MgO MgQ Mh4 MiJ MiK MjC MjF; refine nj ?_; refine nm ?_; refine nj ?_; (iterate 8 refine nm ?_); kernel_rfl
theorem rc3 (Λ:FuncId->Nat->Option aB) (d:Nat) (xs ds:L2) (m s i:Int) (k:Out->St->Prop):(round (ai TP { Γ:=pM,Λ:=Λ,Τ:=fun _=>none } d) ak 1 2 (lp TP ak 2) (Rl xs ds m 1 s i) k) =(∀a,Mau a s (∀b,Mc1 b (MjC xs i) (Mby xs i 6 xs i 7) (∀c,Mau c b (∀e,Mek e xs i (∀f,Mel f xs i (∀g,Mgh g xs i (∀j,Mgi j xs i (∀l,MgQ l a c (∀n,Mfs n a c (∀o,MiJ o i xs (∀p,Mdc p (Ma2 e f) (Ma2 g j) (Mcq i xs (Mfw o o o o o o (Mfe e f g j []) (McL p (k .ret (MjF xs p)) (McZ s b [] l (k .ret (MjF xs l)) (k .normal (Mct 111 0 Mb5 (Mbs 2 1 3 (Mao 2) (McJ 6 Mfu 7 Mfk 8 4 9 (Met i) [])) xs (MgO 0 0 0 0 0 0 m m (Mh4 25 ds 25 (MiK n) []))))))) (k Me0 (MeU 111 (Mfd 0 Mb5 2 1 (Ma4 3 2 6 Mfu 7 Mfk 8 (Mao 4) [])) xs (MgO 0 0 0 0 0 0 m m (Mh4 25 ds 25 (MiK s) [])))))))))))))))) :=by delta Maa Mab Mac Mae Maf Mag Mah Mai Maj Mal Mam Mao Map Maq Mar Mat Mau Mav Maz MaA MaB MaE MaG MaM MaS MaV MaW MaX MaY Ma1 Ma2 Ma3 Ma4 Mbk Mbo Mbp Mbq Mbs Mbv Mbw Mby MbD MbG MbN MbV Mb5 Mb7 Mcq Mcs Mct McJ McL McZ Mc1 Mdb Mdc MdM Mek Mel Met MeU Me0 Me6 Mfd Mfe Mfk Mfn Mfs Mfu Mfw Mgh Mgi MgO MgQ Mh4 MiJ MiK MjC MjF; refine nj ?_; refine nm ?_; refine nj ?_; (iterate 8 refine nm ?_); kernel_rfl
def N6 (a:Int):Nat:=if a=0 then 4 else 6
def pC0 (n0:Nat) (st:St) (xs:L2):Prop:=aI aM xs/\xs.length<=maxLen/\ja xs/\n0=1/\st=Zu xs 0 0
def pC2 (n0:Nat) (st:St) (xs ds:L2) (m a:Int):Prop:=aI aM xs/\xs.length<=maxLen/\ja xs/\(a=0∨a=1)/\n0=1/\st=Rl xs ds m a 0 0
def Lc0:aB:=fun n0 st K=>∃xs,pC0 n0 st xs/\br (ca 0 xs != 0) (K .ret ⟨T 111 [(2,.ptr 1 0)],[some (.ro aM xs),some (.var 171 (Iw (ca 0 xs)))]⟩) (K (.exit 0) ⟨T 111 [(0,.sl 0),(2,.ptr 1 0),(3,.ptr 2 0)],[some (.ro aM xs),some (.var 171 Ce),some (.var 25 (fx (cZ 0 xs)).cells)]⟩)
def Lc2:aB:=fun n0 st K=>∃xs ds m a,pC2 n0 st xs ds m a/\br (ca (N6 a) xs != 0) (K .ret ⟨T 111 [(2,.ptr 1 0)],[some (.ro aM xs),some (.var 171 (Iw (ca (N6 a) xs)))]⟩) (K (.exit 4) ⟨T 111 [(0,.sl 0),(2,.ptr 1 0),(3,.ptr 2 0),(6,.sl 3),(7,.int .i64 a),(8,.ptr 4 0)],[some (.ro aM xs),some (.var 171 Ce),some (.var 25 (fx m).cells),some (.row 25 [.i64,.u64] ds),some (.var 25 (fx (cZ (N6 a) xs)).cells)]⟩)
def i4 (xs ds:L2) (m a:Int):St:=⟨T 111 [(0,.sl 0),(2,.ptr 1 0),(3,.ptr 2 0),(6,.sl 3),(7,.int .i64 a)],[some (.ro aM xs),some (.var 171 Ce),some (.var 25 (fx m).cells),some (.row 25 [.i64,.u64] ds)]⟩
def Ii (x:Int):L1:=[x / 18446744073709551616,x % 18446744073709551616]
def Hr (w:Nat) (xs:L2) (m:Int):Int:=if ca w xs≠0 then ca w xs else iY (cZ w xs) m
def pC1 (n0:Nat) (st:St) (xs:L2) (m:Int):Prop:=aI aM xs/\xs.length<=maxLen/\ja xs/\ag m/\n0=1/\st=i4 xs [] m 0
def Lc1:aB:=fun n0 st K=>∃xs m,pC1 n0 st xs m/\br (Hr 4 xs m != 0) (K .ret ⟨T 111 [(2,.ptr 1 0)],[some (.ro aM xs),some (.var 171 (Iw (Hr 4 xs m)))]⟩) (br (Hr 6 xs m != 0) (K .ret ⟨T 111 [(2,.ptr 1 0)],[some (.ro aM xs),some (.var 171 (Iw (Hr 6 xs m)))]⟩) (K (.exit 2) ⟨T 111 [(2,.ptr 1 0),(3,.ptr 2 0),(6,.sl 3)],[some (.ro aM xs),some (.var 171 Ce),some (.var 25 (fx m).cells),some (.row 25 [.i64,.u64] [Ii (fF (cZ 4 xs) m),Ii (fF (cZ 6 xs) m)])]⟩))
def Jo:Know:={ Γ:=pM,Λ:=fun f i=>if f=ak then (if i=0 then some Lc0 else if i=1 then some Lc1 else if i=2 then some Lc2 else none) else none,Τ:=fun _=>none }
def Mh1 (a:Int)(b:L2)(c:Int)(d:L2):Int:=Ma2 (Mah (cZ (N6 a) b)) (Mae (cZ (N6 c) d))
theorem rc1 (d:Nat) (xs ds:L2) (m a:Int) (k:Out->St->Prop):(round (ai TP Jo d) ak 1 1 (lp TP ak 1) (i4 xs ds m a) k) =(Mbv a 2 (∃b:L2,∃c:L2,∃e:Int,∃f:Int,Mcs (pC2 1 (Mct 111 0 Mb5 (Mbs 2 1 3 (Mao 2) (McJ 6 Mfu 7 (Maa a) 8 4 9 Mdg [])) xs (MgO 0 0 0 0 0 0 m m (Mh4 25 ds 25 MiD []))) b c e f) (ca (N6 f) b) (k .ret (MjF b (ca (N6 f) b))) (McZ (cZ (N6 f) b) e [] (iY (Mh1 f b f b) (Mi8 e)) (k .ret (MjF b (iY (Mh1 f b f b) (Mi8 e)))) (MgG c 1 16 (k .normal (Ma3 111 0 Mb5 (Mg5 2 1 3 2 6 3 7 (McR f)) (Mdb b 171 (Mfn 0 0 0 0 0 0) (Mba 25 (MiK e) 25 (MdM []) (MhA c 2 [Mah (fF (Mh1 f b f b) (Mi8 e)),Mae (fF (Mh1 f b f b) (Mi8 e))]) []))))))) (k Mee (Ma3 111 2 (Mao 1) (Mbs 3 2 6 Mfu []) (Mdb xs 171 (Mfn 0 0 0 0 0 0) (Mba 25 (MiK m) 25 (MdM []) ds []))))) :=by kernel_rfl
theorem H3 (xs:L2) (K:KP):(comes TP Jo 3 ak [.sl 0] [.ro aM xs] K) =(∀a,Mbo a ((0:Int)<=0/\0 < (↑2:Int)) (∀b,Mbo b ((0:Int)<=1/\1 < (↑2:Int)) (Mcm (Mat xs) 0 (K (.agg (Me6 0 0 0 0 0 0 1)) []) (∃c:L2,Mcs (pC0 1 (MeU 111 (McJ 0 Mb5 2 (Mao 1) 3 2 4 Mdg []) xs (Maz 171 (Mfn 0 0 0 0 0 0) 25 MiD [])) c) (ca 0 c) (K (.agg (Me6 0 0 0 0 0 0 (ca 0 c))) []) (∃d:L2,∃e:Int,Mcs (pC1 1 (Ma3 111 0 Mb5 (Mg5 2 1 3 2 6 3 7 0) (Mdb c 171 (Mfn 0 0 0 0 0 0) (Mcz 25 (MiK (cZ 0 c)) 25 (MdM []) []))) d e) (Hr 4 d e) (K (.agg (Me6 0 0 0 0 0 0 (Hr 4 d e))) []) (McL (Hr 6 d e) (K (.agg (Me6 0 0 0 0 0 0 (Hr 6 d e))) []) (MaE a a b b (K (.agg (Mfn (Mah e) (Mae e) (Mah (fF (cZ 4 d) e)) (Mae (fF (cZ 4 d) e)) (Mah (fF (cZ 6 d) e)) (Mae (fF (cZ 6 d) e)))) [])))))))) :=by delta Maa Mab Mac Mae Maf Mag Mah Mai Maj Mam Mao Map Mat Mav Maz MaE MaG MaM MaV MaW MaY Ma1 Ma3 Ma4 Mbl Mbo MbD Mb5 Mcm Mcs Mcz McJ McL Mdb Mdg MdM MeU Me6 Mfn Mg5 MiD MiK; refine nm ?_; refine nm ?_; kernel_rfl
section
open Go.IntWalk
theorem lc0 (d n0:Nat):aG (ai TP Jo d) ak n0 0 (lp TP ak 0) Lc0:=by
 intro st K hst;obtain ⟨xs,⟨hr,hm,hmay,rfl,rfl⟩,hK⟩:=hst;have hm':xs.length<=9223372036854775807:=hm;refine aC (fun p:Int × Nat=>Zu xs p.1 p.2) (Jq 0 xs) (fun p=>xs.length - p.2) ?_ (a:=(0,0)) ⟨by simp,bg,rfl⟩
 rintro ⟨a,i⟩ ⟨h1,h2,h3⟩ k hn hk;simp only at h1 h2 h3;show round (ai TP { Γ:=pM,Λ:=_,Τ:=fun _=>none } d) _ _ _ _ (Zu xs a i) k
 rw [rc0]; delta Maa Mab Mac Mae Maf Mag Mah Mai Maj Mal Mam Mao Map Maq Mar Mat Mau Mav Maz MaA MaB MaG MaM MaS MaV MaW MaX MaY Ma1 Ma2 Ma3 Mbk Mbo Mbp Mbq Mbs Mbv MbD MbI MbN MbV Mb5 Mb7 Mcq Mct McJ McL Mdb Mek Mel Met MeU Me6 Mfn Mft Mgp MgO MiJ MiZ MjF;rintro a rfl t2 e2 t3 e3 t4 e4 t5 e5 t6 e6 t7 e7;rw [al];constructor
 ·intro hi;have hi':i < xs.length:=by omega
  have et:(i:Int).toNat=i:=by omega
  rw [et] at e2 e3;have hmi:=(hmay _ (List.getElem_mem hi')).1;have ex:t2*18446744073709551616+t3=fr xs[i] 0:=by rw [e2,e3]; exact bA hi' 0
  have ok3:aj t3:=by rw [e3]; exact cH hr i 1 (by decide) rfl
  have p4:t4:=by rw [e4]; omega
  refine ⟨p4,p4,⟨a,fr xs[i] 0,by rw [ae6 ok3 ex.symm],rfl,h2,hmi⟩,?_⟩
  rw [ex] at e5;rw [l8 0 hi',if_neg (show ¬ Kg 0 xs[i]≠0 from fun h=>h rfl),show Js 0 xs[i]=fr xs[i] 0 from rfl,← e5,← e6] at h3
  rw [ah];constructor
  ·intro hno;rw [if_pos hno] at h3;have hE:ca 0 xs=t6:=(congrArg Prod.snd h3).symm;rw [hE,ah] at hK;exact hk _ _ (by simp) (hK.1 hno)
  ·intro hmy;rw [if_neg (by simpa using hmy)] at h3
   have hmf:ag t5:=ff.1 (by rw [← e6]; exact hmy)
   rw [mo hi' hm,e7,abY hmf];exact hn (t5,i+1) ⟨hi',hmf,h3⟩ (by simp; omega)
 ·intro hi;have hi':¬ i < xs.length:=by omega
  rw [l7 0 hi'] at h3;have hE:ca 0 xs=0:=(congrArg Prod.snd h3).symm;have hN:cZ 0 xs=a:=(congrArg Prod.fst h3).symm;rw [hE,hN,ah] at hK;exact hk _ _ (by simp) (hK.2 rfl)
theorem aaF (d:Nat) {xs ds:L2} {m:Int} {K:Out->St->Prop} (hr:aI aM xs) (hm:xs.length<=maxLen) (hmay:ja xs)
  (hK:br (ca 4 xs != 0) (K .ret ⟨T 111 [(2,.ptr 1 0)],[some (.ro aM xs),some (.var 171 (Iw (ca 4 xs)))]⟩) (K (.exit 4) ⟨T 111 [(0,.sl 0),(2,.ptr 1 0),(3,.ptr 2 0),(6,.sl 3),(7,.int .i64 0),(8,.ptr 4 0)],[some (.ro aM xs),some (.var 171 Ce),some (.var 25 (fx m).cells),some (.row 25 [.i64,.u64] ds),some (.var 25 (fx (cZ 4 xs)).cells)]⟩)):
  ∃n,oh (exec (ai TP Jo d) ak 1 (Nat.lor (lp TP ak 2).1 (gen (lp TP ak 2).2)) (2+1) (lp TP ak 2).2) (gc 1 (jh (Nat.lor (lp TP ak 2).1 (gen (lp TP ak 2).2)))) n (Rl xs ds m 0 0 0) fun o st'=>K o (gc 1 (agF (ai TP Jo d).P ak (lp TP ak 2).1 o) st'):=by
 have hm':xs.length<=9223372036854775807:=hm;refine aC (fun p:Int × Nat=>Rl xs ds m 0 p.1 p.2) (Jq 4 xs) (fun p=>xs.length - p.2) ?_ (a:=(0,0)) ⟨by simp,bg,rfl⟩
 rintro ⟨a,i⟩ ⟨h1,h2,h3⟩ k hn hk;simp only at h1 h2 h3;show round (ai TP { Γ:=pM,Λ:=_,Τ:=fun _=>none } d) _ _ _ _ (Rl xs ds m 0 a i) k
 rw [rc2]; delta Maa Mab Mac Mae Maf Mag Mah Mai Maj Mal Mam Mao Map Maq Mar Mat Mau Mav Maz MaA MaB MaE MaG MaM MaS MaV MaW MaX MaY Ma1 Ma2 Ma3 Ma4 Mbk Mbo Mbp Mbq Mbs Mbv Mbw Mby MbD MbG MbN Mb5 Mb7 Mcq Mcs Mct McJ McL McZ Mc1 Mda Mdb Mdc Mdg MdM Mek Mel Met MeU Me0 Me6 Mfd Mfe Mfn Mfs Mfu MfL MfM MgO MgQ Mh4 MiJ MiK MjC MjF;rintro a rfl t2 e2 j3 q3 t4 e4 t5 e5 t6 e6 t7 e7 t8 e8 t9 e9 t10 e10 t11 e11;rw [al];constructor
 ·intro hi;have hi':i < xs.length:=by omega
  have et:(i:Int).toNat=i:=by omega
  rw [et] at e2 e4 e5 e6 e7;have hmi:=hmay _ (List.getElem_mem hi');have ex:t4*18446744073709551616+t5=fr xs[i] 0:=by rw [e4,e5]; exact bA hi' 0
  have ey:t6*18446744073709551616+t7=fr xs[i] 4:=by rw [e6,e7]; exact bA hi' 4
  have ok5:aj t5:=by rw [e5]; exact cH hr i 1 (by decide) rfl
  have ok7:aj t7:=by rw [e7]; exact cH hr i 5 (by decide) rfl
  have T2:t2=aep (az (fr xs[i] 0) (fr xs[i] 4)):=by rw [e2,bA hi' 0,bA hi' 4]
  have T11:t11=bG (az (fr xs[i] 0) (fr xs[i] 4)):=by rw [e11,ex,ey]
  have p10:t10:=by rw [e10]; omega
  refine ⟨p10,p10,p10,p10,⟨fr xs[i] 0,fr xs[i] 4,by rw [ae6 ok5 ex.symm,ae6 ok7 ey.symm],rfl,hmi.1,hmi.2.1⟩,?_⟩
  rw [l8 4 hi',show Kg 4 xs[i]=bG (az (fr xs[i] 0) (fr xs[i] 4)) from rfl,show Js 4 xs[i]=aep (az (fr xs[i] 0) (fr xs[i] 4)) from rfl,← T11,← T2] at h3
  rw [q3] at e8 e9;rw [← e8] at h3;rw [ah];constructor
  ·intro hno;rw [if_pos hno] at h3;have hE:ca 4 xs=t11:=(congrArg Prod.snd h3).symm;rw [hE,ah] at hK;exact hk _ _ (by simp) (hK.1 hno)
  intro h11;rw [if_neg (by simpa using h11)] at h3
  refine ⟨aU h2 (by rw [T2]; exact dI _),?_⟩
  rw [ah];constructor
  ·intro hno;rw [if_pos hno] at h3;have hE:ca 4 xs=t8:=(congrArg Prod.snd h3).symm;rw [hE,ah] at hK;exact hk _ _ (by simp) (hK.1 hno)
  ·intro hmy;rw [if_neg (by simpa using hmy)] at h3
   have hmf:ag (a+t2):=ff.1 (by rw [← e8]; exact hmy)
   rw [mo hi' hm,e9,abY hmf];exact hn (a+t2,i+1) ⟨hi',hmf,h3⟩ (by simp; omega)
 ·intro hi;have hi':¬ i < xs.length:=by omega
  rw [l7 4 hi'] at h3;have hE:ca 4 xs=0:=(congrArg Prod.snd h3).symm;have hN:cZ 4 xs=a:=(congrArg Prod.fst h3).symm;rw [hE,hN,ah] at hK;exact hk _ _ (by simp) (hK.2 rfl)
theorem aaE (d:Nat) {xs ds:L2} {m:Int} {K:Out->St->Prop} (hr:aI aM xs) (hm:xs.length<=maxLen) (hmay:ja xs)
  (hK:br (ca 6 xs != 0) (K .ret ⟨T 111 [(2,.ptr 1 0)],[some (.ro aM xs),some (.var 171 (Iw (ca 6 xs)))]⟩) (K (.exit 4) ⟨T 111 [(0,.sl 0),(2,.ptr 1 0),(3,.ptr 2 0),(6,.sl 3),(7,.int .i64 1),(8,.ptr 4 0)],[some (.ro aM xs),some (.var 171 Ce),some (.var 25 (fx m).cells),some (.row 25 [.i64,.u64] ds),some (.var 25 (fx (cZ 6 xs)).cells)]⟩)):
  ∃n,oh (exec (ai TP Jo d) ak 1 (Nat.lor (lp TP ak 2).1 (gen (lp TP ak 2).2)) (2+1) (lp TP ak 2).2) (gc 1 (jh (Nat.lor (lp TP ak 2).1 (gen (lp TP ak 2).2)))) n (Rl xs ds m 1 0 0) fun o st'=>K o (gc 1 (agF (ai TP Jo d).P ak (lp TP ak 2).1 o) st'):=by
 have hm':xs.length<=9223372036854775807:=hm;refine aC (fun p:Int × Nat=>Rl xs ds m 1 p.1 p.2) (Jq 6 xs) (fun p=>xs.length - p.2) ?_ (a:=(0,0)) ⟨by simp,bg,rfl⟩
 rintro ⟨a,i⟩ ⟨h1,h2,h3⟩ k hn hk;simp only at h1 h2 h3;show round (ai TP { Γ:=pM,Λ:=_,Τ:=fun _=>none } d) _ _ _ _ (Rl xs ds m 1 a i) k
 rw [rc3]; delta Maa Mab Mac Mae Maf Mag Mah Mai Maj Mal Mam Mao Map Maq Mar Mat Mau Mav Maz MaA MaB MaE MaG MaM MaS MaV MaW MaX MaY Ma1 Ma2 Ma3 Ma4 Mbk Mbo Mbp Mbq Mbs Mbv Mbw Mby MbD MbG MbN MbV Mb5 Mb7 Mcq Mcs Mct McJ McL McZ Mc1 Mdb Mdc MdM Mek Mel Met MeU Me0 Me6 Mfd Mfe Mfk Mfn Mfs Mfu Mfw Mgh Mgi MgO MgQ Mh4 MiJ MiK MjC MjF;rintro a rfl t2 e2 j3 q3 t4 e4 t5 e5 t6 e6 t7 e7 t8 e8 t9 e9 t10 e10 t11 e11;rw [al];constructor
 ·intro hi;have hi':i < xs.length:=by omega
  have et:(i:Int).toNat=i:=by omega
  rw [et] at e2 e4 e5 e6 e7;have hmi:=hmay _ (List.getElem_mem hi');have ex:t4*18446744073709551616+t5=fr xs[i] 0:=by rw [e4,e5]; exact bA hi' 0
  have ey:t6*18446744073709551616+t7=fr xs[i] 6:=by rw [e6,e7]; exact bA hi' 6
  have ok5:aj t5:=by rw [e5]; exact cH hr i 1 (by decide) rfl
  have ok7:aj t7:=by rw [e7]; exact cH hr i 7 (by decide) rfl
  have T2:t2=aep (az (fr xs[i] 0) (fr xs[i] 6)):=by rw [e2,bA hi' 0,bA hi' 6]
  have T11:t11=bG (az (fr xs[i] 0) (fr xs[i] 6)):=by rw [e11,ex,ey]
  have p10:t10:=by rw [e10]; omega
  refine ⟨p10,p10,p10,p10,p10,p10,⟨fr xs[i] 0,fr xs[i] 6,by rw [ae6 ok5 ex.symm,ae6 ok7 ey.symm],rfl,hmi.1,hmi.2.2⟩,?_⟩
  rw [l8 6 hi',show Kg 6 xs[i]=bG (az (fr xs[i] 0) (fr xs[i] 6)) from rfl,show Js 6 xs[i]=aep (az (fr xs[i] 0) (fr xs[i] 6)) from rfl,← T11,← T2] at h3
  rw [q3] at e8 e9;rw [← e8] at h3;rw [ah];constructor
  ·intro hno;rw [if_pos hno] at h3;have hE:ca 6 xs=t11:=(congrArg Prod.snd h3).symm;rw [hE,ah] at hK;exact hk _ _ (by simp) (hK.1 hno)
  intro h11;rw [if_neg (by simpa using h11)] at h3
  refine ⟨aU h2 (by rw [T2]; exact dI _),?_⟩
  rw [ah];constructor
  ·intro hno;rw [if_pos hno] at h3;have hE:ca 6 xs=t8:=(congrArg Prod.snd h3).symm;rw [hE,ah] at hK;exact hk _ _ (by simp) (hK.1 hno)
  ·intro hmy;rw [if_neg (by simpa using hmy)] at h3
   have hmf:ag (a+t2):=ff.1 (by rw [← e8]; exact hmy)
   rw [mo hi' hm,e9,abY hmf];exact hn (a+t2,i+1) ⟨hi',hmf,h3⟩ (by simp; omega)
 ·intro hi;have hi':¬ i < xs.length:=by omega
  rw [l7 6 hi'] at h3;have hE:ca 6 xs=0:=(congrArg Prod.snd h3).symm;have hN:cZ 6 xs=a:=(congrArg Prod.fst h3).symm;rw [hE,hN,ah] at hK;exact hk _ _ (by simp) (hK.2 rfl)
theorem lc2 (d n0:Nat):aG (ai TP Jo d) ak n0 2 (lp TP ak 2) Lc2:=by
 intro st K hst;obtain ⟨xs,ds,m,a,⟨hr,hm,hmay,ha,rfl,rfl⟩,hK⟩:=hst;rcases ha with rfl | rfl
 ·exact aaF d hr hm hmay hK
 ·exact aaE d hr hm hmay hK
theorem AK (x:Int):x / 18446744073709551616*18446744073709551616+x % 18446744073709551616=x:=by omega
theorem lc1 (d n0:Nat):aG (ai TP Jo d) ak n0 1 (lp TP ak 1) Lc1:=by
 intro st K hst;obtain ⟨xs,m,⟨hr,hm,hmay,hmm,rfl,rfl⟩,hK⟩:=hst;rw [ah,ah] at hK;refine aC (fun i:Nat=>i4 xs (if i=0 then [] else if i=1 then [Ii (fF (cZ 4 xs) m)] else [Ii (fF (cZ 4 xs) m),Ii (fF (cZ 6 xs) m)]) m i) (fun i=>i<=2/\(1<=i->Hr 4 xs m=0)/\(2<=i->Hr 6 xs m=0)) (fun i=>2 - i) ?_ (a:=0) ⟨by omega,fun h=>by omega,fun h=>by omega⟩
 rintro i ⟨hi,h4,h6⟩ k hn hk;show round (ai TP Jo d) _ _ _ _ _ k;rw [rc1]; delta Maa Mab Mac Mae Maf Mag Mah Mai Maj Mal Mam Mao Map Maq Maz MaA MaG MaM MaU MaV MaW MaY Ma1 Ma2 Ma3 Ma4 Ma6 Mba Mbl Mbp Mbs Mbv Mbw MbD MbG Mb5 Mcs Mct McJ McR McZ Mdb Mdg MdM Mee Me6 Mfn Mfu MgG MgO Mg5 MhA Mh1 Mh4 MiD MiK Mi8 MjF;rcases (show i=0∨i=1∨i=2 by omega) with rfl | rfl | rfl
 ·refine SI (by decide) ⟨xs,[],m,0,⟨hr,hm,hmay,.inl rfl,rfl,rfl⟩,?_⟩
  show br (ca 4 xs != 0) (k .ret _) _;rw [AK,AK,ah,show N6 0=4 from rfl]
  have hs:Hr 4 xs m=if ca 4 xs≠0 then ca 4 xs else iY (cZ 4 xs) m:=rfl
  refine ⟨fun h=>?_,fun h0=>⟨aU (jA 4 xs) hmm,?_⟩⟩
  ·rw [if_pos h] at hs;rw [hs] at hK;exact hk _ _ (by simp) (hK.1 h)
  ·rw [if_neg (by simpa using h0)] at hs
   rw [ah,← hs];refine ⟨fun h=>hk _ _ (by simp) (hK.1 h),fun h=>⟨by decide,?_⟩⟩
   exact hn 1 ⟨by omega,fun _=>h,fun h=>by omega⟩ (by omega)
 ·refine SI (by decide) ⟨xs,[Ii (fF (cZ 4 xs) m)],m,1,⟨hr,hm,hmay,.inr rfl,rfl,rfl⟩,?_⟩
  show br (ca 6 xs != 0) (k .ret _) _;rw [AK,AK,ah,show N6 1=6 from rfl]
  have hs:Hr 6 xs m=if ca 6 xs≠0 then ca 6 xs else iY (cZ 6 xs) m:=rfl
  have z4:=h4 (by omega)
  have hK2:=hK.2 z4;refine ⟨fun h=>?_,fun h0=>⟨aU (jA 6 xs) hmm,?_⟩⟩
  ·rw [if_pos h] at hs;rw [hs] at hK2;exact hk _ _ (by simp) (hK2.1 h)
  ·rw [if_neg (by simpa using h0)] at hs
   rw [ah,← hs];refine ⟨fun h=>hk _ _ (by simp) (hK2.1 h),fun h=>⟨by show (1+1)*16<=140737488355328; decide,?_⟩⟩
   exact hn 2 ⟨by omega,fun _=>z4,fun _=>h⟩ (by omega)
 ·refine gK (by decide) ?_
  have hK2:=hK.2 (h4 (by omega))
  exact hk _ _ (by simp) (hK2.2 (h6 (by omega)))
theorem ti {N:Know} (hΓ:∀ g sp,N.Γ g=some sp->aa TP g sp) (hL:∀ f i S,N.Λ f i=some S->∀ d n0,aG (ai TP N d) f n0 i (lp TP f i) S) (hΤ:∀ g G,N.Τ g=some G->cf TP g G) (d:Nat) (hb:∀ f,N.back f=true->lY TP f:=by intro f h; cases h):KnowOk TP N d:=
 ⟨mixedOrders,hΓ,fun d' _ f i S n0 hS=>hL f i S hS d' n0,hΤ,hb⟩
theorem UE:KnowOk TP Jo 3:=by
 refine ti (fun g sp h=>lW h) ?_ (fun g G h=>by cases h) 3
 intro f i S hS d n0;simp only [Jo] at hS;split at hS
 ·rename_i hf;subst hf;split at hS
  ·rename_i hi; subst hi; cases hS; exact lc0 d n0
  split at hS
  ·rename_i hi; subst hi; cases hS; exact lc1 d n0
  split at hS
  ·rename_i hi; subst hi; cases hS; exact lc2 d n0
  ·cases hS
 ·cases hS
theorem rW {xs:L2} {e:Int} (he:e≠0) (h:cE xs=e):(Lq xs,([]:List aq))=(.agg [.int .i64 0,.int .u64 0,.int .i64 0,.int .u64 0,.int .i64 0,.int .u64 0,.int .i64 e],[]):=by
 unfold Lq cM cX cY;rw [h,if_neg he,if_neg he,if_neg he]
 rfl
theorem Jg:aa TP ak Kp:=by
 refine ab (N:=Jo) 3 UE ?_;rintro l bs _ hB ⟨xs,rfl,rfl,hmay⟩;have hb:aI aM xs/\0 < aM.length/\xs.length<=maxLen:=hB (.ro aM xs) (List.mem_singleton.2 rfl);show comes _ _ _ _ _ _ fun v bs'=>(Lq xs,([]:List aq))=(v,bs')
 rw [H3]; delta Maa Mab Mac Mae Maf Mag Mah Mai Maj Mam Mao Map Mat Mav Maz MaE MaG MaM MaV MaW MaY Ma1 Ma3 Ma4 Mbl Mbo MbD Mb5 Mcm Mcs Mcz McJ McL Mdb Mdg MdM MeU Me6 Mfn Mg5 MiD MiK;rintro t1 e1 t2 e2;have p1:t1:=by rw [e1]; decide
 have p2:t2:=by rw [e2]; decide
 rw [dp];refine ⟨fun h=>rW (by decide) (by unfold cE; rw [if_pos (by omega)]),fun h=>?_⟩
 have n0:¬ xs.length=0:=by omega
 refine ⟨xs,⟨hb.1,hb.2.2,hmay,rfl,rfl⟩,?_⟩;rw [ah];refine ⟨fun h1=>rW h1 (by unfold cE; rw [if_neg n0,if_pos h1]),fun h1=>?_⟩
 refine ⟨xs,cZ 0 xs,⟨hb.1,hb.2.2,hmay,jA 0 xs,rfl,rfl⟩,?_⟩;have hax:∀ w,Hr w xs (cZ 0 xs)=uZ w xs:=by
  intro w;unfold Hr uZ;by_cases h:ca w xs=0
  ·rw [if_neg (by simpa using h),if_pos h]
  ·rw [if_pos h,if_neg h]
 have hcE:cE xs=if uZ 4 xs≠0 then uZ 4 xs else uZ 6 xs:=by unfold cE; rw [if_neg n0,if_neg (by simpa using h1)]
 rw [hax,hax,ah];refine ⟨fun h4=>rW h4 (by rw [hcE,if_pos h4]),fun h4=>?_⟩
 rw [if_neg (by simpa using h4)] at hcE
 rw [ah];refine ⟨fun h6=>rW h6 hcE,fun h6=>⟨p1,p1,p2,p2,?_⟩⟩
 have z:∀ w,uZ w xs=0->Jv w xs=fF (cZ w xs) (cZ 0 xs):=by
  intro w hw;unfold uZ at hw;unfold Jv;by_cases h:ca w xs=0
  ·rw [if_pos h]
  ·rw [if_neg h] at hw; exact absurd hw h
 have h0:cE xs=0:=hcE.trans h6;unfold Lq cM cX cY;rw [h0,if_pos rfl,if_pos rfl,if_pos rfl,z 4 h4,z 6 h6]
end
def jc (x:Int):Int:=mx .i64 (-2147483648) (mn .i64 (x / 18446744073709551616) 2147483647)+2147483648
def kq (A:BitVec 64):Nat->BitVec 64
 | 0=>0
 | n+1=>kq A n ||| ((A >>> n) &&& 1) <<< (2*n)
def TC (x:Int):Int:=((kq (BitVec.ofInt 64 x) 32).toNat:Int)
def PY (a b:Int) (n:Nat):BitVec 64:=kq (BitVec.ofInt 64 a) n ||| (kq (BitVec.ofInt 64 b) n) <<< 1
def qt (a b:Int):Int:=((PY a b 32).toNat:Int)
def vM (n:Int):Prop:=0<=n/\n < 4294967296
def T3 (l:List IV) (bs:List aq):Prop:=∃x,l=[.int .u32 x]/\bs=[]/\vM x
def RQ:Vs.Spec:=⟨T3,fun l _=>(.int .u64 (TC (ae l 0 0)),[])⟩
def Mhd (a:BitVec 64)(b c:Int):Int:=Mas (McQ (MaI (Mas (Mbt a (MaI (Mas b))))) (MaI c))
theorem JQ (x:Int) (K:KP):(comes TP mI 3 jQ [.int .u32 x] [] K) =(∀a,Mau a (Mhd (MaI (Mas x)) (Mas x*65536) 281470681808895) (∀b,Mau b (Mhd (MaI a) (a*256) 71777214294589695) (∀c,Mau c (Mhd (MaI b) (b*16) 1085102592571150095) (∀d,Mau d (Mhd (MaI c) (c*4) 3689348814741910323) (Mfw (MaS 0 0 0 5) ((0:Int)<=0) ((0:Int)<=16) (MaS 0 1 1 5) ((0:Int)<=1) ((0:Int)<=8) (MaS 0 2 2 5) (Ma9 ((0:Int)<=2) ((0:Int)<=4) (MaS 0 3 3 5) ((0:Int)<=3) ((0:Int)<=2) (MaS 0 4 4 5) ((0:Int)<=4) ((0:Int)<=1) (K (Mab (Mhd (MaI d) (d*2) 6148914691236517205)) []))))))) :=by delta Mab Mas Mau Mav MaE MaI MaS Ma9 Mbt MbV McQ Mfw Mhd; (iterate 4 refine nm ?_); kernel_rfl
def K4 (l:List IV) (bs:List aq):Prop:=∃x,l=[fx x]/\bs=[]/\wW x
def F2:Vs.Spec:=⟨K4,fun l _=>(.int .u32 (jc (v2 l 0)),[])⟩
def McP (a:Int):IV:=.int .u32 a
theorem Wc (x:Int) (K:KP):(comes TP mI 3 mZ [fx x] [] K) =(∀a,Mau a x (Mgb x/\K (McP (IntKind.wrap .u32 (Mbp (McD (-2147483648) (mn .i64 (Mah a) 2147483647)) 2147483648))) [])) :=by delta Mah Mal Mau Mbp Mbw McD McP Mgb; refine nj ?_; kernel_rfl
theorem Tg (x:Int) (K:KP):(comes TP mI 3 gS [fx x] [] K) =(∀a,Mau a x (Mgb x/\K (McP (IntKind.wrap .u32 (Mbp (McD (-2147483648) (mn .i64 (Mah a) 2147483647)) 2147483648))) [])) :=by delta Mah Mal Mau Mbp Mbw McD McP Mgb; refine nj ?_; kernel_rfl
def JC:FuncId->Option Vs.Spec:=fun g=>if g=jQ then some RQ else if g=mZ then some F2 else if g=gS then some F2 else pM g
def Yp (a b n i:Int):St:=⟨T 32 [(0,.int .u32 a),(1,.int .u32 b),(5,.int .u64 n),(6,.int .i64 i)],[]⟩
theorem Z9 (Λ:FuncId->Nat->Option aB) (d:Nat) (a b n i:Int) (k:Out->St->Prop):(round (ai TP { Γ:=JC,Λ:=Λ,Τ:=fun _=>none } d) bS 0 0 (lp TP bS 0) (Yp a b n i) k) =(∀c,Mau c (Mh6 i) (∀e,Mfi e (McR (Mal (2*i))) i 32 (MaE (0<=i) (0<=Mal (2*i)) (0<=i) (0<=e) (k .normal (MaM 32 (MaG 0 (McP a) 1 (McP b) 5 (Mab (McF (MaI n) (Mbt (MaI (Mas (MhR (Mas a) c 1*Mh6 (Mal (2*i))))) (MaI (Mas (MhR (Mas b) c 1*Mh6 e)))))) 6 (Met i) []) []))) (k MbI (Ma3 32 5 (Mab n) [] [])))) :=by delta Maa Mab Mal Map Mas Mau Mav MaA MaE MaG MaI MaM Ma3 Mbp Mbt Mbv MbI McF McP McQ McR Met Mfi MhR Mh6; refine nm ?_; refine nm ?_; kernel_rfl
def Xd (n0:Nat) (st:St) (a b:Int):Prop:=vM a/\vM b/\n0=0/\st=Yp a b 0 0
def nY:aB:=fun n0 st K=>∃a b,Xd n0 st a b/\K (.exit 0) ⟨T 32 [(5,.int .u64 (qt a b))],[]⟩
def ly:Know:={ Γ:=JC,Λ:=fun f i=>if f=bS then (if i=0 then some nY else none) else none,Τ:=fun _=>none }
theorem Wu (a b:Int) (K:KP):(comes TP ly 3 bS [.int .u32 a,.int .u32 b] [] K) =(∃c:Int,∃d:Int,Xd 0 (MaM 32 (MaG 0 (McP a) 1 (McP b) 5 (Mab 0) 6 Mdg []) []) c d/\K (Mab (qt c d)) []) :=by kernel_rfl
def pKy (l:List IV) (bs:List aq):Prop:=∃a b,l=[.int .u32 a,.int .u32 b]/\bs=[]/\vM a/\vM b
def WD:Vs.Spec:=⟨pKy,fun l _=>(.int .u64 (qt (ae l 0 0) (ae l 1 0)),[])⟩
def V0:FuncId->Option Vs.Spec:=fun g=>if g=bS then some WD else JC g
def Yy:Know:={ Γ:=V0,Λ:=fun _ _=>none,Τ:=fun _=>none }
theorem Z2 (x y:Int) (K:KP):(comes TP Yy 4 oI [vx x y] [] K) =(∀a,Mau a x (∀b,Mau b y (∀c,Mau c (jc a) (∀d,Mau d (jc b) (Mda (K4 (Mbw x) []) (K4 (Mbw y) []) (T3 [McP c] []) (T3 [McP d] []) ((0:Int)<=1) (K (Mab (McF (MaI (TC c)) (TC d*2))) [])))))) :=by delta Mab Mas Mau Mav MaE MaI Mbt Mbw McF McP Mda; refine nj ?_; refine nj ?_; refine nm ?_; refine nm ?_; kernel_rfl
theorem Wp (x y:Int) (K:KP):(comes TP Yy 4 jk [vx x y] [] K) =(∀a,Mau a x (∀b,Mau b y (∀c,Mau c (jc a) (∀d,Mau d (jc b) (MbV (K4 (Mbw x) []) (K4 (Mbw y) []) (pKy [McP c,McP d] []) (K (Mab (qt c d)) [])))))) :=by delta Mab Mau Mav Mbw MbV McP; refine nj ?_; refine nj ?_; refine nm ?_; refine nm ?_; kernel_rfl
def vf:Vs.Spec:=⟨y7,fun l _=>(.int .u64 (qt (jc (v2 l 0)) (jc (vy l 0))),[])⟩
def qd (n:Int):Int:=IntKind.i64.wrap (1*2 ^ min (IntKind.i64.wrap (32 - mx .i64 0 (mn .i64 n 32))).toNat 64)*18446744073709551616
def TZ (l:List IV) (bs:List aq):Prop:=∃n,l=[.int .i64 n]/\bs=[]/\bn n
def FZ:Vs.Spec:=⟨TZ,fun l _=>(fx (qd (ae l 0 0)),[])⟩
theorem OK (n:Int) (K:KP):(comes TP mI 3 mW [.int .i64 n] [] K) =(∀a,Mau a (Mbb 32 (McD 0 (mn .i64 n 32))) (∀b,Mau b (Mal (1*Mh6 a)) (∀c,MfK c b (Mg6 a (Mec b) (K (fx c) []))))) :=by delta Maa Maf Mal Maq Mau Mav MaY Mbb MbP McD Mec MfK Mg6 Mh6; (iterate 3 refine nm ?_); kernel_rfl
theorem J3 (n:Int) (K:KP):(comes TP mI 3 gv [.int .i64 n] [] K) =(∀a,Mau a (Mbb 32 (McD 0 (mn .i64 n 32))) (∀b,Mau b (Mal (1*Mh6 a)) (∀c,MfK c b (Mg6 a (Mec b) (K (fx c) []))))) :=by delta Maa Maf Mal Maq Mau Mav MaY Mbb MbP McD Mec MfK Mg6 Mh6; (iterate 3 refine nm ?_); kernel_rfl
section
open Go.IntWalk
def N1 (X:BitVec 64) (s:Nat) (M:BitVec 64):BitVec 64:=(X ||| X <<< s) &&& M
def N3 (X:BitVec 64):BitVec 64:=N1 (N1 (N1 (N1 (N1 X 16 281470681808895#64) 8 71777214294589695#64) 4 1085102592571150095#64) 2 3689348814741910323#64) 1 6148914691236517205#64
theorem vT (X Y:BitVec 64) (s:Nat) (M:BitVec 64):N1 (X ||| Y) s M=N1 X s M ||| N1 Y s M:=by
 unfold N1;apply BitVec.eq_of_getLsbD_eq;intro i hi;simp only [BitVec.getLsbD_and,BitVec.getLsbD_or,BitVec.getLsbD_shiftLeft];cases X.getLsbD i <;> cases Y.getLsbD i <;> cases M.getLsbD i <;> simp
 all_goals cases X.getLsbD (i - s) <;> cases Y.getLsbD (i - s) <;> simp
theorem TG (X Y:BitVec 64):N3 (X ||| Y)=N3 X ||| N3 Y:=by
 unfold N3;rw [vT,vT,vT,vT,vT]
def EJ (A:BitVec 64):Nat->BitVec 64
 | 0=>0
 | n+1=>EJ A n ||| ((A >>> n) &&& 1) <<< n
theorem Rh (Y:BitVec 64):Y &&& 1=0∨Y &&& 1=1:=by
 by_cases h:Y.getLsbD 0=true
 ·right;apply BitVec.eq_of_getLsbD_eq;intro i hi;rw [BitVec.getLsbD_and];by_cases h0:i=0
  ·subst h0; rw [h]; rfl
  ·have:(1:BitVec 64).getLsbD i=false:=by
    rw [show (1:BitVec 64)=1#64 from rfl,BitVec.getLsbD_one]
    simp [h0]
   rw [this,Bool.and_false]
 ·left;apply BitVec.eq_of_getLsbD_eq;intro i hi;rw [BitVec.getLsbD_and];by_cases h0:i=0
  ·subst h0;have:Y.getLsbD 0=false:=by simpa using h
   rw [this]; simp
  ·have:(1:BitVec 64).getLsbD i=false:=by
    rw [show (1:BitVec 64)=1#64 from rfl,BitVec.getLsbD_one]
    simp [h0]
   rw [this,Bool.and_false]; simp
theorem O6:∀ n,n < 32->N3 ((1:BitVec 64) <<< n)=(1:BitVec 64) <<< (2*n):=by decide
theorem Kk (A:BitVec 64):∀ n,n<=32->N3 (EJ A n)=kq A n
 | 0,_=>by show N3 0=0; decide
 | n+1,h=>by
  unfold EJ kq;rw [TG,Kk A n (by omega)]
  rcases Rh (A >>> n) with e | e
  ·rw [e];rw [show (0:BitVec 64) <<< n=0 by simp,show (0:BitVec 64) <<< (2*n)=0 by simp,show N3 0=0 by decide]
  ·rw [e,O6 n (by omega)]
theorem GF (A:BitVec 64) (i:Nat) (hi:i < 64):∀ n,n<=64->(EJ A n).getLsbD i=(decide (i < n) && A.getLsbD i)
 | 0,_=>by unfold EJ; simp
 | n+1,h=>by
  unfold EJ;rw [BitVec.getLsbD_or,GF A i hi n (by omega),BitVec.getLsbD_shiftLeft,BitVec.getLsbD_and,BitVec.getLsbD_ushiftRight,show (1:BitVec 64)=1#64 from rfl,BitVec.getLsbD_one]
  rw [decide_eq_true hi,Bool.true_and];rcases Nat.lt_trichotomy i n with h1 | h1 | h1
  ·simp [h1,show i < n+1 by omega]
  ·subst h1; simp
  ·simp [show ¬ i < n by omega,show ¬ i < n+1 by omega,show i - n≠0 by omega]
theorem PG {A:BitVec 64} (h:A.toNat < 4294967296):EJ A 32=A:=by
 apply BitVec.eq_of_getLsbD_eq;intro i hi;rw [GF A i hi 32 (by decide)]
 by_cases h1:i < 32
 ·simp [h1]
 ·have:A.getLsbD i=false:=by
   show A.toNat.testBit i=false;refine Nat.testBit_lt_two_pow (Nat.lt_of_lt_of_le (show A.toNat < 2 ^ 32 from h) ?_)
   exact Nat.pow_le_pow_right (n:=2) (by decide) (show 32<=i by omega)
  simp [h1,this]
theorem H8 {A:BitVec 64} (h:A.toNat < 4294967296):N3 A=kq A 32:=by
 have:=Kk A 32 (Nat.le_refl _)
 rwa [PG h] at this
theorem ob (X:BitVec 64):BitVec.ofInt 64 (X.toNat:Int)=X:=by simp
theorem vL (X:BitVec 64):IntKind.u64.wrap (X.toNat:Int)=X.toNat:=u64_in _ (by have:=X.isLt; omega)
theorem O0 (n:Int):IntKind.u64.wrap n=n % 18446744073709551616:=by
 unfold IntKind.wrap;simp only [show IntKind.signed .u64=false from rfl,show IntKind.bits .u64=64 from rfl,Bool.false_and,Bool.false_eq_true,if_false]
 rw [show (2:Int) ^ 64=18446744073709551616 by decide]
theorem zc (X:BitVec 64) (s:Nat):IntKind.u64.wrap ((X.toNat:Int)*2 ^ s)=((X <<< s).toNat:Int):=by
 rw [O0,BitVec.toNat_shiftLeft,Nat.shiftLeft_eq,Int.natCast_emod,Int.natCast_mul,Int.natCast_pow]
 rfl
theorem vQ (X:BitVec 64) (s:Nat) (c m:Int) (hc:c=2 ^ s):IntKind.u64.wrap ((BitVec.ofInt 64 (IntKind.u64.wrap ((X ||| BitVec.ofInt 64 (IntKind.u64.wrap ((X.toNat:Int)*c))).toNat:Int)) &&& BitVec.ofInt 64 m).toNat:Int)=((N1 X s (BitVec.ofInt 64 m)).toNat:Int):=by
 subst hc;simp only [zc,ob,vL]
 rfl
theorem Lh {a:Int} (h:0<=a) (h2:a < 18446744073709551616):a=((BitVec.ofInt 64 a).toNat:Int):=by
 rw [BitVec.toNat_ofInt];have:(a % ((2 ^ 64:Nat):Int))=a:=Int.emod_eq_of_lt h (by simpa using h2)
 rw [this]; omega
theorem MW:aa TP jQ RQ:=by
 refine ab (N:=mI) 3 iz ?_;rintro l bs _ _ ⟨x,rfl,rfl,hx⟩;show comes _ _ _ _ _ _ fun v bs'=>(IV.int .u64 (TC x),([]:List aq))=(v,bs')
 rw [JQ]; delta Mab Mas Mau Mav MaE MaI MaS Ma9 Mbt MbV McQ Mfw Mhd; rw [u64_in x ⟨hx.1,by have:=hx.2; omega⟩]
 have e0:x=((BitVec.ofInt 64 x).toNat:Int):=Lh hx.1 (by have:=hx.2; omega)
 have hlt:(BitVec.ofInt 64 x).toNat < 4294967296:=by have:=hx.2; omega
 have hF:TC x=((N3 (BitVec.ofInt 64 x)).toNat:Int):=by unfold TC; rw [H8 hlt]
 rw [hF];generalize BitVec.ofInt 64 x=X at e0;subst e0;intro t1 e1 t2 e2 t3 e3 t4 e4;rw [vQ X 16 65536 281470681808895 (by decide)] at e1
 subst e1;rw [ob,vQ _ 8 256 71777214294589695 (by decide)] at e2
 subst e2;rw [ob,vQ _ 4 16 1085102592571150095 (by decide)] at e3
 subst e3;rw [ob,vQ _ 2 4 3689348814741910323 (by decide)] at e4
 subst e4;refine ⟨by decide,by decide,by decide,by decide,by decide,by decide,by decide,by decide,by decide,by decide,by decide,by decide,by decide,by decide,by decide,?_⟩
 rw [ob,vQ _ 1 2 6148914691236517205 (by decide)]
 rfl
theorem sX (x:Int):vM (jc x):=by
 unfold jc vM mx mn;split <;> split <;> omega
theorem XY:aa TP mZ F2:=by
 refine ab (N:=mI) 3 iz ?_;rintro l bs _ _ ⟨x,rfl,rfl,hx⟩;show comes _ _ _ _ _ _ fun v bs'=>(IV.int .u32 (jc (v2 [fx x] 0)),([]:List aq))=(v,bs')
 rw [bc _ x 0 rfl,Wc]; delta Mah Mal Mau Mbp Mbw McD McP Mgb;rintro j1 rfl;have h:=sX j1;have e:mx .i64 (-2147483648) (mn .i64 (j1 / 18446744073709551616) 2147483647)+2147483648=jc j1:=rfl;rw [e,i64_in (jc j1) ⟨by have:=h.1; omega,by have:=h.2; omega⟩,u32_in (jc j1) ⟨h.1,by have:=h.2; omega⟩]
 exact ⟨vl hx,rfl⟩
theorem Vf:aa TP gS F2:=by
 refine ab (N:=mI) 3 iz ?_;rintro l bs _ _ ⟨x,rfl,rfl,hx⟩;show comes _ _ _ _ _ _ fun v bs'=>(IV.int .u32 (jc (v2 [fx x] 0)),([]:List aq))=(v,bs')
 rw [bc _ x 0 rfl,Tg]; delta Mah Mal Mau Mbp Mbw McD McP Mgb;rintro j1 rfl;have h:=sX j1;have e:mx .i64 (-2147483648) (mn .i64 (j1 / 18446744073709551616) 2147483647)+2147483648=jc j1:=rfl;rw [e,i64_in (jc j1) ⟨by have:=h.1; omega,by have:=h.2; omega⟩,u32_in (jc j1) ⟨h.1,by have:=h.2; omega⟩]
 exact ⟨vl hx,rfl⟩
theorem G9:∀ {g:FuncId} {sp:Vs.Spec},JC g=some sp->aa TP g sp:=ao MW (ao XY (ao Vf lW))
theorem Lz (a b:Int) (n:Nat):PY a b (n+1)=PY a b n ||| ((((BitVec.ofInt 64 a) >>> n) &&& 1) <<< (2*n) ||| (((BitVec.ofInt 64 b) >>> n) &&& 1) <<< (2*n+1)):=by
 have e:∀ A:BitVec 64,kq A (n+1)=kq A n ||| ((A >>> n) &&& 1) <<< (2*n):=fun _=>rfl
 unfold PY;rw [e,e,BitVec.shiftLeft_or_distrib,← BitVec.shiftLeft_add];apply BitVec.eq_of_getLsbD_eq;intro i hi;simp only [BitVec.getLsbD_or];generalize BitVec.getLsbD (kq (BitVec.ofInt 64 a) n) i=p;generalize BitVec.getLsbD (kq (BitVec.ofInt 64 b) n <<< 1) i=q;generalize BitVec.getLsbD ((BitVec.ofInt 64 a >>> n &&& 1) <<< (2*n)) i=r;generalize BitVec.getLsbD ((BitVec.ofInt 64 b >>> n &&& 1) <<< (2*n+1)) i=s;cases p <;> cases q <;> cases r <;> cases s <;> rfl
theorem Hp {a:Int} (h0:0<=a) (h1:a < 4294967296) (i s:Nat):IntKind.u64.wrap (IntKind.u64.wrap (((BitVec.ofInt 64 (a.fdiv (2 ^ i)) &&& BitVec.ofInt 64 1).toNat:Nat):Int)*2 ^ s)=(((((BitVec.ofInt 64 a) >>> i) &&& 1) <<< s).toNat:Int):=by
 have e:BitVec.ofInt 64 (a.fdiv (2 ^ i))=(BitVec.ofInt 64 a) >>> i:=by
  apply BitVec.eq_of_toNat_eq;rw [BitVec.toNat_ofInt,BitVec.toNat_ushiftRight,BitVec.toNat_ofInt,Nat.shiftRight_eq_div_pow];have p:(0:Int) < 2 ^ i:=Int.pow_pos (by decide)
  rw [Int.fdiv_eq_ediv_of_nonneg _ (by omega)]
  have q0:0<=a / 2 ^ i:=Int.ediv_nonneg h0 (by omega)
  have q1:a / 2 ^ i<=a:=Int.ediv_le_self _ h0;rw [Int.emod_eq_of_lt q0 (by simp; omega),Int.emod_eq_of_lt h0 (by simp; omega)]
  obtain ⟨n,rfl⟩:=Int.eq_ofNat_of_zero_le h0;have:((n:Int) / 2 ^ i)=((n / 2 ^ i:Nat):Int):=by rw [Int.natCast_ediv,Int.natCast_pow]; rfl
  rw [this,Int.toNat_natCast,Int.toNat_natCast]
 rw [e,show BitVec.ofInt 64 1=(1:BitVec 64) by decide,vL,zc]
theorem aaJ (d n0:Nat):aG (ai TP ly d) bS n0 0 (lp TP bS 0) nY:=by
 intro st K hst;obtain ⟨a,b,⟨ha,hb,rfl,rfl⟩,hK⟩:=hst;have e0:((PY a b 0).toNat:Int)=0:=by show (((0:BitVec 64) ||| (0:BitVec 64) <<< 1).toNat:Int)=0; decide
 rw [show Yp a b 0 0=Yp a b ((PY a b 0).toNat:Int) ((0:Nat):Int) by rw [e0]; rfl]
 refine aC (fun i:Nat=>Yp a b ((PY a b i).toNat:Int) i) (fun i=>i<=32) (fun i=>32 - i) ?_ (a:=0) (Nat.zero_le _)
 intro i hle k hn hk;show round (ai TP { Γ:=JC,Λ:=_,Τ:=fun _=>none } d) _ _ _ _ _ k
 rw [Z9]; delta Maa Mab Mal Map Mas Mau Mav MaA MaE MaG MaI MaM Ma3 Mbp Mbt Mbv MbI McF McP McQ McR Met Mfi MhR Mh6;rintro t1 rfl t2 e2;rw [i64_in (2*(i:Int)) (by omega),i64_in (2*(i:Int)+1) (by omega)] at e2
 rw [i64_in (2*(i:Int)) (by omega),al]
 constructor
 ·intro hi;have T2:min t2.toNat 64=2*i+1:=by omega
  rw [T2,show min (2*(i:Int)).toNat 64=2*i by omega,show min ((i:Nat):Int).toNat 64=i by omega]
  rw [u64_in a ⟨ha.1,by have:=ha.2; omega⟩,u64_in b ⟨hb.1,by have:=hb.2; omega⟩,Hp ha.1 ha.2,Hp hb.1 hb.2,ob,ob,ob,vL,vL,ob,← Lz,i64_in ((i:Int)+1) (by omega)]
  exact ⟨by omega,by omega,by omega,by omega,hn (i+1) (by omega) (by omega)⟩
 ·intro hi;have hi':i=32:=by omega
  subst hi';exact hk _ _ (by simp) hK
theorem X9:aa TP bS WD:=by
 refine ab (N:=ly) 3 (cP (f0:=bS) (L:=nY) (fun g sp h=>G9 h) rfl (fun g G h=>by cases h) aaJ 3) ?_
 rintro l bs _ _ ⟨a,b,rfl,rfl,ha,hb⟩;show comes _ _ _ _ _ _ fun v bs'=>(IV.int .u64 (qt a b),([]:List aq))=(v,bs')
 rw [Wu]; delta Maa Mab Map MaG MaM McP Mdg;exact ⟨a,b,⟨ha,hb,rfl,rfl⟩,rfl⟩
theorem QC:∀ {g:FuncId} {sp:Vs.Spec},V0 g=some sp->aa TP g sp:=ao X9 G9
theorem LD:KnowOk TP Yy 4:=aF (fun g sp h=>QC h) (fun _ _=>rfl) (fun _=>rfl) 4
theorem aaY:aa TP oI vf:=by
 refine ab (N:=Yy) 4 LD ?_;rintro l bs _ _ ⟨x,y,rfl,rfl,hx,hy⟩;show comes _ _ _ _ _ _ fun v bs'=>(IV.int .u64 (qt (jc (v2 [vx x y] 0)) (jc (vy [vx x y] 0))),([]:List aq))=(v,bs')
 rw [(aeY _ x y 0 rfl).1,(aeY _ x y 0 rfl).2,Z2]; delta Mab Mas Mau Mav MaE MaI Mbt Mbw McF McP Mda;rintro j1 rfl j2 rfl t3 rfl t4 rfl;refine ⟨⟨j1,rfl,rfl,hx⟩,⟨j2,rfl,rfl,hy⟩,⟨_,rfl,rfl,sX _⟩,⟨_,rfl,rfl,sX _⟩,by decide,?_⟩
 unfold TC qt PY;rw [show (2:Int)=2 ^ 1 by decide,zc,ob,ob,vL]
theorem X6:aa TP jk vf:=by
 refine ab (N:=Yy) 4 LD ?_;rintro l bs _ _ ⟨x,y,rfl,rfl,hx,hy⟩;show comes _ _ _ _ _ _ fun v bs'=>(IV.int .u64 (qt (jc (v2 [vx x y] 0)) (jc (vy [vx x y] 0))),([]:List aq))=(v,bs')
 rw [(aeY _ x y 0 rfl).1,(aeY _ x y 0 rfl).2,Wp]; delta Mab Mau Mav Mbw MbV McP;rintro j1 rfl j2 rfl t3 rfl t4 rfl;exact ⟨⟨j1,rfl,rfl,hx⟩,⟨j2,rfl,rfl,hy⟩,⟨_,_,rfl,rfl,sX _,sX _⟩,rfl⟩
theorem Qa (a b:Int):0<=qt a b/\qt a b < 18446744073709551616:=by
 unfold qt;have:=(PY a b 32).isLt;omega
theorem Uc {k:Int} (h:-9223372036854775807<=k):mx .i64 k (-9223372036854775807)=k:=by unfold mx; rw [if_neg (by omega)]
theorem FN {n:Int} (h:bn n) {K:Int->Prop} (hK:K (qd n)):
  ∀ t1:Int,t1=IntKind.i64.wrap (32 - mx .i64 0 (mn .i64 n 32))->∀ t2:Int,t2=IntKind.i64.wrap (1*2 ^ min t1.toNat 64)->∀ t3:Int,t3=mx .i64 t2 (-9223372036854775807)*18446744073709551616->0<=t1/\BI [.int .i64 t2] []/\K t3:=by
 intro t1 e1 t2 e2 t3 e3;have b:0<=32 - mx .i64 0 (mn .i64 n 32)/\32 - mx .i64 0 (mn .i64 n 32)<=32:=by
  unfold mx mn; split <;> split <;> omega
 have T1:t1=32 - mx .i64 0 (mn .i64 n 32):=by rw [e1,i64_in _ (by omega)]
 have hm:min t1.toNat 64<=32:=by omega
 have p1:(2:Int) ^ min t1.toNat 64<=2 ^ 32:=by
  have:=Nat.pow_le_pow_right (show 0 < 2 by decide) hm
  exact_mod_cast this
 have p0:(0:Int) < 2 ^ min t1.toNat 64:=Int.pow_pos (by decide)
 have q:(2:Int) ^ 32=4294967296:=by decide
 have T2:t2=1*2 ^ min t1.toNat 64:=by rw [e2,i64_in _ (by omega)]
 refine ⟨by omega,dY ⟨by omega,by omega⟩,?_⟩
 rw [e3,Uc (by omega),e2,e1]
 exact hK
theorem QX:aa TP mW FZ:=by
 refine ab (N:=mI) 3 iz ?_;rintro l bs _ _ ⟨n,rfl,rfl,h⟩;show comes _ _ _ _ _ _ fun v bs'=>(fx (qd n),([]:List aq))=(v,bs')
 rw [OK]; delta Maa Maf Mal Maq Mau Mav MaY Mbb MbP McD Mec MfK Mg6 Mh6;exact FN h (K:=fun t=>(fx (qd n),([]:List aq))=(fx t,[])) rfl
theorem Nq:aa TP gv FZ:=by
 refine ab (N:=mI) 3 iz ?_;rintro l bs _ _ ⟨n,rfl,rfl,h⟩;show comes _ _ _ _ _ _ fun v bs'=>(fx (qd n),([]:List aq))=(v,bs')
 rw [J3]; delta Maa Maf Mal Maq Mau Mav MaY Mbb MbP McD Mec MfK Mg6 Mh6;exact FN h (K:=fun t=>(fx (qd n),([]:List aq))=(fx t,[])) rfl
end
end Go.Vs.RF
namespace Go.Vs.RS
open Go Go.Proofs Go.Vs
def T (n:Nat) (l:List (Nat × IV)):List (Option IV):=l.foldl (fun t p=>t.set p.1 (some p.2)) (List.replicate n none)
abbrev i64 (n:Int):IV:=.int .i64 n
abbrev ro (xs:L2):Option aq:=some (.ro [.u64,.i64] xs)
abbrev row (xs:L2):Option aq:=some (.row 72 [.u64,.i64] xs)
def EE:Know:={ Γ:=fun _=>none,Λ:=fun _ _=>none,Τ:=fun _=>none }
def hU (xs:L2):Prop:=∀ x∈xs,∃a b,x=[a,b]
def key (x:L1):Int:=x.getD 0 0
def hO (xs zs:L2):Prop:=∀ v:Int,zs.filter (fun x=>decide (key x=v))=xs.filter (fun x=>decide (key x=v))
def Jt (n:Nat) (zs:L2):Prop:=∀ p q:Nat,p < q->q < n->rd zs p 0<=rd zs q 0
structure eZ (xs zs:L2):Prop where
 len:zs.length=xs.length
 same:hO xs zs
 up:Jt zs.length zs
 two:hU zs
def VV (xs zs:L2) (i:Int):St:=⟨T 53 [(3,.sl 1),(4,i64 i)],[ro xs,row zs]⟩
def Rq (xs zs:L2) (i j:Int):St:=⟨T 53 [(3,.sl 1),(4,i64 i),(5,i64 j)],[ro xs,row zs]⟩
def YG:aB:=fun n0 st K=>(n0=1/\st=Rq (st.x 0) (st.x 1) (st.i 4) (st.i 4)/\hU (st.x 1)/\1<=st.i 4/\st.i 4 < (st.x 1).length/\(st.x 1).length<=1000000/\Jt (st.i 4).toNat (st.x 1))/\
 ∀ zs':L2,zs'.length=(st.x 1).length->hO (st.x 1) zs'->Jt ((st.i 4).toNat+1) zs'->hU zs'->K (.exit 2) (VV (st.x 0) zs' (st.i 4))
def L16:aB:=fun n0 st K=>(n0=1/\st=VV (st.x 0) (st.x 1) 1/\hU (st.x 1)/\(st.x 1).length<=1000000)/\
 ∀ zs':L2,eZ (st.x 1) zs'->K (.exit 0) ⟨T 53 [(3,.sl 1)],[ro (st.x 0),row zs']⟩
def VX:Know:={ Γ:=fun _=>none,Λ:=fun f i=>if f=108 then (if i=0 then some L16 else if i=1 then some YG else none) else none,Τ:=fun _=>none }
def Jaa (a:List (Option IV)):List (Option IV):=Option.none::a
def Jab (a:List (Option IV)):List (Option IV):=Jaa (Jaa a)
def Jac (a:List (Option IV)):List (Option IV):=Jab (Jab a)
def Jad (a:Int):IV:=.int .i64 a
def Jae (a:List (Option IV)):List (Option IV):=Jac (Jac a)
def Jaf (a:IV)(b:List (Option IV)):List (Option IV):=Option.some a::b
def Jag (a:L2):Int:=(↑(List.length a):Int)
def Jah (a:List (Option IV)):List (Option IV):=Jae (Jae a)
def Jai (a:Int):Int:=IntKind.wrap .i64 a
def Jak (a:List (Option IV)):List (Option IV):=Jah (Jah a)
def Jam (a:L2)(b:Int)(c:Nat):Int:=rd a (Int.toNat b) c
def Jao (a:List IntKind):List IntKind:=.u64::.i64::a
def Jaq (a:List IntKind)(b:L2)(c:OB):OB:=Option.some (.ro (Jao a) b)::c
abbrev Jar (a b c:Prop):Prop:=a/\b/\c
def Jau (a:List (Option IV))(b:List IntKind)(c:L2)(d:OB):St:=⟨a,Jaq b c d⟩
def Jaw (a:IV)(b:Int)(c:List (Option IV)):List (Option IV):=Jaf a (Jaf (Jad b) c)
abbrev Jax (a b c d:Int):Prop:=a<=b/\c < d
def Jay (a:L2)(b:Int)(c:L1->L1):L2:=List.modify a (Int.toNat b) c
abbrev JaB (a b c d e:Prop):Prop:=Jar a b (Jar c d e)
def JaC (a:List IntKind)(b:L2)(c:OB):OB:=Option.some (.row 72 (Jao a) b)::c
def JaD (a:List (Option IV))(b:List IntKind)(c:L2)(d:List IntKind)(e:L2)(f:OB):St:=Jau (Jaa (Jab a)) b c (JaC d e f)
abbrev JaK (a b:Int)(c:L2):Prop:=Jax 0 a b (Jag c)
def JaO (a b:Int)(c:List (Option IV)):List (Option IV):=Jaf (.sl 1) (Jaw (Jad a) b c)
abbrev JaQ (a b:Int)(c d:Prop):Prop:=br (Decidable.decide (a < b)) c d
abbrev Ja1 (a b:Int)(c:L2):Prop:=JaK (Jai (a - 1)) (Jai (b - 1)) c
def Ja2 (a:L2)(b:Int)(c:Nat):Int:=Jam a (Jai (b - 1)) c
def Jbg (a:Int)(b:List (Option IV)):List (Option IV):=Jaw (.sl 1) a (Jah (Jak b))
def Jbn (a:List (Option IV)):List (Option IV):=Jaa (Jab (Jac (Jae (Jak a))))
abbrev JbC (a:Int)(b:L2)(c d:Prop):Prop:=JaB (JaK a a b) (JaK a a b) c c d
theorem aak (N:Know) (xs zs:L2) (i j:Int) (k:Out->St->Prop):(round (ai TP N 0) 108 1 1 (lp TP 108 1) (Rq xs zs i j) k) =(br (Decidable.decide (j > 0)) (JbC j zs (Ja1 j j zs) (JaQ (Jam zs j 0) (Ja2 zs j 0) (JbC j zs (Ja1 j j zs) (JaB (JaK j j zs) (JaK j j zs) (Ja1 j j (Jay zs j (fun a=>[Ja2 zs j 0,Ja2 zs j 1]))) (Ja1 j j (Jay zs j (fun a=>[Ja2 zs j 0,Ja2 zs j 1]))) (k .normal (JaD (JaO i (Jai (j - 1)) (Jbn [])) [] xs [] (Jay (Jay zs j (fun a=>[Ja2 zs j 0,Ja2 zs j 1])) (Jai (j - 1)) (fun a=>[Jam zs j 0,Jam zs j 1])) [])))) (k (.exit 2) (JaD (Jbg i []) [] xs [] zs [])))) (k (.exit 2) (JaD (Jbg i []) [] xs [] zs []))) :=by kernel_rfl
def JaJ (a:Int):Int:=Jai (a+1)
abbrev JaL (a:L2):Prop:=List.length a<=1000000
abbrev JaY (a b:L2):Prop:=List.length a=List.length b
abbrev Jbo (a b:Nat)(c d e:Prop):Prop:=Jar (a=b) c d/\e
theorem r16 (xs zs:L2) (i:Int) (k:Out->St->Prop):(round (ai TP VX 0) 108 1 0 (lp TP 108 0) (VV xs zs i) k) =(JaQ i (Jag zs) (Jbo 1 1 (JaD (JaO i i (Jbn [])) [] xs [] zs []=JaD (JaO i i (Jbn [])) [] xs [] zs []) (JaB (hU zs) (1<=i) (i < Jag zs) (JaL zs) (Jt (Int.toNat i) zs)) (∀a,JaY a zs->hO zs a->Jt (Int.toNat i+1) a->hU a->k .normal (JaD (Jbg (JaJ i) []) [] xs [] a []))) (k (.exit 0) (JaD (Jaf (.sl 1) (Jaa (Jah (Jak [])))) [] xs [] zs []))) :=by kernel_rfl
def Jal (a b:Nat)(c:Int):L2:=List.replicate a (List.replicate b c)
def JaG:IV:=.sl 0
abbrev JaU (a:Nat):Prop:=a<=140737488355328
def Jbb (a:Nat)(b:List IntKind)(c:L2)(d:List aq):List aq:=.row a (Jao b) c::d
theorem v16 (xs:L2) (K:KP):(comes TP VX 1 108 [.sl 0] [.ro [.u64,.i64] xs] K) =(Jar (JaU ((0+List.length xs)*16)) (1=1/\Jar (JaD (Jbg 1 []) [] xs [] (Jal 0 2 0++xs) []=JaD (Jbg 1 []) [] xs [] (Jal 0 2 0++xs) []) (hU (Jal 0 2 0++xs)) (JaL (Jal 0 2 0++xs))) (∀a:L2,eZ (Jal 0 2 0++xs) a->K JaG (Jbb 72 [] a []))) :=by kernel_rfl
def ku (xs:L2) (i:Int):St:=⟨T 22 [(0,.sl 0),(3,i64 i)],[ro xs]⟩
def L18:aB:=fun n0 st K=>(n0=1/\st=ku (st.x 0) 1/\(st.x 0).length<=1000000)/\br (bp (Jt (st.x 0).length (st.x 0))) (K (.exit 0) ⟨T 22 [],[ro (st.x 0)]⟩) (K .ret ⟨T 22 [(2,.bool false)],[ro (st.x 0)]⟩)
def ZK:Know:={ Γ:=fun _=>none,Λ:=fun f i=>if f=109 then (if i=0 then some L18 else none) else none,Τ:=fun _=>none }
def JaP:IV:=.bool Bool.false
def Jbd (a:List (Option IV))(b:List IntKind)(c:L2)(d:OB):St:=Jau (Jaf JaG a) b c d
theorem r18 (N:Know) (xs:L2) (i:Int) (k:Out->St->Prop):(round (ai TP N 0) 109 1 0 (lp TP 109 0) (ku xs i) k) =(JaQ i (Jag xs) (JbC i xs (Ja1 i i xs) (JaQ (Jam xs i 0) (Ja2 xs i 0) (k .ret (Jau (Jab (Jaf JaP (Jaa (Jab (Jah []))))) [] xs [])) (k .normal (Jbd (Jab (Jaf (Jad (JaJ i)) (Jab (Jah [])))) [] xs [])))) (k (.exit 0) (Jau (Jab (Jac (Jah []))) [] xs []))) :=by kernel_rfl
theorem v18 (xs:L2) (K:KP):(comes TP ZK 1 109 [.sl 0] [.ro [.u64,.i64] xs] K) =(Jbo 1 1 (Jbd (Jab (Jaf (Jad 1) (Jab (Jah [])))) [] xs []=Jbd (Jab (Jaf (Jad 1) (Jab (Jah [])))) [] xs []) (JaL xs) (br (bp (Jt (List.length xs) xs)) (K (.bool Bool.true) []) (K JaP []))) :=by kernel_rfl
theorem v28 (xs:L2) (K:KP):(comes TP EE 1 180 [.sl 0] [.ro [.u64,.i64] xs] K) =(∀a:Bool,(a=Bool.true->xs=[])->br a (K JaG (Jbb 72 [] [] [])) (JaU ((0+List.length xs)*16)/\K JaG (Jbb 72 [] (Jal 0 2 0++xs) []))) :=by kernel_rfl
theorem rV {α:Type} (l:List α) (i:Nat) (a:α):(l.modify i fun _=>a)=l.set i a:=by
 apply List.ext_getElem?;intro j;rw [List.getElem?_modify,List.getElem?_set];by_cases h:i=j
 ·subst h;by_cases h2:i < l.length
  ·simp [h2]
  ·simp [h2]
 ·simp [h]
theorem rd_key {zs:L2} {p:Nat} (h:p < zs.length):rd zs p 0=key zs[p]:=by
 simp [rd,key,List.getD,h]
theorem sW {zs:L2} (h:hU zs) {p:Nat} (hp:p < zs.length):[rd zs p 0,rd zs p 1]=zs[p]:=by
 obtain ⟨a,b,e⟩:=h zs[p] (List.getElem_mem hp);simp [rd,List.getD,hp,e]
theorem rn {zs:L2} (h:Jt zs.length zs):zs.Pairwise fun a b=>key a<=key b:=by
 rw [List.pairwise_iff_getElem];intro i j hi hj hij;have:=h i j hij hj
 rwa [rd_key hi,rd_key hj] at this
theorem uniq:∀ (zs zs':L2),(zs.Pairwise fun a b=>key a<=key b)->(zs'.Pairwise fun a b=>key a<=key b)->hO zs zs'->zs=zs':=by
 intro zs;induction zs with
 | nil=>
  intro zs' _ _ hf;cases zs' with
  | nil=>rfl
  | cons b bs=>
   have:=hf (key b);simp at this
 | cons a l ih=>
  intro zs' h1 h2 hf;cases zs' with
  | nil=>
   have:=hf (key a);simp at this
  | cons b bs=>
   rw [List.pairwise_cons] at h1 h2;have hab:key a=key b:=by
    have e1:=hf (key a);have e2:=hf (key b);by_cases hk:key a=key b
    ·exact hk
    ·have hk':¬ key b=key a:=fun h=>hk h.symm
     simp only [List.filter_cons,hk,hk',decide_false,decide_true,if_true,Bool.false_eq_true,if_false] at e1 e2;have m1:a∈bs:=by
      have:a∈bs.filter (fun x=>decide (key x=key a)):=by rw [e1]; simp
      exact (List.mem_filter.1 this).1
     have m2:b∈l:=by
      have:b∈l.filter (fun x=>decide (key x=key b)):=by rw [← e2]; simp
      exact (List.mem_filter.1 this).1
     have:=h1.1 b m2;have:=h2.1 a m1;omega
   have e1:=hf (key a);simp only [List.filter_cons,hab,decide_true,if_true,List.cons.injEq] at e1;obtain ⟨rfl,_⟩:=e1
   congr 1
   refine ih bs h1.2 h2.2 ?_;intro v;have ev:=hf v;simp only [List.filter_cons] at ev;split at ev
   ·simpa using ev
   ·exact ev
def nU (xs:L2):L2:=@dite _ (∃zs,eZ xs zs) (Classical.propDecidable _) (fun h=>Classical.choose h) (fun _=>xs)
theorem we {xs zs:L2} (h:eZ xs zs):eZ xs (nU xs):=by
 unfold nU;have h':∃zs,eZ xs zs:=⟨zs,h⟩;rw [dif_pos h'];exact Classical.choose_spec h'
theorem eZ.eq {xs zs:L2} (h:eZ xs zs):nU xs=zs:=by
 have h2:=we h;refine uniq _ _ (rn h2.up) (rn h.up) ?_;intro v;rw [h.same v,h2.same v]
theorem Kc {α:Type} {zs:List α} {j:Nat} (h1:1<=j) (h2:j < zs.length):zs=zs.take (j - 1)++([zs[j - 1],zs[j]]++zs.drop (j+1)):=by
 have e1:zs.drop (j - 1)=zs[j - 1] :: zs.drop j:=by
  rw [List.drop_eq_getElem_cons (by omega)]
  congr 2
  omega
 have e2:zs.drop j=zs[j] :: zs.drop (j+1):=List.drop_eq_getElem_cons h2
 conv=>lhs; rw [← List.take_append_drop (j - 1) zs,e1,e2]
 rfl
theorem H7 {α:Type} {zs:List α} {j:Nat} (h1:1<=j) (h2:j < zs.length):(zs.set j zs[j - 1]).set (j - 1) zs[j]=zs.take (j - 1)++([zs[j],zs[j - 1]]++zs.drop (j+1)):=by
 apply List.ext_getElem?;intro p;have hl:(zs.take (j - 1)).length=j - 1:=by simp; omega
 rw [List.getElem?_set,List.getElem?_set];by_cases hp1:j - 1=p
 ·subst hp1;rw [List.getElem?_append_right (by omega),hl]
  simp;omega
 ·by_cases hp2:j=p
  ·subst hp2;rw [List.getElem?_append_right (by omega),hl]
   have:j - (j - 1)=1:=by omega
   rw [this];simp [hp1];omega
  ·simp only [hp1,hp2,if_false];by_cases hp3:p < j - 1
   ·rw [List.getElem?_append_left (by omega)]
    simp [hp3]
   ·rw [List.getElem?_append_right (by omega),hl,List.getElem?_append_right (by simp; omega)]
    simp
    congr 1
    omega
theorem Eo {zs:L2} {j:Nat} (h1:1<=j) (h2:j < zs.length) (hne:key zs[j]≠key zs[j - 1]):hO zs ((zs.set j zs[j - 1]).set (j - 1) zs[j]):=by
 intro v;rw [H7 h1 h2]
 conv=>rhs; rw [Kc h1 h2]
 simp only [List.filter_append]
 congr 2
 simp only [List.filter_cons,List.filter_nil];by_cases ha:key zs[j]=v
 ·have hb:¬ key zs[j - 1]=v:=fun h=>hne (by rw [ha,h])
  simp [ha,hb]
 ·simp [ha]
theorem hO.refl (xs:L2):hO xs xs:=fun _=>rfl
theorem hO.trans {a b c:L2} (h:hO a b) (h':hO b c):hO a c:=fun v=>(h' v).trans (h v)
def dg (s x:Int):Int:=IntKind.u64.wrap ↑(BitVec.ofInt 64 (x.fdiv (2 ^ min s.toNat 64)) &&& BitVec.ofInt 64 255).toNat
def vC (s d:Int) (ys:L2):Nat:=(ys.filter fun x=>decide (dg s (key x)=d)).length
def gC (s d:Int) (ys:L2):Nat:=(ys.filter fun x=>decide (dg s (key x) < d)).length
def pass (s:Int) (ys:L2):L2:=(List.range 256).flatMap fun (d:Nat)=>ys.filter fun x=>decide (dg s (key x)=(d:Int))
def tk (ys:L2):Prop:=∀ x∈ys,0<=key x/\key x < 18446744073709551616
def qZ:L1:=List.replicate 257 0
def GQ (s:Int) (ys:L2) (A:L1):Prop:=A.length=257/\A.getD 0 0=0/\∀ d:Nat,d < 256->A.getD (d+1) 0=vC s d ys
def An (s:Int) (ys:L2) (A:L1):Prop:=A.length=257/\∀ d:Nat,d < 257->A.getD d 0=gC s d ys
def ZQ (xs ys zs:L2) (A:L1):OB:=[ro xs,row ys,row zs,some (.ints 235 .i64 A)]
def Yv (xs ys zs:L2) (s:Int):St:=⟨T 78 [(3,.sl 1),(4,.sl 2),(5,i64 s)],[ro xs,row ys,row zs]⟩
def Yu (xs ys zs:L2) (A:L1) (s:Int):St:=⟨T 78 [(3,.sl 1),(4,.sl 2),(5,i64 s),(6,.ptr 3 0)],ZQ xs ys zs A⟩
def Rs (xs ys zs:L2) (A:L1) (s j:Int):St:=⟨T 78 [(3,.sl 1),(4,.sl 2),(5,i64 s),(6,.ptr 3 0),(22,.sl 1),(23,i64 ys.length),(24,i64 j)],ZQ xs ys zs A⟩
def Rr (xs ys zs:L2) (A:L1) (s j:Int):St:=⟨T 78 [(3,.sl 1),(4,.sl 2),(5,i64 s),(6,.ptr 3 0),(39,i64 j)],ZQ xs ys zs A⟩
def NR (xs ys zs:L2) (A:L1) (s j:Int):St:=⟨T 78 [(3,.sl 1),(4,.sl 2),(5,i64 s),(6,.ptr 3 0),(52,.sl 1),(53,i64 ys.length),(54,i64 j)],ZQ xs ys zs A⟩
def YJ:aB:=fun n0 st K=>(n0=1/\st=Rs (st.x 0) (st.x 1) (st.x 2) qZ (st.i 5) 0/\(st.x 1).length<=1000000/\0<=st.i 5)/\
 ∀ A':L1,GQ (st.i 5) (st.x 1) A'->K (.exit 2) (Yu (st.x 0) (st.x 1) (st.x 2) A' (st.i 5))
def YI:aB:=fun n0 st K=>(n0=1/\st=Rr (st.x 0) (st.x 1) (st.x 2) (st.a 3) (st.i 5) 0/\(st.x 1).length<=1000000/\0<=st.i 5/\GQ (st.i 5) (st.x 1) (st.a 3))/\
 ∀ A':L1,An (st.i 5) (st.x 1) A'->K (.exit 4) (Yu (st.x 0) (st.x 1) (st.x 2) A' (st.i 5))
def YH:aB:=fun n0 st K=>(n0=1/\st=NR (st.x 0) (st.x 1) (st.x 2) (st.a 3) (st.i 5) 0/\(st.x 1).length<=1000000/\0<=st.i 5/\An (st.i 5) (st.x 1) (st.a 3)/\(st.x 2).length=(st.x 1).length/\hU (st.x 1))/\
 K (.exit 6) (Yv (st.x 0) (st.x 1) (pass (st.i 5) (st.x 1)) (st.i 5))
def L15:aB:=fun n0 st K=>(n0=1/\st=Yv (st.x 0) (st.x 1) (st.x 2) 0/\(st.x 1).length<=1000000/\(st.x 2).length=(st.x 1).length/\hU (st.x 1)/\tk (st.x 1))/\
 ∀ zs':L2,eZ (st.x 1) zs'->K (.exit 0) ⟨T 78 [(3,.sl 1)],[ro (st.x 0),row zs']⟩
def aA (bs:List aq) (i:Nat):L2:=match bs[i]? with
 | some (.row _ _ xs)=>xs
 | some (.ro _ xs)=>xs
 | _=>[]
def rF (l:List IV) (bs:List aq):Prop:=∃xs,l=[.sl 0]/\bs=[.ro [.u64,.i64] xs]/\xs.length<=1000000
def F8:Vs.Spec:=⟨rF,fun l bs=>(.sl 0,[.row 72 [.u64,.i64] (aA bs 0)])⟩
def Rw:Know:={ Γ:=fun g=>if g=180 then some F8 else none,Λ:=fun f i=>if f=144 then (if i=0 then some L15 else if i=1 then some YJ else if i=2 then some YI else if i=3 then some YH else none) else none,Τ:=fun _=>none }
def Jat (a b c:Int)(d:Nat):Int:=Int.fdiv a (b ^ Min.min (Int.toNat c) d)
def Jaz (a b:Int):Int:=IntKind.wrap .u64 (↑(BitVec.toNat (BitVec.ofInt 64 a &&& BitVec.ofInt 64 b)):Int)
def JaA (a:L2)(b:Int)(c:Nat)(d e:Int)(f:Nat)(g:Int):Int:=Jaz (Jat (Jam a b c) d e f) g
def JaM:List (Option IV):=Jak (Jak [])
def JaR (a:L2)(b c:Int):Int:=JaA a b 0 2 c 64 255
def Ja3 (a:List (Option IV))(b:List IntKind)(c:L2)(d:List IntKind)(e:L2)(f:List IntKind)(g:L2)(h:L1)(i:OB):St:=JaD (Jaf (.sl 1) (Jaf (.sl 2) a)) b c d e (JaC f g (Option.some (.ints 235 .i64 h)::i))
def Ja9 (a:Int)(b:Nat)(c:List (Option IV)):List (Option IV):=Jaf (Jad a) (Jaf (.ptr b 0) (Jaa (Jab c)))
def Jbh (a:L2)(b c:Int):Int:=IntKind.wrap .u64 (JaR a b c+1)
abbrev Jbx (a:Int)(b:L1):Prop:=Jax 0 a a (↑(List.length b):Int)
def Jby (a:List (Option IV))(b c d:L2)(e:L1):St:=Ja3 a [] b [] c [] d e []
abbrev JbA (a:Int):Prop:=Jax 0 a a 257
theorem aan (N:Know) (xs ys zs:L2) (A:L1) (s j:Int) (k:Out->St->Prop):(round (ai TP N 0) 144 1 1 (lp TP 144 1) (Rs xs ys zs A s j) k) =(JaQ j (Jag ys) (JaK j j ys/\Jar (JaK j j ys) (0<=s) (JaB (JbA (Jbh ys j s)) (Jbx (Jbh ys j s) A) (JbA (Jbh ys j s)) (Jbx (Jbh ys j s) A) (k .normal (Jby (Ja9 s 3 (Jac (Jae (JaO (Jag ys) (JaJ j) (Jaa (Jac (Jah (Jak [])))))))) xs ys zs (qO A (Jbh ys j s) (JaJ (cW A (Jbh ys j s)))))))) (k (.exit 2) (Jby (Ja9 s 3 (Jac JaM)) xs ys zs A))) :=by kernel_rfl
def Ja6 (a:Int)(b:Nat)(c:List (Option IV)):List (Option IV):=Jaf (Jad a) (Jaf (.ptr b 0) c)
def Jbr (a:Int)(b:List (Option IV)):List (Option IV):=Jak (Jaf (Jad a) (Jab (Jac (Jak b))))
theorem aam (N:Know) (xs ys zs:L2) (A:L1) (s j:Int) (k:Out->St->Prop):(round (ai TP N 0) 144 1 2 (lp TP 144 2) (Rr xs ys zs A s j) k) =(JaQ j 256 (Jar (JbA (JaJ j)) (Jbx (JaJ j) A) (JaB (JbA j) (Jbx j A) (JbA (JaJ j)) (Jbx (JaJ j) A) (k .normal (Jby (Ja6 s 3 (Jbr (JaJ j) [])) xs ys zs (qO A (JaJ j) (Jai (cW A (JaJ j)+cW A j))))))) (k (.exit 4) (Jby (Ja9 s 3 (Jac JaM)) xs ys zs A))) :=by kernel_rfl
def Jba (a:Int)(b:List IntKind)(c:L2)(d:List IntKind)(e:L2)(f:List IntKind)(g:L2)(h:OB):St:=JaD (Jaf (.sl 1) (Jaw (.sl 2) a (Jae JaM))) b c d e (JaC f g h)
def Jbt (a:L2)(b:Int)(c:List (Option IV)):List (Option IV):=Jaa (Jac (Jae (Jak (JaO (Jag a) b (Jaa (Jab (Jac (Jah c))))))))
theorem aal (N:Know) (xs ys zs:L2) (A:L1) (s j:Int) (k:Out->St->Prop):(round (ai TP N 0) 144 1 3 (lp TP 144 3) (NR xs ys zs A s j) k) =(JaQ j (Jag ys) (JaK j j ys/\Jar (JaK j j ys) (0<=s) (JaB (JbA (JaR ys j s)) (Jbx (JaR ys j s) A) (JaK (cW A (JaR ys j s)) (cW A (JaR ys j s)) zs) (JaK (cW A (JaR ys j s)) (cW A (JaR ys j s)) zs) (JaB (JbA (JaR ys j s)) (Jbx (JaR ys j s) A) (JbA (JaR ys j s)) (Jbx (JaR ys j s) A) (k .normal (Jby (Ja6 s 3 (Jbt ys (JaJ j) [])) xs ys (Jay zs (cW A (JaR ys j s)) (fun a=>[Jam ys j 0,Jam ys j 1])) (qO A (JaR ys j s) (JaJ (cW A (JaR ys j s))))))))) (k (.exit 6) (Jba s [] xs [] ys [] zs []))) :=by kernel_rfl
def Jan (a b c d e f g h:Int)(i:L1):L1:=a::b::c::d::e::f::g::h::i
def JaE (a b c d e f g h i j k l m n o p q r s t u v w x y z a1 b1 c1 d1 e1 f1:Int)(g1:L1):L1:=Jan a b c d e f g h (Jan i j k l m n o p (Jan q r s t u v w x (Jan y z a1 b1 c1 d1 e1 f1 g1)))
def Jbw:L1:=JaE 0 0 0 0 0 0 0 0 0 0 0 0 0 0 0 0 0 0 0 0 0 0 0 0 0 0 0 0 0 0 0 0 (JaE 0 0 0 0 0 0 0 0 0 0 0 0 0 0 0 0 0 0 0 0 0 0 0 0 0 0 0 0 0 0 0 0 (JaE 0 0 0 0 0 0 0 0 0 0 0 0 0 0 0 0 0 0 0 0 0 0 0 0 0 0 0 0 0 0 0 0 (JaE 0 0 0 0 0 0 0 0 0 0 0 0 0 0 0 0 0 0 0 0 0 0 0 0 0 0 0 0 0 0 0 0 (JaE 0 0 0 0 0 0 0 0 0 0 0 0 0 0 0 0 0 0 0 0 0 0 0 0 0 0 0 0 0 0 0 0 (JaE 0 0 0 0 0 0 0 0 0 0 0 0 0 0 0 0 0 0 0 0 0 0 0 0 0 0 0 0 0 0 0 0 (JaE 0 0 0 0 0 0 0 0 0 0 0 0 0 0 0 0 0 0 0 0 0 0 0 0 0 0 0 0 0 0 0 0 (JaE 0 0 0 0 0 0 0 0 0 0 0 0 0 0 0 0 0 0 0 0 0 0 0 0 0 0 0 0 0 0 0 0 [])))))))
theorem r15 (xs ys zs:L2) (s:Int) (k:Out->St->Prop):(round (ai TP Rw 0) 144 1 0 (lp TP 144 0) (Yv xs ys zs s) k) =(JaQ s 64 ((1=1/\Jar (Ja3 (Ja9 s 3 (Jac (Jae (JaO (Jag ys) 0 (Jaa (Jac (Jah (Jak [])))))))) [] xs [] ys [] zs (0::Jbw) []=Ja3 (Ja9 s 3 (Jac (Jae (JaO (Jag ys) 0 (Jaa (Jac (Jah (Jak [])))))))) [] xs [] ys [] zs (0::Jbw) []) (JaL ys) (0<=s))/\(∀a:L1,GQ s ys a->JaB (1=1) (Jby (Ja6 s 3 (Jbr 0 [])) xs ys zs a=Jby (Ja6 s 3 (Jbr 0 [])) xs ys zs a) (JaL ys) (0<=s) (GQ s ys a)/\(∀b:L1,An s ys b->Jbo 1 1 (Jby (Ja6 s 3 (Jbt ys 0 [])) xs ys zs b=Jby (Ja6 s 3 (Jbt ys 0 [])) xs ys zs b) (JaB (JaL ys) (0<=s) (An s ys b) (JaY zs ys) (hU ys)) (k .normal (Jba (Jai (s+8)) [] xs [] (pass s ys) [] ys []))))) (k (.exit 0) (JaD (Jaf (.sl 1) (Jab (Jae JaM))) [] xs [] ys []))) :=by kernel_rfl
def Jav (a:L2):Nat:=Int.toNat (Jag a)
def Jbs (a:List IntKind)(b:L2)(c:List aq):List aq:=.ro (Jao a) b::c
def Jbu (a:L2)(b:Int):L2:=Jal (Jav a) 2 b
theorem v15 (xs:L2) (K:KP):(comes TP Rw 1 144 [.sl 0] [.ro [.u64,.i64] xs] K) =(JaB (rF [JaG] (Jbs [] xs [])/\Jar (0<=Jag xs/\Jag xs*16<=140737488355328) (1=1/\JaB (Jba 0 [] xs [] xs [] (Jbu xs 0) []=Jba 0 [] xs [] xs [] (Jbu xs 0) []) (JaL xs) (JaY (Jbu xs 0) xs) (hU xs) (tk xs)) (∀a:L2,eZ xs a->K JaG (Jbb 72 [] a []))) (0<=Jag xs/\Jag xs*16<=140737488355328) (rF [JaG] (Jbs [] xs [])) (1=1/\JaB (Jba 0 [] xs [] xs [] (Jbu xs 0) []=Jba 0 [] xs [] xs [] (Jbu xs 0) []) (JaL xs) (JaY (Jbu xs 0) xs) (hU xs) (tk xs)) (∀a:L2,eZ xs a->K JaG (Jbb 72 [] a []))) :=by kernel_rfl
section
open Go.IntWalk
theorem Ul (N:Know) (n0:Nat):aG (ai TP N 0) 109 n0 0 (lp TP 109 0) L18:=by
 rintro st K ⟨⟨rfl,hst,hlen⟩,hbr⟩;generalize st.x 0=xs at *;subst hst;rw [Hl] at hbr;refine aC (ku xs) (fun i=>1<=i/\(i<=xs.length∨i=1)/\∀ p q:Nat,p < q->(q:Int) < i->rd xs p 0<=rd xs q 0) (fun i=>(xs.length+1 - i).toNat) ?_ (a:=1) ⟨by omega,by omega,fun p q h1 h2=>by omega⟩
 rintro i ⟨h1,h2,h3⟩ k hn hk;rw [r18]; delta Jaa Jab Jac Jad Jae Jaf Jag Jah Jai Jam Jao Jaq Jar Jau Jax JaB JaG JaJ JaK JaP JaQ Ja1 Ja2 Jbd JbC; rw [al];constructor
 ·intro hi;rw [i64_in (i - 1) (by omega),i64_in (i+1) (by omega)]
  refine ⟨⟨by omega,hi⟩,⟨by omega,hi⟩,⟨by omega,by omega⟩,⟨by omega,by omega⟩,?_⟩
  rw [al];constructor
  ·intro hlt;refine hk _ _ (by simp) (hbr.2 ?_)
   intro hr;have:=hr (i - 1).toNat i.toNat (by omega) (by omega)
   omega
  ·intro hle;refine hn _ ⟨by omega,by omega,fun p q hpq hq=>?_⟩ (by omega)
   by_cases hq':(q:Int) < i
   ·exact h3 p q hpq hq'
   ·have e1:q=i.toNat:=by omega
    subst e1;by_cases hp:p=(i - 1).toNat
    ·subst hp; omega
    ·have:=h3 p (i - 1).toNat (by omega) (by omega)
     omega
 ·intro hi;refine hk _ _ (by simp) (hbr.1 ?_)
  intro p q hpq hq;exact h3 p q hpq (by omega)
theorem Pg (xs:L2) (n i:Nat):rd (xs.drop n) i 0=rd xs (n+i) 0:=by
 simp [rd,List.getD,List.getElem?_drop]
structure I16 (zs0:L2) (i:Int) (a:L2 × Int):Prop where
 len:a.1.length=zs0.length
 same:hO zs0 a.1
 two:hU a.1
 lo:0<=a.2
 hi:a.2<=i
 up:∀ p q:Nat,p < q->(q:Int)<=i->(p:Int)≠a.2->(q:Int)≠a.2->rd a.1 p 0<=rd a.1 q 0
 less:∀ q:Nat,a.2 < q->(q:Int)<=i->rd a.1 a.2.toNat 0 < rd a.1 q 0
theorem PM (N:Know) (n0:Nat):aG (ai TP N 0) 108 n0 1 (lp TP 108 1) YG:=by
 rintro st K ⟨⟨rfl,hst,hx,h1,h2,hm,hs⟩,hK⟩;generalize st.x 0=xs at *;generalize st.x 1=zs0 at *;generalize st.i 4=i at *;subst hst;refine aC (fun a:L2 × Int=>Rq xs a.1 i a.2) (I16 zs0 i) (fun a=>a.2.toNat) ?_ (a:=(zs0,i)) ⟨rfl,hO.refl _,hx,by simp; omega,by simp,?_,?_⟩
 ·rintro ⟨zs,j⟩ ⟨a1,a2,a3,a4,a5,a6,a7⟩ k hn hk;simp only at a1 a2 a3 a4 a5 a6 a7;have fin:(∀ p q:Nat,p < q->(q:Int)<=i->rd zs p 0<=rd zs q 0)->k (Out.exit 2) (VV xs zs i):=by
   intro hup;refine hk _ _ (by simp) (hK zs a1 a2 ?_ a3)
   intro p q hpq hq;exact hup p q hpq (by omega)
  show round _ _ _ _ _ (Rq xs zs i j) k;rw [aak]; delta Jaa Jab Jac Jad Jae Jaf Jag Jah Jai Jak Jam Jao Jaq Jar Jau Jaw Jax Jay JaB JaC JaD JaK JaO JaQ Ja1 Ja2 Jbg Jbn JbC; rw [al];constructor
  ·intro hj;rw [i64_in (j - 1) (by omega)]
   refine ⟨⟨by omega,by omega⟩,⟨by omega,by omega⟩,⟨by omega,by omega⟩,⟨by omega,by omega⟩,?_⟩
   rw [al];have ej:(j - 1).toNat=j.toNat - 1:=by omega
   constructor
   ·intro hlt;simp only [rV,List.length_set];refine ⟨⟨by omega,by omega⟩,⟨by omega,by omega⟩,⟨by omega,by omega⟩,⟨by omega,by omega⟩,⟨by omega,by omega⟩,⟨by omega,by omega⟩,⟨by omega,by omega⟩,⟨by omega,by omega⟩,?_⟩
    have hjl:j.toNat < zs.length:=by omega
    have hjl':j.toNat - 1 < zs.length:=by omega
    rw [ej,sW a3 hjl,sW a3 hjl'];rw [ej,rd_key hjl,rd_key hjl'] at hlt;have hrd:∀ p:Nat,rd ((zs.set j.toNat zs[j.toNat - 1]).set (j.toNat - 1) zs[j.toNat]) p 0=if p=j.toNat - 1 then key zs[j.toNat] else if p=j.toNat then key zs[j.toNat - 1] else rd zs p 0:=by
     intro p;unfold rd;by_cases e1:p=j.toNat - 1
     ·subst e1;simp [List.getD,key,hjl']
     ·by_cases e2:p=j.toNat
      ·subst e2;have:¬ j.toNat - 1=j.toNat:=by omega
       simp [List.getD,key,hjl,e1,this,List.getElem?_set]
      ·have e1':¬ j.toNat - 1=p:=fun h=>e1 h.symm
       have e2':¬ j.toNat=p:=fun h=>e2 h.symm
       simp [List.getD,e1,e2,e1',e2',List.getElem?_set]
    refine hn (_,j - 1) ⟨?_,?_,?_,?_,?_,?_,?_⟩ (by simp; omega)
    ·simp [a1]
    ·exact a2.trans (Eo (by omega) hjl (by omega))
    ·intro x hx';rcases List.mem_or_eq_of_mem_set hx' with hx' | rfl
     ·rcases List.mem_or_eq_of_mem_set hx' with hx' | rfl
      ·exact a3 x hx'
      ·exact a3 _ (List.getElem_mem _)
     ·exact a3 _ (List.getElem_mem _)
    ·simp; omega
    ·simp; omega
    ·intro p q hpq hq hp hq';simp only at hp hq' hq ⊢;rw [hrd,hrd];have n1:¬ p=j.toNat - 1:=by omega
     have n2:¬ q=j.toNat - 1:=by omega
     simp only [n1,n2,if_false];by_cases hpj:p=j.toNat
     ·subst hpj;have n3:¬ q=j.toNat:=by omega
      simp only [n3,if_true,if_false];have:=a6 (j.toNat - 1) q (by omega) hq (by omega) (by omega)
      rw [rd_key hjl'] at this;exact this
     ·by_cases hqj:q=j.toNat
      ·subst hqj;simp only [hpj,if_true,if_false];have:=a6 p (j.toNat - 1) (by omega) (by omega) (by omega) (by omega)
       rw [rd_key hjl'] at this;exact this
      ·simp only [hpj,hqj,if_false];exact a6 p q hpq hq (by omega) (by omega)
    ·intro q hq hqi;simp only at hq hqi ⊢;rw [ej,hrd,hrd];have n2:¬ q=j.toNat - 1:=by omega
     simp only [n2,if_true,if_false];by_cases hqj:q=j.toNat
     ·simp only [hqj,if_true];omega
     ·simp only [hqj,if_false];have:=a7 q (by omega) hqi
      rw [rd_key hjl] at this;exact this
   ·intro hge;refine fin ?_;intro p q hpq hq;by_cases hqj:(q:Int)=j
    ·have e1:q=j.toNat:=by omega
     subst e1;by_cases hp:p=j.toNat - 1
     ·subst hp; rw [← ej]; omega
     ·have:=a6 p (j.toNat - 1) (by omega) (by omega) (by omega) (by omega)
      rw [← ej] at this;omega
    ·by_cases hpj:(p:Int)=j
     ·have e1:p=j.toNat:=by omega
      subst e1;have:=a7 q (by omega) hq
      omega
     ·exact a6 p q hpq hq hpj hqj
  ·intro hj;refine fin ?_;intro p q hpq hq;by_cases hpj:(p:Int)=j
   ·have e1:p=j.toNat:=by omega
    subst e1;have:=a7 q (by omega) hq
    omega
   ·exact a6 p q hpq hq hpj (by omega)
 ·intro p q hpq hq hp hq';simp only at hp hq' ⊢;exact hs p q hpq (by omega)
 ·intro q hq hqi;simp only at hq;omega
theorem Un (n0:Nat):aG (ai TP VX 0) 108 n0 0 (lp TP 108 0) L16:=by
 rintro st K ⟨⟨rfl,hst,hx,hm⟩,hK⟩;generalize st.x 0=xs at *;generalize st.x 1=zs0 at *;subst hst;refine aC (fun a:L2 × Int=>VV xs a.1 a.2) (fun a=>a.1.length=zs0.length/\hO zs0 a.1/\hU a.1/\1<=a.2/\(a.2<=zs0.length∨a.2=1)/\Jt a.2.toNat a.1) (fun a=>(zs0.length+1 - a.2).toNat) ?_ (a:=(zs0,1)) ⟨rfl,hO.refl _,hx,by simp,by simp,fun p q h1 h2=>by simp at h2; omega⟩
 rintro ⟨zs,i⟩ ⟨a1,a2,a3,a4,a5,a6⟩ k hn hk;simp only at a1 a2 a3 a4 a5 a6;show round _ _ _ _ _ (VV xs zs i) k;rw [r16]; delta Jaa Jab Jac Jad Jae Jaf Jag Jah Jai Jak Jao Jaq Jar Jau Jaw JaB JaC JaD JaJ JaL JaO JaQ JaY Jbg Jbn Jbo; rw [al];constructor
 ·intro hi;refine ⟨⟨rfl,rfl,a3,a4,hi,by omega,a6⟩,?_⟩
  intro zs' l1 l2 l3 l4;rw [i64_in (i+1) (by omega)]
  refine hn (zs',i+1) ⟨by simp; omega,a2.trans l2,l4,by simp; omega,by simp; omega,?_⟩ (by simp; omega)
  have e:(i+1).toNat=i.toNat+1:=by omega
  simp only [e];exact l3
 ·intro hi;refine hk _ _ (by simp) (hK zs ⟨a1,a2,?_,a3⟩)
  intro p q hpq hq;exact a6 p q hpq (by omega)
theorem oS (s x:Int):0<=dg s x/\dg s x < 256:=by
 unfold dg;have h:(BitVec.ofInt 64 (x.fdiv (2 ^ min s.toNat 64)) &&& BitVec.ofInt 64 255).toNat<=255:=by
  rw [BitVec.toNat_and];exact Nat.and_le_right
 rw [u64_in _ (by omega)]
 omega
theorem oR (A:L1) (i j v:Int) (hi:0<=i) (hj:0<=j) (hl:i < A.length):cW (qO A i v) j=if j=i then v else cW A j:=by
 unfold cW qO;by_cases h:j=i
 ·subst h;simp [List.getD,hl,show j.toNat < A.length by omega]
 ·have:¬ i.toNat=j.toNat:=by omega
  simp [List.getD,h,List.getElem?_set,this]
theorem oO (A:L1) (i v:Int):(qO A i v).length=A.length:=by simp [qO]
theorem l6 {p:L1->Bool} {ys:L2} {j:Nat} (h:j < ys.length):(ys.take (j+1)).filter p=(ys.take j).filter p++if p ys[j] then [ys[j]] else []:=by
 rw [List.take_add_one,List.filter_append,List.getElem?_eq_getElem h]
 congr 1
 simp [List.filter_cons]
theorem sA (s d:Int) {ys:L2} {j:Nat} (h:j < ys.length):(vC s d (ys.take (j+1)):Int)=vC s d (ys.take j)+if dg s (key ys[j])=d then 1 else 0:=by
 unfold vC;rw [l6 h];by_cases hd:dg s (key ys[j])=d <;> simp [hd]
theorem MQ (s d:Int) (ys:L2):vC s d ys<=ys.length:=List.length_filter_le _ _
theorem He (s d:Int) (ys:L2):gC s d ys<=ys.length:=List.length_filter_le _ _
theorem AZ:qZ.length=257:=List.length_replicate
theorem yI (i:Int):cW qZ i=0:=by
 unfold cW qZ;rw [List.getD,List.getElem?_replicate];split <;> rfl
theorem mH (s d:Int) (ys:L2):gC s (d+1) ys=gC s d ys+vC s d ys:=by
 unfold gC vC;induction ys with
 | nil=>rfl
 | cons y ys ih=>
  simp only [List.filter_cons];by_cases h1:dg s (key y) < d
  ·have h2:dg s (key y) < d+1:=by omega
   have h3:¬ dg s (key y)=d:=by omega
   simp [h1,h2,h3,ih];omega
  ·by_cases h3:dg s (key y)=d
   ·have h2:dg s (key y) < d+1:=by omega
    simp only [h1,h2,decide_true,decide_false,if_true,Bool.false_eq_true,if_false,List.length_cons,ih];simp [h3];omega
   ·have h2:¬ dg s (key y) < d+1:=by omega
    simp [h1,h2,h3,ih]
theorem tL (s:Int) (ys:L2):gC s 0 ys=0:=by
 unfold gC;rw [List.length_eq_zero_iff,List.filter_eq_nil_iff];intro y _;have:=(oS s (key y)).1;simp;omega
theorem xm (s:Int) (ys:L2):gC s 256 ys=ys.length:=by
 unfold gC
 congr 1
 rw [List.filter_eq_self];intro y _;have:=(oS s (key y)).2;simp;omega
theorem PQ (N:Know) (n0:Nat):aG (ai TP N 0) 144 n0 1 (lp TP 144 1) YJ:=by
 rintro st K ⟨⟨rfl,hst,hlen,hs⟩,hK⟩;generalize st.x 0=xs at *;generalize st.x 1=ys at *;generalize st.x 2=zs at *;generalize st.i 5=s at *;subst hst;refine aC (fun a:L1 × Int=>Rs xs ys zs a.1 s a.2) (fun a=>a.1.length=257/\0<=a.2/\a.2<=ys.length/\cW a.1 0=0/\∀ d:Int,0<=d->d < 256->cW a.1 (d+1)=vC s d (ys.take a.2.toNat)) (fun a=>(ys.length - a.2).toNat) ?_ (a:=(qZ,0)) ⟨AZ,by simp,by simp,yI _,?_⟩
 ·rintro ⟨A,j⟩ ⟨a1,a2,a3,a4,a5⟩ k hn hk;simp only at a1 a2 a3 a4 a5;show round _ _ _ _ _ (Rs xs ys zs A s j) k;rw [aan]; delta Jaa Jab Jac Jad Jae Jaf Jag Jah Jai Jak Jam Jao Jaq Jar Jat Jau Jaw Jax Jaz JaA JaB JaC JaD JaJ JaK JaM JaO JaQ JaR Ja3 Ja9 Jbh Jbx Jby JbA; rw [al];constructor
  ·intro hj;have hjl:j.toNat < ys.length:=by omega
   rw [i64_in (j+1) (by omega)]
   rw [rd_key hjl];have hdg:=oS s (key ys[j.toNat]);have hfold:IntKind.u64.wrap (↑(BitVec.ofInt 64 ((key ys[j.toNat]).fdiv (2 ^ min s.toNat 64)) &&& BitVec.ofInt 64 255).toNat:Int)=dg s (key ys[j.toNat]):=rfl;simp only [hfold];rw [u64_in (dg s (key ys[j.toNat])+1) (by omega)]
   have hc:=a5 (dg s (key ys[j.toNat])) hdg.1 hdg.2;have hcl:=MQ s (dg s (key ys[j.toNat])) (ys.take j.toNat);have htl:(ys.take j.toNat).length<=1000000:=by simp; omega
   rw [i64_in (cW A (dg s (key ys[j.toNat])+1)+1) (by omega)]
   refine ⟨⟨by omega,hj⟩,⟨by omega,hj⟩,hs,⟨by omega,by omega⟩,⟨by omega,by omega⟩,⟨by omega,by omega⟩,⟨by omega,by omega⟩,?_⟩
   refine hn (qO A (dg s (key ys[j.toNat])+1) (cW A (dg s (key ys[j.toNat])+1)+1),j+1) ⟨by simp [oO,a1],by simp; omega,by simp; omega,?_,?_⟩ (by simp; omega)
   ·simp only;rw [oR _ _ _ _ (by omega) (by omega) (by omega),if_neg (by omega)]
    exact a4
   ·intro d hd1 hd2;simp only;have e:(j+1).toNat=j.toNat+1:=by omega
    rw [e,sA s d hjl,oR _ _ _ _ (by omega) (by omega) (by omega)]
    by_cases hd:dg s (key ys[j.toNat])=d
    ·subst hd;simp [hc]
    ·rw [if_neg (by omega),if_neg hd,a5 d hd1 hd2]
     omega
  ·intro hj;refine hk _ _ (by simp) (hK A ⟨a1,?_,?_⟩)
   ·simpa [cW] using a4
   ·intro d hd;have:=a5 d (by omega) (by omega)
    have e:j.toNat=ys.length:=by omega
    rw [e,List.take_length] at this;rw [← this];simp only [cW]
    congr 1
 ·intro d h1 h2;rw [yI];simp [vC]
theorem PO (N:Know) (n0:Nat):aG (ai TP N 0) 144 n0 2 (lp TP 144 2) YI:=by
 rintro st K ⟨⟨rfl,hst,hlen,hs,hc⟩,hK⟩;generalize st.x 0=xs at *;generalize st.x 1=ys at *;generalize st.x 2=zs at *;generalize st.i 5=s at *;generalize st.a 3=A0 at *;subst hst;refine aC (fun a:L1 × Int=>Rr xs ys zs a.1 s a.2) (fun a=>a.1.length=257/\0<=a.2/\a.2<=256/\(∀ d:Int,0<=d->d<=a.2->cW a.1 d=gC s d ys)/\∀ d:Int,a.2<=d->d < 256->cW a.1 (d+1)=vC s d ys) (fun a=>(256 - a.2).toNat) ?_ (a:=(A0,0)) ⟨hc.1,by simp,by simp,?_,?_⟩
 ·rintro ⟨A,j⟩ ⟨a1,a2,a3,a4,a5⟩ k hn hk;simp only at a1 a2 a3 a4 a5;show round _ _ _ _ _ (Rr xs ys zs A s j) k;rw [aam]; delta Jaa Jab Jac Jad Jae Jaf Jah Jai Jak Jao Jaq Jar Jau Jax JaB JaC JaD JaJ JaM JaQ Ja3 Ja6 Ja9 Jbr Jbx Jby JbA; rw [al];constructor
  ·intro hj;rw [i64_in (j+1) (by omega)]
   have e1:=a4 j a2 (by omega)
   have e2:=a5 j (by omega) hj
   have l1:=He s j ys;have l2:=MQ s j ys;rw [i64_in (cW A (j+1)+cW A j) (by omega)]
   refine ⟨⟨by omega,by omega⟩,⟨by omega,by omega⟩,⟨by omega,by omega⟩,⟨by omega,by omega⟩,⟨by omega,by omega⟩,⟨by omega,by omega⟩,?_⟩
   refine hn (qO A (j+1) (cW A (j+1)+cW A j),j+1) ⟨by simp [oO,a1],by simp; omega,by simp; omega,?_,?_⟩ (by simp; omega)
   ·intro d hd1 hd2;simp only at hd2 ⊢;rw [oR _ _ _ _ (by omega) (by omega) (by omega)]
    by_cases hd:d=j+1
    ·subst hd;rw [if_pos rfl,mH,e1,e2];omega
    ·rw [if_neg hd];exact a4 d hd1 (by omega)
   ·intro d hd1 hd2;simp only at hd1 ⊢;rw [oR _ _ _ _ (by omega) (by omega) (by omega),if_neg (by omega)]
    exact a5 d (by omega) hd2
  ·intro hj;refine hk _ _ (by simp) (hK A ⟨a1,?_⟩)
   intro d hd;have:=a4 d (by omega) (by omega)
   simpa [cW] using this
 ·intro d h1 h2;simp only at h2;have:d=0:=by omega
  subst this;rw [tL];simpa [cW] using hc.2.1
 ·intro d h1 h2;have:=hc.2.2 d.toNat (by omega)
  have e:(d.toNat:Int)=d:=by omega
  rw [e] at this;simp only [cW];rw [← this]
  congr 1
  simp only at h1;omega
theorem pieces {α:Type} (Z:List α) (f:Nat->List α) (o:Nat->Nat) (h0:o 0=0) (hs:∀ d,o (d+1)=o d+(f d).length):∀ m,o m<=Z.length->(∀ d,d < m->∀ t,t < (f d).length->Z[o d+t]? = (f d)[t]?)->Z.take (o m)=(List.range m).flatMap f:=by
 intro m;induction m with
 | zero=>intro _ _; simp [h0]
 | succ m ih=>
  intro hl h;rw [List.range_succ,List.flatMap_append,← ih (by rw [hs] at hl; omega) (fun d hd=>h d (by omega)),hs,List.take_add]
  congr 1
  simp only [List.flatMap_cons,List.flatMap_nil,List.append_nil];apply List.ext_getElem?;intro t;by_cases ht:t < (f m).length
  ·rw [List.getElem?_take,if_pos ht,List.getElem?_drop];exact h m (by omega) t ht
  ·rw [List.getElem?_eq_none (by simp; omega),List.getElem?_eq_none (by omega)]
def VP (s d:Int) (ys:L2):L2:=ys.filter fun x=>decide (dg s (key x)=d)
theorem mV (s d:Int) (ys:L2):(VP s d ys).length=vC s d ys:=rfl
theorem Md (s d:Int) {ys:L2} {j:Nat} (h:j < ys.length):VP s d (ys.take (j+1))=VP s d (ys.take j)++if dg s (key ys[j])=d then [ys[j]] else []:=by
 unfold VP;rw [l6 h];by_cases hd:dg s (key ys[j])=d <;> simp [hd]
theorem uL (s d:Int) (ys:L2) (j:Nat):vC s d (ys.take j)<=vC s d ys:=
 ((List.take_sublist j ys).filter _).length_le
theorem yL (s:Int) (ys:L2) {d e:Int} (h:d<=e):gC s d ys<=gC s e ys:=by
 unfold gC;induction ys with
 | nil=>simp
 | cons y ys ih=>
  simp only [List.filter_cons];by_cases h1:dg s (key y) < d
  ·have h2:dg s (key y) < e:=by omega
   simp [h1,h2,ih]
  ·by_cases h2:dg s (key y) < e
   ·simp [h1,h2]; omega
   ·simp [h1,h2,ih]
structure I15c (s:Int) (ys:L2) (a:(L1 × L2) × Int):Prop where
 lenA:a.1.1.length=257
 lo:0<=a.2
 hi:a.2<=ys.length
 lenZ:a.1.2.length=ys.length
 at_:∀ d:Int,0<=d->d < 256->cW a.1.1 d=gC s d ys+vC s d (ys.take a.2.toNat)
 put:∀ d:Int,0<=d->d < 256->∀ t:Nat,t < vC s d (ys.take a.2.toNat)->a.1.2[gC s d ys+t]? = (VP s d (ys.take a.2.toNat))[t]?
theorem PN (N:Know) (n0:Nat):aG (ai TP N 0) 144 n0 3 (lp TP 144 3) YH:=by
 rintro st K ⟨⟨rfl,hst,hlen,hs,hc,hz,hr⟩,hK⟩;generalize st.x 0=xs at *;generalize st.x 1=ys at *;generalize st.x 2=zs at *;generalize st.i 5=s at *;generalize st.a 3=A0 at *;subst hst;refine aC (fun a:(L1 × L2) × Int=>NR xs ys a.1.2 a.1.1 s a.2) (I15c s ys) (fun a=>(ys.length - a.2).toNat) ?_ (a:=((A0,zs),0)) ⟨hc.1,by simp,by simp,hz,?_,?_⟩
 ·rintro ⟨⟨A,Z⟩,j⟩ ⟨a1,a2,a3,a4,a5,a6⟩ k hn hk;simp only at a1 a2 a3 a4 a5 a6;show round _ _ _ _ _ (NR xs ys Z A s j) k;rw [aal]; delta Jaa Jab Jac Jad Jae Jaf Jag Jah Jai Jak Jam Jao Jaq Jar Jat Jau Jaw Jax Jay Jaz JaA JaB JaC JaD JaJ JaK JaM JaO JaQ JaR Ja3 Ja6 Jba Jbt Jbx Jby JbA; rw [al];constructor
  ·intro hj;have hjl:j.toNat < ys.length:=by omega
   rw [i64_in (j+1) (by omega)]
   rw [sW hr hjl,rd_key hjl];have hdg:=oS s (key ys[j.toNat]);have hfold:IntKind.u64.wrap (↑(BitVec.ofInt 64 ((key ys[j.toNat]).fdiv (2 ^ min s.toNat 64)) &&& BitVec.ofInt 64 255).toNat:Int)=dg s (key ys[j.toNat]):=rfl;simp only [hfold,rV];generalize hd0:dg s (key ys[j.toNat])=d0 at *;have e1:=a5 d0 hdg.1 hdg.2;have e2:=sA s d0 hjl;rw [hd0,if_pos rfl] at e2;have e3:=uL s d0 ys (j.toNat+1);have e4:=mH s d0 ys;have e5:=He s (d0+1) ys;rw [i64_in (cW A d0+1) (by omega)]
   have hp:(cW A d0).toNat=gC s d0 ys+vC s d0 (ys.take j.toNat):=by omega
   have fin:k Out.normal (NR xs ys (Z.set (cW A d0).toNat ys[j.toNat]) (qO A d0 (cW A d0+1)) s (j+1)):=by
    refine hn ((qO A d0 (cW A d0+1),Z.set (cW A d0).toNat ys[j.toNat]),j+1) ⟨by simp [oO,a1],by simp; omega,by simp; omega,by simp [a4],?_,?_⟩ (by simp; omega)
    ·intro d hd1 hd2;have e:(j+1).toNat=j.toNat+1:=by omega
     simp only [e];rw [sA s d hjl,hd0,oR _ _ _ _ (by omega) (by omega) (by omega)]
     by_cases hd:d=d0
     ·subst hd;rw [if_pos rfl,if_pos rfl,e1];omega
     ·rw [if_neg hd,if_neg (fun h=>hd h.symm),a5 d hd1 hd2]
      omega
    ·intro d hd1 hd2 t ht;have e:(j+1).toNat=j.toNat+1:=by omega
     simp only [e] at ht ⊢;have hcs:=sA s d hjl;rw [hd0] at hcs;rw [Md s d hjl,hd0,hp,List.getElem?_set];by_cases hd:d0=d
     ·subst hd;rw [if_pos rfl] at hcs ⊢;by_cases htt:t < vC s d0 (ys.take j.toNat)
      ·rw [if_neg (by omega),List.getElem?_append_left (by rw [mV]; exact htt)]
       exact a6 d0 hd1 hd2 t htt
      ·have:t=vC s d0 (ys.take j.toNat):=by omega
       subst this;rw [if_pos rfl,if_pos (by omega),List.getElem?_append_right (by rw [mV]; exact Nat.le_refl _),mV]
       simp
     ·rw [if_neg hd] at hcs ⊢;have ht':t < vC s d (ys.take j.toNat):=by omega
      have l1:=uL s d ys j.toNat;have l2:=mH s d ys;have hne:¬ gC s d0 ys+vC s d0 (ys.take j.toNat)=gC s d ys+t:=by
       rcases Int.lt_or_gt_of_ne hd with h | h
       ·have:=yL s ys (show d0+1<=d by omega)
        omega
       ·have:=yL s ys (show d+1<=d0 by omega)
        omega
      rw [if_neg hne,List.append_nil];exact a6 d hd1 hd2 t ht'
   repeat' apply And.intro
   all_goals first | exact fin | exact hs | omega
  ·intro hj;have e:j.toNat=ys.length:=by omega
   have hZ:Z=pass s ys:=by
    have hpc:=pieces Z (fun d=>VP s (d:Int) ys) (fun d=>gC s (d:Int) ys) (by simpa using tL s ys) (fun d=>by
     have:=mH s (d:Int) ys;simpa [mV] using this) 256 (by have:=xm s ys; rw [a4]; exact Nat.le_of_eq (by simpa using this)) (fun d hd t ht=>by
     have:=a6 (d:Int) (by omega) (by omega) t (by rw [e,List.take_length]; exact ht)
     rw [e,List.take_length] at this;exact this)
    have h256:gC s ((256:Nat):Int) ys=Z.length:=by rw [a4]; exact xm s ys
    simp only [h256,List.take_length] at hpc;exact hpc
   rw [hZ];exact hk _ _ (by simp) hK
 ·intro d h1 h2;have:=hc.2 d.toNat (by omega)
  have e:(d.toNat:Int)=d:=by omega
  rw [e] at this;simp only [cW];rw [this];simp [vC]
 ·intro d h1 h2 t ht;simp [vC] at ht
theorem SB {s x:Int} (hs:0<=s) (hs':s<=63) (hx:0<=x) (hx':x < 18446744073709551616):dg s x=x / 2 ^ s.toNat % 256:=by
 have hm:min s.toNat 64=s.toNat:=by omega
 have hpow:(0:Int) < 2 ^ s.toNat:=Int.pow_pos (by decide)
 have hq:0<=x / 2 ^ s.toNat:=Int.ediv_nonneg hx (by omega)
 have hq':x / 2 ^ s.toNat<=x:=Int.ediv_le_self _ hx;have hand:(BitVec.ofInt 64 (x / 2 ^ s.toNat) &&& BitVec.ofInt 64 255).toNat=(x / 2 ^ s.toNat).toNat % 256:=by
  rw [BitVec.toNat_and,BitVec.toNat_ofInt];have e1:((x / 2 ^ s.toNat) % ((2 ^ 64:Nat):Int)).toNat=(x / 2 ^ s.toNat).toNat:=by
   rw [Int.emod_eq_of_lt hq (by omega)]
  rw [e1];exact Nat.and_two_pow_sub_one_eq_mod _ 8
 unfold dg;rw [hm,Int.fdiv_eq_ediv_of_nonneg _ (by omega),hand]
 have:(x / 2 ^ s.toNat).toNat % 256 < 256:=Nat.mod_lt _ (by decide)
 rw [u64_in _ (by omega)]
 omega
theorem Ck {s x y:Int} (hs:0<=s) (hs':s<=56) (hx:0<=x) (hx':x < 18446744073709551616) (hy:0<=y) (hy':y < 18446744073709551616)
  (h:dg s x < dg s y∨(dg s x=dg s y/\x % 2 ^ s.toNat<=y % 2 ^ s.toNat)):x % 2 ^ (s+8).toNat<=y % 2 ^ (s+8).toNat:=by
 rw [SB hs (by omega) hx hx',SB hs (by omega) hy hy'] at h
 have e:(2:Int) ^ (s+8).toNat=2 ^ s.toNat*256:=by
  rw [show (s+8).toNat=s.toNat+8 by omega,Int.pow_add]
  rfl
 have hpow:(0:Int) < 2 ^ s.toNat:=Int.pow_pos (by decide)
 have key:∀ z:Int,z % (2 ^ s.toNat*256)=2 ^ s.toNat*(z / 2 ^ s.toNat % 256)+z % 2 ^ s.toNat:=by
  intro z;have e3:z / (2 ^ s.toNat*256)=z / 2 ^ s.toNat / 256:=(Int.ediv_ediv_of_nonneg (by omega)).symm
  rw [Int.emod_def z (2 ^ s.toNat*256),e3,Int.emod_def z (2 ^ s.toNat),Int.emod_def (z / 2 ^ s.toNat) 256,Int.mul_sub,Int.mul_assoc];omega
 rw [e,key x,key y];generalize x / 2 ^ s.toNat % 256=a at *;generalize y / 2 ^ s.toNat % 256=b at *;have hx2:=Int.emod_lt_of_pos x hpow;have hy2:=Int.emod_nonneg y (show (2:Int) ^ s.toNat≠0 by omega)
 generalize x % 2 ^ s.toNat=p at *;generalize y % 2 ^ s.toNat=q at *;generalize (2:Int) ^ s.toNat=m at *;rcases h with h | ⟨rfl,h⟩
 ·have:m*(a+1)<=m*b:=Int.mul_le_mul_of_nonneg_left (by omega) (by omega)
  rw [Int.mul_add] at this;omega
 ·omega
theorem Cf {s:Int} {ys:L2} {x:L1} (h:x∈pass s ys):x∈ys:=by
 unfold pass at h;simp only [List.mem_flatMap,List.mem_filter] at h;obtain ⟨d,_,h,_⟩:=h;exact h
theorem BW (s:Int) (ys:L2):(pass s ys).length=ys.length:=by
 have key:∀ m:Nat,((List.range m).flatMap fun (d:Nat)=>ys.filter fun x=>decide (dg s (key x)=(d:Int))).length=gC s m ys:=by
  intro m;induction m with
  | zero=>simpa using (tL s ys).symm
  | succ m ih=>
   rw [List.range_succ,List.flatMap_append,List.length_append,ih];have:=mH s (m:Int) ys;simp only [List.flatMap_cons,List.flatMap_nil,List.append_nil];unfold vC at this;rw [← this]
   rfl
 have:=key 256;rw [show ((256:Nat):Int)=256 from rfl,xm] at this
 exact this
theorem Im (s:Int) (ys:L2):hO ys (pass s ys):=by
 intro v;unfold pass;rw [List.filter_flatMap];have hr:=oS s v;have key:∀ m:Nat,((List.range m).flatMap fun (d:Nat)=>(ys.filter fun x=>decide (dg s (key x)=(d:Int))).filter fun x=>decide (key x=v))=if dg s v < m then ys.filter (fun x=>decide (key x=v)) else []:=by
  intro m;induction m with
  | zero=>
   rw [if_neg (by omega)]
   rfl
  | succ m ih=>
   rw [List.range_succ,List.flatMap_append,ih];simp only [List.flatMap_cons,List.flatMap_nil,List.append_nil,List.filter_filter];by_cases hd:dg s v=m
   ·rw [if_neg (by omega),if_pos (by omega),List.nil_append]
    apply List.filter_congr;intro x _;by_cases hx:key x=v
    ·subst hx; simp [hd]
    ·simp [hx]
   ·have:(ys.filter fun x=>decide (key x=v) && decide (dg s (key x)=(m:Int)))=[]:=by
     rw [List.filter_eq_nil_iff];intro x _;by_cases hx:key x=v
     ·subst hx; simp [hd]
     ·simp [hx]
    rw [this,List.append_nil];by_cases h2:dg s v < m
    ·rw [if_pos h2,if_pos (by omega)]
    ·rw [if_neg h2,if_neg (by omega)]
 have:=key 256;rw [if_pos (by omega)] at this
 exact this
theorem xF {s:Int} {ys:L2} (hs:0<=s) (hs':s<=56) (hk:tk ys) (h:ys.Pairwise fun a b=>key a % 2 ^ s.toNat<=key b % 2 ^ s.toNat):
  (pass s ys).Pairwise fun a b=>key a % 2 ^ (s+8).toNat<=key b % 2 ^ (s+8).toNat:=by
 have key:∀ m:Nat,((List.range m).flatMap fun (d:Nat)=>ys.filter fun x=>decide (dg s (key x)=(d:Int))).Pairwise fun a b=>key a % 2 ^ (s+8).toNat<=key b % 2 ^ (s+8).toNat:=by
  intro m;induction m with
  | zero=>simp
  | succ m ih=>
   rw [List.range_succ,List.flatMap_append,List.pairwise_append];refine ⟨ih,?_,?_⟩
   ·simp only [List.flatMap_cons,List.flatMap_nil,List.append_nil];have h2:=(h.sublist (List.filter_sublist (p:=fun x=>decide (dg s (key x)=(m:Int)))))
    refine List.Pairwise.imp_of_mem ?_ h2;intro a b ha hb hab;rw [List.mem_filter] at ha hb;have da:dg s (key a)=m:=by simpa using ha.2
    have db:dg s (key b)=m:=by simpa using hb.2
    exact Ck hs hs' (hk a ha.1).1 (hk a ha.1).2 (hk b hb.1).1 (hk b hb.1).2 (.inr ⟨by omega,hab⟩)
   ·intro a ha b hb;simp only [List.mem_flatMap,List.mem_filter,List.mem_range,List.flatMap_cons,List.flatMap_nil,List.append_nil] at ha hb;obtain ⟨d,hd,ha,hda⟩:=ha;obtain ⟨hb,hdb⟩:=hb;have da:dg s (key a)=d:=by simpa using hda
    have db:dg s (key b)=m:=by simpa using hdb
    exact Ck hs hs' (hk a ha).1 (hk a ha).2 (hk b hb).1 (hk b hb).2 (.inl (by omega))
 exact key 256
structure I15 (ys0:L2) (a:(L2 × L2) × Int):Prop where
 lenY:a.1.1.length=ys0.length
 lenZ:a.1.2.length=ys0.length
 same:hO ys0 a.1.1
 two:hU a.1.1
 keys:tk a.1.1
 lo:0<=a.2
 hi:a.2<=64
 eight:a.2 % 8=0
 up:a.1.1.Pairwise fun x y=>key x % 2 ^ a.2.toNat<=key y % 2 ^ a.2.toNat
theorem Uo (n0:Nat):aG (ai TP Rw 0) 144 n0 0 (lp TP 144 0) L15:=by
 rintro st K ⟨⟨rfl,hst,hlen,hz,hr,hkeys⟩,hK⟩;generalize st.x 0=xs at *;generalize st.x 1=ys0 at *;generalize st.x 2=zs0 at *;subst hst;refine aC (fun a:(L2 × L2) × Int=>Yv xs a.1.1 a.1.2 a.2) (I15 ys0) (fun a=>(64 - a.2).toNat) ?_ (a:=((ys0,zs0),0)) ⟨rfl,hz,hO.refl _,hr,hkeys,by simp,by simp,by simp,?_⟩
 ·rintro ⟨⟨ys,zs⟩,s⟩ ⟨a1,a2,a3,a4,a5,a6,a7,a8,a9⟩ k hn hk;simp only at a1 a2 a3 a4 a5 a6 a7 a8 a9;show round _ _ _ _ _ (Yv xs ys zs s) k;rw [r15]; delta Jaa Jab Jac Jad Jae Jaf Jag Jah Jai Jak Jan Jao Jaq Jar Jau Jaw JaB JaC JaD JaE JaL JaM JaO JaQ JaY Ja3 Ja6 Ja9 Jba Jbo Jbr Jbt Jbw Jby; rw [al];constructor
  ·intro hs;have hl:ys.length<=1000000:=by omega
   refine ⟨⟨rfl,rfl,hl,a6⟩,fun A1 h1=>⟨⟨rfl,rfl,hl,a6,h1⟩,fun A2 h2=>⟨⟨rfl,rfl,hl,a6,h2,by omega,a4⟩,?_⟩⟩⟩
   rw [i64_in (s+8) (by omega)]
   refine hn ((pass s ys,ys),s+8) ⟨by simp [BW,a1],a1,a3.trans (Im s ys),fun x hx=>a4 x (Cf hx),fun x hx=>a5 x (Cf hx),by simp; omega,by simp; omega,by simp; omega,?_⟩ (by simp; omega)
   exact xF a6 (by omega) a5 a9
  ·intro hs;have e:s=64:=by omega
   subst e;refine hk _ _ (by simp) (hK ys ⟨a1,a3,?_,a4⟩)
   intro p q hpq hq;rw [List.pairwise_iff_getElem] at a9;have:=a9 p q (by omega) hq hpq
   rw [rd_key (by omega),rd_key hq]
   have k1:=a5 ys[p] (List.getElem_mem _);have k2:=a5 ys[q] (List.getElem_mem _);have e64:(2:Int) ^ (64:Int).toNat=18446744073709551616:=by decide
   rw [e64,Int.emod_eq_of_lt k1.1 k1.2,Int.emod_eq_of_lt k2.1 k2.2] at this;exact this
 ·have:∀ (l:L2),l.Pairwise fun x y=>key x % 2 ^ (0:Int).toNat<=key y % 2 ^ (0:Int).toNat:=by
   intro l;rw [List.pairwise_iff_getElem];intro i j _ _ _;have e0:(2:Int) ^ (0:Int).toNat=1:=by decide
   rw [e0,Int.emod_one,Int.emod_one];omega
  exact this ys0
end
theorem mixedOrders:TP.follows .mixedOrders=true:=by kernel_rfl
theorem cO {P:Program} {N:Know} (h:∀ f i,N.Λ f i=none) (d:Nat):∀ d',d' < d->∀ f i S n0,N.Λ f i=some S->aG (ai P N d') f n0 i (lp P f i) S:=by
 intro d' _ f i S n0 hS;rw [h] at hS;cases hS
theorem c28:aa TP 180 F8:=by
 refine ab 1 ⟨mixedOrders,fun g sp h=>(by cases h),cO (N:=EE) (fun _ _=>rfl) 1,fun g G h=>(by cases h),fun f h=>(by cases h)⟩ (N:=EE) ?_
 rintro l bs _ _ ⟨xs,rfl,rfl,hl⟩;rw [v28]; delta Jal Jao JaG JaU Jbb;intro q hq;rw [aL];constructor
 ·intro h;rw [hq h]
  rfl
 ·intro _;exact ⟨by omega,rfl⟩
theorem wc {xs zs:L2} (h:eZ (List.replicate 0 (List.replicate 2 0)++xs) zs):eZ xs zs:=h
def rE (l:List IV) (bs:List aq):Prop:=∃xs,l=[.sl 0]/\bs=[.ro [.u64,.i64] xs]/\hU xs/\xs.length<=1000000
def DQ:Vs.Spec:=⟨rE,fun l bs=>(.sl 0,[.row 72 [.u64,.i64] (nU (aA bs 0))])⟩
theorem c16:aa TP 108 DQ:=by
 refine ab 1 ⟨mixedOrders,fun g sp h=>(by cases h),?_,fun g G h=>(by cases h),fun f h=>(by cases h)⟩ (N:=VX) ?_
 ·intro d' hd f i S n0 hS;have:d' = 0:=by omega
  subst this;simp only [VX] at hS;split at hS
  ·rename_i hf;subst hf;split at hS
   ·rename_i hi;subst hi;cases hS
    exact Un n0
   ·split at hS
    ·rename_i hi;subst hi;cases hS
     exact PM VX n0
    ·cases hS
  ·cases hS
 ·rintro l bs _ _ ⟨xs,rfl,rfl,h2,hl⟩;rw [v16]; delta Jaa Jab Jac Jad Jae Jaf Jah Jak Jal Jao Jaq Jar Jau Jaw JaC JaD JaG JaL JaU Jbb Jbg;refine ⟨by omega,⟨rfl,rfl,h2,hl⟩,?_⟩
  intro zs' hs;have:=(wc hs).eq;show (IV.sl 0,[aq.row 72 [.u64,.i64] (nU xs)])=_;rw [this]
theorem B7 {xs:L2} (h:aI [.u64,.i64] xs):tk xs:=by
 intro x hx;have:=h x hx 0 (by simp)
 simp [dt,IntKind.min,IntKind.max,IntKind.bits,IntKind.signed] at this;unfold key;simp [List.getD];omega
theorem c15:aa TP 144 DQ:=by
 refine ab 1 ⟨mixedOrders,fun g sp h=>?_,?_,fun g G h=>(by cases h),fun f h=>(by cases h)⟩ (N:=Rw) ?_
 ·simp only [Rw] at h;split at h
  ·rename_i hg;subst hg;cases h
   exact c28
  ·cases h
 ·intro d' hd f i S n0 hS;have:d' = 0:=by omega
  subst this;simp only [Rw] at hS;split at hS
  ·rename_i hf;subst hf;split at hS
   ·rename_i hi;subst hi;cases hS
    exact Uo n0
   ·split at hS
    ·rename_i hi;subst hi;cases hS
     exact PQ Rw n0
    ·split at hS
     ·rename_i hi;subst hi;cases hS
      exact PO Rw n0
     ·split at hS
      ·rename_i hi;subst hi;cases hS
       exact PN Rw n0
      ·cases hS
  ·cases hS
 ·rintro l bs _ hb ⟨xs,rfl,rfl,h2,hl⟩;have hb1:okB (.ro [.u64,.i64] xs):=hb _ (by simp)
  have hk:=B7 hb1.1;have e0:aA (List.map (fun x=>x.fst) ([]++[(aq.ro [IntKind.u64,IntKind.i64] xs,some (0:Nat))])) (0:Nat)=xs:=rfl
  rw [v15]; delta Jaa Jab Jac Jad Jae Jaf Jag Jah Jak Jal Jao Jaq Jar Jau Jav Jaw JaB JaC JaD JaG JaL JaM JaY Jba Jbb Jbs Jbu;have hl':xs.length<=1000000:=hl;have fin:∀ zs':L2,eZ xs zs'->DQ.F [.sl 0] [.ro [.u64,.i64] xs]=(IV.sl 0,[aq.row 72 [IntKind.u64,IntKind.i64] zs']):=by
   intro zs' hs;show (IV.sl 0,[aq.row 72 [.u64,.i64] (nU xs)])=_;rw [hs.eq]
  have hpc:rF [IV.sl 0] [aq.ro [IntKind.u64,IntKind.i64] xs]:=⟨xs,rfl,rfl,hl⟩;exact ⟨⟨hpc,⟨by omega,by omega⟩,⟨rfl,rfl,hl',by simp,h2,hk⟩,fin⟩,⟨by omega,by omega⟩,hpc,⟨rfl,rfl,hl',by simp,h2,hk⟩,fin⟩
def zU (l:List IV) (bs:List aq):Prop:=∃xs,l=[.sl 0]/\bs=[.ro [.u64,.i64] xs]/\xs.length<=1000000
def fE (xs:L2):Prop:=Jt xs.length xs
def sQ:Vs.Spec:=⟨zU,fun l bs=>(.bool (bp (fE (aA bs 0))),[])⟩
theorem Ye:aa TP 109 sQ:=by
 refine ab 1 ⟨mixedOrders,fun g sp h=>(by cases h),?_,fun g G h=>(by cases h),fun f h=>(by cases h)⟩ (N:=ZK) ?_
 ·intro d' hd f i S n0 hS;have:d' = 0:=by omega
  subst this;simp only [ZK] at hS;split at hS
  ·rename_i hf;subst hf;split at hS
   ·rename_i hi;subst hi;cases hS
    exact Ul ZK n0
   ·cases hS
  ·cases hS
 ·rintro l bs _ hb ⟨xs,rfl,rfl,hl⟩;rw [v18]; delta Jaa Jab Jac Jad Jae Jaf Jah Jao Jaq Jar Jau JaG JaL JaP Jbd Jbo;have key:∀ b:Bool,bp (fE xs)=b->sQ.F [.sl 0] [.ro [.u64,.i64] xs]=(IV.bool b,[]):=by
   rintro b rfl; rfl
  refine ⟨⟨rfl,rfl,hl⟩,?_⟩;rw [Hl];exact ⟨fun h=>key _ (pJ h),fun h=>key _ (oT h)⟩
def nk:List IntKind:=[.i64,.u64,.i64,.i64,.i64,.i64,.i64,.i64]
def yf (lev key fr to k0 k1 k2 k3:Int):List IV:=[.int .i64 lev,.int .u64 key,.int .i64 fr,.int .i64 to,.int .i64 k0,.int .i64 k1,.int .i64 k2,.int .i64 k3]
def shr (x:Int) (pl:Nat):Int:=x.fdiv (2 ^ pl)
def kG (xs:L2) (pl:Nat) (kf:Int) (to:Nat):Nat->Nat->Nat
 | 0,t=>t
 | m+1,t=>if t < to/\shr (rd xs t 0) pl=shr kf pl then kG xs pl kf to m (t+1) else t
def aR (xs:L2) (pl:Nat) (to f:Nat):Nat:=kG xs pl (rd xs f 0) to (to - (f+1)) (f+1)
def ic (xs:L2) (pl:Nat) (to:Nat):Nat->Nat->List (Nat × Nat)
 | 0,_=>[]
 | m+1,f=>if f < to then (f,aR xs pl to f) :: ic xs pl to m (aR xs pl to f) else []
def kq (xs:L2) (pl f:Nat):Nat:=(shr (rd xs f 0) pl % 4).toNat
def kp (xs:L2) (pl f:Nat):Int:=shr (rd xs f 0) pl*2 ^ pl
abbrev xS:=Nat->Int->Nat->Nat->Nat->L2
def gq (F:xS) (xs:L2) (lev pl:Nat):List (Nat × Nat)->Nat->L2
 | [],_=>[]
 | (f,t) :: ss,a=>F (lev+1) (kp xs pl f) f t a++gq F xs lev pl ss (a+(F (lev+1) (kp xs pl f) f t a).length)
def yt (F:xS) (xs:L2) (lev pl:Nat):List (Nat × Nat)->Nat->L1->L1
 | [],_,ks=>ks
 | (f,t) :: ss,a,ks=>yt F xs lev pl ss (a+(F (lev+1) (kp xs pl f) f t a).length) (ks.set (kq xs pl f) a)
def bD (xs:L2):Nat->xS
 | 0,_,_,_,_,_=>[]
 | n+1,lev,key,fr,to,a=>
  if to - fr<=4∨32<=lev then [[(lev:Int),key,fr,to,-1,-1,-1,-1]]
  else ([(lev:Int),key,fr,to]++yt (bD xs n) xs lev (62 - 2*lev) (ic xs (62 - 2*lev) to (to - fr) fr) (a+1) [-1,-1,-1,-1]) ::
   gq (bD xs n) xs lev (62 - 2*lev) (ic xs (62 - 2*lev) to (to - fr) fr) (a+1)
def agC (xs:L2):Prop:=∀ i,0<=rd xs i 0/\rd xs i 0 < 18446744073709551616
def x9 (n:Nat) (xs zs:L2) (lev fr to:Int):Prop:=0<=lev/\lev<=32/\33<=lev+n/\0<=fr/\fr < to/\to<=xs.length/\xs.length<=1000/\agC xs/\zs.length+n*(to - fr)<=1000000
def ou (lev key fr to:Int):L1:=[lev,key,fr,to,-1,-1,-1,-1]
section
open Go.IntWalk
theorem qi {x:Int} (h:0<=x) (pl:Nat):0<=shr x pl:=Int.fdiv_nonneg h (Int.le_of_lt (Int.pow_pos (by decide)))
theorem gH (x:Int) (pl:Nat):shr x pl=x / 2 ^ pl:=Int.fdiv_eq_ediv_of_nonneg _ (Int.le_of_lt (Int.pow_pos (by decide)))
theorem Ej (x:Int) (pl:Nat):shr x pl*2 ^ pl<=x:=by
 rw [gH]; exact Int.ediv_mul_le _ (Int.ne_of_gt (Int.pow_pos (by decide)))
theorem KG {x:Int} (h:0<=x) (pl:Nat):shr x pl<=x:=by
 rw [gH]; exact Int.ediv_le_self _ h
theorem FQ {x:Int} (h:0<=x) (h2:x < 18446744073709551616) (pl:Nat):IntKind.u64.wrap (shr x pl*2 ^ pl)=shr x pl*2 ^ pl:=by
 have h1:=Ej x pl;have h0:0<=shr x pl*2 ^ pl:=Int.mul_nonneg (qi h pl) (Int.le_of_lt (Int.pow_pos (by decide)))
 exact u64_in _ (by omega)
theorem Yk {a:Int} (h:0<=a) (h2:a < 18446744073709551616):IntKind.u64.wrap (((BitVec.ofInt 64 a &&& BitVec.ofInt 64 3).toNat:Nat):Int)=a % 4:=by
 have e1:(BitVec.ofInt 64 a &&& BitVec.ofInt 64 3).toNat=a.toNat % 4:=by
  rw [BitVec.toNat_and,BitVec.toNat_ofInt,BitVec.toNat_ofInt];have e2:(a % ((2 ^ 64:Nat):Int)).toNat=a.toNat:=by
   rw [Int.emod_eq_of_lt h (by simpa using h2)]
  have e3:((3:Int) % ((2 ^ 64:Nat):Int)).toNat=2 ^ 2 - 1:=by decide
  rw [e2,e3,Nat.and_two_pow_sub_one_eq_mod]
 rw [e1];have e4:((a.toNat % 4:Nat):Int)=a % 4:=by omega
 rw [e4];exact u64_in _ (by omega)
theorem wo (xs:L2) (pl:Nat) (kf:Int) (to:Nat):∀ (m t:Nat),to - t<=m->t<=to->
  t<=kG xs pl kf to m t/\kG xs pl kf to m t<=to/\(∀ j,t<=j->j < kG xs pl kf to m t->shr (rd xs j 0) pl=shr kf pl)/\
  (kG xs pl kf to m t=to∨shr (rd xs (kG xs pl kf to m t) 0) pl≠shr kf pl)
 | 0,t,hm,ht=>by
  have:t=to:=by omega
  subst this;exact ⟨Nat.le_refl _,Nat.le_refl _,fun j h1 h2=>by simp only [kG] at h2; omega,.inl rfl⟩
 | m+1,t,hm,ht=>by
  simp only [kG];split
  ·rename_i hc;obtain ⟨h1,h2,h3,h4⟩:=wo xs pl kf to m (t+1) (by omega) (by omega)
   refine ⟨by omega,h2,fun j hj1 hj2=>?_,h4⟩
   rcases Nat.eq_or_lt_of_le hj1 with rfl | hlt
   ·exact hc.2
   ·exact h3 j (by omega) hj2
  ·rename_i hc;refine ⟨Nat.le_refl _,ht,fun j h1 h2=>by omega,?_⟩
   rcases Nat.lt_or_ge t to with h | h
   ·exact .inr fun h5=>hc ⟨h,h5⟩
   ·exact .inl (by omega)
theorem Em {xs:L2} {pl:Nat} {kf:Int} {to t:Nat} (h:t < to) (hs:shr (rd xs t 0) pl=shr kf pl):kG xs pl kf to (to - t) t=kG xs pl kf to (to - (t+1)) (t+1):=by
 rw [show to - t=(to - (t+1))+1 by omega]
 simp only [kG];rw [if_pos ⟨h,hs⟩]
theorem El {xs:L2} {pl:Nat} {kf:Int} {to t m:Nat} (h:¬ (t < to/\shr (rd xs t 0) pl=shr kf pl)):kG xs pl kf to m t=t:=by
 cases m with
 | zero=>rfl
 | succ m=>simp only [kG]; rw [if_neg h]
theorem dM (xs:L2) (pl:Nat) {to f:Nat} (h:f < to):
  f < aR xs pl to f/\aR xs pl to f<=to/\(∀ j,f<=j->j < aR xs pl to f->shr (rd xs j 0) pl=shr (rd xs f 0) pl)/\
  (aR xs pl to f=to∨shr (rd xs (aR xs pl to f) 0) pl≠shr (rd xs f 0) pl):=by
 obtain ⟨h1,h2,h3,h4⟩:=wo xs pl (rd xs f 0) to (to - (f+1)) (f+1) (Nat.le_refl _) (by omega)
 refine ⟨h1,h2,fun j hj1 hj2=>?_,h4⟩
 rcases Nat.eq_or_lt_of_le hj1 with rfl | hlt
 ·rfl
 ·exact h3 j hlt hj2
theorem xY (xs:L2) (pl to:Nat):∀ (m m' f:Nat),to - f<=m->to - f<=m'->ic xs pl to m f=ic xs pl to m' f
 | 0,m',f,h,_=>by
  cases m' with
  | zero=>rfl
  | succ m'=>simp only [ic]; rw [if_neg (by omega)]
 | m+1,0,f,_,h=>by simp only [ic]; rw [if_neg (by omega)]
 | m+1,m' + 1,f,h,h'=>by
  simp only [ic];split
  ·rename_i hf;have:=(dM xs pl hf).1;rw [xY xs pl to m m' _ (by omega) (by omega)]
  ·rfl
theorem o9 {xs:L2} {pl to f:Nat} (h:f < to):ic xs pl to (to - f) f=(f,aR xs pl to f) :: ic xs pl to (to - aR xs pl to f) (aR xs pl to f):=by
 rw [show to - f=(to - f - 1)+1 by omega]
 simp only [ic];rw [if_pos h];have:=(dM xs pl h).1;rw [xY xs pl to (to - f - 1) (to - aR xs pl to f) _ (by omega) (by omega)]
theorem agx {xs:L2} {pl to f m:Nat} (h:to<=f):ic xs pl to m f=[]:=by
 cases m with
 | zero=>rfl
 | succ m=>simp only [ic]; rw [if_neg (by omega)]
theorem Cu {F:xS} {xs:L2} {lev pl n:Nat} (hF:∀ lev key f t a,f < t->(F lev key f t a).length<=n*(t - f)) (to:Nat):
  ∀ (m f a:Nat),to - f<=m->f<=to->(gq F xs lev pl (ic xs pl to (to - f) f) a).length<=n*(to - f)
 | 0,f,a,h,h'=>by rw [agx (by omega)]; simp [gq]
 | m+1,f,a,h,h'=>by
  rcases Nat.lt_or_ge f to with hf | hf
  ·rw [o9 hf];obtain ⟨h1,h2,_,_⟩:=dM xs pl hf;simp only [gq,List.length_append];have e1:=hF (lev+1) (kp xs pl f) f (aR xs pl to f) a h1;have e2:=Cu (xs:=xs) (lev:=lev) (pl:=pl) hF to m (aR xs pl to f) (a+(F (lev+1) (kp xs pl f) f (aR xs pl to f) a).length) (by omega) h2
   have e3:n*(to - f)=n*(aR xs pl to f - f)+n*(to - aR xs pl to f):=by rw [← Nat.mul_add]; congr 1; omega
   omega
  ·rw [agx hf]; simp [gq]
theorem nR (xs:L2):∀ (n lev:Nat) (key:Int) (f t a:Nat),f < t->(bD xs n lev key f t a).length<=n*(t - f)
 | 0,_,_,_,_,_,_=>by simp [bD]
 | n+1,lev,key,f,t,a,h=>by
  simp only [bD];split
  ·simp only [List.length_cons,List.length_nil];have:1*1<=(n+1)*(t - f):=Nat.mul_le_mul (by omega) (by omega)
   omega
  ·have:=Cu (lev:=lev) (pl:=62 - 2*lev) (xs:=xs) (fun lev key f t a h=>nR xs n lev key f t a h) t (t - f) f (a+1) (Nat.le_refl _) (by omega)
   simp only [List.length_cons];rw [Nat.add_mul];omega
theorem Bk (xs:L2) (n lev:Nat) (key:Int) (f t a:Nat):0 < (bD xs (n+1) lev key f t a).length:=by
 simp only [bD];split <;> simp
theorem TI {ks:L1} (hl:ks.length=4) {q:Nat} (hq:q < 4) (lev key fr to v:Int):
  ([if (((0:Nat):Int)=((4:Nat):Int)+(q:Int)) then v else ([lev,key,fr,to]++ks).getD 0 0,if (((1:Nat):Int)=((4:Nat):Int)+(q:Int)) then v else ([lev,key,fr,to]++ks).getD 1 0,if (((2:Nat):Int)=((4:Nat):Int)+(q:Int)) then v else ([lev,key,fr,to]++ks).getD 2 0,if (((3:Nat):Int)=((4:Nat):Int)+(q:Int)) then v else ([lev,key,fr,to]++ks).getD 3 0,if (((4:Nat):Int)=((4:Nat):Int)+(q:Int)) then v else ([lev,key,fr,to]++ks).getD 4 0,if (((5:Nat):Int)=((4:Nat):Int)+(q:Int)) then v else ([lev,key,fr,to]++ks).getD 5 0,if (((6:Nat):Int)=((4:Nat):Int)+(q:Int)) then v else ([lev,key,fr,to]++ks).getD 6 0,if (((7:Nat):Int)=((4:Nat):Int)+(q:Int)) then v else ([lev,key,fr,to]++ks).getD 7 0]:L1)=[lev,key,fr,to]++ks.set q v:=by
 match ks,hl with
 | [a,b,c,d],_=>
  have:q=0∨q=1∨q=2∨q=3:=by omega
  rcases this with rfl | rfl | rfl | rfl <;> simp [List.getD]
theorem ql {α:Type} (l:List α) (x:α) (r:List α) (f:α->α):(l++x :: r).modify l.length f=l++f x :: r:=by
 induction l with
 | nil=>simp
 | cons a l ih=>simp only [List.cons_append,List.length_cons,List.modify_succ_cons,ih]
structure Inv29 (n:Nat) (xs zs0:L2) (lev:Nat) (key:Int) (fr to:Nat) (p:Nat × L2):Prop where
 lo:fr<=p.1
 hi:p.1<=to
 form:∃ks D,ks.length=4/\p.2=zs0++([(lev:Int),key,fr,to]++ks) :: D/\
  bD xs (n+1) lev key fr to zs0.length=([(lev:Int),key,fr,to]++yt (bD xs n) xs lev (62 - 2*lev) (ic xs (62 - 2*lev) to (to - p.1) p.1) (zs0.length+1+D.length) ks) ::
   (D++gq (bD xs n) xs lev (62 - 2*lev) (ic xs (62 - 2*lev) to (to - p.1) p.1) (zs0.length+1+D.length))
 vC:p.2.length+n*(to - p.1)<=zs0.length+1+n*(to - fr)
end
def pV (key lev:Int):Int:=shr key (62 - 2*lev).toNat % 4
def Sb (l:List IV) (bs:List aq):Prop:=l=[.int .u64 (ae l 0 0),.int .i64 (ae l 1 0)]/\bs=[]/\0<=ae l 0 0/\ae l 0 0 < 18446744073709551616/\0<=ae l 1 0/\ae l 1 0<=31
def WH:Vs.Spec:=⟨Sb,fun l _=>(.int .i64 (pV (ae l 0 0) (ae l 1 0)),[])⟩
def NS:Know:={ Γ:=fun _=>none,Λ:=fun _ _=>none,Τ:=fun _=>none }
def V6:FuncId->Option Vs.Spec:=fun g=>if g=165 then some WH else none
def JaZ (a b:Int):Int:=Jai (62 - Jai (a*b))
theorem v37 (key lev:Int) (K:KP):(comes TP NS 1 165 [.int .u64 key,.int .i64 lev] [] K) =(0<=JaZ 2 lev/\K (Jad (Jai (Jaz (Jat key 2 (JaZ 2 lev) 64) 3))) []) :=by kernel_rfl
def ZP (xs zs:L2) (lev key fr to k0 k1 k2 k3:Int):OB:=[none,ro xs,some (.row 70 nk zs),some (.var 70 (yf lev key fr to k0 k1 k2 k3))]
def Ro (xs zs:L2) (lev key fr to k0 k1 k2 k3 at_ q:Int):St:=⟨T 101 [(0,.sl 2),(1,.sl 1),(5,.ptr 3 0),(7,i64 at_),(8,i64 q)],ZP xs zs lev key fr to k0 k1 k2 k3⟩
def Rn (xs zs:L2) (lev key fr to k0 k1 k2 k3 at_ f q:Int):St:=⟨T 101 [(0,.sl 2),(1,.sl 1),(5,.ptr 3 0),(7,i64 at_),(9,i64 f),(10,i64 q)],ZP xs zs lev key fr to k0 k1 k2 k3⟩
def Jm (xs zs:L2) (lev key fr to k0 k1 k2 k3 at_ f q t:Int):St:=⟨T 101 [(0,.sl 2),(1,.sl 1),(5,.ptr 3 0),(7,i64 at_),(9,i64 f),(10,i64 q),(11,i64 t)],ZP xs zs lev key fr to k0 k1 k2 k3⟩
def kH (xs:L2) (lev q:Int) (to:Nat):Nat->Nat->Nat
 | 0,t=>t
 | m+1,t=>if t < to/\pV (rd xs t 0) lev=q then kH xs lev q to m (t+1) else t
def jM (xs:L2) (lev q:Int) (to f:Nat):Nat:=kH xs lev q to (to - f) f
def KN (xs:L2) (lev to f q t:Int):Prop:=0<=lev/\lev<=31/\0<=f/\f<=to/\to<=xs.length/\xs.length<=1000/\t=f/\agC xs
def YB:aB:=fun n0 st K=>(n0=2/\st=Jm (st.x 1) (st.x 2) (st.c 3 0) (st.c 3 1) (st.c 3 2) (st.c 3 3) (st.c 3 4) (st.c 3 5) (st.c 3 6) (st.c 3 7) (st.i 7) (st.i 9) (st.i 10) (st.i 11)/\KN (st.x 1) (st.c 3 0) (st.c 3 3) (st.i 9) (st.i 10) (st.i 11))/\
 K (.exit 4) (Jm (st.x 1) (st.x 2) (st.c 3 0) (st.c 3 1) (st.c 3 2) (st.c 3 3) (st.c 3 4) (st.c 3 5) (st.c 3 6) (st.c 3 7) (st.i 7) (st.i 9) (st.i 10) (jM (st.x 1) (st.c 3 0) (st.i 10) (st.c 3 3).toNat (st.i 9).toNat))
def Jaj (a:List IntKind):List IntKind:=.i64::.i64::a
def Jap:Int:=(-1)
def Jas (a:Nat)(b:List IV)(c:OB):OB:=Option.some (.var a b)::c
def JaF (a:List IntKind)(b:L2)(c:OB):OB:=Option.some (.row 70 (.i64::.u64::Jaj (Jaj (Jaj a))) b)::c
def JaH (a:Nat)(b c d e f g h i:Int)(j:List IV)(k:OB):OB:=Jas a (Jad b::.int .u64 c::Jad d::Jad e::Jad f::Jad g::Jad h::Jad i::j) k
def JaV (a b:IV)(c:List (Option IV))(d:List IntKind)(e:L2)(f:List IntKind)(g:L2)(h i j k l m n o:Int)(p:List IV)(q:OB):St:=⟨Jaf a (Jaf b (Jaa (Jab c))),Option.none::Jaq d e (JaF f g (JaH 70 h i j k l m n o p q))⟩
def Jbv (a:List (Option IV)):List (Option IV):=Jaf (.ptr 3 0) a
def Jbf (a b c:Int)(d:L1)(e:Nat):Int:=if a=b+c then Jap else List.getD d e 0
theorem aah (N:Know) (xs zs:L2) (lev key fr to k0 k1 k2 k3 at_ q:Int) (k:Out->St->Prop):(round (ai TP N 0) 110 2 0 (lp TP 110 0) (Ro xs zs lev key fr to k0 k1 k2 k3 at_ q) k) =(JaQ q 4 (JaK at_ at_ zs/\Jar (Jax 0 q q 4) (0<=at_/\Jar (at_ < Jag zs) (0<=q) (4+Int.toNat q < 8)) (k .normal (JaV (.sl 2) (.sl 1) (Jbv (Jaa (Jaw (Jad at_) (JaJ q) (Jac (Jae (Jah JaM)))))) [] xs [] (Jay zs at_ (fun a=>Jan (Jbf 0 4 q a 0) (Jbf 1 4 q a 1) (Jbf 2 4 q a 2) (Jbf 3 4 q a 3) (Jbf 4 4 q a 4) (Jbf 5 4 q a 5) (Jbf 6 4 q a 6) (Jbf 7 4 q a 7) [])) lev key fr to k0 k1 k2 k3 [] []))) (k (.exit 0) (JaV (.sl 2) (.sl 1) (Jbv (Jaa (Jaf (Jad at_) (Jaa (Jac (Jae (Jah JaM))))))) [] xs [] zs lev key fr to k0 k1 k2 k3 [] []))) :=by kernel_rfl
def Lc (xs:L2) (lev fr to:Nat):Prop:=∀ i j:Nat,fr<=i->i < to->fr<=j->j < to->shr (rd xs i 0) (64 - 2*lev)=shr (rd xs j 0) (64 - 2*lev)
def BK (n:Nat) (xs zs:L2) (lev fr to:Int):Prop:=x9 n xs zs lev fr to/\fE xs/\Lc xs lev.toNat fr.toNat to.toNat
def ZN (n:Nat):eG:=fun args b K=>
 (args=[.sl 0,.sl 1,.agg (yf (ae args 2 0) (ae args 2 1) (ae args 2 2) (ae args 2 3) (ae args 2 4) (ae args 2 5) (ae args 2 6) (ae args 2 7))]/\b=[some (.row 70 nk (dh b 0)),ro (dh b 1)]/\
  BK n (dh b 1) (dh b 0) (ae args 2 0) (ae args 2 2) (ae args 2 3))/\
 K (.sl 2) [none,ro (dh b 1),some (.row 70 nk (dh b 0++bD (dh b 1) n (ae args 2 0).toNat (ae args 2 1) (ae args 2 2).toNat (ae args 2 3).toNat (dh b 0).length))]
def KQ (zs:L2) (lev key fr to k0 k1 k2 k3 at_ q:Int):Prop:=zs=zs.take at_.toNat++[[lev,key,fr,to,k0,k1,k2,k3]]/\0<=at_/\at_+1=zs.length/\q=0
def YD:aB:=fun n0 st K=>(n0=2/\st=Ro (st.x 1) (st.x 2) (st.c 3 0) (st.c 3 1) (st.c 3 2) (st.c 3 3) (st.c 3 4) (st.c 3 5) (st.c 3 6) (st.c 3 7) (st.i 7) (st.i 8)/\KQ (st.x 2) (st.c 3 0) (st.c 3 1) (st.c 3 2) (st.c 3 3) (st.c 3 4) (st.c 3 5) (st.c 3 6) (st.c 3 7) (st.i 7) (st.i 8))/\
 K (.exit 0) ⟨T 101 [(0,.sl 2),(1,.sl 1),(5,.ptr 3 0),(7,i64 (st.i 7))],ZP (st.x 1) ((st.x 2).take (st.i 7).toNat++[ou (st.c 3 0) (st.c 3 1) (st.c 3 2) (st.c 3 3)]) (st.c 3 0) (st.c 3 1) (st.c 3 2) (st.c 3 3) (st.c 3 4) (st.c 3 5) (st.c 3 6) (st.c 3 7)⟩
def KO (n:Nat) (xs zs:L2) (lev key fr to at_ f q:Int):Prop:=
 BK (n+1) xs (zs.take at_.toNat) lev fr to/\zs=zs.take at_.toNat++[ou lev key fr to]/\0<=at_/\at_+1=zs.length/\f=fr/\q=0/\4 < to - fr/\lev < 32
def YC (n:Nat):aB:=fun n0 st K=>(n0=2/\st=Rn (st.x 1) (st.x 2) (st.c 3 0) (st.c 3 1) (st.c 3 2) (st.c 3 3) (st.c 3 4) (st.c 3 5) (st.c 3 6) (st.c 3 7) (st.i 7) (st.i 9) (st.i 10)/\KO n (st.x 1) (st.x 2) (st.c 3 0) (st.c 3 1) (st.c 3 2) (st.c 3 3) (st.i 7) (st.i 9) (st.i 10))/\
 K (.exit 2) ⟨T 101 [(0,.sl 2)],[none,ro (st.x 1),some (.row 70 nk ((st.x 2).take (st.i 7).toNat++bD (st.x 1) (n+1) (st.c 3 0).toNat (st.c 3 1) (st.c 3 2).toNat (st.c 3 3).toNat (st.i 7).toNat))]⟩
def NU (n:Nat):Know:={ Γ:=V6,Λ:=fun f i=>if f=110 then (if i=0 then some YD else if i=1 then some (YC n) else if i=2 then some YB else none) else none,Τ:=fun g=>if g=110 then some (ZN n) else none }
def Jbi (a b c:Int):List (Option IV):=Jaa (Jaf (Jad a) (Jaw (Jad b) c (Jaa (Jae (Jah JaM)))))
def Jbz (a:Int)(b:List (Option IV))(c d:L2)(e f g h i j k l:Int):St:=JaV (.sl 2) (.sl 1) (Jbv (Jaa (Jaf (Jad a) b))) [] c [] d e f g h i j k l [] []
theorem aaf (n:Nat) (xs zs:L2) (lev key fr to k0 k1 k2 k3 at_ f q t:Int) (k:Out->St->Prop):(round (ai TP (NU n) 0) 110 2 2 (lp TP 110 2) (Jm xs zs lev key fr to k0 k1 k2 k3 at_ f q t) k) =(JaQ t to (JaK t t xs/\Jar (JaK t t xs) (Sb [.int .u64 (Jam xs t 0),Jad lev] []) (br (pV (Jam xs t 0) lev == q) (k .normal (Jbz at_ (Jbi f q (JaJ t)) xs zs lev key fr to k0 k1 k2 k3)) (k (.exit 4) (Jbz at_ (Jbi f q t) xs zs lev key fr to k0 k1 k2 k3)))) (k (.exit 4) (Jbz at_ (Jbi f q t) xs zs lev key fr to k0 k1 k2 k3))) :=by kernel_rfl
def JaI (a b:Int)(c:L2)(d:L1)(e:Nat):Int:=if a=4+b then Jag c else List.getD d e 0
def JaT (a:L2)(b c d e:Int):Int:=(↑(jM a b c (Int.toNat d) (Int.toNat e)):Int)
def JaW (a:L2)(b:Nat)(c d e f:Int)(g:L2):L2:=bD a b (Int.toNat c) d (Int.toNat e) (Int.toNat f) (List.length g)
def Ja0:List (Option IV):=Jac (Jak JaM)
def Ja4 (a b c d e f g h:Int)(i:List IV):IV:=.agg (Jad a::.int .u64 b::Jad c::Jad d::Jad e::Jad f::Jad g::Jad h::i)
def Jbj (a:IV)(b:List IV):List IV:=JaG::.sl 1::a::b
def Jbm (a b:Int):List (Option IV):=Jaa (Jaw (Jad a) b (Jab (Jae (Jah JaM))))
def JbB (a:L2)(b c:Int):Int:=IntKind.wrap .u64 (Jat (Jam a b 0) 2 c 64*2 ^ Min.min (Int.toNat c) 64)
theorem aag (n:Nat) (xs zs:L2) (lev key fr to k0 k1 k2 k3 at_ f q:Int) (k:Out->St->Prop):(round (ai TP (NU n) 0) 110 2 1 (lp TP 110 1) (Rn xs zs lev key fr to k0 k1 k2 k3 at_ f q) k) =(JaQ q 4 (Jbo 2 2 (Jbz at_ (Jbi f q f) xs zs lev key fr to k0 k1 k2 k3=Jbz at_ (Jbi f q f) xs zs lev key fr to k0 k1 k2 k3) (KN xs lev to f q f) (br (Decidable.decide (JaT xs lev q to f > f)) (JaB (JaK at_ at_ zs) (Jax 0 q q 4) (0<=at_/\Jar (at_ < Jag zs) (0<=q) (4+Int.toNat q < 8)) (JaK f f xs) (JaB (JaK f f xs) (0<=JaZ 2 lev) (0<=JaZ 2 lev) (Jar (Jbj (Ja4 (JaJ lev) (JbB xs f (JaZ 2 lev)) f (JaT xs lev q to f) 0 0 0 0 []) []=Jbj (Ja4 (JaJ lev) (JbB xs f (JaZ 2 lev)) f (JaT xs lev q to f) 0 0 0 0 []) []) (JaF [] (Jay zs at_ (fun a=>Jan (JaI 0 q zs a 0) (JaI 1 q zs a 1) (JaI 2 q zs a 2) (JaI 3 q zs a 3) (JaI 4 q zs a 4) (JaI 5 q zs a 5) (JaI 6 q zs a 6) (JaI 7 q zs a 7) [])) (Jaq [] xs [])=JaF [] (Jay zs at_ (fun a=>Jan (JaI 0 q zs a 0) (JaI 1 q zs a 1) (JaI 2 q zs a 2) (JaI 3 q zs a 3) (JaI 4 q zs a 4) (JaI 5 q zs a 5) (JaI 6 q zs a 6) (JaI 7 q zs a 7) [])) (Jaq [] xs [])) (BK n xs (Jay zs at_ (fun a=>Jan (JaI 0 q zs a 0) (JaI 1 q zs a 1) (JaI 2 q zs a 2) (JaI 3 q zs a 3) (JaI 4 q zs a 4) (JaI 5 q zs a 5) (JaI 6 q zs a 6) (JaI 7 q zs a 7) [])) (JaJ lev) f (JaT xs lev q to f))) (k .normal (Jbz at_ (Jbm (JaT xs lev q to f) (JaJ q)) xs (Jay zs at_ (fun a=>Jan (JaI 0 q zs a 0) (JaI 1 q zs a 1) (JaI 2 q zs a 2) (JaI 3 q zs a 3) (JaI 4 q zs a 4) (JaI 5 q zs a 5) (JaI 6 q zs a 6) (JaI 7 q zs a 7) [])++JaW xs n (JaJ lev) (JbB xs f (JaZ 2 lev)) f (JaT xs lev q to f) (Jay zs at_ (fun a=>Jan (JaI 0 q zs a 0) (JaI 1 q zs a 1) (JaI 2 q zs a 2) (JaI 3 q zs a 3) (JaI 4 q zs a 4) (JaI 5 q zs a 5) (JaI 6 q zs a 6) (JaI 7 q zs a 7) []))) lev key fr to k0 k1 k2 k3)))) (k .normal (Jbz at_ (Jbm (JaT xs lev q to f) (JaJ q)) xs zs lev key fr to k0 k1 k2 k3)))) (k (.exit 2) ⟨Jaf (.sl 2) Ja0,Option.none::Jaq [] xs (JaF [] zs [])⟩)) :=by kernel_rfl
def Ja8 (a b:L2)(c d e f:Int)(g:L2):L2:=List.take (Jav a) b++ou c d e f::g
def Jbk (a:L2)(b c d e f g h i:Int):L2:=a++List.set (Jal 1 8 0) 0 (Jan b c d e f g h i [])
theorem v30 (n:Nat) (xs zs:L2) (lev key fr to k0 k1 k2 k3:Int) (K:IV->OB->Prop):(bQ TP (NU n) 1 110 [.sl 0,.sl 1,.agg (yf lev key fr to k0 k1 k2 k3)] [some (.row 70 nk zs),ro xs] fun v b1=>ld 2 v b1 K) =(Jar (JaU ((List.length zs+1)*64)) (Jar (2=2) (JaV (.sl 2) (.sl 1) (Jbv (Jaa (Jaw (Jad (Jag zs)) 0 (Jac (Jae (Jah JaM)))))) [] xs [] (Jbk zs lev key fr to k0 k1 k2 k3) lev key fr to k0 k1 k2 k3 [] []=JaV (.sl 2) (.sl 1) (Jbv (Jaa (Jaw (Jad (Jag zs)) 0 (Jac (Jae (Jah JaM)))))) [] xs [] (Jbk zs lev key fr to k0 k1 k2 k3) lev key fr to k0 k1 k2 k3 [] []) (KQ (Jbk zs lev key fr to k0 k1 k2 k3) lev key fr to k0 k1 k2 k3 (Jag zs) 0)) (br (Decidable.decide (Jai (to - fr)<=4)) (K (.sl 2) (Option.none::Jaq [] xs (JaF [] (Ja8 zs (Jbk zs lev key fr to k0 k1 k2 k3) lev key fr to []) []))) (br (Decidable.decide (lev ≥ 32)) (K (.sl 2) (Option.none::Jaq [] xs (JaF [] (Ja8 zs (Jbk zs lev key fr to k0 k1 k2 k3) lev key fr to []) []))) (Jbo 2 2 (Jbz (Jag zs) (Jbm fr 0) xs (Ja8 zs (Jbk zs lev key fr to k0 k1 k2 k3) lev key fr to []) lev key fr to k0 k1 k2 k3=Jbz (Jag zs) (Jbm fr 0) xs (Ja8 zs (Jbk zs lev key fr to k0 k1 k2 k3) lev key fr to []) lev key fr to k0 k1 k2 k3) (KO n xs (Ja8 zs (Jbk zs lev key fr to k0 k1 k2 k3) lev key fr to []) lev key fr to (Jag zs) fr 0) (K (.sl 2) (Option.none::Jaq [] xs (JaF [] (List.take (Jav zs) (Ja8 zs (Jbk zs lev key fr to k0 k1 k2 k3) lev key fr to [])++bD xs (n+1) (Int.toNat lev) key (Int.toNat fr) (Int.toNat to) (Jav zs)) []))))))) :=by kernel_rfl
def YA:Know:={ Γ:=fun g=>if g=109 then some sQ else none,Λ:=fun _ _=>none,Τ:=fun g=>if g=110 then some (ZN 33) else none }
def Ja7 (a:Nat)(b:List IntKind)(c:L2)(d:List aq):List aq:=.row a (.i64::.u64::Jaj (Jaj (Jaj b))) c::d
theorem v22 (xs:L2) (K:KP):(comes TP YA 1 58 [.sl 0] [.ro [.u64,.i64] xs] K) =(br (Jag xs == 0) (K JaG (Ja7 70 [] [] [])) (zU [JaG] (Jbs [] xs [])/\br (Bool.not (bp (fE xs))) (K JaG (Ja7 70 [] [] [])) (Jar (Jbj (Ja4 0 0 0 (Jag xs) 0 0 0 0 []) []=Jbj (Ja4 0 0 0 (Jag xs) 0 0 0 0 []) []) (JaF [] [] (Jaq [] xs [])=JaF [] [] (Jaq [] xs [])) (BK 33 xs [] 0 0 (Jag xs))/\K JaG (Ja7 70 [] ([]++bD xs 33 0 0 0 (Jav xs) 0) [])))) :=by kernel_rfl
end Go.Vs.RS
