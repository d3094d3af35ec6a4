import Derived.Test.YtemefnjekgjciaaGreatWC1
import Derived.Test.YtemefnjekgjciaaGreatWC2
import Derived.Test.YtemefnjekgjciaaGreatW1
import Derived.Test.YtemefnjekgjciaaGreatW2
import Derived.Test.YtemefnjekgjciaaGreatW3
set_option linter.unusedVariables false
set_option linter.unusedSimpArgs false
noncomputable section
set_option maxRecDepth 100000
namespace Go.Vs.RF
open Go Go.Proofs Go.Vs
def eQ (px py e:Int) (xs ts rs us es ls fs qs:L2) (k:Int):St:=⟨T 71 [(4,.ptr 5 0),(6,.ptr 6 0),(7,.ptr 7 0),(8,.int .i64 k)],acX xs ts rs us es++[some (.var 52 [.sl 8,.sl 9,.int .i64 0]),some (.var 118 (EK 10 px py e)),some (.var 52 [.sl 11,.sl 12,.int .i64 e]),b9 [],b9 [],some (.ro [.i64] ls),b9 fs,b9 qs]⟩
def MhJ (a b c d:Nat)(e:List (Nat × IV))(f g h i j:L2)(k:OB):St:=Mcn a b 5 c d e (McT f g h i j k)
def MhK (a b c:Nat)(d:List (Nat × IV))(e f g h i:L2)(j:Nat)(k:List IV)(l:Nat)(m:List IV)(n:Nat)(o:List IV)(p:aq)(q:OB):St:=MhJ a b c 6 d e f g h i (Mav j k l m (Maq n o p q))
theorem rRs (Λ:FuncId->Nat->Option aB) (d:Nat) (px py e:Int) (xs ts rs us es ls fs qs:L2) (j:Int) (k:Out->St->Prop):(round (ai TP { Γ:=JB,Λ:=Λ,Τ:=fun _=>none } d) b5 5 0 (lp TP b5 0) (eQ px py e xs ts rs us es ls fs qs j) k) =(∀a,MdP a ls j (∀b,Mjo b j ls (Mi3 b (MbF a 0 (Mjc b (Mel qs 1 8) (k .normal (MhK 71 4 6 (MdM 7 7 8 j) xs ts rs us es 52 (May 8 9 Mb3) 118 (Md0 10 px px py py e) 52 (Mcp 11 12 e) (MaX []) (Mad (MaX []) (.ro MaO ls) (Mbc fs (Mi5 qs (MaJ Mbk a)) []))))) (Mjc b (Mel fs 1 8) (k .normal (MhK 71 4 6 (MdM 7 7 8 j) xs ts rs us es 52 (May 8 9 Mb3) 118 (Md0 10 px px py py e) 52 (Mcp 11 12 e) (MaX []) (Mad (MaX []) (.ro MaO ls) (Mbc (Mi5 fs a) qs []))))))) (k MbT (MhJ 71 4 7 6 [] xs ts rs us es (Mav 52 (May 7 8 Mb3) 52 (Mcp 9 10 e) (Mbc [] [] (Mbc fs qs []))))))) :=by delta Maa Mab Mac Mad Mae Mag Mah Mai Maj Mak Mal Mam Man Mao Map Maq Mar Mas Mau Mav Max May Maz MaA MaC MaH MaJ MaO MaR MaV MaX Ma1 Ma2 Mbc Mbk Mbn Mbp Mbu Mbw MbC MbF Mi5 MbT Mb3 Mb4 Mcg Mcn Mcp Mcr McT MdF MdM MdP Md0 Mel MhJ MhK Mi3 Mjc Mjo; refine nm ?_; refine nm ?_; kernel_rfl
def ny (ls:L2):L2:=(ls.filter fun r=>decide (0<=r.getD 0 0)).map fun r=>[r.getD 0 0]
def gx (ls:L2):L2:=(ls.filter fun r=>decide (r.getD 0 0 < 0)).map fun r=>[-1 - r.getD 0 0]
def ahz (ls:L2):Prop:=∀ r∈ls,∃c,r=[c]/\-2000<=c
def pRs (n0:Nat) (st:St) (px py e:Int) (xs ts rs us es ls:L2):Prop:=(ahz ls/\ls.length<=3000)/\n0=5/\st=eQ px py e xs ts rs us es ls [] [] 0
def wB:aB:=fun n0 st K=>∃px py e xs ts rs us es ls,pRs n0 st px py e xs ts rs us es ls/\K (.exit 0) ⟨T 71 [(4,.ptr 5 0),(7,.ptr 6 0)],acX xs ts rs us es++[some (.var 52 [.sl 7,.sl 8,.int .i64 0]),some (.var 52 [.sl 9,.sl 10,.int .i64 e]),b9 [],b9 [],b9 (ny ls),b9 (gx ls)]⟩
def n5:Know:={ Γ:=JB,Λ:=fun f i=>if f=b5 then (if i=0 then some wB else none) else none,Τ:=fun _=>none }
theorem ahI (z:L1) (xs ts rs us es:L2) (i:Int) (K:KP):(comes TP n5 3 b5 [.agg (af z 0 1 2 3 4),.int .i64 i] (aH xs ts rs us es) K) =(∀a,Maz a (xz (MbW xs) (lE xs) xs) (∀b,MfW b z (∀c,Mf9 c z (∀d,MfC d z (∀e,MeH e z (∀f,Me9 f z (∀g,Mfa g z (∀j,Mfb j z (∀k,Mft k z (∀l,MfX l z (∀m,Mga m z (∀n,MeJ n z (∀o,Mes o z (∀p,MeK p z (∀q,MeL q z (∀r,MeM r z (∀s,MeN s z (∀t,MeO t z (∀u,MeP u z (∀v,MeQ v z (∀w,Mbw w (K (.agg (Mcp 0 1 7)) Mhx) (∀x,Maz x (xK Bool.false (MdE b c d e f g j k l m n o p q r s t u v) 0 xs (lE xs) (MbW xs) (MjE xs) i 0 [] 0 0) (∀y,Me2 y (xJ Bool.false (MdE b c d e f g j k l m n o p q r s t u v) 0 xs (lE xs) (MbW xs) (MjE xs) i 0 [] 0 0) i 0 w (Mbf i (Man xs) w (Mb4 (Za Med (Mb7 xs [])) (Mih xs) (MiM 1 2 [] xs xs xs []) (McA a (K (.agg (Mcp 0 1 a)) Mhx) (Y9 33 (MbL b c d e f g j k l m n o p 0 1 2 3 q r s t u v 4 (MaD (Me0 a) (MaM i 0 (MaD (MhU 8) (Mb2 0 0 [MaU]))))) (Mcd xs ts rs us es (Mhz MaW (lE xs) kQ (MbW xs) fG (MjE xs) [] []))/\(∃a1:Int,∃b1:Int,∃c1:Int,∃d1:L2,∃e1:L2,∃f1:L2,∃g1:L2,∃i1:L2,∃j1:L2,pRs 5 (MhK 71 4 6 (MdF 7 7 8 0) xs ts rs us es 52 (May 8 9 Mb3) 118 (Md0 10 x x y y (xx Bool.false (MdE b c d e f g j k l m n o p q r s t u v) 0 xs (lE xs) (MbW xs) (MjE xs) i 0 [] 0 0)) 52 (Mcp 11 12 (xx Bool.false (MdE b c d e f g j k l m n o p q r s t u v) 0 xs (lE xs) (MbW xs) (MjE xs) i 0 [] 0 0)) (MaX []) (Mad (MaX []) (.ro MaO (AU Bool.false (MdE b c d e f g j k l m n o p q r s t u v) 0 xs (lE xs) (MbW xs) (MjE xs) i 0 [] 0 0)) (Mbc [] [] []))) a1 b1 c1 d1 e1 f1 g1 i1 j1/\K (.agg (Mcp 0 1 c1)) [MaX (ny j1),MaX (gx j1)])))))))))))))))))))))))))))) :=by delta Maa Mab Mac Mad Mae Maf Mag Mai Maj Mak Mal Mam Man Mao Map Maq Mar Mav Max May Maz MaA MaC MaD MaF MaH MaL MaM MaO MaR MaU MaW MaX MaY Ma2 Ma3 Ma4 Ma5 Mbc Mbd Mbf Mbj Mbn Mbu Mbw MbF MbL MbW Mb2 Mb3 Mb4 Mb7 Mcc Mcd Mcn Mcp McA McT MdE MdF MdY Md0 Med Mes MeH MeJ MeK MeL MeM MeN MeO MeP MeQ MeV Me0 Me2 Me9 Mfa Mfb Mft MfC MfW MfX Mf9 Mga Mhx Mhz MhJ MhK MhU Mih MiM MjE; (iterate 23 refine nm ?_); kernel_rfl
def cx (z:L1) (xs:L2) (i:Int):(L2 × L2) × Int:=c8 z xs (lE xs) (N4 xs) (SF xs) i [] []
def cr (z:L1) (xs:L2) (i:Int):Int:=if i < 0∨(xs.length:Int)<=i then 7 else if QI xs≠0 then QI xs else (cx z xs i).2
def dx (z:L1) (xs:L2) (i:Int):L2:=if cr z xs i≠0 then [] else (cx z xs i).1.1
def cm (z:L1) (xs:L2) (i:Int):L2:=if cr z xs i≠0 then [] else (cx z xs i).1.2
def ag8 (l:List IV) (bs:List aq):Prop:=∃z xs ts rs us es i,l=[.agg (af z 0 1 2 3 4),.int .i64 i]/\bs=aH xs ts rs us es/\Ch z/\aY xs/\xs.length<=1000
def ag4:Vs.Spec:=⟨ag8,fun l bs=>(.tup [.sl 0,.sl 1,.int .i64 (cr (dv l 0) (aA bs 0) (ae l 1 0))],[.row 3 [.i64] (dx (dv l 0) (aA bs 0) (ae l 1 0)),.row 3 [.i64] (cm (dv l 0) (aA bs 0) (ae l 1 0))])⟩
def agU:Vs.Spec:=⟨ag8,fun l bs=>(.agg [.sl 0,.sl 1,.int .i64 (cr (dv l 0) (aA bs 0) (ae l 1 0))],[.row 3 [.i64] (dx (dv l 0) (aA bs 0) (ae l 1 0)),.row 3 [.i64] (cm (dv l 0) (aA bs 0) (ae l 1 0))])⟩
section
open Go.IntWalk
theorem ahb {c:Bool} {A:Prop} (h:A):br c A A:=by cases c <;> exact h
theorem ahL:KnowOk TP { Γ:=gj,Λ:=fun _ _=>none,Τ:=aim } 3:=⟨mixedOrders,fun g sp h=>np h,cO (fun _ _=>rfl) 3,iB ahe (fun _ _ h=>Ir h),fun f h=>(by cases h)⟩
theorem ml {z:L1} {xs:L2} {i e:Int} (he:cr z xs i=e) (hne:e≠0):dx z xs i=[]/\cm z xs i=[]:=⟨if_pos (by rw [he]; exact hne),if_pos (by rw [he]; exact hne)⟩
theorem qq {z:L1} {xs:L2} {i:Int} (h:i < 0∨(xs.length:Int)<=i):cr z xs i=7/\dx z xs i=[]/\cm z xs i=[]:=by
 have he:cr z xs i=7:=if_pos h;exact ⟨he,ml he (by decide)⟩
theorem wx {z:L1} {xs:L2} {i:Int} (h0:¬ i < 0) (h1:¬ (xs.length:Int)<=i):cr z xs i=if QI xs≠0 then QI xs else (cx z xs i).2:=if_neg (fun hh=>hh.elim h0 h1)
theorem aii:aa TP ux ag4:=by
 refine ab 3 ahL ?_;rintro l bs _ _ ⟨z,xs,ts,rs,us,es,i,rfl,rfl,hz,hg,hl⟩;have hF:ag4.F [.agg (af z 0 1 2 3 4),.int .i64 i] (aH xs ts rs us es)=(.tup [.sl 0,.sl 1,.int .i64 (cr z xs i)],[.row 3 [.i64] (dx z xs i),.row 3 [.i64] (cm z xs i)]):=by
  show (IV.tup [.sl 0,.sl 1,.int .i64 (cr (dv _ 0) xs i)],[aq.row 3 [.i64] (dx (dv _ 0) xs i),aq.row 3 [.i64] (cm (dv _ 0) xs i)])=_;rw [dA _ z 0 1 2 3 4 hz.1.1.1 rfl]
 rw [hF,ah8]; delta Maa Mab Mad Mai Maj Mak Mam Man Mao Maq Mav Max May Maz MaC MaD MaE MaG MaO MaW MaX MaY MaZ Ma2 Ma3 Mbb Mbc Mbf Mbt Mbw MbF MbW Mb3 Mb4 Mb7 Mb8 Mci Mcj Mcp McA MdX MdY Med MeE MeV Mf5 Mi7 Mhx MhE MhM Mh0 Mih MiM MjE;rintro t1 e1 t2 e2;have e1':t1=QI xs:=e1;rw [al];refine ⟨fun h0=>?_,fun h0=>?_⟩
 ·obtain ⟨q1,q2,q3⟩:=qq (z:=z) (xs:=xs) (.inl h0);rw [e2,q1,q2,q3]
 rw [al];refine ⟨fun h1=>?_,fun h1=>?_⟩
 ·obtain ⟨q1,q2,q3⟩:=qq (z:=z) (xs:=xs) (.inr h1);rw [e2,q1,q2,q3]
 have hE:=wx (z:=z) h0 h1;have hne0:xs≠[]:=by rintro rfl; simp at h1; omega
 refine ⟨⟨_,rfl,rfl,mA hg,hl⟩,Ho hl,Hf (mA hg) (yB hg) hl,?_⟩;rw [dp];refine ⟨fun hc=>?_,fun hc=>?_⟩
 ·have hc0:QI xs=0:=by rw [← e1']; exact hc
  rw [hc0,if_neg (fun hh=>hh rfl)] at hE
  refine ⟨z,[],[],xs,ts,rs,us,es,lE xs,N4 xs,SF xs,i,⟨rfl,rfl,RD hz hg hl hne0 hc0,⟨by decide,by decide⟩,by omega,by omega⟩,cx z xs i,rfl,ahb ?_⟩
  have fin:br ((cx z xs i).2 != 0) ((IV.tup [.sl 0,.sl 1,.int .i64 (cr z xs i)],[aq.row 3 [.i64] (dx z xs i),aq.row 3 [.i64] (cm z xs i)])=(IV.tup [.sl 0,.sl 1,.int .i64 (cx z xs i).2],[aq.row 3 [.i64] [],aq.row 3 [.i64] []])) ((IV.tup [.sl 0,.sl 1,.int .i64 (cr z xs i)],[aq.row 3 [.i64] (dx z xs i),aq.row 3 [.i64] (cm z xs i)])=(IV.tup [.sl 0,.sl 1,.int .i64 0],[aq.row 3 [.i64] (cx z xs i).1.1,aq.row 3 [.i64] (cx z xs i).1.2])):=by
   rw [ah];refine ⟨fun hne=>?_,fun h2=>?_⟩
   ·obtain ⟨q2,q3⟩:=ml hE hne;rw [hE,q2,q3]
   ·rw [show dx z xs i=(cx z xs i).1.1 from if_neg (by rw [hE,h2]; decide),show cm z xs i=(cx z xs i).1.2 from if_neg (by rw [hE,h2]; decide),hE,h2]
  exact ahb fin
 ·rw [ah];have hc0:QI xs≠0:=by rw [← e1']; exact hc
  rw [if_pos hc0] at hE;obtain ⟨q2,q3⟩:=ml hE hc0;refine ⟨fun _=>?_,fun hh=>absurd hh hc⟩
  rw [hE,q2,q3,e1']
theorem aha (ls:L2) (c:Int):ny (ls++[[c]])=ny ls++(if 0<=c then [[c]] else [])/\gx (ls++[[c]])=gx ls++(if 0<=c then [] else [[-1 - c]]):=by
 unfold ny gx;rw [List.filter_append,List.map_append,List.filter_append,List.map_append];by_cases h:0<=c
 ·rw [if_pos h,if_pos h];constructor
  ·congr 1; simp [h]
  ·congr 1; simp [show ¬ c < 0 by omega]
 ·rw [if_neg h,if_neg h];constructor
  ·congr 1; simp [h]
  ·congr 1; simp [show c < 0 by omega]
theorem ag7 {z:L1} {h:Int} {r:L1} {xs cs:L2} (c:Int) (s:L2 × Int × Int):il false z h r xs cs c s=((s.1++[[c]],s.2.1,s.2.2),0):=by
 have hE:∀ {m ax ay px py},uW false z h r m ax ay px py=0:=if_neg (fun hh=>by cases hh)
 have hX:∀ {m ax ay px py},xI false z h r m ax ay px py=px:=by
  intro m ax ay px py;unfold xI; rw [hE,if_neg (fun hh=>hh rfl),if_neg (fun hh=>by cases hh)]
 have hY:∀ {m ax ay px py},xH false z h r m ax ay px py=py:=by
  intro m ax ay px py;unfold xH; rw [hE,if_neg (fun hh=>hh rfl),if_neg (fun hh=>by cases hh)]
 unfold il;split
 ·rw [hE,hX,hY]; rfl
 ·rw [hE,hX,hY]; rfl
theorem ahk {z:L1} {h:Int} {r:L1} {xs cs:L2} (c:Int) (s:L2 × Int × Int) (t:L2 × L2) (hst:t=(ny s.1,gx s.1)):Br (fun (s:L2 × Int × Int) t=>t=(ny s.1,gx s.1)) (il false z h r xs cs c s) (nY c t):=by
 subst hst;rw [ag7];refine ⟨rfl,fun _=>?_⟩
 obtain ⟨h1,h2⟩:=aha s.1 c;show (nY c (ny s.1,gx s.1)).1=(ny (s.1++[[c]]),gx (s.1++[[c]]));rw [h1,h2];unfold nY;by_cases h0:0<=c
 ·rw [if_pos h0,if_pos h0,if_pos h0,List.append_nil]
 ·rw [if_neg h0,if_neg h0,if_neg h0,List.append_nil]
theorem ah0 {z:L1} {h:Int} {xs ks ns cs:L2} {i px py:Int}:Br (fun (s:L2 × Int × Int) t=>t=(ny s.1,gx s.1)) (uY false z h xs ks ns cs i 0 ([],px,py)) (c8 z xs ks ns cs i [] []):=by
 unfold c8;rw [Ek];exact yl (fun c s t hst=>ahk c s t hst) _ _ _ _ _ _ _ _ _ rfl
theorem ah9 {σ α:Type} {P:σ->Prop} {f:α->σ->σ × Int}:∀ (l:List α) (s:σ),(∀ a∈l,∀ s,P s->P (f a s).1)->P s->P (dF f l s).1
 | [],s,_,h=>h
 | a :: l,s,hf,h=>by
  have h1:=hf a (List.mem_cons_self ..) s h;rw [jr];split
  ·exact h1
  ·exact ah9 l _ (fun b hb=>hf b (List.mem_cons_of_mem _ hb)) h1
theorem ah1 {σ:Type} {P:σ->Prop} {C:Int->Prop} {vis:Int->σ->σ × Int} (hv:∀ c s,C c->P s->P (vis c s).1) {ns ks:L2} (hf:∀ n:Nat,C (n:Int)) (hn:∀ k∈ks,C (-1 - k.getD 1 0)) (fe:Nat->Int) (fb:Nat->Bool) (i:Int):∀ (m n:Nat) (s:σ),P s->P (jH vis ns ks fe fb i m n s).1
 | 0,n,s,h=>h
 | m+1,n,s,h=>by
  simp only [jH];split
  ·refine ah9 _ _ (fun k hk s hs=>?_) h
   unfold dw;split
   ·exact hs
   ·exact hv _ _ (hn k (BX hk)) hs
  ·split
   ·exact h
   ·split
    ·exact hv _ _ (hf n) h
    ·exact ah9 _ _ (fun k _ s hs=>ah1 hv hf hn fe fb i m k s hs) h
theorem ahu {z:L1} {h:Int} {xs ks ns cs:L2} {i px py:Int} (hid:oB xs.length ks) (hl:xs.length<=1000):ahz (AU false z h xs ks ns cs i 0 [] px py):=by
 unfold AU;split
 ·intro r hr; cases hr
 ·refine ah1 (P:=fun s:L2 × Int × Int=>ahz s.1) (C:=fun c=>-2000<=c) (fun c s hc hs=>?_) (fun n=>by omega) (fun k hk=>by have:=hid k hk; omega) _ _ _ _ _ _ (fun r hr=>by cases hr)
  rw [ag7];intro r hr;rcases List.mem_append.1 hr with hr | hr
  ·exact hs r hr
  ·exact ⟨c,List.mem_singleton.1 hr,hc⟩
theorem lRs (d n0:Nat):aG (ai TP n5 d) b5 n0 0 (lp TP b5 0) wB:=by
 intro st K hst;obtain ⟨px,py,e,xs,ts,rs,us,es,ls,⟨⟨hc,hl⟩,rfl,rfl⟩,hK⟩:=hst;refine aC (fun j:Nat=>eQ px py e xs ts rs us es ls (ny (ls.take j)) (gx (ls.take j)) j) (fun j=>j<=ls.length) (fun j=>ls.length - j) ?_ (a:=0) (Nat.zero_le _)
 rintro j hle k hn hk;show round (ai TP { Γ:=JB,Λ:=_,Τ:=fun _=>none } d) _ _ _ _ (eQ px py e xs ts rs us es ls (ny (ls.take j)) (gx (ls.take j)) j) k
 rw [rRs]; delta Maa Mab Mac Mad Mae Mag Mah Mai Maj Mak Mal Mam Man Mao Map Maq Mar Mas Mau Mav Max May Maz MaA MaC MaH MaJ MaO MaR MaV MaX Ma1 Ma2 Mbc Mbk Mbn Mbp Mbu Mbw MbC MbF Mi5 MbT Mb3 Mb4 Mcg Mcn Mcp Mcr McT MdF MdM MdP Md0 Mel MhJ MhK Mi3 Mjc Mjo;rw [show ((j:Nat):Int).toNat=j by omega]
 rintro t1 e1 t2 e2;have lf:(ny (ls.take j)).length<=ls.length:=by unfold ny; rw [List.length_map]; exact Nat.le_trans (List.length_filter_le _ _) (by rw [List.length_take]; omega)
 have ln:(gx (ls.take j)).length<=ls.length:=by unfold gx; rw [List.length_map]; exact Nat.le_trans (List.length_filter_le _ _) (by rw [List.length_take]; omega)
 rw [al];constructor
 ·intro hi;have hj:j < ls.length:=by omega
  have p2:t2:=by rw [e2]; omega
  obtain ⟨c,hc1,hc2⟩:=hc _ (getM hj);have T1:t1=c:=by rw [e1]; show (ls.getD j []).getD 0 0=c; rw [hc1]; rfl
  have htk:ls.take (j+1)=ls.take j++[[c]]:=by rw [← hc1,acY hj]; simp
  obtain ⟨q1,q2⟩:=aha (ls.take j) c;rw [← htk] at q1 q2;have go:=hn (j+1) hj (by omega)
  rw [show IntKind.i64.wrap ((j:Int)+1)=((j+1:Nat):Int) by rw [i64_in _ (by omega)]; rfl]
  refine ⟨p2,p2,?_⟩;rw [al];refine ⟨fun h0=>⟨p2,p2,by omega,?_⟩,fun h0=>⟨p2,p2,by omega,?_⟩⟩
  ·rw [if_neg (by omega),List.append_nil] at q1
   rw [if_neg (by omega)] at q2
   rw [q1,q2] at go;rw [show IntKind.i64.wrap (-1 - t1) = -1 - c by rw [T1,i64_in _ (by omega)]]
   exact go
  ·rw [if_pos (by omega)] at q1
   rw [if_pos (by omega),List.append_nil] at q2
   rw [q1,q2] at go;rw [T1];exact go
 ·intro hi;have:j=ls.length:=by omega
  subst this;rw [List.take_length];exact hk _ _ (by simp) hK
theorem ahM:KnowOk TP n5 3:=cP (f0:=b5) (L:=wB) (fun g sp h=>MJ h) rfl (fun g G h=>(by cases h)) lRs 3
theorem ahT:aa TP b5 agU:=by
 refine ab 3 ahM ?_;rintro l bs _ _ ⟨z,xs,ts,rs,us,es,i,rfl,rfl,hz,hg,hl⟩;have hF:agU.F [.agg (af z 0 1 2 3 4),.int .i64 i] (aH xs ts rs us es)=(.agg [.sl 0,.sl 1,.int .i64 (cr z xs i)],[.row 3 [.i64] (dx z xs i),.row 3 [.i64] (cm z xs i)]):=by
  show (IV.agg [.sl 0,.sl 1,.int .i64 (cr (dv _ 0) xs i)],[aq.row 3 [.i64] (dx (dv _ 0) xs i),aq.row 3 [.i64] (cm (dv _ 0) xs i)])=_;rw [dA _ z 0 1 2 3 4 hz.1.1.1 rfl]
 have hzl:([z.getD 0 0,z.getD 1 0,z.getD 2 0,z.getD 3 0,z.getD 4 0,z.getD 5 0,z.getD 6 0,z.getD 7 0,z.getD 8 0,z.getD 9 0,z.getD 10 0,z.getD 11 0,z.getD 12 0,z.getD 13 0,z.getD 14 0,z.getD 15 0,z.getD 16 0,z.getD 17 0,z.getD 18 0]:L1)=z:=lZ hz.1.1.1;rw [hF,ahI]; delta Maa Mab Mac Mad Mae Maf Mag Mai Maj Mak Mal Mam Man Mao Map Maq Mar Mav Max May Maz MaA MaC MaD MaF MaH MaL MaM MaO MaR MaU MaW MaX MaY Ma2 Ma3 Ma4 Ma5 Mbc Mbd Mbf Mbj Mbn Mbu Mbw MbF MbL MbW Mb2 Mb3 Mb4 Mb7 Mcc Mcd Mcn Mcp McA McT MdE MdF MdY Md0 Med Mes MeH MeJ MeK MeL MeM MeN MeO MeP MeQ MeV Me0 Me2 Me9 Mfa Mfb Mft MfC MfW MfX Mf9 Mga Mhx Mhz MhJ MhK MhU Mih MiM MjE;rintro t1 e1 t2 rfl t3 rfl t4 rfl t5 rfl t6 rfl t7 rfl t8 rfl t9 rfl t10 rfl t11 rfl t12 rfl t13 rfl t14 rfl t15 rfl t16 rfl t17 rfl t18 rfl t19 rfl t20 rfl t21 e21 t22 e22 t23 e23;rw [hzl] at e22 e23 ⊢;have e1':t1=QI xs:=e1;rw [al];refine ⟨fun h0=>?_,fun h0=>?_⟩
 ·obtain ⟨q1,q2,q3⟩:=qq (z:=z) (xs:=xs) (.inl h0);rw [e21,q1,q2,q3]
 rw [al];refine ⟨fun h1=>?_,fun h1=>?_⟩
 ·obtain ⟨q1,q2,q3⟩:=qq (z:=z) (xs:=xs) (.inr h1);rw [e21,q1,q2,q3]
 have hE:=wx (z:=z) h0 h1;have hne0:xs≠[]:=by rintro rfl; simp at h1; omega
 refine ⟨⟨_,rfl,rfl,mA hg,hl⟩,Ho hl,Hf (mA hg) (yB hg) hl,?_⟩;rw [ah];refine ⟨fun hc=>?_,fun hc=>?_⟩
 ·have hc0:QI xs≠0:=by rw [← e1']; exact hc
  rw [if_pos hc0] at hE;obtain ⟨q2,q3⟩:=ml hE hc0;rw [hE,q2,q3,e1']
 have hc0:QI xs=0:=by rw [← e1']; exact hc
 rw [hc0,if_neg (fun hh=>hh rfl)] at hE
 have hwd:=RD hz hg hl hne0 hc0;have hwt:=(nN hwd.2.1 hwd.2.2.2.2.1).2.1;have hkl:=hwd.2.2.2.1;have hns:=hwd.2.2.2.2.1;have hsim:=ah0 (z:=z) (h:=0) (xs:=xs) (ks:=lE xs) (ns:=N4 xs) (cs:=SF xs) (i:=i) (px:=0) (py:=0);obtain ⟨s1,s2⟩:=hsim;have hlE:xx false z 0 xs (lE xs) (N4 xs) (SF xs) i 0 [] 0 0=(cx z xs i).2:=s1;have hllen:(AU false z 0 xs (lE xs) (N4 xs) (SF xs) i 0 [] 0 0).length<=3000:=by
  unfold AU;split
  ·simp
  ·have:=Lu (pl:=false) (z:=z) (h:=0) (xs:=xs) (cs:=SF xs) (i:=i) hwd.2.1 hns ([],0,0);simp only [List.length_nil] at this;omega
 refine ⟨⟨z,t1,xs,ts,rs,us,es,lE xs,N4 xs,SF xs,[],i,0,0,0,0,false,rfl,rfl,hwd,⟨by omega,by omega⟩,⟨Int.le_refl 0,by omega⟩,by show 33 - _<=33; omega,⟨bg,bg⟩,bg,?_,hl⟩,t22,t23,xx false z 0 xs (lE xs) (N4 xs) (SF xs) i 0 [] 0 0,xs,ts,rs,us,es,AU false z 0 xs (lE xs) (N4 xs) (SF xs) i 0 [] 0 0,⟨⟨ahu hwd.2.2.1 hl,hllen⟩,rfl,rfl⟩,?_⟩
 ·show [].length+wt (N4 xs) 0<=2000;simp only [List.length_nil]; omega
 rw [hlE];by_cases h2:(cx z xs i).2=0
 ·have hL:AU false z 0 xs (lE xs) (N4 xs) (SF xs) i 0 [] 0 0=(uY false z 0 xs (lE xs) (N4 xs) (SF xs) i 0 ([],0,0)).1.1:=if_neg (by rw [hlE,h2]; decide)
  have hrel:(cx z xs i).1=(ny (uY false z 0 xs (lE xs) (N4 xs) (SF xs) i 0 ([],0,0)).1.1,gx (uY false z 0 xs (lE xs) (N4 xs) (SF xs) i 0 ([],0,0)).1.1):=s2 (s1.trans h2);rw [hL,hE,show dx z xs i=(cx z xs i).1.1 from if_neg (by rw [hE,h2]; decide),show cm z xs i=(cx z xs i).1.2 from if_neg (by rw [hE,h2]; decide),hrel]
 ·have hL:AU false z 0 xs (lE xs) (N4 xs) (SF xs) i 0 [] 0 0=[]:=if_pos (by rw [hlE]; exact h2)
  obtain ⟨q2,q3⟩:=ml hE h2;rw [hL,hE,q2,q3]; rfl
end
def Dh:FuncId->Option Vs.Spec:=fun g=>JA g
def Oh:FuncId->Option Vs.Spec:=fun g=>Dh g
section
open Go.IntWalk
theorem MG:∀ {g:FuncId} {sp:Vs.Spec},Dh g=some sp->aa TP g sp:=MH
end
def Dg:FuncId->Option Vs.Spec:=fun g=>Oh g
section
open Go.IntWalk
theorem MF:∀ {g:FuncId} {sp:Vs.Spec},Oh g=some sp->aa TP g sp:=MG
theorem ME:∀ {g:FuncId} {sp:Vs.Spec},Dg g=some sp->aa TP g sp:=MF
end
def Og:FuncId->Option Vs.Spec:=fun g=>Dg g
def Of:FuncId->Option Vs.Spec:=fun g=>Og g
section
open Go.IntWalk
theorem MD:∀ {g:FuncId} {sp:Vs.Spec},Og g=some sp->aa TP g sp:=ME
theorem MC:∀ {g:FuncId} {sp:Vs.Spec},Of g=some sp->aa TP g sp:=MD
theorem Oj {how:Int} (h:im how):Ch (wz how):=by
 unfold im at h;refine ⟨S4 h,?_⟩;show ag (0*18446744073709551616+how*72057594037927936);exact ⟨by omega,by omega⟩
end
def xA:FuncId->Option Vs.Spec:=fun g=>Of g
section
open Go.IntWalk
theorem ru {σ α:Type} {P:Int->Prop} (h0:P 0) {f:α->σ->σ × Int} (hf:∀ a s,P (f a s).2):∀ (l:List α) (s:σ),P (dF f l s).2
 | [],s=>h0
 | a :: l,s=>by
  simp only [dF];split
  ·exact hf a s
  ·exact ru h0 hf l _
theorem yn {σ:Type} {P:Int->Prop} (h0:P 0) {vis:Int->σ->σ × Int} (hv:∀ c s,P (vis c s).2) (ns ks:L2) {fe:Nat->Int} (hfe:∀ n,P (fe n)) (fb:Nat->Bool) (i:Int):∀ (m n:Nat) (s:σ),P (jH vis ns ks fe fb i m n s).2
 | 0,n,s=>h0
 | m+1,n,s=>by
  simp only [jH];split
  ·exact ru h0 (fun k s=>by unfold dw; split; exact h0; exact hv _ s) _ _
  ·split
   ·exact hfe n
   ·split
    ·exact hv _ s
    ·exact ru h0 (fun k s=>yn h0 hv ns ks hfe fb i m k s) _ _
theorem oX:bn 0:=⟨by decide,by decide⟩
theorem UY (z:L1) (xs cs:L2) (n i:Nat):bn (yE z xs cs n i):=by
 unfold yE; rw [bI];split
 ·exact yH _ _
 ·split
  ·exact PW _ _
  ·exact lV _
theorem UL (z:L1) (h:Int) (r:L1) (m ax ay px py:Int):bn (Db z h r m ax ay px py):=by
 unfold Db; rw [bI];split
 ·exact LV _ _ _ _ _ _
 ·exact yH _ _
theorem S8 (z r:L1) (h:Int) (xs cs:L2) (c px py:Int):bn (Dl z r h xs cs c px py):=by
 unfold Dl; split <;> exact UL _ _ _ _ _ _ _ _
theorem UP (z:L1) (h:Int) (xs ks ns cs:L2) (i:Int):bn (GP z h xs ks ns cs i):=
 ru (P:=bn) oX (fun n s=>yn (P:=bn) oX (fun c s=>S8 _ _ _ _ _ _ _ _) _ _ (fun n=>UY _ _ _ _ _) _ _ _ _ _) _ _
theorem LA (z:L1) (h:Int) (xs ks ns cs:L2):∀ (m i:Nat) (out:L2),bn (xL z h xs ks ns cs m i out).2
 | 0,i,out=>oX
 | m+1,i,out=>by
  unfold xL;split
  ·exact UP _ _ _ _ _ _ _
  ·exact LA z h xs ks ns cs m (i+1) _
theorem Ok (z:L1) (h:Int) (xs:L2):bn (mJ z h xs):=by
 unfold mJ; split
 ·exact Vb _ _ _
 ·exact LA _ _ _ _ _ _ _ _ _
end
def Xq (z:L1) (xs us:L2):Prop:=Ch z/\aY xs/\xs.length<=1000/\aI [.i64] us/\r5 1 us/\us.length<=1000
section
open Go.IntWalk
theorem U3:∀ {g:FuncId} {sp:Vs.Spec},xA g=some sp->aa TP g sp:=MC
theorem aeP {x y:Int} (hx:0<=x) (hy:0<=y):az x y=(x*y+9223372036854775808) / 18446744073709551616:=by
 unfold az cD;rw [if_neg (show ¬ x < 0 by omega),if_neg (show ¬ y < 0 by omega),decide_eq_false (show ¬ x < 0 by omega),decide_eq_false (show ¬ y < 0 by omega)]
 rfl
theorem abn {x y A B:Int} (hx:0<=x) (hy:0<=y) (ha:x<=A) (hb:y<=B):0<=az x y/\az x y<=(A*B+9223372036854775808) / 18446744073709551616:=by
 rw [aeP hx hy];have h0:0<=x*y:=Int.mul_nonneg hx hy;have h1:x*y<=A*B:=Int.mul_le_mul ha hb hy (by omega)
 exact ⟨Int.ediv_nonneg (by omega) (by decide),Int.ediv_le_ediv (by decide) (by omega)⟩
theorem ac8 {x y A B:Int} (hx:-A<=x/\x<=A) (hy:0<=y) (hb:y<=B):-((A*B+9223372036854775808) / 18446744073709551616)<=az x y/\az x y<=(A*B+9223372036854775808) / 18446744073709551616:=by
 by_cases h:0<=x
 ·have:=abn h hy hx.2 hb; omega
 ·have:=abn (x:=-x) (A:=A) (by omega) hy (by omega) hb
  rw [abS] at this; omega
theorem ab3 {x A:Int} (hx:-A<=x/\x<=A):0<=az x x/\az x x<=(A*A+9223372036854775808) / 18446744073709551616:=by
 by_cases h:0<=x
 ·exact abn h h hx.2 hx.2
 ·rw [← ael]; exact abn (by omega) (by omega) (by omega) (by omega)
theorem aho {g a b x y h:Int} (hg:0<=g/\g<=55340232221128654848) (ha:0<=a/\a<=166020696663385964544) (hb:0<=b/\b<=166020696663385964544) (hx:-4722366482869645213696<=x/\x<=4722366482869645213696) (hy:-4722366482869645213696<=y/\y<=4722366482869645213696) (hh:0<=h/\h<=18446744073709551616):
  BU g a b x y 4611686018427387904 h=0/\(-80000000000000000000000000<=BT g a b x y 4611686018427387904 h/\BT g a b x y 4611686018427387904 h<=80000000000000000000000000)/\-80000000000000000000000000<=BS g a b x y 4611686018427387904 h/\BS g a b x y 4611686018427387904 h<=80000000000000000000000000:=by
 have x2:=ab3 hx;have y2:=ab3 hy;rw [show (4722366482869645213696*4722366482869645213696+9223372036854775808:Int) / 18446744073709551616=1208925819614629174706176 by decide] at x2 y2
 have s2:az 4611686018427387904 4611686018427387904=1152921504606846976:=by decide
 obtain ⟨R,hR⟩:∃R,az x x+az y y+az 4611686018427387904 4611686018427387904=R:=⟨_,rfl⟩;have hR':=hR;rw [s2] at hR';have r1:1152921504606846976<=R/\R<=2417852792150762956259328:=by omega
 have m1:=abn ha.1 hb.1 ha.2 hb.2;rw [show (166020696663385964544*166020696663385964544+9223372036854775808:Int) / 18446744073709551616=1494186269970473680896 by decide] at m1
 have m2:=abn hg.1 m1.1 hg.2 m1.2;rw [show (55340232221128654848*1494186269970473680896+9223372036854775808:Int) / 18446744073709551616=4482558809911421042688 by decide] at m2
 have m3:=abn m2.1 hh.1 m2.2 hh.2;rw [show (4482558809911421042688*18446744073709551616+9223372036854775808:Int) / 18446744073709551616=4482558809911421042688 by decide] at m3
 have d1:0<=Ew (az (az g (az a b)) h) R/\Ew (az (az g (az a b)) h) R<=Ew 4482558809911421042688 1152921504606846976:=⟨wk m3.1 (by omega),agS m3.1 m3.2 (by decide) r1.1⟩
 rw [show Ew 4482558809911421042688 1152921504606846976=71720940958582736683008 by decide] at d1
 have hs:=(yx (A:=R*18446744073709551616) ⟨by omega,by omega⟩).1
 obtain ⟨F,hF⟩:∃F,gG (R*18446744073709551616)=F:=⟨_,rfl⟩;rw [hF] at hs;have f1:4611686018427387904<=F:=by
  by_cases hc:4611686018427387904<=F
  ·exact hc
  ·exfalso
   have h1:(F+1)*(F+1)<=4611686018427387904*4611686018427387904:=Int.mul_le_mul (by omega) (by omega) (by have:=hs.1; omega) (by decide)
   have h2:=hs.2.2;omega
 have d2:0<=Ew (Ew (az (az g (az a b)) h) R) F/\Ew (Ew (az (az g (az a b)) h) R) F<=Ew 71720940958582736683008 4611686018427387904:=⟨wk d1.1 (by omega),agS d1.1 d1.2 (by decide) f1⟩
 rw [show Ew 71720940958582736683008 4611686018427387904=286883763834330946732032 by decide] at d2
 have X:=ac8 hx d2.1 d2.2;have Y:=ac8 hy d2.1 d2.2;rw [show (4722366482869645213696*286883763834330946732032+9223372036854775808:Int) / 18446744073709551616=73442243541588722363400192 by decide] at X Y
 have M:∀ {n:Int},-80000000000000000000000000<=n->n<=80000000000000000000000000->ag n:=fun h1 h2=>⟨by omega,by omega⟩
 obtain ⟨p1,p2,p3⟩:=af3 (g:=g) (a:=a) (b:=b) (x:=x) (y:=y) (s:=4611686018427387904) (h:=h) (d:=Ew (Ew (az (az g (az a b)) h) R) F) (X:=az x (Ew (Ew (az (az g (az a b)) h) R) F)) (Y:=az y (Ew (Ew (az (az g (az a b)) h) R) F)) (ags (R:=R) (F:=F) (m1:=az a b) (m2:=az g (az a b)) (m3:=az (az g (az a b)) h) (d1:=Ew (az (az g (az a b)) h) R) (d2:=Ew (Ew (az (az g (az a b)) h) R) F) (M (by omega) (by omega)) (M (by omega) (by omega)) (M (by omega) (by omega)) (by rw [s2]; exact M (by decide) (by decide)) hR (M (by omega) (by omega)) (by omega) hF (by omega) rfl (M (by omega) (by omega)) rfl (M (by omega) (by omega)) rfl (M (by omega) (by omega)) rfl (M (by omega) (by omega)) rfl (M (by omega) (by omega))) rfl rfl (M (by omega) (by omega)) (M (by omega) (by omega))
 rw [p1,p2,p3];exact ⟨rfl,⟨by omega,by omega⟩,by omega,by omega⟩
theorem Ll (n:Nat):(rU n).length=n:=List.length_replicate
theorem PA (n:Nat):aI [.i64] (rU n):=by
 intro r hr j hj;obtain rfl:=(List.mem_replicate.1 hr).2;obtain rfl:j=0:=by simpa using hj
 exact ⟨by decide,by decide⟩
theorem Lk (n:Nat):r5 1 (rU n):=by
 intro r hr;obtain rfl:=(List.mem_replicate.1 hr).2
 rfl
theorem Ip {ns:L2} (h:aI [.u8] ns) {m how:Int} (hm:0<=m/\m<=1000) (hh:im how):Xq (wz how) (FO ns m) (rU (FO ns m).length):=
 ⟨Oj hh,JK h m,(yY hm).1,PA _,Lk _,by rw [Ll]; exact (yY hm).1⟩
end
def ahi:FuncId->Option Vs.Spec:=fun g=>if g=ux then some ag4 else if g=b5 then some agU else xA g
def eR (xs:L2) (j:Int):St:=⟨T 26 [(0,.sl 0),(1,.sl 1),(5,.int .i64 j)],[some (.ro [.i64] xs),some (.ro [.i64] xs)]⟩
abbrev MjC (a:Prop)(b:Int)(c:L2)(d e:Prop):Prop:=Mfc a b b c b c a a a a d e
theorem rIn (Λ:FuncId->Nat->Option aB) (d:Nat) (xs:L2) (j:Int) (k:Out->St->Prop):(round (ai TP { Γ:=ahi,Λ:=Λ,Τ:=fun _=>none } d) b7 2 0 (lp TP b7 0) (eR xs j) k) =(∀a,MdP a xs j (∀b,MjC b j xs (Ma3 a a (k .ret (Mbe 26 4 MaU [] (Mak MaO xs MaO xs []))) (k .normal (Mbe 26 0 Mcm (Mfe 1 1 5 j) (Mak MaO xs MaO xs [])))) (k MbT (MaH 26 [] (Mak MaO xs MaO xs []))))) :=by delta Maa Mab Mad Mah Maj Mak Man Mar Mas Max Maz MaC MaH MaI MaO MaU MaV Ma1 Ma3 Mbe Mbp Mbw MbC MbF MbK MbT Mcg Mcm Mcr MdP Mef Mfc Mfe MjC; refine nm ?_; refine nm ?_; kernel_rfl
def pIn (n0:Nat) (st:St) (xs:L2):Prop:=xs.length<=1000000/\n0=2/\st=eR xs 0
def Ss:aB:=fun n0 st K=>∃xs,pIn n0 st xs/\K (.exit 0) ⟨T 26 [],[some (.ro [.i64] xs),some (.ro [.i64] xs)]⟩
def qy:Know:={ Γ:=ahi,Λ:=fun f i=>if f=b7 then (if i=0 then some Ss else none) else none,Τ:=fun _=>none }
theorem ah6 (xs:L2) (K:KP):(comes TP qy 3 b7 [.sl 0,.sl 1] [.ro [.i64] xs,.ro [.i64] xs] K) =(Mgw xs xs (K MaU []) (∃a:L2,pIn 2 (Mbe 26 0 Mcm (Mhu 1 1 5) (Mak MaO xs MaO xs [])) a/\K Mby [])) :=by kernel_rfl
def ahr (l:List IV) (bs:List aq):Prop:=∃xs,l=[.sl 0,.sl 1]/\bs=[.ro [.i64] xs,.ro [.i64] xs]/\xs.length<=1000000
def ahl:Vs.Spec:=⟨ahr,fun _ _=>(.bool true,[])⟩
def ahD:FuncId->Option Vs.Spec:=fun g=>if g=b7 then some ahl else ahi g
def Mcf (a b c d e f g h i j k:Int)(l m n o:Nat)(p q r s t u:Int)(v:Nat)(w:List IV):List IV:=MbL a b 1152921504606846976 c d e 4611686018427387904 f g h i j k l m n o p q r s t u v w
def Mgs (a:Int)(b:L1)(c:L2):L2:=MaF 2 0 a 4611686018427387904 b::c
abbrev MgY (a:Prop)(b c d:Int)(e:Prop):Prop:=Mbw a (MaV 0 b c d) e
abbrev MhO (a:List IV)(b:L2):Prop:=KY (Mao 0 a) (MeV MgZ b)
abbrev Mh2 (a:List IV)(b c d e f:L2):Prop:=qj a (Mcd b c d e f [])
def Mjd:List IV:=Mcf 0 0 1 0 0 0 0 0 0 0 0 0 1 2 3 0 0 0 0 0 0 4 (Mb2 1 0 [])
def Mje:List IV:=Mcf 0 0 1 0 0 0 0 0 0 0 0 0 1 2 3 0 0 0 0 0 0 4 Mb3
def Mkh:L2:=Mgs 2 (Mbj 0 9223372036854775808 0 1099511627776 Mbk 128 Mbk 2305843009213693952 0 2251799813685248 0 144115188075855872 0 0 0 514 []) (Mgs 2 (Mbj 2 9223372036854775808 0 1099511627776 Mbk 130 Mbk 2305843009213693952 0 2251799813685248 0 146366987889541120 0 0 0 514 []) [])
theorem ah7 (K:KP):(comes TP { Γ:=ahD,Λ:=fun _ _=>none,Τ:=fun _=>none } 3 ck [] [] K) =(∀a,Maz a (cr (Mde Mje) Mkh 0) (∀b,Maz b (Man (cm (Mde Mje) Mkh 0)) (∀c,Maz c (mJ (Mde Mjd) 18446744073709551616 Mkh) (∀d,MgY d 0 0 b (Max (MhO (Mai 2 (Mhe 0 [])) (Mc9 128 128 (Mc9 1 2 (Mfg 130 128 1 2)))) (ag8 Mje (Mex Mkh [] [] (Mc9 Mbk Mbk []) [])) (MaI (MeZ 1) (Mh2 Mjd Mkh [] [] (Mc9 Mbk Mbk []) []) (MeZ a) (MeZ c) (Mci (MbC a c) 0 (Mci (Man (dx (Mde Mje) Mkh 0)) 0 (Mci b 1 (Mi3 d (Mci (rd (cm (Mde Mje) Mkh 0) 0 0) 1 (K (.bool (Man (nG (Mde Mjd) 18446744073709551616 Mkh) == 2)) []) (K MaU []))) (K MaU [])) (K MaU [])) (K MaU [])))))))) :=by delta Maa Mac Mah Mai Mal Man Mao Map Max May Maz MaD MaF MaI MaM MaO MaU MaV MaY Ma2 Ma4 Ma5 Mbd Mbj Mbk Mbw MbC MbL Mb2 Mb3 Mb7 Mcc Mcd Mcf Mci Mc9 Mde Mex MeV MeZ Mfg Mgs MgY MgZ Mhe MhO Mh2 Mi3 Mjd Mje Mkh; (iterate 4 refine nm ?_); kernel_rfl
def ah3:FuncId->Option Vs.Spec:=fun g=>if g=ck then some Ga else ahD g
def Ma7 (a:Int)(b:Nat):Int:=Maf (wz a) b
def Mfu (a:L2):L2:=FO a 14
def MjY (a:Int)(b:List IV):List IV:=MbL (Ma7 a 0) (Ma7 a 1) (Ma7 a 2) (Ma7 a 3) (Ma7 a 4) (Ma7 a 5) (Ma7 a 6) (Ma7 a 7) (Ma7 a 8) (Ma7 a 9) (Ma7 a 10) (Ma7 a 11) (Ma7 a 12) 0 1 2 3 (Ma7 a 13) (Ma7 a 14) (Ma7 a 15) (Ma7 a 16) (Ma7 a 17) (Ma7 a 18) 4 b
theorem ag3 (ns:L2) (how h i:Int) (K:KP):(comes TP { Γ:=ah3,Λ:=fun _ _=>none,Τ:=fun _=>none } 3 dy [.sl 0,.int .u8 how,.int .u64 h,.int .u8 i] [.ro [.u8] ns] K) =(∀a,Maz a (cr (Mde (MjY how (Ma2 (Mc1 i 16)))) (Mfu ns) (Mc1 i 16)) (∀b,Maz b (mJ (Mde (MjY how (Mb2 0 h []))) (0+h) (Mfu ns)) (∀c,Mbw c (ag8 (MjY how (Ma2 (Mc1 i 16))) (Mex (Mfu ns) [] [] (rU (List.length (Mfu ns))) [])) (∀d,Mbw d (Mh2 (MjY how (Mb2 0 h [])) (Mfu ns) [] [] (rU (List.length (Mfu ns))) []) (MhO (Mai 14 (Mhe how [])) ns/\Mbi ((16:Int)≠0) c c d d (ahr (May 0 1 []) (MaY MaO (dx (Mde (MjY how (Ma2 (Mc1 i 16)))) (Mfu ns) (Mc1 i 16)) MaO (dx (Mde (MjY how (Ma2 (Mc1 i 16)))) (Mfu ns) (Mc1 i 16)) [])) (ahr (May 0 1 []) (MaY MaO (cm (Mde (MjY how (Ma2 (Mc1 i 16)))) (Mfu ns) (Mc1 i 16)) MaO (cm (Mde (MjY how (Ma2 (Mc1 i 16)))) (Mfu ns) (Mc1 i 16)) [])) (MeZ a) (Mci a a (MeE (af4 (May 0 1 []) (MaY dm (nG (Mde (MjY how (Mb2 0 h []))) (0+h) (Mfu ns)) dm (nG (Mde (MjY how (Mb2 0 h []))) (0+h) (Mfu ns)) [])) (bp (nG (Mde (MjY how (Mb2 0 h []))) (0+h) (Mfu ns)=nG (Mde (MjY how (Mb2 0 h []))) (0+h) (Mfu ns))) (MeZ b/\Mci b b (zX [] []/\K Mby []) (K MaU [])) (K MaU [])) (K MaU []))))))) :=by delta Maa Mac Maf Mah Mai Mal Mao Map Max May Maz MaD MaI MaM MaO MaU MaY Ma2 Ma4 Ma5 Ma7 Mbd Mbi Mbw Mby MbL Mb2 Mb7 Mcc Mcd Mci Mc1 Mde Mex MeE MeV MeZ Mfu MgZ Mhe MhO Mh2 MjY; (iterate 4 refine nm ?_); kernel_rfl
section
open Go.IntWalk
def aaM (f:L1->Int):L2->Int
 | []=>0
 | r :: l=>f r+aaM f l
theorem abC {f g:L1->Int}:∀ (xs:L2),(∀ r∈xs,f r<=g r)->aaM f xs<=aaM g xs
 | [],_=>Int.le_refl _
 | x :: xs,h=>by
  simp only [aaM];have h1:=h x (by simp)
  have h2:=abC xs (fun r hr=>h r (List.mem_cons_of_mem _ hr))
  omega
theorem abu (c:Int) (f:L1->Int):∀ (xs:L2),aaM (fun r=>c*f r) xs=c*aaM f xs
 | []=>by simp [aaM]
 | x :: xs=>by simp only [aaM]; rw [abu c f xs,Int.mul_add]
theorem abP (c:Int):∀ (xs:L2),aaM (fun _=>c) xs=(xs.length:Int)*c
 | []=>by simp [aaM]
 | x :: xs=>by simp only [aaM,List.length_cons]; rw [abP c xs,Int.natCast_add,Int.add_mul]; omega
theorem afc {f:L1->Int} {xs:L2} (h:∀ r∈xs,1<=f r) (h0:0 < xs.length):1<=aaM f xs:=by
 have:=abC (f:=fun _=>1) (g:=f) xs h
 rw [abP] at this;omega
theorem abG (w:Nat) (f:L1->Int) (M:Int) (hM:0<=M):∀ (xs:L2) (a:Int),(∀ r∈xs,Kg w r=0/\Js w r=f r/\-M<=f r/\f r<=M)->
  -170141183460469231731687303715884105728 < a - xs.length*M->a+xs.length*M < 170141183460469231731687303715884105728->qf w xs a=(a+aaM f xs,0)
 | [],a,_,_,_=>by simp [qf,aaM]
 | r :: l,a,h,h1,h2=>by
  obtain ⟨e1,e2,e3,e4⟩:=h r (by simp)
  simp only [List.length_cons] at h1 h2;rw [Int.natCast_add,Int.add_mul] at h1 h2;have hl:0<=(l.length:Int)*M:=Int.mul_nonneg (by omega) hM
  simp only [qf];rw [if_neg (by rw [e1]; simp),e2]
  have hm:ag (a+f r):=⟨by omega,by omega⟩
  rw [if_neg (by rw [cK hm]; simp),abG w f M hM l (a+f r) (fun r hr=>h r (List.mem_cons_of_mem _ hr)) (by omega) (by omega)]
  simp only [aaM];rw [Int.add_assoc]
theorem aei {x y:Int} (hx:0<=x) (hy:0 < y):Ew x y=(2*(x*18446744073709551616)+y) / (2*y):=by
 unfold Ew cD;rw [if_neg (show ¬ x < 0 by omega),if_neg (show ¬ y < 0 by omega),decide_eq_false (show ¬ x < 0 by omega),decide_eq_false (show ¬ y < 0 by omega)]
 rfl
theorem adB (x y:Int) (hy:y≠0):Ew (-x) y = -Ew x y:=by
 by_cases h0:x=0
 ·subst h0; rw [show (-0:Int)=0 from rfl,acw y hy]; rfl
 ·unfold Ew;rw [abs_neg,show decide (-x < 0) = !decide (x < 0) by by_cases h:x < 0 <;> simp [h] <;> omega,show ((!decide (x < 0)) != decide (y < 0)) = !(decide (x < 0) != decide (y < 0)) by cases decide (x < 0) <;> cases decide (y < 0) <;> rfl,acb]
theorem ac4 {n k lo hi:Int} (hk:1<=k) (h1:k*lo<=n) (h2:n<=k*hi):lo<=Ew n (k*18446744073709551616)/\Ew n (k*18446744073709551616)<=hi:=by
 have pos:∀ {n lo hi:Int},0<=n->k*lo<=n->n<=k*hi->lo<=Ew n (k*18446744073709551616)/\Ew n (k*18446744073709551616)<=hi:=by
  intro n lo hi hn h1 h2;have e:Ew n (k*18446744073709551616)=(2*n+k) / (2*k):=by
   rw [aei hn (by omega),show 2*(n*18446744073709551616)+k*18446744073709551616=(2*n+k)*18446744073709551616 by omega,show 2*(k*18446744073709551616)=(2*k)*18446744073709551616 by omega]
   exact Int.mul_ediv_mul_of_pos_left _ _ (by decide)
  rw [e];constructor
  ·rw [Int.le_ediv_iff_mul_le (by omega),show lo*(2*k)=2*(k*lo) by rw [Int.mul_comm lo,Int.mul_assoc]]
   omega
  ·refine Int.lt_add_one_iff.1 ?_;rw [Int.ediv_lt_iff_lt_mul (by omega),Int.add_mul,show hi*(2*k)=2*(k*hi) by rw [Int.mul_comm hi,Int.mul_assoc]]
   omega
 by_cases hn:0<=n
 ·exact pos hn h1 h2
 ·have:=pos (n:=-n) (lo:=-hi) (hi:=-lo) (by omega) (by rw [Int.mul_neg]; omega) (by rw [Int.mul_neg]; omega)
  rw [adB _ _ (by omega)] at this
  omega
structure Plain (k:L1->Int) (B C:Int) (xs:L2):Prop where
 mass:∀ r∈xs,fr r 0=k r*18446744073709551616/\1<=k r/\k r<=B
 pX:∀ r∈xs,-C<=fr r 4/\fr r 4<=C
 pY:∀ r∈xs,-C<=fr r 6/\fr r 6<=C
theorem acZ {k:Int} {r:L1} {w:Nat} {B C:Int} (hw:w≠0) (h0:fr r 0=k*18446744073709551616) (h1:1<=k) (h2:k<=B) (h3:-C<=fr r w) (h4:fr r w<=C) (hb:B*C < 170141183460469231731687303715884105728):
  Kg w r=0/\Js w r=k*fr r w/\-(B*C)<=k*fr r w/\k*fr r w<=B*C:=by
 have hC:0<=C:=by omega
 have a1:k*fr r w<=k*C:=Int.mul_le_mul_of_nonneg_left h4 (by omega)
 have a2:k*(-C)<=k*fr r w:=Int.mul_le_mul_of_nonneg_left h3 (by omega)
 have a3:k*C<=B*C:=Int.mul_le_mul_of_nonneg_right h2 hC;rw [Int.mul_neg] at a2;have hm:ag (k*fr r w):=⟨by omega,by omega⟩
 unfold Kg Js;rw [if_neg hw,if_neg hw,h0,acg,cK hm,abY hm];exact ⟨rfl,rfl,by omega,by omega⟩
theorem aeq {k:L1->Int} {B C:Int} {xs:L2} (h:Plain k B C xs) (h0:0 < xs.length) (hl:xs.length<=1000) (hB0:1<=B) (hB:B<=100000) (hC0:0<=C) (hC:C<=1208925819614629174706176):
  cE xs=0/\cM xs=aaM k xs*18446744073709551616/\cX xs=Ew (aaM (fun r=>k r*fr r 4) xs) (aaM k xs*18446744073709551616)/\cY xs=Ew (aaM (fun r=>k r*fr r 6) xs) (aaM k xs*18446744073709551616)/\1<=aaM k xs/\
  (∀ lo,(∀ r∈xs,lo<=fr r 4)->lo<=cX xs)/\(∀ hi,(∀ r∈xs,fr r 4<=hi)->cX xs<=hi):=by
 have hBC:B*C<=100000*1208925819614629174706176:=Int.le_trans (Int.mul_le_mul_of_nonneg_right hB hC0) (Int.mul_le_mul_of_nonneg_left hC (by decide))
 have hBC0:0<=B*C:=Int.mul_nonneg (by omega) hC0
 have hLBC:(xs.length:Int)*(B*C)<=1000*(100000*1208925819614629174706176):=Int.le_trans (Int.mul_le_mul_of_nonneg_right (by omega) hBC0) (Int.mul_le_mul_of_nonneg_left hBC (by decide))
 have hLBC0:0<=(xs.length:Int)*(B*C):=Int.mul_nonneg (by omega) hBC0
 have hLB:(xs.length:Int)*(B*18446744073709551616)<=1000*(100000*18446744073709551616):=Int.le_trans (Int.mul_le_mul_of_nonneg_right (by omega) (by omega)) (Int.mul_le_mul_of_nonneg_left (by omega) (by decide))
 have hLB0:0<=(xs.length:Int)*(B*18446744073709551616):=Int.mul_nonneg (by omega) (by omega)
 have t0:∀ r∈xs,Kg 0 r=0/\Js 0 r=18446744073709551616*k r/\-(B*18446744073709551616)<=18446744073709551616*k r/\18446744073709551616*k r<=B*18446744073709551616:=by
  intro r hr;obtain ⟨h1,h2,h3⟩:=h.mass r hr;exact ⟨rfl,by rw [show Js 0 r=fr r 0 from rfl,h1]; omega,by omega,by omega⟩
 have t4:=fun r hr=>acZ (w:=4) (by decide) (h.mass r hr).1 (h.mass r hr).2.1 (h.mass r hr).2.2 (h.pX r hr).1 (h.pX r hr).2 (by omega)
 have t6:=fun r hr=>acZ (w:=6) (by decide) (h.mass r hr).1 (h.mass r hr).2.1 (h.mass r hr).2.2 (h.pY r hr).1 (h.pY r hr).2 (by omega)
 have s0:=abG 0 (fun r=>18446744073709551616*k r) (B*18446744073709551616) (by omega) xs 0 t0 (by omega) (by omega)
 have s4:=abG 4 (fun r=>k r*fr r 4) (B*C) hBC0 xs 0 t4 (by omega) (by omega)
 have s6:=abG 6 (fun r=>k r*fr r 6) (B*C) hBC0 xs 0 t6 (by omega) (by omega)
 rw [abu,Int.zero_add] at s0;rw [Int.zero_add] at s4 s6;have kp:1<=aaM k xs:=afc (fun r hr=>(h.mass r hr).2.1) h0
 have n0:cZ 0 xs=aaM k xs*18446744073709551616:=by unfold cZ; rw [s0,Int.mul_comm]
 have e0:ca 0 xs=0:=by unfold ca; rw [s0]
 have n4:cZ 4 xs=aaM (fun r=>k r*fr r 4) xs:=by unfold cZ; rw [s4]
 have e4:ca 4 xs=0:=by unfold ca; rw [s4]
 have n6:cZ 6 xs=aaM (fun r=>k r*fr r 6) xs:=by unfold cZ; rw [s6]
 have e6:ca 6 xs=0:=by unfold ca; rw [s6]
 have bnd:∀ (w:Nat) (lo hi:Int),(∀ r∈xs,lo<=fr r w)->(∀ r∈xs,fr r w<=hi)->lo<=Ew (aaM (fun r=>k r*fr r w) xs) (aaM k xs*18446744073709551616)/\Ew (aaM (fun r=>k r*fr r w) xs) (aaM k xs*18446744073709551616)<=hi:=by
  intro w lo hi h1 h2;refine ac4 kp ?_ ?_
  ·have:=abC (f:=fun r=>lo*k r) (g:=fun r=>k r*fr r w) xs (fun r hr=>by
    rw [Int.mul_comm];exact Int.mul_le_mul_of_nonneg_left (h1 r hr) (by have:=(h.mass r hr).2.1; omega))
   rw [abu,Int.mul_comm] at this;exact this
  ·have:=abC (f:=fun r=>k r*fr r w) (g:=fun r=>hi*k r) xs (fun r hr=>by
    rw [Int.mul_comm hi];exact Int.mul_le_mul_of_nonneg_left (h2 r hr) (by have:=(h.mass r hr).2.1; omega))
   rw [abu,Int.mul_comm] at this;exact this
 have b4:=bnd 4 (-C) C (fun r hr=>(h.pX r hr).1) (fun r hr=>(h.pX r hr).2)
 have b6:=bnd 6 (-C) C (fun r hr=>(h.pY r hr).1) (fun r hr=>(h.pY r hr).2)
 have hne:aaM k xs*18446744073709551616≠0:=by omega
 have m4:ag (Ew (aaM (fun r=>k r*fr r 4) xs) (aaM k xs*18446744073709551616)):=⟨by omega,by omega⟩
 have m6:ag (Ew (aaM (fun r=>k r*fr r 6) xs) (aaM k xs*18446744073709551616)):=⟨by omega,by omega⟩
 have a4:uZ 4 xs=0:=by unfold uZ iY; rw [if_pos e4,n0,n4,if_neg hne,cK m4]
 have a6:uZ 6 xs=0:=by unfold uZ iY; rw [if_pos e6,n0,n6,if_neg hne,cK m6]
 have c0:cE xs=0:=by unfold cE; rw [if_neg (by omega),if_neg (by rw [e0]; simp),if_neg (by rw [a4]; simp),a6]
 have x4:cX xs=Ew (aaM (fun r=>k r*fr r 4) xs) (aaM k xs*18446744073709551616):=by
  unfold cX Jv fF;rw [if_pos c0,if_pos e4,n0,n4,if_neg hne,abY m4]
 refine ⟨c0,by unfold cM; rw [if_pos c0,n0],x4,?_,kp,fun lo hlo=>?_,fun hi hhi=>?_⟩
 ·unfold cY Jv fF;rw [if_pos c0,if_pos e6,n0,n6,if_neg hne,abY m6]
 ·rw [x4];exact (bnd 4 lo C hlo (fun r hr=>(h.pX r hr).2)).1
 ·rw [x4];exact (bnd 4 (-C) hi (fun r hr=>(h.pX r hr).1) hhi).2
def abA (r:L1):Prop:=lC r/\(∃k,fr r 0=k*18446744073709551616/\1<=k/\k<=9)/\(-4722366482869645213696<=fr r 4/\fr r 4<=4722366482869645213696)/\-4722366482869645213696<=fr r 6/\fr r 6<=4722366482869645213696
def aaw (xs:L2):Prop:=∀ r∈xs,abA r
theorem abo {xs:L2} (h:aaw xs) {i:Nat} (hi:i < xs.length):abA (xs.getD i []):=h _ (getM hi)
end
end Go.Vs.RF
namespace Go.Vs.RF
open Go Go.Proofs Go.Vs Go.IntWalk
theorem ae8 {xs:L2} (hc:aaw xs) (h0:0 < xs.length) (hl:xs.length<=100):cE xs=0/\(0<=cM xs/\cM xs<=18889465931478580854784)/\(-4722366482869645213696<=cX xs/\cX xs<=4722366482869645213696)/\-4722366482869645213696<=cY xs/\cY xs<=4722366482869645213696:=by
 have hk:∀ r∈xs,fr r 0=fr r 0 / 18446744073709551616*18446744073709551616/\1<=fr r 0 / 18446744073709551616/\fr r 0 / 18446744073709551616<=9:=by
  intro r hr;obtain ⟨_,⟨k,h1,h2,h3⟩,_⟩:=hc r hr;omega
 have hP:Plain (fun r=>fr r 0 / 18446744073709551616) 9 4722366482869645213696 xs:=⟨hk,fun r hr=>(hc r hr).2.2.1,fun r hr=>(hc r hr).2.2.2⟩
 obtain ⟨e,m,_,y,kp,lo,hi⟩:=aeq hP h0 (by omega) (by decide) (by decide) (by decide) (by decide)
 have htk:aaM (fun r=>fr r 0 / 18446744073709551616) xs<=(xs.length:Int)*9:=by
  have:=abC (f:=fun r=>fr r 0 / 18446744073709551616) (g:=fun _=>9) xs (fun r hr=>(hk r hr).2.2)
  rw [abP] at this;exact this
 refine ⟨e,⟨by omega,by omega⟩,⟨lo _ fun r hr=>(hc r hr).2.2.1.1,hi _ fun r hr=>(hc r hr).2.2.1.2⟩,?_⟩
 rw [y];refine ac4 kp ?_ ?_
 ·have:=abC (f:=fun r=>-4722366482869645213696*(fr r 0 / 18446744073709551616)) (g:=fun r=>fr r 0 / 18446744073709551616*fr r 6) xs (fun r hr=>by
   rw [Int.mul_comm];exact Int.mul_le_mul_of_nonneg_left (hc r hr).2.2.2.1 (by have:=(hk r hr).2.1; omega))
  rw [abu,Int.mul_comm] at this;exact this
 ·have:=abC (f:=fun r=>fr r 0 / 18446744073709551616*fr r 6) (g:=fun r=>4722366482869645213696*(fr r 0 / 18446744073709551616)) xs (fun r hr=>by
   rw [Int.mul_comm 4722366482869645213696];exact Int.mul_le_mul_of_nonneg_left (hc r hr).2.2.2.2 (by have:=(hk r hr).2.1; omega))
  rw [abu,Int.mul_comm] at this;exact this
theorem aej {xs sb:L2} (hc:aaw xs) (hid:oB xs.length sb):aaw (fz xs sb):=by
 intro r hr;unfold fz at hr;rw [List.mem_map] at hr;obtain ⟨k,hk,rfl⟩:=hr;exact abo hc (by have:=hid k hk; omega)
section
variable {xs:L2}
theorem acz (hc:aaw xs) (hl:xs.length<=100) {n:Nat} (hn:n < (N4 xs).length):cE (CK (N4 xs) (lE xs) xs n)=0/\(0<=cM (CK (N4 xs) (lE xs) xs n)/\cM (CK (N4 xs) (lE xs) xs n)<=18889465931478580854784)/\(-4722366482869645213696<=cX (CK (N4 xs) (lE xs) xs n)/\cX (CK (N4 xs) (lE xs) xs n)<=4722366482869645213696)/\-4722366482869645213696<=cY (CK (N4 xs) (lE xs) xs n)/\cY (CK (N4 xs) (lE xs) xs n)<=4722366482869645213696:=by
 have ht:gr (N4 xs) (lE xs).length:=O1 (SH xs) (Hk xs);have hw:=nN ht hn;have hp:=Pn ht hn;have hb:=tN xs;have hlen:(CK (N4 xs) (lE xs) xs n).length=wt (N4 xs) n:=by unfold CK fz; rw [List.length_map,hp]
 exact ae8 (aej hc fun k hk=>NG xs k (BX hk)) (by omega) (by omega)
theorem acH (hc:aaw xs) (hl:xs.length<=100):∀ m i,i+m=(N4 xs).length->xP (N4 xs) (lE xs) xs m i=0
 | 0,i,_=>rfl
 | m+1,i,hi=>by
  unfold xP;rw [if_neg (fun hh=>hh (acz hc hl (by omega)).1)]
  exact acH hc hl m (i+1) (by omega)
theorem acS (hc:aaw xs) (hl:xs.length<=100):QI xs=0:=acH hc hl (N4 xs).length 0 (by omega)
end
end Go.Vs.RF
namespace Go.Vs.RF
open Go Go.Proofs Go.Vs Go.IntWalk
def aeF (r:L1):Prop:=abA r/\(-2379908294192250978304<=fr r 4/\fr r 4<=2379908294192250978304)/\(-2379908294192250978304<=fr r 6/\fr r 6<=2379908294192250978304)/\(-73786976294838206464<=fr r 8/\fr r 8<=73786976294838206464)/\-73786976294838206464<=fr r 10/\fr r 10<=73786976294838206464
theorem abl {r:L1} (hm:Lr r):aeF r:=by
 have hg:=EH hm;obtain ⟨a,b,c,d,ha,hb,hc,hd,rfl⟩:=hm;unfold im at ha hb hc hd;obtain ⟨f0,f4,f6,f8,f10⟩:=Ji a b c d;unfold aeF abA;rw [f0,f4,f6,f8,f10];exact ⟨⟨hg,⟨1+c % 9,rfl,by omega,by omega⟩,⟨by omega,by omega⟩,by omega,by omega⟩,⟨by omega,by omega⟩,⟨by omega,by omega⟩,⟨by omega,by omega⟩,by omega,by omega⟩
theorem wz3 (how:Int):fr (wz how) 3=(1+how % 3)*18446744073709551616:=by show (1+how % 3)*18446744073709551616+0=_; omega
theorem wz5 (how:Int):fr (wz how) 5=4611686018427387904:=by show (0:Int)*18446744073709551616+4611686018427387904=_; omega
theorem ahQ {how h:Int} {r s:L1} (hr:Lr r) (hs:Lr s) (hh:0<=h/\h<=18446744073709551616) (hw:im how):
  (uA (wz how) h r (fr s 0) (fr s 4) (fr s 6)=0/\sn (wz how) h r (fr s 0) (fr s 4) (fr s 6)=BT (fr (wz how) 3) (fr r 0) (fr s 0) (fr s 4 - fr r 4) (fr s 6 - fr r 6) (fr (wz how) 5) h/\sm (wz how) h r (fr s 0) (fr s 4) (fr s 6)=BS (fr (wz how) 3) (fr r 0) (fr s 0) (fr s 4 - fr r 4) (fr s 6 - fr r 6) (fr (wz how) 5) h)/\
  BU (fr (wz how) 3) (fr r 0) (fr s 0) (fr s 4 - fr r 4) (fr s 6 - fr r 6) (fr (wz how) 5) h=0/\(-80000000000000000000000000<=BT (fr (wz how) 3) (fr r 0) (fr s 0) (fr s 4 - fr r 4) (fr s 6 - fr r 6) (fr (wz how) 5) h/\BT (fr (wz how) 3) (fr r 0) (fr s 0) (fr s 4 - fr r 4) (fr s 6 - fr r 6) (fr (wz how) 5) h<=80000000000000000000000000)/\
  -80000000000000000000000000<=BS (fr (wz how) 3) (fr r 0) (fr s 0) (fr s 4 - fr r 4) (fr s 6 - fr r 6) (fr (wz how) 5) h/\BS (fr (wz how) 3) (fr r 0) (fr s 0) (fr s 4 - fr r 4) (fr s 6 - fr r 6) (fr (wz how) 5) h<=80000000000000000000000000:=by
 obtain ⟨a0,a4,a6,a8,a10⟩:=EG hr;obtain ⟨b0,b4,b6,b8,b10⟩:=EG hs;unfold im at hw;have ps:=aho (g:=fr (wz how) 3) (a:=fr r 0) (b:=fr s 0) (x:=fr s 4 - fr r 4) (y:=fr s 6 - fr r 6) (h:=h) (by rw [wz3]; omega) (by omega) (by omega) (by omega) (by omega) hh
 rw [← wz5 how] at ps;have he:¬ e2 (fr s 4 - fr r 4) (fr s 6 - fr r 6)≠0:=fun hc=>hc (SA ⟨by omega,by omega⟩ ⟨by omega,by omega⟩)
 refine ⟨⟨?_,?_,?_⟩,ps⟩
 ·unfold uA; rw [if_neg he]; exact ps.1
 ·unfold sn; rw [if_neg he]
 ·unfold sm; rw [if_neg he]
section
theorem aht {xs:L2} (hne:xs≠[]) (h4:xs.length<=4):N4 xs=[[0,0,0,(xs.length:Int),-1,-1,-1,-1]]:=by
 have hb:lE xs≠[]:=by
  intro e;have:=tN xs;rw [e] at this;exact hne (List.eq_nil_of_length_eq_zero this.symm)
 unfold N4;rw [RS.fZ hb (SH xs),tN];show RS.bD (lE xs) (32+1) 0 0 0 xs.length 0=_;unfold RS.bD;rw [if_pos (.inl (by omega))]
 rfl
section
variable {xs:L2}
theorem ahd (hne:xs≠[]) (h4:xs.length<=4):ot (N4 xs) 0=true/\dX (N4 xs) (lE xs) 0=lE xs:=by
 rw [aht hne h4];refine ⟨rfl,?_⟩;show List.drop (0:Int).toNat (List.take ((xs.length:Int)).toNat (lE xs))=lE xs;have:=tN xs;rw [show ((xs.length:Int)).toNat=(lE xs).length by omega,List.take_length]; rfl
theorem agT {σ:Type} (hne:xs≠[]) (h4:xs.length<=4) (vis:Int->σ->σ × Int) (fe:Nat->Int) (fb:Nat->Bool) (i:Int) (s:σ):Cm vis (N4 xs) (lE xs) fe fb i 0 s=dF (dw vis i) (lE xs) s:=by
 obtain ⟨hl,hp⟩:=ahd hne h4;have ht:gr (N4 xs) (lE xs).length:=O1 (SH xs) (Hk xs);rw [Cl ht vis (lE xs) fe fb i (Pv hne) s,hl,if_pos rfl,hp]
theorem ahc {z:L1} {i:Int} (hc:QI xs=0) (hne:xs≠[]) (h4:xs.length<=4) (h0:0<=i) (h1:i < xs.length):cr z xs i=0/\dx z xs i=[]/\cm z xs i=gy (lE xs) i:=by
 have hR:cx z xs i=(([],[]++gy (lE xs) i),0):=by
  unfold cx c8;rw [Ek];unfold hV;rw [agT hne h4,mq _ _ fun k hk=>(NG xs k hk).1]
 have hE:cr z xs i=0:=by
  rw [wx (by omega) (by omega),hc,if_neg (fun hh=>hh rfl),hR]
 refine ⟨hE,?_,?_⟩
 ·unfold dx; rw [if_neg (by rw [hE]; decide),hR]
 ·unfold cm; rw [if_neg (by rw [hE]; decide),hR]; rfl
theorem wg {how h:Int} {r:L1} {cs:L2} {i:Int} (hm:∀ r∈xs,Lr r) (hr:Lr r) (hw:im how) (hh:0<=h/\h<=18446744073709551616):∀ (ys:L2) (px py:Int),oB xs.length ys->ys.length<=1000->(-(100000000000000000000000000*(2000 - ys.length))<=px/\px<=100000000000000000000000000*(2000 - ys.length))->(-(100000000000000000000000000*(2000 - ys.length))<=py/\py<=100000000000000000000000000*(2000 - ys.length))->
  (dF (dw (pN (wz how) r h xs cs) i) ys (px,py)).2=0
 | [],px,py,_,_,_,_=>rfl
 | y :: ys,px,py,hid,hl,hx,hy=>by
  have hid':oB xs.length ys:=fun k hk=>hid k (List.mem_cons_of_mem _ hk)
  simp only [List.length_cons] at hl hx hy;rw [jr];unfold dw;by_cases he:y.getD 1 0=i
  ·rw [if_pos he,if_neg (fun hh=>hh rfl)]
   exact wg hm hr hw hh ys px py hid' (by omega) ⟨by omega,by omega⟩ ⟨by omega,by omega⟩
  ·rw [if_neg he];have hy0:=hid y (List.mem_cons_self ..);have hs:=hm _ (getM (show (y.getD 1 0).toNat < xs.length by omega))
   obtain ⟨⟨gE,gX,gY⟩,e0,bx,b_y⟩:=ahQ (how:=how) (h:=h) hr hs hh hw;have mx:ag (px+sn (wz how) h r (fr (xs.getD (y.getD 1 0).toNat []) 0) (fr (xs.getD (y.getD 1 0).toNat []) 4) (fr (xs.getD (y.getD 1 0).toNat []) 6)):=by rw [gX]; exact ⟨by omega,by omega⟩
   have my:ag (py+sm (wz how) h r (fr (xs.getD (y.getD 1 0).toNat []) 0) (fr (xs.getD (y.getD 1 0).toNat []) 4) (fr (xs.getD (y.getD 1 0).toNat []) 6)):=by rw [gY]; exact ⟨by omega,by omega⟩
   have hv:pN (wz how) r h xs cs (-1 - y.getD 1 0) (px,py)=((px+sn (wz how) h r (fr (xs.getD (y.getD 1 0).toNat []) 0) (fr (xs.getD (y.getD 1 0).toNat []) 4) (fr (xs.getD (y.getD 1 0).toNat []) 6),py+sm (wz how) h r (fr (xs.getD (y.getD 1 0).toNat []) 0) (fr (xs.getD (y.getD 1 0).toNat []) 4) (fr (xs.getD (y.getD 1 0).toNat []) 6)),0):=by
    unfold pN A5 pR Dl;rw [if_neg (by omega),if_neg (by omega),if_neg (by omega),show -1 - (-1 - y.getD 1 0)=y.getD 1 0 by omega]
    unfold Db Da C9;rw [bI,bI,bI,gE];simp only [ne_eq,not_true_eq_false,if_false];rw [SA mx my,nE _ mx my,nE _ mx my]
   rw [hv,if_neg (fun hh=>hh rfl)]
   refine wg hm hr hw hh ys _ _ hid' (by omega) ⟨?_,?_⟩ ⟨?_,?_⟩ <;> first | (rw [gX]; omega) | (rw [gY]; omega)
theorem ahP {how h:Int} {i:Nat} (hm:∀ r∈xs,Lr r) (hne:xs≠[]) (h4:xs.length<=4) (hw:im how) (hh:0<=h/\h<=18446744073709551616) (cs:L2) (hi:i < xs.length):GP (wz how) h xs (lE xs) (N4 xs) cs i=0:=by
 have hr:=hm _ (getM hi);obtain ⟨_,_,_,b8,b10⟩:=EG hr;have hb:=tN xs;show (S6 (wz how) (xs.getD i []) h xs (lE xs) (N4 xs) cs i (fr (xs.getD i []) 8) (fr (xs.getD i []) 10)).2=0;unfold S6;rw [Ek];unfold PR;rw [agT hne h4];exact wg hm hr hw hh _ _ _ (NG xs) (by omega) ⟨by omega,by omega⟩ ⟨by omega,by omega⟩
theorem agY {how h:Int} (hm:∀ r∈xs,Lr r) (hne:xs≠[]) (h4:xs.length<=4) (hw:im how) (hh:0<=h/\h<=18446744073709551616) (cs:L2):∀ (m i:Nat) (out:L2),i+m=xs.length->(xL (wz how) h xs (lE xs) (N4 xs) cs m i out).2=0/\(xL (wz how) h xs (lE xs) (N4 xs) cs m i out).1.length=out.length+m
 | 0,i,out,_=>⟨rfl,rfl⟩
 | m+1,i,out,hi=>by
  unfold xL;rw [ahP hm hne h4 hw hh cs (show i < xs.length by omega),if_neg (fun hh=>hh rfl)]
  have:=agY hm hne h4 hw hh cs m (i+1) (out++[cI (Qc (wz how) h xs (lE xs) (N4 xs) cs i) (Qb (wz how) h xs (lE xs) (N4 xs) cs i)]) (by omega)
  refine ⟨this.1,?_⟩;rw [this.2,List.length_append];simp only [List.length_cons,List.length_nil]; omega
theorem ahj {how h:Int} (hm:∀ r∈xs,Lr r) (hne:xs≠[]) (h4:xs.length<=4) (hw:im how) (hh:0<=h/\h<=18446744073709551616):mJ (wz how) h xs=0/\(nG (wz how) h xs).length=xs.length:=by
 have hc:QI xs=0:=acS (fun r hr=>(abl (hm r hr)).1) (by omega)
 obtain ⟨a,b⟩:=agY hm hne h4 hw hh (SF xs) xs.length 0 [] (by omega)
 unfold mJ nG IE N5;rw [if_neg (fun hh=>hh hc),if_neg (fun hh=>hh hc)]
 exact ⟨a,by rw [b]; simp⟩
end
theorem ahU (xs:L2):(lE xs).Perm (mR xs xs.length):=RS.eZ.perm (RS.zH (Cw xs xs.length))
theorem ahs {ys zs:L2} (h:ys.Perm zs) (i:Int):(gy ys i).Perm (gy zs i):=(h.filter _).map _
theorem ahn (z:L1) (xs:L2) (i:Int):bn (cr z xs i):=by
 unfold cr;split
 ·exact ⟨by decide,by decide⟩
 ·split
  ·exact Vb _ _ _
  ·exact ru (P:=bn) oX (fun n s=>yn (P:=bn) oX (fun c s=>oX) _ _ (fun n=>UY _ _ _ _ _) _ _ _ _ _) _ _
theorem ahS (ls:L2):(ny ls).length<=ls.length/\(gx ls).length<=ls.length:=by
 unfold ny gx;rw [List.length_map,List.length_map];exact ⟨List.length_filter_le _ _,List.length_filter_le _ _⟩
theorem ahm {z:L1} {xs:L2} {i:Int} (hz:Ch z) (hg:aY xs) (hl:xs.length<=1000):(dx z xs i).length<=1000/\(cm z xs i).length<=1000:=by
 by_cases he:cr z xs i=0
 ·have hin:¬ (i < 0∨(xs.length:Int)<=i):=by
   intro hh;rw [(qq (z:=z) hh).1] at he;cases he
  have h0:¬ i < 0:=fun h=>hin (.inl h)
  have h1:¬ (xs.length:Int)<=i:=fun h=>hin (.inr h)
  have hE:=wx (z:=z) h0 h1;rw [he] at hE;have hc0:QI xs=0:=by
   by_cases hc:QI xs=0
   ·exact hc
   ·rw [if_pos hc] at hE; exact hE.symm
  rw [if_neg (fun hh=>hh hc0)] at hE
  have hne0:xs≠[]:=by rintro rfl; simp at h1; omega
  have hwd:=RD hz hg hl hne0 hc0;have hwt:=(nN hwd.2.1 hwd.2.2.2.2.1).2.1;have hkl:=hwd.2.2.2.1;obtain ⟨s1,s2⟩:=ah0 (z:=z) (h:=0) (xs:=xs) (ks:=lE xs) (ns:=N4 xs) (cs:=SF xs) (i:=i) (px:=0) (py:=0);have hrel:(cx z xs i).1=(ny (uY false z 0 xs (lE xs) (N4 xs) (SF xs) i 0 ([],0,0)).1.1,gx (uY false z 0 xs (lE xs) (N4 xs) (SF xs) i 0 ([],0,0)).1.1):=s2 (s1.trans hE.symm);have hb:=tN xs;have hlq:=Lu (pl:=false) (z:=z) (h:=0) (xs:=xs) (cs:=SF xs) (i:=i) hwd.2.1 hwd.2.2.2.2.1 ([],0,0);simp only [List.length_nil] at hlq;have hf:=ahS (uY false z 0 xs (lE xs) (N4 xs) (SF xs) i 0 ([],0,0)).1.1;rw [show dx z xs i=(cx z xs i).1.1 from if_neg (by rw [he]; decide),show cm z xs i=(cx z xs i).1.2 from if_neg (by rw [he]; decide),hrel]
  exact ⟨by show (ny _).length<=1000; omega,by show (gx _).length<=1000; omega⟩
 ·obtain ⟨q2,q3⟩:=ml rfl he;rw [q2,q3]; exact ⟨by simp,by simp⟩
theorem ahy:∀ {g:FuncId} {sp:Vs.Spec},ahi g=some sp->aa TP g sp:=ao aii (ao ahT U3)
theorem lIn (d n0:Nat):aG (ai TP qy d) b7 n0 0 (lp TP b7 0) Ss:=by
 intro st K hst;obtain ⟨xs,⟨hl,rfl,rfl⟩,hK⟩:=hst;refine aC (fun j:Nat=>eR xs j) (fun j=>j<=xs.length) (fun j=>xs.length - j) ?_ (a:=0) (Nat.zero_le _)
 rintro j hle k hn hk;show round (ai TP { Γ:=ahi,Λ:=_,Τ:=fun _=>none } d) _ _ _ _ (eR xs j) k
 rw [rIn]; delta Maa Mab Mad Mah Maj Mak Man Mar Mas Max Maz MaC MaH MaI MaO MaU MaV Ma1 Ma3 Mbe Mbp Mbw MbC MbF MbK MbT Mcg Mcm Mcr MdP Mef Mfc Mfe MjC;rw [show ((j:Nat):Int).toNat=j by omega]
 rintro t1 e1 t2 e2;rw [al];constructor
 ·intro hi;have p2:t2:=by rw [e2]; omega
  refine ⟨p2,p2,p2,p2,?_⟩;rw [ah];refine ⟨fun hh=>absurd rfl hh,fun _=>?_⟩
  rw [show IntKind.i64.wrap ((j:Int)+1)=((j+1:Nat):Int) by rw [i64_in _ (by omega)]; rfl]
  exact hn (j+1) (by omega) (by omega)
 ·intro hi;exact hk _ _ (by simp) hK
theorem ahO:KnowOk TP qy 3:=cP (f0:=b7) (L:=Ss) (fun g sp h=>ahy h) rfl (fun g G h=>(by cases h)) lIn 3
theorem aie:aa TP b7 ahl:=by
 refine ab 3 ahO ?_;rintro l bs _ _ ⟨xs,rfl,rfl,hl⟩;rw [ah6]; delta Maa Mab Mad Maj Mak Man Mar MaH MaO MaU Ma3 Mbe Mby MbK Mcm Mef Mgw Mhu; rw [ah];exact ⟨fun hh=>absurd rfl hh,fun _=>⟨xs,⟨hl,rfl,rfl⟩,rfl⟩⟩
theorem ahx:∀ {g:FuncId} {sp:Vs.Spec},ahD g=some sp->aa TP g sp:=ao aie ahy
theorem aib:KnowOk TP { Γ:=ahD,Λ:=fun _ _=>none,Τ:=fun _=>none } 3:=aF (fun g sp h=>ahx h) (fun _ _=>rfl) (fun _=>rfl) 3
theorem ag5:∀ r∈wa,Lr r:=by
 rw [ahY];exact fun r hr=>AH (ahZ (by intro n hn; simp at hn; unfold im; omega)) _ r hr
theorem aif:aa TP ck Ga:=by
 refine ab 3 aib ?_;rintro l bs _ _ ⟨rfl,rfl⟩;rw [ah7]; delta Maa Mac Mah Mai Mal Man Mao Map Max May Maz MaD MaF MaI MaM MaO MaU MaV MaY Ma2 Ma4 Ma5 Mbd Mbj Mbk Mbw MbC MbL Mb2 Mb3 Mb7 Mcc Mcd Mcf Mci Mc9 Mde Mex MeV MeZ Mfg Mgs MgY MgZ Mhe MhO Mh2 Mi3 Mjd Mje Mkh;rintro t1 e1 t2 e2 t3 e3 t4 e4;have hc:QI wa=0:=acS (fun r hr=>(abl (ag5 r hr)).1) (by decide)
 obtain ⟨s1,s2,s3⟩:=ahc (xs:=wa) (z:=wz 0) (i:=0) hc (by decide) (by decide) (by decide) (by decide)
 have s4:gy (lE wa) 0=[[1]]:=List.perm_singleton.1 (ahs (ahU wa) 0);rw [s4] at s3;obtain ⟨w1,w2⟩:=ahj (xs:=wa) (how:=0) (h:=18446744073709551616) ag5 (by decide) (by decide) ⟨by decide,by decide⟩ ⟨by decide,by decide⟩
 have e1':t1=cr (wz 0) wa 0:=e1;have e2':t2=((cm (wz 0) wa 0).length:Int):=e2;have e3':t3=mJ (wz 0) 18446744073709551616 wa:=e3;rw [s1] at e1';rw [s3] at e2';rw [w1] at e3';have hz:Ch (wz 0):=Oj ⟨by decide,by decide⟩
 have p4:t4:=by rw [e4,e2']; decide
 refine ⟨⟨[[128],[128],[1],[2],[130],[128],[1],[2]],2,0,rfl,rfl,⟨by decide,by decide⟩,⟨by decide,by decide⟩⟩,⟨wz 0,wa,[],[],[[-1],[-1]],[],0,rfl,rfl,hz,ag6,by decide⟩,dY ⟨by decide,by decide⟩,⟨wz 0,wa,[],[],[[-1],[-1]],[],18446744073709551616,rfl,rfl,hz,ag6,⟨by decide,by decide⟩,by decide⟩,dY (by rw [e1']; exact ⟨by decide,by decide⟩),dY (by rw [e3']; exact ⟨by decide,by decide⟩),?_⟩
 rw [e1',e3',dp];refine ⟨fun _=>?_,fun hh=>absurd (by decide) hh⟩
 have q2:((dx (wz 0) wa 0).length:Int)=0:=by rw [s2]; rfl
 rw [dp];refine ⟨fun _=>?_,fun hh=>absurd q2 hh⟩
 rw [e2',dp];refine ⟨fun _=>⟨p4,p4,?_⟩,fun hh=>absurd (by decide) hh⟩
 rw [dp];have q3:rd (cm (wz 0) wa 0) 0 0=1:=by rw [s3]; rfl
 refine ⟨fun _=>?_,fun hh=>absurd q3 hh⟩
 show (IV.bool true,([]:List aq))=(IV.bool (((nG (wz 0) 18446744073709551616 wa).length:Int) == 2),[]);rw [w2]; rfl
theorem aid:∀ {g:FuncId} {sp:Vs.Spec},ah3 g=some sp->aa TP g sp:=ao aif ahx
theorem aia:KnowOk TP { Γ:=ah3,Λ:=fun _ _=>none,Τ:=fun _=>none } 3:=aF (fun g sp h=>aid h) (fun _ _=>rfl) (fun _=>rfl) 3
theorem agZ (z:L1) (h:Int) (xs ks ns cs:L2):∀ (m i:Nat) (out:L2),(∀ r∈out,r.length=4)->∀ r∈(xL z h xs ks ns cs m i out).1,r.length=4
 | 0,i,out,ho=>ho
 | m+1,i,out,ho=>by
  unfold xL;split
  ·intro r hr; cases hr
  ·refine agZ z h xs ks ns cs m (i+1) _ fun r hr=>?_
   rcases List.mem_append.1 hr with hr | hr
   ·exact ho r hr
   ·rw [List.mem_singleton.1 hr]; rfl
theorem agV (z:L1) (h:Int) (xs:L2):∀ r∈nG z h xs,r.length=4:=by
 unfold nG;split
 ·intro r hr; cases hr
 ·exact agZ _ _ _ _ _ _ _ _ _ (fun r hr=>by cases hr)
theorem ah4 {z:L1} {h:Int} {xs:L2}:(nG z h xs).length<=xs.length:=by
 by_cases he:mJ z h xs=0
 ·rw [JI he]; exact Nat.le_refl _
 ·have:nG z h xs=[]:=by
   unfold mJ at he;unfold nG;by_cases hc:QI xs=0
   ·rw [if_neg (fun hh=>hh hc)] at he ⊢
    exact Aj _ _ _ _ _ _ _ _ _ he
   ·rw [if_pos hc]
  rw [this]; simp
def ahp (l:List IV) (bs:List aq):Prop:=∃ns how h i,l=[.sl 0,.int .u8 how,.int .u64 h,.int .u8 i]/\bs=[.ro [.u8] ns]/\im how/\aj h/\im i
def ahJ:Vs.Spec:=⟨ahp,fun _ _=>(.bool true,[])⟩
theorem aih:aa TP dy ahJ:=by
 refine ab 3 aia ?_;rintro l bs _ hB ⟨ns,how,h,i,rfl,rfl,hh,hu,hi⟩;have hb:aI [.u8] ns/\0 < [IntKind.u8].length/\ns.length<=maxLen:=hB (.ro [.u8] ns) (List.mem_singleton.2 rfl);obtain ⟨hz,hg,hl,huk,hu1,hul⟩:=Ip (ns:=ns) hb.1 (m:=14) ⟨by decide,by decide⟩ hh
 have hW:∀ t,dv [IV.agg (af (wz how) 0 1 2 3 4),t] 0=wz how:=fun t=>dA _ (wz how) 0 1 2 3 4 rfl rfl
 unfold af at hW;rw [ag3]; delta Maa Mac Maf Mah Mai Mal Mao Map Max May Maz MaD MaI MaM MaO MaU MaY Ma2 Ma4 Ma5 Ma7 Mbd Mbi Mbw Mby MbL Mb2 Mb7 Mcc Mcd Mci Mc1 Mde Mex MeE MeV MeZ Mfu MgZ Mhe MhO Mh2 MjY; rw [Int.zero_add,vr hu];simp only [hW];rintro t1 e1 t2 e2 t3 e3 t4 e4;have p3:t3:=by rw [e3]; exact ⟨wz how,FO ns 14,[],[],_,[],_,rfl,rfl,hz,hg,hl⟩
 have p4:t4:=by rw [e4]; exact ⟨wz how,FO ns 14,[],[],_,[],h,rfl,rfl,hz,hg,sh hu,hl⟩
 obtain ⟨lf,ln⟩:=ahm (z:=wz how) (xs:=FO ns 14) (i:=(IntKind.i64.wrap i).tmod 16) hz hg hl;refine ⟨⟨ns,14,how,rfl,rfl,⟨by decide,by decide⟩,hh⟩,by decide,p3,p3,p4,p4,⟨_,rfl,rfl,by omega⟩,⟨_,rfl,rfl,by omega⟩,dY (by rw [e1]; exact ahn _ _ _),?_⟩
 rw [dp];refine ⟨fun _=>?_,fun hh=>absurd rfl hh⟩
 have hle:=ah4 (z:=wz how) (h:=h) (xs:=FO ns 14);refine ⟨⟨_,_,rfl,rfl,by omega,agV _ _ _,agV _ _ _⟩,?_⟩
 rw [Hl];refine ⟨fun _=>⟨dY (by rw [e2]; exact Ok _ _ _),?_⟩,fun hh=>absurd trivial hh⟩
 rw [dp];exact ⟨fun _=>⟨rN,rfl⟩,fun hh=>absurd rfl hh⟩
theorem air (ns:L2) {how h i:Int} (k1:dt .u8 how) (k2:dt .u64 h) (k3:dt .u8 i):ahp [.sl 0,.int .u8 how,.int .u64 h,.int .u8 i] [.ro [.u8] ns]:=by
 have h1:0<=how/\how<=255:=k1;have h2:0<=h/\h<=18446744073709551615:=k2;have h3:0<=i/\i<=255:=k3;exact ⟨ns,how,h,i,rfl,rfl,⟨h1.1,by omega⟩,⟨h2.1,by omega⟩,⟨h3.1,by omega⟩⟩
end
end Go.Vs.RF
