import Derived.Test.YtemefnjekgjciaaGreatProg
import Derived.Test.YtemefnjekgjciaaGreatC1
import Derived.Test.YtemefnjekgjciaaGreatC2
import Derived.Test.YtemefnjekgjciaaGreatB1
import Derived.Test.YtemefnjekgjciaaGreatB2
import Derived.Test.YtemefnjekgjciaaGreatB3
import Derived.Test.YtemefnjekgjciaaGreatB4
set_option linter.unusedVariables false
set_option linter.unusedSimpArgs false
noncomputable section
set_option maxRecDepth 100000
namespace Go.Vs.RF
open Go Go.Vs
abbrev aav:FuncId:=9
section
open Go.Proofs Go.IntWalk
theorem aga {A B:Prop}:br true A B=A:=rfl
end
section
open Go.Proofs
def afb (x y:Int):List IV:=[.int .i64 (x / 18446744073709551616),.int .u64 (x % 18446744073709551616),.int .i64 (y / 18446744073709551616),.int .u64 (y % 18446744073709551616),.int .i64 0]
def Slk (z:L1) (ns xs ys us:L2) (ax ay bx by':Int) (bd:L2) (i:Int):St:=⟨T 110 [(7,.ptr 1 0),(8,.ptr 2 0),(10,.ptr 3 0),(11,.ptr 4 0),(12,.ptr 5 0),(13,.int .i64 i)],[some (.ro [.u8] ns),some (.var 34 (af z 6 7 8 9 10)),some (.var 34 (af z 11 12 13 14 15)),some (.var 75 (afb ax ay)),some (.var 75 (afb bx by')),some (.var 34 (af z 16 12 13 14 15)),some (.ro aM xs),some (.ro jt []),some (.ro ie []),some (.ro [.i64] us),some (.ro dE []),some (.ro aM ys),some (.ro jt []),some (.ro ie []),some (.ro [.i64] us),some (.ro dE []),some (.row 79 aM bd)]⟩
theorem rLk (Λ:FuncId->Nat->Option aB) (d:Nat) (z:L1) (ns xs ys us:L2) (ax ay bx by':Int) (bd:L2) (i:Int) (k:Out->St->Prop):(round (ai TP { Γ:=xA,Λ:=Λ,Τ:=fun _=>none } d) aav 1 0 (lp TP aav 0) (Slk z ns xs ys us ax ay bx by' bd i) k) =(∀a,Mau a ax (∀b,Mau b ay (∀c,Mau c bx (∀e,Mau e by' (∀f,MaX f xs i 8 (∀g,MaX g xs i 9 (∀j,MaX j xs i 10 (∀l,MaX l xs i 11 (∀m,MaX m ys i 8 (∀n,MaX n ys i 9 (∀o,MaX o ys i 10 (∀p,MaX p ys i 11 (∀q,MiJ q i xs (∀r,MiJ r i ys (∀s,MiJ s i bd (∀t,Mgp t a f g (∀u,Mgp u b j l (∀v,Mgp v c m n (∀w,Mgp w e o p (∀x,MiS x t u (∀y,MiT y t u (∀a1,MiS a1 v w (∀b1,MiT b1 v w (∀c1,Mdp c1 i i (Mbu bd i (fun d1=>MgN (fun e1=>MjE e1 (MfA xs i 4 xs i 5 xs i 6 xs i 7 []) d1))) i xs (Mgx q q (kB (Mc0 ax ay (Mdn f g j l [])) []) r r (kB (Mc0 bx by' (Mdn m n o p [])) []) (Ma9 q q s s q q c1 c1 (k .normal (Mcx 110 7 1 8 2 (Me1 10 3 11 4 12 5 13 (McR i)) (Mdx [] ns (Mbf 34 (Meb z z z z z z z z z z z z z 6 7 8 9 z z z z z z 10) 34 (Meb z z z z z z z z z z z z z 11 12 13 14 z z z z z z 15) 75 (MiH x y (MaY (e2 t u))) 75 (MiH a1 b1 (MaY (e2 v w))) (Mcy 34 (Meb z z z z z z z z z z z z z 16 12 13 14 z z z z z z 15) aM xs (Mew [] [] MaQ us dE [] aM ys jt [] ie [] MaQ us (Mam dE [] (Mc2 (Mbu (Mbu bd i (fun d1=>MgN (fun e1=>MjE e1 (MfA xs i 4 xs i 5 xs i 6 xs i 7 []) d1))) i (fun d1=>MgN (fun e1=>Mg9 8 e1 e1 12 (Maw f g j l []) e1 8 d1 e1)))) []))))))))) (k MbI (MaM 110 (Ma4 7 1 10 (Mao 2) 11 (Mao 3) 12 (Mao 4) []) (Mdx [] ns (Mbf 34 (Meb z z z z z z z z z z z z z 5 6 7 8 z z z z z z 9) 75 (Mbc ax ax ay ay MbD) 75 (Mbc bx bx by' by' MbD) 34 (Meb z z z z z z z z z z z z z 10 11 12 13 z z z z z z 14) (Mgw xs [] [] us (Mam dE [] (Mc2 bd) (Mf7 [] [] us []))))))))))))))))))))))))))))))) :=by delta Maa Mab Mac Mad Mae Maf Mag Mah Mai Maj Mak Mal Mam Man Mao Map Maq Mar Mat Mau Mav Maw Maz MaA MaB MaD MaE MaG MaM MaN MaP MaQ MaR MaS MaV MaX MaY Ma2 Ma4 Ma9 Mbc Mbf Mbk Mbl Mbo Mbp Mbs Mbu Mbv MbD MbI MbU MbX MbY MbZ Mb0 Mb1 Mb2 Mb3 Mb4 Mb9 Mca Mcb Mcd Mce Mcf Mcg Mci Mcj Mck Mcq Mcx Mcy McE McI McR Mc0 Mc2 Mdn Mdp Mdx Meb Mew Me1 Mft MfA Mf7 Mgp Mgw Mgx MgN Mg9 MiH MiJ MiS MiT MjE; (iterate 4 refine nj ?_); (iterate 20 refine nm ?_); kernel_rfl
def aax (j:Nat) (xs:L2):Nat->Int
 | 0=>0
 | n+1=>aax j xs n+fr (xs.getD n []) j
def acB (x y:L1):Prop:=x.length=20/\∀ j,(j < 4∨12<=j)->y.getD j 0=x.getD j 0
def ab9 (xs:L2):Prop:=∀ r∈xs,(-20769187434139310514121985316880384<=fr r 8/\fr r 8<=20769187434139310514121985316880384)/\-20769187434139310514121985316880384<=fr r 10/\fr r 10<=20769187434139310514121985316880384
def af5 (n0:Nat) (st:St) (z:L1) (ns xs ys us:L2):Prop:=(aY xs/\aY ys/\ab9 xs/\ab9 ys/\xs.length<=1000/\ys.length=xs.length/\∀ k,k < xs.length->acB (xs.getD k []) (ys.getD k []))/\n0=1/\st=Slk z ns xs ys us 0 0 0 0 ys 0
def afU:aB:=fun n0 st K=>∃z ns xs ys us,af5 n0 st z ns xs ys us/\K (.exit 0) ⟨T 110 [(7,.ptr 1 0),(10,.ptr 2 0),(11,.ptr 3 0),(12,.ptr 4 0)],[some (.ro [.u8] ns),some (.var 34 (af z 5 6 7 8 9)),some (.var 75 (afb (aax 8 xs xs.length) (aax 10 xs xs.length))),some (.var 75 (afb (aax 8 ys xs.length) (aax 10 ys xs.length))),some (.var 34 (af z 10 11 12 13 14)),some (.ro aM xs),some (.ro jt []),some (.ro ie []),some (.ro [.i64] us),some (.ro dE []),some (.row 79 aM xs),some (.ro jt []),some (.ro ie []),some (.ro [.i64] us),some (.ro dE [])]⟩
def afT:Know:={ Γ:=xA,Λ:=fun f i=>if f=aav then (if i=0 then some afU else none) else none,Τ:=fun _=>none }
def MhO (a:Nat)(b c:L2):Int:=Mae (aax a b (List.length c))
def MhP (a:Nat)(b c:L2):Int:=Mah (aax a b (List.length c))
theorem acV (ns:L2) (how h:Int) (K:KP):(comes TP afT 3 aav [.sl 0,.int .u8 how,.int .u64 h] [.ro [.u8] ns] K) =(∀a,MbC a how 0 (∀b,MbC b how 1 (∀c,MbC c how 2 (∀d,MbC d how 3 (∀e,MbC e how 4 (∀f,MbC f how 5 (∀g,MbC g how 6 (∀i,MbC i how 7 (∀j,MbC j how 8 (∀k,MbC k how 9 (∀l,MbC l how 10 (∀m,MbC m how 11 (∀n,MbC n how 12 (∀o,MbC o how 13 (∀p,MbC p how 14 (∀q,MbC q how 15 (∀r,MbC r how 16 (∀s,MbC s how 17 (∀t,MbC t how 18 (∀u,Mei u a b c d e f g i j k l m n o p q r s t (0+h) (FO ns 6) (∀v,Mau v (Mat (Meu u a b c d e f g i j k l m n o p q r s t (0+h) ns 6)) (MbV (Mhw 6 how ns) (MeZ a b c d e f g i j k l m n o p q r s t 0 h (FO ns 6) [] [] (McM ns 6) []) (Mec u) (McL u (Mcm v 0 (zX [] []/\K Ma5 []) (K MaJ [])) (MaW v (Mat (FO ns 6)) (K MaJ []) (Mgv 0 (Meu u a b c d e f g i j k l m n o p q r s t (0+h) ns 6) 160 (∃w:L1,∃x:L2,∃y:L2,∃z:L2,∃a1:L2,Mcs (af5 1 (Mcx 110 7 1 8 2 (Me1 10 3 11 4 12 5 13 0) (Mdx [] ns (Mbf 34 (Mcd a b c d e f g i j k l m n 6 7 8 9 o p q r s t 10) 34 (Mcd (an u a) (an u b) (an u c) (an u d) (an u e) (an u f) (an u g) (an u i) (an u j) (an u k) (an u l) (an u m) (an u n) 11 12 13 14 (an u o) (an u p) (an u q) (an u r) (an u s) (an u t) 15) 75 (Maj 0 0 0 0 MbD) 75 (Maj 0 0 0 0 MbD) (Mcy 34 (Mcd (an u a) (an u b) (an u c) (an u d) (an u e) (an u f) (an u g) (an u i) (an u j) (an u k) (an u l) (an u m) (an u n) 16 12 13 14 (an u o) (an u p) (an u q) (an u r) (an u s) (an u t) 15) aM (FO ns 6) (Mew [] [] MaQ (McM ns 6) dE [] aM (Meu u a b c d e f g i j k l m n o p q r s t (0+h) ns 6) jt (McA u) ie (McA u) MaQ (Mdy u ns 6) (Mam dE (McA u) (Mc2 (Mg7 20 (Meu u a b c d e f g i j k l m n o p q r s t (0+h) ns 6))) [])))))) w x y z a1) (Mci w) (Mav (MjK (Mb9 w) (Mca w) (Mcb w) (Mcj w) (Mce w) (Mcf w) (Mcg w) (Mck w) (McE w) (McI w) (MbX w) (Mci w) (MbY w) (MbZ w) (Mb0 w) (Mb1 w) (Mb2 w) (Mb3 w) (Mb4 w) y a1) MhU (K Ma5 [])) (br (MeT (MhP 8 y y) (MhP 8 z y) (MaZ (MhO 8 y y) (MhO 8 z y)) (Md4 (MhP 10 y y) (MhP 10 z y) (MhO 10 y y) (MhO 10 z y))) (Mav (MjK (Mb9 w) (Mca w) (Mcb w) (Mcj w) (Mce w) (Mcf w) (Mcg w) (Mck w) (McE w) (McI w) (MbX w) (Mci w) (MbY w) (MbZ w) (Mb0 w) (Mb1 w) (Mb2 w) (Mb3 w) (Mb4 w) y a1) MhU (K Ma5 [])) (K MaJ [])))))))))))))))))))))))))))) :=by delta Maa Mab Mac Mad Mae Maf Mag Mah Mai Maj Mak Mam Man Mao Map Mat Mau Mav Maw Max Maz MaB MaC MaD MaG MaJ MaM MaN MaP MaQ MaR MaV MaW MaY MaZ Ma4 Ma5 Ma6 Mbf Mbl Mbs Mbx MbB MbC MbD MbE MbJ MbN MbU MbV MbX MbY MbZ Mb0 Mb1 Mb2 Mb3 Mb4 Mb9 Mca Mcb Mcd Mce Mcf Mcg Mci Mcj Mck Mcm Mcs Mcv Mcx Mcy McA McB McE McI McL McM Mc2 Mdv Mdx Mdy Md4 Mec Mei Meu Mew MeT MeZ Me1 Mgv Mg7 Mhv Mhw MhO MhP MhU MjK; (iterate 21 refine nm ?_); kernel_rfl
end
section
open Go.Proofs Go.IntWalk
def abp (f:Nat->Int):Nat->Int
 | 0=>0
 | n+1=>abp f n+f n
theorem ab7 (f g:Nat->Int):∀ n,abp (fun k=>f k+g k) n=abp f n+abp g n
 | 0=>rfl
 | n+1=>by unfold abp; rw [ab7 f g n]; omega
theorem abQ:∀ n,abp (fun _=>0) n=0
 | 0=>rfl
 | n+1=>by unfold abp; rw [abQ n]; rfl
theorem ac0 (g:Int) {i j:Nat} (hij:i≠j):∀ n,abp (ace g i j) n=(if i < n then g else 0) - (if j < n then g else 0)
 | 0=>rfl
 | n+1=>by
  unfold abp;rw [ac0 g hij n];unfold ace
  (repeat' split) <;> omega
theorem ac1 (G:Nat->Nat->Int) (i n:Nat):∀ m j,i < j->j+m<=n->abp (z5 G i m j) n=0
 | 0,j,_,_=>abQ n
 | m+1,j,hj,hn=>by
  show abp (fun k=>ace (G i j) i j k+z5 G i m (j+1) k) n=0
  rw [ab7,ac1 G i n m (j+1) (by omega) (by omega)]
  show abp (ace (G i j) i j) n+0=0;rw [ac0 _ (by omega),if_pos (by omega),if_pos (by omega)]; omega
theorem ab6 (G:Nat->Nat->Int) (n:Nat):∀ m i,i+m<=n->abp (qn G n m i) n=0
 | 0,i,_=>abQ n
 | m+1,i,hi=>by
  show abp (fun k=>z5 G i (n - (i+1)) (i+1) k+qn G n m (i+1) k) n=0
  rw [ab7,ab6 G n m (i+1) (by omega)]
  show abp (z5 G i (n - (i+1)) (i+1)) n+0=0;rw [ac1 G i n _ _ (by omega) (by omega)]; rfl
theorem acI {w:Nat} {xs ys:L2}:∀ n,(∀ k,k < n->fr (ys.getD k []) w=fr (xs.getD k []) w)->aax w ys n=aax w xs n
 | 0,_=>rfl
 | n+1,h=>by unfold aax; rw [acI n (fun k hk=>h k (by omega)),h n (by omega)]
theorem adZ {z:L1} {h:Int} {xs:L2} (hz:z.getD 11 0=0) (hg:aY xs) (he:nK z h xs=0):aax 8 (eF z h xs) xs.length=aax 8 xs xs.length/\aax 10 (eF z h xs) xs.length=aax 10 xs xs.length:=by
 have hb:eF z h xs=age rq xs (tJ z h xs):=by unfold eF AW; rw [if_neg (fun hh=>hh he),if_pos hz]
 have he':tK z h xs=0:=by unfold nK at he; rw [if_pos hz] at he; exact he
 have hG:∀ a b,0<=a->a < b->b < xs.length->z3 z h xs a b=0:=abV xs.length 0 _ (by omega) he'
 have hF:tK z h xs=3∨_:=abM xs.length 0 (xs.map af8) (aci hg) (by simp) (by omega) hG
 rcases hF with f0 | ⟨_,_,_,f4⟩
 ·rw [he'] at f0; cases f0
 have f4:∀ k,k < xs.length->fr ((tJ z h xs).getD k []) 0=fr ((xs.map af8).getD k []) 0+qn (p9 z h xs) xs.length xs.length 0 k/\fr ((tJ z h xs).getD k []) 2=fr ((xs.map af8).getD k []) 2+qn (w8 z h xs) xs.length xs.length 0 k:=f4;have m0:∀ r,fr (af8 r) 0=fr r 8:=fun r=>rfl
 have m2:∀ r,fr (af8 r) 2=fr r 10:=fun r=>rfl
 have q8:∀ k,k < xs.length->fr ((eF z h xs).getD k []) 8=fr (xs.getD k []) 8+qn (p9 z h xs) xs.length xs.length 0 k:=by
  intro k hk;rw [hb,abf hk];show fr ((tJ z h xs).getD k []) 0=_;rw [(f4 k hk).1,aa8 hk,m0]
 have q10:∀ k,k < xs.length->fr ((eF z h xs).getD k []) 10=fr (xs.getD k []) 10+qn (w8 z h xs) xs.length xs.length 0 k:=by
  intro k hk;rw [hb,abf hk];show fr ((tJ z h xs).getD k []) 2=_;rw [(f4 k hk).2,aa8 hk,m2]
 have all:∀ {w:Nat} {D:Nat->Int},(∀ k,k < xs.length->fr ((eF z h xs).getD k []) w=fr (xs.getD k []) w+D k)->∀ n,n<=xs.length->aax w (eF z h xs) n=aax w xs n+abp D n:=by
  intro w D hq n;induction n with
  | zero=>intro _; rfl
  | succ n ih=>intro hn; unfold aax abp; rw [ih (by omega),hq n (by omega)]; omega
 exact ⟨by rw [all q8 _ (Nat.le_refl _),ab6 _ _ _ _ (by omega)]; omega,by rw [all q10 _ (Nat.le_refl _),ab6 _ _ _ _ (by omega)]; omega⟩
theorem afi {h:Int} {xs:L2} (he:eD h xs=0) (n:Nat) (hn:n<=xs.length):aax 8 (lj h xs) n=aax 8 xs n/\aax 10 (lj h xs) n=aax 10 xs n:=
 ⟨acI n fun k hk=>by rw [(abD he).2 k (by omega)]; exact (abI _ [] _ _).2.2.1,acI n fun k hk=>by rw [(abD he).2 k (by omega)]; exact (abI _ [] _ _).2.2.2.1⟩
theorem adC {z:L1} {h:Int} {xs:L2} (he:adn z h xs=0):nK z (dQ h) xs=0/\eD h (eF z (dQ h) xs)=0/\nK z (dQ h) (lj h (eF z (dQ h) xs))=0:=by
 unfold adn at he;by_cases h1:nK z (dQ h) xs=0
 ·rw [if_neg (fun hh=>hh h1)] at he
  by_cases h2:eD h (eF z (dQ h) xs)=0
  ·rw [if_neg (fun hh=>hh h2)] at he
   by_cases h3:nK z (dQ h) (lj h (eF z (dQ h) xs))=0
   ·exact ⟨h1,h2,h3⟩
   ·rw [if_pos h3] at he; exact absurd he h3
  ·rw [if_pos h2] at he; exact absurd he h2
 ·rw [if_pos h1] at he; exact absurd he h1
theorem aeN {z:L1} {h:Int} {xs:L2} (hz:z.getD 11 0=0) (hg:aY xs) (he:adn z h xs=0):aax 8 (gu z h xs) xs.length=aax 8 xs xs.length/\aax 10 (gu z h xs) xs.length=aax 10 xs xs.length:=by
 obtain ⟨h1,h2,h3⟩:=adC he;have a:=adZ hz hg h1;have b:=afi h2 xs.length (by rw [pF]; exact Nat.le_refl _)
 have c:=adZ hz (wN (mw hg)) h3;rw [Af,pF] at c;unfold gu;exact ⟨c.1.trans (b.1.trans a.1),c.2.trans (b.2.trans a.2)⟩
theorem acv {x y:Int} (hy:0 < y/\y<=19342813113834066795298816) (h:-1208925819614629174706176<=Ew x y/\Ew x y<=1208925819614629174706176):-20769187434139310514121985316880384<=x/\x<=20769187434139310514121985316880384:=by
 have hq:cD (Ew x y)=(2*(cD x*18446744073709551616)+cD y) / (2*cD y):=by
  have h0:0<=(2*(cD x*18446744073709551616)+cD y) / (2*cD y):=Int.ediv_nonneg (by have:=C4 x; have:=C4 y; omega) (by have:=C4 y; omega)
  unfold Ew dH;generalize (2*(cD x*18446744073709551616)+cD y) / (2*cD y)=q at h0;unfold cD; (repeat' split) <;> omega
 have ha:cD (Ew x y)<=1208925819614629174706176:=Rj h.1 h.2;rw [hq] at ha;have hay:cD y=y:=by unfold cD; split <;> omega
 rw [hay] at ha;have hb:0 < 2*y:=by omega
 have h1:=Int.lt_ediv_add_one_mul_self (2*(cD x*18446744073709551616)+y) hb;have h2:((2*(cD x*18446744073709551616)+y) / (2*y)+1)*(2*y)<=(1208925819614629174706176+1)*(2*y):=Int.mul_le_mul_of_nonneg_right (by omega) (by omega)
 have h4:cD x<=20769187434139310514121985316880384:=by have:=C4 x; omega
 unfold cD at h4;split at h4 <;> omega
theorem adz {r:L1} (hk:kpB r) (hw:agd r=true):(-20769187434139310514121985316880384<=fr r 8/\fr r 8<=20769187434139310514121985316880384)/\-20769187434139310514121985316880384<=fr r 10/\fr r 10<=20769187434139310514121985316880384:=by
 have hm:=hk.1;unfold GW at hm;have hm:=of_decide_eq_true hm;unfold agd at hw;rw [Bool.and_eq_true] at hw;obtain ⟨h0,hw⟩:=hw;have h0:=of_decide_eq_true h0;unfold xB at hw;rw [Bool.and_eq_true] at hw;obtain ⟨wx,wy⟩:=hw;have wx:=of_decide_eq_true wx;have wy:=of_decide_eq_true wy;have hx:vY r=fF (fr r 8) (fr r 0):=by unfold vY La; rw [if_pos (show C7 (fr r 8) (fr r 10) (fr r 0)=0 from h0)]
 have hy:vX r=fF (fr r 10) (fr r 0):=by unfold vX K9; rw [if_pos (show C7 (fr r 8) (fr r 10) (fr r 0)=0 from h0)]
 have hd:iY (fr r 8) (fr r 0)=0/\iY (fr r 10) (fr r 0)=0:=by
  unfold iW C7 at h0;by_cases h1:iY (fr r 8) (fr r 0)=0
  ·rw [if_neg (fun hh=>hh h1)] at h0; exact ⟨h1,h0⟩
  ·rw [if_pos h1] at h0; exact absurd h0 h1
 have hne:fr r 0≠0:=by omega
 have qq:∀ {p},iY p (fr r 0)=0->fF p (fr r 0)=Ew p (fr r 0):=by
  intro p hp;unfold iY at hp;unfold fF;rw [if_neg hne] at hp ⊢;have hm:ag (Ew p (fr r 0)):=by
   unfold bG at hp;split at hp
   ·assumption
   ·cases hp
  exact if_pos hm
 rw [hx,qq hd.1] at wx;rw [hy,qq hd.2] at wy;exact ⟨acv (y:=fr r 0) ⟨by omega,by omega⟩ ⟨by omega,by omega⟩,acv (y:=fr r 0) ⟨by omega,by omega⟩ ⟨by omega,by omega⟩⟩
theorem acs {xs:L2} (hb:abi xs) (hk:abr xs):ab9 xs:=fun r hr=>adz (hk r hr) (aca hb.2.2 r hr)
def abX (xs ys:L2):Prop:=ys.length=xs.length/\∀ k,k < xs.length->acB (xs.getD k []) (ys.getD k [])
theorem ab4 {r:L1} {j:Nat} (h:r.length=20) (hj:20<=j):r.getD j 0=0:=by simp [List.getD,List.getElem?_eq_none (by omega:r.length<=j)]
theorem afI {r:L1} (h:r.length=20) (p:L1):acB r (rq r p):=by
 refine ⟨h,fun j hj=>?_⟩
 by_cases h20:20<=j
 ·rw [ab4 h h20,ab4 (by rfl) h20]
 ·have:j=0∨j=1∨j=2∨j=3∨j=12∨j=13∨j=14∨j=15∨j=16∨j=17∨j=18∨j=19:=by omega
  rcases this with rfl | rfl | rfl | rfl | rfl | rfl | rfl | rfl | rfl | rfl | rfl | rfl <;> rfl
theorem afH {r:L1} (h:r.length=20) (p:L1):acB r (pO r p):=by
 refine ⟨h,fun j hj=>?_⟩
 by_cases h20:20<=j
 ·rw [ab4 h h20,ab4 (by rfl) h20]
 ·have:j=0∨j=1∨j=2∨j=3∨j=12∨j=13∨j=14∨j=15∨j=16∨j=17∨j=18∨j=19:=by omega
  rcases this with rfl | rfl | rfl | rfl | rfl | rfl | rfl | rfl | rfl | rfl | rfl | rfl <;> rfl
theorem ade {f:L1->L1->L1} (hf:∀ {r:L1},r.length=20->∀ p,acB r (f r p)) {xs:L2} (hg:aY xs) (ls:L2):abX xs (age f xs ls):=
 ⟨BF _ _ _,fun k hk=>by rw [abf hk]; exact hf (hg _ (getM hk)).1 _⟩
theorem kept_refl {xs:L2} (hg:aY xs):abX xs xs:=⟨rfl,fun k hk=>⟨(hg _ (getM hk)).1,fun _ _=>rfl⟩⟩
theorem acm {xs ys zs:L2} (h1:abX xs ys) (h2:abX ys zs):abX xs zs:=
 ⟨h2.1.trans h1.1,fun k hk=>⟨(h1.2 k hk).1,fun j hj=>((h2.2 k (by rw [h1.1]; exact hk)).2 j hj).trans ((h1.2 k hk).2 j hj)⟩⟩
theorem adf {z:L1} {h:Int} {xs:L2} (hg:aY xs):abX xs (eF z h xs):=by
 unfold eF; split
 ·exact kept_refl hg
 ·exact ade (fun h p=>afI h p) hg _
theorem aeU {h:Int} {xs:L2} (hg:aY xs):abX xs (lj h xs):=by
 unfold lj; split
 ·exact kept_refl hg
 ·exact ade (fun h p=>afH h p) hg _
theorem aem {z:L1} {h:Int} {xs:L2} (hg:aY xs):abX xs (gu z h xs):=
 acm (adf hg) (acm (aeU (mw hg)) (adf (wN (mw hg))))
theorem afj {x y:L1} (hk:acB x y):(List.range 20).map (fun j=>if 8<=j/\j < 12 then [x.getD 8 0,x.getD 9 0,x.getD 10 0,x.getD 11 0].getD (j - 8) 0 else ((List.range 20).map (fun j=>if 4<=j/\j < 8 then [x.getD 4 0,x.getD 5 0,x.getD 6 0,x.getD 7 0].getD (j - 4) 0 else y.getD j 0)).getD j 0)=x:=by
 have e:(List.range 20).map (fun j=>if 8<=j/\j < 12 then [x.getD 8 0,x.getD 9 0,x.getD 10 0,x.getD 11 0].getD (j - 8) 0 else ((List.range 20).map (fun j=>if 4<=j/\j < 8 then [x.getD 4 0,x.getD 5 0,x.getD 6 0,x.getD 7 0].getD (j - 4) 0 else y.getD j 0)).getD j 0)=[y.getD 0 0,y.getD 1 0,y.getD 2 0,y.getD 3 0,x.getD 4 0,x.getD 5 0,x.getD 6 0,x.getD 7 0,x.getD 8 0,x.getD 9 0,x.getD 10 0,x.getD 11 0,y.getD 12 0,y.getD 13 0,y.getD 14 0,y.getD 15 0,y.getD 16 0,y.getD 17 0,y.getD 18 0,y.getD 19 0]:=rfl
 obtain ⟨hx,hk⟩:=hk;rw [e,hk 0 (by omega),hk 1 (by omega),hk 2 (by omega),hk 3 (by omega),hk 12 (by omega),hk 13 (by omega),hk 14 (by omega),hk 15 (by omega),hk 16 (by omega),hk 17 (by omega),hk 18 (by omega),hk 19 (by omega)]
 exact Es hx
theorem afD {xs ys:L2} (hl:ys.length=xs.length) {i:Nat} (hi:i < xs.length) {f g:L1->L1} (hf:g (f (ys.getD i []))=xs.getD i []):((xs.take i++ys.drop i).modify i f).modify i g=xs.take (i+1)++ys.drop (i+1):=by
 have h1:ys.drop i=ys[i]'(by omega) :: ys.drop (i+1):=List.drop_eq_getElem_cons (by omega)
 have h2:xs.take (i+1)=xs.take i++[xs[i]]:=by simp
 have hlt:(xs.take i).length=i:=by simp; omega
 have key:∀ (a:L2) (n:Nat) (q:L1->L1) (r:L1) (b:L2),a.length=n->(a++r :: b).modify n q=a++q r :: b:=by
  intro a;induction a with
  | nil=>rintro n q r b rfl; rfl
  | cons c a ih=>rintro n q r b rfl; show c :: (a++r :: b).modify a.length q=_; rw [ih a.length q r b rfl]; rfl
 rw [h1,key _ _ _ _ _ hlt,key _ _ _ _ _ hlt,h2];rw [acY (show i < ys.length by omega),acY hi] at hf
 rw [hf,List.append_assoc]; rfl
theorem adN {xs:L2} (hs:ab9 xs) {w:Nat} (hw:w=8∨w=10):∀ n:Nat,n<=xs.length->-(20769187434139310514121985316880384*(n:Int))<=aax w xs n/\aax w xs n<=20769187434139310514121985316880384*(n:Int)
 | 0,_=>⟨by simp [aax],by simp [aax]⟩
 | n+1,hn=>by
  have h1:=adN hs hw n (by omega)
  have h2:=hs _ (getM (show n < xs.length by omega))
  have e:aax w xs (n+1)=aax w xs n+fr (xs.getD n []) w:=rfl;rw [e];rcases hw with rfl | rfl
  ·obtain ⟨h2,_⟩:=h2; omega
  ·obtain ⟨_,h2⟩:=h2; omega
theorem abd {xs:L2} (hs:ab9 xs) (hl:xs.length<=1000) {w:Nat} (hw:w=8∨w=10) {n:Nat} (hn:n<=xs.length):ag (aax w xs n):=by
 have:=adN hs hw n hn;unfold ag;omega
theorem agr (d n0:Nat):aG (ai TP afT d) aav n0 0 (lp TP aav 0) afU:=by
 intro st K hst;obtain ⟨z,ns,xs,ys,us,⟨⟨hgx,hgy,hsx,hsy,hl,hly,hkp⟩,rfl,rfl⟩,hK⟩:=hst;have okx:aI aM xs:=fun r hr=>(hgx r hr).2.1
 have oky:aI aM ys:=fun r hr=>(hgy r hr).2.1
 have e0:Slk z ns xs ys us 0 0 0 0 ys 0=Slk z ns xs ys us (aax 8 xs 0) (aax 10 xs 0) (aax 8 ys 0) (aax 10 ys 0) (xs.take 0++ys.drop 0) ((0:Nat):Int):=rfl;rw [e0];refine aC (fun i:Nat=>Slk z ns xs ys us (aax 8 xs i) (aax 10 xs i) (aax 8 ys i) (aax 10 ys i) (xs.take i++ys.drop i) i) (fun i=>i<=xs.length) (fun i=>xs.length - i) ?_ (a:=0) (Nat.zero_le _)
 rintro i hle k hn hk;show round (ai TP { Γ:=xA,Λ:=_,Τ:=fun _=>none } d) _ _ _ _ _ k
 rw [rLk]; delta Maa Mab Mac Mad Mae Maf Mag Mah Mai Maj Mak Mal Mam Man Mao Map Maq Mar Mat Mau Mav Maw Maz MaA MaB MaD MaE MaG MaM MaN MaP MaQ MaR MaS MaV MaX MaY Ma2 Ma4 Ma9 Mbc Mbf Mbk Mbl Mbo Mbp Mbs Mbu Mbv MbD MbI MbU MbX MbY MbZ Mb0 Mb1 Mb2 Mb3 Mb4 Mb9 Mca Mcb Mcd Mce Mcf Mcg Mci Mcj Mck Mcq Mcx Mcy McE McI McR Mc0 Mc2 Mdn Mdp Mdx Meb Mew Me1 Mft MfA Mf7 Mgp Mgw Mgx MgN Mg9 MiH MiJ MiS MiT MjE;rw [show ((i:Nat):Int).toNat=i by omega]
 have hbl:(xs.take i++ys.drop i).length=xs.length:=by simp; omega
 rintro j1 rfl j2 rfl j3 rfl j4 rfl t5 rfl t6 rfl t7 rfl t8 rfl t9 rfl t10 rfl t11 rfl t12 rfl t13 e13 t14 e14 t15 e15 t16 e16 t17 e17 t18 e18 t19 e19 t20 e20 t21 e21 t22 e22 t23 e23 t24 e24;rw [hbl] at e15;rw [List.length_modify,hbl] at e24;rw [al];constructor
 ·intro hi;have hi':i < xs.length:=by omega
  have p13:t13:=by rw [e13]; omega
  have p14:t14:=by rw [e14]; omega
  have p15:t15:=by rw [e15]; omega
  have p24:t24:=by rw [e24]; omega
  have s16:t16=aax 8 xs (i+1):=e16;have s17:t17=aax 10 xs (i+1):=e17;have s18:t18=aax 8 ys (i+1):=e18;have s19:t19=aax 10 ys (i+1):=e19;have m16:ag t16:=by rw [s16]; exact abd hsx hl (.inl rfl) hi'
  have m17:ag t17:=by rw [s17]; exact abd hsx hl (.inr rfl) hi'
  have m18:ag t18:=by rw [s18]; exact abd hsy (by omega) (.inl rfl) (by omega)
  have m19:ag t19:=by rw [s19]; exact abd hsy (by omega) (.inr rfl) (by omega)
  obtain ⟨_,_,_,_,_,mx8,mx10⟩:=hgx _ (getM hi');obtain ⟨_,_,_,_,_,my8,my10⟩:=hgy _ (getM (show i < ys.length by omega))
  rw [nE _ m16 m17] at e20 e21;rw [nE _ m18 m19] at e22 e23;rw [SA m16 m17,SA m18 m19];refine ⟨p13,p13,?_,p14,p14,?_,p13,p13,p15,p15,p13,p13,p24,p24,?_⟩
  ·rw [nv (cH okx i 9 (by decide) rfl) (cH okx i 11 (by decide) rfl),uD xs i 8,uD xs i 10]
   exact en (abd hsx hl (.inl rfl) hle) (abd hsx hl (.inr rfl) hle) mx8 mx10
  ·rw [nv (cH oky i 9 (by decide) rfl) (cH oky i 11 (by decide) rfl),uD ys i 8,uD ys i 10]
   exact en (abd hsy (by omega) (.inl rfl) (by omega)) (abd hsy (by omega) (.inr rfl) (by omega)) my8 my10
  rw [show IntKind.i64.wrap ((i:Int)+1)=((i+1:Nat):Int) by rw [i64_in _ (by omega)]; rfl,e20,e21,e22,e23,s16,s17,s18,s19,afD hly hi' (afj (hkp i hi'))]
  exact hn (i+1) hi' (by omega)
 ·intro hi;have:i=xs.length:=by omega
  subst this;have hb:xs.take xs.length++ys.drop xs.length=xs:=by rw [List.take_length,List.drop_eq_nil_of_le (by omega),List.append_nil]
  rw [hb];exact hk _ _ (by simp) hK
theorem aeT:KnowOk TP afT 3:=cP (f0:=aav) (L:=afU) (fun g sp h=>U3 h) rfl (fun g G h=>(by cases h)) agr 3
theorem afs:aa TP aav ab1:=by
 refine ab 3 aeT ?_;rintro l bs _ hB ⟨ns,how,h,rfl,rfl,hh,hu⟩;have hb:aI [.u8] ns/\0 < [IntKind.u8].length/\ns.length<=maxLen:=hB (.ro [.u8] ns) (List.mem_singleton.2 rfl);obtain ⟨hz,hg,hl,huk,hu1,hul⟩:=Ip (ns:=ns) hb.1 (m:=6) ⟨by decide,by decide⟩ hh
 have hzl:([(wz how).getD 0 0,(wz how).getD 1 0,(wz how).getD 2 0,(wz how).getD 3 0,(wz how).getD 4 0,(wz how).getD 5 0,(wz how).getD 6 0,(wz how).getD 7 0,(wz how).getD 8 0,(wz how).getD 9 0,(wz how).getD 10 0,(wz how).getD 11 0,(wz how).getD 12 0,(wz how).getD 13 0,(wz how).getD 14 0,(wz how).getD 15 0,(wz how).getD 16 0,(wz how).getD 17 0,(wz how).getD 18 0]:L1)=wz how:=rfl;rw [acV]; delta Maa Mab Mac Mad Mae Maf Mag Mah Mai Maj Mak Mam Man Mao Map Mat Mau Mav Maw Max Maz MaB MaC MaD MaG MaJ MaM MaN MaP MaQ MaR MaV MaW MaY MaZ Ma4 Ma5 Ma6 Mbf Mbl Mbs Mbx MbB MbC MbD MbE MbJ MbN MbU MbV MbX MbY MbZ Mb0 Mb1 Mb2 Mb3 Mb4 Mb9 Mca Mcb Mcd Mce Mcf Mcg Mci Mcj Mck Mcm Mcs Mcv Mcx Mcy McA McB McE McI McL McM Mc2 Mdv Mdx Mdy Md4 Mec Mei Meu Mew MeT MeZ Me1 Mgv Mg7 Mhv Mhw MhO MhP MhU MjK; rw [Int.zero_add,vr hu];rintro t1 rfl t2 rfl t3 rfl t4 rfl t5 rfl t6 rfl t7 rfl t8 rfl t9 rfl t10 rfl t11 rfl t12 rfl t13 rfl t14 rfl t15 rfl t16 rfl t17 rfl t18 rfl t19 rfl t20 e20 t21 e21;rw [hzl] at e20 e21 ⊢;refine ⟨⟨ns,6,how,rfl,rfl,⟨by decide,by decide⟩,hh⟩,⟨wz how,_,[],[],_,[],h,rfl,rfl,hz,hg,sh hu,hl,Y1 hul⟩,dY (by rw [e20]; exact vm _ _ _),?_⟩
 rw [ah];refine ⟨fun hne=>?_,fun h0=>?_⟩
 ·rw [show bq t20 (gu (wz how) h (FO ns 6))=[] from if_pos hne] at e21
  rw [dp];exact ⟨fun _=>⟨rN,rfl⟩,fun hh=>absurd e21 hh⟩
 have hL:∀ x,bq t20 x=x:=fun x=>by rw [h0]; rfl
 have hc:∀ x,an t20 x=x:=fun x=>by rw [h0]; rfl
 simp only [hc,hL] at e21 ⊢;have he:adn (wz how) h (FO ns 6)=0:=by rw [← e20]; exact h0
 have hmb:=abU (xs:=FO ns 6) (fun r hr=>AH hb.1 _ r hr)
 have hob:=(abb hmb.1 he).1;have hok:=ab0 (z:=wz how) (h:=h) hmb.2;have hkp:=aem (z:=wz how) (h:=h) hg;rw [ah];refine ⟨fun hne=>absurd (by rw [e21,jF]) hne,fun _=>⟨by rw [jF]; omega,?_⟩⟩
 refine ⟨wz how,ns,FO ns 6,gu (wz how) h (FO ns 6),_,⟨⟨hg,ib hg,acs hmb.1 hmb.2,acs hob hok,hl,jF _ _ _,hkp.2⟩,rfl,rfl⟩,?_⟩;have hps:W5 _ _:=⟨wz how,FO ns 6,[],[],_,[],rfl,rfl,vb hz.1.1.1 hg hl huk hu1 hul⟩;rw [ah];refine ⟨fun _=>⟨hps,rN,rfl⟩,fun hd=>?_⟩
 obtain ⟨q8,q10⟩:=aeN hd hg he;rw [q8,q10];simp only [decide_true,Bool.and_true,aga];exact ⟨hps,rN,rfl⟩
end
end Go.Vs.RF
