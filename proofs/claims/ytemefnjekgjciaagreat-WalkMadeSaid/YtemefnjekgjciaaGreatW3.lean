import Derived.RangeFuncLeaves
import Derived.Shelf.Abstract
import Derived.WalkKit
import Derived.OwnWalkIn
import Derived.TacticsInMore
import Derived.LoopNIn
import Derived.LoopIn
import Derived.Test.YtemefnjekgjciaaGreatWC1
import Derived.Test.YtemefnjekgjciaaGreatWC2
import Derived.Test.YtemefnjekgjciaaGreatW1
import Derived.Test.YtemefnjekgjciaaGreatW2
set_option linter.unusedVariables false
set_option linter.unusedSimpArgs false
noncomputable section
set_option maxRecDepth 100000
namespace Go.Proofs
open Go Go.RowKit Go.Shelf Go.Vs
attribute [local go_sem] Oper.semAt_some
set_option maxRecDepth 100000 in
set_option maxHeartbeats 2000000 in
theorem Re : lY Tryz.prog 153 := by
  refine ⟨fun args w => rfl, ?_⟩
  intro l Bs A n c J W hn hBs hY h0
  have hn' : n ≤ 9223372036854775807 := hn
  refine callsIn_of_wp Tryz.func153 rfl trivial ?_ rfl
  simp only [Tryz.ntmps153, List.size_toArray, List.length_cons, List.length_nil, Nat.reduceAdd, Nat.reduceSub, Array.replicate_succ, Array.replicate_zero, List.push_toArray, List.append_toArray, List.nil_append, List.cons_append]
  gi_wp2
  gi_loopw [3] (fun i wr => ∃ k : Nat, k ≤ n ∧ i = .int .i64 ((k : Int) - 1) ∧ J k wr)
    (fun i _ => (intOf i + 1).toNat)
  case atStart => exact ⟨n, Nat.le_refl _, rfl, h0⟩
  case round =>
    obtain ⟨k, hk, rfl, hJs⟩ := hrel
    cases k with
    | zero =>
      gi_wp2
      go_end0
      exact ⟨⟨_, rfl⟩, hJs⟩
    | succ k =>
      obtain ⟨hb, g, o, z, rfl, hc, hyy⟩ := hY k wr (by omega) hJs
      have e1 : ((k + 1 : Nat) : Int) - 1 = (k : Int) := by omega
      have e2 : (k : Int) < (n : Int) := by omega
      have e3 : (k : Nat) < n := by omega
      rw [e1]
      obtain ⟨fn, tmps, assign, body, hy, hR⟩ := hyy
      gi_wp2
      refine ⟨rfl, hR.mono ?_⟩
      rintro e W3 ⟨rfl, hJ3⟩
      gi_wp2
      go_roundw
      case rel => exact ⟨k, by omega, rfl, hJ3⟩
      case measure => simp [intOf]
end Go.Proofs
namespace Go.Vs.RF
open Go Go.Proofs Go.Vs
def kA (z:L1) (a b c d e f g h:Nat):List IV:=[.int .i64 (z.getD 0 0),.int .i64 (z.getD 1 0),.int .u64 (z.getD 2 0),.int .i64 (z.getD 3 0),.int .u64 (z.getD 4 0),.int .i64 (z.getD 5 0),.int .u64 (z.getD 6 0),.int .i64 (z.getD 7 0),.int .u64 (z.getD 8 0),.int .i64 (z.getD 9 0),.int .u64 (z.getD 10 0),.int .i64 (z.getD 11 0),.int .i64 (z.getD 12 0),
 .sl a,.sl b,.sl c,.sl d,.int .i64 (z.getD 13 0),.int .u64 (z.getD 14 0),.int .i64 (z.getD 15 0),.int .u64 (z.getD 16 0),.int .i64 (z.getD 17 0),.int .u64 (z.getD 18 0),.sl e,.sl f,.sl g,.sl h]
def y0 (xs ts rs us es ks ns cs:L2):OB:=[some (.ro aM xs),some (.ro jt ts),some (.ro ie rs),some (.ro [.i64] us),some (.ro dE es),some (.ro [.u64,.i64] ks),some (.ro kQ ns),some (.ro fG cs)]
def F6:Vs.Spec:=⟨Za,fun _ bs=>(.sl 0,[.ro [.u64,.i64] (lE (aA bs 0))])⟩
def F9:Vs.Spec:=⟨RS.mj,fun _ bs=>(.sl 0,[.ro [.i64,.u64,.i64,.i64,.i64,.i64,.i64,.i64] (RS.bL (aA bs 0))])⟩
def R0:Vs.Spec:=⟨EB,fun _ bs=>(.tup [.sl 0,.int .i64 (xz (aA bs 0) (aA bs 1) (aA bs 2))],[.ro fG (Dc (aA bs 0) (aA bs 1) (aA bs 2))])⟩
def Ko:Vs.Spec:=⟨EB,fun _ bs=>(.agg [.sl 0,.int .i64 (xz (aA bs 0) (aA bs 1) (aA bs 2))],[.ro fG (Dc (aA bs 0) (aA bs 1) (aA bs 2))])⟩
def gj:FuncId->Option Vs.Spec:=fun g=>if g=cS then some F6 else if g=sq then some F9 else if g=aeo then some R0 else if g=bz then some F6 else if g=jY then some F9 else if g=aQ then some Ko else Rz g
def l9 (ys:L2) (i j:Int):St:=⟨T 19 [(0,.sl 0),(1,.fn cF [.ptr 1 0]),(7,.int .i64 ys.length),(8,.int .i64 j)],[some (.ro [.u64,.i64] ys),some (.var 3 [.int .i64 i])]⟩
theorem ZZ (a c i:Int) (K:IV->OB->Prop):(bQ TP { Γ:=gj,Λ:=fun _ _=>none,Τ:=fun _=>none } 3 cF [.agg [.int .u64 a,.int .i64 c],.ptr 0 0] [some (.var 3 [.int .i64 i])] fun v b1=>ld 1 v b1 K) =(K (.bool (c == i)) (MaE 3 (Ma2 i) [])) :=by kernel_rfl
def pH1 (args:List IV) (b:OB):Prop:=∃a c i,args=[.agg [.int .u64 a,.int .i64 c],.ptr 0 0]/\b=[some (.var 3 [.int .i64 i])]
def Gh1:eG:=fun args b K=>pH1 args b/\K (.bool (decide (ae args 0 1=bl b 0 0))) b
def SN:FuncId->Option eG:=fun g=>if g=cF then some Gh1 else none
def Mcw (a b:Nat)(c:Int)(d:List (Nat × IV))(e:OB):St:=Mbe a b (Maa c) d e
def MiJ (a:L2)(b:Int)(c:OB):OB:=Maj MaW a (.var 3 (Ma2 b)) c
theorem rIf (Λ:FuncId->Nat->Option aB) (d:Nat) (ys:L2) (i j:Int) (k:Out->St->Prop):(round (ai TP { Γ:=gj,Λ:=Λ,Τ:=SN } d) aZ 2 0 (lp TP aZ 0) (l9 ys i j) k) =(∀a,Md7 a ys j (∀b,Mjo b j ys (Mjc b (pH1 (MaD (Mac (Mas ys j 0)::Ma2 a) (MbP 0)) (MaE 3 (Ma2 i) [])) (br (Ma0 a i) (k .ret (Mcw 19 4 j [] (MiJ ys i []))) (k .normal (MaH 19 (Mar 0 Mcm 1 (MaG 150 1 []) (Mdr 7 ys 8 j [])) (MiJ ys i []))))) (k MbT (MaH 19 [] (MiJ ys i []))))) :=by delta Maa Mab Mac Mad Mah Mai Maj Mam Man Mar Mas Max Maz MaC MaD MaE MaG MaH MaO MaV MaW Ma0 Ma1 Ma2 Mbe Mbp Mbw MbC MbF MbM MbP MbT Mb4 Mcg Mcm Mcr Mcw Mdr Md7 MiJ Mjc Mjo; refine nm ?_; refine nm ?_; kernel_rfl
def ll (ys:L2) (i:Int):Bool:=ys.any fun k=>decide (k.getD 1 0=i)
def pIf (n0:Nat) (st:St) (ys:L2) (i:Int):Prop:=ys.length<=1000000/\n0=2/\st=l9 ys i 0
def Lif:aB:=fun n0 st K=>∃ys i,pIf n0 st ys i/\br (ll ys i) (∀ j:Int,0<=j->K .ret ⟨T 19 [(4,.int .i64 j)],[some (.ro [.u64,.i64] ys),some (.var 3 [.int .i64 i])]⟩) (K (.exit 0) ⟨T 19 [],[some (.ro [.u64,.i64] ys),some (.var 3 [.int .i64 i])]⟩)
def ZF:Know:={ Γ:=gj,Λ:=fun f i=>if f=aZ then (if i=0 then some Lif else none) else none,Τ:=SN }
theorem Wh (ys:L2) (i:Int) (K:IV->OB->Prop):(bQ TP ZF 3 bO [.sl 0,.fn cF [.ptr 1 0]] [some (.ro [.u64,.i64] ys),some (.var 3 [.int .i64 i])] fun v b1=>ld 2 v b1 K) =(∃a:L2,∃b:Int,MeE (pIf 2 (MaH 19 (Mar 0 Mcm 1 (MaG 150 1 []) (Mf2 7 ys 8 0)) (MiJ ys i [])) a b) (ll a b) (∀c:Int,0<=c->K (.bool (Decidable.decide (c ≥ 0))) (MiJ a b [])) (K MaU (MiJ a b []))) :=by kernel_rfl
def Xl (args:List IV) (b:OB):Prop:=∃ys i,args=[.sl 0,.fn cF [.ptr 1 0]]/\b=[some (.ro [.u64,.i64] ys),some (.var 3 [.int .i64 i])]/\ys.length<=1000000
def YN:eG:=fun args b K=>Xl args b/\K (.bool (ll (dh b 0) (bl b 1 0))) b
def SO:FuncId->Option eG:=fun g=>if g=bO then some YN else none
def Px (r:L1):IV:=.agg [.int .i64 (r.getD 0 0),.int .u64 (r.getD 1 0),.int .i64 (r.getD 2 0),.int .i64 (r.getD 3 0),.int .i64 (r.getD 4 0),.int .i64 (r.getD 5 0),.int .i64 (r.getD 6 0),.int .i64 (r.getD 7 0)]
def MaZ (a:List IntKind)(b:L2)(c:List IntKind)(d:L2)(e:List IntKind)(f:L2)(g:List IntKind)(h:L2)(i:List IntKind)(j:L2)(k:List IntKind)(l:L2)(m:List IntKind)(n:L2)(o:List IntKind)(p:L2)(q:OB):OB:=Mak a b c d (Mak e f g h (Mak i j k l (Mak m n o p q)))
def Mbb (a b c d e f g h:L2)(i:OB):OB:=MaZ aM a jt b ie c MaO d dE e MaW f kQ g fG h i
abbrev MfC (a:Int)(b:L1)(c:Prop):Prop:=MaL a b 2 c
def Miw (a:L1)(b c d e f g h i:L2):OB:=MaE 149 (kA a 1 2 3 4 5 6 7 8) (Mbb b c d e f g h i [])
theorem Wf (z r:L1) (xs ts rs us es ks ns cs:L2) (i:Int) (K:IV->OB->Prop):(bQ TP { Γ:=gj,Λ:=fun _ _=>none,Τ:=SO } 3 iD [.ptr 0 0,Px r,.int .i64 i] (some (.var 149 (kA z 1 2 3 4 5 6 7 8)) :: y0 xs ts rs us es ks ns cs) fun v b1=>ld 9 v b1 K) =(∀a,MfC a r (∀b,MeH b r (Max (Mkm a b ks) (Xl (Mao 0 [MaG 150 1 []]) (MiJ (Md6 a b ks) i [])) (K (.bool (ll (Md6 a b ks) i)) (Miw z xs ts rs us es ks ns cs))))) :=by delta Maa Mab Mad Maf Mai Maj Mak Mam Man Mao Max Maz MaE MaG MaL MaO MaW MaZ Ma2 Mbb Md6 MeH MfC Miw MiJ Mkm; refine nm ?_; refine nm ?_; kernel_rfl
def Xh (args:List IV) (b:OB):Prop:=∃z r xs ts rs us es ks ns cs i,args=[.ptr 0 0,Px r,.int .i64 i]/\b=some (.var 149 (kA z 1 2 3 4 5 6 7 8)) :: y0 xs ts rs us es ks ns cs/\(0<=r.getD 2 0/\r.getD 2 0<=r.getD 3 0/\r.getD 3 0<=ks.length)/\ks.length<=1000000
def YL:eG:=fun args b K=>Xh args b/\K (.bool (ll (List.drop (ae args 1 2).toNat (List.take (ae args 1 3).toNat (dh b 6))) (ae args 2 0))) b
def Mh3 (a:L2)(b:Nat)(c:List IV)(d:OB):OB:=Maj MaO a (.var b c) d
theorem Wo (xs:L2) (K:IV->OB->Prop):(bQ TP { Γ:=gj,Λ:=fun _ _=>none,Τ:=fun _=>none } 3 dJ [.sl 0] [some (.ro [.i64] xs)] fun v b1=>ld 1 v b1 K) =(K (MaG 153 1 []) (Mh3 xs 29 Med [])) :=by kernel_rfl
def Xm (args:List IV) (b:OB):Prop:=∃xs,args=[.sl 0]/\b=[some (.ro [.i64] xs)]
def YO:eG:=fun args b K=>Xm args b/\K (.fn kh [.ptr 1 0]) (b++[some (.var 29 [.sl 0])])
def VI (b:OB) (k:Nat):L1:=[bl b k 0,bl b k 1,bl b k 2,bl b k 3,bl b k 4,bl b k 5,bl b k 6,bl b k 7,bl b k 8,bl b k 9,bl b k 10,bl b k 11,bl b k 12,bl b k 17,bl b k 18,bl b k 19,bl b k 20,bl b k 21,bl b k 22]
def E3 (xs cs:L2) (n i:Nat):Int:=fr (cs.getD n []) 2 - fr (xs.getD i []) 4
def E2 (xs cs:L2) (n i:Nat):Int:=fr (cs.getD n []) 4 - fr (xs.getD i []) 6
def VQ (xs cs:L2) (n i:Nat):Int:=tf (az (E3 xs cs n i) (E3 xs cs n i)) (az (E2 xs cs n i) (E2 xs cs n i))
def UX (z:L1) (xs cs:L2) (n i:Nat):Int:=az (fr z 7) (te (az (E3 xs cs n i) (E3 xs cs n i)) (az (E2 xs cs n i) (E2 xs cs n i)))
def yE (z:L1) (xs cs:L2) (n i:Nat):Int:=ua (if e2 (E3 xs cs n i) (E2 xs cs n i)≠0 then e2 (E3 xs cs n i) (E2 xs cs n i) else if VQ xs cs n i≠0 then VQ xs cs n i else bG (UX z xs cs n i))
def E4 (z:L1) (xs cs:L2) (n i:Nat):Bool:=bp (e2 (E3 xs cs n i) (E2 xs cs n i)=0/\VQ xs cs n i=0/\fr (cs.getD n []) 6<=aep (UX z xs cs n i))
def Ch (z:L1):Prop:=Cg z/\ag (fr z 7)
def Uj (cs:L2):Prop:=∀ r∈cs,ag (fr r 0)/\ag (fr r 2)/\ag (fr r 4)/\ag (fr r 6)
def McX (a:L1):Int:=Maf a 7
def Mdj (a:L1):Int:=Maf a 8
def MdV (a:L2)(b:Int)(c:Nat)(d:L2)(e:Int)(f:Nat)(g:L2)(h:Int)(i:Nat)(j:L2)(k:Int)(l:Nat):Int:=MbH a b c d e f - MbH g h i j k l
abbrev Mft (a:Int)(b:L1)(c:Prop):Prop:=MaL a b 7 c
abbrev MfX (a:Int)(b:L1)(c:Prop):Prop:=MaL a b 8 c
theorem Wg (z:L1) (xs ts rs us es ks ns cs:L2) (n i:Int) (K:IV->OB->Prop):(bQ TP { Γ:=gj,Λ:=fun _ _=>none,Τ:=fun _=>none } 3 iE [.ptr 0 0,.int .i64 n,.int .i64 i] (some (.var 149 (kA z 1 2 3 4 5 6 7 8)) :: y0 xs ts rs us es ks ns cs) fun v b1=>ld 9 v b1 K) =(∀a,Mjq a (MdV cs n 2 cs n 3 xs i 4 xs i 5) (MdV cs n 4 cs n 5 xs i 6 xs i 7) (∀b,Maz b a (∀c,Mjr c (MdV cs n 2 cs n 3 xs i 4 xs i 5) (MdV cs n 4 cs n 5 xs i 6 xs i 7) (∀d,Maz d c (∀e,Maz e (te (az b b) (az d d)) (∀f,Maz f e (∀g,Mdg g (Mba (McX z) (Mdj z)) f (∀j,Maz j g (∀k,Maz k (tf (az b b) (az d d)) (∀l,Mg3 l cs n (∀m,Mg4 m cs n (∀o,Mfj o cs n (∀p,Mfk p cs n (∀q,Mfj q xs i (∀r,Mfk r xs i (∀s,MfM s xs i (∀t,MfN t xs i (∀u,MfM u cs n (∀v,MfN v cs n (∀w,Mft w z (∀x,MfX x z (∀y,Mi8 y n cs (∀a1,Mi8 a1 i xs (∀b1,Md1 b1 (Mba u v) j (∀c1,Mgk c1 (Mdq (Mba l m) q r) (Mdq (Mba o p) s t) (Mjm y a1 (kB (MdC l m o p (MdC q r s t [])) []) (McA c1 (K (.tup (MaU::Ma2 c1)) (Miw z xs ts rs us es ks ns cs)) (Mcv (MfU a c [] []) k (K (.tup (MaU::Ma2 k)) (Miw z xs ts rs us es ks ns cs)) (MaI (MgS w x e) y y (ud (Meu u v g) []) (K (.tup (.bool (MbI b1 0)::Ma2 (bG (az (Mba w x) f)))) (Miw z xs ts rs us es ks ns cs))))))))))))))))))))))))))))))) :=by delta Maa Mab Mac Mad Maf Mai Maj Mak Mal Man Map Mas Mat Max Maz MaD MaE MaI MaL MaO MaU MaV MaW MaZ Ma1 Ma2 Ma3 Mba Mbb Mbl Mbp Mbw MbA MbE MbH MbI Mb2 Mcv McA McX Mdc Mdg Mdj Mdm Mdq MdC MdV Md1 Meu Mfj Mfk Mft MfM MfN MfU MfX Mgk MgS Mg3 Mg4 Miw Mi8 Mjm Mjq Mjr; refine nm ?_; refine nj ?_; refine nm ?_; refine nj ?_; refine nm ?_; refine nj ?_; refine nm ?_; refine nj ?_; (iterate 17 refine nm ?_); kernel_rfl
def Xi (args:List IV) (b:OB) (z:L1) (xs ts rs us es ks ns cs:L2) (n i:Int):Prop:=args=[.ptr 0 0,.int .i64 n,.int .i64 i]/\b=some (.var 149 (kA z 1 2 3 4 5 6 7 8)) :: y0 xs ts rs us es ks ns cs/\Ch z/\aY xs/\Uj cs/\aI fG cs/\(0<=n/\n < cs.length)/\(0<=i/\i < xs.length)
def YM:eG:=fun args b K=>∃z xs ts rs us es ks ns cs n i,Xi args b z xs ts rs us es ks ns cs n i/\K (.tup [.bool (E4 z xs cs n.toNat i.toNat),.int .i64 (yE z xs cs n.toNat i.toNat)]) b
section
open Go.IntWalk
theorem Ya:aa TP cS F6:=fk Hj
theorem Yc:aa TP sq F9:=fk RS.c21
theorem Yb:aa TP aeo R0:=fk Rb
theorem Vl:aa TP bz F6:=fk CV
theorem Vn:aa TP jY F9:=fk RS.c22
theorem Vm:aa TP aQ Ko:=fk Nv
theorem np:∀ {g:FuncId} {sp:Vs.Spec},gj g=some sp->aa TP g sp:=ao Ya (ao Yc (ao Yb (ao Vl (ao Vn (ao Vm QA)))))
theorem Al:KnowOk TP { Γ:=gj,Λ:=fun _ _=>none,Τ:=fun _=>none } 3:=aF (fun g sp h=>np h) (fun _ _=>rfl) (fun _=>rfl) 3
theorem Ir {g:FuncId} {G:eG} (h:(none:Option eG)=some G):cf TP g G:=by cases h
theorem iB {f:FuncId} {G0:eG} {Τ:FuncId->Option eG} (h0:cf TP f G0) (hΤ:∀ g G,Τ g=some G->cf TP g G):∀ g G,(if g=f then some G0 else Τ g)=some G->cf TP g G:=by
 intro g G h;split at h
 ·rename_i hg; subst hg; cases h; exact h0
 ·exact hΤ g G h
theorem UT:cf TP cF Gh1:=by
 refine cL (N:={ Γ:=gj,Λ:=fun _ _=>none,Τ:=fun _=>none }) 3 Al ?_
 rintro args b K ⟨⟨a,c,i,rfl,rfl⟩,hK⟩;show bQ _ _ _ _ _ _ fun v b1=>ld 1 v b1 K
 rw [ZZ]; delta Maa Mab Mai MaE Ma2;exact hK
theorem U9 {ys:L2} {i:Int} {j:Nat} (hj:j < ys.length) (h:rd ys j 1=i):ll ys i=true:=by
 unfold ll;rw [List.any_eq_true];exact ⟨ys[j],List.getElem_mem hj,by rw [decide_eq_true_eq,← h,BD hj]⟩
theorem QD {ys:L2} {i:Int} (h:∀ j,j < ys.length->rd ys j 1≠i):ll ys i=false:=by
 unfold ll;rw [List.any_eq_false];intro k hk;obtain ⟨j,hj,rfl⟩:=List.getElem_of_mem hk;have:=h j hj;rw [BD hj] at this;simpa using this
theorem lIf (d n0:Nat):aG (ai TP ZF d) aZ n0 0 (lp TP aZ 0) Lif:=by
 intro st K hst;obtain ⟨ys,i,⟨hl,rfl,rfl⟩,hK⟩:=hst;rw [aL] at hK;refine aC (fun j:Nat=>l9 ys i j) (fun j=>j<=ys.length/\∀ p,p < j->rd ys p 1≠i) (fun j=>ys.length - j) ?_ (a:=0) ⟨Nat.zero_le _,fun p hp=>by omega⟩
 rintro j ⟨hle,hno⟩ k hn hk;show round (ai TP { Γ:=gj,Λ:=_,Τ:=SN } d) _ _ _ _ _ k;rw [rIf]; delta Maa Mab Mac Mad Mah Mai Maj Mam Man Mar Mas Max Maz MaC MaD MaE MaG MaH MaO MaV MaW Ma0 Ma1 Ma2 Mbe Mbp Mbw MbC MbF MbM MbP MbT Mb4 Mcg Mcm Mcr Mcw Mdr Md7 MiJ Mjc Mjo;rw [show ((j:Nat):Int).toNat=j by omega]
 rintro t1 e1 t2 e2;rw [al];constructor
 ·intro hi;have hi':j < ys.length:=by omega
  have p2:t2:=by rw [e2]; omega
  refine ⟨p2,p2,⟨_,_,_,rfl,rfl⟩,?_⟩;rw [al];constructor
  ·intro he;exact hk _ _ (by simp) (hK.1 (U9 hi' (by rw [← e1]; exact he)) j (by omega))
  ·intro he;rw [show IntKind.i64.wrap ((j:Int)+1)=((j+1:Nat):Int) by rw [i64_in _ (by omega)]; rfl]
   refine hn (j+1) ⟨hi',fun p hp=>?_⟩ (by omega)
   by_cases hpj:p=j
   ·subst hpj; rw [← e1]; exact he
   ·exact hno p (by omega)
 ·intro hi;have:j=ys.length:=by omega
  subst this;exact hk _ _ (by simp) (hK.2 (QD hno))
theorem Qj:cf TP bO YN:=by
 refine cL (N:=ZF) 3 ⟨mixedOrders,fun g sp h=>np h,?_,iB UT (fun _ _ h=>Ir h),fun f h=>(by cases h)⟩ ?_
 ·intro d' _ f i S n0 hS;simp only [ZF] at hS;split at hS
  ·rename_i hf; subst hf;split at hS
   ·rename_i hi; subst hi; cases hS; exact lIf d' n0
   ·cases hS
  ·cases hS
 ·rintro args b K ⟨⟨ys,i,rfl,rfl,hl⟩,hK⟩;show bQ _ _ _ _ _ _ fun v b1=>ld 2 v b1 K
  rw [Wh]; delta Maa Mab Mad Mai Maj Mam Man Mar MaG MaH MaO MaU MaW Ma2 MbM Mcm MeE Mf2 MiJ;refine ⟨ys,i,⟨hl,rfl,rfl⟩,?_⟩;have hK':K (.bool (ll ys i)) [some (.ro [.u64,.i64] ys),some (.var 3 [.int .i64 i])]:=hK;rw [aL];refine ⟨fun h j hj=>?_,fun h=>?_⟩
  ·rw [h] at hK';rw [show decide (j ≥ 0)=true by simpa using hj]
   exact hK'
  ·rw [h] at hK';exact hK'
theorem P8:KnowOk TP { Γ:=gj,Λ:=fun _ _=>none,Τ:=SO } 3:=⟨mixedOrders,fun g sp h=>np h,cO (fun _ _=>rfl) 3,iB Qj (fun _ _ h=>Ir h),fun f h=>(by cases h)⟩
theorem Qh:cf TP iD YL:=by
 refine cL (N:={ Γ:=gj,Λ:=fun _ _=>none,Τ:=SO }) 3 P8 ?_
 rintro args b K ⟨⟨z,r,xs,ts,rs,us,es,ks,ns,cs,i,rfl,rfl,hr,hl⟩,hK⟩;show bQ _ _ _ _ _ _ fun v b1=>ld 9 v b1 K
 rw [Wf]; delta Maa Mab Mad Maf Mai Maj Mak Mam Man Mao Max Maz MaE MaG MaL MaO MaW MaZ Ma2 Mbb Md6 MeH MfC Miw MiJ Mkm;rintro t1 rfl t2 rfl;refine ⟨hr,⟨_,_,rfl,rfl,?_⟩,hK⟩;rw [List.length_drop,List.length_take]; omega
theorem Qk:cf TP dJ YO:=by
 refine cL (N:={ Γ:=gj,Λ:=fun _ _=>none,Τ:=fun _=>none }) 3 Al ?_
 rintro args b K ⟨⟨xs,rfl,rfl⟩,hK⟩;show bQ _ _ _ _ _ _ fun v b1=>ld 1 v b1 K
 rw [Wo]; delta Mab Mad Maj Mam Mao MaG MaO Med Mh3;exact hK
theorem SX (b:OB) (k:Nat) (z:L1) (a1 a2 a3 a4 a5 a6 a7 a8:Nat) (h:z.length=19) (hl:look b k=some (.var 149 (kA z a1 a2 a3 a4 a5 a6 a7 a8))):VI b k=z:=by
 have q:∀ j,bl b k j=bl [some (.var 149 (kA z a1 a2 a3 a4 a5 a6 a7 a8))] 0 j:=by intro j; unfold bl; rw [hl]; rfl
 unfold VI;simp only [q];exact KI h
theorem nv {a b c d:Int} (hb:aj b) (hd:aj d):IV.agg [.int .i64 a,.int .u64 b,.int .i64 c,.int .u64 d]=vx (a*18446744073709551616+b) (c*18446744073709551616+d):=(List.cons.inj (ik hb hd)).1
theorem uD (xs:L2) (i j:Nat):rd xs i j*18446744073709551616+rd xs i (j+1)=fr (xs.getD i []) j:=rfl
theorem Ju {cs:L2} (h:aI fG cs) (i j:Nat) (hj:j < 8) (hk:fG.getD j .i64=.u64):aj (rd cs i j):=by
 have:=pb h i j hj;rw [hk] at this;have h1:(0:Int)<=rd cs i j/\rd cs i j<=18446744073709551615:=this;unfold aj; omega
theorem hiC {cs:L2} (h:aI fG cs) (i j:Nat) (hj:j < 8) (hk:fG.getD j .i64=.i64):bn (rd cs i j):=by
 have:=pb h i j hj;rw [hk] at this;have h1:(-9223372036854775808:Int)<=rd cs i j/\rd cs i j<=9223372036854775807:=this;unfold bn; omega
theorem Cp (p q:Int):ag (te p q):=by
 unfold te;split
 ·exact (FW (by unfold iS; split; exact dI _; exact bg)).1
 ·exact bg
theorem Qi:cf TP iE YM:=by
 refine cL (N:={ Γ:=gj,Λ:=fun _ _=>none,Τ:=fun _=>none }) 3 Al ?_
 rintro args b K ⟨z,xs,ts,rs,us,es,ks,ns,cs,n,i,⟨rfl,rfl,hz,hg,hc,hok,hn,hi⟩,hK⟩;show bQ _ _ _ _ _ _ fun v b1=>ld 9 v b1 K
 have hK':=hK;clear hK;have hil:i.toNat < xs.length:=by omega
 have hnl:n.toNat < cs.length:=by omega
 obtain ⟨_,_,m0,m4,m6,_,_⟩:=good_row hg hil;obtain ⟨c0,c2,c4,c6⟩:=hc _ (getM hnl);rw [← acY hil] at m0 m4 m6;have okr:aI aM xs:=fun r hr=>(hg r hr).2.1
 rw [Wg]; delta Maa Mab Mac Mad Maf Mai Maj Mak Mal Man Map Mas Mat Max Maz MaD MaE MaI MaL MaO MaU MaV MaW MaZ Ma1 Ma2 Ma3 Mba Mbb Mbl Mbp Mbw MbA MbE MbH MbI Mb2 Mcv McA McX Mdc Mdg Mdj Mdm Mdq MdC MdV Md1 Meu Mfj Mfk Mft MfM MfN MfU MfX Mgk MgS Mg3 Mg4 Miw Mi8 Mjm Mjq Mjr;rintro t1 e1 j2 rfl t3 e3 j4 rfl t5 e5 j6 rfl t7 e7 j8 rfl t9 e9 t10 e10 t11 e11 t12 e12 t13 e13 t14 e14 t15 e15 t16 e16 t17 e17 t18 e18 t19 e19 t20 e20 t21 e21 t22 e22 t23 e23 t24 e24 t25 e25;rw [uD cs n.toNat 2,uD cs n.toNat 4,uD xs i.toNat 4,uD xs i.toNat 6] at e1 e3;have ui:t22:=by rw [e22]; exact hn
 have p23:t23:=by rw [e23]; exact hi
 have ea:t10*18446744073709551616+t11=fr (cs.getD n.toNat []) 2:=by rw [e10,e11]; rfl
 have eb:t12*18446744073709551616+t13=fr (cs.getD n.toNat []) 4:=by rw [e12,e13]; rfl
 have ec:t14*18446744073709551616+t15=fr (xs.getD i.toNat []) 4:=by rw [e14,e15]; rfl
 have ed:t16*18446744073709551616+t17=fr (xs.getD i.toNat []) 6:=by rw [e16,e17]; rfl
 have ew:t18*18446744073709551616+t19=fr (cs.getD n.toNat []) 6:=by rw [e18,e19]; rfl
 have eh:t20*18446744073709551616+t21=fr z 7:=by rw [e20,e21]; rfl
 rw [ea,eb,ec,ed] at e25;rw [ew] at e24;change j8=aep (az (fr z 7) j6) at e7;rw [eh];change t25=e2 (E3 xs cs n.toNat i.toNat) (E2 xs cs n.toNat i.toNat) at e25;refine ⟨ui,ui,p23,p23,?_,?_⟩
 ·rw [nv (by rw [e11]; exact Ju hok _ 3 (by decide) rfl) (by rw [e13]; exact Ju hok _ 5 (by decide) rfl),nv (by rw [e15]; exact cH okr _ 5 (by decide) rfl) (by rw [e17]; exact cH okr _ 7 (by decide) rfl),ea,eb,ec,ed]
  exact en c2 c4 m4 m6
 rw [ah];refine ⟨fun hne=>?_,fun he=>⟨⟨_,_,rfl,rfl,by rw [e1]; exact mP _ _,by rw [e3]; exact mO _ _⟩,?_⟩⟩
 ·have h1:E4 z xs cs n.toNat i.toNat=false:=by unfold E4; exact oT (by rintro ⟨h,_⟩; rw [e25] at hne; exact hne h)
  have h2:yE z xs cs n.toNat i.toNat=t25:=by unfold yE; rw [bI,if_pos (by rw [← e25]; exact hne),e25]
  rw [h1,h2] at hK';exact hK'
 have he':=kj.1 (by rw [← e25]; exact he)
 have ex:j2=E3 xs cs n.toNat i.toNat:=e1.trans (nE _ he'.1 he'.2);have ey:j4=E2 xs cs n.toNat i.toNat:=e3.trans (nE _ he'.1 he'.2);rw [ex,ey] at e5 e9;change t9=VQ xs cs n.toNat i.toNat at e9;have e7':j8=aep (UX z xs cs n.toNat i.toNat):=by rw [e7,e5]; rfl
 rw [ah];refine ⟨fun hne=>?_,fun he2=>⟨⟨fr z 7,j6,?_,rfl,hz.2,by rw [e5]; exact Cp _ _⟩,ui,ui,?_,?_⟩⟩
 ·have h1:E4 z xs cs n.toNat i.toNat=false:=by unfold E4; exact oT (by rintro ⟨_,h,_⟩; rw [e9] at hne; exact hne h)
  have h2:yE z xs cs n.toNat i.toNat=t9:=by unfold yE; rw [bI,if_neg (by rw [← e25]; simpa using he),if_pos (by rw [← e9]; exact hne),e9]
  rw [h1,h2] at hK';exact hK'
 ·rw [ae6 (by rw [e21]; exact V8 hz.1.1 8 (by decide) rfl) eh.symm]
 ·have hm:=dI (UX z xs cs n.toNat i.toNat);rw [← e7'] at hm;unfold ag at hm;refine ⟨rfl,rfl,⟨by rw [e18]; exact hiC hok _ 6 (by decide) rfl,by rw [e19]; exact Ju hok _ 7 (by decide) rfl⟩,?_,?_⟩
  ·show bn (j8 / 18446744073709551616);unfold bn; omega
  ·show aj (j8 % 18446744073709551616);unfold aj; omega
 ·have h1:E4 z xs cs n.toNat i.toNat=decide (t24<=0):=by
   unfold E4;rw [e24];rw [Bool.eq_iff_iff,xq,decide_eq_true_eq,nq,e7'];exact ⟨fun h=>h.2.2,fun h=>⟨by rw [← e25]; exact he,by rw [← e9]; exact he2,h⟩⟩
  have h2:yE z xs cs n.toNat i.toNat=bG (az (fr z 7) j6):=by
   unfold yE;rw [bI,if_neg (by rw [← e25]; simpa using he),if_neg (by rw [← e9]; simpa using he2),e5]
   rfl
  rw [h1,h2] at hK';exact hK'
end
def VJ (b:OB) (k:Nat):L1:=[bl b k 0,bl b k 1,bl b k 2,bl b k 3,bl b k 4,bl b k 5,bl b k 6,bl b k 7,bl b k 8,bl b k 9,bl b k 10,bl b k 11,bl b k 12,bl b k 13,bl b k 14,bl b k 15,bl b k 16,bl b k 17,bl b k 18,bl b k 19]
def Db (z:L1) (h:Int) (r:L1) (m ax ay px py:Int):Int:=ua (if uA z h r m ax ay≠0 then uA z h r m ax ay else e2 (px+sn z h r m ax ay) (py+sm z h r m ax ay))
def Da (z:L1) (h:Int) (r:L1) (m ax ay px py:Int):Int:=ua (if uA z h r m ax ay≠0 then px else n2 (px+sn z h r m ax ay) (py+sm z h r m ax ay) (px+sn z h r m ax ay))
def C9 (z:L1) (h:Int) (r:L1) (m ax ay px py:Int):Int:=ua (if uA z h r m ax ay≠0 then py else n2 (px+sn z h r m ax ay) (py+sm z h r m ax ay) (py+sm z h r m ax ay))
def qT (r:L1):List IV:=bN aM [r] 0 0 20
def rX (z r:L1) (h px py:Int) (xs ts rs us es ks ns cs:L2):OB:=[some (.var 79 (qT r)),some (.var 110 [.ptr 4 0]),some (.var 25 (fx h).cells),some (.var 31 (vx px py).cells),some (.var 149 (kA z 5 6 7 8 9 10 11 12))]++y0 xs ts rs us es ks ns cs
def McQ (a:L1):Int:=Maf a 4
def McR (a:L1):Int:=Maf a 5
def McS (a:L1):Int:=Maf a 6
def McW (a:L1):Int:=Maf a 3
def MhP (a b:L1):Int:=Mba (Ma8 a 0) (Ma8 b 1)
def Mki (a b c:Int)(d:List IV)(e f g h i j k l:L2):OB:=MbN 110 (MbP 4) 25 a a 31 (Mbn b b c c []) 149 d (Mbb e f g h i j k l [])
theorem Tf (z r:L1) (h m ax ay px py:Int) (xs ts rs us es ks ns cs:L2) (K:IV->OB->Prop):(bQ TP { Γ:=gj,Λ:=fun _ _=>none,Τ:=fun _=>none } 3 cz [fx m,vx ax ay,.ptr 0 0,.ptr 1 0,.ptr 2 0,.ptr 3 0] (rX z r h px py xs ts rs us es ks ns cs) fun v b1=>ld 13 v b1 K) =(∀a,Maz a ax (∀b,Maz b ay (∀c,Maz c m (∀d,Maz d h (∀e,Maz e px (∀f,Maz f py (∀g,Mjq g (Mdq a (Ma8 r 4) (Ma8 r 5)) (Mdq b (Ma8 r 6) (Ma8 r 7)) (∀i,Maz i g (∀j,Mjr j (Mdq a (Ma8 r 4) (Ma8 r 5)) (Mdq b (Ma8 r 6) (Ma8 r 7)) (∀k,Maz k j (∀l,Maz l (BT (Mba (McW z) (McQ z)) (MhP r r) c i k (Mba (McR z) (McS z)) d) (∀n,Maz n l (∀o,Maz o (BS (Mba (McW z) (McQ z)) (MhP r r) c i k (Mba (McR z) (McS z)) d) (∀p,Maz p o (∀q,MeH q z (∀s,Me9 s z (∀t,Mfa t z (∀u,Mfb u z (∀v,Mbo v r 4 (∀w,Mbo w r 5 (∀x,Mbo x r 6 (∀y,Mbo y r 7 (∀a1,Mbo a1 r 0 (∀b1,Mbo b1 r 1 (∀c1,Mjq c1 (e+n) (f+p) (∀d1,Mjr d1 (e+n) (f+p) (∀e1,Mgk e1 (Mdq a v w) (Mdq b x y) (∀f1,Maz f1 (BU (Mba q s) (Mba a1 b1) c i k (Mba t u) d) (Mfv (MfT ax ay (MdC v w x y [])) e1 (K (Maa e1) (MaE 79 (Mff a1 b1 (Ma8 r 2) (Ma8 r 3) v w x y (Ma8 r 8) (Ma8 r 9) r 10 r r r r 14 r 15 r r r r []) (Mki h px py (kA z 5 6 7 8 9 10 11 12) xs ts rs us es ks ns cs))) (Ci (Mb2 q s (Mb2 a1 b1 (Mbl m (Mdc g j (Meu t u h))))) []) f1 (K (Maa f1) (MaE 79 (Mff a1 b1 (Ma8 r 2) (Ma8 r 3) v w x y (Ma8 r 8) (Ma8 r 9) r 10 r r r r 14 r 15 r r r r []) (Mki h px py (kA z 5 6 7 8 9 10 11 12) xs ts rs us es ks ns cs))) (MfT px py (Mdc l o [])/\K (Maa (e2 (e+n) (f+p))) (MaE 79 (Mff a1 b1 (Ma8 r 2) (Ma8 r 3) v w x y (Ma8 r 8) (Ma8 r 9) r 10 r r r r 14 r 15 r r r r []) (Mki h c1 d1 (kA z 5 6 7 8 9 10 11 12) xs ts rs us es ks ns cs)))))))))))))))))))))))))))))))) :=by delta Maa Mab Mac Mad Mae Maf Mag Mai Maj Mak Mal Mam Map Maq Mat Mav Maz MaD MaE MaL MaM MaO MaW MaZ Ma3 Ma8 Ma9 Mba Mbb Mbl Mbn Mbo MbE MbN MbP Mb2 Mcv McQ McR McS McW Mdc Mdq Mdv MdC Meu MeH Me9 Mfa Mfb Mff Mfv MfT Mgk MhP Mjq Mjr Mki; (iterate 6 refine nj ?_); refine nm ?_; refine nj ?_; refine nm ?_; refine nj ?_; refine nm ?_; refine nj ?_; refine nm ?_; refine nj ?_; (iterate 14 refine nm ?_); kernel_rfl
def T6 (args:List IV) (b:OB):Prop:=∃z r h m ax ay px py xs ts rs us es ks ns cs,args=[fx m,vx ax ay,.ptr 0 0,.ptr 1 0,.ptr 2 0,.ptr 3 0]/\b=rX z r h px py xs ts rs us es ks ns cs/\Cg z/\lC r/\ag h/\ag m/\(ag ax/\ag ay)/\(ag px/\ag py)
def S3 (args:List IV) (b:OB):Int:=Db (VI b 4) (bl b 2 0*18446744073709551616+bl b 2 1) (VJ b 0) (v2 args 0) (v2 args 1) (vy args 1) (bl b 3 0*18446744073709551616+bl b 3 1) (bl b 3 2*18446744073709551616+bl b 3 3)
def S2 (args:List IV) (b:OB):Int:=Da (VI b 4) (bl b 2 0*18446744073709551616+bl b 2 1) (VJ b 0) (v2 args 0) (v2 args 1) (vy args 1) (bl b 3 0*18446744073709551616+bl b 3 1) (bl b 3 2*18446744073709551616+bl b 3 3)
def S1 (args:List IV) (b:OB):Int:=C9 (VI b 4) (bl b 2 0*18446744073709551616+bl b 2 1) (VJ b 0) (v2 args 0) (v2 args 1) (vy args 1) (bl b 3 0*18446744073709551616+bl b 3 1) (bl b 3 2*18446744073709551616+bl b 3 3)
def YK:eG:=fun args b K=>T6 args b/\K (.int .i64 (S3 args b)) (b.set 3 (some (.var 31 (vx (S2 args b) (S1 args b)).cells)))
section
open Go.IntWalk
theorem SY (b:OB) (k:Nat) (r:L1) (h:r.length=20) (hl:look b k=some (.var 79 (qT r))):VJ b k=r:=by
 have q:∀ j,bl b k j=bl [some (.var 79 (qT r))] 0 j:=by intro j; unfold bl; rw [hl]; rfl
 unfold VJ;simp only [q];exact Es h
theorem kS (x:Int):x / 18446744073709551616*18446744073709551616+x % 18446744073709551616=x:=by omega
theorem Pj {z r:L1} {h m ax ay px py:Int} {xs ts rs us es ks ns cs:L2} (hz:z.length=19) (hr:r.length=20):
  S3 [fx m,vx ax ay,.ptr 0 0,.ptr 1 0,.ptr 2 0,.ptr 3 0] (rX z r h px py xs ts rs us es ks ns cs)=Db z h r m ax ay px py/\
  S2 [fx m,vx ax ay,.ptr 0 0,.ptr 1 0,.ptr 2 0,.ptr 3 0] (rX z r h px py xs ts rs us es ks ns cs)=Da z h r m ax ay px py/\
  S1 [fx m,vx ax ay,.ptr 0 0,.ptr 1 0,.ptr 2 0,.ptr 3 0] (rX z r h px py xs ts rs us es ks ns cs)=C9 z h r m ax ay px py:=by
 have e1:VI (rX z r h px py xs ts rs us es ks ns cs) 4=z:=SX _ 4 z 5 6 7 8 9 10 11 12 hz rfl;have e2:VJ (rX z r h px py xs ts rs us es ks ns cs) 0=r:=SY _ 0 r hr rfl;have e3:bl (rX z r h px py xs ts rs us es ks ns cs) 2 0*18446744073709551616+bl (rX z r h px py xs ts rs us es ks ns cs) 2 1=h:=kS h;have e4:bl (rX z r h px py xs ts rs us es ks ns cs) 3 0*18446744073709551616+bl (rX z r h px py xs ts rs us es ks ns cs) 3 1=px:=kS px;have e5:bl (rX z r h px py xs ts rs us es ks ns cs) 3 2*18446744073709551616+bl (rX z r h px py xs ts rs us es ks ns cs) 3 3=py:=kS py;unfold S3 S2 S1;rw [e1,e2,e3,e4,e5,bc _ m 0 rfl,(aeY _ ax ay 1 rfl).1,(aeY _ ax ay 1 rfl).2];exact ⟨rfl,rfl,rfl⟩
theorem ta (r:L1) (j:Nat):rd [r] 0 j*18446744073709551616+rd [r] 0 (j+1)=fr r j:=rfl
theorem L6:cf TP cz YK:=by
 refine cL (N:={ Γ:=gj,Λ:=fun _ _=>none,Τ:=fun _=>none }) 3 Al ?_
 rintro args b K ⟨⟨z,r,h,m,ax,ay,px,py,xs,ts,rs,us,es,ks,ns,cs,rfl,rfl,⟨hz,hg3,hg5⟩,⟨hr,hb,m0,m4,m6,m8,m10⟩,hh,hm,⟨hax,hay⟩,hpx,hpy⟩,hK⟩;show bQ _ _ _ _ _ _ fun v b1=>ld 13 v b1 K
 obtain ⟨eE,eX,eY⟩:=Pj (z:=z) (r:=r) (h:=h) (m:=m) (ax:=ax) (ay:=ay) (px:=px) (py:=py) (xs:=xs) (ts:=ts) (rs:=rs) (us:=us) (es:=es) (ks:=ks) (ns:=ns) (cs:=cs) hz.1 hr;rw [eE,eX,eY] at hK;have hK':K (.int .i64 (Db z h r m ax ay px py)) (rX z r h (Da z h r m ax ay px py) (C9 z h r m ax ay px py) xs ts rs us es ks ns cs):=hK;clear hK eE eX eY;rw [Tf]; delta Maa Mab Mac Mad Mae Maf Mag Mai Maj Mak Mal Mam Map Maq Mat Mav Maz MaD MaE MaL MaM MaO MaW MaZ Ma3 Ma8 Ma9 Mba Mbb Mbl Mbn Mbo MbE MbN MbP Mb2 Mcv McQ McR McS McW Mdc Mdq Mdv MdC Meu MeH Me9 Mfa Mfb Mff Mfv MfT Mgk MhP Mjq Mjr Mki;rintro j1 rfl j2 rfl j3 rfl j4 rfl j5 rfl j6 rfl t7 e7 j8 rfl t9 e9 j10 rfl t11 e11 j12 rfl t13 e13 j14 rfl t15 rfl t16 rfl t17 rfl t18 rfl t19 rfl t20 rfl t21 rfl t22 rfl t23 rfl t24 rfl t25 e25 t26 e26 t27 e27 t28 e28;rw [ta r 4,ta r 6] at e7 e9 e27;rw [ta r 0] at e11 e13 e28;change j12=BT (fr z 3) (fr r 0) j3 j8 j10 (fr z 5) j4 at e11;change j14=BS (fr z 3) (fr r 0) j3 j8 j10 (fr z 5) j4 at e13;change t28=BU (fr z 3) (fr r 0) j3 j8 j10 (fr z 5) j4 at e28;have lo:∀ j,j < 20->aM.getD j .i64=.u64->aj (rd [r] 0 j):=fun j hj hk=>lG hb j hj hk
 refine ⟨?_,?_⟩
 ·rw [nv (lo 5 (by decide) rfl) (lo 7 (by decide) rfl),ta r 4,ta r 6]
  exact en hax hay m4 m6
 rw [ah];refine ⟨fun hne=>?_,fun he=>⟨?_,?_⟩⟩
 ·have hv:uA z j4 r j3 j1 j2=t27:=by unfold uA; rw [if_pos (by rw [← e27]; exact hne),e27]
  unfold Db Da C9 at hK';rw [bI,bI,bI,hv,if_pos hne,if_pos hne,if_pos hne] at hK';exact hK'
 ·have he':=kj.1 (by rw [← e27]; exact he)
  rw [show IV.agg [.int .i64 (z.getD 3 0),.int .u64 (z.getD 4 0)]=fx (fr z 3) from EY hz 3 (by decide) rfl,show IV.agg [.int .i64 (z.getD 5 0),.int .u64 (z.getD 6 0)]=fx (fr z 5) from EY hz 5 (by decide) rfl,
   show IV.agg [.int .i64 (rd [r] 0 0),.int .u64 (rd [r] 0 1)]=fx (fr r 0) from (ae6 (lo 1 (by decide) rfl) (ta r 0).symm).symm]
  exact ⟨_,_,_,_,_,_,_,rfl,rfl,hg3,m0,hm,⟨by rw [e7]; exact mP _ _,by rw [e9]; exact mO _ _⟩,hg5,hh⟩
 have he':=kj.1 (by rw [← e27]; exact he)
 have f7:j8=j1 - fr r 4:=e7.trans (nE _ he'.1 he'.2);have f9:j10=j2 - fr r 6:=e9.trans (nE _ he'.1 he'.2);have hz0:¬ e2 (j1 - fr r 4) (j2 - fr r 6)≠0:=fun hh=>hh (by rw [← e27]; exact he)
 have gE:uA z j4 r j3 j1 j2=t28:=by unfold uA; rw [if_neg hz0,e28,f7,f9]
 have gX:sn z j4 r j3 j1 j2=j12:=by unfold sn; rw [if_neg hz0,e11,f7,f9]
 have gY:sm z j4 r j3 j1 j2=j14:=by unfold sm; rw [if_neg hz0,e13,f7,f9]
 unfold Db Da C9 at hK';rw [bI,bI,bI,gE,gX,gY] at hK';rw [ah];refine ⟨fun hne=>?_,fun he2=>⟨?_,?_⟩⟩
 ·rw [if_pos hne,if_pos hne,if_pos hne] at hK';exact hK'
 ·exact en hpx hpy (by rw [e11]; exact (s8 _ _ _ _ _ _ _).1) (by rw [e13]; exact (s8 _ _ _ _ _ _ _).2)
 ·rw [if_neg (by simpa using he2),if_neg (by simpa using he2),if_neg (by simpa using he2),← e25,← e26] at hK'
  exact hK'
end
def PD (z r:L1) (h px py:Int) (xs ts rs us es ks ns cs:L2):OB:=[some (.var 165 [.fn cz [.ptr 2 0,.ptr 1 0,.ptr 3 0,.ptr 4 0]]),some (.var 110 [.ptr 5 0]),some (.var 79 (qT r)),some (.var 25 (fx h).cells),some (.var 31 (vx px py).cells),some (.var 149 (kA z 6 7 8 9 10 11 12 13))]++y0 xs ts rs us es ks ns cs
def Jy:FuncId->Option eG:=fun g=>if g=cz then some YK else none
def Mbm (a b:Nat)(c:List IV):List IV:=Mam a::Mam b::c
def MdE (a b c d e f g h i j k l m n o p q r s:Int):L1:=a::b::c::Mbj d e f g h i j k l m n o p q r s []
abbrev Mes (a:Int)(b:L1)(c:Prop):Prop:=MaL a b 11 c
abbrev MeJ (a:Int)(b:L1)(c:Prop):Prop:=MaL a b 10 c
abbrev MeK (a:Int)(b:L1)(c:Prop):Prop:=MaL a b 12 c
abbrev MeL (a:Int)(b:L1)(c:Prop):Prop:=MaL a b 13 c
abbrev MeM (a:Int)(b:L1)(c:Prop):Prop:=MaL a b 14 c
abbrev MeN (a:Int)(b:L1)(c:Prop):Prop:=MaL a b 15 c
abbrev MeO (a:Int)(b:L1)(c:Prop):Prop:=MaL a b 16 c
abbrev MeP (a:Int)(b:L1)(c:Prop):Prop:=MaL a b 17 c
abbrev MeQ (a:Int)(b:L1)(c:Prop):Prop:=MaL a b 18 c
abbrev MfW (a:Int)(b:L1)(c:Prop):Prop:=MaL a b 0 c
abbrev Mf9 (a:Int)(b:L1)(c:Prop):Prop:=MaL a b 1 c
abbrev Mga (a:Int)(b:L1)(c:Prop):Prop:=MaL a b 9 c
def Mjh (a:OB):OB:=Mav 165 [MaG 101 2 (Mam 1::Mbm 3 4 [])] 110 (MbP 5) a
theorem Tl (z r:L1) (h px py n:Int) (xs ts rs us es ks ns cs:L2) (K:IV->OB->Prop):(bQ TP { Γ:=gj,Λ:=fun _ _=>none,Τ:=Jy } 3 ado [.int .i64 n,.ptr 0 0,.ptr 1 0] (PD z r h px py xs ts rs us es ks ns cs) fun v b1=>ld 14 v b1 K) =(∀a,Maz a h (∀b,Maz b px (∀c,Maz c py (∀d,MdP d cs n (∀e,Md7 e cs n (∀f,Mg3 f cs n (∀g,Mg4 g cs n (∀i,Mfj i cs n (∀j,Mfk j cs n (∀k,MfW k z (∀l,Mf9 l z (∀m,MfC m z (∀o,MeH o z (∀p,Me9 p z (∀q,Mfa q z (∀s,Mfb s z (∀t,Mft t z (∀u,MfX u z (∀v,Mga v z (∀w,MeJ w z (∀x,Mes x z (∀y,MeK y z (∀a1,MeL a1 z (∀b1,MeM b1 z (∀c1,MeN c1 z (∀d1,MeO d1 z (∀e1,MeP e1 z (∀f1,MeQ f1 z (∀g1,Mbo g1 r 0 (∀i1,Mbo i1 r 1 (∀j1,Mbo j1 r 2 (∀k1,Mbo k1 r 3 (∀l1,Mbo l1 r 4 (∀m1,Mbo m1 r 5 (∀n1,Mbo n1 r 6 (∀o1,Mbo o1 r 7 (∀p1,Mbo p1 r 8 (∀q1,Mbo q1 r 9 (∀r1,Mbo r1 r 10 (∀s1,Mbo s1 r 11 (∀t1,Mbo t1 r 12 (∀u1,Mbo u1 r 13 (∀v1,Mbo v1 r 14 (∀w1,Mbo w1 r 15 (∀x1,Mbo x1 r 16 (∀y1,Mbo y1 r 17 (∀z1,Mbo z1 r 18 (∀a2,Mbo a2 r 19 (∀b2,Mi8 b2 n cs (∀c2,Mch c2 d e (∀d2,Mch d2 f g (∀e2,Mch e2 i j (∀f2,Maz f2 (Da (MdE k l m o p q s t u v w x y a1 b1 c1 d1 e1 f1) a (MaF g1 i1 j1 k1 (Mbj l1 m1 n1 o1 p1 q1 r1 s1 t1 u1 v1 w1 x1 y1 z1 a2 [])) c2 d2 e2 b c) (∀g2,Maz g2 (C9 (MdE k l m o p q s t u v w x y a1 b1 c1 d1 e1 f1) a (MaF g1 i1 j1 k1 (Mbj l1 m1 n1 o1 p1 q1 r1 s1 t1 u1 v1 w1 x1 y1 z1 a2 [])) c2 d2 e2 b c) (Mdm b2 b2 b2 b2 (T6 (Mb2 d e (MdC f g i j (Mbm 0 1 (Mbm 2 3 [])))) (MaE 79 (Mdv g1 i1 j1 k1 l1 m1 n1 o1 p1 q1 r1 s1 t1 u1 v1 w1 x1 y1 z1 a2 []) (Mki h px py (Ma4 k l m o p q s (Ma5 t u v w x y 5 6 7 8 a1 b1 c1 d1 e1 f1 (May 9 10 (May 11 12 [])))) xs ts rs us es ks ns cs))) (K (Maa (Db (MdE k l m o p q s t u v w x y a1 b1 c1 d1 e1 f1) a (MaF g1 i1 j1 k1 (Mbj l1 m1 n1 o1 p1 q1 r1 s1 t1 u1 v1 w1 x1 y1 z1 a2 [])) c2 d2 e2 b c)) (Mjh (MbN 79 (Mdv g1 i1 j1 k1 l1 m1 n1 o1 p1 q1 r1 s1 t1 u1 v1 w1 x1 y1 z1 a2 []) 25 h h 31 (Mbn f2 f2 g2 g2 []) 149 (Ma4 k l m o p q s (Ma5 t u v w x y 6 7 8 9 a1 b1 c1 d1 e1 f1 (May 10 11 (May 12 13 [])))) (Mbb xs ts rs us es ks ns cs []))))))))))))))))))))))))))))))))))))))))))))))))))))))))))) :=by delta Maa Mab Mac Mad Mae Maf Mag Mai Maj Mak Mal Mam Man Mao Map Maq Mas Mat Mav Max May Maz MaD MaE MaF MaG MaI MaL MaM MaO MaV MaW MaZ Ma1 Ma4 Ma5 Ma8 Ma9 Mba Mbb Mbj Mbm Mbn Mbo Mbp Mbw MbN MbP Mb2 Mch Mdm Mdv MdC MdE MdP Md7 Mes MeH MeJ MeK MeL MeM MeN MeO MeP MeQ Me9 Mfa Mfb Mfj Mfk Mft MfC MfW MfX Mf9 Mga Mg3 Mg4 Mi8 Mjh Mki; (iterate 3 refine nj ?_); (iterate 51 refine nm ?_); kernel_rfl
theorem OF (z r:L1) (h px py n:Int) (xs ts rs us es ks ns cs:L2) (K:IV->OB->Prop):(bQ TP { Γ:=gj,Λ:=fun _ _=>none,Τ:=Jy } 3 bZ [.int .i64 n,.ptr 0 0,.ptr 1 0] (PD z r h px py xs ts rs us es ks ns cs) fun v b1=>ld 14 v b1 K) =(∀a,Maz a h (∀b,Maz b px (∀c,Maz c py (∀d,MdP d xs n (∀e,Md7 e xs n (∀f,Mfj f xs n (∀g,Mfk g xs n (∀i,MfM i xs n (∀j,MfN j xs n (∀k,MfW k z (∀l,Mf9 l z (∀m,MfC m z (∀o,MeH o z (∀p,Me9 p z (∀q,Mfa q z (∀s,Mfb s z (∀t,Mft t z (∀u,MfX u z (∀v,Mga v z (∀w,MeJ w z (∀x,Mes x z (∀y,MeK y z (∀a1,MeL a1 z (∀b1,MeM b1 z (∀c1,MeN c1 z (∀d1,MeO d1 z (∀e1,MeP e1 z (∀f1,MeQ f1 z (∀g1,Mbo g1 r 0 (∀i1,Mbo i1 r 1 (∀j1,Mbo j1 r 2 (∀k1,Mbo k1 r 3 (∀l1,Mbo l1 r 4 (∀m1,Mbo m1 r 5 (∀n1,Mbo n1 r 6 (∀o1,Mbo o1 r 7 (∀p1,Mbo p1 r 8 (∀q1,Mbo q1 r 9 (∀r1,Mbo r1 r 10 (∀s1,Mbo s1 r 11 (∀t1,Mbo t1 r 12 (∀u1,Mbo u1 r 13 (∀v1,Mbo v1 r 14 (∀w1,Mbo w1 r 15 (∀x1,Mbo x1 r 16 (∀y1,Mbo y1 r 17 (∀z1,Mbo z1 r 18 (∀a2,Mbo a2 r 19 (∀b2,Mi8 b2 n xs (∀c2,Mch c2 d e (∀d2,Mch d2 f g (∀e2,Mch e2 i j (∀f2,Maz f2 (Da (MdE k l m o p q s t u v w x y a1 b1 c1 d1 e1 f1) a (MaF g1 i1 j1 k1 (Mbj l1 m1 n1 o1 p1 q1 r1 s1 t1 u1 v1 w1 x1 y1 z1 a2 [])) c2 d2 e2 b c) (∀g2,Maz g2 (C9 (MdE k l m o p q s t u v w x y a1 b1 c1 d1 e1 f1) a (MaF g1 i1 j1 k1 (Mbj l1 m1 n1 o1 p1 q1 r1 s1 t1 u1 v1 w1 x1 y1 z1 a2 [])) c2 d2 e2 b c) (Mdm b2 b2 b2 b2 (T6 (Mb2 d e (MdC f g i j (Mbm 0 1 (Mbm 2 3 [])))) (MaE 79 (Mdv g1 i1 j1 k1 l1 m1 n1 o1 p1 q1 r1 s1 t1 u1 v1 w1 x1 y1 z1 a2 []) (Mki h px py (Ma4 k l m o p q s (Ma5 t u v w x y 5 6 7 8 a1 b1 c1 d1 e1 f1 (May 9 10 (May 11 12 [])))) xs ts rs us es ks ns cs))) (K (Maa (Db (MdE k l m o p q s t u v w x y a1 b1 c1 d1 e1 f1) a (MaF g1 i1 j1 k1 (Mbj l1 m1 n1 o1 p1 q1 r1 s1 t1 u1 v1 w1 x1 y1 z1 a2 [])) c2 d2 e2 b c)) (Mjh (MbN 79 (Mdv g1 i1 j1 k1 l1 m1 n1 o1 p1 q1 r1 s1 t1 u1 v1 w1 x1 y1 z1 a2 []) 25 h h 31 (Mbn f2 f2 g2 g2 []) 149 (Ma4 k l m o p q s (Ma5 t u v w x y 6 7 8 9 a1 b1 c1 d1 e1 f1 (May 10 11 (May 12 13 [])))) (Mbb xs ts rs us es ks ns cs []))))))))))))))))))))))))))))))))))))))))))))))))))))))))))) :=by delta Maa Mab Mac Mad Mae Maf Mag Mai Maj Mak Mal Mam Man Mao Map Maq Mas Mat Mav Max May Maz MaD MaE MaF MaG MaI MaL MaM MaO MaV MaW MaZ Ma1 Ma4 Ma5 Ma8 Ma9 Mba Mbb Mbj Mbm Mbn Mbo Mbp Mbw MbN MbP Mb2 Mch Mdm Mdv MdC MdE MdP Md7 Mes MeH MeJ MeK MeL MeM MeN MeO MeP MeQ Me9 Mfa Mfb Mfj Mfk Mft MfC MfM MfN MfW MfX Mf9 Mga Mi8 Mjh Mki; (iterate 3 refine nj ?_); (iterate 51 refine nm ?_); kernel_rfl
def Dl (z r:L1) (h:Int) (xs cs:L2) (c px py:Int):Int:=if 0<=c then Db z h r (fr (cs.getD c.toNat []) 0) (fr (cs.getD c.toNat []) 2) (fr (cs.getD c.toNat []) 4) px py else Db z h r (fr (xs.getD (-1 - c).toNat []) 0) (fr (xs.getD (-1 - c).toNat []) 4) (fr (xs.getD (-1 - c).toNat []) 6) px py
def A5 (z r:L1) (h:Int) (xs cs:L2) (c px py:Int):Int:=if 0<=c then Da z h r (fr (cs.getD c.toNat []) 0) (fr (cs.getD c.toNat []) 2) (fr (cs.getD c.toNat []) 4) px py else Da z h r (fr (xs.getD (-1 - c).toNat []) 0) (fr (xs.getD (-1 - c).toNat []) 4) (fr (xs.getD (-1 - c).toNat []) 6) px py
def pR (z r:L1) (h:Int) (xs cs:L2) (c px py:Int):Int:=if 0<=c then C9 z h r (fr (cs.getD c.toNat []) 0) (fr (cs.getD c.toNat []) 2) (fr (cs.getD c.toNat []) 4) px py else C9 z h r (fr (xs.getD (-1 - c).toNat []) 0) (fr (xs.getD (-1 - c).toNat []) 4) (fr (xs.getD (-1 - c).toNat []) 6) px py
def Zf (z:L1) (xs cs:L2):Prop:=Ch z/\aY xs/\Uj cs/\aI fG cs
def T0 (m:Nat) (args:List IV) (b:OB) (z r:L1) (h px py n:Int) (xs ts rs us es ks ns cs:L2):Prop:=args=[.int .i64 n,.ptr 0 0,.ptr 1 0]/\b=PD z r h px py xs ts rs us es ks ns cs/\Zf z xs cs/\lC r/\ag h/\(ag px/\ag py)/\0<=n/\n < (if m=0 then cs.length else xs.length)
def Rx (m:Nat):eG:=fun args b K=>∃z r h px py n xs ts rs us es ks ns cs,T0 m args b z r h px py n xs ts rs us es ks ns cs/\K (.int .i64 (Dl z r h xs cs (if m=0 then n else -1 - n) px py)) (PD z r h (A5 z r h xs cs (if m=0 then n else -1 - n) px py) (pR z r h xs cs (if m=0 then n else -1 - n) px py) xs ts rs us es ks ns cs)
section
open Go.IntWalk
def zl (z:L1):L1:=[z.getD 0 0,z.getD 1 0,z.getD 2 0,z.getD 3 0,z.getD 4 0,z.getD 5 0,z.getD 6 0,z.getD 7 0,z.getD 8 0,z.getD 9 0,z.getD 10 0,z.getD 11 0,z.getD 12 0,z.getD 13 0,z.getD 14 0,z.getD 15 0,z.getD 16 0,z.getD 17 0,z.getD 18 0]
theorem lZ {z:L1} (h:z.length=19):zl z=z:=KI h
def rl (r:L1):L1:=[r.getD 0 0,r.getD 1 0,r.getD 2 0,r.getD 3 0,r.getD 4 0,r.getD 5 0,r.getD 6 0,r.getD 7 0,r.getD 8 0,r.getD 9 0,r.getD 10 0,r.getD 11 0,r.getD 12 0,r.getD 13 0,r.getD 14 0,r.getD 15 0,r.getD 16 0,r.getD 17 0,r.getD 18 0,r.getD 19 0]
theorem WK {r:L1} (h:r.length=20):rl r=r:=Es h
theorem xT {α:Type} (f:L1->L1->α) {z r:L1} (hz:z.length=19) (hr:r.length=20):f (zl z) (rl r)=f z r:=by rw [lZ hz,WK hr]
theorem GL:KnowOk TP { Γ:=gj,Λ:=fun _ _=>none,Τ:=Jy } 3:=⟨mixedOrders,fun g sp h=>np h,cO (fun _ _=>rfl) 3,iB L6 (fun _ _ h=>Ir h),fun f h=>(by cases h)⟩
theorem L8:cf TP ado (Rx 0):=by
 refine cL (N:={ Γ:=gj,Λ:=fun _ _=>none,Τ:=Jy }) 3 GL ?_
 rintro args b K ⟨z,r,h,px,py,n,xs,ts,rs,us,es,ks,ns,cs,⟨rfl,rfl,⟨hz,hg,hc,hok⟩,hr,hh,⟨hpx,hpy⟩,hn0,hn1⟩,hK'⟩;rw [if_pos rfl] at hK' hn1;have hnl:n.toNat < cs.length:=by omega
 obtain ⟨c0,c2,c4,c6⟩:=hc _ (getM hnl);unfold Dl A5 pR at hK';rw [if_pos hn0,if_pos hn0,if_pos hn0] at hK';show bQ _ _ _ _ _ _ fun v b1=>ld 14 v b1 K
 rw [Tl]; delta Maa Mab Mac Mad Mae Maf Mag Mai Maj Mak Mal Mam Man Mao Map Maq Mas Mat Mav Max May Maz MaD MaE MaF MaG MaI MaL MaM MaO MaV MaW MaZ Ma1 Ma4 Ma5 Ma8 Ma9 Mba Mbb Mbj Mbm Mbn Mbo Mbp Mbw MbN MbP Mb2 Mch Mdm Mdv MdC MdE MdP Md7 Mes MeH MeJ MeK MeL MeM MeN MeO MeP MeQ Me9 Mfa Mfb Mfj Mfk Mft MfC MfW MfX Mf9 Mga Mg3 Mg4 Mi8 Mjh Mki;rintro j1 rfl j2 rfl j3 rfl t4 rfl t5 rfl t6 rfl t7 rfl t8 rfl t9 rfl t10 rfl t11 rfl t12 rfl t13 rfl t14 rfl t15 rfl t16 rfl t17 rfl t18 rfl t19 rfl t20 rfl t21 rfl t22 rfl t23 rfl t24 rfl t25 rfl t26 rfl t27 rfl t28 rfl t29 rfl t30 rfl t31 rfl t32 rfl t33 rfl t34 rfl t35 rfl t36 rfl t37 rfl t38 rfl t39 rfl t40 rfl t41 rfl t42 rfl t43 rfl t44 rfl t45 rfl t46 rfl t47 rfl t48 rfl t49 e49 t50 rfl t51 rfl t52 rfl t53 e53 t54 e54;have p49:t49:=by rw [e49]; exact ⟨hn0,hn1⟩
 refine ⟨p49,p49,p49,p49,⟨z,r,_,fr (cs.getD n.toNat []) 0,fr (cs.getD n.toNat []) 2,fr (cs.getD n.toNat []) 4,_,_,xs,ts,rs,us,es,ks,ns,cs,?_,rfl,hz.1,hr,hh,c0,⟨c2,c4⟩,hpx,hpy⟩,?_⟩
 ·rw [show IV.agg [.int .i64 (rd cs n.toNat 0),.int .u64 (rd cs n.toNat 1)]=fx (fr (cs.getD n.toNat []) 0) from (ae6 (Ju hok n.toNat 1 (by decide) rfl) rfl).symm,nv (Ju hok n.toNat 3 (by decide) rfl) (Ju hok n.toNat 5 (by decide) rfl)]
  rfl
 ·rw [← xT (fun z r=>Db z j1 r (fr (cs.getD n.toNat []) 0) (fr (cs.getD n.toNat []) 2) (fr (cs.getD n.toNat []) 4) j2 j3) hz.1.1.1 hr.1,
   ← xT (fun z r=>Da z j1 r (fr (cs.getD n.toNat []) 0) (fr (cs.getD n.toNat []) 2) (fr (cs.getD n.toNat []) 4) j2 j3) hz.1.1.1 hr.1,
   ← xT (fun z r=>C9 z j1 r (fr (cs.getD n.toNat []) 0) (fr (cs.getD n.toNat []) 2) (fr (cs.getD n.toNat []) 4) j2 j3) hz.1.1.1 hr.1] at hK'
  rw [e53,e54];exact hK'
theorem IL:cf TP bZ (Rx 1):=by
 refine cL (N:={ Γ:=gj,Λ:=fun _ _=>none,Τ:=Jy }) 3 GL ?_
 rintro args b K ⟨z,r,h,px,py,n,xs,ts,rs,us,es,ks,ns,cs,⟨rfl,rfl,⟨hz,hg,hc,hok⟩,hr,hh,⟨hpx,hpy⟩,hn0,hn1⟩,hK'⟩;rw [if_neg (by decide)] at hK' hn1
 have hnl:n.toNat < xs.length:=by omega
 obtain ⟨_,_,c0,c2,c4,_,_⟩:=hg _ (getM hnl);have okr:aI aM xs:=fun r hr=>(hg r hr).2.1
 unfold Dl A5 pR at hK';rw [if_neg (by omega),if_neg (by omega),if_neg (by omega),show (-1 - (-1 - n)).toNat=n.toNat by omega] at hK'
 show bQ _ _ _ _ _ _ fun v b1=>ld 14 v b1 K
 rw [OF]; delta Maa Mab Mac Mad Mae Maf Mag Mai Maj Mak Mal Mam Man Mao Map Maq Mas Mat Mav Max May Maz MaD MaE MaF MaG MaI MaL MaM MaO MaV MaW MaZ Ma1 Ma4 Ma5 Ma8 Ma9 Mba Mbb Mbj Mbm Mbn Mbo Mbp Mbw MbN MbP Mb2 Mch Mdm Mdv MdC MdE MdP Md7 Mes MeH MeJ MeK MeL MeM MeN MeO MeP MeQ Me9 Mfa Mfb Mfj Mfk Mft MfC MfM MfN MfW MfX Mf9 Mga Mi8 Mjh Mki;rintro j1 rfl j2 rfl j3 rfl t4 rfl t5 rfl t6 rfl t7 rfl t8 rfl t9 rfl t10 rfl t11 rfl t12 rfl t13 rfl t14 rfl t15 rfl t16 rfl t17 rfl t18 rfl t19 rfl t20 rfl t21 rfl t22 rfl t23 rfl t24 rfl t25 rfl t26 rfl t27 rfl t28 rfl t29 rfl t30 rfl t31 rfl t32 rfl t33 rfl t34 rfl t35 rfl t36 rfl t37 rfl t38 rfl t39 rfl t40 rfl t41 rfl t42 rfl t43 rfl t44 rfl t45 rfl t46 rfl t47 rfl t48 rfl t49 e49 t50 rfl t51 rfl t52 rfl t53 e53 t54 e54;have p49:t49:=by rw [e49]; exact ⟨hn0,hn1⟩
 refine ⟨p49,p49,p49,p49,⟨z,r,_,fr (xs.getD n.toNat []) 0,fr (xs.getD n.toNat []) 4,fr (xs.getD n.toNat []) 6,_,_,xs,ts,rs,us,es,ks,ns,cs,?_,rfl,hz.1,hr,hh,c0,⟨c2,c4⟩,hpx,hpy⟩,?_⟩
 ·rw [show IV.agg [.int .i64 (rd xs n.toNat 0),.int .u64 (rd xs n.toNat 1)]=fx (fr (xs.getD n.toNat []) 0) from (ae6 (cH okr n.toNat 1 (by decide) rfl) rfl).symm,nv (cH okr n.toNat 5 (by decide) rfl) (cH okr n.toNat 7 (by decide) rfl)]
  rfl
 ·rw [← xT (fun z r=>Db z j1 r (fr (xs.getD n.toNat []) 0) (fr (xs.getD n.toNat []) 4) (fr (xs.getD n.toNat []) 6) j2 j3) hz.1.1.1 hr.1,
   ← xT (fun z r=>Da z j1 r (fr (xs.getD n.toNat []) 0) (fr (xs.getD n.toNat []) 4) (fr (xs.getD n.toNat []) 6) j2 j3) hz.1.1.1 hr.1,
   ← xT (fun z r=>C9 z j1 r (fr (xs.getD n.toNat []) 0) (fr (xs.getD n.toNat []) 4) (fr (xs.getD n.toNat []) 6) j2 j3) hz.1.1.1 hr.1] at hK'
  rw [e53,e54];exact hK'
end
def rY (z r:L1) (h px py:Int) (xs ts rs us es ks ns cs:L2):OB:=[some (.var 149 (kA z 3 4 5 6 7 8 9 10)),some (.var 165 [.fn cz [.ptr 11 0,.ptr 2 0,.ptr 12 0,.ptr 13 0]]),some (.var 110 [.ptr 0 0])]++y0 xs ts rs us es ks ns cs++[some (.var 79 (qT r)),some (.var 25 (fx h).cells),some (.var 31 (vx px py).cells)]
def Oq:IV:=.agg [.fn ado [.ptr 1 0,.ptr 2 0],.fn bZ [.ptr 1 0,.ptr 2 0]]
def Jw:FuncId->Option eG:=fun g=>if g=ado then some (Rx 0) else if g=bZ then some (Rx 1) else none
def Zq (z r:L1) (h px py:Int) (xs ts rs us es ks ns cs ys:L2) (i j:Int):St:=⟨T 39 [(2,.int .i64 i),(7,.ptr 14 0),(20,.sl 15),(21,.int .i64 ys.length),(22,.int .i64 j)],rY z r h px py xs ts rs us es ks ns cs++[some (.var 116 [.fn ado [.ptr 1 0,.ptr 2 0],.fn bZ [.ptr 1 0,.ptr 2 0]]),some (.ro [.u64,.i64] ys)]⟩
def Mb6 (a b c d e f:L2)(g:OB):OB:=Mak jt a ie b (Mak MaO c dE d (Mak MaW e kQ f g))
def McY (a b c d:Nat)(e:List IV):List IV:=MaG 105 a (MbP b)::MaG 106 c (MbP d)::e
def Mgd (a:L1)(b c d e f g h i j k l m:Nat)(n o:List IV)(p:Nat)(q r s t u v w x:L2)(y:Nat)(z:List IV)(a1 b1:Int)(c1:Nat)(d1 e1 f1 g1:Int)(h1:List IV)(i1:OB):OB:=Mav 149 (kA a b c d e f g h i) 165 (MaG 101 j (Mam k::Mbm l m n)::o) (Maq 110 (MbP p) (.ro aM q) (Mb6 r s t u v w (Mcy fG x y z 25 (Ma9 a1 b1 []) c1 (Mbn d1 e1 f1 g1 h1) i1)))
def Mhm (a:Nat)(b:List IV)(c:L2):OB:=Maq a b (.ro MaW c) []
def Mh7 (a:Nat)(b:Int)(c d e f g:Nat)(h:L2)(i:Nat)(j:Int)(k:OB):St:=Mcw 39 a b (Mh6 c d e f g h i j) k
def MjK (a:L1)(b c d e f g h i:L2)(j:List IV)(k l m:Int):OB:=Mgd a 3 4 5 6 7 8 9 10 11 2 12 13 [] [] 0 b c d e f g h i 79 j k k 31 l l m m [] []
theorem rLf (Λ:FuncId->Nat->Option aB) (d:Nat) (z r:L1) (h px py:Int) (xs ts rs us es ks ns cs ys:L2) (i j:Int) (k:Out->St->Prop):(round (ai TP { Γ:=gj,Λ:=Λ,Τ:=Jw } d) bK 14 0 (lp TP bK 0) (Zq z r h px py xs ts rs us es ks ns cs ys i j) k) =(∀a,Md7 a ys j (∀b,Mjo b j ys (Mi3 b (Mci a i (k .normal (Mh7 2 i 7 14 20 15 21 ys 22 j (Mgd z 3 4 5 6 7 8 9 10 11 2 12 13 [] [] 0 xs ts rs us es ks ns cs 79 (MjR (Ma8 r 0) (Ma8 r 1) r) h h 31 px px py py [] (Mhm 116 (McY 1 2 1 2 []) ys)))) (∃c:L1,∃e:L1,∃f:Int,∃g:Int,∃l:Int,∃m:Int,∃n:L2,∃o:L2,∃p:L2,∃q:L2,∃s:L2,∃t:L2,∃u:L2,∃v:L2,Mcv (T0 1 (Mai a (Mbm 0 1 [])) (Mjh (MbN 79 (MjR (Ma8 r 0) (Ma8 r 1) r) 25 h h 31 (Mbn px px py py []) 149 (kA z 6 7 8 9 10 11 12 13) (Mbb xs ts rs us es ks ns cs []))) c e f g l m n o p q s t u v) (Dl c e f n v (Mbk - m) g l) (k .ret (Mcw 39 8 (Dl c e f n v (Mbk - m) g l) [] (MjK c n o p q s t u v (MjR (Ma8 e 0) (Ma8 e 1) e) f (A5 c e f n v (Mbk - m) g l) (pR c e f n v (Mbk - m) g l)))) (k .normal (Mh7 2 i 7 14 20 15 21 ys 22 j (Mgd c 3 4 5 6 7 8 9 10 11 2 12 13 [] [] 0 n o p q s t u v 79 (MjR (Ma8 e 0) (Ma8 e 1) e) f f 31 (A5 c e f n v (Mbk - m) g l) (A5 c e f n v (Mbk - m) g l) (pR c e f n v (Mbk - m) g l) (pR c e f n v (Mbk - m) g l) [] (Mhm 116 (McY 1 2 1 2 []) ys))))))) (k MbT (MaH 39 [] (MjK z xs ts rs us es ks ns cs (MjR (Ma8 r 0) (Ma8 r 1) r) h px py))))) :=by delta Maa Mab Mac Mad Mae Mag Mah Mai Maj Mak Mal Mam Man Map Maq Mar Mas Mav Max Maz MaA MaC MaG MaH MaM MaO MaV MaW MaZ Ma1 Ma3 Ma8 Ma9 Mbb Mbe Mbk Mbm Mbn Mbp Mbw MbC MbF MbM MbN MbP MbT MbV Mb6 Mcg Mci Mcr Mcv Mcw Mcy McY Mdr Mdv Md7 Mff Mgd Mhm Mh6 Mh7 Mi3 Mjh Mjo MjK MjR; refine nm ?_; refine nm ?_; kernel_rfl
def pN (z r:L1) (h:Int) (xs cs:L2):Int->Int × Int->(Int × Int) × Int:=fun c s=>((A5 z r h xs cs c s.1 s.2,pR z r h xs cs c s.1 s.2),Dl z r h xs cs c s.1 s.2)
def Xw (z r:L1) (h:Int) (xs cs ys:L2) (i px py:Int):(Int × Int) × Int:=dF (dw (pN z r h xs cs) i) ys (px,py)
def PV (z r:L1) (h:Int) (xs cs ys:L2) (i px py:Int):Int:=(Xw z r h xs cs ys i px py).2
def PU (z r:L1) (h:Int) (xs cs ys:L2) (i px py:Int):Int:=(Xw z r h xs cs ys i px py).1.1
def PT (z r:L1) (h:Int) (xs cs ys:L2) (i px py:Int):Int:=(Xw z r h xs cs ys i px py).1.2
def kOk (z r:L1) (h px py:Int) (xs ks cs:L2):Prop:=Zf z xs cs/\lC r/\ag h/\(ag px/\ag py)/\oB xs.length ks/\ks.length<=1000000
def pLf (n0:Nat) (st:St) (z r:L1) (h px py:Int) (xs ts rs us es ks ns cs ys:L2) (i:Int):Prop:=kOk z r h px py xs ys cs/\n0=14/\st=Zq z r h px py xs ts rs us es ks ns cs ys i 0
def wS:aB:=fun n0 st K=>∃z r h px py xs ts rs us es ks ns cs ys i,pLf n0 st z r h px py xs ts rs us es ks ns cs ys i/\br (PV z r h xs cs ys i px py != 0) (K .ret ⟨T 39 [(8,.int .i64 (PV z r h xs cs ys i px py))],rY z r h (PU z r h xs cs ys i px py) (PT z r h xs cs ys i px py) xs ts rs us es ks ns cs⟩) (K (.exit 0) ⟨T 39 [],rY z r h (PU z r h xs cs ys i px py) (PT z r h xs cs ys i px py) xs ts rs us es ks ns cs⟩)
def ZD:Know:={ Γ:=gj,Λ:=fun f i=>if f=bK then (if i=0 then some wS else none) else none,Τ:=Jw }
theorem Tk (z r q:L1) (h px py:Int) (xs ts rs us es ks ns cs:L2) (i:Int) (K:IV->OB->Prop):(bQ TP ZD 3 bK [.ptr 0 0,Px q,.int .i64 i,Oq] (rY z r h px py xs ts rs us es ks ns cs) fun v b1=>ld 14 v b1 K) =(∀a,MfC a q (∀b,MeH b q (Mkm a b ks/\(∃c:L1,∃d:L1,∃e:Int,∃f:Int,∃g:Int,∃j:L2,∃k:L2,∃l:L2,∃m:L2,∃n:L2,∃o:L2,∃p:L2,∃s:L2,∃t:L2,∃u:Int,Mcv (pLf 14 (Mcw 39 2 i (MiT 7 14 20 15 21 (Md6 a b ks) 22) (Mgd z 3 4 5 6 7 8 9 10 11 2 12 13 [] [] 0 xs ts rs us es ks ns cs 79 (MjR (Ma8 r 0) (Ma8 r 1) r) h h 31 px px py py [] (Mhm 116 (McY 1 2 1 2 []) (Md6 a b ks)))) c d e f g j k l m n o p s t u) (PV c d e j s t u f g) (K (Maa (PV c d e j s t u f g)) (MjK c j k l m n o p s (MjR (Ma8 d 0) (Ma8 d 1) d) e (PU c d e j s t u f g) (PT c d e j s t u f g))) (K Mew (MjK c j k l m n o p s (MjR (Ma8 d 0) (Ma8 d 1) d) e (PU c d e j s t u f g) (PT c d e j s t u f g))))))) :=by delta Maa Mab Mac Mad Mae Maf Mag Mai Maj Mak Mal Mam Man Map Maq Mar Mav Max Maz MaA MaG MaH MaL MaM MaO MaW Ma3 Ma8 Ma9 Mbe Mbm Mbn MbM MbP MbV Mb6 Mcv Mcw Mcy McY Mdv Md6 Mew MeH Mff MfC Mf2 Mgd Mhm MiT MjK MjR Mkm; refine nm ?_; refine nm ?_; kernel_rfl
def afS (q:L1) (ks:L2):L2:=List.drop (q.getD 2 0).toNat (List.take (q.getD 3 0).toNat ks)
def Sh (args:List IV) (b:OB) (z r q:L1) (h px py:Int) (xs ts rs us es ks ns cs:L2) (i:Int):Prop:=args=[.ptr 0 0,Px q,.int .i64 i,Oq]/\b=rY z r h px py xs ts rs us es ks ns cs/\kOk z r h px py xs ks cs/\(0<=q.getD 2 0/\q.getD 2 0<=q.getD 3 0/\q.getD 3 0<=ks.length)
def Glf:eG:=fun args b K=>∃z r q h px py xs ts rs us es ks ns cs i,Sh args b z r q h px py xs ts rs us es ks ns cs i/\K (.int .i64 (PV z r h xs cs (afS q ks) i px py)) (rY z r h (PU z r h xs cs (afS q ks) i px py) (PT z r h xs cs (afS q ks) i px py) xs ts rs us es ks ns cs)
section
open Go.IntWalk
theorem GO {z r:L1} {h m ax ay px py:Int} (hx:ag px):ag (Da z h r m ax ay px py):=by
 unfold Da; rw [bI]; split
 ·exact hx
 ·exact mP _ _
theorem GN {z r:L1} {h m ax ay px py:Int} (hy:ag py):ag (C9 z h r m ax ay px py):=by
 unfold C9; rw [bI]; split
 ·exact hy
 ·exact mO _ _
theorem y5 {z r:L1} {h c px py:Int} {xs cs:L2} (hx:ag px):ag (A5 z r h xs cs c px py):=by
 unfold A5; split <;> exact GO hx
theorem y4 {z r:L1} {h c px py:Int} {xs cs:L2} (hy:ag py):ag (pR z r h xs cs c px py):=by
 unfold pR; split <;> exact GN hy
theorem L5:∀ g G,Jw g=some G->cf TP g G:=iB L8 (iB IL (fun _ _ h=>Ir h))
theorem wi {σ:Type} (f:L1->σ->σ × Int) {ys:L2} {j:Nat} (h:j < ys.length) (s:σ):dF f (ys.drop j) s=if (f ys[j] s).2≠0 then f ys[j] s else dF f (ys.drop (j+1)) (f ys[j] s).1:=by
 rw [List.drop_eq_getElem_cons h]; rfl
theorem lLf (d n0:Nat):aG (ai TP ZD d) bK n0 0 (lp TP bK 0) wS:=by
 intro st K hst;obtain ⟨z,r,h,px0,py0,xs,ts,rs,us,es,ks,ns,cs,ys,i,⟨⟨hw,hr,hh,⟨hpx0,hpy0⟩,hid,hl⟩,rfl,rfl⟩,hK⟩:=hst;rw [ah] at hK;refine aC (fun p:Nat × Int × Int=>Zq z r h p.2.1 p.2.2 xs ts rs us es ks ns cs ys i p.1) (fun p=>p.1<=ys.length/\ag p.2.1/\ag p.2.2/\dF (dw (pN z r h xs cs) i) (ys.drop p.1) (p.2.1,p.2.2)=Xw z r h xs cs ys i px0 py0) (fun p=>ys.length - p.1) ?_ (a:=(0,px0,py0)) ⟨Nat.zero_le _,hpx0,hpy0,rfl⟩
 rintro ⟨j,px,py⟩ ⟨hle,hpx,hpy,hR⟩ k hn hk;simp only at hle hpx hpy hR;show round (ai TP { Γ:=gj,Λ:=_,Τ:=Jw } d) _ _ _ _ (Zq z r h px py xs ts rs us es ks ns cs ys i j) k;rw [rLf]; delta Maa Mab Mac Mad Mae Mag Mah Mai Maj Mak Mal Mam Man Map Maq Mar Mas Mav Max Maz MaA MaC MaG MaH MaM MaO MaV MaW MaZ Ma1 Ma3 Ma8 Ma9 Mbb Mbe Mbk Mbm Mbn Mbp Mbw MbC MbF MbM MbN MbP MbT MbV Mb6 Mcg Mci Mcr Mcv Mcw Mcy McY Mdr Mdv Md7 Mff Mgd Mhm Mh6 Mh7 Mi3 Mjh Mjo MjK MjR;rw [show ((j:Nat):Int).toNat=j by omega]
 rintro t1 e1 t2 e2;rw [al];constructor
 ·intro hi;have hi':j < ys.length:=by omega
  have p2:t2:=by rw [e2]; omega
  have hidj:=hid _ (List.getElem_mem hi');have T1:t1=ys[j].getD 1 0:=by rw [e1]; exact BD hi'
  rw [← T1] at hidj;rw [wi _ hi'] at hR;rw [show IntKind.i64.wrap ((j:Int)+1)=((j+1:Nat):Int) by rw [i64_in _ (by omega)]; rfl]
  refine ⟨p2,p2,?_⟩;rw [dp];constructor
  ·intro he;have hf:dw (pN z r h xs cs) i ys[j] (px,py)=((px,py),0):=by unfold dw; rw [if_pos (by rw [← T1]; exact he)]
   rw [hf,if_neg (fun hh=>hh rfl)] at hR
   exact hn (j+1,px,py) ⟨hi',hpx,hpy,hR⟩ (by show ys.length - (j+1) < ys.length - j; omega)
  ·intro he;have hf:dw (pN z r h xs cs) i ys[j] (px,py)=((A5 z r h xs cs (-1 - t1) px py,pR z r h xs cs (-1 - t1) px py),Dl z r h xs cs (-1 - t1) px py):=by unfold dw; rw [if_neg (by rw [← T1]; exact he),← T1]; rfl
   rw [hf] at hR;refine ⟨z,r,h,px,py,t1,xs,ts,rs,us,es,ks,ns,cs,⟨rfl,rfl,hw,hr,hh,⟨hpx,hpy⟩,hidj.1,hidj.2⟩,?_⟩;rw [ah];constructor
   ·intro hne;rw [if_pos hne] at hR;have hE:PV z r h xs cs ys i px0 py0=Dl z r h xs cs (-1 - t1) px py:=(congrArg Prod.snd hR).symm;have hX:PU z r h xs cs ys i px0 py0=A5 z r h xs cs (-1 - t1) px py:=(congrArg (fun p=>p.1.1) hR).symm
    have hY:PT z r h xs cs ys i px0 py0=pR z r h xs cs (-1 - t1) px py:=(congrArg (fun p=>p.1.2) hR).symm
    rw [hE,hX,hY] at hK;exact hk _ _ (by simp) (hK.1 hne)
   ·intro h0;rw [if_neg (by simpa using h0)] at hR
    exact hn (j+1,A5 z r h xs cs (-1 - t1) px py,pR z r h xs cs (-1 - t1) px py) ⟨hi',y5 hpx,y4 hpy,hR⟩ (by show ys.length - (j+1) < ys.length - j; omega)
 ·intro hi;have:j=ys.length:=by omega
  subst this;rw [List.drop_length] at hR;have hE:PV z r h xs cs ys i px0 py0=0:=(congrArg Prod.snd hR).symm;have hX:PU z r h xs cs ys i px0 py0=px:=(congrArg (fun p=>p.1.1) hR).symm
  have hY:PT z r h xs cs ys i px0 py0=py:=(congrArg (fun p=>p.1.2) hR).symm
  rw [hE,hX,hY] at hK;exact hk _ _ (by simp) (hK.2 rfl)
theorem P4:KnowOk TP ZD 3:=cP (f0:=bK) (L:=wS) (fun g sp h=>np h) rfl L5 lLf 3
theorem zQ {q k:L1} {ks:L2} (h:k∈afS q ks):k∈ks:=List.mem_of_mem_take (List.mem_of_mem_drop h)
theorem Gj (q:L1) (ks:L2):(afS q ks).length<=ks.length:=by unfold afS; rw [List.length_drop,List.length_take]; omega
theorem L7:cf TP bK Glf:=by
 refine cL (N:=ZD) 3 P4 ?_;rintro args b K ⟨z,r,q,h,px,py,xs,ts,rs,us,es,ks,ns,cs,i,⟨rfl,rfl,⟨hw,hr,hh,hp,hid,hl⟩,hq⟩,hK⟩;show bQ _ _ _ _ _ _ fun v b1=>ld 14 v b1 K
 rw [Tk]; delta Maa Mab Mac Mad Mae Maf Mag Mai Maj Mak Mal Mam Man Map Maq Mar Mav Max Maz MaA MaG MaH MaL MaM MaO MaW Ma3 Ma8 Ma9 Mbe Mbm Mbn MbM MbP MbV Mb6 Mcv Mcw Mcy McY Mdv Md6 Mew MeH Mff MfC Mf2 Mgd Mhm MiT MjK MjR Mkm;rintro t1 rfl t2 rfl;refine ⟨hq,z,r,h,px,py,xs,ts,rs,us,es,ks,ns,cs,afS q ks,i,⟨⟨hw,hr,hh,hp,fun k hk=>hid k (zQ hk),Nat.le_trans (Gj q ks) hl⟩,rfl,rfl⟩,?_⟩
 rw [ah];exact ⟨fun _=>hK,fun h0=>by rw [h0] at hK; exact hK⟩
end
def N8:FuncId->Option eG:=fun g=>if g=bK then some Glf else if g=iD then some YL else if g=iE then some YM else if g=dJ then some YO else Jw g
def Vv (z r:L1) (h px py:Int) (xs ts rs us es ks ns cs td:L2) (i:Int):St:=⟨T 86 [(0,.ptr 0 0),(1,.int .i64 i),(5,.ptr 14 0),(7,.ptr 15 0)],rY z r h px py xs ts rs us es ks ns cs++[some (.var 116 [.fn ado [.ptr 1 0,.ptr 2 0],.fn bZ [.ptr 1 0,.ptr 2 0]]),some (.var 29 [.sl 16]),some (.row 3 [.i64] td)]⟩
def MaS (a:L2)(b:Int)(c:L2):L2:=List.take (Int.toNat (MaJ (Man a) b)) c
def MbG (a:Nat)(b:L2)(c:OB):OB:=Maq 29 (Mao a []) (MaX b) c
def Mi5 (a:L2)(b:Int):L2:=a++Mau 1 1 0 0 [b]
def MbO (a b:L2)(c d:Int):L2:=Mi5 (Mi5 (MaS a 1 b) c) d
def Mb0 (a:L1)(b c:L2)(d e:Int):Int:=yE a b c (Int.toNat d) (Int.toNat e)
def Mcs (a b:L2)(c:Int):L2:=Mi5 (MaS a 1 b) c
def Mdh (a:List IntKind)(b:L2)(c:Int)(d e:Nat)(f:List IV):List IV:=MaD (bN a b (Int.toNat c) d e) f
abbrev MdO (a:Int)(b:L2)(c d:Nat)(e f:Int)(g:L2)(h i:Nat)(j k:Prop)(l:Int)(m:L2)(n o:Nat)(p q:Prop):Prop:=Mbf a 0 (Mbh ((List.length b+c)*d) (Mbf e f (Mbh ((List.length g+h)*i) j) k)) (Mbf l 0 (Mbh ((List.length m+n)*o) p) q)
abbrev Md5 (a:L1)(b c:L2)(d e:Int)(f g:Prop):Prop:=br (E4 a b c (Int.toNat d) (Int.toNat e)) f g
def Mek (a:L2):Int:=MaJ (Man a) 1
def Mfn (a b c:Nat)(d:Int)(e f:Nat)(g:List (Nat × IV))(h:L1)(i j k l m n o p:Nat)(q r:List IV)(s:Nat)(t u v w x y z a1:L2)(b1:L1)(c1 d1 e1 f1 g1 h1:Int)(i1:List IV)(j1 k1 l1 m1:Nat)(n1:List IV)(o1:L2)(p1:OB):St:=Ma6 86 a b c d (MaR e 14 f 15 g) (MaE 149 (kA h i j k l m n o 10) (Mav 165 (MaG 101 11 (Mam p::Mbm 12 13 q)::r) 110 (MbP s) (Mbb t u v w x y z a1 (MbN 79 (qT b1) 25 c1 d1 31 (Mbn e1 f1 g1 h1 i1) 116 (McY j1 k1 l1 m1 n1) (MbG 16 o1 p1)))))
abbrev Mhk (a b c:L2):Prop:=MfK (Mek a) (Mek b<=Man c)
abbrev MhB (a:Prop)(b c d:L2)(e:Prop):Prop:=Mbw a (Mbp (Mek b) (Mek c) d) e
abbrev MhI (a:Prop)(b:List IV)(c:L2)(d:OB)(e:Prop):Prop:=Mbw a (Xm b (Mab (.ro MaO c) d)) e
def MhN (a:L2)(b:Int)(c:L2)(d:Int)(e:L2)(f:Int):Bool:=ll (Md6 (Mas a b 2) (Mas c d 3) e) f
abbrev MhW (a b c:Prop)(d:L2)(e:Int)(f g:Prop):Prop:=Mc4 a b c (MdD (Man d) e f g)
abbrev Mh8 (a:L2)(b:Int)(c:Nat)(d:Int)(e:OB)(f:Bool)(g h:Prop):Prop:=Mdy (Xh (Mam 0::Mdh kQ a b 0 c (Ma2 d)) e) f g h
def Miu (a:L1)(b c:L2)(d e:Int)(f:OB):St:=Mcw 86 6 (Mb0 a b c d e) [] f
def MiH (a b c d:Int):Bool:=Mea a Mbk (Ma0 b Mbk) (MdB c Mbk d Mbk)
abbrev MiQ (a b:Int)(c:List IV)(d:OB)(e:L1)(f g h i j k l m:L2)(n o:Int):Prop:=Xi (Mam 0::MaM a b c) d e f g h i j k l m n o
def Mjb (a:L2)(b c:Int):L2:=MbO a a b c
def Mjf (a:L2)(b:Int):L2:=Mcs a a b
def Mjk (a:L2):L2:=MaS a 1 a
def Mjl (a:L2)(b c d:Int):L2:=Mi5 (MbO a a b c) d
abbrev Mjs (a:Int)(b:L2)(c d:Int)(e f g h:Prop):Prop:=MdO a (Mcs b b c) 1 8 d 0 (MbO b b c a) 1 8 e f d (Mcs b b c) 1 8 g h
def MjD (a:Int)(b:L1)(c d e f g h i j:L2)(k:L1)(l m n:Int)(o:L2):St:=Mfn 0 0 1 a 5 7 [] b 3 4 5 6 7 8 9 2 [] [] 0 c d e f g h i j k l l m m n n [] 1 2 1 2 [] o []
def MjH (a:L2)(b c d e:Int):L2:=Mi5 (MbO a a b c) d++Mau 1 1 0 0 [e]
abbrev MjT (a:Int)(b:L2)(c d e:Int)(f g h i:Prop):Prop:=MdO a (MbO b b c d) 1 8 e 0 (Mi5 (MbO b b c d) a) 1 8 f g e (MbO b b c d) 1 8 h i
def Mka (a:Int)(b:L1)(c d e f g h i j:L2)(k:L1)(l m n o p:Int)(q:L2):St:=Mfn 0 0 1 a 5 7 [] b 3 4 5 6 7 8 9 2 [] [] 0 c d e f g h i j k l l (A5 b k l c j m n o) (A5 b k l c j m n o) p p [] 1 2 1 2 [] q []
abbrev Mkb (a:Int)(b:L2)(c:Int)(d e f:Prop)(g h:Int)(i j k l:Prop):Prop:=MdO a (MaS b 1 b) 1 8 c 0 (Mcs b b a) 1 8 d e c (MaS b 1 b) 1 8 f (MdO g (MaS b 1 b) 1 8 h 0 (Mcs b b g) 1 8 i j h (MaS b 1 b) 1 8 k l)
theorem rWk (Λ:FuncId->Nat->Option aB) (d:Nat) (z r:L1) (h px py:Int) (xs ts rs us es ks ns cs td:L2) (i:Int) (k:Out->St->Prop):(round (ai TP { Γ:=gj,Λ:=Λ,Τ:=N8,pop:=fun t=>Nat.beq t 29,back:=fun f=>Nat.beq f 153 } d) bV 14 0 (lp TP bV 0) (Vv z r h px py xs ts rs us es ks ns cs td i) k) =(∀a,MdP a td (Mek td) (∀b,Mfj b ns a (∀c,Mfk c ns a (∀e,MfM e ns a (∀f,MfN f ns a (∀g,MhB g td td td (∀j,Mi8 j a ns (∀l,MhI l Med (Mfg b c e f) [] (∀m,Mbw m (k .normal (MjD i z xs ts rs us es ks ns cs r h px py (Mjk td))) (∀n,MhW n l (Mkb f td e (MjT c td f e b (k .normal (MjD i z xs ts rs us es ks ns cs r h px py (MjH td f e c b))) (k .normal (MjD i z xs ts rs us es ks ns cs r h px py (Mjl td f e c))) (k .normal (MjD i z xs ts rs us es ks ns cs r h px py (Mjl td f e b))) (k .normal (MjD i z xs ts rs us es ks ns cs r h px py (Mjb td f e)))) (Mjs c td f b (k .normal (MjD i z xs ts rs us es ks ns cs r h px py (Mjl td f c b))) (k .normal (MjD i z xs ts rs us es ks ns cs r h px py (Mjb td f c))) (k .normal (MjD i z xs ts rs us es ks ns cs r h px py (Mjb td f b))) (k .normal (MjD i z xs ts rs us es ks ns cs r h px py (Mjf td f)))) (Mjs c td e b (k .normal (MjD i z xs ts rs us es ks ns cs r h px py (Mjl td e c b))) (k .normal (MjD i z xs ts rs us es ks ns cs r h px py (Mjb td e c))) (k .normal (MjD i z xs ts rs us es ks ns cs r h px py (Mjb td e b))) (k .normal (MjD i z xs ts rs us es ks ns cs r h px py (Mjf td e)))) c b (k .normal (MjD i z xs ts rs us es ks ns cs r h px py (Mjb td c b))) (k .normal (MjD i z xs ts rs us es ks ns cs r h px py (Mjf td c))) (k .normal (MjD i z xs ts rs us es ks ns cs r h px py (Mjf td b))) m) td 0 (Mdm g g (Mhk td td td) j j (br (MiH b c e f) (∃o:L1,∃p:L1,∃q:L1,∃s:Int,∃t:Int,∃u:Int,∃v:L2,∃w:L2,∃x:L2,∃y:L2,∃a1:L2,∃b1:L2,∃c1:L2,∃d1:L2,∃e1:Int,Mcv (Sh (Mam 0::Mdh kQ ns a 0 8 (Mai i (MaD (McY 1 2 1 2 []) []))) (MjK z xs ts rs us es ks ns cs (qT r) h px py) o p q s t u v w x y a1 b1 c1 d1 e1) (PV o p s v d1 (afS q b1) e1 t u) (k .ret (Mcw 86 6 (PV o p s v d1 (afS q b1) e1 t u) [] (MjK o v w x y a1 b1 c1 d1 (qT p) s (PU o p s v d1 (afS q b1) e1 t u) (PT o p s v d1 (afS q b1) e1 t u)))) (k .normal (MjD i o v w x y a1 b1 c1 d1 p s (PU o p s v d1 (afS q b1) e1 t u) (PT o p s v d1 (afS q b1) e1 t u) (Mjk td)))) (Mh8 ns a 8 i (Miw z xs ts rs us es ks ns cs) (MhN ns a ns a ks i) (∃o:L1,∃p:L2,∃q:L2,∃s:L2,∃t:L2,∃u:L2,∃v:L2,∃w:L2,∃x:L2,∃y:Int,∃a1:Int,MiQ a i [] (Miw z xs ts rs us es ks ns cs) o p q s t u v w x y a1/\Mci (Mb0 o p x y a1) 0 (Md5 o p x y a1 (∃b1:L1,∃c1:L1,∃d1:Int,∃e1:Int,∃f1:Int,∃g1:Int,∃i1:L2,∃j1:L2,∃k1:L2,∃l1:L2,∃m1:L2,∃n1:L2,∃o1:L2,∃p1:L2,Mcv (T0 0 (Mai a (Mbm 0 1 [])) (Mjh (MbN 79 (qT r) 25 h h 31 (Mbn px px py py []) 149 (kA z 6 7 8 9 10 11 12 13) (Mbb xs ts rs us es ks ns cs []))) b1 c1 d1 e1 f1 g1 i1 j1 k1 l1 m1 n1 o1 p1) (Dl b1 c1 d1 i1 p1 g1 e1 f1) (k .ret (Mcw 86 6 (Dl b1 c1 d1 i1 p1 g1 e1 f1) [] (MjK b1 i1 j1 k1 l1 m1 n1 o1 p1 (qT c1) d1 (A5 b1 c1 d1 i1 p1 g1 e1 f1) (pR b1 c1 d1 i1 p1 g1 e1 f1)))) (Md5 o p x y a1 (k .normal (Mka i b1 i1 j1 k1 l1 m1 n1 o1 p1 c1 d1 g1 e1 f1 (pR b1 c1 d1 i1 p1 g1 e1 f1) (Mjk td))) (l/\Mkb f td e (MjT c td f e b (k .normal (Mka i b1 i1 j1 k1 l1 m1 n1 o1 p1 c1 d1 g1 e1 f1 (pR b1 c1 d1 i1 p1 g1 e1 f1) (MjH td f e c b))) (k .normal (Mka i b1 i1 j1 k1 l1 m1 n1 o1 p1 c1 d1 g1 e1 f1 (pR b1 c1 d1 i1 p1 g1 e1 f1) (Mjl td f e c))) (k .normal (Mka i b1 i1 j1 k1 l1 m1 n1 o1 p1 c1 d1 g1 e1 f1 (pR b1 c1 d1 i1 p1 g1 e1 f1) (Mjl td f e b))) (k .normal (Mka i b1 i1 j1 k1 l1 m1 n1 o1 p1 c1 d1 g1 e1 f1 (pR b1 c1 d1 i1 p1 g1 e1 f1) (Mjb td f e)))) (Mjs c td f b (k .normal (Mka i b1 i1 j1 k1 l1 m1 n1 o1 p1 c1 d1 g1 e1 f1 (pR b1 c1 d1 i1 p1 g1 e1 f1) (Mjl td f c b))) (k .normal (Mka i b1 i1 j1 k1 l1 m1 n1 o1 p1 c1 d1 g1 e1 f1 (pR b1 c1 d1 i1 p1 g1 e1 f1) (Mjb td f c))) (k .normal (Mka i b1 i1 j1 k1 l1 m1 n1 o1 p1 c1 d1 g1 e1 f1 (pR b1 c1 d1 i1 p1 g1 e1 f1) (Mjb td f b))) (k .normal (Mka i b1 i1 j1 k1 l1 m1 n1 o1 p1 c1 d1 g1 e1 f1 (pR b1 c1 d1 i1 p1 g1 e1 f1) (Mjf td f)))) (Mjs c td e b (k .normal (Mka i b1 i1 j1 k1 l1 m1 n1 o1 p1 c1 d1 g1 e1 f1 (pR b1 c1 d1 i1 p1 g1 e1 f1) (Mjl td e c b))) (k .normal (Mka i b1 i1 j1 k1 l1 m1 n1 o1 p1 c1 d1 g1 e1 f1 (pR b1 c1 d1 i1 p1 g1 e1 f1) (Mjb td e c))) (k .normal (Mka i b1 i1 j1 k1 l1 m1 n1 o1 p1 c1 d1 g1 e1 f1 (pR b1 c1 d1 i1 p1 g1 e1 f1) (Mjb td e b))) (k .normal (Mka i b1 i1 j1 k1 l1 m1 n1 o1 p1 c1 d1 g1 e1 f1 (pR b1 c1 d1 i1 p1 g1 e1 f1) (Mjf td e)))) c b (k .normal (Mka i b1 i1 j1 k1 l1 m1 n1 o1 p1 c1 d1 g1 e1 f1 (pR b1 c1 d1 i1 p1 g1 e1 f1) (Mjb td c b))) (k .normal (Mka i b1 i1 j1 k1 l1 m1 n1 o1 p1 c1 d1 g1 e1 f1 (pR b1 c1 d1 i1 p1 g1 e1 f1) (Mjf td c))) (k .normal (Mka i b1 i1 j1 k1 l1 m1 n1 o1 p1 c1 d1 g1 e1 f1 (pR b1 c1 d1 i1 p1 g1 e1 f1) (Mjf td b))) (k .normal (Mka i b1 i1 j1 k1 l1 m1 n1 o1 p1 c1 d1 g1 e1 f1 (pR b1 c1 d1 i1 p1 g1 e1 f1) (Mjk td)))))) (McA (Mb0 o p x y a1) (k .ret (Miu o p x y a1 (MjK z xs ts rs us es ks ns cs (qT r) h px py))) (Md5 o p x y a1 m n))) (McA (Mb0 o p x y a1) (k .ret (Miu o p x y a1 (MjK z xs ts rs us es ks ns cs (qT r) h px py))) (Md5 o p x y a1 m n))) n))) (k MbT (MaH 86 [] (MjK z xs ts rs us es ks ns cs (qT r) h px py))))))))))))) :=by delta Maa Mab Mac Mad Mae Mag Mah Mai Maj Mak Mal Mam Man Mao Map Maq Mar Mas Mau Mav Max Maz MaA MaD MaE MaG MaH MaI MaJ MaM MaO MaR MaS MaV MaW MaX MaZ Ma0 Ma1 Ma2 Ma3 Ma6 Ma9 Mbb Mbe Mbf Mbh Mbk Mbm Mbn Mbp Mbw Mbx MbG MbN Mi5 MbO MbP MbT Mb0 Mb6 Mci Mcs Mcv Mcw Mcy McA McY Mc4 Mc9 Mdh Mdm Mdy MdB MdD MdO MdP Md5 Md6 Mea Med Mek Mfg Mfj Mfk Mfn MfK MfM MfN Mgd Mhk MhB MhI MhN MhW Mh8 Miu Miw MiH MiQ Mi8 Mjb Mjf Mjh Mjk Mjl Mjs MjD MjH MjK MjT Mka Mkb; (iterate 10 refine nm ?_); kernel_rfl
def PR (z r:L1) (h:Int) (xs ks ns cs:L2) (i:Int):Nat->Int × Int->(Int × Int) × Int:=Cm (pN z r h xs cs) ns ks (fun n=>yE z xs cs n i.toNat) (fun n=>E4 z xs cs n i.toNat) i
def S6 (z r:L1) (h:Int) (xs ks ns cs:L2) (i px py:Int):(Int × Int) × Int:=dF (PR z r h xs ks ns cs i) [0] (px,py)
def RE (z r:L1) (h:Int) (xs ks ns cs:L2) (i px py:Int):Int:=(S6 z r h xs ks ns cs i px py).2
def Om (z r:L1) (h:Int) (xs ks ns cs:L2) (i px py:Int):Int:=(S6 z r h xs ks ns cs i px py).1.1
def Ol (z r:L1) (h:Int) (xs ks ns cs:L2) (i px py:Int):Int:=(S6 z r h xs ks ns cs i px py).1.2
def qc (z:L1) (xs ks ns cs:L2):Prop:=Zf z xs cs/\gr ns ks.length/\oB xs.length ks/\ks.length<=1000/\0 < ns.length/\cs.length=ns.length
def Wa (z r:L1) (h px py:Int) (xs ks ns cs:L2) (i:Int):Prop:=qc z xs ks ns cs/\lC r/\ag h/\(ag px/\ag py)/\0<=i/\i < xs.length
def pWk (n0:Nat) (st:St) (z r:L1) (h px py:Int) (xs ts rs us es ks ns cs:L2) (i:Int):Prop:=Wa z r h px py xs ks ns cs i/\n0=14/\st=Vv z r h px py xs ts rs us es ks ns cs [[0]] i
def Lwk:aB:=fun n0 st K=>∃z r h px py xs ts rs us es ks ns cs i,pWk n0 st z r h px py xs ts rs us es ks ns cs i/\br (RE z r h xs ks ns cs i px py != 0) (K .ret ⟨T 86 [(6,.int .i64 (RE z r h xs ks ns cs i px py))],rY z r h (Om z r h xs ks ns cs i px py) (Ol z r h xs ks ns cs i px py) xs ts rs us es ks ns cs⟩) (K (.exit 0) ⟨T 86 [],rY z r h (Om z r h xs ks ns cs i px py) (Ol z r h xs ks ns cs i px py) xs ts rs us es ks ns cs⟩)
def Yw:Know:={ Γ:=gj,Λ:=fun f i=>if f=bV then (if i=0 then some Lwk else none) else none,Τ:=N8,pop:=fun t=>Nat.beq t 29,back:=fun f=>Nat.beq f 153 }
theorem S9 (z r:L1) (h px py:Int) (xs ts rs us es ks ns cs:L2) (i:Int) (K:IV->OB->Prop):(bQ TP Yw 3 bV [.ptr 0 0,.int .i64 i,Oq] (rY z r h px py xs ts rs us es ks ns cs) fun v b1=>ld 14 v b1 K) =(∃a:L1,∃b:L1,∃c:Int,∃d:Int,∃e:Int,∃f:L2,∃g:L2,∃j:L2,∃k:L2,∃l:L2,∃m:L2,∃n:L2,∃o:L2,∃p:Int,Mcv (pWk 14 (Mfn 0 0 1 i 5 7 [] z 3 4 5 6 7 8 9 2 [] [] 0 xs ts rs us es ks ns cs r h h px px py py [] 1 2 1 2 [] [[0]] []) a b c d e f g j k l m n o p) (RE a b c f m n o p d e) (K (Maa (RE a b c f m n o p d e)) (MjK a f g j k l m n o (qT b) c (Om a b c f m n o p d e) (Ol a b c f m n o p d e))) (K Mew (MjK a f g j k l m n o (qT b) c (Om a b c f m n o p d e) (Ol a b c f m n o p d e)))) :=by kernel_rfl
def Se (args:List IV) (b:OB) (z r:L1) (h px py:Int) (xs ts rs us es ks ns cs:L2) (i:Int):Prop:=args=[.ptr 0 0,.int .i64 i,Oq]/\b=rY z r h px py xs ts rs us es ks ns cs/\Wa z r h px py xs ks ns cs i
def Gwk:eG:=fun args b K=>∃z r h px py xs ts rs us es ks ns cs i,Se args b z r h px py xs ts rs us es ks ns cs i/\K (.int .i64 (RE z r h xs ks ns cs i px py)) (rY z r h (Om z r h xs ks ns cs i px py) (Ol z r h xs ks ns cs i px py) xs ts rs us es ks ns cs)
section
open Go.IntWalk
theorem UR:∀ g G,N8 g=some G->cf TP g G:=iB L7 (iB Qh (iB Qi (iB Qk L5)))
def cj (l:List Nat):L2:=l.map fun (n:Nat)=>[((n:Nat):Int)]
theorem O5 (a b:List Nat):cj (a++b)=cj a++cj b:=List.map_append
theorem O3 (l:List Nat) (n:Nat):rd (cj (l++[n])) l.length 0=n:=by
 unfold rd cj;simp [List.getD]
theorem O2 (l:List Nat) (n:Nat):(cj (l++[n])).take l.length=cj l:=by
 unfold cj;simp
theorem Tw (ns:L2) (n q:Nat):cj (lN ns n q).reverse=if 0<=rd ns n (4+q) then [[rd ns n (4+q)]] else []:=by
 unfold lN;split
 ·rename_i h;show [[((rd ns n (4+q)).toNat:Int)]]=_;rw [show ((rd ns n (4+q)).toNat:Int)=rd ns n (4+q) by omega]
 ·rfl
theorem O4 (ns:L2) (n:Nat) (rest:List Nat):cj (gm ns n++rest).reverse=cj rest.reverse++((if 0<=rd ns n 7 then [[rd ns n 7]] else [])++((if 0<=rd ns n 6 then [[rd ns n 6]] else [])++((if 0<=rd ns n 5 then [[rd ns n 5]] else [])++(if 0<=rd ns n 4 then [[rd ns n 4]] else [])))):=by
 unfold gm;simp only [List.reverse_append,O5,Tw,List.append_assoc]
theorem IC {ns:L2} {len n:Nat} (h:gr ns len) (hn:n < ns.length):(decide (rd ns n 4 = -1) && (decide (rd ns n 5 = -1) && (decide (rd ns n 6 = -1) && (decide (rd ns n 7 = -1) && true))))=ot ns n:=by
 have g:=(h n hn).2;have g0:=g 0 (by omega)
 have g1:=g 1 (by omega)
 have g2:=g 2 (by omega)
 have g3:=g 3 (by omega)
 simp only [Nat.reduceAdd,Nat.add_zero] at g0 g1 g2 g3;unfold ot;rw [Bool.eq_iff_iff];simp only [Bool.and_eq_true,decide_eq_true_eq,Bool.and_true];omega
theorem jr {σ α:Type} (f:α->σ->σ × Int) (a:α) (l:List α) (s:σ):dF f (a :: l) s=if (f a s).2≠0 then f a s else dF f l (f a s).1:=rfl
theorem FP {z r:L1} {h c:Int} {xs cs:L2} {s:Int × Int} (hx:ag s.1) (hy:ag s.2):ag (pN z r h xs cs c s).1.1/\ag (pN z r h xs cs c s).1.2:=⟨y5 hx,y4 hy⟩
theorem Lm {z r:L1} {h i:Int} {xs cs:L2} {k:L1} {s:Int × Int} (hx:ag s.1) (hy:ag s.2):ag (dw (pN z r h xs cs) i k s).1.1/\ag (dw (pN z r h xs cs) i k s).1.2:=by
 unfold dw;split
 ·exact ⟨hx,hy⟩
 ·exact FP hx hy
theorem Gf (z r:L1) (h:Int) (xs cs:L2) (i:Int):∀ (ys:L2) (s:Int × Int),ag s.1->ag s.2->ag (dF (dw (pN z r h xs cs) i) ys s).1.1/\ag (dF (dw (pN z r h xs cs) i) ys s).1.2
 | [],s,hx,hy=>⟨hx,hy⟩
 | k :: ys,s,hx,hy=>by
  have:=Lm (z:=z) (r:=r) (h:=h) (i:=i) (xs:=xs) (cs:=cs) (k:=k) hx hy;rw [jr];split
  ·exact this
  ·exact Gf z r h xs cs i ys _ this.1 this.2
theorem lWk (d n0:Nat):aG (ai TP Yw d) bV n0 0 (lp TP bV 0) Lwk:=by
 intro st K hst;obtain ⟨z,r,h,px0,py0,xs,ts,rs,us,es,ks,ns,cs,i,⟨⟨⟨hw,htr,hid,hks,hns,hcn⟩,hr,hh,⟨hpx0,hpy0⟩,hi0,hi1⟩,rfl,rfl⟩,hK⟩:=hst;rw [ah] at hK;refine aC (fun p:List Nat × Int × Int=>Vv z r h p.2.1 p.2.2 xs ts rs us es ks ns cs (cj p.1.reverse) i) (fun p=>(∀ n∈p.1,n < ns.length)/\sK ns p.1<=1000/\ag p.2.1/\ag p.2.2/\dF (PR z r h xs ks ns cs i) p.1 (p.2.1,p.2.2)=S6 z r h xs ks ns cs i px0 py0) (fun p=>Ca ns p.1) ?_ (a:=([0],px0,py0)) ⟨by simpa using hns,by have:=(nN htr hns).2.1; simp only [sK]; omega,hpx0,hpy0,rfl⟩
 rintro ⟨stk,px,py⟩ ⟨hin,hwt,hpx,hpy,hR⟩ k hn hk;simp only at hin hwt hpx hpy hR;show round (ai TP { Γ:=gj,Λ:=_,Τ:=N8,pop:=fun t=>Nat.beq t 29,back:=fun f=>Nat.beq f 153 } d) _ _ _ _ (Vv z r h px py xs ts rs us es ks ns cs (cj stk.reverse) i) k
 have hlen:=GI htr hin;have done:∀ {R:(Int × Int) × Int},R=S6 z r h xs ks ns cs i px0 py0->RE z r h xs ks ns cs i px0 py0=R.2/\Om z r h xs ks ns cs i px0 py0=R.1.1/\Ol z r h xs ks ns cs i px0 py0=R.1.2:=by
  rintro R rfl; exact ⟨rfl,rfl,rfl⟩
 rw [rWk]; delta Maa Mab Mac Mad Mae Mag Mah Mai Maj Mak Mal Mam Man Mao Map Maq Mar Mas Mau Mav Max Maz MaA MaD MaE MaG MaH MaI MaJ MaM MaO MaR MaS MaV MaW MaX MaZ Ma0 Ma1 Ma2 Ma3 Ma6 Ma9 Mbb Mbe Mbf Mbh Mbk Mbm Mbn Mbp Mbw Mbx MbG MbN Mi5 MbO MbP MbT Mb0 Mb6 Mci Mcs Mcv Mcw Mcy McA McY Mc4 Mc9 Mdh Mdm Mdy MdB MdD MdO MdP Md5 Md6 Mea Med Mek Mfg Mfj Mfk Mfn MfK MfM MfN Mgd Mhk MhB MhI MhN MhW Mh8 Miu Miw MiH MiQ Mi8 Mjb Mjf Mjh Mjk Mjl Mjs MjD MjH MjK MjT Mka Mkb;cases stk with
 | nil=>
  rintro t1 e1 t2 e2 t3 e3 t4 e4 t5 e5 t6 e6 t7 e7 t8 e8 t9 e9 t10 e10;clear e10;rw [al];refine ⟨fun hh=>absurd hh (by simp [cj]),fun _=>?_⟩
  obtain ⟨q1,q2,q3⟩:=done hR;rw [q1,q2,q3] at hK;exact hk _ _ (by simp) (hK.2 rfl)
 | cons n rest=>
  have hnn:n < ns.length:=hin n (List.mem_cons_self ..);have hin':∀ m∈rest,m < ns.length:=fun m hm=>hin m (List.mem_cons_of_mem _ hm)
  simp only [List.length_cons,sK] at hlen;simp only [sK] at hwt;have hl1:((cj (n :: rest).reverse).length:Int)=rest.length+1:=by simp [cj]
  have hw1:IntKind.i64.wrap (((cj (n :: rest).reverse).length:Int) - 1)=(rest.length:Int):=by rw [hl1,i64_in _ (by omega)]; omega
  rw [hw1,show ((rest.length:Nat):Int).toNat=rest.reverse.length by simp,show (n :: rest).reverse=rest.reverse++[n] from List.reverse_cons,O3,O2]
  have hl2:((cj (rest.reverse++[n])).length:Int)=rest.length+1:=by simp [cj]
  rintro t1 rfl t2 e2 t3 e3 t4 e4 t5 e5 t6 e6 t7 e7 t8 e8 t9 e9 t10 e10;rw [show ((n:Nat):Int).toNat=n by omega] at e2 e3 e4 e5
  have p6:t6:=by rw [e6,hl2]; omega
  have p7:t7:=by rw [e7]; omega
  have p8:t8:=by rw [e8]; exact ⟨_,rfl,rfl⟩
  have hmu:∀ m,Ca ns (n :: rest)=m->Ca ns rest < m:=by
   intro m hm;have:=PB htr hnn;simp only [Ca] at hm;omega
  have hlk:=Cl htr (pN z r h xs cs) ks (fun n=>yE z xs cs n i.toNat) (fun n=>E4 z xs cs n i.toNat) i hnn (px,py)
  rw [jr] at hR;have hnode:=htr n hnn;obtain ⟨b1,b2,b3,_⟩:=hnode.1;have hq:0<=rd ns n 2/\rd ns n 2<=rd ns n 3/\rd ns n 3<=ks.length:=⟨b1,by omega,b2⟩
  have next:∀ {x y:Int},ag x->ag y->PR z r h xs ks ns cs i n (px,py)=((x,y),0)->k Out.normal (Vv z r h x y xs ts rs us es ks ns cs (cj rest.reverse) i):=by
   intro x y hx hy he;rw [he,if_neg (fun hh=>hh rfl)] at hR
   exact hn (rest,x,y) ⟨hin',(by show sK ns rest<=1000; omega),hx,hy,hR⟩ (hmu _ rfl)
  have stop:∀ {x y e:Int},e≠0->PR z r h xs ks ns cs i n (px,py)=((x,y),e)->k Out.ret ⟨T 86 [(6,.int .i64 e)],rY z r h x y xs ts rs us es ks ns cs⟩:=by
   intro x y e hne he;rw [he,if_pos hne] at hR;obtain ⟨q1,q2,q3⟩:=done hR;rw [q1,q2,q3] at hK;exact hk _ _ (by simp) (hK.1 hne)
  rw [al];refine ⟨fun _=>?_,fun hh=>absurd (by rw [hl2]; omega) hh⟩
  refine ⟨p6,p6,by rw [hl2]; omega,p7,p7,?_⟩
  rw [e2,e3,e4,e5,IC htr hnn,aL];refine ⟨fun hlf=>?_,fun hlf=>?_⟩
  ·
   rw [if_pos hlf] at hlk;refine ⟨z,r,ns.getD n [],h,px,py,xs,ts,rs,us,es,ks,ns,cs,i,⟨rfl,rfl,⟨hw,hr,hh,⟨hpx,hpy⟩,hid,Nat.le_trans hks (by decide)⟩,hq⟩,?_⟩
   have hlf2:PR z r h xs ks ns cs i n (px,py)=Xw z r h xs cs (afS (ns.getD n []) ks) i px py:=hlk;rw [ah];refine ⟨fun hne=>stop hne hlf2,fun h0=>?_⟩
   have hle:=Gf z r h xs cs i (afS (ns.getD n []) ks) (px,py) hpx hpy;refine next hle.1 hle.2 ?_
   rw [hlf2,← h0]; rfl
  rw [if_neg (by rw [hlf]; decide)] at hlk
  have kids:PR z r h xs ks ns cs i n (px,py)=dF (PR z r h xs ks ns cs i) (gm ns n) (px,py)->t10:=by
   intro he;have hgo:k Out.normal (Vv z r h px py xs ts rs us es ks ns cs (cj (gm ns n++rest).reverse) i):=by
    refine hn (gm ns n++rest,px,py) ⟨?_,?_,hpx,hpy,?_⟩ ?_
    ·intro m hm;rcases List.mem_append.1 hm with hm | hm
     ·exact (vq htr hnn m hm).1
     ·exact hin' m hm
    ·show sK ns (gm ns n++rest)<=1000;rw [ra,r9 htr hnn hlf]; exact hwt
    ·show dF _ (gm ns n++rest) (px,py)=_;rw [By,← he]; exact hR
    ·show Ca ns (gm ns n++rest) < Ca ns (n :: rest);rw [GA];have:=Ln htr hnn hlf;simp only [Ca];omega
   rw [O4] at hgo;have hrl:(cj rest.reverse).length=rest.length:=by simp [cj]
   have go:∀ L,L=cj rest.reverse++((if 0<=rd ns n 7 then [[rd ns n 7]] else [])++((if 0<=rd ns n 6 then [[rd ns n 6]] else [])++((if 0<=rd ns n 5 then [[rd ns n 5]] else [])++(if 0<=rd ns n 4 then [[rd ns n 4]] else []))))->k Out.normal (Vv z r h px py xs ts rs us es ks ns cs L i):=by
    rintro L rfl; exact hgo
   rw [e10,e9,e2,e3,e4,e5];generalize rd ns n 7=k3 at go;generalize rd ns n 6=k2 at go;generalize rd ns n 5=k1 at go;generalize rd ns n 4=k0 at go;refine ⟨p8,?_⟩;have room:∀ A:L2,A.length<=rest.length+3->(A.length+1)*8<=140737488355328:=fun A hA=>by omega
   rw [al];refine ⟨fun c3=>⟨room _ (by simp [hrl]),?_⟩,fun c3=>?_⟩
   all_goals rw [al]
   ·refine ⟨fun c2=>⟨room _ (by simp [hrl]),?_⟩,fun c2=>?_⟩
    all_goals rw [al]
    ·refine ⟨fun c1=>⟨room _ (by simp [hrl]),?_⟩,fun c1=>?_⟩
     all_goals rw [al]
     ·exact ⟨fun c0=>⟨room _ (by simp [hrl]),go _ (by rw [if_pos c3,if_pos c2,if_pos c1,if_pos c0]; simp)⟩,fun c0=>go _ (by rw [if_pos c3,if_pos c2,if_pos c1,if_neg c0]; simp)⟩
     ·exact ⟨fun c0=>⟨room _ (by simp [hrl]),go _ (by rw [if_pos c3,if_pos c2,if_neg c1,if_pos c0]; simp)⟩,fun c0=>go _ (by rw [if_pos c3,if_pos c2,if_neg c1,if_neg c0]; simp)⟩
    ·refine ⟨fun c1=>⟨room _ (by simp [hrl]),?_⟩,fun c1=>?_⟩
     all_goals rw [al]
     ·exact ⟨fun c0=>⟨room _ (by simp [hrl]),go _ (by rw [if_pos c3,if_neg c2,if_pos c1,if_pos c0]; simp)⟩,fun c0=>go _ (by rw [if_pos c3,if_neg c2,if_pos c1,if_neg c0]; simp)⟩
     ·exact ⟨fun c0=>⟨room _ (by simp [hrl]),go _ (by rw [if_pos c3,if_neg c2,if_neg c1,if_pos c0]; simp)⟩,fun c0=>go _ (by rw [if_pos c3,if_neg c2,if_neg c1,if_neg c0]; simp)⟩
   ·refine ⟨fun c2=>⟨room _ (by simp [hrl]),?_⟩,fun c2=>?_⟩
    all_goals rw [al]
    ·refine ⟨fun c1=>⟨room _ (by simp [hrl]),?_⟩,fun c1=>?_⟩
     all_goals rw [al]
     ·exact ⟨fun c0=>⟨room _ (by simp [hrl]),go _ (by rw [if_neg c3,if_pos c2,if_pos c1,if_pos c0]; simp)⟩,fun c0=>go _ (by rw [if_neg c3,if_pos c2,if_pos c1,if_neg c0]; simp)⟩
     ·exact ⟨fun c0=>⟨room _ (by simp [hrl]),go _ (by rw [if_neg c3,if_pos c2,if_neg c1,if_pos c0]; simp)⟩,fun c0=>go _ (by rw [if_neg c3,if_pos c2,if_neg c1,if_neg c0]; simp)⟩
    ·refine ⟨fun c1=>⟨room _ (by simp [hrl]),?_⟩,fun c1=>?_⟩
     all_goals rw [al]
     ·exact ⟨fun c0=>⟨room _ (by simp [hrl]),go _ (by rw [if_neg c3,if_neg c2,if_pos c1,if_pos c0]; simp)⟩,fun c0=>go _ (by rw [if_neg c3,if_neg c2,if_pos c1,if_neg c0]; simp)⟩
     ·exact ⟨fun c0=>⟨room _ (by simp [hrl]),go _ (by rw [if_neg c3,if_neg c2,if_neg c1,if_pos c0]; simp)⟩,fun c0=>go _ (by rw [if_neg c3,if_neg c2,if_neg c1,if_neg c0]; simp)⟩
  have hcon:ll (List.drop (rd ns n 2).toNat (List.take (rd ns n 3).toNat ks)) i=hasB ns ks n i:=rfl;refine ⟨⟨z,ns.getD n [],xs,ts,rs,us,es,ks,ns,cs,i,rfl,rfl,hq,Nat.le_trans hks (by decide)⟩,?_⟩
  rw [show ((n:Nat):Int).toNat=n from rfl,hcon,aL]
  refine ⟨fun hno=>?_,fun hyes=>?_⟩
  ·have hno':hasB ns ks n i=false:=by simpa using hno
   refine ⟨z,xs,ts,rs,us,es,ks,ns,cs,n,i,⟨rfl,rfl,hw.1,hw.2.1,hw.2.2.1,hw.2.2.2,⟨by omega,by omega⟩,hi0,hi1⟩,?_⟩
   rw [hno'] at hlk;rw [dp];refine ⟨fun h0=>?_,fun hne=>?_⟩
   ·rw [if_neg (fun hh=>hh.2 h0)] at hlk
    rw [aL];refine ⟨fun hfb=>?_,fun hfb=>?_⟩
    ·rw [if_pos ⟨rfl,hfb⟩] at hlk;refine ⟨z,r,h,px,py,n,xs,ts,rs,us,es,ks,ns,cs,⟨rfl,rfl,hw,hr,hh,⟨hpx,hpy⟩,by omega,by rw [if_pos rfl]; omega⟩,?_⟩
     rw [ah];refine ⟨fun hne=>stop hne hlk,fun h1=>?_⟩
     rw [aL];refine ⟨fun _=>next (y5 hpx) (y4 hpy) ?_,fun hh=>?_⟩
     ·rw [show PR z r h xs ks ns cs i n (px,py)=_ from hlk]
      show ((_,_),Dl z r h xs cs n px py)=_;rw [h1]
     ·rw [hfb] at hh; cases hh
    ·have hfb':E4 z xs cs n i.toNat=false:=hfb;rw [if_neg (fun hh=>by have:=hh.2; rw [hfb'] at this; cases this)] at hlk
     rw [ah];refine ⟨fun hh=>absurd h0 hh,fun _=>?_⟩
     rw [aL];exact ⟨fun hh=>(by rw [hfb] at hh; cases hh),fun _=>kids hlk⟩
   ·rw [if_pos ⟨rfl,hne⟩] at hlk;rw [ah];exact ⟨fun _=>stop hne hlk,fun hh=>absurd hh hne⟩
  ·have hyes':hasB ns ks n i=true:=by simpa using hyes
   rw [hyes',if_neg (fun hh=>by cases hh.1),if_neg (fun hh=>by cases hh.1)] at hlk
   exact kids hlk
theorem PZ:KnowOk TP Yw 3:=by
 refine ⟨mixedOrders,fun g sp h=>np h,?_,UR,?_⟩
 ·intro d' _ f i S n0 hS;simp only [Yw] at hS;split at hS
  ·rename_i hf; subst hf;split at hS
   ·rename_i hi; subst hi; cases hS; exact lWk d' n0
   ·cases hS
  ·cases hS
 ·intro f hf;have:f=153:=Nat.eq_of_beq_eq_true hf;subst this;exact Go.Proofs.Re
theorem L4:cf TP bV Gwk:=by
 refine cL (N:=Yw) 3 PZ ?_;rintro args b K ⟨z,r,h,px,py,xs,ts,rs,us,es,ks,ns,cs,i,⟨rfl,rfl,hwk⟩,hK⟩;show bQ _ _ _ _ _ _ fun v b1=>ld 14 v b1 K
 rw [S9]; delta Maa Mab Mac Mad Mae Mag Mai Maj Mak Mal Mam Mao Map Maq Mar Mav MaA MaE MaG MaH MaO MaR MaW MaX MaZ Ma3 Ma6 Ma9 Mbb Mbm Mbn MbG MbN MbP Mb6 Mcv Mcy McY Mew Mfn Mgd MjK;refine ⟨z,r,h,px,py,xs,ts,rs,us,es,ks,ns,cs,i,⟨hwk,rfl,rfl⟩,?_⟩;rw [ah];exact ⟨fun _=>hK,fun h0=>by rw [h0] at hK; exact hK⟩
end
def Mfq (a:L2)(b:OB):OB:=Option.none::Mab (MaX a) b
theorem ah5 (n:Int) (fs:L2) (K:IV->OB->Prop):(bQ TP { Γ:=gj,Λ:=fun _ _=>none,Τ:=fun _=>none } 3 de [.int .i64 n,.ptr 0 0] [some (.var 29 [.sl 1]),some (.row 3 [.i64] fs)] fun v b1=>ld 2 v b1 K) =(Mik fs 8 (K Mew (MaE 29 (Mao 2 []) (Mfq (Mi5 fs n) [])))) :=by kernel_rfl
theorem ahG (n:Int) (fs:L2) (K:IV->OB->Prop):(bQ TP { Γ:=gj,Λ:=fun _ _=>none,Τ:=fun _=>none } 3 cy [.int .i64 n,.ptr 0 0] [some (.var 29 [.sl 1]),some (.row 3 [.i64] fs)] fun v b1=>ld 2 v b1 K) =(Mik fs 8 (K Mew (MaE 29 (Mao 2 []) (Mfq (Mi5 fs n) [])))) :=by kernel_rfl
def aip (args:List IV) (b:OB) (n:Int) (fs:L2):Prop:=args=[.int .i64 n,.ptr 0 0]/\b=[some (.var 29 [.sl 1]),some (.row 3 [.i64] fs)]/\fs.length<=1000000
def ahW:eG:=fun args b K=>∃n fs,aip args b n fs/\K (.int .i64 0) [some (.var 29 [.sl 2]),none,some (.row 3 [.i64] (fs++[[n]]))]
def ag2:FuncId->Option eG:=fun g=>if g=de then some ahW else if g=cy then some ahW else none
def nX (z:L1) (f n:Nat) (F N:Option aq) (xs ts rs us es ks ns cs:L2):OB:=[some (.var 149 (kA z 3 4 5 6 7 8 9 10)),some (.var 29 [.sl f]),some (.var 29 [.sl n])]++y0 xs ts rs us es ks ns cs++[F,N]
def b9 (l:L2):Option aq:=some (.row 3 [.i64] l)
def ahE:IV:=.agg [.fn de [.ptr 1 0],.fn cy [.ptr 2 0]]
def c9:Option aq:=some (.var 116 [.fn de [.ptr 1 0],.fn cy [.ptr 2 0]])
def ahV (z:L1) (fs qs xs ts rs us es ks ns cs ys:L2) (i j:Int):St:=⟨T 39 [(2,.int .i64 i),(7,.ptr 13 0),(20,.sl 14),(21,.int .i64 ys.length),(22,.int .i64 j)],nX z 11 12 (b9 fs) (b9 qs) xs ts rs us es ks ns cs++[c9,some (.ro [.u64,.i64] ys)]⟩
def aik (z:L1) (fs qs xs ts rs us es ks ns cs ys:L2) (i j:Int):St:=⟨T 39 [(2,.int .i64 i),(7,.ptr 13 0),(20,.sl 14),(21,.int .i64 ys.length),(22,.int .i64 j)],nX z 11 15 (b9 fs) none xs ts rs us es ks ns cs++[c9,some (.ro [.u64,.i64] ys),b9 qs]⟩
def Mbc (a b:L2)(c:OB):OB:=Mad (MaX a) (MaX b) c
def Mbt (a:Nat)(b:List IV)(c:Nat)(d e:List IV):List IV:=MaG 53 a b::MaG 54 c d::e
def MbZ (a:Nat)(b:List IV)(c:OB):OB:=Option.none::MaE a b c
def McP (a:L1)(b c d e f g h i j k l:Nat)(m n o p q r s t u:L2)(v:OB):OB:=Mav 149 (kA a b c d e f g h i) 29 (Mao j []) (Maq k (Mao l []) (.ro aM m) (Mb6 n o p q r s (Maj fG t (MaX u) v)))
def Mi7:List IV:=Mbt 1 [] 2 [] []
def MhM (a:L1)(b c d e f g h:Nat)(i j k l m n o p q r:L2)(s:OB):OB:=MaE 149 (kA a b c d e f g h 10) (Mav 29 (Mao 11 []) 29 (Mao 12 []) (Mbb i j k l m n o p (Mbc q r s)))
abbrev Mig (a:Int)(b c:Nat)(d:L2)(e:OB)(f:Int)(g:L2)(h:Prop):Prop:=aip (Mai a (MbP b)) (MbG c d e) f g/\h
def Mj9 (a:L1)(b c d e f g h i j k:L2):OB:=MhM a 3 4 5 6 7 8 9 b c d e f g h i j k []
theorem aiI (Λ:FuncId->Nat->Option aB) (d:Nat) (z:L1) (fs qs xs ts rs us es ks ns cs ys:L2) (i j:Int) (k:Out->St->Prop):(round (ai TP { Γ:=gj,Λ:=Λ,Τ:=ag2 } d) bK 13 0 (lp TP bK 0) (ahV z fs qs xs ts rs us es ks ns cs ys i j) k) =(∀a,Md7 a ys j (∀b,Mjo b j ys (Mi3 b (Mci a i (k .normal (Mh7 2 i 7 13 20 14 21 ys 22 j (MhM z 3 4 5 6 7 8 9 xs ts rs us es ks ns cs fs qs (Mhm 116 Mi7 ys)))) (∃c:Int,∃e:L2,Mig a 0 1 qs [] c e (k .normal (Mh7 2 i 7 13 20 14 21 ys 22 j (McP z 3 4 5 6 7 8 9 10 11 29 15 xs ts rs us es ks ns cs fs (MbZ 116 Mi7 (Maj MaW ys (MaX (e++[[c]])) [])))))))) (k MbT (MaH 39 [] (Mj9 z xs ts rs us es ks ns cs fs qs))))) :=by delta Maa Mab Mad Mah Mai Maj Mak Mam Man Mao Maq Mar Mas Mav Max Maz MaA MaC MaE MaG MaH MaO MaV MaW MaX MaZ Ma1 Mbb Mbc Mbe Mbp Mbt Mbw MbC MbF MbG MbM MbP MbT MbV MbZ Mb6 Mcg Mci Mcr Mcw McP Mdr Md7 Mi7 Mhm MhM Mh6 Mh7 Mig Mi3 Mjo Mj9; refine nm ?_; refine nm ?_; kernel_rfl
def Mji (a:L1)(b c d e f g h i j:L2)(k:OB):OB:=McP a 3 4 5 6 7 8 9 10 11 29 13 b c d e f g h i j k
theorem aiH (Λ:FuncId->Nat->Option aB) (d:Nat) (z:L1) (fs qs xs ts rs us es ks ns cs ys:L2) (i j:Int) (k:Out->St->Prop):(round (ai TP { Γ:=gj,Λ:=Λ,Τ:=ag2 } d) bK 13 0 (lp TP bK 0) (aik z fs qs xs ts rs us es ks ns cs ys i j) k) =(∀a,Md7 a ys j (∀b,Mjo b j ys (Mi3 b (Mci a i (k .normal (Mh7 2 i 7 13 20 14 21 ys 22 j (McP z 3 4 5 6 7 8 9 10 11 29 15 xs ts rs us es ks ns cs fs (MbZ 116 Mi7 (Maj MaW ys (MaX qs) []))))) (∃c:Int,∃e:L2,Mig a 0 1 qs [] c e (k .normal (Mh7 2 i 7 13 20 14 21 ys 22 j (McP z 3 4 5 6 7 8 9 10 11 29 15 xs ts rs us es ks ns cs fs (MbZ 116 Mi7 (Maj MaW ys (MaX (e++[[c]])) [])))))))) (k MbT (MaH 39 [] (Mji z xs ts rs us es ks ns cs fs (Mfq qs [])))))) :=by delta Maa Mab Mad Mah Mai Maj Mak Mam Man Mao Maq Mar Mas Mav Max Maz MaA MaC MaE MaG MaH MaO MaV MaW MaX Ma1 Mbe Mbp Mbt Mbw MbC MbF MbG MbM MbP MbT MbV MbZ Mb6 Mcg Mci Mcr Mcw McP Mdr Md7 Mfq Mi7 Mh6 Mh7 Mig Mi3 Mji Mjo; refine nm ?_; refine nm ?_; kernel_rfl
def nY:Int->L2 × L2->(L2 × L2) × Int:=fun c s=>(if 0<=c then (s.1++[[c]],s.2) else (s.1,s.2++[[-1 - c]]),0)
def gy (ys:L2) (i:Int):L2:=(ys.filter fun k=>decide (k.getD 1 0≠i)).map fun k=>[k.getD 1 0]
def uy (ys:L2) (i:Int):Bool:=ys.any fun k=>decide (k.getD 1 0≠i)
def pLs (n0:Nat) (st:St) (z:L1) (fs qs xs ts rs us es ks ns cs ys:L2) (i:Int):Prop:=qs.length+ys.length<=1000000/\n0=13/\st=ahV z fs qs xs ts rs us es ks ns cs ys i 0
def wR:aB:=fun n0 st K=>∃z fs qs xs ts rs us es ks ns cs ys i,pLs n0 st z fs qs xs ts rs us es ks ns cs ys i/\br (uy ys i) (K (.exit 0) ⟨T 39 [],nX z 11 13 (b9 fs) none xs ts rs us es ks ns cs++[b9 (qs++gy ys i)]⟩) (K (.exit 0) ⟨T 39 [],nX z 11 12 (b9 fs) (b9 qs) xs ts rs us es ks ns cs⟩)
def ft:Know:={ Γ:=gj,Λ:=fun f i=>if f=bK then (if i=0 then some wR else none) else none,Τ:=ag2 }
theorem ahH (z q:L1) (fs qs xs ts rs us es ks ns cs:L2) (i:Int) (K:IV->OB->Prop):(bQ TP ft 3 bK [.ptr 0 0,Px q,.int .i64 i,ahE] (nX z 11 12 (b9 fs) (b9 qs) xs ts rs us es ks ns cs) fun v b1=>ld 13 v b1 K) =(∀a,MfC a q (∀b,MeH b q (Mkm a b ks/\(∃c:L1,∃d:L2,∃e:L2,∃f:L2,∃g:L2,∃j:L2,∃k:L2,∃l:L2,∃m:L2,∃n:L2,∃o:L2,∃p:L2,∃r:Int,MeE (pLs 13 (Mcw 39 2 i (MiT 7 13 20 14 21 (Md6 a b ks) 22) (MhM z 3 4 5 6 7 8 9 xs ts rs us es ks ns cs fs qs (Mhm 116 Mi7 (Md6 a b ks)))) c d e f g j k l m n o p r) (uy p r) (K Mew (Mji c f g j k l m n o d (Mfq (e++gy p r) []))) (K Mew (Mj9 c f g j k l m n o d e)))))) :=by delta Maa Mab Mad Maf Maj Mak Mam Man Mao Maq Mar Mav Max Maz MaA MaE MaG MaH MaL MaO MaW MaX MaZ Mbb Mbc Mbe Mbt MbM MbV Mb6 Mcw McP Md6 Mew MeE MeH Mfq MfC Mf2 Mi7 Mhm MhM MiT Mji Mj9 Mkm; refine nm ?_; refine nm ?_; kernel_rfl
def agG (args:List IV) (b:OB) (z q:L1) (fs qs xs ts rs us es ks ns cs:L2) (i:Int):Prop:=args=[.ptr 0 0,Px q,.int .i64 i,ahE]/\b=nX z 11 12 (b9 fs) (b9 qs) xs ts rs us es ks ns cs/\qs.length+ks.length<=1000000/\(0<=q.getD 2 0/\q.getD 2 0<=q.getD 3 0/\q.getD 3 0<=ks.length)
def Gls:eG:=fun args b K=>∃z q fs qs xs ts rs us es ks ns cs i,agG args b z q fs qs xs ts rs us es ks ns cs i/\br (uy (afS q ks) i) (K (.int .i64 0) (nX z 11 13 (b9 fs) none xs ts rs us es ks ns cs++[b9 (qs++gy (afS q ks) i)])) (K (.int .i64 0) (nX z 11 12 (b9 fs) (b9 qs) xs ts rs us es ks ns cs))
def agR:FuncId->Option eG:=fun g=>if g=bK then some Gls else if g=iD then some YL else if g=iE then some YM else if g=dJ then some YO else ag2 g
def ahh (z:L1) (fs qs xs ts rs us es ks ns cs td:L2) (i:Int):St:=⟨T 86 [(0,.ptr 0 0),(1,.int .i64 i),(5,.ptr 13 0),(7,.ptr 14 0)],nX z 11 12 (b9 fs) (b9 qs) xs ts rs us es ks ns cs++[c9,some (.var 29 [.sl 15]),b9 td]⟩
def MbY (a b c:Nat)(d:Int)(e f g h:Nat)(i:List (Nat × IV))(j:L1)(k l m n o p q r s t u:Nat)(v w x y z a1 b1 c1:L2)(d1:OB):St:=Ma6 86 a b c d (MaR e f g h i) (MaE 149 (kA j k l m n o p q r) (Mav s (Mao t []) 29 (Mao u []) (Mbb v w x y z a1 b1 c1 (Option.none::d1))))
def Mgo (a:Int)(b:L1)(c d e f g h i j k l:L2)(m:Int)(n:L2):St:=MbY 0 0 1 a 5 13 7 14 [] b 3 4 5 6 7 8 9 10 29 15 12 c d e f g h i j (Mab (MaX k) (Mav 116 Mi7 29 (Mao 16 []) (Mbc (l++[[m]]) n [])))
def Mgp (a:Int)(b:L1)(c d e f g h i j k l:L2)(m:Int)(n o:L2)(p q:Int):St:=Mgo a b c d e f g h i j k l m (MbO n o p q)
def Mhp (a:Int)(b:L1)(c d e f g h i j k l:L2)(m:Int)(n o:L2)(p:Int):St:=Mgo a b c d e f g h i j k l m (Mcs n o p)
def MhF (a:Int)(b:L1)(c d e f g h i j k l:L2)(m:Int)(n o:L2)(p q r:Int):St:=Mgo a b c d e f g h i j k l m (Mi5 (MbO n o p q) r)
def MiY (a:L2)(b:Int)(c:Nat)(d:Int)(e:List IV):List IV:=Mam 0::Mdh kQ a b 0 c (Mai d (MaD Mi7 e))
def Mj7 (a:Int)(b:L1)(c d e f g h i j k l m:L2):St:=Ma6 86 0 0 1 a (MaR 5 13 7 14 []) (McP b 3 4 5 6 7 8 9 10 11 29 15 c d e f g h i j k (Option.none::Mav 116 (Mbt 1 [] 2 [] []) 29 (Mao 16 []) (Mbc l m [])))
def Mke (a:Int)(b:L1)(c d e f g h i j k l m:L2):St:=Ma6 86 0 0 1 a (MaR 5 13 7 14 []) (McP b 3 4 5 6 7 8 9 10 11 29 12 c d e f g h i j k (Mad (MaX l) (.var 116 (Mbt 1 [] 2 [] [])) (MbG 15 m [])))
theorem aiG (Λ:FuncId->Nat->Option aB) (d:Nat) (z:L1) (fs qs xs ts rs us es ks ns cs td:L2) (i:Int) (k:Out->St->Prop):(round (ai TP { Γ:=gj,Λ:=Λ,Τ:=agR,pop:=fun t=>Nat.beq t 29,back:=fun f=>Nat.beq f 153 } d) bV 13 0 (lp TP bV 0) (ahh z fs qs xs ts rs us es ks ns cs td i) k) =(∀a,MdP a td (Mek td) (∀b,Mfj b ns a (∀c,Mfk c ns a (∀e,MfM e ns a (∀f,MfN f ns a (∀g,MhB g td td td (∀j,Mi8 j a ns (∀l,MhI l Med (Mfg b c e f) [] (∀m,Mbw m (k .normal (Mke i z xs ts rs us es ks ns cs fs qs (Mjk td))) (∀n,MhW n l (Mkb f td e (MjT c td f e b (k .normal (Mke i z xs ts rs us es ks ns cs fs qs (MjH td f e c b))) (k .normal (Mke i z xs ts rs us es ks ns cs fs qs (Mjl td f e c))) (k .normal (Mke i z xs ts rs us es ks ns cs fs qs (Mjl td f e b))) (k .normal (Mke i z xs ts rs us es ks ns cs fs qs (Mjb td f e)))) (Mjs c td f b (k .normal (Mke i z xs ts rs us es ks ns cs fs qs (Mjl td f c b))) (k .normal (Mke i z xs ts rs us es ks ns cs fs qs (Mjb td f c))) (k .normal (Mke i z xs ts rs us es ks ns cs fs qs (Mjb td f b))) (k .normal (Mke i z xs ts rs us es ks ns cs fs qs (Mjf td f)))) (Mjs c td e b (k .normal (Mke i z xs ts rs us es ks ns cs fs qs (Mjl td e c b))) (k .normal (Mke i z xs ts rs us es ks ns cs fs qs (Mjb td e c))) (k .normal (Mke i z xs ts rs us es ks ns cs fs qs (Mjb td e b))) (k .normal (Mke i z xs ts rs us es ks ns cs fs qs (Mjf td e)))) c b (k .normal (Mke i z xs ts rs us es ks ns cs fs qs (Mjb td c b))) (k .normal (Mke i z xs ts rs us es ks ns cs fs qs (Mjf td c))) (k .normal (Mke i z xs ts rs us es ks ns cs fs qs (Mjf td b))) m) td 0 (Mdm g g (Mhk td td td) j j (br (MiH b c e f) (∃o:L1,∃p:L1,∃q:L2,∃r:L2,∃s:L2,∃t:L2,∃u:L2,∃v:L2,∃w:L2,∃x:L2,∃y:L2,∃a1:L2,∃b1:Int,MeE (agG (MiY ns a 8 i []) (Mj9 z xs ts rs us es ks ns cs fs qs) o p q r s t u v w x y a1 b1) (uy (afS p x) b1) (k .normal (Mj7 i o s t u v w x y a1 q (r++gy (afS p x) b1) (Mjk td))) (k .normal (Mke i o s t u v w x y a1 q r (Mjk td)))) (Mh8 ns a 8 i (Miw z xs ts rs us es ks ns cs) (MhN ns a ns a ks i) (∃o:L1,∃p:L2,∃q:L2,∃r:L2,∃s:L2,∃t:L2,∃u:L2,∃v:L2,∃w:L2,∃x:Int,∃y:Int,MiQ a i [] (Miw z xs ts rs us es ks ns cs) o p q r s t u v w x y/\Mci (Mb0 o p w x y) 0 (Md5 o p w x y (∃a1:Int,∃b1:L2,Mig a 0 1 fs [] a1 b1 (Md5 o p w x y (k .normal (Mgo i z xs ts rs us es ks ns cs qs b1 a1 (Mjk td))) (l/\Mkb f td e (MjT c td f e b (k .normal (Mgo i z xs ts rs us es ks ns cs qs b1 a1 (MjH td f e c b))) (k .normal (MhF i z xs ts rs us es ks ns cs qs b1 a1 td td f e c)) (k .normal (MhF i z xs ts rs us es ks ns cs qs b1 a1 td td f e b)) (k .normal (Mgp i z xs ts rs us es ks ns cs qs b1 a1 td td f e))) (Mjs c td f b (k .normal (MhF i z xs ts rs us es ks ns cs qs b1 a1 td td f c b)) (k .normal (Mgp i z xs ts rs us es ks ns cs qs b1 a1 td td f c)) (k .normal (Mgp i z xs ts rs us es ks ns cs qs b1 a1 td td f b)) (k .normal (Mhp i z xs ts rs us es ks ns cs qs b1 a1 td td f))) (Mjs c td e b (k .normal (MhF i z xs ts rs us es ks ns cs qs b1 a1 td td e c b)) (k .normal (Mgp i z xs ts rs us es ks ns cs qs b1 a1 td td e c)) (k .normal (Mgp i z xs ts rs us es ks ns cs qs b1 a1 td td e b)) (k .normal (Mhp i z xs ts rs us es ks ns cs qs b1 a1 td td e))) c b (k .normal (Mgp i z xs ts rs us es ks ns cs qs b1 a1 td td c b)) (k .normal (Mhp i z xs ts rs us es ks ns cs qs b1 a1 td td c)) (k .normal (Mhp i z xs ts rs us es ks ns cs qs b1 a1 td td b)) (k .normal (Mgo i z xs ts rs us es ks ns cs qs b1 a1 (Mjk td)))))) (McA (Mb0 o p w x y) (k .ret (Miu o p w x y (Mj9 z xs ts rs us es ks ns cs fs qs))) (Md5 o p w x y m n))) (McA (Mb0 o p w x y) (k .ret (Miu o p w x y (Mj9 z xs ts rs us es ks ns cs fs qs))) (Md5 o p w x y m n))) n))) (k MbT (MaH 86 [] (Mj9 z xs ts rs us es ks ns cs fs qs))))))))))))) :=by delta Maa Mab Mad Mah Mai Maj Mak Mam Man Mao Maq Mar Mas Mau Mav Max Maz MaA MaD MaE MaG MaH MaI MaJ MaM MaO MaR MaS MaV MaW MaX MaZ Ma0 Ma1 Ma2 Ma3 Ma6 Mbb Mbc Mbe Mbf Mbh Mbk Mbp Mbt Mbw Mbx MbG Mi5 MbO MbP MbT MbY Mb0 Mb6 Mci Mcs Mcw McA McP Mc4 Mc9 Mdh Mdm Mdy MdB MdD MdO MdP Md5 Md6 Mea Med Mek MeE Mfg Mfj Mfk MfK MfM MfN Mi7 Mgo Mgp Mhk Mhp MhB MhF MhI MhM MhN MhW Mh8 Mig Miu Miw MiH MiQ MiY Mi8 Mjb Mjf Mjk Mjl Mjs MjH MjT Mj7 Mj9 Mkb Mke; (iterate 10 refine nm ?_); kernel_rfl
def ahC (z:L1) (fs qs xs ts rs us es ks ns cs td:L2) (i:Int):St:=⟨T 86 [(0,.ptr 0 0),(1,.int .i64 i),(5,.ptr 13 0),(7,.ptr 14 0)],nX z 11 15 (b9 fs) none xs ts rs us es ks ns cs++[c9,some (.var 29 [.sl 16]),b9 qs,b9 td]⟩
def Mgq (a:Int)(b:L1)(c d e f g h i j k:L2)(l:Int)(m n:L2):St:=MbY 0 0 1 a 5 13 7 14 [] b 3 4 5 6 7 8 9 10 29 15 16 c d e f g h i j (MbZ 116 Mi7 (MbG 17 (k++[[l]]) (Mbc m n [])))
def Mgr (a:Int)(b:L1)(c d e f g h i j k:L2)(l:Int)(m n o:L2)(p q:Int):St:=Mgq a b c d e f g h i j k l m (MbO n o p q)
def Mhq (a:Int)(b:L1)(c d e f g h i j k:L2)(l:Int)(m n o:L2)(p:Int):St:=Mgq a b c d e f g h i j k l m (Mcs n o p)
def MhG (a:Int)(b:L1)(c d e f g h i j k:L2)(l:Int)(m n o:L2)(p q r:Int):St:=Mgq a b c d e f g h i j k l m (Mi5 (MbO n o p q) r)
theorem aiF (Λ:FuncId->Nat->Option aB) (d:Nat) (z:L1) (fs qs xs ts rs us es ks ns cs td:L2) (i:Int) (k:Out->St->Prop):(round (ai TP { Γ:=gj,Λ:=Λ,Τ:=agR,pop:=fun t=>Nat.beq t 29,back:=fun f=>Nat.beq f 153 } d) bV 13 0 (lp TP bV 0) (ahC z fs qs xs ts rs us es ks ns cs td i) k) =(∀a,MdP a td (Mek td) (∀b,Mfj b ns a (∀c,Mfk c ns a (∀e,MfM e ns a (∀f,MfN f ns a (∀g,MhB g td td td (∀j,Mi8 j a ns (∀l,MhI l Med (Mfg b c e f) [] (∀m,Mbw m (k .normal (Mj7 i z xs ts rs us es ks ns cs fs qs (Mjk td))) (∀n,MhW n l (Mkb f td e (MjT c td f e b (k .normal (Mj7 i z xs ts rs us es ks ns cs fs qs (MjH td f e c b))) (k .normal (Mj7 i z xs ts rs us es ks ns cs fs qs (Mjl td f e c))) (k .normal (Mj7 i z xs ts rs us es ks ns cs fs qs (Mjl td f e b))) (k .normal (Mj7 i z xs ts rs us es ks ns cs fs qs (Mjb td f e)))) (Mjs c td f b (k .normal (Mj7 i z xs ts rs us es ks ns cs fs qs (Mjl td f c b))) (k .normal (Mj7 i z xs ts rs us es ks ns cs fs qs (Mjb td f c))) (k .normal (Mj7 i z xs ts rs us es ks ns cs fs qs (Mjb td f b))) (k .normal (Mj7 i z xs ts rs us es ks ns cs fs qs (Mjf td f)))) (Mjs c td e b (k .normal (Mj7 i z xs ts rs us es ks ns cs fs qs (Mjl td e c b))) (k .normal (Mj7 i z xs ts rs us es ks ns cs fs qs (Mjb td e c))) (k .normal (Mj7 i z xs ts rs us es ks ns cs fs qs (Mjb td e b))) (k .normal (Mj7 i z xs ts rs us es ks ns cs fs qs (Mjf td e)))) c b (k .normal (Mj7 i z xs ts rs us es ks ns cs fs qs (Mjb td c b))) (k .normal (Mj7 i z xs ts rs us es ks ns cs fs qs (Mjf td c))) (k .normal (Mj7 i z xs ts rs us es ks ns cs fs qs (Mjf td b))) m) td 0 (Mdm g g (Mhk td td td) j j (br (MiH b c e f) (∃o:L1,∃p:L1,∃q:L2,∃r:L2,∃s:L2,∃t:L2,∃u:L2,∃v:L2,∃w:L2,∃x:L2,∃y:L2,∃a1:L2,∃b1:Int,MeE (agG (MiY ns a 8 i []) (Mj9 z xs ts rs us es ks ns cs fs qs) o p q r s t u v w x y a1 b1) (uy (afS p x) b1) (k .normal (Mj7 i o s t u v w x y a1 q (r++gy (afS p x) b1) (Mjk td))) (k .normal (Mj7 i o s t u v w x y a1 q r (Mjk td)))) (Mh8 ns a 8 i (Miw z xs ts rs us es ks ns cs) (MhN ns a ns a ks i) (∃o:L1,∃p:L2,∃q:L2,∃r:L2,∃s:L2,∃t:L2,∃u:L2,∃v:L2,∃w:L2,∃x:Int,∃y:Int,MiQ a i [] (Miw z xs ts rs us es ks ns cs) o p q r s t u v w x y/\Mci (Mb0 o p w x y) 0 (Md5 o p w x y (∃a1:Int,∃b1:L2,Mig a 0 1 fs [] a1 b1 (Md5 o p w x y (k .normal (Mgq i z xs ts rs us es ks ns cs b1 a1 qs (Mjk td))) (l/\Mkb f td e (MjT c td f e b (k .normal (Mgq i z xs ts rs us es ks ns cs b1 a1 qs (MjH td f e c b))) (k .normal (MhG i z xs ts rs us es ks ns cs b1 a1 qs td td f e c)) (k .normal (MhG i z xs ts rs us es ks ns cs b1 a1 qs td td f e b)) (k .normal (Mgr i z xs ts rs us es ks ns cs b1 a1 qs td td f e))) (Mjs c td f b (k .normal (MhG i z xs ts rs us es ks ns cs b1 a1 qs td td f c b)) (k .normal (Mgr i z xs ts rs us es ks ns cs b1 a1 qs td td f c)) (k .normal (Mgr i z xs ts rs us es ks ns cs b1 a1 qs td td f b)) (k .normal (Mhq i z xs ts rs us es ks ns cs b1 a1 qs td td f))) (Mjs c td e b (k .normal (MhG i z xs ts rs us es ks ns cs b1 a1 qs td td e c b)) (k .normal (Mgr i z xs ts rs us es ks ns cs b1 a1 qs td td e c)) (k .normal (Mgr i z xs ts rs us es ks ns cs b1 a1 qs td td e b)) (k .normal (Mhq i z xs ts rs us es ks ns cs b1 a1 qs td td e))) c b (k .normal (Mgr i z xs ts rs us es ks ns cs b1 a1 qs td td c b)) (k .normal (Mhq i z xs ts rs us es ks ns cs b1 a1 qs td td c)) (k .normal (Mhq i z xs ts rs us es ks ns cs b1 a1 qs td td b)) (k .normal (Mgq i z xs ts rs us es ks ns cs b1 a1 qs (Mjk td)))))) (McA (Mb0 o p w x y) (k .ret (Miu o p w x y (Mji z xs ts rs us es ks ns cs fs (Mfq qs [])))) (Md5 o p w x y m n))) (McA (Mb0 o p w x y) (k .ret (Miu o p w x y (Mji z xs ts rs us es ks ns cs fs (Mfq qs [])))) (Md5 o p w x y m n))) n))) (k MbT (MaH 86 [] (Mji z xs ts rs us es ks ns cs fs (Mfq qs [])))))))))))))) :=by delta Maa Mab Mad Mah Mai Maj Mak Mam Man Mao Maq Mar Mas Mau Mav Max Maz MaA MaD MaE MaG MaH MaI MaJ MaM MaO MaR MaS MaV MaW MaX MaZ Ma0 Ma1 Ma2 Ma3 Ma6 Mbb Mbc Mbe Mbf Mbh Mbk Mbp Mbt Mbw Mbx MbG Mi5 MbO MbP MbT MbY MbZ Mb0 Mb6 Mci Mcs Mcw McA McP Mc4 Mc9 Mdh Mdm Mdy MdB MdD MdO MdP Md5 Md6 Mea Med Mek MeE Mfg Mfj Mfk Mfq MfK MfM MfN Mi7 Mgq Mgr Mhk Mhq MhB MhG MhI MhM MhN MhW Mh8 Mig Miu Miw MiH MiQ MiY Mi8 Mjb Mjf Mji Mjk Mjl Mjs MjH MjT Mj7 Mj9 Mkb; (iterate 10 refine nm ?_); kernel_rfl
def ahB (z:L1) (fs qs xs ts rs us es ks ns cs td:L2) (i:Int):St:=⟨T 86 [(0,.ptr 0 0),(1,.int .i64 i),(5,.ptr 13 0),(7,.ptr 14 0)],nX z 15 12 none (b9 qs) xs ts rs us es ks ns cs++[c9,some (.var 29 [.sl 16]),b9 fs,b9 td]⟩
def MgU (a:L1)(b c d e f g h i j k:Nat)(l m n o p q r s:L2)(t:OB):OB:=MaE 149 (kA a b c d e f g h 10) (Mav i (Mao j []) 29 (Mao k []) (Mbb l m n o p q r s (Option.none::t)))
def Mj6 (a:Int)(b:L1)(c d e f g h i j k l m:L2):St:=MbY 0 0 1 a 5 13 7 14 [] b 3 4 5 6 7 8 9 10 29 15 16 c d e f g h i j (MbZ 116 (Mbt 1 [] 2 [] []) (MbG 17 k (Mbc l m [])))
def Mkn (a:Int)(b:L1)(c d e f g h i j k l m:L2):St:=MbY 0 0 1 a 5 13 7 14 [] b 3 4 5 6 7 8 9 10 29 15 12 c d e f g h i j (Mab (MaX k) (Mav 116 (Mbt 1 [] 2 [] []) 29 (Mao 16 []) (Mbc l m [])))
theorem aiE (Λ:FuncId->Nat->Option aB) (d:Nat) (z:L1) (fs qs xs ts rs us es ks ns cs td:L2) (i:Int) (k:Out->St->Prop):(round (ai TP { Γ:=gj,Λ:=Λ,Τ:=agR,pop:=fun t=>Nat.beq t 29,back:=fun f=>Nat.beq f 153 } d) bV 13 0 (lp TP bV 0) (ahB z fs qs xs ts rs us es ks ns cs td i) k) =(∀a,MdP a td (Mek td) (∀b,Mfj b ns a (∀c,Mfk c ns a (∀e,MfM e ns a (∀f,MfN f ns a (∀g,MhB g td td td (∀j,Mi8 j a ns (∀l,MhI l Med (Mfg b c e f) [] (∀m,Mbw m (k .normal (Mkn i z xs ts rs us es ks ns cs qs fs (Mjk td))) (∀n,MhW n l (Mkb f td e (MjT c td f e b (k .normal (Mkn i z xs ts rs us es ks ns cs qs fs (MjH td f e c b))) (k .normal (Mkn i z xs ts rs us es ks ns cs qs fs (Mjl td f e c))) (k .normal (Mkn i z xs ts rs us es ks ns cs qs fs (Mjl td f e b))) (k .normal (Mkn i z xs ts rs us es ks ns cs qs fs (Mjb td f e)))) (Mjs c td f b (k .normal (Mkn i z xs ts rs us es ks ns cs qs fs (Mjl td f c b))) (k .normal (Mkn i z xs ts rs us es ks ns cs qs fs (Mjb td f c))) (k .normal (Mkn i z xs ts rs us es ks ns cs qs fs (Mjb td f b))) (k .normal (Mkn i z xs ts rs us es ks ns cs qs fs (Mjf td f)))) (Mjs c td e b (k .normal (Mkn i z xs ts rs us es ks ns cs qs fs (Mjl td e c b))) (k .normal (Mkn i z xs ts rs us es ks ns cs qs fs (Mjb td e c))) (k .normal (Mkn i z xs ts rs us es ks ns cs qs fs (Mjb td e b))) (k .normal (Mkn i z xs ts rs us es ks ns cs qs fs (Mjf td e)))) c b (k .normal (Mkn i z xs ts rs us es ks ns cs qs fs (Mjb td c b))) (k .normal (Mkn i z xs ts rs us es ks ns cs qs fs (Mjf td c))) (k .normal (Mkn i z xs ts rs us es ks ns cs qs fs (Mjf td b))) m) td 0 (Mdm g g (Mhk td td td) j j (br (MiH b c e f) (∃o:L1,∃p:L1,∃q:L2,∃r:L2,∃s:L2,∃t:L2,∃u:L2,∃v:L2,∃w:L2,∃x:L2,∃y:L2,∃a1:L2,∃b1:Int,MeE (agG (MiY ns a 8 i []) (Mj9 z xs ts rs us es ks ns cs fs qs) o p q r s t u v w x y a1 b1) (uy (afS p x) b1) (k .normal (Mj6 i o s t u v w x y a1 q (r++gy (afS p x) b1) (Mjk td))) (k .normal (Mkn i o s t u v w x y a1 r q (Mjk td)))) (Mh8 ns a 8 i (Miw z xs ts rs us es ks ns cs) (MhN ns a ns a ks i) (∃o:L1,∃p:L2,∃q:L2,∃r:L2,∃s:L2,∃t:L2,∃u:L2,∃v:L2,∃w:L2,∃x:Int,∃y:Int,MiQ a i [] (Miw z xs ts rs us es ks ns cs) o p q r s t u v w x y/\Mci (Mb0 o p w x y) 0 (Md5 o p w x y (∃a1:Int,∃b1:L2,Mig a 0 1 fs [] a1 b1 (Md5 o p w x y (k .normal (Mgo i z xs ts rs us es ks ns cs qs b1 a1 (Mjk td))) (l/\Mkb f td e (MjT c td f e b (k .normal (Mgo i z xs ts rs us es ks ns cs qs b1 a1 (MjH td f e c b))) (k .normal (MhF i z xs ts rs us es ks ns cs qs b1 a1 td td f e c)) (k .normal (MhF i z xs ts rs us es ks ns cs qs b1 a1 td td f e b)) (k .normal (Mgp i z xs ts rs us es ks ns cs qs b1 a1 td td f e))) (Mjs c td f b (k .normal (MhF i z xs ts rs us es ks ns cs qs b1 a1 td td f c b)) (k .normal (Mgp i z xs ts rs us es ks ns cs qs b1 a1 td td f c)) (k .normal (Mgp i z xs ts rs us es ks ns cs qs b1 a1 td td f b)) (k .normal (Mhp i z xs ts rs us es ks ns cs qs b1 a1 td td f))) (Mjs c td e b (k .normal (MhF i z xs ts rs us es ks ns cs qs b1 a1 td td e c b)) (k .normal (Mgp i z xs ts rs us es ks ns cs qs b1 a1 td td e c)) (k .normal (Mgp i z xs ts rs us es ks ns cs qs b1 a1 td td e b)) (k .normal (Mhp i z xs ts rs us es ks ns cs qs b1 a1 td td e))) c b (k .normal (Mgp i z xs ts rs us es ks ns cs qs b1 a1 td td c b)) (k .normal (Mhp i z xs ts rs us es ks ns cs qs b1 a1 td td c)) (k .normal (Mhp i z xs ts rs us es ks ns cs qs b1 a1 td td b)) (k .normal (Mgo i z xs ts rs us es ks ns cs qs b1 a1 (Mjk td)))))) (McA (Mb0 o p w x y) (k .ret (Miu o p w x y (MgU z 3 4 5 6 7 8 9 29 13 12 xs ts rs us es ks ns cs (Mbc qs fs [])))) (Md5 o p w x y m n))) (McA (Mb0 o p w x y) (k .ret (Miu o p w x y (MgU z 3 4 5 6 7 8 9 29 13 12 xs ts rs us es ks ns cs (Mbc qs fs [])))) (Md5 o p w x y m n))) n))) (k MbT (MaH 86 [] (MgU z 3 4 5 6 7 8 9 29 13 12 xs ts rs us es ks ns cs (Mbc qs fs [])))))))))))))) :=by delta Maa Mab Mad Mah Mai Maj Mak Mam Man Mao Maq Mar Mas Mau Mav Max Maz MaA MaD MaE MaG MaH MaI MaJ MaM MaO MaR MaS MaV MaW MaX MaZ Ma0 Ma1 Ma2 Ma3 Ma6 Mbb Mbc Mbe Mbf Mbh Mbk Mbp Mbt Mbw Mbx MbG Mi5 MbO MbP MbT MbY MbZ Mb0 Mci Mcs Mcw McA Mc4 Mc9 Mdh Mdm Mdy MdB MdD MdO MdP Md5 Md6 Mea Med Mek MeE Mfg Mfj Mfk MfK MfM MfN Mi7 Mgo Mgp MgU Mhk Mhp MhB MhF MhI MhM MhN MhW Mh8 Mig Miu Miw MiH MiQ MiY Mi8 Mjb Mjf Mjk Mjl Mjs MjH MjT Mj6 Mj9 Mkb Mkn; (iterate 10 refine nm ?_); kernel_rfl
def ahA (z:L1) (fs qs xs ts rs us es ks ns cs td:L2) (i:Int):St:=⟨T 86 [(0,.ptr 0 0),(1,.int .i64 i),(5,.ptr 13 0),(7,.ptr 14 0)],nX z 15 16 none none xs ts rs us es ks ns cs++[c9,some (.var 29 [.sl 17]),b9 fs,b9 qs,b9 td]⟩
def Mg8 (a b:L2):OB:=Option.none::Mbc a b []
theorem aiD (Λ:FuncId->Nat->Option aB) (d:Nat) (z:L1) (fs qs xs ts rs us es ks ns cs td:L2) (i:Int) (k:Out->St->Prop):(round (ai TP { Γ:=gj,Λ:=Λ,Τ:=agR,pop:=fun t=>Nat.beq t 29,back:=fun f=>Nat.beq f 153 } d) bV 13 0 (lp TP bV 0) (ahA z fs qs xs ts rs us es ks ns cs td i) k) =(∀a,MdP a td (Mek td) (∀b,Mfj b ns a (∀c,Mfk c ns a (∀e,MfM e ns a (∀f,MfN f ns a (∀g,MhB g td td td (∀j,Mi8 j a ns (∀l,MhI l Med (Mfg b c e f) [] (∀m,Mbw m (k .normal (Mj6 i z xs ts rs us es ks ns cs fs qs (Mjk td))) (∀n,MhW n l (Mkb f td e (MjT c td f e b (k .normal (Mj6 i z xs ts rs us es ks ns cs fs qs (MjH td f e c b))) (k .normal (Mj6 i z xs ts rs us es ks ns cs fs qs (Mjl td f e c))) (k .normal (Mj6 i z xs ts rs us es ks ns cs fs qs (Mjl td f e b))) (k .normal (Mj6 i z xs ts rs us es ks ns cs fs qs (Mjb td f e)))) (Mjs c td f b (k .normal (Mj6 i z xs ts rs us es ks ns cs fs qs (Mjl td f c b))) (k .normal (Mj6 i z xs ts rs us es ks ns cs fs qs (Mjb td f c))) (k .normal (Mj6 i z xs ts rs us es ks ns cs fs qs (Mjb td f b))) (k .normal (Mj6 i z xs ts rs us es ks ns cs fs qs (Mjf td f)))) (Mjs c td e b (k .normal (Mj6 i z xs ts rs us es ks ns cs fs qs (Mjl td e c b))) (k .normal (Mj6 i z xs ts rs us es ks ns cs fs qs (Mjb td e c))) (k .normal (Mj6 i z xs ts rs us es ks ns cs fs qs (Mjb td e b))) (k .normal (Mj6 i z xs ts rs us es ks ns cs fs qs (Mjf td e)))) c b (k .normal (Mj6 i z xs ts rs us es ks ns cs fs qs (Mjb td c b))) (k .normal (Mj6 i z xs ts rs us es ks ns cs fs qs (Mjf td c))) (k .normal (Mj6 i z xs ts rs us es ks ns cs fs qs (Mjf td b))) m) td 0 (Mdm g g (Mhk td td td) j j (br (MiH b c e f) (∃o:L1,∃p:L1,∃q:L2,∃r:L2,∃s:L2,∃t:L2,∃u:L2,∃v:L2,∃w:L2,∃x:L2,∃y:L2,∃a1:L2,∃b1:Int,MeE (agG (MiY ns a 8 i []) (Mj9 z xs ts rs us es ks ns cs fs qs) o p q r s t u v w x y a1 b1) (uy (afS p x) b1) (k .normal (Mj6 i o s t u v w x y a1 q (r++gy (afS p x) b1) (Mjk td))) (k .normal (Mj6 i o s t u v w x y a1 q r (Mjk td)))) (Mh8 ns a 8 i (Miw z xs ts rs us es ks ns cs) (MhN ns a ns a ks i) (∃o:L1,∃p:L2,∃q:L2,∃r:L2,∃s:L2,∃t:L2,∃u:L2,∃v:L2,∃w:L2,∃x:Int,∃y:Int,MiQ a i [] (Miw z xs ts rs us es ks ns cs) o p q r s t u v w x y/\Mci (Mb0 o p w x y) 0 (Md5 o p w x y (∃a1:Int,∃b1:L2,Mig a 0 1 fs [] a1 b1 (Md5 o p w x y (k .normal (Mgq i z xs ts rs us es ks ns cs b1 a1 qs (Mjk td))) (l/\Mkb f td e (MjT c td f e b (k .normal (Mgq i z xs ts rs us es ks ns cs b1 a1 qs (MjH td f e c b))) (k .normal (MhG i z xs ts rs us es ks ns cs b1 a1 qs td td f e c)) (k .normal (MhG i z xs ts rs us es ks ns cs b1 a1 qs td td f e b)) (k .normal (Mgr i z xs ts rs us es ks ns cs b1 a1 qs td td f e))) (Mjs c td f b (k .normal (MhG i z xs ts rs us es ks ns cs b1 a1 qs td td f c b)) (k .normal (Mgr i z xs ts rs us es ks ns cs b1 a1 qs td td f c)) (k .normal (Mgr i z xs ts rs us es ks ns cs b1 a1 qs td td f b)) (k .normal (Mhq i z xs ts rs us es ks ns cs b1 a1 qs td td f))) (Mjs c td e b (k .normal (MhG i z xs ts rs us es ks ns cs b1 a1 qs td td e c b)) (k .normal (Mgr i z xs ts rs us es ks ns cs b1 a1 qs td td e c)) (k .normal (Mgr i z xs ts rs us es ks ns cs b1 a1 qs td td e b)) (k .normal (Mhq i z xs ts rs us es ks ns cs b1 a1 qs td td e))) c b (k .normal (Mgr i z xs ts rs us es ks ns cs b1 a1 qs td td c b)) (k .normal (Mhq i z xs ts rs us es ks ns cs b1 a1 qs td td c)) (k .normal (Mhq i z xs ts rs us es ks ns cs b1 a1 qs td td b)) (k .normal (Mgq i z xs ts rs us es ks ns cs b1 a1 qs (Mjk td)))))) (McA (Mb0 o p w x y) (k .ret (Miu o p w x y (MgU z 3 4 5 6 7 8 9 29 13 14 xs ts rs us es ks ns cs (Mg8 fs qs)))) (Md5 o p w x y m n))) (McA (Mb0 o p w x y) (k .ret (Miu o p w x y (MgU z 3 4 5 6 7 8 9 29 13 14 xs ts rs us es ks ns cs (Mg8 fs qs)))) (Md5 o p w x y m n))) n))) (k MbT (MaH 86 [] (MgU z 3 4 5 6 7 8 9 29 13 14 xs ts rs us es ks ns cs (Mg8 fs qs)))))))))))))) :=by delta Maa Mab Mad Mah Mai Maj Mak Mam Man Mao Maq Mar Mas Mau Mav Max Maz MaA MaD MaE MaG MaH MaI MaJ MaM MaO MaR MaS MaV MaW MaX MaZ Ma0 Ma1 Ma2 Ma3 Ma6 Mbb Mbc Mbe Mbf Mbh Mbk Mbp Mbt Mbw Mbx MbG Mi5 MbO MbP MbT MbY MbZ Mb0 Mci Mcs Mcw McA Mc4 Mc9 Mdh Mdm Mdy MdB MdD MdO MdP Md5 Md6 Mea Med Mek MeE Mfg Mfj Mfk MfK MfM MfN Mi7 Mgq Mgr MgU Mg8 Mhk Mhq MhB MhG MhI MhM MhN MhW Mh8 Mig Miu Miw MiH MiQ MiY Mi8 Mjb Mjf Mjk Mjl Mjs MjH MjT Mj6 Mj9 Mkb; (iterate 10 refine nm ?_); kernel_rfl
def hV (z:L1) (xs ks ns cs:L2) (i:Int):Nat->L2 × L2->(L2 × L2) × Int:=Cm nY ns ks (fun n=>yE z xs cs n i.toNat) (fun n=>E4 z xs cs n i.toNat) i
def c8 (z:L1) (xs ks ns cs:L2) (i:Int) (fs qs:L2):(L2 × L2) × Int:=dF (hV z xs ks ns cs i) [0] (fs,qs)
def c5 (a b:L2):Bool:=decide (a.length≠b.length)
def ain (z:L1) (fs qs xs ks ns cs:L2) (i:Int):Prop:=qc z xs ks ns cs/\(fs.length<=1000/\qs.length<=1000)/\0<=i/\i < xs.length
def pWs (n0:Nat) (st:St) (z:L1) (fs qs xs ts rs us es ks ns cs:L2) (i:Int):Prop:=ain z fs qs xs ks ns cs i/\n0=13/\st=ahh z fs qs xs ts rs us es ks ns cs [[0]] i
def Lws:aB:=fun n0 st K=>∃z fs qs xs ts rs us es ks ns cs i,pWs n0 st z fs qs xs ts rs us es ks ns cs i/\∃R,R=c8 z xs ks ns cs i fs qs/\br (c5 R.1.1 fs) (br (c5 R.1.2 qs) (br (R.2 != 0) (K .ret ⟨T 86 [(6,.int .i64 R.2)],nX z 13 14 none none xs ts rs us es ks ns cs++[b9 R.1.1,b9 R.1.2]⟩) (K (.exit 0) ⟨T 86 [],nX z 13 14 none none xs ts rs us es ks ns cs++[b9 R.1.1,b9 R.1.2]⟩)) (br (R.2 != 0) (K .ret ⟨T 86 [(6,.int .i64 R.2)],nX z 13 12 none (b9 R.1.2) xs ts rs us es ks ns cs++[b9 R.1.1]⟩) (K (.exit 0) ⟨T 86 [],nX z 13 12 none (b9 R.1.2) xs ts rs us es ks ns cs++[b9 R.1.1]⟩))) (br (c5 R.1.2 qs) (br (R.2 != 0) (K .ret ⟨T 86 [(6,.int .i64 R.2)],nX z 11 13 (b9 R.1.1) none xs ts rs us es ks ns cs++[b9 R.1.2]⟩) (K (.exit 0) ⟨T 86 [],nX z 11 13 (b9 R.1.1) none xs ts rs us es ks ns cs++[b9 R.1.2]⟩)) (br (R.2 != 0) (K .ret ⟨T 86 [(6,.int .i64 R.2)],nX z 11 12 (b9 R.1.1) (b9 R.1.2) xs ts rs us es ks ns cs⟩) (K (.exit 0) ⟨T 86 [],nX z 11 12 (b9 R.1.1) (b9 R.1.2) xs ts rs us es ks ns cs⟩)))
def er:Know:={ Γ:=gj,Λ:=fun f i=>if f=bV then (if i=0 then some Lws else none) else none,Τ:=agR,pop:=fun t=>Nat.beq t 29,back:=fun f=>Nat.beq f 153 }
def Mb8 (a:(L2 × L2) × Int):L2:=a.1.2
def Mcj (a:(L2 × L2) × Int):L2:=a.1.1
abbrev MdX (a:(L2 × L2) × Int)(b c:Prop):Prop:=McA a.2 b c
theorem ahF (z:L1) (fs qs xs ts rs us es ks ns cs:L2) (i:Int) (K:IV->OB->Prop):(bQ TP er 3 bV [.ptr 0 0,.int .i64 i,ahE] (nX z 11 12 (b9 fs) (b9 qs) xs ts rs us es ks ns cs) fun v b1=>ld 13 v b1 K) =(∃a:L1,∃b:L2,∃c:L2,∃d:L2,∃e:L2,∃f:L2,∃g:L2,∃j:L2,∃k:L2,∃l:L2,∃m:L2,∃n:Int,pWs 13 (Ma6 86 0 0 1 i (MaR 5 13 7 14 []) (McP z 3 4 5 6 7 8 9 10 11 29 12 xs ts rs us es ks ns cs fs (Mad (MaX qs) (.var 116 (Mbt 1 [] 2 [] [])) (MbG 15 [[0]] [])))) a b c d e f g j k l m n/\(∃o:(L2 × L2) × Int,MeE (o=c8 a d k l m n b c) (c5 (Mcj o) b) (br (c5 (Mb8 o) c) (MdX o (K (Maa o.2) (MgU a 3 4 5 6 7 8 9 29 13 14 d e f g j k l m (Mg8 (Mcj o) (Mb8 o)))) (K Mew (MgU a 3 4 5 6 7 8 9 29 13 14 d e f g j k l m (Mg8 (Mcj o) (Mb8 o))))) (MdX o (K (Maa o.2) (MgU a 3 4 5 6 7 8 9 29 13 12 d e f g j k l m (Mbc (Mb8 o) (Mcj o) []))) (K Mew (MgU a 3 4 5 6 7 8 9 29 13 12 d e f g j k l m (Mbc (Mb8 o) (Mcj o) []))))) (br (c5 (Mb8 o) c) (MdX o (K (Maa o.2) (Mji a d e f g j k l m (Mcj o) (Mfq (Mb8 o) []))) (K Mew (Mji a d e f g j k l m (Mcj o) (Mfq (Mb8 o) [])))) (MdX o (K (Maa o.2) (Mj9 a d e f g j k l m (Mcj o) (Mb8 o))) (K Mew (Mj9 a d e f g j k l m (Mcj o) (Mb8 o))))))) :=by kernel_rfl
def ahq (args:List IV) (b:OB) (z:L1) (fs qs xs ts rs us es ks ns cs:L2) (i:Int):Prop:=args=[.ptr 0 0,.int .i64 i,ahE]/\b=nX z 11 12 (b9 fs) (b9 qs) xs ts rs us es ks ns cs/\ain z fs qs xs ks ns cs i
def Gws:eG:=fun args b K=>∃z fs qs xs ts rs us es ks ns cs i,ahq args b z fs qs xs ts rs us es ks ns cs i/\∃R,R=c8 z xs ks ns cs i fs qs/\br (c5 R.1.1 fs) (br (c5 R.1.2 qs) (K (.int .i64 R.2) (nX z 13 14 none none xs ts rs us es ks ns cs++[b9 R.1.1,b9 R.1.2])) (K (.int .i64 R.2) (nX z 13 12 none (b9 R.1.2) xs ts rs us es ks ns cs++[b9 R.1.1]))) (br (c5 R.1.2 qs) (K (.int .i64 R.2) (nX z 11 13 (b9 R.1.1) none xs ts rs us es ks ns cs++[b9 R.1.2])) (K (.int .i64 R.2) (nX z 11 12 (b9 R.1.1) (b9 R.1.2) xs ts rs us es ks ns cs)))
section
open Go.IntWalk
theorem ahw:cf TP de ahW:=by
 refine cL (N:={ Γ:=gj,Λ:=fun _ _=>none,Τ:=fun _=>none }) 3 Al ?_
 rintro args b K ⟨n,fs,⟨rfl,rfl,hl⟩,hK⟩;show bQ _ _ _ _ _ _ fun v b1=>ld 2 v b1 K
 rw [ah5]; delta Maa Mab Mao Mau MaE MaX Mbh Mi5 Mew Mfq Mik;exact ⟨by omega,hK⟩
theorem ahf:cf TP cy ahW:=by
 refine cL (N:={ Γ:=gj,Λ:=fun _ _=>none,Τ:=fun _=>none }) 3 Al ?_
 rintro args b K ⟨n,fs,⟨rfl,rfl,hl⟩,hK⟩;show bQ _ _ _ _ _ _ fun v b1=>ld 2 v b1 K
 rw [ahG]; delta Maa Mab Mao Mau MaE MaX Mbh Mi5 Mew Mfq Mik;exact ⟨by omega,hK⟩
theorem ahv:∀ g G,ag2 g=some G->cf TP g G:=iB ahw (iB ahf (fun _ _ h=>Ir h))
def aij (z:L1) (fs xs ts rs us es ks ns cs ys:L2) (i:Int):Nat × L2 × Bool->St
 | (j,qs,false)=>ahV z fs qs xs ts rs us es ks ns cs ys i j
 | (j,qs,true)=>aik z fs qs xs ts rs us es ks ns cs ys i j
theorem agW {ys:L2} {j:Nat} (hj:j < ys.length) (i:Int):gy (ys.drop j) i=(if (ys.getD j []).getD 1 0=i then [] else [[(ys.getD j []).getD 1 0]])++gy (ys.drop (j+1)) i:=by
 rw [List.drop_eq_getElem_cons hj,acY hj];unfold gy;rw [List.filter_cons];by_cases h:ys[j].getD 1 0=i
 ·rw [if_neg (by simpa using h),if_pos h]; rfl
 ·rw [if_pos (by simpa using h),if_neg h]; rfl
theorem ag0 {ys:L2} {j:Nat} (hj:j < ys.length) (i:Int):uy (ys.take (j+1)) i=(uy (ys.take j) i || decide ((ys.getD j []).getD 1 0≠i)):=by
 have h2:ys.take (j+1)=ys.take j++[ys[j]]:=by simp
 rw [h2,acY hj];unfold uy;rw [List.any_append];simp
theorem lLs (d n0:Nat):aG (ai TP ft d) bK n0 0 (lp TP bK 0) wR:=by
 intro st K hst;obtain ⟨z,fs,qs0,xs,ts,rs,us,es,ks,ns,cs,ys,i,⟨hl,rfl,rfl⟩,hK⟩:=hst;rw [aL] at hK;refine aC (aij z fs xs ts rs us es ks ns cs ys i) (fun p=>p.1<=ys.length/\p.2.1++gy (ys.drop p.1) i=qs0++gy ys i/\p.2.2=uy (ys.take p.1) i/\(p.2.2=false->p.2.1=qs0)/\p.2.1.length+(ys.length - p.1)<=1000000) (fun p=>ys.length - p.1) ?_ (a:=(0,qs0,false)) ⟨Nat.zero_le _,rfl,rfl,fun _=>rfl,by show qs0.length+(ys.length - 0)<=1000000; omega⟩
 rintro ⟨j,qs,b⟩ ⟨hle,ho,hb,hf,hq⟩ k hn hk;simp only at hle ho hb hf hq;have stop:j=ys.length->qs=qs0++gy ys i/\b=uy ys i:=by
  intro hj;rw [hj,List.drop_length] at ho;rw [hj,List.take_length] at hb;exact ⟨by rw [← ho]; simp [gy],hb⟩
 have next:∀ b',j < ys.length->(ys.getD j []).getD 1 0=i->b' = b->k Out.normal (aij z fs xs ts rs us es ks ns cs ys i (j+1,qs,b')):=by
  rintro b' hj he rfl;refine hn (j+1,qs,b') ⟨hj,?_,?_,hf,by show qs.length+(ys.length - (j+1))<=1000000; omega⟩ (by show ys.length - (j+1) < ys.length - j; omega)
  ·rw [← ho,agW hj,if_pos he]; rfl
  ·show b' = uy (ys.take (j+1)) i;rw [ag0 hj,← hb,decide_eq_false (by simpa using he)]; simp
 have more:j < ys.length->(ys.getD j []).getD 1 0≠i->k Out.normal (aij z fs xs ts rs us es ks ns cs ys i (j+1,qs++[[(ys.getD j []).getD 1 0]],true)):=by
  intro hj he;refine hn (j+1,qs++[[(ys.getD j []).getD 1 0]],true) ⟨hj,?_,?_,fun h=>(by cases h),by simp; omega⟩ (by show ys.length - (j+1) < ys.length - j; omega)
  ·show (qs++_)++_=_;rw [← ho,agW hj,if_neg he,List.append_assoc]
  ·show true=uy (ys.take (j+1)) i;rw [ag0 hj,decide_eq_true he]; simp
 cases b with
 | false=>
  show round (ai TP { Γ:=gj,Λ:=_,Τ:=ag2 } d) _ _ _ _ (ahV z fs qs xs ts rs us es ks ns cs ys i j) k;rw [aiI]; delta Maa Mab Mad Mah Mai Maj Mak Mam Man Mao Maq Mar Mas Mav Max Maz MaA MaC MaE MaG MaH MaO MaV MaW MaX MaZ Ma1 Mbb Mbc Mbe Mbp Mbt Mbw MbC MbF MbG MbM MbP MbT MbV MbZ Mb6 Mcg Mci Mcr Mcw McP Mdr Md7 Mi7 Mhm MhM Mh6 Mh7 Mig Mi3 Mjo Mj9;rw [show ((j:Nat):Int).toNat=j by omega]
  rintro t1 e1 t2 e2;rw [al];constructor
  ·intro hi;have hj:j < ys.length:=by omega
   have p2:t2:=by rw [e2]; omega
   have T1:t1=(ys.getD j []).getD 1 0:=e1;rw [show IntKind.i64.wrap ((j:Int)+1)=((j+1:Nat):Int) by rw [i64_in _ (by omega)]; rfl]
   refine ⟨p2,p2,?_⟩;rw [dp];exact ⟨fun he=>next false hj (by rw [← T1]; exact he) rfl,fun he=>⟨t1,qs,⟨rfl,rfl,by omega⟩,by rw [T1]; exact more hj (by rw [← T1]; exact he)⟩⟩
  ·intro hi;obtain ⟨e,hb'⟩:=stop (by omega)
   have:=hK.2 hb'.symm;rw [← hf rfl] at this;exact hk _ _ (by simp) this
 | true=>
  show round (ai TP { Γ:=gj,Λ:=_,Τ:=ag2 } d) _ _ _ _ (aik z fs qs xs ts rs us es ks ns cs ys i j) k;rw [aiH]; delta Maa Mab Mad Mah Mai Maj Mak Mam Man Mao Maq Mar Mas Mav Max Maz MaA MaC MaE MaG MaH MaO MaV MaW MaX Ma1 Mbe Mbp Mbt Mbw MbC MbF MbG MbM MbP MbT MbV MbZ Mb6 Mcg Mci Mcr Mcw McP Mdr Md7 Mfq Mi7 Mh6 Mh7 Mig Mi3 Mji Mjo;rw [show ((j:Nat):Int).toNat=j by omega]
  rintro t1 e1 t2 e2;rw [al];constructor
  ·intro hi;have hj:j < ys.length:=by omega
   have p2:t2:=by rw [e2]; omega
   have T1:t1=(ys.getD j []).getD 1 0:=e1;rw [show IntKind.i64.wrap ((j:Int)+1)=((j+1:Nat):Int) by rw [i64_in _ (by omega)]; rfl]
   refine ⟨p2,p2,?_⟩;rw [dp];exact ⟨fun he=>next true hj (by rw [← T1]; exact he) rfl,fun he=>⟨t1,qs,⟨rfl,rfl,by omega⟩,by rw [T1]; exact more hj (by rw [← T1]; exact he)⟩⟩
  ·intro hi;obtain ⟨e,hb'⟩:=stop (by omega)
   have:=hK.1 hb'.symm;rw [← e] at this;exact hk _ _ (by simp) this
theorem ahN:KnowOk TP ft 3:=cP (f0:=bK) (L:=wR) (fun g sp h=>np h) rfl ahv lLs 3
theorem ahg:cf TP bK Gls:=by
 refine cL (N:=ft) 3 ahN ?_;rintro args b K ⟨z,q,fs,qs,xs,ts,rs,us,es,ks,ns,cs,i,⟨rfl,rfl,hl,hq⟩,hK⟩;show bQ _ _ _ _ _ _ fun v b1=>ld 13 v b1 K
 rw [ahH]; delta Maa Mab Mad Maf Maj Mak Mam Man Mao Maq Mar Mav Max Maz MaA MaE MaG MaH MaL MaO MaW MaX MaZ Mbb Mbc Mbe Mbt MbM MbV Mb6 Mcw McP Md6 Mew MeE MeH Mfq MfC Mf2 Mi7 Mhm MhM MiT Mji Mj9 Mkm;rintro t1 rfl t2 rfl;exact ⟨hq,z,fs,qs,xs,ts,rs,us,es,ks,ns,cs,afS q ks,i,⟨by have:=Gj q ks; omega,rfl,rfl⟩,hK⟩
def c7 (z:L1) (xs ts rs us es ks ns cs:L2) (i:Int):List Nat × L2 × L2 × Bool × Bool->St
 | (stk,fs,qs,false,false)=>ahh z fs qs xs ts rs us es ks ns cs (cj stk.reverse) i
 | (stk,fs,qs,false,true)=>ahC z fs qs xs ts rs us es ks ns cs (cj stk.reverse) i
 | (stk,fs,qs,true,false)=>ahB z fs qs xs ts rs us es ks ns cs (cj stk.reverse) i
 | (stk,fs,qs,true,true)=>ahA z fs qs xs ts rs us es ks ns cs (cj stk.reverse) i
theorem mq {i:Int} {fs:L2}:∀ (ys:L2) (qs:L2),(∀ k∈ys,0<=k.getD 1 0)->dF (dw nY i) ys (fs,qs)=((fs,qs++gy ys i),0)
 | [],qs,_=>by simp [dF,gy]
 | y :: ys,qs,h=>by
  have h0:=h y (List.mem_cons_self ..);rw [jr];unfold dw;by_cases he:y.getD 1 0=i
  ·rw [if_pos he,if_neg (fun hh=>hh rfl)]
   show dF (dw nY i) ys (fs,qs)=_;rw [mq ys qs fun k hk=>h k (List.mem_cons_of_mem _ hk)]
   unfold gy;rw [List.filter_cons,if_neg (by simpa using he)]
  ·rw [if_neg he];have hv:nY (-1 - y.getD 1 0) (fs,qs)=((fs,qs++[[y.getD 1 0]]),0):=by
    unfold nY;rw [if_neg (by omega),show -1 - (-1 - y.getD 1 0)=y.getD 1 0 by omega]
   rw [hv,if_neg (fun hh=>hh rfl)]
   show dF (dw nY i) ys (fs,qs++[[y.getD 1 0]])=_;rw [mq ys (qs++[[y.getD 1 0]]) fun k hk=>h k (List.mem_cons_of_mem _ hk)]
   unfold gy;rw [List.filter_cons,if_pos (by simpa using he)]
   simp
theorem mc (ys:L2) (i:Int):(uy ys i=true->gy ys i≠[])/\(uy ys i=false->gy ys i=[]):=by
 unfold uy gy;constructor
 ·intro h hn;rw [List.any_eq_true] at h;obtain ⟨k,hk,hd⟩:=h;rw [List.map_eq_nil_iff,List.filter_eq_nil_iff] at hn;exact hn k hk hd
 ·intro h;rw [List.map_eq_nil_iff,List.filter_eq_nil_iff];intro k hk hd;rw [List.any_eq_false] at h;exact h k hk hd
theorem wy (ys:L2) (i:Int):(gy ys i).length<=ys.length:=by unfold gy; rw [List.length_map]; exact List.length_filter_le _ _
set_option maxHeartbeats 2000000 in
theorem aiC (d:Nat) (Λ:FuncId->Nat->Option aB) {z:L1} {fs qs xs ts rs us es ks ns cs:L2} {i:Int} {stk:List Nat} {k:Out->St->Prop} (htr:gr ns ks.length) (hw:Zf z xs cs) (hid:oB xs.length ks) (hks:ks.length<=1000) (hcn:cs.length=ns.length) (hi0:0<=i) (hi1:i < xs.length) (hin:∀ n∈stk,n < ns.length) (hwt:sK ns stk<=1000) (hwf:fs.length+sK ns stk<=3000) (hwq:qs.length+sK ns stk<=3000)
  (fin0:stk=[]->k (.exit 0) ⟨T 86 [],nX z 11 12 (b9 fs) (b9 qs) xs ts rs us es ks ns cs⟩)
  (stop:∀ {n rest e},stk=n :: rest->e≠0->hV z xs ks ns cs i n (fs,qs)=((fs,qs),e)->k .ret ⟨T 86 [(6,.int .i64 e)],nX z 11 12 (b9 fs) (b9 qs) xs ts rs us es ks ns cs⟩)
  (nextT:∀ {n rest os},stk=n :: rest->hV z xs ks ns cs i n (fs,qs)=((fs,qs++os),0)->os≠[]->os.length<=wt ns n->k .normal (c7 z xs ts rs us es ks ns cs i (rest,fs,qs++os,false,true)))
  (nextS:∀ {n rest},stk=n :: rest->hV z xs ks ns cs i n (fs,qs)=((fs,qs),0)->k .normal (c7 z xs ts rs us es ks ns cs i (rest,fs,qs,false,false)))
  (nextF:∀ {n rest},stk=n :: rest->hV z xs ks ns cs i n (fs,qs)=((fs++[[(n:Int)]],qs),0)->k .normal (c7 z xs ts rs us es ks ns cs i (rest,fs++[[(n:Int)]],qs,true,false)))
  (nextK:∀ {n rest},stk=n :: rest->ot ns n=false->hV z xs ks ns cs i n (fs,qs)=dF (hV z xs ks ns cs i) (gm ns n) (fs,qs)->k .normal (c7 z xs ts rs us es ks ns cs i (gm ns n++rest,fs,qs,false,false))):
  round (ai TP { Γ:=gj,Λ:=Λ,Τ:=agR,pop:=fun t=>Nat.beq t 29,back:=fun f=>Nat.beq f 153 } d) bV 13 0 (lp TP bV 0) (ahh z fs qs xs ts rs us es ks ns cs (cj stk.reverse) i) k:=by
 have hlen:=GI htr hin;rw [aiG]; delta Maa Mab Mad Mah Mai Maj Mak Mam Man Mao Maq Mar Mas Mau Mav Max Maz MaA MaD MaE MaG MaH MaI MaJ MaM MaO MaR MaS MaV MaW MaX MaZ Ma0 Ma1 Ma2 Ma3 Ma6 Mbb Mbc Mbe Mbf Mbh Mbk Mbp Mbt Mbw Mbx MbG Mi5 MbO MbP MbT MbY Mb0 Mb6 Mci Mcs Mcw McA McP Mc4 Mc9 Mdh Mdm Mdy MdB MdD MdO MdP Md5 Md6 Mea Med Mek MeE Mfg Mfj Mfk MfK MfM MfN Mi7 Mgo Mgp Mhk Mhp MhB MhF MhI MhM MhN MhW Mh8 Mig Miu Miw MiH MiQ MiY Mi8 Mjb Mjf Mjk Mjl Mjs MjH MjT Mj7 Mj9 Mkb Mke;cases stk with
 | nil=>
  rintro t1 e1 t2 e2 t3 e3 t4 e4 t5 e5 t6 e6 t7 e7 t8 e8 t9 e9 t10 e10;clear e10;rw [al];exact ⟨fun hh=>absurd hh (by simp [cj]),fun _=>fin0 rfl⟩
 | cons n rest=>
  have hnn:n < ns.length:=hin n (List.mem_cons_self ..);have hin':∀ m∈rest,m < ns.length:=fun m hm=>hin m (List.mem_cons_of_mem _ hm)
  simp only [List.length_cons,sK] at hlen;simp only [sK] at hwf hwq hwt;have hl1:((cj (n :: rest).reverse).length:Int)=rest.length+1:=by simp [cj]
  have hw1:IntKind.i64.wrap (((cj (n :: rest).reverse).length:Int) - 1)=(rest.length:Int):=by rw [hl1,i64_in _ (by omega)]; omega
  rw [hw1,show ((rest.length:Nat):Int).toNat=rest.reverse.length by simp,show (n :: rest).reverse=rest.reverse++[n] from List.reverse_cons,O3,O2]
  have hl2:((cj (rest.reverse++[n])).length:Int)=rest.length+1:=by simp [cj]
  rintro t1 rfl t2 e2 t3 e3 t4 e4 t5 e5 t6 e6 t7 e7 t8 e8 t9 e9 t10 e10;rw [show ((n:Nat):Int).toNat=n by omega] at e2 e3 e4 e5
  have p6:t6:=by rw [e6,hl2]; omega
  have p7:t7:=by rw [e7]; omega
  have p8:t8:=by rw [e8]; exact ⟨_,rfl,rfl⟩
  have hlk:=Cl htr nY ks (fun n=>yE z xs cs n i.toNat) (fun n=>E4 z xs cs n i.toNat) i hnn (fs,qs)
  change hV z xs ks ns cs i n (fs,qs)=_ at hlk;obtain ⟨b1,b2,b3,_⟩:=(htr n hnn).1;have hq:0<=rd ns n 2/\rd ns n 2<=rd ns n 3/\rd ns n 3<=ks.length:=⟨b1,by omega,b2⟩
  have hwn:=Pn htr hnn;rw [al];refine ⟨fun _=>?_,fun hh=>absurd (by rw [hl2]; omega) hh⟩
  refine ⟨p6,p6,by rw [hl2]; omega,p7,p7,?_⟩
  rw [e2,e3,e4,e5,IC htr hnn,aL];refine ⟨fun hlf=>?_,fun hlf=>?_⟩
  ·rw [if_pos hlf,mq (dX ns ks n) qs fun k hk=>(hid k (BX hk)).1] at hlk
   refine ⟨z,ns.getD n [],fs,qs,xs,ts,rs,us,es,ks,ns,cs,i,⟨rfl,rfl,by omega,hq⟩,?_⟩
   have hpk:afS (ns.getD n []) ks=dX ns ks n:=rfl;rw [hpk,aL];refine ⟨fun ha=>nextT rfl hlk ((mc _ _).1 ha) (by rw [← hwn]; exact wy _ _),fun ha=>nextS rfl ?_⟩
   rw [hlk,(mc _ _).2 ha,List.append_nil]
  rw [if_neg (by rw [hlf]; decide)] at hlk
  have kids:hV z xs ks ns cs i n (fs,qs)=dF (hV z xs ks ns cs i) (gm ns n) (fs,qs)->t10:=by
   intro he;have hgo:k Out.normal (ahh z fs qs xs ts rs us es ks ns cs (cj (gm ns n++rest).reverse) i):=nextK rfl hlf he;rw [O4] at hgo;have hrl:(cj rest.reverse).length=rest.length:=by simp [cj]
   have go:∀ L,L=cj rest.reverse++((if 0<=rd ns n 7 then [[rd ns n 7]] else [])++((if 0<=rd ns n 6 then [[rd ns n 6]] else [])++((if 0<=rd ns n 5 then [[rd ns n 5]] else [])++(if 0<=rd ns n 4 then [[rd ns n 4]] else []))))->k Out.normal (ahh z fs qs xs ts rs us es ks ns cs L i):=by
    rintro L rfl; exact hgo
   rw [e10,e9,e2,e3,e4,e5];generalize rd ns n 7=k3 at go;generalize rd ns n 6=k2 at go;generalize rd ns n 5=k1 at go;generalize rd ns n 4=k0 at go;refine ⟨p8,?_⟩;have room:∀ A:L2,A.length<=rest.length+3->(A.length+1)*8<=140737488355328:=fun A hA=>by omega
   rw [al];refine ⟨fun c3=>⟨room _ (by simp [hrl]),?_⟩,fun c3=>?_⟩
   all_goals rw [al]
   ·refine ⟨fun c2=>⟨room _ (by simp [hrl]),?_⟩,fun c2=>?_⟩
    all_goals rw [al]
    ·refine ⟨fun c1=>⟨room _ (by simp [hrl]),?_⟩,fun c1=>?_⟩
     all_goals rw [al]
     ·exact ⟨fun c0=>⟨room _ (by simp [hrl]),go _ (by rw [if_pos c3,if_pos c2,if_pos c1,if_pos c0]; simp)⟩,fun c0=>go _ (by rw [if_pos c3,if_pos c2,if_pos c1,if_neg c0]; simp)⟩
     ·exact ⟨fun c0=>⟨room _ (by simp [hrl]),go _ (by rw [if_pos c3,if_pos c2,if_neg c1,if_pos c0]; simp)⟩,fun c0=>go _ (by rw [if_pos c3,if_pos c2,if_neg c1,if_neg c0]; simp)⟩
    ·refine ⟨fun c1=>⟨room _ (by simp [hrl]),?_⟩,fun c1=>?_⟩
     all_goals rw [al]
     ·exact ⟨fun c0=>⟨room _ (by simp [hrl]),go _ (by rw [if_pos c3,if_neg c2,if_pos c1,if_pos c0]; simp)⟩,fun c0=>go _ (by rw [if_pos c3,if_neg c2,if_pos c1,if_neg c0]; simp)⟩
     ·exact ⟨fun c0=>⟨room _ (by simp [hrl]),go _ (by rw [if_pos c3,if_neg c2,if_neg c1,if_pos c0]; simp)⟩,fun c0=>go _ (by rw [if_pos c3,if_neg c2,if_neg c1,if_neg c0]; simp)⟩
   ·refine ⟨fun c2=>⟨room _ (by simp [hrl]),?_⟩,fun c2=>?_⟩
    all_goals rw [al]
    ·refine ⟨fun c1=>⟨room _ (by simp [hrl]),?_⟩,fun c1=>?_⟩
     all_goals rw [al]
     ·exact ⟨fun c0=>⟨room _ (by simp [hrl]),go _ (by rw [if_neg c3,if_pos c2,if_pos c1,if_pos c0]; simp)⟩,fun c0=>go _ (by rw [if_neg c3,if_pos c2,if_pos c1,if_neg c0]; simp)⟩
     ·exact ⟨fun c0=>⟨room _ (by simp [hrl]),go _ (by rw [if_neg c3,if_pos c2,if_neg c1,if_pos c0]; simp)⟩,fun c0=>go _ (by rw [if_neg c3,if_pos c2,if_neg c1,if_neg c0]; simp)⟩
    ·refine ⟨fun c1=>⟨room _ (by simp [hrl]),?_⟩,fun c1=>?_⟩
     all_goals rw [al]
     ·exact ⟨fun c0=>⟨room _ (by simp [hrl]),go _ (by rw [if_neg c3,if_neg c2,if_pos c1,if_pos c0]; simp)⟩,fun c0=>go _ (by rw [if_neg c3,if_neg c2,if_pos c1,if_neg c0]; simp)⟩
     ·exact ⟨fun c0=>⟨room _ (by simp [hrl]),go _ (by rw [if_neg c3,if_neg c2,if_neg c1,if_pos c0]; simp)⟩,fun c0=>go _ (by rw [if_neg c3,if_neg c2,if_neg c1,if_neg c0]; simp)⟩
  have hcon:ll (List.drop (rd ns n 2).toNat (List.take (rd ns n 3).toNat ks)) i=hasB ns ks n i:=rfl;refine ⟨⟨z,ns.getD n [],xs,ts,rs,us,es,ks,ns,cs,i,rfl,rfl,hq,Nat.le_trans hks (by decide)⟩,?_⟩
  rw [show ((n:Nat):Int).toNat=n from rfl,hcon,aL]
  refine ⟨fun hno=>?_,fun hyes=>?_⟩
  ·have hno':hasB ns ks n i=false:=by simpa using hno
   refine ⟨z,xs,ts,rs,us,es,ks,ns,cs,n,i,⟨rfl,rfl,hw.1,hw.2.1,hw.2.2.1,hw.2.2.2,⟨by omega,by omega⟩,hi0,hi1⟩,?_⟩
   rw [hno'] at hlk;rw [dp];refine ⟨fun h0=>?_,fun hne=>?_⟩
   ·rw [if_neg (fun hh=>hh.2 h0)] at hlk
    rw [aL];refine ⟨fun hfb=>?_,fun hfb=>?_⟩
    ·rw [if_pos ⟨rfl,hfb⟩] at hlk;refine ⟨(n:Int),fs,⟨rfl,rfl,by omega⟩,?_⟩
     rw [aL];refine ⟨fun _=>nextF rfl ?_,fun hh=>(by rw [hfb] at hh; cases hh)⟩
     rw [hlk];unfold nY;rw [if_pos (by omega)]
    ·have hfb':E4 z xs cs n i.toNat=false:=hfb;rw [if_neg (fun hh=>by have:=hh.2; rw [hfb'] at this; cases this)] at hlk
     rw [ah];refine ⟨fun hh=>absurd h0 hh,fun _=>?_⟩
     rw [aL];exact ⟨fun hh=>(by rw [hfb] at hh; cases hh),fun _=>kids hlk⟩
   ·rw [if_pos ⟨rfl,hne⟩] at hlk;rw [ah];exact ⟨fun _=>stop rfl hne hlk,fun hh=>absurd hh hne⟩
  ·have hyes':hasB ns ks n i=true:=by simpa using hyes
   rw [hyes',if_neg (fun hh=>by cases hh.1),if_neg (fun hh=>by cases hh.1)] at hlk
   exact kids hlk
set_option maxHeartbeats 2000000 in
theorem aiB (d:Nat) (Λ:FuncId->Nat->Option aB) {z:L1} {fs qs xs ts rs us es ks ns cs:L2} {i:Int} {stk:List Nat} {k:Out->St->Prop} (htr:gr ns ks.length) (hw:Zf z xs cs) (hid:oB xs.length ks) (hks:ks.length<=1000) (hcn:cs.length=ns.length) (hi0:0<=i) (hi1:i < xs.length) (hin:∀ n∈stk,n < ns.length) (hwt:sK ns stk<=1000) (hwf:fs.length+sK ns stk<=3000) (hwq:qs.length+sK ns stk<=3000)
  (fin0:stk=[]->k (.exit 0) ⟨T 86 [],nX z 11 13 (b9 fs) none xs ts rs us es ks ns cs++[b9 qs]⟩)
  (stop:∀ {n rest e},stk=n :: rest->e≠0->hV z xs ks ns cs i n (fs,qs)=((fs,qs),e)->k .ret ⟨T 86 [(6,.int .i64 e)],nX z 11 13 (b9 fs) none xs ts rs us es ks ns cs++[b9 qs]⟩)
  (nextT:∀ {n rest os},stk=n :: rest->hV z xs ks ns cs i n (fs,qs)=((fs,qs++os),0)->os≠[]->os.length<=wt ns n->k .normal (c7 z xs ts rs us es ks ns cs i (rest,fs,qs++os,false,true)))
  (nextS:∀ {n rest},stk=n :: rest->hV z xs ks ns cs i n (fs,qs)=((fs,qs),0)->k .normal (c7 z xs ts rs us es ks ns cs i (rest,fs,qs,false,true)))
  (nextF:∀ {n rest},stk=n :: rest->hV z xs ks ns cs i n (fs,qs)=((fs++[[(n:Int)]],qs),0)->k .normal (c7 z xs ts rs us es ks ns cs i (rest,fs++[[(n:Int)]],qs,true,true)))
  (nextK:∀ {n rest},stk=n :: rest->ot ns n=false->hV z xs ks ns cs i n (fs,qs)=dF (hV z xs ks ns cs i) (gm ns n) (fs,qs)->k .normal (c7 z xs ts rs us es ks ns cs i (gm ns n++rest,fs,qs,false,true))):
  round (ai TP { Γ:=gj,Λ:=Λ,Τ:=agR,pop:=fun t=>Nat.beq t 29,back:=fun f=>Nat.beq f 153 } d) bV 13 0 (lp TP bV 0) (ahC z fs qs xs ts rs us es ks ns cs (cj stk.reverse) i) k:=by
 have hlen:=GI htr hin;rw [aiF]; delta Maa Mab Mad Mah Mai Maj Mak Mam Man Mao Maq Mar Mas Mau Mav Max Maz MaA MaD MaE MaG MaH MaI MaJ MaM MaO MaR MaS MaV MaW MaX MaZ Ma0 Ma1 Ma2 Ma3 Ma6 Mbb Mbc Mbe Mbf Mbh Mbk Mbp Mbt Mbw Mbx MbG Mi5 MbO MbP MbT MbY MbZ Mb0 Mb6 Mci Mcs Mcw McA McP Mc4 Mc9 Mdh Mdm Mdy MdB MdD MdO MdP Md5 Md6 Mea Med Mek MeE Mfg Mfj Mfk Mfq MfK MfM MfN Mi7 Mgq Mgr Mhk Mhq MhB MhG MhI MhM MhN MhW Mh8 Mig Miu Miw MiH MiQ MiY Mi8 Mjb Mjf Mji Mjk Mjl Mjs MjH MjT Mj7 Mj9 Mkb;cases stk with
 | nil=>
  rintro t1 e1 t2 e2 t3 e3 t4 e4 t5 e5 t6 e6 t7 e7 t8 e8 t9 e9 t10 e10;clear e10;rw [al];exact ⟨fun hh=>absurd hh (by simp [cj]),fun _=>fin0 rfl⟩
 | cons n rest=>
  have hnn:n < ns.length:=hin n (List.mem_cons_self ..);have hin':∀ m∈rest,m < ns.length:=fun m hm=>hin m (List.mem_cons_of_mem _ hm)
  simp only [List.length_cons,sK] at hlen;simp only [sK] at hwf hwq hwt;have hl1:((cj (n :: rest).reverse).length:Int)=rest.length+1:=by simp [cj]
  have hw1:IntKind.i64.wrap (((cj (n :: rest).reverse).length:Int) - 1)=(rest.length:Int):=by rw [hl1,i64_in _ (by omega)]; omega
  rw [hw1,show ((rest.length:Nat):Int).toNat=rest.reverse.length by simp,show (n :: rest).reverse=rest.reverse++[n] from List.reverse_cons,O3,O2]
  have hl2:((cj (rest.reverse++[n])).length:Int)=rest.length+1:=by simp [cj]
  rintro t1 rfl t2 e2 t3 e3 t4 e4 t5 e5 t6 e6 t7 e7 t8 e8 t9 e9 t10 e10;rw [show ((n:Nat):Int).toNat=n by omega] at e2 e3 e4 e5
  have p6:t6:=by rw [e6,hl2]; omega
  have p7:t7:=by rw [e7]; omega
  have p8:t8:=by rw [e8]; exact ⟨_,rfl,rfl⟩
  have hlk:=Cl htr nY ks (fun n=>yE z xs cs n i.toNat) (fun n=>E4 z xs cs n i.toNat) i hnn (fs,qs)
  change hV z xs ks ns cs i n (fs,qs)=_ at hlk;obtain ⟨b1,b2,b3,_⟩:=(htr n hnn).1;have hq:0<=rd ns n 2/\rd ns n 2<=rd ns n 3/\rd ns n 3<=ks.length:=⟨b1,by omega,b2⟩
  have hwn:=Pn htr hnn;rw [al];refine ⟨fun _=>?_,fun hh=>absurd (by rw [hl2]; omega) hh⟩
  refine ⟨p6,p6,by rw [hl2]; omega,p7,p7,?_⟩
  rw [e2,e3,e4,e5,IC htr hnn,aL];refine ⟨fun hlf=>?_,fun hlf=>?_⟩
  ·rw [if_pos hlf,mq (dX ns ks n) qs fun k hk=>(hid k (BX hk)).1] at hlk
   refine ⟨z,ns.getD n [],fs,qs,xs,ts,rs,us,es,ks,ns,cs,i,⟨rfl,rfl,by omega,hq⟩,?_⟩
   have hpk:afS (ns.getD n []) ks=dX ns ks n:=rfl;rw [hpk,aL];refine ⟨fun ha=>nextT rfl hlk ((mc _ _).1 ha) (by rw [← hwn]; exact wy _ _),fun ha=>nextS rfl ?_⟩
   rw [hlk,(mc _ _).2 ha,List.append_nil]
  rw [if_neg (by rw [hlf]; decide)] at hlk
  have kids:hV z xs ks ns cs i n (fs,qs)=dF (hV z xs ks ns cs i) (gm ns n) (fs,qs)->t10:=by
   intro he;have hgo:k Out.normal (ahC z fs qs xs ts rs us es ks ns cs (cj (gm ns n++rest).reverse) i):=nextK rfl hlf he;rw [O4] at hgo;have hrl:(cj rest.reverse).length=rest.length:=by simp [cj]
   have go:∀ L,L=cj rest.reverse++((if 0<=rd ns n 7 then [[rd ns n 7]] else [])++((if 0<=rd ns n 6 then [[rd ns n 6]] else [])++((if 0<=rd ns n 5 then [[rd ns n 5]] else [])++(if 0<=rd ns n 4 then [[rd ns n 4]] else []))))->k Out.normal (ahC z fs qs xs ts rs us es ks ns cs L i):=by
    rintro L rfl; exact hgo
   rw [e10,e9,e2,e3,e4,e5];generalize rd ns n 7=k3 at go;generalize rd ns n 6=k2 at go;generalize rd ns n 5=k1 at go;generalize rd ns n 4=k0 at go;refine ⟨p8,?_⟩;have room:∀ A:L2,A.length<=rest.length+3->(A.length+1)*8<=140737488355328:=fun A hA=>by omega
   rw [al];refine ⟨fun c3=>⟨room _ (by simp [hrl]),?_⟩,fun c3=>?_⟩
   all_goals rw [al]
   ·refine ⟨fun c2=>⟨room _ (by simp [hrl]),?_⟩,fun c2=>?_⟩
    all_goals rw [al]
    ·refine ⟨fun c1=>⟨room _ (by simp [hrl]),?_⟩,fun c1=>?_⟩
     all_goals rw [al]
     ·exact ⟨fun c0=>⟨room _ (by simp [hrl]),go _ (by rw [if_pos c3,if_pos c2,if_pos c1,if_pos c0]; simp)⟩,fun c0=>go _ (by rw [if_pos c3,if_pos c2,if_pos c1,if_neg c0]; simp)⟩
     ·exact ⟨fun c0=>⟨room _ (by simp [hrl]),go _ (by rw [if_pos c3,if_pos c2,if_neg c1,if_pos c0]; simp)⟩,fun c0=>go _ (by rw [if_pos c3,if_pos c2,if_neg c1,if_neg c0]; simp)⟩
    ·refine ⟨fun c1=>⟨room _ (by simp [hrl]),?_⟩,fun c1=>?_⟩
     all_goals rw [al]
     ·exact ⟨fun c0=>⟨room _ (by simp [hrl]),go _ (by rw [if_pos c3,if_neg c2,if_pos c1,if_pos c0]; simp)⟩,fun c0=>go _ (by rw [if_pos c3,if_neg c2,if_pos c1,if_neg c0]; simp)⟩
     ·exact ⟨fun c0=>⟨room _ (by simp [hrl]),go _ (by rw [if_pos c3,if_neg c2,if_neg c1,if_pos c0]; simp)⟩,fun c0=>go _ (by rw [if_pos c3,if_neg c2,if_neg c1,if_neg c0]; simp)⟩
   ·refine ⟨fun c2=>⟨room _ (by simp [hrl]),?_⟩,fun c2=>?_⟩
    all_goals rw [al]
    ·refine ⟨fun c1=>⟨room _ (by simp [hrl]),?_⟩,fun c1=>?_⟩
     all_goals rw [al]
     ·exact ⟨fun c0=>⟨room _ (by simp [hrl]),go _ (by rw [if_neg c3,if_pos c2,if_pos c1,if_pos c0]; simp)⟩,fun c0=>go _ (by rw [if_neg c3,if_pos c2,if_pos c1,if_neg c0]; simp)⟩
     ·exact ⟨fun c0=>⟨room _ (by simp [hrl]),go _ (by rw [if_neg c3,if_pos c2,if_neg c1,if_pos c0]; simp)⟩,fun c0=>go _ (by rw [if_neg c3,if_pos c2,if_neg c1,if_neg c0]; simp)⟩
    ·refine ⟨fun c1=>⟨room _ (by simp [hrl]),?_⟩,fun c1=>?_⟩
     all_goals rw [al]
     ·exact ⟨fun c0=>⟨room _ (by simp [hrl]),go _ (by rw [if_neg c3,if_neg c2,if_pos c1,if_pos c0]; simp)⟩,fun c0=>go _ (by rw [if_neg c3,if_neg c2,if_pos c1,if_neg c0]; simp)⟩
     ·exact ⟨fun c0=>⟨room _ (by simp [hrl]),go _ (by rw [if_neg c3,if_neg c2,if_neg c1,if_pos c0]; simp)⟩,fun c0=>go _ (by rw [if_neg c3,if_neg c2,if_neg c1,if_neg c0]; simp)⟩
  have hcon:ll (List.drop (rd ns n 2).toNat (List.take (rd ns n 3).toNat ks)) i=hasB ns ks n i:=rfl;refine ⟨⟨z,ns.getD n [],xs,ts,rs,us,es,ks,ns,cs,i,rfl,rfl,hq,Nat.le_trans hks (by decide)⟩,?_⟩
  rw [show ((n:Nat):Int).toNat=n from rfl,hcon,aL]
  refine ⟨fun hno=>?_,fun hyes=>?_⟩
  ·have hno':hasB ns ks n i=false:=by simpa using hno
   refine ⟨z,xs,ts,rs,us,es,ks,ns,cs,n,i,⟨rfl,rfl,hw.1,hw.2.1,hw.2.2.1,hw.2.2.2,⟨by omega,by omega⟩,hi0,hi1⟩,?_⟩
   rw [hno'] at hlk;rw [dp];refine ⟨fun h0=>?_,fun hne=>?_⟩
   ·rw [if_neg (fun hh=>hh.2 h0)] at hlk
    rw [aL];refine ⟨fun hfb=>?_,fun hfb=>?_⟩
    ·rw [if_pos ⟨rfl,hfb⟩] at hlk;refine ⟨(n:Int),fs,⟨rfl,rfl,by omega⟩,?_⟩
     rw [aL];refine ⟨fun _=>nextF rfl ?_,fun hh=>(by rw [hfb] at hh; cases hh)⟩
     rw [hlk];unfold nY;rw [if_pos (by omega)]
    ·have hfb':E4 z xs cs n i.toNat=false:=hfb;rw [if_neg (fun hh=>by have:=hh.2; rw [hfb'] at this; cases this)] at hlk
     rw [ah];refine ⟨fun hh=>absurd h0 hh,fun _=>?_⟩
     rw [aL];exact ⟨fun hh=>(by rw [hfb] at hh; cases hh),fun _=>kids hlk⟩
   ·rw [if_pos ⟨rfl,hne⟩] at hlk;rw [ah];exact ⟨fun _=>stop rfl hne hlk,fun hh=>absurd hh hne⟩
  ·have hyes':hasB ns ks n i=true:=by simpa using hyes
   rw [hyes',if_neg (fun hh=>by cases hh.1),if_neg (fun hh=>by cases hh.1)] at hlk
   exact kids hlk
set_option maxHeartbeats 2000000 in
theorem aiA (d:Nat) (Λ:FuncId->Nat->Option aB) {z:L1} {fs qs xs ts rs us es ks ns cs:L2} {i:Int} {stk:List Nat} {k:Out->St->Prop} (htr:gr ns ks.length) (hw:Zf z xs cs) (hid:oB xs.length ks) (hks:ks.length<=1000) (hcn:cs.length=ns.length) (hi0:0<=i) (hi1:i < xs.length) (hin:∀ n∈stk,n < ns.length) (hwt:sK ns stk<=1000) (hwf:fs.length+sK ns stk<=3000) (hwq:qs.length+sK ns stk<=3000)
  (fin0:stk=[]->k (.exit 0) ⟨T 86 [],nX z 13 12 none (b9 qs) xs ts rs us es ks ns cs++[b9 fs]⟩)
  (stop:∀ {n rest e},stk=n :: rest->e≠0->hV z xs ks ns cs i n (fs,qs)=((fs,qs),e)->k .ret ⟨T 86 [(6,.int .i64 e)],nX z 13 12 none (b9 qs) xs ts rs us es ks ns cs++[b9 fs]⟩)
  (nextT:∀ {n rest os},stk=n :: rest->hV z xs ks ns cs i n (fs,qs)=((fs,qs++os),0)->os≠[]->os.length<=wt ns n->k .normal (c7 z xs ts rs us es ks ns cs i (rest,fs,qs++os,true,true)))
  (nextS:∀ {n rest},stk=n :: rest->hV z xs ks ns cs i n (fs,qs)=((fs,qs),0)->k .normal (c7 z xs ts rs us es ks ns cs i (rest,fs,qs,true,false)))
  (nextF:∀ {n rest},stk=n :: rest->hV z xs ks ns cs i n (fs,qs)=((fs++[[(n:Int)]],qs),0)->k .normal (c7 z xs ts rs us es ks ns cs i (rest,fs++[[(n:Int)]],qs,true,false)))
  (nextK:∀ {n rest},stk=n :: rest->ot ns n=false->hV z xs ks ns cs i n (fs,qs)=dF (hV z xs ks ns cs i) (gm ns n) (fs,qs)->k .normal (c7 z xs ts rs us es ks ns cs i (gm ns n++rest,fs,qs,true,false))):
  round (ai TP { Γ:=gj,Λ:=Λ,Τ:=agR,pop:=fun t=>Nat.beq t 29,back:=fun f=>Nat.beq f 153 } d) bV 13 0 (lp TP bV 0) (ahB z fs qs xs ts rs us es ks ns cs (cj stk.reverse) i) k:=by
 have hlen:=GI htr hin;rw [aiE]; delta Maa Mab Mad Mah Mai Maj Mak Mam Man Mao Maq Mar Mas Mau Mav Max Maz MaA MaD MaE MaG MaH MaI MaJ MaM MaO MaR MaS MaV MaW MaX MaZ Ma0 Ma1 Ma2 Ma3 Ma6 Mbb Mbc Mbe Mbf Mbh Mbk Mbp Mbt Mbw Mbx MbG Mi5 MbO MbP MbT MbY MbZ Mb0 Mci Mcs Mcw McA Mc4 Mc9 Mdh Mdm Mdy MdB MdD MdO MdP Md5 Md6 Mea Med Mek MeE Mfg Mfj Mfk MfK MfM MfN Mi7 Mgo Mgp MgU Mhk Mhp MhB MhF MhI MhM MhN MhW Mh8 Mig Miu Miw MiH MiQ MiY Mi8 Mjb Mjf Mjk Mjl Mjs MjH MjT Mj6 Mj9 Mkb Mkn;cases stk with
 | nil=>
  rintro t1 e1 t2 e2 t3 e3 t4 e4 t5 e5 t6 e6 t7 e7 t8 e8 t9 e9 t10 e10;clear e10;rw [al];exact ⟨fun hh=>absurd hh (by simp [cj]),fun _=>fin0 rfl⟩
 | cons n rest=>
  have hnn:n < ns.length:=hin n (List.mem_cons_self ..);have hin':∀ m∈rest,m < ns.length:=fun m hm=>hin m (List.mem_cons_of_mem _ hm)
  simp only [List.length_cons,sK] at hlen;simp only [sK] at hwf hwq hwt;have hl1:((cj (n :: rest).reverse).length:Int)=rest.length+1:=by simp [cj]
  have hw1:IntKind.i64.wrap (((cj (n :: rest).reverse).length:Int) - 1)=(rest.length:Int):=by rw [hl1,i64_in _ (by omega)]; omega
  rw [hw1,show ((rest.length:Nat):Int).toNat=rest.reverse.length by simp,show (n :: rest).reverse=rest.reverse++[n] from List.reverse_cons,O3,O2]
  have hl2:((cj (rest.reverse++[n])).length:Int)=rest.length+1:=by simp [cj]
  rintro t1 rfl t2 e2 t3 e3 t4 e4 t5 e5 t6 e6 t7 e7 t8 e8 t9 e9 t10 e10;rw [show ((n:Nat):Int).toNat=n by omega] at e2 e3 e4 e5
  have p6:t6:=by rw [e6,hl2]; omega
  have p7:t7:=by rw [e7]; omega
  have p8:t8:=by rw [e8]; exact ⟨_,rfl,rfl⟩
  have hlk:=Cl htr nY ks (fun n=>yE z xs cs n i.toNat) (fun n=>E4 z xs cs n i.toNat) i hnn (fs,qs)
  change hV z xs ks ns cs i n (fs,qs)=_ at hlk;obtain ⟨b1,b2,b3,_⟩:=(htr n hnn).1;have hq:0<=rd ns n 2/\rd ns n 2<=rd ns n 3/\rd ns n 3<=ks.length:=⟨b1,by omega,b2⟩
  have hwn:=Pn htr hnn;rw [al];refine ⟨fun _=>?_,fun hh=>absurd (by rw [hl2]; omega) hh⟩
  refine ⟨p6,p6,by rw [hl2]; omega,p7,p7,?_⟩
  rw [e2,e3,e4,e5,IC htr hnn,aL];refine ⟨fun hlf=>?_,fun hlf=>?_⟩
  ·rw [if_pos hlf,mq (dX ns ks n) qs fun k hk=>(hid k (BX hk)).1] at hlk
   refine ⟨z,ns.getD n [],fs,qs,xs,ts,rs,us,es,ks,ns,cs,i,⟨rfl,rfl,by omega,hq⟩,?_⟩
   have hpk:afS (ns.getD n []) ks=dX ns ks n:=rfl;rw [hpk,aL];refine ⟨fun ha=>nextT rfl hlk ((mc _ _).1 ha) (by rw [← hwn]; exact wy _ _),fun ha=>nextS rfl ?_⟩
   rw [hlk,(mc _ _).2 ha,List.append_nil]
  rw [if_neg (by rw [hlf]; decide)] at hlk
  have kids:hV z xs ks ns cs i n (fs,qs)=dF (hV z xs ks ns cs i) (gm ns n) (fs,qs)->t10:=by
   intro he;have hgo:k Out.normal (ahB z fs qs xs ts rs us es ks ns cs (cj (gm ns n++rest).reverse) i):=nextK rfl hlf he;rw [O4] at hgo;have hrl:(cj rest.reverse).length=rest.length:=by simp [cj]
   have go:∀ L,L=cj rest.reverse++((if 0<=rd ns n 7 then [[rd ns n 7]] else [])++((if 0<=rd ns n 6 then [[rd ns n 6]] else [])++((if 0<=rd ns n 5 then [[rd ns n 5]] else [])++(if 0<=rd ns n 4 then [[rd ns n 4]] else []))))->k Out.normal (ahB z fs qs xs ts rs us es ks ns cs L i):=by
    rintro L rfl; exact hgo
   rw [e10,e9,e2,e3,e4,e5];generalize rd ns n 7=k3 at go;generalize rd ns n 6=k2 at go;generalize rd ns n 5=k1 at go;generalize rd ns n 4=k0 at go;refine ⟨p8,?_⟩;have room:∀ A:L2,A.length<=rest.length+3->(A.length+1)*8<=140737488355328:=fun A hA=>by omega
   rw [al];refine ⟨fun c3=>⟨room _ (by simp [hrl]),?_⟩,fun c3=>?_⟩
   all_goals rw [al]
   ·refine ⟨fun c2=>⟨room _ (by simp [hrl]),?_⟩,fun c2=>?_⟩
    all_goals rw [al]
    ·refine ⟨fun c1=>⟨room _ (by simp [hrl]),?_⟩,fun c1=>?_⟩
     all_goals rw [al]
     ·exact ⟨fun c0=>⟨room _ (by simp [hrl]),go _ (by rw [if_pos c3,if_pos c2,if_pos c1,if_pos c0]; simp)⟩,fun c0=>go _ (by rw [if_pos c3,if_pos c2,if_pos c1,if_neg c0]; simp)⟩
     ·exact ⟨fun c0=>⟨room _ (by simp [hrl]),go _ (by rw [if_pos c3,if_pos c2,if_neg c1,if_pos c0]; simp)⟩,fun c0=>go _ (by rw [if_pos c3,if_pos c2,if_neg c1,if_neg c0]; simp)⟩
    ·refine ⟨fun c1=>⟨room _ (by simp [hrl]),?_⟩,fun c1=>?_⟩
     all_goals rw [al]
     ·exact ⟨fun c0=>⟨room _ (by simp [hrl]),go _ (by rw [if_pos c3,if_neg c2,if_pos c1,if_pos c0]; simp)⟩,fun c0=>go _ (by rw [if_pos c3,if_neg c2,if_pos c1,if_neg c0]; simp)⟩
     ·exact ⟨fun c0=>⟨room _ (by simp [hrl]),go _ (by rw [if_pos c3,if_neg c2,if_neg c1,if_pos c0]; simp)⟩,fun c0=>go _ (by rw [if_pos c3,if_neg c2,if_neg c1,if_neg c0]; simp)⟩
   ·refine ⟨fun c2=>⟨room _ (by simp [hrl]),?_⟩,fun c2=>?_⟩
    all_goals rw [al]
    ·refine ⟨fun c1=>⟨room _ (by simp [hrl]),?_⟩,fun c1=>?_⟩
     all_goals rw [al]
     ·exact ⟨fun c0=>⟨room _ (by simp [hrl]),go _ (by rw [if_neg c3,if_pos c2,if_pos c1,if_pos c0]; simp)⟩,fun c0=>go _ (by rw [if_neg c3,if_pos c2,if_pos c1,if_neg c0]; simp)⟩
     ·exact ⟨fun c0=>⟨room _ (by simp [hrl]),go _ (by rw [if_neg c3,if_pos c2,if_neg c1,if_pos c0]; simp)⟩,fun c0=>go _ (by rw [if_neg c3,if_pos c2,if_neg c1,if_neg c0]; simp)⟩
    ·refine ⟨fun c1=>⟨room _ (by simp [hrl]),?_⟩,fun c1=>?_⟩
     all_goals rw [al]
     ·exact ⟨fun c0=>⟨room _ (by simp [hrl]),go _ (by rw [if_neg c3,if_neg c2,if_pos c1,if_pos c0]; simp)⟩,fun c0=>go _ (by rw [if_neg c3,if_neg c2,if_pos c1,if_neg c0]; simp)⟩
     ·exact ⟨fun c0=>⟨room _ (by simp [hrl]),go _ (by rw [if_neg c3,if_neg c2,if_neg c1,if_pos c0]; simp)⟩,fun c0=>go _ (by rw [if_neg c3,if_neg c2,if_neg c1,if_neg c0]; simp)⟩
  have hcon:ll (List.drop (rd ns n 2).toNat (List.take (rd ns n 3).toNat ks)) i=hasB ns ks n i:=rfl;refine ⟨⟨z,ns.getD n [],xs,ts,rs,us,es,ks,ns,cs,i,rfl,rfl,hq,Nat.le_trans hks (by decide)⟩,?_⟩
  rw [show ((n:Nat):Int).toNat=n from rfl,hcon,aL]
  refine ⟨fun hno=>?_,fun hyes=>?_⟩
  ·have hno':hasB ns ks n i=false:=by simpa using hno
   refine ⟨z,xs,ts,rs,us,es,ks,ns,cs,n,i,⟨rfl,rfl,hw.1,hw.2.1,hw.2.2.1,hw.2.2.2,⟨by omega,by omega⟩,hi0,hi1⟩,?_⟩
   rw [hno'] at hlk;rw [dp];refine ⟨fun h0=>?_,fun hne=>?_⟩
   ·rw [if_neg (fun hh=>hh.2 h0)] at hlk
    rw [aL];refine ⟨fun hfb=>?_,fun hfb=>?_⟩
    ·rw [if_pos ⟨rfl,hfb⟩] at hlk;refine ⟨(n:Int),fs,⟨rfl,rfl,by omega⟩,?_⟩
     rw [aL];refine ⟨fun _=>nextF rfl ?_,fun hh=>(by rw [hfb] at hh; cases hh)⟩
     rw [hlk];unfold nY;rw [if_pos (by omega)]
    ·have hfb':E4 z xs cs n i.toNat=false:=hfb;rw [if_neg (fun hh=>by have:=hh.2; rw [hfb'] at this; cases this)] at hlk
     rw [ah];refine ⟨fun hh=>absurd h0 hh,fun _=>?_⟩
     rw [aL];exact ⟨fun hh=>(by rw [hfb] at hh; cases hh),fun _=>kids hlk⟩
   ·rw [if_pos ⟨rfl,hne⟩] at hlk;rw [ah];exact ⟨fun _=>stop rfl hne hlk,fun hh=>absurd hh hne⟩
  ·have hyes':hasB ns ks n i=true:=by simpa using hyes
   rw [hyes',if_neg (fun hh=>by cases hh.1),if_neg (fun hh=>by cases hh.1)] at hlk
   exact kids hlk
set_option maxHeartbeats 2000000 in
theorem aiz (d:Nat) (Λ:FuncId->Nat->Option aB) {z:L1} {fs qs xs ts rs us es ks ns cs:L2} {i:Int} {stk:List Nat} {k:Out->St->Prop} (htr:gr ns ks.length) (hw:Zf z xs cs) (hid:oB xs.length ks) (hks:ks.length<=1000) (hcn:cs.length=ns.length) (hi0:0<=i) (hi1:i < xs.length) (hin:∀ n∈stk,n < ns.length) (hwt:sK ns stk<=1000) (hwf:fs.length+sK ns stk<=3000) (hwq:qs.length+sK ns stk<=3000)
  (fin0:stk=[]->k (.exit 0) ⟨T 86 [],nX z 13 14 none none xs ts rs us es ks ns cs++[b9 fs,b9 qs]⟩)
  (stop:∀ {n rest e},stk=n :: rest->e≠0->hV z xs ks ns cs i n (fs,qs)=((fs,qs),e)->k .ret ⟨T 86 [(6,.int .i64 e)],nX z 13 14 none none xs ts rs us es ks ns cs++[b9 fs,b9 qs]⟩)
  (nextT:∀ {n rest os},stk=n :: rest->hV z xs ks ns cs i n (fs,qs)=((fs,qs++os),0)->os≠[]->os.length<=wt ns n->k .normal (c7 z xs ts rs us es ks ns cs i (rest,fs,qs++os,true,true)))
  (nextS:∀ {n rest},stk=n :: rest->hV z xs ks ns cs i n (fs,qs)=((fs,qs),0)->k .normal (c7 z xs ts rs us es ks ns cs i (rest,fs,qs,true,true)))
  (nextF:∀ {n rest},stk=n :: rest->hV z xs ks ns cs i n (fs,qs)=((fs++[[(n:Int)]],qs),0)->k .normal (c7 z xs ts rs us es ks ns cs i (rest,fs++[[(n:Int)]],qs,true,true)))
  (nextK:∀ {n rest},stk=n :: rest->ot ns n=false->hV z xs ks ns cs i n (fs,qs)=dF (hV z xs ks ns cs i) (gm ns n) (fs,qs)->k .normal (c7 z xs ts rs us es ks ns cs i (gm ns n++rest,fs,qs,true,true))):
  round (ai TP { Γ:=gj,Λ:=Λ,Τ:=agR,pop:=fun t=>Nat.beq t 29,back:=fun f=>Nat.beq f 153 } d) bV 13 0 (lp TP bV 0) (ahA z fs qs xs ts rs us es ks ns cs (cj stk.reverse) i) k:=by
 have hlen:=GI htr hin;rw [aiD]; delta Maa Mab Mad Mah Mai Maj Mak Mam Man Mao Maq Mar Mas Mau Mav Max Maz MaA MaD MaE MaG MaH MaI MaJ MaM MaO MaR MaS MaV MaW MaX MaZ Ma0 Ma1 Ma2 Ma3 Ma6 Mbb Mbc Mbe Mbf Mbh Mbk Mbp Mbt Mbw Mbx MbG Mi5 MbO MbP MbT MbY MbZ Mb0 Mci Mcs Mcw McA Mc4 Mc9 Mdh Mdm Mdy MdB MdD MdO MdP Md5 Md6 Mea Med Mek MeE Mfg Mfj Mfk MfK MfM MfN Mi7 Mgq Mgr MgU Mg8 Mhk Mhq MhB MhG MhI MhM MhN MhW Mh8 Mig Miu Miw MiH MiQ MiY Mi8 Mjb Mjf Mjk Mjl Mjs MjH MjT Mj6 Mj9 Mkb;cases stk with
 | nil=>
  rintro t1 e1 t2 e2 t3 e3 t4 e4 t5 e5 t6 e6 t7 e7 t8 e8 t9 e9 t10 e10;clear e10;rw [al];exact ⟨fun hh=>absurd hh (by simp [cj]),fun _=>fin0 rfl⟩
 | cons n rest=>
  have hnn:n < ns.length:=hin n (List.mem_cons_self ..);have hin':∀ m∈rest,m < ns.length:=fun m hm=>hin m (List.mem_cons_of_mem _ hm)
  simp only [List.length_cons,sK] at hlen;simp only [sK] at hwf hwq hwt;have hl1:((cj (n :: rest).reverse).length:Int)=rest.length+1:=by simp [cj]
  have hw1:IntKind.i64.wrap (((cj (n :: rest).reverse).length:Int) - 1)=(rest.length:Int):=by rw [hl1,i64_in _ (by omega)]; omega
  rw [hw1,show ((rest.length:Nat):Int).toNat=rest.reverse.length by simp,show (n :: rest).reverse=rest.reverse++[n] from List.reverse_cons,O3,O2]
  have hl2:((cj (rest.reverse++[n])).length:Int)=rest.length+1:=by simp [cj]
  rintro t1 rfl t2 e2 t3 e3 t4 e4 t5 e5 t6 e6 t7 e7 t8 e8 t9 e9 t10 e10;rw [show ((n:Nat):Int).toNat=n by omega] at e2 e3 e4 e5
  have p6:t6:=by rw [e6,hl2]; omega
  have p7:t7:=by rw [e7]; omega
  have p8:t8:=by rw [e8]; exact ⟨_,rfl,rfl⟩
  have hlk:=Cl htr nY ks (fun n=>yE z xs cs n i.toNat) (fun n=>E4 z xs cs n i.toNat) i hnn (fs,qs)
  change hV z xs ks ns cs i n (fs,qs)=_ at hlk;obtain ⟨b1,b2,b3,_⟩:=(htr n hnn).1;have hq:0<=rd ns n 2/\rd ns n 2<=rd ns n 3/\rd ns n 3<=ks.length:=⟨b1,by omega,b2⟩
  have hwn:=Pn htr hnn;rw [al];refine ⟨fun _=>?_,fun hh=>absurd (by rw [hl2]; omega) hh⟩
  refine ⟨p6,p6,by rw [hl2]; omega,p7,p7,?_⟩
  rw [e2,e3,e4,e5,IC htr hnn,aL];refine ⟨fun hlf=>?_,fun hlf=>?_⟩
  ·rw [if_pos hlf,mq (dX ns ks n) qs fun k hk=>(hid k (BX hk)).1] at hlk
   refine ⟨z,ns.getD n [],fs,qs,xs,ts,rs,us,es,ks,ns,cs,i,⟨rfl,rfl,by omega,hq⟩,?_⟩
   have hpk:afS (ns.getD n []) ks=dX ns ks n:=rfl;rw [hpk,aL];refine ⟨fun ha=>nextT rfl hlk ((mc _ _).1 ha) (by rw [← hwn]; exact wy _ _),fun ha=>nextS rfl ?_⟩
   rw [hlk,(mc _ _).2 ha,List.append_nil]
  rw [if_neg (by rw [hlf]; decide)] at hlk
  have kids:hV z xs ks ns cs i n (fs,qs)=dF (hV z xs ks ns cs i) (gm ns n) (fs,qs)->t10:=by
   intro he;have hgo:k Out.normal (ahA z fs qs xs ts rs us es ks ns cs (cj (gm ns n++rest).reverse) i):=nextK rfl hlf he;rw [O4] at hgo;have hrl:(cj rest.reverse).length=rest.length:=by simp [cj]
   have go:∀ L,L=cj rest.reverse++((if 0<=rd ns n 7 then [[rd ns n 7]] else [])++((if 0<=rd ns n 6 then [[rd ns n 6]] else [])++((if 0<=rd ns n 5 then [[rd ns n 5]] else [])++(if 0<=rd ns n 4 then [[rd ns n 4]] else []))))->k Out.normal (ahA z fs qs xs ts rs us es ks ns cs L i):=by
    rintro L rfl; exact hgo
   rw [e10,e9,e2,e3,e4,e5];generalize rd ns n 7=k3 at go;generalize rd ns n 6=k2 at go;generalize rd ns n 5=k1 at go;generalize rd ns n 4=k0 at go;refine ⟨p8,?_⟩;have room:∀ A:L2,A.length<=rest.length+3->(A.length+1)*8<=140737488355328:=fun A hA=>by omega
   rw [al];refine ⟨fun c3=>⟨room _ (by simp [hrl]),?_⟩,fun c3=>?_⟩
   all_goals rw [al]
   ·refine ⟨fun c2=>⟨room _ (by simp [hrl]),?_⟩,fun c2=>?_⟩
    all_goals rw [al]
    ·refine ⟨fun c1=>⟨room _ (by simp [hrl]),?_⟩,fun c1=>?_⟩
     all_goals rw [al]
     ·exact ⟨fun c0=>⟨room _ (by simp [hrl]),go _ (by rw [if_pos c3,if_pos c2,if_pos c1,if_pos c0]; simp)⟩,fun c0=>go _ (by rw [if_pos c3,if_pos c2,if_pos c1,if_neg c0]; simp)⟩
     ·exact ⟨fun c0=>⟨room _ (by simp [hrl]),go _ (by rw [if_pos c3,if_pos c2,if_neg c1,if_pos c0]; simp)⟩,fun c0=>go _ (by rw [if_pos c3,if_pos c2,if_neg c1,if_neg c0]; simp)⟩
    ·refine ⟨fun c1=>⟨room _ (by simp [hrl]),?_⟩,fun c1=>?_⟩
     all_goals rw [al]
     ·exact ⟨fun c0=>⟨room _ (by simp [hrl]),go _ (by rw [if_pos c3,if_neg c2,if_pos c1,if_pos c0]; simp)⟩,fun c0=>go _ (by rw [if_pos c3,if_neg c2,if_pos c1,if_neg c0]; simp)⟩
     ·exact ⟨fun c0=>⟨room _ (by simp [hrl]),go _ (by rw [if_pos c3,if_neg c2,if_neg c1,if_pos c0]; simp)⟩,fun c0=>go _ (by rw [if_pos c3,if_neg c2,if_neg c1,if_neg c0]; simp)⟩
   ·refine ⟨fun c2=>⟨room _ (by simp [hrl]),?_⟩,fun c2=>?_⟩
    all_goals rw [al]
    ·refine ⟨fun c1=>⟨room _ (by simp [hrl]),?_⟩,fun c1=>?_⟩
     all_goals rw [al]
     ·exact ⟨fun c0=>⟨room _ (by simp [hrl]),go _ (by rw [if_neg c3,if_pos c2,if_pos c1,if_pos c0]; simp)⟩,fun c0=>go _ (by rw [if_neg c3,if_pos c2,if_pos c1,if_neg c0]; simp)⟩
     ·exact ⟨fun c0=>⟨room _ (by simp [hrl]),go _ (by rw [if_neg c3,if_pos c2,if_neg c1,if_pos c0]; simp)⟩,fun c0=>go _ (by rw [if_neg c3,if_pos c2,if_neg c1,if_neg c0]; simp)⟩
    ·refine ⟨fun c1=>⟨room _ (by simp [hrl]),?_⟩,fun c1=>?_⟩
     all_goals rw [al]
     ·exact ⟨fun c0=>⟨room _ (by simp [hrl]),go _ (by rw [if_neg c3,if_neg c2,if_pos c1,if_pos c0]; simp)⟩,fun c0=>go _ (by rw [if_neg c3,if_neg c2,if_pos c1,if_neg c0]; simp)⟩
     ·exact ⟨fun c0=>⟨room _ (by simp [hrl]),go _ (by rw [if_neg c3,if_neg c2,if_neg c1,if_pos c0]; simp)⟩,fun c0=>go _ (by rw [if_neg c3,if_neg c2,if_neg c1,if_neg c0]; simp)⟩
  have hcon:ll (List.drop (rd ns n 2).toNat (List.take (rd ns n 3).toNat ks)) i=hasB ns ks n i:=rfl;refine ⟨⟨z,ns.getD n [],xs,ts,rs,us,es,ks,ns,cs,i,rfl,rfl,hq,Nat.le_trans hks (by decide)⟩,?_⟩
  rw [show ((n:Nat):Int).toNat=n from rfl,hcon,aL]
  refine ⟨fun hno=>?_,fun hyes=>?_⟩
  ·have hno':hasB ns ks n i=false:=by simpa using hno
   refine ⟨z,xs,ts,rs,us,es,ks,ns,cs,n,i,⟨rfl,rfl,hw.1,hw.2.1,hw.2.2.1,hw.2.2.2,⟨by omega,by omega⟩,hi0,hi1⟩,?_⟩
   rw [hno'] at hlk;rw [dp];refine ⟨fun h0=>?_,fun hne=>?_⟩
   ·rw [if_neg (fun hh=>hh.2 h0)] at hlk
    rw [aL];refine ⟨fun hfb=>?_,fun hfb=>?_⟩
    ·rw [if_pos ⟨rfl,hfb⟩] at hlk;refine ⟨(n:Int),fs,⟨rfl,rfl,by omega⟩,?_⟩
     rw [aL];refine ⟨fun _=>nextF rfl ?_,fun hh=>(by rw [hfb] at hh; cases hh)⟩
     rw [hlk];unfold nY;rw [if_pos (by omega)]
    ·have hfb':E4 z xs cs n i.toNat=false:=hfb;rw [if_neg (fun hh=>by have:=hh.2; rw [hfb'] at this; cases this)] at hlk
     rw [ah];refine ⟨fun hh=>absurd h0 hh,fun _=>?_⟩
     rw [aL];exact ⟨fun hh=>(by rw [hfb] at hh; cases hh),fun _=>kids hlk⟩
   ·rw [if_pos ⟨rfl,hne⟩] at hlk;rw [ah];exact ⟨fun _=>stop rfl hne hlk,fun hh=>absurd hh hne⟩
  ·have hyes':hasB ns ks n i=true:=by simpa using hyes
   rw [hyes',if_neg (fun hh=>by cases hh.1),if_neg (fun hh=>by cases hh.1)] at hlk
   exact kids hlk
def ahR (z:L1) (A B xs ts rs us es ks ns cs:L2):Bool->Bool->OB
 | false,false=>nX z 11 12 (b9 A) (b9 B) xs ts rs us es ks ns cs
 | false,true=>nX z 11 13 (b9 A) none xs ts rs us es ks ns cs++[b9 B]
 | true,false=>nX z 13 12 none (b9 B) xs ts rs us es ks ns cs++[b9 A]
 | true,true=>nX z 13 14 none none xs ts rs us es ks ns cs++[b9 A,b9 B]
theorem agX (a:L2):c5 a a=false:=by simp [c5]
theorem ag9 {a b c:L2} (h:b.length<=a.length) (hc:c≠[]):c5 (a++c) b=true:=by
 have:=List.length_pos_iff.2 hc;exact decide_eq_true (by rw [List.length_append]; omega)
theorem lWs (d n0:Nat):aG (ai TP er d) bV n0 0 (lp TP bV 0) Lws:=by
 intro st K hst;obtain ⟨z,fs0,qs0,xs,ts,rs,us,es,ks,ns,cs,i,⟨⟨⟨hw,htr,hid,hks,hns,hcn⟩,⟨hf0,hq0⟩,hi0,hi1⟩,rfl,rfl⟩,R,hR0,hK⟩:=hst;have hfin:∀ a b,a=c5 R.1.1 fs0->b=c5 R.1.2 qs0->(R.2≠0->K .ret ⟨T 86 [(6,.int .i64 R.2)],ahR z R.1.1 R.1.2 xs ts rs us es ks ns cs a b⟩)/\(R.2=0->K (.exit 0) ⟨T 86 [],ahR z R.1.1 R.1.2 xs ts rs us es ks ns cs a b⟩):=by
  rintro a b rfl rfl;rw [aL] at hK;cases h1:c5 R.1.1 fs0 <;> cases h2:c5 R.1.2 qs0
  ·have h:=hK.2 h1; rw [aL] at h; have h:=h.2 h2; rw [ah] at h; exact h
  ·have h:=hK.2 h1; rw [aL] at h; have h:=h.1 h2; rw [ah] at h; exact h
  ·have h:=hK.1 h1; rw [aL] at h; have h:=h.2 h2; rw [ah] at h; exact h
  ·have h:=hK.1 h1; rw [aL] at h; have h:=h.1 h2; rw [ah] at h; exact h
 refine aC (c7 z xs ts rs us es ks ns cs i) (fun p=>(∀ n∈p.1,n < ns.length)/\sK ns p.1<=1000/\p.2.1.length+sK ns p.1<=3000/\p.2.2.1.length+sK ns p.1<=3000/\dF (hV z xs ks ns cs i) p.1 (p.2.1,p.2.2.1)=R/\p.2.2.2.1=c5 p.2.1 fs0/\p.2.2.2.2=c5 p.2.2.1 qs0/\fs0.length<=p.2.1.length/\qs0.length<=p.2.2.1.length) (fun p=>Ca ns p.1) ?_ (a:=([0],fs0,qs0,false,false)) ⟨by simpa using hns,?_,?_,?_,hR0.symm,(agX _).symm,(agX _).symm,Nat.le_refl _,Nat.le_refl _⟩
 ·rintro ⟨stk,fs,qs,a,b⟩ ⟨hin,hwt,hwf,hwq,hR,ha,hb,hlf,hlq⟩ k hn hk;simp only at hin hwt hwf hwq hR ha hb hlf hlq;have fin0:stk=[]->k (.exit 0) ⟨T 86 [],ahR z fs qs xs ts rs us es ks ns cs a b⟩:=by
   rintro rfl;have hRe:R=((fs,qs),0):=hR.symm;have h:=(hfin a b (by rw [hRe]; exact ha) (by rw [hRe]; exact hb)).2 (by rw [hRe])
   rw [hRe] at h;exact hk _ _ (by simp) h
  have stop:∀ {n rest e},stk=n :: rest->e≠0->hV z xs ks ns cs i n (fs,qs)=((fs,qs),e)->k .ret ⟨T 86 [(6,.int .i64 e)],ahR z fs qs xs ts rs us es ks ns cs a b⟩:=by
   rintro n rest e rfl hne he;rw [jr,he,if_pos hne] at hR;have h:=(hfin a b (by rw [← hR]; exact ha) (by rw [← hR]; exact hb)).1 (by rw [← hR]; exact hne)
   rw [← hR] at h;exact hk _ _ (by simp) h
  have hmu:∀ {n rest},stk=n :: rest->Ca ns rest < Ca ns stk:=by
   rintro n rest rfl;have:=PB htr (hin n (List.mem_cons_self ..));simp only [Ca];omega
  have next:∀ {n rest A B a' b'},stk=n :: rest->hV z xs ks ns cs i n (fs,qs)=((A,B),0)->A.length<=fs.length+wt ns n->B.length<=qs.length+wt ns n->fs0.length<=A.length->qs0.length<=B.length->a' = c5 A fs0->b' = c5 B qs0->k Out.normal (c7 z xs ts rs us es ks ns cs i (rest,A,B,a',b')):=by
   intro n rest A B a' b' hs he h1 h2 h3 h4 h5 h6;have hm:=hmu hs;subst hs;rw [jr,he,if_neg (fun hh=>hh rfl)] at hR
   simp only [sK] at hwt hwf hwq;exact hn (rest,A,B,a',b') ⟨fun m hm=>hin m (List.mem_cons_of_mem _ hm),(by show sK ns rest<=1000; omega),(by show A.length+sK ns rest<=3000; omega),(by show B.length+sK ns rest<=3000; omega),hR,h5,h6,h3,h4⟩ hm
  have nextT:∀ {n rest os},stk=n :: rest->hV z xs ks ns cs i n (fs,qs)=((fs,qs++os),0)->os≠[]->os.length<=wt ns n->k .normal (c7 z xs ts rs us es ks ns cs i (rest,fs,qs++os,a,true)):=by
   intro n rest os hs he ho hl;exact next hs he (by omega) (by rw [List.length_append]; omega) hlf (by rw [List.length_append]; omega) ha (ag9 hlq ho).symm
  have nextS:∀ {n rest},stk=n :: rest->hV z xs ks ns cs i n (fs,qs)=((fs,qs),0)->k .normal (c7 z xs ts rs us es ks ns cs i (rest,fs,qs,a,b)):=fun hs he=>next hs he (by omega) (by omega) hlf hlq ha hb
  have nextF:∀ {n rest},stk=n :: rest->hV z xs ks ns cs i n (fs,qs)=((fs++[[(n:Int)]],qs),0)->k .normal (c7 z xs ts rs us es ks ns cs i (rest,fs++[[(n:Int)]],qs,true,b)):=by
   intro n rest hs he;have hw1:=(nN htr (hin n (by rw [hs]; exact List.mem_cons_self ..))).1
   exact next hs he (by rw [List.length_append]; show fs.length+1<=_; omega) (by omega) (by rw [List.length_append]; omega) hlq (ag9 hlf (by simp)).symm hb
  have nextK:∀ {n rest},stk=n :: rest->ot ns n=false->hV z xs ks ns cs i n (fs,qs)=dF (hV z xs ks ns cs i) (gm ns n) (fs,qs)->k .normal (c7 z xs ts rs us es ks ns cs i (gm ns n++rest,fs,qs,a,b)):=by
   rintro n rest rfl hlf' he;have hnn:=hin n (List.mem_cons_self ..);simp only [sK] at hwt hwf hwq;refine hn (gm ns n++rest,fs,qs,a,b) ⟨?_,?_,?_,?_,?_,ha,hb,hlf,hlq⟩ ?_
   ·intro m hm;rcases List.mem_append.1 hm with hm | hm
    ·exact (vq htr hnn m hm).1
    ·exact hin m (List.mem_cons_of_mem _ hm)
   ·show sK ns (gm ns n++rest)<=1000;rw [ra,r9 htr hnn hlf']; exact hwt
   ·show fs.length+sK ns (gm ns n++rest)<=3000;rw [ra,r9 htr hnn hlf']; exact hwf
   ·show qs.length+sK ns (gm ns n++rest)<=3000;rw [ra,r9 htr hnn hlf']; exact hwq
   ·show dF _ (gm ns n++rest) (fs,qs)=_;rw [By,← he];rw [jr] at hR;exact hR
   ·show Ca ns (gm ns n++rest) < Ca ns (n :: rest);rw [GA];have:=Ln htr hnn hlf';simp only [Ca];omega
  cases a <;> cases b
  ·exact aiC d _ htr hw hid hks hcn hi0 hi1 hin hwt hwf hwq fin0 stop nextT nextS nextF nextK
  ·exact aiB d _ htr hw hid hks hcn hi0 hi1 hin hwt hwf hwq fin0 stop nextT nextS nextF nextK
  ·exact aiA d _ htr hw hid hks hcn hi0 hi1 hin hwt hwf hwq fin0 stop nextT nextS nextF nextK
  ·exact aiz d _ htr hw hid hks hcn hi0 hi1 hin hwt hwf hwq fin0 stop nextT nextS nextF nextK
 ·have:=(nN htr hns).2.1;show wt ns 0+0<=1000; omega
 ·have:=(nN htr hns).2.1;show fs0.length+(wt ns 0+0)<=3000; omega
 ·have:=(nN htr hns).2.1;show qs0.length+(wt ns 0+0)<=3000; omega
theorem aic:∀ g G,agR g=some G->cf TP g G:=iB ahg (iB Qh (iB Qi (iB Qk ahv)))
theorem ahK:KnowOk TP er 3:=by
 refine ⟨mixedOrders,fun g sp h=>np h,?_,aic,?_⟩
 ·intro d' _ f i S n0 hS;simp only [er] at hS;split at hS
  ·rename_i hf; subst hf;split at hS
   ·rename_i hi; subst hi; cases hS; exact lWs d' n0
   ·cases hS
  ·cases hS
 ·intro f hf;have:f=153:=Nat.eq_of_beq_eq_true hf;subst this;exact Go.Proofs.Re
theorem ahe:cf TP bV Gws:=by
 refine cL (N:=er) 3 ahK ?_;rintro args b K ⟨z,fs,qs,xs,ts,rs,us,es,ks,ns,cs,i,⟨rfl,rfl,hwk⟩,R,hR,hK⟩;show bQ _ _ _ _ _ _ fun v b1=>ld 13 v b1 K
 rw [ahF]; delta Maa Mab Mad Maj Mak Mam Mao Maq Mar Mav MaA MaE MaG MaH MaO MaR MaW MaX MaZ Ma3 Ma6 Mbb Mbc Mbt MbG Mb6 Mb8 Mcj McA McP MdX Mew MeE Mfq MgU Mg8 MhM Mji Mj9;refine ⟨z,fs,qs,xs,ts,rs,us,es,ks,ns,cs,i,⟨hwk,rfl,rfl⟩,R,hR,?_⟩;rw [aL] at hK ⊢;refine ⟨fun h1=>?_,fun h1=>?_⟩
 ·have h:=hK.1 h1;rw [aL] at h ⊢;refine ⟨fun h2=>?_,fun h2=>?_⟩
  ·have h:=h.1 h2;rw [ah]; exact ⟨fun _=>h,fun h0=>by rw [h0] at h; exact h⟩
  ·have h:=h.2 h2;rw [ah]; exact ⟨fun _=>h,fun h0=>by rw [h0] at h; exact h⟩
 ·have h:=hK.2 h1;rw [aL] at h ⊢;refine ⟨fun h2=>?_,fun h2=>?_⟩
  ·have h:=h.1 h2;rw [ah]; exact ⟨fun _=>h,fun h0=>by rw [h0] at h; exact h⟩
  ·have h:=h.2 h2;rw [ah]; exact ⟨fun _=>h,fun h0=>by rw [h0] at h; exact h⟩
end
def aim:FuncId->Option eG:=fun g=>if g=bV then some Gws else none
def MaY (a:List IntKind)(b:L2)(c:List IntKind)(d:L2)(e:List aq):List aq:=.ro a b::.ro c d::e
def MbW (a:L2):L2:=RS.bL (lE a)
def Mcp (a b:Nat)(c:Int):List IV:=May a b (Ma2 c)
def MdY (a:List aq):List aq:=MaX []::a
def Mf5 (a b:Nat)(c:(L2 × L2) × Int):IV:=.tup (Mcp a b c.2)
def Mhx:List aq:=MdY (MdY [])
def MhE (a b:Nat):IV:=.tup (May a b Mb3)
def Mh0 (a b:(L2 × L2) × Int)(c:List aq):List aq:=MaX (Mcj a)::MaX (Mb8 b)::c
abbrev Mih (a:L2):Prop:=RS.mj Med (MeV MaW (lE a))
abbrev MiM (a b:Nat)(c:List IV)(d e f:L2)(g:List aq):Prop:=EB (Mao 0 (May a b c)) (.ro kQ (MbW d)::MaY MaW (lE e) aM f g)
def MjE (a:L2):L2:=Dc (MbW a) (lE a) a
theorem ah8 (z:L1) (xs ts rs us es:L2) (i:Int) (K:KP):(comes TP { Γ:=gj,Λ:=fun _ _=>none,Τ:=aim } 3 ux [.agg (af z 0 1 2 3 4),.int .i64 i] (aH xs ts rs us es) K) =(∀a,Maz a (xz (MbW xs) (lE xs) xs) (∀b,Mbw b (K (.tup (Mcp 0 1 7)) Mhx) (MbF i 0 b (Mbf i (Man xs) b (Mb4 (Za Med (Mb7 xs [])) (Mih xs) (MiM 1 2 [] xs xs xs []) (Mci a 0 (∃c:L1,∃d:L2,∃e:L2,∃f:L2,∃g:L2,∃j:L2,∃k:L2,∃l:L2,∃m:L2,∃n:L2,∃o:L2,∃p:Int,ahq (Mam 0::Mai i (MaD Mi7 [])) (MhM z 3 4 5 6 7 8 9 xs ts rs us es (lE xs) (MbW xs) (MjE xs) [] [] []) c d e f g j k l m n o p/\(∃q:(L2 × L2) × Int,MeE (q=c8 c f m n o p d e) (c5 (Mcj q) d) (br (c5 (Mb8 q) e) (MdX q (K (Mf5 0 1 q) Mhx) (K (MhE 0 1) (Mh0 q q []))) (MdX q (K (Mf5 0 1 q) Mhx) (K (MhE 0 1) (Mh0 q q [])))) (br (c5 (Mb8 q) e) (MdX q (K (Mf5 0 1 q) Mhx) (K (MhE 0 1) (Mh0 q q []))) (MdX q (K (Mf5 0 1 q) Mhx) (K (MhE 0 1) (Mh0 q q [])))))) (McA a (K (.tup (Mcp 0 1 a)) Mhx) (K (MhE 0 1) Mhx)))))))) :=by delta Maa Mab Mad Mai Maj Mak Mam Man Mao Maq Mav Max May Maz MaC MaD MaE MaG MaO MaW MaX MaY MaZ Ma2 Ma3 Mbb Mbc Mbf Mbt Mbw MbF MbW Mb3 Mb4 Mb7 Mb8 Mci Mcj Mcp McA MdX MdY Med MeE MeV Mf5 Mi7 Mhx MhE MhM Mh0 Mih MiM MjE; refine nm ?_; refine nm ?_; kernel_rfl
def SM:FuncId->Option eG:=fun g=>if g=bV then some Gwk else none
theorem J0 (z:L1) (h:Int) (xs ts rs us es ks ns cs:L2) (i:Int) (K:IV->OB->Prop):(bQ TP { Γ:=gj,Λ:=fun _ _=>none,Τ:=SM } 3 fL [.ptr 0 0,.int .i64 i,fx h] (some (.var 149 (kA z 1 2 3 4 5 6 7 8)) :: y0 xs ts rs us es ks ns cs) fun v b1=>ld 9 v b1 K) =(∀a,Mi8 a i xs (Mi3 a (∃b:L1,∃c:L1,∃d:Int,∃e:Int,∃f:Int,∃g:L2,∃j:L2,∃k:L2,∃l:L2,∃m:L2,∃n:L2,∃o:L2,∃p:L2,∃q:Int,Se (Mam 0::Mai i (MaD (McY 1 2 1 2 []) [])) (Mav 149 (kA z 3 4 5 6 7 8 9 10) 165 [MaG 101 11 (Mam 2::Mbm 12 13 [])] (Maq 110 (MbP 0) (.ro aM xs) (Mb6 ts rs us es ks ns (Mcy fG cs 79 (Mdv (Mas xs i 0) (Mas xs i 1) (Mas xs i 2) (Mas xs i 3) (Mas xs i 4) (Mas xs i 5) (Mas xs i 6) (Mas xs i 7) (Mas xs i 8) (Mas xs i 9) (Mas xs i 10) (Mas xs i 11) (Mas xs i 12) (Mas xs i 13) (Mas xs i 14) (Mas xs i 15) (Mas xs i 16) (Mas xs i 17) (Mas xs i 18) (Mas xs i 19) []) 25 (Mi9 h) 31 (Map (Mas xs i 8) (Mas xs i 9) (Mas xs i 10) (Mas xs i 11) []) [])))) b c d e f g j k l m n o p q/\K (.tup (Mdc (Om b c d g n o p q e f) (Ol b c d g n o p q e f) (Ma2 (RE b c d g n o p q e f)))) (Miw b g j k l m n o p)))) :=by delta Maa Mab Mac Mad Mae Mag Mai Maj Mak Mal Mam Man Map Maq Mas Mav Max MaD MaE MaG MaM MaO MaV MaW MaZ Ma2 Ma9 Mbb Mbm Mbp Mbw MbP Mb6 Mcy McY Mdc Mdv Miw Mi3 Mi8 Mi9; refine nm ?_; kernel_rfl
def GP (z:L1) (h:Int) (xs ks ns cs:L2) (i:Int):Int:=RE z (xs.getD i.toNat []) h xs ks ns cs i (fr (xs.getD i.toNat []) 8) (fr (xs.getD i.toNat []) 10)
def Qc (z:L1) (h:Int) (xs ks ns cs:L2) (i:Int):Int:=Om z (xs.getD i.toNat []) h xs ks ns cs i (fr (xs.getD i.toNat []) 8) (fr (xs.getD i.toNat []) 10)
def Qb (z:L1) (h:Int) (xs ks ns cs:L2) (i:Int):Int:=Ol z (xs.getD i.toNat []) h xs ks ns cs i (fr (xs.getD i.toNat []) 8) (fr (xs.getD i.toNat []) 10)
def Xf (args:List IV) (b:OB) (z:L1) (h:Int) (xs ts rs us es ks ns cs:L2) (i:Int):Prop:=args=[.ptr 0 0,.int .i64 i,fx h]/\b=some (.var 149 (kA z 1 2 3 4 5 6 7 8)) :: y0 xs ts rs us es ks ns cs/\qc z xs ks ns cs/\ag h/\0<=i/\i < xs.length
def Gkd:eG:=fun args b K=>∃z h xs ts rs us es ks ns cs i,Xf args b z h xs ts rs us es ks ns cs i/\K (.tup [vx (Qc z h xs ks ns cs i) (Qb z h xs ks ns cs i),.int .i64 (GP z h xs ks ns cs i)]) b
def N9:FuncId->Option eG:=fun g=>if g=fL then some Gkd else none
def Zs (z:L1) (h:Int) (xs ts rs us es ks ns cs out:L2) (i:Int):St:=⟨T 42 [(3,.ptr 5 0),(6,.ptr 6 0),(8,.sl 7),(22,.int .i64 xs.length),(23,.int .i64 i)],acX xs ts rs us es++[some (.var 25 (fx h).cells),some (.var 149 (kA z 0 1 2 3 4 8 9 10)),some (.row 31 dm out),some (.ro [.u64,.i64] ks),some (.ro kQ ns),some (.ro fG cs)]⟩
def McG (a b c d:L2)(e:OB):OB:=Mak aM a jt b (Mak ie c MaO d e)
def McT (a b c d e:L2)(f:OB):OB:=Mbu a (Mak jt b ie c (Mak MaO d dE e f))
def Mdf (a:L2):aq:=.row 31 dm a
def Men:aq:=MaT 31 dm
def Mgm (a b c d e:L2)(f:aq)(g:OB):OB:=McG a b c d (Maj dE e f g)
def MgO (a b:Nat)(c:List (Nat × IV))(d e f g h:L2)(i:OB):St:=MbD a b 5 c (McT d e f g h i)
def MjX (a b:Int):L1:=MaF (Mag a) (Mae a) (Mag b) (Mae b) []
theorem rKk (Λ:FuncId->Nat->Option aB) (d:Nat) (z:L1) (h:Int) (xs ts rs us es ks ns cs out:L2) (i:Int) (k:Out->St->Prop):(round (ai TP { Γ:=gj,Λ:=Λ,Τ:=N9 } d) dS 5 0 (lp TP dS 0) (Zs z h xs ts rs us es ks ns cs out i) k) =(Mcg i xs (∃a:L1,∃b:Int,∃c:L2,∃e:L2,∃f:L2,∃g:L2,∃j:L2,∃l:L2,∃m:L2,∃n:L2,∃o:Int,Mcv (Xf (Mam 0::Mai i (MbE h)) (Miw z xs ts rs us es ks ns cs) a b c e f g j l m n o) (GP a b c l m n o) (k .ret (MaH 42 (Mef 4 5 5 (GP a b c l m n o)) (Mgm xs ts rs us es Men []))) (Mik out 32 (k .normal (MgO 42 3 (Mh6 6 6 8 7 22 xs 23 i) xs ts rs us es (Mav 25 (Mi9 h) 149 (kA z 0 1 2 3 4 8 9 10) (Mad (Mdf (Mg0 out 4 (MjX (Qc a b c l m n o) (Qb a b c l m n o)))) (.ro MaW ks) (Mak kQ ns fG cs []))))))) (k MbT (MiX 42 8 5 (Mgm xs ts rs us es (Mdf out) [])))) :=by kernel_rfl
def xL (z:L1) (h:Int) (xs ks ns cs:L2):Nat->Nat->L2->L2 × Int
 | 0,_,out=>(out,0)
 | m+1,i,out=>if GP z h xs ks ns cs i≠0 then ([],GP z h xs ks ns cs i) else xL z h xs ks ns cs m (i+1) (out++[cI (Qc z h xs ks ns cs i) (Qb z h xs ks ns cs i)])
def N5 (z:L1) (h:Int) (xs ks ns cs:L2):L2:=(xL z h xs ks ns cs xs.length 0 []).1
def IE (z:L1) (h:Int) (xs ks ns cs:L2):Int:=(xL z h xs ks ns cs xs.length 0 []).2
def Xe (n0:Nat) (st:St) (z:L1) (h:Int) (xs ts rs us es ks ns cs:L2):Prop:=(xs≠[]->qc z xs ks ns cs)/\ag h/\xs.length<=1000/\n0=5/\st=Zs z h xs ts rs us es ks ns cs [] 0
def Rm:aB:=fun n0 st K=>∃z h xs ts rs us es ks ns cs,Xe n0 st z h xs ts rs us es ks ns cs/\br (IE z h xs ks ns cs != 0) (K .ret ⟨T 42 [(4,.sl 5),(5,.int .i64 (IE z h xs ks ns cs))],acX xs ts rs us es++[some (.row 31 dm [])]⟩) (K (.exit 0) ⟨T 42 [(8,.sl 5)],acX xs ts rs us es++[some (.row 31 dm (N5 z h xs ks ns cs))]⟩)
def ZE:Know:={ Γ:=gj,Λ:=fun f i=>if f=dS then (if i=0 then some Rm else none) else none,Τ:=N9 }
def Mha (a:L2):List aq:=[Mdf a]
def Mhw:List aq:=[MaT 31 dm]
theorem OL (z:L1) (xs ts rs us es:L2) (h:Int) (K:KP):(comes TP ZE 3 dS [.agg (af z 0 1 2 3 4),fx h] (aH xs ts rs us es) K) =(∀a,Maz a (xz (MbW xs) (lE xs) xs) (Mb4 (Za Med (Mb7 xs [])) (Mih xs) (MiM 1 2 [] xs xs xs []) (McA a (K (Mhd a) Mhw) (∃b:L1,∃c:Int,∃d:L2,∃e:L2,∃f:L2,∃g:L2,∃i:L2,∃j:L2,∃k:L2,∃l:L2,Mcv (Xe 5 (MgO 42 3 (MiT 6 6 8 7 22 xs 23) xs ts rs us es (Mav 25 (Mi9 h) 149 (kA z 0 1 2 3 4 8 9 10) (Mid 31 dm (lE xs) (Mak kQ (MbW xs) fG (MjE xs) [])))) b c d e f g i j k l) (IE b c d j k l) (K (Mhd (IE b c d j k l)) Mhw) (K (Mhd 0) (Mha (N5 b c d j k l))))))) :=by delta Maa Mab Mac Mad Mae Mag Mai Maj Mak Mal Mam Man Mao Maq Mar Mav Max May Maz MaA MaH MaO MaT MaW MaY Ma2 Ma3 Ma9 Mbe Mbu Mbv MbD MbM MbV MbW Mb4 Mb7 Mcv McA McT Mdf Med MeV Mf2 MgO Mha Mhd Mhw Mid Mih MiM MiT Mi9 MjE; refine nm ?_; kernel_rfl
def N4 (xs:L2):L2:=RS.bL (lE xs)
def SF (xs:L2):L2:=Dc (RS.bL (lE xs)) (lE xs) xs
def QI (xs:L2):Int:=xz (RS.bL (lE xs)) (lE xs) xs
def mJ (z:L1) (h:Int) (xs:L2):Int:=if QI xs≠0 then QI xs else IE z h xs (lE xs) (N4 xs) (SF xs)
def nG (z:L1) (h:Int) (xs:L2):L2:=if QI xs≠0 then [] else N5 z h xs (lE xs) (N4 xs) (SF xs)
def qj (l:List IV) (bs:List aq):Prop:=∃z xs ts rs us es h,l=[.agg (af z 0 1 2 3 4),fx h]/\bs=aH xs ts rs us es/\Ch z/\aY xs/\ag h/\xs.length<=1000
def zm:Vs.Spec:=⟨qj,fun l bs=>(.tup [.sl 0,.int .i64 (mJ (dv l 0) (v2 l 1) (aA bs 0))],[.row 31 dm (nG (dv l 0) (v2 l 1) (aA bs 0))])⟩
section
open Go.IntWalk
theorem P6:KnowOk TP { Γ:=gj,Λ:=fun _ _=>none,Τ:=SM } 3:=⟨mixedOrders,fun g sp h=>np h,cO (fun _ _=>rfl) 3,iB L4 (fun _ _ h=>Ir h),fun f h=>(by cases h)⟩
theorem EZ:cf TP fL Gkd:=by
 refine cL (N:={ Γ:=gj,Λ:=fun _ _=>none,Τ:=SM }) 3 P6 ?_
 rintro args b K ⟨z,h,xs,ts,rs,us,es,ks,ns,cs,i,⟨rfl,rfl,hw,hh,hi0,hi1⟩,hK⟩;show bQ _ _ _ _ _ _ fun v b1=>ld 9 v b1 K
 have hil:i.toNat < xs.length:=by omega
 have hgood:=hw.1.2.1 _ (getM hil);have okr:aI aM xs:=fun r hr=>(hw.1.2.1 r hr).2.1
 obtain ⟨hr20,hrB,m0,m4,m6,m8,m10⟩:=hgood;rw [J0]; delta Maa Mab Mac Mad Mae Mag Mai Maj Mak Mal Mam Man Map Maq Mas Mav Max MaD MaE MaG MaM MaO MaV MaW MaZ Ma2 Ma9 Mbb Mbm Mbp Mbw MbP Mb6 Mcy McY Mdc Mdv Miw Mi3 Mi8 Mi9;rintro t1 e1;have p1:t1:=by rw [e1]; exact ⟨hi0,hi1⟩
 refine ⟨p1,p1,z,xs.getD i.toNat [],h,fr (xs.getD i.toNat []) 8,fr (xs.getD i.toNat []) 10,xs,ts,rs,us,es,ks,ns,cs,i,⟨rfl,?_,hw,⟨hr20,hrB,m0,m4,m6,m8,m10⟩,hh,⟨m8,m10⟩,hi0,hi1⟩,hK⟩;have e8:(vx (fr (xs.getD i.toNat []) 8) (fr (xs.getD i.toNat []) 10)).cells=[.int .i64 (rd xs i.toNat 8),.int .u64 (rd xs i.toNat 9),.int .i64 (rd xs i.toNat 10),.int .u64 (rd xs i.toNat 11)]:=by
  have:=nv (a:=rd xs i.toNat 8) (b:=rd xs i.toNat 9) (c:=rd xs i.toNat 10) (d:=rd xs i.toNat 11) (cH okr _ 9 (by decide) rfl) (cH okr _ 11 (by decide) rfl)
  rw [uD xs i.toNat 8,uD xs i.toNat 10] at this;rw [← this]; rfl
 unfold rY;rw [e8]
 rfl
theorem US:∀ g G,N9 g=some G->cf TP g G:=iB EZ (fun _ _ h=>Ir h)
theorem Aj (z:L1) (h:Int) (xs ks ns cs:L2):∀ (m i:Nat) (out:L2),(xL z h xs ks ns cs m i out).2≠0->(xL z h xs ks ns cs m i out).1=[]
 | 0,i,out,he=>absurd rfl he
 | m+1,i,out,he=>by
  unfold xL at he ⊢;split
  ·rfl
  ·rename_i h1; rw [if_neg h1] at he; exact Aj z h xs ks ns cs m (i+1) _ he
theorem lKk (d n0:Nat):aG (ai TP ZE d) dS n0 0 (lp TP dS 0) Rm:=by
 intro st K hst;obtain ⟨z,h,xs,ts,rs,us,es,ks,ns,cs,⟨hw,hh,hl,rfl,rfl⟩,hK⟩:=hst;rw [ah] at hK;refine aC (fun p:Nat × L2=>Zs z h xs ts rs us es ks ns cs p.2 p.1) (fun p=>p.1<=xs.length/\p.2.length=p.1/\xL z h xs ks ns cs (xs.length - p.1) p.1 p.2=xL z h xs ks ns cs xs.length 0 []) (fun p=>xs.length - p.1) ?_ (a:=(0,[])) ⟨Nat.zero_le _,rfl,rfl⟩
 rintro ⟨i,out⟩ ⟨hle,hol,hR⟩ k hn hk;simp only at hle hol hR;show round (ai TP { Γ:=gj,Λ:=_,Τ:=N9 } d) _ _ _ _ (Zs z h xs ts rs us es ks ns cs out i) k;rw [rKk]; delta Maa Mab Mac Mad Mae Mag Mah Mai Maj Mak Mal Mam Man Maq Mar Mau Mav MaA MaC MaE MaF MaH MaO MaT MaW MaZ Ma3 Ma9 Mbb Mbe Mbh Mbl Mbu MbC MbD MbE MbF MbK MbM MbT MbV Mcg Mcr Mcv McG McT Mdf Mdr Mef Men Mgm MgO Mg0 Mh6 Mik Miw MiX Mi9 MjX;rw [al];constructor
 ·intro hi;have hi':i < xs.length:=by omega
  have hw':=hw (by rintro rfl; simp at hi')
  refine ⟨z,h,xs,ts,rs,us,es,ks,ns,cs,i,⟨rfl,rfl,hw',hh,by omega,by omega⟩,?_⟩
  have hs:xL z h xs ks ns cs (xs.length - i) i out=if GP z h xs ks ns cs i≠0 then ([],GP z h xs ks ns cs i) else xL z h xs ks ns cs (xs.length - (i+1)) (i+1) (out++[cI (Qc z h xs ks ns cs i) (Qb z h xs ks ns cs i)]):=by
   rw [show xs.length - i=(xs.length - (i+1))+1 by omega]; rfl
  rw [hs] at hR;rw [ah];constructor
  ·intro hne;rw [if_pos hne] at hR;have hE:IE z h xs ks ns cs=GP z h xs ks ns cs i:=(congrArg Prod.snd hR).symm;rw [hE] at hK;exact hk _ _ (by simp) (hK.1 hne)
  ·intro h0;rw [if_neg (by simpa using h0)] at hR
   refine ⟨by omega,?_⟩
   rw [show IntKind.i64.wrap ((i:Int)+1)=((i+1:Nat):Int) by rw [i64_in _ (by omega)]; rfl]
   exact hn (i+1,out++[cI (Qc z h xs ks ns cs i) (Qb z h xs ks ns cs i)]) ⟨hi',by simp [hol],hR⟩ (by show xs.length - (i+1) < xs.length - i; omega)
 ·intro hi;have:i=xs.length:=by omega
  subst this;rw [Nat.sub_self] at hR;have hE:IE z h xs ks ns cs=0:=(congrArg Prod.snd hR).symm;have hL:N5 z h xs ks ns cs=out:=(congrArg Prod.fst hR).symm;rw [hE,hL] at hK;exact hk _ _ (by simp) (hK.2 rfl)
theorem P5:KnowOk TP ZE 3:=cP (f0:=dS) (L:=Rm) (fun g sp h=>np h) rfl US lKk 3
theorem FM (n:Int):ag (qd n):=by
 unfold qd;have h1:0<=mx .i64 0 (mn .i64 n 32)/\mx .i64 0 (mn .i64 n 32)<=32:=by unfold mx mn; split <;> split <;> omega
 generalize mx .i64 0 (mn .i64 n 32)=e at h1;rw [i64_in (32 - e) (by omega)]
 obtain ⟨k,hk,hk2⟩:∃k:Nat,min (32 - e).toNat 64=k/\k<=32:=⟨_,rfl,by omega⟩
 rw [hk];have h2:(2:Int) ^ k<=2 ^ 32:=by
  have:=Nat.pow_le_pow_right (n:=2) (by decide) hk2
  exact_mod_cast this
 have h3:(0:Int) < 2 ^ k:=by
  have:=Nat.pow_pos (n:=k) (show 0 < 2 by decide)
  exact_mod_cast this
 have h4:(2:Int) ^ 32=4294967296:=by decide
 rw [i64_in _ (by omega)]
 unfold ag;omega
theorem Ui {x:Int} (h:ag x):bn (x / 18446744073709551616):=by unfold ag at h; unfold bn; omega
theorem Uh (x:Int):aj (x % 18446744073709551616):=by unfold aj; omega
theorem ND (xs:L2):ag (cM xs):=by unfold cM; split; exact jA 0 xs; exact bg
theorem Hq (w:Nat) (xs:L2):ag (Jv w xs):=by unfold Jv; split; exact vz _ _; exact bg
theorem NC (xs:L2):ag (cX xs):=by unfold cX; split; exact Hq _ _; exact bg
theorem NB (xs:L2):ag (cY xs):=by unfold cY; split; exact Hq _ _; exact bg
theorem MS {ns ks xs:L2} {r:L1} (h:r∈Dc ns ks xs):∃i,r=Fg ns ks xs i:=by
 unfold Dc at h;split at h
 ·unfold qR at h;rw [List.mem_map] at h;obtain ⟨i,_,rfl⟩:=h;exact ⟨i,rfl⟩
 ·cases h
theorem QH (ns ks xs:L2):Uj (Dc ns ks xs):=by
 intro r hr;obtain ⟨i,rfl⟩:=MS hr;refine ⟨?_,?_,?_,?_⟩
 ·rw [show fr (Fg ns ks xs i) 0=cM (CK ns ks xs i) from kS _]; exact ND _
 ·rw [show fr (Fg ns ks xs i) 2=cX (CK ns ks xs i) from kS _]; exact NC _
 ·rw [show fr (Fg ns ks xs i) 4=cY (CK ns ks xs i) from kS _]; exact NB _
 ·rw [show fr (Fg ns ks xs i) 6=qd (rd ns i 0) from kS _]; exact FM _
theorem oA {x:Int} (h:ag x):dt .i64 (x / 18446744073709551616):=by
 have h1:=Ui h;exact ⟨h1.1,by have:=h1.2; show x / 18446744073709551616<=9223372036854775807; omega⟩
theorem oz (x:Int):dt .u64 (x % 18446744073709551616):=by
 have h1:=Uh x;exact ⟨h1.1,by have:=h1.2; show x % 18446744073709551616<=18446744073709551615; omega⟩
theorem QG (ns ks xs:L2):aI fG (Dc ns ks xs):=by
 intro r hr j hj;obtain ⟨i,rfl⟩:=MS hr;match j,hj with
 | 0,_=>exact oA (ND _)
 | 1,_=>exact oz _
 | 2,_=>exact oA (NC _)
 | 3,_=>exact oz _
 | 4,_=>exact oA (NB _)
 | 5,_=>exact oz _
 | 6,_=>exact oA (FM _)
 | 7,_=>exact oz _
theorem Pv {xs:L2} (h:xs≠[]):0 < (N4 xs).length:=by
 have hne:lE xs≠[]:=by
  intro e;have:=tN xs;rw [e] at this;exact h (List.eq_nil_of_length_eq_zero this.symm)
 unfold N4;rw [RS.fZ hne (SH xs)];exact RS.Bk _ _ _ _ _ _ _
theorem RD {z:L1} {xs:L2} (hz:Ch z) (hg:aY xs) (hl:xs.length<=1000) (hne:xs≠[]) (hc:QI xs=0):qc z xs (lE xs) (N4 xs) (SF xs):=by
 refine ⟨⟨hz,hg,QH _ _ _,QG _ _ _⟩,O1 (SH xs) (Hk xs),NG xs,by rw [tN]; exact hl,Pv hne,?_⟩
 have hc':xz (RS.bL (lE xs)) (lE xs) xs=0:=hc;unfold SF N4 Dc;rw [if_pos hc',xn]
theorem mA {xs:L2} (h:aY xs):wT 20 xs:=fun r hr=>(h r hr).1
theorem yB {xs:L2} (h:aY xs):ja xs:=fun r hr=>⟨(h r hr).2.2.1,(h r hr).2.2.2.1,(h r hr).2.2.2.2.1⟩
theorem QY:aa TP dS zm:=by
 refine ab (N:=ZE) 3 P5 ?_;rintro l bs _ _ ⟨z,xs,ts,rs,us,es,h,rfl,rfl,hz,hg,hh,hl⟩;have hF:zm.F [.agg (af z 0 1 2 3 4),fx h] (aH xs ts rs us es)=(.tup [.sl 0,.int .i64 (mJ z h xs)],[.row 31 dm (nG z h xs)]):=by
  show (IV.tup [.sl 0,.int .i64 (mJ (dv _ 0) (v2 _ 1) xs)],[aq.row 31 dm (nG (dv _ 0) (v2 _ 1) xs)])=_;rw [dA _ z 0 1 2 3 4 hz.1.1.1 rfl,bc _ h 1 rfl]
 rw [hF,OL]; delta Maa Mab Mac Mad Mae Mag Mai Maj Mak Mal Mam Man Mao Maq Mar Mav Max May Maz MaA MaH MaO MaT MaW MaY Ma2 Ma3 Ma9 Mbe Mbu Mbv MbD MbM MbV MbW Mb4 Mb7 Mcv McA McT Mdf Med MeV Mf2 MgO Mha Mhd Mhw Mid Mih MiM MiT Mi9 MjE;rintro t1 e1;refine ⟨⟨_,rfl,rfl,mA hg,hl⟩,Ho hl,Hf (mA hg) (yB hg) hl,?_⟩;have e1':t1=QI xs:=e1;rw [ah];refine ⟨fun hne=>?_,fun h0=>?_⟩
 ·unfold mJ nG;rw [if_pos (by rw [← e1']; exact hne),if_pos (by rw [← e1']; exact hne),e1']
 ·refine ⟨z,h,xs,ts,rs,us,es,lE xs,N4 xs,SF xs,⟨fun hne=>RD hz hg hl hne (by rw [← e1']; exact h0),hh,hl,rfl,rfl⟩,?_⟩
  unfold mJ nG;rw [if_neg (by rw [← e1']; simpa using h0),if_neg (by rw [← e1']; simpa using h0),ah]
  refine ⟨fun hne=>?_,fun h1=>by rw [h1]⟩
  rw [show N5 z h xs (lE xs) (N4 xs) (SF xs)=[] from Aj _ _ _ _ _ _ _ _ _ hne]
end
def Od:FuncId->Option Vs.Spec:=fun g=>if g=dS then some zm else gj g
def yU:FuncId->Option Vs.Spec:=fun g=>Od g
def du (l:List IV):L1:=[ae l 0 0,ae l 0 1,ae l 0 2,ae l 0 3,ae l 0 4,ae l 0 5,ae l 0 6,ae l 0 7,ae l 0 8,ae l 0 9,ae l 0 10,ae l 0 11,ae l 0 12,ae l 0 17,ae l 0 18,ae l 0 19,ae l 0 20,ae l 0 21,ae l 0 22]
section
open Go.IntWalk
theorem My:∀ {g:FuncId} {sp:Vs.Spec},Od g=some sp->aa TP g sp:=ao QY np
theorem Mx:∀ {g:FuncId} {sp:Vs.Spec},yU g=some sp->aa TP g sp:=My
theorem sJ (l:List IV) (z:L1) (h:z.length=19) (hl:lg l 0=some (.agg (af z 0 1 2 3 4))):du l=z:=dA l z 0 1 2 3 4 h hl
theorem GJ (z:L1) (h:Int) (xs ks ns cs:L2):∀ (m i:Nat) (out:L2),(xL z h xs ks ns cs m i out).2=0->(xL z h xs ks ns cs m i out).1.length=out.length+m
 | 0,i,out,he=>rfl
 | m+1,i,out,he=>by
  unfold xL at he ⊢;by_cases h1:GP z h xs ks ns cs i≠0
  ·rw [if_pos h1] at he; exact absurd he h1
  ·rw [if_neg h1] at he ⊢;rw [GJ z h xs ks ns cs m (i+1) _ he];simp; omega
theorem JI {z:L1} {h:Int} {xs:L2} (he:mJ z h xs=0):(nG z h xs).length=xs.length:=by
 unfold mJ at he;unfold nG;by_cases hc:QI xs≠0
 ·rw [if_pos hc] at he; exact absurd he hc
 ·rw [if_neg hc] at he ⊢;unfold N5;rw [GJ _ _ _ _ _ _ _ _ _ he]; simp
end
def Oc:FuncId->Option Vs.Spec:=fun g=>yU g
section
open Go.IntWalk
theorem rr {σ α:Type} {P:σ->Prop} {f:α->σ->σ × Int} (hf:∀ a s,P s->P (f a s).1):∀ (l:List α) (s:σ),P s->P (dF f l s).1
 | [],s,h=>h
 | a :: l,s,h=>by
  rw [jr];split
  ·exact hf a s h
  ·exact rr hf l _ (hf a s h)
theorem tc {σ:Type} {P:σ->Prop} {vis:Int->σ->σ × Int} (hv:∀ c s,P s->P (vis c s).1) (ns ks:L2) (fe:Nat->Int) (fb:Nat->Bool) (i:Int):∀ (m n:Nat) (s:σ),P s->P (jH vis ns ks fe fb i m n s).1
 | 0,n,s,h=>h
 | m+1,n,s,h=>by
  simp only [jH];split
  ·exact rr (fun k s hs=>by unfold dw; split; exact hs; exact hv _ s hs) _ _ h
  ·split
   ·exact h
   ·split
    ·exact hv _ s h
    ·exact rr (fun k s hs=>tc hv ns ks fe fb i m k s hs) _ _ h
def bq (e:Int) (xs:L2):L2:=if e≠0 then [] else xs
theorem Mw:∀ {g:FuncId} {sp:Vs.Spec},Oc g=some sp->aa TP g sp:=Mx
end
def Ob:FuncId->Option Vs.Spec:=fun g=>Oc g
def Df:FuncId->Option Vs.Spec:=fun g=>Ob g
def Oa:FuncId->Option Vs.Spec:=fun g=>Df g
def Hy:FuncId->Option Vs.Spec:=fun g=>Oa g
section
open Go.IntWalk
theorem Mv:∀ {g:FuncId} {sp:Vs.Spec},Ob g=some sp->aa TP g sp:=Mw
theorem Mu:∀ {g:FuncId} {sp:Vs.Spec},Df g=some sp->aa TP g sp:=Mv
theorem Mt:∀ {g:FuncId} {sp:Vs.Spec},Oa g=some sp->aa TP g sp:=Mu
theorem E9:∀ {g:FuncId} {sp:Vs.Spec},Hy g=some sp->aa TP g sp:=Mt
end
def uW (pl:Bool) (z:L1) (h:Int) (r:L1) (m ax ay px py:Int):Int:=if pl=true then Db z h r m ax ay px py else 0
def xI (pl:Bool) (z:L1) (h:Int) (r:L1) (m ax ay px py:Int):Int:=if uW pl z h r m ax ay px py≠0 then 0 else if pl=true then Da z h r m ax ay px py else px
def xH (pl:Bool) (z:L1) (h:Int) (r:L1) (m ax ay px py:Int):Int:=if uW pl z h r m ax ay px py≠0 then 0 else if pl=true then C9 z h r m ax ay px py else py
def sI (e:Int) (ls:L2) (c:Int):L2:=if e≠0 then [] else ls++[[c]]
def ct (s:Nat) (px py e:Int):IV:=.agg [.sl s,.int .i64 (px / 18446744073709551616),.int .u64 (px % 18446744073709551616),.int .i64 (py / 18446744073709551616),.int .u64 (py % 18446744073709551616),.int .i64 e]
def MbL (a b c d e f g h i j k l m:Int)(n o p q:Nat)(r s t u v w:Int)(x:Nat)(y:List IV):List IV:=MaD (Mbd a b c d e f g h i j k l m n o p q r s t u v w x) y
def Mcc (a b c:L2)(d:List IntKind)(e:L2)(f:List aq):List aq:=MaY jt a ie b (MaY MaO c d e f)
def Mcd (a b c d e:L2)(f:List aq):List aq:=Mb7 a (Mcc b c d dE e f)
def McD (a:L1):Int:=Maf a 0
def McE (a:L1):Int:=Maf a 1
def McF (a:L1):Int:=Maf a 2
def McH (a:L1):Int:=Maf a 10
def McI (a:L1):Int:=Maf a 12
def McJ (a:L1):Int:=Maf a 13
def McK (a:L1):Int:=Maf a 14
def McL (a:L1):Int:=Maf a 15
def McM (a:L1):Int:=Maf a 16
def McN (a:L1):Int:=Maf a 17
def McO (a:L1):Int:=Maf a 18
def Mda (a:L1):Int:=Maf a 11
def Mde (a:List IV):L1:=dv a 0
def Mdp (a:Nat)(b c d e:Int):List IV:=Mao a (Mbn b c d e Mb3)
def Mex (a b c d e:L2):List aq:=Mcd a b c d e []
def MeU (a:L2)(b:Int):L1:=List.getD a (Int.toNat b) []
def MfY (a b:Nat)(c:Int)(d:L2):L2:=List.replicate a (List.replicate b c)++d
def Mgn (a:Nat)(b c d e:Int)(f:List IV):IV:=.agg (Mao a (Map b c d e f))
def Mho (a:Nat)(b:L2)(c:Nat):Nat:=(a+List.length b)*c
def Min (a b c d e:Int):List IV:=Mai a (Mbl b (Mdc c d (MbE e)))
def MjF (a b:Int):IV:=.agg (Mdp 0 a a b b)
theorem We (z:L1) (xs ts rs us es ls:L2) (i c m ax ay px py e h:Int) (K:KP):(comes TP { Γ:=Hy,Λ:=fun _ _=>none,Τ:=fun _=>none } 3 agb [.agg (af z 0 1 2 3 4),.int .i64 i,.int .i64 c,fx m,vx ax ay,ct 5 px py 0,fx h,.bool true] (aH xs ts rs us es++[.ro [.i64] ls]) K) =(∀a,Maz a h (∀b,Maz b m (∀d,Maz d ax (∀f,Maz f ay (∀g,Maz g px (∀j,Maz j py (∀k,Maz k (sn (Mde (MbL (McD z) (McE z) (McF z) (McW z) (McQ z) (McR z) (McS z) (McX z) (Mdj z) (Maf z 9) (McH z) (Mda z) (McI z) 0 1 2 3 (McJ z) (McK z) (McL z) (McM z) (McN z) (McO z) 4 (Min i m ax ay h))) a (MeU xs i) b d f) (∀l,Maz l k (∀n,Maz n (sm (Mde (MbL (McD z) (McE z) (McF z) (McW z) (McQ z) (McR z) (McS z) (McX z) (Mdj z) (Maf z 9) (McH z) (Mda z) (McI z) 0 1 2 3 (McJ z) (McK z) (McL z) (McM z) (McN z) (McO z) 4 (Min i m ax ay h))) a (MeU xs i) b d f) (∀o,Maz o n (∀p,Mgk p (g+l) (j+o) (∀q,Mjq q (g+l) (j+o) (∀r,Mjr r (g+l) (j+o) (∀s,Maz s (uA (Mde (MbL (McD z) (McE z) (McF z) (McW z) (McQ z) (McR z) (McS z) (McX z) (Mdj z) (Maf z 9) (McH z) (Mda z) (McI z) 0 1 2 3 (McJ z) (McK z) (McL z) (McM z) (McN z) (McO z) 4 (Min i m ax ay h))) a (MeU xs i) b d f) (Mbh (Mho 0 ls 8) (Meq (Mel (MfY 0 1 0 ls) 1 8) (Y8 (MbL (McD z) (McE z) (McF z) (McW z) (McQ z) (McR z) (McS z) (McX z) (Mdj z) (Maf z 9) (McH z) (Mda z) (McI z) 0 1 2 3 (McJ z) (McK z) (McL z) (McM z) (McN z) (McO z) 4 (Min i m ax ay h)) (Mex xs ts rs us es)) s (K (Mgn 0 0 0 0 0 (Ma2 s)) (MdY [])) (Mcv (MfT px py (Mdc k n [])) p (K (Mgn 0 0 0 0 0 (Ma2 p)) (MdY [])) (K (MjF q r) [MaX (Mi5 (MfY 0 1 0 ls) c)])))))))))))))))))) :=by delta Maa Mac Mae Maf Mag Mai Mal Mao Map Mau Max May Maz MaD MaM MaO MaX MaY Ma2 Ma3 Ma4 Ma5 Mbd Mbh Mbl Mbn MbE MbL Mi5 Mb3 Mb7 Mcc Mcd Mcv McA McD McE McF McH McI McJ McK McL McM McN McO McQ McR McS McW McX Mda Mdc Mde Mdj Mdp MdY Mel Meq Mex MeU MfT MfY Mgk Mgn Mho Min Mjq Mjr MjF; (iterate 6 refine nj ?_); refine nm ?_; refine nj ?_; refine nm ?_; refine nj ?_; (iterate 4 refine nm ?_); kernel_rfl
theorem Ti (z:L1) (xs ts rs us es ls:L2) (i c m ax ay px py e h:Int) (K:KP):(comes TP { Γ:=Hy,Λ:=fun _ _=>none,Τ:=fun _=>none } 3 agb [.agg (af z 0 1 2 3 4),.int .i64 i,.int .i64 c,fx m,vx ax ay,ct 5 px py 0,fx h,.bool false] (aH xs ts rs us es++[.ro [.i64] ls]) K) =(Max (Mho 0 ls 8<=140737488355328) (Mel (MfY 0 1 0 ls) 1 8) (K (MjF px py) [MaX (Mi5 (MfY 0 1 0 ls) c)])) :=by kernel_rfl
def Pp (l:List IV) (bs:List aq):Prop:=∃z xs ts rs us es ls i c m ax ay px py h pl,l=[.agg (af z 0 1 2 3 4),.int .i64 i,.int .i64 c,fx m,vx ax ay,ct 5 px py 0,fx h,.bool pl]/\bs=aH xs ts rs us es++[.ro [.i64] ls]/\Cg z/\aY xs/\(0<=i/\i < xs.length)/\ag m/\(ag ax/\ag ay)/\(ag px/\ag py)/\ag h/\ls.length<=1000000
section
open Go.IntWalk
def F4:Vs.Spec:=⟨Pp,fun l bs=>
 (ct 0 (xI (qV l 7 0) (du l) (v2 l 6) ((aA bs 0).getD (ae l 1 0).toNat []) (v2 l 3) (v2 l 4) (vy l 4) (ae l 5 1*18446744073709551616+ae l 5 2) (ae l 5 3*18446744073709551616+ae l 5 4))
   (xH (qV l 7 0) (du l) (v2 l 6) ((aA bs 0).getD (ae l 1 0).toNat []) (v2 l 3) (v2 l 4) (vy l 4) (ae l 5 1*18446744073709551616+ae l 5 2) (ae l 5 3*18446744073709551616+ae l 5 4))
   (uW (qV l 7 0) (du l) (v2 l 6) ((aA bs 0).getD (ae l 1 0).toNat []) (v2 l 3) (v2 l 4) (vy l 4) (ae l 5 1*18446744073709551616+ae l 5 2) (ae l 5 3*18446744073709551616+ae l 5 4)),
  [.ro [.i64] (sI (uW (qV l 7 0) (du l) (v2 l 6) ((aA bs 0).getD (ae l 1 0).toNat []) (v2 l 3) (v2 l 4) (vy l 4) (ae l 5 1*18446744073709551616+ae l 5 2) (ae l 5 3*18446744073709551616+ae l 5 4)) (aA bs 5) (ae l 2 0))])⟩
theorem Xt {z:L1} {xs ts rs us es ls:L2} {i c m ax ay px py h:Int} {pl:Bool} (hz:z.length=19):
  F4.F [.agg (af z 0 1 2 3 4),.int .i64 i,.int .i64 c,fx m,vx ax ay,ct 5 px py 0,fx h,.bool pl] (aH xs ts rs us es++[.ro [.i64] ls]) =
  (ct 0 (xI pl z h (xs.getD i.toNat []) m ax ay px py) (xH pl z h (xs.getD i.toNat []) m ax ay px py) (uW pl z h (xs.getD i.toNat []) m ax ay px py),[.ro [.i64] (sI (uW pl z h (xs.getD i.toNat []) m ax ay px py) ls c)]):=by
 have e1:du [IV.agg (af z 0 1 2 3 4),.int .i64 i,.int .i64 c,fx m,vx ax ay,ct 5 px py 0,fx h,.bool pl]=z:=sJ _ z hz rfl;have e2:v2 [IV.agg (af z 0 1 2 3 4),.int .i64 i,.int .i64 c,fx m,vx ax ay,ct 5 px py 0,fx h,.bool pl] 6=h:=bc _ h 6 rfl;have e3:v2 [IV.agg (af z 0 1 2 3 4),.int .i64 i,.int .i64 c,fx m,vx ax ay,ct 5 px py 0,fx h,.bool pl] 3=m:=bc _ m 3 rfl;have e4:=aeY [IV.agg (af z 0 1 2 3 4),.int .i64 i,.int .i64 c,fx m,vx ax ay,ct 5 px py 0,fx h,.bool pl] ax ay 4 rfl;have e5:ae [IV.agg (af z 0 1 2 3 4),.int .i64 i,.int .i64 c,fx m,vx ax ay,ct 5 px py 0,fx h,.bool pl] 5 1*18446744073709551616+ae [IV.agg (af z 0 1 2 3 4),.int .i64 i,.int .i64 c,fx m,vx ax ay,ct 5 px py 0,fx h,.bool pl] 5 2=px:=by rw [show ae [IV.agg (af z 0 1 2 3 4),.int .i64 i,.int .i64 c,fx m,vx ax ay,ct 5 px py 0,fx h,.bool pl] 5 1=px / 18446744073709551616 from rfl,show ae [IV.agg (af z 0 1 2 3 4),.int .i64 i,.int .i64 c,fx m,vx ax ay,ct 5 px py 0,fx h,.bool pl] 5 2=px % 18446744073709551616 from rfl]; exact kS px
 have e6:ae [IV.agg (af z 0 1 2 3 4),.int .i64 i,.int .i64 c,fx m,vx ax ay,ct 5 px py 0,fx h,.bool pl] 5 3*18446744073709551616+ae [IV.agg (af z 0 1 2 3 4),.int .i64 i,.int .i64 c,fx m,vx ax ay,ct 5 px py 0,fx h,.bool pl] 5 4=py:=by rw [show ae [IV.agg (af z 0 1 2 3 4),.int .i64 i,.int .i64 c,fx m,vx ax ay,ct 5 px py 0,fx h,.bool pl] 5 3=py / 18446744073709551616 from rfl,show ae [IV.agg (af z 0 1 2 3 4),.int .i64 i,.int .i64 c,fx m,vx ax ay,ct 5 px py 0,fx h,.bool pl] 5 4=py % 18446744073709551616 from rfl]; exact kS py
 show (fun (z':L1) (h' m' x' y' p q:Int)=>((ct 0 (xI pl z' h' (xs.getD i.toNat []) m' x' y' p q) (xH pl z' h' (xs.getD i.toNat []) m' x' y' p q) (uW pl z' h' (xs.getD i.toNat []) m' x' y' p q),[aq.ro [.i64] (sI (uW pl z' h' (xs.getD i.toNat []) m' x' y' p q) ls c)]):IV × List aq))
  (du [IV.agg (af z 0 1 2 3 4),.int .i64 i,.int .i64 c,fx m,vx ax ay,ct 5 px py 0,fx h,.bool pl]) (v2 [IV.agg (af z 0 1 2 3 4),.int .i64 i,.int .i64 c,fx m,vx ax ay,ct 5 px py 0,fx h,.bool pl] 6) (v2 [IV.agg (af z 0 1 2 3 4),.int .i64 i,.int .i64 c,fx m,vx ax ay,ct 5 px py 0,fx h,.bool pl] 3) (v2 [IV.agg (af z 0 1 2 3 4),.int .i64 i,.int .i64 c,fx m,vx ax ay,ct 5 px py 0,fx h,.bool pl] 4) (vy [IV.agg (af z 0 1 2 3 4),.int .i64 i,.int .i64 c,fx m,vx ax ay,ct 5 px py 0,fx h,.bool pl] 4) (ae [IV.agg (af z 0 1 2 3 4),.int .i64 i,.int .i64 c,fx m,vx ax ay,ct 5 px py 0,fx h,.bool pl] 5 1*18446744073709551616+ae [IV.agg (af z 0 1 2 3 4),.int .i64 i,.int .i64 c,fx m,vx ax ay,ct 5 px py 0,fx h,.bool pl] 5 2) (ae [IV.agg (af z 0 1 2 3 4),.int .i64 i,.int .i64 c,fx m,vx ax ay,ct 5 px py 0,fx h,.bool pl] 5 3*18446744073709551616+ae [IV.agg (af z 0 1 2 3 4),.int .i64 i,.int .i64 c,fx m,vx ax ay,ct 5 px py 0,fx h,.bool pl] 5 4)=_
 rw [e1,e2,e3,e4.1,e4.2,e5,e6]
theorem LC:KnowOk TP { Γ:=Hy,Λ:=fun _ _=>none,Τ:=fun _=>none } 3:=aF (fun g sp h=>E9 h) (fun _ _=>rfl) (fun _=>rfl) 3
theorem Qe (z:L1) (h:Int) (r:L1) (m ax ay:Int):ag (sn z h r m ax ay)/\ag (sm z h r m ax ay):=by
 unfold sn sm;constructor
 ·split; exact bg; exact (s8 _ _ _ _ _ _ _).1
 ·split; exact bg; exact (s8 _ _ _ _ _ _ _).2
theorem SG:aa TP agb F4:=by
 refine afC 3 LC ?_;intro l bs _ _ hp;obtain ⟨z,xs,ts,rs,us,es,ls,i,c,m,ax,ay,px,py,h,pl,h1,h2,hz,hg,hi,hm,ha,hp,hh,hl⟩:=hp;obtain ⟨hpx,hpy⟩:=hp;subst h1 h2;rw [Xt hz.1.1];cases pl with
 | false=>
  rw [Ti (e:=0)]; delta Maa Mac Mae Mag Mai Mal Mao Map Mau Max MaX Ma2 Mbn Mi5 Mb3 Mdp Mel MfY Mho MjF;refine ⟨by omega,by simp; omega,?_⟩
  rfl
 | true=>
  rw [We (e:=0)]; delta Maa Mac Mae Maf Mag Mai Mal Mao Map Mau Max May Maz MaD MaM MaO MaX MaY Ma2 Ma3 Ma4 Ma5 Mbd Mbh Mbl Mbn MbE MbL Mi5 Mb3 Mb7 Mcc Mcd Mcv McA McD McE McF McH McI McJ McK McL McM McN McO McQ McR McS McW McX Mda Mdc Mde Mdj Mdp MdY Mel Meq Mex MeU MfT MfY Mgk Mgn Mho Min Mjq Mjr MjF;rintro j1 rfl j2 rfl j3 rfl j4 rfl j5 rfl j6 rfl t7 e7 j8 rfl t9 e9 j10 rfl t11 e11 t12 e12 t13 e13 t14 e14;rw [dA _ z 0 1 2 3 4 hz.1.1 rfl] at e7 e9 e14;have hgv:=Qe z j1 (xs.getD i.toNat []) j2 j3 j4;rw [← e7,← e9] at hgv;refine ⟨by omega,by simp; omega,⟨z,xs,ts,rs,us,es,i,j2,j3,j4,j1,rfl,rfl,hz,hg,hi,hm,ha,hh⟩,?_⟩
  have mE:uW true z j1 (xs.getD i.toNat []) j2 j3 j4 j5 j6=if t14≠0 then t14 else t11:=by
   unfold uW Db; rw [if_pos rfl,bI,← e14,← e7,← e9,← e11]
  rw [ah];refine ⟨fun hne=>?_,fun h0=>⟨en hpx hpy hgv.1 hgv.2,?_⟩⟩
  ·rw [if_pos hne] at mE;unfold xI xH sI;rw [mE,if_pos hne,if_pos hne,if_pos hne]
   rfl
  ·rw [if_neg (by simpa using h0)] at mE
   rw [ah];refine ⟨fun hne=>?_,fun h1=>?_⟩
   ·unfold xI xH sI;rw [mE,if_pos hne,if_pos hne,if_pos hne]
    rfl
   ·have n11:¬ t11≠0:=by simpa using h1
    have n14:¬ uA z j1 (xs.getD i.toNat []) j2 j3 j4≠0:=by rw [← e14]; simpa using h0
    unfold xI xH sI;rw [mE,if_neg n11,if_neg n11,if_neg n11,if_pos rfl,if_pos rfl];unfold Da C9;rw [bI,bI,if_neg n14,if_neg n14,← e7,← e9,← e12,← e13,h1]
    rfl
end
def EK (s:Nat) (px py e:Int):List IV:=[.sl s,.int .i64 (px / 18446744073709551616),.int .u64 (px % 18446744073709551616),.int .i64 (py / 18446744073709551616),.int .u64 (py % 18446744073709551616),.int .i64 e]
def Py (q:L1):List IV:=[.int .i64 (q.getD 0 0),.int .u64 (q.getD 1 0),.int .i64 (q.getD 2 0),.int .i64 (q.getD 3 0),.int .i64 (q.getD 4 0),.int .i64 (q.getD 5 0),.int .i64 (q.getD 6 0),.int .i64 (q.getD 7 0)]
def XX (q:L1):List IV:=[.int .i64 (q.getD 0 0),.int .u64 (q.getD 1 0),.int .i64 (q.getD 2 0),.int .u64 (q.getD 3 0),.int .i64 (q.getD 4 0),.int .u64 (q.getD 5 0),.int .i64 (q.getD 6 0),.int .u64 (q.getD 7 0)]
def Ur (xs ts rs us es ks ns cs ls:L2):OB:=acX xs ts rs us es++[some (.ro [.u64,.i64] ks),some (.ro kQ ns),some (.ro fG cs),some (.ro [.i64] ls)]
def yo (z:L1) (w h px py:Int) (nd cl:L1) (xs ts rs us es ks ns cs ls:L2):OB:=Ur xs ts rs us es ks ns cs ls++[some (.var 34 (af z 0 1 2 3 4)),some (.var 66 [.sl 5,.sl 6,.sl 7,.int .i64 w]),some (.var 118 (EK 8 px py 0)),some (.var 25 (fx h).cells),some (.var 118 [.sl 16,.int .i64 0,.int .u64 0,.int .i64 0,.int .u64 0,.int .i64 0]),some (.var 70 (Py nd)),some (.var 160 (XX cl)),some (.row 3 [.i64] [])]
def Zi (i n:Int) (pl lf hs:Bool):List (Nat × IV):=[(2,.int .i64 i),(3,.int .i64 n),(6,.bool pl),(7,.ptr 9 0),(8,.ptr 10 0),(11,.ptr 11 0),(12,.ptr 12 0),(14,.ptr 13 0),(15,.ptr 14 0),(16,.ptr 15 0),(17,.bool lf),(18,.bool hs)]
def Ys (i n:Int) (pl lf:Bool) (B:OB) (q:Int):St:=⟨T 191 (Zi i n pl lf false++[(19,.int .i64 q)]),B⟩
def MeX (a b c d e f g:L1)(h:Int)(i:List IV):List IV:=Map (McD a) (McE b) (McF c) (McW d) (Map (McQ e) (McR f) (McS g) h i)
def Me0 (a:Int):List IV:=Mao 5 (Mcp 6 7 a)
def MfH (a:List IV)(b:Nat)(c d:Int)(e:Nat)(f g h i:Int)(j:Nat)(k l:List IV)(m:L2):OB:=MbN 118 a b c d 118 (Mao e (Map f g h i Mb3)) j k (Maq 160 l (MaX m) [])
def Mgg (a b c d:L2)(e:List IntKind)(f:L2)(g:List IntKind)(h i j:L2)(k:Nat)(l:List IV)(m:Nat)(n:Int)(o:OB):OB:=MaZ jt a ie b MaO c dE d e f g h fG i MaO j (Mav k l m (Me0 n) o)
def Mhf (a b c d e f g h i j k l m:L1)(n:Nat)(o p q r s t:L1):List IV:=Mbd (McD a) (McE b) (McF c) (McW d) (McQ e) (McR f) (McS g) (McX h) (Mdj i) (Maf j 9) (McH k) (Mda l) (McI m) n 1 2 3 (McJ o) (McK p) (McL q) (McM r) (McN s) (McO t) 4
def MiL (a:Nat)(b:Int)(c:List (Nat × IV))(d e f g h i j k l:L2)(m:List IV)(n:Int)(o:OB):St:=Mcw 191 a b c (Mbu d (Mgg e f g h MaW i kQ j k l 34 m 66 n o))
def MiW (a:Bool)(b:List (Nat × IV)):List (Nat × IV):=MaA 16 15 17 (.bool a) b
def MjZ (a:L1)(b c d e:Int):List IV:=Mal (McD a) (McE a) (MaM (McF a) (McW a) (MaM b c (MaM d e [])))
def Mj3 (a:L1):List IV:=Mhf a a a a a a a a a a a a a 0 a a a a a a
def Mj5 (a:Int)(b:Bool)(c:List (Nat × IV)):List (Nat × IV):=Mar 3 (Maa a) 6 (.bool b) (MaR 7 9 8 10 (MaR 11 11 12 12 (MaR 14 13 15 14 c)))
def Mkj (a b c:Int)(d:List IV)(e:L1):OB:=MfH (Mdp 8 a a b b) 25 c c 16 0 0 0 0 70 d (MeX e e e e e e e (McX e) []) []
def Mko (a b:Int)(c:Bool)(d:List (Nat × IV))(e:OB):St:=MaH 191 (MbM 2 a 3 b (Mca 6 (.bool c) 7 9 (MaR 8 10 11 11 (MaR 12 12 14 13 (MaR 15 14 16 15 d))))) e
theorem rK1 (Γ:FuncId->Option Vs.Spec) (Λ:FuncId->Nat->Option aB) (d:Nat) (i n:Int) (pl lf:Bool) (z:L1) (w h px py:Int) (nd cl:L1) (xs ts rs us es ks ns cs ls:L2) (q:Int) (k:Out->St->Prop):(round (ai TP { Γ:=Γ,Λ:=Λ,Τ:=fun _=>none } d) ar 9 0 (lp TP ar 0) (Ys i n pl lf (yo z w h px py nd cl xs ts rs us es ks ns cs ls) q) k) =(∀a,Me9 a nd (∀b,Mfa b nd (∀c,Mfb c nd (∀e,Mft e nd (∀f,Me2 f (cW (MaF a b c e []) q) q 4 (br lf (Max (MbQ q q) (Mbg q q) (k .normal (MiL 2 i (Mj5 n pl (MiW (MaC f 0) (Mar 18 MaU 19 (Maa (Mcr q)) []))) xs ts rs us es ks ns cs ls (Mj3 z) w (Mkj px py h (MjZ nd a b c e) cl)))) (k .normal (MiL 2 i (Mj5 n pl (MaA 16 15 17 MaU (Mar 18 MaU 19 (Maa (Mcr q)) []))) xs ts rs us es ks ns cs ls (Mj3 z) w (Mkj px py h (MjZ nd a b c e) cl)))) (k MbT (Mko i n pl (Mar 17 (.bool lf) 18 MaU []) (Mbu xs (Mgg ts rs us es MaW ks kQ ns cs ls 34 (Mj3 z) 66 w (Mkj px py h (MjZ nd a b c e) cl)))))))))) :=by delta Maa Mab Mac Mad Mae Maf Mag Mah Mai Maj Mak Mal Mam Mao Map Maq Mar Mav Max May Maz MaA MaC MaF MaH MaL MaM MaO MaR MaU MaV MaW MaX MaZ Ma2 Ma4 Ma5 Ma9 Mbd Mbe Mbg Mbn Mbu MbC MbF MbM MbN MbQ MbT Mb3 Mca Mcp Mcr Mcw McD McE McF McH McI McJ McK McL McM McN McO McQ McR McS McW McX Mda Mdj Mdp MeX Me0 Me2 Me9 Mfa Mfb Mft MfH Mgg Mhf MiL MiW MjZ Mj3 Mj5 Mkj Mko; (iterate 5 refine nm ?_); kernel_rfl
def VS (i n:Int) (pl lf hs:Bool) (B:OB) (j:Int):St:=⟨T 191 (Zi i n pl lf hs++[(20,.int .i64 j)]),B⟩
def MiR (a:Bool)(b:Nat)(c:Int)(d:List (Nat × IV)):List (Nat × IV):=Mar 18 (.bool a) b (Maa (Mcr c)) d
def MjI (a:L1)(b:Int):List IV:=Mal (McD a) (McE a) (MaM (McF a) b (MaM (McQ a) (McR a) (MaM (McS a) (McX a) [])))
theorem rK2 (Γ:FuncId->Option Vs.Spec) (Λ:FuncId->Nat->Option aB) (d:Nat) (i n:Int) (pl lf hs:Bool) (z:L1) (w h px py:Int) (nd cl:L1) (xs ts rs us es ks ns cs ls:L2) (j:Int) (k:Out->St->Prop):(round (ai TP { Γ:=Γ,Λ:=Λ,Τ:=fun _=>none } d) ar 9 1 (lp TP ar 1) (VS i n pl lf hs (yo z w h px py nd cl xs ts rs us es ks ns cs ls) j) k) =(∀a,MeH a nd (∀b,Mi8 b j ks (MbF j a (br hs (k .normal (MiL 2 i (Mj5 n pl (MiW lf (Mar 18 Mby 20 (Maa (Mcr j)) []))) xs ts rs us es ks ns cs ls (Mj3 z) w (Mkj px py h (MjI nd a) cl))) (Mi3 b (k .normal (MiL 2 i (Mj5 n pl (MiW lf (MiR (Mas ks j 1 == i) 20 j []))) xs ts rs us es ks ns cs ls (Mj3 z) w (Mkj px py h (MjI nd a) cl))))) (k Mez (Mko i n pl (Mar 17 (.bool lf) 18 (.bool hs) []) (Mbu xs (Mgg ts rs us es MaW ks kQ ns cs ls 34 (Mj3 z) 66 w (Mkj px py h (MjI nd a) cl)))))))) :=by delta Maa Mab Mac Mad Mae Maf Mag Mah Mai Maj Mak Mal Mam Man Mao Map Maq Mar Mas Mav Max May Maz MaA MaC MaH MaL MaM MaO MaR MaV MaW MaX MaZ Ma2 Ma4 Ma5 Ma9 Mbd Mbe Mbn Mbp Mbu Mbw Mby MbC MbF MbM MbN Mb3 Mca Mcp Mcr Mcw McD McE McF McH McI McJ McK McL McM McN McO McQ McR McS McW McX Mda Mdj Mdp Mez MeH MeX Me0 MfH Mgg Mhf MiL MiR MiW Mi3 Mi8 MjI Mj3 Mj5 Mkj Mko; refine nm ?_; refine nm ?_; kernel_rfl
def il (pl:Bool) (z:L1) (h:Int) (r:L1) (xs cs:L2):Int->L2 × Int × Int->(L2 × Int × Int) × Int:=fun c s=>
 if 0<=c then ((sI (uW pl z h r (fr (cs.getD c.toNat []) 0) (fr (cs.getD c.toNat []) 2) (fr (cs.getD c.toNat []) 4) s.2.1 s.2.2) s.1 c,xI pl z h r (fr (cs.getD c.toNat []) 0) (fr (cs.getD c.toNat []) 2) (fr (cs.getD c.toNat []) 4) s.2.1 s.2.2,xH pl z h r (fr (cs.getD c.toNat []) 0) (fr (cs.getD c.toNat []) 2) (fr (cs.getD c.toNat []) 4) s.2.1 s.2.2),uW pl z h r (fr (cs.getD c.toNat []) 0) (fr (cs.getD c.toNat []) 2) (fr (cs.getD c.toNat []) 4) s.2.1 s.2.2)
 else ((sI (uW pl z h r (fr (xs.getD (-1 - c).toNat []) 0) (fr (xs.getD (-1 - c).toNat []) 4) (fr (xs.getD (-1 - c).toNat []) 6) s.2.1 s.2.2) s.1 c,xI pl z h r (fr (xs.getD (-1 - c).toNat []) 0) (fr (xs.getD (-1 - c).toNat []) 4) (fr (xs.getD (-1 - c).toNat []) 6) s.2.1 s.2.2,xH pl z h r (fr (xs.getD (-1 - c).toNat []) 0) (fr (xs.getD (-1 - c).toNat []) 4) (fr (xs.getD (-1 - c).toNat []) 6) s.2.1 s.2.2),uW pl z h r (fr (xs.getD (-1 - c).toNat []) 0) (fr (xs.getD (-1 - c).toNat []) 4) (fr (xs.getD (-1 - c).toNat []) 6) s.2.1 s.2.2)
def uY (pl:Bool) (z:L1) (h:Int) (xs ks ns cs:L2) (i:Int):Nat->L2 × Int × Int->(L2 × Int × Int) × Int:=Cm (il pl z h (xs.getD i.toNat []) xs cs) ns ks (fun n=>yE z xs cs n i.toNat) (fun n=>E4 z xs cs n i.toNat) i
def xx (pl:Bool) (z:L1) (h:Int) (xs ks ns cs:L2) (i:Int) (n:Nat) (ls:L2) (px py:Int):Int:=(uY pl z h xs ks ns cs i n (ls,px,py)).2
def xK (pl:Bool) (z:L1) (h:Int) (xs ks ns cs:L2) (i:Int) (n:Nat) (ls:L2) (px py:Int):Int:=if xx pl z h xs ks ns cs i n ls px py≠0 then 0 else (uY pl z h xs ks ns cs i n (ls,px,py)).1.2.1
def xJ (pl:Bool) (z:L1) (h:Int) (xs ks ns cs:L2) (i:Int) (n:Nat) (ls:L2) (px py:Int):Int:=if xx pl z h xs ks ns cs i n ls px py≠0 then 0 else (uY pl z h xs ks ns cs i n (ls,px,py)).1.2.2
def AU (pl:Bool) (z:L1) (h:Int) (xs ks ns cs:L2) (i:Int) (n:Nat) (ls:L2) (px py:Int):L2:=if xx pl z h xs ks ns cs i n ls px py≠0 then [] else (uY pl z h xs ks ns cs i n (ls,px,py)).1.1
def Y9 (m:Nat) (l:List IV) (bs:List aq):Prop:=∃z w xs ts rs us es ks ns cs ls i n px py h pl,l=[.agg (af z 0 1 2 3 4),.agg [.sl 5,.sl 6,.sl 7,.int .i64 w],.int .i64 i,.int .i64 n,ct 8 px py 0,fx h,.bool pl]/\bs=aH xs ts rs us es++[.ro [.u64,.i64] ks,.ro kQ ns,.ro fG cs,.ro [.i64] ls]/\
 qc z xs ks ns cs/\(0<=i/\i < xs.length)/\(0<=n/\n < ns.length)/\33 - lv ns n.toNat<=m/\(ag px/\ag py)/\ag h/\ls.length+wt ns n.toNat<=2000/\xs.length<=1000
def Ku (m:Nat):Vs.Spec:=⟨Y9 m,fun l bs=>
 (ct 0 (xK (qV l 6 0) (du l) (v2 l 5) (aA bs 0) (aA bs 5) (aA bs 6) (aA bs 7) (ae l 2 0) (ae l 3 0).toNat (aA bs 8) (ae l 4 1*18446744073709551616+ae l 4 2) (ae l 4 3*18446744073709551616+ae l 4 4))
   (xJ (qV l 6 0) (du l) (v2 l 5) (aA bs 0) (aA bs 5) (aA bs 6) (aA bs 7) (ae l 2 0) (ae l 3 0).toNat (aA bs 8) (ae l 4 1*18446744073709551616+ae l 4 2) (ae l 4 3*18446744073709551616+ae l 4 4))
   (xx (qV l 6 0) (du l) (v2 l 5) (aA bs 0) (aA bs 5) (aA bs 6) (aA bs 7) (ae l 2 0) (ae l 3 0).toNat (aA bs 8) (ae l 4 1*18446744073709551616+ae l 4 2) (ae l 4 3*18446744073709551616+ae l 4 4)),
  [.ro [.i64] (AU (qV l 6 0) (du l) (v2 l 5) (aA bs 0) (aA bs 5) (aA bs 6) (aA bs 7) (ae l 2 0) (ae l 3 0).toNat (aA bs 8) (ae l 4 1*18446744073709551616+ae l 4 2) (ae l 4 3*18446744073709551616+ae l 4 4))])⟩
def vG (m:Nat):FuncId->Option Vs.Spec:=fun g=>if g=agb then some F4 else if g=ar then some (Ku m) else Hy g
def aaC (i:Int) (pl:Bool):List (Nat × IV):=[(2,.int .i64 i),(6,.bool pl),(7,.ptr 9 0),(8,.ptr 10 0),(11,.ptr 11 0),(12,.ptr 12 0),(14,.ptr 13 0),(15,.ptr 14 0)]
def Zk (z:L1) (w h px py:Int) (nd:L1) (xs ts rs us es ks ns cs ls:L2):OB:=Ur xs ts rs us es ks ns cs ls++[some (.var 34 (af z 0 1 2 3 4)),some (.var 66 [.sl 5,.sl 6,.sl 7,.int .i64 w]),some (.var 118 (EK 8 px py 0)),some (.var 25 (fx h).cells),some (.var 118 [.sl 15,.int .i64 0,.int .u64 0,.int .i64 0,.int .u64 0,.int .i64 0]),some (.var 70 (Py nd)),some (.row 3 [.i64] [])]
def kr (z:L1) (w h x y e:Int) (nd:L1) (xs ts rs us es ks ns cs ls qs:L2):OB:=Ur xs ts rs us es ks ns cs ls++[some (.var 34 (af z 0 1 2 3 4)),some (.var 66 [.sl 5,.sl 6,.sl 7,.int .i64 w]),some (.var 118 (EK 15 x y e)),some (.var 25 (fx h).cells),some (.var 118 [.sl 16,.int .i64 0,.int .u64 0,.int .i64 0,.int .u64 0,.int .i64 0]),some (.var 70 (Py nd)),some (.ro [.i64] qs),some (.row 3 [.i64] [])]
def Uq (i n:Int) (pl hs:Bool):List (Nat × IV):=[(2,.int .i64 i),(3,.int .i64 n),(6,.bool pl),(7,.ptr 9 0),(8,.ptr 10 0),(11,.ptr 11 0),(12,.ptr 12 0),(14,.ptr 13 0),(15,.ptr 14 0),(16,.ptr 15 0),(18,.bool hs)]
def Rk (i n:Int) (pl hs:Bool) (B:OB) (j:Int):St:=⟨T 191 (Uq i n pl hs++[(21,.int .i64 j)]),B⟩
def Zj (z:L1) (w h x y e:Int) (nd cl:L1) (xs ts rs us es ks ns cs ls qs:L2):OB:=Ur xs ts rs us es ks ns cs ls++[some (.var 34 (af z 0 1 2 3 4)),some (.var 66 [.sl 5,.sl 6,.sl 7,.int .i64 w]),some (.var 118 (EK 16 x y e)),some (.var 25 (fx h).cells),some (.var 118 [.sl 17,.int .i64 0,.int .u64 0,.int .i64 0,.int .u64 0,.int .i64 0]),some (.var 70 (Py nd)),some (.var 160 (XX cl)),some (.ro [.i64] qs),some (.row 3 [.i64] [])]
def Vx (i:Int) (pl:Bool) (B:OB) (q:Int):St:=⟨T 191 (aaC i pl++[(26,.int .i64 q)]),B⟩
def Md0 (a:Nat)(b c d e f:Int):List IV:=Mao a (Mbn b c d e (Ma2 f))
def MfD (a b c d e f g h i j k l m n o p q r s:Int):List IV:=Mbd a b c d e f g h i j k l m 0 1 2 3 n o p q r s 4
def MgE (a b c:Nat)(d:List (Nat × IV))(e:L2)(f:OB):St:=MbD a b c d (Mbu e f)
def Mhh (a:List IV)(b:Int)(c:Bool):List IV:=MaD a (Mbl b (Mfm c))
def Mhy (a:Nat)(b c:List IV)(d:Nat)(e:List IV)(f:Nat)(g:List IV)(h:OB):OB:=Mav a b 118 c (Mav d e f g h)
def Mhz (a:List IntKind)(b:L2)(c:List IntKind)(d:L2)(e:List IntKind)(f g:L2)(h:List aq):List aq:=MaY a b c d (MaY e f MaO g h)
def MhU (a:Nat):List IV:=Mao a (Map 0 0 0 0 Mb3)
def Mia (a:L2):OB:=Maj MaO a (MaX []) []
theorem aad (m:Nat) (Λ:FuncId->Nat->Option aB) (d:Nat) (i n:Int) (pl hs:Bool) (z:L1) (w h px py:Int) (nd cl:L1) (xs ts rs us es ks ns cs ls:L2) (j:Int) (k:Out->St->Prop):(round (ai TP { Γ:=vG m,Λ:=Λ,Τ:=fun _=>none } d) ar 9 2 (lp TP ar 2) (Rk i n pl hs (yo z w h px py nd cl xs ts rs us es ks ns cs ls) j) k) =(∀a,Maz a h (∀b,Maz b px (∀c,Maz c py (∀e,Md7 e ks j (∀f,MeH f nd (∀g,MfW g z (∀l,Mf9 l z (∀o,MfC o z (∀p,MeH p z (∀q,Me9 q z (∀r,Mfa r z (∀s,Mfb s z (∀t,Mft t z (∀u,MfX u z (∀v,Mga v z (∀x,MeJ x z (∀y,Mes y z (∀a1,MeK a1 z (∀b1,MeL b1 z (∀c1,MeM c1 z (∀d1,MeN d1 z (∀e1,MeO e1 z (∀f1,MeP f1 z (∀g1,MeQ g1 z (∀i1,MdP i1 xs e (∀j1,Md7 j1 xs e (∀k1,Mfj k1 xs e (∀l1,Mfk l1 xs e (∀m1,MfM m1 xs e (∀n1,MfN n1 xs e (∀o1,Mi8 o1 j ks (∀p1,Maz p1 (MaJ Mbk e) (∀q1,Mi8 q1 e xs (∀r1,Mch r1 i1 j1 (∀s1,Mch s1 k1 l1 (∀t1,Mch t1 m1 n1 (∀u1,Maz u1 (uW pl (MdE g l o p q r s t u v x y a1 b1 c1 d1 e1 f1 g1) a (MeU xs i) r1 s1 t1 b c) (∀v1,Maz v1 (xI pl (MdE g l o p q r s t u v x y a1 b1 c1 d1 e1 f1 g1) a (MeU xs i) r1 s1 t1 b c) (∀w1,Me2 w1 (xH pl (MdE g l o p q r s t u v x y a1 b1 c1 d1 e1 f1 g1) a (MeU xs i) r1 s1 t1 b c) j f (Mi3 o1 (Ma3 e i (Mdm q1 q1 q1 q1 (Pp (MbL g l o p q r s t u v x y a1 0 1 2 3 b1 c1 d1 e1 f1 g1 4 (MaM i p1 (Mb2 i1 j1 (MdC k1 l1 m1 n1 (Mhh (Mdp 5 px px py py) h pl))))) (MaY aM xs jt ts (Mhz ie rs MaO us dE es ls []))) (McA u1 (k .ret (MgE 191 14 9 [] xs (MaZ jt ts ie rs MaO us dE es MaW ks kQ ns fG cs MaO ls (Maq 118 (Md0 10 v1 v1 w1 w1 u1) (.ro MaO (sI u1 ls p1)) [])))) (k .normal (Mko i n pl (MiR hs 21 j []) (Mbb xs ts rs us es ks ns cs (Mcy MaO ls 34 (MfD g l o p q r s t u v x y a1 b1 c1 d1 e1 f1 g1) 66 (Me0 w) 118 (Md0 16 v1 v1 w1 w1 u1) (Mhy 25 (Mi9 h) (MhU 17) 70 (MjI nd f) 160 (MeX cl cl cl cl cl cl cl (McX cl) []) (Mia (sI u1 ls p1))))))))) (k .normal (Mko i n pl (MiR hs 21 j []) (Mbu xs (Mgg ts rs us es MaW ks kQ ns cs ls 34 (MfD g l o p q r s t u v x y a1 b1 c1 d1 e1 f1 g1) 66 w (Mkj px py h (MjI nd f) cl))))))) (k MeY (MiL 2 i (Mj5 n pl (MaA 16 15 18 (.bool hs) [])) xs ts rs us es ks ns cs ls (MfD g l o p q r s t u v x y a1 b1 c1 d1 e1 f1 g1) w (Mkj px py h (MjI nd f) cl)))))))))))))))))))))))))))))))))))))))))) :=by delta Maa Mab Mac Mad Mae Maf Mag Mah Mai Maj Mak Mal Mam Man Mao Map Maq Mar Mas Mat Mav Max May Maz MaA MaC MaD MaF MaH MaI MaJ MaL MaM MaO MaR MaV MaW MaX MaY MaZ Ma1 Ma2 Ma3 Ma4 Ma5 Ma9 Mba Mbb Mbd Mbe Mbj Mbk Mbl Mbn Mbp Mbu Mbw MbC MbD MbF MbL MbM MbN Mb2 Mb3 Mca Mch Mcp Mcr Mcw Mcy McA McD McE McF McQ McR McS McW McX Mdm Mdp MdC MdE MdP Md0 Md7 Mes MeH MeJ MeK MeL MeM MeN MeO MeP MeQ MeU MeX MeY Me0 Me2 Me9 Mfa Mfb Mfj Mfk Mfm Mft MfC MfD MfH MfM MfN MfW MfX Mf9 Mga Mgg MgE Mhh Mhy Mhz MhU Mia MiL MiR Mi3 Mi8 Mi9 MjI Mj5 Mkj Mko; (iterate 3 refine nj ?_); (iterate 36 refine nm ?_); kernel_rfl
theorem aac (m:Nat) (Λ:FuncId->Nat->Option aB) (d:Nat) (i n:Int) (pl hs:Bool) (z:L1) (w h x y:Int) (nd cl:L1) (xs ts rs us es ks ns cs ls qs:L2) (j:Int) (k:Out->St->Prop):(round (ai TP { Γ:=vG m,Λ:=Λ,Τ:=fun _=>none } d) ar 9 2 (lp TP ar 2) (Rk i n pl hs (Zj z w h x y 0 nd cl xs ts rs us es ks ns cs ls qs) j) k) =(∀a,Maz a h (∀b,Maz b x (∀c,Maz c y (∀e,Md7 e ks j (∀f,MeH f nd (∀g,MfW g z (∀l,Mf9 l z (∀o,MfC o z (∀p,MeH p z (∀q,Me9 q z (∀r,Mfa r z (∀s,Mfb s z (∀t,Mft t z (∀u,MfX u z (∀v,Mga v z (∀a1,MeJ a1 z (∀b1,Mes b1 z (∀c1,MeK c1 z (∀d1,MeL d1 z (∀e1,MeM e1 z (∀f1,MeN f1 z (∀g1,MeO g1 z (∀i1,MeP i1 z (∀j1,MeQ j1 z (∀k1,MdP k1 xs e (∀l1,Md7 l1 xs e (∀m1,Mfj m1 xs e (∀n1,Mfk n1 xs e (∀o1,MfM o1 xs e (∀p1,MfN p1 xs e (∀q1,Mi8 q1 j ks (∀r1,Maz r1 (MaJ Mbk e) (∀s1,Mi8 s1 e xs (∀t1,Mch t1 k1 l1 (∀u1,Mch u1 m1 n1 (∀v1,Mch v1 o1 p1 (∀w1,Maz w1 (uW pl (MdE g l o p q r s t u v a1 b1 c1 d1 e1 f1 g1 i1 j1) a (MeU xs i) t1 u1 v1 b c) (∀x1,Maz x1 (xI pl (MdE g l o p q r s t u v a1 b1 c1 d1 e1 f1 g1 i1 j1) a (MeU xs i) t1 u1 v1 b c) (∀y1,Me2 y1 (xH pl (MdE g l o p q r s t u v a1 b1 c1 d1 e1 f1 g1 i1 j1) a (MeU xs i) t1 u1 v1 b c) j f (Mi3 q1 (Ma3 e i (Mdm s1 s1 s1 s1 (Pp (MbL g l o p q r s t u v a1 b1 c1 0 1 2 3 d1 e1 f1 g1 i1 j1 4 (MaM i r1 (Mb2 k1 l1 (MdC m1 n1 o1 p1 (Mhh (Mdp 5 x x y y) h pl))))) (MaY aM xs jt ts (Mhz ie rs MaO us dE es qs []))) (McA w1 (k .ret (MgE 191 14 9 [] xs (MaZ jt ts ie rs MaO us dE es MaW ks kQ ns fG cs MaO ls (Maq 118 (Md0 10 x1 x1 y1 y1 w1) (.ro MaO (sI w1 qs r1)) [])))) (k .normal (Mko i n pl (MiR hs 21 j []) (Mbb xs ts rs us es ks ns cs (Mcy MaO ls 34 (MfD g l o p q r s t u v a1 b1 c1 d1 e1 f1 g1 i1 j1) 66 (Me0 w) 118 (Md0 16 x1 x1 y1 y1 w1) (Mhy 25 (Mi9 h) (MhU 17) 70 (MjI nd f) 160 (MeX cl cl cl cl cl cl cl (McX cl) []) (Mia (sI w1 qs r1))))))))) (k .normal (Mko i n pl (MiR hs 21 j []) (Mbb xs ts rs us es ks ns cs (Mcy MaO ls 34 (MfD g l o p q r s t u v a1 b1 c1 d1 e1 f1 g1 i1 j1) 66 (Me0 w) 118 (Mdp 16 x x y y) (Mhy 25 (Mi9 h) (MhU 17) 70 (MjI nd f) 160 (MeX cl cl cl cl cl cl cl (McX cl) []) (Mia qs)))))))) (k MeY (Mcw 191 2 i (Mj5 n pl (MaA 16 15 18 (.bool hs) [])) (Mbb xs ts rs us es ks ns cs (Mcy MaO ls 34 (MfD g l o p q r s t u v a1 b1 c1 d1 e1 f1 g1 i1 j1) 66 (Me0 w) 118 (Mdp 16 x x y y) (Mhy 25 (Mi9 h) (MhU 17) 70 (MjI nd f) 160 (MeX cl cl cl cl cl cl cl (McX cl) []) (Mia qs))))))))))))))))))))))))))))))))))))))))))))) :=by delta Maa Mab Mac Mad Mae Maf Mag Mah Mai Maj Mak Mal Mam Man Mao Map Maq Mar Mas Mat Mav Max May Maz MaA MaC MaD MaF MaH MaI MaJ MaL MaM MaO MaR MaV MaW MaX MaY MaZ Ma1 Ma2 Ma3 Ma4 Ma5 Ma9 Mba Mbb Mbd Mbe Mbj Mbk Mbl Mbn Mbp Mbu Mbw MbC MbD MbF MbL MbM Mb2 Mb3 Mca Mch Mcp Mcr Mcw Mcy McA McD McE McF McQ McR McS McW McX Mdm Mdp MdC MdE MdP Md0 Md7 Mes MeH MeJ MeK MeL MeM MeN MeO MeP MeQ MeU MeX MeY Me0 Me2 Me9 Mfa Mfb Mfj Mfk Mfm Mft MfC MfD MfM MfN MfW MfX Mf9 Mga MgE Mhh Mhy Mhz MhU Mia MiR Mi3 Mi8 Mi9 MjI Mj5 Mko; (iterate 3 refine nj ?_); (iterate 36 refine nm ?_); kernel_rfl
def Mja (a:List IV)(b:Int)(c:List IV)(d:OB):OB:=MbN 118 a 25 b b 118 (Mao 16 (Map 0 0 0 0 Mb3)) 70 c d
def Mjp (a b:Int):List IV:=Mdp 8 a a b b
def Mj8 (a:Bool)(b:List (Nat × IV)):List (Nat × IV):=Mca 6 (.bool a) 7 9 (MaR 8 10 11 11 (MaR 12 12 14 13 b))
theorem aab (m:Nat) (Λ:FuncId->Nat->Option aB) (d:Nat) (i:Int) (pl:Bool) (z:L1) (w h px py:Int) (nd:L1) (xs ts rs us es ks ns cs ls:L2) (q:Int) (k:Out->St->Prop):(round (ai TP { Γ:=vG m,Λ:=Λ,Τ:=fun _=>none } d) ar 9 3 (lp TP ar 3) (Vx i pl (Zk z w h px py nd xs ts rs us es ks ns cs ls) q) k) =(∀a,Maz a h (∀b,Maz b px (∀c,Maz c py (∀e,Me9 e nd (∀f,Mfa f nd (∀g,Mfb g nd (∀j,Mft j nd (∀l,MfW l z (∀n,Mf9 n z (∀o,MfC o z (∀p,MeH p z (∀r,Me9 r z (∀s,Mfa s z (∀t,Mfb t z (∀u,Mft u z (∀v,MfX v z (∀x,Mga x z (∀y,MeJ y z (∀a1,Mes a1 z (∀b1,MeK b1 z (∀c1,MeL c1 z (∀d1,MeM d1 z (∀e1,MeN e1 z (∀f1,MeO f1 z (∀g1,MeP g1 z (∀i1,MeQ i1 z (∀j1,Mbw j1 (MbQ q q) (∀k1,Mbw k1 (Mbg q q) (∀l1,Maz l1 (cW (MaF e f g j []) q) (∀m1,Maz m1 (xK pl (MdE l n o p r s t u v x y a1 b1 c1 d1 e1 f1 g1 i1) a xs ks ns cs i (Int.toNat l1) ls b c) (∀n1,Me2 n1 (xJ pl (MdE l n o p r s t u v x y a1 b1 c1 d1 e1 f1 g1 i1) a xs ks ns cs i (Int.toNat l1) ls b c) q 4 (Max j1 k1 (MgX l1 (Mb4 j1 k1 (Y9 m (MbL l n o p r s t u v x y a1 b1 0 1 2 3 c1 d1 e1 f1 g1 i1 4 (MaD (Me0 w) (MaM i l1 (Mhh (Mjp px py) h pl)))) (Mcd xs ts rs us es (Mhz MaW ks kQ ns fG cs ls []))) (k .normal (MiL 2 i (Mj8 pl (MdM 15 14 26 q)) xs ts rs us es ks ns cs ls (MfD l n o p r s t u v x y a1 b1 c1 d1 e1 f1 g1 i1) w (Mja (Md0 15 m1 m1 n1 n1 (xx pl (MdE l n o p r s t u v x y a1 b1 c1 d1 e1 f1 g1 i1) a xs ks ns cs i (Int.toNat l1) ls b c)) h (MjZ nd e f g j) (Mia (AU pl (MdE l n o p r s t u v x y a1 b1 c1 d1 e1 f1 g1 i1) a xs ks ns cs i (Int.toNat l1) ls b c)))))) (k .normal (Mcw 191 2 i (Mj8 pl (MdM 15 14 26 q)) (Mbb xs ts rs us es ks ns cs (Mh3 ls 34 (MfD l n o p r s t u v x y a1 b1 c1 d1 e1 f1 g1 i1) (Mhy 66 (Me0 w) (Mjp px py) 25 (Mi9 h) 118 (MhU 15) (Maq 70 (MjZ nd e f g j) (MaX []) [])))))))) (k (.exit 6) (Mh1 191 11 9 14 10 (Mbb xs ts rs us es ks ns cs (Mh3 ls 118 (Mjp px py) (Maq 118 (MhU 11) (MaX []) [])))))))))))))))))))))))))))))))))))) :=by delta Maa Mab Mac Mad Mae Maf Mag Mah Mai Maj Mak Mal Mam Mao Map Maq Mar Mav Max May Maz MaA MaC MaD MaF MaH MaL MaM MaO MaR MaV MaW MaX MaY MaZ Ma2 Ma4 Ma5 Ma9 Mbb Mbd Mbe Mbf Mbg Mbj Mbl Mbn Mbu Mbw MbC MbF MbL MbN MbQ Mb3 Mb4 Mb7 Mca Mcc Mcd Mcn Mcp Mcr Mcw McD McE McF McW Mdp MdE MdF MdM Md0 Mes MeH MeJ MeK MeL MeM MeN MeO MeP MeQ Me0 Me2 Me9 Mfa Mfb Mfm Mft MfC MfD MfW MfX Mf9 Mga Mgg MgX Mhh Mhy Mhz MhU Mh1 Mh3 Mia MiL Mi9 Mja Mjp MjZ Mj8; (iterate 3 refine nj ?_); (iterate 28 refine nm ?_); kernel_rfl
theorem aaa (m:Nat) (Λ:FuncId->Nat->Option aB) (d:Nat) (i:Int) (pl:Bool) (z:L1) (w h x y e:Int) (nd:L1) (xs ts rs us es ks ns cs ls qs:L2) (q:Int) (k:Out->St->Prop):(round (ai TP { Γ:=vG m,Λ:=Λ,Τ:=fun _=>none } d) ar 9 3 (lp TP ar 3) (Vx i pl (kr z w h x y e nd xs ts rs us es ks ns cs ls qs) q) k) =(∀a,Maz a h (∀b,Maz b x (∀c,Maz c y (∀f,Me9 f nd (∀g,Mfa g nd (∀j,Mfb j nd (∀l,Mft l nd (∀n,MfW n z (∀o,Mf9 o z (∀p,MfC p z (∀r,MeH r z (∀s,Me9 s z (∀t,Mfa t z (∀u,Mfb u z (∀v,Mft v z (∀a1,MfX a1 z (∀b1,Mga b1 z (∀c1,MeJ c1 z (∀d1,Mes d1 z (∀e1,MeK e1 z (∀f1,MeL f1 z (∀g1,MeM g1 z (∀i1,MeN i1 z (∀j1,MeO j1 z (∀k1,MeP k1 z (∀l1,MeQ l1 z (∀m1,Mbw m1 (MbQ q q) (∀n1,Mbw n1 (Mbg q q) (∀o1,Maz o1 (cW (MaF f g j l []) q) (∀p1,Maz p1 (xK pl (MdE n o p r s t u v a1 b1 c1 d1 e1 f1 g1 i1 j1 k1 l1) a xs ks ns cs i (Int.toNat o1) qs b c) (∀q1,Maz q1 (xJ pl (MdE n o p r s t u v a1 b1 c1 d1 e1 f1 g1 i1 j1 k1 l1) a xs ks ns cs i (Int.toNat o1) qs b c) (∀r1,Mbw r1 (k (.exit 6) (Mh1 191 11 9 14 10 (Mbu xs (MaZ jt ts ie rs MaO us dE es MaW ks kQ ns fG cs MaO ls (Mav 118 (Md0 11 x x y y e) 118 (MhU 12) (Mia qs)))))) (MbF q 4 (Mci e 0 (Max m1 n1 (MgX o1 (Mb4 m1 n1 (Y9 m (MbL n o p r s t u v a1 b1 c1 d1 e1 0 1 2 3 f1 g1 i1 j1 k1 l1 4 (MaD (Me0 w) (MaM i o1 (Mhh (Md0 8 x x y y e) h pl)))) (Mcd xs ts rs us es (Mhz MaW ks kQ ns fG cs qs []))) (k .normal (MiL 2 i (Mj8 pl (MdM 15 14 26 q)) xs ts rs us es ks ns cs ls (MfD n o p r s t u v a1 b1 c1 d1 e1 f1 g1 i1 j1 k1 l1) w (Mja (Md0 15 p1 p1 q1 q1 (xx pl (MdE n o p r s t u v a1 b1 c1 d1 e1 f1 g1 i1 j1 k1 l1) a xs ks ns cs i (Int.toNat o1) qs b c)) h (MjZ nd f g j l) (Mia (AU pl (MdE n o p r s t u v a1 b1 c1 d1 e1 f1 g1 i1 j1 k1 l1) a xs ks ns cs i (Int.toNat o1) qs b c)))))) (k .normal (MiL 2 i (Mj8 pl (MdM 15 14 26 q)) xs ts rs us es ks ns cs ls (MfD n o p r s t u v a1 b1 c1 d1 e1 f1 g1 i1 j1 k1 l1) w (Mja (Md0 15 x x y y e) h (MjZ nd f g j l) (Mia qs)))))) r1) r1))))))))))))))))))))))))))))))))) :=by delta Maa Mab Mac Mad Mae Maf Mag Mah Mai Maj Mak Mal Mam Mao Map Maq Mar Mav Max May Maz MaA MaC MaD MaF MaH MaL MaM MaO MaR MaV MaW MaX MaY MaZ Ma2 Ma4 Ma5 Ma9 Mbd Mbe Mbf Mbg Mbj Mbl Mbn Mbu Mbw MbC MbF MbL MbN MbQ Mb3 Mb4 Mb7 Mca Mcc Mcd Mci Mcn Mcp Mcr Mcw McD McE McF McW MdE MdF MdM Md0 Mes MeH MeJ MeK MeL MeM MeN MeO MeP MeQ Me0 Me9 Mfa Mfb Mfm Mft MfC MfD MfW MfX Mf9 Mga Mgg MgX Mhh Mhz MhU Mh1 Mia MiL Mja MjZ Mj8; (iterate 3 refine nj ?_); (iterate 29 refine nm ?_); kernel_rfl
def pK1 (n0:Nat) (st:St):Prop:=∃i n pl z w h px py nd cl xs ts rs us es ks ns cs ls,n0=9/\st=Ys i n pl true (yo z w h px py nd cl xs ts rs us es ks ns cs ls) 0
def Us (a b c d:Int):Bool:=decide (a < 0/\b < 0/\c < 0/\d < 0)
def XL (st:St):St:=⟨(st.t.set 17 (some (.bool (Us (bl st.b 14 4) (bl st.b 14 5) (bl st.b 14 6) (bl st.b 14 7))))).set 19 none,st.b⟩
def LK1:aB:=fun n0 st K=>pK1 n0 st/\K (.exit 0) (XL st)
def pK2 (n0:Nat) (st:St):Prop:=∃i n pl lf z w h px py nd cl xs ts rs us es ks ns cs ls,(0<=nd.getD 2 0/\nd.getD 2 0<=nd.getD 3 0/\nd.getD 3 0<=ks.length)/\ks.length<=1000/\n0=9/\st=VS i n pl lf false (yo z w h px py nd cl xs ts rs us es ks ns cs ls) (nd.getD 2 0)
def XJ (st:St):St:=⟨(st.t.set 18 (some (.bool (ll (List.drop (bl st.b 14 2).toNat (List.take (bl st.b 14 3).toNat (dh st.b 5))) (st.i 2))))).set 20 none,st.b⟩
def LK2:aB:=fun n0 st K=>pK2 n0 st/\K (.exit 2) (XJ st)
def PS (pl:Bool) (z:L1) (h:Int) (xs cs ys:L2) (i:Int) (ls:L2) (px py:Int):(L2 × Int × Int) × Int:=dF (dw (il pl z h (xs.getD i.toNat []) xs cs) i) ys (ls,px,py)
def aaA (i:Int) (h px py:Int) (nd:L1) (z:L1) (xs ks cs ls:L2):Prop:=Zf z xs cs/\ag h/\(ag px/\ag py)/\(0<=i/\i < xs.length)/\oB xs.length ks/\ks.length<=1000/\(0<=nd.getD 2 0/\nd.getD 2 0<=nd.getD 3 0/\nd.getD 3 0<=ks.length)/\ls.length<=2000/\xs.length<=1000
def pK3 (n0:Nat) (st:St) (i n:Int) (pl hs:Bool) (z:L1) (w h px py:Int) (nd cl:L1) (xs ts rs us es ks ns cs ls:L2):Prop:=aaA i h px py nd z xs ks cs ls/\n0=9/\st=Rk i n pl hs (yo z w h px py nd cl xs ts rs us es ks ns cs ls) (nd.getD 2 0)
def LK3:aB:=fun n0 st K=>∃i n pl hs z w h px py nd cl xs ts rs us es ks ns cs ls,pK3 n0 st i n pl hs z w h px py nd cl xs ts rs us es ks ns cs ls/\∃R,R=PS pl z h xs cs (afS nd ks) i ls px py/\br (R.2 != 0) (K .ret ⟨T 191 [(14,.ptr 9 0)],Ur xs ts rs us es ks ns cs ls++[some (.var 118 (EK 10 R.1.2.1 R.1.2.2 R.2)),some (.ro [.i64] R.1.1)]⟩)
 ((R=((ls,px,py),0)->K (.exit 4) ⟨T 191 (Uq i n pl hs),yo z w h px py nd cl xs ts rs us es ks ns cs ls⟩)/\K (.exit 4) ⟨T 191 (Uq i n pl hs),Zj z w h R.1.2.1 R.1.2.2 0 nd cl xs ts rs us es ks ns cs ls R.1.1⟩)
def tl (pl:Bool) (z:L1) (h:Int) (xs ks ns cs:L2) (i:Int) (l:List Nat) (ls:L2) (px py:Int):(L2 × Int × Int) × Int:=dF (uY pl z h xs ks ns cs i) l (ls,px,py)
def kd (m n0:Nat) (st:St) (i:Int) (n:Nat) (pl:Bool) (z:L1) (w h px py:Int) (nd:L1) (xs ts rs us es ks ns cs ls:L2):Prop:=qc z xs ks ns cs/\ag h/\(ag px/\ag py)/\(0<=i/\i < xs.length)/\n < ns.length/\nd=ns.getD n []/\ot ns n=false/\33 - lv ns n<=m+1/\ls.length+wt ns n<=2000/\xs.length<=1000/\n0=9/\st=Vx i pl (Zk z w h px py nd xs ts rs us es ks ns cs ls) 0
def JF (e x:Int):Int:=if e≠0 then 0 else x
def LK4 (m:Nat):aB:=fun n0 st K=>∃i n pl z w h px py nd xs ts rs us es ks ns cs ls,kd m n0 st i n pl z w h px py nd xs ts rs us es ks ns cs ls/\∃R,R=tl pl z h xs ks ns cs i (gm ns n) ls px py/\
 (R=((ls,px,py),0)->K (.exit 6) ⟨T 191 [(11,.ptr 9 0),(14,.ptr 10 0)],Ur xs ts rs us es ks ns cs ls++[some (.var 118 (EK 8 px py 0)),some (.var 118 [.sl 11,.int .i64 0,.int .u64 0,.int .i64 0,.int .u64 0,.int .i64 0]),some (.row 3 [.i64] [])]⟩)/\
 K (.exit 6) ⟨T 191 [(11,.ptr 9 0),(14,.ptr 10 0)],Ur xs ts rs us es ks ns cs ls++[some (.var 118 (EK 11 (JF R.2 R.1.2.1) (JF R.2 R.1.2.2) R.2)),some (.var 118 [.sl 12,.int .i64 0,.int .u64 0,.int .i64 0,.int .u64 0,.int .i64 0]),some (.ro [.i64] (bq R.2 R.1.1)),some (.row 3 [.i64] [])]⟩
def VA (m:Nat):Know:={ Γ:=vG m,Λ:=fun f i=>if f=ar then (if i=0 then some LK1 else if i=1 then some LK2 else if i=2 then some LK3 else if i=3 then some (LK4 m) else none) else none,Τ:=fun _=>none }
def MdR (a:(L2 × Int × Int) × Int):Int:=a.1.2.1
def MdS (a:(L2 × Int × Int) × Int):Int:=a.1.2.2
def MeB (a:(L2 × Int × Int) × Int):L2:=a.1.1
theorem Tj (m:Nat) (z:L1) (w:Int) (xs ts rs us es ks ns cs ls:L2) (i px py h:Int) (n:Nat) (pl:Bool) (K:KP):(comes TP (VA m) 3 ar [.agg (af z 0 1 2 3 4),.agg [.sl 5,.sl 6,.sl 7,.int .i64 w],.int .i64 i,.int .i64 (n:Int),ct 8 px py 0,fx h,.bool pl] (aH xs ts rs us es++[.ro [.u64,.i64] ks,.ro kQ ns,.ro fG cs,.ro [.i64] ls]) K) =(∀a,Maz a h (∀b,Maz b px (∀c,Maz c py (∀d,Mjq d (MdV cs (↑n:Int) 2 cs (↑n:Int) 3 xs i 4 xs i 5) (MdV cs (↑n:Int) 4 cs (↑n:Int) 5 xs i 6 xs i 7) (∀e,Maz e d (∀f,Mjr f (MdV cs (↑n:Int) 2 cs (↑n:Int) 3 xs i 4 xs i 5) (MdV cs (↑n:Int) 4 cs (↑n:Int) 5 xs i 6 xs i 7) (∀g,Maz g f (∀j,Maz j (te (az e e) (az g g)) (∀k,Maz k j (∀l,Mdg l (Mba (McX z) (Mdj z)) k (∀o,Maz o l (∀p,Maz p (tf (az e e) (az g g)) (∀q,Mfj q xs i (∀r,Mfk r xs i (∀s,MfM s xs i (∀t,MfN t xs i (∀u,Mc8 u ns n 2 (∀v,Mc8 v ns n 3 (∀x,Mc8 x ns n 4 (∀y,Mc8 y ns n 5 (∀a1,Mc8 a1 ns n 6 (∀b1,Mc8 b1 ns n 7 (∀c1,Mc8 c1 cs n 0 (∀d1,Mc8 d1 cs n 1 (∀e1,Mc8 e1 cs n 2 (∀f1,Mc8 f1 cs n 3 (∀g1,Mc8 g1 cs n 4 (∀i1,Mc8 i1 cs n 5 (∀j1,Mc8 j1 cs n 6 (∀k1,Mc8 k1 cs n 7 (∀l1,MfW l1 z (∀m1,Mf9 m1 z (∀n1,MfC n1 z (∀o1,MeH o1 z (∀p1,Me9 p1 z (∀q1,Mfa q1 z (∀r1,Mfb r1 z (∀s1,Mft s1 z (∀t1,MfX t1 z (∀u1,Mga u1 z (∀v1,MeJ v1 z (∀w1,Mes w1 z (∀x1,MeK x1 z (∀y1,MeL y1 z (∀z1,MeM z1 z (∀a2,MeN a2 z (∀b2,MeO b2 z (∀c2,MeP c2 z (∀d2,MeQ d2 z (∀e2,Mi8 e2 i xs (∀f2,Mi8 f2 (↑n:Int) ns (∀g2,Mi8 g2 (↑n:Int) cs (∀i2,Mch i2 e1 f1 (∀j2,Mch j2 g1 i1 (∀k2,Mch k2 c1 d1 (∀l2,Md1 l2 (Mba j1 k1) o (∀m2,Mdo m2 (Mba s1 t1) k (∀n2,Mgk n2 (Mdq i2 q r) (Mdq j2 s t) (∀o2,Maz o2 (xI pl (MdE l1 m1 n1 o1 p1 q1 r1 s1 t1 u1 v1 w1 x1 y1 z1 a2 b2 c2 d2) a (MeU xs i) k2 i2 j2 b c) (∀p2,Maz p2 (xH pl (MdE l1 m1 n1 o1 p1 q1 r1 s1 t1 u1 v1 w1 x1 y1 z1 a2 b2 c2 d2) a (MeU xs i) k2 i2 j2 b c) (∀q2,Maz q2 (uW pl (MdE l1 m1 n1 o1 p1 q1 r1 s1 t1 u1 v1 w1 x1 y1 z1 a2 b2 c2 d2) a (MeU xs i) k2 i2 j2 b c) (Mi3 f2 (MaI g2 g2 (pK1 9 (MiL 2 i (Mar 3 (Maa (↑n:Int)) 6 (.bool pl) (MaR 7 9 8 10 (MaR 11 11 12 12 (MaR 14 13 15 14 (MaA 16 15 17 Mby (Mar 18 MaU 19 (Maa 0) [])))))) xs ts rs us es ks ns cs ls (MfD l1 m1 n1 o1 p1 q1 r1 s1 t1 u1 v1 w1 x1 y1 z1 a2 b2 c2 d2) w (MfH (Mjp px py) 25 h h 16 0 0 0 0 70 (MhQ ns n (McU ns n 1) u v x y a1 b1 []) (Map c1 d1 e1 f1 (Map g1 i1 j1 k1 [])) []))) (pK2 9 (MiL 2 i (Mj5 (↑n:Int) pl (MiW (Us x y a1 b1) (Mar 18 MaU 20 (Maa u) []))) xs ts rs us es ks ns cs ls (MfD l1 m1 n1 o1 p1 q1 r1 s1 t1 u1 v1 w1 x1 y1 z1 a2 b2 c2 d2) w (MfH (Mjp px py) 25 h h 16 0 0 0 0 70 (MhQ ns n (McU ns n 1) u v x y a1 b1 []) (Map c1 d1 e1 f1 (Map g1 i1 j1 k1 [])) []))) (br (Us x y a1 b1) (∃r2:Int,∃s2:Int,∃t2:Bool,∃u2:Bool,∃v2:L1,∃w2:Int,∃x2:Int,∃y2:Int,∃z2:Int,∃a3:L1,∃b3:L1,∃c3:L2,∃d3:L2,∃e3:L2,∃f3:L2,∃g3:L2,∃i3:L2,∃j3:L2,∃k3:L2,∃l3:L2,pK3 9 (Mko i (↑n:Int) pl (Mar 18 (.bool (ll (Md6 u v ks) i)) 21 (Maa u) []) (Mbu xs (Mgg ts rs us es MaW ks kQ ns cs ls 34 (MfD l1 m1 n1 o1 p1 q1 r1 s1 t1 u1 v1 w1 x1 y1 z1 a2 b2 c2 d2) 66 w (MfH (Mjp px py) 25 h h 16 0 0 0 0 70 (MhQ ns n (McU ns n 1) u v x y a1 b1 []) (Map c1 d1 e1 f1 (Map g1 i1 j1 k1 [])) [])))) r2 s2 t2 u2 v2 w2 x2 y2 z2 a3 b3 c3 d3 e3 f3 g3 i3 j3 k3 l3/\(∃m3:(L2 × Int × Int) × Int,Mcv (m3=PS t2 v2 x2 c3 k3 (afS a3 i3) r2 l3 y2 z2) m3.2 (K (.agg (Md0 0 (MdR m3) (MdR m3) (MdS m3) (MdS m3) m3.2)) (Mfo (MeB m3))) ((m3=((l3,(y2,z2)),0)->K (MjF y2 z2) (Mfo l3))/\K (MjF (MdR m3) (MdS m3)) (Mfo (MeB m3))))) (Mbx (ll (Md6 u v ks) i) (Mju e2 (kB (MdC e1 f1 g1 i1 (MdC q r s t [])) []) n2 (K (Mgn 0 0 0 0 0 (Ma2 n2)) (MdY [])) (Mfv (MfU d f [] []) p (K (Mgn 0 0 0 0 0 (Ma2 p)) (MdY [])) (MgS s1 t1 j) m2 (K (Mgn 0 0 0 0 0 (Ma2 m2)) (MdY [])) (MeE (ud (Meu j1 k1 l) []) (MbI l2 0) (Pp (MbL l1 m1 n1 o1 p1 q1 r1 s1 t1 u1 v1 w1 x1 0 1 2 3 y1 z1 a2 b2 c2 d2 4 (MaM i (↑n:Int) (Mb2 c1 d1 (MdC e1 f1 g1 i1 (Mhh (Mdp 5 px px py py) h pl))))) (MaY aM xs jt ts (Mhz ie rs MaO us dE es ls []))/\K (.agg (Md0 0 o2 o2 p2 p2 q2)) (Mfo (sI q2 ls (↑n:Int)))) (∃r2:Int,∃s2:Nat,∃t2:Bool,∃u2:L1,∃v2:Int,∃w2:Int,∃x2:Int,∃y2:Int,∃z2:L1,∃a3:L2,∃b3:L2,∃c3:L2,∃d3:L2,∃e3:L2,∃f3:L2,∃g3:L2,∃i3:L2,∃j3:L2,kd m 9 (Mcw 191 2 i (Mca 6 (.bool pl) 7 9 (MaR 8 10 11 11 (MaR 12 12 14 13 (MdF 15 14 26 0)))) (Mbb xs ts rs us es ks ns cs (Mh3 ls 34 (MfD l1 m1 n1 o1 p1 q1 r1 s1 t1 u1 v1 w1 x1 y1 z1 a2 b2 c2 d2) (Mhy 66 (Me0 w) (Mjp px py) 25 (Mi9 h) 118 (MhU 15) (Maq 70 (MhQ ns n (McU ns n 1) u v x y a1 b1 []) (MaX []) []))))) r2 s2 t2 u2 v2 w2 x2 y2 z2 a3 b3 c3 d3 e3 f3 g3 i3 j3/\(∃k3:(L2 × Int × Int) × Int,Max (k3=tl t2 u2 w2 a3 f3 g3 i3 r2 (gm g3 s2) j3 x2 y2) (k3=((j3,(x2,y2)),0)->K (MjF x2 y2) (Mfo j3)) (K (.agg (Md0 0 (JF k3.2 (MdR k3)) (JF k3.2 (MdR k3)) (JF k3.2 (MdS k3)) (JF k3.2 (MdS k3)) k3.2)) (Mfo (bq k3.2 (MeB k3))))))))) (∃r2:Int,∃s2:Nat,∃t2:Bool,∃u2:L1,∃v2:Int,∃w2:Int,∃x2:Int,∃y2:Int,∃z2:L1,∃a3:L2,∃b3:L2,∃c3:L2,∃d3:L2,∃e3:L2,∃f3:L2,∃g3:L2,∃i3:L2,∃j3:L2,kd m 9 (Mcw 191 2 i (Mca 6 (.bool pl) 7 9 (MaR 8 10 11 11 (MaR 12 12 14 13 (MdF 15 14 26 0)))) (Mbb xs ts rs us es ks ns cs (Mh3 ls 34 (MfD l1 m1 n1 o1 p1 q1 r1 s1 t1 u1 v1 w1 x1 y1 z1 a2 b2 c2 d2) (Mhy 66 (Me0 w) (Mjp px py) 25 (Mi9 h) 118 (MhU 15) (Maq 70 (MhQ ns n (McU ns n 1) u v x y a1 b1 []) (MaX []) []))))) r2 s2 t2 u2 v2 w2 x2 y2 z2 a3 b3 c3 d3 e3 f3 g3 i3 j3/\(∃k3:(L2 × Int × Int) × Int,Max (k3=tl t2 u2 w2 a3 f3 g3 i3 r2 (gm g3 s2) j3 x2 y2) (k3=((j3,(x2,y2)),0)->K (MjF x2 y2) (Mfo j3)) (K (.agg (Md0 0 (JF k3.2 (MdR k3)) (JF k3.2 (MdR k3)) (JF k3.2 (MdS k3)) (JF k3.2 (MdS k3)) k3.2)) (Mfo (bq k3.2 (MeB k3))))))))))))))))))))))))))))))))))))))))))))))))))))))))))))))))))))))) :=by delta Maa Mab Mac Mad Mae Maf Mag Mai Maj Mak Mal Mam Man Mao Map Maq Mar Mas Mat Mav Max May Maz MaA MaD MaF MaH MaI MaL MaM MaO MaR MaU MaV MaW MaX MaY MaZ Ma1 Ma2 Ma3 Ma4 Ma5 Ma9 Mba Mbb Mbd Mbe Mbj Mbl Mbn Mbp Mbu Mbw Mbx Mby MbA MbE MbH MbI MbL MbM MbN Mb2 Mb3 Mb4 Mca Mcb Mch Mcp Mcv Mcw McA McU McX Mc8 Mdc Mdg Mdj Mdo Mdp Mdq MdC MdE MdF MdR MdS MdV MdY Md0 Md1 Md6 Mes Meu MeB MeE MeH MeJ MeK MeL MeM MeN MeO MeP MeQ MeU MeV Me0 Me9 Mfa Mfb Mfj Mfk Mfm Mfo Mft Mfv MfC MfD MfH MfM MfN MfU MfW MfX Mf9 Mga Mgg Mgk Mgn MgS Mhh Mhy Mhz MhQ MhU Mh3 MiL MiW Mi3 Mi8 Mi9 Mjp Mjq Mjr Mju MjF Mj5 Mko; (iterate 3 refine nj ?_); refine nm ?_; refine nj ?_; refine nm ?_; refine nj ?_; refine nm ?_; refine nj ?_; refine nm ?_; refine nj ?_; (iterate 50 refine nm ?_); kernel_rfl
section
open Go.IntWalk
def yp (nd:L1):Nat->Bool
 | 0=>true
 | q+1=>yp nd q && decide (nd.getD (4+q) 0 < 0)
theorem EL (nd:L1):yp nd 4=Us (nd.getD 4 0) (nd.getD 5 0) (nd.getD 6 0) (nd.getD 7 0):=by
 unfold Us;simp only [yp,Nat.reduceAdd];rw [Bool.eq_iff_iff];simp only [Bool.and_eq_true,decide_eq_true_eq,true_and];constructor
 ·rintro ⟨⟨⟨h1,h2⟩,h3⟩,h4⟩; exact ⟨h1,h2,h3,h4⟩
 ·rintro ⟨h1,h2,h3,h4⟩; exact ⟨⟨⟨h1,h2⟩,h3⟩,h4⟩
theorem Mq (a b c d:Int) {q:Nat} (hq:q < 4) (nd:L1) (h:a=nd.getD 4 0/\b=nd.getD 5 0/\c=nd.getD 6 0/\d=nd.getD 7 0):cW [a,b,c,d] (q:Int)=nd.getD (4+q) 0:=by
 obtain ⟨rfl,rfl,rfl,rfl⟩:=h;match q,hq with
 | 0,_=>rfl
 | 1,_=>rfl
 | 2,_=>rfl
 | 3,_=>rfl
theorem XK (i n:Int) (pl:Bool) (z:L1) (w h px py:Int) (nd cl:L1) (xs ts rs us es ks ns cs ls:L2):XL (Ys i n pl true (yo z w h px py nd cl xs ts rs us es ks ns cs ls) 0) = ⟨T 191 (Zi i n pl (Us (nd.getD 4 0) (nd.getD 5 0) (nd.getD 6 0) (nd.getD 7 0)) false),yo z w h px py nd cl xs ts rs us es ks ns cs ls⟩:=by kernel_rfl
theorem XI (i n:Int) (pl lf:Bool) (z:L1) (w h px py:Int) (nd cl:L1) (xs ts rs us es ks ns cs ls:L2):XJ (VS i n pl lf false (yo z w h px py nd cl xs ts rs us es ks ns cs ls) (nd.getD 2 0)) = ⟨T 191 (Zi i n pl lf (ll (afS nd ks) i)),yo z w h px py nd cl xs ts rs us es ks ns cs ls⟩:=by kernel_rfl
theorem lK1 (m d n0:Nat):aG (ai TP (VA m) d) ar n0 0 (lp TP ar 0) LK1:=by
 intro st K hst;obtain ⟨⟨i,n,pl,z,w,h,px,py,nd,cl,xs,ts,rs,us,es,ks,ns,cs,ls,rfl,rfl⟩,hK⟩:=hst;rw [XK] at hK;refine aC (fun p:Nat × Bool=>Ys i n pl p.2 (yo z w h px py nd cl xs ts rs us es ks ns cs ls) p.1) (fun p=>p.1<=4/\p.2=yp nd p.1) (fun p=>4 - p.1) ?_ (a:=(0,true)) ⟨by omega,rfl⟩
 rintro ⟨q,lf⟩ ⟨hq,hlf⟩ k hn hk;simp only at hq hlf;show round (ai TP { Γ:=vG m,Λ:=_,Τ:=fun _=>none } d) _ _ _ _ (Ys i n pl lf (yo z w h px py nd cl xs ts rs us es ks ns cs ls) q) k
 rw [rK1]; delta Maa Mab Mac Mad Mae Maf Mag Mah Mai Maj Mak Mal Mam Mao Map Maq Mar Mav Max May Maz MaA MaC MaF MaH MaL MaM MaO MaR MaU MaV MaW MaX MaZ Ma2 Ma4 Ma5 Ma9 Mbd Mbe Mbg Mbn Mbu MbC MbF MbM MbN MbQ MbT Mb3 Mca Mcp Mcr Mcw McD McE McF McH McI McJ McK McL McM McN McO McQ McR McS McW McX Mda Mdj Mdp MeX Me0 Me2 Me9 Mfa Mfb Mft MfH Mgg Mhf MiL MiW MjZ Mj3 Mj5 Mkj Mko;rintro t1 rfl t2 rfl t3 rfl t4 rfl t5 e5;rw [al];refine ⟨fun hi=>?_,fun hi=>?_⟩
 ·have hi':q < 4:=by omega
  rw [Mq _ _ _ _ hi' nd ⟨rfl,rfl,rfl,rfl⟩] at e5;rw [show IntKind.i64.wrap ((q:Int)+1)=((q+1:Nat):Int) by rw [i64_in _ (by omega)]; rfl]
  rw [aL];refine ⟨fun h1=>⟨⟨by omega,by omega⟩,⟨by omega,by omega⟩,?_⟩,fun h1=>?_⟩
  ·exact hn (q+1,decide (t5 < 0)) ⟨hi',by show _=(yp nd q && decide (nd.getD (4+q) 0 < 0)); rw [← hlf,h1,Bool.true_and,e5]⟩ (by show 4 - (q+1) < 4 - q; omega)
  ·exact hn (q+1,false) ⟨hi',by show _=(yp nd q && decide (nd.getD (4+q) 0 < 0)); rw [← hlf,h1,Bool.false_and]⟩ (by show 4 - (q+1) < 4 - q; omega)
 ·have:q=4:=by omega
  subst this;rw [EL] at hlf;subst hlf;exact hk _ _ (by simp) hK
theorem Pm {ks:L2} {A B:Int} {a:Nat} (h:0<=A) (ha:a < (List.drop A.toNat (List.take B.toNat ks)).length):(List.drop A.toNat (List.take B.toNat ks)).getD a []=ks.getD (A+a).toNat []/\(A+a).toNat < ks.length:=by
 rw [List.length_drop,List.length_take] at ha;rw [List.getD_eq_getElem?_getD,List.getD_eq_getElem?_getD,List.getElem?_drop,List.getElem?_take,if_pos (by omega),show (A+(a:Int)).toNat=A.toNat+a by omega]
 exact ⟨rfl,by omega⟩
theorem zR {nd:L1} {ks:L2} {a:Nat} (h:0<=nd.getD 2 0) (ha:a < (afS nd ks).length):rd ks (nd.getD 2 0+a).toNat 1=(afS nd ks)[a].getD 1 0/\(nd.getD 2 0+a).toNat < ks.length:=by
 obtain ⟨h1,h2⟩:=Pm h ha;have h3:(afS nd ks).getD a []=ks.getD (nd.getD 2 0+(a:Int)).toNat []:=h1;rw [acY ha] at h3;refine ⟨?_,h2⟩;rw [h3]; rfl
theorem Gk {nd:L1} {ks:L2} (h:0<=nd.getD 2 0/\nd.getD 2 0<=nd.getD 3 0/\nd.getD 3 0<=ks.length):((afS nd ks).length:Int)=nd.getD 3 0 - nd.getD 2 0:=by
 unfold afS;rw [List.length_drop,List.length_take];omega
theorem MP {ys:L2} {a:Nat} (ha:a < ys.length) (i:Int):ll (ys.take (a+1)) i=(ll (ys.take a) i || decide (ys[a].getD 1 0=i)):=by
 unfold ll;rw [List.take_add_one,List.getElem?_eq_getElem ha,Option.toList_some,List.any_append];simp
theorem lK2 (m d n0:Nat):aG (ai TP (VA m) d) ar n0 1 (lp TP ar 1) LK2:=by
 intro st K hst;obtain ⟨⟨i,n,pl,lf,z,w,h,px,py,nd,cl,xs,ts,rs,us,es,ks,ns,cs,ls,hb,hk1,rfl,rfl⟩,hK⟩:=hst;rw [XI] at hK;have hlen:=Gk hb;have e0:VS i n pl lf false (yo z w h px py nd cl xs ts rs us es ks ns cs ls) (nd.getD 2 0)=VS i n pl lf (ll ((afS nd ks).take 0) i) (yo z w h px py nd cl xs ts rs us es ks ns cs ls) (nd.getD 2 0+((0:Nat):Int)):=by
  rw [show nd.getD 2 0+((0:Nat):Int)=nd.getD 2 0 by omega]; rfl
 rw [e0];refine aC (fun a:Nat=>VS i n pl lf (ll ((afS nd ks).take a) i) (yo z w h px py nd cl xs ts rs us es ks ns cs ls) (nd.getD 2 0+a)) (fun a=>a<=(afS nd ks).length) (fun a=>(afS nd ks).length - a) ?_ (a:=0) (Nat.zero_le _)
 rintro a ha k hn hk;show round (ai TP { Γ:=vG m,Λ:=_,Τ:=fun _=>none } d) _ _ _ _ _ k
 rw [rK2]; delta Maa Mab Mac Mad Mae Maf Mag Mah Mai Maj Mak Mal Mam Man Mao Map Maq Mar Mas Mav Max May Maz MaA MaC MaH MaL MaM MaO MaR MaV MaW MaX MaZ Ma2 Ma4 Ma5 Ma9 Mbd Mbe Mbn Mbp Mbu Mbw Mby MbC MbF MbM MbN Mb3 Mca Mcp Mcr Mcw McD McE McF McH McI McJ McK McL McM McN McO McQ McR McS McW McX Mda Mdj Mdp Mez MeH MeX Me0 MfH Mgg Mhf MiL MiR MiW Mi3 Mi8 MjI Mj3 Mj5 Mkj Mko;rintro t1 rfl t2 e2;rw [al];refine ⟨fun hi=>?_,fun hi=>?_⟩
 ·have hi':a < (afS nd ks).length:=by omega
  obtain ⟨g1,g2⟩:=zR hb.1 hi';have p2:t2:=by rw [e2]; omega
  rw [show IntKind.i64.wrap (nd.getD 2 0+(a:Int)+1)=nd.getD 2 0+((a+1:Nat):Int) by rw [i64_in _ (by omega)]; omega]
  have hgo:=hn (a+1) hi' (by omega)
  rw [MP hi'] at hgo;rw [aL];refine ⟨fun h1=>?_,fun h1=>⟨p2,p2,?_⟩⟩
  ·rw [h1,Bool.true_or] at hgo;exact hgo
  ·rw [h1,Bool.false_or,← g1] at hgo;exact hgo
 ·have:a=(afS nd ks).length:=by omega
  subst this;rw [List.take_length];exact hk _ _ (by simp) hK
theorem xW {pl:Bool} {z:L1} {h:Int} {r:L1} {xs cs:L2} {t:Int} (ht:0<=t) (s:L2 × Int × Int):il pl z h r xs cs (-1 - t) s =
  ((sI (uW pl z h r (fr (xs.getD t.toNat []) 0) (fr (xs.getD t.toNat []) 4) (fr (xs.getD t.toNat []) 6) s.2.1 s.2.2) s.1 (-1 - t),xI pl z h r (fr (xs.getD t.toNat []) 0) (fr (xs.getD t.toNat []) 4) (fr (xs.getD t.toNat []) 6) s.2.1 s.2.2,xH pl z h r (fr (xs.getD t.toNat []) 0) (fr (xs.getD t.toNat []) 4) (fr (xs.getD t.toNat []) 6) s.2.1 s.2.2),uW pl z h r (fr (xs.getD t.toNat []) 0) (fr (xs.getD t.toNat []) 4) (fr (xs.getD t.toNat []) 6) s.2.1 s.2.2):=by
 unfold il;rw [if_neg (by omega),show (-1 - (-1 - t)).toNat=t.toNat by omega]
theorem JM {pl:Bool} {z:L1} {h:Int} {r:L1} {xs cs:L2} (n:Nat) (s:L2 × Int × Int):il pl z h r xs cs n s =
  ((sI (uW pl z h r (fr (cs.getD n []) 0) (fr (cs.getD n []) 2) (fr (cs.getD n []) 4) s.2.1 s.2.2) s.1 n,xI pl z h r (fr (cs.getD n []) 0) (fr (cs.getD n []) 2) (fr (cs.getD n []) 4) s.2.1 s.2.2,xH pl z h r (fr (cs.getD n []) 0) (fr (cs.getD n []) 2) (fr (cs.getD n []) 4) s.2.1 s.2.2),uW pl z h r (fr (cs.getD n []) 0) (fr (cs.getD n []) 2) (fr (cs.getD n []) 4) s.2.1 s.2.2):=by
 unfold il;rw [if_pos (by omega),show ((n:Nat):Int).toNat=n by omega]
theorem Ae {pl:Bool} {z:L1} {h:Int} {r:L1} {m ax ay px py:Int} (hx:ag px):ag (xI pl z h r m ax ay px py):=by
 unfold xI;split
 ·exact bg
 ·split
  ·exact GO hx
  ·exact hx
theorem Ac {pl:Bool} {z:L1} {h:Int} {r:L1} {m ax ay px py:Int} (hy:ag py):ag (xH pl z h r m ax ay px py):=by
 unfold xH;split
 ·exact bg
 ·split
  ·exact GN hy
  ·exact hy
def S3o (i n:Int) (pl hs:Bool) (z:L1) (w h px py:Int) (nd cl:L1) (xs ts rs us es ks ns cs ls:L2):Option (L2 × Int × Int) × Nat->St
 | (none,a)=>Rk i n pl hs (yo z w h px py nd cl xs ts rs us es ks ns cs ls) (nd.getD 2 0+a)
 | (some (L,x,y),a)=>Rk i n pl hs (Zj z w h x y 0 nd cl xs ts rs us es ks ns cs ls L) (nd.getD 2 0+a)
def I3o (f:L1->L2 × Int × Int->(L2 × Int × Int) × Int) (ys ls:L2) (px py:Int) (R:(L2 × Int × Int) × Int):Option (L2 × Int × Int) × Nat->Prop
 | (none,a)=>a<=ys.length/\dF f (ys.drop a) (ls,px,py)=R
 | (some (L,x,y),a)=>a<=ys.length/\L.length<=ls.length+a/\ag x/\ag y/\dF f (ys.drop a) (L,x,y)=R
set_option maxHeartbeats 1000000 in
theorem lK3 (m d n0:Nat):aG (ai TP (VA m) d) ar n0 2 (lp TP ar 2) LK3:=by
 intro st K hst;obtain ⟨i,n,pl,hs,z,w,h,px,py,nd,cl,xs,ts,rs,us,es,ks,ns,cs,ls,⟨⟨hw,hh,⟨hpx0,hpy0⟩,hib,hid,hks,hb,hls,hxl⟩,rfl,rfl⟩,R,hR0,hK⟩:=hst;rw [ah] at hK;have hlen:=Gk hb;have hle0:=Gj nd ks;have okr:aI aM xs:=fun r hr=>(hw.2.1 r hr).2.1
 have hzl:([z.getD 0 0,z.getD 1 0,z.getD 2 0,z.getD 3 0,z.getD 4 0,z.getD 5 0,z.getD 6 0,z.getD 7 0,z.getD 8 0,z.getD 9 0,z.getD 10 0,z.getD 11 0,z.getD 12 0,z.getD 13 0,z.getD 14 0,z.getD 15 0,z.getD 16 0,z.getD 17 0,z.getD 18 0]:L1)=z:=lZ hw.1.1.1.1;have e0:Rk i n pl hs (yo z w h px py nd cl xs ts rs us es ks ns cs ls) (nd.getD 2 0)=S3o i n pl hs z w h px py nd cl xs ts rs us es ks ns cs ls (none,0):=by
  show _=Rk i n pl hs (yo z w h px py nd cl xs ts rs us es ks ns cs ls) (nd.getD 2 0+((0:Nat):Int));rw [show nd.getD 2 0+((0:Nat):Int)=nd.getD 2 0 by omega]
 rw [e0];refine aC (S3o i n pl hs z w h px py nd cl xs ts rs us es ks ns cs ls) (I3o (dw (il pl z h (xs.getD i.toNat []) xs cs) i) (afS nd ks) ls px py R) (fun p=>(afS nd ks).length - p.2) ?_ (a:=(none,0)) ⟨Nat.zero_le _,hR0.symm⟩
 rintro ⟨_ | ⟨L,x,y⟩,a⟩ hI k hn hk
 ·obtain ⟨ha,hR⟩:=hI;have hpx:=hpx0;have hpy:=hpy0;show round (ai TP { Γ:=vG m,Λ:=_,Τ:=fun _=>none } d) _ _ _ _ (Rk i n pl hs (yo z w h px py nd cl xs ts rs us es ks ns cs ls) (nd.getD 2 0+a)) k
  rw [aad]; delta Maa Mab Mac Mad Mae Maf Mag Mah Mai Maj Mak Mal Mam Man Mao Map Maq Mar Mas Mat Mav Max May Maz MaA MaC MaD MaF MaH MaI MaJ MaL MaM MaO MaR MaV MaW MaX MaY MaZ Ma1 Ma2 Ma3 Ma4 Ma5 Ma9 Mba Mbb Mbd Mbe Mbj Mbk Mbl Mbn Mbp Mbu Mbw MbC MbD MbF MbL MbM MbN Mb2 Mb3 Mca Mch Mcp Mcr Mcw Mcy McA McD McE McF McQ McR McS McW McX Mdm Mdp MdC MdE MdP Md0 Md7 Mes MeH MeJ MeK MeL MeM MeN MeO MeP MeQ MeU MeX MeY Me0 Me2 Me9 Mfa Mfb Mfj Mfk Mfm Mft MfC MfD MfH MfM MfN MfW MfX Mf9 Mga Mgg MgE Mhh Mhy Mhz MhU Mia MiL MiR Mi3 Mi8 Mi9 MjI Mj5 Mkj Mko;rintro j1 rfl j2 rfl j3 rfl t4 e4 t5 rfl t6 rfl t7 rfl t8 rfl t9 rfl t10 rfl t11 rfl t12 rfl t13 rfl t14 rfl t15 rfl t16 rfl t17 rfl t18 rfl t19 rfl t20 rfl t21 rfl t22 rfl t23 rfl t24 rfl t25 e25 t26 e26 t27 e27 t28 e28 t29 e29 t30 e30 t31 e31 t32 e32 t33 e33 t34 e34 t35 e35 t36 e36 t37 e37 t38 e38 t39 e39;rw [hzl] at e37 e38 e39;rw [al];refine ⟨fun hi=>?_,fun hi=>?_⟩
  ·have hi':a < (afS nd ks).length:=by omega
   obtain ⟨g1,g2⟩:=zR hb.1 hi';have T4:t4=(afS nd ks)[a].getD 1 0:=by rw [e4,g1]
   have hid4:=hid _ (zQ (List.getElem_mem hi'));rw [← T4] at hid4;have htl:t4.toNat < xs.length:=by omega
   have p31:t31:=by rw [e31]; omega
   have p33:t33:=by rw [e33]; exact hid4
   have E32:t32 = -1 - t4:=by rw [e32,i64_in _ (by omega)]
   have M0:t34=fr (xs.getD t4.toNat []) 0:=by rw [e34,e25,e26]; rfl
   have M4:t35=fr (xs.getD t4.toNat []) 4:=by rw [e35,e27,e28]; rfl
   have M6:t36=fr (xs.getD t4.toNat []) 6:=by rw [e36,e29,e30]; rfl
   rw [M0,M4,M6] at e37 e38 e39;obtain ⟨_,_,m0,m4,m6,_,_⟩:=hw.2.1 _ (getM htl);rw [wi _ hi'] at hR;rw [show IntKind.i64.wrap (nd.getD 2 0+(a:Int)+1)=nd.getD 2 0+((a+1:Nat):Int) by rw [i64_in _ (by omega)]; omega]
   refine ⟨p31,p31,?_⟩;rw [ah];refine ⟨fun hne=>⟨p33,p33,p33,p33,?_,?_⟩,fun he=>?_⟩
   ·refine ⟨z,xs,ts,rs,us,es,ls,i,t32,fr (xs.getD t4.toNat []) 0,fr (xs.getD t4.toNat []) 4,fr (xs.getD t4.toNat []) 6,j2,j3,j1,pl,?_,rfl,hw.1.1,hw.2.1,hib,m0,⟨m4,m6⟩,⟨hpx,hpy⟩,hh,by omega⟩
    rw [e25,e26,e27,e28,e29,e30,show IV.agg [.int .i64 (rd xs t4.toNat 0),.int .u64 (rd xs t4.toNat 1)]=fx (fr (xs.getD t4.toNat []) 0) from (ae6 (cH okr t4.toNat 1 (by decide) rfl) rfl).symm,nv (cH okr t4.toNat 5 (by decide) rfl) (cH okr t4.toNat 7 (by decide) rfl)]
    rfl
   ·have hf:dw (il pl z j1 (xs.getD i.toNat []) xs cs) i (afS nd ks)[a] (ls,j2,j3)=((sI t37 ls t32,t38,t39),t37):=by
     unfold dw;rw [if_neg (by rw [← T4]; exact hne),← T4,xW hid4.1,E32]
     simp only [e37,e38,e39]
    rw [hf] at hR;rw [ah];refine ⟨fun h7=>?_,fun h7=>?_⟩
    ·rw [if_pos h7] at hR;subst hR;exact hk _ _ (by simp) (hK.1 h7)
    ·rw [if_neg (by simpa using h7)] at hR
     have hmx:ag t38:=by rw [e38]; exact Ae hpx
     have hmy:ag t39:=by rw [e39]; exact Ac hpy
     have hlen2:(sI t37 ls t32).length<=ls.length+(a+1):=by
      unfold sI; rw [if_neg (by simpa using h7),List.length_append,List.length_singleton]; omega
     have hgo:=hn (some (sI t37 ls t32,t38,t39),a+1) ⟨hi',hlen2,hmx,hmy,hR⟩ (by show (afS nd ks).length - (a+1) < (afS nd ks).length - a; omega)
     rw [h7] at hgo ⊢;exact hgo
   ·have hf:dw (il pl z j1 (xs.getD i.toNat []) xs cs) i (afS nd ks)[a] (ls,j2,j3)=((ls,j2,j3),0):=by
     unfold dw;rw [if_pos (by rw [← T4]; exact he)]
    rw [hf,if_neg (fun hh=>hh rfl)] at hR
    exact hn (none,a+1) ⟨hi',hR⟩ (by show (afS nd ks).length - (a+1) < (afS nd ks).length - a; omega)
  ·have:a=(afS nd ks).length:=by omega
   subst this;rw [List.drop_length] at hR;exact hk _ _ (by simp) ((hK.2 (by rw [← hR]; rfl)).1 hR.symm)
 ·obtain ⟨ha,hL,hpx,hpy,hR⟩:=hI;show round (ai TP { Γ:=vG m,Λ:=_,Τ:=fun _=>none } d) _ _ _ _ (Rk i n pl hs (Zj z w h x y 0 nd cl xs ts rs us es ks ns cs ls L) (nd.getD 2 0+a)) k
  rw [aac]; delta Maa Mab Mac Mad Mae Maf Mag Mah Mai Maj Mak Mal Mam Man Mao Map Maq Mar Mas Mat Mav Max May Maz MaA MaC MaD MaF MaH MaI MaJ MaL MaM MaO MaR MaV MaW MaX MaY MaZ Ma1 Ma2 Ma3 Ma4 Ma5 Ma9 Mba Mbb Mbd Mbe Mbj Mbk Mbl Mbn Mbp Mbu Mbw MbC MbD MbF MbL MbM Mb2 Mb3 Mca Mch Mcp Mcr Mcw Mcy McA McD McE McF McQ McR McS McW McX Mdm Mdp MdC MdE MdP Md0 Md7 Mes MeH MeJ MeK MeL MeM MeN MeO MeP MeQ MeU MeX MeY Me0 Me2 Me9 Mfa Mfb Mfj Mfk Mfm Mft MfC MfD MfM MfN MfW MfX Mf9 Mga MgE Mhh Mhy Mhz MhU Mia MiR Mi3 Mi8 Mi9 MjI Mj5 Mko;rintro j1 rfl j2 rfl j3 rfl t4 e4 t5 rfl t6 rfl t7 rfl t8 rfl t9 rfl t10 rfl t11 rfl t12 rfl t13 rfl t14 rfl t15 rfl t16 rfl t17 rfl t18 rfl t19 rfl t20 rfl t21 rfl t22 rfl t23 rfl t24 rfl t25 e25 t26 e26 t27 e27 t28 e28 t29 e29 t30 e30 t31 e31 t32 e32 t33 e33 t34 e34 t35 e35 t36 e36 t37 e37 t38 e38 t39 e39;rw [hzl] at e37 e38 e39;rw [al];refine ⟨fun hi=>?_,fun hi=>?_⟩
  ·have hi':a < (afS nd ks).length:=by omega
   obtain ⟨g1,g2⟩:=zR hb.1 hi';have T4:t4=(afS nd ks)[a].getD 1 0:=by rw [e4,g1]
   have hid4:=hid _ (zQ (List.getElem_mem hi'));rw [← T4] at hid4;have htl:t4.toNat < xs.length:=by omega
   have p31:t31:=by rw [e31]; omega
   have p33:t33:=by rw [e33]; exact hid4
   have E32:t32 = -1 - t4:=by rw [e32,i64_in _ (by omega)]
   have M0:t34=fr (xs.getD t4.toNat []) 0:=by rw [e34,e25,e26]; rfl
   have M4:t35=fr (xs.getD t4.toNat []) 4:=by rw [e35,e27,e28]; rfl
   have M6:t36=fr (xs.getD t4.toNat []) 6:=by rw [e36,e29,e30]; rfl
   rw [M0,M4,M6] at e37 e38 e39;obtain ⟨_,_,m0,m4,m6,_,_⟩:=hw.2.1 _ (getM htl);rw [wi _ hi'] at hR;rw [show IntKind.i64.wrap (nd.getD 2 0+(a:Int)+1)=nd.getD 2 0+((a+1:Nat):Int) by rw [i64_in _ (by omega)]; omega]
   refine ⟨p31,p31,?_⟩;rw [ah];refine ⟨fun hne=>⟨p33,p33,p33,p33,?_,?_⟩,fun he=>?_⟩
   ·refine ⟨z,xs,ts,rs,us,es,L,i,t32,fr (xs.getD t4.toNat []) 0,fr (xs.getD t4.toNat []) 4,fr (xs.getD t4.toNat []) 6,j2,j3,j1,pl,?_,rfl,hw.1.1,hw.2.1,hib,m0,⟨m4,m6⟩,⟨hpx,hpy⟩,hh,by omega⟩
    rw [e25,e26,e27,e28,e29,e30,show IV.agg [.int .i64 (rd xs t4.toNat 0),.int .u64 (rd xs t4.toNat 1)]=fx (fr (xs.getD t4.toNat []) 0) from (ae6 (cH okr t4.toNat 1 (by decide) rfl) rfl).symm,nv (cH okr t4.toNat 5 (by decide) rfl) (cH okr t4.toNat 7 (by decide) rfl)]
    rfl
   ·have hf:dw (il pl z j1 (xs.getD i.toNat []) xs cs) i (afS nd ks)[a] (L,j2,j3)=((sI t37 L t32,t38,t39),t37):=by
     unfold dw;rw [if_neg (by rw [← T4]; exact hne),← T4,xW hid4.1,E32]
     simp only [e37,e38,e39]
    rw [hf] at hR;rw [ah];refine ⟨fun h7=>?_,fun h7=>?_⟩
    ·rw [if_pos h7] at hR;subst hR;exact hk _ _ (by simp) (hK.1 h7)
    ·rw [if_neg (by simpa using h7)] at hR
     have hmx:ag t38:=by rw [e38]; exact Ae hpx
     have hmy:ag t39:=by rw [e39]; exact Ac hpy
     have hlen2:(sI t37 L t32).length<=ls.length+(a+1):=by
      unfold sI; rw [if_neg (by simpa using h7),List.length_append,List.length_singleton]; omega
     have hgo:=hn (some (sI t37 L t32,t38,t39),a+1) ⟨hi',hlen2,hmx,hmy,hR⟩ (by show (afS nd ks).length - (a+1) < (afS nd ks).length - a; omega)
     rw [h7] at hgo ⊢;exact hgo
   ·have hf:dw (il pl z j1 (xs.getD i.toNat []) xs cs) i (afS nd ks)[a] (L,j2,j3)=((L,j2,j3),0):=by
     unfold dw;rw [if_pos (by rw [← T4]; exact he)]
    rw [hf,if_neg (fun hh=>hh rfl)] at hR
    exact hn (some (L,j2,j3),a+1) ⟨hi',by omega,hpx,hpy,hR⟩ (by show (afS nd ks).length - (a+1) < (afS nd ks).length - a; omega)
  ·have:a=(afS nd ks).length:=by omega
   subst this;rw [List.drop_length] at hR;subst hR;exact hk _ _ (by simp) (hK.2 rfl).2
theorem PC (e:Int) (ls:L2) (c:Int):(sI e ls c).length<=ls.length+1:=by
 unfold sI; split <;> simp
theorem A7 (pl:Bool) (z:L1) (h:Int) (r:L1) (xs cs:L2) (c:Int) (s:L2 × Int × Int):(il pl z h r xs cs c s).1.1.length<=s.1.length+1:=by
 unfold il; split <;> exact PC _ _ _
theorem JL {pl:Bool} {z:L1} {h:Int} {r:L1} {xs cs:L2} (c:Int) (s:L2 × Int × Int) (hs:ag s.2.1/\ag s.2.2):ag (il pl z h r xs cs c s).1.2.1/\ag (il pl z h r xs cs c s).1.2.2:=by
 unfold il; split <;> exact ⟨Ae hs.1,Ac hs.2⟩
theorem agL {α:Type} {f:α->L2 × Int × Int->(L2 × Int × Int) × Int} {g:α->Nat}:∀ (l:List α) (s:L2 × Int × Int),(∀ a∈l,∀ s,(f a s).1.1.length<=s.1.length+g a)->(dF f l s).1.1.length<=s.1.length+(l.map g).sum
 | [],s,h=>by simp [dF]
 | a :: l,s,h=>by
  rw [jr];have h1:=h a (List.mem_cons_self ..) s;simp only [List.map_cons,List.sum_cons];split
  ·omega
  ·have:=agL l (f a s).1 fun b hb=>h b (List.mem_cons_of_mem _ hb)
   omega
theorem FK (ns:L2):∀ l,(l.map (wt ns)).sum=sK ns l
 | []=>rfl
 | n :: l=>by simp only [List.map_cons,List.sum_cons,sK,FK ns l]
theorem B6 {α:Type}:∀ l:List α,(l.map fun _=>1).sum=l.length
 | []=>rfl
 | a :: l=>by simp only [List.map_cons,List.sum_cons,B6 l,List.length_cons]; omega
theorem ym {pl:Bool} {z:L1} {h:Int} {r:L1} {xs cs ns ks:L2} {fe:Nat->Int} {fb:Nat->Bool} {i:Int} (htr:gr ns ks.length):∀ (m n:Nat) (s:L2 × Int × Int),n < ns.length->(jH (il pl z h r xs cs) ns ks fe fb i m n s).1.1.length<=s.1.length+wt ns n
 | 0,n,s,hn=>by simp only [jH]; omega
 | m+1,n,s,hn=>by
  simp only [jH];split
  ·have:=agL (f:=dw (il pl z h r xs cs) i) (g:=fun _=>1) (dX ns ks n) s (fun a _ s=>by unfold dw; split; simp; exact A7 _ _ _ _ _ _ _ _)
   rw [B6,Pn htr hn] at this;exact this
  ·rename_i hlf;have hlf':ot ns n=false:=by simpa using hlf
   split
   ·simp only; omega
   ·split
    ·have h1:=A7 pl z h r xs cs n s;have h2:=(nN htr hn).1;omega
    ·have:=agL (f:=jH (il pl z h r xs cs) ns ks fe fb i m) (g:=wt ns) (gm ns n) s (fun a ha s=>ym htr m a s (vq htr hn a ha).1)
     rw [FK,r9 htr hn hlf'] at this;exact this
theorem Lu {pl:Bool} {z:L1} {h:Int} {xs ks ns cs:L2} {i:Int} {n:Nat} (htr:gr ns ks.length) (hn:n < ns.length) (s:L2 × Int × Int):(uY pl z h xs ks ns cs i n s).1.1.length<=s.1.length+wt ns n:=ym htr _ _ _ hn
theorem Lt {pl:Bool} {z:L1} {h:Int} {xs ks ns cs:L2} {i:Int} {n:Nat} {s:L2 × Int × Int} (hx:ag s.2.1) (hy:ag s.2.2):ag (uY pl z h xs ks ns cs i n s).1.2.1/\ag (uY pl z h xs ks ns cs i n s).1.2.2:=
 tc (P:=fun s:L2 × Int × Int=>ag s.2.1/\ag s.2.2) (vis:=il pl z h (xs.getD i.toNat []) xs cs) (fun c s hs=>JL c s hs) _ _ _ _ _ _ _ _ ⟨hx,hy⟩
def qp (ns:L2) (n:Nat):Nat->Nat->List Nat
 | 0,_=>[]
 | m+1,q=>lN ns n q++qp ns n m (q+1)
theorem Cv (ns:L2) (n:Nat):qp ns n 4 0=gm ns n:=by
 unfold gm;simp only [qp,List.append_nil,Nat.zero_add,Nat.reduceAdd]
def S4o (i:Int) (pl:Bool) (z:L1) (w h px py:Int) (nd:L1) (xs ts rs us es ks ns cs ls:L2):Option (L2 × Int × Int × Int) × Nat->St
 | (none,q)=>Vx i pl (Zk z w h px py nd xs ts rs us es ks ns cs ls) q
 | (some (L,x,y,e),q)=>Vx i pl (kr z w h x y e nd xs ts rs us es ks ns cs ls L) q
def I4o (ns:L2) (n:Nat) (f:Nat->L2 × Int × Int->(L2 × Int × Int) × Int) (ls:L2) (px py:Int) (R:(L2 × Int × Int) × Int):Option (L2 × Int × Int × Int) × Nat->Prop
 | (none,q)=>q<=4/\ls.length+sK ns (qp ns n (4 - q) q)<=2000/\dF f (qp ns n (4 - q) q) (ls,px,py)=R
 | (some (L,x,y,e),q)=>q<=4/\(e=0->ag x/\ag y/\L.length+sK ns (qp ns n (4 - q) q)<=2000/\dF f (qp ns n (4 - q) q) (L,x,y)=R)/\(e≠0->R.2=e/\L=[]/\x=0/\y=0)
set_option maxHeartbeats 1000000 in
theorem lK4 (m d n0:Nat):aG (ai TP (VA m) d) ar n0 3 (lp TP ar 3) (LK4 m):=by
 intro st K hst;obtain ⟨i,n,pl,z,w,h,px,py,nd,xs,ts,rs,us,es,ks,ns,cs,ls,⟨hw,hh,⟨hpx0,hpy0⟩,hib,hnl,hnd,hlf,hlv,hwt,hxl,rfl,rfl⟩,R,hR0,hK1,hK2⟩:=hst;have htr:=hw.2.1;have hzl:([z.getD 0 0,z.getD 1 0,z.getD 2 0,z.getD 3 0,z.getD 4 0,z.getD 5 0,z.getD 6 0,z.getD 7 0,z.getD 8 0,z.getD 9 0,z.getD 10 0,z.getD 11 0,z.getD 12 0,z.getD 13 0,z.getD 14 0,z.getD 15 0,z.getD 16 0,z.getD 17 0,z.getD 18 0]:L1)=z:=lZ hw.1.1.1.1.1;have hkw:=r9 htr hnl hlf;refine aC (S4o i pl z w h px py nd xs ts rs us es ks ns cs ls) (I4o ns n (uY pl z h xs ks ns cs i) ls px py R) (fun p=>4 - p.2) ?_ (a:=(none,0)) ⟨Nat.zero_le _,by rw [show 4 - 0=4 from rfl,Cv,hkw]; exact hwt,by rw [show 4 - 0=4 from rfl,Cv]; exact hR0.symm⟩
 rintro ⟨_ | ⟨L,x,y,e⟩,q⟩ hI k hn hk
 ·obtain ⟨hq,hws,hR⟩:=hI;have hpx:=hpx0;have hpy:=hpy0;show round (ai TP { Γ:=vG m,Λ:=_,Τ:=fun _=>none } d) _ _ _ _ (Vx i pl (Zk z w h px py nd xs ts rs us es ks ns cs ls) q) k
  rw [aab]; delta Maa Mab Mac Mad Mae Maf Mag Mah Mai Maj Mak Mal Mam Mao Map Maq Mar Mav Max May Maz MaA MaC MaD MaF MaH MaL MaM MaO MaR MaV MaW MaX MaY MaZ Ma2 Ma4 Ma5 Ma9 Mbb Mbd Mbe Mbf Mbg Mbj Mbl Mbn Mbu Mbw MbC MbF MbL MbN MbQ Mb3 Mb4 Mb7 Mca Mcc Mcd Mcn Mcp Mcr Mcw McD McE McF McW Mdp MdE MdF MdM Md0 Mes MeH MeJ MeK MeL MeM MeN MeO MeP MeQ Me0 Me2 Me9 Mfa Mfb Mfm Mft MfC MfD MfW MfX Mf9 Mga Mgg MgX Mhh Mhy Mhz MhU Mh1 Mh3 Mia MiL Mi9 Mja Mjp MjZ Mj8;rintro j1 rfl j2 rfl j3 rfl t4 rfl t5 rfl t6 rfl t7 rfl t8 rfl t9 rfl t10 rfl t11 rfl t12 rfl t13 rfl t14 rfl t15 rfl t16 rfl t17 rfl t18 rfl t19 rfl t20 rfl t21 rfl t22 rfl t23 rfl t24 rfl t25 rfl t26 rfl t27 e27 t28 e28 t29 e29 t30 e30 t31 e31;rw [hzl] at e30 e31 ⊢;rw [al];refine ⟨fun hi=>?_,fun hi=>?_⟩
  ·have hi':q < 4:=by omega
   have p27:t27:=by rw [e27]; omega
   have p28:t28:=by rw [e28]; omega
   rw [Mq _ _ _ _ hi' nd ⟨rfl,rfl,rfl,rfl⟩,hnd] at e29;change t29=rd ns n (4+q) at e29;rw [show IntKind.i64.wrap ((q:Int)+1)=((q+1:Nat):Int) by rw [i64_in _ (by omega)]; rfl]
   refine ⟨p27,p28,?_⟩;rw [al];refine ⟨fun hk0=>⟨p27,p28,?_⟩,fun hk0=>?_⟩
   ·skip
    have hk1:t29.toNat=(rd ns n (4+q)).toNat:=by rw [e29]
    have hkq:qp ns n (4 - q) q=t29.toNat :: qp ns n (4 - (q+1)) (q+1):=by
     rw [show 4 - q=(4 - (q+1))+1 by omega]
     show lN ns n q++_=_;unfold lN;rw [if_pos (by rw [← e29]; exact hk0),hk1]
     rfl
    have hkid:t29.toNat < ns.length/\lv ns t29.toNat=lv ns n+1:=pD htr hnl hi' t29.toNat (by unfold lN; rw [if_pos (by rw [← e29]; exact hk0),hk1]; exact List.mem_singleton.2 rfl)
    rw [hkq] at hR hws;simp only [sK] at hws;rw [jr] at hR;have hlq:uY pl z j1 xs ks ns cs i t29.toNat (ls,j2,j3)=uY pl z j1 xs ks ns cs i t29.toNat (ls,j2,j3):=rfl;have hl2:=Lu (pl:=pl) (z:=z) (h:=j1) (xs:=xs) (ks:=ks) (ns:=ns) (cs:=cs) (i:=i) htr hkid.1 (ls,j2,j3);have hm2:=Lt (pl:=pl) (z:=z) (h:=j1) (xs:=xs) (ks:=ks) (ns:=ns) (cs:=cs) (i:=i) (n:=t29.toNat) (s:=(ls,j2,j3)) hpx hpy;simp only at hl2;refine ⟨⟨z,w,xs,ts,rs,us,es,ks,ns,cs,ls,i,t29,j2,j3,j1,pl,rfl,rfl,hw,hib,⟨hk0,by omega⟩,by omega,⟨hpx,hpy⟩,hh,by omega,hxl⟩,?_⟩
    rw [e30,e31];refine hn (some (AU pl z j1 xs ks ns cs i t29.toNat ls j2 j3,xK pl z j1 xs ks ns cs i t29.toNat ls j2 j3,xJ pl z j1 xs ks ns cs i t29.toNat ls j2 j3,xx pl z j1 xs ks ns cs i t29.toNat ls j2 j3),q+1) ⟨hi',?_,?_⟩ (by show 4 - (q+1) < 4 - q; omega)
    ·intro hE;have hE':¬ (uY pl z j1 xs ks ns cs i t29.toNat (ls,j2,j3)).2≠0:=fun hh=>hh hE
     rw [if_neg hE'] at hR;unfold xK xJ AU;rw [if_neg (fun hh=>hh hE),if_neg (fun hh=>hh hE),if_neg (fun hh=>hh hE)]
     exact ⟨hm2.1,hm2.2,by omega,hR⟩
    ·intro hE;have hE':(uY pl z j1 xs ks ns cs i t29.toNat (ls,j2,j3)).2≠0:=hE;rw [if_pos hE'] at hR;unfold xK xJ AU;rw [if_pos hE,if_pos hE,if_pos hE,← hR];exact ⟨rfl,rfl,rfl,rfl⟩
   ·have hkq:qp ns n (4 - q) q=qp ns n (4 - (q+1)) (q+1):=by
     rw [show 4 - q=(4 - (q+1))+1 by omega]
     show lN ns n q++_=_;unfold lN;rw [if_neg (by rw [← e29]; exact hk0)]
     rfl
    rw [hkq] at hR hws;exact hn (none,q+1) ⟨hi',hws,hR⟩ (by show 4 - (q+1) < 4 - q; omega)
  ·have:q=4:=by omega
   subst this;exact hk _ _ (by simp) (hK1 hR.symm)
 ·obtain ⟨hq,h0,h1⟩:=hI;show round (ai TP { Γ:=vG m,Λ:=_,Τ:=fun _=>none } d) _ _ _ _ (Vx i pl (kr z w h x y e nd xs ts rs us es ks ns cs ls L) q) k
  rw [aaa]; delta Maa Mab Mac Mad Mae Maf Mag Mah Mai Maj Mak Mal Mam Mao Map Maq Mar Mav Max May Maz MaA MaC MaD MaF MaH MaL MaM MaO MaR MaV MaW MaX MaY MaZ Ma2 Ma4 Ma5 Ma9 Mbd Mbe Mbf Mbg Mbj Mbl Mbn Mbu Mbw MbC MbF MbL MbN MbQ Mb3 Mb4 Mb7 Mca Mcc Mcd Mci Mcn Mcp Mcr Mcw McD McE McF McW MdE MdF MdM Md0 Mes MeH MeJ MeK MeL MeM MeN MeO MeP MeQ Me0 Me9 Mfa Mfb Mfm Mft MfC MfD MfW MfX Mf9 Mga Mgg MgX Mhh Mhz MhU Mh1 Mia MiL Mja MjZ Mj8;rintro j1 rfl j2 rfl j3 rfl t4 rfl t5 rfl t6 rfl t7 rfl t8 rfl t9 rfl t10 rfl t11 rfl t12 rfl t13 rfl t14 rfl t15 rfl t16 rfl t17 rfl t18 rfl t19 rfl t20 rfl t21 rfl t22 rfl t23 rfl t24 rfl t25 rfl t26 rfl t27 e27 t28 e28 t29 e29 t30 e30 t31 e31 t32 e32;rw [hzl] at e30 e31 ⊢;have fin:(e=0->((L,j2,j3),(0:Int))=R)->t32:=by
   intro hfin;rw [e32];refine hk _ _ (by simp) ?_
   by_cases he:e=0
   ·have hr:=hfin he;rw [← hr] at hK2;rw [he];exact hK2
   ·obtain ⟨r1,r2,r3,r4⟩:=h1 he;rw [r1] at hK2;unfold JF bq at hK2;rw [if_pos he,if_pos he,if_pos he] at hK2;rw [r2,r3,r4];exact hK2
  rw [al];refine ⟨fun hi=>?_,fun hi=>?_⟩
  ·have hi':q < 4:=by omega
   have p27:t27:=by rw [e27]; omega
   have p28:t28:=by rw [e28]; omega
   rw [Mq _ _ _ _ hi' nd ⟨rfl,rfl,rfl,rfl⟩,hnd] at e29;change t29=rd ns n (4+q) at e29;rw [show IntKind.i64.wrap ((q:Int)+1)=((q+1:Nat):Int) by rw [i64_in _ (by omega)]; rfl]
   rw [dp];refine ⟨fun he=>⟨p27,p28,?_⟩,fun he=>fin fun hh=>absurd hh he⟩
   obtain ⟨hpx,hpy,hws,hR⟩:=h0 he;rw [he];rw [al];refine ⟨fun hk0=>⟨p27,p28,?_⟩,fun hk0=>?_⟩
   ·skip
    have hk1:t29.toNat=(rd ns n (4+q)).toNat:=by rw [e29]
    have hkq:qp ns n (4 - q) q=t29.toNat :: qp ns n (4 - (q+1)) (q+1):=by
     rw [show 4 - q=(4 - (q+1))+1 by omega]
     show lN ns n q++_=_;unfold lN;rw [if_pos (by rw [← e29]; exact hk0),hk1]
     rfl
    have hkid:t29.toNat < ns.length/\lv ns t29.toNat=lv ns n+1:=pD htr hnl hi' t29.toNat (by unfold lN; rw [if_pos (by rw [← e29]; exact hk0),hk1]; exact List.mem_singleton.2 rfl)
    rw [hkq] at hR hws;simp only [sK] at hws;rw [jr] at hR;have hlq:uY pl z j1 xs ks ns cs i t29.toNat (L,j2,j3)=uY pl z j1 xs ks ns cs i t29.toNat (L,j2,j3):=rfl;have hl2:=Lu (pl:=pl) (z:=z) (h:=j1) (xs:=xs) (ks:=ks) (ns:=ns) (cs:=cs) (i:=i) htr hkid.1 (L,j2,j3);have hm2:=Lt (pl:=pl) (z:=z) (h:=j1) (xs:=xs) (ks:=ks) (ns:=ns) (cs:=cs) (i:=i) (n:=t29.toNat) (s:=(L,j2,j3)) hpx hpy;simp only at hl2;refine ⟨⟨z,w,xs,ts,rs,us,es,ks,ns,cs,L,i,t29,j2,j3,j1,pl,rfl,rfl,hw,hib,⟨hk0,by omega⟩,by omega,⟨hpx,hpy⟩,hh,by omega,hxl⟩,?_⟩
    rw [e30,e31];refine hn (some (AU pl z j1 xs ks ns cs i t29.toNat L j2 j3,xK pl z j1 xs ks ns cs i t29.toNat L j2 j3,xJ pl z j1 xs ks ns cs i t29.toNat L j2 j3,xx pl z j1 xs ks ns cs i t29.toNat L j2 j3),q+1) ⟨hi',?_,?_⟩ (by show 4 - (q+1) < 4 - q; omega)
    ·intro hE;have hE':¬ (uY pl z j1 xs ks ns cs i t29.toNat (L,j2,j3)).2≠0:=fun hh=>hh hE
     rw [if_neg hE'] at hR;unfold xK xJ AU;rw [if_neg (fun hh=>hh hE),if_neg (fun hh=>hh hE),if_neg (fun hh=>hh hE)]
     exact ⟨hm2.1,hm2.2,by omega,hR⟩
    ·intro hE;have hE':(uY pl z j1 xs ks ns cs i t29.toNat (L,j2,j3)).2≠0:=hE;rw [if_pos hE'] at hR;unfold xK xJ AU;rw [if_pos hE,if_pos hE,if_pos hE,← hR];exact ⟨rfl,rfl,rfl,rfl⟩
   ·have hkq:qp ns n (4 - q) q=qp ns n (4 - (q+1)) (q+1):=by
     rw [show 4 - q=(4 - (q+1))+1 by omega]
     show lN ns n q++_=_;unfold lN;rw [if_neg (by rw [← e29]; exact hk0)]
     rfl
    rw [hkq] at hR hws;exact hn (some (L,j2,j3,0),q+1) ⟨hi',fun _=>⟨hpx,hpy,hws,hR⟩,fun hh=>absurd rfl hh⟩ (by show 4 - (q+1) < 4 - q; omega)
  ·have:q=4:=by omega
   subst this;refine fin fun he=>?_
   exact (h0 he).2.2.2
theorem Up {m:Nat} {z:L1} {xs ts rs us es ks ns cs ls:L2} {w i n px py h:Int} {pl:Bool} (hz:z.length=19):
  (Ku m).F [IV.agg (af z 0 1 2 3 4),.agg [.sl 5,.sl 6,.sl 7,.int .i64 w],.int .i64 i,.int .i64 n,ct 8 px py 0,fx h,.bool pl] (aH xs ts rs us es++[.ro [.u64,.i64] ks,.ro kQ ns,.ro fG cs,.ro [.i64] ls]) =
  (ct 0 (xK pl z h xs ks ns cs i n.toNat ls px py) (xJ pl z h xs ks ns cs i n.toNat ls px py) (xx pl z h xs ks ns cs i n.toNat ls px py),[.ro [.i64] (AU pl z h xs ks ns cs i n.toNat ls px py)]):=by
 have e1:du [IV.agg (af z 0 1 2 3 4),.agg [.sl 5,.sl 6,.sl 7,.int .i64 w],.int .i64 i,.int .i64 n,ct 8 px py 0,fx h,.bool pl]=z:=sJ _ z hz rfl;have e2:v2 [IV.agg (af z 0 1 2 3 4),.agg [.sl 5,.sl 6,.sl 7,.int .i64 w],.int .i64 i,.int .i64 n,ct 8 px py 0,fx h,.bool pl] 5=h:=bc _ h 5 rfl;have e5:ae [IV.agg (af z 0 1 2 3 4),.agg [.sl 5,.sl 6,.sl 7,.int .i64 w],.int .i64 i,.int .i64 n,ct 8 px py 0,fx h,.bool pl] 4 1*18446744073709551616+ae [IV.agg (af z 0 1 2 3 4),.agg [.sl 5,.sl 6,.sl 7,.int .i64 w],.int .i64 i,.int .i64 n,ct 8 px py 0,fx h,.bool pl] 4 2=px:=by rw [show ae [IV.agg (af z 0 1 2 3 4),.agg [.sl 5,.sl 6,.sl 7,.int .i64 w],.int .i64 i,.int .i64 n,ct 8 px py 0,fx h,.bool pl] 4 1=px / 18446744073709551616 from rfl,show ae [IV.agg (af z 0 1 2 3 4),.agg [.sl 5,.sl 6,.sl 7,.int .i64 w],.int .i64 i,.int .i64 n,ct 8 px py 0,fx h,.bool pl] 4 2=px % 18446744073709551616 from rfl]; exact kS px
 have e6:ae [IV.agg (af z 0 1 2 3 4),.agg [.sl 5,.sl 6,.sl 7,.int .i64 w],.int .i64 i,.int .i64 n,ct 8 px py 0,fx h,.bool pl] 4 3*18446744073709551616+ae [IV.agg (af z 0 1 2 3 4),.agg [.sl 5,.sl 6,.sl 7,.int .i64 w],.int .i64 i,.int .i64 n,ct 8 px py 0,fx h,.bool pl] 4 4=py:=by rw [show ae [IV.agg (af z 0 1 2 3 4),.agg [.sl 5,.sl 6,.sl 7,.int .i64 w],.int .i64 i,.int .i64 n,ct 8 px py 0,fx h,.bool pl] 4 3=py / 18446744073709551616 from rfl,show ae [IV.agg (af z 0 1 2 3 4),.agg [.sl 5,.sl 6,.sl 7,.int .i64 w],.int .i64 i,.int .i64 n,ct 8 px py 0,fx h,.bool pl] 4 4=py % 18446744073709551616 from rfl]; exact kS py
 show (fun (z':L1) (h' p q:Int)=>((ct 0 (xK pl z' h' xs ks ns cs i n.toNat ls p q) (xJ pl z' h' xs ks ns cs i n.toNat ls p q) (xx pl z' h' xs ks ns cs i n.toNat ls p q),[aq.ro [.i64] (AU pl z' h' xs ks ns cs i n.toNat ls p q)]):IV × List aq))
  (du [IV.agg (af z 0 1 2 3 4),.agg [.sl 5,.sl 6,.sl 7,.int .i64 w],.int .i64 i,.int .i64 n,ct 8 px py 0,fx h,.bool pl]) (v2 [IV.agg (af z 0 1 2 3 4),.agg [.sl 5,.sl 6,.sl 7,.int .i64 w],.int .i64 i,.int .i64 n,ct 8 px py 0,fx h,.bool pl] 5) (ae [IV.agg (af z 0 1 2 3 4),.agg [.sl 5,.sl 6,.sl 7,.int .i64 w],.int .i64 i,.int .i64 n,ct 8 px py 0,fx h,.bool pl] 4 1*18446744073709551616+ae [IV.agg (af z 0 1 2 3 4),.agg [.sl 5,.sl 6,.sl 7,.int .i64 w],.int .i64 i,.int .i64 n,ct 8 px py 0,fx h,.bool pl] 4 2) (ae [IV.agg (af z 0 1 2 3 4),.agg [.sl 5,.sl 6,.sl 7,.int .i64 w],.int .i64 i,.int .i64 n,ct 8 px py 0,fx h,.bool pl] 4 3*18446744073709551616+ae [IV.agg (af z 0 1 2 3 4),.agg [.sl 5,.sl 6,.sl 7,.int .i64 w],.int .i64 i,.int .i64 n,ct 8 px py 0,fx h,.bool pl] 4 4)=_
 rw [e1,e2,e5,e6]
theorem P3 {m:Nat} (ih:aa TP ar (Ku m)):KnowOk TP (VA m) 3:=by
 refine ⟨mixedOrders,fun g sp h=>ao SG (ao ih E9) h,?_,fun g G h=>(by cases h),fun f h=>(by cases h)⟩
 intro d' _ f i S n0 hS;simp only [VA] at hS;split at hS
 ·rename_i hf; subst hf;split at hS
  ·rename_i hi; subst hi; cases hS; exact lK1 m d' n0
  split at hS
  ·rename_i hi; subst hi; cases hS; exact lK2 m d' n0
  split at hS
  ·rename_i hi; subst hi; cases hS; exact lK3 m d' n0
  split at hS
  ·rename_i hi; subst hi; cases hS; exact lK4 m d' n0
  ·cases hS
 ·cases hS
theorem JN {pl:Bool} {z:L1} {h:Int} {r:L1} {xs cs:L2} {c:Int} {s:L2 × Int × Int} (he:(il pl z h r xs cs c s).2≠0):(il pl z h r xs cs c s).1=([],0,0):=by
 unfold il at he ⊢;split at he
 ·rename_i h0;rw [if_pos h0];simp only at he ⊢;unfold sI xI xH;rw [if_pos he,if_pos he,if_pos he]
 ·rename_i h0;rw [if_neg h0];simp only at he ⊢;unfold sI xI xH;rw [if_pos he,if_pos he,if_pos he]
theorem B9 {pl:Bool} {z:L1} {h:Int} {r:L1} {xs cs:L2} {i:Int}:∀ (ys:L2) (s:L2 × Int × Int),(dF (dw (il pl z h r xs cs) i) ys s).2≠0->(dF (dw (il pl z h r xs cs) i) ys s).1=([],0,0)
 | [],s,he=>absurd rfl he
 | y :: ys,s,he=>by
  rw [jr] at he ⊢;split at he
  ·rename_i h1;rw [if_pos h1];unfold dw at h1 ⊢;split at h1
   ·exact absurd rfl h1
   ·rename_i h2;rw [if_neg h2];exact JN h1
  ·rename_i h1;rw [if_neg h1];exact B9 ys _ he
set_option maxHeartbeats 2000000 in
theorem M9:∀ m,aa TP ar (Ku m)
 | 0=>by
  refine afC 3 LC ?_;intro l bs _ _ hp;obtain ⟨z,w,xs,ts,rs,us,es,ks,ns,cs,ls,i,n,px,py,h,pl,_,_,hw,_,hn,hm,_⟩:=hp;have:=(nN hw.2.1 (n:=n.toNat) (by omega)).2.2
  omega
 | m+1=>by
  refine afC 3 (P3 (M9 m)) ?_;intro l bs _ _ hp;obtain ⟨z,w,xs,ts,rs,us,es,ks,ns,cs,ls,i,n',px,py,h,pl,hl1,hl2,hw,hib,hn',hlv,hpp,hh,hlw,hxl⟩:=hp;obtain ⟨hpx,hpy⟩:=hpp;subst hl1 hl2;rw [Up hw.1.1.1.1.1];obtain ⟨n,rfl⟩:∃n:Nat,n' = (n:Int):=⟨n'.toNat,by omega⟩
  rw [show ((n:Nat):Int).toNat=n by omega] at hlv hlw ⊢
  have hnl:n < ns.length:=by omega
  have htr:=hw.2.1;have hzl:([z.getD 0 0,z.getD 1 0,z.getD 2 0,z.getD 3 0,z.getD 4 0,z.getD 5 0,z.getD 6 0,z.getD 7 0,z.getD 8 0,z.getD 9 0,z.getD 10 0,z.getD 11 0,z.getD 12 0,z.getD 13 0,z.getD 14 0,z.getD 15 0,z.getD 16 0,z.getD 17 0,z.getD 18 0]:L1)=z:=lZ hw.1.1.1.1.1;have hlk:=Cl htr (il pl z h (xs.getD i.toNat []) xs cs) ks (fun n=>yE z xs cs n i.toNat) (fun n=>E4 z xs cs n i.toNat) i hnl (ls,px,py)
  change uY pl z h xs ks ns cs i n (ls,px,py)=_ at hlk;obtain ⟨⟨b1,b2,b3,_⟩,_⟩:=htr n hnl;have hq:0<=(ns.getD n []).getD 2 0/\(ns.getD n []).getD 2 0<=(ns.getD n []).getD 3 0/\(ns.getD n []).getD 3 0<=ks.length:=⟨b1,Int.le_of_lt b3,b2⟩;have ok:∀ {R:(L2 × Int × Int) × Int},uY pl z h xs ks ns cs i n (ls,px,py)=R->R.2=0->(ct 0 (xK pl z h xs ks ns cs i n ls px py) (xJ pl z h xs ks ns cs i n ls px py) (xx pl z h xs ks ns cs i n ls px py),[aq.ro [.i64] (AU pl z h xs ks ns cs i n ls px py)])=(ct 0 R.1.2.1 R.1.2.2 R.2,[aq.ro [.i64] R.1.1]):=by
   intro R hR h0;have hE:xx pl z h xs ks ns cs i n ls px py=0:=by unfold xx; rw [hR,h0]
   unfold xK xJ AU;rw [hE,if_neg (fun hh=>hh rfl),if_neg (fun hh=>hh rfl),if_neg (fun hh=>hh rfl),hR,h0]
  have bad:∀ {R:(L2 × Int × Int) × Int},uY pl z h xs ks ns cs i n (ls,px,py)=R->R.2≠0->(ct 0 (xK pl z h xs ks ns cs i n ls px py) (xJ pl z h xs ks ns cs i n ls px py) (xx pl z h xs ks ns cs i n ls px py),[aq.ro [.i64] (AU pl z h xs ks ns cs i n ls px py)])=(IV.agg [.sl 0,.int .i64 0,.int .u64 0,.int .i64 0,.int .u64 0,.int .i64 R.2],[aq.ro [.i64] []]):=by
   intro R hR h0;have hE:xx pl z h xs ks ns cs i n ls px py=R.2:=by unfold xx; rw [hR]
   unfold xK xJ AU;rw [hE,if_pos h0,if_pos h0,if_pos h0]
   rfl
  have zz:∀ e:Int,(ct 0 0 0 e,[aq.ro [IntKind.i64] []])=(IV.agg [.sl 0,.int .i64 0,.int .u64 0,.int .i64 0,.int .u64 0,.int .i64 e],[aq.ro [IntKind.i64] []]):=fun e=>rfl
  rw [Tj]; delta Maa Mab Mac Mad Mae Maf Mag Mai Maj Mak Mal Mam Man Mao Map Maq Mar Mas Mat Mav Max May Maz MaA MaD MaF MaH MaI MaL MaM MaO MaR MaU MaV MaW MaX MaY MaZ Ma1 Ma2 Ma3 Ma4 Ma5 Ma9 Mba Mbb Mbd Mbe Mbj Mbl Mbn Mbp Mbu Mbw Mbx Mby MbA MbE MbH MbI MbL MbM MbN Mb2 Mb3 Mb4 Mca Mcb Mch Mcp Mcv Mcw McA McU McX Mc8 Mdc Mdg Mdj Mdo Mdp Mdq MdC MdE MdF MdR MdS MdV MdY Md0 Md1 Md6 Mes Meu MeB MeE MeH MeJ MeK MeL MeM MeN MeO MeP MeQ MeU MeV Me0 Me9 Mfa Mfb Mfj Mfk Mfm Mfo Mft Mfv MfC MfD MfH MfM MfN MfU MfW MfX Mf9 Mga Mgg Mgk Mgn MgS Mhh Mhy Mhz MhQ MhU Mh3 MiL MiW Mi3 Mi8 Mi9 Mjp Mjq Mjr Mju MjF Mj5 Mko;have okr:aI aM xs:=fun r hr=>(hw.1.2.1 r hr).2.1
  have hil:i.toNat < xs.length:=by omega
  have hnc:n < cs.length:=by rw [hw.2.2.2.2.2]; exact hnl
  obtain ⟨_,_,m0,m4,m6,_,_⟩:=hw.1.2.1 _ (getM hil);obtain ⟨c0,c2,c4,c6⟩:=hw.1.2.2.1 _ (getM hnc);have hok:=hw.1.2.2.2;rintro j1 rfl j2 rfl j3 rfl t4 e4 j5 rfl t6 e6 j7 rfl t8 e8 j9 rfl t10 e10 j11 rfl t12 e12 t13 rfl t14 rfl t15 rfl t16 rfl t17 rfl t18 rfl t19 rfl t20 rfl t21 rfl t22 rfl t23 rfl t24 rfl t25 rfl t26 rfl t27 rfl t28 rfl t29 rfl t30 rfl t31 rfl t32 rfl t33 rfl t34 rfl t35 rfl t36 rfl t37 rfl t38 rfl t39 rfl t40 rfl t41 rfl t42 rfl t43 rfl t44 rfl t45 rfl t46 rfl t47 rfl t48 rfl t49 rfl t50 e50 t51 e51 t52 e52 t53 rfl t54 rfl t55 rfl t56 e56 t57 e57 t58 e58 t59 e59 t60 e60 t61 e61;rw [hzl] at e59 e60 e61;change j5=n2 (E3 xs cs n i.toNat) (E2 xs cs n i.toNat) (E3 xs cs n i.toNat) at e4;change j7=n2 (E3 xs cs n i.toNat) (E2 xs cs n i.toNat) (E2 xs cs n i.toNat) at e6;change j11=aep (az (fr z 7) j9) at e10;change t56=cb (fr (cs.getD n []) 6) j11 at e56;change t57=bG (az (fr z 7) j9) at e57;change t58=e2 (E3 xs cs n i.toNat) (E2 xs cs n i.toNat) at e58;change t59=xI pl z j1 (xs.getD i.toNat []) (fr (cs.getD n []) 0) (fr (cs.getD n []) 2) (fr (cs.getD n []) 4) j2 j3 at e59;change t60=xH pl z j1 (xs.getD i.toNat []) (fr (cs.getD n []) 0) (fr (cs.getD n []) 2) (fr (cs.getD n []) 4) j2 j3 at e60;change t61=uW pl z j1 (xs.getD i.toNat []) (fr (cs.getD n []) 0) (fr (cs.getD n []) 2) (fr (cs.getD n []) 4) j2 j3 at e61;have p50:t50:=by rw [e50]; exact hib
  have p51:t51:=by rw [e51]; omega
  have p52:t52:=by rw [e52]; omega
  have kids:uY pl z j1 xs ks ns cs i n (ls,j2,j3)=dF (uY pl z j1 xs ks ns cs i) (gm ns n) (ls,j2,j3)->
   (tl pl z j1 xs ks ns cs i (gm ns n) ls j2 j3=((ls,j2,j3),0)->(ct 0 (xK pl z j1 xs ks ns cs i n ls j2 j3) (xJ pl z j1 xs ks ns cs i n ls j2 j3) (xx pl z j1 xs ks ns cs i n ls j2 j3),[aq.ro [.i64] (AU pl z j1 xs ks ns cs i n ls j2 j3)])=(ct 0 j2 j3 0,[aq.ro [.i64] ls]))/\
   (ct 0 (xK pl z j1 xs ks ns cs i n ls j2 j3) (xJ pl z j1 xs ks ns cs i n ls j2 j3) (xx pl z j1 xs ks ns cs i n ls j2 j3),[aq.ro [.i64] (AU pl z j1 xs ks ns cs i n ls j2 j3)])=(ct 0 (JF (tl pl z j1 xs ks ns cs i (gm ns n) ls j2 j3).2 (tl pl z j1 xs ks ns cs i (gm ns n) ls j2 j3).1.2.1) (JF (tl pl z j1 xs ks ns cs i (gm ns n) ls j2 j3).2 (tl pl z j1 xs ks ns cs i (gm ns n) ls j2 j3).1.2.2) (tl pl z j1 xs ks ns cs i (gm ns n) ls j2 j3).2,[aq.ro [.i64] (bq (tl pl z j1 xs ks ns cs i (gm ns n) ls j2 j3).2 (tl pl z j1 xs ks ns cs i (gm ns n) ls j2 j3).1.1)]):=by
   intro he;change uY pl z j1 xs ks ns cs i n (ls,j2,j3)=tl pl z j1 xs ks ns cs i (gm ns n) ls j2 j3 at he;refine ⟨fun hun=>?_,?_⟩
   ·rw [hun] at he;exact ok he rfl
   ·by_cases h0:(tl pl z j1 xs ks ns cs i (gm ns n) ls j2 j3).2=0
    ·rw [ok he h0];unfold JF bq;rw [h0,if_neg (fun hh=>hh rfl),if_neg (fun hh=>hh rfl),if_neg (fun hh=>hh rfl)]
    ·rw [bad he h0];unfold JF bq;rw [if_pos h0,if_pos h0,if_pos h0]
     rfl
  have hcon:ll (List.drop (rd ns n 2).toNat (List.take (rd ns n 3).toNat ks)) i=hasB ns ks n i:=rfl;have hlf4:Us (rd ns n 4) (rd ns n 5) (rd ns n 6) (rd ns n 7)=ot ns n:=rfl;rw [show ((n:Nat):Int).toNat=n from rfl]
  refine ⟨p51,p51,p52,p52,⟨i,n,pl,z,w,j1,j2,j3,ns.getD n [],cs.getD n [],xs,ts,rs,us,es,ks,ns,cs,ls,rfl,rfl⟩,⟨i,n,pl,_,z,w,j1,j2,j3,ns.getD n [],cs.getD n [],xs,ts,rs,us,es,ks,ns,cs,ls,hq,hw.2.2.2.1,rfl,rfl⟩,?_⟩;rw [hlf4,hcon,aL];refine ⟨fun hlf=>?_,fun hlf=>?_⟩
  ·rw [if_pos hlf] at hlk;have hlk':uY pl z j1 xs ks ns cs i n (ls,j2,j3)=PS pl z j1 xs cs (afS (ns.getD n []) ks) i ls j2 j3:=hlk;refine ⟨i,n,pl,_,z,w,j1,j2,j3,ns.getD n [],cs.getD n [],xs,ts,rs,us,es,ks,ns,cs,ls,⟨⟨hw.1,hh,⟨hpx,hpy⟩,hib,hw.2.2.1,hw.2.2.2.1,hq,by omega,hxl⟩,rfl,rfl⟩,_,rfl,?_⟩
   rw [ah];refine ⟨fun hne=>?_,fun h0=>⟨fun hun=>?_,?_⟩⟩
   ·rw [bad hlk' hne];have hz:=B9 (pl:=pl) (z:=z) (h:=j1) (r:=xs.getD i.toNat []) (xs:=xs) (cs:=cs) (i:=i) (afS (ns.getD n []) ks) (ls,j2,j3) hne;change (PS pl z j1 xs cs (afS (ns.getD n []) ks) i ls j2 j3).1=([],0,0) at hz;rw [hz]
    rfl
   ·rw [hun] at hlk';rw [ok hlk' rfl]
    rfl
   ·rw [ok hlk' h0,h0]
    rfl
  ·rw [if_neg (by rw [hlf]; decide)] at hlk
   rw [aL];refine ⟨fun hno=>?_,fun hyes=>?_⟩
   ·have hno':hasB ns ks n i=false:=by simpa using hno
    rw [hno'] at hlk;refine ⟨p50,p50,?_,?_⟩
    ·rw [nv (Ju hok n 3 (by decide) rfl) (Ju hok n 5 (by decide) rfl),nv (cH okr _ 5 (by decide) rfl) (cH okr _ 7 (by decide) rfl)]
     exact en c2 c4 m4 m6
    have fd:∀ {e:Int},e≠0->yE z xs cs n i.toNat=e->(ct 0 (xK pl z j1 xs ks ns cs i n ls j2 j3) (xJ pl z j1 xs ks ns cs i n ls j2 j3) (xx pl z j1 xs ks ns cs i n ls j2 j3),[aq.ro [.i64] (AU pl z j1 xs ks ns cs i n ls j2 j3)])=(IV.agg [.sl 0,.int .i64 0,.int .u64 0,.int .i64 0,.int .u64 0,.int .i64 e],[aq.ro [.i64] []]):=by
     rintro e he rfl;rw [if_pos ⟨rfl,he⟩] at hlk;exact bad hlk he
    rw [ah];refine ⟨fun hne=>fd hne (by unfold yE; rw [bI,if_pos (by rw [← e58]; exact hne),e58]),fun h58=>⟨⟨_,_,rfl,rfl,by rw [e4]; exact mP _ _,by rw [e6]; exact mO _ _⟩,?_⟩⟩
    have he':=kj.1 (by rw [← e58]; exact h58)
    have ex:j5=E3 xs cs n i.toNat:=e4.trans (nE _ he'.1 he'.2);have ey:j7=E2 xs cs n i.toNat:=e6.trans (nE _ he'.1 he'.2);rw [ex,ey] at e8 e12;change t12=VQ xs cs n i.toNat at e12;have e10':j11=aep (UX z xs cs n i.toNat):=by rw [e10,e8]; rfl
    have e57':t57=bG (UX z xs cs n i.toNat):=by rw [e57,e8]; rfl
    have n58:¬ e2 (E3 xs cs n i.toNat) (E2 xs cs n i.toNat)≠0:=by rw [← e58]; simpa using h58
    rw [ah];refine ⟨fun hne=>fd hne (by unfold yE; rw [bI,if_neg n58,if_pos (by rw [← e12]; exact hne),e12]),fun h12=>⟨⟨fr z 7,j9,?_,rfl,hw.1.1.2,by rw [e8]; exact Cp _ _⟩,?_⟩⟩
    ·rw [show IV.agg [.int .i64 (z.getD 7 0),.int .u64 (z.getD 8 0)]=fx (fr z 7) from EY hw.1.1.1.1 7 (by decide) rfl]
    have n12:¬ VQ xs cs n i.toNat≠0:=by rw [← e12]; simpa using h12
    rw [ah];refine ⟨fun hne=>fd hne (by unfold yE; rw [bI,if_neg n58,if_neg n12,e57']),fun h57=>⟨?_,?_⟩⟩
    ·have hm:=dI (UX z xs cs n i.toNat);rw [← e10'] at hm;unfold ag at hm;refine ⟨rfl,rfl,⟨hiC hok n 6 (by decide) rfl,Ju hok n 7 (by decide) rfl⟩,?_,?_⟩
     ·show bn (j11 / 18446744073709551616);unfold bn; omega
     ·show aj (j11 % 18446744073709551616);unfold aj; omega
    have hfe:yE z xs cs n i.toNat=0:=by unfold yE; rw [bI,if_neg n58,if_neg n12,← e57',h57]
    have hfb:E4 z xs cs n i.toNat=decide (t56<=0):=by
     unfold E4;rw [e56];rw [Bool.eq_iff_iff,xq,decide_eq_true_eq,nq,e10'];exact ⟨fun h=>h.2.2,fun h=>⟨by rw [← e58]; exact h58,by rw [← e12]; exact h12,h⟩⟩
    rw [if_neg (fun hh=>hh.2 hfe),hfb] at hlk
    rw [al];refine ⟨fun h56=>⟨⟨z,xs,ts,rs,us,es,ls,i,n,fr (cs.getD n []) 0,fr (cs.getD n []) 2,fr (cs.getD n []) 4,j2,j3,j1,pl,?_,rfl,hw.1.1.1,hw.1.2.1,hib,c0,⟨c2,c4⟩,⟨hpx,hpy⟩,hh,by omega⟩,?_⟩,fun h56=>?_⟩
    ·rw [show IV.agg [.int .i64 (rd cs n 0),.int .u64 (rd cs n 1)]=fx (fr (cs.getD n []) 0) from (ae6 (Ju hok n 1 (by decide) rfl) rfl).symm,nv (Ju hok n 3 (by decide) rfl) (Ju hok n 5 (by decide) rfl)]
     rfl
    ·rw [if_pos ⟨rfl,by simpa using h56⟩,JM] at hlk
     simp only at hlk;rw [← e59,← e60,← e61] at hlk;by_cases h61:t61=0
     ·rw [ok hlk h61]
      rfl
     ·rw [bad hlk h61];have z1:t59=0:=by rw [e59]; unfold xI; rw [← e61,if_pos h61]
      have z2:t60=0:=by rw [e60]; unfold xH; rw [← e61,if_pos h61]
      unfold sI;rw [z1,z2,if_pos h61]
      rfl
    ·rw [if_neg (fun hh=>h56 (by simpa using hh.2))] at hlk
     refine ⟨i,n,pl,z,w,j1,j2,j3,ns.getD n [],xs,ts,rs,us,es,ks,ns,cs,ls,⟨hw,hh,⟨hpx,hpy⟩,hib,hnl,rfl,hlf,by omega,hlw,hxl,rfl,rfl⟩,_,rfl,(kids hlk).1,(kids hlk).2⟩
   ·have hyes':hasB ns ks n i=true:=by simpa using hyes
    rw [hyes',if_neg (fun hh=>by cases hh.1),if_neg (fun hh=>by cases hh.1)] at hlk
    exact ⟨i,n,pl,z,w,j1,j2,j3,ns.getD n [],xs,ts,rs,us,es,ks,ns,cs,ls,⟨hw,hh,⟨hpx,hpy⟩,hib,hnl,rfl,hlf,by omega,hlw,hxl,rfl,rfl⟩,_,rfl,(kids hlk).1,(kids hlk).2⟩
end
def JB:FuncId->Option Vs.Spec:=fun g=>if g=agb then some F4 else if g=ar then some (Ku 33) else Hy g
def Zo (z:L1) (w h:Int) (xs ts rs us es ks ns cs out:L2) (i:Int):St:=⟨T 54 [(2,.ptr 5 0),(3,.ptr 6 0),(4,.ptr 7 0),(5,.ptr 8 0),(6,.sl 9),(7,.int .i64 i)],acX xs ts rs us es++[some (.var 34 (af z 0 1 2 3 4)),some (.var 25 (fx h).cells),some (.var 58 [.sl 10,.int .i64 0]),some (.var 66 [.sl 11,.sl 12,.sl 13,.int .i64 w]),some (.row 31 dm out),some (.row 31 dm []),some (.ro [.u64,.i64] ks),some (.ro kQ ns),some (.ro fG cs)]⟩
def MgF (a:L2)(b:aq):OB:=Mad (Mdf a) b []
def Mhv (a:Nat)(b:Int):OB:=Maq 58 (Mbv a b) Men []
def MhT (a:L2)(b:List IV)(c d:Int)(e:Nat)(f:List IV)(g:OB):OB:=Mcy dE a 34 b 25 (Ma9 c d []) e f g
theorem rRw (Λ:FuncId->Nat->Option aB) (d:Nat) (z:L1) (w h:Int) (xs ts rs us es ks ns cs out:L2) (i:Int) (k:Out->St->Prop):(round (ai TP { Γ:=JB,Λ:=Λ,Τ:=fun _=>none } d) bE 5 0 (lp TP bE 0) (Zo z w h xs ts rs us es ks ns cs out i) k) =(∀a,Maz a h (∀b,Ma1 b xs i 8 (∀c,Ma1 c xs i 9 (∀e,Ma1 e xs i 10 (∀f,Ma1 f xs i 11 (∀g,MfW g z (∀j,Mf9 j z (∀l,MfC l z (∀m,MeH m z (∀n,Me9 n z (∀o,Mfa o z (∀p,Mfb p z (∀q,Mft q z (∀r,MfX r z (∀s,Mga s z (∀t,MeJ t z (∀u,Mes u z (∀v,MeK v z (∀x,MeL x z (∀y,MeM y z (∀a1,MeN a1 z (∀b1,MeO b1 z (∀c1,MeP c1 z (∀d1,MeQ d1 z (∀e1,Mi8 e1 i xs (∀f1,Mch f1 b c (∀g1,Mch g1 e f (∀i1,Maz i1 (xx Bool.true (MdE g j l m n o p q r s t u v x y a1 b1 c1 d1) a xs ks ns cs i 0 [] f1 g1) (∀j1,Maz j1 (xK Bool.true (MdE g j l m n o p q r s t u v x y a1 b1 c1 d1) a xs ks ns cs i 0 [] f1 g1) (∀k1,Maz k1 (xJ Bool.true (MdE g j l m n o p q r s t u v x y a1 b1 c1 d1) a xs ks ns cs i 0 [] f1 g1) (∀l1,MgD l1 (Mcv (Y9 33 (MbL g j l m n o p q r s t u v 0 1 2 3 x y a1 b1 c1 d1 4 (MaD (Me0 w) (MaM i 0 (MaD (Mao 8 (Map b c e f Mb3)) (Mbl h [Mby]))))) (Mcd xs ts rs us es (Mhz MaW ks kQ ns fG cs [] []))) i1 (k .ret (MgO 54 4 [] xs ts rs us es (Mhv 6 i1))) (Mik out 32 (k .normal (MfS 54 2 5 3 6 4 7 5 8 (Mfe 6 9 7 i) (McG xs ts rs us (MhT es (MfD g j l m n o p q r s t u v x y a1 b1 c1 d1) h h 58 (Mbv 10 0) (Maq 66 (Mao 11 (Mcp 12 13 w)) (Mdf (Mg0 out 4 (MjX j1 k1))) (Mid 31 dm ks (Mak kQ ns fG cs []))))))))) i xs (Mb4 e1 e1 l1 l1) (k MbT (MaH 54 (MbV 4 5 6 6 []) (McG xs ts rs us (Maj dE es (.var 58 (Mbv 7 0)) (MgF out Men)))))))))))))))))))))))))))))))))))) :=by delta Maa Mab Mac Mad Mae Maf Mag Mah Mai Maj Mak Mal Mam Man Mao Map Maq Mar Mas Mat Mau Mav Max May Maz MaA MaC MaD MaF MaH MaL MaM MaO MaR MaT MaV MaW MaY Ma1 Ma2 Ma3 Ma4 Ma5 Ma9 Mba Mbd Mbe Mbh Mbj Mbl Mbp Mbu Mbv Mbw Mby MbC MbD MbF MbK MbL MbT MbV Mb3 Mb4 Mb7 Mcc Mcd Mcg Mch Mcp Mcr Mcv Mcy McG McT Mdf MdE Mef Men Mes MeH MeJ MeK MeL MeM MeN MeO MeP MeQ Me0 Me9 Mfa Mfb Mfe Mft MfC MfD MfS MfW MfX Mf9 Mga MgD MgF MgO Mg0 Mhv Mhz MhT Mid Mik Mi8 MjX; refine nj ?_; (iterate 30 refine nm ?_); kernel_rfl
def W7 (n0:Nat) (st:St) (z:L1) (w h:Int) (xs ts rs us es ks ns cs:L2):Prop:=qc z xs ks ns cs/\ag h/\xs.length<=1000/\n0=5/\st=Zo z w h xs ts rs us es ks ns cs [] 0
def vc:aB:=fun n0 st K=>∃z w h xs ts rs us es ks ns cs,W7 n0 st z w h xs ts rs us es ks ns cs/\br (IE z h xs ks ns cs != 0) (K .ret ⟨T 54 [(4,.ptr 5 0)],acX xs ts rs us es++[some (.var 58 [.sl 6,.int .i64 (IE z h xs ks ns cs)]),some (.row 31 dm [])]⟩) (K (.exit 0) ⟨T 54 [(4,.ptr 5 0),(6,.sl 6)],acX xs ts rs us es++[some (.var 58 [.sl 7,.int .i64 0]),some (.row 31 dm (N5 z h xs ks ns cs)),some (.row 31 dm [])]⟩)
def ZC:Know:={ Γ:=JB,Λ:=fun f i=>if f=bE then (if i=0 then some vc else none) else none,Τ:=fun _=>none }
theorem OO (z:L1) (xs ts rs us es:L2) (h:Int) (K:KP):(comes TP ZC 3 bE [.agg (af z 0 1 2 3 4),fx h] (aH xs ts rs us es) K) =(∀a,Maz a (xz (MbW xs) (lE xs) xs) (Mci (Man xs) 0 (K (MgW 0) Mhw) (Mb4 (Za Med (Mb7 xs [])) (Mih xs) (MiM 1 2 [] xs xs xs []) (McA a (K (MgW a) Mhw) (∃b:L1,∃c:Int,∃d:Int,∃e:L2,∃f:L2,∃g:L2,∃i:L2,∃j:L2,∃k:L2,∃l:L2,∃m:L2,Mcv (W7 5 (MfS 54 2 5 3 6 4 7 5 8 (Mhu 6 9 7) (McG xs ts rs us (MhT es (Mj3 z) h h 58 (Mbv 10 0) (Maq 66 (Mao 11 (Mcp 12 13 a)) Men (Mid 31 dm (lE xs) (Mak kQ (MbW xs) fG (MjE xs) [])))))) b c d e f g i j k l m) (IE b d e k l m) (K (MgW (IE b d e k l m)) Mhw) (K (MgW 0) (Mha (N5 b d e k l m)))))))) :=by delta Maa Mab Mac Mad Mae Maf Mag Mai Maj Mak Mal Mam Man Mao Map Maq Mar Mav Max May Maz MaA MaH MaM MaO MaR MaT MaW MaY Ma2 Ma3 Ma4 Ma5 Ma9 Mbd Mbv MbK MbW Mb4 Mb7 Mci Mcp Mcv Mcy McA McD McE McF McG McH McI McJ McK McL McM McN McO McQ McR McS McW McX Mda Mdf Mdj Med Mef Men MeV MfS MgW Mha Mhf Mhu Mhw MhT Mid Mih MiM MjE Mj3; refine nm ?_; kernel_rfl
def zp:Vs.Spec:=⟨qj,fun l bs=>(.agg [.sl 0,.int .i64 (mJ (dv l 0) (v2 l 1) (aA bs 0))],[.row 31 dm (nG (dv l 0) (v2 l 1) (aA bs 0))])⟩
def Oi:FuncId->Option Vs.Spec:=fun g=>if g=bE then some zp else JB g
def JA:FuncId->Option Vs.Spec:=fun g=>Oi g
section
open Go.IntWalk
def Br {σ τ:Type} (rel:σ->τ->Prop) (r1:σ × Int) (r2:τ × Int):Prop:=r1.2=r2.2/\(r1.2=0->rel r1.1 r2.1)
theorem wj {σ τ α:Type} {rel:σ->τ->Prop} {f:α->σ->σ × Int} {g:α->τ->τ × Int}:∀ (l:List α) (s:σ) (t:τ),(∀ a∈l,∀ s t,rel s t->Br rel (f a s) (g a t))->rel s t->Br rel (dF f l s) (dF g l t)
 | [],s,t,_,h=>⟨rfl,fun _=>h⟩
 | a :: l,s,t,hfg,h=>by
  obtain ⟨h1,h2⟩:=hfg a (List.mem_cons_self ..) s t h;rw [jr,jr];by_cases h0:(f a s).2=0
  ·rw [if_neg (fun hh=>hh h0),if_neg (fun hh=>hh (h1 ▸ h0))]
   exact wj l _ _ (fun b hb=>hfg b (List.mem_cons_of_mem _ hb)) (h2 h0)
  ·rw [if_pos h0,if_pos (fun hh=>h0 (h1 ▸ hh))]
   exact ⟨h1,h2⟩
theorem yl {σ τ:Type} {rel:σ->τ->Prop} {v1:Int->σ->σ × Int} {v2:Int->τ->τ × Int} (hv:∀ c s t,rel s t->Br rel (v1 c s) (v2 c t)) (ns ks:L2) (fe:Nat->Int) (fb:Nat->Bool) (i:Int):∀ (m n:Nat) (s:σ) (t:τ),rel s t->Br rel (jH v1 ns ks fe fb i m n s) (jH v2 ns ks fe fb i m n t)
 | 0,n,s,t,h=>⟨rfl,fun _=>h⟩
 | m+1,n,s,t,h=>by
  simp only [jH];split
  ·refine wj _ _ _ (fun k _ s t hst=>?_) h
   unfold dw;split
   ·exact ⟨rfl,fun _=>hst⟩
   ·exact hv _ _ _ hst
  ·split
   ·exact ⟨rfl,fun _=>h⟩
   ·split
    ·exact hv _ _ _ h
    ·exact wj _ _ _ (fun k _ s t hst=>yl hv ns ks fe fb i m k s t hst) h
theorem Sr {z:L1} {h:Int} {r:L1} {m ax ay px py:Int} (h0:uW true z h r m ax ay px py=0):xI true z h r m ax ay px py=Da z h r m ax ay px py/\xH true z h r m ax ay px py=C9 z h r m ax ay px py:=by
 unfold xI xH;have h1:¬ uW true z h r m ax ay px py≠0:=fun hh=>hh h0
 constructor
 ·rw [if_neg h1,if_pos rfl]
 ·rw [if_neg h1,if_pos rfl]
theorem Xs {z:L1} {h:Int} {r:L1} {m ax ay px py:Int}:uW true z h r m ax ay px py=Db z h r m ax ay px py:=if_pos rfl
theorem Oo {z:L1} {h:Int} {r:L1} {xs cs:L2} (c:Int) (s:L2 × Int × Int) (t:Int × Int) (hst:s.2=t):Br (fun (s:L2 × Int × Int) t=>s.2=t) (il true z h r xs cs c s) (pN z r h xs cs c t):=by
 subst hst;by_cases hc:0<=c
 ·unfold il pN Dl A5 pR Br;rw [if_pos hc,if_pos hc,if_pos hc,if_pos hc];refine ⟨Xs,fun h0=>?_⟩
  have:=Sr h0;exact Prod.ext this.1 this.2
 ·unfold il pN Dl A5 pR Br;rw [if_neg hc,if_neg hc,if_neg hc,if_neg hc];refine ⟨Xs,fun h0=>?_⟩
  have:=Sr h0;exact Prod.ext this.1 this.2
theorem Ek {σ α:Type} (f:α->σ->σ × Int) (a:α) (s:σ):dF f [a] s=f a s:=by
 rw [jr];split
 ·rfl
 ·rename_i h;have h':(f a s).2=0:=Decidable.not_not.1 h;show ((f a s).1,(0:Int))=f a s;rw [← h']
theorem Xu {z:L1} {h:Int} {xs ks ns cs:L2} {i px py:Int}:Br (fun (s:L2 × Int × Int) t=>s.2=t) (uY true z h xs ks ns cs i 0 ([],px,py)) (S6 z (xs.getD i.toNat []) h xs ks ns cs i px py):=by
 unfold S6;rw [Ek];exact yl (fun c s t hst=>Oo c s t hst) _ _ _ _ _ _ _ _ _ rfl
theorem Xv {z:L1} {h:Int} {xs ks ns cs:L2} {i:Int}:xx true z h xs ks ns cs i 0 [] (fr (xs.getD i.toNat []) 8) (fr (xs.getD i.toNat []) 10)=GP z h xs ks ns cs i/\
  (GP z h xs ks ns cs i=0->xK true z h xs ks ns cs i 0 [] (fr (xs.getD i.toNat []) 8) (fr (xs.getD i.toNat []) 10)=Qc z h xs ks ns cs i/\xJ true z h xs ks ns cs i 0 [] (fr (xs.getD i.toNat []) 8) (fr (xs.getD i.toNat []) 10)=Qb z h xs ks ns cs i):=by
 have hs:=Xu (z:=z) (h:=h) (xs:=xs) (ks:=ks) (ns:=ns) (cs:=cs) (i:=i) (px:=fr (xs.getD i.toNat []) 8) (py:=fr (xs.getD i.toNat []) 10);obtain ⟨h1,h2⟩:=hs;refine ⟨h1,fun h0=>?_⟩
 have h1':xx true z h xs ks ns cs i 0 [] (fr (xs.getD i.toNat []) 8) (fr (xs.getD i.toNat []) 10)=0:=h1.trans h0;have h2':=h2 h1';unfold xK xJ;rw [if_neg (fun hh=>hh h1'),if_neg (fun hh=>hh h1')]
 exact ⟨congrArg Prod.fst h2',congrArg Prod.snd h2'⟩
theorem MJ:∀ {g:FuncId} {sp:Vs.Spec},JB g=some sp->aa TP g sp:=ao SG (ao (M9 33) E9)
theorem lRw (d n0:Nat):aG (ai TP ZC d) bE n0 0 (lp TP bE 0) vc:=by
 intro st K hst;obtain ⟨z,w,h,xs,ts,rs,us,es,ks,ns,cs,⟨hw,hh,hl,rfl,rfl⟩,hK⟩:=hst;rw [ah] at hK;have hzl:([z.getD 0 0,z.getD 1 0,z.getD 2 0,z.getD 3 0,z.getD 4 0,z.getD 5 0,z.getD 6 0,z.getD 7 0,z.getD 8 0,z.getD 9 0,z.getD 10 0,z.getD 11 0,z.getD 12 0,z.getD 13 0,z.getD 14 0,z.getD 15 0,z.getD 16 0,z.getD 17 0,z.getD 18 0]:L1)=z:=lZ hw.1.1.1.1.1;have okr:aI aM xs:=fun r hr=>(hw.1.2.1 r hr).2.1
 refine aC (fun p:Nat × L2=>Zo z w h xs ts rs us es ks ns cs p.2 p.1) (fun p=>p.1<=xs.length/\p.2.length=p.1/\xL z h xs ks ns cs (xs.length - p.1) p.1 p.2=xL z h xs ks ns cs xs.length 0 []) (fun p=>xs.length - p.1) ?_ (a:=(0,[])) ⟨Nat.zero_le _,rfl,rfl⟩
 rintro ⟨i,out⟩ ⟨hle,hol,hR⟩ k hn hk;simp only at hle hol hR;show round (ai TP { Γ:=JB,Λ:=_,Τ:=fun _=>none } d) _ _ _ _ (Zo z w h xs ts rs us es ks ns cs out i) k
 rw [rRw]; delta Maa Mab Mac Mad Mae Maf Mag Mah Mai Maj Mak Mal Mam Man Mao Map Maq Mar Mas Mat Mau Mav Max May Maz MaA MaC MaD MaF MaH MaL MaM MaO MaR MaT MaV MaW MaY Ma1 Ma2 Ma3 Ma4 Ma5 Ma9 Mba Mbd Mbe Mbh Mbj Mbl Mbp Mbu Mbv Mbw Mby MbC MbD MbF MbK MbL MbT MbV Mb3 Mb4 Mb7 Mcc Mcd Mcg Mch Mcp Mcr Mcv Mcy McG McT Mdf MdE Mef Men Mes MeH MeJ MeK MeL MeM MeN MeO MeP MeQ Me0 Me9 Mfa Mfb Mfe Mft MfC MfD MfS MfW MfX Mf9 Mga MgD MgF MgO Mg0 Mhv Mhz MhT Mid Mik Mi8 MjX;rintro j1 rfl t2 e2 t3 e3 t4 e4 t5 e5 t6 rfl t7 rfl t8 rfl t9 rfl t10 rfl t11 rfl t12 rfl t13 rfl t14 rfl t15 rfl t16 rfl t17 rfl t18 rfl t19 rfl t20 rfl t21 rfl t22 rfl t23 rfl t24 rfl t25 e25 t26 e26 t27 e27 t28 e28 t29 e29 t30 e30 t31 e31;rw [hzl] at e28 e29 e30;rw [al];constructor
 ·intro hi;have hi':i < xs.length:=by omega
  have p25:t25:=by rw [e25]; omega
  have hit:((i:Nat):Int).toNat=i:=rfl;obtain ⟨_,_,_,_,_,m8,m10⟩:=hw.1.2.1 _ (getM hi');have T26:t26=fr (xs.getD ((i:Nat):Int).toNat []) 8:=by rw [e26,e2,e3]; rfl
  have T27:t27=fr (xs.getD ((i:Nat):Int).toNat []) 10:=by rw [e27,e4,e5]; rfl
  rw [T26,T27] at e28 e29 e30;obtain ⟨q1,q2⟩:=Xv (z:=z) (h:=j1) (xs:=xs) (ks:=ks) (ns:=ns) (cs:=cs) (i:=i);rw [q1] at e28;have hs:xL z j1 xs ks ns cs (xs.length - i) i out=if GP z j1 xs ks ns cs i≠0 then ([],GP z j1 xs ks ns cs i) else xL z j1 xs ks ns cs (xs.length - (i+1)) (i+1) (out++[cI (Qc z j1 xs ks ns cs i) (Qb z j1 xs ks ns cs i)]):=by
   rw [show xs.length - i=(xs.length - (i+1))+1 by omega]; rfl
  rw [hs,← e28] at hR;have hwt:=(nN hw.2.1 hw.2.2.2.2.1).2.1;have hkl:=hw.2.2.2.1;have p31:t31:=by
   rw [e31];refine ⟨⟨z,w,xs,ts,rs,us,es,ks,ns,cs,[],i,0,fr (xs.getD i []) 8,fr (xs.getD i []) 10,j1,true,?_,rfl,hw,⟨by omega,by omega⟩,⟨Int.le_refl 0,by have:=hw.2.2.2.2.1; omega⟩,by show 33 - _<=33; omega,⟨m8,m10⟩,hh,?_,hl⟩,?_⟩
   ·have h1:=nv (a:=rd xs i 8) (b:=rd xs i 9) (c:=rd xs i 10) (d:=rd xs i 11) (cH okr _ 9 (by decide) rfl) (cH okr _ 11 (by decide) rfl)
    rw [uD xs i 8,uD xs i 10] at h1;unfold vx at h1;have h2:=(IV.agg.inj h1);rw [e2,e3,e4,e5,hit];unfold ct;have h3:[IV.sl 8,.int .i64 (rd xs i 8),.int .u64 (rd xs i 9),.int .i64 (rd xs i 10),.int .u64 (rd xs i 11),.int .i64 0]=IV.sl 8 :: ([IV.int .i64 (rd xs i 8),.int .u64 (rd xs i 9),.int .i64 (rd xs i 10),.int .u64 (rd xs i 11)]++[.int .i64 0]):=rfl;rw [h3,h2]
    rfl
   ·show [].length+wt ns 0<=2000;simp only [List.length_nil];omega
   ·rw [ah];refine ⟨fun hne=>?_,fun h0=>⟨by omega,?_⟩⟩
    ·rw [if_pos hne] at hR;have hE:IE z j1 xs ks ns cs=t28:=(congrArg Prod.snd hR).symm;rw [hE] at hK;exact hk _ _ (by simp) (hK.1 hne)
    ·rw [if_neg (by simpa using h0)] at hR
     have hq:=q2 (by rw [← e28]; exact h0)
     rw [hq.1] at e29;rw [hq.2] at e30;rw [show IntKind.i64.wrap ((i:Int)+1)=((i+1:Nat):Int) by rw [i64_in _ (by omega)]; rfl,e29,e30]
     exact hn (i+1,out++[cI (Qc z j1 xs ks ns cs i) (Qb z j1 xs ks ns cs i)]) ⟨hi',by simp [hol],hR⟩ (by show xs.length - (i+1) < xs.length - i; omega)
  exact ⟨p25,p25,p31,p31⟩
 ·intro hi;have:i=xs.length:=by omega
  subst this;rw [Nat.sub_self] at hR;have hE:IE z j1 xs ks ns cs=0:=(congrArg Prod.snd hR).symm;have hL:N5 z j1 xs ks ns cs=out:=(congrArg Prod.fst hR).symm;rw [hE,hL] at hK;exact hk _ _ (by simp) (hK.2 rfl)
theorem P0:KnowOk TP ZC 3:=cP (f0:=bE) (L:=vc) (fun g sp h=>MJ h) rfl (fun g G h=>(by cases h)) lRw 3
theorem FL (z:L1) (h:Int):mJ z h []=0/\nG z h []=[]:=by
 have hb:lE []=[]:=List.eq_nil_of_length_eq_zero (by rw [tN]; rfl)
 have hc:QI []=0:=by
  unfold QI;rw [hb,RS.g9]
  rfl
 unfold mJ nG;rw [hc,if_neg (fun hh=>hh rfl),if_neg (fun hh=>hh rfl)]
 exact ⟨rfl,rfl⟩
theorem Q1:aa TP bE zp:=by
 refine ab (N:=ZC) 3 P0 ?_;rintro l bs _ _ ⟨z,xs,ts,rs,us,es,h,rfl,rfl,hz,hg,hh,hl⟩;have hF:zp.F [.agg (af z 0 1 2 3 4),fx h] (aH xs ts rs us es)=(.agg [.sl 0,.int .i64 (mJ z h xs)],[.row 31 dm (nG z h xs)]):=by
  show (IV.agg [.sl 0,.int .i64 (mJ (dv _ 0) (v2 _ 1) xs)],[aq.row 31 dm (nG (dv _ 0) (v2 _ 1) xs)])=_;rw [dA _ z 0 1 2 3 4 hz.1.1.1 rfl,bc _ h 1 rfl]
 rw [hF,OO]; delta Maa Mab Mac Mad Mae Maf Mag Mai Maj Mak Mal Mam Man Mao Map Maq Mar Mav Max May Maz MaA MaH MaM MaO MaR MaT MaW MaY Ma2 Ma3 Ma4 Ma5 Ma9 Mbd Mbv MbK MbW Mb4 Mb7 Mci Mcp Mcv Mcy McA McD McE McF McG McH McI McJ McK McL McM McN McO McQ McR McS McW McX Mda Mdf Mdj Med Mef Men MeV MfS MgW Mha Mhf Mhu Mhw MhT Mid Mih MiM MjE Mj3;rintro t1 e1;have e1':t1=QI xs:=e1;rw [dp];refine ⟨fun h0=>?_,fun h0=>⟨⟨_,rfl,rfl,mA hg,hl⟩,Ho hl,Hf (mA hg) (yB hg) hl,?_⟩⟩
 ·have:xs=[]:=List.eq_nil_of_length_eq_zero (by omega)
  subst this;rw [(FL z h).1,(FL z h).2]
 ·have hne0:xs≠[]:=by rintro rfl; exact h0 rfl
  rw [ah];refine ⟨fun hne=>?_,fun hc0=>?_⟩
  ·unfold mJ nG;rw [if_pos (by rw [← e1']; exact hne),if_pos (by rw [← e1']; exact hne),e1']
  ·refine ⟨z,t1,h,xs,ts,rs,us,es,lE xs,N4 xs,SF xs,⟨RD hz hg hl hne0 (by rw [← e1']; exact hc0),hh,hl,rfl,rfl⟩,?_⟩
   unfold mJ nG;rw [if_neg (by rw [← e1']; simpa using hc0),if_neg (by rw [← e1']; simpa using hc0),ah]
   refine ⟨fun hne=>?_,fun h1=>by rw [h1]⟩
   rw [show N5 z h xs (lE xs) (N4 xs) (SF xs)=[] from Aj _ _ _ _ _ _ _ _ _ hne]
theorem MI:∀ {g:FuncId} {sp:Vs.Spec},Oi g=some sp->aa TP g sp:=ao Q1 MJ
theorem MH:∀ {g:FuncId} {sp:Vs.Spec},JA g=some sp->aa TP g sp:=MI
end
end Go.Vs.RF
