/-
  Lemmas for the theorem vdecomposes28_holds, part 32 of 34.
-/
import Derived.Test.YtbkocjmmbkifjaaGreatQd31
namespace Go.Proofs.YtbkocjmmbkifjaaGreat
open Go Go.RowKit
set_option maxRecDepth 100000
set_option maxHeartbeats 4000000
set_option linter.unusedVariables false
set_option linter.unusedSimpArgs false
noncomputable def c5P:Ctr:=⟨[tG,tU],[tG,tU],fun x=>Low x.1/\(show LN from x.1).length<=2000000000/\(1:Int)<=x.2.1/\(show Int from x.2.1)<=999999999,fun x=>(dig (val x.1 / Int.toNat x.2.1),((val x.1%Int.toNat x.2.1:Nat):Int),())⟩
theorem b4X:aH Tryz.prog 266 c5P:=by
 intro F w vs x hF hvs hp
 obtain⟨v,vs',rfl,h1,u,vs'',rfl,h2,h3⟩:=hvs
 have h3:vs''=[]:=h3
 subst h3
 rw[SI h2]
 obtain⟨a,d,t⟩:=x
 change Int at d
 obtain⟨p1,p2,p3,p4⟩:Low a/\a.length<=2000000000/\(1:Int)<=d/\d<=999999999:=hp
 obtain⟨n,rfl⟩:=jv (show (0:Int)<=d by omega)
 refine(FX v a n w (oP h1) p1 p2 (by omega) (by omega)).mono ?_
 rintro e w' ⟨r,rfl,hr,hb⟩
 exact⟨_,rfl,⟨[_,_],rfl,_,_,rfl,EY hr,_,_,rfl,EZ _,rfl⟩,hb⟩
noncomputable def c5q:Ctr:=⟨[tG,tI],[tU],fun x=>Low x.1/\(0:Int)<=x.2.1,fun x=>(((gr x.1 x.2.1.toNat:Nat):Int),())⟩
theorem b4U:aH Tryz.prog 269 c5q:=by
 intro F w vs x hF hvs hp
 obtain⟨v,vs',rfl,h1,u,vs'',rfl,h2,h3⟩:=hvs
 have h3:vs''=[]:=h3
 subst h3
 rw[SI h2]
 refine(group_any v x.1 x.2.1 w (oP h1) hp.1 hp.2).mono ?_
 rintro e w' ⟨rfl,rfl⟩
 exact⟨_,rfl,EZ _,dh _ _⟩
theorem a9R {x:Int} {k:Nat} (h:isz x<=k):x.natAbs<BB ^ k:=by
 have h1:=kK (bC x.natAbs)
 rw[aT] at h1
 exact mg h1 (uw (by decide) h)
theorem b6T:BB ^ 268<=2 ^ 29000:=by decide +kernel
theorem b0q {x:Int} {j:Nat} (h:isz x<=268) (hj:2 ^ j<=x.natAbs):j<8100:=by
 have h1:=a9R h
 have:BB ^ 268<=2 ^ 8100:=by decide +kernel
 exact(Nat.pow_lt_pow_iff_right (by omega:1<2)).1 (Nat.lt_of_le_of_lt hj (mg h1 this))
theorem a3n:∀ k,isz ((2:Int) ^ k)<=k+1
 | 0=>by decide +kernel
 | k+1=>by
  have h:=a3n k
  have a:=fJ ((2:Int) ^ k) 2
  have b:isz 2<=1:=by decide +kernel
  rw[Int.pow_succ];omega
theorem b7J {N j:Nat} (h1:2 ^ j<=2*N) (h2:N<2 ^ j) (h0:N≠0):1<=j/\j=N.log2+1:=by
 have hj:1<=j:=by
  by_cases e:j=0
  ·subst e;simp at h2;exact absurd h2 h0
  ·omega
 obtain⟨i,rfl⟩:∃ i,j=i+1:=⟨j-1,by omega⟩
 have h3:2 ^ i<=N:=by rw[Nat.pow_succ] at h1;omega
 have a:=(Nat.le_log2 h0).2 h3
 have b:=(Nat.log2_lt h0).2 h2
 omega
theorem a4T {N t:Nat}:N / 2 ^ (29*t) / 536870912=N / 2 ^ (29*(t+1)):=by
 rw[Nat.div_div_eq_div_mul,show (536870912:Nat)=2 ^ 29 from rfl,<-Bj,Em]
theorem ZW {N j:Nat}:N / 2 ^ j / 2=N / 2 ^ (j+1):=by
 rw[Nat.div_div_eq_div_mul,<-Nat.pow_succ]
def tF:Nat->Nat->Nat->Nat
 | 0,_,t=>t
 | f+1,N,t=>if BB<=N / 2 ^ (29*t) then tF f N (t+1) else t
theorem b6C {N:Nat}:∀ f t,2 ^ (29*t)<=N->2 ^ (29*tF f N t)<=N
 | 0,t,h=>h
 | f+1,t,h=>by
  unfold tF
  split
  ·rename_i g
   refine b6C f (t+1) ?_
   have g1:BB*2 ^ (29*t)<=N:=(Ag (Nat.pow_pos (by decide))).1 g
   have g2:2 ^ 29*2 ^ (29*t)<=BB*2 ^ (29*t):=jh _ (by decide)
   rw[Em,Bj,uq]
   omega
  ·exact h
theorem b5I {n:Nat} (h:n<1000000000):IntKind.wrap .u64 (n:Int)=(n:Int):=by
 simp[IntKind.wrap,IntKind.bits];omega
noncomputable def c5t:Ctr:=⟨[tZ],[tI],fun x=>(show Int from x.1)≠0/\isz x.1<=268,fun x=>(((Nat.log2 (show Int from x.1).natAbs:Nat):Int),())⟩
theorem b0l {N:Nat} (h:N≠0):2 ^ (29*0)<=N/\0<=1000/\tF (1000-0) N 0=tF 1000 N 0:=⟨by have:=Nat.pos_of_ne_zero h;simp only[Nat.mul_zero,Nat.pow_zero];omega,by omega,rfl⟩
theorem c4k {N:Nat} (f:Nat):∀ t k,k=29*(t+f)->N<2 ^ k->N / 2 ^ (29*tF f N t)<BB:=by
 induction f with
 | zero =>
  intro t k hk h
  have e:tF 0 N t=t:=rfl
  rw[e,show 29*t=k by omega,Du h]
  exact fV
 | succ f ih =>
  intro t k hk h
  have e:tF (f+1) N t=if BB<=N / 2 ^ (29*t) then tF f N (t+1) else t:=rfl
  rw[e]
  split
  ·exact ih (t+1) k (by omega) h
  ·rename_i g;omega
theorem b1W {x:Int} (h:x.natAbs≠0/\isz x<=268):2 ^ (29*tF 1000 x.natAbs 0)<=2*x.natAbs/\x.natAbs / 2 ^ (29*tF 1000 x.natAbs 0)<BB:=by
 have a:=b6C (N:=x.natAbs) 1000 0 (by simp only[Nat.mul_zero,Nat.pow_zero];omega)
 refine⟨by omega,c4k 1000 0 29000 rfl (mg (a9R h.2) b6T)⟩
theorem b3V:aH Tryz.prog 260 c5t:=by
 refine aI (((nil0.ad nS).ad b4X).ad b4U) ⟨[],[],[]⟩ Tryz.func260 rfl (by decide) (fun x=>[.inv {t:Nat // (show Int from x.1).natAbs≠0->2 ^ (29*t)<=(show Int from x.1).natAbs/\t<=1000/\tF (1000-t) (show Int from x.1).natAbs t=tF 1000 (show Int from x.1).natAbs 0} (fun t=>[(3,.val tG (dig ((show Int from x.1).natAbs / 2 ^ (29*t.1)))),(4,.val tI (29*(t.1:Int)-1))]) (fun _=>[]) (fun t=>(show Int from x.1).natAbs / 2 ^ (29*t.1)) ⟨0,b0l⟩ (fun _=>[]),
 .inv {j:Nat // (show Int from x.1).natAbs≠0/\isz x.1<=268->2 ^ j<=2*(show Int from x.1).natAbs/\(show Int from x.1).natAbs / 2 ^ j<BB} (fun j=>[(5,.val tU (((show Int from x.1).natAbs / 2 ^ j.1:Nat):Int)),(4,.val tI ((j.1:Int)-1))]) (fun _=>[]) (fun j=>(show Int from x.1).natAbs / 2 ^ j.1) ⟨29*tF 1000 (show Int from x.1).natAbs 0,b1W⟩ (fun _=>[])]) (fun x hp=>?_)
 obtain⟨x,u⟩:=x
 change Int at x
 refine aO (let A₀:=(29*tF 1000 (Int.natAbs x) 0);(isz x<=1000000000/\True)/\(dig (Int.natAbs x)=dig (Int.natAbs x / 2 ^ (29*0))/\asT Int (-1)=29*0-1/\True)/\∀ (i:{ t:Nat // Int.natAbs x≠0->2 ^ (29*t)<=Int.natAbs x/\t<=1000/\tF (1000-t) (Int.natAbs x) t=tF 1000 (Int.natAbs x) 0 }),let A₁:=(dig (Int.natAbs x / 2 ^ (29*aA i)));asT Bool true=true/\ifB (decide (aB A₁.length > 1)) (((Low A₁/\List.length A₁<=2000000000/\asT Int 1<=536870912/\asT Int 536870912<=999999999)/\True)/\∃ (i':{ t:Nat // Int.natAbs x≠0->2 ^ (29*t)<=Int.natAbs x/\t<=1000/\tF (1000-t) (Int.natAbs x) t=tF 1000 (Int.natAbs x) 0 }),Int.natAbs x / 2 ^ (29*aA i')<Int.natAbs x / 2 ^ (29*aA i)/\dig (val A₁ / 536870912)=dig (Int.natAbs x / 2 ^ (29*aA i'))/\IntKind.wrap IntKind.i64 (29*aB (aA i)-1+29)=29*aB (aA i')-1/\True) (((Low A₁/\asT Int 0<=0)/\True)/\(aB (gr A₁ 0)=aB (Int.natAbs x / 2 ^ A₀)/\29*aB (aA i)-1=aB A₀-1/\True)/\∀ (i:{ j:Nat // Int.natAbs x≠0/\isz x<=268->2 ^ j<=2*Int.natAbs x/\Int.natAbs x / 2 ^ j<BB }),asT Bool true=true/\ifB (decide (aB (Int.natAbs x / 2 ^ aA i) > 0)) ((asT Int 2≠0/\True)/\∃ (i':{ j:Nat // Int.natAbs x≠0/\isz x<=268->2 ^ j<=2*Int.natAbs x/\Int.natAbs x / 2 ^ j<BB }),Int.natAbs x / 2 ^ aA i'<Int.natAbs x / 2 ^ aA i/\IntKind.wrap IntKind.u64 (Int.tdiv (aB (Int.natAbs x / 2 ^ aA i)) 2)=aB (Int.natAbs x / 2 ^ aA i')/\IntKind.wrap IntKind.i64 (aB (aA i)-1+1)=aB (aA i')-1/\True) (True/\aB (aA i)-1=aB (Nat.log2 (Int.natAbs x))/\True))) (by kernel_rfl) ?_
 try simp only[zP0]
 try dsimp only[aB,asT,aA,aC,Ty.den,Lf.den] at *
 try simp only[zP1]
 try simp only[zP2]
 obtain⟨h0,hs⟩:x≠0/\isz x<=268:=hp
 have hN:x.natAbs≠0:=by omega
 refine⟨by omega,⟨by simp,by omega⟩,fun i=>?_⟩
 have hL:∀ j,2 ^ j<=x.natAbs->j<8100:=fun j h=>b0q hs h
 have hs':=hs
 have hs:(dig x.natAbs).length<=268:=hs
 generalize x.natAbs=N at *
 have lo:∀ k,Low (dig k):=fun k=>bC k
 have ld:∀ k,(dig (N / 2 ^ k)).length<=268:=fun k=>ak (aQ (Cj _ _)) hs
 obtain⟨t,ht⟩:=i
 obtain⟨t1,t2,t3⟩:=ht hN
 have tb:=hL _ t1
 dsimp only
 have pp:∀ k,0<2 ^ k:=fun k=>Nat.pow_pos (by omega)
 have gt1:(dig (N / 2 ^ (29*t))).length > 1->BB<=N / 2 ^ (29*t):=fun h=>by
  apply Eh
  intro c
  have:=dU (n:=N / 2 ^ (29*t)) (k:=1) (by rw[Nat.pow_one];omega)
  omega
 have le1:¬ (dig (N / 2 ^ (29*t))).length > 1->N / 2 ^ (29*t)<BB:=fun h=>by
  have a:=kK (lo (N / 2 ^ (29*t)))
  rw[aT] at a
  exact mg a (ak (uw (by decide) (show (dig (N / 2 ^ (29*t))).length<=1 by omega)) (Nat.le_of_eq (Nat.pow_one _)))
 have st:tF (1000-t) N t=if BB<=N / 2 ^ (29*t) then tF (1000-(t+1)) N (t+1) else t:=by
  rw[show 1000-t=(1000-(t+1))+1 by omega];rfl
 refine⟨fun h=>⟨⟨lo _,ak (ld _) (by omega),by omega,by omega⟩,?_⟩,fun h=>⟨⟨lo _,by omega⟩,⟨?_,?_⟩,fun j=>?_⟩⟩
 ·have g:=gt1 (by omega)
  rw[iw g] at st
  have g1:BB*2 ^ (29*t)<=N:=(Ag (pp _)).1 g
  have g2:2 ^ 29*2 ^ (29*t)<=BB*2 ^ (29*t):=jh _ (by decide)
  refine⟨⟨t+1,fun _=>⟨by rw[Em,Bj,uq];omega,by omega,by rw[<-st,t3]⟩⟩,?_,?_,?_⟩
  ·dsimp only
   rw[<-a4T]
   exact Nat.div_lt_self (by have:=fV;omega) (by omega)
  ·rw[aT]
   show dig (N / 2 ^ (29*t) / 536870912)=dig (N / 2 ^ (29*(t+1)))
   rw[a4T]
  ·dsimp only
   rw[aJ (by omega) (by omega)];omega
 ·have g:=le1 (by omega)
  rw[eu (by omega),t3] at st
  rw[st]
  have:gr (dig (N / 2 ^ (29*t))) 0=N / 2 ^ (29*t):=by
   have h9:(dig (N / 2 ^ (29*t))).length<=1:=by omega
   have v:=aT (N / 2 ^ (29*t))
   generalize dig (N / 2 ^ (29*t))=l at *
   match l,h9 with
   | [],_=>exact v
   | [a],_=>rw[bU] at v;simpa [gr] using v
  exact ql Nat.cast this
 ·have g:=le1 (by omega)
  rw[eu (by omega),t3] at st
  rw[st];omega
 ·obtain⟨j,hj⟩:=j
  obtain⟨hj,hb⟩:=hj ⟨hN,hs'⟩
  dsimp only
  refine⟨fun g=>⟨by omega,⟨j+1,fun _=>⟨?_,?_⟩⟩,?_,?_,?_⟩,fun g=>?_⟩
  ·have g1:1<=N / 2 ^ j:=by omega
   have g2:=(Ag (pp j)).1 g1
   rw[Nat.pow_succ];omega
  ·rw[<-ZW];exact Nat.lt_of_le_of_lt (Cj _ _) hb
  ·dsimp only
   rw[<-ZW]
   exact Nat.div_lt_self (by omega) (by omega)
  ·dsimp only
   have g1:2 ^ j<=N:=by
    have:=(Ag (pp j) (x:=1) (y:=N)).1 (by omega)
    omega
   have e:((N / 2 ^ j:Nat):Int).tdiv 2=((N / 2 ^ (j+1):Nat):Int):=by
    rw[Int.tdiv_eq_ediv_of_nonneg (by omega),<-ZW];omega
   have b2:N / 2 ^ (j+1)<BB:=by rw[<-ZW];exact Nat.lt_of_le_of_lt (Cj _ _) hb
   rw[e,bM] at *
   generalize N / 2 ^ (j+1)=q at *
   exact b5I (by omega)
  ·dsimp only
   have g1:2 ^ j<=N:=by
    have:=(Ag (pp j) (x:=1) (y:=N)).1 (by omega)
    omega
   have:=hL _ g1
   rw[aJ (by omega) (by omega)];omega
  ·have g1:N / 2 ^ j=0:=by generalize N / 2 ^ j=q at g;omega
   have g2:N<2 ^ j:=by
    rcases Nat.div_eq_zero_iff.1 g1 with h|h
    ·have:=pp j;omega
    ·exact h
   have:=b7J hj g2 hN
   omega
noncomputable def c5b:Ctr:=⟨[tZ],[tI],fun x=>(show Int from x.1)=2,fun x=>((1:Int),())⟩
theorem b3g:aH Tryz.prog 283 c5b:=by
 refine aI (nil0.ad nS) ⟨[1],[],[]⟩ Tryz.func283 rfl (by decide) (fun x=>[.inv {t:Nat // t<=1} (fun t=>[(5,.val (.int .u32) (if t.1=0 then (2:Int) else (0:Int))),(4,.val tI (t.1:Int))]) (fun _=>[]) (fun t=>1-t.1) ⟨0,by omega⟩ (fun _=>[])]) (fun x hp=>?_)
 obtain⟨x,u⟩:=x
 change Int at x
 refine aO (let A₀:=(dig (Int.natAbs x)).length;(isz x<=1000000000/\True)/\ifB (aB A₀==0) (True/\asT Int 0=1/\True) ((0<=IntKind.wrap IntKind.i64 (aB A₀-1)/\IntKind.wrap IntKind.i64 (aB A₀-1)<aB A₀/\True)/\((aB (List.getD (dig (Int.natAbs x)) (IntKind.wrap IntKind.i64 (aB A₀-1)).toNat 0)=if 0=0 then 2 else 0)/\IntKind.wrap IntKind.i64 (9*IntKind.wrap IntKind.i64 (aB A₀-1))=0/\True)/\∀ (i:{ t:Nat // t<=1 }),let A₁:=(if aA i=0 then 2 else 0);asT Bool true=true/\ifB (decide (A₁ > 0)) ((asT Int 10≠0/\True)/\∃ (i':{ t:Nat // t<=1 }),1-aA i'<1-aA i/\(IntKind.wrap IntKind.u32 (Int.tdiv A₁ 10)=if aA i'=0 then 2 else 0)/\IntKind.wrap IntKind.i64 (aB (aA i)+1)=aB (aA i')/\True) (True/\aB (aA i)=1/\True))) (by kernel_rfl) ?_
 try simp only[zP0]
 try dsimp only[aB,asT,aA,aC,Ty.den,Lf.den] at *
 try simp only[zP1]
 try simp only[zP2]
 have hx:x=2:=hp
 subst hx
 have e:dig (2:Int).natAbs=[2]:=by decide +kernel
 rw[e]
 refine⟨by decide +kernel,fun h=>by simp at h,fun _=>⟨⟨by decide +kernel,by decide +kernel⟩,⟨by decide +kernel,by decide +kernel⟩,fun i=>?_⟩⟩
 obtain⟨t,ht⟩:=i
 dsimp only
 have ht:t=0\/t=1:=by omega
 rcases ht with rfl|rfl
 ·exact⟨fun _=>⟨by omega,⟨1,by omega⟩,by show 1-1<1-0;omega,by show IntKind.wrap .u32 ((2:Int).tdiv 10)=0;decide +kernel,by show IntKind.wrap .i64 (0+1)=1;decide +kernel⟩,fun h=>by simp at h⟩
 ·exact⟨fun h=>by simp at h,fun _=>rfl⟩
def p2 (k:Nat):Int:=(2:Int) ^ k
noncomputable def c5C:Ctr:=⟨[tZ,tI],[tZ,tI],fun x=>(show Int from x.1)=2/\(0:Int)<=x.2.1/\(show Int from x.2.1)<=4096,fun x=>(p2 x.2.1.toNat,(0:Int),())⟩
theorem b4L:aH Tryz.prog 261 c5C:=by
 refine aI (((nil0.ad OA).ad KQ).ad b3g) ⟨[4,6],[],[]⟩ Tryz.func261 rfl (by decide) (fun x=>[.inv {k:Nat // k<=Int.toNat x.2.1} (fun k=>[(7,.val tI (k.1:Int))]) (fun k=>[(4,.box [⟨tZ,(0:Int)⟩]),(6,.box [⟨tZ,p2 k.1⟩])]) (fun k=>Int.toNat x.2.1-k.1) ⟨0,qm _⟩ (fun _=>[])]) (fun x hp=>?_)
 obtain⟨x,n,u⟩:=x
 change Int at x
 change Int at n
 refine aO ((((decide (n<0)==false)=true->(decide (n<0)==false)=true/\True)/\(decide (n<0)=false->(decide (n<0)==false)=true)/\True)/\ifB (bif decide (n<0) then true else decide (n > 4096)) (True/\0=p2 n.toNat/\True/\asT Int 2=0/\True) ((x=2/\True)/\ifB (decide (IntKind.wrap IntKind.i64 (n*1) > 20000)) (True/\0=p2 n.toNat/\True/\asT Int 9=0/\True) ((bP 1/\True)/\(asT Int 0=0/\asT Int 0=0/\asT Int 1=p2 0/\True)/\∀ (i:{ k:Nat // k<=Int.toNat n }),asT Bool true=true/\ifB (decide (aB (aA i)<n)) (((isz (p2 (aA i))<=1000000000/\isz x<=1000000000)/\True)/\∃ (i':{ k:Nat // k<=Int.toNat n }),Int.toNat n-aA i'<Int.toNat n-aA i/\IntKind.wrap IntKind.i64 (aB (aA i)+1)=aB (aA i')/\asT Int 0=0/\p2 (aA i)*x=p2 (aA i')/\True) (True/\p2 (aA i)=p2 n.toNat/\True/\asT Int 0=0/\True)))) (by kernel_rfl) ?_
 try simp only[zP0]
 try dsimp only[aB,asT,aA,aC,Ty.den,Lf.den] at *
 try simp only[zP1]
 try simp only[zP2]
 obtain⟨hx,h0,h4⟩:x=2/\0<=n/\n<=4096:=hp
 subst hx
 have s2:∀ k,k<=4096->isz (p2 k)<=5000:=fun k hk=>ak (a3n k) (by omega)
 rw[aJ (by omega) (by omega)]
 refine⟨fun h=>je (by omega),fun h=>?_,fun _=>⟨rfl,fun h=>by omega,fun _=>⟨by decide,rfl,fun i=>⟨fun h=>⟨⟨?_,by decide +kernel⟩,⟨i.1+1,by omega⟩,by simp only;omega,by rw[aJ (by omega) (by omega)];rfl,rfl⟩,fun h=>?_⟩⟩⟩⟩
 ·rcases h with h|h
  ·have:=og h;omega
  ·have:=og h;omega
 ·exact ak (s2 i.1 (by omega)) (by omega)
 ·rw[show i.1=n.toNat by have:=i.2;omega]
noncomputable def c5I:Ctr:=⟨[tZ],[tZ,tI],fun x=>(0:Int)<(show Int from x.1)/\isz x.1<=268,fun x=>(((isq (show Int from x.1).natAbs:Nat):Int),(0:Int),())⟩
def rtH (x:Int):Int:=if 0<x.natAbs.log2 then 2 ^ (x.natAbs.log2 / 2+1) else x+1
def rtP (x:Int) (s:Int × Int):Prop:=0<x->0<=s.1/\s.1<s.2/\s.2<=rtH x/\s.1*s.1<=x/\x<s.2*s.2
theorem c4a (x:Int):rtP x (0,rtH x):=fun h=>by
 obtain⟨n,rfl⟩:=jv (show 0<=x by omega)
 have hn:n≠0:=by omega
 unfold rtH
 rw[Int.natAbs_natCast]
 split
 ·have l:=(Nat.log2_lt hn (k:=n.log2+1)).1 (by omega)
  have l2:2 ^ (n.log2+1)<=2 ^ (n.log2 / 2+1)*2 ^ (n.log2 / 2+1):=by
   rw[<-Bj];exact uw (by omega) (by omega)
  have p:0<2 ^ (n.log2 / 2+1):=Nat.pow_pos (by omega)
  have c:((2:Int) ^ (n.log2 / 2+1))=((2 ^ (n.log2 / 2+1):Nat):Int):=by rw[Int.natCast_pow];rfl
  dsimp only
  rw[c]
  generalize 2 ^ (n.log2 / 2+1)=P at *
  refine⟨by omega,by omega,by omega,by omega,?_⟩
  have:n<P*P:=by omega
  exact_mod_cast this
 ·dsimp only
  refine⟨by omega,by omega,by omega,by omega,?_⟩
  have:n<(n+1)*(n+1):=by
   have:=vk (n+1) (show 1<=n+1 by omega)
   omega
  exact_mod_cast this
theorem b5c:aH Tryz.prog 201 c5I:=by
 refine aI (((((((((nil0.ad OA).ad KQ).ad KR).ad nS).ad b3V).ad b4L).ad a0N).ad a0M).ad a0P) ⟨[2,4,5,6,8,9,1],[],[]⟩ Tryz.func201 rfl (by decide) (fun x=>[.inv {s:Int × Int // rtP (show Int from x.1) s} (fun s=>[]) (fun s=>[(1,.box [⟨tZ,(show Int from x.1)⟩]),(2,.box [⟨tZ,(0:Int)⟩]),(4,.box [⟨tZ,s.1.1⟩]),(5,.box [⟨tZ,s.1.2⟩])]) (fun s=>(s.1.2-s.1.1).toNat) ⟨(0,rtH (show Int from x.1)),c4a _⟩ (fun _=>[])]) (fun x hp=>?_)
 obtain⟨x,u⟩:=x
 change Int at x
 refine aO (let A₀:=(IntKind.wrap IntKind.i64 (Int.tdiv (aB (Nat.log2 (Int.natAbs x))) 2)+1);(isz x<=1000000000/\True)/\ifB (decide (x<0)) (True/\0=aB (isq (Int.natAbs x))/\True/\asT Int 2=0/\True) ((bP 0/\bP 1/\(isz x<=1000000000/\isz 1<=1000000000)/\True)/\((x≠0/\isz x<=268)/\True)/\ifB (decide (aB (Nat.log2 (Int.natAbs x)) > 0)) ((bP 2/\(x≠0/\isz x<=268)/\asT Int 2≠0/\(asT Int 2=2/\0<=IntKind.wrap IntKind.i64 A₀/\IntKind.wrap IntKind.i64 A₀<=4096)/\True)/\(x=x/\asT Int 0=0/\asT Int 0=0/\p2 (IntKind.wrap IntKind.i64 A₀).toNat=rtH x/\True)/\∀ (i:{ s:Int × Int // rtP x s }),let A₁:=(Prod.fst (aA i)+Prod.snd (aA i));let A₂:=(Prod.snd (aA i)-Prod.fst (aA i));let aN:=(Int.fdiv A₁ 2*Int.fdiv A₁ 2);asT Bool true=true/\((isz (aA i).2<=1000000000/\isz (aA i).1<=1000000000)/\bP 1/\(isz A₂<=999999999/\isz 1<=999999999)/\True)/\ifB (decide (bK A₂ 1 > 0)) (((isz (aA i).1<=1000000000/\isz (aA i).2<=1000000000)/\bP 2/\(isz A₁<=400000000/\isz 2<=400000000/\asT Int 2≠0)/\True)/\((isz (Int.fdiv A₁ 2)<=1000000000/\isz (Int.fdiv A₁ 2)<=1000000000)/\(isz aN<=999999999/\isz x<=999999999)/\True)/\ifB (decide (bK aN x<=0)) (∃ (i':{ s:Int × Int // rtP x s }),Int.toNat (Prod.snd (aA i')-Prod.fst (aA i'))<Int.toNat A₂/\x=x/\asT Int 0=0/\Int.fdiv A₁ 2=Prod.fst (aA i')/\Prod.snd (aA i)=Prod.snd (aA i')/\True) (∃ (i':{ s:Int × Int // rtP x s }),Int.toNat (Prod.snd (aA i')-Prod.fst (aA i'))<Int.toNat A₂/\x=x/\asT Int 0=0/\Prod.fst (aA i)=Prod.fst (aA i')/\Int.fdiv A₁ 2=Prod.snd (aA i')/\True)) (True/\Prod.fst (aA i)=aB (isq (Int.natAbs x))/\True/\asT Int 0=0/\True)) ((x=x/\asT Int 0=0/\asT Int 0=0/\x+1=rtH x/\True)/\∀ (i:{ s:Int × Int // rtP x s }),let aU:=(Prod.fst (aA i)+Prod.snd (aA i));let aX:=(Prod.snd (aA i)-Prod.fst (aA i));let bJ:=(Int.fdiv aU 2*Int.fdiv aU 2);asT Bool true=true/\((isz (aA i).2<=1000000000/\isz (aA i).1<=1000000000)/\bP 1/\(isz aX<=999999999/\isz 1<=999999999)/\True)/\ifB (decide (bK aX 1 > 0)) (((isz (aA i).1<=1000000000/\isz (aA i).2<=1000000000)/\bP 2/\(isz aU<=400000000/\isz 2<=400000000/\asT Int 2≠0)/\True)/\((isz (Int.fdiv aU 2)<=1000000000/\isz (Int.fdiv aU 2)<=1000000000)/\(isz bJ<=999999999/\isz x<=999999999)/\True)/\ifB (decide (bK bJ x<=0)) (∃ (i':{ s:Int × Int // rtP x s }),Int.toNat (Prod.snd (aA i')-Prod.fst (aA i'))<Int.toNat aX/\x=x/\asT Int 0=0/\Int.fdiv aU 2=Prod.fst (aA i')/\Prod.snd (aA i)=Prod.snd (aA i')/\True) (∃ (i':{ s:Int × Int // rtP x s }),Int.toNat (Prod.snd (aA i')-Prod.fst (aA i'))<Int.toNat aX/\x=x/\asT Int 0=0/\Prod.fst (aA i)=Prod.fst (aA i')/\Int.fdiv aU 2=Prod.snd (aA i')/\True)) (True/\Prod.fst (aA i)=aB (isq (Int.natAbs x))/\True/\asT Int 0=0/\True)))) (by kernel_rfl) ?_
 try simp only[zP0]
 try dsimp only[aB,asT,aA,aC,Ty.den,Lf.den] at *
 try simp only[zP1]
 try simp only[zP2]
 obtain⟨h0,hs⟩:0<x/\isz x<=268:=hp
 have hN:x.natAbs≠0:=by omega
 have lg:=b0q hs ((Nat.le_log2 hN).1 (aj _))
 have td:(((x.natAbs.log2:Nat):Int)).tdiv 2=((x.natAbs.log2 / 2:Nat):Int):=by
  rw[Int.tdiv_eq_ediv_of_nonneg (by omega)];omega
 rw[td,aJ (n:=((x.natAbs.log2 / 2:Nat):Int)) (by omega) (by omega),aJ (by omega) (by omega)]
 have hH:isz (rtH x)<=5000:=by
  unfold rtH
  split
  ·exact ak (a3n _) (by omega)
  ·have:=sG x 1
   have:isz 1<=1:=by decide +kernel
   omega
 refine⟨by omega,fun h=>by omega,fun _=>⟨⟨by decide,by decide,by omega,by decide +kernel⟩,⟨by omega,hs⟩,fun h=>⟨⟨by decide,⟨by omega,hs⟩,by omega,by omega,by omega⟩,?_,fun i=>?yA⟩,fun h=>⟨?_,fun i=>?yA2⟩⟩⟩
 ·unfold rtH
  rw[iw (by omega)]
  rw[show (((x.natAbs.log2 / 2:Nat):Int)+1).toNat=x.natAbs.log2 / 2+1 by omega];rfl
 rotate_left
 ·unfold rtH
  rw[eu (by omega)]
 all_goals
  obtain⟨⟨lo,hi⟩,hP⟩:=i
  obtain⟨p1,p2,p3,p4,p5⟩:=hP h0
  dsimp only at *
  have z:∀ y:Int,0<=y->y<=rtH x->isz y<=5000:=fun y a b=>ak (rF (by omega)) hH
  have z1:=z hi (by omega) p3
  have z2:=z lo p1 (by omega)
  have z3:=OX hi lo
  have z4:=sG lo hi
  have fd:(lo+hi).fdiv 2=(lo+hi) / 2:=by
   rw[Int.fdiv_eq_ediv_of_nonneg _ (by omega)]
  have c1:∀ a b:Int,bK a b > 0↔b<a:=fun a b=>by unfold bK;split<;>(try split)<;>omega
  have c2:∀ a b:Int,bK a b<=0↔a<=b:=fun a b=>by unfold bK;split<;>(try split)<;>omega
  simp only[c1,c2,fd]
  have z5:=z ((lo+hi) / 2) (by omega) (by omega)
  have z6:=fJ ((lo+hi) / 2) ((lo+hi) / 2)
  refine⟨⟨⟨by omega,by omega⟩,by decide,by omega,by decide +kernel⟩,fun g=>⟨⟨⟨by omega,by omega⟩,by decide,by omega,by decide +kernel,by omega⟩,⟨by omega,by omega,by omega⟩,fun k=>⟨⟨((lo+hi) / 2,hi),fun _=>⟨by dsimp only;omega,by dsimp only;omega,p3,k,p5⟩⟩,by dsimp only;omega,rfl,rfl⟩,fun k=>⟨⟨(lo,(lo+hi) / 2),fun _=>⟨p1,by dsimp only;omega,by dsimp only;omega,p4,by dsimp only;omega⟩⟩,by dsimp only;omega,rfl,rfl⟩⟩,fun g=>?_⟩
  obtain⟨n,rfl⟩:=jv p1
  obtain⟨m,rfl⟩:=jv (show 0<=x by omega)
  have e:hi=(n:Int)+1:=by omega
  subst e
  rw[Int.natAbs_natCast]
  have a1:n*n<=m:=by exact_mod_cast p4
  have a2:m<(n+1)*(n+1):=by exact_mod_cast p5
  rw[a9N (by omega) a1 a2]
abbrev tPz:Ty:=.pair tZ (.pair tZ .unit)
noncomputable def c6h:Ctr:=⟨[tPz],[tB],fun x=>isz x.1.1<=999999999/\isz x.1.2.1<=999999999,fun x=>(decide ((0:Int)<(show Int from x.1.2.1)/\Int.gcd x.1.1 x.1.2.1=1),())⟩
noncomputable def c6j:Ctr:=⟨[tPz],[tQ],fun x=>isz x.1.1<=999999999/\isz x.1.2.1<=999999999,fun x=>(vlP x.1.1 x.1.2.1,())⟩
theorem b5D:aH Tryz.prog 46 c6h:=by
 refine aI (((((nil0.ad a2N).ad wB).ad b2t).ad a0N).ad a0z) ⟨[],[],[]⟩ Tryz.func46 rfl (by decide) (fun x=>[]) (fun x hp=>?_)
 obtain⟨p,u⟩:=x
 change Int × Int × Unit at p
 refine aO (let A₀:=(asT Int p.2.1);let A₁:=(asT Bool true=true->asT Bool true=true/\True);let A₂:=(asT Int p.1);let aN:=(0<asT Int p.2.1/\Int.gcd A₂ A₀=1);(True/\A₁/\(asT Bool true=true->asT Bool true=true/\True/\True)/\A₁/\((asT Bool !true)=false->asT Bool true=true)/\A₁/\(asT Bool true=true->asT Bool true=true/\isz A₀<=1000000000/\True)/\A₁/\(asT Bool (bif !true then true else !true)=false->asT Bool true=true)/\True)/\ifB (bif bif !true then true else !true then true else decide (sgn A₀<=0)) (True/\false=decide aN/\True) (((isz A₂<=1000000000/\isz A₀<=1000000000)/\bP 1/\(isz (aB (Int.gcd A₂ A₀))<=999999999/\isz 1<=999999999)/\True)/\True/\(bK (aB (Int.gcd A₂ A₀)) 1==0)=decide aN/\True)) (by kernel_rfl) ?_
 try simp only[zP0]
 try dsimp only[aB,asT,aA,aC,Ty.den,Lf.den] at *
 try simp only[zP1]
 try simp only[zP2]
 obtain⟨n,d,t⟩:=p
 obtain⟨l1,l2⟩:isz n<=999999999/\isz d<=999999999:=hp
 have e:sgn d<=0↔¬ 0<d:=by unfold sgn;rw[<-Int.sign_pos_iff];omega
 dsimp only at *
 refine⟨fun _=>by omega,fun h=>?_,fun h=>⟨⟨⟨by omega,by omega⟩,by decide,?_,by decide +kernel⟩,?_⟩⟩
 ·have h:sgn d<=0:=by
   rcases h with(h|h)|h
   ·cases h
   ·cases h
   ·exact og h
  rw[je (fun c=>(e.1 h) c.1)]
 all_goals
  have hd:0<d:=by
   have:=yg h
   rw[e] at this;omega
 ·exact jT (by omega) l2
 ·have c:∀ x:Int,bK x 1=0↔x=1:=fun x=>by unfold bK;split<;>(try split)<;>omega
  by_cases g:Int.gcd n d=1
  ·rw[jf ⟨hd,g⟩,g];rfl
  ·rw[je (fun k=>g k.2),uo]
   exact fun k=>g (by have:=(c _).1 k;omega)
theorem b5F:aH Tryz.prog 78 c6j:=by
 refine aI ((nil0.ad DN).ad b5D) ⟨[2],[],[]⟩ Tryz.func78 rfl (by decide) (fun x=>[]) (fun x hp=>?_)
 obtain⟨p,u⟩:=x
 change Int × Int × Unit at p
 refine aO (let A₁:=(asT Int p.1);let A₂:=p.2.1;let A₀:=(asT Int A₂);((isz A₁<=999999999/\isz A₀<=999999999)/\True)/\ifB (decide (0<asT Int A₂/\Int.gcd A₁ A₀=1)) ((0<asT Int A₂/\Int.gcd A₁ A₀=1/\True)/\Rat.divInt A₁ A₀=vlP A₁ A₀/\True) ((bP 0/\True)/\True/\aV 0=vlP A₁ A₀/\True)) (by kernel_rfl) ?_
 try simp only[zP0]
 try dsimp only[aB,asT,aA,aC,Ty.den,Lf.den] at *
 try simp only[zP1]
 try simp only[zP2]
 refine⟨hp,fun h=>⟨h,(iw h).symm⟩,fun h=>⟨by decide,?_⟩⟩
 unfold vlP
 rw[eu h];decide +kernel
theorem a4n {n d:Int} {K:Nat} (h1:isz n<=K) (h2:isz d<=K):rsz (vlP n d)<=K+1:=by
 unfold vlP
 split
 ·rename_i h
  exact ak (qR n d (by omega) h1 h2) (by omega)
 ·have:rsz (0:Rat)<=1:=by decide +kernel
  omega
noncomputable def c5w:Ctr:=⟨[tPz,tPz],[tQ],fun x=>(isz x.1.1<=100000/\isz x.1.2.1<=100000)/\(isz x.2.1.1<=100000/\isz x.2.1.2.1<=100000),fun x=>(vlP x.1.1 x.1.2.1*vlP x.2.1.1 x.2.1.2.1,())⟩
theorem b3Z:aH Tryz.prog 75 c5w:=by
 refine aI (((nil0.ad KQ).ad QB).ad b5F) ⟨[4,5,6],[],[]⟩ Tryz.func75 rfl (by decide) (fun x=>[]) (fun x hp=>?_)
 obtain⟨p,q,u⟩:=x
 change Int × Int × Unit at p
 change Int × Int × Unit at q
 refine aO (let A₂:=(asT Int p.2.1);let aN:=(asT Int q.2.1);let aU:=(asT Int p.1);let A₀:=(vlP aU A₂);let aX:=(asT Int q.1);let A₁:=(vlP aX aN);let bJ:=(aB (Rat.den A₀)*aB (Rat.den A₁));((isz aU<=999999999/\isz A₂<=999999999)/\True)/\((isz aX<=999999999/\isz aN<=999999999)/\True)/\((isz (Rat.num A₀)<=1000000000/\isz (Rat.num A₁)<=1000000000)/\(isz (aB (Rat.den A₀))<=1000000000/\isz (aB (Rat.den A₁))<=1000000000)/\(isz (Rat.num A₀*Rat.num A₁)<=400000000/\isz bJ<=400000000/\aB (Rat.den A₀)*aB (Rat.den A₁)≠0)/\True)/\True/\Rat.divInt (Rat.num A₀*Rat.num A₁) bJ=vlP aU A₂*vlP aX aN/\True) (by kernel_rfl) ?_
 try simp only[zP0]
 try dsimp only[aB,asT,aA,aC,Ty.den,Lf.den] at *
 try simp only[zP1]
 try simp only[zP2]
 obtain⟨n,d,t⟩:=p
 obtain⟨n',d',t'⟩:=q
 obtain⟨⟨l1,l2⟩,l3,l4⟩:(isz n<=100000/\isz d<=100000)/\isz n'<=100000/\isz d'<=100000:=hp
 dsimp only
 have z1:=a4n l1 l2
 have z2:=a4n l3 l4
 generalize vlP n d=x at *
 generalize vlP n' d'=y at *
 have a1:=gX x
 have a2:=fU x
 have a3:=gX y
 have a4:=fU y
 have m1:=fJ x.num y.num
 have m2:=fJ ((x.den:Nat):Int) ((y.den:Nat):Int)
 exact⟨⟨by omega,by omega⟩,⟨by omega,by omega⟩,⟨⟨by omega,by omega⟩,⟨by omega,by omega⟩,by omega,by omega,b7b⟩,JX x y⟩
noncomputable def c5J:Ctr:=⟨[tQ],[tPz,tB],fun x=>(0:Rat)<(show Rat from x.1)/\rsz x.1<=268,fun x=>((((isq (show Rat from x.1).num.natAbs:Nat):Int),((isq (show Rat from x.1).den:Nat):Int),()),rtB x.1,())⟩
theorem b1A:aH Tryz.prog 42 (b2C s19 (fun x y=>decide (x=y))):=by
 refine aI (nil0.ad a0w) ⟨[],[],[]⟩ Tryz.func42 rfl (by decide) (fun x=>[]) (fun x hp=>?_)
 obtain⟨x,y,u⟩:=x
 change Rat at x
 change Rat at y
 refine aO ((s19 x y/\True)/\True/\decide (x=y)=decide (x=y)/\True) (by kernel_rfl) ?_
 exact⟨⟨hp,trivial⟩,trivial,rfl,trivial⟩
theorem b5d:aH Tryz.prog 103 c5J:=by
 refine aI (((nil0.ad b5c).ad b3Z).ad b1A) ⟨[2,4,6,8],[],[]⟩ Tryz.func103 rfl (by decide) (fun x=>[]) (fun x hp=>?_)
 obtain⟨q,u⟩:=x
 change Rat at q
 refine aO (let A₁:=(isq (Int.natAbs (Rat.num q)));let A₂:=(isq (Int.natAbs (aB (Rat.den q))));let A₀:=(aB A₂);((0<Rat.num q/\isz (Rat.num q)<=268)/\True)/\((0<aB (Rat.den q)/\isz (aB (Rat.den q))<=268)/\True)/\(((isz (aB A₁)<=100000/\isz A₀<=100000)/\isz (aB A₁)<=100000/\isz A₀<=100000)/\s19 (vlP (aB A₁) A₀*vlP (aB A₁) A₀) q/\True)/\True/\(aB A₁,aB A₂,())=(aB A₁,aB (isq (Rat.den q)),())/\True/\decide (vlP (aB A₁) A₀*vlP (aB A₁) A₀=q)=rtB q/\True) (by kernel_rfl) ?_
 try simp only[zP0]
 try dsimp only[aB,asT,aA,aC,Ty.den,Lf.den] at *
 try simp only[zP1]
 try simp only[zP2]
 obtain⟨h0,hs⟩:0<q/\rsz q<=268:=hp
 have n1:=gX q
 have d1:=fU q
 have hd:=q.den_nz
 have en:(((q.den:Nat):Int)).natAbs=q.den:=rfl
 have a1:=OU q.num.natAbs
 have a2:=OU q.den
 have a3:isz ((q.num.natAbs:Nat):Int)=isz q.num:=by unfold isz;rw[Int.natAbs_natCast]
 rw[en,b8g h0]
 have z:=a4n (K:=268) (n:=((isq q.num.natAbs:Nat):Int)) (d:=((isq q.den:Nat):Int)) (by omega) (by omega)
 have m:=cO (vlP ((isq q.num.natAbs:Nat):Int) ((isq q.den:Nat):Int)) (vlP ((isq q.num.natAbs:Nat):Int) ((isq q.den:Nat):Int))
 exact⟨⟨JQ h0,by omega⟩,⟨by omega,by omega⟩,⟨⟨by omega,by omega⟩,by omega,by omega⟩,rfl,rfl⟩
theorem sq0 (x:Rat) (h:x*x=0):x=0:=by grind
theorem k01 {a b c d e f g h i:Rat} (r00:0+a*a+b*b+c*c=1) (r01:0+a*d+b*e+c*f=0) (r02:0+a*g+b*h+c*i=0) (r11:0+d*d+e*e+f*f=1) (r12:0+d*g+e*h+f*i=0) (r22:0+g*g+h*h+i*i=1) (dt:a*(e*i-f*h)+b*(f*g-d*i)+c*(d*h-e*g)=1) :
  (1+a+e+i)*(1+a-e-i)=(h-f)*(h-f)/\(1+a+e+i)*(1-a+e-i)=(c-g)*(c-g)/\(1+a+e+i)*(1-a-e+i)=(d-b)*(d-b)/\(1+a-e-i)*(1-a+e-i)=(b+d)*(b+d)/\(1+a-e-i)*(1-a-e+i)=(c+g)*(c+g)/\(1-a+e-i)*(1-a-e+i)=(f+h)*(f+h):=by
 have q0:a=e*i-f*h:=by grind
 have q4:e=a*i-c*g:=by grind
 have q8:i=a*e-b*d:=by grind
 have q1:b=f*g-d*i:=by grind
 have q2:c=d*h-e*g:=by grind
 have q3:d=c*h-b*i:=by grind
 have q5:f=b*g-a*h:=by grind
 have q6:g=b*f-c*e:=by grind
 have q7:h=c*d-a*f:=by grind
 refine⟨?_,?_,?_,?_,?_,?_⟩<;>grind
def omR (e:Mt) (k j:Nat):Rat:=(omE e k).getD j 0
theorem row_zero {m:MQ} (hm:m33 150000 m) (hT:pX m=true) {k:Nat} (hk:k<4) (hz:omR (ent m) k k=0):∀ j,j<4->omR (ent m) k j=0:=by
 obtain⟨hO,dt⟩:=qU.1 hT
 have r:∀ i j,i<3->j<3->0+ent m i 0*ent m j 0+ent m i 1*ent m j 1+ent m i 2*ent m j 2=b7U i j:=fun i j hi hj=>by
  have:=hO i hi j hj
  unfold tuE at this
  rw[<-this]
  exact(IV hm hi hj).symm
 generalize ent m=e at *
 have c1:((1:Int):Rat)=1:=Rat.intCast_one
 have cm:((-1:Int):Rat)=-1:=by decide +kernel
 unfold lU at dt
 obtain⟨s01,s02,s03,s12,s13,s23⟩:=k01 (r 0 0 (by omega) (by omega)) (r 0 1 (by omega) (by omega)) (r 0 2 (by omega) (by omega)) (r 1 1 (by omega) (by omega)) (r 1 2 (by omega) (by omega)) (r 2 2 (by omega) (by omega)) (by grind)
 have d0:omR e 0 0=1+e 0 0+e 1 1+e 2 2:=by
  show ((1:Int):Rat)+((1:Int):Rat)*e 0 0+((1:Int):Rat)*e 1 1+((1:Int):Rat)*e 2 2=_
  rw[c1];grind
 have d1:omR e 1 1=1+e 0 0-e 1 1-e 2 2:=by
  show ((1:Int):Rat)+((1:Int):Rat)*e 0 0+((-1:Int):Rat)*e 1 1+((-1:Int):Rat)*e 2 2=_
  rw[c1,cm];grind
 have d2:omR e 2 2=1-e 0 0+e 1 1-e 2 2:=by
  show ((1:Int):Rat)+((-1:Int):Rat)*e 0 0+((1:Int):Rat)*e 1 1+((-1:Int):Rat)*e 2 2=_
  rw[c1,cm];grind
 have d3:omR e 3 3=1-e 0 0-e 1 1+e 2 2:=by
  show ((1:Int):Rat)+((-1:Int):Rat)*e 0 0+((-1:Int):Rat)*e 1 1+((1:Int):Rat)*e 2 2=_
  rw[c1,cm];grind
 intro j hj
 match k,hk,j,hj with
 | 0,_,0,_=>exact hz
 | 0,_,1,_=>rw[d0] at hz;rw[hz,Rat.zero_mul] at s01;exact sq0 _ s01.symm
 | 0,_,2,_=>rw[d0] at hz;rw[hz,Rat.zero_mul] at s02;exact sq0 _ s02.symm
 | 0,_,3,_=>rw[d0] at hz;rw[hz,Rat.zero_mul] at s03;exact sq0 _ s03.symm
 | 1,_,0,_=>rw[d1] at hz;rw[hz,Rat.mul_zero] at s01;exact sq0 _ s01.symm
 | 1,_,1,_=>exact hz
 | 1,_,2,_=>rw[d1] at hz;rw[hz,Rat.zero_mul] at s12;exact sq0 _ s12.symm
 | 1,_,3,_=>rw[d1] at hz;rw[hz,Rat.zero_mul] at s13;exact sq0 _ s13.symm
 | 2,_,0,_=>rw[d2] at hz;rw[hz,Rat.mul_zero] at s02;exact sq0 _ s02.symm
 | 2,_,1,_=>rw[d2] at hz;rw[hz,Rat.mul_zero] at s12;exact sq0 _ s12.symm
 | 2,_,2,_=>exact hz
 | 2,_,3,_=>rw[d2] at hz;rw[hz,Rat.zero_mul] at s23;exact sq0 _ s23.symm
 | 3,_,0,_=>rw[d3] at hz;rw[hz,Rat.mul_zero] at s03;exact sq0 _ s03.symm
 | 3,_,1,_=>rw[d3] at hz;rw[hz,Rat.mul_zero] at s13;exact sq0 _ s13.symm
 | 3,_,2,_=>rw[d3] at hz;rw[hz,Rat.mul_zero] at s23;exact sq0 _ s23.symm
 | 3,_,3,_=>exact hz
theorem TS {m:MQ} (hm:m33 150000 m) (hT:pX m=true) {k:Nat} (hk:k<4):omZ (ent m) k=true↔omR (ent m) k k≠0:=by
 unfold omZ
 rw[xZ]
 exact⟨fun⟨j,hj,hn⟩ hz=>hn (row_zero hm hT hk hz j hj),fun h=>⟨k,hk,h⟩⟩
theorem b0L {m:MQ} (hm:m33 150000 m) (hT:pX m=true) (h:∀ j,j<4->omR (ent m) j j=0):omT m=((0,0,0,0,()),15,()):=by
 have n:∀ k,k<4->¬ omZ (ent m) k=true:=fun k hk hn=>(TS hm hT hk).1 hn (h k hk)
 unfold omT omF
 rw[iw hT,eu (n 0 (by omega)),eu (n 1 (by omega)),eu (n 2 (by omega)),eu (n 3 (by omega))]
theorem b0M {m:MQ} (hm:m33 150000 m) (hT:pX m=true) {k:Nat} (hk:k<4) (h:∀ j,j<k->omR (ent m) j j=0) (hn:omR (ent m) k k≠0):omT m=omP (ent m) k:=by
 have n:∀ j,j<k->¬ omZ (ent m) j=true:=fun j hj hn=>(TS hm hT (by omega)).1 hn (h j hj)
 have y:=(TS hm hT hk).2 hn
 unfold omT omF
 rw[iw hT]
 match k,hk with
 | 0,_=>rw[iw y]
 | 1,_=>rw[eu (n 0 (by omega)),iw y]
 | 2,_=>rw[eu (n 0 (by omega)),eu (n 1 (by omega)),iw y]
 | 3,_=>rw[eu (n 0 (by omega)),eu (n 1 (by omega)),eu (n 2 (by omega)),iw y]
noncomputable def c5M:Ctr:=⟨[tZ,tZ],[tB],fun x=>isz x.1<=1000000/\isz x.2.1<=1000000,fun x=>(decide ((show Int from x.1)=(show Int from x.2.1)),())⟩
theorem b5g:aH Tryz.prog 107 c5M:=by
 refine aI Lib.nil ⟨[],[],[]⟩ Tryz.func107 rfl (by decide) (fun x=>[.inv {k:Nat // k<=(dig (show Int from x.1).natAbs).length/\(dig (show Int from x.1).natAbs).take k=(dig (show Int from x.2.1).natAbs).take k} (fun k=>[(5,.val tI (k.1:Int))]) (fun k=>[]) (fun k=>(dig (show Int from x.1).natAbs).length-k.1) ⟨0,by omega,rfl⟩ (fun _=>[])]) (fun x hp=>?_)
 obtain⟨x,y,u⟩:=x
 change Int at x
 change Int at y
 refine aO (let A₂:=(dig (Int.natAbs x)).length;let aN:=(True/\false=decide (x=y)/\True);let aU:=(decide (x<0) != decide (y<0));let A₀:=(aU==false);let A₁:=(A₀=true->A₀=true/\True);let aX:=(dig (Int.natAbs y)).length;(A₁/\A₁/\A₁/\A₁/\(A₀=true->A₀=true/\A₀=true/\True)/\(aU=false->A₀=true)/\True)/\ifB (bif decide (x<0) != decide (y<0) then true else aB A₂ != aB aX) aN ((asT Int 0=0/\True)/\∀ (i:{ k:Nat // k<=List.length (dig (Int.natAbs x))/\List.take k (dig (Int.natAbs x))=List.take k (dig (Int.natAbs y)) }),asT Bool true=true/\ifB (decide (aB (aA i)<aB A₂)) ((0<=aB (aA i)/\aB (aA i)<aB A₂/\0<=aB (aA i)/\aB (aA i)<aB aX/\True)/\ifB (aB (List.getD (dig (Int.natAbs x)) (aB (aA i)).toNat 0) != aB (List.getD (dig (Int.natAbs y)) (aB (aA i)).toNat 0)) aN (∃ (i':{ k:Nat // k<=List.length (dig (Int.natAbs x))/\List.take k (dig (Int.natAbs x))=List.take k (dig (Int.natAbs y)) }),List.length (dig (Int.natAbs x))-aA i'<List.length (dig (Int.natAbs x))-aA i/\IntKind.wrap IntKind.i64 (aB (aA i)+1)=aB (aA i')/\True)) (True/\true=decide (x=y)/\True))) (by kernel_rfl) ?_
 try simp only[zP0]
 try dsimp only[aB,asT,aA,aC,Ty.den,Lf.den] at *
 try simp only[zP1]
 try simp only[zP2]
 have hp:isz x<=1000000/\isz y<=1000000:=hp
 obtain⟨hx,hy⟩:=hp
 have hx:(dig x.natAbs).length<=1000000:=hx
 have key:decide (x<0)=decide (y<0)->dig x.natAbs=dig y.natAbs->x=y:=fun h1 h2=>by
  have h3:x.natAbs=y.natAbs:=by rw[<-aT x.natAbs,h2,aT]
  by_cases h:x<0
  ·rw[jf h] at h1
   have:=og h1.symm
   omega
  ·rw[je h] at h1
   have:=yg h1.symm
   omega
 refine⟨fun h=>(je fun e=>?_).symm,fun h i=>⟨fun h1=>⟨⟨by omega,h1,by omega,by omega⟩,fun h2=>(je fun e=>by subst e;exact h2 rfl).symm,fun h2=>?_⟩,fun h1=>(jf (key h.1 ?_)).symm⟩⟩
 ·rw[e] at h;exact h.elim (fun h=>h rfl) (fun h=>h rfl)
 ·refine⟨⟨i.1+1,by omega,?_⟩,by simp only;omega,by rw[aJ (by omega) (by omega)];rfl⟩
  have i1:i.1<(dig x.natAbs).length:=by omega
  have i2:i.1<(dig y.natAbs).length:=by omega
  rw[bf,bf,bn i1,bn i2] at h2
  rw[Ci,Ci,i.2.2,bn i1,bn i2]
  exact ql (fun t=>List.take i.1 (dig y.natAbs)++(some t).toList) h2
 ·have h3:=i.2.2
  rw[jc (by omega),jc (by omega)] at h3
  exact h3
theorem c1C:aH Tryz.prog 223 (a4B 999999999):=(a3a fun v x w h1 l1=>a3Q v x w h1 l1)
end Go.Proofs.YtbkocjmmbkifjaaGreat
