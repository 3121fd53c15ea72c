/-
  Lemmas for the theorem vstations28_holds, part 23 of 34.
-/
import Derived.Lib.AppendZerosOnto
import Derived.Lib.Walk
import Derived.Test.YtbkocjmmbkifjaaGreatQs22
namespace Go.Proofs.YtbkocjmmbkifjaaGreat
open Go Go.RowKit
set_option maxRecDepth 100000
set_option maxHeartbeats 1000000
set_option linter.unusedVariables false
set_option linter.unusedSimpArgs false
theorem c5m (x y:Int):sgn (x-y)=dF x y:=by
 unfold dF sgn
 rcases Cm x y with h|h|h
 ·rw[jm h,uj (by omega)]
 ·rw[ji (by omega),ji (by omega),h,Int.sub_self];rfl
 ·rw[ji (by omega),jm h,wu (by omega)]
theorem c5n (x y:Rat):sgn (x-y).num=KL x y:=by
 unfold sgn KL
 rw[b1H]
 have a:(x-y<0)=(x<y):=propext ⟨fun h=>by grind,fun h=>by grind⟩
 have b:(0<x-y)=(y<x):=propext ⟨fun h=>by grind,fun h=>by grind⟩
 simp only[a,b]
theorem c2w (x y:Rat):(KL x y==0)=decide (x=y):=by
 unfold KL
 by_cases h1:x<y
 ·rw[jm h1,ny (fun e=>by subst e;exact absurd h1 (by grind))];rfl
 ·by_cases h2:y<x
  ·rw[ji h1,jm h2,ny (fun e=>by subst e;exact absurd h2 (by grind))];rfl
  ·rw[ji h1,ji h2,uf (by grind)];rfl
theorem c3w {x:Int}:(sgn x==0)=decide (x=0):=c1b
theorem b2W:aI Tryz.prog 131 (cZ2 fun x y=>((Int.gcd x y:Nat):Int)):=(a8K fun v u x y w h1 h2 l1 l2=>b1T v u x y w h1 h2 l1 l2)
theorem c1l:aI Tryz.prog 129 cIV:=(a8I fun v ok x w h=>xW v ok x w h)
def c2s (K:Nat) (g:Int->Int->Int):Ctr:=⟨[tZ,tZ],[tI],fun x=>isz x.1<=K/\isz x.2.1<=K,fun x=>(g x.1 x.2.1,())⟩
theorem b5J:aI Tryz.prog 130 (c2s 999999999 dF):=by
 refine aK ((nil0.ad DN).ad a6M) ⟨[],[],[]⟩ Tryz.func130 rfl (by decide) (fun x=>[]) (fun x hp=>?_)
 obtain⟨x,y,u⟩:=x
 change Int at x
 change Int at y
 refine aU (((isz x<=1000000000/\isz y<=1000000000)/\isz (x-y)<=1000000000/\True)/\True/\sgn (x-y)=dF x y/\True) (by kernel_rfl) ?_
 have hZ:(⟨false,0,[],[]⟩:aH)=bF:=rfl
 try simp only[aC,aj,ah]
 try dsimp only[aB,asT,aA,aF,Ty.den,Lf.den] at *
 try simp only[hZ,Int.toNat_natCast,aC,aj,ah,jh,jg,gy,bf]
 try simp only[bT,bP,List.all_cons,List.all_nil,jk,dw,ig,jf,jy,ne_eq,au,bg,dn,eu,jd,oq,jr,ou,jh,jg,iw,bn,List.length_cons,List.length_nil]
 obtain⟨l1,l2⟩:isz x<=999999999/\isz y<=999999999:=hp
 have:=a0B x y
 exact⟨⟨⟨by omega,by omega⟩,by omega⟩,c5m x y⟩
theorem a0Y:aI Tryz.prog 132 cIZ:=by
 refine aK (nil0.ad a6K) ⟨[2],[],[]⟩ Tryz.func132 rfl (by decide) (fun x=>[]) (fun x hp=>?_)
 obtain⟨n,u⟩:=x
 change Int at n
 refine aU ((aX n/\True)/\True/\n=n/\True) (by kernel_rfl) ?_
 have hZ:(⟨false,0,[],[]⟩:aH)=bF:=rfl
 try simp only[aC,aj,ah]
 try dsimp only[aB,asT,aA,aF,Ty.den,Lf.den] at *
 try simp only[hZ,Int.toNat_natCast,aC,aj,ah,jh,jg,gy,bf]
 try simp only[bT,bP,List.all_cons,List.all_nil,jk,dw,ig,jf,jy,ne_eq,au,bg,dn,eu,jd,oq,jr,ou,jh,jg,iw,bn,List.length_cons,List.length_nil]
 exact hp
noncomputable def c4u:Ctr:=⟨[tZ,tZ],[tQ],fun x=>isz x.1<=400000000/\isz x.2.1<=400000000/\(show Int from x.2.1)≠0,fun x=>(Rat.divInt x.1 x.2.1,())⟩
theorem a0Q:aI Tryz.prog 162 c4u:=by
 refine aK ((((nil0.ad b2W).ad QA).ad DN).ad a6L) ⟨[4,5,6,7,9,10],[],[]⟩ Tryz.func162 rfl (by decide) (fun x=>[]) (fun x hp=>?_)
 obtain⟨x,y,u⟩:=x
 change Int at x
 change Int at y
 refine aU (((isz x<=1000000000/\isz y<=1000000000)/\True)/\(isz y<=1000000000/\True)/\ifB (decide (sgn y<0)) ((isz (aB (Int.gcd x y))<=1000000000/\True)/\((isz x<=400000000/\isz (-aB (Int.gcd x y))<=400000000/\-aB (Int.gcd x y)≠0)/\True)/\((isz y<=400000000/\isz (-aB (Int.gcd x y))<=400000000/\-aB (Int.gcd x y)≠0)/\True)/\(0<Int.fdiv y (-aB (Int.gcd x y))/\Int.gcd (Int.fdiv x (-aB (Int.gcd x y))) (Int.fdiv y (-aB (Int.gcd x y)))=1/\True)/\Rat.divInt (Int.fdiv x (-aB (Int.gcd x y))) (Int.fdiv y (-aB (Int.gcd x y)))=Rat.divInt x y/\True) (((isz x<=400000000/\isz (aB (Int.gcd x y))<=400000000/\aB (Int.gcd x y)≠0)/\True)/\((isz y<=400000000/\isz (aB (Int.gcd x y))<=400000000/\aB (Int.gcd x y)≠0)/\True)/\(0<Int.fdiv y (aB (Int.gcd x y))/\Int.gcd (Int.fdiv x (aB (Int.gcd x y))) (Int.fdiv y (aB (Int.gcd x y)))=1/\True)/\Rat.divInt (Int.fdiv x (aB (Int.gcd x y))) (Int.fdiv y (aB (Int.gcd x y)))=Rat.divInt x y/\True)) (by kernel_rfl) ?_
 have hZ:(⟨false,0,[],[]⟩:aH)=bF:=rfl
 try simp only[aC,aj,ah]
 try dsimp only[aB,asT,aA,aF,Ty.den,Lf.den] at *
 try simp only[hZ,Int.toNat_natCast,aC,aj,ah,jh,jg,gy,bf]
 try simp only[bT,bP,List.all_cons,List.all_nil,jk,dw,ig,jf,jy,ne_eq,au,bg,dn,eu,jd,oq,jr,ou,jh,jg,iw,bn,List.length_cons,List.length_nil]
 obtain⟨l1,l2,hy⟩:isz x<=400000000/\isz y<=400000000/\y≠0:=hp
 have g1:isz ((Int.gcd x y:Nat):Int)<=400000000:=kU hy l2
 have g2:((Int.gcd x y:Nat):Int)≠0:=gcd_ne hy
 have g3:isz (-((Int.gcd x y:Nat):Int))<=400000000:=by rw[kH];exact g1
 refine⟨⟨by omega,by omega⟩,by omega,fun h=>⟨by omega,⟨l1,g3,by omega⟩,⟨l2,g3,by omega⟩,?_⟩,fun h=>⟨⟨l1,g1,g2⟩,⟨l2,g1,g2⟩,?_⟩⟩
 ·have:=rd8 (a7R (n:=x) (Dy.1 h))
  exact⟨⟨this.1,this.2.1⟩,this.2.2⟩
 ·have h0:¬ y<0:=fun e=>h (Dy.2 e)
  have:=rd8 (a7S (n:=x) (show 0<y by omega))
  exact⟨⟨this.1,this.2.1⟩,this.2.2⟩
theorem JO:aI Tryz.prog 143 (cIQ aX (fun i=>(i:Rat))):=by
 refine aK (nil0.ad a0Y) ⟨[2],[],[]⟩ Tryz.func143 rfl (by decide) (fun x=>[]) (fun x hp=>?_)
 obtain⟨n,u⟩:=x
 change Int at n
 refine aU ((aX n/\aX 1/\True)/\(asT Int 0<1/\Int.gcd n 1=1/\True)/\Rat.divInt n 1=aO n/\True) (by kernel_rfl) ?_
 have hZ:(⟨false,0,[],[]⟩:aH)=bF:=rfl
 try simp only[aC,aj,ah]
 try dsimp only[aB,asT,aA,aF,Ty.den,Lf.den] at *
 try simp only[hZ,Int.toNat_natCast,aC,aj,ah,jh,jg,gy,bf]
 try simp only[bT,bP,List.all_cons,List.all_nil,jk,dw,ig,jf,jy,ne_eq,au,bg,dn,eu,jd,oq,jr,ou,jh,jg,iw,bn,List.length_cons,List.length_nil]
 exact⟨⟨hp,by omega,by omega⟩,⟨by omega,Int.gcd_one_right _⟩,by rw[show (1:Int)=((1:Nat):Int) from rfl,Rat.divInt_ofNat];exact Rat.mkRat_one n⟩
theorem b5p:aI Tryz.prog 46 (b6N 999999999):=by
 refine aK (((((nil0.ad b2W).ad DN).ad c1l).ad b5J).ad a0Y) ⟨[],[],[]⟩ Tryz.func46 rfl (by decide) (fun x=>[]) (fun x hp=>?_)
 obtain⟨x,u⟩:=x
 change gW × gW × Unit at x
 refine aU (let A₁:=(asT gW x.2.1);let A₂:=(asT gW x.1);let A₀:=(bif !gW.ok A₂ then true else !gW.ok A₁);let aJ:=((!gW.ok A₂)==false);let aT:=((A₀==false)=true->(A₀==false)=true/\True);let bV:=(aB (Int.gcd (gW.x A₂) (gW.x A₁)));let dH:=(aJ=true->aJ=true/\True);(True/\dH/\(aJ=true->aJ=true/\True/\True)/\dH/\((!gW.ok A₂)=false->aJ=true)/\aT/\((A₀==false)=true->(A₀==false)=true/\gW.ok A₁=true/\isz (gW.x A₁)<=1000000000/\True)/\aT/\(A₀=false->(A₀==false)=true)/\True)/\ifB (bif bif !gW.ok A₂ then true else !gW.ok A₁ then true else decide (sgn (gW.x A₁)<=0)) (True/\false=a3f A₂ A₁/\True) ((gW.ok A₂=true/\gW.ok A₁=true/\(isz (gW.x A₂)<=1000000000/\isz (gW.x A₁)<=1000000000)/\aX 1/\(isz bV<=999999999/\isz 1<=999999999)/\True)/\True/\(dF bV 1==0)=a3f A₂ A₁/\True)) (by kernel_rfl) ?_
 have hZ:(⟨false,0,[],[]⟩:aH)=bF:=rfl
 try simp only[aC,aj,ah]
 try dsimp only[aB,asT,aA,aF,Ty.den,Lf.den] at *
 try simp only[hZ,Int.toNat_natCast,aC,aj,ah,jh,jg,gy,bf]
 try simp only[bT,bP,List.all_cons,List.all_nil,jk,dw,ig,jf,jy,ne_eq,au,bg,dn,eu,jd,oq,jr,ou,jh,jg,iw,bn,List.length_cons,List.length_nil]
 obtain⟨⟨o1,n,g⟩,⟨o2,d,h⟩,u⟩:=x
 obtain⟨l1,l2⟩:isz n<=999999999/\isz d<=999999999:=hp
 have e:(sgn d<=0)=¬ 0<d:=propext (by unfold sgn;rw[<-Int.sign_pos_iff];omega)
 simp only[e,c2u,a3f] at *
 cases o1<;>cases o2<;>simp<;>try omega
 by_cases hd:0<d
 ·have:isz ((Int.gcd n d:Nat):Int)<=999999999:=kU (by omega) l2
  simp[hd,c3g]
  exact⟨by omega,fun h=>absurd hd (by omega),⟨by omega,by omega⟩,⟨by omega,by omega⟩,this⟩
 ·simp[hd];omega
theorem a0X:aI Tryz.prog 46 (cVal 999999999):=b2S b5p
theorem JM:aI Tryz.prog 78 (cQ1 (fun x=>rsz x<=999999999) (fun x=>x)):=by
 refine aK ((nil0.ad JO).ad a0X) ⟨[2],[],[]⟩ Tryz.func78 rfl (by decide) (fun x=>[]) (fun x hp=>?_)
 obtain⟨x,u⟩:=x
 change Rat at x
 refine aU (((aH.n (eU x)<=999999999/\aH.m (eU x)<=999999999)/\True)/\True/\x=x/\True) (by kernel_rfl) ?_
 have hZ:(⟨false,0,[],[]⟩:aH)=bF:=rfl
 try simp only[aC,aj,ah]
 try dsimp only[aB,asT,aA,aF,Ty.den,Lf.den] at *
 try simp only[hZ,Int.toNat_natCast,aC,aj,ah,jh,jg,gy,bf]
 try simp only[bT,bP,List.all_cons,List.all_nil,jk,dw,ig,jf,jy,ne_eq,au,bg,dn,eu,jd,oq,jr,ou,jh,jg,iw,bn,List.length_cons,List.length_nil]
 exact sz8 (show rsz x<=999999999 from hp)
noncomputable def c2a:Ctr:=⟨[tZ,tZ],[tR,tI],fun x=>isz x.1<=390000000/\isz x.2.1<=390000000,fun x=>newT 14 x.1 x.2.1⟩
theorem YP:aI Tryz.prog 160 c2a:=by
 refine aK ((nil0.ad DN).ad a0Q) ⟨[4],[],[]⟩ Tryz.func160 rfl (by decide) (fun x=>[]) (fun x hp=>?_)
 obtain⟨x,y,u⟩:=x
 change Int at x
 change Int at y
 refine aU ((isz y<=1000000000/\True)/\ifB (sgn y==0) (True/\bF=Prod.fst (newT 14 x y)/\True/\14=Prod.fst (newT 14 x y).2/\True) (((isz x<=400000000/\isz y<=400000000/\y≠0)/\True)/\True/\eU (Rat.divInt x y)=Prod.fst (newT 14 x y)/\True/\0=Prod.fst (newT 14 x y).2/\True)) (by kernel_rfl) ?_
 have hZ:(⟨false,0,[],[]⟩:aH)=bF:=rfl
 try simp only[aC,aj,ah]
 try dsimp only[aB,asT,aA,aF,Ty.den,Lf.den] at *
 try simp only[hZ,Int.toNat_natCast,aC,aj,ah,jh,jg,gy,bf]
 try simp only[bT,bP,List.all_cons,List.all_nil,jk,dw,ig,jf,jy,ne_eq,au,bg,dn,eu,jd,oq,jr,ou,jh,jg,iw,bn,List.length_cons,List.length_nil]
 obtain⟨l1,l2⟩:isz x<=390000000/\isz y<=390000000:=hp
 rw[c3w]
 refine⟨by omega,fun h=>?_,fun h=>?_⟩
 ·unfold newT;rw[jm (qw h)];exact⟨rfl,rfl⟩
 ·unfold newT;rw[ji (ug h)];exact⟨⟨by omega,by omega,ug h⟩,rfl,rfl⟩
theorem a6p:aI Tryz.prog 17 (cQI (fun x=>rsz x<=900000000) (fun x=>sgn x.num)):=by
 refine aK ((nil0.ad DN).ad JM) ⟨[],[],[]⟩ Tryz.func17 rfl (by decide) (fun x=>[]) (fun x hp=>?_)
 obtain⟨x,u⟩:=x
 change Rat at x
 refine aU ((rsz x<=999999999/\isz (Rat.num x)<=1000000000/\True)/\True/\sgn (Rat.num x)=sgn (Rat.num x)/\True) (by kernel_rfl) ?_
 have hZ:(⟨false,0,[],[]⟩:aH)=bF:=rfl
 try simp only[aC,aj,ah]
 try dsimp only[aB,asT,aA,aF,Ty.den,Lf.den] at *
 try simp only[hZ,Int.toNat_natCast,aC,aj,ah,jh,jg,gy,bf]
 try simp only[bT,bP,List.all_cons,List.all_nil,jk,dw,ig,jf,jy,ne_eq,au,bg,dn,eu,jd,oq,jr,ou,jh,jg,iw,bn,List.length_cons,List.length_nil]
 have hp:rsz x<=900000000:=hp
 have:=(sz8 hp).1
 exact⟨by omega,by omega⟩
theorem a0P:aI Tryz.prog 101 (cQ1 (fun x=>rsz x<=190000000) (fun x=>-x)):=by
 refine aK ((nil0.ad QA).ad JM) ⟨[2,3],[],[]⟩ Tryz.func101 rfl (by decide) (fun x=>[]) (fun x hp=>?_)
 obtain⟨x,u⟩:=x
 change Rat at x
 refine aU ((rsz x<=999999999/\True)/\(isz (Rat.num x)<=1000000000/\True)/\(0<aB (Rat.den x)/\Int.gcd (-Rat.num x) (aB (Rat.den x))=1/\True)/\Rat.divInt (-Rat.num x) (aB (Rat.den x))=-x/\True) (by kernel_rfl) ?_
 have hZ:(⟨false,0,[],[]⟩:aH)=bF:=rfl
 try simp only[aC,aj,ah]
 try dsimp only[aB,asT,aA,aF,Ty.den,Lf.den] at *
 try simp only[hZ,Int.toNat_natCast,aC,aj,ah,jh,jg,gy,bf]
 try simp only[bT,bP,List.all_cons,List.all_nil,jk,dw,ig,jf,jy,ne_eq,au,bg,dn,eu,jd,oq,jr,ou,jh,jg,iw,bn,List.length_cons,List.length_nil]
 have hp:rsz x<=190000000:=hp
 obtain⟨a,b⟩:=sz8 hp
 exact⟨by omega,by omega,⟨b3x x,by have:=JF (-x);rwa [AQ,AP] at this⟩,b1j x⟩
theorem PE:aI Tryz.prog 76 (cQ2 s19 (·+·)):=by
 refine aK ((((nil0.ad a3h).ad a6J).ad a0Q).ad JM) ⟨[4,5,6],[],[]⟩ Tryz.func76 rfl (by decide) (fun x=>[]) (fun x hp=>?_)
 obtain⟨x,y,u⟩:=x
 change Rat at x
 change Rat at y
 refine aU ((rsz x<=999999999/\True)/\(rsz y<=999999999/\True)/\((isz (Rat.num x)<=1000000000/\isz (aB (Rat.den y))<=1000000000)/\(isz (Rat.num y)<=1000000000/\isz (aB (Rat.den x))<=1000000000)/\(isz (Rat.num x*aB (Rat.den y))<=1000000000/\isz (Rat.num y*aB (Rat.den x))<=1000000000)/\(isz (aB (Rat.den x))<=1000000000/\isz (aB (Rat.den y))<=1000000000)/\(isz (Rat.num x*aB (Rat.den y)+Rat.num y*aB (Rat.den x))<=400000000/\isz (aB (Rat.den x)*aB (Rat.den y))<=400000000/\aB (Rat.den x)*aB (Rat.den y)≠0)/\True)/\True/\Rat.divInt (Rat.num x*aB (Rat.den y)+Rat.num y*aB (Rat.den x)) (aB (Rat.den x)*aB (Rat.den y))=x+y/\True) (by kernel_rfl) ?_
 have hZ:(⟨false,0,[],[]⟩:aH)=bF:=rfl
 try simp only[aC,aj,ah]
 try dsimp only[aB,asT,aA,aF,Ty.den,Lf.den] at *
 try simp only[hZ,Int.toNat_natCast,aC,aj,ah,jh,jg,gy,bf]
 try simp only[bT,bP,List.all_cons,List.all_nil,jk,dw,ig,jf,jy,ne_eq,au,bg,dn,eu,jd,oq,jr,ou,jh,jg,iw,bn,List.length_cons,List.length_nil]
 obtain⟨l1,l2⟩:rsz x<=190000000/\rsz y<=190000000:=hp
 obtain⟨a,b⟩:=sz8 l1
 obtain⟨c,d⟩:=sz8 l2
 have m1:=IZ a d
 have m2:=IZ c b
 have m3:=IZ b d
 have m4:=xH (x.num*y.den) (y.num*x.den)
 exact⟨by omega,by omega,⟨⟨by omega,by omega⟩,⟨by omega,by omega⟩,⟨by omega,by omega⟩,⟨by omega,by omega⟩,by omega,by omega,Int.mul_ne_zero (EI x) (EI y)⟩,a0L x y⟩
theorem PO:aI Tryz.prog 75 (cQ2 s19 (·*·)):=by
 refine aK (((nil0.ad a3h).ad a0Q).ad JM) ⟨[4,5,6],[],[]⟩ Tryz.func75 rfl (by decide) (fun x=>[]) (fun x hp=>?_)
 obtain⟨x,y,u⟩:=x
 change Rat at x
 change Rat at y
 refine aU ((rsz x<=999999999/\True)/\(rsz y<=999999999/\True)/\((isz (Rat.num x)<=1000000000/\isz (Rat.num y)<=1000000000)/\(isz (aB (Rat.den x))<=1000000000/\isz (aB (Rat.den y))<=1000000000)/\(isz (Rat.num x*Rat.num y)<=400000000/\isz (aB (Rat.den x)*aB (Rat.den y))<=400000000/\aB (Rat.den x)*aB (Rat.den y)≠0)/\True)/\True/\Rat.divInt (Rat.num x*Rat.num y) (aB (Rat.den x)*aB (Rat.den y))=x*y/\True) (by kernel_rfl) ?_
 have hZ:(⟨false,0,[],[]⟩:aH)=bF:=rfl
 try simp only[aC,aj,ah]
 try dsimp only[aB,asT,aA,aF,Ty.den,Lf.den] at *
 try simp only[hZ,Int.toNat_natCast,aC,aj,ah,jh,jg,gy,bf]
 try simp only[bT,bP,List.all_cons,List.all_nil,jk,dw,ig,jf,jy,ne_eq,au,bg,dn,eu,jd,oq,jr,ou,jh,jg,iw,bn,List.length_cons,List.length_nil]
 obtain⟨l1,l2⟩:rsz x<=190000000/\rsz y<=190000000:=hp
 obtain⟨a,b⟩:=sz8 l1
 obtain⟨c,d⟩:=sz8 l2
 have m1:=IZ a c
 have m3:=IZ b d
 exact⟨by omega,by omega,⟨⟨by omega,by omega⟩,⟨by omega,by omega⟩,by omega,by omega,Int.mul_ne_zero (EI x) (EI y)⟩,a0N x y⟩
theorem b5m:aI Tryz.prog 112 a8H:=by
 refine aK ((nil0.ad a0Y).ad YP) ⟨[4],[],[]⟩ Tryz.func112 rfl (by decide) (fun x=>[]) (fun x hp=>?_)
 obtain⟨x,y,u⟩:=x
 change Int at x
 change Int at y
 refine aU ((aX x/\aX y/\(isz x<=390000000/\isz y<=390000000)/\True)/\(aH.ok (newT 14 x y).1=true/\True)/\aH.x (newT 14 x y).1=Rat.divInt x y/\True/\Prod.fst (newT 14 x y).2=0/\True) (by kernel_rfl) ?_
 have hZ:(⟨false,0,[],[]⟩:aH)=bF:=rfl
 try simp only[aC,aj,ah]
 try dsimp only[aB,asT,aA,aF,Ty.den,Lf.den] at *
 try simp only[hZ,Int.toNat_natCast,aC,aj,ah,jh,jg,gy,bf]
 try simp only[bT,bP,List.all_cons,List.all_nil,jk,dw,ig,jf,jy,ne_eq,au,bg,dn,eu,jd,oq,jr,ou,jh,jg,iw,bn,List.length_cons,List.length_nil]
 obtain⟨h1,h2,h3⟩:aX x/\aX y/\y≠0:=hp
 rw[show newT 14 x y=(eU (Rat.divInt x y),0,()) from ji h3]
 exact⟨⟨h1,h2,iq (a0C h1) (by omega),iq (a0C h2) (by omega)⟩,rfl,rfl,rfl⟩
theorem a0S:aI Tryz.prog 133 (cQ2 s19 (·-·)):=by
 refine aK ((nil0.ad a0P).ad PE) ⟨[4],[],[]⟩ Tryz.func133 rfl (by decide) (fun x=>[]) (fun x hp=>?_)
 obtain⟨x,y,u⟩:=x
 change Rat at x
 change Rat at y
 refine aU ((rsz y<=190000000/\s19 x (-y)/\True)/\True/\x+-y=x-y/\True) (by kernel_rfl) ?_
 have hZ:(⟨false,0,[],[]⟩:aH)=bF:=rfl
 try simp only[aC,aj,ah]
 try dsimp only[aB,asT,aA,aF,Ty.den,Lf.den] at *
 try simp only[hZ,Int.toNat_natCast,aC,aj,ah,jh,jg,gy,bf]
 try simp only[bT,bP,List.all_cons,List.all_nil,jk,dw,ig,jf,jy,ne_eq,au,bg,dn,eu,jd,oq,jr,ou,jh,jg,iw,bn,List.length_cons,List.length_nil]
 obtain⟨l1,l2⟩:rsz x<=190000000/\rsz y<=190000000:=hp
 obtain⟨a,b⟩:=sz8 l1
 obtain⟨c,d⟩:=sz8 l2
 exact⟨⟨l2,l1,by rw[a0V];exact l2⟩,(Rat.sub_eq_add_neg x y).symm⟩
theorem a6h:aI Tryz.prog 47 (b3c s19 KL):=by
 refine aK ((nil0.ad a6p).ad a0S) ⟨[],[],[]⟩ Tryz.func47 rfl (by decide) (fun x=>[]) (fun x hp=>?_)
 obtain⟨x,y,u⟩:=x
 change Rat at x
 change Rat at y
 refine aU ((s19 x y/\rsz (x-y)<=900000000/\True)/\True/\sgn (Rat.num (x-y))=KL x y/\True) (by kernel_rfl) ?_
 have hZ:(⟨false,0,[],[]⟩:aH)=bF:=rfl
 try simp only[aC,aj,ah]
 try dsimp only[aB,asT,aA,aF,Ty.den,Lf.den] at *
 try simp only[hZ,Int.toNat_natCast,aC,aj,ah,jh,jg,gy,bf]
 try simp only[bT,bP,List.all_cons,List.all_nil,jk,dw,ig,jf,jy,ne_eq,au,bg,dn,eu,jd,oq,jr,ou,jh,jg,iw,bn,List.length_cons,List.length_nil]
 obtain⟨l1,l2⟩:rsz x<=190000000/\rsz y<=190000000:=hp
 obtain⟨a,b⟩:=sz8 l1
 obtain⟨c,d⟩:=sz8 l2
 have:=b5o x y
 exact⟨⟨⟨l1,l2⟩,by omega⟩,c5n x y⟩
theorem a0R:aI Tryz.prog 121 (b6M s19 (fun x y=>decide (x=y))):=by
 refine aK ((nil0.ad a0X).ad a6h) ⟨[],[],[]⟩ Tryz.func121 rfl (by decide) (fun x=>[]) (fun x hp=>?_)
 obtain⟨x,y,u⟩:=x
 change Rat at x
 change Rat at y
 refine aU (((aH.n (eU x)<=999999999/\aH.m (eU x)<=999999999)/\(asT Bool true=true->asT Bool true=true/\(aH.n (eU y)<=999999999/\aH.m (eU y)<=999999999)/\True)/\(asT Bool true=true->asT Bool true=true)/\(asT Bool true=true->asT Bool true=true/\asT Bool true=true/\s19 x y/\True)/\(asT Bool true=true->asT Bool true=true/\True)/\(asT Bool true=true->asT Bool true=true)/\True)/\True/\(bif bif true then true else false then KL x y==0 else false)=decide (x=y)/\True) (by kernel_rfl) ?_
 have hZ:(⟨false,0,[],[]⟩:aH)=bF:=rfl
 try simp only[aC,aj,ah]
 try dsimp only[aB,asT,aA,aF,Ty.den,Lf.den] at *
 try simp only[hZ,Int.toNat_natCast,aC,aj,ah,jh,jg,gy,bf]
 try simp only[bT,bP,List.all_cons,List.all_nil,jk,dw,ig,jf,jy,ne_eq,au,bg,dn,eu,jd,oq,jr,ou,jh,jg,iw,bn,List.length_cons,List.length_nil]
 obtain⟨l1,l2⟩:rsz x<=190000000/\rsz y<=190000000:=hp
 obtain⟨a,b⟩:=sz8 l1
 obtain⟨c,d⟩:=sz8 l2
 have e:∀ b:Bool,(bif bif true then true else false then b else false)=b:=fun b=>by cases b<;>rfl
 refine⟨⟨⟨iq a (by omega),iq b (by omega)⟩,fun _=>⟨iq c (by omega),iq d (by omega)⟩,fun h=>h,fun _=>⟨l1,l2⟩,fun h=>h,fun h=>h⟩,(e _).trans (c2w x y)⟩
theorem b3u {P:Program} {f:FuncId} {args res:List Ty} {pre pre':(nest args).den->Prop} {fn:(nest args).den->(nest res).den} {d:∀ x,Dc (pre x)} {d':∀ x,Dc (pre' x)} (h:aI P f (@Ctr.mk args res pre fn d)) (e:∀ x,pre' x->pre x):aI P f (@Ctr.mk args res pre' fn d'):=fun F w vs x a b hp=>h F w vs x a b (e x hp)
theorem JI:aI Tryz.prog 17 (cQI (fun x=>rsz x<=190000000) (fun x=>sgn x.num)):=b3u a6p fun x h=>iq h (by omega)
def c1O:Ctr:=⟨[tQ,tQ],[tQ,tI],fun x=>s19 x.1 x.2.1/\(show Rat from x.2.1)≠0,fun x=>((show Rat from x.1) / (show Rat from x.2.1),(0:Int),())⟩
theorem a6i:aI Tryz.prog 74 c1O:=by
 refine aK (((nil0.ad a3h).ad JM).ad YP) ⟨[4,6,7],[],[]⟩ Tryz.func74 rfl (by decide) (fun x=>[]) (fun x hp=>?_)
 obtain⟨x,y,u⟩:=x
 change Rat at x
 change Rat at y
 refine aU (let A₁:=(Rat.num x*aB (Rat.den y));let A₂:=(aB (Rat.den x)*Rat.num y);let A₀:=(newT 14 A₁ A₂);(rsz x<=999999999/\True)/\(rsz y<=999999999/\True)/\((isz (Rat.num x)<=1000000000/\isz (aB (Rat.den y))<=1000000000)/\(isz (aB (Rat.den x))<=1000000000/\isz (Rat.num y)<=1000000000)/\(isz A₁<=390000000/\isz A₂<=390000000)/\True)/\(aH.ok A₀.1=true/\True)/\aH.x A₀.1=x / y/\True/\Prod.fst A₀.2=0/\True) (by kernel_rfl) ?_
 have hZ:(⟨false,0,[],[]⟩:aH)=bF:=rfl
 try simp only[aC,aj,ah]
 try dsimp only[aB,asT,aA,aF,Ty.den,Lf.den] at *
 try simp only[hZ,Int.toNat_natCast,aC,aj,ah,jh,jg,gy,bf]
 try simp only[bT,bP,List.all_cons,List.all_nil,jk,dw,ig,jf,jy,ne_eq,au,bg,dn,eu,jd,oq,jr,ou,jh,jg,iw,bn,List.length_cons,List.length_nil]
 obtain⟨⟨l1,l2⟩,hy⟩:(rsz x<=190000000/\rsz y<=190000000)/\y≠0:=hp
 obtain⟨a,b⟩:=sz8 l1
 obtain⟨c,d⟩:=sz8 l2
 have m1:=IZ a d
 have m3:=IZ b c
 have e:newT 14 (x.num*y.den) (x.den*y.num)=(eU (x / y),0,()):=by
  unfold newT
  rw[ji (Int.mul_ne_zero (EI x) (fun h=>hy ((rV y).1 h))),a0M]
 rw[e]
 exact⟨by omega,by omega,⟨⟨by omega,by omega⟩,⟨by omega,by omega⟩,by omega,by omega⟩,rfl,rfl,rfl⟩
noncomputable def LR0:Lib:=((((((((((Lib.nil
 ).add 143 (cIQ aX (fun i=>(i:Rat))) JO
 ).add 46 (cVal 999999999) a0X
 ).add 76 (cQ2 s19 (·+·)) PE
 ).add 75 (cQ2 s19 (·*·)) PO
 ).add 133 (cQ2 s19 (·-·)) a0S
 ).add 101 (cQ1 (fun x=>rsz x<=190000000) (fun x=>-x)) a0P
 ).add 17 (cQI (fun x=>rsz x<=190000000) (fun x=>sgn x.num)) JI
 ).add 47 (b3c s19 KL) a6h
 ).add 121 (b6M s19 (fun x y=>decide (x=y))) a0R
 ).add 74 c1O a6i
theorem bT {a b:Bool}:(bif a then true else b)=(a || b):=by cases a<;>rfl
theorem bP {a b:Bool}:(bif a then b else false)=(a&&b):=by cases a<;>rfl
theorem BX {α:Type} {p:α->Bool} {xs:List α} {i:Nat} {d:α} (hi:i<xs.length) (h:p (xs.getD i d)=true):xs.any p=true:=by
 rw[iy,jc hi] at h
 exact List.any_eq_true.mpr ⟨_,vk hi,h⟩
def kT (n:Int):Bool:=decide (n > 1048576) || decide (n < -1048576)
abbrev b5K:Type:=(Int × Int × Unit) × (Int × Int × Unit) × Unit
noncomputable def c4b:Ctr:=⟨[tI],[tB],fun x=>True,fun x=>(kT x.1,())⟩
noncomputable def c1S:Ctr:=⟨[.list tI],[tB],fun x=>(show List Int from x.1).length<=1000000,fun x=>((show List Int from x.1).any kT,())⟩
theorem a5q:aI Tryz.prog 224 c4b:=by
 refine aK Lib.nil ⟨[],[],[]⟩ Tryz.func224 rfl (by decide) (fun x=>[]) (fun x hp=>?_)
 obtain⟨n,u⟩:=x
 change Int at n
 refine aU ((((decide (n < -1048576)==false)=true->(decide (n < -1048576)==false)=true/\True)/\(decide (n < -1048576)=false->(decide (n < -1048576)==false)=true)/\True)/\True/\(bif decide (n < -1048576) then true else decide (n > 1048576))=kT n/\True) (by kernel_rfl) ?_
 have hZ:(⟨false,0,[],[]⟩:aH)=bF:=rfl
 try simp only[aC,aj,ah]
 try dsimp only[aB,asT,aA,aF,Ty.den,Lf.den] at *
 try simp only[hZ,Int.toNat_natCast,aC,aj,ah,jh,jg,gy,bf]
 try simp only[bT,bP,List.all_cons,List.all_nil,jk,dw,ig,jf,jy,ne_eq,au,bg,dn,eu,jd,oq,jr,ou,jh,jg,iw,bn,List.length_cons,List.length_nil]
 exact⟨fun h=>ny h,Bool.or_comm _ _⟩
theorem a2s:aI Tryz.prog 15 c1S:=by
 refine aK Lib.nil ⟨[],[],[]⟩ Tryz.func15 rfl (by decide) (fun x=>[.inv {k:Nat // k<=(show List Int from x.1).length/\((show List Int from x.1).take k).any kT=false} (fun k=>[(7,.val tI (k.1:Int))]) (fun k=>[]) (fun k=>(show List Int from x.1).length-k.1) ⟨0,by omega,rfl⟩ (fun _=>[])]) (fun x hp=>?_)
 obtain⟨x,u⟩:=x
 change List Int at x
 refine aU ((asT Int 0=0/\True)/\∀ (i:{ k:Nat // k<=List.length x/\List.any (List.take k x) kT=false }),let A₀:=(List.getD x (aB (aA i)).toNat 0 > 1048576);asT Bool true=true/\ifB (decide (aB (aA i)<aB x.length)) ((0<=aB (aA i)/\aB (aA i)<aB x.length/\True)/\(((decide A₀==false)=true->(decide A₀==false)=true/\True)/\(decide A₀=false->(decide A₀==false)=true)/\True)/\ifB (bif decide A₀ then true else decide (List.getD x (aB (aA i)).toNat 0 < -1048576)) (True/\true=List.any x kT/\True) (∃ (i':{ k:Nat // k<=List.length x/\List.any (List.take k x) kT=false }),List.length x-aA i'<List.length x-aA i/\IntKind.wrap IntKind.i64 (aB (aA i)+1)=aB (aA i')/\True)) (True/\false=List.any x kT/\True)) (by kernel_rfl) ?_
 have hZ:(⟨false,0,[],[]⟩:aH)=bF:=rfl
 try simp only[aC,aj,ah]
 try dsimp only[aB,asT,aA,aF,Ty.den,Lf.den] at *
 try simp only[hZ,Int.toNat_natCast,aC,aj,ah,jh,jg,gy,bf]
 try simp only[bT,bP,List.all_cons,List.all_nil,jk,dw,ig,jf,jy,ne_eq,au,bg,dn,eu,jd,oq,jr,ou,jh,jg,iw,bn,List.length_cons,List.length_nil]
 have hp:x.length<=1000000:=hp
 refine fun i=>⟨fun h1=>⟨⟨by omega,h1⟩,fun h=>ny h,fun h=>?_,fun h=>⟨⟨i.1+1,by omega,?_⟩,by simp only;omega,?_⟩⟩,fun h1=>?_⟩
 ·exact(BX (i:=i.1) (d:=0) (by omega) (by unfold kT;rcases h with h|h<;>rw[h]<;>simp)).symm
 ·rw[lW (d:=0) (by omega),i.2.2]
  show (false || kT _)=false
  unfold kT;rw[h.1,h.2];rfl
 ·rw[aP (by omega) (by omega)];rfl
 ·have h3:=i.2.2
  rw[jv (by omega)] at h3
  exact h3.symm
noncomputable def c1Y:Ctr:=⟨[.list tI,.clo 224 .unit],[tI],fun x=>(show List (Int) from x.1).length<=1000000/\∀ q ∈ (show List (Int) from x.1),(fun _=>True) q,fun x=>(yO kT (show List (Int) from x.1),())⟩
theorem b0y:aI Tryz.prog 218 c1Y:=by
 refine aK (nil0.ad a5q) ⟨[],[],[]⟩ Tryz.func218 rfl (by decide) (fun x=>[.inv {k:Nat // k<=(show List (Int) from x.1).length/\((show List (Int) from x.1).take k).any kT=false} (fun k=>[(8,.val tI (k.1:Int))]) (fun k=>[]) (fun k=>(show List (Int) from x.1).length-k.1) ⟨0,by omega,rfl⟩ (fun _=>[])]) (fun x hp=>?_)
 obtain⟨x,c,u⟩:=x
 change List (Int) at x
 change Unit at c
 refine aU ((asT Int 0=0/\True)/\∀ (i:{ k:Nat // k<=List.length x/\List.any (List.take k x) kT=false }),asT Bool true=true/\ifB (decide (aB (aA i)<aB x.length)) ((0<=aB (aA i)/\aB (aA i)<aB x.length/\True/\True)/\ifB (kT (List.getD x (aB (aA i)).toNat 0)) (True/\aB (aA i)=yO kT x/\True) (∃ (i':{ k:Nat // k<=List.length x/\List.any (List.take k x) kT=false }),List.length x-aA i'<List.length x-aA i/\IntKind.wrap IntKind.i64 (aB (aA i)+1)=aB (aA i')/\True)) (True/\-1=yO kT x/\True)) (by kernel_rfl) ?_
 have hZ:(⟨false,0,[],[]⟩:aH)=bF:=rfl
 try simp only[aC,aj,ah]
 try dsimp only[aB,asT,aA,aF,Ty.den,Lf.den] at *
 try simp only[hZ,Int.toNat_natCast,aC,aj,ah,jh,jg,gy,bf]
 try simp only[bT,bP,List.all_cons,List.all_nil,jk,dw,ig,jf,jy,ne_eq,au,bg,dn,eu,jd,oq,jr,ou,jh,jg,iw,bn,List.length_cons,List.length_nil]
 have hp:x.length<=1000000/\∀ q ∈ x,(fun _=>True) q:=hp
 obtain⟨hl,hb⟩:=hp
 refine fun i=>⟨fun h1=>⟨(by first|exact⟨by omega,h1,bU hb (by omega)⟩|exact⟨by omega,h1⟩),fun h2=>?_,fun h2=>⟨⟨i.1+1,by omega,?_⟩,by simp only;omega,?_⟩⟩,fun h1=>?_⟩
 ·exact(RD (d:=0) (by omega) i.2.2 (by first|exact h2|rw[h2];rfl)).symm
 ·rw[lW (d:=0) (by omega),i.2.2,h2];rfl
 ·rw[aP (by omega) (by omega)];rfl
 ·have h3:=i.2.2
  rw[jv (by omega)] at h3
  exact(a0p h3).symm
noncomputable def c1F:Ctr:=⟨[.list tI,.clo 224 .unit],[tB],fun x=>(show List (Int) from x.1).length<=1000000/\∀ q ∈ (show List (Int) from x.1),(fun _=>True) q,fun x=>((show List (Int) from x.1).any kT,())⟩
theorem a9e:aI Tryz.prog 136 c1F:=by
 refine aK ((nil0.ad a5q).ad b0y) ⟨[],[],[]⟩ Tryz.func136 rfl (by decide) (fun x=>[]) (fun x hp=>?_)
 obtain⟨x,c,u⟩:=x
 change List (Int) at x
 change Unit at c
 refine aU (((List.length x<=1000000/\∀ (q:Int),q ∈ x->True)/\True)/\True/\decide (yO kT x ≥ 0)=List.any x kT/\True) (by kernel_rfl) ?_
 exact⟨⟨hp,trivial⟩,trivial,RF _ _,trivial⟩
theorem b1w:aI Tryz.prog 144 c1S:=by
 refine aK (nil0.ad a9e) ⟨[],[],[]⟩ Tryz.func144 rfl (by decide) (fun x=>[]) (fun x hp=>?_)
 obtain⟨x,u⟩:=x
 change List Int at x
 refine aU (((List.length x<=1000000/\∀ (q:Int),q ∈ x->True)/\True)/\True/\List.any x kT=List.any x kT/\True) (by kernel_rfl) ?_
 exact⟨⟨⟨hp,fun _ _=>trivial⟩,trivial⟩,trivial,rfl,trivial⟩
noncomputable def LZ:Lib:=(((((((LCa
 ).add 175 cIZ (a3u fun x w h0 h1=>b1l x w h0 h1)
 ).add 213 (cZ2 fun x y=>((Int.gcd x y:Nat):Int)) IG
 ).add 177 (cZ2 fun x y=>x*y) wH
 ).add 97 (cZ1 fun x=>-x) zN
 ).add 179 (cZI Int.sign) qZ
 ).add 282 a8J (a6S fun v x w h1=>a8b v x w h1)
 ).add 229 cDiv SA
noncomputable def LZb:Lib:=((((LZ
 ).add 183 (cNew 1000000000 14) a0r
 ).add 147 a8H a5p
 ).add 172 (cQ1 s4 (fun x=>-x)) a5o
 ).add 176 (cZ2 fun x y=>x+y) a2e
section
open Go Go.RowKit Go.Lib
set_option maxHeartbeats 4000000
abbrev KF:Value:=.agg #[.bool false,.slice none 0 0,.bool false,.slice none 0 0]
theorem a7q:∃ i,Tryz.prog.info? 47=some i/\i.size=4/\i.bytes<=64/\i.zero=some KF:=by
 have h:(Tryz.prog.info? 47).map (fun i=>(i.size,decide (i.bytes<=64),i.zero))=some (4,true,some KF):=by kernel_rfl
 obtain⟨i,h1,h2⟩:=jw.1 h
 simp only[dh,aj] at h2
 exact⟨i,h1,h2.1,h2.2.1,h2.2.2⟩
theorem a9R (n:Nat) (w:World) (h0:0<n) (hn:n<=1000000000):Calls Tryz.prog 151 #[.slice none 0 0,.int .i64 n] w fun e w'=>∃ c,n<=c/\c<=maxLen/\e=.returned (.slice (some ⟨w.heap.size,0,none⟩) 0 c)/\w'=w.drew.alloc (.cells (#[]++Builtin.zeroCells KF.cells n++Builtin.zeroCells KF.cells (c-n)) 47):=by
 obtain⟨i,hi,hs,hb,hz⟩:=a7q
 have hn1:n*i.bytes<=n*64:=Ae _ hb
 have hrz:∀ ty,(Builtin.append_ #[39,3] ty #[.slice none 0 0,.int .i64 (n:Nat)]).run Tryz.prog w=.ok (.slice (some ⟨w.heap.size,0,none⟩) (0+n) (grownCap w (0+n) 0 47)) (w.drew.alloc (.cells (#[]++Builtin.zeroCells KF.cells n++Builtin.zeroCells KF.cells (grownCap w (0+n) 0 47-(0+n))) 47)):=fun ty =>
  run_append_grow_zeros w 39 3 ty 47 i KF .i64 .i64 (by kernel_rfl) (by kernel_rfl) hi hz none 0 0 [] (run_firstCells_none w.drew _ 0 0 0) n h0 (by omega) (by omega) (by omega) (by omega) (growslice_fits (by omega) (by rw[tu];omega))
 have hG:=grownCap_ge w (0+n) 0 47
 have hG2:=grownCap_le_maxLen w (0+n) 0 47 (by unfold maxLen;omega)
 obtain⟨G,hg⟩:∃ G,G=grownCap w (0+n) 0 47:=⟨_,rfl⟩
 rw[<-hg] at hrz hG hG2
 simp only[tu] at hrz hG
 have hG63:G<=9223372036854775807:=by unfold maxLen at hG2;omega
 have h1:¬ ((n:Int)<0):=by omega
 have h4:(n:Int) > 0:=by omega
 clear hg hn1 hi hz hs hb
 go_enter Tryz.func151,Tryz.ntmps151
 go_wp2_with (at_builtin;refine Lib.wpList_append_run _ rfl _ _ _ _ rfl _ _ rfl rfl _ _ (hrz _) ?_)
 go_ret
 exact⟨G,hG,hG2,rfl,rfl⟩
theorem a7k (w:World):Calls Tryz.prog 151 #[.slice none 0 0,.int .i64 0] w fun e w'=>e=.returned (.slice none 0 0)/\w'=w:=by
 go_enter Tryz.func151,Tryz.ntmps151
 go_wp2
 go_ret
 exact⟨rfl,rfl⟩
abbrev LKr:LK:=.row 47 tR
def b5N:jZ:=.mk LKr [.nls tR,tI] (fun x=>(show Option (List aH) from x.1)=none/\0<=(show Int from x.2.1)/\(show Int from x.2.1)<=1000000000) (fun _=>([]:List aH))
theorem b5I (z:Array Value) (n:Nat):(Builtin.zeroCells z n).size=n*z.size:=by simp[Builtin.zeroCells]
theorem a6I:∀ u ∈ KF.cells.toList,cO u=true:=by
 intro u hu
 have hu:u ∈ [Value.bool false,.slice none 0 0,.bool false,.slice none 0 0]:=hu
 simp only[qh,yw,Eo] at hu
 rcases hu with rfl|rfl|rfl|rfl<;>rfl
theorem a9Q:NOk Tryz.prog 151 b5N:=by
 intro F w vs y hF hvs hp
 obtain⟨v,vs',rfl,h1,u,vs'',rfl,h2,h3⟩:=hvs
 have h3:vs''=[]:=h3
 subst h3
 obtain⟨p1,p2,p3⟩:=hp
 have hv:v=.slice none 0 0:=by
  obtain⟨cs,rfl,hr⟩:=h1
  rcases hr with⟨_,rfl⟩|⟨ys,b,o,c,ds,e,_⟩
  ·rfl
  ·rw[show y.1=(none:Option (List aH)) from p1] at e;cases e
 subst hv
 obtain⟨n,hn⟩:=uy p2
 have hu:u=.int .i64 (n:Int):=by rw[a2h h2];rw[show y.2.1=(n:Int) from hn]
 subst hu
 have hn9:n<=1000000000:=by rw[hn] at p3;omega
 let E:Env:=⟨fun _=>none,fun _=>undef,fun q=>F q\/w.heap.size<=q,fun _ _=>undef,fun _=>False,fun _=>undef⟩
 have hhas:∀ r j q,¬ E.has r j q:=fun r j q h=>by cases j<;>cases h
 have hM:Mem E (aS []) w w:=⟨⟨rfl,rfl,rfl,ay _,fun _ _ _=>rfl⟩,fun r=>rfl,fun r j r' j' b e=>(hhas r j b e).elim,fun r j b e=>(hhas r j b e).elim,fun q hq=>hq.elim (fun h=>h.elim) .inr,fun r i _=>rfl,fun r k e=>(by cases e),fun b o n h=>h⟩
 have fin:∀ (w':World) (b:Option Nat) (s:Value),Below w.heap.size w w'->(b=none\/b=some w.heap.size)->b=bI s->w'.ownsRow 0 47 4 s 0 []->CAv cO w' s->∃ v E9 ρ q v0,Ending.returned s=.returned v/\Mem E9 ρ w w'/\(∀ q,¬ E9.oM q)/\ρ q=LKr.res ([]:List aH) v0/\v=E9.sl q:=fun w' b s hb hbs hbl ho hc=>by
  have hsl:(E.put 0 b s).sl 0=s:=by show bH E.sl 0 s 0=s;exact aG _ _ _
  obtain⟨m1,m2⟩:=hM.turn (w':=w') 0 (jI.below hb _) b s (.row 47 tR [] 0)
   ⟨by rw[hsl];show bH E.blk 0 _ 0=_;rw[aG];exact hbl,rfl,[],by rw[hsl];exact ho,rfl,by rw[hsl];exact⟨hc,a2B _⟩⟩ (hbs.elim .inl (fun h=>.inr (.inr h))) rfl (fun k e=>by cases e) (fun h=>h.elim) (fun h=>h.elim) (fun v h=>h.elim) (fun v h=>h.elim) (fun v h=>h.elim)
  exact⟨s,_,_,0,0,rfl,m1,fun q h=>h,aG _ _ _,hsl.symm⟩
 by_cases h0:n=0
 ·subst h0
  refine(a7k w).mono ?_
  rintro e w' ⟨rfl,rfl⟩
  obtain⟨v,E9,ρ,q,v0,h⟩:=fin w' none (.slice none 0 0) (jo _ _) (.inl rfl) rfl (Bd _ _ _ _) (fun g hg=>by cases hg)
  exact⟨v,E9,ρ,q,v0,h⟩
 ·refine(a9R n w (by omega) hn9).mono ?_
  rintro e w' ⟨c,c1,c2,rfl,rfl⟩
  have hcell:(w.drew.alloc (.cells (#[]++Builtin.zeroCells KF.cells n++Builtin.zeroCells KF.cells (c-n)) 47)).heap[w.heap.size]?=some (.cells (#[]++Builtin.zeroCells KF.cells n++Builtin.zeroCells KF.cells (c-n)) 47 (0,0)):=Ci w.drew (.cells (#[]++Builtin.zeroCells KF.cells n++Builtin.zeroCells KF.cells (c-n)) 47)
  obtain⟨v,E9,ρ,q,v0,h⟩:=fin _ (some w.heap.size) (.slice (some ⟨w.heap.size,0,none⟩) 0 c) ((jo _ _).drew.alloc (ay _) _) (.inr rfl) rfl ⟨rfl,.inr ⟨w.heap.size,c,_,rfl,uq _,hcell,uq _,c2,by
    simp only[Array.size_append,b5I,Array.size_empty]
    show 0+n*4+(c-n)*4=c*4
    omega,by simp⟩⟩ (fun g hg i x hx=>by
    cases hg
    have hx:=(yu _ w.heap.size i _ _ _ hcell).symm.trans hx
    have hx2:=Array.mem_of_getElem? hx
    simp only[Array.mem_append] at hx2
    rcases hx2 with(hx2|hx2)|hx2
    ·exact absurd hx2 (by simp)
    ·exact yH a6I _ x (Ei.2 hx2)
    ·exact yH a6I _ x (Ei.2 hx2))
  exact⟨v,E9,ρ,q,v0,h⟩
end
def smQ (q:aH):Prop:=q.n<=1/\q.m<=1/\(q.ok=true->rsz q.x<=1)
def c3x (f:MR):Prop:=f.length<=4/\∀ r ∈ f,r.length<=4/\∀ q ∈ r,smQ q
theorem a0q {α:Type} {K:Nat}:∀ {x:List (List α)},(∀ r ∈ x,r.length<=K)->x.flatten.length<=K*x.length
 | [],_=>by simp
 | r::x,h=>by
  have h1:=h r (mg ..)
  have h2:=a0q fun s hs=>h s (ku _ hs)
  rw[List.flatten_cons,jl,List.length_cons,Nat.mul_succ]
  omega
theorem KR {α:Type} {x:List (List α)} {i:Nat} (hi:i<x.length):(x.take (i+1)).flatten=(x.take i).flatten++x.getD i []:=by
 rw[Ai,List.flatten_append,iy,jc hi];simp
noncomputable def c1I:Ctr:=⟨[.list (.list tR)],[.list tR],fun x=>(show MR from x.1).length<=1000/\∀ r ∈ (show MR from x.1),r.length<=1000,fun x=>((show MR from x.1).flatten,())⟩
theorem a9h:aI Tryz.prog 63 c1I:=by
 refine aK (nil0.an a9Q) ⟨[],[],[]⟩ Tryz.func63 rfl (by decide) (fun x=>[.inv {k:Nat // k<=(show MR from x.1).length} (fun k=>[(11,.val tI (k.1:Int)),(3,.val tI (((show MR from x.1).take k.1).flatten.length:Int))]) (fun k=>[]) (fun k=>(show MR from x.1).length-k.1) ⟨0,by omega⟩ (fun _=>[]),
  .inv {k:Nat // k<=(show MR from x.1).length} (fun k=>[(27,.val tI (k.1:Int)),(6,.own 24 0),(24,.any)]) (fun k=>[(24,.row 47 tR (((show MR from x.1).take k.1).flatten) 0)]) (fun k=>(show MR from x.1).length-k.1) ⟨0,by omega⟩ (fun _=>[])]) (fun x hp=>?_)
 obtain⟨x,u⟩:=x
 change List (List aH) at x
 refine aU ((asT Int 0=0/\0=aB (List.flatten (List.take 0 x)).length/\True)/\∀ (i:{ k:Nat // k<=List.length x }),let A₀:=(List.flatten (List.take (aA i) x)).length;let A₁:=(aB A₀+aB (List.getD x (aB (aA i)).toNat (aF aH)).length);asT Bool true=true/\ifB (decide (aB (aA i)<aB x.length)) ((0<=aB (aA i)/\aB (aA i)<aB x.length/\True)/\ifB (decide (IntKind.wrap IntKind.i64 A₁<0)) False (∃ (i':{ k:Nat // k<=List.length x }),List.length x-aA i'<List.length x-aA i/\IntKind.wrap IntKind.i64 (aB (aA i)+1)=aB (aA i')/\IntKind.wrap IntKind.i64 A₁=aB (List.flatten (List.take (aA i') x)).length/\True)) (((asT (Option (List aH)) none=none/\0<=aB A₀/\aB A₀<=1000000000)/\True)/\(asT Int 0=0/\asT (List aH) (aF aH)=aF aH/\True)/\∀ (i:{ k:Nat // k<=List.length x }),let A₂:=(List.take (aA i) x);asT Bool true=true/\ifB (decide (aB (aA i)<aB x.length)) ((0<=aB (aA i)/\aB (aA i)<aB x.length/\True)/\(List.length (List.flatten A₂)+List.length (List.getD x (aB (aA i)).toNat (aF aH))<=1000000000/\True)/\∃ (i':{ k:Nat // k<=List.length x }),List.length x-aA i'<List.length x-aA i/\IntKind.wrap IntKind.i64 (aB (aA i)+1)=aB (aA i')/\List.flatten A₂++List.getD x (aB (aA i)).toNat (aF aH)=List.flatten (List.take (aA i') x)/\True) (True/\List.flatten A₂=List.flatten x/\True))) (by kernel_rfl) ?_
 have hZ:(⟨false,0,[],[]⟩:aH)=bF:=rfl
 try simp only[aC,aj,ah]
 try dsimp only[aB,asT,aA,aF,Ty.den,Lf.den] at *
 try simp only[hZ,Int.toNat_natCast,aC,aj,ah,jh,jg,gy,bf]
 try simp only[bT,bP,List.all_cons,List.all_nil,jk,dw,ig,jf,jy,ne_eq,au,bg,dn,eu,jd,oq,jr,ou,jh,jg,iw,bn,List.length_cons,List.length_nil]
 obtain⟨hl,hr⟩:x.length<=1000/\∀ r ∈ x,r.length<=1000:=hp
 have hf:∀ k,(x.take k).flatten.length<=1000000:=fun k=>by
  have h1:=a0q (K:=1000) (x:=x.take k) fun r h=>hr r (Ak h)
  have h2:(x.take k).length<=1000:=by rw[ni];omega
  omega
 have hg:∀ k,(x.getD k []).length<=1000:=fun k=>by
  by_cases h:k<x.length
  ·exact bU hr h
  ·rw[iy,xg (by omega)];simp
 refine⟨rfl,fun i=>⟨fun h1=>?_,fun h1=>⟨⟨by omega,by have:=hf i.1;omega⟩,fun j=>⟨fun h2=>⟨⟨by omega,h2⟩,by have:=hf j.1;have:=hg j.1;omega,⟨j.1+1,by omega⟩,by simp only;omega,by rw[aP (by omega) (by omega)];rfl,(KR (by omega)).symm⟩,fun h2=>by rw[jv (by omega)]⟩⟩⟩⟩
 have e1:=hf i.1
 have e2:=hg i.1
 rw[aP (n:=((x.take i.1).flatten.length:Int)+((x.getD i.1 []).length:Int)) (by omega) (by omega)]
 refine⟨⟨by omega,h1⟩,fun h=>by omega,fun h=>⟨⟨i.1+1,by omega⟩,by simp only;omega,by rw[aP (by omega) (by omega)];rfl,?_⟩⟩
 show _=(((x.take (i.1+1)).flatten.length:Nat):Int)
 rw[KR (by omega),jl];omega
theorem c3x.short {f:MR} (h:c3x f):xZ f:=⟨by have:=h.1;omega,fun r hr=>⟨by have:=(h.2 r hr).1;omega,fun q hq=>⟨by have:=((h.2 r hr).2 q hq).1;omega,by have:=((h.2 r hr).2 q hq).2.1;omega⟩⟩⟩
theorem nJ {α:Type} {xs:List α} {i:Nat} {d:α} (hi:i<xs.length):xs.getD i d ∈ xs:=by
 rw[iy,jc hi];exact vk hi
abbrev ML:Type:=List (List (List aH))
theorem a8Z (a:MR):rU a=0\/rU a=1:=by unfold rU;split<;>simp
def VK (l:ML):Int:=if l.any (fun a=>rU a != 0) then 1 else 0
noncomputable def c1E:Ctr:=⟨[.list tMR],[tI],fun x=>(show ML from x.1).length<=1000000/\∀ a ∈ (show ML from x.1),xZ a,fun x=>(VK x.1,())⟩
theorem a2w:aI Tryz.prog 230 c1E:=by
 refine kS (nil0.ad FC) [] Tryz.func230 rfl (by decide) (fun x=>[.inv {k:Nat // k<=(show ML from x.1).length/\((show ML from x.1).take k).any (fun a=>rU a != 0)=false} (fun k=>[(8,.val tI (k.1:Int))]) (fun k=>[]) (fun k=>(show ML from x.1).length-k.1) ⟨0,by omega,rfl⟩ (fun _=>[])]) (fun x hp=>?_)
 obtain⟨x,u⟩:=x
 change List (List (List aH)) at x
 refine aU ((asT Int 0=0/\True)/\∀ (i:{ k:Nat // k<=List.length x/\(List.any (List.take k x) fun(a:List (List aH))=>rU a != 0)=false }),asT Bool true=true/\ifB (decide (aB (aA i)<aB x.length)) ((0<=aB (aA i)/\aB (aA i)<aB x.length/\True)/\(xZ (List.getD x (aB (aA i)).toNat (aF (List aH)))/\True)/\ifB (rU (List.getD x (aB (aA i)).toNat (aF (List aH))) != 0) (True/\rU (List.getD x (aB (aA i)).toNat (aF (List aH)))=VK x/\True) (∃ (i':{ k:Nat // k<=List.length x/\(List.any (List.take k x) fun(a:List (List aH))=>rU a != 0)=false }),List.length x-aA i'<List.length x-aA i/\IntKind.wrap IntKind.i64 (aB (aA i)+1)=aB (aA i')/\True)) (True/\0=VK x/\True)) (by kernel_rfl) ?_
 obtain⟨hl,hb⟩:=hp
 dsimp only[aB,asT,aA,aF] at *
 simp only[Int.toNat_natCast,aC,aj,ah,jh,jg]
 refine fun i=>⟨fun h1=>⟨⟨by omega,h1⟩,bU hb (by omega),fun h2=>?_,fun h2=>⟨⟨i.1+1,by omega,?_⟩,by simp only;omega,?_⟩⟩,fun h1=>?_⟩
 ·have hi:i.1<x.length:=by omega
  have h3:x.any (fun a=>rU a != 0)=true:=List.any_eq_true.mpr ⟨x.getD i.1 [],by rw[iy,jc hi];exact vk hi,h2⟩
  unfold VK;rw[h3]
  rcases a8Z (x.getD i.1 []) with h|h
  ·rw[h] at h2;exact absurd h2 (by decide)
  ·rw[h];rfl
 ·rw[lW (d:=[]) (by omega),i.2.2,h2];rfl
 ·rw[aP (by omega) (by omega)];rfl
 ·have h3:=i.2.2
  rw[jv (by omega)] at h3
  unfold VK;rw[h3];rfl
abbrev MQ:Type:=List (List Rat)
abbrev ent (a:MQ) (i j:Nat):Rat:=(a.getD i []).getD j 0
def tab (R C:Nat) (f:Nat->Nat->Rat):MQ:=(List.range R).map fun i=>(List.range C).map fun j=>f i j
def bG (R C:Nat) (f:Nat->Nat->Rat):MR:=(List.range R).map fun i=>(List.range C).map fun j=>eU (f i j)
def isM (a:MQ) (R C:Nat):Prop:=a.length=R/\(∀ r ∈ a,r.length=C)/\1<=R/\R<=64/\1<=C/\C<=64
theorem eX (R C:Nat) (f:Nat->Nat->Rat):(bG R C f).length=R:=by simp[bG]
theorem b0Y {α:Type} (X:List (List α)) (Z:List α) {k:Nat} (hk:k<X.length):List.map (fun i=>(X++[Z]).getD i []) ((List.range X.length).set k X.length)=X.set k Z:=by
 apply Dj
 ·simp
 ·intro i h1 h2
  have hi:i<X.length:=by simpa using h2
  rw[List.getElem_map,List.getElem_set,List.getElem_set]
  split
  ·simp
  ·rw[List.getElem_range,iy,Ap hi,jc hi];rfl
theorem b4e (n k:Nat):((List.range n).set k n).Nodup:=by
 refine List.nodup_iff_pairwise_ne.mpr (List.pairwise_iff_getElem.mpr fun i j hi hj h=>?_)
 have h1:i<n:=by simpa using hi
 have h2:j<n:=by simpa using hj
 rw[List.getElem_set,List.getElem_set]
 split<;>split<;>simp<;>omega
theorem b0Z {α:Type} {H:List (List α)} {k R:Nat} (hH:H.length=k) (hk:k<R) (Z:List α):(H++List.replicate (R-k) []).set k Z=H++[Z]++List.replicate (R-k-1) []:=by
 obtain⟨d,rfl⟩:∃ d,R=k+d+1:=⟨R-k-1,by omega⟩
 subst hH
 rw[show H.length+d+1-H.length=d+1 by omega,show d+1-1=d by omega,List.set_append_right _ _ (ay _),Nat.sub_self,List.replicate_succ,List.set_cons_zero]
 simp
theorem a5F {α:Type} {H T:List (List α)} {k:Nat} (hH:H.length=k) (Z:List α):rowAt (H++[Z]++T) k=Z:=by
 subst hH;unfold rowAt;simp
theorem b1b {α:Type} {H T:List (List α)} {k:Nat} (hH:H.length=k) (Z Y:List α):(H++[Z]++T).set k Y=H++[Y]++T:=by
 subst hH;simp
theorem b1a {α:Type} (g:Nat->α) (z:α) {q C:Nat} (h:q<C):(List.map g (List.range q)++List.replicate (C-q) z).set q (g q)=List.map g (List.range (q+1))++List.replicate (C-(q+1)) z:=by
 obtain⟨d,rfl⟩:∃ d,C=q+d+1:=⟨C-q-1,by omega⟩
 rw[show q+d+1-q=d+1 by omega,show q+d+1-(q+1)=d by omega,List.set_append_right _ _ (by simp),Bj]
 simp[List.replicate_succ]
theorem a8h (k C:Nat) (f:Nat->Nat->Rat):bG (k+1) C f=bG k C f++[List.map (fun j=>eU (f k j)) (List.range C)]:=by unfold bG;rw[Bj];simp
theorem sN {α:Type} {p:α->Prop}:∀ {xs:List α},kM p xs↔∀ x ∈ xs,p x
 | []=>by simp[kM]
 | x::xs=>by simp[kM,sN (xs:=xs)]
theorem JX (R C:Nat) (f:Nat->Nat->Rat):kM (fun x=>dJ [kM (fun x=>dJ [aH.ok x=true]) x]) (bG R C f):=by
 refine sN.mpr fun r hr=>⟨sN.mpr fun q hq=>⟨?_,trivial⟩,trivial⟩
 obtain⟨i,_,rfl⟩:=uw.mp hr
 obtain⟨j,_,rfl⟩:=uw.mp hq
 rfl
theorem UO (R C:Nat) (f:Nat->Nat->Rat):List.map (fun xs=>List.map (fun x=>aH.x x) xs) (bG R C f)=tab R C f:=by
 unfold bG tab;simp[eU,Function.comp_def]
end Go.Proofs.YtbkocjmmbkifjaaGreat
