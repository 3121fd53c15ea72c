/-
  Lemmas for the theorem veight28_holds, part 23 of 32.
-/
import Derived.Lib.AppendZerosOnto
import Derived.Lib.Walk
import Derived.Test.YtbkocjmmbkifjaaGreatQg22
namespace Go.Proofs.YtbkocjmmbkifjaaGreat
open Go Go.RowKit
set_option maxRecDepth 100000
set_option maxHeartbeats 1000000
set_option linter.unusedVariables false
set_option linter.unusedSimpArgs false
theorem c2C (x y:Int):sgn (x-y)=bZ x y:=by
 unfold bZ sgn
 rcases Cj x y with h|h|h
 ·rw[jl h,um (by omega)]
 ·rw[jd (by omega),jd (by omega),h,Int.sub_self];rfl
 ·rw[jd (by omega),jl h,vg (by omega)]
theorem c2E (x y:Rat):sgn (x-y).num=KT x y:=by
 unfold sgn KT
 rw[a9E]
 have a:(x-y<0)=(x<y):=propext ⟨fun h=>by grind,fun h=>by grind⟩
 have b:(0<x-y)=(y<x):=propext ⟨fun h=>by grind,fun h=>by grind⟩
 simp only[a,b]
theorem b9J (x y:Rat):(KT x y==0)=decide (x=y):=by
 unfold KT
 by_cases h1:x<y
 ·rw[jl h1,qo (fun e=>by subst e;exact absurd h1 (by grind))];rfl
 ·by_cases h2:y<x
  ·rw[jd h1,jl h2,qo (fun e=>by subst e;exact absurd h2 (by grind))];rfl
  ·rw[jd h1,jd h2,xk (by grind)];rfl
theorem c0Q {x:Int}:(sgn x==0)=decide (x=0):=b8M
theorem b0S:aI Tryz.prog 131 (cZ2 fun x y=>((Int.gcd x y:Nat):Int)):=(a6O fun v u x y w h1 h2 l1 l2=>a9N v u x y w h1 h2 l1 l2)
theorem b8X:aI Tryz.prog 129 cIV:=(a6M fun v ok x w h=>wH v ok x w h)
def b9G (K:Nat) (g:Int->Int->Int):Ctr:=⟨[tZ,tZ],[tI],fun x=>isz x.1<=K/\isz x.2.1<=K,fun x=>(g x.1 x.2.1,())⟩
theorem b3s:aI Tryz.prog 130 (b9G 999999999 bZ):=by
 refine aO ((nil0.ad wV).ad ZF) ⟨[],[],[]⟩ Tryz.func130 rfl (by decide) (fun x=>[]) (fun x hp=>?_)
 obtain⟨x,y,u⟩:=x
 change Int at x
 change Int at y
 refine aY (((isz x<=1000000000/\isz y<=1000000000)/\isz (x-y)<=1000000000/\True)/\True/\sgn (x-y)=bZ x y/\True) (by kernel_rfl) ?_
 have hZ:(⟨false,0,[],[]⟩:aH)=bF:=rfl
 try simp only[aF,ak,ah]
 try dsimp only[aB,asT,aA,aG,Ty.den,Lf.den] at *
 try simp only[hZ,Int.toNat_natCast,aF,ak,ah,jo,jm,iq,dh]
 try simp only[cZ,cO,List.all_cons,List.all_nil,jr,gy,iw,jf,ni,ne_eq,au,bg,eu,ig,jh,qh,jy,ql,jo,jm,je,dn,List.length_cons,List.length_nil]
 obtain⟨l1,l2⟩:isz x<=999999999/\isz y<=999999999:=hp
 have:=LW x y
 exact⟨⟨⟨by omega,by omega⟩,by omega⟩,c2C x y⟩
theorem a4B:aI Tryz.prog 132 cIZ:=by
 refine aO (nil0.ad a1v) ⟨[2],[],[]⟩ Tryz.func132 rfl (by decide) (fun x=>[]) (fun x hp=>?_)
 obtain⟨n,u⟩:=x
 change Int at n
 refine aY ((dU n/\True)/\True/\n=n/\True) (by kernel_rfl) ?_
 have hZ:(⟨false,0,[],[]⟩:aH)=bF:=rfl
 try simp only[aF,ak,ah]
 try dsimp only[aB,asT,aA,aG,Ty.den,Lf.den] at *
 try simp only[hZ,Int.toNat_natCast,aF,ak,ah,jo,jm,iq,dh]
 try simp only[cZ,cO,List.all_cons,List.all_nil,jr,gy,iw,jf,ni,ne_eq,au,bg,eu,ig,jh,qh,jy,ql,jo,jm,je,dn,List.length_cons,List.length_nil]
 exact hp
noncomputable def c1I:Ctr:=⟨[tZ,tZ],[tQ],fun x=>isz x.1<=400000000/\isz x.2.1<=400000000/\(show Int from x.2.1)≠0,fun x=>(Rat.divInt x.1 x.2.1,())⟩
theorem YH:aI Tryz.prog 162 c1I:=by
 refine aO ((((nil0.ad b0S).ad IC).ad wV).ad ZC) ⟨[4,5,6,7,9,10],[],[]⟩ Tryz.func162 rfl (by decide) (fun x=>[]) (fun x hp=>?_)
 obtain⟨x,y,u⟩:=x
 change Int at x
 change Int at y
 refine aY (((isz x<=1000000000/\isz y<=1000000000)/\True)/\(isz y<=1000000000/\True)/\ifB (decide (sgn y<0)) ((isz (aB (Int.gcd x y))<=1000000000/\True)/\((isz x<=400000000/\isz (-aB (Int.gcd x y))<=400000000/\-aB (Int.gcd x y)≠0)/\True)/\((isz y<=400000000/\isz (-aB (Int.gcd x y))<=400000000/\-aB (Int.gcd x y)≠0)/\True)/\(0<Int.fdiv y (-aB (Int.gcd x y))/\Int.gcd (Int.fdiv x (-aB (Int.gcd x y))) (Int.fdiv y (-aB (Int.gcd x y)))=1/\True)/\Rat.divInt (Int.fdiv x (-aB (Int.gcd x y))) (Int.fdiv y (-aB (Int.gcd x y)))=Rat.divInt x y/\True) (((isz x<=400000000/\isz (aB (Int.gcd x y))<=400000000/\aB (Int.gcd x y)≠0)/\True)/\((isz y<=400000000/\isz (aB (Int.gcd x y))<=400000000/\aB (Int.gcd x y)≠0)/\True)/\(0<Int.fdiv y (aB (Int.gcd x y))/\Int.gcd (Int.fdiv x (aB (Int.gcd x y))) (Int.fdiv y (aB (Int.gcd x y)))=1/\True)/\Rat.divInt (Int.fdiv x (aB (Int.gcd x y))) (Int.fdiv y (aB (Int.gcd x y)))=Rat.divInt x y/\True)) (by kernel_rfl) ?_
 have hZ:(⟨false,0,[],[]⟩:aH)=bF:=rfl
 try simp only[aF,ak,ah]
 try dsimp only[aB,asT,aA,aG,Ty.den,Lf.den] at *
 try simp only[hZ,Int.toNat_natCast,aF,ak,ah,jo,jm,iq,dh]
 try simp only[cZ,cO,List.all_cons,List.all_nil,jr,gy,iw,jf,ni,ne_eq,au,bg,eu,ig,jh,qh,jy,ql,jo,jm,je,dn,List.length_cons,List.length_nil]
 obtain⟨l1,l2,hy⟩:isz x<=400000000/\isz y<=400000000/\y≠0:=hp
 have g1:isz ((Int.gcd x y:Nat):Int)<=400000000:=kF hy l2
 have g2:((Int.gcd x y:Nat):Int)≠0:=gcd_ne hy
 have g3:isz (-((Int.gcd x y:Nat):Int))<=400000000:=by rw[jK];exact g1
 refine⟨⟨by omega,by omega⟩,by omega,fun h=>⟨by omega,⟨l1,g3,by omega⟩,⟨l2,g3,by omega⟩,?_⟩,fun h=>⟨⟨l1,g1,g2⟩,⟨l2,g1,g2⟩,?_⟩⟩
 ·have:=rd8 (a6c (n:=x) (Du.1 h))
  exact⟨⟨this.1,this.2.1⟩,this.2.2⟩
 ·have h0:¬ y<0:=fun e=>h (Du.2 e)
  have:=rd8 (a6d (n:=x) (show 0<y by omega))
  exact⟨⟨this.1,this.2.1⟩,this.2.2⟩
theorem YL:aI Tryz.prog 143 (cIQ dU (fun i=>(i:Rat))):=by
 refine aO (nil0.ad a4B) ⟨[2],[],[]⟩ Tryz.func143 rfl (by decide) (fun x=>[]) (fun x hp=>?_)
 obtain⟨n,u⟩:=x
 change Int at n
 refine aY ((dU n/\dU 1/\True)/\(asT Int 0<1/\Int.gcd n 1=1/\True)/\Rat.divInt n 1=bV n/\True) (by kernel_rfl) ?_
 have hZ:(⟨false,0,[],[]⟩:aH)=bF:=rfl
 try simp only[aF,ak,ah]
 try dsimp only[aB,asT,aA,aG,Ty.den,Lf.den] at *
 try simp only[hZ,Int.toNat_natCast,aF,ak,ah,jo,jm,iq,dh]
 try simp only[cZ,cO,List.all_cons,List.all_nil,jr,gy,iw,jf,ni,ne_eq,au,bg,eu,ig,jh,qh,jy,ql,jo,jm,je,dn,List.length_cons,List.length_nil]
 exact⟨⟨hp,by omega,by omega⟩,⟨by omega,Int.gcd_one_right _⟩,by rw[show (1:Int)=((1:Nat):Int) from rfl,Rat.divInt_ofNat];exact Rat.mkRat_one n⟩
theorem b2Y:aI Tryz.prog 46 (b4t 999999999):=by
 refine aO (((((nil0.ad b0S).ad wV).ad b8X).ad b3s).ad a4B) ⟨[],[],[]⟩ Tryz.func46 rfl (by decide) (fun x=>[]) (fun x hp=>?_)
 obtain⟨x,u⟩:=x
 change gG × gG × Unit at x
 refine aY (let A₁:=(asT gG x.2.1);let A₂:=(asT gG x.1);let A₀:=(bif !gG.ok A₂ then true else !gG.ok A₁);let aW:=((!gG.ok A₂)==false);let bW:=((A₀==false)=true->(A₀==false)=true/\True);let eU:=(aB (Int.gcd (gG.x A₂) (gG.x A₁)));let gY:=(aW=true->aW=true/\True);(True/\gY/\(aW=true->aW=true/\True/\True)/\gY/\((!gG.ok A₂)=false->aW=true)/\bW/\((A₀==false)=true->(A₀==false)=true/\gG.ok A₁=true/\isz (gG.x A₁)<=1000000000/\True)/\bW/\(A₀=false->(A₀==false)=true)/\True)/\ifB (bif bif !gG.ok A₂ then true else !gG.ok A₁ then true else decide (sgn (gG.x A₁)<=0)) (True/\false=a1t A₂ A₁/\True) ((gG.ok A₂=true/\gG.ok A₁=true/\(isz (gG.x A₂)<=1000000000/\isz (gG.x A₁)<=1000000000)/\dU 1/\(isz eU<=999999999/\isz 1<=999999999)/\True)/\True/\(bZ eU 1==0)=a1t A₂ A₁/\True)) (by kernel_rfl) ?_
 have hZ:(⟨false,0,[],[]⟩:aH)=bF:=rfl
 try simp only[aF,ak,ah]
 try dsimp only[aB,asT,aA,aG,Ty.den,Lf.den] at *
 try simp only[hZ,Int.toNat_natCast,aF,ak,ah,jo,jm,iq,dh]
 try simp only[cZ,cO,List.all_cons,List.all_nil,jr,gy,iw,jf,ni,ne_eq,au,bg,eu,ig,jh,qh,jy,ql,jo,jm,je,dn,List.length_cons,List.length_nil]
 obtain⟨⟨o1,n,g⟩,⟨o2,d,h⟩,u⟩:=x
 obtain⟨l1,l2⟩:isz n<=999999999/\isz d<=999999999:=hp
 have e:(sgn d<=0)=¬ 0<d:=propext (by unfold sgn;rw[<-Int.sign_pos_iff];omega)
 simp only[e,b9I,a1t] at *
 cases o1<;>cases o2<;>simp<;>try omega
 by_cases hd:0<d
 ·have:isz ((Int.gcd n d:Nat):Int)<=999999999:=kF (by omega) l2
  simp[hd,c0w]
  exact⟨by omega,fun h=>absurd hd (by omega),⟨by omega,by omega⟩,⟨by omega,by omega⟩,this⟩
 ·simp[hd];omega
theorem a4A:aI Tryz.prog 46 (cVal 999999999):=b0N b2Y
theorem MV:aI Tryz.prog 78 (cQ1 (fun x=>rsz x<=999999999) (fun x=>x)):=by
 refine aO ((nil0.ad YL).ad a4A) ⟨[2],[],[]⟩ Tryz.func78 rfl (by decide) (fun x=>[]) (fun x hp=>?_)
 obtain⟨x,u⟩:=x
 change Rat at x
 refine aY (((aH.n (dL x)<=999999999/\aH.m (dL x)<=999999999)/\True)/\True/\x=x/\True) (by kernel_rfl) ?_
 have hZ:(⟨false,0,[],[]⟩:aH)=bF:=rfl
 try simp only[aF,ak,ah]
 try dsimp only[aB,asT,aA,aG,Ty.den,Lf.den] at *
 try simp only[hZ,Int.toNat_natCast,aF,ak,ah,jo,jm,iq,dh]
 try simp only[cZ,cO,List.all_cons,List.all_nil,jr,gy,iw,jf,ni,ne_eq,au,bg,eu,ig,jh,qh,jy,ql,jo,jm,je,dn,List.length_cons,List.length_nil]
 exact sz8 (show rsz x<=999999999 from hp)
noncomputable def b9u:Ctr:=⟨[tZ,tZ],[tR,tI],fun x=>isz x.1<=390000000/\isz x.2.1<=390000000,fun x=>newT 14 x.1 x.2.1⟩
theorem a6f:aI Tryz.prog 160 b9u:=by
 refine aO ((nil0.ad wV).ad YH) ⟨[4],[],[]⟩ Tryz.func160 rfl (by decide) (fun x=>[]) (fun x hp=>?_)
 obtain⟨x,y,u⟩:=x
 change Int at x
 change Int at y
 refine aY ((isz y<=1000000000/\True)/\ifB (sgn y==0) (True/\bF=Prod.fst (newT 14 x y)/\True/\14=Prod.fst (newT 14 x y).2/\True) (((isz x<=400000000/\isz y<=400000000/\y≠0)/\True)/\True/\dL (Rat.divInt x y)=Prod.fst (newT 14 x y)/\True/\0=Prod.fst (newT 14 x y).2/\True)) (by kernel_rfl) ?_
 have hZ:(⟨false,0,[],[]⟩:aH)=bF:=rfl
 try simp only[aF,ak,ah]
 try dsimp only[aB,asT,aA,aG,Ty.den,Lf.den] at *
 try simp only[hZ,Int.toNat_natCast,aF,ak,ah,jo,jm,iq,dh]
 try simp only[cZ,cO,List.all_cons,List.all_nil,jr,gy,iw,jf,ni,ne_eq,au,bg,eu,ig,jh,qh,jy,ql,jo,jm,je,dn,List.length_cons,List.length_nil]
 obtain⟨l1,l2⟩:isz x<=390000000/\isz y<=390000000:=hp
 rw[c0Q]
 refine⟨by omega,fun h=>?_,fun h=>?_⟩
 ·unfold newT;rw[jl (vw h)];exact⟨rfl,rfl⟩
 ·unfold newT;rw[jd (vk h)];exact⟨⟨by omega,by omega,vk h⟩,rfl,rfl⟩
theorem a4y:aI Tryz.prog 17 (cQI (fun x=>rsz x<=900000000) (fun x=>sgn x.num)):=by
 refine aO ((nil0.ad wV).ad MV) ⟨[],[],[]⟩ Tryz.func17 rfl (by decide) (fun x=>[]) (fun x hp=>?_)
 obtain⟨x,u⟩:=x
 change Rat at x
 refine aY ((rsz x<=999999999/\isz (Rat.num x)<=1000000000/\True)/\True/\sgn (Rat.num x)=sgn (Rat.num x)/\True) (by kernel_rfl) ?_
 have hZ:(⟨false,0,[],[]⟩:aH)=bF:=rfl
 try simp only[aF,ak,ah]
 try dsimp only[aB,asT,aA,aG,Ty.den,Lf.den] at *
 try simp only[hZ,Int.toNat_natCast,aF,ak,ah,jo,jm,iq,dh]
 try simp only[cZ,cO,List.all_cons,List.all_nil,jr,gy,iw,jf,ni,ne_eq,au,bg,eu,ig,jh,qh,jy,ql,jo,jm,je,dn,List.length_cons,List.length_nil]
 have hp:rsz x<=900000000:=hp
 have:=(sz8 hp).1
 exact⟨by omega,by omega⟩
theorem b2N:aI Tryz.prog 101 (cQ1 (fun x=>rsz x<=190000000) (fun x=>-x)):=by
 refine aO ((nil0.ad IC).ad MV) ⟨[2,3],[],[]⟩ Tryz.func101 rfl (by decide) (fun x=>[]) (fun x hp=>?_)
 obtain⟨x,u⟩:=x
 change Rat at x
 refine aY ((rsz x<=999999999/\True)/\(isz (Rat.num x)<=1000000000/\True)/\(0<aB (Rat.den x)/\Int.gcd (-Rat.num x) (aB (Rat.den x))=1/\True)/\Rat.divInt (-Rat.num x) (aB (Rat.den x))=-x/\True) (by kernel_rfl) ?_
 have hZ:(⟨false,0,[],[]⟩:aH)=bF:=rfl
 try simp only[aF,ak,ah]
 try dsimp only[aB,asT,aA,aG,Ty.den,Lf.den] at *
 try simp only[hZ,Int.toNat_natCast,aF,ak,ah,jo,jm,iq,dh]
 try simp only[cZ,cO,List.all_cons,List.all_nil,jr,gy,iw,jf,ni,ne_eq,au,bg,eu,ig,jh,qh,jy,ql,jo,jm,je,dn,List.length_cons,List.length_nil]
 have hp:rsz x<=190000000:=hp
 obtain⟨a,b⟩:=sz8 hp
 exact⟨by omega,by omega,⟨b1p x,by have:=FQ (-x);rwa [yQ,yP] at this⟩,a9k x⟩
theorem a4p:aI Tryz.prog 76 (cQ2 s19 (·+·)):=by
 refine aO ((((nil0.ad a1w).ad a4U).ad YH).ad MV) ⟨[4,5,6],[],[]⟩ Tryz.func76 rfl (by decide) (fun x=>[]) (fun x hp=>?_)
 obtain⟨x,y,u⟩:=x
 change Rat at x
 change Rat at y
 refine aY ((rsz x<=999999999/\True)/\(rsz y<=999999999/\True)/\((isz (Rat.num x)<=1000000000/\isz (aB (Rat.den y))<=1000000000)/\(isz (Rat.num y)<=1000000000/\isz (aB (Rat.den x))<=1000000000)/\(isz (Rat.num x*aB (Rat.den y))<=1000000000/\isz (Rat.num y*aB (Rat.den x))<=1000000000)/\(isz (aB (Rat.den x))<=1000000000/\isz (aB (Rat.den y))<=1000000000)/\(isz (Rat.num x*aB (Rat.den y)+Rat.num y*aB (Rat.den x))<=400000000/\isz (aB (Rat.den x)*aB (Rat.den y))<=400000000/\aB (Rat.den x)*aB (Rat.den y)≠0)/\True)/\True/\Rat.divInt (Rat.num x*aB (Rat.den y)+Rat.num y*aB (Rat.den x)) (aB (Rat.den x)*aB (Rat.den y))=x+y/\True) (by kernel_rfl) ?_
 have hZ:(⟨false,0,[],[]⟩:aH)=bF:=rfl
 try simp only[aF,ak,ah]
 try dsimp only[aB,asT,aA,aG,Ty.den,Lf.den] at *
 try simp only[hZ,Int.toNat_natCast,aF,ak,ah,jo,jm,iq,dh]
 try simp only[cZ,cO,List.all_cons,List.all_nil,jr,gy,iw,jf,ni,ne_eq,au,bg,eu,ig,jh,qh,jy,ql,jo,jm,je,dn,List.length_cons,List.length_nil]
 obtain⟨l1,l2⟩:rsz x<=190000000/\rsz y<=190000000:=hp
 obtain⟨a,b⟩:=sz8 l1
 obtain⟨c,d⟩:=sz8 l2
 have m1:=KY a d
 have m2:=KY c b
 have m3:=KY b d
 have m4:=vW (x.num*y.den) (y.num*x.den)
 exact⟨by omega,by omega,⟨⟨by omega,by omega⟩,⟨by omega,by omega⟩,⟨by omega,by omega⟩,⟨by omega,by omega⟩,by omega,by omega,Int.mul_ne_zero (EC x) (EC y)⟩,YD x y⟩
theorem b2M:aI Tryz.prog 75 (cQ2 s19 (·*·)):=by
 refine aO (((nil0.ad a1w).ad YH).ad MV) ⟨[4,5,6],[],[]⟩ Tryz.func75 rfl (by decide) (fun x=>[]) (fun x hp=>?_)
 obtain⟨x,y,u⟩:=x
 change Rat at x
 change Rat at y
 refine aY ((rsz x<=999999999/\True)/\(rsz y<=999999999/\True)/\((isz (Rat.num x)<=1000000000/\isz (Rat.num y)<=1000000000)/\(isz (aB (Rat.den x))<=1000000000/\isz (aB (Rat.den y))<=1000000000)/\(isz (Rat.num x*Rat.num y)<=400000000/\isz (aB (Rat.den x)*aB (Rat.den y))<=400000000/\aB (Rat.den x)*aB (Rat.den y)≠0)/\True)/\True/\Rat.divInt (Rat.num x*Rat.num y) (aB (Rat.den x)*aB (Rat.den y))=x*y/\True) (by kernel_rfl) ?_
 have hZ:(⟨false,0,[],[]⟩:aH)=bF:=rfl
 try simp only[aF,ak,ah]
 try dsimp only[aB,asT,aA,aG,Ty.den,Lf.den] at *
 try simp only[hZ,Int.toNat_natCast,aF,ak,ah,jo,jm,iq,dh]
 try simp only[cZ,cO,List.all_cons,List.all_nil,jr,gy,iw,jf,ni,ne_eq,au,bg,eu,ig,jh,qh,jy,ql,jo,jm,je,dn,List.length_cons,List.length_nil]
 obtain⟨l1,l2⟩:rsz x<=190000000/\rsz y<=190000000:=hp
 obtain⟨a,b⟩:=sz8 l1
 obtain⟨c,d⟩:=sz8 l2
 have m1:=KY a c
 have m3:=KY b d
 exact⟨by omega,by omega,⟨⟨by omega,by omega⟩,⟨by omega,by omega⟩,by omega,by omega,Int.mul_ne_zero (EC x) (EC y)⟩,YE x y⟩
theorem b2R:aI Tryz.prog 133 (cQ2 s19 (·-·)):=by
 refine aO ((nil0.ad b2N).ad a4p) ⟨[4],[],[]⟩ Tryz.func133 rfl (by decide) (fun x=>[]) (fun x hp=>?_)
 obtain⟨x,y,u⟩:=x
 change Rat at x
 change Rat at y
 refine aY ((rsz y<=190000000/\s19 x (-y)/\True)/\True/\x+-y=x-y/\True) (by kernel_rfl) ?_
 have hZ:(⟨false,0,[],[]⟩:aH)=bF:=rfl
 try simp only[aF,ak,ah]
 try dsimp only[aB,asT,aA,aG,Ty.den,Lf.den] at *
 try simp only[hZ,Int.toNat_natCast,aF,ak,ah,jo,jm,iq,dh]
 try simp only[cZ,cO,List.all_cons,List.all_nil,jr,gy,iw,jf,ni,ne_eq,au,bg,eu,ig,jh,qh,jy,ql,jo,jm,je,dn,List.length_cons,List.length_nil]
 obtain⟨l1,l2⟩:rsz x<=190000000/\rsz y<=190000000:=hp
 obtain⟨a,b⟩:=sz8 l1
 obtain⟨c,d⟩:=sz8 l2
 exact⟨⟨l2,l1,by rw[FW];exact l2⟩,(Rat.sub_eq_add_neg x y).symm⟩
theorem b2F:aI Tryz.prog 47 (b4s s19 KT):=by
 refine aO ((nil0.ad a4y).ad b2R) ⟨[],[],[]⟩ Tryz.func47 rfl (by decide) (fun x=>[]) (fun x hp=>?_)
 obtain⟨x,y,u⟩:=x
 change Rat at x
 change Rat at y
 refine aY ((s19 x y/\rsz (x-y)<=900000000/\True)/\True/\sgn (Rat.num (x-y))=KT x y/\True) (by kernel_rfl) ?_
 have hZ:(⟨false,0,[],[]⟩:aH)=bF:=rfl
 try simp only[aF,ak,ah]
 try dsimp only[aB,asT,aA,aG,Ty.den,Lf.den] at *
 try simp only[hZ,Int.toNat_natCast,aF,ak,ah,jo,jm,iq,dh]
 try simp only[cZ,cO,List.all_cons,List.all_nil,jr,gy,iw,jf,ni,ne_eq,au,bg,eu,ig,jh,qh,jy,ql,jo,jm,je,dn,List.length_cons,List.length_nil]
 obtain⟨l1,l2⟩:rsz x<=190000000/\rsz y<=190000000:=hp
 obtain⟨a,b⟩:=sz8 l1
 obtain⟨c,d⟩:=sz8 l2
 have:=b2X x y
 exact⟨⟨⟨l1,l2⟩,by omega⟩,c2E x y⟩
theorem a4x:aI Tryz.prog 121 (b9y s19 (fun x y=>decide (x=y))):=by
 refine aO ((nil0.ad a4A).ad b2F) ⟨[],[],[]⟩ Tryz.func121 rfl (by decide) (fun x=>[]) (fun x hp=>?_)
 obtain⟨x,y,u⟩:=x
 change Rat at x
 change Rat at y
 refine aY (((aH.n (dL x)<=999999999/\aH.m (dL x)<=999999999)/\(asT Bool true=true->asT Bool true=true/\(aH.n (dL y)<=999999999/\aH.m (dL y)<=999999999)/\True)/\(asT Bool true=true->asT Bool true=true)/\(asT Bool true=true->asT Bool true=true/\asT Bool true=true/\s19 x y/\True)/\(asT Bool true=true->asT Bool true=true/\True)/\(asT Bool true=true->asT Bool true=true)/\True)/\True/\(bif bif true then true else false then KT x y==0 else false)=decide (x=y)/\True) (by kernel_rfl) ?_
 have hZ:(⟨false,0,[],[]⟩:aH)=bF:=rfl
 try simp only[aF,ak,ah]
 try dsimp only[aB,asT,aA,aG,Ty.den,Lf.den] at *
 try simp only[hZ,Int.toNat_natCast,aF,ak,ah,jo,jm,iq,dh]
 try simp only[cZ,cO,List.all_cons,List.all_nil,jr,gy,iw,jf,ni,ne_eq,au,bg,eu,ig,jh,qh,jy,ql,jo,jm,je,dn,List.length_cons,List.length_nil]
 obtain⟨l1,l2⟩:rsz x<=190000000/\rsz y<=190000000:=hp
 obtain⟨a,b⟩:=sz8 l1
 obtain⟨c,d⟩:=sz8 l2
 have e:∀ b:Bool,(bif bif true then true else false then b else false)=b:=fun b=>by cases b<;>rfl
 refine⟨⟨⟨jc a (by omega),jc b (by omega)⟩,fun _=>⟨jc c (by omega),jc d (by omega)⟩,fun h=>h,fun _=>⟨l1,l2⟩,fun h=>h,fun h=>h⟩,(e _).trans (b9J x y)⟩
theorem a3r {P:Program} {f:FuncId} {args res:List Ty} {pre pre':(nest args).den->Prop} {fn:(nest args).den->(nest res).den} {d:∀ x,Dc (pre x)} {d':∀ x,Dc (pre' x)} (h:aI P f (@Ctr.mk args res pre fn d)) (e:∀ x,pre' x->pre x):aI P f (@Ctr.mk args res pre' fn d'):=fun F w vs x a b hp=>h F w vs x a b (e x hp)
theorem b0b:aI Tryz.prog 17 (cQI (fun x=>rsz x<=190000000) (fun x=>sgn x.num)):=a3r a4y fun x h=>jc h (by omega)
theorem cZ {a b:Bool}:(bif a then true else b)=(a || b):=by cases a<;>rfl
theorem cO {a b:Bool}:(bif a then b else false)=(a&&b):=by cases a<;>rfl
theorem WQ {α:Type} {p:α->Bool} {xs:List α} {i:Nat} {d:α} (hi:i<xs.length) (h:p (xs.getD i d)=true):xs.any p=true:=by
 rw[bn,dw hi] at h
 exact List.any_eq_true.mpr ⟨_,wz hi,h⟩
def lN (n:Int):Bool:=decide (n > 1048576) || decide (n < -1048576)
abbrev b8Q:Ty:=.pair tI (.pair tI .unit)
abbrev sZ:Ty:=.pair b8Q (.pair b8Q .unit)
abbrev aX:Type:=(Int × Int × Unit) × (Int × Int × Unit) × Unit
def gB:aX:=(((0:Int),(0:Int),()),((0:Int),(0:Int),()),())
def CQ (p:aX):Bool:=[p.1.1,p.1.2.1,p.2.1.1,p.2.1.2.1].any lN
noncomputable def c1u:Ctr:=⟨[tI],[tB],fun x=>True,fun x=>(lN x.1,())⟩
noncomputable def b9p:Ctr:=⟨[.list tI],[tB],fun x=>(show List Int from x.1).length<=1000000,fun x=>((show List Int from x.1).any lN,())⟩
theorem a3C:aI Tryz.prog 224 c1u:=by
 refine aO Lib.nil ⟨[],[],[]⟩ Tryz.func224 rfl (by decide) (fun x=>[]) (fun x hp=>?_)
 obtain⟨n,u⟩:=x
 change Int at n
 refine aY ((((decide (n < -1048576)==false)=true->(decide (n < -1048576)==false)=true/\True)/\(decide (n < -1048576)=false->(decide (n < -1048576)==false)=true)/\True)/\True/\(bif decide (n < -1048576) then true else decide (n > 1048576))=lN n/\True) (by kernel_rfl) ?_
 have hZ:(⟨false,0,[],[]⟩:aH)=bF:=rfl
 try simp only[aF,ak,ah]
 try dsimp only[aB,asT,aA,aG,Ty.den,Lf.den] at *
 try simp only[hZ,Int.toNat_natCast,aF,ak,ah,jo,jm,iq,dh]
 try simp only[cZ,cO,List.all_cons,List.all_nil,jr,gy,iw,jf,ni,ne_eq,au,bg,eu,ig,jh,qh,jy,ql,jo,jm,je,dn,List.length_cons,List.length_nil]
 exact⟨fun h=>qo h,Bool.or_comm _ _⟩
theorem a0I:aI Tryz.prog 15 b9p:=by
 refine aO Lib.nil ⟨[],[],[]⟩ Tryz.func15 rfl (by decide) (fun x=>[.inv {k:Nat // k<=(show List Int from x.1).length/\((show List Int from x.1).take k).any lN=false} (fun k=>[(7,.val tI (k.1:Int))]) (fun k=>[]) (fun k=>(show List Int from x.1).length-k.1) ⟨0,by omega,rfl⟩ (fun _=>[])]) (fun x hp=>?_)
 obtain⟨x,u⟩:=x
 change List Int at x
 refine aY ((asT Int 0=0/\True)/\∀ (i:{ k:Nat // k<=List.length x/\List.any (List.take k x) lN=false }),let A₀:=(List.getD x (aB (aA i)).toNat 0 > 1048576);asT Bool true=true/\ifB (decide (aB (aA i)<aB x.length)) ((0<=aB (aA i)/\aB (aA i)<aB x.length/\True)/\(((decide A₀==false)=true->(decide A₀==false)=true/\True)/\(decide A₀=false->(decide A₀==false)=true)/\True)/\ifB (bif decide A₀ then true else decide (List.getD x (aB (aA i)).toNat 0 < -1048576)) (True/\true=List.any x lN/\True) (∃ (i':{ k:Nat // k<=List.length x/\List.any (List.take k x) lN=false }),List.length x-aA i'<List.length x-aA i/\IntKind.wrap IntKind.i64 (aB (aA i)+1)=aB (aA i')/\True)) (True/\false=List.any x lN/\True)) (by kernel_rfl) ?_
 have hZ:(⟨false,0,[],[]⟩:aH)=bF:=rfl
 try simp only[aF,ak,ah]
 try dsimp only[aB,asT,aA,aG,Ty.den,Lf.den] at *
 try simp only[hZ,Int.toNat_natCast,aF,ak,ah,jo,jm,iq,dh]
 try simp only[cZ,cO,List.all_cons,List.all_nil,jr,gy,iw,jf,ni,ne_eq,au,bg,eu,ig,jh,qh,jy,ql,jo,jm,je,dn,List.length_cons,List.length_nil]
 have hp:x.length<=1000000:=hp
 refine fun i=>⟨fun h1=>⟨⟨by omega,h1⟩,fun h=>qo h,fun h=>?_,fun h=>⟨⟨i.1+1,by omega,?_⟩,by simp only;omega,?_⟩⟩,fun h1=>?_⟩
 ·exact(WQ (i:=i.1) (d:=0) (by omega) (by unfold lN;rcases h with h|h<;>rw[h]<;>simp)).symm
 ·rw[mZ (d:=0) (by omega),i.2.2]
  show (false || lN _)=false
  unfold lN;rw[h.1,h.2];rfl
 ·rw[aS (by omega) (by omega)];rfl
 ·have h3:=i.2.2
  rw[jv (by omega)] at h3
  exact h3.symm
noncomputable def b9q:Ctr:=⟨[.list tI,.clo 224 .unit],[tI],fun x=>(show List (Int) from x.1).length<=1000000/\∀ q ∈ (show List (Int) from x.1),(fun _=>True) q,fun x=>(mX lN (show List (Int) from x.1),())⟩
theorem a8k:aI Tryz.prog 218 b9q:=by
 refine aO (nil0.ad a3C) ⟨[],[],[]⟩ Tryz.func218 rfl (by decide) (fun x=>[.inv {k:Nat // k<=(show List (Int) from x.1).length/\((show List (Int) from x.1).take k).any lN=false} (fun k=>[(8,.val tI (k.1:Int))]) (fun k=>[]) (fun k=>(show List (Int) from x.1).length-k.1) ⟨0,by omega,rfl⟩ (fun _=>[])]) (fun x hp=>?_)
 obtain⟨x,c,u⟩:=x
 change List (Int) at x
 change Unit at c
 refine aY ((asT Int 0=0/\True)/\∀ (i:{ k:Nat // k<=List.length x/\List.any (List.take k x) lN=false }),asT Bool true=true/\ifB (decide (aB (aA i)<aB x.length)) ((0<=aB (aA i)/\aB (aA i)<aB x.length/\True/\True)/\ifB (lN (List.getD x (aB (aA i)).toNat 0)) (True/\aB (aA i)=mX lN x/\True) (∃ (i':{ k:Nat // k<=List.length x/\List.any (List.take k x) lN=false }),List.length x-aA i'<List.length x-aA i/\IntKind.wrap IntKind.i64 (aB (aA i)+1)=aB (aA i')/\True)) (True/\-1=mX lN x/\True)) (by kernel_rfl) ?_
 have hZ:(⟨false,0,[],[]⟩:aH)=bF:=rfl
 try simp only[aF,ak,ah]
 try dsimp only[aB,asT,aA,aG,Ty.den,Lf.den] at *
 try simp only[hZ,Int.toNat_natCast,aF,ak,ah,jo,jm,iq,dh]
 try simp only[cZ,cO,List.all_cons,List.all_nil,jr,gy,iw,jf,ni,ne_eq,au,bg,eu,ig,jh,qh,jy,ql,jo,jm,je,dn,List.length_cons,List.length_nil]
 have hp:x.length<=1000000/\∀ q ∈ x,(fun _=>True) q:=hp
 obtain⟨hl,hb⟩:=hp
 refine fun i=>⟨fun h1=>⟨(by first|exact⟨by omega,h1,dB hb (by omega)⟩|exact⟨by omega,h1⟩),fun h2=>?_,fun h2=>⟨⟨i.1+1,by omega,?_⟩,by simp only;omega,?_⟩⟩,fun h1=>?_⟩
 ·exact(uO (d:=0) (by omega) i.2.2 (by first|exact h2|rw[h2];rfl)).symm
 ·rw[mZ (d:=0) (by omega),i.2.2,h2];rfl
 ·rw[aS (by omega) (by omega)];rfl
 ·have h3:=i.2.2
  rw[jv (by omega)] at h3
  exact(zO h3).symm
noncomputable def b9h:Ctr:=⟨[.list tI,.clo 224 .unit],[tB],fun x=>(show List (Int) from x.1).length<=1000000/\∀ q ∈ (show List (Int) from x.1),(fun _=>True) q,fun x=>((show List (Int) from x.1).any lN,())⟩
theorem a7d:aI Tryz.prog 136 b9h:=by
 refine aO ((nil0.ad a3C).ad a8k) ⟨[],[],[]⟩ Tryz.func136 rfl (by decide) (fun x=>[]) (fun x hp=>?_)
 obtain⟨x,c,u⟩:=x
 change List (Int) at x
 change Unit at c
 refine aY (((List.length x<=1000000/\∀ (q:Int),q ∈ x->True)/\True)/\True/\decide (mX lN x ≥ 0)=List.any x lN/\True) (by kernel_rfl) ?_
 exact⟨⟨hp,trivial⟩,trivial,uP _ _,trivial⟩
theorem a9u:aI Tryz.prog 144 b9p:=by
 refine aO (nil0.ad a7d) ⟨[],[],[]⟩ Tryz.func144 rfl (by decide) (fun x=>[]) (fun x hp=>?_)
 obtain⟨x,u⟩:=x
 change List Int at x
 refine aY (((List.length x<=1000000/\∀ (q:Int),q ∈ x->True)/\True)/\True/\List.any x lN=List.any x lN/\True) (by kernel_rfl) ?_
 exact⟨⟨⟨hp,fun _ _=>trivial⟩,trivial⟩,trivial,rfl,trivial⟩
def qH (l:List aX):Int:=bif l.any CQ then 2 else 0
noncomputable def b9B:Ctr:=⟨[.list sZ],[tI],fun x=>(show List aX from x.1).length<=1000000,fun x=>(qH x.1,())⟩
theorem a9Q:aI Tryz.prog 40 b9B:=by
 refine aO (nil0.ad a0I) ⟨[4],[],[]⟩ Tryz.func40 rfl (by decide) (fun x=>[.inv {k:Nat // k<=(show List aX from x.1).length/\((show List aX from x.1).take k).any CQ=false} (fun k=>[(7,.val tI (k.1:Int))]) (fun k=>[]) (fun k=>(show List aX from x.1).length-k.1) ⟨0,by omega,rfl⟩ (fun _=>[])]) (fun x hp=>?_)
 obtain⟨x,u⟩:=x
 change List aX at x
 refine aY ((asT Int 0=0/\True)/\∀ (i:{ k:Nat // k<=List.length x/\List.any (List.take k x) CQ=false }),let A₁:=(List.getD x (aB (aA i)).toNat gB);let A₀:=(Prod.fst A₁.1::Prod.fst A₁.1.2::Prod.fst A₁.2.1::Prod.fst A₁.2.1.2::aG Int);asT Bool true=true/\ifB (decide (aB (aA i)<aB x.length)) ((0<=aB (aA i)/\aB (aA i)<aB x.length/\True)/\(List.length A₀<=1000000/\True)/\ifB (List.any A₀ lN) (True/\2=qH x/\True) (∃ (i':{ k:Nat // k<=List.length x/\List.any (List.take k x) CQ=false }),List.length x-aA i'<List.length x-aA i/\IntKind.wrap IntKind.i64 (aB (aA i)+1)=aB (aA i')/\True)) (True/\0=qH x/\True)) (by kernel_rfl) ?_
 have hZ:(⟨false,0,[],[]⟩:aH)=bF:=rfl
 try simp only[aF,ak,ah]
 try dsimp only[aB,asT,aA,aG,Ty.den,Lf.den] at *
 try simp only[hZ,Int.toNat_natCast,aF,ak,ah,jo,jm,iq,dh]
 try simp only[cZ,cO,List.all_cons,List.all_nil,jr,gy,iw,jf,ni,ne_eq,au,bg,eu,ig,jh,qh,jy,ql,jo,jm,je,dn,List.length_cons,List.length_nil]
 have hp:x.length<=1000000:=hp
 refine fun i=>⟨fun h1=>⟨⟨by omega,h1⟩,by omega,fun h=>?_,fun h=>⟨⟨i.1+1,by omega,?_⟩,by simp only;omega,?_⟩⟩,fun h1=>?_⟩
 ·unfold qH;rw[WQ (p:=CQ) (i:=i.1) (d:=gB) (by omega) h];rfl
 ·rw[mZ (d:=gB) (by omega),i.2.2];exact(Bool.false_or _).trans h
 ·rw[aS (by omega) (by omega)];rfl
 ·have h3:=i.2.2
  rw[jv (by omega)] at h3
  unfold qH;rw[h3];rfl
theorem a5V:aI Tryz.prog 116 b9B:=by
 refine aO (nil0.ad a9u) ⟨[4],[],[]⟩ Tryz.func116 rfl (by decide) (fun x=>[.inv {k:Nat // k<=(show List aX from x.1).length/\((show List aX from x.1).take k).any CQ=false} (fun k=>[(7,.val tI (k.1:Int))]) (fun k=>[]) (fun k=>(show List aX from x.1).length-k.1) ⟨0,by omega,rfl⟩ (fun _=>[])]) (fun x hp=>?_)
 obtain⟨x,u⟩:=x
 change List aX at x
 refine aY ((asT Int 0=0/\True)/\∀ (i:{ k:Nat // k<=List.length x/\List.any (List.take k x) CQ=false }),let A₁:=(List.getD x (aB (aA i)).toNat gB);let A₀:=(Prod.fst A₁.1::Prod.fst A₁.1.2::Prod.fst A₁.2.1::Prod.fst A₁.2.1.2::aG Int);asT Bool true=true/\ifB (decide (aB (aA i)<aB x.length)) ((0<=aB (aA i)/\aB (aA i)<aB x.length/\True)/\(List.length A₀<=1000000/\True)/\ifB (List.any A₀ lN) (True/\2=qH x/\True) (∃ (i':{ k:Nat // k<=List.length x/\List.any (List.take k x) CQ=false }),List.length x-aA i'<List.length x-aA i/\IntKind.wrap IntKind.i64 (aB (aA i)+1)=aB (aA i')/\True)) (True/\0=qH x/\True)) (by kernel_rfl) ?_
 have hZ:(⟨false,0,[],[]⟩:aH)=bF:=rfl
 try simp only[aF,ak,ah]
 try dsimp only[aB,asT,aA,aG,Ty.den,Lf.den] at *
 try simp only[hZ,Int.toNat_natCast,aF,ak,ah,jo,jm,iq,dh]
 try simp only[cZ,cO,List.all_cons,List.all_nil,jr,gy,iw,jf,ni,ne_eq,au,bg,eu,ig,jh,qh,jy,ql,jo,jm,je,dn,List.length_cons,List.length_nil]
 have hp:x.length<=1000000:=hp
 refine fun i=>⟨fun h1=>⟨⟨by omega,h1⟩,by omega,fun h=>?_,fun h=>⟨⟨i.1+1,by omega,?_⟩,by simp only;omega,?_⟩⟩,fun h1=>?_⟩
 ·unfold qH;rw[WQ (p:=CQ) (i:=i.1) (d:=gB) (by omega) h];rfl
 ·rw[mZ (d:=gB) (by omega),i.2.2];exact(Bool.false_or _).trans h
 ·rw[aS (by omega) (by omega)];rfl
 ·have h3:=i.2.2
  rw[jv (by omega)] at h3
  unfold qH;rw[h3];rfl
noncomputable def LZ:Lib:=(((((((LCa
 ).add 175 cIZ (a1H fun x w h0 h1=>a9m x w h0 h1)
 ).add 213 (cZ2 fun x y=>((Int.gcd x y:Nat):Int)) EP
 ).add 177 (cZ2 fun x y=>x*y) uU
 ).add 97 (cZ1 fun x=>-x) yE
 ).add 179 (cZI Int.sign) pY
 ).add 282 a6N (a5a fun v x w h1=>a6n v x w h1)
 ).add 229 cDiv OY
noncomputable def LZb:Lib:=((((LZ
 ).add 183 (cNew 1000000000 14) XH
 ).add 147 b3v b1A
 ).add 172 (cQ1 s4 (fun x=>-x)) XG
 ).add 176 (cZ2 fun x y=>x+y) a0v
section
open Go Go.RowKit Go.Lib
set_option maxHeartbeats 4000000
abbrev IB:Value:=.agg #[.bool false,.slice none 0 0,.bool false,.slice none 0 0]
theorem a5A:∃ i,Tryz.prog.info? 47=some i/\i.size=4/\i.bytes<=64/\i.zero=some IB:=by
 have h:(Tryz.prog.info? 47).map (fun i=>(i.size,decide (i.bytes<=64),i.zero))=some (4,true,some IB):=by kernel_rfl
 obtain⟨i,h1,h2⟩:=jq.1 h
 simp only[bf,ak] at h2
 exact⟨i,h1,h2.1,h2.2.1,h2.2.2⟩
theorem a7J (n:Nat) (w:World) (h0:0<n) (hn:n<=1000000000):Calls Tryz.prog 151 #[.slice none 0 0,.int .i64 n] w fun e w'=>∃ c,n<=c/\c<=maxLen/\e=.returned (.slice (some ⟨w.heap.size,0,none⟩) 0 c)/\w'=w.drew.alloc (.cells (#[]++Builtin.zeroCells IB.cells n++Builtin.zeroCells IB.cells (c-n)) 47):=by
 obtain⟨i,hi,hs,hb,hz⟩:=a5A
 have hn1:n*i.bytes<=n*64:=Aa _ hb
 have hrz:∀ ty,(Builtin.append_ #[39,3] ty #[.slice none 0 0,.int .i64 (n:Nat)]).run Tryz.prog w=.ok (.slice (some ⟨w.heap.size,0,none⟩) (0+n) (grownCap w (0+n) 0 47)) (w.drew.alloc (.cells (#[]++Builtin.zeroCells IB.cells n++Builtin.zeroCells IB.cells (grownCap w (0+n) 0 47-(0+n))) 47)):=fun ty =>
  run_append_grow_zeros w 39 3 ty 47 i IB .i64 .i64 (by kernel_rfl) (by kernel_rfl) hi hz none 0 0 [] (run_firstCells_none w.drew _ 0 0 0) n h0 (by omega) (by omega) (by omega) (by omega) (growslice_fits (by omega) (by rw[tu];omega))
 have hG:=grownCap_ge w (0+n) 0 47
 have hG2:=grownCap_le_maxLen w (0+n) 0 47 (by unfold maxLen;omega)
 obtain⟨G,hg⟩:∃ G,G=grownCap w (0+n) 0 47:=⟨_,rfl⟩
 rw[<-hg] at hrz hG hG2
 simp only[tu] at hrz hG
 have hG63:G<=9223372036854775807:=by unfold maxLen at hG2;omega
 have h1:¬ ((n:Int)<0):=by omega
 have h4:(n:Int) > 0:=by omega
 clear hg hn1 hi hz hs hb
 go_enter Tryz.func151,Tryz.ntmps151
 go_wp2_with (at_builtin;refine Lib.wpList_append_run _ rfl _ _ _ _ rfl _ _ rfl rfl _ _ (hrz _) ?_)
 go_ret
 exact⟨G,hG,hG2,rfl,rfl⟩
theorem a5u (w:World):Calls Tryz.prog 151 #[.slice none 0 0,.int .i64 0] w fun e w'=>e=.returned (.slice none 0 0)/\w'=w:=by
 go_enter Tryz.func151,Tryz.ntmps151
 go_wp2
 go_ret
 exact⟨rfl,rfl⟩
abbrev LKr:LK:=.row 47 tR
def b3u:kR:=.mk LKr [.nls tR,tI] (fun x=>(show Option (List aH) from x.1)=none/\0<=(show Int from x.2.1)/\(show Int from x.2.1)<=1000000000) (fun _=>([]:List aH))
theorem b3r (z:Array Value) (n:Nat):(Builtin.zeroCells z n).size=n*z.size:=by simp[Builtin.zeroCells]
theorem a4T:∀ u ∈ IB.cells.toList,bT u=true:=by
 intro u hu
 have hu:u ∈ [Value.bool false,.slice none 0 0,.bool false,.slice none 0 0]:=hu
 simp only[qp,Dt,or_false] at hu
 rcases hu with rfl|rfl|rfl|rfl<;>rfl
theorem b4D:NOk Tryz.prog 151 b3u:=by
 intro F w vs y hF hvs hp
 obtain⟨v,vs',rfl,h1,u,vs'',rfl,h2,h3⟩:=hvs
 have h3:vs''=[]:=h3
 subst h3
 obtain⟨p1,p2,p3⟩:=hp
 have hv:v=.slice none 0 0:=by
  obtain⟨cs,rfl,hr⟩:=h1
  rcases hr with⟨_,rfl⟩|⟨ys,b,o,c,ds,e,_⟩
  ·rfl
  ·rw[show y.1=(none:Option (List aH)) from p1] at e;cases e
 subst hv
 obtain⟨n,hn⟩:=uq p2
 have hu:u=.int .i64 (n:Int):=by rw[a0x h2];rw[show y.2.1=(n:Int) from hn]
 subst hu
 have hn9:n<=1000000000:=by rw[hn] at p3;omega
 let E:Env:=⟨fun _=>none,fun _=>undef,fun q=>F q\/w.heap.size<=q,fun _ _=>undef,fun _=>False,fun _=>undef⟩
 have hhas:∀ r j q,¬ E.has r j q:=fun r j q h=>by cases j<;>cases h
 have hM:Mem E (aK []) w w:=⟨⟨rfl,rfl,rfl,ay _,fun _ _ _=>rfl⟩,fun r=>rfl,fun r j r' j' b e=>(hhas r j b e).elim,fun r j b e=>(hhas r j b e).elim,fun q hq=>hq.elim (fun h=>h.elim) .inr,fun r i _=>rfl,fun r k e=>(by cases e),fun b o n h=>h⟩
 have fin:∀ (w':World) (b:Option Nat) (s:Value),Below w.heap.size w w'->(b=none\/b=some w.heap.size)->b=bC s->w'.ownsRow 0 47 4 s 0 []->CAv bT w' s->∃ v E9 ρ q v0,Ending.returned s=.returned v/\Mem E9 ρ w w'/\(∀ q,¬ E9.nR q)/\ρ q=LKr.res ([]:List aH) v0/\v=E9.sl q:=fun w' b s hb hbs hbl ho hc=>by
  have hsl:(E.put 0 b s).sl 0=s:=by show aZ E.sl 0 s 0=s;exact aC _ _ _
  obtain⟨m1,m2⟩:=hM.turn (w':=w') 0 (jD.below hb _) b s (.row 47 tR [] 0)
   ⟨by rw[hsl];show aZ E.blk 0 _ 0=_;rw[aC];exact hbl,rfl,[],by rw[hsl];exact ho,rfl,by rw[hsl];exact⟨hc,a0P _⟩⟩ (hbs.elim .inl (fun h=>.inr (.inr h))) rfl (fun k e=>by cases e) (fun h=>h.elim) (fun h=>h.elim) (fun v h=>h.elim) (fun v h=>h.elim) (fun v h=>h.elim)
  exact⟨s,_,_,0,0,rfl,m1,fun q h=>h,aC _ _ _,hsl.symm⟩
 by_cases h0:n=0
 ·subst h0
  refine(a5u w).mono ?_
  rintro e w' ⟨rfl,rfl⟩
  obtain⟨v,E9,ρ,q,v0,h⟩:=fin w' none (.slice none 0 0) (ji _ _) (.inl rfl) rfl (Bf _ _ _ _) (fun g hg=>by cases hg)
  exact⟨v,E9,ρ,q,v0,h⟩
 ·refine(a7J n w (by omega) hn9).mono ?_
  rintro e w' ⟨c,c1,c2,rfl,rfl⟩
  have hcell:(w.drew.alloc (.cells (#[]++Builtin.zeroCells IB.cells n++Builtin.zeroCells IB.cells (c-n)) 47)).heap[w.heap.size]?=some (.cells (#[]++Builtin.zeroCells IB.cells n++Builtin.zeroCells IB.cells (c-n)) 47 (0,0)):=Ce w.drew (.cells (#[]++Builtin.zeroCells IB.cells n++Builtin.zeroCells IB.cells (c-n)) 47)
  obtain⟨v,E9,ρ,q,v0,h⟩:=fin _ (some w.heap.size) (.slice (some ⟨w.heap.size,0,none⟩) 0 c) ((ji _ _).drew.alloc (ay _) _) (.inr rfl) rfl ⟨rfl,.inr ⟨w.heap.size,c,_,rfl,uw _,hcell,uw _,c2,by
    simp only[Array.size_append,b3r,Array.size_empty]
    show 0+n*4+(c-n)*4=c*4
    omega,by simp⟩⟩ (fun g hg i x hx=>by
    cases hg
    have hx:=(yu _ w.heap.size i _ _ _ hcell).symm.trans hx
    have hx2:=Array.mem_of_getElem? hx
    simp only[Array.mem_append] at hx2
    rcases hx2 with(hx2|hx2)|hx2
    ·exact absurd hx2 (by simp)
    ·exact wU a4T _ x (Ee.2 hx2)
    ·exact wU a4T _ x (Ee.2 hx2))
  exact⟨v,E9,ρ,q,v0,h⟩
end
def smQ (q:aH):Prop:=q.n<=1/\q.m<=1/\(q.ok=true->rsz q.x<=1)
def c0R (f:MR):Prop:=f.length<=4/\∀ r ∈ f,r.length<=4/\∀ q ∈ r,smQ q
theorem a3A {α:Type} {K:Nat}:∀ {x:List (List α)},(∀ r ∈ x,r.length<=K)->x.flatten.length<=K*x.length
 | [],_=>by simp
 | r::x,h=>by
  have h1:=h r (lg ..)
  have h2:=a3A fun s hs=>h s (jw _ hs)
  rw[List.flatten_cons,jg,List.length_cons,Nat.mul_succ]
  omega
theorem a5s {α:Type} {x:List (List α)} {i:Nat} (hi:i<x.length):(x.take (i+1)).flatten=(x.take i).flatten++x.getD i []:=by
 rw[Ar,List.flatten_append,bn,dw hi];simp
theorem c0R.short {f:MR} (h:c0R f):YO f:=⟨by have:=h.1;omega,fun r hr=>⟨by have:=(h.2 r hr).1;omega,fun q hq=>⟨by have:=((h.2 r hr).2 q hq).1;omega,by have:=((h.2 r hr).2 q hq).2.1;omega⟩⟩⟩
theorem fO {α:Type} {xs:List α} {i:Nat} {d:α} (hi:i<xs.length):xs.getD i d ∈ xs:=by
 rw[bn,dw hi];exact wz hi
abbrev MQ:Type:=List (List Rat)
abbrev ent (a:MQ) (i j:Nat):Rat:=(a.getD i []).getD j 0
def tab (R C:Nat) (f:Nat->Nat->Rat):MQ:=(List.range R).map fun i=>(List.range C).map fun j=>f i j
def bM (R C:Nat) (f:Nat->Nat->Rat):MR:=(List.range R).map fun i=>(List.range C).map fun j=>dL (f i j)
def isM (a:MQ) (R C:Nat):Prop:=a.length=R/\(∀ r ∈ a,r.length=C)/\1<=R/\R<=64/\1<=C/\C<=64
theorem iU (R C:Nat) (f:Nat->Nat->Rat):(bM R C f).length=R:=by simp[bM]
theorem a8U {α:Type} (X:List (List α)) (Z:List α) {k:Nat} (hk:k<X.length):List.map (fun i=>(X++[Z]).getD i []) ((List.range X.length).set k X.length)=X.set k Z:=by
 apply Ei
 ·simp
 ·intro i h1 h2
  have hi:i<X.length:=by simpa using h2
  rw[List.getElem_map,List.getElem_set,List.getElem_set]
  split
  ·simp
  ·rw[List.getElem_range,bn,Ai hi,dw hi];rfl
theorem b2d (n k:Nat):((List.range n).set k n).Nodup:=by
 refine List.nodup_iff_pairwise_ne.mpr (List.pairwise_iff_getElem.mpr fun i j hi hj h=>?_)
 have h1:i<n:=by simpa using hi
 have h2:j<n:=by simpa using hj
 rw[List.getElem_set,List.getElem_set]
 split<;>split<;>simp<;>omega
theorem a8V {α:Type} {H:List (List α)} {k R:Nat} (hH:H.length=k) (hk:k<R) (Z:List α):(H++List.replicate (R-k) []).set k Z=H++[Z]++List.replicate (R-k-1) []:=by
 obtain⟨d,rfl⟩:∃ d,R=k+d+1:=⟨R-k-1,by omega⟩
 subst hH
 rw[show H.length+d+1-H.length=d+1 by omega,show d+1-1=d by omega,List.set_append_right _ _ (ay _),Nat.sub_self,List.replicate_succ,List.set_cons_zero]
 simp
theorem a3Q {α:Type} {H T:List (List α)} {k:Nat} (hH:H.length=k) (Z:List α):rowAt (H++[Z]++T) k=Z:=by
 subst hH;unfold rowAt;simp
theorem a8X {α:Type} {H T:List (List α)} {k:Nat} (hH:H.length=k) (Z Y:List α):(H++[Z]++T).set k Y=H++[Y]++T:=by
 subst hH;simp
theorem a8W {α:Type} (g:Nat->α) (z:α) {q C:Nat} (h:q<C):(List.map g (List.range q)++List.replicate (C-q) z).set q (g q)=List.map g (List.range (q+1))++List.replicate (C-(q+1)) z:=by
 obtain⟨d,rfl⟩:∃ d,C=q+d+1:=⟨C-q-1,by omega⟩
 rw[show q+d+1-q=d+1 by omega,show q+d+1-(q+1)=d by omega,List.set_append_right _ _ (by simp),Ba]
 simp[List.replicate_succ]
theorem a6t (k C:Nat) (f:Nat->Nat->Rat):bM (k+1) C f=bM k C f++[List.map (fun j=>dL (f k j)) (List.range C)]:=by unfold bM;rw[Ba];simp
theorem lI {α:Type} {p:α->Prop}:∀ {xs:List α},oJ p xs↔∀ x ∈ xs,p x
 | []=>by simp[oJ]
 | x::xs=>by simp[oJ,lI (xs:=xs)]
theorem b3i (R C:Nat) (f:Nat->Nat->Rat):oJ (fun x=>dK [oJ (fun x=>dK [aH.ok x=true]) x]) (bM R C f):=by
 refine lI.mpr fun r hr=>⟨lI.mpr fun q hq=>⟨?_,trivial⟩,trivial⟩
 obtain⟨i,_,rfl⟩:=qm.mp hr
 obtain⟨j,_,rfl⟩:=qm.mp hq
 rfl
theorem b8R (R C:Nat) (f:Nat->Nat->Rat):List.map (fun xs=>List.map (fun x=>aH.x x) xs) (bM R C f)=tab R C f:=by
 unfold bM tab;simp[dL,Function.comp_def]
end Go.Proofs.YtbkocjmmbkifjaaGreat
