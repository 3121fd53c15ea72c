/-
  Lemmas for the theorem vtransforms_holds, part 35 of 39.
-/
import Derived.Test.YtgplhbhfdgempaaGreatTr32
namespace Go.Proofs.YtgplhbhfdgempaaGreat
open Go Go.RowKit
set_option maxRecDepth 100000
set_option maxHeartbeats 1000000
set_option linter.unusedVariables false
set_option linter.unusedSimpArgs false
def c0L:Ctr:=⟨[tQ,tQ],[tQ,tI],fun x=>s19 x.1 x.2.1/\(show Rat from x.2.1)≠0,fun x=>((show Rat from x.1) / (show Rat from x.2.1),(0:Int),())⟩
theorem b2v {f:FuncId} (h:∀ (v u:Value) (x y:Rat) (w:World),RQ w v x->RQ w u y->rsz x<=190000000->rsz y<=190000000->y≠0->Calls Tryz.prog f #[v,u] w (GQC (x / y) 0 w)):aW Tryz.prog f c0L:=by
 intro F w vs x hF hvs hp
 obtain⟨v,vs',rfl,h1,u,vs'',rfl,h2,h3⟩:=hvs
 have h3:vs''=[]:=h3
 subst h3
 refine(h v u x.1 x.2.1 w (wE h1) (wE h2) hp.1.1 hp.1.2 hp.2).mono ?_
 rintro e w' ⟨r,rfl,hr,hb⟩
 exact⟨_,rfl,⟨[_,_],rfl,_,_,rfl,a6M hr,_,_,rfl,a3q _,rfl⟩,hb⟩
theorem c2x:aW Tryz.prog 71 (cVal 999999999):=(a5q fun v ok q w h hn=>sJ v ok q w h hn)
theorem b9T:aW Tryz.prog 32 (c0X s19 (fun x y=>decide (x=y))):=(b2w fun v u x y w a b h=>a8b v u x y w a b h.1 h.2)
theorem a5f:aW Tryz.prog 42 (cIQ iY (fun i=>(i:Rat))):=(a8G fun x w h=>OJ x w h.1 h.2)
theorem b2h:aW Tryz.prog 44 (cQ2 s19 (·+·)):=(LV fun v u x y w a b h=>YH v u x y w a b h.1 h.2)
theorem a5g:aW Tryz.prog 45 (cQ2 s19 (·*·)):=(LV fun v u x y w a b h=>a7U v u x y w a b h.1 h.2)
theorem b9U:aW Tryz.prog 43 (cQ2 s19 (·-·)):=(LV fun v u x y w a b h=>YL v u x y w a b h.1 h.2)
theorem b9V:aW Tryz.prog 72 (cQI (fun x=>rsz x<=190000000) (fun x=>sgn x.num)):=(a8H fun v x w h hl=>UU v x w h (jg hl (by omega)))
theorem b9W:aW Tryz.prog 95 c0L:=(b2v fun v u x y w a b l1 l2 hy=>b0Z v u x y w a b l1 l2 hy)
def szL (l:LQ'):Prop:=l.length<=1000/\∀ q ∈ l,rsz q<=100000000
def a6B (q:aF):Prop:=q.n<=999999999/\q.m<=999999999
def lW (l:LR):Prop:=l.length<=1000000/\∀ q ∈ l,a6B q
def okL (l:LR):Bool:=!l.any (fun q=>!q.ok)
theorem xA {α:Type} {xs:List α} {i:Nat} {d:α} (hi:i<xs.length):xs.getD i d ∈ xs:=by
 rw[bf,dw hi];exact oh hi
theorem VE {α:Type} {xs ys:List α} {i:Nat} {d:α} (hi:i<xs.length) (hy:i<ys.length) (h:xs.take i=ys.take i) (h2:xs.getD i d=ys.getD i d):xs.take (i+1)=ys.take (i+1):=by
 rw[Ba,Ba,h]
 rw[bf,dw hi,bf,dw hy] at h2
 rw[dw hi,dw hy]
 have h2:xs[i]=ys[i]:=h2
 rw[h2]
def c1g:Ctr:=⟨[.list tR],[tB],fun x=>lW x.1,fun x=>(okL x.1,())⟩
theorem YM:aW Tryz.prog 29 c1g:=by
 refine bH (nil0.ad c2x) ⟨[],[],[]⟩ Tryz.func29 rfl (by decide) (fun x=>[.inv {k:Nat // k<=(show LR from x.1).length/\((show LR from x.1).take k).any (fun q=>!q.ok)=false} (fun k=>[(3,.val tI (k.1:Int))]) (fun k=>[]) (fun k=>(show LR from x.1).length-k.1) ⟨0,by omega,rfl⟩ (fun _=>[])]) (fun x hp=>?_)
 obtain⟨x,u⟩:=x
 change List aF at x
 refine bM ((asT Int 0=0/\True)/\∀ (i:{ k:Nat // k<=List.length x/\(List.any (List.take k x) fun(q:aF)=>!aF.ok q)=false }),let A₀:=(List.getD x (aB (aA i)).toNat { ok:=false,x:=0,g:=aC Nat,h:=aC Nat });asT Bool true=true/\ifB (decide (aB (aA i)<aB x.length)) ((0<=aB (aA i)/\aB (aA i)<aB x.length/\(aF.n A₀<=999999999/\aF.m A₀<=999999999)/\True)/\ifB (!aF.ok A₀) (True/\false=okL x/\True) (∃ (i':{ k:Nat // k<=List.length x/\(List.any (List.take k x) fun(q:aF)=>!aF.ok q)=false }),List.length x-aA i'<List.length x-aA i/\IntKind.wrap IntKind.i64 (aB (aA i)+1)=aB (aA i')/\True)) (True/\true=okL x/\True)) (by kernel_rfl) ?_
 have hZ:(⟨false,0,[],[]⟩:aF)=cO:=rfl
 dsimp only[aB,asT,aA,aC,Ty.den,Lf.den] at *
 simp only[hZ,Int.toNat_natCast,aU,ay,au,ni,mg,aH,nameAt,aV,aS,bF,rowAt,iy,iq]
 have hp:lW x:=hp
 obtain⟨hl,hb⟩:=hp
 refine fun i=>⟨fun h1=>?_,fun h1=>?_⟩
 ·have hi:i.1<x.length:=by omega
  have hs:a6B (x.getD i.1 cO):=eX hb hi
  refine⟨⟨by omega,h1,hs.1,hs.2⟩,fun h2=>?_,fun h2=>⟨⟨i.1+1,by omega,?_⟩,by simp only;omega,by rw[aZ (by omega) (by omega)];rfl⟩⟩
  ·unfold okL
   rw[yc.mpr ⟨x.getD i.1 cO,xA hi,h2⟩];rfl
  ·rw[lQ (d:=cO) hi,i.2.2,h2];rfl
 ·have h3:=i.2.2
  rw[jd (by omega)] at h3
  unfold okL;rw[h3];rfl
def fV (a:MR):Prop:=a.length<=1000000/\∀ r ∈ a,lW r
theorem a8R (a:MR):dK a=bif (decide (a.length<1) || decide (a.length > 64) || decide (wdM a<1) || decide (wdM a > 64) || a.any (badR (wdM a))) then 1 else 0:=by
 unfold dK
 by_cases h1:a.length<1
 ·rw[ig (by omega),pz h1];rfl
 ·by_cases h2:a.length > 64
  ·rw[ig (by omega),pz h2];simp
  ·by_cases h3:wdM a<1
   ·rw[ig (by omega),pz h3];simp
   ·by_cases h4:wdM a > 64
    ·rw[ig (by omega),pz h4];simp
    ·rw[jy h1,jy h2,jy h3,jy h4]
     cases h5:a.any (badR (wdM a))
     ·rw[gy ⟨by omega,by omega,by omega,by omega,rfl⟩];rfl
     ·rw[ig (fun h=>Bool.noConfusion h.2.2.2.2)];rfl
def c1b:Ctr:=⟨[tMR],[tI],fun x=>fV x.1,fun x=>(dK x.1,())⟩
theorem b0X:aW Tryz.prog 25 c1b:=by
 refine bH (nil0.ad YM) ⟨[],[],[]⟩ Tryz.func25 rfl (by decide) (fun x=>[.inv {k:Nat // k<=(show MR from x.1).length/\((show MR from x.1).take k).any (badR (wdM (show MR from x.1)))=false} (fun k=>[(3,.val tI (k.1:Int))]) (fun k=>[]) (fun k=>(show MR from x.1).length-k.1) ⟨0,by omega,rfl⟩ (fun _=>[])]) (fun x hp=>?_)
 obtain⟨a,u⟩:=x
 change List (List aF) at a
 refine bM (let A₂:=(List.getD a 0 (aC aF)).length;let aQ:=(aB a.length<1);let dA:=(aB a.length > 64);let A₀:=(bif bif decide aQ then true else decide dA then true else decide (aB A₂<1));let bJ:=((A₀==false)=true->(A₀==false)=true/\True);let dJ:=((decide aQ==false)=true->(decide aQ==false)=true/\True);let fP:=(bif decide aQ then true else decide dA);let A₁:=(fP==false);let dU:=(A₁=true->A₁=true/\True);(dJ/\dJ/\(decide aQ=false->(decide aQ==false)=true)/\(A₁=true->A₁=true/\asT Int 0<=0/\0<aB a.length/\True)/\dU/\dU/\dU/\(fP=false->A₁=true)/\((A₀==false)=true->(A₀==false)=true/\asT Int 0<=0/\0<aB a.length/\True)/\bJ/\bJ/\bJ/\(A₀=false->(A₀==false)=true)/\True)/\ifB (bif bif bif decide aQ then true else decide dA then true else decide (aB A₂<1) then true else decide (aB A₂ > 64)) (True/\1=dK a/\True) ((asT Int 0=0/\True)/\∀ (i:{ k:Nat // k<=List.length a/\List.any (List.take k a) (badR (wdM a))=false }),let fQ:=(List.getD a (aB (aA i)).toNat (aC aF));let jU:=(aB fQ.length != aB A₂);let gQ:=(jU==false);let jX:=(gQ=true->gQ=true/\True);asT Bool true=true/\ifB (decide (aB (aA i)<aB a.length)) ((0<=aB (aA i)/\aB (aA i)<aB a.length/\asT Int 0<=0/\0<aB a.length/\(gQ=true->gQ=true/\gQ=true/\0<=aB (aA i)/\aB (aA i)<aB a.length/\True)/\jX/\(gQ=true->gQ=true/\lW fQ/\True)/\jX/\(jU=false->gQ=true)/\True)/\ifB (bif aB fQ.length != aB A₂ then true else !okL fQ) (True/\1=dK a/\True) (∃ (i':{ k:Nat // k<=List.length a/\List.any (List.take k a) (badR (wdM a))=false }),List.length a-aA i'<List.length a-aA i/\IntKind.wrap IntKind.i64 (aB (aA i)+1)=aB (aA i')/\True)) (True/\0=dK a/\True))) (by kernel_rfl) ?_
 have hZ:(⟨false,0,[],[]⟩:aF)=cO:=rfl
 dsimp only[aB,asT,aA,aC,Ty.den,Lf.den] at *
 simp only[hZ,Int.toNat_natCast,aU,ay,au,ni,mg,aH,nameAt,aV,aS,bF,rowAt,iy,iq]
 have hp:fV a:=hp
 obtain⟨hl,hb⟩:=hp
 have eL:∀ n:Nat,decide ((n:Int)<1)=decide (n<1):=fun n=>Bh.mpr (by omega)
 have eG:∀ n:Nat,decide ((n:Int) > 64)=decide (n > 64):=fun n=>Bh.mpr (by omega)
 have f0:¬ (a.length:Int)<1↔decide (a.length<1)=false:=by rw[au];omega
 have f1:decide (a.length<1)=false->0<(a.length:Int):=fun h=>by have:=Ai h;omega
 have f2:=a8R a
 simp only[eL,eG,f0]
 have hw:(a.getD 0 []).length=wdM a:=rfl
 rw[hw]
 generalize decide (a.length<1)=b1 at *
 generalize decide (a.length > 64)=b2 at *
 generalize decide (wdM a<1)=b3 at *
 generalize decide (wdM a > 64)=b4 at *
 refine⟨?_,fun h=>?_,fun h i=>?_⟩
 ·clear f0 f2;revert f1;cases b1<;>cases b2<;>cases b3<;>simp
 ·have h9:(b1 || b2 || b3 || b4)=true:=by revert h;cases b1<;>cases b2<;>cases b3<;>cases b4<;>simp
  rw[f2,h9];rfl
 ·have h9:(b1 || b2 || b3 || b4)=false/\b1=false:=by revert h;cases b1<;>cases b2<;>cases b3<;>cases b4<;>simp
  rw[h9.1,Bool.false_or] at f2
  have f1:=f1 h9.2
  refine⟨fun h1=>?_,fun h1=>?_⟩
  ·have hi:i.1<a.length:=by omega
   have hs:lW (a.getD i.1 []):=eX hb hi
   rw[a2j]
   have hbad:(bif !((a.getD i.1 []).length==wdM a) then true else !okL (a.getD i.1 []))=badR (wdM a) (a.getD i.1 []):=by
    unfold badR okL;cases (a.getD i.1 []).length==wdM a<;>simp
   rw[hbad]
   refine⟨⟨by omega,h1,xg 0,f1,fun h=>⟨h,h,by omega,h1⟩,fun h=>h,fun h=>⟨h,hs⟩,fun h=>h,fun h=>by rw[h];rfl⟩,fun h2=>?_,fun h2=>⟨⟨i.1+1,by omega,?_⟩,by simp only;omega,by rw[aZ (by omega) (by omega)];rfl⟩⟩
   ·rw[f2,yc.mpr ⟨a.getD i.1 [],xA hi,h2⟩];rfl
   ·rw[lQ (d:=[]) hi,i.2.2,h2];rfl
  ·have h3:=i.2.2
   rw[jd (by omega)] at h3
   rw[f2,h3];rfl
def c3r:Ctr:=⟨[.list tQ,.list tQ],[tB],fun x=>szL x.1/\szL x.2.1,fun x=>(decide ((show LQ' from x.1)=(show LQ' from x.2.1)),())⟩
theorem UW:aW Tryz.prog 23 c3r:=by
 refine bH (nil0.ad b9T) ⟨[],[],[]⟩ Tryz.func23 rfl (by decide) (fun x=>[.inv {k:Nat // k<=(show LQ' from x.1).length/\(show LQ' from x.1).take k=(show LQ' from x.2.1).take k} (fun k=>[(5,.val tI (k.1:Int))]) (fun k=>[]) (fun k=>(show LQ' from x.1).length-k.1) ⟨0,by omega,rfl⟩ (fun _=>[])]) (fun x hp=>?_)
 obtain⟨x,y,u⟩:=x
 change List Rat at x
 change List Rat at y
 refine bM (ifB (aB x.length != aB y.length) (True/\false=decide (x=y)/\True) ((asT Int 0=0/\True)/\∀ (i:{ k:Nat // k<=List.length x/\List.take k x=List.take k y }),asT Bool true=true/\ifB (decide (aB (aA i)<aB x.length)) ((0<=aB (aA i)/\aB (aA i)<aB x.length/\0<=aB (aA i)/\aB (aA i)<aB y.length/\s19 (List.getD x (aB (aA i)).toNat 0) (List.getD y (aB (aA i)).toNat 0)/\True)/\ifB (!decide (List.getD x (aB (aA i)).toNat 0=List.getD y (aB (aA i)).toNat 0)) (True/\false=decide (x=y)/\True) (∃ (i':{ k:Nat // k<=List.length x/\List.take k x=List.take k y }),List.length x-aA i'<List.length x-aA i/\IntKind.wrap IntKind.i64 (aB (aA i)+1)=aB (aA i')/\True)) (True/\true=decide (x=y)/\True))) (by kernel_rfl) ?_
 have hZ:(⟨false,0,[],[]⟩:aF)=cO:=rfl
 dsimp only[aB,asT,aA,aC,Ty.den,Lf.den] at *
 simp only[hZ,Int.toNat_natCast,aU,ay,au,ni,mg,aH,nameAt,aV,aS,bF,rowAt,iy,iq]
 have hp:szL x/\szL y:=hp
 obtain⟨⟨q1,q2⟩,q3,q4⟩:=hp
 refine⟨fun h=>?_,fun h i=>⟨fun h1=>?_,fun h1=>?_⟩⟩
 ·have h:(x.length:Int)≠y.length:=by simpa using h
  exact(jy (fun e=>h (by rw[e]))).symm
 ·have hl:x.length=y.length:=by
   have:(x.length:Int)=y.length:=by simpa using h
   omega
  have hi:i.1<x.length:=by omega
  have z1:rsz (x.getD i.1 0)<=100000000:=eX q2 hi
  have z2:rsz (y.getD i.1 0)<=100000000:=eX q4 (by omega)
  refine⟨⟨by omega,by omega,by omega,by omega,⟨by omega,by omega⟩⟩,fun h2=>?_,fun h2=>⟨⟨i.1+1,by omega,?_⟩,by simp only;omega,by rw[aZ (by omega) (by omega)];rfl⟩⟩
  ·have h2:x.getD i.1 0≠y.getD i.1 0:=by simpa using h2
   exact(jy (fun e=>h2 (xu (fun l=>l.getD i.1 0) e))).symm
  ·have h2:x.getD i.1 0=y.getD i.1 0:=by simpa using h2
   exact VE hi (by omega) i.2.2 h2
 ·have hl:x.length=y.length:=by
   have:(x.length:Int)=y.length:=by simpa using h
   omega
  have h3:=i.2.2
  rw[jd (by omega),jd (by omega)] at h3
  exact(pz h3).symm
def IZ (a:MQ):Prop:=a.length<=1000/\∀ r ∈ a,szL r
def c3s:Ctr:=⟨[tM,tM],[tB],fun x=>IZ x.1/\IZ x.2.1,fun x=>(decide ((show MQ from x.1)=(show MQ from x.2.1)),())⟩
theorem a2V:aW Tryz.prog 15 c3s:=by
 refine bH (nil0.ad UW) ⟨[],[],[]⟩ Tryz.func15 rfl (by decide) (fun x=>[.inv {k:Nat // k<=(show MQ from x.1).length/\(show MQ from x.1).take k=(show MQ from x.2.1).take k} (fun k=>[(5,.val tI (k.1:Int))]) (fun k=>[]) (fun k=>(show MQ from x.1).length-k.1) ⟨0,by omega,rfl⟩ (fun _=>[])]) (fun x hp=>?_)
 obtain⟨x,y,u⟩:=x
 change List (List Rat) at x
 change List (List Rat) at y
 refine bM (ifB (aB x.length != aB y.length) (True/\false=decide (x=y)/\True) ((asT Int 0=0/\True)/\∀ (i:{ k:Nat // k<=List.length x/\List.take k x=List.take k y }),asT Bool true=true/\ifB (decide (aB (aA i)<aB x.length)) ((0<=aB (aA i)/\aB (aA i)<aB x.length/\0<=aB (aA i)/\aB (aA i)<aB y.length/\(szL (List.getD x (aB (aA i)).toNat (aC Rat))/\szL (List.getD y (aB (aA i)).toNat (aC Rat)))/\True)/\ifB (!decide (List.getD x (aB (aA i)).toNat (aC Rat)=List.getD y (aB (aA i)).toNat (aC Rat))) (True/\false=decide (x=y)/\True) (∃ (i':{ k:Nat // k<=List.length x/\List.take k x=List.take k y }),List.length x-aA i'<List.length x-aA i/\IntKind.wrap IntKind.i64 (aB (aA i)+1)=aB (aA i')/\True)) (True/\true=decide (x=y)/\True))) (by kernel_rfl) ?_
 have hZ:(⟨false,0,[],[]⟩:aF)=cO:=rfl
 dsimp only[aB,asT,aA,aC,Ty.den,Lf.den] at *
 simp only[hZ,Int.toNat_natCast,aU,ay,au,ni,mg,aH,nameAt,aV,aS,bF,rowAt,iy,iq]
 have hp:IZ x/\IZ y:=hp
 obtain⟨⟨q1,q2⟩,q3,q4⟩:=hp
 refine⟨fun h=>?_,fun h i=>⟨fun h1=>?_,fun h1=>?_⟩⟩
 ·have h:(x.length:Int)≠y.length:=by simpa using h
  exact(jy (fun e=>h (by rw[e]))).symm
 ·have hl:x.length=y.length:=by
   have:(x.length:Int)=y.length:=by simpa using h
   omega
  have hi:i.1<x.length:=by omega
  skip
  refine⟨⟨by omega,by omega,by omega,by omega,eX q2 hi,eX q4 (by omega)⟩,fun h2=>?_,fun h2=>⟨⟨i.1+1,by omega,?_⟩,by simp only;omega,by rw[aZ (by omega) (by omega)];rfl⟩⟩
  ·have h2:x.getD i.1 []≠y.getD i.1 []:=by simpa using h2
   exact(jy (fun e=>h2 (xu (fun l=>l.getD i.1 []) e))).symm
  ·have h2:x.getD i.1 []=y.getD i.1 []:=by simpa using h2
   exact VE hi (by omega) i.2.2 h2
 ·have hl:x.length=y.length:=by
   have:(x.length:Int)=y.length:=by simpa using h
   omega
  have h3:=i.2.2
  rw[jd (by omega),jd (by omega)] at h3
  exact(pz h3).symm
theorem IY:aW Tryz.prog 55 (cIQ iY (fun i=>(i:Rat))):=by
 refine bH (nil0.ad a5f) ⟨[2],[],[]⟩ Tryz.func55 rfl (by decide) (fun x=>[]) (fun x hp=>?_)
 obtain⟨n,u⟩:=x
 change Int at n
 refine bM ((iY n/\True)/\True/\eP n=eP n/\True) (by kernel_rfl) ?_
 have hZ:(⟨false,0,[],[]⟩:aF)=cO:=rfl
 dsimp only[aB,asT,aA,aC,Ty.den,Lf.den] at *
 simp only[hZ,Int.toNat_natCast,aU,ay,au,ni,mg,aH,nameAt,aV,aS,bF,rowAt,iy,iq]
 exact hp
abbrev LKq:LK:=.mat 32 64 tQ
def a8r (n:Nat):List Rat:=List.replicate n 0
def EG (R C:Nat):MQ:=tab R C fun _ _=>0
def c4d:AO:=.mk LKq [tI,tI] (fun x=>0<=(show Int from x.1)/\(show Int from x.1)<=1000/\0<=(show Int from x.2.1)/\(show Int from x.2.1)<=1000) (fun x=>EG (show Int from x.1).toNat (show Int from x.2.1).toNat)
theorem a4L:NOk Tryz.prog 41 c4d:=by
 refine qB (nil0.ad IY) ⟨[],[],[(9,tQ),(27,tQ)]⟩ Tryz.func41 rfl (by decide) (fun x=>[.inv {k:Nat // k<=(show Int from x.1).toNat} (fun k=>[(6,.val tI (k.1:Int)),(5,.own 9 0),(9,.any),(28,.any)]) (fun k=>[(9,.mat 32 64 tQ none (EG k.1 (show Int from x.2.1).toNat) 0)]) (fun k=>(show Int from x.1).toNat-k.1) ⟨0,by omega⟩ (fun k=>[.inv {q:Nat // q<=(show Int from x.2.1).toNat} (fun q=>[(8,.val tI (q.1:Int)),(7,.own 15 0),(15,.any),(24,.any)]) (fun q=>[(9,.mat 32 64 tQ none (EG k.1 (show Int from x.2.1).toNat) 0),(15,.row 64 tQ (a8r q.1) 0)]) (fun q=>(show Int from x.2.1).toNat-q.1) ⟨0,by omega⟩ (fun _=>[])])]) (fun x hp=>?_)
 obtain⟨m,n,u⟩:=x
 change Int at m
 change Int at n
 refine bM ((asT Int 0=0/\asT (List (List Rat)) (aC (List Rat))=aC (List Rat)/\True)/\∀ (i:{ k:Nat // k<=Int.toNat m }),asT Bool true=true/\ifB (decide (aB (aA i)<m)) ((asT Int 0=0/\EG (aA i) n.toNat=EG (aA i) n.toNat/\asT (List Rat) (aC Rat)=aC Rat/\True)/\∀ (i_1:{ q:Nat // q<=Int.toNat n }),asT Bool true=true/\ifB (decide (aB (aA i_1)<n)) ((iY 0/\List.length (a8r (aA i_1))+List.length (eP 0::aC Rat)<=1000000000/\True)/\∃ (i':{ q:Nat // q<=Int.toNat n }),Int.toNat n-aA i'<Int.toNat n-aA i_1/\IntKind.wrap IntKind.i64 (aB (aA i_1)+1)=aB (aA i')/\EG (aA i) n.toNat=EG (aA i) n.toNat/\a8r (aA i_1)++eP 0::aC Rat=a8r (aA i')/\True) ((aH none (EG (aA i) n.toNat)+1<=1000000000/\True)/\∃ (i':{ k:Nat // k<=Int.toNat m }),Int.toNat m-aA i'<Int.toNat m-aA i/\IntKind.wrap IntKind.i64 (aB (aA i)+1)=aB (aA i')/\EG (aA i) n.toNat++a8r (aA i_1)::aC (List Rat)=EG (aA i') n.toNat/\True)) (EG m.toNat n.toNat=EG (aA i) n.toNat)) (by kernel_rfl) ?_
 have hZ:(⟨false,0,[],[]⟩:aF)=cO:=rfl
 dsimp only[aB,asT,aA,aC,Ty.den,Lf.den] at *
 simp only[hZ,Int.toNat_natCast,aU,ay,au,ni,mg,aH,nameAt,aV,aS,bF,rowAt,iy,iq]
 have hp:0<=m/\m<=1000/\0<=n/\n<=1000:=hp
 obtain⟨m0,m1,n0,n1⟩:=hp
 refine fun i=>⟨fun h1 q=>⟨fun h2=>⟨⟨by unfold iY;omega,by simp[a8r];have:=q.2;omega⟩,⟨q.1+1,by omega⟩,by simp only;omega,by rw[aZ (by omega) (by omega)];rfl,?_⟩,fun h2=>⟨by show (EG _ _).length+1<=_;unfold EG;rw[bF];have:=i.2;omega,⟨i.1+1,by omega⟩,by simp only;omega,by rw[aZ (by omega) (by omega)];rfl,?_⟩⟩,fun h1=>?_⟩
 ·show List.replicate q.1 0++[((0:Int):Rat)]=List.replicate (q.1+1) 0
  rw[List.replicate_succ'];rfl
 ·have hq:q.1=n.toNat:=by have:=q.2;omega
  rw[hq]
  show tab i.1 n.toNat (fun _ _=>0)++[List.replicate n.toNat 0]=tab (i.1+1) n.toNat (fun _ _=>0)
  unfold tab
  rw[Bv]
  simp
  apply Ac<;>simp
 ·have hi:i.1=m.toNat:=by have:=i.2;omega
  rw[hi]
def c4a:AO:=.mk LKq [tI] (fun x=>0<=(show Int from x.1)/\(show Int from x.1)<=1000) (fun x=>idM (show Int from x.1).toNat)
def a2h (n k:Nat):MQ:=tab n n fun i j=>if i=j/\i<k then 1 else 0
def c2e:AO:=.mk LKq [tM] (fun x=>(show MQ from x.1).length<=1000/\∀ r ∈ (show MQ from x.1),r.length<=1000) (fun x=>x.1)
theorem b1f:NOk Tryz.prog 79 c4a:=by
 refine qB ((nil0.ad IY).an a4L) ⟨[],[],[]⟩ Tryz.func79 rfl (by decide) (fun x=>[.inv {k:Nat // k<=(show Int from x.1).toNat} (fun k=>[(4,.val tI (k.1:Int))]) (fun k=>[(7,.mat 32 64 tQ none (a2h (show Int from x.1).toNat k.1) 0)]) (fun k=>(show Int from x.1).toNat-k.1) ⟨0,by omega⟩ (fun _=>[])]) (fun x hp=>?_)
 obtain⟨n,u⟩:=x
 change Int at n
 refine bM (((0<=n/\n<=1000/\0<=n/\n<=1000)/\True)/\(asT Int 0=0/\EG n.toNat n.toNat=a2h n.toNat 0/\True)/\∀ (i:{ k:Nat // k<=Int.toNat n }),let A₁:=(a2h n.toNat (aA i));let A₂:=(aB (aA i)).toNat;let A₀:=(rowAt A₁ (nameAt none A₂));asT Bool true=true/\ifB (decide (aB (aA i)<n)) ((0<=aB (aA i)/\aB (aA i)<aB (aH none A₁)/\Int.toNat (aB (aA i))<aH none A₁/\iY 1/\0<=aB (aA i)/\aB (aA i)<aB A₀.length/\Int.toNat (aB (aA i))<List.length A₀/\True)/\∃ (i':{ k:Nat // k<=Int.toNat n }),Int.toNat n-aA i'<Int.toNat n-aA i/\IntKind.wrap IntKind.i64 (aB (aA i)+1)=aB (aA i')/\List.set A₁ (nameAt none A₂) (List.set A₀ A₂ (eP 1))=a2h n.toNat (aA i')/\True) (idM n.toNat=a2h n.toNat (aA i))) (by kernel_rfl) ?_
 have hZ:(⟨false,0,[],[]⟩:aF)=cO:=rfl
 dsimp only[aB,asT,aA,aC,Ty.den,Lf.den] at *
 simp only[hZ,Int.toNat_natCast,aU,ay,au,ni,mg,aH,nameAt,aV,aS,bF,rowAt,iy,iq]
 have hp:0<=n/\n<=1000:=hp
 obtain⟨n0,n1⟩:=hp
 refine⟨⟨n0,n1,n0,n1⟩,?_,fun i=>⟨fun h1=>?_,fun h1=>?_⟩⟩
 ·exact fB fun i _ j _=>(ig (by omega)).symm
 ·have hi:i.1<n.toNat:=by omega
  have hl:(a2h n.toNat i.1).length=n.toNat:=bF
  have hr:((a2h n.toNat i.1).getD i.1 []).length=n.toNat:=by unfold a2h;rw[iT hi];simp
  refine⟨⟨by omega,by rw[hl];omega,by rw[hl];omega,by unfold iY;omega,by omega,by rw[hr];omega,by rw[hr];omega⟩,⟨i.1+1,by omega⟩,by simp only;omega,by rw[aZ (by omega) (by omega)];rfl,?_⟩
  refine(DW _ hi).trans (fB fun a _ b _=>?_)
  show (if a=i.1/\b=i.1 then ((1:Int):Rat) else if a=b/\a<i.1 then 1 else 0)=if a=b/\a<i.1+1 then 1 else 0
  by_cases e:a=i.1/\b=i.1
  ·rw[gy e,gy (by omega)];rfl
  ·rw[ig e]
   by_cases e2:a=b/\a<i.1
   ·rw[gy e2,gy (by omega)]
   ·rw[ig e2,ig (by omega)]
 ·have hi:i.1=n.toNat:=by have:=i.2;omega
  rw[hi]
  refine fB fun a ha b _=>?_
  show (if a=b then (1:Rat) else 0)=_
  by_cases e:a=b
  ·rw[gy e,gy ⟨e,ha⟩]
  ·rw[ig e,ig (by omega)]
theorem a6o:NOk Tryz.prog 64 c2e:=by
 refine qB nil0 ⟨[],[],[(5,tQ),(19,tQ)]⟩ Tryz.func64 rfl (by decide) (fun x=>[.inv {k:Nat // k<=(show MQ from x.1).length} (fun k=>[(4,.val tI (k.1:Int)),(3,.own 5 0),(5,.any),(20,.any)]) (fun k=>[(5,.mat 32 64 tQ none ((show MQ from x.1).take k.1) 0)]) (fun k=>(show MQ from x.1).length-k.1) ⟨0,by omega⟩ (fun _=>[])]) (fun x hp=>?_)
 obtain⟨a,u⟩:=x
 change List (List Rat) at a
 refine bM ((asT Int 0=0/\asT (List (List Rat)) (aC (List Rat))=aC (List Rat)/\True)/\∀ (i:{ k:Nat // k<=List.length a }),asT Bool true=true/\ifB (decide (aB (aA i)<aB a.length)) ((0<=aB (aA i)/\aB (aA i)<aB a.length/\List.length (aC Rat)+List.length (List.getD a (aB (aA i)).toNat (aC Rat))<=1000000000/\aH none (List.take (aA i) a)+1<=1000000000/\True)/\∃ (i':{ k:Nat // k<=List.length a }),List.length a-aA i'<List.length a-aA i/\IntKind.wrap IntKind.i64 (aB (aA i)+1)=aB (aA i')/\List.take (aA i) a++(aC Rat++List.getD a (aB (aA i)).toNat (aC Rat))::aC (List Rat)=List.take (aA i') a/\True) (a=List.take (aA i) a)) (by kernel_rfl) ?_
 have hZ:(⟨false,0,[],[]⟩:aF)=cO:=rfl
 dsimp only[aB,asT,aA,aC,Ty.den,Lf.den] at *
 simp only[hZ,Int.toNat_natCast,aU,ay,au,ni,mg,aH,nameAt,aV,aS,bF,rowAt,iy,iq]
 have hp:a.length<=1000/\∀ r ∈ a,r.length<=1000:=hp
 obtain⟨h1,h2⟩:=hp
 refine fun i=>⟨fun h3=>?_,fun h3=>?_⟩
 ·have hi:i.1<a.length:=by omega
  have hr:(a.getD i.1 []).length<=1000:=eX h2 hi
  refine⟨⟨by omega,by omega,by show 0+(a.getD i.1 []).length<=_;omega,by rw[jm];omega⟩,⟨i.1+1,by omega⟩,by simp only;omega,by rw[aZ (by omega) (by omega)];rfl,?_⟩
  rw[Ba,bf,dw hi];simp
 ·rw[jd (by omega)]
def NK (R C:Nat) (f g:Nat->Nat->Rat) (r c:Nat):MQ:=tab R C fun i j=>if i<r\/i=r/\j<c then f i j else g i j
theorem YU {R C:Nat} {f g:Nat->Nat->Rat}:NK R C f g 0 0=tab R C g:=fB fun i _ j _=>ig (by omega)
theorem a3m {R C:Nat} {f g:Nat->Nat->Rat} {r c:Nat} (hr:r<R):(NK R C f g r c).set r (((NK R C f g r c).getD r []).set c (f r c))=NK R C f g r (c+1):=by
 unfold NK;rw[DW _ hr]
 refine fB fun i _ j _=>?_
 by_cases e:i=r/\j=c
 ·obtain⟨rfl,rfl⟩:=e;rw[gy ⟨rfl,rfl⟩,gy (by omega)]
 ·rw[ig e]
  by_cases h:i<r\/i=r/\j<c
  ·rw[gy h,gy (by omega)]
  ·rw[ig h,ig (by omega)]
theorem a3l {R C:Nat} {f g:Nat->Nat->Rat} {r c:Nat} (hc:C<=c):NK R C f g r c=NK R C f g (r+1) 0:=by
 refine fB fun i _ j _=>?_
 by_cases h:i<r\/i=r/\j<c
 ·rw[gy h,gy (by omega)]
 ·rw[ig h,ig (by omega)]
theorem a3j {R C:Nat} {f g:Nat->Nat->Rat} {r:Nat} (hr:R<=r):NK R C f g r 0=tab R C f:=fB fun i _ j _=>gy (by omega)
theorem a3k {R C:Nat} {f g:Nat->Nat->Rat} {r c:Nat}:(NK R C f g r c).length=R:=bF
theorem a6I {R C:Nat} {f g:Nat->Nat->Rat} {r c i:Nat} (hi:i<R):((NK R C f g r c).getD i []).length=C:=by unfold NK;rw[iT hi];simp
def b4p (a b:MQ) (k:Rat):MQ:=tab a.length (wdM a) fun i j=>ent a i j+k*ent b i j
def PL (a b:MQ) (k:Rat) (r c:Nat):MQ:=NK a.length (wdM a) (fun i j=>ent a i j+k*ent b i j) (ent a) r c
def c3t:Ctr:=⟨[tM,tM,tQ],[tM],fun x=>okM x.1/\okM x.2.1/\(show MQ from x.1).length=(show MQ from x.2.1).length/\wdM (show MQ from x.1)=wdM (show MQ from x.2.1)/\rsz x.2.2.1<=1000,fun x=>(b4p x.1 x.2.1 x.2.2.1,())⟩
theorem b1q:aW Tryz.prog 78 c3t:=by
 refine bH (((nil0.ad b2h).ad a5g).an a6o) ⟨[],[],[]⟩ Tryz.func78 rfl (by decide) (fun x=>[.inv {k:Nat // k<=(show MQ from x.1).length} (fun r=>[(8,.val tI (r.1:Int))]) (fun r=>[(11,.mat 32 64 tQ none (PL (show MQ from x.1) (show MQ from x.2.1) x.2.2.1 r.1 0) 0)]) (fun r=>(show MQ from x.1).length-r.1) ⟨0,by omega⟩ (fun r=>[.inv {k:Nat // k<=wdM (show MQ from x.1)} (fun c=>[(9,.val tI (c.1:Int))]) (fun c=>[(11,.mat 32 64 tQ none (PL (show MQ from x.1) (show MQ from x.2.1) x.2.2.1 r.1 c.1) 0)]) (fun c=>wdM (show MQ from x.1)-c.1) ⟨0,by omega⟩ (fun _=>[])])]) (fun x hp=>?_)
 obtain⟨a,b,k,u⟩:=x
 change List (List Rat) at a
 change List (List Rat) at b
 change Rat at k
 refine bM (((List.length a<=1000/\∀ (r:List Rat),r ∈ a->List.length r<=1000)/\True)/\(asT Int 0=0/\a=PL a b k 0 0/\True)/\∀ (i:{ k:Nat // k<=List.length a }),let A₀:=(aB (aA i)).toNat;let A₁:=(List.getD a A₀ (aC Rat));let A₂:=(List.getD b A₀ (aC Rat));asT Bool true=true/\ifB (decide (aB (aA i)<aB a.length)) ((asT Int 0=0/\PL a b k (aA i) 0=PL a b k (aA i) 0/\True)/\∀ (i_1:{ k:Nat // k<=wdM a }),let aQ:=(PL a b k (aA i) (aA i_1));let bJ:=(aB (aA i_1)).toNat;let dA:=(rowAt aQ (nameAt none A₀));asT Bool true=true/\(0<=aB (aA i)/\aB (aA i)<aB a.length/\True)/\ifB (decide (aB (aA i_1)<aB A₁.length)) ((0<=aB (aA i)/\aB (aA i)<aB (aH none aQ)/\Int.toNat (aB (aA i))<aH none aQ/\0<=aB (aA i)/\aB (aA i)<aB a.length/\0<=aB (aA i_1)/\aB (aA i_1)<aB A₁.length/\0<=aB (aA i)/\aB (aA i)<aB b.length/\0<=aB (aA i_1)/\aB (aA i_1)<aB A₂.length/\s19 k (List.getD A₂ bJ 0)/\s19 (List.getD A₁ bJ 0) (k*List.getD A₂ bJ 0)/\0<=aB (aA i_1)/\aB (aA i_1)<aB dA.length/\Int.toNat (aB (aA i_1))<List.length dA/\True)/\∃ (i':{ k:Nat // k<=wdM a }),wdM a-aA i'<wdM a-aA i_1/\IntKind.wrap IntKind.i64 (aB (aA i_1)+1)=aB (aA i')/\List.set aQ (nameAt none A₀) (List.set dA bJ (List.getD A₁ bJ 0+k*List.getD A₂ bJ 0))=PL a b k (aA i) (aA i')/\True) (∃ (i':{ k:Nat // k<=List.length a }),List.length a-aA i'<List.length a-aA i/\IntKind.wrap IntKind.i64 (aB (aA i)+1)=aB (aA i')/\PL a b k (aA i) (aA i_1)=PL a b k (aA i') 0/\True)) (True/\PL a b k (aA i) 0=b4p a b k/\True)) (by kernel_rfl) ?_
 have hZ:(⟨false,0,[],[]⟩:aF)=cO:=rfl
 dsimp only[aB,asT,aA,aC,Ty.den,Lf.den] at *
 simp only[hZ,Int.toNat_natCast,aU,ay,au,ni,mg,aH,nameAt,aV,aS,bF,rowAt,iy,iq]
 have hp:okM a/\okM b/\a.length=b.length/\wdM a=wdM b/\rsz k<=1000:=hp
 obtain⟨ha,hb,hl,hw,hk⟩:=hp
 have q1:=ha.r64
 have q2:=ha.c64
 refine⟨⟨by omega,fun r hr=>by rw[ha.1.2.1 r hr];omega⟩,(YU.trans ha.1.tab).symm,fun i=>⟨fun h1 c=>?_,fun h1=>?_⟩⟩
 ·have hi:i.1<a.length:=by omega
  rw[ha.row hi,hb.row (by omega)]
  refine⟨⟨by omega,h1⟩,fun h2=>?_,fun h2=>⟨⟨i.1+1,by omega⟩,by simp only;omega,by rw[aZ (by omega) (by omega)];rfl,a3l (by omega)⟩⟩
  have hc:c.1<wdM a:=by omega
  have e1:(PL a b k i.1 c.1).length=a.length:=a3k
  have e2:((PL a b k i.1 c.1).getD i.1 []).length=wdM a:=a6I hi
  have z1:rsz ((a.getD i.1 []).getD c.1 0)<=100000000:=ha.2 i.1 hi c.1 hc
  have z2:rsz ((b.getD i.1 []).getD c.1 0)<=100000000:=hb.2 i.1 (by omega) c.1 (by omega)
  have z3:=tK k ((b.getD i.1 []).getD c.1 0)
  rw[e1,e2]
  exact⟨⟨by omega,by omega,hi,by omega,by omega,by omega,by omega,by omega,by omega,by omega,by omega,⟨by omega,by omega⟩,⟨by omega,by omega⟩,by omega,by omega,hc⟩,⟨c.1+1,by omega⟩,by simp only;omega,by rw[aZ (by omega) (by omega)];rfl,a3m hi⟩
 ·exact a3j (by omega)
def CY (a b:MQ) (r c:Nat):MQ:=NK a.length (wdM b) (mm b.length (ent a) (ent b)) (fun _ _=>0) r c
def c0U:Ctr:=⟨[tM,tM],[tM],fun x=>okM x.1/\okM x.2.1/\wdM (show MQ from x.1)=(show MQ from x.2.1).length/\szM x.1 1000000/\szM x.2.1 1000000,fun x=>(mulM x.1 x.2.1,())⟩
theorem FD:aW Tryz.prog 26 c0U:=by
 refine bH ((((nil0.ad b2h).ad a5g).ad IY).an a4L) ⟨[8],[],[]⟩ Tryz.func26 rfl (by decide) (fun x=>[.inv {k:Nat // k<=(show MQ from x.1).length} (fun r=>[(6,.val tI (r.1:Int))]) (fun r=>[(16,.mat 32 64 tQ none (CY (show MQ from x.1) (show MQ from x.2.1) r.1 0) 0)]) (fun r=>(show MQ from x.1).length-r.1) ⟨0,by omega⟩ (fun r=>[.inv {k:Nat // k<=wdM (show MQ from x.2.1)} (fun c=>[(7,.val tI (c.1:Int))]) (fun c=>[(16,.mat 32 64 tQ none (CY (show MQ from x.1) (show MQ from x.2.1) r.1 c.1) 0)]) (fun c=>wdM (show MQ from x.2.1)-c.1) ⟨0,by omega⟩ (fun c=>[.inv {k:Nat // k<=(show MQ from x.2.1).length} (fun k=>[(9,.val tI (k.1:Int))]) (fun k=>[(16,.mat 32 64 tQ none (CY (show MQ from x.1) (show MQ from x.2.1) r.1 c.1) 0),(8,.box [⟨tQ,mm k.1 (ent (show MQ from x.1)) (ent (show MQ from x.2.1)) r.1 c.1⟩])]) (fun k=>(show MQ from x.2.1).length-k.1) ⟨0,by omega⟩ (fun _=>[])])])]) (fun x hp=>?_)
 obtain⟨a,b,u⟩:=x
 change List (List Rat) at a
 change List (List Rat) at b
 refine bM (let A₀:=(List.getD b 0 (aC Rat)).length;(asT Int 0<=0/\0<aB b.length/\(0<=aB a.length/\aB a.length<=1000/\0<=aB A₀/\aB A₀<=1000)/\True)/\(asT Int 0=0/\EG (aB a.length).toNat (aB A₀).toNat=CY a b 0 0/\True)/\∀ (i:{ k:Nat // k<=List.length a }),let A₁:=(aB (aA i)).toNat;let A₂:=(List.getD a A₁ (aC Rat));asT Bool true=true/\ifB (decide (aB (aA i)<aB a.length)) ((asT Int 0=0/\CY a b (aA i) 0=CY a b (aA i) 0/\True)/\∀ (i_1:{ k:Nat // k<=wdM b }),let aQ:=(CY a b (aA i) (aA i_1));let bJ:=(aB (aA i_1)).toNat;let dA:=(rowAt aQ (nameAt none A₁));asT Bool true=true/\(asT Int 0<=0/\0<aB b.length/\True)/\ifB (decide (aB (aA i_1)<aB A₀)) ((iY 0/\True)/\(asT Int 0=0/\CY a b (aA i) (aA i_1)=CY a b (aA i) (aA i_1)/\eP 0=mm 0 (ent a) (ent b) (aA i) (aA i_1)/\True)/\∀ (i_2:{ k:Nat // k<=List.length b }),let dJ:=(aB (aA i_2)).toNat;let dU:=(List.getD b dJ (aC Rat));let fP:=(mm (aA i_2) (ent a) (ent b) (aA i) (aA i_1));asT Bool true=true/\ifB (decide (aB (aA i_2)<aB b.length)) ((0<=aB (aA i)/\aB (aA i)<aB a.length/\0<=aB (aA i_2)/\aB (aA i_2)<aB A₂.length/\0<=aB (aA i_2)/\aB (aA i_2)<aB b.length/\0<=aB (aA i_1)/\aB (aA i_1)<aB dU.length/\s19 (List.getD A₂ dJ 0) (List.getD dU bJ 0)/\s19 fP (List.getD A₂ dJ 0*List.getD dU bJ 0)/\True)/\∃ (i':{ k:Nat // k<=List.length b }),List.length b-aA i'<List.length b-aA i_2/\IntKind.wrap IntKind.i64 (aB (aA i_2)+1)=aB (aA i')/\CY a b (aA i) (aA i_1)=CY a b (aA i) (aA i_1)/\mm (aA i_2) (ent a) (ent b) (aA i) (aA i_1)+List.getD A₂ dJ 0*List.getD dU bJ 0=mm (aA i') (ent a) (ent b) (aA i) (aA i_1)/\True) ((0<=aB (aA i)/\aB (aA i)<aB (aH none aQ)/\Int.toNat (aB (aA i))<aH none aQ/\0<=aB (aA i_1)/\aB (aA i_1)<aB dA.length/\Int.toNat (aB (aA i_1))<List.length dA/\True)/\∃ (i':{ k:Nat // k<=wdM b }),wdM b-aA i'<wdM b-aA i_1/\IntKind.wrap IntKind.i64 (aB (aA i_1)+1)=aB (aA i')/\List.set aQ (nameAt none A₁) (List.set dA bJ fP)=CY a b (aA i) (aA i')/\True)) (∃ (i':{ k:Nat // k<=List.length a }),List.length a-aA i'<List.length a-aA i/\IntKind.wrap IntKind.i64 (aB (aA i)+1)=aB (aA i')/\CY a b (aA i) (aA i_1)=CY a b (aA i') 0/\True)) (True/\CY a b (aA i) 0=mulM a b/\True)) (by kernel_rfl) ?_
 have hZ:(⟨false,0,[],[]⟩:aF)=cO:=rfl
 dsimp only[aB,asT,aA,aC,Ty.den,Lf.den] at *
 simp only[hZ,Int.toNat_natCast,aU,ay,au,ni,mg,aH,nameAt,aV,aS,bF,rowAt,iy,iq]
 have hp:okM a/\okM b/\wdM a=b.length/\szM a 1000000/\szM b 1000000:=hp
 obtain⟨ha,hb,hw,sa,sb⟩:=hp
 have q1:=ha.r64
 have q2:=ha.c64
 have q3:=hb.r64
 have q4:=hb.c64
 have q5:=hb.pos
 rw[show (b.getD 0 []).length=wdM b from rfl]
 refine⟨⟨xg 0,by omega,by omega,by omega,by omega,by omega⟩,YU.symm,fun i=>⟨fun h1 c=>⟨⟨xg 0,by omega⟩,fun h2=>⟨by unfold iY;omega,rfl,fun k=>⟨fun h3=>?_,fun h3=>?_⟩⟩,fun h2=>⟨⟨i.1+1,by omega⟩,by simp only;omega,by rw[aZ (by omega) (by omega)];rfl,a3l (by omega)⟩⟩,fun h1=>a3j (by omega)⟩⟩
 ·have hi:i.1<a.length:=by omega
  have hc:c.1<wdM b:=by omega
  have hk:k.1<b.length:=by omega
  rw[ha.row hi,hb.row hk]
  have z1:rsz ((a.getD i.1 []).getD k.1 0)<=1000000:=sa i.1 hi k.1 (by omega)
  have z2:rsz ((b.getD k.1 []).getD c.1 0)<=1000000:=sb k.1 hk c.1 hc
  have z3:=tK ((a.getD i.1 []).getD k.1 0) ((b.getD k.1 []).getD c.1 0)
  have z4:rsz (mm k.1 (ent a) (ent b) i.1 c.1)<=140000000:=by
   have:=VA (K:=2000000) (f:=fun d=>ent a i.1 d*ent b d c.1) k.1 (fun d hd=>by
    have y1:=sa i.1 hi d (by omega)
    have y2:=sb d (by omega) c.1 hc
    have y3:=tK (ent a i.1 d) (ent b d c.1)
    show rsz (ent a i.1 d*ent b d c.1)<=_
    omega)
   have y4:k.1*(2000000+1)<=64*2000001:=uf (by omega) (by omega)
   show rsz (sm k.1 _)<=_
   omega
  exact⟨⟨by omega,by omega,by omega,by omega,by omega,by omega,by omega,by omega,⟨by omega,by omega⟩,by omega,by omega⟩,⟨k.1+1,by omega⟩,by simp only;omega,by rw[aZ (by omega) (by omega)];rfl,rfl⟩
 ·have hi:i.1<a.length:=by omega
  have hc:c.1<wdM b:=by omega
  have hk:k.1=b.length:=by have:=k.2;omega
  have e1:(CY a b i.1 c.1).length=a.length:=a3k
  have e2:((CY a b i.1 c.1).getD i.1 []).length=wdM b:=a6I hi
  rw[e1,e2,hk]
  exact⟨⟨by omega,by omega,hi,by omega,by omega,hc⟩,⟨c.1+1,by omega⟩,by simp only;omega,by rw[aZ (by omega) (by omega)];rfl,a3m hi⟩
def trU (a:MQ) (r c:Nat):MQ:=tab (wdM a) a.length fun i j=>if j<r\/j=r/\i<c then ent a j i else 0
def c3u:Ctr:=⟨[tM],[tM],fun x=>okM x.1,fun x=>(trM x.1,())⟩
theorem a0R:aW Tryz.prog 16 c3u:=by
 refine bH (nil0.an a4L) ⟨[],[],[]⟩ Tryz.func16 rfl (by decide) (fun x=>[.inv {k:Nat // k<=(show MQ from x.1).length} (fun r=>[(4,.val tI (r.1:Int))]) (fun r=>[(12,.mat 32 64 tQ none (trU (show MQ from x.1) r.1 0) 0)]) (fun r=>(show MQ from x.1).length-r.1) ⟨0,by omega⟩ (fun r=>[.inv {k:Nat // k<=wdM (show MQ from x.1)} (fun c=>[(5,.val tI (c.1:Int))]) (fun c=>[(12,.mat 32 64 tQ none (trU (show MQ from x.1) r.1 c.1) 0)]) (fun c=>wdM (show MQ from x.1)-c.1) ⟨0,by omega⟩ (fun _=>[])])]) (fun x hp=>?_)
 obtain⟨a,u⟩:=x
 change List (List Rat) at a
 refine bM (let A₀:=(List.getD a 0 (aC Rat)).length;(asT Int 0<=0/\0<aB a.length/\(0<=aB A₀/\aB A₀<=1000/\0<=aB a.length/\aB a.length<=1000)/\True)/\(asT Int 0=0/\EG (aB A₀).toNat (aB a.length).toNat=trU a 0 0/\True)/\∀ (i:{ k:Nat // k<=List.length a }),let A₁:=(List.getD a (aB (aA i)).toNat (aC Rat));asT Bool true=true/\ifB (decide (aB (aA i)<aB a.length)) ((asT Int 0=0/\trU a (aA i) 0=trU a (aA i) 0/\True)/\∀ (i_1:{ k:Nat // k<=wdM a }),let aQ:=(trU a (aA i) (aA i_1));let bJ:=(aB (aA i_1)).toNat;let A₂:=(rowAt aQ (nameAt none bJ));asT Bool true=true/\(0<=aB (aA i)/\aB (aA i)<aB a.length/\True)/\ifB (decide (aB (aA i_1)<aB A₁.length)) ((0<=aB (aA i_1)/\aB (aA i_1)<aB (aH none aQ)/\Int.toNat (aB (aA i_1))<aH none aQ/\0<=aB (aA i)/\aB (aA i)<aB a.length/\0<=aB (aA i_1)/\aB (aA i_1)<aB A₁.length/\0<=aB (aA i)/\aB (aA i)<aB A₂.length/\Int.toNat (aB (aA i))<List.length A₂/\True)/\∃ (i':{ k:Nat // k<=wdM a }),wdM a-aA i'<wdM a-aA i_1/\IntKind.wrap IntKind.i64 (aB (aA i_1)+1)=aB (aA i')/\List.set aQ (nameAt none bJ) (List.set A₂ (aB (aA i)).toNat (List.getD A₁ bJ 0))=trU a (aA i) (aA i')/\True) (∃ (i':{ k:Nat // k<=List.length a }),List.length a-aA i'<List.length a-aA i/\IntKind.wrap IntKind.i64 (aB (aA i)+1)=aB (aA i')/\trU a (aA i) (aA i_1)=trU a (aA i') 0/\True)) (True/\trU a (aA i) 0=trM a/\True)) (by kernel_rfl) ?_
 have hZ:(⟨false,0,[],[]⟩:aF)=cO:=rfl
 dsimp only[aB,asT,aA,aC,Ty.den,Lf.den] at *
 simp only[hZ,Int.toNat_natCast,aU,ay,au,ni,mg,aH,nameAt,aV,aS,bF,rowAt,iy,iq]
 have ha:okM a:=hp
 have q1:=ha.r64
 have q2:=ha.c64
 have q5:=ha.pos
 rw[show (a.getD 0 []).length=wdM a from rfl]
 refine⟨⟨xg 0,by omega,by omega,by omega,by omega,by omega⟩,fB fun p _ q _=>(ig (by omega)).symm,fun i=>⟨fun h1 c=>?_,fun h1=>fB fun p _ q hq=>gy (by omega)⟩⟩
 have hi:i.1<a.length:=by omega
 rw[ha.row hi]
 refine⟨⟨by omega,h1⟩,fun h2=>?_,fun h2=>⟨⟨i.1+1,by omega⟩,by simp only;omega,by rw[aZ (by omega) (by omega)];rfl,fB fun p hp q _=>?_⟩⟩
 ·have hc:c.1<wdM a:=by omega
  have e1:(trU a i.1 c.1).length=wdM a:=bF
  have e2:((trU a i.1 c.1).getD c.1 []).length=a.length:=by unfold trU;rw[iT hc];simp
  rw[e1,e2]
  refine⟨⟨by omega,by omega,hc,by omega,by omega,by omega,by omega,by omega,by omega,hi⟩,⟨c.1+1,by omega⟩,by simp only;omega,by rw[aZ (by omega) (by omega)];rfl,(DW _ hc).trans (fB fun p _ q _=>?_)⟩
  show (if p=c.1/\q=i.1 then ent a i.1 c.1 else if q<i.1\/q=i.1/\p<c.1 then ent a q p else 0)=if q<i.1\/q=i.1/\p<c.1+1 then ent a q p else 0
  by_cases e:p=c.1/\q=i.1
  ·rw[gy e,gy (by omega),e.1,e.2]
  ·rw[ig e]
   by_cases e3:q<i.1\/q=i.1/\p<c.1
   ·rw[gy e3,gy (by omega)]
   ·rw[ig e3,ig (by omega)]
 ·show (if q<i.1\/q=i.1/\p<c.1 then ent a q p else 0)=if q<i.1+1\/q=i.1+1/\p<0 then ent a q p else 0
  by_cases e3:q<i.1\/q=i.1/\p<c.1
  ·rw[gy e3,gy (by omega)]
  ·rw[ig e3,ig (by omega)]
def uK (x:LQ'):MQ:=tab x.length 1 fun i _=>lv x i
def c0B:Ctr:=⟨[.list tQ],[tM],fun x=>(show LQ' from x.1).length<=1000,fun x=>(uK x.1,())⟩
def b5w:Ctr:=⟨[tM],[.list tQ],fun x=>(show MQ from x.1).length<=1000/\∀ r ∈ (show MQ from x.1),1<=r.length,fun x=>((List.range (show MQ from x.1).length).map (fun i=>ent x.1 i 0),())⟩
theorem b0Y:aW Tryz.prog 74 c0B:=by
 refine bH nil0 ⟨[],[],[]⟩ Tryz.func74 rfl (by decide) (fun x=>[.inv {k:Nat // k<=(show LQ' from x.1).length} (fun k=>[(4,.val tI (k.1:Int)),(3,.own 5 0),(5,.any),(19,.any)]) (fun k=>[(5,.row 32 (.list tQ) ((uK (show LQ' from x.1)).take k.1) 0)]) (fun k=>(show LQ' from x.1).length-k.1) ⟨0,by omega⟩ (fun _=>[])]) (fun x hp=>?_)
 obtain⟨x,u⟩:=x
 change List Rat at x
 refine bM ((asT Int 0=0/\asT (List (List Rat)) (aC (List Rat))=aC (List Rat)/\True)/\∀ (i:{ k:Nat // k<=List.length x }),asT Bool true=true/\ifB (decide (aB (aA i)<aB x.length)) ((0<=aB (aA i)/\aB (aA i)<aB x.length/\List.length (List.take (aA i) (uK x))+List.length ((List.getD x (aB (aA i)).toNat 0::aC Rat)::aC (List Rat))<=1000000000/\True)/\∃ (i':{ k:Nat // k<=List.length x }),List.length x-aA i'<List.length x-aA i/\IntKind.wrap IntKind.i64 (aB (aA i)+1)=aB (aA i')/\List.take (aA i) (uK x)++(List.getD x (aB (aA i)).toNat 0::aC Rat)::aC (List Rat)=List.take (aA i') (uK x)/\True) (True/\List.take (aA i) (uK x)=uK x/\True)) (by kernel_rfl) ?_
 have hZ:(⟨false,0,[],[]⟩:aF)=cO:=rfl
 dsimp only[aB,asT,aA,aC,Ty.den,Lf.den] at *
 simp only[hZ,Int.toNat_natCast,aU,ay,au,ni,mg,aH,nameAt,aV,aS,bF,rowAt,iy,iq]
 have hp:x.length<=1000:=hp
 have hl:(uK x).length=x.length:=bF
 refine fun i=>⟨fun h1=>?_,fun h1=>jd (by rw[hl];omega)⟩
 have hi:i.1<x.length:=by omega
 refine⟨⟨by omega,h1,by rw[jm];simp;omega⟩,⟨i.1+1,by omega⟩,by simp only;omega,by rw[aZ (by omega) (by omega)];rfl,?_⟩
 rw[Ba]
 have:(uK x)[i.1]?=some [x.getD i.1 0]:=by
  unfold uK tab;simp[hi]
 rw[this];rfl
theorem a4G:aW Tryz.prog 73 b5w:=by
 refine bH nil0 ⟨[],[],[]⟩ Tryz.func73 rfl (by decide) (fun x=>[.inv {k:Nat // k<=(show MQ from x.1).length} (fun k=>[(4,.val tI (k.1:Int)),(3,.own 5 0),(5,.any),(20,.any)]) (fun k=>[(5,.row 64 tQ ((List.range k.1).map (fun i=>ent (show MQ from x.1) i 0)) 0)]) (fun k=>(show MQ from x.1).length-k.1) ⟨0,by omega⟩ (fun _=>[])]) (fun x hp=>?_)
 obtain⟨a,u⟩:=x
 change List (List Rat) at a
 refine bM ((asT Int 0=0/\asT (List Rat) (aC Rat)=aC Rat/\True)/\∀ (i:{ k:Nat // k<=List.length a }),let A₀:=(fun(i:Nat)=>ent a i 0);let A₁:=(List.getD a (aB (aA i)).toNat (aC Rat));asT Bool true=true/\ifB (decide (aB (aA i)<aB a.length)) ((0<=aB (aA i)/\aB (aA i)<aB a.length/\asT Int 0<=0/\0<aB A₁.length/\List.length (List.map A₀ (List.range (aA i)))+List.length (List.getD A₁ 0 0::aC Rat)<=1000000000/\True)/\∃ (i':{ k:Nat // k<=List.length a }),List.length a-aA i'<List.length a-aA i/\IntKind.wrap IntKind.i64 (aB (aA i)+1)=aB (aA i')/\List.map A₀ (List.range (aA i))++List.getD A₁ 0 0::aC Rat=List.map A₀ (List.range (aA i'))/\True) (True/\List.map A₀ (List.range (aA i))=List.map A₀ (List.range a.length)/\True)) (by kernel_rfl) ?_
 have hZ:(⟨false,0,[],[]⟩:aF)=cO:=rfl
 dsimp only[aB,asT,aA,aC,Ty.den,Lf.den] at *
 simp only[hZ,Int.toNat_natCast,aU,ay,au,ni,mg,aH,nameAt,aV,aS,bF,rowAt,iy,iq]
 have hp:a.length<=1000/\∀ r ∈ a,1<=r.length:=hp
 refine fun i=>⟨fun h1=>?_,fun h1=>by rw[show i.1=a.length by have:=i.2;omega]⟩
 have hi:i.1<a.length:=by omega
 have hr:1<=(a.getD i.1 []).length:=eX (p:=fun r:List Rat=>1<=r.length) hp.2 hi
 refine⟨⟨by omega,h1,xg 0,by omega,by simp;omega⟩,⟨i.1+1,by omega⟩,by simp only;omega,by rw[aZ (by omega) (by omega)];rfl,?_⟩
 rw[Bv,List.map_append];rfl
def c2T:Ctr:=⟨[tM,.list tQ],[.list tQ],fun x=>okM x.1/\szM x.1 1000000/\(show LQ' from x.2.1).length=wdM (show MQ from x.1)/\∀ q ∈ (show LQ' from x.2.1),rsz q<=1000000,fun x=>(mvL x.1 x.2.1,())⟩
theorem a4A:aW Tryz.prog 31 c2T:=by
 refine bH (((nil0.ad FD).ad b0Y).ad a4G) ⟨[],[],[]⟩ Tryz.func31 rfl (by decide) (fun x=>[]) (fun x hp=>?_)
 obtain⟨a,x,u⟩:=x
 change List (List Rat) at a
 change List Rat at x
 refine bM ((List.length x<=1000/\(okM a/\okM (uK x)/\wdM a=List.length (uK x)/\szM a 1000000/\szM (uK x) 1000000)/\(List.length (mulM a (uK x))<=1000/\∀ (r:List Rat),r ∈ mulM a (uK x)->1<=List.length r)/\True)/\True/\List.map (fun(i:Nat)=>ent (mulM a (uK x)) i 0) (List.range (mulM a (uK x)).length)=mvL a x/\True) (by kernel_rfl) ?_
 have hZ:(⟨false,0,[],[]⟩:aF)=cO:=rfl
 dsimp only[aB,asT,aA,aC,Ty.den,Lf.den] at *
 simp only[hZ,Int.toNat_natCast,aU,ay,au,ni,mg,aH,nameAt,aV,aS,bF,rowAt,iy,iq]
 have hp:okM a/\szM a 1000000/\x.length=wdM a/\∀ q ∈ x,rsz q<=1000000:=hp
 obtain⟨ha,sa,hx,sx⟩:=hp
 have q1:=ha.r64
 have q2:=ha.c64
 have q3:=ha.c1
 have hc:isM (uK x) x.length 1:=rP (by omega) (by omega) (by omega) (by omega)
 have ec:∀ k,k<x.length->ent (uK x) k 0=lv x k:=fun k hk=>lG hk (by omega)
 have sc:szM (uK x) 1000000:=fun k hk j hj=>by
  rw[hc.len] at hk
  rw[hc.wd] at hj
  rw[show j=0 by omega,ec k hk]
  exact eX sx hk
 have hc2:isM (uK x) (wdM a) 1:=by rw[<-hx];exact hc
 have hm:isM (mulM a (uK x)) a.length 1:=ha.1.mul hc2
 refine⟨⟨by omega,⟨ha,⟨hc.self,fun k hk j hj=>jg (sc k hk j hj) (by omega)⟩,by rw[hc.len];exact hx.symm,sa,sc⟩,by rw[hm.len];omega,fun r hr=>by rw[hm.2.1 r hr];omega⟩,?_⟩
 rw[hm.len]
 refine jl fun k hk=>?_
 have hk:=uy.mp hk
 show ent (mulM a (uK x)) k 0=mv (wdM a) (ent a) (lv x) k
 unfold mulM
 rw[hc.wd,lG hk (by omega),hc.len,hx]
 exact iG _ fun d hd=>by rw[ec d (by omega)]
end Go.Proofs.YtgplhbhfdgempaaGreat
