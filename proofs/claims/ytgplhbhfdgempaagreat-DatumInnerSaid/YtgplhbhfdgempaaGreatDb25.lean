/-
  Lemmas for the statements about datums, part 25 of 37.
-/
import Derived.Test.YtgplhbhfdgempaaGreatDb24
namespace Go.Proofs.YtgplhbhfdgempaaGreat
open Go Go.RowKit
set_option maxRecDepth 100000
set_option maxHeartbeats 1000000
set_option linter.unusedVariables false
set_option linter.unusedSimpArgs false
def IV (x:MR):Mt:=fun i j=>((x.getD i []).getD j bV).x
theorem UY {R C:Nat} {f:Mt} {i j:Nat} (hi:i<R) (hj:j<C):IV (bK R C f) i j=f i j:=by
 show (((bK R C f).getD i []).getD j bV).x=_
 rw[jT hi,gG hj];rfl
def a5R (x:MR) (n:Int):Prop:=x=bK x.length (wdM x) (IV x)/\1<=x.length/\x.length<=1000/\1<=wdM x/\wdM x<=1000/\0<=n/\n.toNat<=wdM x/\AQ x.length (wdM x) (IV x) n.toNat
abbrev rdm (x:MR) (j:Nat):Mt:=(red x.length (IV x) j).1
abbrev rdp (x:MR) (j:Nat):List Nat:=(red x.length (IV x) j).2
def kk (x:MR) (j:Nat):Nat:=fk (rdm x j) j (rdp x j).length (x.length-(rdp x j).length)
theorem a9M {R C:Nat} {f:Nat->Nat->Rat} {i j:Nat} (v:Rat) (hi:i<R):(bK R C f).set i (((bK R C f).getD i []).set j (dS v))=bK R C (fun a b=>if a=i/\b=j then v else f a b):=by
 rw[jT hi,map_set]
 rw[show (fun d=>if d=j then dS v else dS (f i d))=(fun d=>dS (if d=j then v else f i d)) from Ah fun d=>by split<;>rfl,a4w i]
 refine mF fun a _ b _=>?_
 by_cases e:a=i
 ·subst e;rw[eY rfl]
  by_cases e2:b=j
  ·rw[eY e2,eY ⟨rfl,e2⟩]
  ·rw[dw e2,dw (by simp[e2])]
 ·rw[dw e,dw (by simp[e])]
theorem b5O {R C r k:Nat} {m:Mt} (hr:r<R) (hk:k<R):List.map (fun t=>(bK R C m).getD t []) (((List.range R).set r k).set k r)=bK R C (iV m r k):=by
 rw[TM,List.map_map]
 unfold bK
 refine jf fun i hi=>?_
 have hi:=qN.mp hi
 show (bK R C m).getD (if i=k then r else if i=r then k else i) []=_
 have hb:(if i=k then r else if i=r then k else i)<R:=by
  split
  ·exact hr
  ·split
   ·exact hk
   ·exact hi
 rw[jT hb]
 refine jf fun c _=>?_
 unfold iV
 by_cases e1:i=k
 ·by_cases e2:i=r
  ·rw[eY e1,eY e2];have:r=k:=by omega
   rw[this]
  ·rw[eY e1,dw e2,eY e1]
 ·by_cases e2:i=r
  ·rw[dw e1,eY e2,eY e2]
  ·rw[dw e1,dw e2,dw e2,dw e1]
theorem a3J (C:Nat) (f:Nat->Rat):List.map (fun x=>aF.x x) ((List.range C).map fun c=>dS (f c))=(List.range C).map f:=by simp[dS]
theorem b3p {C:Nat} {f g:Nat->Rat} {k:Rat} {s:Nat}:rP ((List.range C).map fun c=>dS (f c)) ((List.range C).map g) k s C=(List.range C).map fun c=>dS (if s<=c then f c-k*g c else f c):=by
 unfold rP
 rw[show ((List.range C).map fun c=>dS (f c)).length=C by simp]
 refine jf fun c hc=>?_
 have hc:=qN.mp hc
 rw[gG hc,show lv ((List.range C).map g) c=g c from gG hc]
 by_cases h:s<=c
 ·rw[eY ⟨h,hc⟩,eY h];rfl
 ·rw[dw (by omega),dw h]
theorem AL {C:Nat} {f:Nat->Rat} {q:aF} (h:q ∈ (List.range C).map fun c=>dS (f c)):∃ c,c<C/\q=dS (f c):=by
 obtain⟨c,hc,rfl⟩:=ni.mp h;exact⟨c,qN.mp hc,rfl⟩
theorem b8g (x:MR) (n:Int) (hp:a5R x n):(asT Int 0=0/\(True/\asT (List Int) (aC Int)=aC Int)/\x=bK x.length (wdM x) (rdm x 0)/\(asT (List Int) (aC Int)=aC Int/\0=0/\asT Bool true=true)/\True)/\∀ (i:{ j:Nat // j<=Int.toNat n }),let A₁:=(bK x.length (wdM x) (rdm x (aB i)));let A₂:=(dA (rdp x (aB i))).length;let aV:=(rdp x (aB i)).length;let aP:=(iV (rdm x (aB i)) aV (kk x (aB i)));let A₀:=(scl aP aV (aB i) (wdM x) (1 / rdm x (aB i) (kk x (aB i)) (aB i)));let dB:=(nameAt none (aA A₂).toNat);let dO:=(aA (aB i)).toNat;asT Bool true=true/\ifB (decide (aA (aB i)<n)) ((aA A₂=aA aV/\bK x.length (wdM x) (rdm x (aB i))=bK x.length (wdM x) (rdm x (aB i))/\dA (rdp x (aB i))=dA (rdp x (aB i))/\True)/\∀ (i_1:{ k:Nat // List.length (rdp x (aB i))<=k/\k<=List.length x/\∀ (i_1:Nat),List.length (rdp x (aB i))<=i_1->i_1<k->rdm x (aB i) i_1 (aB i)=0 }),let wU:=(aA (aB i_1)).toNat;let dX:=(nameAt none wU);let iG:=(List.getD (rowAt A₁ dX) dO { ok:=false,x:=0,g:=aC Nat,h:=aC Nat });let jQ:=(some (List.set (aX none A₁) (aA A₂).toNat dX));let eH:=(List.set (aX jQ A₁) wU dB);let tH:=(rowAt A₁ (nameAt (some eH) (aA A₂).toNat));let dU:=(List.getD tH dO { ok:=false,x:=0,g:=aC Nat,h:=aC Nat });asT Bool true=true/\(((decide (aA (aB i_1)<aA (aH none A₁))==true)=true->(decide (aA (aB i_1)<aA (aH none A₁))==true)=true/\(decide (aA (aB i_1)<aA (aH none A₁))==true)=true/\0<=aA (aB i_1)/\aA (aB i_1)<aA (aH none A₁)/\True)/\((decide (aA (aB i_1)<aA (aH none A₁))==true)=true->(decide (aA (aB i_1)<aA (aH none A₁))==true)=true/\Int.toNat (aA (aB i_1))<aH none A₁/\True)/\((decide (aA (aB i_1)<aA (aH none A₁))==true)=true->(decide (aA (aB i_1)<aA (aH none A₁))==true)=true/\(decide (aA (aB i_1)<aA (aH none A₁))==true)=true/\0<=aA (aB i)/\aA (aB i)<aA (rowAt A₁ dX).length/\True)/\((decide (aA (aB i_1)<aA (aH none A₁))==true)=true->(decide (aA (aB i_1)<aA (aH none A₁))==true)=true/\Int.toNat (aA (aB i))<List.length (rowAt A₁ dX)/\True)/\((decide (aA (aB i_1)<aA (aH none A₁))==true)=true->(decide (aA (aB i_1)<aA (aH none A₁))==true)=true/\aF.ok iG=true/\rsz (aF.x iG)<=1000000000/\True)/\((decide (aA (aB i_1)<aA (aH none A₁))==true)=true->(decide (aA (aB i_1)<aA (aH none A₁))==true)=true/\True)/\(decide (aA (aB i_1)<aA (aH none A₁))=true->(decide (aA (aB i_1)<aA (aH none A₁))==true)=true)/\True)/\ifB (bif decide (aA (aB i_1)<aA (aH none A₁)) then sgn (Rat.num (aF.x iG))==0 else false) (∃ (i':{ k:Nat // List.length (rdp x (aB i))<=k/\k<=List.length x/\∀ (i_2:Nat),List.length (rdp x (aB i))<=i_2->i_2<k->rdm x (aB i) i_2 (aB i)=0 }),List.length x-aB i'<List.length x-aB i_1/\IntKind.wrap IntKind.i64 (aA (aB i_1)+1)=aA (aB i')/\bK x.length (wdM x) (rdm x (aB i))=bK x.length (wdM x) (rdm x (aB i))/\dA (rdp x (aB i))=dA (rdp x (aB i))/\True) (ifB (aA (aB i_1)==aA (aH none A₁)) (∃ (i':{ j:Nat // j<=Int.toNat n }),Int.toNat n-aB i'<Int.toNat n-aB i/\IntKind.wrap IntKind.i64 (aA (aB i)+1)=aA (aB i')/\bK x.length (wdM x) (rdm x (aB i))=bK x.length (wdM x) (rdm x (aB i'))/\dA (rdp x (aB i))=dA (rdp x (aB i'))/\True) ((0<=aA (aB i_1)/\aA (aB i_1)<aA (aH none A₁)/\Int.toNat (aA (aB i_1))<aH none A₁/\0<=aA A₂/\aA A₂<aA (aH none A₁)/\Int.toNat (aA A₂)<aH none A₁/\0<=aA A₂/\aA A₂<aA (aH none A₁)/\Int.toNat (aA A₂)<aH none A₁/\0<=aA (aB i_1)/\aA (aB i_1)<aA (aH jQ A₁)/\Int.toNat (aA (aB i_1))<aH jQ A₁/\True)/\(gZ 1/\0<=aA A₂/\aA A₂<aA (aH (some eH) A₁)/\Int.toNat (aA A₂)<aH (some eH) A₁/\0<=aA (aB i)/\aA (aB i)<aA tH.length/\Int.toNat (aA (aB i))<List.length tH/\aF.ok dU=true/\(rsz (dD 1)<=400000000/\rsz (aF.x dU)<=400000000/\aF.x dU≠0)/\True)/\(aA (aB i)=aA (aB i)/\List.Nodup eH/\List.map (fun(i_2:Nat)=>List.getD A₁ i_2 (aC aF)) eH=bK x.length (wdM x) (scl aP aV (aB i) (aB i) (1 / rdm x (aB i) (kk x (aB i)) (aB i)))/\dA (rdp x (aB i))=dA (rdp x (aB i))/\dD 1 / aF.x dU=1 / rdm x (aB i) (kk x (aB i)) (aB i)/\True)/\∀ (i_2:{ c:Nat // aB i<=c }),let CY:=(scl aP aV (aB i) (aB i_2) (1 / rdm x (aB i) (kk x (aB i)) (aB i)));let iO:=(bK x.length (wdM x) CY);let CZ:=(rowAt iO dB).length;let lM:=(aA (aB i_2)).toNat;let yC:=(List.getD (rowAt iO dB) lM { ok:=false,x:=0,g:=aC Nat,h:=aC Nat });asT Bool true=true/\(0<=aA A₂/\aA A₂<aA (aH none iO)/\Int.toNat (aA A₂)<aH none iO/\True)/\ifB (decide (aA (aB i_2)<aA CZ)) ((0<=aA A₂/\aA A₂<aA (aH none iO)/\Int.toNat (aA A₂)<aH none iO/\0<=aA A₂/\aA A₂<aA (aH none iO)/\Int.toNat (aA A₂)<aH none iO/\0<=aA (aB i_2)/\aA (aB i_2)<aA CZ/\Int.toNat (aA (aB i_2))<List.length (rowAt iO dB)/\aF.ok yC=true/\s44 (1 / rdm x (aB i) (kk x (aB i)) (aB i)) (aF.x yC)/\0<=aA (aB i_2)/\aA (aB i_2)<aA CZ/\Int.toNat (aA (aB i_2))<List.length (rowAt iO dB)/\True)/\∃ (i':{ c:Nat // aB i<=c }),wdM x-aB i'<wdM x-aB i_2/\IntKind.wrap IntKind.i64 (aA (aB i_2)+1)=aA (aB i')/\List.set iO dB (List.set (rowAt iO dB) lM (dS (1 / rdm x (aB i) (kk x (aB i)) (aB i)*aF.x yC)))=bK x.length (wdM x) (scl aP aV (aB i) (aB i') (1 / rdm x (aB i) (kk x (aB i)) (aB i)))/\dA (rdp x (aB i))=dA (rdp x (aB i))/\1 / rdm x (aB i) (kk x (aB i)) (aB i)=1 / rdm x (aB i) (kk x (aB i)) (aB i)/\True) ((asT Int 0=0/\bK x.length (wdM x) CY=bK x.length (wdM x) (elm A₀ aV (aB i) 0)/\dA (rdp x (aB i))=dA (rdp x (aB i))/\True)/\∀ (i_3:{ i:Nat // i<=List.length x }),let yD:=(elm A₀ aV (aB i) (aB i_3));let jF:=(bK x.length (wdM x) yD);let C₃:=(List.map (fun(x:Ty.den (Ty.lf Lf.aU))=>aF.x x) (rowAt jF dB));let jD:=(aA (aB i_3)).toNat;let C₂:=(nameAt none jD);let jR:=(rowAt jF C₂);let C₁:=(List.getD jR dO { ok:=false,x:=0,g:=aC Nat,h:=aC Nat });asT Bool true=true/\ifB (decide (aA (aB i_3)<aA (aH none iO))) (((((aA (aB i_3) != aA A₂)==true)=true->((aA (aB i_3) != aA A₂)==true)=true/\((aA (aB i_3) != aA A₂)==true)=true/\0<=aA (aB i_3)/\aA (aB i_3)<aA (aH none jF)/\True)/\(((aA (aB i_3) != aA A₂)==true)=true->((aA (aB i_3) != aA A₂)==true)=true/\Int.toNat (aA (aB i_3))<aH none jF/\True)/\(((aA (aB i_3) != aA A₂)==true)=true->((aA (aB i_3) != aA A₂)==true)=true/\((aA (aB i_3) != aA A₂)==true)=true/\0<=aA (aB i)/\aA (aB i)<aA jR.length/\True)/\(((aA (aB i_3) != aA A₂)==true)=true->((aA (aB i_3) != aA A₂)==true)=true/\Int.toNat (aA (aB i))<List.length jR/\True)/\(((aA (aB i_3) != aA A₂)==true)=true->((aA (aB i_3) != aA A₂)==true)=true/\aF.ok C₁=true/\rsz (aF.x C₁)<=1000000000/\True)/\(((aA (aB i_3) != aA A₂)==true)=true->((aA (aB i_3) != aA A₂)==true)=true/\True)/\((aA (aB i_3) != aA A₂)=true->((aA (aB i_3) != aA A₂)==true)=true)/\True)/\ifB (bif aA (aB i_3) != aA A₂ then sgn (Rat.num (aF.x C₁)) != 0 else false) ((0<=aA (aB i_3)/\aA (aB i_3)<aA (aH none jF)/\Int.toNat (aA (aB i_3))<aH none jF/\0<=aA A₂/\aA A₂<aA (aH none jF)/\Int.toNat (aA A₂)<aH none jF/\0<=aA (aB i_3)/\aA (aB i_3)<aA (aH none jF)/\Int.toNat (aA (aB i_3))<aH none jF/\0<=aA (aB i)/\aA (aB i)<aA jR.length/\Int.toNat (aA (aB i))<List.length jR/\nameAt none (aA A₂).toNat≠nameAt none jD/\bY (fun(x:Ty.den (Ty.lf Lf.aU))=>aW ((aF.ok x=true)::aC Prop)) (rowAt jF dB)/\aF.ok C₁=true/\((∀ (q:aF),q ∈ rowAt jF C₂->q=dS (aF.x q))/\List.length jR=List.length C₃/\List.length jR<=1000/\0<=aA (aB i)/\(∀ (q:aF),q ∈ rowAt jF C₂->rsz (aF.x q)<=400000000)/\rsz (aF.x C₁)<=100000000/\∀ (q:Rat),q ∈ List.map (fun(x:Ty.den (Ty.lf Lf.aU))=>aF.x x) (rowAt jF dB)->rsz q<=100000000)/\True)/\∃ (i':{ i:Nat // i<=List.length x }),List.length x-aB i'<List.length x-aB i_3/\IntKind.wrap IntKind.i64 (aA (aB i_3)+1)=aA (aB i')/\List.set jF C₂ (rP jR C₃ (aF.x C₁) dO jR.length)=bK x.length (wdM x) (elm A₀ aV (aB i) (aB i'))/\dA (rdp x (aB i))=dA (rdp x (aB i))/\True) (∃ (i':{ i:Nat // i<=List.length x }),List.length x-aB i'<List.length x-aB i_3/\IntKind.wrap IntKind.i64 (aA (aB i_3)+1)=aA (aB i')/\bK x.length (wdM x) yD=bK x.length (wdM x) (elm A₀ aV (aB i) (aB i'))/\dA (rdp x (aB i))=dA (rdp x (aB i))/\True)) ((List.length (dA (rdp x (aB i)))+List.length (aA (aB i)::aC Int)<=1000000000/\True)/\∃ (i':{ j:Nat // j<=Int.toNat n }),Int.toNat n-aB i'<Int.toNat n-aB i/\IntKind.wrap IntKind.i64 (aA (aB i)+1)=aA (aB i')/\bK x.length (wdM x) yD=bK x.length (wdM x) (rdm x (aB i'))/\dA (rdp x (aB i))++aA (aB i)::aC Int=dA (rdp x (aB i'))/\True))))) (True/\dA (rdp x (aB i))=dA (rdp x n.toNat)/\bK x.length (wdM x) (rdm x n.toNat)=bK x.length (wdM x) (rdm x (aB i))):=by
 obtain⟨hx,r1,r2,c1,c2,n0,n1,hok⟩:=hp
 have hZ:(⟨false,0,[],[]⟩:aF)=bV:=rfl
 dsimp only[aA,asT,aB,aC,Ty.den,Lf.den] at *
 simp only[hZ,Int.toNat_natCast,aJ,dh,bn,mg,mW,aH,nameAt,aX,aN,rowAt,qX,iw,gJ]
 refine⟨hx,fun i=>⟨fun h1 k=>?_,fun h1=>?_⟩⟩
 ·have hj:i.1<n.toNat:=by omega
  have hjC:i.1<wdM x:=by omega
  have E:=iL x.length (IV x) i.1
  have hle:=E.le
  have zm:∀ a,a<x.length->∀ c,c<wdM x->rsz (rdm x i.1 a c)<=10000000:=hok i.1 (by omega)
  have zn:∀ a,a<x.length->∀ c,c<wdM x->rsz (rdm x (i.1+1) a c)<=10000000:=hok (i.1+1) (by omega)
  obtain⟨hk1,hk2,hk0⟩:=k.2
  have hw:∀ q:Nat,(q:Int)<=1000->IntKind.wrap .i64 ((q:Int)+1)=((q+1:Nat):Int):=fun q hq=>by rw[bF (by omega) (by omega)];rfl
  by_cases hkR:k.1<x.length
  ·have d1:decide ((k.1:Int)<(x.length:Int))=true:=jw (by omega)
   simp only[d1,jT hkR,gG hjC,ny,gJ,cond_true,beq_self_eq_true,true_implies,mg,mW]
   have hz:=zm k.1 hkR i.1 hjC
   have hPR:(rdp x i.1).length<x.length:=by omega
   refine⟨⟨⟨by omega,by omega⟩,hkR,⟨by omega,by omega⟩,hjC,⟨rfl,by show rsz (rdm x i.1 k.1 i.1)<=_;omega⟩,fun _=>trivial⟩,fun h=>⟨⟨k.1+1,by omega,by omega,fun a h1 h2=>?_⟩,by simp only;omega,hw _ (by omega)⟩,fun h=>⟨fun h2=>?_,fun h2=>?_⟩⟩
   ·by_cases e:a=k.1
    ·have h:(sgn (rdm x i.1 k.1 i.1).num==0)=true:=h
     rw[e];exact mQ.mp (by simpa using h)
    ·exact hk0 a h1 (by omega)
   ·have:(k.1:Int)=x.length:=by simpa using h2
    omega
   ·have hne:rdm x i.1 k.1 i.1≠0:=fun e=>by
     have h:(sgn (rdm x i.1 k.1 i.1).num==0)=false:=h
     rw[mQ.mpr e] at h;cases h
    have hkk:kk x i.1=k.1:=ZN _ _ _ _ _ hk1 (by omega) hk0 (fun _=>hne)
    have hst:red x.length (IV x) (i.1+1)=(kZ (rdm x i.1) (rdp x i.1).length k.1 i.1,rdp x i.1++[i.1]):=NK hkk (by omega)
    have hS:∀ a,a<x.length->∀ d,d<wdM x->elm (scl (iV (rdm x i.1) (rdp x i.1).length k.1) (rdp x i.1).length i.1 (wdM x) (1 / rdm x i.1 k.1 i.1)) (rdp x i.1).length i.1 x.length a d=kZ (rdm x i.1) (rdp x i.1).length k.1 i.1 a d:=b5L hne hk1 hkR E.rest
    have e1:rdm x (i.1+1)=kZ (rdm x i.1) (rdp x i.1).length k.1 i.1:=rD Prod.fst hst
    have e2:rdp x (i.1+1)=rdp x i.1++[i.1]:=rD Prod.snd hst
    rw[e1] at zn
    rw[hkk]
    have hr:=hPR
    generalize hP:(rdp x i.1).length=r at *
    generalize hM:rdm x i.1=m at *
    have hsr:∀ d,iV m r k.1 r d=m k.1 d:=fun d=>by unfold iV;rw[eY rfl]
    have zs:∀ a,a<x.length->∀ d,d<wdM x->rsz (iV m r k.1 a d)<=10000000:=fun a ha d hd=>by
     unfold iV;split
     ·exact zm _ hkR d hd
     ·split
      ·exact zm _ hr d hd
      ·exact zm _ ha d hd
    simp only[swp_get hr,jT hkR,gG hjC,ny,gJ]
    have z1:rsz ((1:Int):Rat)=1:=by decide +kernel
    have zi:rsz (1 / m k.1 i.1)<=10000001:=by
     have:=b5D 1 (m k.1 i.1) hne
     have z2:rsz 1=1:=by decide +kernel
     omega
    refine⟨⟨by omega,by omega,by omega,by omega,by omega,by omega,by omega,by omega,by omega,by omega,by omega,by omega⟩,⟨⟨by omega,by omega⟩,by omega,by omega,by omega,by omega,by omega,hjC,rfl,by show rsz ((1:Int):Rat)<=_;omega,by show rsz (m k.1 i.1)<=_;omega,hne⟩,⟨b3w _ hr hkR,by rw[b5O hr hkR,b2Y],rfl⟩,fun c=>⟨⟨by omega,by omega,by omega⟩,fun h3=>?_,fun h3=>?_⟩⟩
    ·rw[jT hr] at h3 ⊢
     simp only[ny,gJ] at h3 ⊢
     have hc:c.1<wdM x:=by omega
     rw[gG hc,c1n _ _ (aj _),hsr]
     have z3:=zm k.1 hkR c.1 hc
     refine⟨⟨by omega,by omega,by omega,by omega,by omega,by omega,by omega,by omega,hc,rfl,⟨by omega,by show rsz (m k.1 c.1)<=_;omega⟩,by omega,by omega,hc⟩,⟨c.1+1,by have:=c.2;omega⟩,by simp only;omega,hw _ (by omega),?_⟩
     rw[<-jT (f:=scl (iV m r k.1) r i.1 c.1 (1 / m k.1 i.1)) hr]
     refine(a9M _ hr).trans (mF fun a _ b _=>?_)
     rw[b2X _ c.2]
     show _=if a=r then (if b=c.1 then _ else _) else _
     by_cases ea:a=r
     ·subst ea
      rw[eY rfl]
      by_cases eb:b=c.1
      ·rw[eY ⟨rfl,eb⟩,eY eb,hsr];rfl
      ·rw[dw (by simp[eb]),dw eb]
     ·rw[dw (by simp[ea]),dw ea]
    ·rw[jT hr] at h3
     simp only[ny,gJ] at h3
     have hc:wdM x<=c.1:=by omega
     refine⟨?_,fun a=>⟨fun h4=>?_,fun h4=>?_⟩⟩
     ·rw[b0S]
      refine mF fun b _ d hd=>?_
      unfold scl
      by_cases e:b=r/\i.1<=d
      ·rw[eY ⟨e.1,e.2,by omega⟩,eY ⟨e.1,e.2,hd⟩]
      ·rw[dw (by omega),dw (by omega)]
     ·have ha:a.1<x.length:=by omega
      generalize hN:scl (iV m r k.1) r i.1 (wdM x) (1 / m k.1 i.1)=s at *
      have hrs:∀ d,d<wdM x->rsz (s r d)<=10000000:=fun d hd=>by
       have:=zn r hr d hd
       rw[<-hS r hr d hd,a2U] at this;exact this
      have hos:∀ b,b<x.length->b≠r->∀ d,d<wdM x->rsz (s b d)<=10000000:=fun b hb hbr d hd=>by
       rw[<-hN];unfold scl;rw[dw (by simp[hbr])];exact zs b hb d hd
      have has:∀ b,b<x.length->∀ d,d<wdM x->rsz (s b d)<=10000000:=fun b hb d hd=>by
       by_cases e:b=r
       ·rw[e];exact hrs d hd
       ·exact hos b hb e d hd
      simp only[jT ha,jT hr,gG hjC,ny,gJ,a3J]
      simp only[b7e s (aj a.1),a2U]
      have z4:=has a.1 ha i.1 hjC
      refine⟨?_,fun h5=>?_,fun h5=>?_⟩
      ·refine⟨fun h=>⟨h,h,by omega,by omega⟩,fun h=>⟨h,ha⟩,fun h=>⟨h,h,by omega,by omega⟩,fun h=>⟨h,hjC⟩,fun h=>⟨h,rfl,by show rsz (s a.1 i.1)<=_;omega⟩,fun h=>h,fun h=>by rw[h];rfl⟩
      ·have har:a.1≠r:=fun e=>by
        rw[e,show (((r:Nat):Int) != (r:Int))=false by simp] at h5;cases h5
       refine⟨⟨by omega,by omega,ha,by omega,by omega,hr,by omega,by omega,ha,by omega,by omega,hjC,fun e=>har e.symm,jJ.mpr fun q hq=>?_,rfl,fun q hq=>?_,trivial,by omega,by omega,fun q hq=>?_,by show rsz (s a.1 i.1)<=_;omega,fun q hq=>?_⟩,⟨a.1+1,by omega⟩,by simp only;omega,hw _ (by omega),?_⟩
       ·obtain⟨c,hc,rfl⟩:=AL hq;exact⟨rfl,trivial⟩
       ·obtain⟨c,hc,rfl⟩:=AL hq;rfl
       ·obtain⟨c,hc,rfl⟩:=AL hq;have:=has a.1 ha c hc;show rsz (s a.1 c)<=_;omega
       ·obtain⟨c,hc,rfl⟩:=ni.mp hq;have:=hrs c (qN.mp hc);show rsz (elm s r i.1 a.1 r c)<=_;rw[a2U];omega
       ·rw[b3p,a4w a.1]
        refine mF fun b _ d _=>?_
        rw[b0R s har]
        simp only[a2U]
        by_cases eb:b=a.1
        ·simp only[eY eb];rfl
        ·simp only[dw eb]
      ·refine⟨⟨a.1+1,by omega⟩,by simp only;omega,hw _ (by omega),?_⟩
       rw[b0Q s]
       by_cases e:a.1=r
       ·exact .inl e
       ·right
        rw[show ((a.1:Int) != (r:Int))=true from uy.mpr (fun h=>e (by omega))] at h5
        have h5:(sgn (s a.1 i.1).num != 0)=false:=h5
        exact mQ.mp (by simpa using h5)
     ·have ha:a.1=x.length:=by have:=a.2;omega
      have hl:=(TG x.length (IV x) i.1).1
      refine⟨by simp;omega,⟨i.1+1,by omega⟩,by simp only;omega,hw _ (by omega),?_,?_⟩
      ·rw[ha]
       show _=bK _ _ (rdm x (i.1+1))
       rw[e1];exact mF fun b hb d hd=>hS b hb d hd
      ·show _=dA (rdp x (i.1+1))
       rw[e2];simp[dA]
  ·have d1:decide ((k.1:Int)<(x.length:Int))=false:=jq (by omega)
   have hkl:k.1=x.length:=by omega
   have hkk:kk x i.1=x.length:=by rw[<-hkl];exact ZN _ _ _ _ _ hk1 (by omega) hk0 (fun h=>by omega)
   have hst:red x.length (IV x) (i.1+1)=red x.length (IV x) i.1:=EZ hkk
   simp only[d1,cond_false]
   refine⟨⟨fun h=>(by cases h),fun h=>(by cases h),fun h=>(by cases h),fun h=>(by cases h),fun h=>(by cases h),fun h=>(by cases h),fun h=>absurd h (by omega)⟩,fun h=>(by cases h),fun _=>⟨fun _=>⟨⟨i.1+1,by omega⟩,by simp only;omega,hw _ (by omega),?_,?_⟩,fun h=>?_⟩⟩
   ·show _=bK _ _ (red x.length (IV x) (i.1+1)).1
    rw[hst]
   ·show _=dA (red x.length (IV x) (i.1+1)).2
    rw[hst]
   ·rw[hkl] at h;simp at h
 ·have:i.1=n.toNat:=by have:=i.2;omega
  rw[this];exact⟨rfl,rfl⟩
def c5p:DF:=.chg LKm [tI] [.list tI] (fun x y=>a5R x y.1) (fun x y=>bK (show MR from x).length (wdM (show MR from x)) (rdm x (show Int from y.1).toNat)) (fun x y=>(dA (rdp x (show Int from y.1).toNat),()))
abbrev rz (x:MR) (j:Nat) (m:Mt):Rho:=[(0,.mat 32 64 tR none (bK x.length (wdM x) m) 0),(128,.row 3 tI (dA (rdp x j)) 0)]
theorem b2I:NOk Tryz.prog 105 c5p:=by
 refine a7E (((((nil0.ad a4I).ad b3O).ad a4J).ad b2C).an c3R) ⟨[9],[],[]⟩ Tryz.func105 rfl (by decide) (fun x y=>[.inv {j:Nat // j<=(show Int from y.1).toNat} (fun j=>[(13,.val tI (j.1:Int)),(5,.own 128 0)]++[(6,.any),(7,.any),(8,.any),(9,.any),(10,.any),(11,.any),(14,.any),(15,.any),(16,.any),(17,.any),(18,.any),(19,.any),(20,.any),(21,.any),(22,.any),(23,.any),(24,.any),(25,.any),(26,.any),(27,.any),(28,.any),(29,.any),(30,.any),(31,.any),(32,.any),(33,.any),(34,.any),(35,.any),(36,.any),(37,.any),(38,.any),(39,.any),(40,.any),(41,.any),(42,.any),(43,.any),(44,.any),(45,.any),(46,.any),(47,.any),(48,.any),(49,.any),(50,.any),(51,.any),(52,.any),(53,.any),(54,.any),(55,.any),(56,.any),(57,.any),(58,.any),(59,.any),(60,.any),(61,.any),(62,.any),(63,.any),(64,.any),(65,.any),(66,.any),(67,.any),(68,.any),(69,.any),(70,.any),(71,.any),(72,.any),(73,.any),(74,.any),(75,.any),(76,.any),(77,.any),(78,.any),(79,.any),(80,.any),(81,.any),(82,.any),(83,.any),(84,.any),(85,.any),(86,.any),(87,.any),(88,.any),(89,.any),(90,.any),(91,.any),(92,.any),(93,.any),(94,.any),(95,.any),(96,.any),(97,.any),(98,.any),(99,.any),(100,.any),(101,.any),(102,.any),(103,.any),(104,.any),(105,.any),(106,.any),(107,.any),(108,.any),(109,.any),(110,.any),(111,.any),(112,.any),(113,.any),(114,.any),(115,.any),(116,.any),(117,.any),(118,.any),(119,.any),(120,.any),(121,.any),(122,.any),(123,.any),(124,.any),(125,.any),(126,.any),(127,.any),(128,.any),(129,.any)]) (fun j=>rz x j.1 (rdm x j.1)) (fun j=>(show Int from y.1).toNat-j.1) ⟨0,by omega⟩ (fun j=>[
  .inv {k:Nat // (rdp x j.1).length<=k/\k<=(show MR from x).length/\∀ i,(rdp x j.1).length<=i->i<k->rdm x j.1 i j.1=0} (fun k=>[(8,.val tI (k.1:Int))]) (fun k=>rz x j.1 (rdm x j.1)) (fun k=>(show MR from x).length-k.1) ⟨(rdp x j.1).length,aj _,(iL _ _ _).le,fun i h1 h2=>absurd h2 (by omega)⟩ (fun _=>[]),
  .inv {c:Nat // j.1<=c} (fun c=>[(10,.val tI (c.1:Int))]++[(19,.any),(20,.any),(21,.any),(22,.any),(23,.any),(24,.any),(25,.any),(26,.any),(27,.any),(28,.any),(29,.any),(30,.any),(31,.any),(32,.any),(33,.any),(34,.any),(35,.any),(36,.any),(37,.any),(38,.any),(39,.any),(40,.any),(41,.any),(42,.any),(43,.any),(44,.any),(45,.any),(46,.any),(47,.any),(48,.any),(49,.any),(50,.any),(51,.any),(52,.any),(53,.any),(54,.any),(55,.any),(56,.any),(57,.any),(58,.any),(59,.any),(60,.any),(61,.any),(62,.any)]) (fun c=>rz x j.1 (scl (iV (rdm x j.1) (rdp x j.1).length (kk x j.1)) (rdp x j.1).length j.1 c.1 (1 / rdm x j.1 (kk x j.1) j.1))++[(9,.box [⟨tQ,1 / rdm x j.1 (kk x j.1) j.1⟩])]) (fun c=>wdM (show MR from x)-c.1) ⟨j.1,aj _⟩ (fun _=>[]),
  .inv {i:Nat // i<=(show MR from x).length} (fun i=>[(90,.val tI (i.1:Int))]++[(64,.any),(65,.any),(66,.any),(67,.any),(68,.any),(69,.any),(70,.any),(71,.any),(72,.any),(73,.any),(74,.any),(75,.any),(76,.any),(77,.any),(78,.any),(79,.any),(80,.any),(81,.any),(82,.any),(83,.any),(84,.any),(85,.any),(86,.any),(87,.any)]) (fun i=>rz x j.1 (elm (scl (iV (rdm x j.1) (rdp x j.1).length (kk x j.1)) (rdp x j.1).length j.1 (wdM x) (1 / rdm x j.1 (kk x j.1) j.1)) (rdp x j.1).length j.1 i.1)) (fun i=>(show MR from x).length-i.1) ⟨0,by omega⟩ (fun _=>[])])]) (fun x y hp=>?_)
 obtain⟨n,u⟩:=y
 change Int at n
 change List (List aF) at x
 refine bP ((asT Int 0=0/\(True/\asT (List Int) (aC Int)=aC Int)/\x=bK x.length (wdM x) (rdm x 0)/\(asT (List Int) (aC Int)=aC Int/\0=0/\asT Bool true=true)/\True)/\∀ (i:{ j:Nat // j<=Int.toNat n }),let A₁:=(bK x.length (wdM x) (rdm x (aB i)));let A₂:=(dA (rdp x (aB i))).length;let aV:=(rdp x (aB i)).length;let aP:=(iV (rdm x (aB i)) aV (kk x (aB i)));let A₀:=(scl aP aV (aB i) (wdM x) (1 / rdm x (aB i) (kk x (aB i)) (aB i)));let dB:=(nameAt none (aA A₂).toNat);let dO:=(aA (aB i)).toNat;asT Bool true=true/\ifB (decide (aA (aB i)<n)) ((aA A₂=aA aV/\bK x.length (wdM x) (rdm x (aB i))=bK x.length (wdM x) (rdm x (aB i))/\dA (rdp x (aB i))=dA (rdp x (aB i))/\True)/\∀ (i_1:{ k:Nat // List.length (rdp x (aB i))<=k/\k<=List.length x/\∀ (i_1:Nat),List.length (rdp x (aB i))<=i_1->i_1<k->rdm x (aB i) i_1 (aB i)=0 }),let wU:=(aA (aB i_1)).toNat;let dX:=(nameAt none wU);let iG:=(List.getD (rowAt A₁ dX) dO { ok:=false,x:=0,g:=aC Nat,h:=aC Nat });let jQ:=(some (List.set (aX none A₁) (aA A₂).toNat dX));let eH:=(List.set (aX jQ A₁) wU dB);let tH:=(rowAt A₁ (nameAt (some eH) (aA A₂).toNat));let dU:=(List.getD tH dO { ok:=false,x:=0,g:=aC Nat,h:=aC Nat });asT Bool true=true/\(((decide (aA (aB i_1)<aA (aH none A₁))==true)=true->(decide (aA (aB i_1)<aA (aH none A₁))==true)=true/\(decide (aA (aB i_1)<aA (aH none A₁))==true)=true/\0<=aA (aB i_1)/\aA (aB i_1)<aA (aH none A₁)/\True)/\((decide (aA (aB i_1)<aA (aH none A₁))==true)=true->(decide (aA (aB i_1)<aA (aH none A₁))==true)=true/\Int.toNat (aA (aB i_1))<aH none A₁/\True)/\((decide (aA (aB i_1)<aA (aH none A₁))==true)=true->(decide (aA (aB i_1)<aA (aH none A₁))==true)=true/\(decide (aA (aB i_1)<aA (aH none A₁))==true)=true/\0<=aA (aB i)/\aA (aB i)<aA (rowAt A₁ dX).length/\True)/\((decide (aA (aB i_1)<aA (aH none A₁))==true)=true->(decide (aA (aB i_1)<aA (aH none A₁))==true)=true/\Int.toNat (aA (aB i))<List.length (rowAt A₁ dX)/\True)/\((decide (aA (aB i_1)<aA (aH none A₁))==true)=true->(decide (aA (aB i_1)<aA (aH none A₁))==true)=true/\aF.ok iG=true/\rsz (aF.x iG)<=1000000000/\True)/\((decide (aA (aB i_1)<aA (aH none A₁))==true)=true->(decide (aA (aB i_1)<aA (aH none A₁))==true)=true/\True)/\(decide (aA (aB i_1)<aA (aH none A₁))=true->(decide (aA (aB i_1)<aA (aH none A₁))==true)=true)/\True)/\ifB (bif decide (aA (aB i_1)<aA (aH none A₁)) then sgn (Rat.num (aF.x iG))==0 else false) (∃ (i':{ k:Nat // List.length (rdp x (aB i))<=k/\k<=List.length x/\∀ (i_2:Nat),List.length (rdp x (aB i))<=i_2->i_2<k->rdm x (aB i) i_2 (aB i)=0 }),List.length x-aB i'<List.length x-aB i_1/\IntKind.wrap IntKind.i64 (aA (aB i_1)+1)=aA (aB i')/\bK x.length (wdM x) (rdm x (aB i))=bK x.length (wdM x) (rdm x (aB i))/\dA (rdp x (aB i))=dA (rdp x (aB i))/\True) (ifB (aA (aB i_1)==aA (aH none A₁)) (∃ (i':{ j:Nat // j<=Int.toNat n }),Int.toNat n-aB i'<Int.toNat n-aB i/\IntKind.wrap IntKind.i64 (aA (aB i)+1)=aA (aB i')/\bK x.length (wdM x) (rdm x (aB i))=bK x.length (wdM x) (rdm x (aB i'))/\dA (rdp x (aB i))=dA (rdp x (aB i'))/\True) ((0<=aA (aB i_1)/\aA (aB i_1)<aA (aH none A₁)/\Int.toNat (aA (aB i_1))<aH none A₁/\0<=aA A₂/\aA A₂<aA (aH none A₁)/\Int.toNat (aA A₂)<aH none A₁/\0<=aA A₂/\aA A₂<aA (aH none A₁)/\Int.toNat (aA A₂)<aH none A₁/\0<=aA (aB i_1)/\aA (aB i_1)<aA (aH jQ A₁)/\Int.toNat (aA (aB i_1))<aH jQ A₁/\True)/\(gZ 1/\0<=aA A₂/\aA A₂<aA (aH (some eH) A₁)/\Int.toNat (aA A₂)<aH (some eH) A₁/\0<=aA (aB i)/\aA (aB i)<aA tH.length/\Int.toNat (aA (aB i))<List.length tH/\aF.ok dU=true/\(rsz (dD 1)<=400000000/\rsz (aF.x dU)<=400000000/\aF.x dU≠0)/\True)/\(aA (aB i)=aA (aB i)/\List.Nodup eH/\List.map (fun(i_2:Nat)=>List.getD A₁ i_2 (aC aF)) eH=bK x.length (wdM x) (scl aP aV (aB i) (aB i) (1 / rdm x (aB i) (kk x (aB i)) (aB i)))/\dA (rdp x (aB i))=dA (rdp x (aB i))/\dD 1 / aF.x dU=1 / rdm x (aB i) (kk x (aB i)) (aB i)/\True)/\∀ (i_2:{ c:Nat // aB i<=c }),let CY:=(scl aP aV (aB i) (aB i_2) (1 / rdm x (aB i) (kk x (aB i)) (aB i)));let iO:=(bK x.length (wdM x) CY);let CZ:=(rowAt iO dB).length;let lM:=(aA (aB i_2)).toNat;let yC:=(List.getD (rowAt iO dB) lM { ok:=false,x:=0,g:=aC Nat,h:=aC Nat });asT Bool true=true/\(0<=aA A₂/\aA A₂<aA (aH none iO)/\Int.toNat (aA A₂)<aH none iO/\True)/\ifB (decide (aA (aB i_2)<aA CZ)) ((0<=aA A₂/\aA A₂<aA (aH none iO)/\Int.toNat (aA A₂)<aH none iO/\0<=aA A₂/\aA A₂<aA (aH none iO)/\Int.toNat (aA A₂)<aH none iO/\0<=aA (aB i_2)/\aA (aB i_2)<aA CZ/\Int.toNat (aA (aB i_2))<List.length (rowAt iO dB)/\aF.ok yC=true/\s44 (1 / rdm x (aB i) (kk x (aB i)) (aB i)) (aF.x yC)/\0<=aA (aB i_2)/\aA (aB i_2)<aA CZ/\Int.toNat (aA (aB i_2))<List.length (rowAt iO dB)/\True)/\∃ (i':{ c:Nat // aB i<=c }),wdM x-aB i'<wdM x-aB i_2/\IntKind.wrap IntKind.i64 (aA (aB i_2)+1)=aA (aB i')/\List.set iO dB (List.set (rowAt iO dB) lM (dS (1 / rdm x (aB i) (kk x (aB i)) (aB i)*aF.x yC)))=bK x.length (wdM x) (scl aP aV (aB i) (aB i') (1 / rdm x (aB i) (kk x (aB i)) (aB i)))/\dA (rdp x (aB i))=dA (rdp x (aB i))/\1 / rdm x (aB i) (kk x (aB i)) (aB i)=1 / rdm x (aB i) (kk x (aB i)) (aB i)/\True) ((asT Int 0=0/\bK x.length (wdM x) CY=bK x.length (wdM x) (elm A₀ aV (aB i) 0)/\dA (rdp x (aB i))=dA (rdp x (aB i))/\True)/\∀ (i_3:{ i:Nat // i<=List.length x }),let yD:=(elm A₀ aV (aB i) (aB i_3));let jF:=(bK x.length (wdM x) yD);let C₃:=(List.map (fun(x:Ty.den (Ty.lf Lf.aU))=>aF.x x) (rowAt jF dB));let jD:=(aA (aB i_3)).toNat;let C₂:=(nameAt none jD);let jR:=(rowAt jF C₂);let C₁:=(List.getD jR dO { ok:=false,x:=0,g:=aC Nat,h:=aC Nat });asT Bool true=true/\ifB (decide (aA (aB i_3)<aA (aH none iO))) (((((aA (aB i_3) != aA A₂)==true)=true->((aA (aB i_3) != aA A₂)==true)=true/\((aA (aB i_3) != aA A₂)==true)=true/\0<=aA (aB i_3)/\aA (aB i_3)<aA (aH none jF)/\True)/\(((aA (aB i_3) != aA A₂)==true)=true->((aA (aB i_3) != aA A₂)==true)=true/\Int.toNat (aA (aB i_3))<aH none jF/\True)/\(((aA (aB i_3) != aA A₂)==true)=true->((aA (aB i_3) != aA A₂)==true)=true/\((aA (aB i_3) != aA A₂)==true)=true/\0<=aA (aB i)/\aA (aB i)<aA jR.length/\True)/\(((aA (aB i_3) != aA A₂)==true)=true->((aA (aB i_3) != aA A₂)==true)=true/\Int.toNat (aA (aB i))<List.length jR/\True)/\(((aA (aB i_3) != aA A₂)==true)=true->((aA (aB i_3) != aA A₂)==true)=true/\aF.ok C₁=true/\rsz (aF.x C₁)<=1000000000/\True)/\(((aA (aB i_3) != aA A₂)==true)=true->((aA (aB i_3) != aA A₂)==true)=true/\True)/\((aA (aB i_3) != aA A₂)=true->((aA (aB i_3) != aA A₂)==true)=true)/\True)/\ifB (bif aA (aB i_3) != aA A₂ then sgn (Rat.num (aF.x C₁)) != 0 else false) ((0<=aA (aB i_3)/\aA (aB i_3)<aA (aH none jF)/\Int.toNat (aA (aB i_3))<aH none jF/\0<=aA A₂/\aA A₂<aA (aH none jF)/\Int.toNat (aA A₂)<aH none jF/\0<=aA (aB i_3)/\aA (aB i_3)<aA (aH none jF)/\Int.toNat (aA (aB i_3))<aH none jF/\0<=aA (aB i)/\aA (aB i)<aA jR.length/\Int.toNat (aA (aB i))<List.length jR/\nameAt none (aA A₂).toNat≠nameAt none jD/\bY (fun(x:Ty.den (Ty.lf Lf.aU))=>aW ((aF.ok x=true)::aC Prop)) (rowAt jF dB)/\aF.ok C₁=true/\((∀ (q:aF),q ∈ rowAt jF C₂->q=dS (aF.x q))/\List.length jR=List.length C₃/\List.length jR<=1000/\0<=aA (aB i)/\(∀ (q:aF),q ∈ rowAt jF C₂->rsz (aF.x q)<=400000000)/\rsz (aF.x C₁)<=100000000/\∀ (q:Rat),q ∈ List.map (fun(x:Ty.den (Ty.lf Lf.aU))=>aF.x x) (rowAt jF dB)->rsz q<=100000000)/\True)/\∃ (i':{ i:Nat // i<=List.length x }),List.length x-aB i'<List.length x-aB i_3/\IntKind.wrap IntKind.i64 (aA (aB i_3)+1)=aA (aB i')/\List.set jF C₂ (rP jR C₃ (aF.x C₁) dO jR.length)=bK x.length (wdM x) (elm A₀ aV (aB i) (aB i'))/\dA (rdp x (aB i))=dA (rdp x (aB i))/\True) (∃ (i':{ i:Nat // i<=List.length x }),List.length x-aB i'<List.length x-aB i_3/\IntKind.wrap IntKind.i64 (aA (aB i_3)+1)=aA (aB i')/\bK x.length (wdM x) yD=bK x.length (wdM x) (elm A₀ aV (aB i) (aB i'))/\dA (rdp x (aB i))=dA (rdp x (aB i))/\True)) ((List.length (dA (rdp x (aB i)))+List.length (aA (aB i)::aC Int)<=1000000000/\True)/\∃ (i':{ j:Nat // j<=Int.toNat n }),Int.toNat n-aB i'<Int.toNat n-aB i/\IntKind.wrap IntKind.i64 (aA (aB i)+1)=aA (aB i')/\bK x.length (wdM x) yD=bK x.length (wdM x) (rdm x (aB i'))/\dA (rdp x (aB i))++aA (aB i)::aC Int=dA (rdp x (aB i'))/\True))))) (True/\dA (rdp x (aB i))=dA (rdp x n.toNat)/\bK x.length (wdM x) (rdm x n.toNat)=bK x.length (wdM x) (rdm x (aB i)))) (by kernel_rfl) ?_
 exact b8g x n hp
abbrev TUn:List Ty:=[]
def a9n (c:(nest TUn).den) (i j:Int):Prop:=0<=i/\0<=j
def gUn (c:(nest TUn).den) (i j:Nat):Rat:=idm i j
theorem GK:aY Tryz.prog 92 (a0Y TUn a9n gUn):=by
 refine lX (nil0.ad a4I) [4] Tryz.func92 rfl (by decide) (fun x=>[]) (fun x hp=>?_)
 obtain⟨i,j,c⟩:=x
 change Int at i
 change Int at j
 have hu:c=():=rfl
 refine bP (ifB (i==j) ((gZ 1/\True)/\True/\dD 1=gUn c i.toNat j.toNat/\True) ((gZ 0/\True)/\True/\dD 0=gUn c i.toNat j.toNat/\True)) (by kernel_rfl) ?_
 try dsimp only[aA,asT,aB,aC] at *
 have h1:0<=i/\0<=j:=hp
 refine aJ.mpr ⟨fun h=>⟨⟨by unfold gZ;omega,trivial⟩,trivial,?_,trivial⟩,fun h=>⟨⟨by unfold gZ;omega,trivial⟩,trivial,?_,trivial⟩⟩
 ·have h:i=j:=by simpa using h
  show ((1:Int):Rat)=if i.toNat=j.toNat then 1 else 0
  rw[eY (by rw[h])];rfl
 ·have h:i≠j:=by simpa using h
  show ((0:Int):Rat)=if i.toNat=j.toNat then 1 else 0
  rw[dw (by omega)];rfl
abbrev TAd:List Ty:=[.ref tM,.ref tM]
def b5e (c:(nest TAd).den) (i j:Int):Prop:=(0<=i/\i.toNat<(show MQ from c.1).length/\i.toNat<(show MQ from c.2.1).length/\0<=j/\j.toNat<((show MQ from c.1).getD i.toNat []).length/\j.toNat<((show MQ from c.2.1).getD i.toNat []).length)/\s44 (ent c.1 i.toNat j.toNat) (ent c.2.1 i.toNat j.toNat)
def gAd (c:(nest TAd).den) (i j:Nat):Rat:=ent c.1 i j+ent c.2.1 i j
theorem ZC:aY Tryz.prog 114 (a0Y TAd b5e gAd):=by
 refine lX (nil0.ad b6K) [6] Tryz.func114 rfl (by decide) (fun x=>[]) (fun x hp=>?_)
 obtain⟨i,j,c⟩:=x
 change Int at i
 change Int at j
 obtain⟨a,b,u⟩:=c
 change List (List Rat) at a
 change List (List Rat) at b
 refine bP ((0<=i/\i<aA a.length/\0<=j/\j<aA (List.getD a i.toNat (aC Rat)).length/\0<=i/\i<aA b.length/\0<=j/\j<aA (List.getD b i.toNat (aC Rat)).length/\s44 (List.getD (List.getD a i.toNat (aC Rat)) j.toNat 0) (List.getD (List.getD b i.toNat (aC Rat)) j.toNat 0)/\True)/\True/\List.getD (List.getD a i.toNat (aC Rat)) j.toNat 0+List.getD (List.getD b i.toNat (aC Rat)) j.toNat 0=gAd (a,b,u) i.toNat j.toNat/\True) (by kernel_rfl) ?_
 try dsimp only[aA,asT,aB,aC] at *
 have h1:(0<=i/\i.toNat<a.length/\i.toNat<b.length/\0<=j/\j.toNat<(a.getD i.toNat []).length/\j.toNat<(b.getD i.toNat []).length)/\s44 (ent a i.toNat j.toNat) (ent b i.toNat j.toNat):=hp
 obtain⟨⟨k1,k2,k3,k4,k5,k6⟩,k7⟩:=h1
 exact⟨⟨k1,by omega,k4,by omega,k1,by omega,k4,by omega,k7,trivial⟩,trivial,rfl,trivial⟩
abbrev TSb:List Ty:=[.ref tM,.ref tM]
def b5k (c:(nest TSb).den) (i j:Int):Prop:=(0<=i/\i.toNat<(show MQ from c.1).length/\i.toNat<(show MQ from c.2.1).length/\0<=j/\j.toNat<((show MQ from c.1).getD i.toNat []).length/\j.toNat<((show MQ from c.2.1).getD i.toNat []).length)/\s44 (ent c.1 i.toNat j.toNat) (ent c.2.1 i.toNat j.toNat)
def gSb (c:(nest TSb).den) (i j:Nat):Rat:=ent c.1 i j-ent c.2.1 i j
theorem ZJ:aY Tryz.prog 144 (a0Y TSb b5k gSb):=by
 refine lX (nil0.ad b6L) [6] Tryz.func144 rfl (by decide) (fun x=>[]) (fun x hp=>?_)
 obtain⟨i,j,c⟩:=x
 change Int at i
 change Int at j
 obtain⟨a,b,u⟩:=c
 change List (List Rat) at a
 change List (List Rat) at b
 refine bP ((0<=i/\i<aA a.length/\0<=j/\j<aA (List.getD a i.toNat (aC Rat)).length/\0<=i/\i<aA b.length/\0<=j/\j<aA (List.getD b i.toNat (aC Rat)).length/\s44 (List.getD (List.getD a i.toNat (aC Rat)) j.toNat 0) (List.getD (List.getD b i.toNat (aC Rat)) j.toNat 0)/\True)/\True/\List.getD (List.getD a i.toNat (aC Rat)) j.toNat 0-List.getD (List.getD b i.toNat (aC Rat)) j.toNat 0=gSb (a,b,u) i.toNat j.toNat/\True) (by kernel_rfl) ?_
 try dsimp only[aA,asT,aB,aC] at *
 have h1:(0<=i/\i.toNat<a.length/\i.toNat<b.length/\0<=j/\j.toNat<(a.getD i.toNat []).length/\j.toNat<(b.getD i.toNat []).length)/\s44 (ent a i.toNat j.toNat) (ent b i.toNat j.toNat):=hp
 obtain⟨⟨k1,k2,k3,k4,k5,k6⟩,k7⟩:=h1
 exact⟨⟨k1,by omega,k4,by omega,k1,by omega,k4,by omega,k7,trivial⟩,trivial,rfl,trivial⟩
abbrev TBe:List Ty:=[.ref tM,.ref tM]
def b5f (c:(nest TBe).den) (i j:Int):Prop:=0<=i/\i.toNat<(show MQ from c.1).length/\i.toNat<(show MQ from c.2.1).length/\0<=j/\(show MQ from c.1).length<=1000/\((show MQ from c.1).getD i.toNat []).length=wdM (show MQ from c.1)/\j.toNat<wdM (show MQ from c.1)+((show MQ from c.2.1).getD i.toNat []).length/\j<=1000
def gBe (c:(nest TBe).den) (i j:Nat):Rat:=gV (wdM (show MQ from c.1)) (ent c.1) (ent c.2.1) i j
theorem ZE:aY Tryz.prog 146 (a0Y TBe b5f gBe):=by
 refine lX nil0 [6] Tryz.func146 rfl (by decide) (fun x=>[]) (fun x hp=>?_)
 obtain⟨i,j,c⟩:=x
 change Int at i
 change Int at j
 obtain⟨a,b,u⟩:=c
 change List (List Rat) at a
 change List (List Rat) at b
 refine bP ((asT Int 0<=0/\0<aA a.length/\True)/\ifB (decide (j<aA (List.getD a 0 (aC Rat)).length)) ((0<=i/\i<aA a.length/\0<=j/\j<aA (List.getD a i.toNat (aC Rat)).length/\True)/\True/\List.getD (List.getD a i.toNat (aC Rat)) j.toNat 0=gBe (a,b,u) i.toNat j.toNat/\True) ((0<=i/\i<aA b.length/\asT Int 0<=0/\0<aA a.length/\0<=IntKind.wrap IntKind.i64 (j-aA (List.getD a 0 (aC Rat)).length)/\IntKind.wrap IntKind.i64 (j-aA (List.getD a 0 (aC Rat)).length)<aA (List.getD b i.toNat (aC Rat)).length/\True)/\True/\List.getD (List.getD b i.toNat (aC Rat)) (IntKind.wrap IntKind.i64 (j-aA (List.getD a 0 (aC Rat)).length)).toNat 0=gBe (a,b,u) i.toNat j.toNat/\True)) (by kernel_rfl) ?_
 try dsimp only[aA,asT,aB,aC] at *
 have h1:0<=i/\i.toNat<a.length/\i.toNat<b.length/\0<=j/\a.length<=1000/\(a.getD i.toNat []).length=wdM a/\j.toNat<wdM a+(b.getD i.toNat []).length/\j<=1000:=hp
 obtain⟨k1,k2,k3,k4,k5,k6,k7,k8⟩:=h1
 have hw:(a.getD 0 []).length=wdM a:=rfl
 rw[hw]
 refine⟨⟨qh 0,by omega,trivial⟩,aJ.mpr ⟨fun h=>?_,fun h=>?_⟩⟩
 ·have h:j<(wdM a:Int):=oz h
  refine⟨⟨k1,by omega,k4,by rw[k6];exact h,trivial⟩,trivial,?_,trivial⟩
  show ent a i.toNat j.toNat=if j.toNat<wdM a then _ else _
  rw[eY (by omega)]
 ·have h:¬ j<(wdM a:Int):=zy h
  have e:IntKind.wrap .i64 (j-(wdM a:Int))=j-(wdM a:Int):=bF (by omega) (by omega)
  rw[e]
  refine⟨⟨k1,by omega,qh 0,by omega,by omega,by omega,trivial⟩,trivial,?_,trivial⟩
  show ent b i.toNat (j-(wdM a:Int)).toNat=if j.toNat<wdM a then _ else _
  rw[dw (by omega),show (j-(wdM a:Int)).toNat=j.toNat-wdM a by omega]
abbrev TIn:List Ty:=[.ref tMR,.ref tI]
def b5i (c:(nest TIn).den) (i j:Int):Prop:=0<=i/\i.toNat<(show MR from c.1).length/\0<=j/\j<=1000/\0<=(show Int from c.2.1)/\(show Int from c.2.1)<=1000/\(show Int from c.2.1).toNat+j.toNat<((show MR from c.1).getD i.toNat []).length/\(((show MR from c.1).getD i.toNat []).getD ((show Int from c.2.1).toNat+j.toNat) bV).ok=true
def gIn (c:(nest TIn).den) (i j:Nat):Rat:=IV c.1 i ((show Int from c.2.1).toNat+j)
theorem ZH:aY Tryz.prog 117 (a0Y TIn b5i gIn):=by
 refine lX nil0 [6] Tryz.func117 rfl (by decide) (fun x=>[]) (fun x hp=>?_)
 obtain⟨i,j,c⟩:=x
 change Int at i
 change Int at j
 obtain⟨a,n,u⟩:=c
 change List (List aF) at a
 change Int at n
 refine bP (let A₁:=(List.getD a i.toNat (aC aF));let A₀:=(List.getD A₁ (IntKind.wrap IntKind.i64 (n+j)).toNat { ok:=false,x:=0,g:=aC Nat,h:=aC Nat });(0<=i/\i<aA a.length/\0<=IntKind.wrap IntKind.i64 (n+j)/\IntKind.wrap IntKind.i64 (n+j)<aA A₁.length/\True)/\(aF.ok A₀=true/\True)/\aF.x A₀=gIn (a,n,u) i.toNat j.toNat/\True) (by kernel_rfl) ?_
 try dsimp only[aA,asT,aB,aC] at *
 have h1:0<=i/\i.toNat<a.length/\0<=j/\j<=1000/\0<=n/\n<=1000/\n.toNat+j.toNat<(a.getD i.toNat []).length/\((a.getD i.toNat []).getD (n.toNat+j.toNat) bV).ok=true:=hp
 obtain⟨k1,k2,k3,k4,k5,k6,k7,k8⟩:=h1
 have e:IntKind.wrap .i64 (n+j)=n+j:=bF (by omega) (by omega)
 have e2:(n+j).toNat=n.toNat+j.toNat:=by omega
 rw[e,e2]
 exact⟨⟨k1,by omega,by omega,by omega,trivial⟩,⟨k8,trivial⟩,rfl,trivial⟩
abbrev TCl:List Ty:=[.ref (.list tQ)]
def b5g (c:(nest TCl).den) (i j:Int):Prop:=0<=i/\i.toNat<(show LQ' from c.1).length
def gCl (c:(nest TCl).den) (i j:Nat):Rat:=lv c.1 i
theorem ZF:aY Tryz.prog 147 (a0Y TCl b5g gCl):=by
 refine lX nil0 [5] Tryz.func147 rfl (by decide) (fun x=>[]) (fun x hp=>?_)
 obtain⟨i,j,c⟩:=x
 change Int at i
 change Int at j
 obtain⟨a,u⟩:=c
 change List Rat at a
 refine bP ((0<=i/\i<aA a.length/\True)/\True/\List.getD a i.toNat 0=gCl (a,u) i.toNat j.toNat/\True) (by kernel_rfl) ?_
 try dsimp only[aA,asT,aB,aC] at *
 have h1:0<=i/\i.toNat<a.length:=hp
 exact⟨⟨h1.1,by omega,trivial⟩,trivial,rfl,trivial⟩
theorem yV:NOk Tryz.prog 110 (MV 92 TUn a9n gUn):=by
 refine sK ((((nil0.an kF).an kH).an kG).ad GK) ⟨[],[],[(11,tR)]⟩ Bh rfl (by decide) (fun x=>vF x.1 x.2.1 (gUn x.2.2.1)) (fun x hp=>?_)
 obtain⟨m,n,c,u⟩:=x
 obtain⟨R,C,hR,hC,r2,c2,hP⟩:=hp
 change m=(R:Int) at hR
 change n=(C:Int) at hC
 subst hR hC
 refine bP (wH R C (gUn c) (a9n c) (fun y=>bK R C (gUn c)=y)) (by kernel_rfl) ?_
 exact oH r2 c2 hP rfl
theorem yQ:NOk Tryz.prog 110 (MV 114 TAd b5e gAd):=by
 refine sK ((((nil0.an kF).an kH).an kG).ad ZC) ⟨[],[],[(11,tR)]⟩ Bh rfl (by decide) (fun x=>vF x.1 x.2.1 (gAd x.2.2.1)) (fun x hp=>?_)
 obtain⟨m,n,c,u⟩:=x
 obtain⟨R,C,hR,hC,r2,c2,hP⟩:=hp
 change m=(R:Int) at hR
 change n=(C:Int) at hC
 subst hR hC
 refine bP (wH R C (gAd c) (b5e c) (fun y=>bK R C (gAd c)=y)) (by kernel_rfl) ?_
 exact oH r2 c2 hP rfl
theorem yU:NOk Tryz.prog 110 (MV 144 TSb b5k gSb):=by
 refine sK ((((nil0.an kF).an kH).an kG).ad ZJ) ⟨[],[],[(11,tR)]⟩ Bh rfl (by decide) (fun x=>vF x.1 x.2.1 (gSb x.2.2.1)) (fun x hp=>?_)
 obtain⟨m,n,c,u⟩:=x
 obtain⟨R,C,hR,hC,r2,c2,hP⟩:=hp
 change m=(R:Int) at hR
 change n=(C:Int) at hC
 subst hR hC
 refine bP (wH R C (gSb c) (b5k c) (fun y=>bK R C (gSb c)=y)) (by kernel_rfl) ?_
 exact oH r2 c2 hP rfl
theorem yR:NOk Tryz.prog 110 (MV 146 TBe b5f gBe):=by
 refine sK ((((nil0.an kF).an kH).an kG).ad ZE) ⟨[],[],[(11,tR)]⟩ Bh rfl (by decide) (fun x=>vF x.1 x.2.1 (gBe x.2.2.1)) (fun x hp=>?_)
 obtain⟨m,n,c,u⟩:=x
 obtain⟨R,C,hR,hC,r2,c2,hP⟩:=hp
 change m=(R:Int) at hR
 change n=(C:Int) at hC
 subst hR hC
 refine bP (wH R C (gBe c) (b5f c) (fun y=>bK R C (gBe c)=y)) (by kernel_rfl) ?_
 exact oH r2 c2 hP rfl
theorem yT:NOk Tryz.prog 110 (MV 117 TIn b5i gIn):=by
 refine sK ((((nil0.an kF).an kH).an kG).ad ZH) ⟨[],[],[(11,tR)]⟩ Bh rfl (by decide) (fun x=>vF x.1 x.2.1 (gIn x.2.2.1)) (fun x hp=>?_)
 obtain⟨m,n,c,u⟩:=x
 obtain⟨R,C,hR,hC,r2,c2,hP⟩:=hp
 change m=(R:Int) at hR
 change n=(C:Int) at hC
 subst hR hC
 refine bP (wH R C (gIn c) (b5i c) (fun y=>bK R C (gIn c)=y)) (by kernel_rfl) ?_
 exact oH r2 c2 hP rfl
theorem yS:NOk Tryz.prog 110 (MV 147 TCl b5g gCl):=by
 refine sK ((((nil0.an kF).an kH).an kG).ad ZF) ⟨[],[],[(11,tR)]⟩ Bh rfl (by decide) (fun x=>vF x.1 x.2.1 (gCl x.2.2.1)) (fun x hp=>?_)
 obtain⟨m,n,c,u⟩:=x
 obtain⟨R,C,hR,hC,r2,c2,hP⟩:=hp
 change m=(R:Int) at hR
 change n=(C:Int) at hC
 subst hR hC
 refine bP (wH R C (gCl c) (b5g c) (fun y=>bK R C (gCl c)=y)) (by kernel_rfl) ?_
 exact oH r2 c2 hP rfl
end Go.Proofs.YtgplhbhfdgempaaGreat
