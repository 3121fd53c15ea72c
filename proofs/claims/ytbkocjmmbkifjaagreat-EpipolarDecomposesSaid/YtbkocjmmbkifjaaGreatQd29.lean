/-
  Lemmas for the theorem vdecomposes28_holds, part 29 of 34.
-/
import Derived.Test.YtbkocjmmbkifjaaGreatQd28
namespace Go.Proofs.YtbkocjmmbkifjaaGreat
open Go Go.RowKit
set_option maxRecDepth 100000
set_option maxHeartbeats 4000000
set_option linter.unusedVariables false
set_option linter.unusedSimpArgs false
abbrev QcV:Type:=a8c × Int × Unit
def okB (n:Int):Bool:=decide (-1048576<=n/\n<=1048576)
def ok4 (X:Nat->Int):Bool:=(List.range 4).all fun j=>okB (prN X 4 j)
def iH (X:Nat->Int):QcV:=if ok4 X=true then ((prN X 4 0,prN X 4 1,prN X 4 2,prN X 4 3,()),0,()) else ((0,0,0,0,()),3,())
theorem PO {X:Nat->Int}:ok4 X=true↔∀ j,j<4->okB (prN X 4 j)=true:=by unfold ok4;rw[qg];simp
theorem bad_eq (q:Int):(bif (bif !bH q then true else decide (aK q < -1048576)) then true else decide (aK q > 1048576))=!okB q:=by
 unfold okB
 by_cases h:-1048576<=q/\q<=1048576
 ·have e1:bH q=true:=by unfold bH;rw[gy];omega
  have e2:aK q=q:=by unfold aK;rw[iw (by omega)]
  have a1:decide (q < -1048576)=false:=je (by omega)
  have a2:decide (q > 1048576)=false:=je (by omega)
  rw[e1,e2,a1,a2,jf h];rfl
 ·by_cases hs:bH q=true
  ·have hs':=hs
   unfold bH at hs'
   rw[gy] at hs'
   have e2:aK q=q:=by unfold aK;rw[iw hs']
   have h3:q < -1048576\/q > 1048576:=by omega
   rw[hs,e2,je h]
   rcases h3 with h3|h3
   ·rw[jf h3];rfl
   ·rw[jf h3];cases decide (q < -1048576)<;>rfl
  ·have hs:=Aq _ |>.mp hs
   rw[hs,je h];rfl
theorem uO {q:Int} (h:okB q=true):aK q=q:=by
 unfold okB at h
 rw[gy] at h
 unfold aK
 rw[iw (by omega)]
theorem UA {X Y:Nat->Int} (h:∀ k,k<4->X k=Y k):iH X=iH Y:=by
 have hn:∀ k,k<4->prN X 4 k=prN Y 4 k:=fun k hk=>b0W (n:=4) (j:=k) (xs:=Y) (ys:=X) (fun j hj=>h j hj) hk
 have ho:ok4 X=ok4 Y:=by
  unfold ok4
  simp[oh,hn 0,hn 1,hn 2,hn 3]
 unfold iH
 rw[ho,hn 0 (by omega),hn 1 (by omega),hn 2 (by omega),hn 3 (by omega)]
noncomputable def c5B:Ctr:=⟨[.arr 4 tZ],[BP,tI],fun x=>(show List Int from x.1).length=4/\(∀ j,j<4->isz ((show List Int from x.1).getD j 0)<=400000000)/\∃ j,j<4/\(show List Int from x.1).getD j 0≠0,fun x=>iH (fun j=>(show List Int from x.1).getD j 0)⟩
theorem b4J:aH Tryz.prog 258 c5B:=by
 refine aI (((((nil0.ad AA).ad uN).ad oV).ad c1z).ad zY) ⟨[2,4,5,7,8,10,11,12],[],[]⟩ Tryz.func258 rfl (by decide) (fun x=>[.inv {k:Nat // k<=4} (fun k=>[(17,.val tI (k.1:Int))]) (fun k=>[(2,.box [⟨tI,(0:Int)⟩,⟨tI,(0:Int)⟩,⟨tI,(0:Int)⟩,⟨tI,(0:Int)⟩]),(4,.box [⟨tZ,gsq (fun j=>(show List Int from x.1).getD j 0) k.1⟩]),(5,.box [⟨tZ,fsq (fun j=>(show List Int from x.1).getD j 0) k.1⟩])]) (fun k=>4-k.1) ⟨0,by omega⟩ (fun _=>[]),.turns 5 [34] [2,4,5,8] []]) (fun x hp=>?_)
 obtain⟨l,u⟩:=x
 change List Int at l
 refine aO (let A₀:=(fun(j:Nat)=>List.getD l j 0);let A₂:=(iH fun(j:Nat)=>List.getD l j 0);let A₁:=(True/\(0,0,0,0,())=Prod.fst A₂/\True/\3=Prod.fst A₂.2/\True);let aN:=(asT Int 0<=0/\asT Int 0<4/\True);let aU:=(asT Int 0<=1/\asT Int 1<4/\True);let aX:=(asT Int 0<=2/\asT Int 2<4/\True);let bJ:=(asT Int 0<=3/\asT Int 3<4/\True);(asT Int 0=0/\asT Int 0=0/\asT Int 0=0/\asT Int 0=0/\asT Int 0=0/\0=gsq A₀ 0/\0=fsq A₀ 0/\True)/\∀ (i:{ k:Nat // k<=4 }),let dA:=(Int.fdiv (List.getD l 0 0) (-gsq A₀ (aA i)));let dF:=(Int.fdiv (List.getD l 0 0) (gsq A₀ (aA i)));let dL:=(Int.fdiv (List.getD l 1 0) (-gsq A₀ (aA i)));let dP:=(Int.fdiv (List.getD l 1 0) (gsq A₀ (aA i)));let fO:=(Int.fdiv (List.getD l 2 0) (-gsq A₀ (aA i)));let jA:=(Int.fdiv (List.getD l 2 0) (gsq A₀ (aA i)));let gK:=(Int.fdiv (List.getD l 3 0) (-gsq A₀ (aA i)));let gB:=(Int.fdiv (List.getD l 3 0) (gsq A₀ (aA i)));let kW:=(bif !bH dA then true else decide (aK dA < -1048576));let qA:=(bif !bH dL then true else decide (aK dL < -1048576));let wC:=(bif !bH fO then true else decide (aK fO < -1048576));let vG:=(bif !bH gK then true else decide (aK gK < -1048576));let FC:=(bif !bH dF then true else decide (aK dF < -1048576));let FD:=(bif !bH dP then true else decide (aK dP < -1048576));let C₁:=(bif !bH jA then true else decide (aK jA < -1048576));let C₂:=(bif !bH gB then true else decide (aK gB < -1048576));let C₃:=(List.getD l (aB (aA i)).toNat 0);let zC:=((!bH dA)==false);let EF:=((!bH dL)==false);let zA:=((!bH fO)==false);let OB:=((!bH gK)==false);let OC:=((!bH dF)==false);let ZA:=((!bH dP)==false);let rM:=((!bH jA)==false);let D₁:=((!bH gB)==false);let D₂:=(Int.gcd (gsq A₀ (aA i)) C₃);asT Bool true=true/\ifB (decide (aB (aA i)<4)) ((0<=aB (aA i)/\aB (aA i)<4/\True)/\((isz (gsq A₀ (aA i))<=1000000000/\isz C₃<=1000000000)/\True)/\(True/\True)/\ifB (Int.sign (fsq A₀ (aA i))==0) (∃ (i':{ k:Nat // k<=4 }),4-aA i'<4-aA i/\IntKind.wrap IntKind.i64 (aB (aA i)+1)=aB (aA i')/\asT Int 0=0/\asT Int 0=0/\asT Int 0=0/\asT Int 0=0/\aB D₂=gsq A₀ (aA i')/\List.getD l (aB (aA i)).toNat 0=fsq A₀ (aA i')/\True) (∃ (i':{ k:Nat // k<=4 }),4-aA i'<4-aA i/\IntKind.wrap IntKind.i64 (aB (aA i)+1)=aB (aA i')/\asT Int 0=0/\asT Int 0=0/\asT Int 0=0/\asT Int 0=0/\aB D₂=gsq A₀ (aA i')/\fsq A₀ (aA i)=fsq A₀ (aA i')/\True)) ((True/\True)/\ifB (decide (Int.sign (fsq A₀ (aA i))<0)) ((isz (gsq A₀ (aA i))<=1000000000/\True)/\aN/\((isz (List.getD l 0 0)<=1000000000/\isz (-gsq A₀ (aA i))<=1000000000/\-gsq A₀ (aA i)≠0)/\True)/\(True/\True)/\((zC=true->zC=true/\True)/\((!bH dA)=false->zC=true)/\((kW==false)=true->(kW==false)=true/\True)/\(kW=false->(kW==false)=true)/\True)/\ifB (bif bif !bH dA then true else decide (aK dA < -1048576) then true else decide (aK dA > 1048576)) A₁ ((asT Int 0=0/\asT Int 0=0/\asT Int 0=0/\asT Int 0=0/\-gsq A₀ (aA i)=-gsq A₀ (aA i)/\fsq A₀ (aA i)=fsq A₀ (aA i)/\aK dA=aK dA/\asT Int 0=0/\asT Int 0=0/\asT Int 0=0/\True)/\asT Bool true=true/\aU/\((isz (List.getD l 1 0)<=1000000000/\isz (-gsq A₀ (aA i))<=1000000000/\-gsq A₀ (aA i)≠0)/\True)/\(True/\True)/\((EF=true->EF=true/\True)/\((!bH dL)=false->EF=true)/\((qA==false)=true->(qA==false)=true/\True)/\(qA=false->(qA==false)=true)/\True)/\ifB (bif bif !bH dL then true else decide (aK dL < -1048576) then true else decide (aK dL > 1048576)) A₁ ((asT Int 0=0/\asT Int 0=0/\asT Int 0=0/\asT Int 0=0/\-gsq A₀ (aA i)=-gsq A₀ (aA i)/\fsq A₀ (aA i)=fsq A₀ (aA i)/\aK dA=aK dA/\aK dL=aK dL/\asT Int 0=0/\asT Int 0=0/\True)/\asT Bool true=true/\aX/\((isz (List.getD l 2 0)<=1000000000/\isz (-gsq A₀ (aA i))<=1000000000/\-gsq A₀ (aA i)≠0)/\True)/\(True/\True)/\((zA=true->zA=true/\True)/\((!bH fO)=false->zA=true)/\((wC==false)=true->(wC==false)=true/\True)/\(wC=false->(wC==false)=true)/\True)/\ifB (bif bif !bH fO then true else decide (aK fO < -1048576) then true else decide (aK fO > 1048576)) A₁ ((asT Int 0=0/\asT Int 0=0/\asT Int 0=0/\asT Int 0=0/\-gsq A₀ (aA i)=-gsq A₀ (aA i)/\fsq A₀ (aA i)=fsq A₀ (aA i)/\aK dA=aK dA/\aK dL=aK dL/\aK fO=aK fO/\asT Int 0=0/\True)/\asT Bool true=true/\bJ/\((isz (List.getD l 3 0)<=1000000000/\isz (-gsq A₀ (aA i))<=1000000000/\-gsq A₀ (aA i)≠0)/\True)/\(True/\True)/\((OB=true->OB=true/\True)/\((!bH gK)=false->OB=true)/\((vG==false)=true->(vG==false)=true/\True)/\(vG=false->(vG==false)=true)/\True)/\ifB (bif bif !bH gK then true else decide (aK gK < -1048576) then true else decide (aK gK > 1048576)) A₁ ((asT Int 0=0/\asT Int 0=0/\asT Int 0=0/\asT Int 0=0/\-gsq A₀ (aA i)=-gsq A₀ (aA i)/\fsq A₀ (aA i)=fsq A₀ (aA i)/\aK dA=aK dA/\aK dL=aK dL/\aK fO=aK fO/\aK gK=aK gK/\True)/\asT Bool true=true/\True/\(aK dA,aK dL,aK fO,aK gK,())=Prod.fst A₂/\True/\0=Prod.fst A₂.2/\True))))) (aN/\((isz (List.getD l 0 0)<=1000000000/\isz (gsq A₀ (aA i))<=1000000000/\gsq A₀ (aA i)≠0)/\True)/\(True/\True)/\((OC=true->OC=true/\True)/\((!bH dF)=false->OC=true)/\((FC==false)=true->(FC==false)=true/\True)/\(FC=false->(FC==false)=true)/\True)/\ifB (bif bif !bH dF then true else decide (aK dF < -1048576) then true else decide (aK dF > 1048576)) A₁ ((asT Int 0=0/\asT Int 0=0/\asT Int 0=0/\asT Int 0=0/\gsq A₀ (aA i)=gsq A₀ (aA i)/\fsq A₀ (aA i)=fsq A₀ (aA i)/\aK dF=aK dF/\asT Int 0=0/\asT Int 0=0/\asT Int 0=0/\True)/\asT Bool true=true/\aU/\((isz (List.getD l 1 0)<=1000000000/\isz (gsq A₀ (aA i))<=1000000000/\gsq A₀ (aA i)≠0)/\True)/\(True/\True)/\((ZA=true->ZA=true/\True)/\((!bH dP)=false->ZA=true)/\((FD==false)=true->(FD==false)=true/\True)/\(FD=false->(FD==false)=true)/\True)/\ifB (bif bif !bH dP then true else decide (aK dP < -1048576) then true else decide (aK dP > 1048576)) A₁ ((asT Int 0=0/\asT Int 0=0/\asT Int 0=0/\asT Int 0=0/\gsq A₀ (aA i)=gsq A₀ (aA i)/\fsq A₀ (aA i)=fsq A₀ (aA i)/\aK dF=aK dF/\aK dP=aK dP/\asT Int 0=0/\asT Int 0=0/\True)/\asT Bool true=true/\aX/\((isz (List.getD l 2 0)<=1000000000/\isz (gsq A₀ (aA i))<=1000000000/\gsq A₀ (aA i)≠0)/\True)/\(True/\True)/\((rM=true->rM=true/\True)/\((!bH jA)=false->rM=true)/\((C₁==false)=true->(C₁==false)=true/\True)/\(C₁=false->(C₁==false)=true)/\True)/\ifB (bif bif !bH jA then true else decide (aK jA < -1048576) then true else decide (aK jA > 1048576)) A₁ ((asT Int 0=0/\asT Int 0=0/\asT Int 0=0/\asT Int 0=0/\gsq A₀ (aA i)=gsq A₀ (aA i)/\fsq A₀ (aA i)=fsq A₀ (aA i)/\aK dF=aK dF/\aK dP=aK dP/\aK jA=aK jA/\asT Int 0=0/\True)/\asT Bool true=true/\bJ/\((isz (List.getD l 3 0)<=1000000000/\isz (gsq A₀ (aA i))<=1000000000/\gsq A₀ (aA i)≠0)/\True)/\(True/\True)/\((D₁=true->D₁=true/\True)/\((!bH gB)=false->D₁=true)/\((C₂==false)=true->(C₂==false)=true/\True)/\(C₂=false->(C₂==false)=true)/\True)/\ifB (bif bif !bH gB then true else decide (aK gB < -1048576) then true else decide (aK gB > 1048576)) A₁ ((asT Int 0=0/\asT Int 0=0/\asT Int 0=0/\asT Int 0=0/\gsq A₀ (aA i)=gsq A₀ (aA i)/\fsq A₀ (aA i)=fsq A₀ (aA i)/\aK dF=aK dF/\aK dP=aK dP/\aK jA=aK jA/\aK gB=aK gB/\True)/\asT Bool true=true/\True/\(aK dF,aK dP,aK jA,aK gB,())=Prod.fst A₂/\True/\0=Prod.fst A₂.2/\True))))))) (by kernel_rfl) ?_
 simp only[bad_eq]
 try simp only[zP0]
 try dsimp only[aB,asT,aA,aC,Ty.den,Lf.den] at *
 try simp only[zP1]
 try simp only[zP2]
 obtain⟨hl,hb,hn⟩:l.length=4/\(∀ j,j<4->isz (l.getD j 0)<=400000000)/\∃ j,j<4/\l.getD j 0≠0:=hp
 have hx:∀ j,l.getD j 0=(fun j=>l.getD j 0) j:=fun _=>rfl
 have h0:=hx 0
 have h1:=hx 1
 have h2:=hx 2
 have h3:=hx 3
 generalize hX:(fun j=>l.getD j 0)=X at *
 have hb:∀ j,j<4->isz (X j)<=400000000:=fun j hj=>by rw[<-hx];exact hb j hj
 have hn:∃ j,j<4/\X j≠0:=by obtain⟨j,h1,h2⟩:=hn;exact⟨j,h1,by rw[<-hx];exact h2⟩
 simp only[h0,h1,h2,h3,hx]
 have gs:∀ k,k<=4->isz (gsq X k)<=1000000000:=fun k hk=>ak (xX (K:=400000000) k (fun j hj=>hb j (by omega))) (by omega)
 have xs:∀ j,j<4->isz (X j)<=1000000000:=fun j hj=>ak (hb j hj) (by omega)
 refine⟨⟨rfl,rfl⟩,fun i=>⟨fun h1=>?_,fun h1=>?_⟩⟩
 ·have hi:=i.2
  refine⟨⟨by omega,by omega⟩,⟨gs _ hi,xs _ (by omega)⟩,fun h2=>⟨⟨i.1+1,by omega⟩,by simp only;omega,?_,rfl,?_⟩,fun h2=>⟨⟨i.1+1,by omega⟩,by simp only;omega,?_,rfl,?_⟩⟩
  ·rw[aJ (by omega) (by omega)];rfl
  ·rw[vg] at h2
   simp only[fsq,iw h2]
  ·rw[aJ (by omega) (by omega)];rfl
  ·rw[vg] at h2
   simp only[fsq,eu h2]
 ·have hi:=i.2
  have hi:i.1=4:=by omega
  rw[hi]
  have g0:prG X 4≠0:=by obtain⟨j,h1,h2⟩:=hn;exact TV h1 h2
  have tl:∀ G,prG X 4=G->(∀ j,j<4->okB ((X j).fdiv G)=false->(0,0,0,0,())=(iH X).1/\3=(iH X).2.1)/\(okB ((X 0).fdiv G)=true->okB ((X 1).fdiv G)=true->okB ((X 2).fdiv G)=true->okB ((X 3).fdiv G)=true->(aK ((X 0).fdiv G),aK ((X 1).fdiv G),aK ((X 2).fdiv G),aK ((X 3).fdiv G),())=(iH X).1/\0=(iH X).2.1):=by
   rintro G rfl
   refine⟨fun j hj h=>?_,fun k0 k1 k2 k3=>?_⟩
   ·have:iH X=((0,0,0,0,()),3,()):=eu (fun e=>by have:=PO.1 e j hj;exact Bool.false_ne_true (h.symm.trans this))
    rw[this];exact⟨rfl,rfl⟩
   ·have:iH X=((prN X 4 0,prN X 4 1,prN X 4 2,prN X 4 3,()),0,()):=iw (PO.2 fun j hj=>by
     match j,hj with
     | 0,_=>exact k0
     | 1,_=>exact k1
     | 2,_=>exact k2
     | 3,_=>exact k3)
    rw[this,uO k0,uO k1,uO k2,uO k3];exact⟨rfl,rfl⟩
  have g4:=gs 4 (by omega)
  refine⟨fun h2=>?_,fun h2=>?_⟩
  ·rw[Ac] at h2
   have hG:prG X 4=-gsq X 4:=iw h2
   have g5:isz (-gsq X 4)<=1000000000:=by rw[jJ];exact g4
   obtain⟨no,yes⟩:=tl _ hG
   rw[hG] at g0
   exact⟨g4,⟨by omega,by omega⟩,⟨xs 0 (by omega),g5,g0⟩,no 0 (by omega),fun k0=>⟨⟨by omega,by omega⟩,⟨xs 1 (by omega),g5,g0⟩,no 1 (by omega),fun k1=>⟨⟨by omega,by omega⟩,⟨xs 2 (by omega),g5,g0⟩,no 2 (by omega),fun k2=>⟨⟨by omega,by omega⟩,⟨xs 3 (by omega),g5,g0⟩,no 3 (by omega),fun k3=>yes k0 k1 k2 k3⟩⟩⟩⟩
  ·rw[Ac] at h2
   have hG:prG X 4=gsq X 4:=eu h2
   obtain⟨no,yes⟩:=tl _ hG
   rw[hG] at g0
   exact⟨⟨by omega,by omega⟩,⟨xs 0 (by omega),g4,g0⟩,no 0 (by omega),fun k0=>⟨⟨by omega,by omega⟩,⟨xs 1 (by omega),g4,g0⟩,no 1 (by omega),fun k1=>⟨⟨by omega,by omega⟩,⟨xs 2 (by omega),g4,g0⟩,no 2 (by omega),fun k2=>⟨⟨by omega,by omega⟩,⟨xs 3 (by omega),g4,g0⟩,no 3 (by omega),fun k3=>yes k0 k1 k2 k3⟩⟩⟩⟩
def nzB (q:Nat->Rat):Bool:=(List.range 4).any fun j=>decide (q j≠0)
theorem xZ {q:Nat->Rat}:nzB q=true↔∃ j,j<4/\q j≠0:=by unfold nzB;rw[Bl];simp
noncomputable def cNz:Ctr:=⟨[.arr 4 tQ],[tB],fun x=>(show LQ' from x.1).length=4/\∀ j,j<4->rsz ((show LQ' from x.1).getD j 0)<=400000000,fun x=>(nzB (fun j=>(show LQ' from x.1).getD j 0),())⟩
theorem b4m:aH Tryz.prog 197 cNz:=by
 refine aI (nil0.ad vS) ⟨[4],[],[]⟩ Tryz.func197 rfl (by decide) (fun x=>[.turns 5 [6] [] []]) (fun x hp=>?_)
 obtain⟨l,u⟩:=x
 change List Rat at l
 refine aO (let A₀:=(True/\(true=nzB fun(j:Nat)=>List.getD l j 0)/\True);(asT Int 0<=0/\asT Int 0<4/\True)/\(rsz (List.getD l 0 0)<=1000000000/\True)/\ifB (sgn (Rat.num (List.getD l 0 0)) != 0) A₀ (True/\asT Bool true=true/\(asT Int 0<=1/\asT Int 1<4/\True)/\(rsz (List.getD l 1 0)<=1000000000/\True)/\ifB (sgn (Rat.num (List.getD l 1 0)) != 0) A₀ (True/\asT Bool true=true/\(asT Int 0<=2/\asT Int 2<4/\True)/\(rsz (List.getD l 2 0)<=1000000000/\True)/\ifB (sgn (Rat.num (List.getD l 2 0)) != 0) A₀ (True/\asT Bool true=true/\(asT Int 0<=3/\asT Int 3<4/\True)/\(rsz (List.getD l 3 0)<=1000000000/\True)/\ifB (sgn (Rat.num (List.getD l 3 0)) != 0) A₀ (True/\asT Bool true=true/\True/\(false=nzB fun(j:Nat)=>List.getD l j 0)/\True))))) (by kernel_rfl) ?_
 try simp only[zP0]
 try dsimp only[aB,asT,aA,aC,Ty.den,Lf.den] at *
 try simp only[zP1]
 try simp only[zP2]
 obtain⟨hl,hb⟩:l.length=4/\∀ j,j<4->rsz (l.getD j 0)<=400000000:=hp
 have r:∀ j,j<4->rsz (l.getD j 0)<=1000000000:=fun j hj=>ak (hb j hj) (by omega)
 have y:∀ j,j<4->¬ sgn (l.getD j 0).num=0->true=nzB fun j=>l.getD j 0:=fun j hj h=>(xZ.2 ⟨j,hj,fun e=>h ((uY _).2 e)⟩).symm
 exact⟨⟨by omega,by omega⟩,r 0 (by omega),fun h=>y 0 (by omega) h,fun h0=>⟨⟨by omega,by omega⟩,r 1 (by omega),fun h=>y 1 (by omega) h,fun h1=>⟨⟨by omega,by omega⟩,r 2 (by omega),fun h=>y 2 (by omega) h,fun h2=>⟨⟨by omega,by omega⟩,r 3 (by omega),fun h=>y 3 (by omega) h,fun h3=>by
  symm
  rw[<-Aq]
  intro e
  obtain⟨j,hj,h⟩:=xZ.1 e
  match j,hj with
  | 0,_=>exact h ((uY _).1 h0)
  | 1,_=>exact h ((uY _).1 h1)
  | 2,_=>exact h ((uY _).1 h2)
  | 3,_=>exact h ((uY _).1 h3)⟩⟩⟩⟩
def clX (q:Nat->Rat) (j:Nat):Int:=VN (dJ q 4) q j
noncomputable def c4O:Ctr:=⟨[.arr 4 tQ],[BP,tI],fun x=>(show LQ' from x.1).length=4/\(∀ j,j<4->rsz ((show LQ' from x.1).getD j 0)<=50000000)/\∃ j,j<4/\(show LQ' from x.1).getD j 0≠0,fun x=>iH (clX (fun j=>(show LQ' from x.1).getD j 0))⟩
theorem b2K:aH Tryz.prog 198 c4O:=by
 refine aI ((((nil0.ad NZ).ad oU).ad zY).ad b4J) ⟨[2,4,6,7,9,10,11],[],[]⟩ Tryz.func198 rfl (by decide) (fun x=>[.inv {k:Nat // k<=4} (fun k=>[(15,.val tI (k.1:Int))]) (fun k=>[(2,.box [⟨tI,(0:Int)⟩,⟨tI,(0:Int)⟩,⟨tI,(0:Int)⟩,⟨tI,(0:Int)⟩]),(4,.box [⟨tZ,dJ (fun j=>(show LQ' from x.1).getD j 0) k.1⟩])]) (fun k=>4-k.1) ⟨0,by omega⟩ (fun _=>[]),.turns 5 [24] [2,4,7] []]) (fun x hp=>?_)
 obtain⟨l,u⟩:=x
 change List Rat at l
 refine aO (let A₀:=(aB (Rat.den (List.getD l 0 0)));let A₁:=(aB (Rat.den (List.getD l 1 0)));let A₂:=(aB (Rat.den (List.getD l 2 0)));let aN:=(aB (Rat.den (List.getD l 3 0)));let aU:=(iH (clX fun(j:Nat)=>List.getD l j 0));(bP 1/\True)/\(asT Int 0=0/\asT Int 0=0/\asT Int 0=0/\asT Int 0=0/\asT Int 0=0/\1=dJ (fun(j:Nat)=>List.getD l j 0) 0/\True)/\∀ (i:{ k:Nat // k<=4 }),let aX:=(iH fun(j:Nat)=>List.getD (Rat.num (List.getD l 0 0)*Int.fdiv (dJ (fun(j:Nat)=>List.getD l j 0) (aA i)) A₀::Rat.num (List.getD l 1 0)*Int.fdiv (dJ (fun(j:Nat)=>List.getD l j 0) (aA i)) A₁::Rat.num (List.getD l 2 0)*Int.fdiv (dJ (fun(j:Nat)=>List.getD l j 0) (aA i)) A₂::Rat.num (List.getD l 3 0)*Int.fdiv (dJ (fun(j:Nat)=>List.getD l j 0) (aA i)) aN::aC Int) j 0);let bJ:=(Rat.den (List.getD l (aB (aA i)).toNat 0));let dA:=aX.1.2;asT Bool true=true/\ifB (decide (aB (aA i)<4)) ((0<=aB (aA i)/\aB (aA i)<4/\True)/\((isz (dJ (fun(j:Nat)=>List.getD l j 0) (aA i))<=1000000000/\isz (aB bJ)<=1000000000)/\True)/\∃ (i':{ k:Nat // k<=4 }),let dF:=(fun(j:Nat)=>List.getD l j 0);4-aA i'<4-aA i/\IntKind.wrap IntKind.i64 (aB (aA i)+1)=aB (aA i')/\asT Int 0=0/\asT Int 0=0/\asT Int 0=0/\asT Int 0=0/\dJ dF (aA i)*aB bJ=dJ dF (aA i')/\True) ((asT Int 0<=0/\asT Int 0<4/\True)/\((isz (dJ (fun(j:Nat)=>List.getD l j 0) (aA i))<=1000000000/\isz A₀<=1000000000/\aB (Rat.den (List.getD l 0 0))≠0)/\True)/\((isz (Rat.num (List.getD l 0 0))<=1000000000/\isz (Int.fdiv (dJ (fun(j:Nat)=>List.getD l j 0) (aA i)) A₀)<=1000000000)/\True)/\(asT Int 0=0/\asT Int 0=0/\asT Int 0=0/\asT Int 0=0/\dJ (fun(j:Nat)=>List.getD l j 0) (aA i)=dJ (fun(j:Nat)=>List.getD l j 0) (aA i)/\Rat.num (List.getD l 0 0)*Int.fdiv (dJ (fun(j:Nat)=>List.getD l j 0) (aA i)) A₀=Rat.num (List.getD l 0 0)*Int.fdiv (dJ (fun(j:Nat)=>List.getD l j 0) (aA i)) A₀/\asT Int 0=0/\asT Int 0=0/\asT Int 0=0/\True)/\asT Bool true=true/\(asT Int 0<=1/\asT Int 1<4/\True)/\((isz (dJ (fun(j:Nat)=>List.getD l j 0) (aA i))<=1000000000/\isz A₁<=1000000000/\aB (Rat.den (List.getD l 1 0))≠0)/\True)/\((isz (Rat.num (List.getD l 1 0))<=1000000000/\isz (Int.fdiv (dJ (fun(j:Nat)=>List.getD l j 0) (aA i)) A₁)<=1000000000)/\True)/\(asT Int 0=0/\asT Int 0=0/\asT Int 0=0/\asT Int 0=0/\dJ (fun(j:Nat)=>List.getD l j 0) (aA i)=dJ (fun(j:Nat)=>List.getD l j 0) (aA i)/\Rat.num (List.getD l 0 0)*Int.fdiv (dJ (fun(j:Nat)=>List.getD l j 0) (aA i)) A₀=Rat.num (List.getD l 0 0)*Int.fdiv (dJ (fun(j:Nat)=>List.getD l j 0) (aA i)) A₀/\Rat.num (List.getD l 1 0)*Int.fdiv (dJ (fun(j:Nat)=>List.getD l j 0) (aA i)) A₁=Rat.num (List.getD l 1 0)*Int.fdiv (dJ (fun(j:Nat)=>List.getD l j 0) (aA i)) A₁/\asT Int 0=0/\asT Int 0=0/\True)/\asT Bool true=true/\(asT Int 0<=2/\asT Int 2<4/\True)/\((isz (dJ (fun(j:Nat)=>List.getD l j 0) (aA i))<=1000000000/\isz A₂<=1000000000/\aB (Rat.den (List.getD l 2 0))≠0)/\True)/\((isz (Rat.num (List.getD l 2 0))<=1000000000/\isz (Int.fdiv (dJ (fun(j:Nat)=>List.getD l j 0) (aA i)) A₂)<=1000000000)/\True)/\(asT Int 0=0/\asT Int 0=0/\asT Int 0=0/\asT Int 0=0/\dJ (fun(j:Nat)=>List.getD l j 0) (aA i)=dJ (fun(j:Nat)=>List.getD l j 0) (aA i)/\Rat.num (List.getD l 0 0)*Int.fdiv (dJ (fun(j:Nat)=>List.getD l j 0) (aA i)) A₀=Rat.num (List.getD l 0 0)*Int.fdiv (dJ (fun(j:Nat)=>List.getD l j 0) (aA i)) A₀/\Rat.num (List.getD l 1 0)*Int.fdiv (dJ (fun(j:Nat)=>List.getD l j 0) (aA i)) A₁=Rat.num (List.getD l 1 0)*Int.fdiv (dJ (fun(j:Nat)=>List.getD l j 0) (aA i)) A₁/\Rat.num (List.getD l 2 0)*Int.fdiv (dJ (fun(j:Nat)=>List.getD l j 0) (aA i)) A₂=Rat.num (List.getD l 2 0)*Int.fdiv (dJ (fun(j:Nat)=>List.getD l j 0) (aA i)) A₂/\asT Int 0=0/\True)/\asT Bool true=true/\(asT Int 0<=3/\asT Int 3<4/\True)/\((isz (dJ (fun(j:Nat)=>List.getD l j 0) (aA i))<=1000000000/\isz aN<=1000000000/\aB (Rat.den (List.getD l 3 0))≠0)/\True)/\((isz (Rat.num (List.getD l 3 0))<=1000000000/\isz (Int.fdiv (dJ (fun(j:Nat)=>List.getD l j 0) (aA i)) aN)<=1000000000)/\True)/\(asT Int 0=0/\asT Int 0=0/\asT Int 0=0/\asT Int 0=0/\dJ (fun(j:Nat)=>List.getD l j 0) (aA i)=dJ (fun(j:Nat)=>List.getD l j 0) (aA i)/\Rat.num (List.getD l 0 0)*Int.fdiv (dJ (fun(j:Nat)=>List.getD l j 0) (aA i)) A₀=Rat.num (List.getD l 0 0)*Int.fdiv (dJ (fun(j:Nat)=>List.getD l j 0) (aA i)) A₀/\Rat.num (List.getD l 1 0)*Int.fdiv (dJ (fun(j:Nat)=>List.getD l j 0) (aA i)) A₁=Rat.num (List.getD l 1 0)*Int.fdiv (dJ (fun(j:Nat)=>List.getD l j 0) (aA i)) A₁/\Rat.num (List.getD l 2 0)*Int.fdiv (dJ (fun(j:Nat)=>List.getD l j 0) (aA i)) A₂=Rat.num (List.getD l 2 0)*Int.fdiv (dJ (fun(j:Nat)=>List.getD l j 0) (aA i)) A₂/\Rat.num (List.getD l 3 0)*Int.fdiv (dJ (fun(j:Nat)=>List.getD l j 0) (aA i)) aN=Rat.num (List.getD l 3 0)*Int.fdiv (dJ (fun(j:Nat)=>List.getD l j 0) (aA i)) aN/\True)/\asT Bool true=true/\((List.length (Rat.num (List.getD l 0 0)*Int.fdiv (dJ (fun(j:Nat)=>List.getD l j 0) (aA i)) A₀::Rat.num (List.getD l 1 0)*Int.fdiv (dJ (fun(j:Nat)=>List.getD l j 0) (aA i)) A₁::Rat.num (List.getD l 2 0)*Int.fdiv (dJ (fun(j:Nat)=>List.getD l j 0) (aA i)) A₂::Rat.num (List.getD l 3 0)*Int.fdiv (dJ (fun(j:Nat)=>List.getD l j 0) (aA i)) aN::aC Int)=4/\(∀ (j:Nat),let dL:=(dJ (fun(j:Nat)=>List.getD l j 0) (aA i));j<4->isz (List.getD (Rat.num (List.getD l 0 0)*Int.fdiv dL A₀::Rat.num (List.getD l 1 0)*Int.fdiv dL A₁::Rat.num (List.getD l 2 0)*Int.fdiv dL A₂::Rat.num (List.getD l 3 0)*Int.fdiv dL aN::aC Int) j 0)<=400000000)/\∃ (j:Nat),let dP:=(dJ (fun(j:Nat)=>List.getD l j 0) (aA i));j<4/\List.getD (Rat.num (List.getD l 0 0)*Int.fdiv dP A₀::Rat.num (List.getD l 1 0)*Int.fdiv dP A₁::Rat.num (List.getD l 2 0)*Int.fdiv dP A₂::Rat.num (List.getD l 3 0)*Int.fdiv dP aN::aC Int) j 0≠0)/\True)/\True/\(Prod.fst aX.1,Prod.fst dA,Prod.fst dA.2,Prod.fst dA.2.2,())=Prod.fst aU/\True/\Prod.fst aX.2=Prod.fst aU.2/\True)) (by kernel_rfl) ?_
 try simp only[zP0]
 try dsimp only[aB,asT,aA,aC,Ty.den,Lf.den] at *
 try simp only[zP1]
 try simp only[zP2]
 obtain⟨hl,hb,hn⟩:l.length=4/\(∀ j,j<4->rsz (l.getD j 0)<=50000000)/\∃ j,j<4/\l.getD j 0≠0:=hp
 have hx:∀ j,l.getD j 0=(fun j=>l.getD j 0) j:=fun _=>rfl
 have h0:=hx 0
 have h1:=hx 1
 have h2:=hx 2
 have h3:=hx 3
 generalize hX:(fun j=>l.getD j 0)=q at *
 have hb:∀ j,j<4->rsz (q j)<=50000000:=fun j hj=>by rw[<-hx];exact hb j hj
 have hn:∃ j,j<4/\q j≠0:=by obtain⟨j,h1,h2⟩:=hn;exact⟨j,h1,by rw[<-hx];exact h2⟩
 simp only[h0,h1,h2,h3,hx]
 have d:∀ k,k<=4->isz (dJ q k)<=200000001:=fun k hk=>ak (JL hb k hk) (by omega)
 have r:∀ j,j<4->isz ((q j).den:Int)<=1000000000:=fun j hj=>ak (fU (q j)) (ak (hb j hj) (by omega))
 have n:∀ j,j<4->isz (q j).num<=1000000000:=fun j hj=>ak (gX (q j)) (ak (hb j hj) (by omega))
 have z:∀ j,¬ ((q j).den:Int)=0:=fun j=>IB _
 have f:∀ j,j<4->isz ((dJ q 4).fdiv ((q j).den:Int))<=1000000000:=fun j hj=>ak (QV (d 4 (by omega)) (pG hj)) (by omega)
 refine⟨by decide,rfl,fun i=>⟨fun h1=>?_,fun h1=>?_⟩⟩
 ·have hi:=i.2
  refine⟨⟨by omega,by omega⟩,⟨ak (d _ hi) (by omega),r _ (by omega)⟩,⟨i.1+1,by omega⟩,by simp only;omega,?_,rfl⟩
  rw[aJ (by omega) (by omega)];rfl
 ·have hi:=i.2
  have hi:i.1=4:=by omega
  rw[hi]
  generalize hL:[(q 0).num*(dJ q 4).fdiv ((q 0).den:Int),(q 1).num*(dJ q 4).fdiv ((q 1).den:Int),(q 2).num*(dJ q 4).fdiv ((q 2).den:Int),(q 3).num*(dJ q 4).fdiv ((q 3).den:Int)]=L
  have hX:∀ k,k<4->L.getD k 0=clX q k:=fun k hk=>by
   subst hL
   match k,hk with
   | 0,_=>rfl
   | 1,_=>rfl
   | 2,_=>rfl
   | 3,_=>rfl
  rw[UA (X:=fun j=>L.getD j 0) hX]
  have d4:=ak (d 4 (by omega)) (show 200000001<=1000000000 by omega)
  refine⟨⟨by omega,by omega⟩,⟨d4,r 0 (by omega),z 0⟩,⟨n 0 (by omega),f 0 (by omega)⟩,⟨by omega,by omega⟩,⟨d4,r 1 (by omega),z 1⟩,⟨n 1 (by omega),f 1 (by omega)⟩,⟨by omega,by omega⟩,⟨d4,r 2 (by omega),z 2⟩,⟨n 2 (by omega),f 2 (by omega)⟩,⟨by omega,by omega⟩,⟨d4,r 3 (by omega),z 3⟩,⟨n 3 (by omega),f 3 (by omega)⟩,⟨fun j hj=>?_,?_⟩,rfl,rfl⟩
  ·rw[hX j hj]
   exact ak (zL (d 4 (by omega)) (pG hj) (hb j hj)) (by omega)
  ·obtain⟨j,hj,h⟩:=hn
   exact⟨j,hj,by rw[hX j hj];exact CS (a0l _ _) (pG hj) h⟩
def b7U (i j:Nat):Rat:=if i=j then 1 else 0
def tuE (m:MQ) (i j:Nat):Prop:=ent (mulM m (trM m)) i j=b7U i j
def pX (m:MQ):Bool:=((List.range 3).all fun i=>(List.range 3).all fun j=>decide (ent (mulM m (trM m)) i j=b7U i j))&&decide (lU (ent m)=1)
theorem qU {m:MQ}:pX m=true↔(∀ i,i<3->∀ j,j<3->tuE m i j)/\lU (ent m)=1:=by
 unfold pX tuE
 rw[ay,gy,qg]
 refine and_congr ⟨fun h i hi j hj=>?_,fun h i hi=>?_⟩ Iff.rfl
 ·exact og (qg.1 (h i (oq.2 hi)) j (oq.2 hj))
 ·rw[qg];exact fun j hj=>jf (h i (oq.1 hi) j (oq.1 hj))
noncomputable def cTu:Ctr:=⟨[tM],[tB],fun x=>m33 150000 x.1,fun x=>(pX x.1,())⟩
theorem b5y:aH Tryz.prog 193 cTu:=by
 refine aI (((((nil0.ad sN).ad ZY).ad UW).ad a5x).ad a1g) ⟨[10,12],[],[]⟩ Tryz.func193 rfl (by decide) (fun x=>[.inv {i:Nat // i<=(show MQ from x.1).length/\∀ a,a<i->∀ b,b<(show MQ from x.1).length->tuE (show MQ from x.1) a b} (fun i=>[(27,.val tI (i.1:Int))]) (fun i=>[]) (fun i=>(show MQ from x.1).length-i.1) ⟨0,qm _,fun a h=>absurd h (yu a)⟩ (fun i=>[
 .inv {j:Nat // j<=(show MQ from x.1).length/\∀ b,b<j->tuE (show MQ from x.1) i.1 b} (fun j=>[(34,.val tI (j.1:Int))]) (fun j=>[]) (fun j=>(show MQ from x.1).length-j.1) ⟨0,qm _,fun a h=>absurd h (yu a)⟩ (fun _=>[])])]) (fun x hp=>?_)
 obtain⟨m,u⟩:=x
 change MQ at m
 refine aO (let A₁:=(tab (wdM m) m.length (tr (ent m)));let A₀:=(tab m.length (wdM A₁) (mm A₁.length (ent m) (ent A₁)));let A₂:=(True/\false=pX m/\True);(okM m/\True)/\((okM m/\okM A₁/\wdM m=List.length A₁/\szM m 1000000/\szM A₁ 1000000)/\True)/\(asT Int 0=0/\True)/\∀ (i:{ i:Nat // i<=List.length m/\∀ (a:Nat),a<i->∀ (b:Nat),b<List.length m->tuE m a b }),let aN:=(List.getD A₀ (aB (aA i)).toNat (aC Rat));asT Bool true=true/\ifB (decide (aB (aA i)<aB A₀.length)) ((0<=aB (aA i)/\aB (aA i)<aB A₀.length/\True)/\(asT Int 0=0/\True)/\∀ (i_1:{ j:Nat // j<=List.length m/\∀ (b:Nat),b<j->tuE m (aA i) b }),let aU:=(∃ (i':{ j:Nat // j<=List.length m/\∀ (b:Nat),b<j->tuE m (aA i) b }),List.length m-aA i'<List.length m-aA i_1/\IntKind.wrap IntKind.i64 (aB (aA i_1)+1)=aB (aA i')/\True);let aX:=(List.getD aN (aB (aA i_1)).toNat 0);asT Bool true=true/\ifB (decide (aB (aA i_1)<aB aN.length)) ((0<=aB (aA i_1)/\aB (aA i_1)<aB aN.length/\True)/\ifB (aB (aA i)==aB (aA i_1)) ((bP 1/\s44 aX (aV 1)/\True)/\ifB (wG aX (aV 1) != 0) A₂ aU) ((bP 0/\s44 aX (aV 0)/\True)/\ifB (wG aX (aV 0) != 0) A₂ aU)) (∃ (i':{ i:Nat // i<=List.length m/\∀ (a:Nat),a<i->∀ (b:Nat),b<List.length m->tuE m a b }),List.length m-aA i'<List.length m-aA i/\IntKind.wrap IntKind.i64 (aB (aA i)+1)=aB (aA i')/\True)) ((m33 150000 m/\True)/\(bP 1/\s44 (lU (ent m)) (aV 1)/\True)/\True/\(wG (lU (ent m)) (aV 1)==0)=pX m/\True)) (by kernel_rfl) ?_
 try simp only[zP0]
 try dsimp only[aB,asT,aA,aC,Ty.den,Lf.den] at *
 try simp only[zP1]
 try simp only[zP2]
 have hm:m33 150000 m:=hp
 have ht:m33 150000 (trM m):=hm.tr
 have hP:m33 1000000 (mulM m (trM m)):=(JJ hm ht).mono (by omega)
 have eT:tab (wdM m) m.length (tr (ent m))=trM m:=rfl
 rw[eT]
 have eP:tab m.length (wdM (trM m)) (mm (trM m).length (ent m) (ent (trM m)))=mulM m (trM m):=rfl
 rw[eP]
 obtain⟨lP,rP⟩:=hP.rows
 have o1:=(hm.mono (show 150000<=1000000 by omega)).ok (aj _)
 have o2:=(ht.mono (show 150000<=1000000 by omega)).ok (aj _)
 have q1:aV 1=1:=by decide +kernel
 have q0:aV 0=0:=by decide +kernel
 rw[q1,q0]
 have z1:rsz (1:Rat)<=400000000:=by decide +kernel
 have z0:rsz (0:Rat)<=400000000:=by decide +kernel
 have no:∀ i j,i<3->j<3->¬ tuE m i j->false=pX m:=fun i j hi hj h=>by
  symm
  rw[<-Aq]
  exact fun e=>h ((qU.1 e).1 i hi j hj)
 have lm:=o1.2.2.2
 simp only[GX]
 have nx:∀ (i j:Nat),j<3->(∀ b,b<j->tuE m i b)->tuE m i j->∀ b,b<j+1->tuE m i b:=fun i j hj h h4 b hb=>by
  rcases um.1 hb with hb|rfl
  ·exact h b hb
  ·exact h4
 refine⟨o1.1,⟨o1.1,o2.1,by rw[o1.2.2.1,o2.2.2.2],o1.2.1,o2.2.1⟩,fun i=>⟨fun h1=>⟨⟨by omega,h1⟩,fun j=>⟨fun h2=>?_,fun h2=>?_⟩⟩,fun h1=>?_⟩⟩
 ·have hi:i.1<3:=by omega
  rw[(rP i.1 hi).1] at h2
  have hj:j.1<3:=by omega
  have b1:=(rP i.1 hi).2 j.1 hj
  rw[(rP i.1 hi).1]
  have eE:(List.getD (mulM m (trM m)) i.1 []).getD j.1 0=ent (mulM m (trM m)) i.1 j.1:=rfl
  rw[eE]
  rw[show lv (List.getD (mulM m (trM m)) i.1 []) j.1=ent (mulM m (trM m)) i.1 j.1 from rfl] at b1
  refine⟨⟨by omega,by omega⟩,fun h3=>⟨⟨by decide,ak b1 (by omega),z1⟩,fun h4=>no _ _ hi hj fun h5=>h4 (h5.trans (iw h3)),fun h4=>⟨⟨j.1+1,by omega,nx _ _ hj j.2.2 (h4.trans (iw h3).symm)⟩,by simp only;omega,by rw[aJ (by omega) (by omega)];rfl⟩⟩,fun h3=>⟨⟨by decide,ak b1 (by omega),z0⟩,fun h4=>no _ _ hi hj fun h5=>h4 (h5.trans (eu h3)),fun h4=>⟨⟨j.1+1,by omega,nx _ _ hj j.2.2 (h4.trans (eu h3).symm)⟩,by simp only;omega,by rw[aJ (by omega) (by omega)];rfl⟩⟩⟩
 ·have hi:i.1<3:=by omega
  rw[(rP i.1 hi).1] at h2
  refine⟨⟨i.1+1,by omega,fun a ha b hb=>?_⟩,by simp only;omega,by rw[aJ (by omega) (by omega)];rfl⟩
  rcases um.1 ha with ha|rfl
  ·exact i.2.2 a ha b hb
  ·exact j.2.2 b (by omega)
 ·refine⟨hm,⟨by decide,ak (a4S hm) (by omega),z1⟩,?_⟩
  have al:∀ a,a<3->∀ b,b<3->tuE m a b:=fun a ha b hb=>i.2.2 a (by omega) b (by omega)
  by_cases hd:lU (ent m)=1
  ·rw[(qU.2 ⟨al,hd⟩),(GX _ _).2 hd];rfl
  ·have:pX m=false:=by
    rw[<-Aq]
    exact fun e=>hd (qU.1 e).2
   rw[this,uo]
   exact fun e=>hd ((GX _ _).1 e)
def at3 (i:Int):Prop:=0<=i/\i<3
noncomputable def cPl (g:Rat->Rat->Rat):Ctr:=⟨[tI,tI,.ref tM],[tQ],fun x=>at3 x.1/\at3 x.2.1/\m33 150000 x.2.2.1,fun x=>(g (ent x.2.2.1 x.1.toNat x.2.1.toNat) (ent x.2.2.1 x.2.1.toNat x.1.toNat),())⟩
theorem b4A:aH Tryz.prog 195 (cPl (·+·)):=by
 refine aI (nil0.ad vN) ⟨[5],[],[]⟩ Tryz.func195 rfl (by decide) (fun x=>[]) (fun x hp=>?_)
 obtain⟨i,j,m,u⟩:=x
 change Int at i
 change Int at j
 change MQ at m
 refine aO ((0<=i/\i<aB m.length/\0<=j/\j<aB (List.getD m i.toNat (aC Rat)).length/\0<=j/\j<aB m.length/\0<=i/\i<aB (List.getD m j.toNat (aC Rat)).length/\s44 (List.getD (List.getD m i.toNat (aC Rat)) j.toNat 0) (List.getD (List.getD m j.toNat (aC Rat)) i.toNat 0)/\True)/\True/\List.getD (List.getD m i.toNat (aC Rat)) j.toNat 0+List.getD (List.getD m j.toNat (aC Rat)) i.toNat 0=ent m i.toNat j.toNat+ent m j.toNat i.toNat/\True) (by kernel_rfl) ?_
 try simp only[zP0]
 try dsimp only[aB,asT,aA,aC,Ty.den,Lf.den] at *
 try simp only[zP1]
 try simp only[zP2]
 obtain⟨h1,h2,h3⟩:at3 i/\at3 j/\m33 150000 m:=hp
 obtain⟨l3,hr⟩:=h3.rows
 obtain⟨i,rfl⟩:∃ n:Nat,i=n:=⟨i.toNat,by unfold at3 at h1;omega⟩
 obtain⟨j,rfl⟩:∃ n:Nat,j=n:=⟨j.toNat,by unfold at3 at h2;omega⟩
 simp only[Int.toNat_natCast]
 have hi:i<3:=by unfold at3 at h1;omega
 have hj:j<3:=by unfold at3 at h2;omega
 have b1:=(hr i hi).2 j hj
 have b2:=(hr j hj).2 i hi
 rw[l3,(hr i hi).1,(hr j hj).1]
 exact⟨by omega,by omega,by omega,by omega,by omega,by omega,by omega,by omega,ak b1 (by omega),ak b2 (by omega)⟩
theorem b3X:aH Tryz.prog 196 (cPl (·-·)):=by
 refine aI (nil0.ad IU) ⟨[5],[],[]⟩ Tryz.func196 rfl (by decide) (fun x=>[]) (fun x hp=>?_)
 obtain⟨i,j,m,u⟩:=x
 change Int at i
 change Int at j
 change MQ at m
 refine aO ((0<=i/\i<aB m.length/\0<=j/\j<aB (List.getD m i.toNat (aC Rat)).length/\0<=j/\j<aB m.length/\0<=i/\i<aB (List.getD m j.toNat (aC Rat)).length/\s44 (List.getD (List.getD m i.toNat (aC Rat)) j.toNat 0) (List.getD (List.getD m j.toNat (aC Rat)) i.toNat 0)/\True)/\True/\List.getD (List.getD m i.toNat (aC Rat)) j.toNat 0-List.getD (List.getD m j.toNat (aC Rat)) i.toNat 0=ent m i.toNat j.toNat-ent m j.toNat i.toNat/\True) (by kernel_rfl) ?_
 try simp only[zP0]
 try dsimp only[aB,asT,aA,aC,Ty.den,Lf.den] at *
 try simp only[zP1]
 try simp only[zP2]
 obtain⟨h1,h2,h3⟩:at3 i/\at3 j/\m33 150000 m:=hp
 obtain⟨l3,hr⟩:=h3.rows
 obtain⟨i,rfl⟩:∃ n:Nat,i=n:=⟨i.toNat,by unfold at3 at h1;omega⟩
 obtain⟨j,rfl⟩:∃ n:Nat,j=n:=⟨j.toNat,by unfold at3 at h2;omega⟩
 simp only[Int.toNat_natCast]
 have hi:i<3:=by unfold at3 at h1;omega
 have hj:j<3:=by unfold at3 at h2;omega
 have b1:=(hr i hi).2 j hj
 have b2:=(hr j hj).2 i hi
 rw[l3,(hr i hi).1,(hr j hj).1]
 exact⟨by omega,by omega,by omega,by omega,by omega,by omega,by omega,by omega,ak b1 (by omega),ak b2 (by omega)⟩
def omS (s:List Int) (e:Mt):Nat->Rat
 | 0=>((1:Int):Rat)
 | k+1=>omS s e k+((s.getD k 0:Int):Rat)*e k k
theorem sg1 {n:Int} (h:n=1\/n=-1):rsz (aV n)<=2:=by rcases h with rfl|rfl<;>decide +kernel
theorem a3w {s:List Int} {m:MQ} (hs:∀ k,k<3->(s.getD k 0=1\/s.getD k 0=-1)) (hm:m33 150000 m):∀ k,k<=3->rsz (omS s (ent m) k)<=k*150010+2
 | 0,_=>by show rsz ((1:Int):Rat)<=_;exact ak (sg1 (.inl rfl)) (by omega)
 | k+1,hk=>by
  have h:=a3w hs hm k (by omega)
  have b:=hm.2 k (by rw[hm.1.len];omega) k (by rw[hm.1.wd];omega)
  have c:=sg1 (hs k (by omega))
  have d:=cO (aV (s.getD k 0)) (ent m k k)
  have e:=gW (omS s (ent m) k) (aV (s.getD k 0)*ent m k k)
  show rsz (omS s (ent m) k+aV (s.getD k 0)*ent m k k)<=_
  omega
noncomputable def cSu:Ctr:=⟨[.arr 3 tI,.ref tM],[tQ],fun x=>(show List Int from x.1).length=3/\(∀ k,k<3->((show List Int from x.1).getD k 0=1\/(show List Int from x.1).getD k 0=-1))/\m33 150000 x.2.1,fun x=>(omS x.1 (ent x.2.1) 3,())⟩
theorem b5r:aH Tryz.prog 194 cSu:=by
 refine aI (((nil0.ad sN).ad vN).ad sF) ⟨[3,4],[],[]⟩ Tryz.func194 rfl (by decide) (fun x=>[.inv {k:Nat // k<=3} (fun k=>[(9,.val tI (k.1:Int))]) (fun k=>[(3,.box [⟨tR,bF⟩]),(4,.box [⟨tQ,omS x.1 (ent x.2.1) k.1⟩])]) (fun k=>3-k.1) ⟨0,by omega⟩ (fun _=>[])]) (fun x hp=>?_)
 obtain⟨s,m,u⟩:=x
 change List Int at s
 change MQ at m
 refine aO ((bP 1/\True)/\(asT Int 0=0/\asT aG bF=bF/\aV 1=omS s (ent m) 0/\True)/\∀ (i:{ k:Nat // k<=3 }),let A₀:=(aB (aA i)).toNat;let A₁:=(List.getD m A₀ (aC Rat));asT Bool true=true/\ifB (decide (aB (aA i)<3)) ((0<=aB (aA i)/\aB (aA i)<3/\True)/\(bP (List.getD s A₀ 0)/\0<=aB (aA i)/\aB (aA i)<aB m.length/\0<=aB (aA i)/\aB (aA i)<aB A₁.length/\s44 (aV (List.getD s A₀ 0)) (List.getD A₁ A₀ 0)/\s44 (omS s (ent m) (aA i)) (aV (List.getD s A₀ 0)*List.getD A₁ A₀ 0)/\True)/\∃ (i':{ k:Nat // k<=3 }),3-aA i'<3-aA i/\IntKind.wrap IntKind.i64 (aB (aA i)+1)=aB (aA i')/\asT aG bF=bF/\omS s (ent m) (aA i)+aV (List.getD s A₀ 0)*List.getD A₁ A₀ 0=omS s (ent m) (aA i')/\True) (True/\omS s (ent m) (aA i)=omS s (ent m) 3/\True)) (by kernel_rfl) ?_
 try simp only[zP0]
 try dsimp only[aB,asT,aA,aC,Ty.den,Lf.den] at *
 try simp only[zP1]
 try simp only[zP2]
 obtain⟨hl,hs,hm⟩:s.length=3/\(∀ k,k<3->(s.getD k 0=1\/s.getD k 0=-1))/\m33 150000 m:=hp
 obtain⟨l3,hr⟩:=hm.rows
 have r3:=a3w hs hm
 refine⟨by decide,rfl,fun i=>⟨fun h1=>?_,fun h1=>?_⟩⟩
 ·have hi:i.1<3:=by omega
  have b1:rsz ((List.getD m i.1 []).getD i.1 0)<=150000:=(hr i.1 hi).2 i.1 hi
  have b2:=sg1 (hs i.1 hi)
  have b3:=r3 i.1 (by omega)
  have b4:=cO (aV (s.getD i.1 0)) ((List.getD m i.1 []).getD i.1 0)
  have w1:bP (s.getD i.1 0):=by rcases hs i.1 hi with e|e<;>rw[e]<;>decide
  rw[l3,(hr i.1 hi).1]
  exact⟨⟨by omega,by omega⟩,⟨w1,by omega,by omega,by omega,by omega,⟨by omega,by omega⟩,⟨by omega,by omega⟩⟩,⟨i.1+1,by omega⟩,by simp only;omega,by rw[aJ (by omega) (by omega)];rfl,rfl⟩
 ·rw[show i.1=3 by have:=i.2;omega]
def omE (e:Mt):Nat->LQ'
 | 0=>[omS [1,1,1] e 3,e 2 1-e 1 2,e 0 2-e 2 0,e 1 0-e 0 1]
 | 1=>[e 2 1-e 1 2,omS [1,-1,-1] e 3,e 0 1+e 1 0,e 0 2+e 2 0]
 | 2=>[e 0 2-e 2 0,e 0 1+e 1 0,omS [-1,1,-1] e 3,e 1 2+e 2 1]
 | _=>[e 1 0-e 0 1,e 0 2+e 2 0,e 1 2+e 2 1,omS [-1,-1,1] e 3]
def omZ (e:Mt) (k:Nat):Bool:=nzB (fun j=>(omE e k).getD j 0)
def omP (e:Mt) (k:Nat):QcV:=iH (clX (fun j=>(omE e k).getD j 0))
def omF (e:Mt):QcV:=if omZ e 0=true then omP e 0 else if omZ e 1=true then omP e 1 else if omZ e 2=true then omP e 2 else if omZ e 3=true then omP e 3 else ((0,0,0,0,()),15,())
theorem b0K {m:MQ} (hm:m33 150000 m):∀ k j,rsz ((omE (ent m) k).getD j 0)<=50000000:=fun k j=>by
 have a:∀ i j,i<3->j<3->rsz (ent m i j)<=150000:=fun i j hi hj=>hm.2 i (by rw[hm.1.len];exact hi) j (by rw[hm.1.wd];exact hj)
 have p:∀ i j k l,i<3->j<3->k<3->l<3->rsz (ent m i j+ent m k l)<=50000000/\rsz (ent m i j-ent m k l)<=50000000:=fun i j k l h1 h2 h3 h4=>by
  have:=a i j h1 h2
  have:=a k l h3 h4
  have:=gW (ent m i j) (ent m k l)
  have:=xB (ent m i j) (ent m k l)
  exact⟨by omega,by omega⟩
 have q:∀ s:List Int,(∀ k,k<3->(s.getD k 0=1\/s.getD k 0=-1))->rsz (omS s (ent m) 3)<=50000000:=fun s hs=>ak (a3w hs hm 3 (by omega)) (by omega)
 have z:rsz (0:Rat)<=50000000:=by decide +kernel
 match k,j with
 | 0,0=>exact q _ (by decide)
 | 0,1=>exact(p 2 1 1 2 (by omega) (by omega) (by omega) (by omega)).2
 | 0,2=>exact(p 0 2 2 0 (by omega) (by omega) (by omega) (by omega)).2
 | 0,3=>exact(p 1 0 0 1 (by omega) (by omega) (by omega) (by omega)).2
 | 1,0=>exact(p 2 1 1 2 (by omega) (by omega) (by omega) (by omega)).2
 | 1,1=>exact q _ (by decide)
 | 1,2=>exact(p 0 1 1 0 (by omega) (by omega) (by omega) (by omega)).1
 | 1,3=>exact(p 0 2 2 0 (by omega) (by omega) (by omega) (by omega)).1
 | 2,0=>exact(p 0 2 2 0 (by omega) (by omega) (by omega) (by omega)).2
 | 2,1=>exact(p 0 1 1 0 (by omega) (by omega) (by omega) (by omega)).1
 | 2,2=>exact q _ (by decide)
 | 2,3=>exact(p 1 2 2 1 (by omega) (by omega) (by omega) (by omega)).1
 | _+3,0=>exact(p 1 0 0 1 (by omega) (by omega) (by omega) (by omega)).2
 | _+3,1=>exact(p 0 2 2 0 (by omega) (by omega) (by omega) (by omega)).1
 | _+3,2=>exact(p 1 2 2 1 (by omega) (by omega) (by omega) (by omega)).1
 | _+3,3=>exact q _ (by decide)
 | 0,_+4=>exact z
 | 1,_+4=>exact z
 | 2,_+4=>exact z
 | _+3,_+4=>exact z
theorem lZ {b:Bool} (h:b=false):¬ b=true:=by rw[h];decide
def omT (m:MQ):QcV:=if pX m=true then omF (ent m) else ((0,0,0,0,()),15,())
noncomputable def cOm:Ctr:=⟨[tM],[BP,tI],fun x=>m33 150000 x.1,fun x=>omT x.1⟩
theorem b4t:aH Tryz.prog 98 cOm:=by
 refine aI (((((((nil0.ad qL).ad b5y).ad b4A).ad b3X).ad b5r).ad b4m).ad b2K) ⟨[2,8],[],[]⟩ Tryz.func98 rfl (by decide) (fun x=>[.turns 5 [74] [2] []]) (fun x hp=>?_)
 obtain⟨m,u⟩:=x
 change MQ at m
 refine aO (let aX:=(List.map (fun(xs:Ty.den (Ty.list (Ty.lf Lf.rat)))=>List.map (fun(x:Ty.den (Ty.lf Lf.rat))=>dM x) xs) m);let aU:=(bif aB m.length != 3 then true else kC aX != 0);let bJ:=(asT Int 0=0/\asT Int 0=0/\asT Int 0=0/\asT Int 0=0/\True);let jA:=((aB m.length != 3)==false);let gK:=((aU==false)=true->(aU==false)=true/\True);let gB:=(at3 0/\at3 2/\m33 150000 m);let kW:=(1::-1::-1::aC Int);let A₀:=((ent m 2 1-ent m 1 2)::omS kW (ent m) 3::(ent m 0 1+ent m 1 0)::(ent m 0 2+ent m 2 0)::aC Rat);let dF:=(iH (clX fun(j:Nat)=>List.getD A₀ j 0));let qA:=(-1::1::-1::aC Int);let A₁:=((ent m 0 2-ent m 2 0)::(ent m 0 1+ent m 1 0)::omS qA (ent m) 3::(ent m 1 2+ent m 2 1)::aC Rat);let dL:=(iH (clX fun(j:Nat)=>List.getD A₁ j 0));let wC:=(-1::-1::1::aC Int);let A₂:=((ent m 1 0-ent m 0 1)::(ent m 0 2+ent m 2 0)::(ent m 1 2+ent m 2 1)::omS wC (ent m) 3::aC Rat);let dP:=(iH (clX fun(j:Nat)=>List.getD A₂ j 0));let vG:=(1::1::1::aC Int);let aN:=(omS vG (ent m) 3::(ent m 2 1-ent m 1 2)::(ent m 0 2-ent m 2 0)::(ent m 1 0-ent m 0 1)::aC Rat);let dA:=(iH (clX fun(j:Nat)=>List.getD aN j 0));let fO:=(aN::A₀::A₁::A₂::aC (List Rat)).length;let FC:=dA.1.2;let FD:=dF.1.2;let C₁:=dL.1.2;let C₂:=dP.1.2;let C₃:=(at3 2/\at3 1/\m33 150000 m);let zC:=(at3 1/\at3 0/\m33 150000 m);let EF:=(at3 0/\at3 1/\m33 150000 m);let zA:=(at3 1/\at3 2/\m33 150000 m);((jA=true->jA=true/\iR (fun(x:Ty.den (Ty.list (Ty.lf Lf.rat)))=>dH (iR (fun(x:Ty.den (Ty.lf Lf.rat))=>dH (aC Cd)) x::aC Cd)) m/\pV aX/\True)/\(jA=true->jA=true/\True)/\((aB m.length != 3)=false->jA=true)/\((aU==false)=true->(aU==false)=true/\asT Int 0<=0/\0<aB m.length/\True)/\gK/\gK/\gK/\(aU=false->(aU==false)=true)/\True)/\ifB (bif bif aB m.length != 3 then true else kC aX != 0 then true else aB (List.getD m 0 (aC Rat)).length != 3) (True/\(0,0,0,0,())=Prod.fst (omT m)/\True/\1=Prod.fst (omT m).2/\True) ((m33 150000 m/\True)/\ifB (!pX m) (True/\(0,0,0,0,())=Prod.fst (omT m)/\True/\15=Prod.fst (omT m).2/\True) (((List.length vG=3/\(∀ (k:Nat),k<3->List.getD vG k 0=1\/List.getD vG k 0=-1)/\m33 150000 m)/\C₃/\gB/\zC/\C₃/\(List.length kW=3/\(∀ (k:Nat),k<3->List.getD kW k 0=1\/List.getD kW k 0=-1)/\m33 150000 m)/\EF/\gB/\gB/\EF/\(List.length qA=3/\(∀ (k:Nat),k<3->List.getD qA k 0=1\/List.getD qA k 0=-1)/\m33 150000 m)/\zA/\zC/\gB/\zA/\(List.length wC=3/\(∀ (k:Nat),k<3->List.getD wC k 0=1\/List.getD wC k 0=-1)/\m33 150000 m)/\True)/\(asT Int 0<=0/\0<aB fO/\True)/\((List.length aN=4/\∀ (j:Nat),j<4->rsz (List.getD aN j 0)<=400000000)/\True)/\ifB (nzB fun(j:Nat)=>List.getD aN j 0) (((List.length aN=4/\(∀ (j:Nat),j<4->rsz (List.getD aN j 0)<=50000000)/\∃ (j:Nat),j<4/\List.getD aN j 0≠0)/\True)/\True/\(Prod.fst dA.1,Prod.fst FC,Prod.fst FC.2,Prod.fst FC.2.2,())=Prod.fst (omT m)/\True/\Prod.fst dA.2=Prod.fst (omT m).2/\True) (bJ/\asT Bool true=true/\(asT Int 0<=1/\1<aB fO/\True)/\((List.length A₀=4/\∀ (j:Nat),j<4->rsz (List.getD A₀ j 0)<=400000000)/\True)/\ifB (nzB fun(j:Nat)=>List.getD A₀ j 0) (((List.length A₀=4/\(∀ (j:Nat),j<4->rsz (List.getD A₀ j 0)<=50000000)/\∃ (j:Nat),j<4/\List.getD A₀ j 0≠0)/\True)/\True/\(Prod.fst dF.1,Prod.fst FD,Prod.fst FD.2,Prod.fst FD.2.2,())=Prod.fst (omT m)/\True/\Prod.fst dF.2=Prod.fst (omT m).2/\True) (bJ/\asT Bool true=true/\(asT Int 0<=2/\2<aB fO/\True)/\((List.length A₁=4/\∀ (j:Nat),j<4->rsz (List.getD A₁ j 0)<=400000000)/\True)/\ifB (nzB fun(j:Nat)=>List.getD A₁ j 0) (((List.length A₁=4/\(∀ (j:Nat),j<4->rsz (List.getD A₁ j 0)<=50000000)/\∃ (j:Nat),j<4/\List.getD A₁ j 0≠0)/\True)/\True/\(Prod.fst dL.1,Prod.fst C₁,Prod.fst C₁.2,Prod.fst C₁.2.2,())=Prod.fst (omT m)/\True/\Prod.fst dL.2=Prod.fst (omT m).2/\True) (bJ/\asT Bool true=true/\(asT Int 0<=3/\3<aB fO/\True)/\((List.length A₂=4/\∀ (j:Nat),j<4->rsz (List.getD A₂ j 0)<=400000000)/\True)/\ifB (nzB fun(j:Nat)=>List.getD A₂ j 0) (((List.length A₂=4/\(∀ (j:Nat),j<4->rsz (List.getD A₂ j 0)<=50000000)/\∃ (j:Nat),j<4/\List.getD A₂ j 0≠0)/\True)/\True/\(Prod.fst dP.1,Prod.fst C₂,Prod.fst C₂.2,Prod.fst C₂.2.2,())=Prod.fst (omT m)/\True/\Prod.fst dP.2=Prod.fst (omT m).2/\True) (bJ/\asT Bool true=true/\True/\(0,0,0,0,())=Prod.fst (omT m)/\True/\15=Prod.fst (omT m).2/\True))))))) (by kernel_rfl) ?_
 try simp only[zP0]
 try dsimp only[aB,asT,aA,aC,Ty.den,Lf.den] at *
 try simp only[zP1]
 try simp only[zP2]
 have hm:m33 150000 m:=hp
 have o1:=(hm.mono (show 150000<=1000000 by omega)).ok (aj _)
 obtain⟨l3,hr⟩:=hm.rows
 have hc:kC (List.map (fun xs=>List.map (fun x=>dM x) xs) m)=0:=o1.1.chk
 rw[hc,l3,(hr 0 (by omega)).1]
 have g0:[omS [1,1,1] (ent m) 3,ent m 2 1-ent m 1 2,ent m 0 2-ent m 2 0,ent m 1 0-ent m 0 1]=omE (ent m) 0:=rfl
 have g1:[ent m 2 1-ent m 1 2,omS [1,-1,-1] (ent m) 3,ent m 0 1+ent m 1 0,ent m 0 2+ent m 2 0]=omE (ent m) 1:=rfl
 have g2:[ent m 0 2-ent m 2 0,ent m 0 1+ent m 1 0,omS [-1,1,-1] (ent m) 3,ent m 1 2+ent m 2 1]=omE (ent m) 2:=rfl
 have g3:[ent m 1 0-ent m 0 1,ent m 0 2+ent m 2 0,ent m 1 2+ent m 2 1,omS [-1,-1,1] (ent m) 3]=omE (ent m) 3:=rfl
 rw[g0,g1,g2,g3]
 have b5:=b0K hm
 have b4:∀ k j,rsz ((omE (ent m) k).getD j 0)<=400000000:=fun k j=>ak (b5 k j) (by omega)
 have s1:∀ k,k<3->([1,1,1]:List Int).getD k 0=1\/([1,1,1]:List Int).getD k 0=-1:=by decide
 have s2:∀ k,k<3->([1,-1,-1]:List Int).getD k 0=1\/([1,-1,-1]:List Int).getD k 0=-1:=by decide
 have s3:∀ k,k<3->([-1,1,-1]:List Int).getD k 0=1\/([-1,1,-1]:List Int).getD k 0=-1:=by decide
 have s4:∀ k,k<3->([-1,-1,1]:List Int).getD k 0=1\/([-1,-1,1]:List Int).getD k 0=-1:=by decide
 have a0:at3 0:=⟨by omega,by omega⟩
 have a1:at3 1:=⟨by omega,by omega⟩
 have a2:at3 2:=⟨by omega,by omega⟩
 have et:∀ k,omT m=omP (ent m) k->((omP (ent m) k).1.1,(omP (ent m) k).1.2.1,(omP (ent m) k).1.2.2.1,(omP (ent m) k).1.2.2.2.1,())=(omT m).1/\(omP (ent m) k).2.1=(omT m).2.1:=fun k h=>by rw[h];exact⟨rfl,rfl⟩
 refine⟨⟨fun _=>⟨rfl,vJ m,o1.1.short⟩,fun h=>⟨h,by omega,by omega⟩⟩,fun h=>?_,fun _=>⟨hm,fun hT=>?_,fun hT=>⟨⟨⟨s1,hm⟩,⟨a2,a1,hm⟩,⟨a0,a2,hm⟩,⟨a1,a0,hm⟩,⟨a2,a1,hm⟩,⟨s2,hm⟩,⟨a0,a1,hm⟩,⟨a0,a2,hm⟩,⟨a0,a2,hm⟩,⟨a0,a1,hm⟩,⟨s3,hm⟩,⟨a1,a2,hm⟩,⟨a1,a0,hm⟩,⟨a0,a2,hm⟩,⟨a1,a2,hm⟩,s4,hm⟩,⟨by omega,by omega⟩,fun j _=>b4 0 j,fun z0=>⟨⟨fun j _=>b5 0 j,xZ.1 z0⟩,et 0 ?_⟩,fun z0=>⟨⟨by omega,by omega⟩,fun j _=>b4 1 j,fun z1=>⟨⟨fun j _=>b5 1 j,xZ.1 z1⟩,et 1 ?_⟩,fun z1=>⟨⟨by omega,by omega⟩,fun j _=>b4 2 j,fun z2=>⟨⟨fun j _=>b5 2 j,xZ.1 z2⟩,et 2 ?_⟩,fun z2=>⟨⟨by omega,by omega⟩,fun j _=>b4 3 j,fun z3=>⟨⟨fun j _=>b5 3 j,xZ.1 z3⟩,et 3 ?_⟩,fun z3=>?_⟩⟩⟩⟩⟩⟩
 ·rcases h with(h|h)|h
  ·exact absurd rfl h
  ·exact absurd rfl h
  ·exact absurd rfl h
 ·rw[show omT m=((0,0,0,0,()),15,()) from eu (by rw[hT];decide)];exact⟨rfl,rfl⟩
 all_goals
  have oT:omT m=omF (ent m):=iw hT
  rw[oT]
  unfold omF
 ·rw[iw (show omZ (ent m) 0=true from z0)]
 ·rw[eu (lZ (show omZ (ent m) 0=false from z0)),iw (show omZ (ent m) 1=true from z1)]
 ·rw[eu (lZ (show omZ (ent m) 0=false from z0)),eu (lZ (show omZ (ent m) 1=false from z1)),iw (show omZ (ent m) 2=true from z2)]
 ·rw[eu (lZ (show omZ (ent m) 0=false from z0)),eu (lZ (show omZ (ent m) 1=false from z1)),eu (lZ (show omZ (ent m) 2=false from z2)),iw (show omZ (ent m) 3=true from z3)]
 ·rw[eu (lZ (show omZ (ent m) 0=false from z0)),eu (lZ (show omZ (ent m) 1=false from z1)),eu (lZ (show omZ (ent m) 2=false from z2)),eu (lZ (show omZ (ent m) 3=false from z3))]
  exact⟨rfl,rfl⟩
end Go.Proofs.YtbkocjmmbkifjaaGreat
