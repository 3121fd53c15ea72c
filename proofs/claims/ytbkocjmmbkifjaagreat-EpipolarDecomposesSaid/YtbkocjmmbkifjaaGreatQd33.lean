/-
  Lemmas for the theorem vdecomposes28_holds, part 33 of 34.
-/
import Derived.Test.YtbkocjmmbkifjaaGreatQd32
namespace Go.Proofs.YtbkocjmmbkifjaaGreat
open Go Go.RowKit
set_option maxRecDepth 100000
set_option maxHeartbeats 4000000
set_option linter.unusedVariables false
set_option linter.unusedSimpArgs false
theorem b2A (q:Int):(bif (bif !bH q then true else decide (aK q > 1048576)) then true else decide (aK q < -1048576))=!okB q:=by
 rw[<-bad_eq]
 cases bH q<;>cases decide (aK q > 1048576)<;>cases decide (aK q < -1048576)<;>rfl
abbrev xsI (l:List Int) (j:Nat):Int:=l.getD j 0
abbrev xsQ (l:LQ') (j:Nat):Rat:=l.getD j 0
noncomputable def c5F:Ctr:=⟨[.list tZ],[BP,tI],fun x=>(show List Int from x.1).length=4/\(∀ j,j<4->isz (xsI x.1 j)<=400000000)/\∃ j,j<4/\xsI x.1 j≠0,fun x=>iH (xsI x.1)⟩
theorem b1H {x:Int} (h:sgn x<0):x<0:=Ac.1 h
theorem a7K {x:Int} (h:x<0):sgn x<0:=Ac.2 h
theorem b4W:aH Tryz.prog 207 c5F:=by
 refine aI ((((((nil0.ad OA).ad a2N).ad ED).ad wB).ad KR).ad c1C) ⟨[2,4,10,11],[],[]⟩ Tryz.func207 rfl (by decide) (fun x=>[.inv {k:Nat // k<=4} (fun k=>[(5,.val tI (k.1:Int))]) (fun k=>[(2,.box [⟨tI,(0:Int)⟩,⟨tI,(0:Int)⟩,⟨tI,(0:Int)⟩,⟨tI,(0:Int)⟩]),(4,.box [⟨tZ,gsq (xsI x.1) k.1⟩])]) (fun k=>4-k.1) ⟨0,by omega⟩ (fun _=>[]),
  .inv {k:Nat // k<=4} (fun k=>[(6,.val tI (sgn (fsq (xsI x.1) k.1))),(7,.val tI (k.1:Int))]) (fun k=>[(2,.box [⟨tI,(0:Int)⟩,⟨tI,(0:Int)⟩,⟨tI,(0:Int)⟩,⟨tI,(0:Int)⟩]),(4,.box [⟨tZ,gsq (xsI x.1) 4⟩])]) (fun k=>4-k.1) ⟨0,by omega⟩ (fun _=>[]),
  .inv {k:Nat // k<=4/\∀ j,j<k->okB (prN (xsI x.1) 4 j)=true} (fun k=>[(8,.own 41 0),(41,.any),(9,.val tI (k.1:Int))]) (fun k=>[(2,.box [⟨tI,(0:Int)⟩,⟨tI,(0:Int)⟩,⟨tI,(0:Int)⟩,⟨tI,(0:Int)⟩]),(4,.box [⟨tZ,prG (xsI x.1) 4⟩]),(41,.row 3 tI ((List.range k.1).map (prN (xsI x.1) 4)) 0)]) (fun k=>4-k.1) ⟨0,by omega,fun j h=>absurd h (yu j)⟩ (fun _=>[])]) (fun x hp=>?_)
 obtain⟨l,u⟩:=x
 change List Int at l
 refine aO (let A₁:=(iH (xsI l)).2;let A₀:=(True/\(0,0,0,0,())=Prod.fst (iH (xsI l))/\True/\3=Prod.fst A₁/\True);(bP 0/\True)/\(asT Int 0=0/\asT Int 0=0/\asT Int 0=0/\asT Int 0=0/\asT Int 0=0/\0=gsq (xsI l) 0/\True)/\∀ (i:{ k:Nat // k<=4 }),asT Bool true=true/\ifB (decide (aB (aA i)<4)) ((0<=aB (aA i)/\aB (aA i)<aB l.length/\(isz (gsq (xsI l) (aA i))<=1000000000/\isz (List.getD l (aB (aA i)).toNat 0)<=1000000000)/\True)/\∃ (i':{ k:Nat // k<=4 }),4-aA i'<4-aA i/\IntKind.wrap IntKind.i64 (aB (aA i)+1)=aB (aA i')/\asT Int 0=0/\asT Int 0=0/\asT Int 0=0/\asT Int 0=0/\aB (Int.gcd (gsq (xsI l) (aA i)) (List.getD l (aB (aA i)).toNat 0))=gsq (xsI l) (aA i')/\True) ((0=sgn (fsq (xsI l) 0)/\asT Int 0=0/\asT Int 0=0/\asT Int 0=0/\asT Int 0=0/\asT Int 0=0/\gsq (xsI l) (aA i)=gsq (xsI l) 4/\True)/\∀ (i:{ k:Nat // k<=4 }),let A₂:=(fsq (xsI l) (aA i));asT Bool true=true/\ifB (decide (aB (aA i)<4)) (ifB (sgn A₂==0) ((0<=aB (aA i)/\aB (aA i)<aB l.length/\isz (List.getD l (aB (aA i)).toNat 0)<=1000000000/\True)/\∃ (i':{ k:Nat // k<=4 }),4-aA i'<4-aA i/\sgn (List.getD l (aB (aA i)).toNat 0)=sgn (fsq (xsI l) (aA i'))/\IntKind.wrap IntKind.i64 (aB (aA i)+1)=aB (aA i')/\asT Int 0=0/\asT Int 0=0/\asT Int 0=0/\asT Int 0=0/\gsq (xsI l) 4=gsq (xsI l) 4/\True) (∃ (i':{ k:Nat // k<=4 }),4-aA i'<4-aA i/\sgn A₂=sgn (fsq (xsI l) (aA i'))/\IntKind.wrap IntKind.i64 (aB (aA i)+1)=aB (aA i')/\asT Int 0=0/\asT Int 0=0/\asT Int 0=0/\asT Int 0=0/\gsq (xsI l) 4=gsq (xsI l) 4/\True)) (ifB (decide (sgn A₂<0)) ((isz (gsq (xsI l) 4)<=1000000000/\True)/\(asT Int 0=0/\asT Int 0=0/\asT Int 0=0/\asT Int 0=0/\asT Int 0=0/\-gsq (xsI l) 4=prG (xsI l) 4/\asT (List Int) (aC Int)=aC Int/\True)/\∀ (i:{ k:Nat // k<=4/\∀ (j:Nat),j<k->okB (prN (xsI l) 4 j)=true }),let aU:=(List.map (prN (xsI l) 4) (List.range (aA i)));let bJ:=(List.getD l (aB (aA i)).toNat 0);let aN:=(Int.fdiv bJ (prG (xsI l) 4));let aX:=(bif !bH aN then true else decide (aK aN > 1048576));let dA:=((!bH aN)==false);asT Bool true=true/\ifB (decide (aB (aA i)<4)) ((0<=aB (aA i)/\aB (aA i)<aB l.length/\(isz bJ<=400000000/\isz (prG (xsI l) 4)<=400000000/\prG (xsI l) 4≠0)/\True)/\(isz aN<=999999999/\True)/\((dA=true->dA=true/\True)/\((!bH aN)=false->dA=true)/\((aX==false)=true->(aX==false)=true/\True)/\(aX=false->(aX==false)=true)/\True)/\ifB (bif bif !bH aN then true else decide (aK aN > 1048576) then true else decide (aK aN < -1048576)) A₀ ((List.length aU+List.length (aK aN::aC Int)<=1000000000/\True)/\∃ (i':{ k:Nat // k<=4/\∀ (j:Nat),j<k->okB (prN (xsI l) 4 j)=true }),4-aA i'<4-aA i/\IntKind.wrap IntKind.i64 (aB (aA i)+1)=aB (aA i')/\asT Int 0=0/\asT Int 0=0/\asT Int 0=0/\asT Int 0=0/\prG (xsI l) 4=prG (xsI l) 4/\List.map (prN (xsI l) 4) (List.range (aA i))++aK aN::aC Int=List.map (prN (xsI l) 4) (List.range (aA i'))/\True)) ((asT Int 0<=0/\0<aB aU.length/\0<List.length aU/\asT Int 0<=1/\1<aB aU.length/\1<List.length aU/\asT Int 0<=2/\2<aB aU.length/\2<List.length aU/\asT Int 0<=3/\3<aB aU.length/\3<List.length aU/\True)/\True/\(List.getD aU 0 0,List.getD aU 1 0,List.getD aU 2 0,List.getD aU 3 0,())=Prod.fst (iH (xsI l))/\True/\0=Prod.fst A₁/\True)) ((asT Int 0=0/\asT Int 0=0/\asT Int 0=0/\asT Int 0=0/\asT Int 0=0/\gsq (xsI l) 4=prG (xsI l) 4/\asT (List Int) (aC Int)=aC Int/\True)/\∀ (i:{ k:Nat // k<=4/\∀ (j:Nat),j<k->okB (prN (xsI l) 4 j)=true }),let dL:=(List.map (prN (xsI l) 4) (List.range (aA i)));let fO:=(List.getD l (aB (aA i)).toNat 0);let dF:=(Int.fdiv fO (prG (xsI l) 4));let dP:=(bif !bH dF then true else decide (aK dF > 1048576));let jA:=((!bH dF)==false);asT Bool true=true/\ifB (decide (aB (aA i)<4)) ((0<=aB (aA i)/\aB (aA i)<aB l.length/\(isz fO<=400000000/\isz (prG (xsI l) 4)<=400000000/\prG (xsI l) 4≠0)/\True)/\(isz dF<=999999999/\True)/\((jA=true->jA=true/\True)/\((!bH dF)=false->jA=true)/\((dP==false)=true->(dP==false)=true/\True)/\(dP=false->(dP==false)=true)/\True)/\ifB (bif bif !bH dF then true else decide (aK dF > 1048576) then true else decide (aK dF < -1048576)) A₀ ((List.length dL+List.length (aK dF::aC Int)<=1000000000/\True)/\∃ (i':{ k:Nat // k<=4/\∀ (j:Nat),j<k->okB (prN (xsI l) 4 j)=true }),4-aA i'<4-aA i/\IntKind.wrap IntKind.i64 (aB (aA i)+1)=aB (aA i')/\asT Int 0=0/\asT Int 0=0/\asT Int 0=0/\asT Int 0=0/\prG (xsI l) 4=prG (xsI l) 4/\List.map (prN (xsI l) 4) (List.range (aA i))++aK dF::aC Int=List.map (prN (xsI l) 4) (List.range (aA i'))/\True)) ((asT Int 0<=0/\0<aB dL.length/\0<List.length dL/\asT Int 0<=1/\1<aB dL.length/\1<List.length dL/\asT Int 0<=2/\2<aB dL.length/\2<List.length dL/\asT Int 0<=3/\3<aB dL.length/\3<List.length dL/\True)/\True/\(List.getD dL 0 0,List.getD dL 1 0,List.getD dL 2 0,List.getD dL 3 0,())=Prod.fst (iH (xsI l))/\True/\0=Prod.fst A₁/\True))))) (by kernel_rfl) ?_
 simp only[b2A]
 try simp only[zP0]
 try dsimp only[aB,asT,aA,aC,Ty.den,Lf.den] at *
 try simp only[zP1]
 try simp only[zP2]
 obtain⟨hl,hb,hn⟩:l.length=4/\(∀ j,j<4->isz (xsI l j)<=400000000)/\∃ j,j<4/\xsI l j≠0:=hp
 have hx:∀ j,l.getD j 0=xsI l j:=fun _=>rfl
 simp only[hx] at *
 generalize hX:xsI l=X at *
 have gs:∀ k,k<=4->isz (gsq X k)<=1000000000:=fun k hk=>ak (xX (K:=400000000) k (fun j hj=>hb j (by omega))) (by omega)
 have xs:∀ j,j<4->isz (X j)<=1000000000:=fun j hj=>ak (hb j hj) (by omega)
 have g0:prG X 4≠0:=by obtain⟨j,h1,h2⟩:=hn;exact TV h1 h2
 have gI:isz (prG X 4)<=400000000:=a0s hb
 have ss:∀ k,sgn (fsq X (k+1))=if sgn (fsq X k)=0 then sgn (X k) else sgn (fsq X k):=fun k=>by
  show sgn (if fsq X k=0 then X k else fsq X k)=_
  by_cases h:fsq X k=0
  ·rw[iw h,iw (a4b.mpr h)]
  ·rw[eu h,eu (fun e=>h (a4b.mp e))]
 refine⟨by decide,rfl,fun i=>⟨fun h1=>?a,fun h1=>⟨⟨rfl,by have:=i.2;rw[show i.1=4 by omega]⟩,fun i=>⟨fun h2=>⟨fun h3=>?b,fun h3=>?c⟩,fun h2=>⟨fun h3=>⟨gs 4 (by omega),?d,fun k=>?l⟩,fun h3=>⟨?e,fun k=>?m⟩⟩⟩⟩⟩⟩
 case a=>exact⟨⟨by omega,by omega,gs _ i.2,xs _ (by omega)⟩,⟨i.1+1,by omega⟩,by simp only;omega,by rw[aJ (by omega) (by omega)];rfl,rfl⟩
 case b=>exact⟨⟨by omega,by omega,xs _ (by omega)⟩,⟨i.1+1,by omega⟩,by simp only;omega,by rw[ss,iw h3],by rw[aJ (by omega) (by omega)];rfl⟩
 case c=>exact⟨⟨i.1+1,by omega⟩,by simp only;omega,by rw[ss,eu h3],by rw[aJ (by omega) (by omega)];rfl⟩
 case d =>
  have:=i.2
  rw[show i.1=4 by omega] at h3
  exact(iw (b1H h3)).symm
 case e =>
  have:=i.2
  rw[show i.1=4 by omega] at h3
  exact(eu (fun e=>h3 (a7K e))).symm
 all_goals
  have dv:∀ j,j<4->isz ((X j).fdiv (prG X 4))<=400000000:=fun j hj=>ak (OW g0 (a0r hj)) (hb j hj)
  refine⟨fun h4=>⟨⟨by omega,by omega,hb _ (by omega),gI,g0⟩,ak (dv _ (by omega)) (by omega),fun h5=>?_,fun h5=>⟨?_,⟨k.1+1,by omega,fun j hj=>?_⟩,by simp only;omega,by rw[aJ (by omega) (by omega)];rfl,?_⟩⟩,fun h4=>?_⟩
  ·have:iH X=((0,0,0,0,()),3,()):=eu (fun e=>by have:=PO.1 e k.1 (by omega);exact Bool.false_ne_true (h5.symm.trans this))
   rw[this];exact⟨rfl,rfl⟩
  ·simp only[jo,jy,List.length_cons,List.length_nil];omega
  ·rcases um.1 hj with hj|rfl
   ·exact k.2.2 j hj
   ·exact h5
  ·rw[uO h5,oh,ug];rfl
  ·have hk:k.1=4:=by have:=k.2.1;omega
   have:iH X=((prN X 4 0,prN X 4 1,prN X 4 2,prN X 4 3,()),0,()):=iw (PO.2 fun j hj=>k.2.2 j (by omega))
   rw[this,hk]
   exact⟨by simp only[jo,jy];omega,rfl,rfl⟩
noncomputable def c5E:Ctr:=⟨[.list tQ],[BP,tI],fun x=>(show LQ' from x.1).length=4/\(∀ j,j<4->rsz (xsQ x.1 j)<=50000000)/\∃ j,j<4/\xsQ x.1 j≠0,fun x=>iH (clX (xsQ x.1))⟩
theorem b1r:aH Tryz.prog 206 c5E:=by
 refine aI ((((nil0.ad OA).ad KQ).ad KR).ad b4W) ⟨[2,4,8,9],[],[]⟩ Tryz.func206 rfl (by decide) (fun x=>[.inv {k:Nat // k<=4} (fun k=>[(5,.val tI (k.1:Int))]) (fun k=>[(2,.box [⟨tI,(0:Int)⟩,⟨tI,(0:Int)⟩,⟨tI,(0:Int)⟩,⟨tI,(0:Int)⟩]),(4,.box [⟨tZ,dJ (xsQ x.1) k.1⟩])]) (fun k=>4-k.1) ⟨0,by omega⟩ (fun _=>[]),
  .inv {k:Nat // k<=4} (fun k=>[(6,.own 23 0),(23,.any),(7,.val tI (k.1:Int))]) (fun k=>[(2,.box [⟨tI,(0:Int)⟩,⟨tI,(0:Int)⟩,⟨tI,(0:Int)⟩,⟨tI,(0:Int)⟩]),(4,.box [⟨tZ,dJ (xsQ x.1) 4⟩]),(23,.row 45 tZ ((List.range k.1).map (clX (xsQ x.1))) 0)]) (fun k=>4-k.1) ⟨0,by omega⟩ (fun _=>[])]) (fun x hp=>?_)
 obtain⟨l,u⟩:=x
 change List Rat at l
 refine aO ((bP 1/\True)/\(asT Int 0=0/\asT Int 0=0/\asT Int 0=0/\asT Int 0=0/\asT Int 0=0/\1=dJ (xsQ l) 0/\True)/\∀ (i:{ k:Nat // k<=4 }),asT Bool true=true/\ifB (decide (aB (aA i)<4)) ((0<=aB (aA i)/\aB (aA i)<aB l.length/\(isz (dJ (xsQ l) (aA i))<=1000000000/\isz (aB (Rat.den (List.getD l (aB (aA i)).toNat 0)))<=1000000000)/\True)/\∃ (i':{ k:Nat // k<=4 }),4-aA i'<4-aA i/\IntKind.wrap IntKind.i64 (aB (aA i)+1)=aB (aA i')/\asT Int 0=0/\asT Int 0=0/\asT Int 0=0/\asT Int 0=0/\dJ (xsQ l) (aA i)*aB (Rat.den (List.getD l (aB (aA i)).toNat 0))=dJ (xsQ l) (aA i')/\True) ((asT Int 0=0/\asT Int 0=0/\asT Int 0=0/\asT Int 0=0/\asT Int 0=0/\dJ (xsQ l) (aA i)=dJ (xsQ l) 4/\asT (List Int) (aC Int)=aC Int/\True)/\∀ (i:{ k:Nat // k<=4 }),let A₀:=(List.map (clX (xsQ l)) (List.range (aA i)));let A₁:=(List.getD l (aB (aA i)).toNat 0);let A₂:=(iH (xsI A₀)).1;asT Bool true=true/\ifB (decide (aB (aA i)<4)) ((0<=aB (aA i)/\aB (aA i)<aB l.length/\(isz (dJ (xsQ l) 4)<=400000000/\isz (aB (Rat.den A₁))<=400000000/\aB (Rat.den A₁)≠0)/\True)/\(0<=aB (aA i)/\aB (aA i)<aB l.length/\(isz (Int.fdiv (dJ (xsQ l) 4) (aB (Rat.den A₁)))<=1000000000/\isz (Rat.num A₁)<=1000000000)/\List.length A₀+List.length (Int.fdiv (dJ (xsQ l) 4) (aB (Rat.den A₁))*Rat.num A₁::aC Int)<=1000000000/\True)/\∃ (i':{ k:Nat // k<=4 }),4-aA i'<4-aA i/\IntKind.wrap IntKind.i64 (aB (aA i)+1)=aB (aA i')/\asT Int 0=0/\asT Int 0=0/\asT Int 0=0/\asT Int 0=0/\dJ (xsQ l) 4=dJ (xsQ l) 4/\List.map (clX (xsQ l)) (List.range (aA i))++Int.fdiv (dJ (xsQ l) 4) (aB (Rat.den A₁))*Rat.num A₁::aC Int=List.map (clX (xsQ l)) (List.range (aA i'))/\True) (((List.length A₀=4/\(∀ (j:Nat),j<4->isz (xsI A₀ j)<=400000000)/\∃ (j:Nat),j<4/\xsI A₀ j≠0)/\True)/\True/\(Prod.fst A₂,Prod.fst A₂.2,Prod.fst A₂.2.2,Prod.fst A₂.2.2.2,())=Prod.fst (iH (clX (xsQ l)))/\True/\Prod.fst (iH (xsI A₀)).2=Prod.fst (iH (clX (xsQ l))).2/\True))) (by kernel_rfl) ?_
 try simp only[zP0]
 try dsimp only[aB,asT,aA,aC,Ty.den,Lf.den] at *
 try simp only[zP1]
 try simp only[zP2]
 obtain⟨hl,hb,hn⟩:l.length=4/\(∀ j,j<4->rsz (xsQ l j)<=50000000)/\∃ j,j<4/\xsQ l j≠0:=hp
 have hx:∀ j,l.getD j 0=xsQ l j:=fun _=>rfl
 simp only[hx] at *
 generalize xsQ l=q at *
 have d:∀ k,k<=4->isz (dJ q k)<=200000001:=fun k hk=>ak (JL hb k hk) (by omega)
 have r:∀ j,j<4->isz ((q j).den:Int)<=400000000:=fun j hj=>ak (fU (q j)) (ak (hb j hj) (by omega))
 have n:∀ j,j<4->isz (q j).num<=1000000000:=fun j hj=>ak (gX (q j)) (ak (hb j hj) (by omega))
 have z:∀ j,((q j).den:Int)≠0:=fun j=>IB _
 have f:∀ j,j<4->isz ((dJ q 4).fdiv ((q j).den:Int))<=1000000000:=fun j hj=>ak (QV (d 4 (by omega)) (pG hj)) (by omega)
 refine⟨by decide,rfl,fun i=>⟨fun h1=>⟨⟨by omega,by omega,ak (d _ i.2) (by omega),ak (r _ (by omega)) (by omega)⟩,⟨i.1+1,by omega⟩,by simp only;omega,by rw[aJ (by omega) (by omega)];rfl,rfl⟩,fun h1=>⟨by have:=i.2;rw[show i.1=4 by omega],fun i=>⟨fun h2=>⟨⟨by omega,by omega,ak (d 4 (by omega)) (by omega),r _ (by omega),z _⟩,⟨by omega,by omega,⟨f _ (by omega),n _ (by omega)⟩,by simp only[jo,jy,List.length_cons,List.length_nil];omega⟩,⟨i.1+1,by omega⟩,by simp only;omega,by rw[aJ (by omega) (by omega)];rfl,?_⟩,fun h2=>?_⟩⟩⟩⟩
 ·rw[oh,ug,Int.mul_comm _ (q i.1).num];rfl
 ·have hk:i.1=4:=by have:=i.2;omega
  have hX:∀ k,k<4->xsI (List.map (clX q) (List.range 4)) k=clX q k:=fun k hk=>by
   match k,hk with
   | 0,_=>rfl
   | 1,_=>rfl
   | 2,_=>rfl
   | 3,_=>rfl
  rw[hk,UA hX]
  refine⟨⟨rfl,fun j hj=>?_,?_⟩,rfl,rfl⟩
  ·rw[hX j hj];exact ak (zL (d 4 (by omega)) (pG hj) (hb j hj)) (by omega)
  ·obtain⟨j,hj,h⟩:=hn
   exact⟨j,hj,by rw[hX j hj];exact CS (a0l _ _) (pG hj) h⟩
theorem a2o:aH Tryz.prog 204 (cQ2 s19 (·-·)):=by
 refine aI ((nil0.ad nK).ad vX) ⟨[4],[],[]⟩ Tryz.func204 rfl (by decide) (fun x=>[]) (fun x hp=>?_)
 obtain⟨x,y,u⟩:=x
 change Rat at x
 change Rat at y
 refine aO ((rsz y<=190000000/\s19 x (-y)/\True)/\True/\x+-y=x-y/\True) (by kernel_rfl) ?_
 try simp only[zP0]
 try dsimp only[aB,asT,aA,aC,Ty.den,Lf.den] at *
 try simp only[zP1]
 try simp only[zP2]
 obtain⟨h1,h2⟩:rsz x<=190000000/\rsz y<=190000000:=hp
 exact⟨⟨h2,h1,by rw[jE];exact h2⟩,(Dz x y).symm⟩
noncomputable def c5n:Ctr:=⟨[tM],[tB],fun x=>m33 150000 x.1,fun x=>(true,())⟩
theorem b3y:aH Tryz.prog 202 c5n:=by
 refine aI (nil0.ad KD) ⟨[],[],[]⟩ Tryz.func202 rfl (by decide) (fun x=>[.inv {k:Nat // k<=3} (fun k=>[(3,.val tI (k.1:Int))]) (fun k=>[]) (fun k=>3-k.1) ⟨0,by omega⟩ (fun i=>[.inv {k:Nat // k<=3} (fun k=>[(4,.val tI (k.1:Int))]) (fun k=>[]) (fun k=>3-k.1) ⟨0,by omega⟩ (fun _=>[])])]) (fun x hp=>?_)
 obtain⟨m,u⟩:=x
 change MQ at m
 refine aO (let A₀:=(True/\asT Bool false=true/\True);ifB (aB m.length != 3) A₀ ((asT Int 0=0/\True)/\∀ (i:{ k:Nat // k<=3 }),let A₁:=(List.getD m (aB (aA i)).toNat (aC Rat));asT Bool true=true/\ifB (decide (aB (aA i)<3)) ((0<=aB (aA i)/\aB (aA i)<aB m.length/\True)/\ifB (aB A₁.length != 3) A₀ ((asT Int 0=0/\True)/\∀ (i_1:{ k:Nat // k<=3 }),let A₂:=(dM (List.getD A₁ (aB (aA i_1)).toNat 0));asT Bool true=true/\ifB (decide (aB (aA i_1)<3)) ((0<=aB (aA i)/\aB (aA i)<aB m.length/\0<=aB (aA i_1)/\aB (aA i_1)<aB A₁.length/\(aG.n A₂<=999999999/\aG.m A₂<=999999999)/\True)/\∃ (i':{ k:Nat // k<=3 }),3-aA i'<3-aA i_1/\IntKind.wrap IntKind.i64 (aB (aA i_1)+1)=aB (aA i')/\True) (∃ (i':{ k:Nat // k<=3 }),3-aA i'<3-aA i/\IntKind.wrap IntKind.i64 (aB (aA i)+1)=aB (aA i')/\True))) (True/\asT Bool true=true/\True))) (by kernel_rfl) ?_
 try simp only[zP0]
 try dsimp only[aB,asT,aA,aC,Ty.den,Lf.den] at *
 try simp only[zP1]
 try simp only[zP2]
 have hm:m33 150000 m:=hp
 obtain⟨l3,hr⟩:=hm.rows
 have L:∀ i,i<3->(List.getD m i []).length=3:=fun i hi=>(hr i hi).1
 have b:∀ i j,i<3->j<3->rsz ((List.getD m i []).getD j 0)<=150000:=fun i j hi hj=>(hr i hi).2 j hj
 rw[l3]
 refine⟨fun h=>absurd rfl h,fun _ i h1=>?_⟩
 have hi:i.1<3:=by omega
 rw[L i.1 hi]
 refine⟨by omega,fun h=>absurd rfl h,fun _ k=>⟨fun h2=>?_,fun h2=>⟨⟨i.1+1,by omega⟩,by simp only;omega,by rw[aJ (by omega) (by omega)];rfl⟩⟩⟩
 have hk:k.1<3:=by omega
 have a:=b i.1 k.1 hi hk
 generalize (List.getD m i.1 []).getD k.1 0=q at *
 have n1:=gX q
 have n2:=fU q
 exact⟨⟨by omega,by omega,by omega,by omega,ak (show (dM q).n<=isz q.num from aj _) (by omega),ak (show (dM q).m<=isz ((q.den:Nat):Int) from aj _) (by omega)⟩,⟨k.1+1,by omega⟩,by simp only;omega,by rw[aJ (by omega) (by omega)];rfl⟩
noncomputable def c6g:Ctr:=⟨[tM],[tB],fun x=>m33 150000 x.1,fun x=>(pX x.1,())⟩
def tpt (e:Mt) (i k:Nat):Nat->Rat
 | 0=>if i=k then ((-1:Int):Rat) else ((0:Int):Rat)
 | j+1=>tpt e i k j+e i j*e k j
theorem b2k:aH Tryz.prog 203 c6g:=by
 refine aI ((((((nil0.ad nK).ad sH).ad uX).ad a0u).ad tH).ad a2o) ⟨[5,7,9],[],[]⟩ Tryz.func203 rfl (by decide) (fun x=>[.inv {i:Nat // i<=3/\∀ a,a<i->∀ b,b<3->tuE (show MQ from x.1) a b} (fun i=>[(3,.val tI (i.1:Int))]) (fun _=>[]) (fun i=>3-i.1) ⟨0,by omega,fun a h=>absurd h (yu a)⟩ (fun i=>[.inv {k:Nat // k<=3/\∀ b,b<k->tuE (show MQ from x.1) i.1 b} (fun k=>[(4,.val tI (k.1:Int))]) (fun _=>[]) (fun k=>3-k.1) ⟨0,by omega,fun a h=>absurd h (yu a)⟩ (fun k=>[.inv {k:Nat // k<=3} (fun j=>[(6,.val tI (j.1:Int))]) (fun j=>[(5,.box [⟨tQ,tpt (ent (show MQ from x.1)) i.1 k.1 j.1⟩])]) (fun j=>3-j.1) ⟨0,by omega⟩ (fun _=>[])])]),.turns 4 [8] [7] []]) (fun x hp=>?_)
 obtain⟨m,u⟩:=x
 change MQ at m
 refine aO (let aN:=(List.getD m 0 (aC Rat));let aU:=(List.getD m 1 (aC Rat));let aX:=(List.getD m 2 (aC Rat));let A₀:=(List.getD aU 1 0*List.getD aX 2 0-List.getD aU 2 0*List.getD aX 1 0);let A₁:=(List.getD aU 2 0*List.getD aX 0 0-List.getD aU 0 0*List.getD aX 2 0);let A₂:=(List.getD aU 0 0*List.getD aX 1 0-List.getD aU 1 0*List.getD aX 0 0);let bJ:=(aV 0+List.getD aN 0 0*A₀+List.getD aN 1 0*A₁+List.getD aN 2 0*A₂);let dA:=(True/\false=pX m/\True);(asT Int 0=0/\True)/\∀ (i:{ i:Nat // i<=3/\∀ (a:Nat),a<i->∀ (b:Nat),b<3->tuE m a b }),let dF:=(List.getD m (aB (aA i)).toNat (aC Rat));asT Bool true=true/\ifB (decide (aB (aA i)<3)) ((asT Int 0=0/\True)/\∀ (i_1:{ k:Nat // k<=3/\∀ (b:Nat),b<k->tuE m (aA i) b }),let dL:=(List.getD m (aB (aA i_1)).toNat (aC Rat));let dP:=(∃ (i':{ k:Nat // k<=3/\∀ (b:Nat),b<k->tuE m (aA i) b }),3-aA i'<3-aA i_1/\IntKind.wrap IntKind.i64 (aB (aA i_1)+1)=aB (aA i')/\True);asT Bool true=true/\ifB (decide (aB (aA i_1)<3)) ((bP 0/\True)/\ifB (aB (aA i)==aB (aA i_1)) ((bP (-1)/\True)/\(asT Int 0=0/\aV (-1)=tpt (ent m) (aA i) (aA i_1) 0/\True)/\∀ (i_2:{ k:Nat // k<=3 }),let fO:=(aB (aA i_2)).toNat;let jA:=(tpt (ent m) (aA i) (aA i_1) (aA i_2));asT Bool true=true/\ifB (decide (aB (aA i_2)<3)) ((0<=aB (aA i)/\aB (aA i)<aB m.length/\0<=aB (aA i_2)/\aB (aA i_2)<aB dF.length/\0<=aB (aA i_1)/\aB (aA i_1)<aB m.length/\0<=aB (aA i_2)/\aB (aA i_2)<aB dL.length/\s19 (List.getD dF fO 0) (List.getD dL fO 0)/\s19 jA (List.getD dF fO 0*List.getD dL fO 0)/\True)/\∃ (i':{ k:Nat // k<=3 }),3-aA i'<3-aA i_2/\IntKind.wrap IntKind.i64 (aB (aA i_2)+1)=aB (aA i')/\tpt (ent m) (aA i) (aA i_1) (aA i_2)+List.getD dF fO 0*List.getD dL fO 0=tpt (ent m) (aA i) (aA i_1) (aA i')/\True) ((rsz jA<=190000000/\True)/\ifB (sgn (Rat.num jA) != 0) dA dP)) ((asT Int 0=0/\aV 0=tpt (ent m) (aA i) (aA i_1) 0/\True)/\∀ (i_2:{ k:Nat // k<=3 }),let gK:=(aB (aA i_2)).toNat;let gB:=(tpt (ent m) (aA i) (aA i_1) (aA i_2));asT Bool true=true/\ifB (decide (aB (aA i_2)<3)) ((0<=aB (aA i)/\aB (aA i)<aB m.length/\0<=aB (aA i_2)/\aB (aA i_2)<aB dF.length/\0<=aB (aA i_1)/\aB (aA i_1)<aB m.length/\0<=aB (aA i_2)/\aB (aA i_2)<aB dL.length/\s19 (List.getD dF gK 0) (List.getD dL gK 0)/\s19 gB (List.getD dF gK 0*List.getD dL gK 0)/\True)/\∃ (i':{ k:Nat // k<=3 }),3-aA i'<3-aA i_2/\IntKind.wrap IntKind.i64 (aB (aA i_2)+1)=aB (aA i')/\tpt (ent m) (aA i) (aA i_1) (aA i_2)+List.getD dF gK 0*List.getD dL gK 0=tpt (ent m) (aA i) (aA i_1) (aA i')/\True) ((rsz gB<=190000000/\True)/\ifB (sgn (Rat.num gB) != 0) dA dP))) (∃ (i':{ i:Nat // i<=3/\∀ (a:Nat),a<i->∀ (b:Nat),b<3->tuE m a b }),3-aA i'<3-aA i/\IntKind.wrap IntKind.i64 (aB (aA i)+1)=aB (aA i')/\True)) ((bP 0/\True)/\(asT Int 0<=1/\1<aB m.length/\asT Int 3≠0/\asT Int 0<=Int.tmod 1 3/\Int.tmod 1 3<aB aU.length/\asT Int 0<=2/\2<aB m.length/\asT Int 3≠0/\asT Int 0<=Int.tmod 2 3/\Int.tmod 2 3<aB aX.length/\s19 (List.getD aU 1 0) (List.getD aX 2 0)/\asT Int 0<=1/\1<aB m.length/\asT Int 3≠0/\asT Int 0<=Int.tmod 2 3/\Int.tmod 2 3<aB aU.length/\asT Int 0<=2/\2<aB m.length/\asT Int 3≠0/\asT Int 0<=Int.tmod 1 3/\Int.tmod 1 3<aB aX.length/\s19 (List.getD aU 2 0) (List.getD aX 1 0)/\s19 (List.getD aU 1 0*List.getD aX 2 0) (List.getD aU 2 0*List.getD aX 1 0)/\True)/\(asT Int 0<=0/\0<aB m.length/\asT Int 0<=0/\0<aB aN.length/\s19 (List.getD aN 0 0) A₀/\s19 (aV 0) (List.getD aN 0 0*A₀)/\True)/\(aV 0+List.getD aN 0 0*A₀=aV 0+List.getD aN 0 0*A₀/\True)/\asT Bool true=true/\(asT Int 0<=1/\1<aB m.length/\asT Int 3≠0/\asT Int 0<=Int.tmod 2 3/\Int.tmod 2 3<aB aU.length/\asT Int 0<=2/\2<aB m.length/\asT Int 3≠0/\asT Int 0<=Int.tmod 3 3/\Int.tmod 3 3<aB aX.length/\s19 (List.getD aU 2 0) (List.getD aX 0 0)/\asT Int 0<=1/\1<aB m.length/\asT Int 3≠0/\asT Int 0<=Int.tmod 3 3/\Int.tmod 3 3<aB aU.length/\asT Int 0<=2/\2<aB m.length/\asT Int 3≠0/\asT Int 0<=Int.tmod 2 3/\Int.tmod 2 3<aB aX.length/\s19 (List.getD aU 0 0) (List.getD aX 2 0)/\s19 (List.getD aU 2 0*List.getD aX 0 0) (List.getD aU 0 0*List.getD aX 2 0)/\True)/\(asT Int 0<=0/\0<aB m.length/\asT Int 0<=1/\1<aB aN.length/\s19 (List.getD aN 1 0) A₁/\s19 (aV 0+List.getD aN 0 0*A₀) (List.getD aN 1 0*A₁)/\True)/\(aV 0+List.getD aN 0 0*A₀+List.getD aN 1 0*A₁=aV 0+List.getD aN 0 0*A₀+List.getD aN 1 0*A₁/\True)/\asT Bool true=true/\(asT Int 0<=1/\1<aB m.length/\asT Int 3≠0/\asT Int 0<=Int.tmod 3 3/\Int.tmod 3 3<aB aU.length/\asT Int 0<=2/\2<aB m.length/\asT Int 3≠0/\asT Int 0<=Int.tmod 4 3/\Int.tmod 4 3<aB aX.length/\s19 (List.getD aU 0 0) (List.getD aX 1 0)/\asT Int 0<=1/\1<aB m.length/\asT Int 3≠0/\asT Int 0<=Int.tmod 4 3/\Int.tmod 4 3<aB aU.length/\asT Int 0<=2/\2<aB m.length/\asT Int 3≠0/\asT Int 0<=Int.tmod 3 3/\Int.tmod 3 3<aB aX.length/\s19 (List.getD aU 1 0) (List.getD aX 0 0)/\s19 (List.getD aU 0 0*List.getD aX 1 0) (List.getD aU 1 0*List.getD aX 0 0)/\True)/\(asT Int 0<=0/\0<aB m.length/\asT Int 0<=2/\2<aB aN.length/\s19 (List.getD aN 2 0) A₂/\s19 (aV 0+List.getD aN 0 0*A₀+List.getD aN 1 0*A₁) (List.getD aN 2 0*A₂)/\True)/\(aV 0+List.getD aN 0 0*A₀+List.getD aN 1 0*A₁+List.getD aN 2 0*A₂=aV 0+List.getD aN 0 0*A₀+List.getD aN 1 0*A₁+List.getD aN 2 0*A₂/\True)/\asT Bool true=true/\(bP 1/\s19 bJ (aV 1)/\True)/\True/\(wG bJ (aV 1)==0)=pX m/\True)) (by kernel_rfl) ?_
 try simp only[zP0]
 try dsimp only[aB,asT,aA,aC,Ty.den,Lf.den] at *
 try simp only[zP1]
 try simp only[zP2]
 have hm:m33 150000 m:=hp
 obtain⟨l3,hr⟩:=hm.rows
 have L:∀ i,i<3->(List.getD m i []).length=3:=fun i hi=>(hr i hi).1
 have b:∀ i j,i<3->j<3->rsz ((List.getD m i []).getD j 0)<=150000:=fun i j hi hj=>(hr i hi).2 j hj
 have w0:bP 0:=by decide
 have w1:bP 1:=by decide
 have wm:bP (-1):=by decide
 have i0:rsz ((0:Int):Rat)<=1:=by decide +kernel
 have im:rsz ((-1:Int):Rat)<=1:=by decide +kernel
 have tz:∀ i k j,i<3->k<3->j<=3->rsz (tpt (ent m) i k j)<=j*300001+1:=fun i k j hi hk=>by
  induction j with
  | zero =>
   intro _
   show rsz (if i=k then ((-1:Int):Rat) else ((0:Int):Rat))<=_
   split<;>omega
  | succ j ih =>
   intro hj
   have h1:=ih (by omega)
   have a1:rsz (ent m i j)<=150000:=b i j hi (by omega)
   have a2:rsz (ent m k j)<=150000:=b k j hk (by omega)
   have h2:=cO (ent m i j) (ent m k j)
   have h3:=gW (tpt (ent m) i k j) (ent m i j*ent m k j)
   show rsz (tpt (ent m) i k j+ent m i j*ent m k j)<=_
   omega
 have td:∀ i k,i<3->k<3->(tpt (ent m) i k 3=0↔tuE m i k):=fun i k hi hk=>by
  have e0:((0:Int):Rat)=0:=by decide +kernel
  have em:((-1:Int):Rat)=-1:=by decide +kernel
  unfold tuE
  rw[show ent (mulM m (trM m)) i k=ent (gM m) i k from rfl,IV hm hi hk]
  show (if i=k then ((-1:Int):Rat) else ((0:Int):Rat))+ent m i 0*ent m k 0+ent m i 1*ent m k 1+ent m i 2*ent m k 2=0↔_=(if i=k then 1 else 0)
  rw[e0,em]
  generalize ent m i 0*ent m k 0=p0
  generalize ent m i 1*ent m k 1=p1
  generalize ent m i 2*ent m k 2=p2
  clear b hr L
  by_cases h:i=k
  ·rw[iw h,iw h];constructor<;>intro h9<;>grind
  ·rw[eu h,eu h]
 have no:∀ i j,i<3->j<3->¬ tuE m i j->false=pX m:=fun i j hi hj h=>by
  symm
  rw[<-Aq]
  exact fun e=>h ((qU.1 e).1 i hi j hj)
 refine fun i=>⟨fun a1 k=>⟨fun a2=>⟨w0,fun a3=>⟨wm,(iw a3).symm,fun j=>⟨fun a4=>?_,fun a4=>?_⟩⟩,fun a3=>⟨(eu a3).symm,fun j=>⟨fun a4=>?_,fun a4=>?_⟩⟩⟩,fun a2=>⟨⟨i.1+1,by omega,fun a ha b hb=>?_⟩,by simp only;omega,by rw[aJ (by omega) (by omega)];rfl⟩⟩,fun a1=>?_⟩
 case refine_1|refine_3 =>
  have s1:=b i.1 j.1 (by omega) (by omega)
  have s2:=b k.1 j.1 (by omega) (by omega)
  have s3:=cO ((List.getD m i.1 []).getD j.1 0) ((List.getD m k.1 []).getD j.1 0)
  have s4:=tz i.1 k.1 j.1 (by omega) (by omega) j.2
  rw[l3,L i.1 (by omega),L k.1 (by omega)]
  exact⟨⟨by omega,by omega,by omega,by omega,by omega,by omega,by omega,by omega,⟨by omega,by omega⟩,by omega,by omega⟩,⟨j.1+1,by omega⟩,by simp only;omega,by rw[aJ (by omega) (by omega)];rfl,rfl⟩
 case refine_2|refine_4 =>
  have hj:j.1=3:=by have:=j.2;omega
  rw[hj]
  have hd:=td i.1 k.1 (by omega) (by omega)
  refine⟨ak (tz _ _ _ (by omega) (by omega) (aj 3)) (by omega),fun a5=>?_,fun a5=>⟨⟨k.1+1,by omega,fun b hb=>?_⟩,by simp only;omega,by rw[aJ (by omega) (by omega)];rfl⟩⟩
  ·rw[uY,hd] at a5
   exact no i.1 k.1 (by omega) (by omega) a5
  ·rcases um.1 hb with hb|rfl
   ·exact k.2.2 b hb
   ·rw[uY,hd] at a5;exact a5
 case refine_5 =>
  rcases um.1 ha with ha|rfl
  ·exact i.2.2 a ha b hb
  ·exact k.2.2 b (by omega)
 case refine_6 =>
  have all:∀ a,a<3->∀ b,b<3->tuE m a b:=fun a ha b hb=>i.2.2 a (by have:=i.2.1;omega) b hb
  have hD:lU (ent m)=(List.getD m 0 []).getD 0 0*((List.getD m 1 []).getD 1 0*(List.getD m 2 []).getD 2 0-(List.getD m 1 []).getD 2 0*(List.getD m 2 []).getD 1 0)-(List.getD m 0 []).getD 1 0*((List.getD m 1 []).getD 0 0*(List.getD m 2 []).getD 2 0-(List.getD m 1 []).getD 2 0*(List.getD m 2 []).getD 0 0)+(List.getD m 0 []).getD 2 0*((List.getD m 1 []).getD 0 0*(List.getD m 2 []).getD 1 0-(List.getD m 1 []).getD 1 0*(List.getD m 2 []).getD 0 0):=rfl
  have hT:pX m=decide (lU (ent m)=1):=by
   by_cases h:lU (ent m)=1
   ·rw[jf h];exact qU.2 ⟨all,h⟩
   ·rw[je h,<-Aq];exact fun c=>h (qU.1 c).2
  rw[hT,hD,l3,L 0 (by omega),L 1 (by omega),L 2 (by omega)]
  have b00:=b 0 0 (by omega) (by omega)
  have b01:=b 0 1 (by omega) (by omega)
  have b02:=b 0 2 (by omega) (by omega)
  have b10:=b 1 0 (by omega) (by omega)
  have b11:=b 1 1 (by omega) (by omega)
  have b12:=b 1 2 (by omega) (by omega)
  have b20:=b 2 0 (by omega) (by omega)
  have b21:=b 2 1 (by omega) (by omega)
  have b22:=b 2 2 (by omega) (by omega)
  clear hD hT all td tz no b hr
  generalize (List.getD m 0 []).getD 0 0=e00 at *
  generalize (List.getD m 0 []).getD 1 0=e01 at *
  generalize (List.getD m 0 []).getD 2 0=e02 at *
  generalize (List.getD m 1 []).getD 0 0=e10 at *
  generalize (List.getD m 1 []).getD 1 0=e11 at *
  generalize (List.getD m 1 []).getD 2 0=e12 at *
  generalize (List.getD m 2 []).getD 0 0=e20 at *
  generalize (List.getD m 2 []).getD 1 0=e21 at *
  generalize (List.getD m 2 []).getD 2 0=e22 at *
  have two:∀ p q r t:Rat,rsz p<=150000->rsz q<=150000->rsz r<=150000->rsz t<=150000->rsz (p*q)<=300000/\rsz (r*t)<=300000/\rsz (p*q-r*t)<=600001:=fun p q r t h1 h2 h3 h4=>by
   have:=cO p q
   have:=cO r t
   have:=xB (p*q) (r*t)
   omega
  obtain⟨p1,p2,p3⟩:=two e11 e22 e12 e21 b11 b22 b12 b21
  obtain⟨p4,p5,p6⟩:=two e12 e20 e10 e22 b12 b20 b10 b22
  obtain⟨p7,p8,p9⟩:=two e10 e21 e11 e20 b10 b21 b11 b20
  have i1:rsz (aV 1)<=1:=by decide +kernel
  have j0:rsz (aV 0)<=1:=by decide +kernel
  have m0:=cO e00 (e11*e22-e12*e21)
  have m1:=cO e01 (e12*e20-e10*e22)
  have m2:=cO e02 (e10*e21-e11*e20)
  have s0:=gW (aV 0) (e00*(e11*e22-e12*e21))
  have s1:=gW (aV 0+e00*(e11*e22-e12*e21)) (e01*(e12*e20-e10*e22))
  have s2:=gW (aV 0+e00*(e11*e22-e12*e21)+e01*(e12*e20-e10*e22)) (e02*(e10*e21-e11*e20))
  have k0:aV 0=0:=by decide +kernel
  have k1:aV 1=1:=by decide +kernel
  have fin:(wG (aV 0+e00*(e11*e22-e12*e21)+e01*(e12*e20-e10*e22)+e02*(e10*e21-e11*e20)) (aV 1)==0)=decide (e00*(e11*e22-e12*e21)-e01*(e10*e22-e12*e20)+e02*(e10*e21-e11*e20)=1):=by
   rw[b5U,k0,k1]
   exact Ap.2 ⟨fun h=>by grind,fun h=>by grind⟩
  have z:∀ x y:Rat,rsz x<=190000000->rsz y<=190000000->s19 x y:=fun x y h1 h2=>⟨h1,h2⟩
  rw[fin]
  and_intros<;>first|rfl|exact w0|exact w1|decide|omega|(refine z _ _ ?_ ?_<;>omega)
noncomputable def c5c:Ctr:=⟨[tM,tI,tI,tI],[tQ],fun x=>m33 150000 x.1/\(x.2.1=(1:Int)\/x.2.1=(-1:Int))/\(x.2.2.1=(1:Int)\/x.2.2.1=(-1:Int))/\(x.2.2.2.1=(1:Int)\/x.2.2.2.1=(-1:Int)),fun x=>(omS [x.2.1,x.2.2.1,x.2.2.2.1] (ent x.1) 3,())⟩
theorem a8S:aH Tryz.prog 205 c5c:=by
 refine aI (((nil0.ad nK).ad sH).ad tH) ⟨[8,9],[],[]⟩ Tryz.func205 rfl (by decide) (fun x=>[]) (fun x hp=>?_)
 obtain⟨m,a,b,c,u⟩:=x
 change MQ at m
 change Int at a
 change Int at b
 change Int at c
 refine aO (let A₀:=(List.getD m 0 (aC Rat));let A₁:=(List.getD m 1 (aC Rat));let A₂:=(List.getD m 2 (aC Rat));(bP 1/\bP a/\asT Int 0<=0/\0<aB m.length/\asT Int 0<=0/\0<aB A₀.length/\s19 (aV a) (List.getD A₀ 0 0)/\s19 (aV 1) (aV a*List.getD A₀ 0 0)/\True)/\(bP b/\asT Int 0<=1/\1<aB m.length/\asT Int 0<=1/\1<aB A₁.length/\s19 (aV b) (List.getD A₁ 1 0)/\s19 (aV 1+aV a*List.getD A₀ 0 0) (aV b*List.getD A₁ 1 0)/\True)/\(bP c/\asT Int 0<=2/\2<aB m.length/\asT Int 0<=2/\2<aB A₂.length/\s19 (aV c) (List.getD A₂ 2 0)/\s19 (aV 1+aV a*List.getD A₀ 0 0+aV b*List.getD A₁ 1 0) (aV c*List.getD A₂ 2 0)/\True)/\True/\aV 1+aV a*List.getD A₀ 0 0+aV b*List.getD A₁ 1 0+aV c*List.getD A₂ 2 0=omS (a::b::c::aC Int) (ent m) 3/\True) (by kernel_rfl) ?_
 try simp only[zP0]
 try dsimp only[aB,asT,aA,aC,Ty.den,Lf.den] at *
 try simp only[zP1]
 try simp only[zP2]
 obtain⟨hm,ha,hb,hc⟩:m33 150000 m/\(a=1\/a=-1)/\(b=1\/b=-1)/\(c=1\/c=-1):=hp
 obtain⟨l3,hr⟩:=hm.rows
 have L:∀ i,i<3->(List.getD m i []).length=3:=fun i hi=>(hr i hi).1
 have B:∀ i j,i<3->j<3->rsz ((List.getD m i []).getD j 0)<=150000:=fun i j hi hj=>(hr i hi).2 j hj
 have pm:∀ n:Int,(n=1\/n=-1)->bP n/\rsz (aV n)<=2:=fun n h=>⟨by rcases h with rfl|rfl<;>decide,sg1 h⟩
 obtain⟨wa,sa⟩:=pm a ha
 obtain⟨wb,sb⟩:=pm b hb
 obtain⟨wc,sc⟩:=pm c hc
 obtain⟨w1,o1⟩:=pm 1 (.inl rfl)
 have d0:=B 0 0 (by omega) (by omega)
 have d1:=B 1 1 (by omega) (by omega)
 have d2:=B 2 2 (by omega) (by omega)
 have t0:=cO (aV a) ((List.getD m 0 []).getD 0 0)
 have t1:=cO (aV b) ((List.getD m 1 []).getD 1 0)
 have t2:=cO (aV c) ((List.getD m 2 []).getD 2 0)
 have u0:=gW (aV 1) (aV a*(List.getD m 0 []).getD 0 0)
 have u1:=gW (aV 1+aV a*(List.getD m 0 []).getD 0 0) (aV b*(List.getD m 1 []).getD 1 0)
 rw[l3,L 0 (by omega),L 1 (by omega),L 2 (by omega)]
 exact⟨⟨w1,wa,by omega,by omega,by omega,by omega,⟨by omega,by omega⟩,by omega,by omega⟩,⟨wb,by omega,by omega,by omega,by omega,⟨by omega,by omega⟩,by omega,by omega⟩,⟨wc,by omega,by omega,by omega,by omega,⟨by omega,by omega⟩,by omega,by omega⟩,rfl⟩
theorem b4u:aH Tryz.prog 105 cOm:=by
 refine aI (((((((nil0.ad nK).ad uX).ad b1r).ad a2o).ad b3y).ad b2k).ad a8S) ⟨[2,4,5,6,7,8,9],[],[]⟩ Tryz.func105 rfl (by decide) (fun x=>[.inv {k:Nat // k<=4/\∀ j,j<k->omR (ent (show MQ from x.1)) j j=0} (fun k=>[(11,.val tI (k.1:Int))]) (fun k=>[(2,.box [⟨tI,(0:Int)⟩,⟨tI,(0:Int)⟩,⟨tI,(0:Int)⟩,⟨tI,(0:Int)⟩])]) (fun k=>4-k.1) ⟨0,by omega,fun j h=>absurd h (yu j)⟩ (fun _=>[])]) (fun x hp=>?_)
 obtain⟨m,u⟩:=x
 change MQ at m
 refine aO (let A₁:=(List.getD m 2 (aC Rat));let A₂:=(List.getD m 1 (aC Rat));let aN:=(List.getD m 0 (aC Rat));let aU:=(asT Int 0<=0/\0<aB m.length/\asT Int 0<=2/\2<aB aN.length/\asT Int 0<=2/\2<aB m.length/\asT Int 0<=0/\0<aB A₁.length/\s19 (List.getD aN 2 0) (List.getD A₁ 0 0)/\True);let aX:=(asT Int (-1)=1\/asT Int (-1)=-1);let bJ:=(asT Int 1=1\/asT Int 1=-1);let dA:=(True/\(0,0,0,0,())=Prod.fst (omT m)/\True/\15=Prod.fst (omT m).2/\True);let dF:=(List.getD A₁ 1 0-List.getD A₂ 2 0);let dL:=(List.getD aN 2 0-List.getD A₁ 0 0);let dP:=(List.getD A₂ 0 0-List.getD aN 1 0);let fO:=(List.getD aN 1 0+List.getD A₂ 0 0);let jA:=(List.getD aN 2 0+List.getD A₁ 0 0);let gK:=(List.getD A₂ 2 0+List.getD A₁ 1 0);let A₀:=((omS (1::1::1::aC Int) (ent m) 3::dF::dL::dP::aC Rat)::(dF::omS (1::-1::-1::aC Int) (ent m) 3::fO::jA::aC Rat)::(dL::fO::omS (-1::1::-1::aC Int) (ent m) 3::gK::aC Rat)::(dP::jA::gK::omS (-1::-1::1::aC Int) (ent m) 3::aC Rat)::aC (List Rat));(m33 150000 m/\True)/\(m33 150000 m/\True)/\ifB (!pX m) dA ((asT Int 0<=2/\2<aB m.length/\asT Int 0<=1/\1<aB A₁.length/\asT Int 0<=1/\1<aB m.length/\asT Int 0<=2/\2<aB A₂.length/\s19 (List.getD A₁ 1 0) (List.getD A₂ 2 0)/\True)/\aU/\(asT Int 0<=1/\1<aB m.length/\asT Int 0<=0/\0<aB A₂.length/\asT Int 0<=0/\0<aB m.length/\asT Int 0<=1/\1<aB aN.length/\s19 (List.getD A₂ 0 0) (List.getD aN 1 0)/\True)/\(asT Int 0<=0/\0<aB m.length/\asT Int 0<=1/\1<aB aN.length/\asT Int 0<=1/\1<aB m.length/\asT Int 0<=0/\0<aB A₂.length/\s19 (List.getD aN 1 0) (List.getD A₂ 0 0)/\True)/\aU/\(asT Int 0<=1/\1<aB m.length/\asT Int 0<=2/\2<aB A₂.length/\asT Int 0<=2/\2<aB m.length/\asT Int 0<=1/\1<aB A₁.length/\s19 (List.getD A₂ 2 0) (List.getD A₁ 1 0)/\True)/\((m33 150000 m/\bJ/\bJ/\bJ)/\(m33 150000 m/\bJ/\aX/\aX)/\(m33 150000 m/\aX/\bJ/\aX)/\(m33 150000 m/\aX/\aX/\bJ)/\True)/\(asT Int 0=0/\asT Int 0=0/\asT Int 0=0/\asT Int 0=0/\asT Int 0=0/\True)/\∀ (i:{ k:Nat // k<=4/\∀ (j:Nat),j<k->omR (ent m) j j=0 }),let qA:=(aB (aA i)).toNat;let gB:=(List.getD A₀ qA (aC Rat));let kW:=(iH (clX (xsQ gB))).1;asT Bool true=true/\ifB (decide (aB (aA i)<4)) ((0<=aB (aA i)/\aB (aA i)<aB A₀.length/\0<=aB (aA i)/\aB (aA i)<aB gB.length/\rsz (List.getD gB qA 0)<=190000000/\True)/\ifB (sgn (Rat.num (List.getD gB qA 0)) != 0) ((0<=aB (aA i)/\aB (aA i)<aB A₀.length/\(List.length gB=4/\(∀ (j:Nat),j<4->rsz (xsQ gB j)<=50000000)/\∃ (j:Nat),j<4/\xsQ gB j≠0)/\True)/\True/\(Prod.fst kW,Prod.fst kW.2,Prod.fst kW.2.2,Prod.fst kW.2.2.2,())=Prod.fst (omT m)/\True/\Prod.fst (iH (clX (xsQ gB))).2=Prod.fst (omT m).2/\True) (∃ (i':{ k:Nat // k<=4/\∀ (j:Nat),j<k->omR (ent m) j j=0 }),4-aA i'<4-aA i/\IntKind.wrap IntKind.i64 (aB (aA i)+1)=aB (aA i')/\asT Int 0=0/\asT Int 0=0/\asT Int 0=0/\asT Int 0=0/\True)) dA)) (by kernel_rfl) ?_
 try simp only[zP0]
 try dsimp only[aB,asT,aA,aC,Ty.den,Lf.den] at *
 try simp only[zP1]
 try simp only[zP2]
 have hm:m33 150000 m:=hp
 obtain⟨l3,hr⟩:=hm.rows
 have L:∀ i,i<3->(List.getD m i []).length=3:=fun i hi=>(hr i hi).1
 have b:∀ i j,i<3->j<3->rsz ((List.getD m i []).getD j 0)<=150000:=fun i j hi hj=>(hr i hi).2 j hj
 have b':∀ i j,i<3->j<3->rsz ((List.getD m i []).getD j 0)<=190000000:=fun i j hi hj=>ak (b i j hi hj) (by omega)
 rw[l3,L 0 (by omega),L 1 (by omega),L 2 (by omega)]
 have gt:[[omS [1,1,1] (ent m) 3,(List.getD m 2 []).getD 1 0-(List.getD m 1 []).getD 2 0,(List.getD m 0 []).getD 2 0-(List.getD m 2 []).getD 0 0,(List.getD m 1 []).getD 0 0-(List.getD m 0 []).getD 1 0],[(List.getD m 2 []).getD 1 0-(List.getD m 1 []).getD 2 0,omS [1,-1,-1] (ent m) 3,(List.getD m 0 []).getD 1 0+(List.getD m 1 []).getD 0 0,(List.getD m 0 []).getD 2 0+(List.getD m 2 []).getD 0 0],[(List.getD m 0 []).getD 2 0-(List.getD m 2 []).getD 0 0,(List.getD m 0 []).getD 1 0+(List.getD m 1 []).getD 0 0,omS [-1,1,-1] (ent m) 3,(List.getD m 1 []).getD 2 0+(List.getD m 2 []).getD 1 0],[(List.getD m 1 []).getD 0 0-(List.getD m 0 []).getD 1 0,(List.getD m 0 []).getD 2 0+(List.getD m 2 []).getD 0 0,(List.getD m 1 []).getD 2 0+(List.getD m 2 []).getD 1 0,omS [-1,-1,1] (ent m) 3]]=[omE (ent m) 0,omE (ent m) 1,omE (ent m) 2,omE (ent m) 3]:=rfl
 rw[gt]
 have tk:∀ k,k<4->[omE (ent m) 0,omE (ent m) 1,omE (ent m) 2,omE (ent m) 3].getD k []=omE (ent m) k:=fun k hk=>by
  match k,hk with
  | 0,_=>rfl
  | 1,_=>rfl
  | 2,_=>rfl
  | 3,_=>rfl
 have l4:∀ k,k<4->(omE (ent m) k).length=4:=fun k hk=>by
  match k,hk with
  | 0,_=>rfl
  | 1,_=>rfl
  | 2,_=>rfl
  | 3,_=>rfl
 have b5:=b0K hm
 have hn:∀ n:Int,(n=1\/n=-1)↔(n=1\/n=-1):=fun _=>Iff.rfl
 have sp:∀ i j k l,i<3->j<3->k<3->l<3->s19 ((List.getD m i []).getD j 0) ((List.getD m k []).getD l 0):=fun i j k l h1 h2 h3 h4=>⟨b' i j h1 h2,b' k l h3 h4⟩
 refine⟨hm,hm,fun h=>?_,fun hT=>⟨⟨by omega,by omega,by omega,by omega,by omega,by omega,by omega,by omega,sp _ _ _ _ (by omega) (by omega) (by omega) (by omega)⟩,⟨by omega,by omega,by omega,by omega,by omega,by omega,by omega,by omega,sp _ _ _ _ (by omega) (by omega) (by omega) (by omega)⟩,⟨by omega,by omega,by omega,by omega,by omega,by omega,by omega,by omega,sp _ _ _ _ (by omega) (by omega) (by omega) (by omega)⟩,⟨by omega,by omega,by omega,by omega,by omega,by omega,by omega,by omega,sp _ _ _ _ (by omega) (by omega) (by omega) (by omega)⟩,⟨by omega,by omega,by omega,by omega,by omega,by omega,by omega,by omega,sp _ _ _ _ (by omega) (by omega) (by omega) (by omega)⟩,⟨by omega,by omega,by omega,by omega,by omega,by omega,by omega,by omega,sp _ _ _ _ (by omega) (by omega) (by omega) (by omega)⟩,⟨⟨hm,by decide⟩,⟨hm,by decide⟩,⟨hm,by decide⟩,hm,by decide⟩,fun i=>⟨fun h1=>?_,fun h1=>?_⟩⟩⟩
 ·rw[show omT m=((0,0,0,0,()),15,()) from eu (by rw[h];decide)];exact⟨rfl,rfl⟩
 ·have hi:i.1<4:=by omega
  rw[tk i.1 hi,l4 i.1 hi]
  refine⟨⟨by omega,by omega,by omega,by omega,ak (b5 i.1 i.1) (by omega)⟩,fun h2=>?_,fun h2=>⟨⟨i.1+1,by omega,fun j hj=>?_⟩,by simp only;omega,by rw[aJ (by omega) (by omega)];rfl⟩⟩
  ·rw[uY] at h2
   have h2:omR (ent m) i.1 i.1≠0:=h2
   have e:=b0M hm hT hi i.2.2 h2
   rw[e]
   refine⟨⟨by omega,by omega,by first|exact trivial|rfl,fun j _=>b5 i.1 j,i.1,hi,h2⟩,rfl,rfl⟩
  ·rcases um.1 hj with hj|rfl
   ·exact i.2.2 j hj
   ·rw[uY] at h2;exact h2
 ·rw[b0L hm hT fun j hj=>i.2.2 j (by omega)];exact⟨rfl,rfl⟩
end Go.Proofs.YtbkocjmmbkifjaaGreat
