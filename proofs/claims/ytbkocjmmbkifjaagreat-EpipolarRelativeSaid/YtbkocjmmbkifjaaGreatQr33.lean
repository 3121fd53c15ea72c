/-
  Lemmas for the theorem vrelative28_holds, part 33 of 35.
-/
import Derived.Test.YtbkocjmmbkifjaaGreatQr32
namespace Go.Proofs.YtbkocjmmbkifjaaGreat
open Go Go.RowKit
set_option maxRecDepth 100000
set_option maxHeartbeats 4000000
set_option linter.unusedVariables false
set_option linter.unusedSimpArgs false
theorem b4B (q:Int):(bif (bif !bT q then true else decide (aQ q > 1048576)) then true else decide (aQ q < -1048576))=!okB q:=by rw[<-bad_eq];cases bT q<;>cases decide (aQ q > 1048576)<;>cases decide (aQ q < -1048576)<;>rfl
abbrev xsI (l:List Int) (j:Nat):Int:=l.getD j 0
noncomputable def c8g:Ctr:=⟨[.list tZ],[jD,tI],fun x=>(show List Int from x.1).length=4/\(∀ j,j<4->isz (xsI x.1 j)<=400000000)/\∃ j,j<4/\xsI x.1 j≠0,fun x=>dM (xsI x.1)⟩
theorem b3I {x:Int} (h:sgn x<0):x<0:=Cm.1 h
theorem a9q {x:Int} (h:x<0):sgn x<0:=Cm.2 h
theorem b7i:aJ Tryz.prog 207 c8g:=by
 refine aN ((((((nil0.ad a0p).ad b4u).ad RX).ad FH).ad a7X).ad b7I) ⟨[2,4,10,11],[],[]⟩ Tryz.func207 rfl (by decide) (fun x=>[.inv {k:Nat // k<=4} (fun k=>[(5,.val tI (k.1:Int))]) (fun k=>[(2,.box [⟨tI,(0:Int)⟩,⟨tI,(0:Int)⟩,⟨tI,(0:Int)⟩,⟨tI,(0:Int)⟩]),(4,.box [⟨tZ,gsq (xsI x.1) k.1⟩])]) (fun k=>4-k.1) ⟨0,by omega⟩ (fun _=>[]),
  .inv {k:Nat // k<=4} (fun k=>[(6,.val tI (sgn (fsq (xsI x.1) k.1))),(7,.val tI (k.1:Int))]) (fun k=>[(2,.box [⟨tI,(0:Int)⟩,⟨tI,(0:Int)⟩,⟨tI,(0:Int)⟩,⟨tI,(0:Int)⟩]),(4,.box [⟨tZ,gsq (xsI x.1) 4⟩])]) (fun k=>4-k.1) ⟨0,by omega⟩ (fun _=>[]),
  .inv {k:Nat // k<=4/\∀ j,j<k->okB (prN (xsI x.1) 4 j)=true} (fun k=>[(8,.own 41 0),(41,.any),(9,.val tI (k.1:Int))]) (fun k=>[(2,.box [⟨tI,(0:Int)⟩,⟨tI,(0:Int)⟩,⟨tI,(0:Int)⟩,⟨tI,(0:Int)⟩]),(4,.box [⟨tZ,prG (xsI x.1) 4⟩]),(41,.row 3 tI ((List.range k.1).map (prN (xsI x.1) 4)) 0)]) (fun k=>4-k.1) ⟨0,by omega,fun j h=>absurd h (Bl j)⟩ (fun _=>[])]) (fun x hp=>?_)
 obtain⟨l,u⟩:=x;change List Int at l;refine aP (let A₁:=(dM (xsI l)).2;let A₀:=(True/\(0,0,0,0,())=Prod.fst (dM (xsI l))/\True/\3=Prod.fst A₁/\True);(aV 0/\True)/\(asT Int 0=0/\asT Int 0=0/\asT Int 0=0/\asT Int 0=0/\asT Int 0=0/\0=gsq (xsI l) 0/\True)/\∀ (i:{ k:Nat // k<=4 }),asT Bool true=true/\ifB (decide (aB (aA i)<4)) ((0<=aB (aA i)/\aB (aA i)<aB l.length/\(isz (gsq (xsI l) (aA i))<=1000000000/\isz (List.getD l (aB (aA i)).toNat 0)<=1000000000)/\True)/\∃ (i':{ k:Nat // k<=4 }),4-aA i'<4-aA i/\IntKind.wrap IntKind.i64 (aB (aA i)+1)=aB (aA i')/\asT Int 0=0/\asT Int 0=0/\asT Int 0=0/\asT Int 0=0/\aB (Int.gcd (gsq (xsI l) (aA i)) (List.getD l (aB (aA i)).toNat 0))=gsq (xsI l) (aA i')/\True) ((0=sgn (fsq (xsI l) 0)/\asT Int 0=0/\asT Int 0=0/\asT Int 0=0/\asT Int 0=0/\asT Int 0=0/\gsq (xsI l) (aA i)=gsq (xsI l) 4/\True)/\∀ (i:{ k:Nat // k<=4 }),let A₂:=(fsq (xsI l) (aA i));asT Bool true=true/\ifB (decide (aB (aA i)<4)) (ifB (sgn A₂==0) ((0<=aB (aA i)/\aB (aA i)<aB l.length/\isz (List.getD l (aB (aA i)).toNat 0)<=1000000000/\True)/\∃ (i':{ k:Nat // k<=4 }),4-aA i'<4-aA i/\sgn (List.getD l (aB (aA i)).toNat 0)=sgn (fsq (xsI l) (aA i'))/\IntKind.wrap IntKind.i64 (aB (aA i)+1)=aB (aA i')/\asT Int 0=0/\asT Int 0=0/\asT Int 0=0/\asT Int 0=0/\gsq (xsI l) 4=gsq (xsI l) 4/\True) (∃ (i':{ k:Nat // k<=4 }),4-aA i'<4-aA i/\sgn A₂=sgn (fsq (xsI l) (aA i'))/\IntKind.wrap IntKind.i64 (aB (aA i)+1)=aB (aA i')/\asT Int 0=0/\asT Int 0=0/\asT Int 0=0/\asT Int 0=0/\gsq (xsI l) 4=gsq (xsI l) 4/\True)) (ifB (decide (sgn A₂<0)) ((isz (gsq (xsI l) 4)<=1000000000/\True)/\(asT Int 0=0/\asT Int 0=0/\asT Int 0=0/\asT Int 0=0/\asT Int 0=0/\-gsq (xsI l) 4=prG (xsI l) 4/\asT (List Int) (aC Int)=aC Int/\True)/\∀ (i:{ k:Nat // k<=4/\∀ (j:Nat),j<k->okB (prN (xsI l) 4 j)=true }),let aO:=(List.map (prN (xsI l) 4) (List.range (aA i)));let bI:=(List.getD l (aB (aA i)).toNat 0);let aK:=(Int.fdiv bI (prG (xsI l) 4));let bC:=(bif !bT aK then true else decide (aQ aK > 1048576));let bH:=((!bT aK)==false);asT Bool true=true/\ifB (decide (aB (aA i)<4)) ((0<=aB (aA i)/\aB (aA i)<aB l.length/\(isz bI<=400000000/\isz (prG (xsI l) 4)<=400000000/\prG (xsI l) 4≠0)/\True)/\(isz aK<=999999999/\True)/\((bH=true->bH=true/\True)/\((!bT aK)=false->bH=true)/\((bC==false)=true->(bC==false)=true/\True)/\(bC=false->(bC==false)=true)/\True)/\ifB (bif bif !bT aK then true else decide (aQ aK > 1048576) then true else decide (aQ aK < -1048576)) A₀ ((List.length aO+List.length (aQ aK::aC Int)<=1000000000/\True)/\∃ (i':{ k:Nat // k<=4/\∀ (j:Nat),j<k->okB (prN (xsI l) 4 j)=true }),4-aA i'<4-aA i/\IntKind.wrap IntKind.i64 (aB (aA i)+1)=aB (aA i')/\asT Int 0=0/\asT Int 0=0/\asT Int 0=0/\asT Int 0=0/\prG (xsI l) 4=prG (xsI l) 4/\List.map (prN (xsI l) 4) (List.range (aA i))++aQ aK::aC Int=List.map (prN (xsI l) 4) (List.range (aA i'))/\True)) ((asT Int 0<=0/\0<aB aO.length/\0<List.length aO/\asT Int 0<=1/\1<aB aO.length/\1<List.length aO/\asT Int 0<=2/\2<aB aO.length/\2<List.length aO/\asT Int 0<=3/\3<aB aO.length/\3<List.length aO/\True)/\True/\(List.getD aO 0 0,List.getD aO 1 0,List.getD aO 2 0,List.getD aO 3 0,())=Prod.fst (dM (xsI l))/\True/\0=Prod.fst A₁/\True)) ((asT Int 0=0/\asT Int 0=0/\asT Int 0=0/\asT Int 0=0/\asT Int 0=0/\gsq (xsI l) 4=prG (xsI l) 4/\asT (List Int) (aC Int)=aC Int/\True)/\∀ (i:{ k:Nat // k<=4/\∀ (j:Nat),j<k->okB (prN (xsI l) 4 j)=true }),let cZ:=(List.map (prN (xsI l) 4) (List.range (aA i)));let fB:=(List.getD l (aB (aA i)).toNat 0);let bU:=(Int.fdiv fB (prG (xsI l) 4));let dG:=(bif !bT bU then true else decide (aQ bU > 1048576));let fD:=((!bT bU)==false);asT Bool true=true/\ifB (decide (aB (aA i)<4)) ((0<=aB (aA i)/\aB (aA i)<aB l.length/\(isz fB<=400000000/\isz (prG (xsI l) 4)<=400000000/\prG (xsI l) 4≠0)/\True)/\(isz bU<=999999999/\True)/\((fD=true->fD=true/\True)/\((!bT bU)=false->fD=true)/\((dG==false)=true->(dG==false)=true/\True)/\(dG=false->(dG==false)=true)/\True)/\ifB (bif bif !bT bU then true else decide (aQ bU > 1048576) then true else decide (aQ bU < -1048576)) A₀ ((List.length cZ+List.length (aQ bU::aC Int)<=1000000000/\True)/\∃ (i':{ k:Nat // k<=4/\∀ (j:Nat),j<k->okB (prN (xsI l) 4 j)=true }),4-aA i'<4-aA i/\IntKind.wrap IntKind.i64 (aB (aA i)+1)=aB (aA i')/\asT Int 0=0/\asT Int 0=0/\asT Int 0=0/\asT Int 0=0/\prG (xsI l) 4=prG (xsI l) 4/\List.map (prN (xsI l) 4) (List.range (aA i))++aQ bU::aC Int=List.map (prN (xsI l) 4) (List.range (aA i'))/\True)) ((asT Int 0<=0/\0<aB cZ.length/\0<List.length cZ/\asT Int 0<=1/\1<aB cZ.length/\1<List.length cZ/\asT Int 0<=2/\2<aB cZ.length/\2<List.length cZ/\asT Int 0<=3/\3<aB cZ.length/\3<List.length cZ/\True)/\True/\(List.getD cZ 0 0,List.getD cZ 1 0,List.getD cZ 2 0,List.getD cZ 3 0,())=Prod.fst (dM (xsI l))/\True/\0=Prod.fst A₁/\True))))) (by kernel_rfl) ?_;simp only[b4B];try simp only[zP0]
 try dsimp only[aB,asT,aA,aC,Ty.den,Lf.den] at *
 try simp only[zP1]
 try simp only[zP2]
 obtain⟨hl,hb,hn⟩:l.length=4/\(∀ j,j<4->isz (xsI l j)<=400000000)/\∃ j,j<4/\xsI l j≠0:=hp;have hx:∀ j,l.getD j 0=xsI l j:=fun _=>rfl;simp only[hx] at *
 generalize hX:xsI l=X at *
 have gs:∀ k,k<=4->isz (gsq X k)<=1000000000:=fun k hk=>au (EL (K:=400000000) k (fun j hj=>hb j (by omega))) (by omega);have xs:∀ j,j<4->isz (X j)<=1000000000:=fun j hj=>au (hb j hj) (by omega);have g0:prG X 4≠0:=by obtain⟨j,h1,h2⟩:=hn;exact CG h1 h2
 have gI:isz (prG X 4)<=400000000:=a7e hb;have ss:∀ k,sgn (fsq X (k+1))=if sgn (fsq X k)=0 then sgn (X k) else sgn (fsq X k):=fun k=>by
  show sgn (if fsq X k=0 then X k else fsq X k)=_;by_cases h:fsq X k=0
  ·rw[dn h,dn (b3H.mpr h)]
  ·rw[bn h,bn (fun e=>h (b3H.mp e))]
 refine⟨by decide,rfl,fun i=>⟨fun h1=>?a,fun h1=>⟨⟨rfl,by have:=i.2;rw[show i.1=4 by omega]⟩,fun i=>⟨fun h2=>⟨fun h3=>?b,fun h3=>?c⟩,fun h2=>⟨fun h3=>⟨gs 4 (by omega),?d,fun k=>?l⟩,fun h3=>⟨?e,fun k=>?m⟩⟩⟩⟩⟩⟩
 case a=>exact⟨⟨by omega,by omega,gs _ i.2,xs _ (by omega)⟩,⟨i.1+1,by omega⟩,by simp only;omega,by rw[aG (by omega) (by omega)];rfl,rfl⟩
 case b=>exact⟨⟨by omega,by omega,xs _ (by omega)⟩,⟨i.1+1,by omega⟩,by simp only;omega,by rw[ss,dn h3],by rw[aG (by omega) (by omega)];rfl⟩
 case c=>exact⟨⟨i.1+1,by omega⟩,by simp only;omega,by rw[ss,bn h3],by rw[aG (by omega) (by omega)];rfl⟩
 case d =>
  have:=i.2;rw[show i.1=4 by omega] at h3;exact(dn (b3I h3)).symm
 case e =>
  have:=i.2;rw[show i.1=4 by omega] at h3;exact(bn (fun e=>h3 (a9q e))).symm
 all_goals
  have dv:∀ j,j<4->isz ((X j).fdiv (prG X 4))<=400000000:=fun j hj=>au (QN g0 (ES hj)) (hb j hj);refine⟨fun h4=>⟨⟨by omega,by omega,hb _ (by omega),gI,g0⟩,au (dv _ (by omega)) (by omega),fun h5=>?_,fun h5=>⟨?_,⟨k.1+1,by omega,fun j hj=>?_⟩,by simp only;omega,by rw[aG (by omega) (by omega)];rfl,?_⟩⟩,fun h4=>?_⟩
  ·have:dM X=((0,0,0,0,()),3,()):=bn (fun e=>by have:=KP.1 e k.1 (by omega);exact Bool.false_ne_true (h5.symm.trans this));rw[this];exact⟨rfl,rfl⟩
  ·simp only[ny,jr,List.length_cons,List.length_nil];omega
  ·rcases Eb.1 hj with hj|rfl
   ·exact k.2.2 j hj
   ·exact h5
  ·rw[vK h5,wz,Az];rfl
  ·have hk:k.1=4:=by have:=k.2.1;omega
   have:dM X=((prN X 4 0,prN X 4 1,prN X 4 2,prN X 4 3,()),0,()):=dn (KP.2 fun j hj=>k.2.2 j (by omega));rw[this,hk];exact⟨by simp only[ny,jr];omega,rfl,rfl⟩
theorem a3l (q:Rat):q*aH ((q.den:Nat):Int)=aH q.num:=by
 have hd:aH ((q.den:Nat):Int)≠0:=rO (ED _);have a:=jw _ hd;have b:q=aH q.num / aH ((q.den:Nat):Int):=by rw[<-zu];exact(Bz _).symm
 rw[Rat.div_def] at b;have c:q*aH ((q.den:Nat):Int)=aH q.num*(aH ((q.den:Nat):Int))⁻¹*aH ((q.den:Nat):Int):=qw (fun r=>r*aH ((q.den:Nat):Int)) b;rw[c,Rat.mul_assoc,Rat.mul_comm (aH ((q.den:Nat):Int))⁻¹,a,Rat.mul_one]
theorem a8Y {X Y:Nat->Int} (hn:∀ k,k<4->prN Y 4 k=prN X 4 k):dM Y=dM X:=by
 have ho:ok4 Y=ok4 X:=by unfold ok4;simp[wz,hn 0,hn 1,hn 2,hn 3]
 unfold dM;rw[ho,hn 0 (by omega),hn 1 (by omega),hn 2 (by omega),hn 3 (by omega)]
theorem PD {X Y:Nat->Int} {u v:Int} (hu:u≠0) (hv:v≠0) (h:∀ j,j<4->v*Y j=u*X j):dM Y=dM X:=a8Y fun k hk=>ZN (n:=4) hu hv h hk
theorem b2W {q:Nat->Rat} {X:Nat->Int} {c:Rat} (hc:c≠0) (h:∀ j,j<4->q j=c*aH (X j)):dM (clX q)=dM X:=by
 have hD:=rO (a6I q 4);have hr:aH (dY q 4)*c≠0:=fun z=>by rcases yj.1 z with z|z;exact hD z;exact hc z
 have hden:(((aH (dY q 4)*c).den:Nat):Int)≠0:=ED _;refine PD (u:=(aH (dY q 4)*c).num) (v:=(((aH (dY q 4)*c).den:Nat):Int)) (fun z=>hr (Bj.1 z)) hden fun j hj=>?_;have e1:aH (clX q j)=aH (dY q 4)*q j:=by
  have hd:aH ((q j).den:Int)≠0:=rO (ED _);have e4:aH (dY q 4)=aH ((dY q 4).fdiv ((q j).den:Int))*aH ((q j).den:Int):=by rw[<-jI];exact qw aH (Fa (KL hj)).symm
  have e5:q j*aH ((q j).den:Int)=aH (q j).num:=a3l _;show aH ((q j).num*(dY q 4).fdiv ((q j).den:Int))=_;rw[jI,e4,<-e5];grind
 have e2:(aH (dY q 4)*c)*aH (((aH (dY q 4)*c).den:Nat):Int)=aH (aH (dY q 4)*c).num:=a3l _;have e3:aH ((((aH (dY q 4)*c).den:Nat):Int)*clX q j)=aH ((aH (dY q 4)*c).num*X j):=by rw[jI,jI,e1,<-e2,h j hj];grind
 exact Dq.1 e3
theorem c6x {m:MQ} {a b c d:Int} (hm:m33 150000 m) (h:qN a b c d≠0) (he:∀ i,i<3->∀ j,j<3->ent m i j=qR a b c d i j):omT m=dM (qT a b c d):=by obtain⟨k,hk,h0,hn,e⟩:=a3m hm (a3C hm (a1t h) he);rw[e];have r:=fun j (hj:j<4)=>c0x h he hk hj;refine b2W (c:=4*(aH (qN a b c d))⁻¹*aH (qT a b c d k)) (fun z=>hn ?_) r;rw[r k hk,z,Bd]
theorem a7f {X:Nat->Int} {j:Nat} (hj:j<4) (hn:∃ j,j<4/\X j≠0):(prN X 4 j).natAbs<=(X j).natAbs:=by
 obtain⟨i,hi,hz⟩:=hn;have g:=CG hi hz;have e:=Fa (ES (xs:=X) hj);have e2:(X j).natAbs=(prN X 4 j).natAbs*(prG X 4).natAbs:=by rw[<-Ei];exact qw Int.natAbs e.symm
 rw[e2];exact Ed _ (by omega)
theorem CJ {X:Nat->Int} (h:∀ j,j<4->(X j).natAbs<=1048576) (hn:∃ j,j<4/\X j≠0):dM X=((prN X 4 0,prN X 4 1,prN X 4 2,prN X 4 3,()),0,()):=dn (KP.2 fun j hj=>by
 have:=a7f hj hn;have:=h j hj;unfold okB;exact jg (by omega))
noncomputable def c7U:Ctr:=⟨[tI,tI,tI,tI],[jD,tI],fun x=>(aV x.1/\aV x.2.1/\aV x.2.2.1/\aV x.2.2.2.1)/\¬ ((show Int from x.1)=0/\(show Int from x.2.1)=0/\(show Int from x.2.2.1)=0/\(show Int from x.2.2.2.1)=0),fun x=>dM (qT x.1 x.2.1 x.2.2.1 x.2.2.2.1)⟩
theorem a6U:aJ Tryz.prog 110 c7U:=by
 refine aN ((nil0.ad a0p).ad b7i) ⟨[8],[],[]⟩ Tryz.func110 rfl (by decide) (fun x=>[]) (fun x hp=>?_);obtain⟨a,b,c,d,u⟩:=x;change Int at a;change Int at b;change Int at c;change Int at d;refine aP (let A₀:=(a::b::c::d::aC Int);let A₁:=(dM (xsI A₀)).1;(aV a/\aV b/\aV c/\aV d/\(List.length A₀=4/\(∀ (j:Nat),j<4->isz (xsI A₀ j)<=400000000)/\∃ (j:Nat),j<4/\xsI A₀ j≠0)/\True)/\True/\(Prod.fst A₁,Prod.fst A₁.2,Prod.fst A₁.2.2,Prod.fst A₁.2.2.2,())=Prod.fst (dM (qT a b c d))/\True/\Prod.fst (dM (xsI A₀)).2=Prod.fst (dM (qT a b c d)).2/\True) (by kernel_rfl) ?_;try simp only[zP0]
 try dsimp only[aB,asT,aA,aC,Ty.den,Lf.den] at *
 try simp only[zP1]
 try simp only[zP2]
 obtain⟨⟨w1,w2,w3,w4⟩,hn⟩:(aV a/\aV b/\aV c/\aV d)/\¬ (a=0/\b=0/\c=0/\d=0):=hp;have z:∀ n:Int,aV n->isz n<=400000000:=fun n h=>au (BI (k:=3) (by unfold aV at h;unfold BB;omega)) (by omega);refine⟨⟨w1,w2,w3,w4,fun j hj=>?_,?_⟩,rfl,rfl⟩
 ·match j,hj with
  | 0,_=>exact z _ w1
  | 1,_=>exact z _ w2
  | 2,_=>exact z _ w3
  | 3,_=>exact z _ w4
 ·by_cases ha:a=0
  ·by_cases hb:b=0
   ·by_cases hc:c=0
    ·exact⟨3,by omega,fun hd=>hn ⟨ha,hb,hc,hd⟩⟩
    ·exact⟨2,by omega,hc⟩
   ·exact⟨1,by omega,hb⟩
  ·exact⟨0,by omega,ha⟩
def qTv (q:aT):Nat->Int:=qT q.1 q.2.1 q.2.2.1 q.2.2.2.1
noncomputable def c7s:Ctr:=⟨[jD],[jD,tI],fun x=>qOk x.1,fun x=>dM (qTv x.1)⟩
theorem b4Q:aJ Tryz.prog 108 c7s:=by
 refine aN ((nil0.ad a1u).ad a6U) ⟨[2],[],[]⟩ Tryz.func108 rfl (by decide) (fun x=>[]) (fun x hp=>?_);obtain⟨q,u⟩:=x;change aT at q;refine aP (let A₁:=q.2.2;let A₂:=A₁.2.1;let aO:=q.2.1;let A₀:=(dM (qT (asT Int q.1) (asT Int aO) (asT Int A₁.1) (asT Int A₂)));let aK:=A₀.1.2;(qOk q/\True)/\(((aV (asT Int q.1)/\aV (asT Int aO)/\aV (asT Int A₁.1)/\aV (asT Int A₂))/\¬(asT Int q.1=0/\asT Int aO=0/\asT Int A₁.1=0/\asT Int A₂=0))/\True)/\True/\(Prod.fst A₀.1,Prod.fst aK,Prod.fst aK.2,Prod.fst aK.2.2,())=Prod.fst (dM (qTv q))/\True/\Prod.fst A₀.2=Prod.fst (dM (qTv q)).2/\True) (by kernel_rfl) ?_;try simp only[zP0]
 try dsimp only[aB,asT,aA,aC,Ty.den,Lf.den] at *
 try simp only[zP1]
 try simp only[zP2]
 have hq:qOk q:=hp;exact⟨hq,⟨⟨hq.2.1.word,hq.2.2.1.word,hq.2.2.2.1.word,hq.2.2.2.2.word⟩,hq.1⟩,rfl,rfl⟩
noncomputable def c7n:Ctr:=⟨[jD],[jD,tI],fun x=>qOk x.1,fun x=>dM (qT x.1.1 (-(show Int from x.1.2.1)) (-(show Int from x.1.2.2.1)) (-(show Int from x.1.2.2.2.1)))⟩
theorem b4K:aJ Tryz.prog 27 c7n:=by
 refine aN (nil0.ad b4Q) ⟨[2],[],[]⟩ Tryz.func27 rfl (by decide) (fun x=>[]) (fun x hp=>?_);obtain⟨q,u⟩:=x;change aT at q;refine aP (let aK:=q.2.2;let A₀:=(asT Int q.1,IntKind.wrap IntKind.i64 (0-asT Int q.2.1),IntKind.wrap IntKind.i64 (0-asT Int aK.1),IntKind.wrap IntKind.i64 (0-asT Int aK.2.1),());let A₁:=(dM (qT (asT Int q.1) (-asT Int q.2.1) (-asT Int aK.1) (-asT Int aK.2.1)));let A₂:=(dM (qTv A₀)).1;(qOk A₀/\True)/\True/\(Prod.fst A₂,Prod.fst A₂.2,Prod.fst A₂.2.2,Prod.fst A₂.2.2.2,())=Prod.fst A₁/\True/\Prod.fst (dM (qTv A₀)).2=Prod.fst A₁.2/\True) (by kernel_rfl) ?_;try simp only[zP0]
 try dsimp only[aB,asT,aA,aC,Ty.den,Lf.den] at *
 try simp only[zP1]
 try simp only[zP2]
 have hq:qOk q:=hp;obtain⟨h0,h1,⟨a1,a2⟩,⟨b1,b2⟩,c1,c2⟩:=id hq;rw[aG (n:=0-q.2.1) (by omega) (by omega),aG (n:=0-q.2.2.1) (by omega) (by omega),aG (n:=0-q.2.2.2.1) (by omega) (by omega),Int.zero_sub,Int.zero_sub,Int.zero_sub];exact⟨⟨fun h=>h0 ⟨h.1,by have:=h.2.1;dsimp only at this;omega,by have:=h.2.2.1;dsimp only at this;omega,by have:=h.2.2.2;dsimp only at this;omega⟩,h1,⟨by dsimp only;omega,by dsimp only;omega⟩,⟨by dsimp only;omega,by dsimp only;omega⟩,⟨by dsimp only;omega,by dsimp only;omega⟩⟩,rfl,rfl⟩
noncomputable def c7k:Ctr:=⟨[jD,jD],[tI],fun x=>qOk x.1/\qOk x.2.1,fun x=>((0:Int),())⟩
theorem b4C:aJ Tryz.prog 109 c7k:=by
 refine aN (nil0.ad a1u) ⟨[],[],[]⟩ Tryz.func109 rfl (by decide) (fun x=>[]) (fun x hp=>?_);obtain⟨p,q,u⟩:=x;change aT at p;change aT at q;refine aP ((qOk p/\True)/\(qOk q/\True)/\True/\asT Int 0=0/\True) (by kernel_rfl) ?_;try simp only[zP0]
 try dsimp only[aB,asT,aA,aC,Ty.den,Lf.den] at *
 try simp only[zP1]
 try simp only[zP2]
 exact hp
def qmI (p q:aT):Nat->Int:=qT (p.1*q.1-p.2.1*q.2.1-p.2.2.1*q.2.2.1-p.2.2.2.1*q.2.2.2.1) (p.1*q.2.1+p.2.1*q.1+p.2.2.1*q.2.2.2.1-p.2.2.2.1*q.2.2.1) (p.1*q.2.2.1-p.2.1*q.2.2.2.1+p.2.2.1*q.1+p.2.2.2.1*q.2.1) (p.1*q.2.2.2.1+p.2.1*q.2.2.1-p.2.2.1*q.2.1+p.2.2.2.1*q.1)
theorem c9k {a b c d:Int} (ha:a.natAbs<=1099511627776) (hb:b.natAbs<=1099511627776) (hc:c.natAbs<=1099511627776) (hd:d.natAbs<=1099511627776):IntKind.wrap .i64 (IntKind.wrap .i64 (IntKind.wrap .i64 (IntKind.wrap .i64 a-IntKind.wrap .i64 b)-IntKind.wrap .i64 c)-IntKind.wrap .i64 d)=a-b-c-d/\aV (a-b-c-d):=by refine⟨?_,by omega,by omega⟩;rw[aG (n:=a) (by omega) (by omega),aG (n:=b) (by omega) (by omega),aG (n:=c) (by omega) (by omega),aG (n:=d) (by omega) (by omega),aG (n:=a-b) (by omega) (by omega),aG (n:=a-b-c) (by omega) (by omega),aG (by omega) (by omega)]
theorem c9l {a b c d:Int} (ha:a.natAbs<=1099511627776) (hb:b.natAbs<=1099511627776) (hc:c.natAbs<=1099511627776) (hd:d.natAbs<=1099511627776):IntKind.wrap .i64 (IntKind.wrap .i64 (IntKind.wrap .i64 (IntKind.wrap .i64 a+IntKind.wrap .i64 b)+IntKind.wrap .i64 c)-IntKind.wrap .i64 d)=a+b+c-d/\aV (a+b+c-d):=by refine⟨?_,by omega,by omega⟩;rw[aG (n:=a) (by omega) (by omega),aG (n:=b) (by omega) (by omega),aG (n:=c) (by omega) (by omega),aG (n:=d) (by omega) (by omega),aG (n:=a+b) (by omega) (by omega),aG (n:=a+b+c) (by omega) (by omega),aG (by omega) (by omega)]
theorem c9m {a b c d:Int} (ha:a.natAbs<=1099511627776) (hb:b.natAbs<=1099511627776) (hc:c.natAbs<=1099511627776) (hd:d.natAbs<=1099511627776):IntKind.wrap .i64 (IntKind.wrap .i64 (IntKind.wrap .i64 (IntKind.wrap .i64 a-IntKind.wrap .i64 b)+IntKind.wrap .i64 c)+IntKind.wrap .i64 d)=a-b+c+d/\aV (a-b+c+d):=by refine⟨?_,by omega,by omega⟩;rw[aG (n:=a) (by omega) (by omega),aG (n:=b) (by omega) (by omega),aG (n:=c) (by omega) (by omega),aG (n:=d) (by omega) (by omega),aG (n:=a-b) (by omega) (by omega),aG (n:=a-b+c) (by omega) (by omega),aG (by omega) (by omega)]
theorem c9n {a b c d:Int} (ha:a.natAbs<=1099511627776) (hb:b.natAbs<=1099511627776) (hc:c.natAbs<=1099511627776) (hd:d.natAbs<=1099511627776):IntKind.wrap .i64 (IntKind.wrap .i64 (IntKind.wrap .i64 (IntKind.wrap .i64 a+IntKind.wrap .i64 b)-IntKind.wrap .i64 c)+IntKind.wrap .i64 d)=a+b-c+d/\aV (a+b-c+d):=by refine⟨?_,by omega,by omega⟩;rw[aG (n:=a) (by omega) (by omega),aG (n:=b) (by omega) (by omega),aG (n:=c) (by omega) (by omega),aG (n:=d) (by omega) (by omega),aG (n:=a+b) (by omega) (by omega),aG (n:=a+b-c) (by omega) (by omega),aG (by omega) (by omega)]
theorem c6A {p q:aT} (hp:¬ (p.1=0/\p.2.1=0/\p.2.2.1=0/\p.2.2.2.1=0)) (hq:¬ (q.1=0/\q.2.1=0/\q.2.2.1=0/\q.2.2.2.1=0)):¬ (p.1*q.1-p.2.1*q.2.1-p.2.2.1*q.2.2.1-p.2.2.2.1*q.2.2.2.1=0/\p.1*q.2.1+p.2.1*q.1+p.2.2.1*q.2.2.2.1-p.2.2.2.1*q.2.2.1=0/\p.1*q.2.2.1-p.2.1*q.2.2.2.1+p.2.2.1*q.1+p.2.2.2.1*q.2.1=0/\p.1*q.2.2.2.1+p.2.1*q.2.2.1-p.2.2.1*q.2.1+p.2.2.2.1*q.1=0):=fun⟨h0,h1,h2,h3⟩=>by
 have a:=lW hp;have b:=lW hq;have c:=Int.mul_pos a b;unfold qN at c;generalize p.1=x at *
 generalize p.2.1=y at *
 generalize p.2.2.1=z at *
 generalize p.2.2.2.1=w at *
 generalize q.1=t at *
 generalize q.2.1=u at *
 generalize q.2.2.1=v at *
 generalize q.2.2.2.1=s at *
 have e:(x*x+y*y+z*z+w*w)*(t*t+u*u+v*v+s*s)=(x*t-y*u-z*v-w*s)*(x*t-y*u-z*v-w*s)+(x*u+y*t+z*s-w*v)*(x*u+y*t+z*s-w*v)+(x*v-y*s+z*t+w*u)*(x*v-y*s+z*t+w*u)+(x*s+y*v-z*u+w*t)*(x*s+y*v-z*u+w*t):=by clear h0 h1 h2 h3 a b c hp hq;grind
 rw[e,h0,h1,h2,h3] at c;simp at c
noncomputable def c7S:Ctr:=⟨[jD,jD],[jD,tI],fun x=>qOk x.1/\qOk x.2.1,fun x=>dM (qmI x.1 x.2.1)⟩
theorem b5Y:aJ Tryz.prog 28 c7S:=by
 refine aN ((nil0.ad a6U).ad b4C) ⟨[4],[],[]⟩ Tryz.func28 rfl (by decide) (fun x=>[]) (fun x hp=>?_);obtain⟨p,q,u⟩:=x;change aT at p;change aT at q;refine aP (let bC:=p.2.2;let bI:=q.2.2;let bH:=bC.2.1;let bU:=bI.2.1;let cZ:=p.2.1;let dG:=q.2.1;let A₁:=(IntKind.wrap IntKind.i64 (IntKind.wrap IntKind.i64 (IntKind.wrap IntKind.i64 (asT Int p.1*asT Int q.1)-IntKind.wrap IntKind.i64 (asT Int cZ*asT Int dG))-IntKind.wrap IntKind.i64 (asT Int bC.1*asT Int bI.1))-IntKind.wrap IntKind.i64 (asT Int bH*asT Int bU));let A₂:=(IntKind.wrap IntKind.i64 (IntKind.wrap IntKind.i64 (IntKind.wrap IntKind.i64 (asT Int p.1*asT Int dG)+IntKind.wrap IntKind.i64 (asT Int cZ*asT Int q.1))+IntKind.wrap IntKind.i64 (asT Int bC.1*asT Int bU))-IntKind.wrap IntKind.i64 (asT Int bH*asT Int bI.1));let aK:=(IntKind.wrap IntKind.i64 (IntKind.wrap IntKind.i64 (IntKind.wrap IntKind.i64 (asT Int p.1*asT Int bI.1)-IntKind.wrap IntKind.i64 (asT Int cZ*asT Int bU))+IntKind.wrap IntKind.i64 (asT Int bC.1*asT Int q.1))+IntKind.wrap IntKind.i64 (asT Int bH*asT Int dG));let aO:=(IntKind.wrap IntKind.i64 (IntKind.wrap IntKind.i64 (IntKind.wrap IntKind.i64 (asT Int p.1*asT Int bU)+IntKind.wrap IntKind.i64 (asT Int cZ*asT Int bI.1))-IntKind.wrap IntKind.i64 (asT Int bC.1*asT Int dG))+IntKind.wrap IntKind.i64 (asT Int bH*asT Int q.1));let fD:=(IntKind.wrap IntKind.i64 A₁);let gB:=(IntKind.wrap IntKind.i64 A₂);let fE:=(IntKind.wrap IntKind.i64 aK);let iU:=(IntKind.wrap IntKind.i64 aO);let A₀:=(dM (qT fD gB fE iU));let fB:=A₀.1.2;((qOk p/\qOk q)/\True)/\(((aV fD/\aV gB/\aV fE/\aV iU)/\¬(IntKind.wrap IntKind.i64 A₁=0/\IntKind.wrap IntKind.i64 A₂=0/\IntKind.wrap IntKind.i64 aK=0/\IntKind.wrap IntKind.i64 aO=0))/\True)/\True/\(Prod.fst A₀.1,Prod.fst fB,Prod.fst fB.2,Prod.fst fB.2.2,())=Prod.fst (dM (qmI p q))/\True/\Prod.fst A₀.2=Prod.fst (dM (qmI p q)).2/\True) (by kernel_rfl) ?_;try simp only[zP0]
 try dsimp only[aB,asT,aA,aC,Ty.den,Lf.den] at *
 try simp only[zP1]
 try simp only[zP2]
 obtain⟨hP,hQ⟩:qOk p/\qOk q:=hp;obtain⟨p0,p1,p2,p3,p4⟩:=id hP;obtain⟨q0,q1,q2,q3,q4⟩:=id hQ;have nz:=c6A p0 q0;have m11:=p1.mul q1;have m12:=p1.mul q2;have m13:=p1.mul q3;have m14:=p1.mul q4;have m21:=p2.mul q1;have m22:=p2.mul q2;have m23:=p2.mul q3;have m24:=p2.mul q4;have m31:=p3.mul q1;have m32:=p3.mul q2;have m33:=p3.mul q3;have m34:=p3.mul q4;have m41:=p4.mul q1;have m42:=p4.mul q2;have m43:=p4.mul q3;have m44:=p4.mul q4;unfold qmI;generalize p.1*q.1=x11 at *
 generalize p.1*q.2.1=x12 at *
 generalize p.1*q.2.2.1=x13 at *
 generalize p.1*q.2.2.2.1=x14 at *
 generalize p.2.1*q.1=x21 at *
 generalize p.2.1*q.2.1=x22 at *
 generalize p.2.1*q.2.2.1=x23 at *
 generalize p.2.1*q.2.2.2.1=x24 at *
 generalize p.2.2.1*q.1=x31 at *
 generalize p.2.2.1*q.2.1=x32 at *
 generalize p.2.2.1*q.2.2.1=x33 at *
 generalize p.2.2.1*q.2.2.2.1=x34 at *
 generalize p.2.2.2.1*q.1=x41 at *
 generalize p.2.2.2.1*q.2.1=x42 at *
 generalize p.2.2.2.1*q.2.2.1=x43 at *
 generalize p.2.2.2.1*q.2.2.2.1=x44 at *
 obtain⟨r0,s0⟩:=c9k m11 m22 m33 m44;obtain⟨r1,s1⟩:=c9l m12 m21 m34 m43;obtain⟨r2,s2⟩:=c9m m13 m24 m31 m42;obtain⟨r3,s3⟩:=c9n m14 m23 m32 m41;rw[r0,r1,r2,r3];exact⟨⟨hP,hQ⟩,⟨⟨s0,s1,s2,s3⟩,nz⟩,rfl,rfl⟩
def a4G (q:aI):Prop:=q.ok=true/\rsz q.x<=1000000
noncomputable def c8s:Ctr:=⟨[tR],[tB],fun x=>a4G x.1,fun x=>(nzQ x.1,())⟩
theorem a7P:aJ Tryz.prog 168 c8s:=by
 refine aN (nil0.ad tY) ⟨[],[],[]⟩ Tryz.func168 rfl (by decide) (fun x=>[]) (fun x hp=>?_);obtain⟨q,u⟩:=x;change aI at q;refine aP ((aI.ok q=true/\rsz (aI.x q)<=1000000000/\True)/\True/\(sgn (Rat.num (aI.x q)) != 0)=nzQ q/\True) (by kernel_rfl) ?_;try simp only[zP0]
 try dsimp only[aB,asT,aA,aC,Ty.den,Lf.den] at *
 try simp only[zP1]
 try simp only[zP2]
 exact⟨⟨hp.1,au hp.2 (by omega)⟩,b3J _⟩
noncomputable def c5j:Ctr:=⟨[.list tR,.clo 168 .unit],[tI],fun x=>(show List (aI) from x.1).length<=1000000/\∀ q ∈ (show List (aI) from x.1),a4G q,fun x=>(pI nzQ (show List (aI) from x.1),())⟩
theorem b1T:aJ Tryz.prog 211 c5j:=by
 refine aN (nil0.ad a7P) ⟨[],[],[]⟩ Tryz.func211 rfl (by decide) (fun x=>[.inv {k:Nat // k<=(show List (aI) from x.1).length/\((show List (aI) from x.1).take k).any nzQ=false} (fun k=>[(8,.val tI (k.1:Int))]) (fun k=>[]) (fun k=>(show List (aI) from x.1).length-k.1) ⟨0,by omega,rfl⟩ (fun _=>[])]) (fun x hp=>?_);obtain⟨x,c,u⟩:=x;change List (aI) at x;change Unit at c;refine aP ((asT Int 0=0/\True)/\∀ (i:{ k:Nat // k<=List.length x/\List.any (List.take k x) nzQ=false }),asT Bool true=true/\ifB (decide (aB (aA i)<aB x.length)) ((0<=aB (aA i)/\aB (aA i)<aB x.length/\a4G (List.getD x (aB (aA i)).toNat bP)/\True)/\ifB (nzQ (List.getD x (aB (aA i)).toNat bP)) (True/\aB (aA i)=pI nzQ x/\True) (∃ (i':{ k:Nat // k<=List.length x/\List.any (List.take k x) nzQ=false }),List.length x-aA i'<List.length x-aA i/\IntKind.wrap IntKind.i64 (aB (aA i)+1)=aB (aA i')/\True)) (True/\-1=pI nzQ x/\True)) (by kernel_rfl) ?_;try simp only[zP0]
 try dsimp only[aB,asT,aA,aC,Ty.den,Lf.den] at *
 try simp only[zP1]
 try simp only[zP2]
 have hp:x.length<=1000000/\∀ q ∈ x,a4G q:=hp;obtain⟨hl,hb⟩:=hp;refine fun i=>⟨fun h1=>⟨(by first|exact⟨by omega,h1,cO hb (by omega)⟩|exact⟨by omega,h1⟩),fun h2=>?_,fun h2=>⟨⟨i.1+1,by omega,?_⟩,by simp only;omega,?_⟩⟩,fun h1=>?_⟩
 ·exact(xI (d:=bP) (by omega) i.2.2 (by first|exact h2|rw[h2];rfl)).symm
 ·rw[jL (d:=bP) (by omega),i.2.2,h2];rfl
 ·rw[aG (by omega) (by omega)];rfl
 ·have h3:=i.2.2;rw[jf (by omega)] at h3;exact(EG h3).symm
noncomputable def c4T:Ctr:=⟨[.list tR,.clo 168 .unit],[tB],fun x=>(show List (aI) from x.1).length<=1000000/\∀ q ∈ (show List (aI) from x.1),a4G q,fun x=>((show List (aI) from x.1).any nzQ,())⟩
theorem b0u:aJ Tryz.prog 123 c4T:=by refine aN ((nil0.ad a7P).ad b1T) ⟨[],[],[]⟩ Tryz.func123 rfl (by decide) (fun x=>[]) (fun x hp=>?_);obtain⟨x,c,u⟩:=x;change List (aI) at x;change Unit at c;refine aP (((List.length x<=1000000/\∀ (q:aI),q ∈ x->a4G q)/\True)/\True/\decide (pI nzQ x ≥ 0)=List.any x nzQ/\True) (by kernel_rfl) ?_;exact⟨⟨hp,trivial⟩,trivial,xJ _ _,trivial⟩
def bgP (e:MQ):Prop:=m33 12000 e/\∃ i j,i<3/\j<3/\ent e i j≠0
noncomputable def c8t:Ctr:=⟨[tM],[tB],fun x=>bgP x.1,fun _=>(true,())⟩
theorem a7R:aJ Tryz.prog 84 c8t:=by
 refine aN (((nil0.ad qX).ad a2i).ad b0u) ⟨[],[],[]⟩ Tryz.func84 rfl (by decide) (fun x=>[]) (fun x hp=>?_);obtain⟨e,u⟩:=x;change MQ at e;refine aP (let A₂:=((aB e.length != 3)==false);let aK:=(fun(x:Ty.den (Ty.list (Ty.lf Lf.rat)))=>dH (fV (fun(x:Ty.den (Ty.lf Lf.rat))=>dH (aC Cd)) x::aC Cd));let aO:=(fun(xs:Ty.den (Ty.list (Ty.lf Lf.rat)))=>List.map (fun(x:Ty.den (Ty.lf Lf.rat))=>dK x) xs);let A₀:=(List.map aO e);let bC:=(bif aB e.length != 3 then true else nI A₀ != 0);let A₁:=(bC==false);let bI:=(A₁=true->A₁=true/\True);((A₂=true->A₂=true/\fV aK e/\rH A₀/\True)/\(A₂=true->A₂=true/\True)/\((aB e.length != 3)=false->A₂=true)/\(A₁=true->A₁=true/\asT Int 0<=0/\0<aB e.length/\True)/\bI/\bI/\bI/\(bC=false->A₁=true)/\True)/\ifB (bif bif aB e.length != 3 then true else nI A₀ != 0 then true else aB (List.getD e 0 (aC Rat)).length != 3) (True/\asT Bool false=true/\True) ((fV aK e/\(List.length A₀<=1000/\∀ (r:List aI),r ∈ List.map aO e->List.length r<=1000)/\(List.length (List.flatten A₀)<=1000000/\∀ (q:aI),q ∈ List.flatten A₀->a4G q)/\True)/\True/\List.any (List.flatten A₀) nzQ=true/\True)) (by kernel_rfl) ?_;try simp only[zP0]
 try dsimp only[aB,asT,aA,aC,Ty.den,Lf.den] at *
 try simp only[zP1]
 try simp only[zP2]
 have hP:bgP e:=hp;have o1:=(hP.1.mono (show 12000<=1000000 by omega)).ok (aj _);have l3:=hP.1.1.len;have r3:∀ r ∈ List.map (fun xs=>List.map (fun x=>dK x) xs) e,r.length=3:=fun r hr=>by obtain⟨s,hs,rfl⟩:=jq.1 hr;rw[ny];exact hP.1.1.2.1 s hs
 have hc:nI (List.map (fun xs=>List.map (fun x=>dK x) xs) e)=0:=o1.1.chk;have l0:=(hP.1.rows.2 0 (by omega)).1;have ac:fV (fun x:List Rat=>dH [⟨fV (fun _:Rat=>dH []) x,Dc.d⟩]) e:=iW.mpr fun x _=>⟨iW.mpr fun _ _=>trivial,trivial⟩;rw[hc,l3,l0];refine⟨⟨fun _=>⟨rfl,ac,o1.1.short⟩,fun _=>⟨⟨rfl,rfl⟩,by omega,by omega⟩⟩,fun h=>?_,fun _=>⟨⟨ac,⟨by rw[ny,l3];omega,fun r hr=>by rw[r3 r hr];omega⟩,?_,fun q hq=>?_⟩,?_⟩⟩
 ·rcases h with(h|h)|h
  ·exact absurd rfl h
  ·exact absurd rfl h
  ·exact absurd rfl h
 ·have:=a0T (K:=3) (x:=List.map (fun xs=>List.map (fun x=>dK x) xs) e) fun r hr=>by rw[r3 r hr];omega
  rw[ny,l3] at this;omega
 ·obtain⟨r,hr,hq⟩:=Df.1 hq;obtain⟨s,hs,rfl⟩:=jq.1 hr;obtain⟨y,hy,rfl⟩:=jq.1 hq;exact⟨rfl,au (hP.1.flat.2 y (Df.2 ⟨s,hs,hy⟩)) (by omega)⟩
 ·obtain⟨i,j,hi,hj,hz⟩:=hP.2;have m1:e.getD i [] ∈ e:=jH (by omega);have m2:(e.getD i []).getD j 0 ∈ e.getD i []:=jH (by rw[(hP.1.rows.2 i hi).1];exact hj);exact yx.2 ⟨dK ((e.getD i []).getD j 0),Df.2 ⟨_,jq.2 ⟨_,m1,rfl⟩,jq.2 ⟨_,m2,rfl⟩⟩,jg hz⟩
def esM (f:MQ) (a b:dQ):MQ:=mulM (mulM (trM (fJ b)) f) (fJ a)
noncomputable def c7G:Ctr:=⟨[tM,FU,FU],[tM,tI],fun x=>bgP x.1/\(iG x.2.1/\iG x.2.2.1)/\oO [x.2.1,x.2.2.1]=0/\vN (esM x.1 x.2.1 x.2.2.1).flatten,fun x=>(sU (esM x.1 x.2.1 x.2.2.1).flatten,(0:Int),())⟩
theorem b0X:aJ Tryz.prog 26 c7G:=by
 refine aN (((((((nil0.ad a7R).ad a7m).ad a6t).ad LM).ad KU).ad SN).ad a2d) ⟨[],[],[]⟩ Tryz.func26 rfl (by decide) (fun x=>[]) (fun x hp=>?_);obtain⟨f,a,b,u⟩:=x;change MQ at f;change dQ at a;change dQ at b;refine aP (let aK:=(a::b::aC ((Int × Int × Int × PUnit) × (Int × Int × Int × Int × PUnit) × Int × (Int × Int × PUnit) × PUnit));let aO:=(fun(xs:Ty.den (Ty.list (Ty.lf Lf.rat)))=>List.map (fun(x:Ty.den (Ty.lf Lf.rat))=>dK x) xs);let bC:=(stk (fJ b).length (trM (fJ b)));let bI:=b.2.2.2.1;let bH:=a.2.2.2.1;let cZ:=(f::fJ a::aC (List (List Rat)));let A₁:=(stk bC.length (iT bC cZ));let A₀:=(List.map aO A₁);let bU:=(stk A₀.length (List.flatten A₀));let A₂:=(List.map (fun(x:Ty.den (Ty.lf Lf.fO))=>aI.x x) bU);(bgP f/\True)/\(List.length aK<=1000000/\True)/\ifB (oO aK != 0) (True/\aC (List Rat)=sU (List.flatten (esM f a b))/\True/\oO aK=0/\True) (((aV (asT Int b.2.2.1)/\aV (asT Int bI.1)/\aV (asT Int bI.2.1))/\okM (fJ b)/\(aV (asT Int a.2.2.1)/\aV (asT Int bH.1)/\aV (asT Int bH.2.1))/\tJ bC cZ/\fV (fun(x:Ty.den (Ty.list (Ty.lf Lf.rat)))=>dH (fV (fun(x:Ty.den (Ty.lf Lf.rat))=>dH (aC Cd)) x::aC Cd)) A₁/\(List.length A₀<=1000/\∀ (r:List aI),r ∈ List.map aO A₁->List.length r<=1000)/\fV (fun(x:Ty.den (Ty.lf Lf.fO))=>dH ((aI.ok x=true)::aC Cd)) bU/\(vN A₂/\List.length A₂=9)/\True)/\True/\stk A₂.length (sU A₂)=sU (List.flatten (esM f a b))/\True/\asT Int 0=0/\True)) (by kernel_rfl) ?_;simp only[OB];try simp only[zP0]
 try dsimp only[aB,asT,aA,aC,Ty.den,Lf.den] at *
 try simp only[zP1]
 try simp only[zP2]
 obtain⟨hf,⟨ha,hb⟩,hc,hpr⟩:bgP f/\(iG a/\iG b)/\oO [a,b]=0/\vN (esM f a b).flatten:=hp;have wk:∀ s:dQ,iG s->aV s.2.2.1/\aV s.2.2.2.1.1/\aV s.2.2.2.1.2.1:=fun s h=>⟨⟨by have:=h.2.2.1;omega,by have:=h.2.2.1;omega⟩,h.2.2.2.1.word,h.2.2.2.2.word⟩;have ma:m33 1 (fJ a):=⟨jB a,(JA ha).sz (aj _)⟩;have mb:m33 1 (fJ b):=⟨jB b,(JA hb).sz (aj _)⟩;have x1:m33 40000 (mulM (trM (fJ b)) f):=(BR mb.tr hf.1).mono (by omega);have x2:m33 200000 (esM f a b):=(BR x1 ma).mono (by omega);have e1:iT (trM (fJ b)) [f,fJ a]=esM f a b:=rfl;have pp:tJ (trM (fJ b)) [f,fJ a]:=⟨by show 2<=1000;omega,fun n hn=>by
  simp only[jh,Ci,or_false] at hn;rcases hn with rfl|rfl
  ·exact hf.1.mono (by omega)
  ·exact ma.mono (by omega),fun k hk=>by
  have hk:k<=2:=hk;have e1:k=0\/k=1\/k=2:=by omega
  rcases e1 with rfl|rfl|rfl<;>simp only[List.take_zero,List.take_succ_cons,xX,vO]
  ·exact mb.tr.mono (by omega)
  ·exact x1.mono (by omega)
  ·exact x2.mono (by omega)⟩
 rw[e1];have ob:=((mb.mono (show 1<=1000000 by omega)).ok (aj _)).1;have ll:=UH x2;generalize esM f a b=E at *
 refine⟨hf,by omega,fun h=>absurd hc h,fun _=>⟨⟨wk b hb,ob,wk a ha,pp,rJ _,ll,a1k E,by rw[oW];exact hpr,by rw[oW];exact x2.flat.1⟩,by rw[oW]⟩⟩
def trV (N:Mt) (d:Nat->Rat) (i:Nat):Rat:=N 0 i*d 0+N 1 i*d 1+N 2 i*d 2
theorem a1y {N:Mt} (h:Rot N) (d:Nat->Rat) {i j:Nat} (hi:i<3) (hj:j<3):N 0 i*(crE d 0 0*N 0 j+crE d 0 1*N 1 j+crE d 0 2*N 2 j)+N 1 i*(crE d 1 0*N 0 j+crE d 1 1*N 1 j+crE d 1 2*N 2 j)+N 2 i*(crE d 2 0*N 0 j+crE d 2 1*N 1 j+crE d 2 2*N 2 j)=crE (trV N d) i j:=by
 have c:=fun i j (hi:i<3) (hj:j<3)=>RG h hi hj;have c00:=c 0 0 (by omega) (by omega);have c01:=c 0 1 (by omega) (by omega);have c02:=c 0 2 (by omega) (by omega);have c10:=c 1 0 (by omega) (by omega);have c11:=c 1 1 (by omega) (by omega);have c12:=c 1 2 (by omega) (by omega);have c20:=c 2 0 (by omega) (by omega);have c21:=c 2 1 (by omega) (by omega);have c22:=c 2 2 (by omega) (by omega);unfold sV at c00 c01 c02 c10 c11 c12 c20 c21 c22;simp only[Nat.reduceAdd,Nat.reduceMod] at c00 c01 c02 c10 c11 c12 c20 c21 c22;clear c h;rcases three hi with rfl|rfl|rfl<;>rcases three hj with rfl|rfl|rfl<;>simp only[crE,trV]
 ·grind
 ·rw[<-c02,<-c12,<-c22];clear c00 c01 c02 c10 c11 c12 c20 c21 c22;grind
 ·rw[<-c01,<-c11,<-c21];clear c00 c01 c02 c10 c11 c12 c20 c21 c22;grind
 ·rw[<-c02,<-c12,<-c22];clear c00 c01 c02 c10 c11 c12 c20 c21 c22;grind
 ·grind
 ·rw[<-c00,<-c10,<-c20];clear c00 c01 c02 c10 c11 c12 c20 c21 c22;grind
 ·rw[<-c01,<-c11,<-c21];clear c00 c01 c02 c10 c11 c12 c20 c21 c22;grind
 ·rw[<-c00,<-c10,<-c20];clear c00 c01 c02 c10 c11 c12 c20 c21 c22;grind
 ·grind
set_option maxHeartbeats 1000000
theorem c6v {α:Type}:∀ {l:List α},l.length=9->∃ a b c d e f g h i,l=[a,b,c,d,e,f,g,h,i]
 | [a,b,c,d,e,f,g,h,i],_=>⟨a,b,c,d,e,f,g,h,i,rfl⟩
theorem b4H {l:LQ'} (h9:l.length=9) {i j:Nat} (hi:i<3) (hj:j<3):ent (sU l) i j=aH ((mY l).getD (3*i+j) 0):=by obtain⟨a,b,c,d,e,f,g,h,k,hl⟩:=c6v (l:=mY l) (by rw[KW,h9]);unfold sU;rw[hl];rcases three hi with rfl|rfl|rfl<;>rcases three hj with rfl|rfl|rfl<;>rfl
theorem a5L {K:Nat} {m:MQ} (hm:m33 K m) (h:vN m.flatten):∃ c:Rat,c≠0/\∀ i,i<3->∀ j,j<3->ent m i j=c*ent (sU m.flatten) i j:=by obtain⟨c,hc,hp⟩:=a7k h;have h9:=hm.flat.1;refine⟨c,hc,fun i hi j hj=>?_⟩;rw[b4H h9 hi hj,<-hp (3*i+j) (by rw[h9];omega)];obtain⟨a,b,d,e,f,g,k,n,o,rfl⟩:=hm.form;rcases three hi with rfl|rfl|rfl<;>rcases three hj with rfl|rfl|rfl<;>rfl
theorem b0d {K L:Nat} {m n:MQ} {c:Rat} (hc:c≠0) (hm:m33 K m) (hn:m33 L n) (h:∀ i,i<3->∀ j,j<3->ent m i j=c*ent n i j):sU m.flatten=sU n.flatten:=by
 have e:mY m.flatten=mY n.flatten:=by
  unfold mY;rw[hm.flat.1,hn.flat.1];refine a8Z hc fun j hj=>?_;obtain⟨a,b,d,e,f,g,k,p,o,rfl⟩:=hm.form;obtain⟨a',b',d',e',f',g',k',p',o',rfl⟩:=hn.form
  match j,hj with
  | 0,_=>exact h 0 (by omega) 0 (by omega)
  | 1,_=>exact h 0 (by omega) 1 (by omega)
  | 2,_=>exact h 0 (by omega) 2 (by omega)
  | 3,_=>exact h 1 (by omega) 0 (by omega)
  | 4,_=>exact h 1 (by omega) 1 (by omega)
  | 5,_=>exact h 1 (by omega) 2 (by omega)
  | 6,_=>exact h 2 (by omega) 0 (by omega)
  | 7,_=>exact h 2 (by omega) 1 (by omega)
  | 8,_=>exact h 2 (by omega) 2 (by omega)
 unfold sU;rw[e]
set_option maxHeartbeats 4000000
theorem b8B (B F A:Mt) (i j:Nat):mm 3 (mm 3 (tr B) F) A i j=dt 3 (fun k=>B k i) (mv 3 F fun l=>A l j):=by unfold mm dt mv tr;simp only[sm3];grind
theorem b3a {q:aT} (h:qOk q) {i j:Nat} (hi:i<3) (hj:j<3):qE q 0 i*qE q 0 j+qE q 1 i*qE q 1 j+qE q 2 i*qE q 2 j=qZ i j:=by have:=b3c (a:=q.1) (b:=q.2.1) (c:=q.2.2.1) (d:=q.2.2.2.1) (by have:=lW h.1;omega) hi hj;rw[sm3] at this;exact this
theorem b0x {A M:Mt} {j:Nat} (h:∀ i,i<3->M 0 i*M 0 j+M 1 i*M 1 j+M 2 i*M 2 j=qZ i j) (hj:j<3) (c:Nat):mv 3 A (mv 3 (tr M) fun l=>M l j) c=A c j:=by have h0:=h 0 (by omega);have h1:=h 1 (by omega);have h2:=h 2 (by omega);unfold mv tr;simp only[sm3];rw[h0,h1,h2];clear h h0 h1 h2;rcases three hj with rfl|rfl|rfl<;>simp only[qZ,Nat.reduceEqDiff,↓reduceIte]<;>grind
theorem c0J {a b:dQ} (ha:iG a) (hb:iG b) {i j:Nat} (hi:i<3) (hj:j<3):ent (esM (FM a b) a b) i j=dt 3 (fun k=>qE b.2.1 k i) (mv 3 (crE (lv (eH a b))) fun l=>qE a.2.1 l j):=by
 have hk:∀ s:dQ,∀ i,i<3->∀ j,j<3->ent (fJ s) i j=stK s i j:=fun s i hi j hj=>by rw[EO];exact eF hi hj
 have e1:=JK (jB b) (hk b);have e2:=nR (jB b).trp (a4a a b) e1 (a9G a b);have e3:=nR ((jB b).trp.mul (a4a a b)) (jB a) e2 (hk a) i hi j hj;show ent (mulM (mulM (trM (fJ b)) (FM a b)) (fJ a)) i j=_;rw[e3,b8B];have bil:=a6c (T:=crE (lv (eH a b))) (a1b ha) (a1b hb) (QW hb.2.1) (QW ha.2.1) (fun l=>qE a.2.1 l j) (fun k=>qE b.2.1 k i);rw[TA (fun c hc=>b0x (fun m hm=>b3a hb.2.1 hm hi) hi c),a2n (fun c _=>UQ fun m _=>b0x (fun l hl=>b3a ha.2.1 hl hj) hj m)] at bil;exact bil
theorem b9r {a b:dQ} (ha:iG a) (hb:iG b) {i j:Nat} (hi:i<3) (hj:j<3):dt 3 (fun k=>qE b.2.1 k i) (mv 3 (crE (lv (eH a b))) fun l=>qE a.2.1 l j)=crE (trV (qE b.2.1) (lv (eH a b))) i 0*qrR b.2.1 a.2.1 0 j+crE (trV (qE b.2.1) (lv (eH a b))) i 1*qrR b.2.1 a.2.1 1 j+crE (trV (qE b.2.1) (lv (eH a b))) i 2*qrR b.2.1 a.2.1 2 j:=by
 have nb:qN b.2.1.1 b.2.1.2.1 b.2.1.2.2.1 b.2.1.2.2.2.1≠0:=by have:=lW hb.2.1.1;omega
 have na:qN a.2.1.1 a.2.1.2.1 a.2.1.2.2.1 a.2.1.2.2.2.1≠0:=by have:=lW ha.2.1.1;omega
 have hR:Rot (qE b.2.1):=a1t nb;rw[<-a1y hR (lv (eH a b)) hi (j:=0) (by omega),<-a1y hR (lv (eH a b)) hi (j:=1) (by omega),<-a1y hR (lv (eH a b)) hi (j:=2) (by omega),<-a4R nb na (i:=0) (by omega) hj,<-a4R nb na (i:=1) (by omega) hj,<-a4R nb na (i:=2) (by omega) hj];have r:=fun l m (hl:l<3) (hm:m<3)=>hR.1 l hl m hm;have key:∀ l,l<3->qE b.2.1 l 0*(qE b.2.1 0 0*qE a.2.1 0 j+qE b.2.1 1 0*qE a.2.1 1 j+qE b.2.1 2 0*qE a.2.1 2 j)+qE b.2.1 l 1*(qE b.2.1 0 1*qE a.2.1 0 j+qE b.2.1 1 1*qE a.2.1 1 j+qE b.2.1 2 1*qE a.2.1 2 j)+qE b.2.1 l 2*(qE b.2.1 0 2*qE a.2.1 0 j+qE b.2.1 1 2*qE a.2.1 1 j+qE b.2.1 2 2*qE a.2.1 2 j)=qE a.2.1 l j:=fun l hl=>by
  have r0:=r l 0 hl (by omega);have r1:=r l 1 hl (by omega);have r2:=r l 2 hl (by omega);have e:qE b.2.1 l 0*(qE b.2.1 0 0*qE a.2.1 0 j+qE b.2.1 1 0*qE a.2.1 1 j+qE b.2.1 2 0*qE a.2.1 2 j)+qE b.2.1 l 1*(qE b.2.1 0 1*qE a.2.1 0 j+qE b.2.1 1 1*qE a.2.1 1 j+qE b.2.1 2 1*qE a.2.1 2 j)+qE b.2.1 l 2*(qE b.2.1 0 2*qE a.2.1 0 j+qE b.2.1 1 2*qE a.2.1 1 j+qE b.2.1 2 2*qE a.2.1 2 j)=(qE b.2.1 l 0*qE b.2.1 0 0+qE b.2.1 l 1*qE b.2.1 0 1+qE b.2.1 l 2*qE b.2.1 0 2)*qE a.2.1 0 j+(qE b.2.1 l 0*qE b.2.1 1 0+qE b.2.1 l 1*qE b.2.1 1 1+qE b.2.1 l 2*qE b.2.1 1 2)*qE a.2.1 1 j+(qE b.2.1 l 0*qE b.2.1 2 0+qE b.2.1 l 1*qE b.2.1 2 1+qE b.2.1 l 2*qE b.2.1 2 2)*qE a.2.1 2 j:=by clear r0 r1 r2 r;grind
  rw[e,r0,r1,r2];clear r0 r1 r2 r e;rcases three hl with rfl|rfl|rfl<;>simp only[qZ,Nat.reduceEqDiff,↓reduceIte]<;>grind
 have k0:=key 0 (by omega);have k1:=key 1 (by omega);have k2:=key 2 (by omega);unfold dt mv;simp only[sm3];clear key r hR na nb;revert k0 k1 k2;generalize qE b.2.1 0 0*qE a.2.1 0 j+qE b.2.1 1 0*qE a.2.1 1 j+qE b.2.1 2 0*qE a.2.1 2 j=R0;generalize qE b.2.1 0 1*qE a.2.1 0 j+qE b.2.1 1 1*qE a.2.1 1 j+qE b.2.1 2 1*qE a.2.1 2 j=R1;generalize qE b.2.1 0 2*qE a.2.1 0 j+qE b.2.1 1 2*qE a.2.1 1 j+qE b.2.1 2 2*qE a.2.1 2 j=R2;generalize qE a.2.1 0 j=A0;generalize qE a.2.1 1 j=A1;generalize qE a.2.1 2 j=A2;intro k0 k1 k2;subst k0 k1 k2;generalize crE (lv (eH a b))=C;generalize qE b.2.1=N;grind
abbrev Rw:=Nat->Rat
def isI (x:Rat):Prop:=∃ n:Int,x=(n:Rat)
def isR (v:Rw):Prop:=∀ i,isI (v i)
def kd (R:Nat) (e:Mt):Nat->Rat
 | 0=>1
 | n+1 =>
  if fk (red R e n).1 n (red R e n).2.length (R-(red R e n).2.length)=R then kd R e n
  else kd R e n*(red R e n).1 (fk (red R e n).1 n (red R e n).2.length (R-(red R e n).2.length)) n
section
section
variable {R:Nat} {e:Mt} (he:∀ i,i<R->isR (e i))
include he
omit he in
omit he in
omit he in
omit he in
omit he in
omit he in
omit he in
omit he in
end
end
theorem w1 {n:Int} (h:isz n<=1):aV n:=by
 have h1:=mG (bZ n.natAbs);rw[bM] at h1;have h2:BB ^ (dig n.natAbs).length<=BB ^ 1:=vg gU h;have:BB ^ 1=1000000000:=by rw[bV]
 exact⟨by omega,by omega⟩
theorem a8q (l:LQ'):(a0P l).flatten=l:=by
 show l.take 3++((l.take 6).drop 3++(l.drop 6++[]))=l;have e:l.take 3=(l.take 6).take 3:=by rw[List.take_take];rfl
 rw[e,<-Ar,yu,Aj,yu]
theorem b0E {l r:LQ'} (hr:r ∈ a0P l) {q:Rat} (hq:q ∈ r):q ∈ l:=by rw[<-a8q l];exact Df.2 ⟨r,hr,hq⟩
theorem b0D {K:Nat} {l:LQ'} (h9:l.length=9) (hs:∀ q ∈ l,rsz q<=K):m33 K (a0P l):=by
 have hl:∀ r ∈ a0P l,r.length=3:=fun r hr=>by simp only[a0P,jh,Ci,or_false] at hr;rcases hr with rfl|rfl|rfl<;>simp[h9]
 have hm:isM (a0P l) 3 3:=⟨rfl,hl,by omega,by omega,by omega,by omega⟩;refine⟨hm,fun i hi j hj=>?_⟩;rw[hm.wd] at hj;have hr:=jH (xs:=a0P l) (d:=[]) (i:=i) hi;exact hs _ (b0E hr (jH (by rw[hl _ hr];exact hj)))
end Go.Proofs.YtbkocjmmbkifjaaGreat
