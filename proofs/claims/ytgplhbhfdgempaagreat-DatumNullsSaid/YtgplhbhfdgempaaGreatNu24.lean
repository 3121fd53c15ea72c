/-
  Lemmas for the theorem vnulls_holds, part 24 of 36.
-/
import Derived.Test.YtgplhbhfdgempaaGreatNu23
namespace Go.Proofs.YtgplhbhfdgempaaGreat
open Go Go.RowKit
set_option maxRecDepth 100000
set_option maxHeartbeats 1000000
set_option linter.unusedVariables false
set_option linter.unusedSimpArgs false
def CX (x:MR):Mt:=fun i j=>((x.getD i []).getD j cZ).x
theorem QG {R C:Nat} {f:Mt} {i j:Nat} (hi:i<R) (hj:j<C):CX (aS R C f) i j=f i j:=by
 show (((aS R C f).getD i []).getD j cZ).x=_
 rw[jA hi,gI hj];rfl
def a3B (x:MR) (n:Int):Prop:=x=aS x.length (wdM x) (CX x)/\1<=x.length/\x.length<=1000/\1<=wdM x/\wdM x<=1000/\0<=n/\n.toNat<=wdM x/\DI x.length (wdM x) (CX x) n.toNat
abbrev rdm (x:MR) (j:Nat):Mt:=(red x.length (CX x) j).1
abbrev rdp (x:MR) (j:Nat):List Nat:=(red x.length (CX x) j).2
def kk (x:MR) (j:Nat):Nat:=fk (rdm x j) j (rdp x j).length (x.length-(rdp x j).length)
theorem a6V {R C:Nat} {f:Nat->Nat->Rat} {i j:Nat} (v:Rat) (hi:i<R):(aS R C f).set i (((aS R C f).getD i []).set j (dR v))=aS R C (fun a b=>if a=i/\b=j then v else f a b):=by
 rw[jA hi,map_set]
 rw[show (fun d=>if d=j then dR v else dR (f i d))=(fun d=>dR (if d=j then v else f i d)) from funext fun d=>by split<;>rfl,a2i i]
 refine kP fun a _ b _=>?_
 by_cases e:a=i
 ·subst e;rw[if_pos rfl]
  by_cases e2:b=j
  ·rw[if_pos e2,if_pos ⟨rfl,e2⟩]
  ·rw[if_neg e2,if_neg (by simp[e2])]
 ·rw[if_neg e,if_neg (by simp[e])]
theorem b2H {R C r k:Nat} {m:Mt} (hr:r<R) (hk:k<R):List.map (fun t=>(aS R C m).getD t []) (((List.range R).set r k).set k r)=aS R C (iC m r k):=by
 rw[OU,List.map_map]
 unfold aS
 refine List.map_congr_left fun i hi=>?_
 have hi:=List.mem_range.mp hi
 show (aS R C m).getD (if i=k then r else if i=r then k else i) []=_
 have hb:(if i=k then r else if i=r then k else i)<R:=by
  split
  ·exact hr
  ·split
   ·exact hk
   ·exact hi
 rw[jA hb]
 refine List.map_congr_left fun c _=>?_
 unfold iC
 by_cases e1:i=k
 ·by_cases e2:i=r
  ·rw[if_pos e1,if_pos e2];have:r=k:=by omega
   rw[this]
  ·rw[if_pos e1,if_neg e2,if_pos e1]
 ·by_cases e2:i=r
  ·rw[if_neg e1,if_pos e2,if_pos e2]
  ·rw[if_neg e1,if_neg e2,if_neg e2,if_neg e1]
theorem a1v (C:Nat) (f:Nat->Rat):List.map (fun x=>aF.x x) ((List.range C).map fun c=>dR (f c))=(List.range C).map f:=by simp[dR]
theorem b0p {C:Nat} {f g:Nat->Rat} {k:Rat} {s:Nat}:oQ ((List.range C).map fun c=>dR (f c)) ((List.range C).map g) k s C=(List.range C).map fun c=>dR (if s<=c then f c-k*g c else f c):=by
 unfold oQ
 rw[show ((List.range C).map fun c=>dR (f c)).length=C by simp]
 refine List.map_congr_left fun c hc=>?_
 have hc:=List.mem_range.mp hc
 rw[gI hc,show lv ((List.range C).map g) c=g c from gI hc]
 by_cases h:s<=c
 ·rw[if_pos ⟨h,hc⟩,if_pos h];rfl
 ·rw[if_neg (by omega),if_neg h]
theorem xE {C:Nat} {f:Nat->Rat} {q:aF} (h:q ∈ (List.range C).map fun c=>dR (f c)):∃ c,c<C/\q=dR (f c):=by
 obtain⟨c,hc,rfl⟩:=List.mem_map.mp h;exact⟨c,List.mem_range.mp hc,rfl⟩
theorem b4M (x:MR) (n:Int) (hp:a3B x n):(asT Int 0=0/\(True/\asT (List Int) (aC Int)=aC Int)/\x=aS (List.length x) (wdM x) (rdm x 0)/\(asT (List Int) (aC Int)=aC Int/\0=0/\asT Bool true=true)/\True)/\∀ (i:{ j:Nat // j<=Int.toNat n }),let A₁:=(aS (List.length x) (wdM x) (rdm x (aB i)));let A₂:=(List.length (bI (rdp x (aB i))));let bJ:=(List.length (rdp x (aB i)));let dU:=(iC (rdm x (aB i)) bJ (kk x (aB i)));let A₀:=(scl dU bJ (aB i) (wdM x) (1 / rdm x (aB i) (kk x (aB i)) (aB i)));let eH:=(nameAt none (Int.toNat (aA A₂)));let jE:=(Int.toNat (aA (aB i)));asT Bool true=true/\ifB (decide (aA (aB i)<n)) ((aA A₂=aA bJ/\aS (List.length x) (wdM x) (rdm x (aB i))=aS (List.length x) (wdM x) (rdm x (aB i))/\bI (rdp x (aB i))=bI (rdp x (aB i))/\True)/\∀ (i_1:{ k:Nat // List.length (rdp x (aB i))<=k/\k<=List.length x/\∀ (i_1:Nat),List.length (rdp x (aB i))<=i_1->i_1<k->rdm x (aB i) i_1 (aB i)=0 }),let OW:=(Int.toNat (aA (aB i_1)));let jP:=(nameAt none OW);let qY:=(List.getD (rowAt A₁ jP) jE { ok:=false,x:=0,g:=aC Nat,h:=aC Nat });let CW:=(some (List.set (aW none A₁) (Int.toNat (aA A₂)) jP));let iU:=(List.set (aW CW A₁) OW eH);let JI:=(rowAt A₁ (nameAt (some iU) (Int.toNat (aA A₂))));let iQ:=(List.getD JI jE { ok:=false,x:=0,g:=aC Nat,h:=aC Nat });asT Bool true=true/\(((decide (aA (aB i_1)<aA (aH none A₁))==true)=true->(decide (aA (aB i_1)<aA (aH none A₁))==true)=true/\(decide (aA (aB i_1)<aA (aH none A₁))==true)=true/\0<=aA (aB i_1)/\aA (aB i_1)<aA (aH none A₁)/\True)/\((decide (aA (aB i_1)<aA (aH none A₁))==true)=true->(decide (aA (aB i_1)<aA (aH none A₁))==true)=true/\Int.toNat (aA (aB i_1))<aH none A₁/\True)/\((decide (aA (aB i_1)<aA (aH none A₁))==true)=true->(decide (aA (aB i_1)<aA (aH none A₁))==true)=true/\(decide (aA (aB i_1)<aA (aH none A₁))==true)=true/\0<=aA (aB i)/\aA (aB i)<aA (List.length (rowAt A₁ jP))/\True)/\((decide (aA (aB i_1)<aA (aH none A₁))==true)=true->(decide (aA (aB i_1)<aA (aH none A₁))==true)=true/\Int.toNat (aA (aB i))<List.length (rowAt A₁ jP)/\True)/\((decide (aA (aB i_1)<aA (aH none A₁))==true)=true->(decide (aA (aB i_1)<aA (aH none A₁))==true)=true/\aF.ok qY=true/\rsz (aF.x qY)<=1000000000/\True)/\((decide (aA (aB i_1)<aA (aH none A₁))==true)=true->(decide (aA (aB i_1)<aA (aH none A₁))==true)=true/\True)/\(decide (aA (aB i_1)<aA (aH none A₁))=true->(decide (aA (aB i_1)<aA (aH none A₁))==true)=true)/\True)/\ifB (bif decide (aA (aB i_1)<aA (aH none A₁)) then sgn (Rat.num (aF.x qY))==0 else false) (∃ (i':{ k:Nat // List.length (rdp x (aB i))<=k/\k<=List.length x/\∀ (i_2:Nat),List.length (rdp x (aB i))<=i_2->i_2<k->rdm x (aB i) i_2 (aB i)=0 }),List.length x-aB i'<List.length x-aB i_1/\IntKind.wrap IntKind.i64 (aA (aB i_1)+1)=aA (aB i')/\aS (List.length x) (wdM x) (rdm x (aB i))=aS (List.length x) (wdM x) (rdm x (aB i))/\bI (rdp x (aB i))=bI (rdp x (aB i))/\True) (ifB (aA (aB i_1)==aA (aH none A₁)) (∃ (i':{ j:Nat // j<=Int.toNat n }),Int.toNat n-aB i'<Int.toNat n-aB i/\IntKind.wrap IntKind.i64 (aA (aB i)+1)=aA (aB i')/\aS (List.length x) (wdM x) (rdm x (aB i))=aS (List.length x) (wdM x) (rdm x (aB i'))/\bI (rdp x (aB i))=bI (rdp x (aB i'))/\True) ((0<=aA (aB i_1)/\aA (aB i_1)<aA (aH none A₁)/\Int.toNat (aA (aB i_1))<aH none A₁/\0<=aA A₂/\aA A₂<aA (aH none A₁)/\Int.toNat (aA A₂)<aH none A₁/\0<=aA A₂/\aA A₂<aA (aH none A₁)/\Int.toNat (aA A₂)<aH none A₁/\0<=aA (aB i_1)/\aA (aB i_1)<aA (aH CW A₁)/\Int.toNat (aA (aB i_1))<aH CW A₁/\True)/\(iO 1/\0<=aA A₂/\aA A₂<aA (aH (some iU) A₁)/\Int.toNat (aA A₂)<aH (some iU) A₁/\0<=aA (aB i)/\aA (aB i)<aA (List.length JI)/\Int.toNat (aA (aB i))<List.length JI/\aF.ok iQ=true/\(rsz (bY 1)<=400000000/\rsz (aF.x iQ)<=400000000/\aF.x iQ≠0)/\True)/\(aA (aB i)=aA (aB i)/\List.Nodup iU/\List.map (fun(i_2:Nat)=>List.getD A₁ i_2 (aC aF)) iU=aS (List.length x) (wdM x) (scl dU bJ (aB i) (aB i) (1 / rdm x (aB i) (kk x (aB i)) (aB i)))/\bI (rdp x (aB i))=bI (rdp x (aB i))/\bY 1 / aF.x iQ=1 / rdm x (aB i) (kk x (aB i)) (aB i)/\True)/\∀ (i_2:{ c:Nat // aB i<=c }),let JJ:=(scl dU bJ (aB i) (aB i_2) (1 / rdm x (aB i) (kk x (aB i)) (aB i)));let iK:=(aS (List.length x) (wdM x) JJ);let JK:=(List.length (rowAt iK eH));let mD:=(Int.toNat (aA (aB i_2)));let DW:=(List.getD (rowAt iK eH) mD { ok:=false,x:=0,g:=aC Nat,h:=aC Nat });asT Bool true=true/\(0<=aA A₂/\aA A₂<aA (aH none iK)/\Int.toNat (aA A₂)<aH none iK/\True)/\ifB (decide (aA (aB i_2)<aA JK)) ((0<=aA A₂/\aA A₂<aA (aH none iK)/\Int.toNat (aA A₂)<aH none iK/\0<=aA A₂/\aA A₂<aA (aH none iK)/\Int.toNat (aA A₂)<aH none iK/\0<=aA (aB i_2)/\aA (aB i_2)<aA JK/\Int.toNat (aA (aB i_2))<List.length (rowAt iK eH)/\aF.ok DW=true/\s44 (1 / rdm x (aB i) (kk x (aB i)) (aB i)) (aF.x DW)/\0<=aA (aB i_2)/\aA (aB i_2)<aA JK/\Int.toNat (aA (aB i_2))<List.length (rowAt iK eH)/\True)/\∃ (i':{ c:Nat // aB i<=c }),wdM x-aB i'<wdM x-aB i_2/\IntKind.wrap IntKind.i64 (aA (aB i_2)+1)=aA (aB i')/\List.set iK eH (List.set (rowAt iK eH) mD (dR (1 / rdm x (aB i) (kk x (aB i)) (aB i)*aF.x DW)))=aS (List.length x) (wdM x) (scl dU bJ (aB i) (aB i') (1 / rdm x (aB i) (kk x (aB i)) (aB i)))/\bI (rdp x (aB i))=bI (rdp x (aB i))/\1 / rdm x (aB i) (kk x (aB i)) (aB i)=1 / rdm x (aB i) (kk x (aB i)) (aB i)/\True) ((asT Int 0=0/\aS (List.length x) (wdM x) JJ=aS (List.length x) (wdM x) (elm A₀ bJ (aB i) 0)/\bI (rdp x (aB i))=bI (rdp x (aB i))/\True)/\∀ (i_3:{ i:Nat // i<=List.length x }),let JL:=(elm A₀ bJ (aB i) (aB i_3));let iW:=(aS (List.length x) (wdM x) JL);let C₃:=(List.map (fun(x:Ty.den (Ty.lf Lf.dD))=>aF.x x) (rowAt iW eH));let iY:=(Int.toNat (aA (aB i_3)));let C₂:=(nameAt none iY);let kK:=(rowAt iW C₂);let C₁:=(List.getD kK jE { ok:=false,x:=0,g:=aC Nat,h:=aC Nat });asT Bool true=true/\ifB (decide (aA (aB i_3)<aA (aH none iK))) (((((aA (aB i_3) != aA A₂)==true)=true->((aA (aB i_3) != aA A₂)==true)=true/\((aA (aB i_3) != aA A₂)==true)=true/\0<=aA (aB i_3)/\aA (aB i_3)<aA (aH none iW)/\True)/\(((aA (aB i_3) != aA A₂)==true)=true->((aA (aB i_3) != aA A₂)==true)=true/\Int.toNat (aA (aB i_3))<aH none iW/\True)/\(((aA (aB i_3) != aA A₂)==true)=true->((aA (aB i_3) != aA A₂)==true)=true/\((aA (aB i_3) != aA A₂)==true)=true/\0<=aA (aB i)/\aA (aB i)<aA (List.length kK)/\True)/\(((aA (aB i_3) != aA A₂)==true)=true->((aA (aB i_3) != aA A₂)==true)=true/\Int.toNat (aA (aB i))<List.length kK/\True)/\(((aA (aB i_3) != aA A₂)==true)=true->((aA (aB i_3) != aA A₂)==true)=true/\aF.ok C₁=true/\rsz (aF.x C₁)<=1000000000/\True)/\(((aA (aB i_3) != aA A₂)==true)=true->((aA (aB i_3) != aA A₂)==true)=true/\True)/\((aA (aB i_3) != aA A₂)=true->((aA (aB i_3) != aA A₂)==true)=true)/\True)/\ifB (bif aA (aB i_3) != aA A₂ then sgn (Rat.num (aF.x C₁)) != 0 else false) ((0<=aA (aB i_3)/\aA (aB i_3)<aA (aH none iW)/\Int.toNat (aA (aB i_3))<aH none iW/\0<=aA A₂/\aA A₂<aA (aH none iW)/\Int.toNat (aA A₂)<aH none iW/\0<=aA (aB i_3)/\aA (aB i_3)<aA (aH none iW)/\Int.toNat (aA (aB i_3))<aH none iW/\0<=aA (aB i)/\aA (aB i)<aA (List.length kK)/\Int.toNat (aA (aB i))<List.length kK/\nameAt none (Int.toNat (aA A₂))≠nameAt none iY/\dO (fun(x:Ty.den (Ty.lf Lf.dD))=>aV ((aF.ok x=true)::aC Prop)) (rowAt iW eH)/\aF.ok C₁=true/\((∀ (q:aF),q ∈ rowAt iW C₂->q=dR (aF.x q))/\List.length kK=List.length C₃/\List.length kK<=1000/\0<=aA (aB i)/\(∀ (q:aF),q ∈ rowAt iW C₂->rsz (aF.x q)<=400000000)/\rsz (aF.x C₁)<=100000000/\∀ (q:Rat),q ∈ List.map (fun(x:Ty.den (Ty.lf Lf.dD))=>aF.x x) (rowAt iW eH)->rsz q<=100000000)/\True)/\∃ (i':{ i:Nat // i<=List.length x }),List.length x-aB i'<List.length x-aB i_3/\IntKind.wrap IntKind.i64 (aA (aB i_3)+1)=aA (aB i')/\List.set iW C₂ (oQ kK C₃ (aF.x C₁) jE (List.length kK))=aS (List.length x) (wdM x) (elm A₀ bJ (aB i) (aB i'))/\bI (rdp x (aB i))=bI (rdp x (aB i))/\True) (∃ (i':{ i:Nat // i<=List.length x }),List.length x-aB i'<List.length x-aB i_3/\IntKind.wrap IntKind.i64 (aA (aB i_3)+1)=aA (aB i')/\aS (List.length x) (wdM x) JL=aS (List.length x) (wdM x) (elm A₀ bJ (aB i) (aB i'))/\bI (rdp x (aB i))=bI (rdp x (aB i))/\True)) ((List.length (bI (rdp x (aB i)))+List.length (aA (aB i)::aC Int)<=1000000000/\True)/\∃ (i':{ j:Nat // j<=Int.toNat n }),Int.toNat n-aB i'<Int.toNat n-aB i/\IntKind.wrap IntKind.i64 (aA (aB i)+1)=aA (aB i')/\aS (List.length x) (wdM x) JL=aS (List.length x) (wdM x) (rdm x (aB i'))/\bI (rdp x (aB i))++aA (aB i)::aC Int=bI (rdp x (aB i'))/\True))))) (True/\bI (rdp x (aB i))=bI (rdp x (Int.toNat n))/\aS (List.length x) (wdM x) (rdm x (Int.toNat n))=aS (List.length x) (wdM x) (rdm x (aB i))):=by
 obtain⟨hx,r1,r2,c1,c2,n0,n1,hok⟩:=hp
 have hZ:(⟨false,0,[],[]⟩:aF)=cZ:=rfl
 dsimp only[aA,asT,aB,aC,Ty.den,Lf.den] at *
 simp only[hZ,Int.toNat_natCast,bG,decide_eq_true_eq,decide_eq_false_iff_not,true_and,and_true,aH,nameAt,aW,aU,rowAt,oI,List.length_set,List.length_range]
 refine⟨hx,fun i=>⟨fun h1 k=>?_,fun h1=>?_⟩⟩
 ·have hj:i.1<n.toNat:=by omega
  have hjC:i.1<wdM x:=by omega
  have E:=gX x.length (CX x) i.1
  have hle:=E.le
  have zm:∀ a,a<x.length->∀ c,c<wdM x->rsz (rdm x i.1 a c)<=10000000:=hok i.1 (by omega)
  have zn:∀ a,a<x.length->∀ c,c<wdM x->rsz (rdm x (i.1+1) a c)<=10000000:=hok (i.1+1) (by omega)
  obtain⟨hk1,hk2,hk0⟩:=k.2
  have hw:∀ q:Nat,(q:Int)<=1000->IntKind.wrap .i64 ((q:Int)+1)=((q+1:Nat):Int):=fun q hq=>by rw[bH (by omega) (by omega)];rfl
  by_cases hkR:k.1<x.length
  ·have d1:decide ((k.1:Int)<(x.length:Int))=true:=decide_eq_true (by omega)
   simp only[d1,jA hkR,gI hjC,List.length_map,List.length_range,cond_true,beq_self_eq_true,true_implies,true_and,and_true]
   have hz:=zm k.1 hkR i.1 hjC
   have hPR:(rdp x i.1).length<x.length:=by omega
   refine⟨⟨⟨by omega,by omega⟩,hkR,⟨by omega,by omega⟩,hjC,⟨rfl,by show rsz (rdm x i.1 k.1 i.1)<=_;omega⟩,fun _=>trivial⟩,fun h=>⟨⟨k.1+1,by omega,by omega,fun a h1 h2=>?_⟩,by simp only;omega,hw _ (by omega)⟩,fun h=>⟨fun h2=>?_,fun h2=>?_⟩⟩
   ·by_cases e:a=k.1
    ·have h:(sgn (rdm x i.1 k.1 i.1).num==0)=true:=h
     rw[e];exact nN.mp (by simpa using h)
    ·exact hk0 a h1 (by omega)
   ·have:(k.1:Int)=x.length:=by simpa using h2
    omega
   ·have hne:rdm x i.1 k.1 i.1≠0:=fun e=>by
     have h:(sgn (rdm x i.1 k.1 i.1).num==0)=false:=h
     rw[nN.mpr e] at h;cases h
    have hkk:kk x i.1=k.1:=a0O _ _ _ _ _ hk1 (by omega) hk0 (fun _=>hne)
    have hst:red x.length (CX x) (i.1+1)=(jZ (rdm x i.1) (rdp x i.1).length k.1 i.1,rdp x i.1++[i.1]):=a1K hkk (by omega)
    have hS:∀ a,a<x.length->∀ d,d<wdM x->elm (scl (iC (rdm x i.1) (rdp x i.1).length k.1) (rdp x i.1).length i.1 (wdM x) (1 / rdm x i.1 k.1 i.1)) (rdp x i.1).length i.1 x.length a d=jZ (rdm x i.1) (rdp x i.1).length k.1 i.1 a d:=b2F hne hk1 hkR E.rest
    have e1:rdm x (i.1+1)=jZ (rdm x i.1) (rdp x i.1).length k.1 i.1:=congrArg Prod.fst hst
    have e2:rdp x (i.1+1)=rdp x i.1++[i.1]:=congrArg Prod.snd hst
    rw[e1] at zn
    rw[hkk]
    have hr:=hPR
    generalize hP:(rdp x i.1).length=r at *
    generalize hM:rdm x i.1=m at *
    have hsr:∀ d,iC m r k.1 r d=m k.1 d:=fun d=>by unfold iC;rw[if_pos rfl]
    have zs:∀ a,a<x.length->∀ d,d<wdM x->rsz (iC m r k.1 a d)<=10000000:=fun a ha d hd=>by
     unfold iC;split
     ·exact zm _ hkR d hd
     ·split
      ·exact zm _ hr d hd
      ·exact zm _ ha d hd
    simp only[swp_get hr,jA hkR,gI hjC,List.length_map,List.length_range]
    have z1:rsz ((1:Int):Rat)=1:=by decide +kernel
    have zi:rsz (1 / m k.1 i.1)<=10000001:=by
     have:=b2x 1 (m k.1 i.1) hne
     have z2:rsz 1=1:=by decide +kernel
     omega
    refine⟨⟨by omega,by omega,by omega,by omega,by omega,by omega,by omega,by omega,by omega,by omega,by omega,by omega⟩,⟨⟨by omega,by omega⟩,by omega,by omega,by omega,by omega,by omega,hjC,rfl,by show rsz ((1:Int):Rat)<=_;omega,by show rsz (m k.1 i.1)<=_;omega,hne⟩,⟨b0w _ hr hkR,by rw[b2H hr hkR,a9X],rfl⟩,fun c=>⟨⟨by omega,by omega,by omega⟩,fun h3=>?_,fun h3=>?_⟩⟩
    ·rw[jA hr] at h3 ⊢
     simp only[List.length_map,List.length_range] at h3 ⊢
     have hc:c.1<wdM x:=by omega
     rw[gI hc,b7P _ _ (Nat.le_refl _),hsr]
     have z3:=zm k.1 hkR c.1 hc
     refine⟨⟨by omega,by omega,by omega,by omega,by omega,by omega,by omega,by omega,hc,rfl,⟨by omega,by show rsz (m k.1 c.1)<=_;omega⟩,by omega,by omega,hc⟩,⟨c.1+1,by have:=c.2;omega⟩,by simp only;omega,hw _ (by omega),?_⟩
     rw[<-jA (f:=scl (iC m r k.1) r i.1 c.1 (1 / m k.1 i.1)) hr]
     refine(a6V _ hr).trans (kP fun a _ b _=>?_)
     rw[a9W _ c.2]
     show _=if a=r then (if b=c.1 then _ else _) else _
     by_cases ea:a=r
     ·subst ea
      rw[if_pos rfl]
      by_cases eb:b=c.1
      ·rw[if_pos ⟨rfl,eb⟩,if_pos eb,hsr];rfl
      ·rw[if_neg (by simp[eb]),if_neg eb]
     ·rw[if_neg (by simp[ea]),if_neg ea]
    ·rw[jA hr] at h3
     simp only[List.length_map,List.length_range] at h3
     have hc:wdM x<=c.1:=by omega
     refine⟨?_,fun a=>⟨fun h4=>?_,fun h4=>?_⟩⟩
     ·rw[a7U]
      refine kP fun b _ d hd=>?_
      unfold scl
      by_cases e:b=r/\i.1<=d
      ·rw[if_pos ⟨e.1,e.2,by omega⟩,if_pos ⟨e.1,e.2,hd⟩]
      ·rw[if_neg (by omega),if_neg (by omega)]
     ·have ha:a.1<x.length:=by omega
      generalize hN:scl (iC m r k.1) r i.1 (wdM x) (1 / m k.1 i.1)=s at *
      have hrs:∀ d,d<wdM x->rsz (s r d)<=10000000:=fun d hd=>by
       have:=zn r hr d hd
       rw[<-hS r hr d hd,a0H] at this;exact this
      have hos:∀ b,b<x.length->b≠r->∀ d,d<wdM x->rsz (s b d)<=10000000:=fun b hb hbr d hd=>by
       rw[<-hN];unfold scl;rw[if_neg (by simp[hbr])];exact zs b hb d hd
      have has:∀ b,b<x.length->∀ d,d<wdM x->rsz (s b d)<=10000000:=fun b hb d hd=>by
       by_cases e:b=r
       ·rw[e];exact hrs d hd
       ·exact hos b hb e d hd
      simp only[jA ha,jA hr,gI hjC,List.length_map,List.length_range,a1v]
      simp only[b3M s (Nat.le_refl a.1),a0H]
      have z4:=has a.1 ha i.1 hjC
      refine⟨?_,fun h5=>?_,fun h5=>?_⟩
      ·refine⟨fun h=>⟨h,h,by omega,by omega⟩,fun h=>⟨h,ha⟩,fun h=>⟨h,h,by omega,by omega⟩,fun h=>⟨h,hjC⟩,fun h=>⟨h,rfl,by show rsz (s a.1 i.1)<=_;omega⟩,fun h=>h,fun h=>by rw[h];rfl⟩
      ·have har:a.1≠r:=fun e=>by
        rw[e,show (((r:Nat):Int) != (r:Int))=false by simp] at h5;cases h5
       refine⟨⟨by omega,by omega,ha,by omega,by omega,hr,by omega,by omega,ha,by omega,by omega,hjC,fun e=>har e.symm,jS.mpr fun q hq=>?_,rfl,fun q hq=>?_,trivial,by omega,by omega,fun q hq=>?_,by show rsz (s a.1 i.1)<=_;omega,fun q hq=>?_⟩,⟨a.1+1,by omega⟩,by simp only;omega,hw _ (by omega),?_⟩
       ·obtain⟨c,hc,rfl⟩:=xE hq;exact⟨rfl,trivial⟩
       ·obtain⟨c,hc,rfl⟩:=xE hq;rfl
       ·obtain⟨c,hc,rfl⟩:=xE hq;have:=has a.1 ha c hc;show rsz (s a.1 c)<=_;omega
       ·obtain⟨c,hc,rfl⟩:=List.mem_map.mp hq;have:=hrs c (List.mem_range.mp hc);show rsz (elm s r i.1 a.1 r c)<=_;rw[a0H];omega
       ·rw[b0p,a2i a.1]
        refine kP fun b _ d _=>?_
        rw[a7T s har]
        simp only[a0H]
        by_cases eb:b=a.1
        ·simp only[if_pos eb];rfl
        ·simp only[if_neg eb]
      ·refine⟨⟨a.1+1,by omega⟩,by simp only;omega,hw _ (by omega),?_⟩
       rw[a7S s]
       by_cases e:a.1=r
       ·exact .inl e
       ·right
        rw[show ((a.1:Int) != (r:Int))=true from bne_iff_ne.mpr (fun h=>e (by omega))] at h5
        have h5:(sgn (s a.1 i.1).num != 0)=false:=h5
        exact nN.mp (by simpa using h5)
     ·have ha:a.1=x.length:=by have:=a.2;omega
      have hl:=(OL x.length (CX x) i.1).1
      refine⟨by simp;omega,⟨i.1+1,by omega⟩,by simp only;omega,hw _ (by omega),?_,?_⟩
      ·rw[ha]
       show _=aS _ _ (rdm x (i.1+1))
       rw[e1];exact kP fun b hb d hd=>hS b hb d hd
      ·show _=bI (rdp x (i.1+1))
       rw[e2];simp[bI]
  ·have d1:decide ((k.1:Int)<(x.length:Int))=false:=decide_eq_false (by omega)
   have hkl:k.1=x.length:=by omega
   have hkk:kk x i.1=x.length:=by rw[<-hkl];exact a0O _ _ _ _ _ hk1 (by omega) hk0 (fun h=>by omega)
   have hst:red x.length (CX x) (i.1+1)=red x.length (CX x) i.1:=a1J hkk
   simp only[d1,cond_false]
   refine⟨⟨fun h=>(by cases h),fun h=>(by cases h),fun h=>(by cases h),fun h=>(by cases h),fun h=>(by cases h),fun h=>(by cases h),fun h=>absurd h (by omega)⟩,fun h=>(by cases h),fun _=>⟨fun _=>⟨⟨i.1+1,by omega⟩,by simp only;omega,hw _ (by omega),?_,?_⟩,fun h=>?_⟩⟩
   ·show _=aS _ _ (red x.length (CX x) (i.1+1)).1
    rw[hst]
   ·show _=bI (red x.length (CX x) (i.1+1)).2
    rw[hst]
   ·rw[hkl] at h;simp at h
 ·have:i.1=n.toNat:=by have:=i.2;omega
  rw[this];exact⟨rfl,rfl⟩
def c1k:yT:=.chg LKm [tI] [.list tI] (fun x y=>a3B x y.1) (fun x y=>aS (show MR from x).length (wdM (show MR from x)) (rdm x (show Int from y.1).toNat)) (fun x y=>(bI (rdp x (show Int from y.1).toNat),()))
abbrev rz (x:MR) (j:Nat) (m:Mt):Rho:=[(0,.mat 32 64 tR none (aS x.length (wdM x) m) 0),(128,.row 3 tI (bI (rdp x j)) 0)]
theorem a9D:NOk Tryz.prog 105 c1k:=by
 refine a4V (((((nil0.ad a5C).ad b0H).ad a2v).ad a9x).an b9V) ⟨[9],[],[]⟩ Tryz.func105 rfl (by decide) (fun x y=>[.inv {j:Nat // j<=(show Int from y.1).toNat} (fun j=>[(13,.val tI (j.1:Int)),(5,.own 128 0)]++[(6,.any),(7,.any),(8,.any),(9,.any),(10,.any),(11,.any),(14,.any),(15,.any),(16,.any),(17,.any),(18,.any),(19,.any),(20,.any),(21,.any),(22,.any),(23,.any),(24,.any),(25,.any),(26,.any),(27,.any),(28,.any),(29,.any),(30,.any),(31,.any),(32,.any),(33,.any),(34,.any),(35,.any),(36,.any),(37,.any),(38,.any),(39,.any),(40,.any),(41,.any),(42,.any),(43,.any),(44,.any),(45,.any),(46,.any),(47,.any),(48,.any),(49,.any),(50,.any),(51,.any),(52,.any),(53,.any),(54,.any),(55,.any),(56,.any),(57,.any),(58,.any),(59,.any),(60,.any),(61,.any),(62,.any),(63,.any),(64,.any),(65,.any),(66,.any),(67,.any),(68,.any),(69,.any),(70,.any),(71,.any),(72,.any),(73,.any),(74,.any),(75,.any),(76,.any),(77,.any),(78,.any),(79,.any),(80,.any),(81,.any),(82,.any),(83,.any),(84,.any),(85,.any),(86,.any),(87,.any),(88,.any),(89,.any),(90,.any),(91,.any),(92,.any),(93,.any),(94,.any),(95,.any),(96,.any),(97,.any),(98,.any),(99,.any),(100,.any),(101,.any),(102,.any),(103,.any),(104,.any),(105,.any),(106,.any),(107,.any),(108,.any),(109,.any),(110,.any),(111,.any),(112,.any),(113,.any),(114,.any),(115,.any),(116,.any),(117,.any),(118,.any),(119,.any),(120,.any),(121,.any),(122,.any),(123,.any),(124,.any),(125,.any),(126,.any),(127,.any),(128,.any),(129,.any)]) (fun j=>rz x j.1 (rdm x j.1)) (fun j=>(show Int from y.1).toNat-j.1) ⟨0,by omega⟩ (fun j=>[
  .inv {k:Nat // (rdp x j.1).length<=k/\k<=(show MR from x).length/\∀ i,(rdp x j.1).length<=i->i<k->rdm x j.1 i j.1=0} (fun k=>[(8,.val tI (k.1:Int))]) (fun k=>rz x j.1 (rdm x j.1)) (fun k=>(show MR from x).length-k.1) ⟨(rdp x j.1).length,Nat.le_refl _,(gX _ _ _).le,fun i h1 h2=>absurd h2 (by omega)⟩ (fun _=>[]),
  .inv {c:Nat // j.1<=c} (fun c=>[(10,.val tI (c.1:Int))]++[(19,.any),(20,.any),(21,.any),(22,.any),(23,.any),(24,.any),(25,.any),(26,.any),(27,.any),(28,.any),(29,.any),(30,.any),(31,.any),(32,.any),(33,.any),(34,.any),(35,.any),(36,.any),(37,.any),(38,.any),(39,.any),(40,.any),(41,.any),(42,.any),(43,.any),(44,.any),(45,.any),(46,.any),(47,.any),(48,.any),(49,.any),(50,.any),(51,.any),(52,.any),(53,.any),(54,.any),(55,.any),(56,.any),(57,.any),(58,.any),(59,.any),(60,.any),(61,.any),(62,.any)]) (fun c=>rz x j.1 (scl (iC (rdm x j.1) (rdp x j.1).length (kk x j.1)) (rdp x j.1).length j.1 c.1 (1 / rdm x j.1 (kk x j.1) j.1))++[(9,.box [⟨tQ,1 / rdm x j.1 (kk x j.1) j.1⟩])]) (fun c=>wdM (show MR from x)-c.1) ⟨j.1,Nat.le_refl _⟩ (fun _=>[]),
  .inv {i:Nat // i<=(show MR from x).length} (fun i=>[(90,.val tI (i.1:Int))]++[(64,.any),(65,.any),(66,.any),(67,.any),(68,.any),(69,.any),(70,.any),(71,.any),(72,.any),(73,.any),(74,.any),(75,.any),(76,.any),(77,.any),(78,.any),(79,.any),(80,.any),(81,.any),(82,.any),(83,.any),(84,.any),(85,.any),(86,.any),(87,.any)]) (fun i=>rz x j.1 (elm (scl (iC (rdm x j.1) (rdp x j.1).length (kk x j.1)) (rdp x j.1).length j.1 (wdM x) (1 / rdm x j.1 (kk x j.1) j.1)) (rdp x j.1).length j.1 i.1)) (fun i=>(show MR from x).length-i.1) ⟨0,by omega⟩ (fun _=>[])])]) (fun x y hp=>?_)
 obtain⟨n,u⟩:=y
 change Int at n
 change List (List aF) at x
 refine bZ ((asT Int 0=0/\(True/\asT (List Int) (aC Int)=aC Int)/\x=aS (List.length x) (wdM x) (rdm x 0)/\(asT (List Int) (aC Int)=aC Int/\0=0/\asT Bool true=true)/\True)/\∀ (i:{ j:Nat // j<=Int.toNat n }),let A₁:=(aS (List.length x) (wdM x) (rdm x (aB i)));let A₂:=(List.length (bI (rdp x (aB i))));let bJ:=(List.length (rdp x (aB i)));let dU:=(iC (rdm x (aB i)) bJ (kk x (aB i)));let A₀:=(scl dU bJ (aB i) (wdM x) (1 / rdm x (aB i) (kk x (aB i)) (aB i)));let eH:=(nameAt none (Int.toNat (aA A₂)));let jE:=(Int.toNat (aA (aB i)));asT Bool true=true/\ifB (decide (aA (aB i)<n)) ((aA A₂=aA bJ/\aS (List.length x) (wdM x) (rdm x (aB i))=aS (List.length x) (wdM x) (rdm x (aB i))/\bI (rdp x (aB i))=bI (rdp x (aB i))/\True)/\∀ (i_1:{ k:Nat // List.length (rdp x (aB i))<=k/\k<=List.length x/\∀ (i_1:Nat),List.length (rdp x (aB i))<=i_1->i_1<k->rdm x (aB i) i_1 (aB i)=0 }),let OW:=(Int.toNat (aA (aB i_1)));let jP:=(nameAt none OW);let qY:=(List.getD (rowAt A₁ jP) jE { ok:=false,x:=0,g:=aC Nat,h:=aC Nat });let CW:=(some (List.set (aW none A₁) (Int.toNat (aA A₂)) jP));let iU:=(List.set (aW CW A₁) OW eH);let JI:=(rowAt A₁ (nameAt (some iU) (Int.toNat (aA A₂))));let iQ:=(List.getD JI jE { ok:=false,x:=0,g:=aC Nat,h:=aC Nat });asT Bool true=true/\(((decide (aA (aB i_1)<aA (aH none A₁))==true)=true->(decide (aA (aB i_1)<aA (aH none A₁))==true)=true/\(decide (aA (aB i_1)<aA (aH none A₁))==true)=true/\0<=aA (aB i_1)/\aA (aB i_1)<aA (aH none A₁)/\True)/\((decide (aA (aB i_1)<aA (aH none A₁))==true)=true->(decide (aA (aB i_1)<aA (aH none A₁))==true)=true/\Int.toNat (aA (aB i_1))<aH none A₁/\True)/\((decide (aA (aB i_1)<aA (aH none A₁))==true)=true->(decide (aA (aB i_1)<aA (aH none A₁))==true)=true/\(decide (aA (aB i_1)<aA (aH none A₁))==true)=true/\0<=aA (aB i)/\aA (aB i)<aA (List.length (rowAt A₁ jP))/\True)/\((decide (aA (aB i_1)<aA (aH none A₁))==true)=true->(decide (aA (aB i_1)<aA (aH none A₁))==true)=true/\Int.toNat (aA (aB i))<List.length (rowAt A₁ jP)/\True)/\((decide (aA (aB i_1)<aA (aH none A₁))==true)=true->(decide (aA (aB i_1)<aA (aH none A₁))==true)=true/\aF.ok qY=true/\rsz (aF.x qY)<=1000000000/\True)/\((decide (aA (aB i_1)<aA (aH none A₁))==true)=true->(decide (aA (aB i_1)<aA (aH none A₁))==true)=true/\True)/\(decide (aA (aB i_1)<aA (aH none A₁))=true->(decide (aA (aB i_1)<aA (aH none A₁))==true)=true)/\True)/\ifB (bif decide (aA (aB i_1)<aA (aH none A₁)) then sgn (Rat.num (aF.x qY))==0 else false) (∃ (i':{ k:Nat // List.length (rdp x (aB i))<=k/\k<=List.length x/\∀ (i_2:Nat),List.length (rdp x (aB i))<=i_2->i_2<k->rdm x (aB i) i_2 (aB i)=0 }),List.length x-aB i'<List.length x-aB i_1/\IntKind.wrap IntKind.i64 (aA (aB i_1)+1)=aA (aB i')/\aS (List.length x) (wdM x) (rdm x (aB i))=aS (List.length x) (wdM x) (rdm x (aB i))/\bI (rdp x (aB i))=bI (rdp x (aB i))/\True) (ifB (aA (aB i_1)==aA (aH none A₁)) (∃ (i':{ j:Nat // j<=Int.toNat n }),Int.toNat n-aB i'<Int.toNat n-aB i/\IntKind.wrap IntKind.i64 (aA (aB i)+1)=aA (aB i')/\aS (List.length x) (wdM x) (rdm x (aB i))=aS (List.length x) (wdM x) (rdm x (aB i'))/\bI (rdp x (aB i))=bI (rdp x (aB i'))/\True) ((0<=aA (aB i_1)/\aA (aB i_1)<aA (aH none A₁)/\Int.toNat (aA (aB i_1))<aH none A₁/\0<=aA A₂/\aA A₂<aA (aH none A₁)/\Int.toNat (aA A₂)<aH none A₁/\0<=aA A₂/\aA A₂<aA (aH none A₁)/\Int.toNat (aA A₂)<aH none A₁/\0<=aA (aB i_1)/\aA (aB i_1)<aA (aH CW A₁)/\Int.toNat (aA (aB i_1))<aH CW A₁/\True)/\(iO 1/\0<=aA A₂/\aA A₂<aA (aH (some iU) A₁)/\Int.toNat (aA A₂)<aH (some iU) A₁/\0<=aA (aB i)/\aA (aB i)<aA (List.length JI)/\Int.toNat (aA (aB i))<List.length JI/\aF.ok iQ=true/\(rsz (bY 1)<=400000000/\rsz (aF.x iQ)<=400000000/\aF.x iQ≠0)/\True)/\(aA (aB i)=aA (aB i)/\List.Nodup iU/\List.map (fun(i_2:Nat)=>List.getD A₁ i_2 (aC aF)) iU=aS (List.length x) (wdM x) (scl dU bJ (aB i) (aB i) (1 / rdm x (aB i) (kk x (aB i)) (aB i)))/\bI (rdp x (aB i))=bI (rdp x (aB i))/\bY 1 / aF.x iQ=1 / rdm x (aB i) (kk x (aB i)) (aB i)/\True)/\∀ (i_2:{ c:Nat // aB i<=c }),let JJ:=(scl dU bJ (aB i) (aB i_2) (1 / rdm x (aB i) (kk x (aB i)) (aB i)));let iK:=(aS (List.length x) (wdM x) JJ);let JK:=(List.length (rowAt iK eH));let mD:=(Int.toNat (aA (aB i_2)));let DW:=(List.getD (rowAt iK eH) mD { ok:=false,x:=0,g:=aC Nat,h:=aC Nat });asT Bool true=true/\(0<=aA A₂/\aA A₂<aA (aH none iK)/\Int.toNat (aA A₂)<aH none iK/\True)/\ifB (decide (aA (aB i_2)<aA JK)) ((0<=aA A₂/\aA A₂<aA (aH none iK)/\Int.toNat (aA A₂)<aH none iK/\0<=aA A₂/\aA A₂<aA (aH none iK)/\Int.toNat (aA A₂)<aH none iK/\0<=aA (aB i_2)/\aA (aB i_2)<aA JK/\Int.toNat (aA (aB i_2))<List.length (rowAt iK eH)/\aF.ok DW=true/\s44 (1 / rdm x (aB i) (kk x (aB i)) (aB i)) (aF.x DW)/\0<=aA (aB i_2)/\aA (aB i_2)<aA JK/\Int.toNat (aA (aB i_2))<List.length (rowAt iK eH)/\True)/\∃ (i':{ c:Nat // aB i<=c }),wdM x-aB i'<wdM x-aB i_2/\IntKind.wrap IntKind.i64 (aA (aB i_2)+1)=aA (aB i')/\List.set iK eH (List.set (rowAt iK eH) mD (dR (1 / rdm x (aB i) (kk x (aB i)) (aB i)*aF.x DW)))=aS (List.length x) (wdM x) (scl dU bJ (aB i) (aB i') (1 / rdm x (aB i) (kk x (aB i)) (aB i)))/\bI (rdp x (aB i))=bI (rdp x (aB i))/\1 / rdm x (aB i) (kk x (aB i)) (aB i)=1 / rdm x (aB i) (kk x (aB i)) (aB i)/\True) ((asT Int 0=0/\aS (List.length x) (wdM x) JJ=aS (List.length x) (wdM x) (elm A₀ bJ (aB i) 0)/\bI (rdp x (aB i))=bI (rdp x (aB i))/\True)/\∀ (i_3:{ i:Nat // i<=List.length x }),let JL:=(elm A₀ bJ (aB i) (aB i_3));let iW:=(aS (List.length x) (wdM x) JL);let C₃:=(List.map (fun(x:Ty.den (Ty.lf Lf.dD))=>aF.x x) (rowAt iW eH));let iY:=(Int.toNat (aA (aB i_3)));let C₂:=(nameAt none iY);let kK:=(rowAt iW C₂);let C₁:=(List.getD kK jE { ok:=false,x:=0,g:=aC Nat,h:=aC Nat });asT Bool true=true/\ifB (decide (aA (aB i_3)<aA (aH none iK))) (((((aA (aB i_3) != aA A₂)==true)=true->((aA (aB i_3) != aA A₂)==true)=true/\((aA (aB i_3) != aA A₂)==true)=true/\0<=aA (aB i_3)/\aA (aB i_3)<aA (aH none iW)/\True)/\(((aA (aB i_3) != aA A₂)==true)=true->((aA (aB i_3) != aA A₂)==true)=true/\Int.toNat (aA (aB i_3))<aH none iW/\True)/\(((aA (aB i_3) != aA A₂)==true)=true->((aA (aB i_3) != aA A₂)==true)=true/\((aA (aB i_3) != aA A₂)==true)=true/\0<=aA (aB i)/\aA (aB i)<aA (List.length kK)/\True)/\(((aA (aB i_3) != aA A₂)==true)=true->((aA (aB i_3) != aA A₂)==true)=true/\Int.toNat (aA (aB i))<List.length kK/\True)/\(((aA (aB i_3) != aA A₂)==true)=true->((aA (aB i_3) != aA A₂)==true)=true/\aF.ok C₁=true/\rsz (aF.x C₁)<=1000000000/\True)/\(((aA (aB i_3) != aA A₂)==true)=true->((aA (aB i_3) != aA A₂)==true)=true/\True)/\((aA (aB i_3) != aA A₂)=true->((aA (aB i_3) != aA A₂)==true)=true)/\True)/\ifB (bif aA (aB i_3) != aA A₂ then sgn (Rat.num (aF.x C₁)) != 0 else false) ((0<=aA (aB i_3)/\aA (aB i_3)<aA (aH none iW)/\Int.toNat (aA (aB i_3))<aH none iW/\0<=aA A₂/\aA A₂<aA (aH none iW)/\Int.toNat (aA A₂)<aH none iW/\0<=aA (aB i_3)/\aA (aB i_3)<aA (aH none iW)/\Int.toNat (aA (aB i_3))<aH none iW/\0<=aA (aB i)/\aA (aB i)<aA (List.length kK)/\Int.toNat (aA (aB i))<List.length kK/\nameAt none (Int.toNat (aA A₂))≠nameAt none iY/\dO (fun(x:Ty.den (Ty.lf Lf.dD))=>aV ((aF.ok x=true)::aC Prop)) (rowAt iW eH)/\aF.ok C₁=true/\((∀ (q:aF),q ∈ rowAt iW C₂->q=dR (aF.x q))/\List.length kK=List.length C₃/\List.length kK<=1000/\0<=aA (aB i)/\(∀ (q:aF),q ∈ rowAt iW C₂->rsz (aF.x q)<=400000000)/\rsz (aF.x C₁)<=100000000/\∀ (q:Rat),q ∈ List.map (fun(x:Ty.den (Ty.lf Lf.dD))=>aF.x x) (rowAt iW eH)->rsz q<=100000000)/\True)/\∃ (i':{ i:Nat // i<=List.length x }),List.length x-aB i'<List.length x-aB i_3/\IntKind.wrap IntKind.i64 (aA (aB i_3)+1)=aA (aB i')/\List.set iW C₂ (oQ kK C₃ (aF.x C₁) jE (List.length kK))=aS (List.length x) (wdM x) (elm A₀ bJ (aB i) (aB i'))/\bI (rdp x (aB i))=bI (rdp x (aB i))/\True) (∃ (i':{ i:Nat // i<=List.length x }),List.length x-aB i'<List.length x-aB i_3/\IntKind.wrap IntKind.i64 (aA (aB i_3)+1)=aA (aB i')/\aS (List.length x) (wdM x) JL=aS (List.length x) (wdM x) (elm A₀ bJ (aB i) (aB i'))/\bI (rdp x (aB i))=bI (rdp x (aB i))/\True)) ((List.length (bI (rdp x (aB i)))+List.length (aA (aB i)::aC Int)<=1000000000/\True)/\∃ (i':{ j:Nat // j<=Int.toNat n }),Int.toNat n-aB i'<Int.toNat n-aB i/\IntKind.wrap IntKind.i64 (aA (aB i)+1)=aA (aB i')/\aS (List.length x) (wdM x) JL=aS (List.length x) (wdM x) (rdm x (aB i'))/\bI (rdp x (aB i))++aA (aB i)::aC Int=bI (rdp x (aB i'))/\True))))) (True/\bI (rdp x (aB i))=bI (rdp x (Int.toNat n))/\aS (List.length x) (wdM x) (rdm x (Int.toNat n))=aS (List.length x) (wdM x) (rdm x (aB i)))) (by kernel_rfl) ?_
 exact b4M x n hp
abbrev TUn:List Ty:=[]
def a6u (c:(nest TUn).den) (i j:Int):Prop:=0<=i/\0<=j
def gUn (c:(nest TUn).den) (i j:Nat):Rat:=idm i j
theorem BO:aT Tryz.prog 92 (XY TUn a6u gUn):=by
 refine kM (nil0.ad a5C) [4] Tryz.func92 rfl (by decide) (fun x=>[]) (fun x hp=>?_)
 obtain⟨i,j,c⟩:=x
 change Int at i
 change Int at j
 have hu:c=():=rfl
 refine bZ (ifB (i==j) ((iO 1/\True)/\True/\bY 1=gUn c (Int.toNat i) (Int.toNat j)/\True) ((iO 0/\True)/\True/\bY 0=gUn c (Int.toNat i) (Int.toNat j)/\True)) (by kernel_rfl) ?_
 try dsimp only[aA,asT,aB,aC] at *
 have h1:0<=i/\0<=j:=hp
 refine bG.mpr ⟨fun h=>⟨⟨by unfold iO;omega,trivial⟩,trivial,?_,trivial⟩,fun h=>⟨⟨by unfold iO;omega,trivial⟩,trivial,?_,trivial⟩⟩
 ·have h:i=j:=by simpa using h
  show ((1:Int):Rat)=if i.toNat=j.toNat then 1 else 0
  rw[if_pos (by rw[h])];rfl
 ·have h:i≠j:=by simpa using h
  show ((0:Int):Rat)=if i.toNat=j.toNat then 1 else 0
  rw[if_neg (by omega)];rfl
abbrev TAd:List Ty:=[.ref tM,.ref tM]
def b1W (c:(nest TAd).den) (i j:Int):Prop:=(0<=i/\i.toNat<(show MQ from c.1).length/\i.toNat<(show MQ from c.2.1).length/\0<=j/\j.toNat<((show MQ from c.1).getD i.toNat []).length/\j.toNat<((show MQ from c.2.1).getD i.toNat []).length)/\s44 (ent c.1 i.toNat j.toNat) (ent c.2.1 i.toNat j.toNat)
def gAd (c:(nest TAd).den) (i j:Nat):Rat:=ent c.1 i j+ent c.2.1 i j
theorem VD:aT Tryz.prog 114 (XY TAd b1W gAd):=by
 refine kM (nil0.ad b3y) [6] Tryz.func114 rfl (by decide) (fun x=>[]) (fun x hp=>?_)
 obtain⟨i,j,c⟩:=x
 change Int at i
 change Int at j
 obtain⟨a,b,u⟩:=c
 change List (List Rat) at a
 change List (List Rat) at b
 refine bZ ((0<=i/\i<aA (List.length a)/\0<=j/\j<aA (List.length (List.getD a (Int.toNat i) (aC Rat)))/\0<=i/\i<aA (List.length b)/\0<=j/\j<aA (List.length (List.getD b (Int.toNat i) (aC Rat)))/\s44 (List.getD (List.getD a (Int.toNat i) (aC Rat)) (Int.toNat j) 0) (List.getD (List.getD b (Int.toNat i) (aC Rat)) (Int.toNat j) 0)/\True)/\True/\List.getD (List.getD a (Int.toNat i) (aC Rat)) (Int.toNat j) 0+List.getD (List.getD b (Int.toNat i) (aC Rat)) (Int.toNat j) 0=gAd (a,b,u) (Int.toNat i) (Int.toNat j)/\True) (by kernel_rfl) ?_
 try dsimp only[aA,asT,aB,aC] at *
 have h1:(0<=i/\i.toNat<a.length/\i.toNat<b.length/\0<=j/\j.toNat<(a.getD i.toNat []).length/\j.toNat<(b.getD i.toNat []).length)/\s44 (ent a i.toNat j.toNat) (ent b i.toNat j.toNat):=hp
 obtain⟨⟨k1,k2,k3,k4,k5,k6⟩,k7⟩:=h1
 exact⟨⟨k1,by omega,k4,by omega,k1,by omega,k4,by omega,k7,trivial⟩,trivial,rfl,trivial⟩
abbrev TSb:List Ty:=[.ref tM,.ref tM]
def b2d (c:(nest TSb).den) (i j:Int):Prop:=(0<=i/\i.toNat<(show MQ from c.1).length/\i.toNat<(show MQ from c.2.1).length/\0<=j/\j.toNat<((show MQ from c.1).getD i.toNat []).length/\j.toNat<((show MQ from c.2.1).getD i.toNat []).length)/\s44 (ent c.1 i.toNat j.toNat) (ent c.2.1 i.toNat j.toNat)
def gSb (c:(nest TSb).den) (i j:Nat):Rat:=ent c.1 i j-ent c.2.1 i j
theorem VJ:aT Tryz.prog 144 (XY TSb b2d gSb):=by
 refine kM (nil0.ad b3z) [6] Tryz.func144 rfl (by decide) (fun x=>[]) (fun x hp=>?_)
 obtain⟨i,j,c⟩:=x
 change Int at i
 change Int at j
 obtain⟨a,b,u⟩:=c
 change List (List Rat) at a
 change List (List Rat) at b
 refine bZ ((0<=i/\i<aA (List.length a)/\0<=j/\j<aA (List.length (List.getD a (Int.toNat i) (aC Rat)))/\0<=i/\i<aA (List.length b)/\0<=j/\j<aA (List.length (List.getD b (Int.toNat i) (aC Rat)))/\s44 (List.getD (List.getD a (Int.toNat i) (aC Rat)) (Int.toNat j) 0) (List.getD (List.getD b (Int.toNat i) (aC Rat)) (Int.toNat j) 0)/\True)/\True/\List.getD (List.getD a (Int.toNat i) (aC Rat)) (Int.toNat j) 0-List.getD (List.getD b (Int.toNat i) (aC Rat)) (Int.toNat j) 0=gSb (a,b,u) (Int.toNat i) (Int.toNat j)/\True) (by kernel_rfl) ?_
 try dsimp only[aA,asT,aB,aC] at *
 have h1:(0<=i/\i.toNat<a.length/\i.toNat<b.length/\0<=j/\j.toNat<(a.getD i.toNat []).length/\j.toNat<(b.getD i.toNat []).length)/\s44 (ent a i.toNat j.toNat) (ent b i.toNat j.toNat):=hp
 obtain⟨⟨k1,k2,k3,k4,k5,k6⟩,k7⟩:=h1
 exact⟨⟨k1,by omega,k4,by omega,k1,by omega,k4,by omega,k7,trivial⟩,trivial,rfl,trivial⟩
abbrev TBe:List Ty:=[.ref tM,.ref tM]
def b1X (c:(nest TBe).den) (i j:Int):Prop:=0<=i/\i.toNat<(show MQ from c.1).length/\i.toNat<(show MQ from c.2.1).length/\0<=j/\(show MQ from c.1).length<=1000/\((show MQ from c.1).getD i.toNat []).length=wdM (show MQ from c.1)/\j.toNat<wdM (show MQ from c.1)+((show MQ from c.2.1).getD i.toNat []).length/\j<=1000
def gBe (c:(nest TBe).den) (i j:Nat):Rat:=jV (wdM (show MQ from c.1)) (ent c.1) (ent c.2.1) i j
theorem VE:aT Tryz.prog 146 (XY TBe b1X gBe):=by
 refine kM nil0 [6] Tryz.func146 rfl (by decide) (fun x=>[]) (fun x hp=>?_)
 obtain⟨i,j,c⟩:=x
 change Int at i
 change Int at j
 obtain⟨a,b,u⟩:=c
 change List (List Rat) at a
 change List (List Rat) at b
 refine bZ ((asT Int 0<=0/\0<aA (List.length a)/\True)/\ifB (decide (j<aA (List.length (List.getD a 0 (aC Rat))))) ((0<=i/\i<aA (List.length a)/\0<=j/\j<aA (List.length (List.getD a (Int.toNat i) (aC Rat)))/\True)/\True/\List.getD (List.getD a (Int.toNat i) (aC Rat)) (Int.toNat j) 0=gBe (a,b,u) (Int.toNat i) (Int.toNat j)/\True) ((0<=i/\i<aA (List.length b)/\asT Int 0<=0/\0<aA (List.length a)/\0<=IntKind.wrap IntKind.i64 (j-aA (List.length (List.getD a 0 (aC Rat))))/\IntKind.wrap IntKind.i64 (j-aA (List.length (List.getD a 0 (aC Rat))))<aA (List.length (List.getD b (Int.toNat i) (aC Rat)))/\True)/\True/\List.getD (List.getD b (Int.toNat i) (aC Rat)) (Int.toNat (IntKind.wrap IntKind.i64 (j-aA (List.length (List.getD a 0 (aC Rat)))))) 0=gBe (a,b,u) (Int.toNat i) (Int.toNat j)/\True)) (by kernel_rfl) ?_
 try dsimp only[aA,asT,aB,aC] at *
 have h1:0<=i/\i.toNat<a.length/\i.toNat<b.length/\0<=j/\a.length<=1000/\(a.getD i.toNat []).length=wdM a/\j.toNat<wdM a+(b.getD i.toNat []).length/\j<=1000:=hp
 obtain⟨k1,k2,k3,k4,k5,k6,k7,k8⟩:=h1
 have hw:(a.getD 0 []).length=wdM a:=rfl
 rw[hw]
 refine⟨⟨Int.le_refl 0,by omega,trivial⟩,bG.mpr ⟨fun h=>?_,fun h=>?_⟩⟩
 ·have h:j<(wdM a:Int):=of_decide_eq_true h
  refine⟨⟨k1,by omega,k4,by rw[k6];exact h,trivial⟩,trivial,?_,trivial⟩
  show ent a i.toNat j.toNat=if j.toNat<wdM a then _ else _
  rw[if_pos (by omega)]
 ·have h:¬ j<(wdM a:Int):=of_decide_eq_false h
  have e:IntKind.wrap .i64 (j-(wdM a:Int))=j-(wdM a:Int):=bH (by omega) (by omega)
  rw[e]
  refine⟨⟨k1,by omega,Int.le_refl 0,by omega,by omega,by omega,trivial⟩,trivial,?_,trivial⟩
  show ent b i.toNat (j-(wdM a:Int)).toNat=if j.toNat<wdM a then _ else _
  rw[if_neg (by omega),show (j-(wdM a:Int)).toNat=j.toNat-wdM a by omega]
abbrev TIn:List Ty:=[.ref tMR,.ref tI]
def b2a (c:(nest TIn).den) (i j:Int):Prop:=0<=i/\i.toNat<(show MR from c.1).length/\0<=j/\j<=1000/\0<=(show Int from c.2.1)/\(show Int from c.2.1)<=1000/\(show Int from c.2.1).toNat+j.toNat<((show MR from c.1).getD i.toNat []).length/\(((show MR from c.1).getD i.toNat []).getD ((show Int from c.2.1).toNat+j.toNat) cZ).ok=true
def gIn (c:(nest TIn).den) (i j:Nat):Rat:=CX c.1 i ((show Int from c.2.1).toNat+j)
theorem VH:aT Tryz.prog 117 (XY TIn b2a gIn):=by
 refine kM nil0 [6] Tryz.func117 rfl (by decide) (fun x=>[]) (fun x hp=>?_)
 obtain⟨i,j,c⟩:=x
 change Int at i
 change Int at j
 obtain⟨a,n,u⟩:=c
 change List (List aF) at a
 change Int at n
 refine bZ (let A₁:=(List.getD a (Int.toNat i) (aC aF));let A₀:=(List.getD A₁ (Int.toNat (IntKind.wrap IntKind.i64 (n+j))) { ok:=false,x:=0,g:=aC Nat,h:=aC Nat });(0<=i/\i<aA (List.length a)/\0<=IntKind.wrap IntKind.i64 (n+j)/\IntKind.wrap IntKind.i64 (n+j)<aA (List.length A₁)/\True)/\(aF.ok A₀=true/\True)/\aF.x A₀=gIn (a,n,u) (Int.toNat i) (Int.toNat j)/\True) (by kernel_rfl) ?_
 try dsimp only[aA,asT,aB,aC] at *
 have h1:0<=i/\i.toNat<a.length/\0<=j/\j<=1000/\0<=n/\n<=1000/\n.toNat+j.toNat<(a.getD i.toNat []).length/\((a.getD i.toNat []).getD (n.toNat+j.toNat) cZ).ok=true:=hp
 obtain⟨k1,k2,k3,k4,k5,k6,k7,k8⟩:=h1
 have e:IntKind.wrap .i64 (n+j)=n+j:=bH (by omega) (by omega)
 have e2:(n+j).toNat=n.toNat+j.toNat:=by omega
 rw[e,e2]
 exact⟨⟨k1,by omega,by omega,by omega,trivial⟩,⟨k8,trivial⟩,rfl,trivial⟩
abbrev TCl:List Ty:=[.ref (.list tQ)]
def b1Y (c:(nest TCl).den) (i j:Int):Prop:=0<=i/\i.toNat<(show LQ' from c.1).length
def gCl (c:(nest TCl).den) (i j:Nat):Rat:=lv c.1 i
theorem VF:aT Tryz.prog 147 (XY TCl b1Y gCl):=by
 refine kM nil0 [5] Tryz.func147 rfl (by decide) (fun x=>[]) (fun x hp=>?_)
 obtain⟨i,j,c⟩:=x
 change Int at i
 change Int at j
 obtain⟨a,u⟩:=c
 change List Rat at a
 refine bZ ((0<=i/\i<aA (List.length a)/\True)/\True/\List.getD a (Int.toNat i) 0=gCl (a,u) (Int.toNat i) (Int.toNat j)/\True) (by kernel_rfl) ?_
 try dsimp only[aA,asT,aB,aC] at *
 have h1:0<=i/\i.toNat<a.length:=hp
 exact⟨⟨h1.1,by omega,trivial⟩,trivial,rfl,trivial⟩
theorem wG:NOk Tryz.prog 110 (GZ 92 TUn a6u gUn):=by
 refine pW ((((nil0.an jJ).an jL).an jK).ad BO) ⟨[],[],[(11,tR)]⟩ Tryz.func110 rfl (by decide) (fun x=>rO x.1 x.2.1 (gUn x.2.2.1)) (fun x hp=>?_)
 obtain⟨m,n,c,u⟩:=x
 obtain⟨R,C,hR,hC,r2,c2,hP⟩:=hp
 change m=(R:Int) at hR
 change n=(C:Int) at hC
 subst hR hC
 refine bZ (tK R C (gUn c) (a6u c) (fun y=>aS R C (gUn c)=y)) (by kernel_rfl) ?_
 exact lZ r2 c2 hP rfl
theorem vZ:NOk Tryz.prog 110 (GZ 114 TAd b1W gAd):=by
 refine pW ((((nil0.an jJ).an jL).an jK).ad VD) ⟨[],[],[(11,tR)]⟩ Tryz.func110 rfl (by decide) (fun x=>rO x.1 x.2.1 (gAd x.2.2.1)) (fun x hp=>?_)
 obtain⟨m,n,c,u⟩:=x
 obtain⟨R,C,hR,hC,r2,c2,hP⟩:=hp
 change m=(R:Int) at hR
 change n=(C:Int) at hC
 subst hR hC
 refine bZ (tK R C (gAd c) (b1W c) (fun y=>aS R C (gAd c)=y)) (by kernel_rfl) ?_
 exact lZ r2 c2 hP rfl
theorem wF:NOk Tryz.prog 110 (GZ 144 TSb b2d gSb):=by
 refine pW ((((nil0.an jJ).an jL).an jK).ad VJ) ⟨[],[],[(11,tR)]⟩ Tryz.func110 rfl (by decide) (fun x=>rO x.1 x.2.1 (gSb x.2.2.1)) (fun x hp=>?_)
 obtain⟨m,n,c,u⟩:=x
 obtain⟨R,C,hR,hC,r2,c2,hP⟩:=hp
 change m=(R:Int) at hR
 change n=(C:Int) at hC
 subst hR hC
 refine bZ (tK R C (gSb c) (b2d c) (fun y=>aS R C (gSb c)=y)) (by kernel_rfl) ?_
 exact lZ r2 c2 hP rfl
theorem wB:NOk Tryz.prog 110 (GZ 146 TBe b1X gBe):=by
 refine pW ((((nil0.an jJ).an jL).an jK).ad VE) ⟨[],[],[(11,tR)]⟩ Tryz.func110 rfl (by decide) (fun x=>rO x.1 x.2.1 (gBe x.2.2.1)) (fun x hp=>?_)
 obtain⟨m,n,c,u⟩:=x
 obtain⟨R,C,hR,hC,r2,c2,hP⟩:=hp
 change m=(R:Int) at hR
 change n=(C:Int) at hC
 subst hR hC
 refine bZ (tK R C (gBe c) (b1X c) (fun y=>aS R C (gBe c)=y)) (by kernel_rfl) ?_
 exact lZ r2 c2 hP rfl
theorem wE:NOk Tryz.prog 110 (GZ 117 TIn b2a gIn):=by
 refine pW ((((nil0.an jJ).an jL).an jK).ad VH) ⟨[],[],[(11,tR)]⟩ Tryz.func110 rfl (by decide) (fun x=>rO x.1 x.2.1 (gIn x.2.2.1)) (fun x hp=>?_)
 obtain⟨m,n,c,u⟩:=x
 obtain⟨R,C,hR,hC,r2,c2,hP⟩:=hp
 change m=(R:Int) at hR
 change n=(C:Int) at hC
 subst hR hC
 refine bZ (tK R C (gIn c) (b2a c) (fun y=>aS R C (gIn c)=y)) (by kernel_rfl) ?_
 exact lZ r2 c2 hP rfl
theorem wC:NOk Tryz.prog 110 (GZ 147 TCl b1Y gCl):=by
 refine pW ((((nil0.an jJ).an jL).an jK).ad VF) ⟨[],[],[(11,tR)]⟩ Tryz.func110 rfl (by decide) (fun x=>rO x.1 x.2.1 (gCl x.2.2.1)) (fun x hp=>?_)
 obtain⟨m,n,c,u⟩:=x
 obtain⟨R,C,hR,hC,r2,c2,hP⟩:=hp
 change m=(R:Int) at hR
 change n=(C:Int) at hC
 subst hR hC
 refine bZ (tK R C (gCl c) (b1Y c) (fun y=>aS R C (gCl c)=y)) (by kernel_rfl) ?_
 exact lZ r2 c2 hP rfl
end Go.Proofs.YtgplhbhfdgempaaGreat
