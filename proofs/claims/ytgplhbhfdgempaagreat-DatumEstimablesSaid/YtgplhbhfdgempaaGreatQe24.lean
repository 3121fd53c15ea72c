/-
  Lemmas for the theorem vestimables_holds, part 24 of 36.
-/
import Derived.Test.YtgplhbhfdgempaaGreatQe23
namespace Go.Proofs.YtgplhbhfdgempaaGreat
open Go Go.RowKit
set_option maxRecDepth 100000
set_option maxHeartbeats 1000000
set_option linter.unusedVariables false
set_option linter.unusedSimpArgs false
def FN (x:MR):Mt:=fun i j=>((x.getD i []).getD j bU).x
theorem TF {R C:Nat} {f:Mt} {i j:Nat} (hi:i<R) (hj:j<C):FN (aY R C f) i j=f i j:=by
 show (((aY R C f).getD i []).getD j bU).x=_
 rw[jH hi,gZ hj];rfl
def a5c (x:MR) (n:Int):Prop:=x=aY x.length (wdM x) (FN x)/\1<=x.length/\x.length<=1000/\1<=wdM x/\wdM x<=1000/\0<=n/\n.toNat<=wdM x/\FX x.length (wdM x) (FN x) n.toNat
abbrev rdm (x:MR) (j:Nat):Mt:=(red x.length (FN x) j).1
abbrev rdp (x:MR) (j:Nat):List Nat:=(red x.length (FN x) j).2
def kk (x:MR) (j:Nat):Nat:=fk (rdm x j) j (rdp x j).length (x.length-(rdp x j).length)
theorem a8J {R C:Nat} {f:Nat->Nat->Rat} {i j:Nat} (v:Rat) (hi:i<R):(aY R C f).set i (((aY R C f).getD i []).set j (fD v))=aY R C (fun a b=>if a=i/\b=j then v else f a b):=by
 rw[jH hi,map_set]
 rw[show (fun d=>if d=j then fD v else fD (f i d))=(fun d=>fD (if d=j then v else f i d)) from funext fun d=>by split<;>rfl,a3M i]
 refine lU fun a _ b _=>?_
 by_cases e:a=i
 ·subst e;rw[ig rfl]
  by_cases e2:b=j
  ·rw[ig e2,ig ⟨rfl,e2⟩]
  ·rw[iq e2,iq (by simp[e2])]
 ·rw[iq e,iq (by simp[e])]
theorem b4R {R C r k:Nat} {m:Mt} (hr:r<R) (hk:k<R):List.map (fun t=>(aY R C m).getD t []) (((List.range R).set r k).set k r)=aY R C (iO m r k):=by
 rw[RH,List.map_map]
 unfold aY
 refine jl fun i hi=>?_
 have hi:=vk.mp hi
 show (aY R C m).getD (if i=k then r else if i=r then k else i) []=_
 have hb:(if i=k then r else if i=r then k else i)<R:=by
  split
  ·exact hr
  ·split
   ·exact hk
   ·exact hi
 rw[jH hb]
 refine jl fun c _=>?_
 unfold iO
 by_cases e1:i=k
 ·by_cases e2:i=r
  ·rw[ig e1,ig e2];have:r=k:=by omega
   rw[this]
  ·rw[ig e1,iq e2,ig e1]
 ·by_cases e2:i=r
  ·rw[iq e1,ig e2,ig e2]
  ·rw[iq e1,iq e2,iq e2,iq e1]
theorem a2Y (C:Nat) (f:Nat->Rat):List.map (fun x=>aF.x x) ((List.range C).map fun c=>fD (f c))=(List.range C).map f:=by simp[fD]
theorem b2o {C:Nat} {f g:Nat->Rat} {k:Rat} {s:Nat}:qV ((List.range C).map fun c=>fD (f c)) ((List.range C).map g) k s C=(List.range C).map fun c=>fD (if s<=c then f c-k*g c else f c):=by
 unfold qV
 rw[show ((List.range C).map fun c=>fD (f c)).length=C by simp]
 refine jl fun c hc=>?_
 have hc:=vk.mp hc
 rw[gZ hc,show lv ((List.range C).map g) c=g c from gZ hc]
 by_cases h:s<=c
 ·rw[ig ⟨h,hc⟩,ig h];rfl
 ·rw[iq (by omega),iq h]
theorem zI {C:Nat} {f:Nat->Rat} {q:aF} (h:q ∈ (List.range C).map fun c=>fD (f c)):∃ c,c<C/\q=fD (f c):=by
 obtain⟨c,hc,rfl⟩:=ug.mp h;exact⟨c,vk.mp hc,rfl⟩
theorem b7f (x:MR) (n:Int) (hp:a5c x n):let A₀:=(fun(x:Ty.den (Ty.lf Lf.dG))=>aF.x x);(asT Int 0=0/\(True/\asT (List Int) (aC Int)=aC Int)/\x=aY x.length (wdM x) (rdm x 0)/\(asT (List Int) (aC Int)=aC Int/\0=0/\asT Bool true=true)/\True)/\∀ (i:{ j:Nat // j<=Int.toNat n }),let A₂:=(aY x.length (wdM x) (rdm x (aA i)));let aQ:=(dA (rdp x (aA i))).length;let bK:=(rdp x (aA i)).length;let bZ:=(1 / rdm x (aA i) (kk x (aA i)) (aA i));let dJ:=(iO (rdm x (aA i)) bK (kk x (aA i)));let A₁:=(scl dJ bK (aA i) (wdM x) bZ);let dS:=(nameAt none (aB aQ).toNat);let gB:=(aB (aA i)).toNat;asT Bool true=true/\ifB (decide (aB (aA i)<n)) ((aB aQ=aB bK/\aY x.length (wdM x) (rdm x (aA i))=aY x.length (wdM x) (rdm x (aA i))/\dA (rdp x (aA i))=dA (rdp x (aA i))/\True)/\∀ (i_1:{ k:Nat // List.length (rdp x (aA i))<=k/\k<=List.length x/\∀ (i_1:Nat),List.length (rdp x (aA i))<=i_1->i_1<k->rdm x (aA i) i_1 (aA i)=0 }),let oH:=(aB (aA i_1)<aB (aH none A₂));let eU:=(decide oH==true);let pY:=(aB (aA i_1)).toNat;let iH:=(nameAt none pY);let lJ:=(List.getD (rowAt A₂ iH) gB { ok:=false,x:=0,g:=aC Nat,h:=aC Nat });let lF:=(some (List.set (aV none A₂) (aB aQ).toNat iH));let gQ:=(List.set (aV lF A₂) pY dS);let kV:=(rowAt A₂ (nameAt (some gQ) (aB aQ).toNat));let iY:=(List.getD kV gB { ok:=false,x:=0,g:=aC Nat,h:=aC Nat });asT Bool true=true/\((eU=true->eU=true/\eU=true/\0<=aB (aA i_1)/\aB (aA i_1)<aB (aH none A₂)/\True)/\(eU=true->eU=true/\Int.toNat (aB (aA i_1))<aH none A₂/\True)/\(eU=true->eU=true/\eU=true/\0<=aB (aA i)/\aB (aA i)<aB (rowAt A₂ iH).length/\True)/\(eU=true->eU=true/\Int.toNat (aB (aA i))<List.length (rowAt A₂ iH)/\True)/\(eU=true->eU=true/\aF.ok lJ=true/\rsz (aF.x lJ)<=1000000000/\True)/\(eU=true->eU=true/\True)/\(decide oH=true->eU=true)/\True)/\ifB (bif decide oH then sgn (Rat.num (aF.x lJ))==0 else false) (∃ (i':{ k:Nat // List.length (rdp x (aA i))<=k/\k<=List.length x/\∀ (i_2:Nat),List.length (rdp x (aA i))<=i_2->i_2<k->rdm x (aA i) i_2 (aA i)=0 }),List.length x-aA i'<List.length x-aA i_1/\IntKind.wrap IntKind.i64 (aB (aA i_1)+1)=aB (aA i')/\aY x.length (wdM x) (rdm x (aA i))=aY x.length (wdM x) (rdm x (aA i))/\dA (rdp x (aA i))=dA (rdp x (aA i))/\True) (ifB (aB (aA i_1)==aB (aH none A₂)) (∃ (i':{ j:Nat // j<=Int.toNat n }),Int.toNat n-aA i'<Int.toNat n-aA i/\IntKind.wrap IntKind.i64 (aB (aA i)+1)=aB (aA i')/\aY x.length (wdM x) (rdm x (aA i))=aY x.length (wdM x) (rdm x (aA i'))/\dA (rdp x (aA i))=dA (rdp x (aA i'))/\True) ((0<=aB (aA i_1)/\aB (aA i_1)<aB (aH none A₂)/\Int.toNat (aB (aA i_1))<aH none A₂/\0<=aB aQ/\aB aQ<aB (aH none A₂)/\Int.toNat (aB aQ)<aH none A₂/\0<=aB aQ/\aB aQ<aB (aH none A₂)/\Int.toNat (aB aQ)<aH none A₂/\0<=aB (aA i_1)/\aB (aA i_1)<aB (aH lF A₂)/\Int.toNat (aB (aA i_1))<aH lF A₂/\True)/\(iW 1/\0<=aB aQ/\aB aQ<aB (aH (some gQ) A₂)/\Int.toNat (aB aQ)<aH (some gQ) A₂/\0<=aB (aA i)/\aB (aA i)<aB kV.length/\Int.toNat (aB (aA i))<List.length kV/\aF.ok iY=true/\(rsz (fA 1)<=400000000/\rsz (aF.x iY)<=400000000/\aF.x iY≠0)/\True)/\(aB (aA i)=aB (aA i)/\List.Nodup gQ/\List.map (fun(i_2:Nat)=>List.getD A₂ i_2 (aC aF)) gQ=aY x.length (wdM x) (scl dJ bK (aA i) (aA i) bZ)/\dA (rdp x (aA i))=dA (rdp x (aA i))/\fA 1 / aF.x iY=1 / rdm x (aA i) (kk x (aA i)) (aA i)/\True)/\∀ (i_2:{ c:Nat // aA i<=c }),let C₁:=(scl dJ bK (aA i) (aA i_2) bZ);let gG:=(aY x.length (wdM x) C₁);let rC:=(rowAt gG dS).length;let C₂:=(aB (aA i_2)).toNat;let uH:=(List.getD (rowAt gG dS) C₂ { ok:=false,x:=0,g:=aC Nat,h:=aC Nat });asT Bool true=true/\(0<=aB aQ/\aB aQ<aB (aH none gG)/\Int.toNat (aB aQ)<aH none gG/\True)/\ifB (decide (aB (aA i_2)<aB rC)) ((0<=aB aQ/\aB aQ<aB (aH none gG)/\Int.toNat (aB aQ)<aH none gG/\0<=aB aQ/\aB aQ<aB (aH none gG)/\Int.toNat (aB aQ)<aH none gG/\0<=aB (aA i_2)/\aB (aA i_2)<aB rC/\Int.toNat (aB (aA i_2))<List.length (rowAt gG dS)/\aF.ok uH=true/\s44 bZ (aF.x uH)/\0<=aB (aA i_2)/\aB (aA i_2)<aB rC/\Int.toNat (aB (aA i_2))<List.length (rowAt gG dS)/\True)/\∃ (i':{ c:Nat // aA i<=c }),wdM x-aA i'<wdM x-aA i_2/\IntKind.wrap IntKind.i64 (aB (aA i_2)+1)=aB (aA i')/\List.set gG dS (List.set (rowAt gG dS) C₂ (fD (1 / rdm x (aA i) (kk x (aA i)) (aA i)*aF.x uH)))=aY x.length (wdM x) (scl dJ bK (aA i) (aA i') bZ)/\dA (rdp x (aA i))=dA (rdp x (aA i))/\1 / rdm x (aA i) (kk x (aA i)) (aA i)=1 / rdm x (aA i) (kk x (aA i)) (aA i)/\True) ((asT Int 0=0/\aY x.length (wdM x) C₁=aY x.length (wdM x) (elm A₁ bK (aA i) 0)/\dA (rdp x (aA i))=dA (rdp x (aA i))/\True)/\∀ (i_3:{ i:Nat // i<=List.length x }),let AX:=(elm A₁ bK (aA i) (aA i_3));let C₃:=(aY x.length (wdM x) AX);let IC:=(aB (aA i_3)).toNat;let xJ:=(nameAt none IC);let kC:=(rowAt C₃ xJ);let sF:=(List.getD kC gB { ok:=false,x:=0,g:=aC Nat,h:=aC Nat });let JQ:=(aB (aA i_3) != aB aQ);let jO:=(JQ==true);asT Bool true=true/\ifB (decide (aB (aA i_3)<aB (aH none gG))) (((jO=true->jO=true/\jO=true/\0<=aB (aA i_3)/\aB (aA i_3)<aB (aH none C₃)/\True)/\(jO=true->jO=true/\Int.toNat (aB (aA i_3))<aH none C₃/\True)/\(jO=true->jO=true/\jO=true/\0<=aB (aA i)/\aB (aA i)<aB kC.length/\True)/\(jO=true->jO=true/\Int.toNat (aB (aA i))<List.length kC/\True)/\(jO=true->jO=true/\aF.ok sF=true/\rsz (aF.x sF)<=1000000000/\True)/\(jO=true->jO=true/\True)/\(JQ=true->jO=true)/\True)/\ifB (bif aB (aA i_3) != aB aQ then sgn (Rat.num (aF.x sF)) != 0 else false) ((0<=aB (aA i_3)/\aB (aA i_3)<aB (aH none C₃)/\Int.toNat (aB (aA i_3))<aH none C₃/\0<=aB aQ/\aB aQ<aB (aH none C₃)/\Int.toNat (aB aQ)<aH none C₃/\0<=aB (aA i_3)/\aB (aA i_3)<aB (aH none C₃)/\Int.toNat (aB (aA i_3))<aH none C₃/\0<=aB (aA i)/\aB (aA i)<aB kC.length/\Int.toNat (aB (aA i))<List.length kC/\nameAt none (aB aQ).toNat≠nameAt none IC/\eH (fun(x:Ty.den (Ty.lf Lf.dG))=>bY ((aF.ok x=true)::aC Prop)) (rowAt C₃ dS)/\aF.ok sF=true/\((∀ (q:aF),q ∈ rowAt C₃ xJ->q=fD (aF.x q))/\List.length kC=List.length (List.map A₀ (rowAt C₃ dS))/\List.length kC<=1000/\0<=aB (aA i)/\(∀ (q:aF),q ∈ rowAt C₃ xJ->rsz (aF.x q)<=400000000)/\rsz (aF.x sF)<=100000000/\∀ (q:Rat),q ∈ List.map A₀ (rowAt C₃ dS)->rsz q<=100000000)/\True)/\∃ (i':{ i:Nat // i<=List.length x }),List.length x-aA i'<List.length x-aA i_3/\IntKind.wrap IntKind.i64 (aB (aA i_3)+1)=aB (aA i')/\List.set C₃ xJ (qV kC (List.map A₀ (rowAt C₃ dS)) (aF.x sF) gB kC.length)=aY x.length (wdM x) (elm A₁ bK (aA i) (aA i'))/\dA (rdp x (aA i))=dA (rdp x (aA i))/\True) (∃ (i':{ i:Nat // i<=List.length x }),List.length x-aA i'<List.length x-aA i_3/\IntKind.wrap IntKind.i64 (aB (aA i_3)+1)=aB (aA i')/\aY x.length (wdM x) AX=aY x.length (wdM x) (elm A₁ bK (aA i) (aA i'))/\dA (rdp x (aA i))=dA (rdp x (aA i))/\True)) ((List.length (dA (rdp x (aA i)))+List.length (aB (aA i)::aC Int)<=1000000000/\True)/\∃ (i':{ j:Nat // j<=Int.toNat n }),Int.toNat n-aA i'<Int.toNat n-aA i/\IntKind.wrap IntKind.i64 (aB (aA i)+1)=aB (aA i')/\aY x.length (wdM x) AX=aY x.length (wdM x) (rdm x (aA i'))/\dA (rdp x (aA i))++aB (aA i)::aC Int=dA (rdp x (aA i'))/\True))))) (True/\dA (rdp x (aA i))=dA (rdp x n.toNat)/\aY x.length (wdM x) (rdm x n.toNat)=aY x.length (wdM x) (rdm x (aA i))):=by
 obtain⟨hx,r1,r2,c1,c2,n0,n1,hok⟩:=hp
 have hZ:(⟨false,0,[],[]⟩:aF)=bU:=rfl
 dsimp only[aB,asT,aA,aC,Ty.den,Lf.den] at *
 simp only[hZ,Int.toNat_natCast,aT,ay,au,oh,ny,aH,nameAt,aV,aS,rowAt,sO,iw,gy]
 refine⟨hx,fun i=>⟨fun h1 k=>?_,fun h1=>?_⟩⟩
 ·have hj:i.1<n.toNat:=by omega
  have hjC:i.1<wdM x:=by omega
  have E:=jD x.length (FN x) i.1
  have hle:=E.le
  have zm:∀ a,a<x.length->∀ c,c<wdM x->rsz (rdm x i.1 a c)<=10000000:=hok i.1 (by omega)
  have zn:∀ a,a<x.length->∀ c,c<wdM x->rsz (rdm x (i.1+1) a c)<=10000000:=hok (i.1+1) (by omega)
  obtain⟨hk1,hk2,hk0⟩:=k.2
  have hw:∀ q:Nat,(q:Int)<=1000->IntKind.wrap .i64 ((q:Int)+1)=((q+1:Nat):Int):=fun q hq=>by rw[aZ (by omega) (by omega)];rfl
  by_cases hkR:k.1<x.length
  ·have d1:decide ((k.1:Int)<(x.length:Int))=true:=pz (by omega)
   simp only[d1,jH hkR,gZ hjC,uj,gy,cond_true,beq_self_eq_true,true_implies,oh,ny]
   have hz:=zm k.1 hkR i.1 hjC
   have hPR:(rdp x i.1).length<x.length:=by omega
   refine⟨⟨⟨by omega,by omega⟩,hkR,⟨by omega,by omega⟩,hjC,⟨rfl,by show rsz (rdm x i.1 k.1 i.1)<=_;omega⟩,fun _=>trivial⟩,fun h=>⟨⟨k.1+1,by omega,by omega,fun a h1 h2=>?_⟩,by simp only;omega,hw _ (by omega)⟩,fun h=>⟨fun h2=>?_,fun h2=>?_⟩⟩
   ·by_cases e:a=k.1
    ·have h:(sgn (rdm x i.1 k.1 i.1).num==0)=true:=h
     rw[e];exact nZ.mp (by simpa using h)
    ·exact hk0 a h1 (by omega)
   ·have:(k.1:Int)=x.length:=by simpa using h2
    omega
   ·have hne:rdm x i.1 k.1 i.1≠0:=fun e=>by
     have h:(sgn (rdm x i.1 k.1 i.1).num==0)=false:=h
     rw[nZ.mpr e] at h;cases h
    have hkk:kk x i.1=k.1:=a2o _ _ _ _ _ hk1 (by omega) hk0 (fun _=>hne)
    have hst:red x.length (FN x) (i.1+1)=(kR (rdm x i.1) (rdp x i.1).length k.1 i.1,rdp x i.1++[i.1]):=a3p hkk (by omega)
    have hS:∀ a,a<x.length->∀ d,d<wdM x->elm (scl (iO (rdm x i.1) (rdp x i.1).length k.1) (rdp x i.1).length i.1 (wdM x) (1 / rdm x i.1 k.1 i.1)) (rdp x i.1).length i.1 x.length a d=kR (rdm x i.1) (rdp x i.1).length k.1 i.1 a d:=b4P hne hk1 hkR E.rest
    have e1:rdm x (i.1+1)=kR (rdm x i.1) (rdp x i.1).length k.1 i.1:=xw Prod.fst hst
    have e2:rdp x (i.1+1)=rdp x i.1++[i.1]:=xw Prod.snd hst
    rw[e1] at zn
    rw[hkk]
    have hr:=hPR
    generalize hP:(rdp x i.1).length=r at *
    generalize hM:rdm x i.1=m at *
    have hsr:∀ d,iO m r k.1 r d=m k.1 d:=fun d=>by unfold iO;rw[ig rfl]
    have zs:∀ a,a<x.length->∀ d,d<wdM x->rsz (iO m r k.1 a d)<=10000000:=fun a ha d hd=>by
     unfold iO;split
     ·exact zm _ hkR d hd
     ·split
      ·exact zm _ hr d hd
      ·exact zm _ ha d hd
    simp only[swp_get hr,jH hkR,gZ hjC,uj,gy]
    have z1:rsz ((1:Int):Rat)=1:=by decide +kernel
    have zi:rsz (1 / m k.1 i.1)<=10000001:=by
     have:=b4J 1 (m k.1 i.1) hne
     have z2:rsz 1=1:=by decide +kernel
     omega
    refine⟨⟨by omega,by omega,by omega,by omega,by omega,by omega,by omega,by omega,by omega,by omega,by omega,by omega⟩,⟨⟨by omega,by omega⟩,by omega,by omega,by omega,by omega,by omega,hjC,rfl,by show rsz ((1:Int):Rat)<=_;omega,by show rsz (m k.1 i.1)<=_;omega,hne⟩,⟨b2v _ hr hkR,by rw[b4R hr hkR,b1X],rfl⟩,fun c=>⟨⟨by omega,by omega,by omega⟩,fun h3=>?_,fun h3=>?_⟩⟩
    ·rw[jH hr] at h3 ⊢
     simp only[uj,gy] at h3 ⊢
     have hc:c.1<wdM x:=by omega
     rw[gZ hc,c0k _ _ (aj _),hsr]
     have z3:=zm k.1 hkR c.1 hc
     refine⟨⟨by omega,by omega,by omega,by omega,by omega,by omega,by omega,by omega,hc,rfl,⟨by omega,by show rsz (m k.1 c.1)<=_;omega⟩,by omega,by omega,hc⟩,⟨c.1+1,by have:=c.2;omega⟩,by simp only;omega,hw _ (by omega),?_⟩
     rw[<-jH (f:=scl (iO m r k.1) r i.1 c.1 (1 / m k.1 i.1)) hr]
     refine(a8J _ hr).trans (lU fun a _ b _=>?_)
     rw[b1W _ c.2]
     show _=if a=r then (if b=c.1 then _ else _) else _
     by_cases ea:a=r
     ·subst ea
      rw[ig rfl]
      by_cases eb:b=c.1
      ·rw[ig ⟨rfl,eb⟩,ig eb,hsr];rfl
      ·rw[iq (by simp[eb]),iq eb]
     ·rw[iq (by simp[ea]),iq ea]
    ·rw[jH hr] at h3
     simp only[uj,gy] at h3
     have hc:wdM x<=c.1:=by omega
     refine⟨?_,fun a=>⟨fun h4=>?_,fun h4=>?_⟩⟩
     ·rw[a9J]
      refine lU fun b _ d hd=>?_
      unfold scl
      by_cases e:b=r/\i.1<=d
      ·rw[ig ⟨e.1,e.2,by omega⟩,ig ⟨e.1,e.2,hd⟩]
      ·rw[iq (by omega),iq (by omega)]
     ·have ha:a.1<x.length:=by omega
      generalize hN:scl (iO m r k.1) r i.1 (wdM x) (1 / m k.1 i.1)=s at *
      have hrs:∀ d,d<wdM x->rsz (s r d)<=10000000:=fun d hd=>by
       have:=zn r hr d hd
       rw[<-hS r hr d hd,a2h] at this;exact this
      have hos:∀ b,b<x.length->b≠r->∀ d,d<wdM x->rsz (s b d)<=10000000:=fun b hb hbr d hd=>by
       rw[<-hN];unfold scl;rw[iq (by simp[hbr])];exact zs b hb d hd
      have has:∀ b,b<x.length->∀ d,d<wdM x->rsz (s b d)<=10000000:=fun b hb d hd=>by
       by_cases e:b=r
       ·rw[e];exact hrs d hd
       ·exact hos b hb e d hd
      simp only[jH ha,jH hr,gZ hjC,uj,gy,a2Y]
      simp only[b6d s (aj a.1),a2h]
      have z4:=has a.1 ha i.1 hjC
      refine⟨?_,fun h5=>?_,fun h5=>?_⟩
      ·refine⟨fun h=>⟨h,h,by omega,by omega⟩,fun h=>⟨h,ha⟩,fun h=>⟨h,h,by omega,by omega⟩,fun h=>⟨h,hjC⟩,fun h=>⟨h,rfl,by show rsz (s a.1 i.1)<=_;omega⟩,fun h=>h,fun h=>by rw[h];rfl⟩
      ·have har:a.1≠r:=fun e=>by
        rw[e,show (((r:Nat):Int) != (r:Int))=false by simp] at h5;cases h5
       refine⟨⟨by omega,by omega,ha,by omega,by omega,hr,by omega,by omega,ha,by omega,by omega,hjC,fun e=>har e.symm,lX.mpr fun q hq=>?_,rfl,fun q hq=>?_,trivial,by omega,by omega,fun q hq=>?_,by show rsz (s a.1 i.1)<=_;omega,fun q hq=>?_⟩,⟨a.1+1,by omega⟩,by simp only;omega,hw _ (by omega),?_⟩
       ·obtain⟨c,hc,rfl⟩:=zI hq;exact⟨rfl,trivial⟩
       ·obtain⟨c,hc,rfl⟩:=zI hq;rfl
       ·obtain⟨c,hc,rfl⟩:=zI hq;have:=has a.1 ha c hc;show rsz (s a.1 c)<=_;omega
       ·obtain⟨c,hc,rfl⟩:=ug.mp hq;have:=hrs c (vk.mp hc);show rsz (elm s r i.1 a.1 r c)<=_;rw[a2h];omega
       ·rw[b2o,a3M a.1]
        refine lU fun b _ d _=>?_
        rw[a9I s har]
        simp only[a2h]
        by_cases eb:b=a.1
        ·simp only[ig eb];rfl
        ·simp only[iq eb]
      ·refine⟨⟨a.1+1,by omega⟩,by simp only;omega,hw _ (by omega),?_⟩
       rw[a9H s]
       by_cases e:a.1=r
       ·exact .inl e
       ·right
        rw[show ((a.1:Int) != (r:Int))=true from uy.mpr (fun h=>e (by omega))] at h5
        have h5:(sgn (s a.1 i.1).num != 0)=false:=h5
        exact nZ.mp (by simpa using h5)
     ·have ha:a.1=x.length:=by have:=a.2;omega
      have hl:=(QY x.length (FN x) i.1).1
      refine⟨by simp;omega,⟨i.1+1,by omega⟩,by simp only;omega,hw _ (by omega),?_,?_⟩
      ·rw[ha]
       show _=aY _ _ (rdm x (i.1+1))
       rw[e1];exact lU fun b hb d hd=>hS b hb d hd
      ·show _=dA (rdp x (i.1+1))
       rw[e2];simp[dA]
  ·have d1:decide ((k.1:Int)<(x.length:Int))=false:=oq (by omega)
   have hkl:k.1=x.length:=by omega
   have hkk:kk x i.1=x.length:=by rw[<-hkl];exact a2o _ _ _ _ _ hk1 (by omega) hk0 (fun h=>by omega)
   have hst:red x.length (FN x) (i.1+1)=red x.length (FN x) i.1:=a3o hkk
   simp only[d1,cond_false]
   refine⟨⟨fun h=>(by cases h),fun h=>(by cases h),fun h=>(by cases h),fun h=>(by cases h),fun h=>(by cases h),fun h=>(by cases h),fun h=>absurd h (by omega)⟩,fun h=>(by cases h),fun _=>⟨fun _=>⟨⟨i.1+1,by omega⟩,by simp only;omega,hw _ (by omega),?_,?_⟩,fun h=>?_⟩⟩
   ·show _=aY _ _ (red x.length (FN x) (i.1+1)).1
    rw[hst]
   ·show _=dA (red x.length (FN x) (i.1+1)).2
    rw[hst]
   ·rw[hkl] at h;simp at h
 ·have:i.1=n.toNat:=by have:=i.2;omega
  rw[this];exact⟨rfl,rfl⟩
def c4r:BJ:=.chg LKm [tI] [.list tI] (fun x y=>a5c x y.1) (fun x y=>aY (show MR from x).length (wdM (show MR from x)) (rdm x (show Int from y.1).toNat)) (fun x y=>(dA (rdp x (show Int from y.1).toNat),()))
abbrev rz (x:MR) (j:Nat) (m:Mt):Rho:=[(0,.mat 32 64 tR none (aY x.length (wdM x) m) 0),(128,.row 3 tI (dA (rdp x j)) 0)]
theorem b1F:NOk Tryz.prog 105 c4r:=by
 refine a6J (((((nil0.ad a7v).ad b2N).ad ZX).ad b1w).an c2P) ⟨[9],[],[]⟩ Tryz.func105 rfl (by decide) (fun x y=>[.inv {j:Nat // j<=(show Int from y.1).toNat} (fun j=>[(13,.val tI (j.1:Int)),(5,.own 128 0)]++[(6,.any),(7,.any),(8,.any),(9,.any),(10,.any),(11,.any),(14,.any),(15,.any),(16,.any),(17,.any),(18,.any),(19,.any),(20,.any),(21,.any),(22,.any),(23,.any),(24,.any),(25,.any),(26,.any),(27,.any),(28,.any),(29,.any),(30,.any),(31,.any),(32,.any),(33,.any),(34,.any),(35,.any),(36,.any),(37,.any),(38,.any),(39,.any),(40,.any),(41,.any),(42,.any),(43,.any),(44,.any),(45,.any),(46,.any),(47,.any),(48,.any),(49,.any),(50,.any),(51,.any),(52,.any),(53,.any),(54,.any),(55,.any),(56,.any),(57,.any),(58,.any),(59,.any),(60,.any),(61,.any),(62,.any),(63,.any),(64,.any),(65,.any),(66,.any),(67,.any),(68,.any),(69,.any),(70,.any),(71,.any),(72,.any),(73,.any),(74,.any),(75,.any),(76,.any),(77,.any),(78,.any),(79,.any),(80,.any),(81,.any),(82,.any),(83,.any),(84,.any),(85,.any),(86,.any),(87,.any),(88,.any),(89,.any),(90,.any),(91,.any),(92,.any),(93,.any),(94,.any),(95,.any),(96,.any),(97,.any),(98,.any),(99,.any),(100,.any),(101,.any),(102,.any),(103,.any),(104,.any),(105,.any),(106,.any),(107,.any),(108,.any),(109,.any),(110,.any),(111,.any),(112,.any),(113,.any),(114,.any),(115,.any),(116,.any),(117,.any),(118,.any),(119,.any),(120,.any),(121,.any),(122,.any),(123,.any),(124,.any),(125,.any),(126,.any),(127,.any),(128,.any),(129,.any)]) (fun j=>rz x j.1 (rdm x j.1)) (fun j=>(show Int from y.1).toNat-j.1) ⟨0,by omega⟩ (fun j=>[
  .inv {k:Nat // (rdp x j.1).length<=k/\k<=(show MR from x).length/\∀ i,(rdp x j.1).length<=i->i<k->rdm x j.1 i j.1=0} (fun k=>[(8,.val tI (k.1:Int))]) (fun k=>rz x j.1 (rdm x j.1)) (fun k=>(show MR from x).length-k.1) ⟨(rdp x j.1).length,aj _,(jD _ _ _).le,fun i h1 h2=>absurd h2 (by omega)⟩ (fun _=>[]),
  .inv {c:Nat // j.1<=c} (fun c=>[(10,.val tI (c.1:Int))]++[(19,.any),(20,.any),(21,.any),(22,.any),(23,.any),(24,.any),(25,.any),(26,.any),(27,.any),(28,.any),(29,.any),(30,.any),(31,.any),(32,.any),(33,.any),(34,.any),(35,.any),(36,.any),(37,.any),(38,.any),(39,.any),(40,.any),(41,.any),(42,.any),(43,.any),(44,.any),(45,.any),(46,.any),(47,.any),(48,.any),(49,.any),(50,.any),(51,.any),(52,.any),(53,.any),(54,.any),(55,.any),(56,.any),(57,.any),(58,.any),(59,.any),(60,.any),(61,.any),(62,.any)]) (fun c=>rz x j.1 (scl (iO (rdm x j.1) (rdp x j.1).length (kk x j.1)) (rdp x j.1).length j.1 c.1 (1 / rdm x j.1 (kk x j.1) j.1))++[(9,.box [⟨tQ,1 / rdm x j.1 (kk x j.1) j.1⟩])]) (fun c=>wdM (show MR from x)-c.1) ⟨j.1,aj _⟩ (fun _=>[]),
  .inv {i:Nat // i<=(show MR from x).length} (fun i=>[(90,.val tI (i.1:Int))]++[(64,.any),(65,.any),(66,.any),(67,.any),(68,.any),(69,.any),(70,.any),(71,.any),(72,.any),(73,.any),(74,.any),(75,.any),(76,.any),(77,.any),(78,.any),(79,.any),(80,.any),(81,.any),(82,.any),(83,.any),(84,.any),(85,.any),(86,.any),(87,.any)]) (fun i=>rz x j.1 (elm (scl (iO (rdm x j.1) (rdp x j.1).length (kk x j.1)) (rdp x j.1).length j.1 (wdM x) (1 / rdm x j.1 (kk x j.1) j.1)) (rdp x j.1).length j.1 i.1)) (fun i=>(show MR from x).length-i.1) ⟨0,by omega⟩ (fun _=>[])])]) (fun x y hp=>?_)
 obtain⟨n,u⟩:=y
 change Int at n
 change List (List aF) at x
 refine bP (let A₀:=(fun(x:Ty.den (Ty.lf Lf.dG))=>aF.x x);(asT Int 0=0/\(True/\asT (List Int) (aC Int)=aC Int)/\x=aY x.length (wdM x) (rdm x 0)/\(asT (List Int) (aC Int)=aC Int/\0=0/\asT Bool true=true)/\True)/\∀ (i:{ j:Nat // j<=Int.toNat n }),let A₂:=(aY x.length (wdM x) (rdm x (aA i)));let aQ:=(dA (rdp x (aA i))).length;let bK:=(rdp x (aA i)).length;let bZ:=(1 / rdm x (aA i) (kk x (aA i)) (aA i));let dJ:=(iO (rdm x (aA i)) bK (kk x (aA i)));let A₁:=(scl dJ bK (aA i) (wdM x) bZ);let dS:=(nameAt none (aB aQ).toNat);let gB:=(aB (aA i)).toNat;asT Bool true=true/\ifB (decide (aB (aA i)<n)) ((aB aQ=aB bK/\aY x.length (wdM x) (rdm x (aA i))=aY x.length (wdM x) (rdm x (aA i))/\dA (rdp x (aA i))=dA (rdp x (aA i))/\True)/\∀ (i_1:{ k:Nat // List.length (rdp x (aA i))<=k/\k<=List.length x/\∀ (i_1:Nat),List.length (rdp x (aA i))<=i_1->i_1<k->rdm x (aA i) i_1 (aA i)=0 }),let oH:=(aB (aA i_1)<aB (aH none A₂));let eU:=(decide oH==true);let pY:=(aB (aA i_1)).toNat;let iH:=(nameAt none pY);let lJ:=(List.getD (rowAt A₂ iH) gB { ok:=false,x:=0,g:=aC Nat,h:=aC Nat });let lF:=(some (List.set (aV none A₂) (aB aQ).toNat iH));let gQ:=(List.set (aV lF A₂) pY dS);let kV:=(rowAt A₂ (nameAt (some gQ) (aB aQ).toNat));let iY:=(List.getD kV gB { ok:=false,x:=0,g:=aC Nat,h:=aC Nat });asT Bool true=true/\((eU=true->eU=true/\eU=true/\0<=aB (aA i_1)/\aB (aA i_1)<aB (aH none A₂)/\True)/\(eU=true->eU=true/\Int.toNat (aB (aA i_1))<aH none A₂/\True)/\(eU=true->eU=true/\eU=true/\0<=aB (aA i)/\aB (aA i)<aB (rowAt A₂ iH).length/\True)/\(eU=true->eU=true/\Int.toNat (aB (aA i))<List.length (rowAt A₂ iH)/\True)/\(eU=true->eU=true/\aF.ok lJ=true/\rsz (aF.x lJ)<=1000000000/\True)/\(eU=true->eU=true/\True)/\(decide oH=true->eU=true)/\True)/\ifB (bif decide oH then sgn (Rat.num (aF.x lJ))==0 else false) (∃ (i':{ k:Nat // List.length (rdp x (aA i))<=k/\k<=List.length x/\∀ (i_2:Nat),List.length (rdp x (aA i))<=i_2->i_2<k->rdm x (aA i) i_2 (aA i)=0 }),List.length x-aA i'<List.length x-aA i_1/\IntKind.wrap IntKind.i64 (aB (aA i_1)+1)=aB (aA i')/\aY x.length (wdM x) (rdm x (aA i))=aY x.length (wdM x) (rdm x (aA i))/\dA (rdp x (aA i))=dA (rdp x (aA i))/\True) (ifB (aB (aA i_1)==aB (aH none A₂)) (∃ (i':{ j:Nat // j<=Int.toNat n }),Int.toNat n-aA i'<Int.toNat n-aA i/\IntKind.wrap IntKind.i64 (aB (aA i)+1)=aB (aA i')/\aY x.length (wdM x) (rdm x (aA i))=aY x.length (wdM x) (rdm x (aA i'))/\dA (rdp x (aA i))=dA (rdp x (aA i'))/\True) ((0<=aB (aA i_1)/\aB (aA i_1)<aB (aH none A₂)/\Int.toNat (aB (aA i_1))<aH none A₂/\0<=aB aQ/\aB aQ<aB (aH none A₂)/\Int.toNat (aB aQ)<aH none A₂/\0<=aB aQ/\aB aQ<aB (aH none A₂)/\Int.toNat (aB aQ)<aH none A₂/\0<=aB (aA i_1)/\aB (aA i_1)<aB (aH lF A₂)/\Int.toNat (aB (aA i_1))<aH lF A₂/\True)/\(iW 1/\0<=aB aQ/\aB aQ<aB (aH (some gQ) A₂)/\Int.toNat (aB aQ)<aH (some gQ) A₂/\0<=aB (aA i)/\aB (aA i)<aB kV.length/\Int.toNat (aB (aA i))<List.length kV/\aF.ok iY=true/\(rsz (fA 1)<=400000000/\rsz (aF.x iY)<=400000000/\aF.x iY≠0)/\True)/\(aB (aA i)=aB (aA i)/\List.Nodup gQ/\List.map (fun(i_2:Nat)=>List.getD A₂ i_2 (aC aF)) gQ=aY x.length (wdM x) (scl dJ bK (aA i) (aA i) bZ)/\dA (rdp x (aA i))=dA (rdp x (aA i))/\fA 1 / aF.x iY=1 / rdm x (aA i) (kk x (aA i)) (aA i)/\True)/\∀ (i_2:{ c:Nat // aA i<=c }),let C₁:=(scl dJ bK (aA i) (aA i_2) bZ);let gG:=(aY x.length (wdM x) C₁);let rC:=(rowAt gG dS).length;let C₂:=(aB (aA i_2)).toNat;let uH:=(List.getD (rowAt gG dS) C₂ { ok:=false,x:=0,g:=aC Nat,h:=aC Nat });asT Bool true=true/\(0<=aB aQ/\aB aQ<aB (aH none gG)/\Int.toNat (aB aQ)<aH none gG/\True)/\ifB (decide (aB (aA i_2)<aB rC)) ((0<=aB aQ/\aB aQ<aB (aH none gG)/\Int.toNat (aB aQ)<aH none gG/\0<=aB aQ/\aB aQ<aB (aH none gG)/\Int.toNat (aB aQ)<aH none gG/\0<=aB (aA i_2)/\aB (aA i_2)<aB rC/\Int.toNat (aB (aA i_2))<List.length (rowAt gG dS)/\aF.ok uH=true/\s44 bZ (aF.x uH)/\0<=aB (aA i_2)/\aB (aA i_2)<aB rC/\Int.toNat (aB (aA i_2))<List.length (rowAt gG dS)/\True)/\∃ (i':{ c:Nat // aA i<=c }),wdM x-aA i'<wdM x-aA i_2/\IntKind.wrap IntKind.i64 (aB (aA i_2)+1)=aB (aA i')/\List.set gG dS (List.set (rowAt gG dS) C₂ (fD (1 / rdm x (aA i) (kk x (aA i)) (aA i)*aF.x uH)))=aY x.length (wdM x) (scl dJ bK (aA i) (aA i') bZ)/\dA (rdp x (aA i))=dA (rdp x (aA i))/\1 / rdm x (aA i) (kk x (aA i)) (aA i)=1 / rdm x (aA i) (kk x (aA i)) (aA i)/\True) ((asT Int 0=0/\aY x.length (wdM x) C₁=aY x.length (wdM x) (elm A₁ bK (aA i) 0)/\dA (rdp x (aA i))=dA (rdp x (aA i))/\True)/\∀ (i_3:{ i:Nat // i<=List.length x }),let AX:=(elm A₁ bK (aA i) (aA i_3));let C₃:=(aY x.length (wdM x) AX);let IC:=(aB (aA i_3)).toNat;let xJ:=(nameAt none IC);let kC:=(rowAt C₃ xJ);let sF:=(List.getD kC gB { ok:=false,x:=0,g:=aC Nat,h:=aC Nat });let JQ:=(aB (aA i_3) != aB aQ);let jO:=(JQ==true);asT Bool true=true/\ifB (decide (aB (aA i_3)<aB (aH none gG))) (((jO=true->jO=true/\jO=true/\0<=aB (aA i_3)/\aB (aA i_3)<aB (aH none C₃)/\True)/\(jO=true->jO=true/\Int.toNat (aB (aA i_3))<aH none C₃/\True)/\(jO=true->jO=true/\jO=true/\0<=aB (aA i)/\aB (aA i)<aB kC.length/\True)/\(jO=true->jO=true/\Int.toNat (aB (aA i))<List.length kC/\True)/\(jO=true->jO=true/\aF.ok sF=true/\rsz (aF.x sF)<=1000000000/\True)/\(jO=true->jO=true/\True)/\(JQ=true->jO=true)/\True)/\ifB (bif aB (aA i_3) != aB aQ then sgn (Rat.num (aF.x sF)) != 0 else false) ((0<=aB (aA i_3)/\aB (aA i_3)<aB (aH none C₃)/\Int.toNat (aB (aA i_3))<aH none C₃/\0<=aB aQ/\aB aQ<aB (aH none C₃)/\Int.toNat (aB aQ)<aH none C₃/\0<=aB (aA i_3)/\aB (aA i_3)<aB (aH none C₃)/\Int.toNat (aB (aA i_3))<aH none C₃/\0<=aB (aA i)/\aB (aA i)<aB kC.length/\Int.toNat (aB (aA i))<List.length kC/\nameAt none (aB aQ).toNat≠nameAt none IC/\eH (fun(x:Ty.den (Ty.lf Lf.dG))=>bY ((aF.ok x=true)::aC Prop)) (rowAt C₃ dS)/\aF.ok sF=true/\((∀ (q:aF),q ∈ rowAt C₃ xJ->q=fD (aF.x q))/\List.length kC=List.length (List.map A₀ (rowAt C₃ dS))/\List.length kC<=1000/\0<=aB (aA i)/\(∀ (q:aF),q ∈ rowAt C₃ xJ->rsz (aF.x q)<=400000000)/\rsz (aF.x sF)<=100000000/\∀ (q:Rat),q ∈ List.map A₀ (rowAt C₃ dS)->rsz q<=100000000)/\True)/\∃ (i':{ i:Nat // i<=List.length x }),List.length x-aA i'<List.length x-aA i_3/\IntKind.wrap IntKind.i64 (aB (aA i_3)+1)=aB (aA i')/\List.set C₃ xJ (qV kC (List.map A₀ (rowAt C₃ dS)) (aF.x sF) gB kC.length)=aY x.length (wdM x) (elm A₁ bK (aA i) (aA i'))/\dA (rdp x (aA i))=dA (rdp x (aA i))/\True) (∃ (i':{ i:Nat // i<=List.length x }),List.length x-aA i'<List.length x-aA i_3/\IntKind.wrap IntKind.i64 (aB (aA i_3)+1)=aB (aA i')/\aY x.length (wdM x) AX=aY x.length (wdM x) (elm A₁ bK (aA i) (aA i'))/\dA (rdp x (aA i))=dA (rdp x (aA i))/\True)) ((List.length (dA (rdp x (aA i)))+List.length (aB (aA i)::aC Int)<=1000000000/\True)/\∃ (i':{ j:Nat // j<=Int.toNat n }),Int.toNat n-aA i'<Int.toNat n-aA i/\IntKind.wrap IntKind.i64 (aB (aA i)+1)=aB (aA i')/\aY x.length (wdM x) AX=aY x.length (wdM x) (rdm x (aA i'))/\dA (rdp x (aA i))++aB (aA i)::aC Int=dA (rdp x (aA i'))/\True))))) (True/\dA (rdp x (aA i))=dA (rdp x n.toNat)/\aY x.length (wdM x) (rdm x n.toNat)=aY x.length (wdM x) (rdm x (aA i)))) (by kernel_rfl) ?_
 exact b7f x n hp
abbrev TUn:List Ty:=[]
def a8k (c:(nest TUn).den) (i j:Int):Prop:=0<=i/\0<=j
def gUn (c:(nest TUn).den) (i j:Nat):Rat:=idm i j
theorem EN:aW Tryz.prog 92 (a0p TUn a8k gUn):=by
 refine lM (nil0.ad a7v) [4] Tryz.func92 rfl (by decide) (fun x=>[]) (fun x hp=>?_)
 obtain⟨i,j,c⟩:=x
 change Int at i
 change Int at j
 have hu:c=():=rfl
 refine bP (ifB (i==j) ((iW 1/\True)/\True/\fA 1=gUn c i.toNat j.toNat/\True) ((iW 0/\True)/\True/\fA 0=gUn c i.toNat j.toNat/\True)) (by kernel_rfl) ?_
 try dsimp only[aB,asT,aA,aC] at *
 have h1:0<=i/\0<=j:=hp
 refine aT.mpr ⟨fun h=>⟨⟨by unfold iW;omega,trivial⟩,trivial,?_,trivial⟩,fun h=>⟨⟨by unfold iW;omega,trivial⟩,trivial,?_,trivial⟩⟩
 ·have h:i=j:=by simpa using h
  show ((1:Int):Rat)=if i.toNat=j.toNat then 1 else 0
  rw[ig (by rw[h])];rfl
 ·have h:i≠j:=by simpa using h
  show ((0:Int):Rat)=if i.toNat=j.toNat then 1 else 0
  rw[iq (by omega)];rfl
abbrev TAd:List Ty:=[.ref tM,.ref tM]
def b4i (c:(nest TAd).den) (i j:Int):Prop:=(0<=i/\i.toNat<(show MQ from c.1).length/\i.toNat<(show MQ from c.2.1).length/\0<=j/\j.toNat<((show MQ from c.1).getD i.toNat []).length/\j.toNat<((show MQ from c.2.1).getD i.toNat []).length)/\s44 (ent c.1 i.toNat j.toNat) (ent c.2.1 i.toNat j.toNat)
def gAd (c:(nest TAd).den) (i j:Nat):Rat:=ent c.1 i j+ent c.2.1 i j
theorem XR:aW Tryz.prog 114 (a0p TAd b4i gAd):=by
 refine lM (nil0.ad b5N) [6] Tryz.func114 rfl (by decide) (fun x=>[]) (fun x hp=>?_)
 obtain⟨i,j,c⟩:=x
 change Int at i
 change Int at j
 obtain⟨a,b,u⟩:=c
 change List (List Rat) at a
 change List (List Rat) at b
 refine bP ((0<=i/\i<aB a.length/\0<=j/\j<aB (List.getD a i.toNat (aC Rat)).length/\0<=i/\i<aB b.length/\0<=j/\j<aB (List.getD b i.toNat (aC Rat)).length/\s44 (List.getD (List.getD a i.toNat (aC Rat)) j.toNat 0) (List.getD (List.getD b i.toNat (aC Rat)) j.toNat 0)/\True)/\True/\List.getD (List.getD a i.toNat (aC Rat)) j.toNat 0+List.getD (List.getD b i.toNat (aC Rat)) j.toNat 0=gAd (a,b,u) i.toNat j.toNat/\True) (by kernel_rfl) ?_
 try dsimp only[aB,asT,aA,aC] at *
 have h1:(0<=i/\i.toNat<a.length/\i.toNat<b.length/\0<=j/\j.toNat<(a.getD i.toNat []).length/\j.toNat<(b.getD i.toNat []).length)/\s44 (ent a i.toNat j.toNat) (ent b i.toNat j.toNat):=hp
 obtain⟨⟨k1,k2,k3,k4,k5,k6⟩,k7⟩:=h1
 exact⟨⟨k1,by omega,k4,by omega,k1,by omega,k4,by omega,k7,trivial⟩,trivial,rfl,trivial⟩
abbrev TSb:List Ty:=[.ref tM,.ref tM]
def b4p (c:(nest TSb).den) (i j:Int):Prop:=(0<=i/\i.toNat<(show MQ from c.1).length/\i.toNat<(show MQ from c.2.1).length/\0<=j/\j.toNat<((show MQ from c.1).getD i.toNat []).length/\j.toNat<((show MQ from c.2.1).getD i.toNat []).length)/\s44 (ent c.1 i.toNat j.toNat) (ent c.2.1 i.toNat j.toNat)
def gSb (c:(nest TSb).den) (i j:Nat):Rat:=ent c.1 i j-ent c.2.1 i j
theorem XZ:aW Tryz.prog 144 (a0p TSb b4p gSb):=by
 refine lM (nil0.ad b5O) [6] Tryz.func144 rfl (by decide) (fun x=>[]) (fun x hp=>?_)
 obtain⟨i,j,c⟩:=x
 change Int at i
 change Int at j
 obtain⟨a,b,u⟩:=c
 change List (List Rat) at a
 change List (List Rat) at b
 refine bP ((0<=i/\i<aB a.length/\0<=j/\j<aB (List.getD a i.toNat (aC Rat)).length/\0<=i/\i<aB b.length/\0<=j/\j<aB (List.getD b i.toNat (aC Rat)).length/\s44 (List.getD (List.getD a i.toNat (aC Rat)) j.toNat 0) (List.getD (List.getD b i.toNat (aC Rat)) j.toNat 0)/\True)/\True/\List.getD (List.getD a i.toNat (aC Rat)) j.toNat 0-List.getD (List.getD b i.toNat (aC Rat)) j.toNat 0=gSb (a,b,u) i.toNat j.toNat/\True) (by kernel_rfl) ?_
 try dsimp only[aB,asT,aA,aC] at *
 have h1:(0<=i/\i.toNat<a.length/\i.toNat<b.length/\0<=j/\j.toNat<(a.getD i.toNat []).length/\j.toNat<(b.getD i.toNat []).length)/\s44 (ent a i.toNat j.toNat) (ent b i.toNat j.toNat):=hp
 obtain⟨⟨k1,k2,k3,k4,k5,k6⟩,k7⟩:=h1
 exact⟨⟨k1,by omega,k4,by omega,k1,by omega,k4,by omega,k7,trivial⟩,trivial,rfl,trivial⟩
abbrev TBe:List Ty:=[.ref tM,.ref tM]
def b4j (c:(nest TBe).den) (i j:Int):Prop:=0<=i/\i.toNat<(show MQ from c.1).length/\i.toNat<(show MQ from c.2.1).length/\0<=j/\(show MQ from c.1).length<=1000/\((show MQ from c.1).getD i.toNat []).length=wdM (show MQ from c.1)/\j.toNat<wdM (show MQ from c.1)+((show MQ from c.2.1).getD i.toNat []).length/\j<=1000
def gBe (c:(nest TBe).den) (i j:Nat):Rat:=jK (wdM (show MQ from c.1)) (ent c.1) (ent c.2.1) i j
theorem XT:aW Tryz.prog 146 (a0p TBe b4j gBe):=by
 refine lM nil0 [6] Tryz.func146 rfl (by decide) (fun x=>[]) (fun x hp=>?_)
 obtain⟨i,j,c⟩:=x
 change Int at i
 change Int at j
 obtain⟨a,b,u⟩:=c
 change List (List Rat) at a
 change List (List Rat) at b
 refine bP ((asT Int 0<=0/\0<aB a.length/\True)/\ifB (decide (j<aB (List.getD a 0 (aC Rat)).length)) ((0<=i/\i<aB a.length/\0<=j/\j<aB (List.getD a i.toNat (aC Rat)).length/\True)/\True/\List.getD (List.getD a i.toNat (aC Rat)) j.toNat 0=gBe (a,b,u) i.toNat j.toNat/\True) ((0<=i/\i<aB b.length/\asT Int 0<=0/\0<aB a.length/\0<=IntKind.wrap IntKind.i64 (j-aB (List.getD a 0 (aC Rat)).length)/\IntKind.wrap IntKind.i64 (j-aB (List.getD a 0 (aC Rat)).length)<aB (List.getD b i.toNat (aC Rat)).length/\True)/\True/\List.getD (List.getD b i.toNat (aC Rat)) (IntKind.wrap IntKind.i64 (j-aB (List.getD a 0 (aC Rat)).length)).toNat 0=gBe (a,b,u) i.toNat j.toNat/\True)) (by kernel_rfl) ?_
 try dsimp only[aB,asT,aA,aC] at *
 have h1:0<=i/\i.toNat<a.length/\i.toNat<b.length/\0<=j/\a.length<=1000/\(a.getD i.toNat []).length=wdM a/\j.toNat<wdM a+(b.getD i.toNat []).length/\j<=1000:=hp
 obtain⟨k1,k2,k3,k4,k5,k6,k7,k8⟩:=h1
 have hw:(a.getD 0 []).length=wdM a:=rfl
 rw[hw]
 refine⟨⟨xg 0,by omega,trivial⟩,aT.mpr ⟨fun h=>?_,fun h=>?_⟩⟩
 ·have h:j<(wdM a:Int):=ru h
  refine⟨⟨k1,by omega,k4,by rw[k6];exact h,trivial⟩,trivial,?_,trivial⟩
  show ent a i.toNat j.toNat=if j.toNat<wdM a then _ else _
  rw[ig (by omega)]
 ·have h:¬ j<(wdM a:Int):=Ce h
  have e:IntKind.wrap .i64 (j-(wdM a:Int))=j-(wdM a:Int):=aZ (by omega) (by omega)
  rw[e]
  refine⟨⟨k1,by omega,xg 0,by omega,by omega,by omega,trivial⟩,trivial,?_,trivial⟩
  show ent b i.toNat (j-(wdM a:Int)).toNat=if j.toNat<wdM a then _ else _
  rw[iq (by omega),show (j-(wdM a:Int)).toNat=j.toNat-wdM a by omega]
abbrev TIn:List Ty:=[.ref tMR,.ref tI]
def b4m (c:(nest TIn).den) (i j:Int):Prop:=0<=i/\i.toNat<(show MR from c.1).length/\0<=j/\j<=1000/\0<=(show Int from c.2.1)/\(show Int from c.2.1)<=1000/\(show Int from c.2.1).toNat+j.toNat<((show MR from c.1).getD i.toNat []).length/\(((show MR from c.1).getD i.toNat []).getD ((show Int from c.2.1).toNat+j.toNat) bU).ok=true
def gIn (c:(nest TIn).den) (i j:Nat):Rat:=FN c.1 i ((show Int from c.2.1).toNat+j)
theorem XW:aW Tryz.prog 117 (a0p TIn b4m gIn):=by
 refine lM nil0 [6] Tryz.func117 rfl (by decide) (fun x=>[]) (fun x hp=>?_)
 obtain⟨i,j,c⟩:=x
 change Int at i
 change Int at j
 obtain⟨a,n,u⟩:=c
 change List (List aF) at a
 change Int at n
 refine bP (let A₁:=(List.getD a i.toNat (aC aF));let A₀:=(List.getD A₁ (IntKind.wrap IntKind.i64 (n+j)).toNat { ok:=false,x:=0,g:=aC Nat,h:=aC Nat });(0<=i/\i<aB a.length/\0<=IntKind.wrap IntKind.i64 (n+j)/\IntKind.wrap IntKind.i64 (n+j)<aB A₁.length/\True)/\(aF.ok A₀=true/\True)/\aF.x A₀=gIn (a,n,u) i.toNat j.toNat/\True) (by kernel_rfl) ?_
 try dsimp only[aB,asT,aA,aC] at *
 have h1:0<=i/\i.toNat<a.length/\0<=j/\j<=1000/\0<=n/\n<=1000/\n.toNat+j.toNat<(a.getD i.toNat []).length/\((a.getD i.toNat []).getD (n.toNat+j.toNat) bU).ok=true:=hp
 obtain⟨k1,k2,k3,k4,k5,k6,k7,k8⟩:=h1
 have e:IntKind.wrap .i64 (n+j)=n+j:=aZ (by omega) (by omega)
 have e2:(n+j).toNat=n.toNat+j.toNat:=by omega
 rw[e,e2]
 exact⟨⟨k1,by omega,by omega,by omega,trivial⟩,⟨k8,trivial⟩,rfl,trivial⟩
abbrev TCl:List Ty:=[.ref (.list tQ)]
def b4k (c:(nest TCl).den) (i j:Int):Prop:=0<=i/\i.toNat<(show LQ' from c.1).length
def gCl (c:(nest TCl).den) (i j:Nat):Rat:=lv c.1 i
theorem XU:aW Tryz.prog 147 (a0p TCl b4k gCl):=by
 refine lM nil0 [5] Tryz.func147 rfl (by decide) (fun x=>[]) (fun x hp=>?_)
 obtain⟨i,j,c⟩:=x
 change Int at i
 change Int at j
 obtain⟨a,u⟩:=c
 change List Rat at a
 refine bP ((0<=i/\i<aB a.length/\True)/\True/\List.getD a i.toNat 0=gCl (a,u) i.toNat j.toNat/\True) (by kernel_rfl) ?_
 try dsimp only[aB,asT,aA,aC] at *
 have h1:0<=i/\i.toNat<a.length:=hp
 exact⟨⟨h1.1,by omega,trivial⟩,trivial,rfl,trivial⟩
theorem yG:NOk Tryz.prog 110 (KU 92 TUn a8k gUn):=by
 refine rP ((((nil0.an jT).an jV).an jU).ad EN) ⟨[],[],[(11,tR)]⟩ Ec rfl (by decide) (fun x=>uJ x.1 x.2.1 (gUn x.2.2.1)) (fun x hp=>?_)
 obtain⟨m,n,c,u⟩:=x
 obtain⟨R,C,hR,hC,r2,c2,hP⟩:=hp
 change m=(R:Int) at hR
 change n=(C:Int) at hC
 subst hR hC
 refine bP (vP R C (gUn c) (a8k c) (fun y=>aY R C (gUn c)=y)) (by kernel_rfl) ?_
 exact nX r2 c2 hP rfl
theorem yB:NOk Tryz.prog 110 (KU 114 TAd b4i gAd):=by
 refine rP ((((nil0.an jT).an jV).an jU).ad XR) ⟨[],[],[(11,tR)]⟩ Ec rfl (by decide) (fun x=>uJ x.1 x.2.1 (gAd x.2.2.1)) (fun x hp=>?_)
 obtain⟨m,n,c,u⟩:=x
 obtain⟨R,C,hR,hC,r2,c2,hP⟩:=hp
 change m=(R:Int) at hR
 change n=(C:Int) at hC
 subst hR hC
 refine bP (vP R C (gAd c) (b4i c) (fun y=>aY R C (gAd c)=y)) (by kernel_rfl) ?_
 exact nX r2 c2 hP rfl
theorem yF:NOk Tryz.prog 110 (KU 144 TSb b4p gSb):=by
 refine rP ((((nil0.an jT).an jV).an jU).ad XZ) ⟨[],[],[(11,tR)]⟩ Ec rfl (by decide) (fun x=>uJ x.1 x.2.1 (gSb x.2.2.1)) (fun x hp=>?_)
 obtain⟨m,n,c,u⟩:=x
 obtain⟨R,C,hR,hC,r2,c2,hP⟩:=hp
 change m=(R:Int) at hR
 change n=(C:Int) at hC
 subst hR hC
 refine bP (vP R C (gSb c) (b4p c) (fun y=>aY R C (gSb c)=y)) (by kernel_rfl) ?_
 exact nX r2 c2 hP rfl
theorem yC:NOk Tryz.prog 110 (KU 146 TBe b4j gBe):=by
 refine rP ((((nil0.an jT).an jV).an jU).ad XT) ⟨[],[],[(11,tR)]⟩ Ec rfl (by decide) (fun x=>uJ x.1 x.2.1 (gBe x.2.2.1)) (fun x hp=>?_)
 obtain⟨m,n,c,u⟩:=x
 obtain⟨R,C,hR,hC,r2,c2,hP⟩:=hp
 change m=(R:Int) at hR
 change n=(C:Int) at hC
 subst hR hC
 refine bP (vP R C (gBe c) (b4j c) (fun y=>aY R C (gBe c)=y)) (by kernel_rfl) ?_
 exact nX r2 c2 hP rfl
theorem yE:NOk Tryz.prog 110 (KU 117 TIn b4m gIn):=by
 refine rP ((((nil0.an jT).an jV).an jU).ad XW) ⟨[],[],[(11,tR)]⟩ Ec rfl (by decide) (fun x=>uJ x.1 x.2.1 (gIn x.2.2.1)) (fun x hp=>?_)
 obtain⟨m,n,c,u⟩:=x
 obtain⟨R,C,hR,hC,r2,c2,hP⟩:=hp
 change m=(R:Int) at hR
 change n=(C:Int) at hC
 subst hR hC
 refine bP (vP R C (gIn c) (b4m c) (fun y=>aY R C (gIn c)=y)) (by kernel_rfl) ?_
 exact nX r2 c2 hP rfl
theorem yD:NOk Tryz.prog 110 (KU 147 TCl b4k gCl):=by
 refine rP ((((nil0.an jT).an jV).an jU).ad XU) ⟨[],[],[(11,tR)]⟩ Ec rfl (by decide) (fun x=>uJ x.1 x.2.1 (gCl x.2.2.1)) (fun x hp=>?_)
 obtain⟨m,n,c,u⟩:=x
 obtain⟨R,C,hR,hC,r2,c2,hP⟩:=hp
 change m=(R:Int) at hR
 change n=(C:Int) at hC
 subst hR hC
 refine bP (vP R C (gCl c) (b4k c) (fun y=>aY R C (gCl c)=y)) (by kernel_rfl) ?_
 exact nX r2 c2 hP rfl
end Go.Proofs.YtgplhbhfdgempaaGreat
