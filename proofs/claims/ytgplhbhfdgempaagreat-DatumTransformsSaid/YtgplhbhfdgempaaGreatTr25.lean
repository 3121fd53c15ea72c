/-
  Lemmas for the theorem vtransforms_holds, part 25 of 39.
-/
import Derived.Test.YtgplhbhfdgempaaGreatTr24
namespace Go.Proofs.YtgplhbhfdgempaaGreat
open Go Go.RowKit
set_option maxRecDepth 100000
set_option maxHeartbeats 1000000
set_option linter.unusedVariables false
set_option linter.unusedSimpArgs false
def FN (x:MR):Mt:=fun i j=>((x.getD i []).getD j cO).x
theorem RZ {R C:Nat} {f:Mt} {i j:Nat} (hi:i<R) (hj:j<C):FN (aY R C f) i j=f i j:=by
 show (((aY R C f).getD i []).getD j cO).x=_
 rw[jG hi,gX hj];rfl
def a4D (x:MR) (n:Int):Prop:=x=aY x.length (wdM x) (FN x)/\1<=x.length/\x.length<=1000/\1<=wdM x/\wdM x<=1000/\0<=n/\n.toNat<=wdM x/\zA x.length (wdM x) (FN x) n.toNat
abbrev rdm (x:MR) (j:Nat):Mt:=(red x.length (FN x) j).1
abbrev rdp (x:MR) (j:Nat):List Nat:=(red x.length (FN x) j).2
def kk (x:MR) (j:Nat):Nat:=fk (rdm x j) j (rdp x j).length (x.length-(rdp x j).length)
theorem a8j {R C:Nat} {f:Nat->Nat->Rat} {i j:Nat} (v:Rat) (hi:i<R):(aY R C f).set i (((aY R C f).getD i []).set j (eU v))=aY R C (fun a b=>if a=i/\b=j then v else f a b):=by
 rw[jG hi,map_set]
 rw[show (fun d=>if d=j then eU v else eU (f i d))=(fun d=>eU (if d=j then v else f i d)) from funext fun d=>by split<;>rfl,a3i i]
 refine lJ fun a _ b _=>?_
 by_cases e:a=i
 ·subst e;rw[gy rfl]
  by_cases e2:b=j
  ·rw[gy e2,gy ⟨rfl,e2⟩]
  ·rw[ig e2,ig (by simp[e2])]
 ·rw[ig e,ig (by simp[e])]
theorem b4q {R C r k:Nat} {m:Mt} (hr:r<R) (hk:k<R):List.map (fun t=>(aY R C m).getD t []) (((List.range R).set r k).set k r)=aY R C (iO m r k):=by
 rw[QJ,Ec]
 unfold aY
 refine jl fun i hi=>?_
 have hi:=uy.mp hi
 show (aY R C m).getD (if i=k then r else if i=r then k else i) []=_
 have hb:(if i=k then r else if i=r then k else i)<R:=by
  split
  ·exact hr
  ·split
   ·exact hk
   ·exact hi
 rw[jG hb]
 refine jl fun c _=>?_
 unfold iO
 by_cases e1:i=k
 ·by_cases e2:i=r
  ·rw[gy e1,gy e2];have:r=k:=by omega
   rw[this]
  ·rw[gy e1,ig e2,gy e1]
 ·by_cases e2:i=r
  ·rw[ig e1,gy e2,gy e2]
  ·rw[ig e1,ig e2,ig e2,ig e1]
theorem a2x (C:Nat) (f:Nat->Rat):List.map (fun x=>aF.x x) ((List.range C).map fun c=>eU (f c))=(List.range C).map f:=by simp[eU]
theorem b1N {C:Nat} {f g:Nat->Rat} {k:Rat} {s:Nat}:qM ((List.range C).map fun c=>eU (f c)) ((List.range C).map g) k s C=(List.range C).map fun c=>eU (if s<=c then f c-k*g c else f c):=by
 unfold qM
 rw[show ((List.range C).map fun c=>eU (f c)).length=C by simp]
 refine jl fun c hc=>?_
 have hc:=uy.mp hc
 rw[gX hc,show lv ((List.range C).map g) c=g c from gX hc]
 by_cases h:s<=c
 ·rw[gy ⟨h,hc⟩,gy h];rfl
 ·rw[ig (by omega),ig h]
theorem yV {C:Nat} {f:Nat->Rat} {q:aF} (h:q ∈ (List.range C).map fun c=>eU (f c)):∃ c,c<C/\q=eU (f c):=by
 obtain⟨c,hc,rfl⟩:=ru.mp h;exact⟨c,uy.mp hc,rfl⟩
theorem b6C (x:MR) (n:Int) (hp:a4D x n):let A₀:=(fun(x:Ty.den (Ty.lf Lf.dF))=>aF.x x);(asT Int 0=0/\(True/\asT (List Int) (aC Int)=aC Int)/\x=aY x.length (wdM x) (rdm x 0)/\(asT (List Int) (aC Int)=aC Int/\0=0/\asT Bool true=true)/\True)/\∀ (i:{ j:Nat // j<=Int.toNat n }),let A₂:=(aY x.length (wdM x) (rdm x (aA i)));let aQ:=(bV (rdp x (aA i))).length;let bJ:=(rdp x (aA i)).length;let dA:=(1 / rdm x (aA i) (kk x (aA i)) (aA i));let dJ:=(iO (rdm x (aA i)) bJ (kk x (aA i)));let A₁:=(scl dJ bJ (aA i) (wdM x) dA);let dU:=(nameAt none (aB aQ).toNat);let fP:=(aB (aA i)).toNat;asT Bool true=true/\ifB (decide (aB (aA i)<n)) ((aB aQ=aB bJ/\aY x.length (wdM x) (rdm x (aA i))=aY x.length (wdM x) (rdm x (aA i))/\bV (rdp x (aA i))=bV (rdp x (aA i))/\True)/\∀ (i_1:{ k:Nat // List.length (rdp x (aA i))<=k/\k<=List.length x/\∀ (i_1:Nat),List.length (rdp x (aA i))<=i_1->i_1<k->rdm x (aA i) i_1 (aA i)=0 }),let qI:=(aB (aA i_1)<aB (aH none A₂));let fQ:=(decide qI==true);let nS:=(aB (aA i_1)).toNat;let jX:=(nameAt none nS);let oK:=(List.getD (rowAt A₂ jX) fP { ok:=false,x:=0,g:=aC Nat,h:=aC Nat });let kU:=(some (List.set (aV none A₂) (aB aQ).toNat jX));let gQ:=(List.set (aV kU A₂) nS dU);let pI:=(rowAt A₂ (nameAt (some gQ) (aB aQ).toNat));let jU:=(List.getD pI fP { ok:=false,x:=0,g:=aC Nat,h:=aC Nat });asT Bool true=true/\((fQ=true->fQ=true/\fQ=true/\0<=aB (aA i_1)/\aB (aA i_1)<aB (aH none A₂)/\True)/\(fQ=true->fQ=true/\Int.toNat (aB (aA i_1))<aH none A₂/\True)/\(fQ=true->fQ=true/\fQ=true/\0<=aB (aA i)/\aB (aA i)<aB (rowAt A₂ jX).length/\True)/\(fQ=true->fQ=true/\Int.toNat (aB (aA i))<List.length (rowAt A₂ jX)/\True)/\(fQ=true->fQ=true/\aF.ok oK=true/\rsz (aF.x oK)<=1000000000/\True)/\(fQ=true->fQ=true/\True)/\(decide qI=true->fQ=true)/\True)/\ifB (bif decide qI then sgn (Rat.num (aF.x oK))==0 else false) (∃ (i':{ k:Nat // List.length (rdp x (aA i))<=k/\k<=List.length x/\∀ (i_2:Nat),List.length (rdp x (aA i))<=i_2->i_2<k->rdm x (aA i) i_2 (aA i)=0 }),List.length x-aA i'<List.length x-aA i_1/\IntKind.wrap IntKind.i64 (aB (aA i_1)+1)=aB (aA i')/\aY x.length (wdM x) (rdm x (aA i))=aY x.length (wdM x) (rdm x (aA i))/\bV (rdp x (aA i))=bV (rdp x (aA i))/\True) (ifB (aB (aA i_1)==aB (aH none A₂)) (∃ (i':{ j:Nat // j<=Int.toNat n }),Int.toNat n-aA i'<Int.toNat n-aA i/\IntKind.wrap IntKind.i64 (aB (aA i)+1)=aB (aA i')/\aY x.length (wdM x) (rdm x (aA i))=aY x.length (wdM x) (rdm x (aA i'))/\bV (rdp x (aA i))=bV (rdp x (aA i'))/\True) ((0<=aB (aA i_1)/\aB (aA i_1)<aB (aH none A₂)/\Int.toNat (aB (aA i_1))<aH none A₂/\0<=aB aQ/\aB aQ<aB (aH none A₂)/\Int.toNat (aB aQ)<aH none A₂/\0<=aB aQ/\aB aQ<aB (aH none A₂)/\Int.toNat (aB aQ)<aH none A₂/\0<=aB (aA i_1)/\aB (aA i_1)<aB (aH kU A₂)/\Int.toNat (aB (aA i_1))<aH kU A₂/\True)/\(iY 1/\0<=aB aQ/\aB aQ<aB (aH (some gQ) A₂)/\Int.toNat (aB aQ)<aH (some gQ) A₂/\0<=aB (aA i)/\aB (aA i)<aB pI.length/\Int.toNat (aB (aA i))<List.length pI/\aF.ok jU=true/\(rsz (eP 1)<=400000000/\rsz (aF.x jU)<=400000000/\aF.x jU≠0)/\True)/\(aB (aA i)=aB (aA i)/\List.Nodup gQ/\List.map (fun(i_2:Nat)=>List.getD A₂ i_2 (aC aF)) gQ=aY x.length (wdM x) (scl dJ bJ (aA i) (aA i) dA)/\bV (rdp x (aA i))=bV (rdp x (aA i))/\eP 1 / aF.x jU=1 / rdm x (aA i) (kk x (aA i)) (aA i)/\True)/\∀ (i_2:{ c:Nat // aA i<=c }),let C₁:=(scl dJ bJ (aA i) (aA i_2) dA);let fU:=(aY x.length (wdM x) C₁);let oM:=(rowAt fU dU).length;let C₂:=(aB (aA i_2)).toNat;let oL:=(List.getD (rowAt fU dU) C₂ { ok:=false,x:=0,g:=aC Nat,h:=aC Nat });asT Bool true=true/\(0<=aB aQ/\aB aQ<aB (aH none fU)/\Int.toNat (aB aQ)<aH none fU/\True)/\ifB (decide (aB (aA i_2)<aB oM)) ((0<=aB aQ/\aB aQ<aB (aH none fU)/\Int.toNat (aB aQ)<aH none fU/\0<=aB aQ/\aB aQ<aB (aH none fU)/\Int.toNat (aB aQ)<aH none fU/\0<=aB (aA i_2)/\aB (aA i_2)<aB oM/\Int.toNat (aB (aA i_2))<List.length (rowAt fU dU)/\aF.ok oL=true/\s44 dA (aF.x oL)/\0<=aB (aA i_2)/\aB (aA i_2)<aB oM/\Int.toNat (aB (aA i_2))<List.length (rowAt fU dU)/\True)/\∃ (i':{ c:Nat // aA i<=c }),wdM x-aA i'<wdM x-aA i_2/\IntKind.wrap IntKind.i64 (aB (aA i_2)+1)=aB (aA i')/\List.set fU dU (List.set (rowAt fU dU) C₂ (eU (1 / rdm x (aA i) (kk x (aA i)) (aA i)*aF.x oL)))=aY x.length (wdM x) (scl dJ bJ (aA i) (aA i') dA)/\bV (rdp x (aA i))=bV (rdp x (aA i))/\1 / rdm x (aA i) (kk x (aA i)) (aA i)=1 / rdm x (aA i) (kk x (aA i)) (aA i)/\True) ((asT Int 0=0/\aY x.length (wdM x) C₁=aY x.length (wdM x) (elm A₁ bJ (aA i) 0)/\bV (rdp x (aA i))=bV (rdp x (aA i))/\True)/\∀ (i_3:{ i:Nat // i<=List.length x }),let yF:=(elm A₁ bJ (aA i) (aA i_3));let C₃:=(aY x.length (wdM x) yF);let JF:=(aB (aA i_3)).toNat;let AL:=(nameAt none JF);let jV:=(rowAt C₃ AL);let rQ:=(List.getD jV fP { ok:=false,x:=0,g:=aC Nat,h:=aC Nat });let AZ:=(aB (aA i_3) != aB aQ);let jY:=(AZ==true);asT Bool true=true/\ifB (decide (aB (aA i_3)<aB (aH none fU))) (((jY=true->jY=true/\jY=true/\0<=aB (aA i_3)/\aB (aA i_3)<aB (aH none C₃)/\True)/\(jY=true->jY=true/\Int.toNat (aB (aA i_3))<aH none C₃/\True)/\(jY=true->jY=true/\jY=true/\0<=aB (aA i)/\aB (aA i)<aB jV.length/\True)/\(jY=true->jY=true/\Int.toNat (aB (aA i))<List.length jV/\True)/\(jY=true->jY=true/\aF.ok rQ=true/\rsz (aF.x rQ)<=1000000000/\True)/\(jY=true->jY=true/\True)/\(AZ=true->jY=true)/\True)/\ifB (bif aB (aA i_3) != aB aQ then sgn (Rat.num (aF.x rQ)) != 0 else false) ((0<=aB (aA i_3)/\aB (aA i_3)<aB (aH none C₃)/\Int.toNat (aB (aA i_3))<aH none C₃/\0<=aB aQ/\aB aQ<aB (aH none C₃)/\Int.toNat (aB aQ)<aH none C₃/\0<=aB (aA i_3)/\aB (aA i_3)<aB (aH none C₃)/\Int.toNat (aB (aA i_3))<aH none C₃/\0<=aB (aA i)/\aB (aA i)<aB jV.length/\Int.toNat (aB (aA i))<List.length jV/\nameAt none (aB aQ).toNat≠nameAt none JF/\dS (fun(x:Ty.den (Ty.lf Lf.dF))=>bY ((aF.ok x=true)::aC Prop)) (rowAt C₃ dU)/\aF.ok rQ=true/\((∀ (q:aF),q ∈ rowAt C₃ AL->q=eU (aF.x q))/\List.length jV=List.length (List.map A₀ (rowAt C₃ dU))/\List.length jV<=1000/\0<=aB (aA i)/\(∀ (q:aF),q ∈ rowAt C₃ AL->rsz (aF.x q)<=400000000)/\rsz (aF.x rQ)<=100000000/\∀ (q:Rat),q ∈ List.map A₀ (rowAt C₃ dU)->rsz q<=100000000)/\True)/\∃ (i':{ i:Nat // i<=List.length x }),List.length x-aA i'<List.length x-aA i_3/\IntKind.wrap IntKind.i64 (aB (aA i_3)+1)=aB (aA i')/\List.set C₃ AL (qM jV (List.map A₀ (rowAt C₃ dU)) (aF.x rQ) fP jV.length)=aY x.length (wdM x) (elm A₁ bJ (aA i) (aA i'))/\bV (rdp x (aA i))=bV (rdp x (aA i))/\True) (∃ (i':{ i:Nat // i<=List.length x }),List.length x-aA i'<List.length x-aA i_3/\IntKind.wrap IntKind.i64 (aB (aA i_3)+1)=aB (aA i')/\aY x.length (wdM x) yF=aY x.length (wdM x) (elm A₁ bJ (aA i) (aA i'))/\bV (rdp x (aA i))=bV (rdp x (aA i))/\True)) ((List.length (bV (rdp x (aA i)))+List.length (aB (aA i)::aC Int)<=1000000000/\True)/\∃ (i':{ j:Nat // j<=Int.toNat n }),Int.toNat n-aA i'<Int.toNat n-aA i/\IntKind.wrap IntKind.i64 (aB (aA i)+1)=aB (aA i')/\aY x.length (wdM x) yF=aY x.length (wdM x) (rdm x (aA i'))/\bV (rdp x (aA i))++aB (aA i)::aC Int=bV (rdp x (aA i'))/\True))))) (True/\bV (rdp x (aA i))=bV (rdp x n.toNat)/\aY x.length (wdM x) (rdm x n.toNat)=aY x.length (wdM x) (rdm x (aA i))):=by
 obtain⟨hx,r1,r2,c1,c2,n0,n1,hok⟩:=hp
 have hZ:(⟨false,0,[],[]⟩:aF)=cO:=rfl
 dsimp only[aB,asT,aA,aC,Ty.den,Lf.den] at *
 simp only[hZ,Int.toNat_natCast,aU,ay,au,ni,mg,aH,nameAt,aV,aS,rowAt,pY,iy,iq]
 refine⟨hx,fun i=>⟨fun h1 k=>?_,fun h1=>?_⟩⟩
 ·have hj:i.1<n.toNat:=by omega
  have hjC:i.1<wdM x:=by omega
  have E:=iL x.length (FN x) i.1
  have hle:=E.le
  have zm:∀ a,a<x.length->∀ c,c<wdM x->rsz (rdm x i.1 a c)<=10000000:=hok i.1 (by omega)
  have zn:∀ a,a<x.length->∀ c,c<wdM x->rsz (rdm x (i.1+1) a c)<=10000000:=hok (i.1+1) (by omega)
  obtain⟨hk1,hk2,hk0⟩:=k.2
  have hw:∀ q:Nat,(q:Int)<=1000->IntKind.wrap .i64 ((q:Int)+1)=((q+1:Nat):Int):=fun q hq=>by rw[aZ (by omega) (by omega)];rfl
  by_cases hkR:k.1<x.length
  ·have d1:decide ((k.1:Int)<(x.length:Int))=true:=pz (by omega)
   simp only[d1,jG hkR,gX hjC,qw,iq,cond_true,beq_self_eq_true,true_implies,ni,mg]
   have hz:=zm k.1 hkR i.1 hjC
   have hPR:(rdp x i.1).length<x.length:=by omega
   refine⟨⟨⟨by omega,by omega⟩,hkR,⟨by omega,by omega⟩,hjC,⟨rfl,by show rsz (rdm x i.1 k.1 i.1)<=_;omega⟩,fun _=>trivial⟩,fun h=>⟨⟨k.1+1,by omega,by omega,fun a h1 h2=>?_⟩,by simp only;omega,hw _ (by omega)⟩,fun h=>⟨fun h2=>?_,fun h2=>?_⟩⟩
   ·by_cases e:a=k.1
    ·have h:(sgn (rdm x i.1 k.1 i.1).num==0)=true:=h
     rw[e];exact oZ.mp (by simpa using h)
    ·exact hk0 a h1 (by omega)
   ·have:(k.1:Int)=x.length:=by simpa using h2
    omega
   ·have hne:rdm x i.1 k.1 i.1≠0:=fun e=>by
     have h:(sgn (rdm x i.1 k.1 i.1).num==0)=false:=h
     rw[oZ.mpr e] at h;cases h
    have hkk:kk x i.1=k.1:=a1R _ _ _ _ _ hk1 (by omega) hk0 (fun _=>hne)
    have hst:red x.length (FN x) (i.1+1)=(kK (rdm x i.1) (rdp x i.1).length k.1 i.1,rdp x i.1++[i.1]):=a2N hkk (by omega)
    have hS:∀ a,a<x.length->∀ d,d<wdM x->elm (scl (iO (rdm x i.1) (rdp x i.1).length k.1) (rdp x i.1).length i.1 (wdM x) (1 / rdm x i.1 k.1 i.1)) (rdp x i.1).length i.1 x.length a d=kK (rdm x i.1) (rdp x i.1).length k.1 i.1 a d:=b4n hne hk1 hkR E.rest
    have e1:rdm x (i.1+1)=kK (rdm x i.1) (rdp x i.1).length k.1 i.1:=xu Prod.fst hst
    have e2:rdp x (i.1+1)=rdp x i.1++[i.1]:=xu Prod.snd hst
    rw[e1] at zn
    rw[hkk]
    have hr:=hPR
    generalize hP:(rdp x i.1).length=r at *
    generalize hM:rdm x i.1=m at *
    have hsr:∀ d,iO m r k.1 r d=m k.1 d:=fun d=>by unfold iO;rw[gy rfl]
    have zs:∀ a,a<x.length->∀ d,d<wdM x->rsz (iO m r k.1 a d)<=10000000:=fun a ha d hd=>by
     unfold iO;split
     ·exact zm _ hkR d hd
     ·split
      ·exact zm _ hr d hd
      ·exact zm _ ha d hd
    simp only[swp_get hr,jG hkR,gX hjC,qw,iq]
    have z1:rsz ((1:Int):Rat)=1:=by decide +kernel
    have zi:rsz (1 / m k.1 i.1)<=10000001:=by
     have:=b4f 1 (m k.1 i.1) hne
     have z2:rsz 1=1:=by decide +kernel
     omega
    refine⟨⟨by omega,by omega,by omega,by omega,by omega,by omega,by omega,by omega,by omega,by omega,by omega,by omega⟩,⟨⟨by omega,by omega⟩,by omega,by omega,by omega,by omega,by omega,hjC,rfl,by show rsz ((1:Int):Rat)<=_;omega,by show rsz (m k.1 i.1)<=_;omega,hne⟩,⟨b1U _ hr hkR,by rw[b4q hr hkR,b1u],rfl⟩,fun c=>⟨⟨by omega,by omega,by omega⟩,fun h3=>?_,fun h3=>?_⟩⟩
    ·rw[jG hr] at h3 ⊢
     simp only[qw,iq] at h3 ⊢
     have hc:c.1<wdM x:=by omega
     rw[gX hc,b9E _ _ (aj _),hsr]
     have z3:=zm k.1 hkR c.1 hc
     refine⟨⟨by omega,by omega,by omega,by omega,by omega,by omega,by omega,by omega,hc,rfl,⟨by omega,by show rsz (m k.1 c.1)<=_;omega⟩,by omega,by omega,hc⟩,⟨c.1+1,by have:=c.2;omega⟩,by simp only;omega,hw _ (by omega),?_⟩
     rw[<-jG (f:=scl (iO m r k.1) r i.1 c.1 (1 / m k.1 i.1)) hr]
     refine(a8j _ hr).trans (lJ fun a _ b _=>?_)
     rw[b1t _ c.2]
     show _=if a=r then (if b=c.1 then _ else _) else _
     by_cases ea:a=r
     ·subst ea
      rw[gy rfl]
      by_cases eb:b=c.1
      ·rw[gy ⟨rfl,eb⟩,gy eb,hsr];rfl
      ·rw[ig (by simp[eb]),ig eb]
     ·rw[ig (by simp[ea]),ig ea]
    ·rw[jG hr] at h3
     simp only[qw,iq] at h3
     have hc:wdM x<=c.1:=by omega
     refine⟨?_,fun a=>⟨fun h4=>?_,fun h4=>?_⟩⟩
     ·rw[a9j]
      refine lJ fun b _ d hd=>?_
      unfold scl
      by_cases e:b=r/\i.1<=d
      ·rw[gy ⟨e.1,e.2,by omega⟩,gy ⟨e.1,e.2,hd⟩]
      ·rw[ig (by omega),ig (by omega)]
     ·have ha:a.1<x.length:=by omega
      generalize hN:scl (iO m r k.1) r i.1 (wdM x) (1 / m k.1 i.1)=s at *
      have hrs:∀ d,d<wdM x->rsz (s r d)<=10000000:=fun d hd=>by
       have:=zn r hr d hd
       rw[<-hS r hr d hd,a1K] at this;exact this
      have hos:∀ b,b<x.length->b≠r->∀ d,d<wdM x->rsz (s b d)<=10000000:=fun b hb hbr d hd=>by
       rw[<-hN];unfold scl;rw[ig (by simp[hbr])];exact zs b hb d hd
      have has:∀ b,b<x.length->∀ d,d<wdM x->rsz (s b d)<=10000000:=fun b hb d hd=>by
       by_cases e:b=r
       ·rw[e];exact hrs d hd
       ·exact hos b hb e d hd
      simp only[jG ha,jG hr,gX hjC,qw,iq,a2x]
      simp only[b5B s (aj a.1),a1K]
      have z4:=has a.1 ha i.1 hjC
      refine⟨?_,fun h5=>?_,fun h5=>?_⟩
      ·refine⟨fun h=>⟨h,h,by omega,by omega⟩,fun h=>⟨h,ha⟩,fun h=>⟨h,h,by omega,by omega⟩,fun h=>⟨h,hjC⟩,fun h=>⟨h,rfl,by show rsz (s a.1 i.1)<=_;omega⟩,fun h=>h,fun h=>by rw[h];rfl⟩
      ·have har:a.1≠r:=fun e=>by
        rw[e,show (((r:Nat):Int) != (r:Int))=false by simp] at h5;cases h5
       refine⟨⟨by omega,by omega,ha,by omega,by omega,hr,by omega,by omega,ha,by omega,by omega,hjC,fun e=>har e.symm,kP.mpr fun q hq=>?_,rfl,fun q hq=>?_,trivial,by omega,by omega,fun q hq=>?_,by show rsz (s a.1 i.1)<=_;omega,fun q hq=>?_⟩,⟨a.1+1,by omega⟩,by simp only;omega,hw _ (by omega),?_⟩
       ·obtain⟨c,hc,rfl⟩:=yV hq;exact⟨rfl,trivial⟩
       ·obtain⟨c,hc,rfl⟩:=yV hq;rfl
       ·obtain⟨c,hc,rfl⟩:=yV hq;have:=has a.1 ha c hc;show rsz (s a.1 c)<=_;omega
       ·obtain⟨c,hc,rfl⟩:=ru.mp hq;have:=hrs c (uy.mp hc);show rsz (elm s r i.1 a.1 r c)<=_;rw[a1K];omega
       ·rw[b1N,a3i a.1]
        refine lJ fun b _ d _=>?_
        rw[a9i s har]
        simp only[a1K]
        by_cases eb:b=a.1
        ·simp only[gy eb];rfl
        ·simp only[ig eb]
      ·refine⟨⟨a.1+1,by omega⟩,by simp only;omega,hw _ (by omega),?_⟩
       rw[a9h s]
       by_cases e:a.1=r
       ·exact .inl e
       ·right
        rw[show ((a.1:Int) != (r:Int))=true from vk.mpr (fun h=>e (by omega))] at h5
        have h5:(sgn (s a.1 i.1).num != 0)=false:=h5
        exact oZ.mp (by simpa using h5)
     ·have ha:a.1=x.length:=by have:=a.2;omega
      have hl:=(QE x.length (FN x) i.1).1
      refine⟨by simp;omega,⟨i.1+1,by omega⟩,by simp only;omega,hw _ (by omega),?_,?_⟩
      ·rw[ha]
       show _=aY _ _ (rdm x (i.1+1))
       rw[e1];exact lJ fun b hb d hd=>hS b hb d hd
      ·show _=bV (rdp x (i.1+1))
       rw[e2];simp[bV]
  ·have d1:decide ((k.1:Int)<(x.length:Int))=false:=jy (by omega)
   have hkl:k.1=x.length:=by omega
   have hkk:kk x i.1=x.length:=by rw[<-hkl];exact a1R _ _ _ _ _ hk1 (by omega) hk0 (fun h=>by omega)
   have hst:red x.length (FN x) (i.1+1)=red x.length (FN x) i.1:=a2M hkk
   simp only[d1,cond_false]
   refine⟨⟨fun h=>(by cases h),fun h=>(by cases h),fun h=>(by cases h),fun h=>(by cases h),fun h=>(by cases h),fun h=>(by cases h),fun h=>absurd h (by omega)⟩,fun h=>(by cases h),fun _=>⟨fun _=>⟨⟨i.1+1,by omega⟩,by simp only;omega,hw _ (by omega),?_,?_⟩,fun h=>?_⟩⟩
   ·show _=aY _ _ (red x.length (FN x) (i.1+1)).1
    rw[hst]
   ·show _=bV (red x.length (FN x) (i.1+1)).2
    rw[hst]
   ·rw[hkl] at h;simp at h
 ·have:i.1=n.toNat:=by have:=i.2;omega
  rw[this];exact⟨rfl,rfl⟩
def c4b:AO:=.chg LKm [tI] [.list tI] (fun x y=>a4D x y.1) (fun x y=>aY (show MR from x).length (wdM (show MR from x)) (rdm x (show Int from y.1).toNat)) (fun x y=>(bV (rdp x (show Int from y.1).toNat),()))
abbrev rz (x:MR) (j:Nat) (m:Mt):Rho:=[(0,.mat 32 64 tR none (aY x.length (wdM x) m) 0),(128,.row 3 tI (bV (rdp x j)) 0)]
theorem b1b:NOk Tryz.prog 105 c4b:=by
 refine a6b (((((nil0.ad a6Q).ad b2i).ad a3y).ad b0T).an c2s) ⟨[9],[],[]⟩ Tryz.func105 rfl (by decide) (fun x y=>[.inv {j:Nat // j<=(show Int from y.1).toNat} (fun j=>[(13,.val tI (j.1:Int)),(5,.own 128 0)]++[(6,.any),(7,.any),(8,.any),(9,.any),(10,.any),(11,.any),(14,.any),(15,.any),(16,.any),(17,.any),(18,.any),(19,.any),(20,.any),(21,.any),(22,.any),(23,.any),(24,.any),(25,.any),(26,.any),(27,.any),(28,.any),(29,.any),(30,.any),(31,.any),(32,.any),(33,.any),(34,.any),(35,.any),(36,.any),(37,.any),(38,.any),(39,.any),(40,.any),(41,.any),(42,.any),(43,.any),(44,.any),(45,.any),(46,.any),(47,.any),(48,.any),(49,.any),(50,.any),(51,.any),(52,.any),(53,.any),(54,.any),(55,.any),(56,.any),(57,.any),(58,.any),(59,.any),(60,.any),(61,.any),(62,.any),(63,.any),(64,.any),(65,.any),(66,.any),(67,.any),(68,.any),(69,.any),(70,.any),(71,.any),(72,.any),(73,.any),(74,.any),(75,.any),(76,.any),(77,.any),(78,.any),(79,.any),(80,.any),(81,.any),(82,.any),(83,.any),(84,.any),(85,.any),(86,.any),(87,.any),(88,.any),(89,.any),(90,.any),(91,.any),(92,.any),(93,.any),(94,.any),(95,.any),(96,.any),(97,.any),(98,.any),(99,.any),(100,.any),(101,.any),(102,.any),(103,.any),(104,.any),(105,.any),(106,.any),(107,.any),(108,.any),(109,.any),(110,.any),(111,.any),(112,.any),(113,.any),(114,.any),(115,.any),(116,.any),(117,.any),(118,.any),(119,.any),(120,.any),(121,.any),(122,.any),(123,.any),(124,.any),(125,.any),(126,.any),(127,.any),(128,.any),(129,.any)]) (fun j=>rz x j.1 (rdm x j.1)) (fun j=>(show Int from y.1).toNat-j.1) ⟨0,by omega⟩ (fun j=>[
  .inv {k:Nat // (rdp x j.1).length<=k/\k<=(show MR from x).length/\∀ i,(rdp x j.1).length<=i->i<k->rdm x j.1 i j.1=0} (fun k=>[(8,.val tI (k.1:Int))]) (fun k=>rz x j.1 (rdm x j.1)) (fun k=>(show MR from x).length-k.1) ⟨(rdp x j.1).length,aj _,(iL _ _ _).le,fun i h1 h2=>absurd h2 (by omega)⟩ (fun _=>[]),
  .inv {c:Nat // j.1<=c} (fun c=>[(10,.val tI (c.1:Int))]++[(19,.any),(20,.any),(21,.any),(22,.any),(23,.any),(24,.any),(25,.any),(26,.any),(27,.any),(28,.any),(29,.any),(30,.any),(31,.any),(32,.any),(33,.any),(34,.any),(35,.any),(36,.any),(37,.any),(38,.any),(39,.any),(40,.any),(41,.any),(42,.any),(43,.any),(44,.any),(45,.any),(46,.any),(47,.any),(48,.any),(49,.any),(50,.any),(51,.any),(52,.any),(53,.any),(54,.any),(55,.any),(56,.any),(57,.any),(58,.any),(59,.any),(60,.any),(61,.any),(62,.any)]) (fun c=>rz x j.1 (scl (iO (rdm x j.1) (rdp x j.1).length (kk x j.1)) (rdp x j.1).length j.1 c.1 (1 / rdm x j.1 (kk x j.1) j.1))++[(9,.box [⟨tQ,1 / rdm x j.1 (kk x j.1) j.1⟩])]) (fun c=>wdM (show MR from x)-c.1) ⟨j.1,aj _⟩ (fun _=>[]),
  .inv {i:Nat // i<=(show MR from x).length} (fun i=>[(90,.val tI (i.1:Int))]++[(64,.any),(65,.any),(66,.any),(67,.any),(68,.any),(69,.any),(70,.any),(71,.any),(72,.any),(73,.any),(74,.any),(75,.any),(76,.any),(77,.any),(78,.any),(79,.any),(80,.any),(81,.any),(82,.any),(83,.any),(84,.any),(85,.any),(86,.any),(87,.any)]) (fun i=>rz x j.1 (elm (scl (iO (rdm x j.1) (rdp x j.1).length (kk x j.1)) (rdp x j.1).length j.1 (wdM x) (1 / rdm x j.1 (kk x j.1) j.1)) (rdp x j.1).length j.1 i.1)) (fun i=>(show MR from x).length-i.1) ⟨0,by omega⟩ (fun _=>[])])]) (fun x y hp=>?_)
 obtain⟨n,u⟩:=y
 change Int at n
 change List (List aF) at x
 refine bM (let A₀:=(fun(x:Ty.den (Ty.lf Lf.dF))=>aF.x x);(asT Int 0=0/\(True/\asT (List Int) (aC Int)=aC Int)/\x=aY x.length (wdM x) (rdm x 0)/\(asT (List Int) (aC Int)=aC Int/\0=0/\asT Bool true=true)/\True)/\∀ (i:{ j:Nat // j<=Int.toNat n }),let A₂:=(aY x.length (wdM x) (rdm x (aA i)));let aQ:=(bV (rdp x (aA i))).length;let bJ:=(rdp x (aA i)).length;let dA:=(1 / rdm x (aA i) (kk x (aA i)) (aA i));let dJ:=(iO (rdm x (aA i)) bJ (kk x (aA i)));let A₁:=(scl dJ bJ (aA i) (wdM x) dA);let dU:=(nameAt none (aB aQ).toNat);let fP:=(aB (aA i)).toNat;asT Bool true=true/\ifB (decide (aB (aA i)<n)) ((aB aQ=aB bJ/\aY x.length (wdM x) (rdm x (aA i))=aY x.length (wdM x) (rdm x (aA i))/\bV (rdp x (aA i))=bV (rdp x (aA i))/\True)/\∀ (i_1:{ k:Nat // List.length (rdp x (aA i))<=k/\k<=List.length x/\∀ (i_1:Nat),List.length (rdp x (aA i))<=i_1->i_1<k->rdm x (aA i) i_1 (aA i)=0 }),let qI:=(aB (aA i_1)<aB (aH none A₂));let fQ:=(decide qI==true);let nS:=(aB (aA i_1)).toNat;let jX:=(nameAt none nS);let oK:=(List.getD (rowAt A₂ jX) fP { ok:=false,x:=0,g:=aC Nat,h:=aC Nat });let kU:=(some (List.set (aV none A₂) (aB aQ).toNat jX));let gQ:=(List.set (aV kU A₂) nS dU);let pI:=(rowAt A₂ (nameAt (some gQ) (aB aQ).toNat));let jU:=(List.getD pI fP { ok:=false,x:=0,g:=aC Nat,h:=aC Nat });asT Bool true=true/\((fQ=true->fQ=true/\fQ=true/\0<=aB (aA i_1)/\aB (aA i_1)<aB (aH none A₂)/\True)/\(fQ=true->fQ=true/\Int.toNat (aB (aA i_1))<aH none A₂/\True)/\(fQ=true->fQ=true/\fQ=true/\0<=aB (aA i)/\aB (aA i)<aB (rowAt A₂ jX).length/\True)/\(fQ=true->fQ=true/\Int.toNat (aB (aA i))<List.length (rowAt A₂ jX)/\True)/\(fQ=true->fQ=true/\aF.ok oK=true/\rsz (aF.x oK)<=1000000000/\True)/\(fQ=true->fQ=true/\True)/\(decide qI=true->fQ=true)/\True)/\ifB (bif decide qI then sgn (Rat.num (aF.x oK))==0 else false) (∃ (i':{ k:Nat // List.length (rdp x (aA i))<=k/\k<=List.length x/\∀ (i_2:Nat),List.length (rdp x (aA i))<=i_2->i_2<k->rdm x (aA i) i_2 (aA i)=0 }),List.length x-aA i'<List.length x-aA i_1/\IntKind.wrap IntKind.i64 (aB (aA i_1)+1)=aB (aA i')/\aY x.length (wdM x) (rdm x (aA i))=aY x.length (wdM x) (rdm x (aA i))/\bV (rdp x (aA i))=bV (rdp x (aA i))/\True) (ifB (aB (aA i_1)==aB (aH none A₂)) (∃ (i':{ j:Nat // j<=Int.toNat n }),Int.toNat n-aA i'<Int.toNat n-aA i/\IntKind.wrap IntKind.i64 (aB (aA i)+1)=aB (aA i')/\aY x.length (wdM x) (rdm x (aA i))=aY x.length (wdM x) (rdm x (aA i'))/\bV (rdp x (aA i))=bV (rdp x (aA i'))/\True) ((0<=aB (aA i_1)/\aB (aA i_1)<aB (aH none A₂)/\Int.toNat (aB (aA i_1))<aH none A₂/\0<=aB aQ/\aB aQ<aB (aH none A₂)/\Int.toNat (aB aQ)<aH none A₂/\0<=aB aQ/\aB aQ<aB (aH none A₂)/\Int.toNat (aB aQ)<aH none A₂/\0<=aB (aA i_1)/\aB (aA i_1)<aB (aH kU A₂)/\Int.toNat (aB (aA i_1))<aH kU A₂/\True)/\(iY 1/\0<=aB aQ/\aB aQ<aB (aH (some gQ) A₂)/\Int.toNat (aB aQ)<aH (some gQ) A₂/\0<=aB (aA i)/\aB (aA i)<aB pI.length/\Int.toNat (aB (aA i))<List.length pI/\aF.ok jU=true/\(rsz (eP 1)<=400000000/\rsz (aF.x jU)<=400000000/\aF.x jU≠0)/\True)/\(aB (aA i)=aB (aA i)/\List.Nodup gQ/\List.map (fun(i_2:Nat)=>List.getD A₂ i_2 (aC aF)) gQ=aY x.length (wdM x) (scl dJ bJ (aA i) (aA i) dA)/\bV (rdp x (aA i))=bV (rdp x (aA i))/\eP 1 / aF.x jU=1 / rdm x (aA i) (kk x (aA i)) (aA i)/\True)/\∀ (i_2:{ c:Nat // aA i<=c }),let C₁:=(scl dJ bJ (aA i) (aA i_2) dA);let fU:=(aY x.length (wdM x) C₁);let oM:=(rowAt fU dU).length;let C₂:=(aB (aA i_2)).toNat;let oL:=(List.getD (rowAt fU dU) C₂ { ok:=false,x:=0,g:=aC Nat,h:=aC Nat });asT Bool true=true/\(0<=aB aQ/\aB aQ<aB (aH none fU)/\Int.toNat (aB aQ)<aH none fU/\True)/\ifB (decide (aB (aA i_2)<aB oM)) ((0<=aB aQ/\aB aQ<aB (aH none fU)/\Int.toNat (aB aQ)<aH none fU/\0<=aB aQ/\aB aQ<aB (aH none fU)/\Int.toNat (aB aQ)<aH none fU/\0<=aB (aA i_2)/\aB (aA i_2)<aB oM/\Int.toNat (aB (aA i_2))<List.length (rowAt fU dU)/\aF.ok oL=true/\s44 dA (aF.x oL)/\0<=aB (aA i_2)/\aB (aA i_2)<aB oM/\Int.toNat (aB (aA i_2))<List.length (rowAt fU dU)/\True)/\∃ (i':{ c:Nat // aA i<=c }),wdM x-aA i'<wdM x-aA i_2/\IntKind.wrap IntKind.i64 (aB (aA i_2)+1)=aB (aA i')/\List.set fU dU (List.set (rowAt fU dU) C₂ (eU (1 / rdm x (aA i) (kk x (aA i)) (aA i)*aF.x oL)))=aY x.length (wdM x) (scl dJ bJ (aA i) (aA i') dA)/\bV (rdp x (aA i))=bV (rdp x (aA i))/\1 / rdm x (aA i) (kk x (aA i)) (aA i)=1 / rdm x (aA i) (kk x (aA i)) (aA i)/\True) ((asT Int 0=0/\aY x.length (wdM x) C₁=aY x.length (wdM x) (elm A₁ bJ (aA i) 0)/\bV (rdp x (aA i))=bV (rdp x (aA i))/\True)/\∀ (i_3:{ i:Nat // i<=List.length x }),let yF:=(elm A₁ bJ (aA i) (aA i_3));let C₃:=(aY x.length (wdM x) yF);let JF:=(aB (aA i_3)).toNat;let AL:=(nameAt none JF);let jV:=(rowAt C₃ AL);let rQ:=(List.getD jV fP { ok:=false,x:=0,g:=aC Nat,h:=aC Nat });let AZ:=(aB (aA i_3) != aB aQ);let jY:=(AZ==true);asT Bool true=true/\ifB (decide (aB (aA i_3)<aB (aH none fU))) (((jY=true->jY=true/\jY=true/\0<=aB (aA i_3)/\aB (aA i_3)<aB (aH none C₃)/\True)/\(jY=true->jY=true/\Int.toNat (aB (aA i_3))<aH none C₃/\True)/\(jY=true->jY=true/\jY=true/\0<=aB (aA i)/\aB (aA i)<aB jV.length/\True)/\(jY=true->jY=true/\Int.toNat (aB (aA i))<List.length jV/\True)/\(jY=true->jY=true/\aF.ok rQ=true/\rsz (aF.x rQ)<=1000000000/\True)/\(jY=true->jY=true/\True)/\(AZ=true->jY=true)/\True)/\ifB (bif aB (aA i_3) != aB aQ then sgn (Rat.num (aF.x rQ)) != 0 else false) ((0<=aB (aA i_3)/\aB (aA i_3)<aB (aH none C₃)/\Int.toNat (aB (aA i_3))<aH none C₃/\0<=aB aQ/\aB aQ<aB (aH none C₃)/\Int.toNat (aB aQ)<aH none C₃/\0<=aB (aA i_3)/\aB (aA i_3)<aB (aH none C₃)/\Int.toNat (aB (aA i_3))<aH none C₃/\0<=aB (aA i)/\aB (aA i)<aB jV.length/\Int.toNat (aB (aA i))<List.length jV/\nameAt none (aB aQ).toNat≠nameAt none JF/\dS (fun(x:Ty.den (Ty.lf Lf.dF))=>bY ((aF.ok x=true)::aC Prop)) (rowAt C₃ dU)/\aF.ok rQ=true/\((∀ (q:aF),q ∈ rowAt C₃ AL->q=eU (aF.x q))/\List.length jV=List.length (List.map A₀ (rowAt C₃ dU))/\List.length jV<=1000/\0<=aB (aA i)/\(∀ (q:aF),q ∈ rowAt C₃ AL->rsz (aF.x q)<=400000000)/\rsz (aF.x rQ)<=100000000/\∀ (q:Rat),q ∈ List.map A₀ (rowAt C₃ dU)->rsz q<=100000000)/\True)/\∃ (i':{ i:Nat // i<=List.length x }),List.length x-aA i'<List.length x-aA i_3/\IntKind.wrap IntKind.i64 (aB (aA i_3)+1)=aB (aA i')/\List.set C₃ AL (qM jV (List.map A₀ (rowAt C₃ dU)) (aF.x rQ) fP jV.length)=aY x.length (wdM x) (elm A₁ bJ (aA i) (aA i'))/\bV (rdp x (aA i))=bV (rdp x (aA i))/\True) (∃ (i':{ i:Nat // i<=List.length x }),List.length x-aA i'<List.length x-aA i_3/\IntKind.wrap IntKind.i64 (aB (aA i_3)+1)=aB (aA i')/\aY x.length (wdM x) yF=aY x.length (wdM x) (elm A₁ bJ (aA i) (aA i'))/\bV (rdp x (aA i))=bV (rdp x (aA i))/\True)) ((List.length (bV (rdp x (aA i)))+List.length (aB (aA i)::aC Int)<=1000000000/\True)/\∃ (i':{ j:Nat // j<=Int.toNat n }),Int.toNat n-aA i'<Int.toNat n-aA i/\IntKind.wrap IntKind.i64 (aB (aA i)+1)=aB (aA i')/\aY x.length (wdM x) yF=aY x.length (wdM x) (rdm x (aA i'))/\bV (rdp x (aA i))++aB (aA i)::aC Int=bV (rdp x (aA i'))/\True))))) (True/\bV (rdp x (aA i))=bV (rdp x n.toNat)/\aY x.length (wdM x) (rdm x n.toNat)=aY x.length (wdM x) (rdm x (aA i)))) (by kernel_rfl) ?_
 exact b6C x n hp
abbrev TUn:List Ty:=[]
def a7J (c:(nest TUn).den) (i j:Int):Prop:=0<=i/\0<=j
def gUn (c:(nest TUn).den) (i j:Nat):Rat:=idm i j
theorem EM:aW Tryz.prog 92 (ZU TUn a7J gUn):=by
 refine lF (nil0.ad a6Q) [4] Tryz.func92 rfl (by decide) (fun x=>[]) (fun x hp=>?_)
 obtain⟨i,j,c⟩:=x
 change Int at i
 change Int at j
 have hu:c=():=rfl
 refine bM (ifB (i==j) ((iY 1/\True)/\True/\eP 1=gUn c i.toNat j.toNat/\True) ((iY 0/\True)/\True/\eP 0=gUn c i.toNat j.toNat/\True)) (by kernel_rfl) ?_
 try dsimp only[aB,asT,aA,aC] at *
 have h1:0<=i/\0<=j:=hp
 refine aU.mpr ⟨fun h=>⟨⟨by unfold iY;omega,trivial⟩,trivial,?_,trivial⟩,fun h=>⟨⟨by unfold iY;omega,trivial⟩,trivial,?_,trivial⟩⟩
 ·have h:i=j:=by simpa using h
  show ((1:Int):Rat)=if i.toNat=j.toNat then 1 else 0
  rw[gy (by rw[h])];rfl
 ·have h:i≠j:=by simpa using h
  show ((0:Int):Rat)=if i.toNat=j.toNat then 1 else 0
  rw[ig (by omega)];rfl
abbrev TAd:List Ty:=[.ref tM,.ref tM]
def b3G (c:(nest TAd).den) (i j:Int):Prop:=(0<=i/\i.toNat<(show MQ from c.1).length/\i.toNat<(show MQ from c.2.1).length/\0<=j/\j.toNat<((show MQ from c.1).getD i.toNat []).length/\j.toNat<((show MQ from c.2.1).getD i.toNat []).length)/\s44 (ent c.1 i.toNat j.toNat) (ent c.2.1 i.toNat j.toNat)
def gAd (c:(nest TAd).den) (i j:Nat):Rat:=ent c.1 i j+ent c.2.1 i j
theorem WX:aW Tryz.prog 114 (ZU TAd b3G gAd):=by
 refine lF (nil0.ad b5k) [6] Tryz.func114 rfl (by decide) (fun x=>[]) (fun x hp=>?_)
 obtain⟨i,j,c⟩:=x
 change Int at i
 change Int at j
 obtain⟨a,b,u⟩:=c
 change List (List Rat) at a
 change List (List Rat) at b
 refine bM ((0<=i/\i<aB a.length/\0<=j/\j<aB (List.getD a i.toNat (aC Rat)).length/\0<=i/\i<aB b.length/\0<=j/\j<aB (List.getD b i.toNat (aC Rat)).length/\s44 (List.getD (List.getD a i.toNat (aC Rat)) j.toNat 0) (List.getD (List.getD b i.toNat (aC Rat)) j.toNat 0)/\True)/\True/\List.getD (List.getD a i.toNat (aC Rat)) j.toNat 0+List.getD (List.getD b i.toNat (aC Rat)) j.toNat 0=gAd (a,b,u) i.toNat j.toNat/\True) (by kernel_rfl) ?_
 try dsimp only[aB,asT,aA,aC] at *
 have h1:(0<=i/\i.toNat<a.length/\i.toNat<b.length/\0<=j/\j.toNat<(a.getD i.toNat []).length/\j.toNat<(b.getD i.toNat []).length)/\s44 (ent a i.toNat j.toNat) (ent b i.toNat j.toNat):=hp
 obtain⟨⟨k1,k2,k3,k4,k5,k6⟩,k7⟩:=h1
 exact⟨⟨k1,by omega,k4,by omega,k1,by omega,k4,by omega,k7,trivial⟩,trivial,rfl,trivial⟩
abbrev TSb:List Ty:=[.ref tM,.ref tM]
def b3M (c:(nest TSb).den) (i j:Int):Prop:=(0<=i/\i.toNat<(show MQ from c.1).length/\i.toNat<(show MQ from c.2.1).length/\0<=j/\j.toNat<((show MQ from c.1).getD i.toNat []).length/\j.toNat<((show MQ from c.2.1).getD i.toNat []).length)/\s44 (ent c.1 i.toNat j.toNat) (ent c.2.1 i.toNat j.toNat)
def gSb (c:(nest TSb).den) (i j:Nat):Rat:=ent c.1 i j-ent c.2.1 i j
theorem XD:aW Tryz.prog 144 (ZU TSb b3M gSb):=by
 refine lF (nil0.ad b5l) [6] Tryz.func144 rfl (by decide) (fun x=>[]) (fun x hp=>?_)
 obtain⟨i,j,c⟩:=x
 change Int at i
 change Int at j
 obtain⟨a,b,u⟩:=c
 change List (List Rat) at a
 change List (List Rat) at b
 refine bM ((0<=i/\i<aB a.length/\0<=j/\j<aB (List.getD a i.toNat (aC Rat)).length/\0<=i/\i<aB b.length/\0<=j/\j<aB (List.getD b i.toNat (aC Rat)).length/\s44 (List.getD (List.getD a i.toNat (aC Rat)) j.toNat 0) (List.getD (List.getD b i.toNat (aC Rat)) j.toNat 0)/\True)/\True/\List.getD (List.getD a i.toNat (aC Rat)) j.toNat 0-List.getD (List.getD b i.toNat (aC Rat)) j.toNat 0=gSb (a,b,u) i.toNat j.toNat/\True) (by kernel_rfl) ?_
 try dsimp only[aB,asT,aA,aC] at *
 have h1:(0<=i/\i.toNat<a.length/\i.toNat<b.length/\0<=j/\j.toNat<(a.getD i.toNat []).length/\j.toNat<(b.getD i.toNat []).length)/\s44 (ent a i.toNat j.toNat) (ent b i.toNat j.toNat):=hp
 obtain⟨⟨k1,k2,k3,k4,k5,k6⟩,k7⟩:=h1
 exact⟨⟨k1,by omega,k4,by omega,k1,by omega,k4,by omega,k7,trivial⟩,trivial,rfl,trivial⟩
abbrev TBe:List Ty:=[.ref tM,.ref tM]
def b3H (c:(nest TBe).den) (i j:Int):Prop:=0<=i/\i.toNat<(show MQ from c.1).length/\i.toNat<(show MQ from c.2.1).length/\0<=j/\(show MQ from c.1).length<=1000/\((show MQ from c.1).getD i.toNat []).length=wdM (show MQ from c.1)/\j.toNat<wdM (show MQ from c.1)+((show MQ from c.2.1).getD i.toNat []).length/\j<=1000
def gBe (c:(nest TBe).den) (i j:Nat):Rat:=gG (wdM (show MQ from c.1)) (ent c.1) (ent c.2.1) i j
theorem WY:aW Tryz.prog 146 (ZU TBe b3H gBe):=by
 refine lF nil0 [6] Tryz.func146 rfl (by decide) (fun x=>[]) (fun x hp=>?_)
 obtain⟨i,j,c⟩:=x
 change Int at i
 change Int at j
 obtain⟨a,b,u⟩:=c
 change List (List Rat) at a
 change List (List Rat) at b
 refine bM ((asT Int 0<=0/\0<aB a.length/\True)/\ifB (decide (j<aB (List.getD a 0 (aC Rat)).length)) ((0<=i/\i<aB a.length/\0<=j/\j<aB (List.getD a i.toNat (aC Rat)).length/\True)/\True/\List.getD (List.getD a i.toNat (aC Rat)) j.toNat 0=gBe (a,b,u) i.toNat j.toNat/\True) ((0<=i/\i<aB b.length/\asT Int 0<=0/\0<aB a.length/\0<=IntKind.wrap IntKind.i64 (j-aB (List.getD a 0 (aC Rat)).length)/\IntKind.wrap IntKind.i64 (j-aB (List.getD a 0 (aC Rat)).length)<aB (List.getD b i.toNat (aC Rat)).length/\True)/\True/\List.getD (List.getD b i.toNat (aC Rat)) (IntKind.wrap IntKind.i64 (j-aB (List.getD a 0 (aC Rat)).length)).toNat 0=gBe (a,b,u) i.toNat j.toNat/\True)) (by kernel_rfl) ?_
 try dsimp only[aB,asT,aA,aC] at *
 have h1:0<=i/\i.toNat<a.length/\i.toNat<b.length/\0<=j/\a.length<=1000/\(a.getD i.toNat []).length=wdM a/\j.toNat<wdM a+(b.getD i.toNat []).length/\j<=1000:=hp
 obtain⟨k1,k2,k3,k4,k5,k6,k7,k8⟩:=h1
 have hw:(a.getD 0 []).length=wdM a:=rfl
 rw[hw]
 refine⟨⟨xg 0,by omega,trivial⟩,aU.mpr ⟨fun h=>?_,fun h=>?_⟩⟩
 ·have h:j<(wdM a:Int):=ql h
  refine⟨⟨k1,by omega,k4,by rw[k6];exact h,trivial⟩,trivial,?_,trivial⟩
  show ent a i.toNat j.toNat=if j.toNat<wdM a then _ else _
  rw[gy (by omega)]
 ·have h:¬ j<(wdM a:Int):=Ai h
  have e:IntKind.wrap .i64 (j-(wdM a:Int))=j-(wdM a:Int):=aZ (by omega) (by omega)
  rw[e]
  refine⟨⟨k1,by omega,xg 0,by omega,by omega,by omega,trivial⟩,trivial,?_,trivial⟩
  show ent b i.toNat (j-(wdM a:Int)).toNat=if j.toNat<wdM a then _ else _
  rw[ig (by omega),show (j-(wdM a:Int)).toNat=j.toNat-wdM a by omega]
abbrev TIn:List Ty:=[.ref tMR,.ref tI]
def b3K (c:(nest TIn).den) (i j:Int):Prop:=0<=i/\i.toNat<(show MR from c.1).length/\0<=j/\j<=1000/\0<=(show Int from c.2.1)/\(show Int from c.2.1)<=1000/\(show Int from c.2.1).toNat+j.toNat<((show MR from c.1).getD i.toNat []).length/\(((show MR from c.1).getD i.toNat []).getD ((show Int from c.2.1).toNat+j.toNat) cO).ok=true
def gIn (c:(nest TIn).den) (i j:Nat):Rat:=FN c.1 i ((show Int from c.2.1).toNat+j)
theorem XB:aW Tryz.prog 117 (ZU TIn b3K gIn):=by
 refine lF nil0 [6] Tryz.func117 rfl (by decide) (fun x=>[]) (fun x hp=>?_)
 obtain⟨i,j,c⟩:=x
 change Int at i
 change Int at j
 obtain⟨a,n,u⟩:=c
 change List (List aF) at a
 change Int at n
 refine bM (let A₁:=(List.getD a i.toNat (aC aF));let A₀:=(List.getD A₁ (IntKind.wrap IntKind.i64 (n+j)).toNat { ok:=false,x:=0,g:=aC Nat,h:=aC Nat });(0<=i/\i<aB a.length/\0<=IntKind.wrap IntKind.i64 (n+j)/\IntKind.wrap IntKind.i64 (n+j)<aB A₁.length/\True)/\(aF.ok A₀=true/\True)/\aF.x A₀=gIn (a,n,u) i.toNat j.toNat/\True) (by kernel_rfl) ?_
 try dsimp only[aB,asT,aA,aC] at *
 have h1:0<=i/\i.toNat<a.length/\0<=j/\j<=1000/\0<=n/\n<=1000/\n.toNat+j.toNat<(a.getD i.toNat []).length/\((a.getD i.toNat []).getD (n.toNat+j.toNat) cO).ok=true:=hp
 obtain⟨k1,k2,k3,k4,k5,k6,k7,k8⟩:=h1
 have e:IntKind.wrap .i64 (n+j)=n+j:=aZ (by omega) (by omega)
 have e2:(n+j).toNat=n.toNat+j.toNat:=by omega
 rw[e,e2]
 exact⟨⟨k1,by omega,by omega,by omega,trivial⟩,⟨k8,trivial⟩,rfl,trivial⟩
abbrev TCl:List Ty:=[.ref (.list tQ)]
def b3I (c:(nest TCl).den) (i j:Int):Prop:=0<=i/\i.toNat<(show LQ' from c.1).length
def gCl (c:(nest TCl).den) (i j:Nat):Rat:=lv c.1 i
theorem WZ:aW Tryz.prog 147 (ZU TCl b3I gCl):=by
 refine lF nil0 [5] Tryz.func147 rfl (by decide) (fun x=>[]) (fun x hp=>?_)
 obtain⟨i,j,c⟩:=x
 change Int at i
 change Int at j
 obtain⟨a,u⟩:=c
 change List Rat at a
 refine bM ((0<=i/\i<aB a.length/\True)/\True/\List.getD a i.toNat 0=gCl (a,u) i.toNat j.toNat/\True) (by kernel_rfl) ?_
 try dsimp only[aB,asT,aA,aC] at *
 have h1:0<=i/\i.toNat<a.length:=hp
 exact⟨⟨h1.1,by omega,trivial⟩,trivial,rfl,trivial⟩
theorem xR:NOk Tryz.prog 110 (KI 92 TUn a7J gUn):=by
 refine qB ((((nil0.an jP).an jR).an jQ).ad EM) ⟨[],[],[(11,tR)]⟩ Ed rfl (by decide) (fun x=>tJ x.1 x.2.1 (gUn x.2.2.1)) (fun x hp=>?_)
 obtain⟨m,n,c,u⟩:=x
 obtain⟨R,C,hR,hC,r2,c2,hP⟩:=hp
 change m=(R:Int) at hR
 change n=(C:Int) at hC
 subst hR hC
 refine bM (uX R C (gUn c) (a7J c) (fun y=>aY R C (gUn c)=y)) (by kernel_rfl) ?_
 exact nM r2 c2 hP rfl
theorem xK:NOk Tryz.prog 110 (KI 114 TAd b3G gAd):=by
 refine qB ((((nil0.an jP).an jR).an jQ).ad WX) ⟨[],[],[(11,tR)]⟩ Ed rfl (by decide) (fun x=>tJ x.1 x.2.1 (gAd x.2.2.1)) (fun x hp=>?_)
 obtain⟨m,n,c,u⟩:=x
 obtain⟨R,C,hR,hC,r2,c2,hP⟩:=hp
 change m=(R:Int) at hR
 change n=(C:Int) at hC
 subst hR hC
 refine bM (uX R C (gAd c) (b3G c) (fun y=>aY R C (gAd c)=y)) (by kernel_rfl) ?_
 exact nM r2 c2 hP rfl
theorem xQ:NOk Tryz.prog 110 (KI 144 TSb b3M gSb):=by
 refine qB ((((nil0.an jP).an jR).an jQ).ad XD) ⟨[],[],[(11,tR)]⟩ Ed rfl (by decide) (fun x=>tJ x.1 x.2.1 (gSb x.2.2.1)) (fun x hp=>?_)
 obtain⟨m,n,c,u⟩:=x
 obtain⟨R,C,hR,hC,r2,c2,hP⟩:=hp
 change m=(R:Int) at hR
 change n=(C:Int) at hC
 subst hR hC
 refine bM (uX R C (gSb c) (b3M c) (fun y=>aY R C (gSb c)=y)) (by kernel_rfl) ?_
 exact nM r2 c2 hP rfl
theorem xM:NOk Tryz.prog 110 (KI 146 TBe b3H gBe):=by
 refine qB ((((nil0.an jP).an jR).an jQ).ad WY) ⟨[],[],[(11,tR)]⟩ Ed rfl (by decide) (fun x=>tJ x.1 x.2.1 (gBe x.2.2.1)) (fun x hp=>?_)
 obtain⟨m,n,c,u⟩:=x
 obtain⟨R,C,hR,hC,r2,c2,hP⟩:=hp
 change m=(R:Int) at hR
 change n=(C:Int) at hC
 subst hR hC
 refine bM (uX R C (gBe c) (b3H c) (fun y=>aY R C (gBe c)=y)) (by kernel_rfl) ?_
 exact nM r2 c2 hP rfl
theorem xP:NOk Tryz.prog 110 (KI 117 TIn b3K gIn):=by
 refine qB ((((nil0.an jP).an jR).an jQ).ad XB) ⟨[],[],[(11,tR)]⟩ Ed rfl (by decide) (fun x=>tJ x.1 x.2.1 (gIn x.2.2.1)) (fun x hp=>?_)
 obtain⟨m,n,c,u⟩:=x
 obtain⟨R,C,hR,hC,r2,c2,hP⟩:=hp
 change m=(R:Int) at hR
 change n=(C:Int) at hC
 subst hR hC
 refine bM (uX R C (gIn c) (b3K c) (fun y=>aY R C (gIn c)=y)) (by kernel_rfl) ?_
 exact nM r2 c2 hP rfl
theorem xO:NOk Tryz.prog 110 (KI 147 TCl b3I gCl):=by
 refine qB ((((nil0.an jP).an jR).an jQ).ad WZ) ⟨[],[],[(11,tR)]⟩ Ed rfl (by decide) (fun x=>tJ x.1 x.2.1 (gCl x.2.2.1)) (fun x hp=>?_)
 obtain⟨m,n,c,u⟩:=x
 obtain⟨R,C,hR,hC,r2,c2,hP⟩:=hp
 change m=(R:Int) at hR
 change n=(C:Int) at hC
 subst hR hC
 refine bM (uX R C (gCl c) (b3I c) (fun y=>aY R C (gCl c)=y)) (by kernel_rfl) ?_
 exact nM r2 c2 hP rfl
end Go.Proofs.YtgplhbhfdgempaaGreat
