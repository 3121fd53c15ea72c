/-
  The law DatumTransforms holds.
-/
import Derived.Test.YtgplhbhfdgempaaGreatTr38
namespace Go.Proofs.YtgplhbhfdgempaaGreat
open Go Go.RowKit
set_option maxRecDepth 100000
set_option maxHeartbeats 1000000
set_option linter.unusedVariables false
set_option linter.unusedSimpArgs false
theorem c4e (r:LR):okL r=okR r:=rfl
theorem a8Y (g b:MR) (r:LR):nX g b [r]=if (dK g=0/\dK b=0)/\okR r=true then if (b.length=g.length/\wdM b=wdM g)/\r.length=g.length then 0 else 4 else 1:=by
 unfold nX
 have e1:([r].any (fun l=>!okL l)=false)↔okR r=true:=by rw[<-c4e];simp
 have e2:([r].any (fun l=>l.length != g.length)=false)↔r.length=g.length:=by simp
 by_cases h0:(dK g=0/\dK b=0)/\okR r=true
 ·rw[gy ⟨h0.1.1,h0.1.2,e1.mpr h0.2⟩,gy h0]
  by_cases h1:b.length=g.length/\wdM b=wdM g
  ·rw[gy ⟨h1.1.symm,h1.2.symm⟩]
   by_cases h2:r.length=g.length
   ·rw[gy (e2.mpr h2),gy ⟨h1,h2⟩]
   ·rw[ig (fun h=>h2 (e2.mp h)),ig (fun h=>h2 h.2)]
  ·rw[ig (fun h=>h1 ⟨h.1.symm,h.2.symm⟩),ig (fun h=>h1 h.1)]
 ·rw[ig (fun h=>h0 ⟨⟨h.1,h.2.1⟩,e1.mp h.2.2⟩),ig h0]
theorem a1f (g b:MR) (r:LR):tV g b r=if nX g b [r]=0 then if jF (bgM (mq g) (mq b))=true then (mvL (sM (mq g) (mq b)) (lq r),0,()) else ([],14,()) else ([],nX g b [r],()):=by
 rw[a8Y]
 unfold tV
 by_cases h0:(dK g=0/\dK b=0)/\okR r=true
 ·rw[gy h0,gy h0]
  by_cases h1:(b.length=g.length/\wdM b=wdM g)/\r.length=g.length
  ·rw[gy h1,gy h1,gy rfl]
  ·rw[ig h1,ig h1,ig (by decide)]
 ·rw[ig h0,ig h0,ig (by decide)]
theorem RN {g b:MR} {r:LR} (h:nX g b [r]=0):(dK g=0/\dK b=0/\okR r=true)/\b.length=g.length/\wdM b=wdM g/\r.length=g.length:=by
 rw[a8Y] at h
 by_cases h0:(dK g=0/\dK b=0)/\okR r=true
 ·rw[gy h0] at h
  by_cases h1:(b.length=g.length/\wdM b=wdM g)/\r.length=g.length
  ·exact⟨⟨h0.1.1,h0.1.2,h0.2⟩,h1.1.1,h1.1.2,h1.2⟩
  ·rw[ig h1] at h;exact absurd h (by decide)
 ·rw[ig h0] at h;exact absurd h (by decide)
def cdQ (g b q:MR):Int:=if dK g=0/\dK b=0/\dK q=0 then if (b.length=g.length/\wdM b=wdM g)/\q.length=g.length/\wdM q=g.length then 0 else 4 else 1
theorem b2b (g b q:MR):DX g b q=if cdQ g b q=0 then if jF (bgM (mq g) (mq b))=true then (mulM (mulM (sM (mq g) (mq b)) (mq q)) (trM (sM (mq g) (mq b))),0,()) else ([],14,()) else ([],cdQ g b q,()):=by
 unfold DX cdQ
 by_cases h0:dK g=0/\dK b=0/\dK q=0
 ·rw[gy h0,gy h0]
  by_cases h1:(b.length=g.length/\wdM b=wdM g)/\q.length=g.length/\wdM q=g.length
  ·rw[gy h1,gy h1,gy rfl]
  ·rw[ig h1,ig h1,ig (by decide)]
 ·rw[ig h0,ig h0,ig (by decide)]
theorem c1h {g b q:MR} (h:cdQ g b q=0):(dK g=0/\dK b=0/\dK q=0)/\(b.length=g.length/\wdM b=wdM g)/\q.length=g.length/\wdM q=g.length:=by
 unfold cdQ at h
 by_cases h0:dK g=0/\dK b=0/\dK q=0
 ·rw[gy h0] at h
  by_cases h1:(b.length=g.length/\wdM b=wdM g)/\q.length=g.length/\wdM q=g.length
  ·exact⟨h0,h1⟩
  ·rw[ig h1] at h;exact absurd h (by decide)
 ·rw[ig h0] at h;exact absurd h (by decide)
theorem c3x (g b q:MR):(bif (dK g==0&&(dK b==0&&dK q==0))&&((((g.length:Int) != (b.length:Int) || (wdM g:Int) != (wdM b:Int)) || (q.length:Int) != (g.length:Int)) || (wdM q:Int) != (g.length:Int)) then 4 else jC [g,b,q])=cdQ g b q:=by
 unfold cdQ
 by_cases h0:dK g=0/\dK b=0/\dK q=0
 ·have e0:(dK g==0&&(dK b==0&&dK q==0))=true:=by simp[h0.1,h0.2.1,h0.2.2]
  rw[gy h0,e0,Bool.true_and]
  by_cases h1:(b.length=g.length/\wdM b=wdM g)/\q.length=g.length/\wdM q=g.length
  ·have e1:((((g.length:Int) != (b.length:Int) || (wdM g:Int) != (wdM b:Int)) || (q.length:Int) != (g.length:Int)) || (wdM q:Int) != (g.length:Int))=false:=by
    simp[h1.1.1,h1.1.2,h1.2.1,h1.2.2]
   rw[gy h1,e1,cond_false]
   exact c1j.mpr h0
  ·have e1:((((g.length:Int) != (b.length:Int) || (wdM g:Int) != (wdM b:Int)) || (q.length:Int) != (g.length:Int)) || (wdM q:Int) != (g.length:Int))=true:=by
    simp only[tu,vk,ne_eq]
    omega
   rw[ig h1,e1,cond_true]
 ·have e0:(dK g==0&&(dK b==0&&dK q==0))=false:=by
   rw[Bool.eq_false_iff]
   intro h
   rw[ak,ak,ji,ji,ji] at h
   exact h0 h
  rw[ig h0,e0,Bool.false_and,cond_false]
  exact a8Q (fun h=>h0 (c1j.mp h))
theorem c2k (z:Int) (p:Bool):(bif z==0&&!p then 14 else z)=if z=0/\p=false then 14 else z:=by
 by_cases h:z=0
 ·subst h;cases p<;>simp
 ·have e:(z==0)=false:=jv.mpr h
  rw[e,Bool.false_and,cond_false,ig (fun hh=>h hh.1)]
abbrev c4k:Ty:=.pair (.list tR) (.pair tMR .unit)
def c3v:Ctr:=⟨[tFr,c4k,tMR],[tB],fun x=>gdM x.1.1.1/\gdM x.1.2.1/\gdL x.2.1.1/\gdM x.2.1.2.1/\gdM x.2.2.1,fun _=>(true,())⟩
theorem b4x:aW Tryz.prog 7 c3v:=by
 refine bH ((((((((((((((nil0.ad UW).ad a2V).ad FD).ad a0R).ad a4A).ad a9e).ad a9f).ad b2Q).ad b0i).ad a2y).ad b3X).ad b4k).ad b2J).ad b3k) ⟨[],[1000061,1000154,1000165],[]⟩ Tryz.func7 rfl (by decide) (fun x=>[]) (fun x hp=>?_)
 obtain⟨x,v,o,u⟩:=x
 change (List (List aF) × Unit) × List (List aF) × Unit at x
 change List aF × List (List aF) × Unit at v
 change List (List aF) at o
 refine bM (let fP:=(fun(x:Ty.den (Ty.list (Ty.lf Lf.dF)))=>bY (dS (fun(x:Ty.den (Ty.lf Lf.dF))=>bY ((aF.ok x=true)::aC Prop)) x::aC Prop));let jX:=(asT (List aF) v.1::aC (List aF));let oM:=(asT (List aF) v.1);let yF:=(fun(x:Ty.den (Ty.lf Lf.dF))=>aF.x x);let bJ:=(fun(xs:Ty.den (Ty.list (Ty.lf Lf.dF)))=>List.map yF xs);let b5m:=(True/\asT Bool false=true/\True);let b9Y:=(True/\asT Bool true=true/\True);let b2l:=x.1.1;let A₁:=(asT (List (List aF)) b2l);let QM:=(List.getD A₁ 0 (aC aF)).length;let b2m:=x.2.1;let A₂:=(asT (List (List aF)) b2m);let jU:=(tV A₁ A₂ oM);let oL:=(sM (List.map bJ A₁) (List.map bJ A₂));let jV:=((nX A₁ A₂ jX==0)==true);let ZF:=(List.getD A₂ 0 (aC aF)).length;let JF:=(bif aB A₁.length != aB A₂.length then true else aB QM != aB ZF);let ZG:=(bgM (List.map bJ A₁) (List.map bJ A₂));let AL:=(vN (List.map bJ A₁) (List.map bJ A₂)/\jF ZG=true);let b2j:=(jV=true->jV=true/\True);let b9Z:=(List.map (fun(x:Ty.den (Ty.lf Lf.rat))=>eU x) jU.1);let qI:=(tV A₁ o b9Z);let C₂:=(bif Prod.fst qI.2==0 then Prod.fst (tV A₁ o oM).2==0 else false);let b2k:=(Prod.fst qI.2==0);let dU:=((dS (fun(x:Ty.den (Ty.lf Lf.rat))=>bY (aC Prop)) jU.1/\(smK 100 A₁/\smK 100 o/\smL 500000 b9Z)/\True)/\((smK 100 A₁/\smK 100 o/\smL 500000 oM)/\True)/\(((b2k==true)=true->(b2k==true)=true/\True)/\(b2k=true->(b2k==true)=true)/\((C₂==true)=true->(C₂==true)=true/\(C₂==true)=true/\(szL qI.1/\szL (tV A₁ o oM).1)/\True)/\(C₂=true->(C₂==true)=true)/\True)/\True/\(bif bif Prod.fst qI.2==0 then Prod.fst (tV A₁ o oM).2==0 else false then decide (Prod.fst qI=Prod.fst (tV A₁ o oM)) else false)=true/\True);let b2n:=v.2.1;let dJ:=(asT (List (List aF)) b2n);let oK:=(asT (List (List aF)) b2l::asT (List (List aF)) b2m::asT (List (List aF)) b2n::o::aC (List (List aF)));let pI:=(asT (List (List aF)) b2l::asT (List (List aF)) b2m::asT (List (List aF)) b2n::aC (List (List aF)));let A₀:=(jC pI==0);let gQ:=(A₀==true&&JF==false);let C₁:=(DX A₁ A₂ dJ).2;let nS:=((Prod.fst C₁ != 0)==false);let C₃:=((A₀==true)=true->(A₀==true)=true/\True);let jY:=((List.length pI<=1000000/\∀ (a:List (List aF)),a ∈ asT (List (List aF)) b2l::asT (List (List aF)) b2m::asT (List (List aF)) b2n::aC (List (List aF))->fV a)/\True);let rQ:=(bif bif aB A₁.length != aB A₂.length then true else aB QM != aB ZF then true else aB dJ.length != aB A₁.length);let dA:=(A₀==true&&rQ==false);let AZ:=((!List.all oK IB)==false);let D₂:=(mulM (List.map bJ dJ) (trM oL));let wS:=(dA=true->dA=true/\True);let a8u:=(gQ=true->gQ=true/\True);let E₀:=(bif Prod.fst C₁ != 0 then true else !decide (Prod.fst (DX A₁ A₂ dJ)=mulM oL D₂));let c0c:=(DX A₁ A₂ dJ).1;let c0d:=(aB A₁.length != aB A₂.length);let kU:=(A₀==true&&c0d==false);let D₁:=(kU=true->kU=true/\True);let aQ:=(C₃/\C₃/\C₃/\C₃/\C₃/\((A₀==true)=true->(A₀==true)=true/\(A₀==true)=true/\True)/\C₃/\D₁/\D₁/\(kU=true->kU=true/\asT Int 0<=0/\0<aB A₁.length/\True)/\D₁/\D₁/\D₁/\(kU=true->kU=true/\asT Int 0<=0/\0<aB A₂.length/\True)/\D₁/\D₁/\(kU=true->kU=true/\kU=true/\True)/\((A₀==true)=true->(A₀==true)=true/\(c0d=false->kU=true)/\True)/\C₃/\a8u/\a8u/\a8u/\a8u/\a8u/\(gQ=true->gQ=true/\gQ=true/\True)/\((A₀==true)=true->(A₀==true)=true/\(JF=false->gQ=true)/\True)/\C₃/\wS/\(dA=true->dA=true/\asT Int 0<=0/\0<aB dJ.length/\True)/\wS/\wS/\wS/\wS/\wS/\(dA=true->dA=true/\dA=true/\True)/\((A₀==true)=true->(A₀==true)=true/\(rQ=false->dA=true)/\True)/\(A₀=true->(A₀==true)=true)/\True);let c2A:=((smK 100 A₁/\smK 100 A₂/\smK 100 dJ)/\True);let c2B:=(List.getD dJ 0 (aC aF)).length;let c2C:=(bgM (List.map bJ A₁) (List.map bJ o));let c2E:=(dS fP A₁/\dS fP A₂/\AL/\True);let c2F:=(fV A₁/\fV o/\lW oM);let c0e:=(AZ=true->AZ=true/\True);let c0f:=(nS=true->nS=true/\True);let fQ:=(c0f/\(nS=true->nS=true/\okM oL/\True)/\(nS=true->nS=true/\nS=true/\dS fP dJ/\(okM (List.map bJ dJ)/\okM (trM oL)/\wdM (List.map bJ dJ)=List.length (trM oL)/\szM (List.map bJ dJ) 1000000/\szM (trM oL) 1000000)/\True)/\(nS=true->nS=true/\nS=true/\(okM oL/\okM D₂/\wdM oL=List.length D₂/\szM oL 1000000/\szM D₂ 1000000)/\True)/\(nS=true->nS=true/\nS=true/\(IZ c0c/\IZ (mulM oL D₂))/\True)/\c0f/\((Prod.fst C₁ != 0)=false->nS=true)/\True);let c0g:=(Prod.fst jU.2 != 0);let fU:=(c0g==false);let QN:=(fU=true->fU=true/\True);(True/\True)/\(List.length oK<=100/\c0e/\(AZ=true->AZ=true/\True/\True)/\c0e/\((!List.all oK IB)=false->AZ=true)/\True)/\ifB (bif !List.all oK IB then true else !brL oM 10) b9Y (((smK 100 A₁/\smK 100 A₂/\smL 500000 oM)/\True)/\((fV A₁/\fV A₂/\lW oM)/\True)/\(b2j/\b2j/\b2j/\(jV=true->jV=true/\jV=true/\dS fP A₁/\dS fP A₂/\vN (List.map bJ A₁) (List.map bJ A₂)/\True)/\b2j/\((nX A₁ A₂ jX==0)=true->jV=true)/\True)/\∀ (z:Int),let b5o:=(((z != 0)==false)=true->((z != 0)==false)=true/\True);let c0j:=(bif z != 0 then true else nX A₁ o jX != 0);let a6R:=(c0j==false);let b5p:=(a6R=true->a6R=true/\True);let c0h:=(c2A/\jY/\aQ/\∀ (z_1:Int),(z_1=bif bif jC pI==0 then bif bif bif aB A₁.length != aB A₂.length then true else aB QM != aB ZF then true else aB dJ.length != aB A₁.length then true else aB c2B != aB A₁.length else false then 4 else jC pI)->((((z_1==0)==true)=true->((z_1==0)==true)=true/\True)/\(((z_1==0)==true)=true->((z_1==0)==true)=true/\True)/\(((z_1==0)==true)=true->((z_1==0)==true)=true/\True)/\(((z_1==0)==true)=true->((z_1==0)==true)=true/\((z_1==0)==true)=true/\dS fP A₁/\dS fP A₂/\vN (List.map bJ A₁) (List.map bJ A₂)/\True)/\(((z_1==0)==true)=true->((z_1==0)==true)=true/\True)/\((z_1==0)=true->((z_1==0)==true)=true)/\True)/\∀ (z_2:Int),(z_2=bif bif z_1==0 then !jF ZG else false then 14 else z_1)->ifB (z_2 != 0) (((((Prod.fst C₁==z_2)==true)=true->((Prod.fst C₁==z_2)==true)=true/\True)/\(((Prod.fst C₁==z_2)==true)=true->((Prod.fst C₁==z_2)==true)=true/\True)/\((Prod.fst C₁==z_2)=true->((Prod.fst C₁==z_2)==true)=true)/\True)/\True/\(bif Prod.fst C₁==z_2 then aB c0c.length==0 else false)=true/\True) (c2E/\fQ/\ifB E₀ b5m ((b5o/\(((z != 0)==false)=true->((z != 0)==false)=true/\((z != 0)==false)=true/\True)/\b5o/\(((z != 0)==false)=true->((z != 0)==false)=true/\((z != 0)==false)=true/\c2F/\True)/\b5o/\((z != 0)=false->((z != 0)==false)=true)/\b5p/\b5p/\(a6R=true->a6R=true/\a6R=true/\dS fP A₁/\dS fP o/\vN (List.map bJ A₁) (List.map bJ o)/\True)/\b5p/\(c0j=false->a6R=true)/\True)/\ifB (bif bif z != 0 then true else nX A₁ o jX != 0 then true else !jF c2C) b9Y dU)));let c0l:=(Prod.fst jU.2 != z);let b5n:=(c0l==false);let c0k:=(b5n=true->b5n=true/\True);(z=bif bif nX A₁ A₂ jX==0 then !jF ZG else false then 14 else nX A₁ A₂ jX)->ifB (z != 0) ((c0k/\c0k/\(c0l=false->b5n=true)/\True)/\ifB (bif Prod.fst jU.2 != z then true else aB jU.1.length != 0) b5m c0h) ((QN/\QN/\QN/\(fU=true->fU=true/\fU=true/\dS fP A₁/\dS fP A₂/\AL/\True)/\QN/\(fU=true->fU=true/\fU=true/\dS (fun(x:Ty.den (Ty.lf Lf.dF))=>bY ((aF.ok x=true)::aC Prop)) oM/\(okM oL/\szM oL 1000000/\List.length (List.map yF oM)=wdM oL/\∀ (q:Rat),q ∈ List.map yF oM->rsz q<=1000000)/\True)/\(fU=true->fU=true/\fU=true/\(szL jU.1/\szL (mvL oL (List.map yF oM)))/\True)/\QN/\(c0g=false->fU=true)/\True)/\ifB (bif Prod.fst jU.2 != 0 then true else !decide (Prod.fst jU=mvL oL (List.map yF oM))) b5m c0h))) (by kernel_rfl) ?_
 simp only[b5t,ak,ay,aU,au]
 try simp only[aU,ay,au]
 try dsimp only[Ty.den,Lf.den,asT] at *
 try simp only[yX,yU,trF,yY]
 have hZ:(⟨false,0,[],[]⟩:aF)=cO:=rfl
 try dsimp only[aB,asT,aA,aC,Ty.den,Lf.den] at *
 try simp only[hZ,Int.toNat_natCast,aU,ay,au,ni,mg,aH,nameAt,aV,aS,bF,rowAt,iy,iq]
 try simp only[lD,List.all_cons,List.all_nil,xw,ny,uj,ji,vk,ne_eq,ak,qo,jv,ug,vg,Cm,zh,Dc,ni,mg,jJ,tu,qm,List.length_cons,List.length_nil]
 try simp only[wdF,kN,lI]
 have hp:gdM x.1.1/\gdM x.2.1/\gdL v.1/\gdM v.2.1/\gdM o:=hp
 obtain⟨⟨g,u1⟩,b,u2⟩:=x
 obtain⟨r,q,u3⟩:=v
 obtain⟨gg,gb,gr,gq,go⟩:=hp
 dsimp only at gg gb gr gq ⊢
 simp only[c3x,c2k]
 refine⟨by omega,fun hf=>?_⟩
 obtain⟨⟨f1,f2,f3,f4⟩,f5⟩:=hf
 obtain⟨sg,sg'⟩:=a0i f1 gg
 obtain⟨sb,sb'⟩:=a0i f2 gb
 obtain⟨sq,sq'⟩:=a0i f3 gq
 obtain⟨so,so'⟩:=a0i f4 go
 obtain⟨sr,sr',r10⟩:=b3t f5 gr
 have srK:smL 500000 r:=⟨sr.1,fun h q hq=>jg (sr.2 h q hq) (by omega)⟩
 have a8Z:∀ {a:MR},smK 100 a->nX g a [r]=0->vN (mq g) (mq a):=fun sa h=>by
  obtain⟨⟨cg,ca,_⟩,e1,e2,_⟩:=RN h
  exact zB sg sa cg ca e1 e2
 have z0:∀ {z:Int},z=(if nX g b [r]=0/\jF (bgM (mq g) (mq b))=false then 14 else nX g b [r])->z=0->nX g b [r]=0/\jF (bgM (mq g) (mq b))=true:=fun hz h=>by
  by_cases hd:nX g b [r]=0/\jF (bgM (mq g) (mq b))=false
  ·rw[gy hd] at hz;omega
  ·rw[ig hd] at hz
   have h1:nX g b [r]=0:=by omega
   exact⟨h1,by cases e:jF (bgM (mq g) (mq b));exact absurd ⟨h1,e⟩ hd;rfl⟩
 have a6K:∀ {a:MR},nX g a [r]=0->jF (bgM (mq g) (mq a))=true->tV g a r=(mvL (sM (mq g) (mq a)) (lq r),0,()):=fun h1 h2=>by rw[a1f,gy h1,gy h2]
 have ySz:∀ {a:MR},smK 100 a->nX g a [r]=0->(mvL (sM (mq g) (mq a)) (lq r)).length=g.length/\∀ y ∈ mvL (sM (mq g) (mq a)) (lq r),rsz y<=200000:=fun sa h=>by
  have F:=WG (a8Z sa h)
  obtain⟨⟨cg,ca,cr⟩,e1,e2,e3⟩:=RN h
  have s1:=F.s1
  rw[mO] at s1
  refine⟨by rw[QB,s1.len],fun y hy=>?_⟩
  have:=b6r s1 (F.s2.sz (aj _)) (sr.q cr) (by rw[IU,e3]) y hy
  have h7:=(sg.at cg).2.1
  have h3:g.length*(27000+1+1)<=7*27002:=uf h7 (aj _)
  omega
 refine⟨⟨sg,sb,srK⟩,⟨sg',sb',sr'⟩,fun h=>⟨h,h,lN (gZ (RN h).1.1).2,lN (gZ (RN h).1.2.1).2,a8Z sb h⟩,fun z hz=>⟨fun h0=>⟨fun h=>?a1,fun _=>?m1⟩,fun h0=>⟨?b1,fun h=>?b2,fun _=>?m2⟩⟩⟩
 case a1 =>
  exfalso
  have e:tV g b r=([],z,()):=by
   rw[a1f,hz]
   by_cases hd:nX g b [r]=0
   ·rw[gy hd]
    cases hR:jF (bgM (mq g) (mq b))
    ·rw[ig (by decide),gy ⟨hd,rfl⟩]
    ·rw[hz,ig (fun hh=>by rw[hR] at hh;exact absurd hh.2 (by decide))] at h0;exact absurd hd h0
   ·rw[ig hd,ig (fun hh=>hd hh.1)]
  rw[e] at h
  simp at h
 case b1 =>
  obtain⟨hd,hR⟩:=z0 hz h0
  have F:=WG (a8Z sb hd)
  obtain⟨⟨cg,cb,cr⟩,e1,e2,e3⟩:=RN hd
  obtain⟨y1,y2⟩:=ySz sb hd
  have h7:=(sg.at cg).2.1
  rw[a6K hd hR]
  have zl:szL (mvL (sM (mq g) (mq b)) (lq r)):=⟨by omega,fun y hy=>jg (y2 y hy) (by omega)⟩
  exact⟨fun _=>⟨rfl,rfl,lN (gZ cg).2,lN (gZ cb).2,a8Z sb hd,hR⟩,fun _=>⟨rfl,rfl,a3I cr,F.s2.ok F.s1 (by omega),F.s2.sz (by omega),by rw[IU,F.s1.wd,mO,e3],fun y hy=>jg (sr.q cr y hy) (by omega)⟩,fun _=>⟨rfl,rfl,zl,zl⟩⟩
 case b2 =>
  obtain⟨hd,hR⟩:=z0 hz h0
  have e:=a6K hd hR
  rcases h with h|h
  ·rw[e] at h;exact absurd rfl h
  ·exact absurd (xu Prod.fst e) (Ai h)
 all_goals
  refine⟨⟨sg,sb,sq⟩,⟨by omega,b9M sg' sb' sq'⟩,⟨fun h=>⟨h,by omega,by have:=(gZ h.1.1).1.2.2.1;omega⟩,fun h=>⟨h,by omega,by have:=(gZ h.1.2.1).1.2.2.1;omega⟩,fun h=>⟨h,fun h2=>⟨h,h2⟩⟩,fun h=>⟨h,fun h2=>⟨h,h2⟩⟩,fun h=>⟨h,by omega,by have:=(gZ h.1.2.2).1.2.2.1;omega⟩,fun h=>⟨h,fun h2=>⟨h,h2⟩⟩⟩,fun z1 hz1=>⟨fun h1=>?_,fun z2 hz2=>⟨fun h2=>?_,fun h2=>?_⟩⟩⟩
  ·rw[hz1] at h1
   obtain⟨⟨cg,cb,cq⟩,⟨e1,e2⟩,e3,e4⟩:=c1h h1
   exact⟨by rw[hz1];exact h1,by rw[hz1];exact h1,lN (gZ cg).2,lN (gZ cb).2,zB sg sb cg cb e1 e2⟩
  ·have e:DX g b q=([],z2,()):=by
    rw[b2b,hz2,hz1]
    by_cases hd:cdQ g b q=0
    ·rw[gy hd]
     cases hR:jF (bgM (mq g) (mq b))
     ·rw[ig (by decide),gy ⟨hd,rfl⟩]
     ·rw[hz2,hz1,ig (fun hh=>by rw[hR] at hh;exact absurd hh.2 (by decide))] at h2;exact absurd hd h2
    ·rw[ig hd,ig (fun hh=>hd hh.1)]
   rw[e];simp
  ·have hcd:cdQ g b q=0/\jF (bgM (mq g) (mq b))=true:=by
    by_cases hd:z1=0/\jF (bgM (mq g) (mq b))=false
    ·rw[gy hd] at hz2;omega
    ·rw[ig hd] at hz2
     have h1:z1=0:=by omega
     exact⟨by rw[<-hz1];exact h1,by cases e:jF (bgM (mq g) (mq b));exact absurd ⟨h1,e⟩ hd;rfl⟩
   obtain⟨hcd,hR⟩:=hcd
   obtain⟨⟨cg,cb,cq⟩,⟨e1,e2⟩,e3,e4⟩:=c1h hcd
   have hP:=zB sg sb cg cb e1 e2
   have F:=WG hP
   have s1:=F.s1
   rw[mO] at s1
   obtain⟨hq,q7,wq7,qC⟩:=sq.at cq
   rw[e3,e4] at hq
   have h7:=(sg.at cg).2.1
   have t1:=s1.trp
   have tC:=F.s2.trp s1
   have m1:=hq.mul t1
   have mC:=qC.mul tC hq t1
   have p1:=s1.mul m1
   have pC:=F.s2.mul mC s1 m1
   have og:=lN (gZ cg).2
   have ob:=lN (gZ cb).2
   have oq:=lN (gZ cq).2
   have eT:DX g b q=(mulM (sM (mq g) (mq b)) (mulM (mq q) (trM (sM (mq g) (mq b)))),0,()):=by
    rw[b2b,gy hcd,gy hR,c3Y s1 hq]
   have okP:okM (mulM (sM (mq g) (mq b)) (mulM (mq q) (trM (sM (mq g) (mq b))))):=pC.ok p1 (by omega)
   refine⟨⟨og,ob,hP,hR⟩,⟨fun h=>⟨h,F.s2.ok s1 (by omega)⟩,fun h=>⟨h,h,oq,qC.ok hq (by omega),tC.ok t1 (by omega),hq.wd.trans t1.len.symm,qC.sz (by omega),tC.sz (by omega)⟩,fun h=>⟨h,h,F.s2.ok s1 (by omega),mC.ok m1 (by omega),s1.wd.trans m1.len.symm,F.s2.sz (by omega),mC.sz (by omega)⟩,fun h=>⟨h,h,by rw[eT];exact okP.IZ,okP.IZ⟩⟩,fun h=>?_,fun _=>⟨⟨fun h=>⟨h,h,sg',so',sr'⟩,fun h=>⟨h,h,og,lN (gZ (RN h.2).1.2.1).2,a8Z so h.2⟩⟩,fun hE=>?_⟩⟩
   ·exfalso
    rcases h with h|h
    ·rw[eT] at h;exact h rfl
    ·exact absurd (xu Prod.fst eT) (Ai h)
   ·obtain⟨⟨hz0,hdo⟩,hRo⟩:=hE
    obtain⟨hd,hRb⟩:=z0 hz hz0
    obtain⟨y1,y2⟩:=ySz sb hd
    obtain⟨w1,w2⟩:=ySz so hdo
    obtain⟨⟨_,co,cr⟩,e5,e6,e7⟩:=RN hdo
    have hg:=(sg.at cg).1
    have hb:=(sb.at cb).1
    have ho:=(so.at co).1
    rw[e1,e2] at hb
    rw[e5,e6] at ho
    obtain⟨l1,l2,l3⟩:=b3r (l:=mvL (sM (mq g) (mq b)) (lq r)) (by omega) y2 (by omega)
    have eY:tV g b r=(mvL (sM (mq g) (mq b)) (lq r),0,()):=a6K hd hRb
    have hdY:nX g o [xJ (mvL (sM (mq g) (mq b)) (lq r))]=0:=by
     rw[a8Y,gy ⟨⟨cg,co⟩,l2⟩,gy ⟨⟨e5,e6⟩,by rw[qw];exact y1⟩]
    have eZ:tV g o (xJ (mvL (sM (mq g) (mq b)) (lq r)))=(mvL (sM (mq g) (mq o)) (lq r),0,()):=by
     rw[a1f,gy hdY,gy hRo,l3,forget hg hb ho hRo]
    have eW:tV g o r=(mvL (sM (mq g) (mq o)) (lq r),0,()):=a6K hdo hRo
    have lm:List.map (fun x=>eU x) (tV g b r).1=xJ (mvL (sM (mq g) (mq b)) (lq r)):=by rw[eY]
    have zw:szL (mvL (sM (mq g) (mq o)) (lq r)):=⟨by omega,fun y hy=>jg (w2 y hy) (by omega)⟩
    rw[lm]
    refine⟨⟨kP.mpr fun _ _=>trivial,sg,so,⟨l1.1,fun h y hy=>jg (l1.2 h y hy) (by omega)⟩⟩,⟨sg,so,srK⟩,fun h=>⟨h,h,by rw[eZ];exact zw,by rw[eW];exact zw⟩,?_⟩
    rw[eZ,eW]
    simp
theorem vtransforms_holds:Rows.DatumTransformsSaid:=AP b4x (fun _ _ _ a b c=>⟨b2R a.1.1,b2R a.2.1,c3E b.1,b2R b.2.1,b2R c⟩)
end Go.Proofs.YtgplhbhfdgempaaGreat
