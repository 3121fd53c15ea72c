/-
  In chapter 35 Estimable answers as described, and an estimable function has one value and one variance in two datums. Conditions: none.
-/
import Derived.Test.YtgplhbhfdgempaaGreatQe35
namespace Go.Proofs.YtgplhbhfdgempaaGreat
open Go Go.RowKit
set_option maxRecDepth 100000
set_option maxHeartbeats 1000000
set_option linter.unusedVariables false
set_option linter.unusedSimpArgs false
def c1r:Ctr:=⟨[.list tQ,.list tQ],[tQ,tI],fun x=>(show LQ' from x.1).length=(show LQ' from x.2.1).length/\(show LQ' from x.1).length<=10/\(∀ q ∈ (show LQ' from x.1),rsz q<=1)/\∀ q ∈ (show LQ' from x.2.1),rsz q<=400000,fun x=>(sm (show LQ' from x.1).length (fun i=>lv x.1 i*lv x.2.1 i),(0:Int),())⟩
theorem b1C:aW Tryz.prog 34 c1r:=by
 refine bH (((nil0.ad a5D).ad a5E).ad a1H) ⟨[4,6],[],[]⟩ Tryz.func34 rfl (by decide) (fun x=>[.inv {k:Nat // k<=(show LQ' from x.1).length} (fun k=>[(7,.val tI (k.1:Int))]) (fun k=>[(4,.box [⟨tR,bU⟩]),(6,.box [⟨tQ,sm k.1 fun i=>lv (show LQ' from x.1) i*lv (show LQ' from x.2.1) i⟩])]) (fun k=>(show LQ' from x.1).length-k.1) ⟨0,by omega⟩ (fun _=>[])]) (fun x hp=>?_)
 obtain⟨a,b,u⟩:=x
 change List Rat at a
 change List Rat at b
 refine bP (ifB (aB a.length != aB b.length) ((asT Bool false=true/\True)/\(0=sm a.length fun(i:Nat)=>lv a i*lv b i)/\True/\asT Int 4=0/\True) ((iW 0/\True)/\(asT Int 0=0/\asT aF bU=bU/\(fA 0=sm 0 fun(i:Nat)=>lv a i*lv b i)/\True)/\∀ (i:{ k:Nat // k<=List.length a }),let A₀:=(aB (aA i)).toNat;let A₁:=(sm (aA i) fun(i:Nat)=>lv a i*lv b i);asT Bool true=true/\ifB (decide (aB (aA i)<aB a.length)) ((0<=aB (aA i)/\aB (aA i)<aB a.length/\0<=aB (aA i)/\aB (aA i)<aB b.length/\s19 (List.getD a A₀ 0) (List.getD b A₀ 0)/\s19 A₁ (List.getD a A₀ 0*List.getD b A₀ 0)/\True)/\∃ (i':{ k:Nat // k<=List.length a }),List.length a-aA i'<List.length a-aA i/\IntKind.wrap IntKind.i64 (aB (aA i)+1)=aB (aA i')/\asT aF bU=bU/\(A₁+List.getD a A₀ 0*List.getD b A₀ 0=sm (aA i') fun(i:Nat)=>lv a i*lv b i)/\True) (True/\(A₁=sm a.length fun(i:Nat)=>lv a i*lv b i)/\True/\asT Int 0=0/\True))) (by kernel_rfl) ?_
 simp only[a9b,ak,ay,aT,au]
 try simp only[aT,ay,au]
 try dsimp only[Ty.den,Lf.den,asT] at *
 try simp only[yH,yA,trF,yI]
 have hZ:(⟨false,0,[],[]⟩:aF)=bU:=rfl
 try dsimp only[aB,asT,aA,aC,Ty.den,Lf.den] at *
 try simp only[hZ,Int.toNat_natCast,aT,ay,au,oh,ny,aH,nameAt,aV,aS,bF,rowAt,iw,gy]
 try simp only[kX,List.all_cons,List.all_nil,xu,mg,tu,ji,uy,ne_eq,ak,qm,jo,qw,uw,Ci,yw,Cj,oh,ny,jC,uf,qo,List.length_cons,List.length_nil]
 try simp only[wdF,kJ,kU]
 have hp:a.length=b.length/\a.length<=10/\(∀ q ∈ a,rsz q<=1)/\∀ q ∈ b,rsz q<=400000:=hp
 obtain⟨h1,h2,h3,h4⟩:=hp
 have hs:∀ n,n<=a.length->rsz (sm n fun i=>lv a i*lv b i)<=5000000:=fun n hn=>by
  have h:=a0B (n:=n) h3 h4 hn (by omega)
  have h5:n*(400000+2)<=10*400002:=ou (by omega) (aj _)
  omega
 refine⟨fun h=>absurd h1 h,fun _=>⟨by unfold iW;omega,rfl,fun i=>⟨fun hi=>?_,fun hi=>?_⟩⟩⟩
 ·have hi2:i.1<a.length:=by omega
  have y1:rsz (a.getD i.1 0)<=1:=h3 _ (kF hi2)
  have y2:rsz (b.getD i.1 0)<=400000:=h4 _ (kF (by omega))
  have y3:=lS (a.getD i.1 0) (b.getD i.1 0)
  have y4:=hs i.1 (by omega)
  exact⟨⟨by omega,hi,by omega,by omega,⟨by omega,by omega⟩,⟨by omega,by omega⟩⟩,⟨i.1+1,hi2⟩,by simp only;omega,by rw[aZ (by omega) (by omega)];rfl,rfl⟩
 ·have e:i.1=a.length:=by have:=i.2;omega
  rw[e]
def c3w:Ctr:=⟨[tMR,.arr 2 tFr,.arr 2 (.list tR)],[tB],fun x=>gdM x.1/\(∀ f ∈ (show List ((MR × Unit) × MR × Unit) from x.2.1),gdM f.1.1/\gdM f.2.1)/\(show List ((MR × Unit) × MR × Unit) from x.2.1).length=2/\(∀ l ∈ (show MR from x.2.2.1),gdL l)/\(show MR from x.2.2.1).length=2,fun _=>(true,())⟩
theorem b3s:aW Tryz.prog 6 c3w:=by
 refine bH (((((((((((((((nil0.ad b2L).ad OD).ad a1p).ad VE).ad a7a).ad TB).ad SN).ad a9C).ad b3u).ad b0G).ad a2Z).ad b3P).ad b2T).ad b3v).ad b1C) ⟨[12,19,21],[],[]⟩ Tryz.func6 rfl (by decide) (fun x=>[]) (fun x hp=>?_)
 obtain⟨n,x,v,u⟩:=x
 change List (List aF) at n
 change List ((List (List aF) × Unit) × List (List aF) × Unit) at x
 change List (List aF) at v
 refine bP (let iY:=(List.getD v 1 (aC aF));let iH:=(List.getD v 0 (aC aF));let oH:=(fun(x:Ty.den (Ty.lf Lf.dG))=>aF.x x);let bK:=(List.map oH iH);let uH:=(asT Bool false=true->asT Bool false=true/\True);let IC:=(True/\asT Bool false=true/\True);let JQ:=(asT Int 0<=0/\asT Int 0<2/\asT Int 0<=1/\asT Int 1<2/\True);let D₁:=(True/\asT Bool true=true/\True);let D₂:=((aC (List aF),PUnit.unit),aC (List aF),PUnit.unit);let A₀:=(List.getD x 0 D₂);let A₁:=(List.getD x 1 D₂).2;let bZ:=A₀.1.1;let A₂:=(zC bZ iH);let dJ:=(n::Prod.fst A₀.1::Prod.fst A₀.2::Prod.fst A₁::aC (List (List aF)));let dS:=(Prod.fst A₀.1::aC (List (List aF)));let gB:=(List.map (fun(xs:Ty.den (Ty.list (Ty.lf Lf.dG)))=>List.map oH xs) bZ);let gQ:=A₀.2.1;let lJ:=(bif !Prod.fst A₂ then true else AY n bZ gQ (some iY) != 0);let lF:=((jG dS==0)==true);let kV:=((!Prod.fst A₂)==false);let gG:=(bif !List.all dJ FQ then true else !brL iH 10);let rC:=(yV n bZ gQ).1;let C₂:=((!List.all dJ FQ)==false);let C₃:=(lF=true->lF=true/\True);let kC:=(oG n bZ A₁.1 iY);let jO:=(Prod.fst A₂.2==jG dS);let xJ:=(Prod.fst A₂.2==1);let AX:=(Prod.fst A₂.2==4);let RJ:=(yV n bZ gQ).2;let C₁:=(Prod.fst RJ != 0);let a0c:=(yV n bZ A₁.1);let aQ:=(bif Prod.fst RJ != 0 then true else Prod.fst a0c.2 != 0);let pY:=a0c.1;let a1K:=(∀ (q:Rat),q ∈ List.map oH iH->rsz q<=1);let a1L:=(kV=true->kV=true/\True);let c0C:=(Prod.fst A₂.2 != 0);let eU:=(c0C==false);let BH:=(eU=true->eU=true/\True);let c0D:=(oG n bZ gQ iY).2;let E₀:=(oG n bZ gQ iY).1;let sF:=(sm bK.length fun(i:Nat)=>lv bK i*lv E₀ i);(True/\True)/\JQ/\(asT Int 0<=0/\asT Int 0<2/\asT Int 0<=0/\asT Int 0<2/\asT Int 0<=1/\asT Int 1<2/\List.length dJ<=100/\(C₂=true->C₂=true/\True/\True)/\(C₂=true->C₂=true/\True)/\((!List.all dJ FQ)=false->C₂=true)/\((gG==false)=true->(gG==false)=true/\True/\True)/\((gG==false)=true->(gG==false)=true/\True)/\(gG=false->(gG==false)=true)/\True)/\ifB (bif bif !List.all dJ FQ then true else !brL iH 10 then true else !brL iY 10) D₁ ((asT Int 0<=0/\asT Int 0<2/\(smK 100 bZ/\smL 1 iH)/\True)/\(asT Int 0<=0/\asT Int 0<2/\(List.length dS<=1000000/\∀ (a:List (List aF)),a ∈ Prod.fst A₀.1::aC (List (List aF))->gU a)/\True)/\(oC iH/\True)/\ifB (!okL iH) ((uH/\(asT Bool false=true->asT Int 0<=0/\asT Int 0<2/\True)/\uH/\uH/\uH/\uH/\(asT Bool false=true->asT Bool false=true/\asT Bool false=true/\True)/\(asT Bool false=true->asT Bool false=true)/\True)/\(((xJ==true)=true->(xJ==true)=true/\True)/\(xJ=true->(xJ==true)=true)/\True)/\True/\(bif Prod.fst A₂.2==1 then !Prod.fst A₂ else false)=true/\True) ((C₃/\(lF=true->asT Int 0<=0/\asT Int 0<2/\True)/\C₃/\C₃/\C₃/\C₃/\(lF=true->lF=true/\lF=true/\True)/\((jG dS==0)=true->lF=true)/\True)/\ifB (bif jG dS==0 then aB iH.length != aB bZ.length else false) ((((AX==true)=true->(AX==true)=true/\True)/\(AX=true->(AX==true)=true)/\True)/\True/\(bif Prod.fst A₂.2==4 then !Prod.fst A₂ else false)=true/\True) (ifB (jG dS != 0) ((((jO==true)=true->(jO==true)=true/\True)/\(jO=true->(jO==true)=true)/\True)/\True/\(bif Prod.fst A₂.2==jG dS then !Prod.fst A₂ else false)=true/\True) (((eU=true->asT Int 0<=0/\asT Int 0<2/\True)/\BH/\BH/\BH/\(eU=true->eU=true/\eH (fun(x:Ty.den (Ty.list (Ty.lf Lf.dG)))=>bY (eH (fun(x:Ty.den (Ty.lf Lf.dG))=>bY ((aF.ok x=true)::aC Prop)) x::aC Prop)) bZ/\okM gB/\True)/\(eU=true->eU=true/\eU=true/\eH (fun(x:Ty.den (Ty.lf Lf.dG))=>bY ((aF.ok x=true)::aC Prop)) iH/\(okM (trM gB)/\szM (trM gB) 1000000/\List.length bK=wdM (trM gB)/\∀ (q:Rat),q ∈ List.map oH iH->rsz q<=1000000)/\True)/\(eU=true->eU=true/\(List.length (mvL (trM gB) bK)<=1000/\∀ (q:Rat),q ∈ mvL (trM gB) bK->rsz q<=100000000)/\True)/\(eU=true->eU=true/\eU=true/\True)/\(c0C=false->eU=true)/\True)/\ifB (bif Prod.fst A₂.2 != 0 then true else Prod.fst A₂==List.any (mvL (trM gB) bK) fun(q:Rat)=>decide (q≠0)) IC (JQ/\((kV=true->asT Int 0<=0/\asT Int 0<2/\True)/\a1L/\(kV=true->kV=true/\kV=true/\List.length iY<=1000000000/\True)/\(kV=true->kV=true/\kV=true/\kV=true/\((smK 100 n/\gU n)/\(smK 100 bZ/\gU bZ)/\(smK 100 gQ/\gU gQ)/\oC (Option.getD (some iY) (aC aF)))/\True)/\a1L/\((!Prod.fst A₂)=false->kV=true)/\((lJ==false)=true->(lJ==false)=true/\(lJ==false)=true/\((smK 100 n/\gU n)/\(smK 100 bZ/\gU bZ)/\(smK 100 A₁.1/\gU A₁.1)/\oC (Option.getD none (aC aF)))/\True)/\((lJ==false)=true->(lJ==false)=true/\True)/\(lJ=false->(lJ==false)=true)/\True)/\ifB (bif bif !Prod.fst A₂ then true else AY n bZ gQ (some iY) != 0 then true else AY n bZ A₁.1 none != 0) D₁ ((asT Int 0<=0/\asT Int 0<2/\asT Int 0<=0/\asT Int 0<2/\(smK 100 n/\smK 100 bZ/\smK 100 gQ)/\True)/\(asT Int 0<=0/\asT Int 0<2/\(smK 100 n/\smK 100 bZ/\smK 100 A₁.1)/\True)/\(((C₁==false)=true->(C₁==false)=true/\True)/\(C₁=false->(C₁==false)=true)/\((aQ==false)=true->(aQ==false)=true/\(aQ==false)=true/\eH (fun(x:Ty.den (Ty.lf Lf.dG))=>bY ((aF.ok x=true)::aC Prop)) iH/\(okM rC/\szM rC 1000000/\wdM rC=List.length rC/\List.length bK=wdM rC/\List.length rC<=10/\∀ (q:Rat),q ∈ List.map oH iH->rsz q<=100000)/\True)/\((aQ==false)=true->(aQ==false)=true/\(aQ==false)=true/\eH (fun(x:Ty.den (Ty.lf Lf.dG))=>bY ((aF.ok x=true)::aC Prop)) iH/\(okM pY/\szM pY 1000000/\wdM pY=List.length pY/\List.length bK=wdM pY/\List.length pY<=10/\∀ (q:Rat),q ∈ List.map oH iH->rsz q<=100000)/\True)/\((aQ==false)=true->(aQ==false)=true/\(aQ==false)=true/\s19 (wK rC bK) (wK pY bK)/\True)/\((aQ==false)=true->(aQ==false)=true/\True)/\(aQ=false->(aQ==false)=true)/\True)/\ifB (bif bif Prod.fst RJ != 0 then true else Prod.fst a0c.2 != 0 then true else !decide (wK rC bK=wK pY bK)) IC ((asT Int 0<=0/\asT Int 0<2/\asT Int 0<=0/\asT Int 0<2/\b2i n bZ gQ iY/\True)/\(asT Int 0<=0/\asT Int 0<2/\b2i n bZ A₁.1 iY/\True)/\ifB (Prod.fst c0D != Prod.fst kC.2) IC (ifB (Prod.fst c0D != 0) D₁ ((eH (fun(x:Ty.den (Ty.lf Lf.dG))=>bY ((aF.ok x=true)::aC Prop)) iH/\(List.length bK=List.length E₀/\List.length bK<=10/\a1K/\∀ (q:Rat),q ∈ Prod.fst (oG n bZ gQ iY)->rsz q<=400000)/\True)/\(eH (fun(x:Ty.den (Ty.lf Lf.dG))=>bY ((aF.ok x=true)::aC Prop)) iH/\(List.length bK=List.length kC.1/\List.length bK<=10/\a1K/\∀ (q:Rat),q ∈ Prod.fst kC->rsz q<=400000)/\True)/\(s19 sF (sm bK.length fun(i:Nat)=>lv bK i*lv kC.1 i)/\True)/\True/\decide (sF=sm bK.length fun(i:Nat)=>lv bK i*lv kC.1 i)=true/\True)))))))))) (by kernel_rfl) ?_
 simp only[a9b,ak,ay,aT,au]
 try simp only[aT,ay,au]
 try dsimp only[Ty.den,Lf.den,asT] at *
 try simp only[yH,yA,trF,yI]
 have hZ:(⟨false,0,[],[]⟩:aF)=bU:=rfl
 try dsimp only[aB,asT,aA,aC,Ty.den,Lf.den] at *
 try simp only[hZ,Int.toNat_natCast,aT,ay,au,oh,ny,aH,nameAt,aV,aS,bF,rowAt,iw,gy]
 try simp only[kX,List.all_cons,List.all_nil,xu,mg,tu,ji,uy,ne_eq,ak,qm,jo,qw,uw,Ci,yw,Cj,oh,ny,jC,uf,qo,List.length_cons,List.length_nil]
 try simp only[wdF,kJ,kU]
 have hp:gdM n/\(∀ f ∈ x,gdM f.1.1/\gdM f.2.1)/\x.length=2/\(∀ l ∈ v,gdL l)/\v.length=2:=hp
 obtain⟨gn,gx,lx,gv,lv2⟩:=hp
 have m0:=gx _ (kF (d:=(([],PUnit.unit),[],PUnit.unit)) (i:=0) (by omega))
 have m1:=gx _ (kF (d:=(([],PUnit.unit),[],PUnit.unit)) (i:=1) (by omega))
 have v0:=gv _ (kF (d:=[]) (i:=0) (by omega))
 have v1:=gv _ (kF (d:=[]) (i:=1) (by omega))
 have ew:wdM v=(v.getD 0 []).length:=rfl
 rw[ew]
 generalize x.getD 0 (([],PUnit.unit),[],PUnit.unit)=X0 at *
 generalize x.getD 1 (([],PUnit.unit),[],PUnit.unit)=X1 at *
 generalize v.getD 0 []=a at *
 generalize v.getD 1 []=r at *
 obtain⟨⟨g,u0⟩,b0,u1⟩:=X0
 obtain⟨⟨g9,u2⟩,b1,u3⟩:=X1
 dsimp only at m0 m1 ⊢
 obtain⟨gg,gb⟩:=m0
 have gb1:=m1.2
 rw[a9r]
 refine⟨by omega,by omega,fun hf=>?_⟩
 obtain⟨⟨⟨f1,f2,f3,f4⟩,f5⟩,f6⟩:=hf
 obtain⟨sn,sn'⟩:=a0E f1 gn
 obtain⟨sg,sg'⟩:=a0E f2 gg
 obtain⟨s0,s0'⟩:=a0E f3 gb
 obtain⟨s1,s1'⟩:=a0E f4 gb1
 obtain⟨sa,sa',a10⟩:=a6x f5 v0
 obtain⟨sr,sr',r10⟩:=a6x f6 v1
 refine⟨⟨by omega,by omega,sg,sa⟩,⟨by omega,by omega,by omega,fun y hy=>by rw[qh.mp hy];exact sg'⟩,sa',fun hk=>?_,fun hk=>?_⟩
 ·have hk:okR a=false:=hk
  have e:zC g a=(false,1,()):=by unfold zC;rw[iq (fun h=>by rw[hk] at h;exact absurd h.2 (by decide))]
  rw[e];exact⟨fun h=>(by cases h),rfl,rfl⟩
 have hk:okR a=true:=hk
 refine⟨fun _=>by omega,fun h=>?_,fun hl=>⟨fun h=>?_,fun cg=>?_⟩⟩
 ·have e:zC g a=(false,4,()):=by unfold zC;rw[ig ⟨h.1,hk⟩,iq h.2]
  rw[e];exact⟨rfl,rfl⟩
 ·have e:zC g a=(false,1,()):=by unfold zC;rw[iq (fun h'=>h h'.1)]
  have h01:eP g=1:=by unfold eP at h ⊢;split at h<;>simp_all
  rw[e,h01];exact⟨rfl,rfl⟩
 have hl:=hl cg
 have e:zC g a=(!(oI g a).any (fun q=>q != 0),0,()):=by unfold zC;rw[ig ⟨cg,hk⟩,ig hl]
 have eX:(mvL (trM (mq g)) (lq a)).any (fun q=>decide ¬q=0)=(oI g a).any (fun q=>q != 0):=by rw[b6V];rfl
 rw[e,eX]
 dsimp only
 obtain⟨hg,g7,wg7,gC⟩:=sg.at cg
 have t1:=hg.trp
 have tC:=gC.trp hg
 have qa:=sa.q hk
 have oa:=a4h hk
 have og:=tZ (kY cg).2
 have okG:okM (mq g):=gC.ok hg (by omega)
 have la:(lq a).length=g.length:=by rw[DC,hl]
 have eL:=a6c sg sa cg hk hl
 refine⟨⟨fun _=>by omega,fun _=>⟨rfl,og,okG⟩,fun _=>⟨rfl,rfl,oa,tC.ok t1 (by omega),tC.sz (by omega),by rw[la,t1.wd],fun q hq=>jg (qa q hq) (by omega)⟩,fun _=>⟨rfl,by rw[uK,t1.len];omega,fun q hq=>?_⟩⟩,fun h=>?_,fun h=>?_⟩
 ·obtain⟨i,hi,rfl⟩:=Aw hq
  have:rsz ((mvL (trM (mq g)) (lq a)).getD i 0)<=1000:=eL i hi
  rw[bf,bn hi] at this
  exact jg this (by omega)
 ·exfalso
  rcases h with h|h
  ·exact h rfl
  ·generalize (oI g a).any (fun q=>q != 0)=X at h
   cases X<;>simp at h
 clear h
 generalize hX:(oI g a).any (fun q=>q != 0)=X
 refine⟨by omega,⟨fun _=>by omega,fun h=>⟨h,h,by omega⟩,fun h=>⟨h,h,h,⟨sn,sn'⟩,⟨sg,sg'⟩,⟨s0,s0'⟩,sr'⟩,fun h=>⟨h,h,⟨sn,sn'⟩,⟨sg,sg'⟩,⟨s1,s1'⟩,by unfold oC;simp⟩⟩,fun h=>?_⟩
 obtain⟨⟨h1,h2⟩,h3⟩:=h
 have hX0:X=false:=by cases X<;>simp_all
 rw[hX0] at hX
 have hq:=b3t hg hX
 obtain⟨F0,hr,hrl⟩:=b5g h2
 have hr:okR r=true:=hr
 have hrl:r.length=n.length:=hrl rfl
 obtain⟨F1,_,_⟩:=b5g h3
 have A0:=F0.m sn sg s0
 have A1:=F1.m sn sg s1
 have n7:=A0.n7
 have eg:g.length=n.length:=F0.e2
 have la:(lq a).length=n.length:=by rw[la,eg]
 rw[eg] at hg hq
 have P0:=LG sg s0 F0.cg F0.cb (by rw[F0.e2,F0.e3]) F0.e4
 have P1:=LG sg s1 F1.cg F1.cb (by rw[F1.e2,F1.e3]) F1.e4
 have q0:=(SI A0.hn A0.hg A0.hb F0.hG F0.hR).1
 have q1:=(SI A1.hn A1.hg A1.hb F1.hG F1.hR).1
 have c0:=a9x A0.hn A0.nC n7 P0 (by rw[pO,F0.e2])
 have c1:=a9x A1.hn A1.nC n7 P1 (by rw[pO,F1.e2])
 have fe:wK (FM (mq n) (mq g) (mq b0)) (lq a)=wK (FM (mq n) (mq g) (mq b1)) (lq a):=by
  rw[a6g q0 la,a6g q1 la,a6e A0.hn A0.hg A0.hb F0.hG F0.hR hq,a6e A1.hn A1.hg A1.hb F1.hG F1.hR hq]
 have z0:=a6h q0 (c0.sz (aj _)) qa la n7
 have z1:=a6h q1 (c1.sz (aj _)) qa la n7
 rw[a9y F0,a9y F1];dsimp only
 have ha5:∀ q ∈ lq a,rsz q<=100000:=fun q hq=>jg (qa q hq) (by omega)
 refine⟨⟨by omega,by omega,by omega,by omega,sn,sg,s0⟩,⟨by omega,by omega,sn,sg,s1⟩,⟨fun h=>⟨h,h,oa,c0.ok q0 (by omega),c0.sz (by omega),by rw[q0.wd,q0.len],by rw[q0.wd,la],by rw[q0.len];omega,ha5⟩,fun h=>⟨h,h,oa,c1.ok q1 (by omega),c1.sz (by omega),by rw[q1.wd,q1.len],by rw[q1.wd,la],by rw[q1.len];omega,ha5⟩,fun h=>⟨h,h,z0,z1⟩⟩,fun h=>?_,fun _=>⟨⟨by omega,by omega,by omega,by omega,sn,sg,s0,sr⟩,⟨by omega,by omega,sn,sg,s1,sr⟩,?_⟩⟩
 ·exfalso
  rcases h with(h|h)|h
  ·exact h rfl
  ·exact h rfl
  ·exact Ce h fe
 rw[a5W F0 hr hrl,a5W F1 hr hrl]
 cases hs:XF (mq n) (lq r)
 ·rw[iq (by decide),iq (by decide)]
  exact⟨fun h=>absurd rfl h,fun _ h=>absurd h (by decide)⟩
 ·rw[ig rfl,ig rfl]
  dsimp only
  have hsr:∀ q ∈ lq r,rsz q<=1:=sr.q hr
  have lr:(lq r).length=n.length:=by rw[DC,hrl]
  have S0:=a4T P0
  have S1:=a4T P1
  have i0:isM (sM (mq g) (mq b0)) n.length n.length:=VQ A0.hg
  have i1:isM (sM (mq g) (mq b1)) n.length n.length:=VQ A1.hg
  have w0:=a4G i0 (S0.s2.sz (aj _)) (a1y A0.hn A0.nC n7 lr hsr) (VW A0.hn _)
  have w1:=a4G i1 (S1.s2.sz (aj _)) (a1y A0.hn A0.nC n7 lr hsr) (VW A0.hn _)
  have h3:n.length*(27000+20000+1)<=7*47001:=ou n7 (aj _)
  have w0:∀ q ∈ mvL (sM (mq g) (mq b0)) (FZ (mq n) (lq r)),rsz q<=400000:=fun q hq=>by have:=w0 q hq;omega
  have w1:∀ q ∈ mvL (sM (mq g) (mq b1)) (FZ (mq n) (lq r)),rsz q<=400000:=fun q hq=>by have:=w1 q hq;omega
  have l0:(mvL (sM (mq g) (mq b0)) (FZ (mq n) (lq r))).length=n.length:=by rw[uK,i0.len]
  have l1:(mvL (sM (mq g) (mq b1)) (FZ (mq n) (lq r))).length=n.length:=by rw[uK,i1.len]
  have d0:=a0B (n:=n.length) qa w0 (by omega) (by omega)
  have d1:=a0B (n:=n.length) qa w1 (by omega) (by omega)
  have h4:n.length*(400000+2)<=7*400002:=ou n7 (aj _)
  have ed:(sm n.length fun i=>lv (lq a) i*lv (mvL (sM (mq g) (mq b0)) (FZ (mq n) (lq r))) i)=sm n.length fun i=>lv (lq a) i*lv (mvL (sM (mq g) (mq b1)) (FZ (mq n) (lq r))) i:=by
   rw[a6d A0.hg A0.hb hq,a6d A1.hg A1.hb hq]
  rw[la,l0,l1]
  exact⟨fun h=>absurd rfl h,fun _ _=>⟨⟨oa,rfl,by omega,qa,w0⟩,⟨oa,rfl,by omega,qa,w1⟩,⟨by omega,by omega⟩,ed⟩⟩
theorem vestimables_holds:Rows.DatumEstimablesSaid:=AZ b3s (fun _ _ _ a b c=>⟨b6i a,fun f hf=>⟨b6i (b.2 f hf).1.1,b6i (b.2 f hf).2.1⟩,b.1,fun l hl=>c3W (c.2 l hl),c.1⟩)
end Go.Proofs.YtgplhbhfdgempaaGreat
