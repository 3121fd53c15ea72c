/-
  Lemmas for the theorem vrecovers28_holds, part 32 of 35.
-/
import Derived.Test.YtbkocjmmbkifjaaGreatQr31
namespace Go.Proofs.YtbkocjmmbkifjaaGreat
open Go Go.RowKit
set_option maxRecDepth 100000
set_option maxHeartbeats 4000000
set_option linter.unusedVariables false
set_option linter.unusedSimpArgs false
def zQ (q:aY):Bool:=decide (q.1=0/\q.2.1=0/\q.2.2.1=0/\q.2.2.2.1=0)
def zS (s:eF):Bool:=zQ s.2.1
def wE (s:eF):Bool:=[s.1.1,s.1.2.1,s.1.2.2.1,s.2.2.2.1.1,s.2.2.2.1.2.1,s.2.1.1,s.2.1.2.1,s.2.1.2.2.1,s.2.1.2.2.2.1].any iH || decide (s.2.2.1<1) || decide (s.2.2.1 > 1048576)
def rQ (l:List eF):Int:=bif l.any zS then 1 else bif l.any wE then 2 else 0
def rU:eF:=((0,0,0,()),(0,0,0,0,()),0,(0,0,()),())
def zSp:eX:=(0,0,0,())
noncomputable def c3s:Ctr:=⟨[.list FZ],[tI],fun x=>(show List eF from x.1).length<=1000000,fun x=>(rQ x.1,())⟩
theorem b5C:aI Tryz.prog 59 c3s:=by
 refine aJ (nil0.ad a2C) ⟨[4,6,7],[],[]⟩ Tryz.func59 rfl (by decide) (fun x=>[.inv {k:Nat // k<=(show List eF from x.1).length/\((show List eF from x.1).take k).any zS=false} (fun k=>[(10,.val tI (k.1:Int))]) (fun k=>[]) (fun k=>(show List eF from x.1).length-k.1) ⟨0,by omega,rfl⟩ (fun _=>[]),.inv {k:Nat // k<=(show List eF from x.1).length/\((show List eF from x.1).take k).any wE=false} (fun k=>[(21,.val tI (k.1:Int))]) (fun k=>[]) (fun k=>(show List eF from x.1).length-k.1) ⟨0,by omega,rfl⟩ (fun _=>[])]) (fun x hp=>?_)
 obtain⟨x,u⟩:=x
 change List eF at x
 refine aT ((asT Int 0=0/\True)/\∀ (i:{ k:Nat // k<=List.length x/\List.any (List.take k x) zS=false }),asT Bool true=true/\ifB (decide (aB (aA i)<aB x.length)) ((0<=aB (aA i)/\aB (aA i)<aB x.length/\True)/\ifB (eqD (Ty.pair (Ty.int IntKind.i64) (Ty.pair (Ty.int IntKind.i64) (Ty.pair (Ty.int IntKind.i64) (Ty.pair (Ty.int IntKind.i64) Ty.unit)))) (Prod.fst (List.getD x (aB (aA i)).toNat rU).2.1,Prod.fst (List.getD x (aB (aA i)).toNat rU).2.1.2,Prod.fst (List.getD x (aB (aA i)).toNat rU).2.1.2.2,Prod.fst (List.getD x (aB (aA i)).toNat rU).2.1.2.2.2,()) (0,0,0,0,PUnit.unit)) (True/\1=rQ x/\True) (∃ (i':{ k:Nat // k<=List.length x/\List.any (List.take k x) zS=false }),List.length x-aA i'<List.length x-aA i/\IntKind.wrap IntKind.i64 (aB (aA i)+1)=aB (aA i')/\True)) ((asT Int 0=0/\True)/\∀ (i:{ k:Nat // k<=List.length x/\List.any (List.take k x) wE=false }),let aK:=(List.getD x (aB (aA i)).toNat rU);let A₁:=aK.2;let dL:=A₁.1.2;let dH:=A₁.2.2.1;let A₀:=(Prod.fst aK.1::Prod.fst aK.1.2::Prod.fst aK.1.2.2::Prod.fst dH::Prod.fst dH.2::Prod.fst A₁.1::Prod.fst dL::Prod.fst dL.2::Prod.fst dL.2.2::aF Int);let aQ:=(List.any A₀ iH==false);let fB:=(aQ=true->aQ=true/\True);let fU:=(Prod.fst A₁.2<1);let A₂:=(bif List.any A₀ iH then true else decide fU);let dF:=((A₂==false)=true->(A₂==false)=true/\True);asT Bool true=true/\ifB (decide (aB (aA i)<aB x.length)) ((0<=aB (aA i)/\aB (aA i)<aB x.length/\True)/\(List.length A₀<=1000000/\fB/\fB/\(List.any A₀ iH=false->aQ=true)/\dF/\dF/\(A₂=false->(A₂==false)=true)/\True)/\ifB (bif bif List.any A₀ iH then true else decide fU then true else decide (Prod.fst A₁.2 > 1048576)) (True/\2=rQ x/\True) (∃ (i':{ k:Nat // k<=List.length x/\List.any (List.take k x) wE=false }),List.length x-aA i'<List.length x-aA i/\IntKind.wrap IntKind.i64 (aB (aA i)+1)=aB (aA i')/\True)) (True/\0=rQ x/\True))) (by kernel_rfl) ?_
 have hZ:(⟨false,0,[],[]⟩:aH)=bC:=rfl
 try simp only[aC,aj,ah]
 try dsimp only[aB,asT,aA,aF,Ty.den,Lf.den] at *
 try simp only[hZ,Int.toNat_natCast,aC,aj,ah,jg,jf,gy,bg]
 try simp only[bT,bP,List.all_cons,List.all_nil,jh,dw,ig,je,jy,ne_eq,au,bn,dh,eu,jd,oh,jo,oq,jg,jf,iw,bf,List.length_cons,List.length_nil]
 have hp:x.length<=1000000:=hp
 refine fun i=>⟨fun h1=>⟨⟨by omega,h1⟩,fun h=>?_,fun h=>?_⟩,fun h1 j=>⟨fun h2=>⟨⟨by omega,h2⟩,by omega,fun h=>?_,fun h=>?_⟩,fun h2=>?_⟩⟩
 ·have h:zS (x.getD i.1 rU)=true:=(eqQ _).symm.trans h
  unfold rQ;rw[xJ (p:=zS) (d:=rU) (i:=i.1) (by omega) h];rfl
 ·have h:zS (x.getD i.1 rU)=false:=(eqQ _).symm.trans h
  exact⟨⟨i.1+1,by omega,by rw[iM (d:=rU) (by omega),i.2.2];exact(Bool.false_or _).trans h⟩,by simp only;omega,by rw[aN (by omega) (by omega)];rfl⟩
 ·have h:wE (x.getD j.1 rU)=true:=by
   unfold wE
   rcases h with(h|h)|h<;>rw[h]<;>simp
  have h3:=i.2.2
  rw[jv (by omega)] at h3
  unfold rQ;rw[h3,xJ (p:=wE) (d:=rU) (i:=j.1) (by omega) h];rfl
 ·have h:wE (x.getD j.1 rU)=false:=by
   unfold wE
   rw[h.1.1,h.1.2,h.2];rfl
  exact⟨⟨j.1+1,by omega,by rw[iM (d:=rU) (by omega),j.2.2];exact(Bool.false_or _).trans h⟩,by simp only;omega,by rw[aN (by omega) (by omega)];rfl⟩
 ·have h3:=i.2.2
  have h4:=j.2.2
  rw[jv (by omega)] at h3 h4
  unfold rQ;rw[h3,h4];rfl
theorem a5L:aI Tryz.prog 25 c3s:=by
 refine aJ (nil0.ad JD) ⟨[4,6],[],[]⟩ Tryz.func25 rfl (by decide) (fun x=>[.inv {k:Nat // k<=(show List eF from x.1).length/\((show List eF from x.1).take k).any zS=false} (fun k=>[(9,.val tI (k.1:Int))]) (fun k=>[]) (fun k=>(show List eF from x.1).length-k.1) ⟨0,by omega,rfl⟩ (fun _=>[]),.inv {k:Nat // k<=(show List eF from x.1).length/\((show List eF from x.1).take k).any wE=false} (fun k=>[(20,.val tI (k.1:Int))]) (fun k=>[]) (fun k=>(show List eF from x.1).length-k.1) ⟨0,by omega,rfl⟩ (fun _=>[])]) (fun x hp=>?_)
 obtain⟨x,u⟩:=x
 change List eF at x
 refine aT ((asT Int 0=0/\True)/\∀ (i:{ k:Nat // k<=List.length x/\List.any (List.take k x) zS=false }),asT Bool true=true/\ifB (decide (aB (aA i)<aB x.length)) ((0<=aB (aA i)/\aB (aA i)<aB x.length/\True)/\ifB (eqD (Ty.pair (Ty.int IntKind.i64) (Ty.pair (Ty.int IntKind.i64) (Ty.pair (Ty.int IntKind.i64) (Ty.pair (Ty.int IntKind.i64) Ty.unit)))) (Prod.fst (List.getD x (aB (aA i)).toNat rU).2.1,Prod.fst (List.getD x (aB (aA i)).toNat rU).2.1.2,Prod.fst (List.getD x (aB (aA i)).toNat rU).2.1.2.2,Prod.fst (List.getD x (aB (aA i)).toNat rU).2.1.2.2.2,()) (0,0,0,0,PUnit.unit)) (True/\1=rQ x/\True) (∃ (i':{ k:Nat // k<=List.length x/\List.any (List.take k x) zS=false }),List.length x-aA i'<List.length x-aA i/\IntKind.wrap IntKind.i64 (aB (aA i)+1)=aB (aA i')/\True)) ((asT Int 0=0/\True)/\∀ (i:{ k:Nat // k<=List.length x/\List.any (List.take k x) wE=false }),let aK:=(List.getD x (aB (aA i)).toNat rU);let A₁:=aK.2;let dL:=A₁.1.2;let dH:=A₁.2.2.1;let A₀:=(Prod.fst aK.1::Prod.fst aK.1.2::Prod.fst aK.1.2.2::Prod.fst dH::Prod.fst dH.2::Prod.fst A₁.1::Prod.fst dL::Prod.fst dL.2::Prod.fst dL.2.2::aF Int);let aQ:=(List.any A₀ iH==false);let fB:=(aQ=true->aQ=true/\True);let fU:=(Prod.fst A₁.2<1);let A₂:=(bif List.any A₀ iH then true else decide fU);let dF:=((A₂==false)=true->(A₂==false)=true/\True);asT Bool true=true/\ifB (decide (aB (aA i)<aB x.length)) ((0<=aB (aA i)/\aB (aA i)<aB x.length/\True)/\(List.length A₀<=1000000/\fB/\fB/\(List.any A₀ iH=false->aQ=true)/\dF/\dF/\(A₂=false->(A₂==false)=true)/\True)/\ifB (bif bif List.any A₀ iH then true else decide fU then true else decide (Prod.fst A₁.2 > 1048576)) (True/\2=rQ x/\True) (∃ (i':{ k:Nat // k<=List.length x/\List.any (List.take k x) wE=false }),List.length x-aA i'<List.length x-aA i/\IntKind.wrap IntKind.i64 (aB (aA i)+1)=aB (aA i')/\True)) (True/\0=rQ x/\True))) (by kernel_rfl) ?_
 have hZ:(⟨false,0,[],[]⟩:aH)=bC:=rfl
 try simp only[aC,aj,ah]
 try dsimp only[aB,asT,aA,aF,Ty.den,Lf.den] at *
 try simp only[hZ,Int.toNat_natCast,aC,aj,ah,jg,jf,gy,bg]
 try simp only[bT,bP,List.all_cons,List.all_nil,jh,dw,ig,je,jy,ne_eq,au,bn,dh,eu,jd,oh,jo,oq,jg,jf,iw,bf,List.length_cons,List.length_nil]
 have hp:x.length<=1000000:=hp
 refine fun i=>⟨fun h1=>⟨⟨by omega,h1⟩,fun h=>?_,fun h=>?_⟩,fun h1 j=>⟨fun h2=>⟨⟨by omega,h2⟩,by omega,fun h=>?_,fun h=>?_⟩,fun h2=>?_⟩⟩
 ·have h:zS (x.getD i.1 rU)=true:=(eqQ _).symm.trans h
  unfold rQ;rw[xJ (p:=zS) (d:=rU) (i:=i.1) (by omega) h];rfl
 ·have h:zS (x.getD i.1 rU)=false:=(eqQ _).symm.trans h
  exact⟨⟨i.1+1,by omega,by rw[iM (d:=rU) (by omega),i.2.2];exact(Bool.false_or _).trans h⟩,by simp only;omega,by rw[aN (by omega) (by omega)];rfl⟩
 ·have h:wE (x.getD j.1 rU)=true:=by
   unfold wE
   rcases h with(h|h)|h<;>rw[h]<;>simp
  have h3:=i.2.2
  rw[jv (by omega)] at h3
  unfold rQ;rw[h3,xJ (p:=wE) (d:=rU) (i:=j.1) (by omega) h];rfl
 ·have h:wE (x.getD j.1 rU)=false:=by
   unfold wE
   rw[h.1.1,h.1.2,h.2];rfl
  exact⟨⟨j.1+1,by omega,by rw[iM (d:=rU) (by omega),j.2.2];exact(Bool.false_or _).trans h⟩,by simp only;omega,by rw[aN (by omega) (by omega)];rfl⟩
 ·have h3:=i.2.2
  have h4:=j.2.2
  rw[jv (by omega)] at h3 h4
  unfold rQ;rw[h3,h4];rfl
def ZM (n:Int):Bool:=decide (n > 4096) || decide (n < -4096)
def a2W (s:eF):List Int:=[s.1.1,s.1.2.1,s.1.2.2.1,s.2.2.2.1.1,s.2.2.2.1.2.1,s.2.1.1,s.2.1.2.1,s.2.1.2.2.1,s.2.1.2.2.2.1,s.2.2.1]
def TL (s:eF):Bool:=(rQ [s] != 0) || !(a2W s).any ZM
noncomputable def c5r:Ctr:=⟨[FZ],[tB],fun x=>True,fun x=>(TL x.1,())⟩
theorem b4K:aI Tryz.prog 12 c5r:=by
 refine aJ (nil0.ad a5L) ⟨[],[],[]⟩ Tryz.func12 rfl (by decide) (fun x=>[.inv {k:Nat // k<=10/\((a2W (show eF from x.1)).take k).any ZM=false} (fun k=>[(40,.val tI (k.1:Int))]) (fun k=>[]) (fun k=>10-k.1) ⟨0,by omega,rfl⟩ (fun _=>[])]) (fun x hp=>?_)
 obtain⟨s,u⟩:=x
 change eF at s
 refine aT (let A₁:=(s::aF ((Int × Int × Int × PUnit) × (Int × Int × Int × Int × PUnit) × Int × (Int × Int × PUnit) × PUnit));let A₂:=s.2.1.2;let aK:=s.2.2.2.1;let A₀:=(asT Int s.1.1::asT Int s.1.2.1::asT Int s.1.2.2.1::asT Int aK.1::asT Int aK.2.1::asT Int s.2.1.1::asT Int A₂.1::asT Int A₂.2.1::asT Int A₂.2.2.1::asT Int s.2.2.1::aF Int);let aQ:=(True/\true=TL s/\True);(List.length A₁<=1000000/\True)/\ifB (rQ A₁ != 0) aQ ((asT Int 0=0/\True)/\∀ (i:{ k:Nat // k<=10/\List.any (List.take k (a2W s)) ZM=false }),let dF:=(List.getD A₀ (aB (aA i)).toNat 0 > 4096);asT Bool true=true/\ifB (decide (aB (aA i)<aB A₀.length)) ((0<=aB (aA i)/\aB (aA i)<aB A₀.length/\True)/\(((decide dF==false)=true->(decide dF==false)=true/\True)/\(decide dF=false->(decide dF==false)=true)/\True)/\ifB (bif decide dF then true else decide (List.getD A₀ (aB (aA i)).toNat 0 < -4096)) (True/\false=TL s/\True) (∃ (i':{ k:Nat // k<=10/\List.any (List.take k (a2W s)) ZM=false }),10-aA i'<10-aA i/\IntKind.wrap IntKind.i64 (aB (aA i)+1)=aB (aA i')/\True)) aQ)) (by kernel_rfl) ?_
 have hZ:(⟨false,0,[],[]⟩:aH)=bC:=rfl
 try simp only[aC,aj,ah]
 try dsimp only[aB,asT,aA,aF,Ty.den,Lf.den] at *
 try simp only[hZ,Int.toNat_natCast,aC,aj,ah,jg,jf,gy,bg]
 try simp only[bT,bP,List.all_cons,List.all_nil,jh,dw,ig,je,jy,ne_eq,au,bn,dh,eu,jd,oh,jo,oq,jg,jf,iw,bf,List.length_cons,List.length_nil]
 have hl:(a2W s).length=10:=rfl
 rw[show [s.1.1,s.1.2.1,s.1.2.2.1,s.2.2.2.1.1,s.2.2.2.1.2.1,s.2.1.1,s.2.1.2.1,s.2.1.2.2.1,s.2.1.2.2.2.1,s.2.2.1]=a2W s from rfl]
 refine⟨by omega,fun h=>?_,fun h i=>⟨fun h1=>⟨⟨by omega,h1⟩,fun h2=>lg h2,fun h2=>?_,fun h2=>?_⟩,fun h1=>?_⟩⟩
 ·unfold TL;rw[jy.mpr h];rfl
 ·have h3:ZM ((a2W s).getD i.1 0)=true:=by
   unfold ZM
   rcases h2 with h2|h2<;>rw[h2]<;>simp
  unfold TL;rw[h,xJ (p:=ZM) (d:=0) (i:=i.1) (by omega) h3];rfl
 ·have h3:ZM ((a2W s).getD i.1 0)=false:=by unfold ZM;rw[h2.1,h2.2];rfl
  exact⟨⟨i.1+1,by omega,by rw[iM (d:=0) (by omega),i.2.2];exact(Bool.false_or _).trans h3⟩,by simp only;omega,by rw[aN (by omega) (by omega)];rfl⟩
 ·have h3:=i.2.2
  rw[jv (by omega)] at h3
  unfold TL;rw[h,h3];rfl
def qL4 (q:aY):List Int:=[q.1,q.2.1,q.2.2.1,q.2.2.2.1]
noncomputable def c5E:Ctr:=⟨[zG],[.arr 4 tI],fun x=>True,fun x=>(qL4 x.1,())⟩
noncomputable def c5B:Ctr:=⟨[zG],[.list tI],fun x=>True,fun x=>(qL4 x.1,())⟩
noncomputable def b6C:Ctr:=⟨[zG],[tI],fun x=>qOk x.1,fun x=>((0:Int),())⟩
noncomputable def c3k:Ctr:=⟨[zG],[tI],fun x=>qOk x.1,fun x=>(qN x.1.1 x.1.2.1 x.1.2.2.1 x.1.2.2.2.1,())⟩
theorem b5B:aI Tryz.prog 228 c5E:=by
 refine aJ Lib.nil ⟨[2],[],[]⟩ Tryz.func228 rfl (by decide) (fun x=>[]) (fun x hp=>?_)
 obtain⟨q,u⟩:=x
 change aY at q
 refine aT (True/\asT Int q.1::asT Int q.2.1::asT Int q.2.2.1::asT Int q.2.2.2.1::aF Int=qL4 q/\True) (by kernel_rfl) ?_
 have hZ:(⟨false,0,[],[]⟩:aH)=bC:=rfl
 try simp only[aC,aj,ah]
 try dsimp only[aB,asT,aA,aF,Ty.den,Lf.den] at *
 try simp only[hZ,Int.toNat_natCast,aC,aj,ah,jg,jf,gy,bg]
 try simp only[bT,bP,List.all_cons,List.all_nil,jh,dw,ig,je,jy,ne_eq,au,bn,dh,eu,jd,oh,jo,oq,jg,jf,iw,bf,List.length_cons,List.length_nil]
 rfl
theorem b5z:aI Tryz.prog 208 c5B:=by
 refine aJ Lib.nil ⟨[],[],[]⟩ Tryz.func208 rfl (by decide) (fun x=>[]) (fun x hp=>?_)
 obtain⟨q,u⟩:=x
 change aY at q
 refine aT (True/\asT Int q.1::asT Int q.2.1::asT Int q.2.2.1::asT Int q.2.2.2.1::aF Int=qL4 q/\True) (by kernel_rfl) ?_
 have hZ:(⟨false,0,[],[]⟩:aH)=bC:=rfl
 try simp only[aC,aj,ah]
 try dsimp only[aB,asT,aA,aF,Ty.den,Lf.den] at *
 try simp only[hZ,Int.toNat_natCast,aC,aj,ah,jg,jf,gy,bg]
 try simp only[bT,bP,List.all_cons,List.all_nil,jh,dw,ig,je,jy,ne_eq,au,bn,dh,eu,jd,oh,jo,oq,jg,jf,iw,bf,List.length_cons,List.length_nil]
 rfl
theorem b4X:aI Tryz.prog 148 c3k:=by
 refine aJ Lib.nil ⟨[],[],[]⟩ Tryz.func148 rfl (by decide) (fun x=>[]) (fun x hp=>?_)
 obtain⟨q,u⟩:=x
 change aY at q
 refine aT (True/\IntKind.wrap IntKind.i64 (IntKind.wrap IntKind.i64 (IntKind.wrap IntKind.i64 (IntKind.wrap IntKind.i64 (asT Int q.1*asT Int q.1)+IntKind.wrap IntKind.i64 (asT Int q.2.1*asT Int q.2.1))+IntKind.wrap IntKind.i64 (asT Int q.2.2.1*asT Int q.2.2.1))+IntKind.wrap IntKind.i64 (asT Int q.2.2.2.1*asT Int q.2.2.2.1))=qN (asT Int q.1) (asT Int q.2.1) (asT Int q.2.2.1) (asT Int q.2.2.2.1)/\True) (by kernel_rfl) ?_
 have hZ:(⟨false,0,[],[]⟩:aH)=bC:=rfl
 try simp only[aC,aj,ah]
 try dsimp only[aB,asT,aA,aF,Ty.den,Lf.den] at *
 try simp only[hZ,Int.toNat_natCast,aC,aj,ah,jg,jf,gy,bg]
 try simp only[bT,bP,List.all_cons,List.all_nil,jh,dw,ig,je,jy,ne_eq,au,bn,dh,eu,jd,oh,jo,oq,jg,jf,iw,bf,List.length_cons,List.length_nil]
 obtain⟨h0,ha,hb,hc,hd⟩:qOk q:=hp
 have aa:=ha.mul ha
 have bb:=hb.mul hb
 have cc:=hc.mul hc
 have dd:=hd.mul hd
 rw[aN (n:=q.1*q.1) (by omega) (by omega),aN (n:=q.2.1*q.2.1) (by omega) (by omega),aN (n:=q.2.2.1*q.2.2.1) (by omega) (by omega),aN (n:=q.2.2.2.1*q.2.2.2.1) (by omega) (by omega),aN (n:=q.1*q.1+q.2.1*q.2.1) (by omega) (by omega),aN (n:=q.1*q.1+q.2.1*q.2.1+q.2.2.1*q.2.2.1) (by omega) (by omega),aN (by omega) (by omega)]
 rfl
theorem b4Y:aI Tryz.prog 113 c3k:=by
 refine aJ Lib.nil ⟨[],[],[]⟩ Tryz.func113 rfl (by decide) (fun x=>[]) (fun x hp=>?_)
 obtain⟨q,u⟩:=x
 change aY at q
 refine aT (True/\IntKind.wrap IntKind.i64 (IntKind.wrap IntKind.i64 (IntKind.wrap IntKind.i64 (IntKind.wrap IntKind.i64 (asT Int q.1*asT Int q.1)+IntKind.wrap IntKind.i64 (asT Int q.2.1*asT Int q.2.1))+IntKind.wrap IntKind.i64 (asT Int q.2.2.1*asT Int q.2.2.1))+IntKind.wrap IntKind.i64 (asT Int q.2.2.2.1*asT Int q.2.2.2.1))=qN (asT Int q.1) (asT Int q.2.1) (asT Int q.2.2.1) (asT Int q.2.2.2.1)/\True) (by kernel_rfl) ?_
 have hZ:(⟨false,0,[],[]⟩:aH)=bC:=rfl
 try simp only[aC,aj,ah]
 try dsimp only[aB,asT,aA,aF,Ty.den,Lf.den] at *
 try simp only[hZ,Int.toNat_natCast,aC,aj,ah,jg,jf,gy,bg]
 try simp only[bT,bP,List.all_cons,List.all_nil,jh,dw,ig,je,jy,ne_eq,au,bn,dh,eu,jd,oh,jo,oq,jg,jf,iw,bf,List.length_cons,List.length_nil]
 obtain⟨h0,ha,hb,hc,hd⟩:qOk q:=hp
 have aa:=ha.mul ha
 have bb:=hb.mul hb
 have cc:=hc.mul hc
 have dd:=hd.mul hd
 rw[aN (n:=q.1*q.1) (by omega) (by omega),aN (n:=q.2.1*q.2.1) (by omega) (by omega),aN (n:=q.2.2.1*q.2.2.1) (by omega) (by omega),aN (n:=q.2.2.2.1*q.2.2.2.1) (by omega) (by omega),aN (n:=q.1*q.1+q.2.1*q.2.1) (by omega) (by omega),aN (n:=q.1*q.1+q.2.1*q.2.1+q.2.2.1*q.2.2.1) (by omega) (by omega),aN (by omega) (by omega)]
 rfl
theorem b5H:aI Tryz.prog 146 b6C:=by
 refine aJ (nil0.ad b5B) ⟨[],[],[]⟩ Tryz.func146 rfl (by decide) (fun x=>[.rounds 5 [10] []]) (fun x hp=>?_)
 obtain⟨q,u⟩:=x
 change aY at q
 refine aT (let A₂:=(asT Int q.2.1 < -1048576);let aK:=(asT Int q.1 < -1048576);let aQ:=(True/\asT Int 3=0/\True);let dF:=q.2.2;let A₀:=(asT Int dF.2.1 < -1048576);let A₁:=(asT Int dF.1 < -1048576);ifB (eqD (Ty.pair (Ty.int IntKind.i64) (Ty.pair (Ty.int IntKind.i64) (Ty.pair (Ty.int IntKind.i64) (Ty.pair (Ty.int IntKind.i64) Ty.unit)))) q (0,0,0,0,PUnit.unit)) (True/\asT Int 1=0/\True) ((True/\True)/\(asT Int 0<=0/\asT Int 0<4/\True)/\(((decide aK==false)=true->(decide aK==false)=true/\True)/\(decide aK=false->(decide aK==false)=true)/\True)/\ifB (bif decide aK then true else decide (asT Int q.1 > 1048576)) aQ ((asT Int 0<=1/\asT Int 1<4/\True)/\(((decide A₂==false)=true->(decide A₂==false)=true/\True)/\(decide A₂=false->(decide A₂==false)=true)/\True)/\ifB (bif decide A₂ then true else decide (asT Int q.2.1 > 1048576)) aQ ((asT Int 0<=2/\asT Int 2<4/\True)/\(((decide A₁==false)=true->(decide A₁==false)=true/\True)/\(decide A₁=false->(decide A₁==false)=true)/\True)/\ifB (bif decide A₁ then true else decide (asT Int dF.1 > 1048576)) aQ ((asT Int 0<=3/\asT Int 3<4/\True)/\(((decide A₀==false)=true->(decide A₀==false)=true/\True)/\(decide A₀=false->(decide A₀==false)=true)/\True)/\ifB (bif decide A₀ then true else decide (asT Int dF.2.1 > 1048576)) aQ (True/\asT Int 0=0/\True)))))) (by kernel_rfl) ?_
 have hZ:(⟨false,0,[],[]⟩:aH)=bC:=rfl
 try simp only[aC,aj,ah]
 try dsimp only[aB,asT,aA,aF,Ty.den,Lf.den] at *
 try simp only[hZ,Int.toNat_natCast,aC,aj,ah,jg,jf,gy,bg]
 try simp only[bT,bP,List.all_cons,List.all_nil,jh,dw,ig,je,jy,ne_eq,au,bn,dh,eu,jd,oh,jo,oq,jg,jf,iw,bf,List.length_cons,List.length_nil]
 obtain⟨a,b,c,d,z⟩:=q
 obtain⟨h0,⟨a1,a2⟩,⟨b1,b2⟩,⟨c1,c2⟩,d1,d2⟩:qOk (a,b,c,d,z):=hp
 dsimp only at *
 have e1:decide (a < -1048576)=false:=lg (by omega)
 have e2:decide (a > 1048576)=false:=lg (by omega)
 have e3:decide (b < -1048576)=false:=lg (by omega)
 have e4:decide (b > 1048576)=false:=lg (by omega)
 have e5:decide (c < -1048576)=false:=lg (by omega)
 have e6:decide (c > 1048576)=false:=lg (by omega)
 have e7:decide (d < -1048576)=false:=lg (by omega)
 have e8:decide (d > 1048576)=false:=lg (by omega)
 rw[e1,e2,e3,e4,e5,e6,e7,e8]
 refine⟨fun h=>?_,fun _=>by simp⟩
 have h:decide (a=0/\b=0/\c=0/\d=0)=true:=(eqQ (a,b,c,d,z)).symm.trans h
 exact absurd (tu h) h0
theorem b5I:aI Tryz.prog 111 b6C:=by
 refine aJ (nil0.ad b5z) ⟨[],[],[]⟩ Tryz.func111 rfl (by decide) (fun x=>[.rounds 5 [4] []]) (fun x hp=>?_)
 obtain⟨q,u⟩:=x
 change aY at q
 refine aT (let dH:=q.2.2;let fB:=q.2.1;let A₁:=(bif bif asT Int q.1==0 then asT Int fB==0 else false then asT Int dH.1==0 else false);let dF:=(bif asT Int q.1==0 then asT Int fB==0 else false);let fU:=((asT Int q.1==0)==true);let fK:=dH.2.1;let A₀:=(asT Int q.1::asT Int fB::asT Int dH.1::asT Int fK::aF Int).length;let kH:=(True/\asT Int 3=0/\True);let pJ:=(asT Int dH.1 > 1048576);let aK:=(decide pJ==false);let qO:=(asT Int q.1 > 1048576);let dL:=(decide qO==false);let rV:=((dF==true)=true->(dF==true)=true/\True);let xH:=((A₁==true)=true->(A₁==true)=true/\True);let wO:=(asT Int fB > 1048576);let aQ:=(decide wO==false);let zH:=(asT Int fK > 1048576);let A₂:=(decide zH==false);let kJ:=(fU=true->fU=true/\True);let GL:=(dL=true->dL=true/\True);let GN:=(aQ=true->aQ=true/\True);let C₁:=(aK=true->aK=true/\True);let C₂:=(A₂=true->A₂=true/\True);(kJ/\kJ/\((asT Int q.1==0)=true->fU=true)/\rV/\rV/\(dF=true->(dF==true)=true)/\xH/\xH/\(A₁=true->(A₁==true)=true)/\True)/\ifB (bif bif bif asT Int q.1==0 then asT Int fB==0 else false then asT Int dH.1==0 else false then asT Int fK==0 else false) (True/\asT Int 1=0/\True) ((True/\True)/\(asT Int 0<=0/\0<aB A₀/\(dL=true->dL=true/\dL=true/\asT Int 0<=0/\0<aB A₀/\True)/\GL/\GL/\(decide qO=false->dL=true)/\True)/\ifB (bif decide qO then true else decide (asT Int q.1 < -1048576)) kH ((asT Int 0<=1/\1<aB A₀/\(aQ=true->aQ=true/\aQ=true/\asT Int 0<=1/\1<aB A₀/\True)/\GN/\GN/\(decide wO=false->aQ=true)/\True)/\ifB (bif decide wO then true else decide (asT Int fB < -1048576)) kH ((asT Int 0<=2/\2<aB A₀/\(aK=true->aK=true/\aK=true/\asT Int 0<=2/\2<aB A₀/\True)/\C₁/\C₁/\(decide pJ=false->aK=true)/\True)/\ifB (bif decide pJ then true else decide (asT Int dH.1 < -1048576)) kH ((asT Int 0<=3/\3<aB A₀/\(A₂=true->A₂=true/\A₂=true/\asT Int 0<=3/\3<aB A₀/\True)/\C₂/\C₂/\(decide zH=false->A₂=true)/\True)/\ifB (bif decide zH then true else decide (asT Int fK < -1048576)) kH (True/\asT Int 0=0/\True)))))) (by kernel_rfl) ?_
 have hZ:(⟨false,0,[],[]⟩:aH)=bC:=rfl
 try simp only[aC,aj,ah]
 try dsimp only[aB,asT,aA,aF,Ty.den,Lf.den] at *
 try simp only[hZ,Int.toNat_natCast,aC,aj,ah,jg,jf,gy,bg]
 try simp only[bT,bP,List.all_cons,List.all_nil,jh,dw,ig,je,jy,ne_eq,au,bn,dh,eu,jd,oh,jo,oq,jg,jf,iw,bf,List.length_cons,List.length_nil]
 obtain⟨a,b,c,d,z⟩:=q
 obtain⟨h0,⟨a1,a2⟩,⟨b1,b2⟩,⟨c1,c2⟩,d1,d2⟩:qOk (a,b,c,d,z):=hp
 dsimp only at *
 have e1:decide (a < -1048576)=false:=lg (by omega)
 have e2:decide (a > 1048576)=false:=lg (by omega)
 have e3:decide (b < -1048576)=false:=lg (by omega)
 have e4:decide (b > 1048576)=false:=lg (by omega)
 have e5:decide (c < -1048576)=false:=lg (by omega)
 have e6:decide (c > 1048576)=false:=lg (by omega)
 have e7:decide (d < -1048576)=false:=lg (by omega)
 have e8:decide (d > 1048576)=false:=lg (by omega)
 rw[e1,e2,e3,e4,e5,e6,e7,e8]
 simp
 omega
noncomputable def b7I:Ctr:=⟨[zG],[tM,tI],fun x=>qOk x.1,fun x=>(qMx x.1,(0:Int),())⟩
theorem b4P:aI Tryz.prog 61 b7I:=by
  refine aJ (((nil0.ad b5H).ad b4X).ad a5u) ⟨[9,12,16],[],[]⟩ Tryz.func61 rfl (by decide) (fun x=>[.inv {k:Nat // k<=3} (fun i=>[(129,.val tI (i.1:Int)),(10,.own 10 0)]) (fun i=>[(9,.box [⟨tI,qM (show aY from x.1).1 (show aY from x.1).2.1 (show aY from x.1).2.2.1 (show aY from x.1).2.2.2.1 0 0⟩,⟨tI,qM (show aY from x.1).1 (show aY from x.1).2.1 (show aY from x.1).2.2.1 (show aY from x.1).2.2.2.1 0 1⟩,⟨tI,qM (show aY from x.1).1 (show aY from x.1).2.1 (show aY from x.1).2.2.1 (show aY from x.1).2.2.2.1 0 2⟩,⟨tI,qM (show aY from x.1).1 (show aY from x.1).2.1 (show aY from x.1).2.2.1 (show aY from x.1).2.2.2.1 1 0⟩,⟨tI,qM (show aY from x.1).1 (show aY from x.1).2.1 (show aY from x.1).2.2.1 (show aY from x.1).2.2.2.1 1 1⟩,⟨tI,qM (show aY from x.1).1 (show aY from x.1).2.1 (show aY from x.1).2.2.1 (show aY from x.1).2.2.2.1 1 2⟩,⟨tI,qM (show aY from x.1).1 (show aY from x.1).2.1 (show aY from x.1).2.2.1 (show aY from x.1).2.2.2.1 2 0⟩,⟨tI,qM (show aY from x.1).1 (show aY from x.1).2.1 (show aY from x.1).2.2.1 (show aY from x.1).2.2.2.1 2 1⟩,⟨tI,qM (show aY from x.1).1 (show aY from x.1).2.1 (show aY from x.1).2.2.1 (show aY from x.1).2.2.2.1 2 2⟩]),(10,.row 39 (.list tQ) (tab i.1 3 (qE (show aY from x.1))) 0)]) (fun i=>3-i.1) ⟨0,by omega⟩ (fun i=>[
   .inv {k:Nat // k<=3} (fun j=>[(133,.val tI (j.1:Int)),(13,.own 13 0)]) (fun j=>[(9,.box [⟨tI,qM (show aY from x.1).1 (show aY from x.1).2.1 (show aY from x.1).2.2.1 (show aY from x.1).2.2.2.1 0 0⟩,⟨tI,qM (show aY from x.1).1 (show aY from x.1).2.1 (show aY from x.1).2.2.1 (show aY from x.1).2.2.2.1 0 1⟩,⟨tI,qM (show aY from x.1).1 (show aY from x.1).2.1 (show aY from x.1).2.2.1 (show aY from x.1).2.2.2.1 0 2⟩,⟨tI,qM (show aY from x.1).1 (show aY from x.1).2.1 (show aY from x.1).2.2.1 (show aY from x.1).2.2.2.1 1 0⟩,⟨tI,qM (show aY from x.1).1 (show aY from x.1).2.1 (show aY from x.1).2.2.1 (show aY from x.1).2.2.2.1 1 1⟩,⟨tI,qM (show aY from x.1).1 (show aY from x.1).2.1 (show aY from x.1).2.2.1 (show aY from x.1).2.2.2.1 1 2⟩,⟨tI,qM (show aY from x.1).1 (show aY from x.1).2.1 (show aY from x.1).2.2.1 (show aY from x.1).2.2.2.1 2 0⟩,⟨tI,qM (show aY from x.1).1 (show aY from x.1).2.1 (show aY from x.1).2.2.1 (show aY from x.1).2.2.2.1 2 1⟩,⟨tI,qM (show aY from x.1).1 (show aY from x.1).2.1 (show aY from x.1).2.2.1 (show aY from x.1).2.2.2.1 2 2⟩]),(10,.row 39 (.list tQ) (tab i.1 3 (qE (show aY from x.1))) 0),(12,.box [⟨tI,qM (show aY from x.1).1 (show aY from x.1).2.1 (show aY from x.1).2.2.1 (show aY from x.1).2.2.2.1 i.1 0⟩,⟨tI,qM (show aY from x.1).1 (show aY from x.1).2.1 (show aY from x.1).2.2.1 (show aY from x.1).2.2.2.1 i.1 1⟩,⟨tI,qM (show aY from x.1).1 (show aY from x.1).2.1 (show aY from x.1).2.2.1 (show aY from x.1).2.2.2.1 i.1 2⟩]),(13,.row 47 tQ ((List.range j.1).map (qE (show aY from x.1) i.1)) 0)]) (fun j=>3-j.1) ⟨0,by omega⟩ (fun _=>[])])]) (fun x hp=>?_)
  obtain⟨q,u⟩:=x
  change aY at q
  refine aT (let A₁:=q.2.2.2.1;let aQ:=(asT Int q.1);let dF:=q.2.2.1;let A₂:=(asT Int dF);let dH:=q.2.1;let aK:=(asT Int dH);let fU:=(0::List.replicate 2 0);let kJ:=(qN aQ aK A₂ (asT Int A₁));let GL:=(asT Int dF*asT Int dF);let GN:=(asT Int A₁*asT Int A₁);let C₁:=(asT Int q.1*asT Int q.1);let dL:=(IntKind.wrap IntKind.i64 C₁-IntKind.wrap IntKind.i64 (asT Int dH*asT Int dH));let fB:=(IntKind.wrap IntKind.i64 (IntKind.wrap IntKind.i64 (IntKind.wrap IntKind.i64 C₁+IntKind.wrap IntKind.i64 (asT Int dH*asT Int dH))-IntKind.wrap IntKind.i64 GL)-IntKind.wrap IntKind.i64 GN);let fK:=(IntKind.wrap IntKind.i64 (IntKind.wrap IntKind.i64 dL+IntKind.wrap IntKind.i64 GL)-IntKind.wrap IntKind.i64 GN);let kH:=(IntKind.wrap IntKind.i64 (IntKind.wrap IntKind.i64 dL-IntKind.wrap IntKind.i64 GL)+IntKind.wrap IntKind.i64 GN);let C₂:=(asT Int q.1*asT Int A₁);let pJ:=(2*IntKind.wrap IntKind.i64 (IntKind.wrap IntKind.i64 (asT Int dH*asT Int dF)-IntKind.wrap IntKind.i64 C₂));let rV:=(2*IntKind.wrap IntKind.i64 (IntKind.wrap IntKind.i64 (asT Int dH*asT Int dF)+IntKind.wrap IntKind.i64 C₂));let C₃:=(asT Int q.1*asT Int dF);let qO:=(2*IntKind.wrap IntKind.i64 (IntKind.wrap IntKind.i64 (asT Int dH*asT Int A₁)+IntKind.wrap IntKind.i64 C₃));let wO:=(2*IntKind.wrap IntKind.i64 (IntKind.wrap IntKind.i64 (asT Int dH*asT Int A₁)-IntKind.wrap IntKind.i64 C₃));let uY:=(asT Int q.1*asT Int dH);let xH:=(2*IntKind.wrap IntKind.i64 (IntKind.wrap IntKind.i64 (asT Int dF*asT Int A₁)-IntKind.wrap IntKind.i64 uY));let zH:=(2*IntKind.wrap IntKind.i64 (IntKind.wrap IntKind.i64 (asT Int dF*asT Int A₁)+IntKind.wrap IntKind.i64 uY));let A₀:=((IntKind.wrap IntKind.i64 fB::IntKind.wrap IntKind.i64 pJ::IntKind.wrap IntKind.i64 qO::aF Int)::(IntKind.wrap IntKind.i64 rV::IntKind.wrap IntKind.i64 fK::IntKind.wrap IntKind.i64 xH::aF Int)::(IntKind.wrap IntKind.i64 wO::IntKind.wrap IntKind.i64 zH::IntKind.wrap IntKind.i64 kH::aF Int)::aF (List Int));(qOk q/\True)/\(asT Int 0=0/\(True/\asT (List (List Rat)) (aF (List Rat))=aF (List Rat))/\IntKind.wrap IntKind.i64 fB=qM aQ aK A₂ (asT Int A₁) 0 0/\IntKind.wrap IntKind.i64 pJ=qM aQ aK A₂ (asT Int A₁) 0 1/\IntKind.wrap IntKind.i64 qO=qM aQ aK A₂ (asT Int A₁) 0 2/\IntKind.wrap IntKind.i64 rV=qM aQ aK A₂ (asT Int A₁) 1 0/\IntKind.wrap IntKind.i64 fK=qM aQ aK A₂ (asT Int A₁) 1 1/\IntKind.wrap IntKind.i64 xH=qM aQ aK A₂ (asT Int A₁) 1 2/\IntKind.wrap IntKind.i64 wO=qM aQ aK A₂ (asT Int A₁) 2 0/\IntKind.wrap IntKind.i64 zH=qM aQ aK A₂ (asT Int A₁) 2 1/\IntKind.wrap IntKind.i64 kH=qM aQ aK A₂ (asT Int A₁) 2 2/\(asT (List (List Rat)) (aF (List Rat))=aF (List Rat)/\0=0/\asT Bool true=true)/\True)/\∀ (i:{ k:Nat // k<=3 }),let jW:=(List.getD A₀ (aB (aA i)).toNat fU);let FI:=(List.getD jW 0 0::List.getD jW (0+1) 0::List.getD jW (0+1+1) 0::aF Int);asT Bool true=true/\ifB (decide (aB (aA i)<3)) ((0<=aB (aA i)/\aB (aA i)<3/\True)/\(asT Int 0=0/\(True/\asT (List Rat) (aF Rat)=aF Rat)/\qM aQ aK A₂ (asT Int A₁) 0 0=qM aQ aK A₂ (asT Int A₁) 0 0/\qM aQ aK A₂ (asT Int A₁) 0 1=qM aQ aK A₂ (asT Int A₁) 0 1/\qM aQ aK A₂ (asT Int A₁) 0 2=qM aQ aK A₂ (asT Int A₁) 0 2/\qM aQ aK A₂ (asT Int A₁) 1 0=qM aQ aK A₂ (asT Int A₁) 1 0/\qM aQ aK A₂ (asT Int A₁) 1 1=qM aQ aK A₂ (asT Int A₁) 1 1/\qM aQ aK A₂ (asT Int A₁) 1 2=qM aQ aK A₂ (asT Int A₁) 1 2/\qM aQ aK A₂ (asT Int A₁) 2 0=qM aQ aK A₂ (asT Int A₁) 2 0/\qM aQ aK A₂ (asT Int A₁) 2 1=qM aQ aK A₂ (asT Int A₁) 2 1/\qM aQ aK A₂ (asT Int A₁) 2 2=qM aQ aK A₂ (asT Int A₁) 2 2/\tab (aA i) 3 (qE q)=tab (aA i) 3 (qE q)/\List.getD jW 0 0=qM aQ aK A₂ (asT Int A₁) (aA i) 0/\List.getD jW (0+1) 0=qM aQ aK A₂ (asT Int A₁) (aA i) 1/\List.getD jW (0+1+1) 0=qM aQ aK A₂ (asT Int A₁) (aA i) 2/\(asT (List Rat) (aF Rat)=aF Rat/\0=0/\asT Bool true=true)/\True)/\∀ (i_1:{ k:Nat // k<=3 }),let KR:=(List.getD FI (aB (aA i_1)).toNat 0);let OL:=(List.range (aA i_1));asT Bool true=true/\ifB (decide (aB (aA i_1)<3)) ((0<=aB (aA i_1)/\aB (aA i_1)<3/\True)/\(qOk q/\(bU KR/\bU kJ/\qN aQ aK A₂ (asT Int A₁)≠0)/\True)/\(List.length (List.map (qE q (aA i)) OL)+List.length (Rat.divInt KR kJ::aF Rat)<=1000000000/\True)/\∃ (i':{ k:Nat // k<=3 }),3-aA i'<3-aA i_1/\IntKind.wrap IntKind.i64 (aB (aA i_1)+1)=aB (aA i')/\qM aQ aK A₂ (asT Int A₁) 0 0=qM aQ aK A₂ (asT Int A₁) 0 0/\qM aQ aK A₂ (asT Int A₁) 0 1=qM aQ aK A₂ (asT Int A₁) 0 1/\qM aQ aK A₂ (asT Int A₁) 0 2=qM aQ aK A₂ (asT Int A₁) 0 2/\qM aQ aK A₂ (asT Int A₁) 1 0=qM aQ aK A₂ (asT Int A₁) 1 0/\qM aQ aK A₂ (asT Int A₁) 1 1=qM aQ aK A₂ (asT Int A₁) 1 1/\qM aQ aK A₂ (asT Int A₁) 1 2=qM aQ aK A₂ (asT Int A₁) 1 2/\qM aQ aK A₂ (asT Int A₁) 2 0=qM aQ aK A₂ (asT Int A₁) 2 0/\qM aQ aK A₂ (asT Int A₁) 2 1=qM aQ aK A₂ (asT Int A₁) 2 1/\qM aQ aK A₂ (asT Int A₁) 2 2=qM aQ aK A₂ (asT Int A₁) 2 2/\tab (aA i) 3 (qE q)=tab (aA i) 3 (qE q)/\qM aQ aK A₂ (asT Int A₁) (aA i) 0=qM aQ aK A₂ (asT Int A₁) (aA i) 0/\qM aQ aK A₂ (asT Int A₁) (aA i) 1=qM aQ aK A₂ (asT Int A₁) (aA i) 1/\qM aQ aK A₂ (asT Int A₁) (aA i) 2=qM aQ aK A₂ (asT Int A₁) (aA i) 2/\List.map (qE q (aA i)) OL++Rat.divInt KR kJ::aF Rat=List.map (qE q (aA i)) (List.range (aA i'))/\True) ((List.length (tab (aA i) 3 (qE q))+List.length (List.map (qE q (aA i)) OL::aF (List Rat))<=1000000000/\True)/\∃ (i':{ k:Nat // k<=3 }),3-aA i'<3-aA i/\IntKind.wrap IntKind.i64 (aB (aA i)+1)=aB (aA i')/\qM aQ aK A₂ (asT Int A₁) 0 0=qM aQ aK A₂ (asT Int A₁) 0 0/\qM aQ aK A₂ (asT Int A₁) 0 1=qM aQ aK A₂ (asT Int A₁) 0 1/\qM aQ aK A₂ (asT Int A₁) 0 2=qM aQ aK A₂ (asT Int A₁) 0 2/\qM aQ aK A₂ (asT Int A₁) 1 0=qM aQ aK A₂ (asT Int A₁) 1 0/\qM aQ aK A₂ (asT Int A₁) 1 1=qM aQ aK A₂ (asT Int A₁) 1 1/\qM aQ aK A₂ (asT Int A₁) 1 2=qM aQ aK A₂ (asT Int A₁) 1 2/\qM aQ aK A₂ (asT Int A₁) 2 0=qM aQ aK A₂ (asT Int A₁) 2 0/\qM aQ aK A₂ (asT Int A₁) 2 1=qM aQ aK A₂ (asT Int A₁) 2 1/\qM aQ aK A₂ (asT Int A₁) 2 2=qM aQ aK A₂ (asT Int A₁) 2 2/\tab (aA i) 3 (qE q)++List.map (qE q (aA i)) OL::aF (List Rat)=tab (aA i') 3 (qE q)/\True)) (True/\tab (aA i) 3 (qE q)=qMx q/\True/\asT Int 0=0/\True)) (by kernel_rfl) ?_
  have hZ:(⟨false,0,[],[]⟩:aH)=bC:=rfl
  try simp only[aC,aj,ah]
  try dsimp only[aB,asT,aA,aF,Ty.den,Lf.den] at *
  try simp only[hZ,Int.toNat_natCast,aC,aj,ah,jg,jf,gy,bg]
  try simp only[bT,bP,List.all_cons,List.all_nil,jh,dw,ig,je,jy,ne_eq,au,bn,dh,eu,jd,oh,jo,oq,jg,jf,iw,bf,List.length_cons,List.length_nil]
  obtain⟨a,b,c,d,z⟩:=q
  obtain⟨h0,oa,ob,oc,od⟩:qOk (a,b,c,d,z):=hp
  dsimp only at *
  have hN:=MI h0
  have maa:=oa.nZ oa
  have mab:=oa.nZ ob
  have mac:=oa.nZ oc
  have mad:=oa.nZ od
  have mbb:=ob.nZ ob
  have mbc:=ob.nZ oc
  have mbd:=ob.nZ od
  have mcc:=oc.nZ oc
  have mcd:=oc.nZ od
  have mdd:=od.nZ od
  simp(disch:=omega) only[aN]
  have hq:qOk (a,b,c,d,z):=⟨h0,oa,ob,oc,od⟩
  have hw:∀ i j,i<3->j<3->bU (qM a b c d i j):=fun i j hi hj=>by
    have:=(YB hq hi hj).1
    dsimp only at this
    exact⟨by omega,by omega⟩
  have hn:bU (qN a b c d):=by
    have:=(YB hq (i:=0) (j:=0) (by omega) (by omega)).2
    dsimp only at this
    exact⟨by omega,by omega⟩
  refine⟨hq,(by and_intros<;>rfl),fun i=>⟨fun h1=>?_,fun h1=>?_⟩⟩
  · obtain⟨i,hi⟩:=i
    have h1:i<3:=by have h1:(i:Int)<3:=h1;omega
    rcases three h1 with rfl|rfl|rfl
    all_goals
      refine⟨⟨by omega,by omega⟩,⟨rfl,rfl,rfl⟩,fun k=>⟨fun h2=>?_,fun h2=>?_⟩⟩
      · obtain⟨k,hk⟩:=k
        have h2:k<3:=by have h2:(k:Int)<3:=h2;omega
        rcases three h2 with rfl|rfl|rfl
        all_goals
          refine⟨⟨by omega,by omega⟩,⟨hq,?_,hn,by omega⟩,by simp,⟨_+1,by omega⟩,by simp only;omega,rfl,rfl⟩
          first|exact hw 0 0 (by omega) (by omega)|exact hw 0 1 (by omega) (by omega)|exact hw 0 2 (by omega) (by omega)|exact hw 1 0 (by omega) (by omega)|exact hw 1 1 (by omega) (by omega)|exact hw 1 2 (by omega) (by omega)|exact hw 2 0 (by omega) (by omega)|exact hw 2 1 (by omega) (by omega)|exact hw 2 2 (by omega) (by omega)
      · have hk:k.1=3:=by have:=k.2;omega
        refine⟨by rw[fZ];omega,⟨_+1,by omega⟩,by simp only;omega,rfl,?_⟩
        rw[hk];rfl
  · have hi:i.1=3:=by have:=i.2;omega
    rw[hi]
    exact(MH _).symm
theorem b4O:aI Tryz.prog 29 b7I:=by
  refine aJ (((nil0.ad b5I).ad b4Y).ad b5S) ⟨[14],[],[]⟩ Tryz.func29 rfl (by decide) (fun x=>[.inv {k:Nat // k<=3} (fun i=>[(11,.val tI (i.1:Int)),(10,.own 126 0),(126,.any)]) (fun i=>[(126,.row 39 (.list tQ) (tab i.1 3 (qE (show aY from x.1))) 0)]) (fun i=>3-i.1) ⟨0,by omega⟩ (fun i=>[
   .inv {k:Nat // k<=3} (fun j=>[(13,.val tI (j.1:Int)),(12,.own 131 0),(131,.any)]) (fun j=>[(126,.row 39 (.list tQ) (tab i.1 3 (qE (show aY from x.1))) 0),(131,.row 47 tQ ((List.range j.1).map (qE (show aY from x.1) i.1)) 0)]) (fun j=>3-j.1) ⟨0,by omega⟩ (fun _=>[])])]) (fun x hp=>?_)
  obtain⟨q,u⟩:=x
  change aY at q
  refine aT (let A₁:=q.2.2.2.1;let A₂:=q.2.2.1;let aK:=q.2.1;let aQ:=(qN (asT Int q.1) (asT Int aK) (asT Int A₂) (asT Int A₁));let dL:=(asT Int A₂*asT Int A₂);let dH:=(asT Int A₁*asT Int A₁);let fB:=(asT Int q.1*asT Int q.1);let dF:=(IntKind.wrap IntKind.i64 fB-IntKind.wrap IntKind.i64 (asT Int aK*asT Int aK));let fU:=(asT Int q.1*asT Int A₁);let fK:=(asT Int q.1*asT Int A₂);let kH:=(asT Int q.1*asT Int aK);let A₀:=((IntKind.wrap IntKind.i64 (IntKind.wrap IntKind.i64 (IntKind.wrap IntKind.i64 (IntKind.wrap IntKind.i64 fB+IntKind.wrap IntKind.i64 (asT Int aK*asT Int aK))-IntKind.wrap IntKind.i64 dL)-IntKind.wrap IntKind.i64 dH)::IntKind.wrap IntKind.i64 (2*IntKind.wrap IntKind.i64 (IntKind.wrap IntKind.i64 (asT Int aK*asT Int A₂)-IntKind.wrap IntKind.i64 fU))::IntKind.wrap IntKind.i64 (2*IntKind.wrap IntKind.i64 (IntKind.wrap IntKind.i64 (asT Int aK*asT Int A₁)+IntKind.wrap IntKind.i64 fK))::aF Int)::(IntKind.wrap IntKind.i64 (2*IntKind.wrap IntKind.i64 (IntKind.wrap IntKind.i64 (asT Int aK*asT Int A₂)+IntKind.wrap IntKind.i64 fU))::IntKind.wrap IntKind.i64 (IntKind.wrap IntKind.i64 (IntKind.wrap IntKind.i64 dF+IntKind.wrap IntKind.i64 dL)-IntKind.wrap IntKind.i64 dH)::IntKind.wrap IntKind.i64 (2*IntKind.wrap IntKind.i64 (IntKind.wrap IntKind.i64 (asT Int A₂*asT Int A₁)-IntKind.wrap IntKind.i64 kH))::aF Int)::(IntKind.wrap IntKind.i64 (2*IntKind.wrap IntKind.i64 (IntKind.wrap IntKind.i64 (asT Int aK*asT Int A₁)-IntKind.wrap IntKind.i64 fK))::IntKind.wrap IntKind.i64 (2*IntKind.wrap IntKind.i64 (IntKind.wrap IntKind.i64 (asT Int A₂*asT Int A₁)+IntKind.wrap IntKind.i64 kH))::IntKind.wrap IntKind.i64 (IntKind.wrap IntKind.i64 (IntKind.wrap IntKind.i64 dF-IntKind.wrap IntKind.i64 dL)+IntKind.wrap IntKind.i64 dH)::aF Int)::aF (List Int));(qOk q/\True)/\(asT Int 0=0/\asT (List (List Rat)) (aF (List Rat))=aF (List Rat)/\True)/\∀ (i:{ k:Nat // k<=3 }),let pJ:=(List.getD A₀ (aB (aA i)).toNat (aF Int));asT Bool true=true/\ifB (decide (aB (aA i)<3)) ((asT Int 0=0/\tab (aA i) 3 (qE q)=tab (aA i) 3 (qE q)/\asT (List Rat) (aF Rat)=aF Rat/\True)/\∀ (i_1:{ k:Nat // k<=3 }),let qO:=(List.getD pJ (aB (aA i_1)).toNat 0);let rV:=(List.range (aA i_1));asT Bool true=true/\ifB (decide (aB (aA i_1)<3)) ((0<=aB (aA i)/\aB (aA i)<aB A₀.length/\0<=aB (aA i_1)/\aB (aA i_1)<aB pJ.length/\qOk q/\(bU qO/\bU aQ/\qN (asT Int q.1) (asT Int aK) (asT Int A₂) (asT Int A₁)≠0)/\True)/\(List.length (List.map (qE q (aA i)) rV)+List.length (Rat.divInt qO aQ::aF Rat)<=1000000000/\True)/\∃ (i':{ k:Nat // k<=3 }),3-aA i'<3-aA i_1/\IntKind.wrap IntKind.i64 (aB (aA i_1)+1)=aB (aA i')/\tab (aA i) 3 (qE q)=tab (aA i) 3 (qE q)/\List.map (qE q (aA i)) rV++Rat.divInt qO aQ::aF Rat=List.map (qE q (aA i)) (List.range (aA i'))/\True) ((List.length (tab (aA i) 3 (qE q))+List.length (List.map (qE q (aA i)) rV::aF (List Rat))<=1000000000/\True)/\∃ (i':{ k:Nat // k<=3 }),3-aA i'<3-aA i/\IntKind.wrap IntKind.i64 (aB (aA i)+1)=aB (aA i')/\tab (aA i) 3 (qE q)++List.map (qE q (aA i)) rV::aF (List Rat)=tab (aA i') 3 (qE q)/\True)) (True/\tab (aA i) 3 (qE q)=qMx q/\True/\asT Int 0=0/\True)) (by kernel_rfl) ?_
  have hZ:(⟨false,0,[],[]⟩:aH)=bC:=rfl
  try simp only[aC,aj,ah]
  try dsimp only[aB,asT,aA,aF,Ty.den,Lf.den] at *
  try simp only[hZ,Int.toNat_natCast,aC,aj,ah,jg,jf,gy,bg]
  try simp only[bT,bP,List.all_cons,List.all_nil,jh,dw,ig,je,jy,ne_eq,au,bn,dh,eu,jd,oh,jo,oq,jg,jf,iw,bf,List.length_cons,List.length_nil]
  obtain⟨a,b,c,d,z⟩:=q
  obtain⟨h0,oa,ob,oc,od⟩:qOk (a,b,c,d,z):=hp
  dsimp only at *
  have hN:=MI h0
  have maa:=oa.nZ oa
  have mab:=oa.nZ ob
  have mac:=oa.nZ oc
  have mad:=oa.nZ od
  have mbb:=ob.nZ ob
  have mbc:=ob.nZ oc
  have mbd:=ob.nZ od
  have mcc:=oc.nZ oc
  have mcd:=oc.nZ od
  have mdd:=od.nZ od
  simp(disch:=omega) only[aN]
  have hq:qOk (a,b,c,d,z):=⟨h0,oa,ob,oc,od⟩
  have hw:∀ i j,i<3->j<3->bU (qM a b c d i j):=fun i j hi hj=>by
    have:=(YB hq hi hj).1
    dsimp only at this
    exact⟨by omega,by omega⟩
  have hn:bU (qN a b c d):=by
    have:=(YB hq (i:=0) (j:=0) (by omega) (by omega)).2
    dsimp only at this
    exact⟨by omega,by omega⟩
  refine⟨hq,fun i=>⟨fun h1=>?_,fun h1=>?_⟩⟩
  · obtain⟨i,hi⟩:=i
    have h1:i<3:=by have h1:(i:Int)<3:=h1;omega
    rcases three h1 with rfl|rfl|rfl
    all_goals
      refine fun k=>⟨fun h2=>?_,fun h2=>?_⟩
      · obtain⟨k,hk⟩:=k
        have h2:k<3:=by have h2:(k:Int)<3:=h2;omega
        rcases three h2 with rfl|rfl|rfl
        all_goals
          refine⟨⟨by omega,by omega,by omega,by simp,hq,?_,hn,by omega⟩,by simp,⟨_+1,by omega⟩,by simp only;omega,rfl,rfl⟩
          first|exact hw 0 0 (by omega) (by omega)|exact hw 0 1 (by omega) (by omega)|exact hw 0 2 (by omega) (by omega)|exact hw 1 0 (by omega) (by omega)|exact hw 1 1 (by omega) (by omega)|exact hw 1 2 (by omega) (by omega)|exact hw 2 0 (by omega) (by omega)|exact hw 2 1 (by omega) (by omega)|exact hw 2 2 (by omega) (by omega)
      · have hk:k.1=3:=by have:=k.2;omega
        refine⟨by rw[fZ];omega,⟨_+1,by omega⟩,by simp only;omega,rfl,?_⟩
        rw[hk];rfl
  · have hi:i.1=3:=by have:=i.2;omega
    rw[hi]
    exact(MH _).symm
end Go.Proofs.YtbkocjmmbkifjaaGreat
