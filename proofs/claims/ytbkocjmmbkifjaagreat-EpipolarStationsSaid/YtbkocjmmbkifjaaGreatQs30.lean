/-
  Lemmas for the theorem vstations28_holds, part 30 of 34.
-/
import Derived.Test.YtbkocjmmbkifjaaGreatQs29
namespace Go.Proofs.YtbkocjmmbkifjaaGreat
open Go Go.RowKit
set_option maxRecDepth 100000
set_option maxHeartbeats 4000000
set_option linter.unusedVariables false
set_option linter.unusedSimpArgs false
def zQ (q:aZ):Bool:=decide (q.1=0/\q.2.1=0/\q.2.2.1=0/\q.2.2.2.1=0)
def zS (s:dN):Bool:=zQ s.2.1
def sW (s:dN):Bool:=[s.1.1,s.1.2.1,s.1.2.2.1,s.2.2.2.1.1,s.2.2.2.1.2.1,s.2.1.1,s.2.1.2.1,s.2.1.2.2.1,s.2.1.2.2.2.1].any kT || decide (s.2.2.1<1) || decide (s.2.2.1 > 1048576)
def pG (l:List dN):Int:=bif l.any zS then 1 else bif l.any sW then 2 else 0
def rD:dN:=((0,0,0,()),(0,0,0,0,()),0,(0,0,()),())
noncomputable def c2j:Ctr:=⟨[.list FP],[tI],fun x=>(show List dN from x.1).length<=1000000,fun x=>(pG x.1,())⟩
theorem b4T:aI Tryz.prog 59 c2j:=by
 refine aK (nil0.ad b1w) ⟨[4,6,7],[],[]⟩ Tryz.func59 rfl (by decide) (fun x=>[.inv {k:Nat // k<=(show List dN from x.1).length/\((show List dN from x.1).take k).any zS=false} (fun k=>[(10,.val tI (k.1:Int))]) (fun k=>[]) (fun k=>(show List dN from x.1).length-k.1) ⟨0,by omega,rfl⟩ (fun _=>[]),.inv {k:Nat // k<=(show List dN from x.1).length/\((show List dN from x.1).take k).any sW=false} (fun k=>[(21,.val tI (k.1:Int))]) (fun k=>[]) (fun k=>(show List dN from x.1).length-k.1) ⟨0,by omega,rfl⟩ (fun _=>[])]) (fun x hp=>?_)
 obtain⟨x,u⟩:=x
 change List dN at x
 refine aU ((asT Int 0=0/\True)/\∀ (i:{ k:Nat // k<=List.length x/\List.any (List.take k x) zS=false }),asT Bool true=true/\ifB (decide (aB (aA i)<aB x.length)) ((0<=aB (aA i)/\aB (aA i)<aB x.length/\True)/\ifB (eqD (Ty.pair (Ty.int IntKind.i64) (Ty.pair (Ty.int IntKind.i64) (Ty.pair (Ty.int IntKind.i64) (Ty.pair (Ty.int IntKind.i64) Ty.unit)))) (Prod.fst (List.getD x (aB (aA i)).toNat rD).2.1,Prod.fst (List.getD x (aB (aA i)).toNat rD).2.1.2,Prod.fst (List.getD x (aB (aA i)).toNat rD).2.1.2.2,Prod.fst (List.getD x (aB (aA i)).toNat rD).2.1.2.2.2,()) (0,0,0,0,PUnit.unit)) (True/\1=pG x/\True) (∃ (i':{ k:Nat // k<=List.length x/\List.any (List.take k x) zS=false }),List.length x-aA i'<List.length x-aA i/\IntKind.wrap IntKind.i64 (aB (aA i)+1)=aB (aA i')/\True)) ((asT Int 0=0/\True)/\∀ (i:{ k:Nat // k<=List.length x/\List.any (List.take k x) sW=false }),let aJ:=(List.getD x (aB (aA i)).toNat rD);let A₁:=aJ.2;let dH:=A₁.1.2;let dD:=A₁.2.2.1;let A₀:=(Prod.fst aJ.1::Prod.fst aJ.1.2::Prod.fst aJ.1.2.2::Prod.fst dD::Prod.fst dD.2::Prod.fst A₁.1::Prod.fst dH::Prod.fst dH.2::Prod.fst dH.2.2::aF Int);let aT:=(List.any A₀ kT==false);let eP:=(aT=true->aT=true/\True);let fZ:=(Prod.fst A₁.2<1);let A₂:=(bif List.any A₀ kT then true else decide fZ);let bV:=((A₂==false)=true->(A₂==false)=true/\True);asT Bool true=true/\ifB (decide (aB (aA i)<aB x.length)) ((0<=aB (aA i)/\aB (aA i)<aB x.length/\True)/\(List.length A₀<=1000000/\eP/\eP/\(List.any A₀ kT=false->aT=true)/\bV/\bV/\(A₂=false->(A₂==false)=true)/\True)/\ifB (bif bif List.any A₀ kT then true else decide fZ then true else decide (Prod.fst A₁.2 > 1048576)) (True/\2=pG x/\True) (∃ (i':{ k:Nat // k<=List.length x/\List.any (List.take k x) sW=false }),List.length x-aA i'<List.length x-aA i/\IntKind.wrap IntKind.i64 (aB (aA i)+1)=aB (aA i')/\True)) (True/\0=pG x/\True))) (by kernel_rfl) ?_
 have hZ:(⟨false,0,[],[]⟩:aH)=bF:=rfl
 try simp only[aC,aj,ah]
 try dsimp only[aB,asT,aA,aF,Ty.den,Lf.den] at *
 try simp only[hZ,Int.toNat_natCast,aC,aj,ah,jh,jg,gy,bf]
 try simp only[bT,bP,List.all_cons,List.all_nil,jk,dw,ig,jf,jy,ne_eq,au,bg,dn,eu,jd,oq,jr,ou,jh,jg,iw,bn,List.length_cons,List.length_nil]
 have hp:x.length<=1000000:=hp
 refine fun i=>⟨fun h1=>⟨⟨by omega,h1⟩,fun h=>?_,fun h=>?_⟩,fun h1 j=>⟨fun h2=>⟨⟨by omega,h2⟩,by omega,fun h=>?_,fun h=>?_⟩,fun h2=>?_⟩⟩
 ·have h:zS (x.getD i.1 rD)=true:=(eqQ _).symm.trans h
  unfold pG;rw[BX (p:=zS) (d:=rD) (i:=i.1) (by omega) h];rfl
 ·have h:zS (x.getD i.1 rD)=false:=(eqQ _).symm.trans h
  exact⟨⟨i.1+1,by omega,by rw[lW (d:=rD) (by omega),i.2.2];exact(Bool.false_or _).trans h⟩,by simp only;omega,by rw[aP (by omega) (by omega)];rfl⟩
 ·have h:sW (x.getD j.1 rD)=true:=by
   unfold sW
   rcases h with(h|h)|h<;>rw[h]<;>simp
  have h3:=i.2.2
  rw[jv (by omega)] at h3
  unfold pG;rw[h3,BX (p:=sW) (d:=rD) (i:=j.1) (by omega) h];rfl
 ·have h:sW (x.getD j.1 rD)=false:=by
   unfold sW
   rw[h.1.1,h.1.2,h.2];rfl
  exact⟨⟨j.1+1,by omega,by rw[lW (d:=rD) (by omega),j.2.2];exact(Bool.false_or _).trans h⟩,by simp only;omega,by rw[aP (by omega) (by omega)];rfl⟩
 ·have h3:=i.2.2
  have h4:=j.2.2
  rw[jv (by omega)] at h3 h4
  unfold pG;rw[h3,h4];rfl
theorem a5D:aI Tryz.prog 25 c2j:=by
 refine aK (nil0.ad a2s) ⟨[4,6],[],[]⟩ Tryz.func25 rfl (by decide) (fun x=>[.inv {k:Nat // k<=(show List dN from x.1).length/\((show List dN from x.1).take k).any zS=false} (fun k=>[(9,.val tI (k.1:Int))]) (fun k=>[]) (fun k=>(show List dN from x.1).length-k.1) ⟨0,by omega,rfl⟩ (fun _=>[]),.inv {k:Nat // k<=(show List dN from x.1).length/\((show List dN from x.1).take k).any sW=false} (fun k=>[(20,.val tI (k.1:Int))]) (fun k=>[]) (fun k=>(show List dN from x.1).length-k.1) ⟨0,by omega,rfl⟩ (fun _=>[])]) (fun x hp=>?_)
 obtain⟨x,u⟩:=x
 change List dN at x
 refine aU ((asT Int 0=0/\True)/\∀ (i:{ k:Nat // k<=List.length x/\List.any (List.take k x) zS=false }),asT Bool true=true/\ifB (decide (aB (aA i)<aB x.length)) ((0<=aB (aA i)/\aB (aA i)<aB x.length/\True)/\ifB (eqD (Ty.pair (Ty.int IntKind.i64) (Ty.pair (Ty.int IntKind.i64) (Ty.pair (Ty.int IntKind.i64) (Ty.pair (Ty.int IntKind.i64) Ty.unit)))) (Prod.fst (List.getD x (aB (aA i)).toNat rD).2.1,Prod.fst (List.getD x (aB (aA i)).toNat rD).2.1.2,Prod.fst (List.getD x (aB (aA i)).toNat rD).2.1.2.2,Prod.fst (List.getD x (aB (aA i)).toNat rD).2.1.2.2.2,()) (0,0,0,0,PUnit.unit)) (True/\1=pG x/\True) (∃ (i':{ k:Nat // k<=List.length x/\List.any (List.take k x) zS=false }),List.length x-aA i'<List.length x-aA i/\IntKind.wrap IntKind.i64 (aB (aA i)+1)=aB (aA i')/\True)) ((asT Int 0=0/\True)/\∀ (i:{ k:Nat // k<=List.length x/\List.any (List.take k x) sW=false }),let aJ:=(List.getD x (aB (aA i)).toNat rD);let A₁:=aJ.2;let dH:=A₁.1.2;let dD:=A₁.2.2.1;let A₀:=(Prod.fst aJ.1::Prod.fst aJ.1.2::Prod.fst aJ.1.2.2::Prod.fst dD::Prod.fst dD.2::Prod.fst A₁.1::Prod.fst dH::Prod.fst dH.2::Prod.fst dH.2.2::aF Int);let aT:=(List.any A₀ kT==false);let eP:=(aT=true->aT=true/\True);let fZ:=(Prod.fst A₁.2<1);let A₂:=(bif List.any A₀ kT then true else decide fZ);let bV:=((A₂==false)=true->(A₂==false)=true/\True);asT Bool true=true/\ifB (decide (aB (aA i)<aB x.length)) ((0<=aB (aA i)/\aB (aA i)<aB x.length/\True)/\(List.length A₀<=1000000/\eP/\eP/\(List.any A₀ kT=false->aT=true)/\bV/\bV/\(A₂=false->(A₂==false)=true)/\True)/\ifB (bif bif List.any A₀ kT then true else decide fZ then true else decide (Prod.fst A₁.2 > 1048576)) (True/\2=pG x/\True) (∃ (i':{ k:Nat // k<=List.length x/\List.any (List.take k x) sW=false }),List.length x-aA i'<List.length x-aA i/\IntKind.wrap IntKind.i64 (aB (aA i)+1)=aB (aA i')/\True)) (True/\0=pG x/\True))) (by kernel_rfl) ?_
 have hZ:(⟨false,0,[],[]⟩:aH)=bF:=rfl
 try simp only[aC,aj,ah]
 try dsimp only[aB,asT,aA,aF,Ty.den,Lf.den] at *
 try simp only[hZ,Int.toNat_natCast,aC,aj,ah,jh,jg,gy,bf]
 try simp only[bT,bP,List.all_cons,List.all_nil,jk,dw,ig,jf,jy,ne_eq,au,bg,dn,eu,jd,oq,jr,ou,jh,jg,iw,bn,List.length_cons,List.length_nil]
 have hp:x.length<=1000000:=hp
 refine fun i=>⟨fun h1=>⟨⟨by omega,h1⟩,fun h=>?_,fun h=>?_⟩,fun h1 j=>⟨fun h2=>⟨⟨by omega,h2⟩,by omega,fun h=>?_,fun h=>?_⟩,fun h2=>?_⟩⟩
 ·have h:zS (x.getD i.1 rD)=true:=(eqQ _).symm.trans h
  unfold pG;rw[BX (p:=zS) (d:=rD) (i:=i.1) (by omega) h];rfl
 ·have h:zS (x.getD i.1 rD)=false:=(eqQ _).symm.trans h
  exact⟨⟨i.1+1,by omega,by rw[lW (d:=rD) (by omega),i.2.2];exact(Bool.false_or _).trans h⟩,by simp only;omega,by rw[aP (by omega) (by omega)];rfl⟩
 ·have h:sW (x.getD j.1 rD)=true:=by
   unfold sW
   rcases h with(h|h)|h<;>rw[h]<;>simp
  have h3:=i.2.2
  rw[jv (by omega)] at h3
  unfold pG;rw[h3,BX (p:=sW) (d:=rD) (i:=j.1) (by omega) h];rfl
 ·have h:sW (x.getD j.1 rD)=false:=by
   unfold sW
   rw[h.1.1,h.1.2,h.2];rfl
  exact⟨⟨j.1+1,by omega,by rw[lW (d:=rD) (by omega),j.2.2];exact(Bool.false_or _).trans h⟩,by simp only;omega,by rw[aP (by omega) (by omega)];rfl⟩
 ·have h3:=i.2.2
  have h4:=j.2.2
  rw[jv (by omega)] at h3 h4
  unfold pG;rw[h3,h4];rfl
def a0a (n:Int):Bool:=decide (n > 4096) || decide (n < -4096)
def a2X (s:dN):List Int:=[s.1.1,s.1.2.1,s.1.2.2.1,s.2.2.2.1.1,s.2.2.2.1.2.1,s.2.1.1,s.2.1.2.1,s.2.1.2.2.1,s.2.1.2.2.2.1,s.2.2.1]
def IY (s:dN):Bool:=(pG [s] != 0) || !(a2X s).any a0a
noncomputable def c4k:Ctr:=⟨[FP],[tB],fun x=>True,fun x=>(IY x.1,())⟩
theorem b4h:aI Tryz.prog 12 c4k:=by
 refine aK (nil0.ad a5D) ⟨[],[],[]⟩ Tryz.func12 rfl (by decide) (fun x=>[.inv {k:Nat // k<=10/\((a2X (show dN from x.1)).take k).any a0a=false} (fun k=>[(40,.val tI (k.1:Int))]) (fun k=>[]) (fun k=>10-k.1) ⟨0,by omega,rfl⟩ (fun _=>[])]) (fun x hp=>?_)
 obtain⟨s,u⟩:=x
 change dN at s
 refine aU (let A₁:=(s::aF ((Int × Int × Int × PUnit) × (Int × Int × Int × Int × PUnit) × Int × (Int × Int × PUnit) × PUnit));let A₂:=s.2.1.2;let aJ:=s.2.2.2.1;let A₀:=(asT Int s.1.1::asT Int s.1.2.1::asT Int s.1.2.2.1::asT Int aJ.1::asT Int aJ.2.1::asT Int s.2.1.1::asT Int A₂.1::asT Int A₂.2.1::asT Int A₂.2.2.1::asT Int s.2.2.1::aF Int);let aT:=(True/\true=IY s/\True);(List.length A₁<=1000000/\True)/\ifB (pG A₁ != 0) aT ((asT Int 0=0/\True)/\∀ (i:{ k:Nat // k<=10/\List.any (List.take k (a2X s)) a0a=false }),let bV:=(List.getD A₀ (aB (aA i)).toNat 0 > 4096);asT Bool true=true/\ifB (decide (aB (aA i)<aB A₀.length)) ((0<=aB (aA i)/\aB (aA i)<aB A₀.length/\True)/\(((decide bV==false)=true->(decide bV==false)=true/\True)/\(decide bV=false->(decide bV==false)=true)/\True)/\ifB (bif decide bV then true else decide (List.getD A₀ (aB (aA i)).toNat 0 < -4096)) (True/\false=IY s/\True) (∃ (i':{ k:Nat // k<=10/\List.any (List.take k (a2X s)) a0a=false }),10-aA i'<10-aA i/\IntKind.wrap IntKind.i64 (aB (aA i)+1)=aB (aA i')/\True)) aT)) (by kernel_rfl) ?_
 have hZ:(⟨false,0,[],[]⟩:aH)=bF:=rfl
 try simp only[aC,aj,ah]
 try dsimp only[aB,asT,aA,aF,Ty.den,Lf.den] at *
 try simp only[hZ,Int.toNat_natCast,aC,aj,ah,jh,jg,gy,bf]
 try simp only[bT,bP,List.all_cons,List.all_nil,jk,dw,ig,jf,jy,ne_eq,au,bg,dn,eu,jd,oq,jr,ou,jh,jg,iw,bn,List.length_cons,List.length_nil]
 have hl:(a2X s).length=10:=rfl
 rw[show [s.1.1,s.1.2.1,s.1.2.2.1,s.2.2.2.1.1,s.2.2.2.1.2.1,s.2.1.1,s.2.1.2.1,s.2.1.2.2.1,s.2.1.2.2.2.1,s.2.2.1]=a2X s from rfl]
 refine⟨by omega,fun h=>?_,fun h i=>⟨fun h1=>⟨⟨by omega,h1⟩,fun h2=>ny h2,fun h2=>?_,fun h2=>?_⟩,fun h1=>?_⟩⟩
 ·unfold IY;rw[jy.mpr h];rfl
 ·have h3:a0a ((a2X s).getD i.1 0)=true:=by
   unfold a0a
   rcases h2 with h2|h2<;>rw[h2]<;>simp
  unfold IY;rw[h,BX (p:=a0a) (d:=0) (i:=i.1) (by omega) h3];rfl
 ·have h3:a0a ((a2X s).getD i.1 0)=false:=by unfold a0a;rw[h2.1,h2.2];rfl
  exact⟨⟨i.1+1,by omega,by rw[lW (d:=0) (by omega),i.2.2];exact(Bool.false_or _).trans h3⟩,by simp only;omega,by rw[aP (by omega) (by omega)];rfl⟩
 ·have h3:=i.2.2
  rw[jv (by omega)] at h3
  unfold IY;rw[h,h3];rfl
def qL4 (q:aZ):List Int:=[q.1,q.2.1,q.2.2.1,q.2.2.2.1]
noncomputable def c4t:Ctr:=⟨[yM],[.arr 4 tI],fun x=>True,fun x=>(qL4 x.1,())⟩
noncomputable def c4s:Ctr:=⟨[yM],[.list tI],fun x=>True,fun x=>(qL4 x.1,())⟩
noncomputable def b5L:Ctr:=⟨[yM],[tI],fun x=>qOk x.1,fun x=>((0:Int),())⟩
noncomputable def c2b:Ctr:=⟨[yM],[tI],fun x=>qOk x.1,fun x=>(qN x.1.1 x.1.2.1 x.1.2.2.1 x.1.2.2.2.1,())⟩
theorem b4S:aI Tryz.prog 228 c4t:=by
 refine aK Lib.nil ⟨[2],[],[]⟩ Tryz.func228 rfl (by decide) (fun x=>[]) (fun x hp=>?_)
 obtain⟨q,u⟩:=x
 change aZ at q
 refine aU (True/\asT Int q.1::asT Int q.2.1::asT Int q.2.2.1::asT Int q.2.2.2.1::aF Int=qL4 q/\True) (by kernel_rfl) ?_
 have hZ:(⟨false,0,[],[]⟩:aH)=bF:=rfl
 try simp only[aC,aj,ah]
 try dsimp only[aB,asT,aA,aF,Ty.den,Lf.den] at *
 try simp only[hZ,Int.toNat_natCast,aC,aj,ah,jh,jg,gy,bf]
 try simp only[bT,bP,List.all_cons,List.all_nil,jk,dw,ig,jf,jy,ne_eq,au,bg,dn,eu,jd,oq,jr,ou,jh,jg,iw,bn,List.length_cons,List.length_nil]
 rfl
theorem b4Q:aI Tryz.prog 208 c4s:=by
 refine aK Lib.nil ⟨[],[],[]⟩ Tryz.func208 rfl (by decide) (fun x=>[]) (fun x hp=>?_)
 obtain⟨q,u⟩:=x
 change aZ at q
 refine aU (True/\asT Int q.1::asT Int q.2.1::asT Int q.2.2.1::asT Int q.2.2.2.1::aF Int=qL4 q/\True) (by kernel_rfl) ?_
 have hZ:(⟨false,0,[],[]⟩:aH)=bF:=rfl
 try simp only[aC,aj,ah]
 try dsimp only[aB,asT,aA,aF,Ty.den,Lf.den] at *
 try simp only[hZ,Int.toNat_natCast,aC,aj,ah,jh,jg,gy,bf]
 try simp only[bT,bP,List.all_cons,List.all_nil,jk,dw,ig,jf,jy,ne_eq,au,bg,dn,eu,jd,oq,jr,ou,jh,jg,iw,bn,List.length_cons,List.length_nil]
 rfl
theorem b4u:aI Tryz.prog 148 c2b:=by
 refine aK Lib.nil ⟨[],[],[]⟩ Tryz.func148 rfl (by decide) (fun x=>[]) (fun x hp=>?_)
 obtain⟨q,u⟩:=x
 change aZ at q
 refine aU (True/\IntKind.wrap IntKind.i64 (IntKind.wrap IntKind.i64 (IntKind.wrap IntKind.i64 (IntKind.wrap IntKind.i64 (asT Int q.1*asT Int q.1)+IntKind.wrap IntKind.i64 (asT Int q.2.1*asT Int q.2.1))+IntKind.wrap IntKind.i64 (asT Int q.2.2.1*asT Int q.2.2.1))+IntKind.wrap IntKind.i64 (asT Int q.2.2.2.1*asT Int q.2.2.2.1))=qN (asT Int q.1) (asT Int q.2.1) (asT Int q.2.2.1) (asT Int q.2.2.2.1)/\True) (by kernel_rfl) ?_
 have hZ:(⟨false,0,[],[]⟩:aH)=bF:=rfl
 try simp only[aC,aj,ah]
 try dsimp only[aB,asT,aA,aF,Ty.den,Lf.den] at *
 try simp only[hZ,Int.toNat_natCast,aC,aj,ah,jh,jg,gy,bf]
 try simp only[bT,bP,List.all_cons,List.all_nil,jk,dw,ig,jf,jy,ne_eq,au,bg,dn,eu,jd,oq,jr,ou,jh,jg,iw,bn,List.length_cons,List.length_nil]
 obtain⟨h0,ha,hb,hc,hd⟩:qOk q:=hp
 have aa:=ha.mul ha
 have bb:=hb.mul hb
 have cc:=hc.mul hc
 have dd:=hd.mul hd
 rw[aP (n:=q.1*q.1) (by omega) (by omega),aP (n:=q.2.1*q.2.1) (by omega) (by omega),aP (n:=q.2.2.1*q.2.2.1) (by omega) (by omega),aP (n:=q.2.2.2.1*q.2.2.2.1) (by omega) (by omega),aP (n:=q.1*q.1+q.2.1*q.2.1) (by omega) (by omega),aP (n:=q.1*q.1+q.2.1*q.2.1+q.2.2.1*q.2.2.1) (by omega) (by omega),aP (by omega) (by omega)]
 rfl
theorem b4v:aI Tryz.prog 113 c2b:=by
 refine aK Lib.nil ⟨[],[],[]⟩ Tryz.func113 rfl (by decide) (fun x=>[]) (fun x hp=>?_)
 obtain⟨q,u⟩:=x
 change aZ at q
 refine aU (True/\IntKind.wrap IntKind.i64 (IntKind.wrap IntKind.i64 (IntKind.wrap IntKind.i64 (IntKind.wrap IntKind.i64 (asT Int q.1*asT Int q.1)+IntKind.wrap IntKind.i64 (asT Int q.2.1*asT Int q.2.1))+IntKind.wrap IntKind.i64 (asT Int q.2.2.1*asT Int q.2.2.1))+IntKind.wrap IntKind.i64 (asT Int q.2.2.2.1*asT Int q.2.2.2.1))=qN (asT Int q.1) (asT Int q.2.1) (asT Int q.2.2.1) (asT Int q.2.2.2.1)/\True) (by kernel_rfl) ?_
 have hZ:(⟨false,0,[],[]⟩:aH)=bF:=rfl
 try simp only[aC,aj,ah]
 try dsimp only[aB,asT,aA,aF,Ty.den,Lf.den] at *
 try simp only[hZ,Int.toNat_natCast,aC,aj,ah,jh,jg,gy,bf]
 try simp only[bT,bP,List.all_cons,List.all_nil,jk,dw,ig,jf,jy,ne_eq,au,bg,dn,eu,jd,oq,jr,ou,jh,jg,iw,bn,List.length_cons,List.length_nil]
 obtain⟨h0,ha,hb,hc,hd⟩:qOk q:=hp
 have aa:=ha.mul ha
 have bb:=hb.mul hb
 have cc:=hc.mul hc
 have dd:=hd.mul hd
 rw[aP (n:=q.1*q.1) (by omega) (by omega),aP (n:=q.2.1*q.2.1) (by omega) (by omega),aP (n:=q.2.2.1*q.2.2.1) (by omega) (by omega),aP (n:=q.2.2.2.1*q.2.2.2.1) (by omega) (by omega),aP (n:=q.1*q.1+q.2.1*q.2.1) (by omega) (by omega),aP (n:=q.1*q.1+q.2.1*q.2.1+q.2.2.1*q.2.2.1) (by omega) (by omega),aP (by omega) (by omega)]
 rfl
theorem b4Z:aI Tryz.prog 146 b5L:=by
 refine aK (nil0.ad b4S) ⟨[],[],[]⟩ Tryz.func146 rfl (by decide) (fun x=>[.rounds 5 [10] []]) (fun x hp=>?_)
 obtain⟨q,u⟩:=x
 change aZ at q
 refine aU (let A₂:=(asT Int q.2.1 < -1048576);let aJ:=(asT Int q.1 < -1048576);let aT:=(True/\asT Int 3=0/\True);let bV:=q.2.2;let A₀:=(asT Int bV.2.1 < -1048576);let A₁:=(asT Int bV.1 < -1048576);ifB (eqD (Ty.pair (Ty.int IntKind.i64) (Ty.pair (Ty.int IntKind.i64) (Ty.pair (Ty.int IntKind.i64) (Ty.pair (Ty.int IntKind.i64) Ty.unit)))) q (0,0,0,0,PUnit.unit)) (True/\asT Int 1=0/\True) ((True/\True)/\(asT Int 0<=0/\asT Int 0<4/\True)/\(((decide aJ==false)=true->(decide aJ==false)=true/\True)/\(decide aJ=false->(decide aJ==false)=true)/\True)/\ifB (bif decide aJ then true else decide (asT Int q.1 > 1048576)) aT ((asT Int 0<=1/\asT Int 1<4/\True)/\(((decide A₂==false)=true->(decide A₂==false)=true/\True)/\(decide A₂=false->(decide A₂==false)=true)/\True)/\ifB (bif decide A₂ then true else decide (asT Int q.2.1 > 1048576)) aT ((asT Int 0<=2/\asT Int 2<4/\True)/\(((decide A₁==false)=true->(decide A₁==false)=true/\True)/\(decide A₁=false->(decide A₁==false)=true)/\True)/\ifB (bif decide A₁ then true else decide (asT Int bV.1 > 1048576)) aT ((asT Int 0<=3/\asT Int 3<4/\True)/\(((decide A₀==false)=true->(decide A₀==false)=true/\True)/\(decide A₀=false->(decide A₀==false)=true)/\True)/\ifB (bif decide A₀ then true else decide (asT Int bV.2.1 > 1048576)) aT (True/\asT Int 0=0/\True)))))) (by kernel_rfl) ?_
 have hZ:(⟨false,0,[],[]⟩:aH)=bF:=rfl
 try simp only[aC,aj,ah]
 try dsimp only[aB,asT,aA,aF,Ty.den,Lf.den] at *
 try simp only[hZ,Int.toNat_natCast,aC,aj,ah,jh,jg,gy,bf]
 try simp only[bT,bP,List.all_cons,List.all_nil,jk,dw,ig,jf,jy,ne_eq,au,bg,dn,eu,jd,oq,jr,ou,jh,jg,iw,bn,List.length_cons,List.length_nil]
 obtain⟨a,b,c,d,z⟩:=q
 obtain⟨h0,⟨a1,a2⟩,⟨b1,b2⟩,⟨c1,c2⟩,d1,d2⟩:qOk (a,b,c,d,z):=hp
 dsimp only at *
 have e1:decide (a < -1048576)=false:=ny (by omega)
 have e2:decide (a > 1048576)=false:=ny (by omega)
 have e3:decide (b < -1048576)=false:=ny (by omega)
 have e4:decide (b > 1048576)=false:=ny (by omega)
 have e5:decide (c < -1048576)=false:=ny (by omega)
 have e6:decide (c > 1048576)=false:=ny (by omega)
 have e7:decide (d < -1048576)=false:=ny (by omega)
 have e8:decide (d > 1048576)=false:=ny (by omega)
 rw[e1,e2,e3,e4,e5,e6,e7,e8]
 refine⟨fun h=>?_,fun _=>by simp⟩
 have h:decide (a=0/\b=0/\c=0/\d=0)=true:=(eqQ (a,b,c,d,z)).symm.trans h
 exact absurd (qw h) h0
theorem b5a:aI Tryz.prog 111 b5L:=by
 refine aK (nil0.ad b4Q) ⟨[],[],[]⟩ Tryz.func111 rfl (by decide) (fun x=>[.rounds 5 [4] []]) (fun x hp=>?_)
 obtain⟨q,u⟩:=x
 change aZ at q
 refine aU (let dD:=q.2.2;let eP:=q.2.1;let A₁:=(bif bif asT Int q.1==0 then asT Int eP==0 else false then asT Int dD.1==0 else false);let bV:=(bif asT Int q.1==0 then asT Int eP==0 else false);let fZ:=((asT Int q.1==0)==true);let dU:=dD.2.1;let A₀:=(asT Int q.1::asT Int eP::asT Int dD.1::asT Int dU::aF Int).length;let gX:=(True/\asT Int 3=0/\True);let iZ:=(asT Int dD.1 > 1048576);let aJ:=(decide iZ==false);let jO:=(asT Int q.1 > 1048576);let dH:=(decide jO==false);let kL:=((bV==true)=true->(bV==true)=true/\True);let oW:=((A₁==true)=true->(A₁==true)=true/\True);let nU:=(asT Int eP > 1048576);let aT:=(decide nU==false);let rE:=(asT Int dU > 1048576);let A₂:=(decide rE==false);let fK:=(fZ=true->fZ=true/\True);let uM:=(dH=true->dH=true/\True);let uN:=(aT=true->aT=true/\True);let C₁:=(aJ=true->aJ=true/\True);let C₂:=(A₂=true->A₂=true/\True);(fK/\fK/\((asT Int q.1==0)=true->fZ=true)/\kL/\kL/\(bV=true->(bV==true)=true)/\oW/\oW/\(A₁=true->(A₁==true)=true)/\True)/\ifB (bif bif bif asT Int q.1==0 then asT Int eP==0 else false then asT Int dD.1==0 else false then asT Int dU==0 else false) (True/\asT Int 1=0/\True) ((True/\True)/\(asT Int 0<=0/\0<aB A₀/\(dH=true->dH=true/\dH=true/\asT Int 0<=0/\0<aB A₀/\True)/\uM/\uM/\(decide jO=false->dH=true)/\True)/\ifB (bif decide jO then true else decide (asT Int q.1 < -1048576)) gX ((asT Int 0<=1/\1<aB A₀/\(aT=true->aT=true/\aT=true/\asT Int 0<=1/\1<aB A₀/\True)/\uN/\uN/\(decide nU=false->aT=true)/\True)/\ifB (bif decide nU then true else decide (asT Int eP < -1048576)) gX ((asT Int 0<=2/\2<aB A₀/\(aJ=true->aJ=true/\aJ=true/\asT Int 0<=2/\2<aB A₀/\True)/\C₁/\C₁/\(decide iZ=false->aJ=true)/\True)/\ifB (bif decide iZ then true else decide (asT Int dD.1 < -1048576)) gX ((asT Int 0<=3/\3<aB A₀/\(A₂=true->A₂=true/\A₂=true/\asT Int 0<=3/\3<aB A₀/\True)/\C₂/\C₂/\(decide rE=false->A₂=true)/\True)/\ifB (bif decide rE then true else decide (asT Int dU < -1048576)) gX (True/\asT Int 0=0/\True)))))) (by kernel_rfl) ?_
 have hZ:(⟨false,0,[],[]⟩:aH)=bF:=rfl
 try simp only[aC,aj,ah]
 try dsimp only[aB,asT,aA,aF,Ty.den,Lf.den] at *
 try simp only[hZ,Int.toNat_natCast,aC,aj,ah,jh,jg,gy,bf]
 try simp only[bT,bP,List.all_cons,List.all_nil,jk,dw,ig,jf,jy,ne_eq,au,bg,dn,eu,jd,oq,jr,ou,jh,jg,iw,bn,List.length_cons,List.length_nil]
 obtain⟨a,b,c,d,z⟩:=q
 obtain⟨h0,⟨a1,a2⟩,⟨b1,b2⟩,⟨c1,c2⟩,d1,d2⟩:qOk (a,b,c,d,z):=hp
 dsimp only at *
 have e1:decide (a < -1048576)=false:=ny (by omega)
 have e2:decide (a > 1048576)=false:=ny (by omega)
 have e3:decide (b < -1048576)=false:=ny (by omega)
 have e4:decide (b > 1048576)=false:=ny (by omega)
 have e5:decide (c < -1048576)=false:=ny (by omega)
 have e6:decide (c > 1048576)=false:=ny (by omega)
 have e7:decide (d < -1048576)=false:=ny (by omega)
 have e8:decide (d > 1048576)=false:=ny (by omega)
 rw[e1,e2,e3,e4,e5,e6,e7,e8]
 simp
 omega
noncomputable def b6L:Ctr:=⟨[yM],[tM,tI],fun x=>qOk x.1,fun x=>(qMx x.1,(0:Int),())⟩
theorem b4n:aI Tryz.prog 61 b6L:=by
  refine aK (((nil0.ad b4Z).ad b4u).ad a5p) ⟨[9,12,16],[],[]⟩ Tryz.func61 rfl (by decide) (fun x=>[.inv {k:Nat // k<=3} (fun i=>[(129,.val tI (i.1:Int)),(10,.own 10 0)]) (fun i=>[(9,.box [⟨tI,qM (show aZ from x.1).1 (show aZ from x.1).2.1 (show aZ from x.1).2.2.1 (show aZ from x.1).2.2.2.1 0 0⟩,⟨tI,qM (show aZ from x.1).1 (show aZ from x.1).2.1 (show aZ from x.1).2.2.1 (show aZ from x.1).2.2.2.1 0 1⟩,⟨tI,qM (show aZ from x.1).1 (show aZ from x.1).2.1 (show aZ from x.1).2.2.1 (show aZ from x.1).2.2.2.1 0 2⟩,⟨tI,qM (show aZ from x.1).1 (show aZ from x.1).2.1 (show aZ from x.1).2.2.1 (show aZ from x.1).2.2.2.1 1 0⟩,⟨tI,qM (show aZ from x.1).1 (show aZ from x.1).2.1 (show aZ from x.1).2.2.1 (show aZ from x.1).2.2.2.1 1 1⟩,⟨tI,qM (show aZ from x.1).1 (show aZ from x.1).2.1 (show aZ from x.1).2.2.1 (show aZ from x.1).2.2.2.1 1 2⟩,⟨tI,qM (show aZ from x.1).1 (show aZ from x.1).2.1 (show aZ from x.1).2.2.1 (show aZ from x.1).2.2.2.1 2 0⟩,⟨tI,qM (show aZ from x.1).1 (show aZ from x.1).2.1 (show aZ from x.1).2.2.1 (show aZ from x.1).2.2.2.1 2 1⟩,⟨tI,qM (show aZ from x.1).1 (show aZ from x.1).2.1 (show aZ from x.1).2.2.1 (show aZ from x.1).2.2.2.1 2 2⟩]),(10,.row 39 (.list tQ) (tab i.1 3 (qE (show aZ from x.1))) 0)]) (fun i=>3-i.1) ⟨0,by omega⟩ (fun i=>[
   .inv {k:Nat // k<=3} (fun j=>[(133,.val tI (j.1:Int)),(13,.own 13 0)]) (fun j=>[(9,.box [⟨tI,qM (show aZ from x.1).1 (show aZ from x.1).2.1 (show aZ from x.1).2.2.1 (show aZ from x.1).2.2.2.1 0 0⟩,⟨tI,qM (show aZ from x.1).1 (show aZ from x.1).2.1 (show aZ from x.1).2.2.1 (show aZ from x.1).2.2.2.1 0 1⟩,⟨tI,qM (show aZ from x.1).1 (show aZ from x.1).2.1 (show aZ from x.1).2.2.1 (show aZ from x.1).2.2.2.1 0 2⟩,⟨tI,qM (show aZ from x.1).1 (show aZ from x.1).2.1 (show aZ from x.1).2.2.1 (show aZ from x.1).2.2.2.1 1 0⟩,⟨tI,qM (show aZ from x.1).1 (show aZ from x.1).2.1 (show aZ from x.1).2.2.1 (show aZ from x.1).2.2.2.1 1 1⟩,⟨tI,qM (show aZ from x.1).1 (show aZ from x.1).2.1 (show aZ from x.1).2.2.1 (show aZ from x.1).2.2.2.1 1 2⟩,⟨tI,qM (show aZ from x.1).1 (show aZ from x.1).2.1 (show aZ from x.1).2.2.1 (show aZ from x.1).2.2.2.1 2 0⟩,⟨tI,qM (show aZ from x.1).1 (show aZ from x.1).2.1 (show aZ from x.1).2.2.1 (show aZ from x.1).2.2.2.1 2 1⟩,⟨tI,qM (show aZ from x.1).1 (show aZ from x.1).2.1 (show aZ from x.1).2.2.1 (show aZ from x.1).2.2.2.1 2 2⟩]),(10,.row 39 (.list tQ) (tab i.1 3 (qE (show aZ from x.1))) 0),(12,.box [⟨tI,qM (show aZ from x.1).1 (show aZ from x.1).2.1 (show aZ from x.1).2.2.1 (show aZ from x.1).2.2.2.1 i.1 0⟩,⟨tI,qM (show aZ from x.1).1 (show aZ from x.1).2.1 (show aZ from x.1).2.2.1 (show aZ from x.1).2.2.2.1 i.1 1⟩,⟨tI,qM (show aZ from x.1).1 (show aZ from x.1).2.1 (show aZ from x.1).2.2.1 (show aZ from x.1).2.2.2.1 i.1 2⟩]),(13,.row 47 tQ ((List.range j.1).map (qE (show aZ from x.1) i.1)) 0)]) (fun j=>3-j.1) ⟨0,by omega⟩ (fun _=>[])])]) (fun x hp=>?_)
  obtain⟨q,u⟩:=x
  change aZ at q
  refine aU (let A₁:=q.2.2.2.1;let aT:=(asT Int q.1);let bV:=q.2.2.1;let A₂:=(asT Int bV);let dD:=q.2.1;let aJ:=(asT Int dD);let fZ:=(0::List.replicate 2 0);let fK:=(qN aT aJ A₂ (asT Int A₁));let uM:=(asT Int bV*asT Int bV);let uN:=(asT Int A₁*asT Int A₁);let C₁:=(asT Int q.1*asT Int q.1);let dH:=(IntKind.wrap IntKind.i64 C₁-IntKind.wrap IntKind.i64 (asT Int dD*asT Int dD));let eP:=(IntKind.wrap IntKind.i64 (IntKind.wrap IntKind.i64 (IntKind.wrap IntKind.i64 C₁+IntKind.wrap IntKind.i64 (asT Int dD*asT Int dD))-IntKind.wrap IntKind.i64 uM)-IntKind.wrap IntKind.i64 uN);let dU:=(IntKind.wrap IntKind.i64 (IntKind.wrap IntKind.i64 dH+IntKind.wrap IntKind.i64 uM)-IntKind.wrap IntKind.i64 uN);let gX:=(IntKind.wrap IntKind.i64 (IntKind.wrap IntKind.i64 dH-IntKind.wrap IntKind.i64 uM)+IntKind.wrap IntKind.i64 uN);let C₂:=(asT Int q.1*asT Int A₁);let iZ:=(2*IntKind.wrap IntKind.i64 (IntKind.wrap IntKind.i64 (asT Int dD*asT Int bV)-IntKind.wrap IntKind.i64 C₂));let kL:=(2*IntKind.wrap IntKind.i64 (IntKind.wrap IntKind.i64 (asT Int dD*asT Int bV)+IntKind.wrap IntKind.i64 C₂));let C₃:=(asT Int q.1*asT Int bV);let jO:=(2*IntKind.wrap IntKind.i64 (IntKind.wrap IntKind.i64 (asT Int dD*asT Int A₁)+IntKind.wrap IntKind.i64 C₃));let nU:=(2*IntKind.wrap IntKind.i64 (IntKind.wrap IntKind.i64 (asT Int dD*asT Int A₁)-IntKind.wrap IntKind.i64 C₃));let jD:=(asT Int q.1*asT Int dD);let oW:=(2*IntKind.wrap IntKind.i64 (IntKind.wrap IntKind.i64 (asT Int bV*asT Int A₁)-IntKind.wrap IntKind.i64 jD));let rE:=(2*IntKind.wrap IntKind.i64 (IntKind.wrap IntKind.i64 (asT Int bV*asT Int A₁)+IntKind.wrap IntKind.i64 jD));let A₀:=((IntKind.wrap IntKind.i64 eP::IntKind.wrap IntKind.i64 iZ::IntKind.wrap IntKind.i64 jO::aF Int)::(IntKind.wrap IntKind.i64 kL::IntKind.wrap IntKind.i64 dU::IntKind.wrap IntKind.i64 oW::aF Int)::(IntKind.wrap IntKind.i64 nU::IntKind.wrap IntKind.i64 rE::IntKind.wrap IntKind.i64 gX::aF Int)::aF (List Int));(qOk q/\True)/\(asT Int 0=0/\(True/\asT (List (List Rat)) (aF (List Rat))=aF (List Rat))/\IntKind.wrap IntKind.i64 eP=qM aT aJ A₂ (asT Int A₁) 0 0/\IntKind.wrap IntKind.i64 iZ=qM aT aJ A₂ (asT Int A₁) 0 1/\IntKind.wrap IntKind.i64 jO=qM aT aJ A₂ (asT Int A₁) 0 2/\IntKind.wrap IntKind.i64 kL=qM aT aJ A₂ (asT Int A₁) 1 0/\IntKind.wrap IntKind.i64 dU=qM aT aJ A₂ (asT Int A₁) 1 1/\IntKind.wrap IntKind.i64 oW=qM aT aJ A₂ (asT Int A₁) 1 2/\IntKind.wrap IntKind.i64 nU=qM aT aJ A₂ (asT Int A₁) 2 0/\IntKind.wrap IntKind.i64 rE=qM aT aJ A₂ (asT Int A₁) 2 1/\IntKind.wrap IntKind.i64 gX=qM aT aJ A₂ (asT Int A₁) 2 2/\(asT (List (List Rat)) (aF (List Rat))=aF (List Rat)/\0=0/\asT Bool true=true)/\True)/\∀ (i:{ k:Nat // k<=3 }),let gV:=(List.getD A₀ (aB (aA i)).toNat fZ);let rF:=(List.getD gV 0 0::List.getD gV (0+1) 0::List.getD gV (0+1+1) 0::aF Int);asT Bool true=true/\ifB (decide (aB (aA i)<3)) ((0<=aB (aA i)/\aB (aA i)<3/\True)/\(asT Int 0=0/\(True/\asT (List Rat) (aF Rat)=aF Rat)/\qM aT aJ A₂ (asT Int A₁) 0 0=qM aT aJ A₂ (asT Int A₁) 0 0/\qM aT aJ A₂ (asT Int A₁) 0 1=qM aT aJ A₂ (asT Int A₁) 0 1/\qM aT aJ A₂ (asT Int A₁) 0 2=qM aT aJ A₂ (asT Int A₁) 0 2/\qM aT aJ A₂ (asT Int A₁) 1 0=qM aT aJ A₂ (asT Int A₁) 1 0/\qM aT aJ A₂ (asT Int A₁) 1 1=qM aT aJ A₂ (asT Int A₁) 1 1/\qM aT aJ A₂ (asT Int A₁) 1 2=qM aT aJ A₂ (asT Int A₁) 1 2/\qM aT aJ A₂ (asT Int A₁) 2 0=qM aT aJ A₂ (asT Int A₁) 2 0/\qM aT aJ A₂ (asT Int A₁) 2 1=qM aT aJ A₂ (asT Int A₁) 2 1/\qM aT aJ A₂ (asT Int A₁) 2 2=qM aT aJ A₂ (asT Int A₁) 2 2/\tab (aA i) 3 (qE q)=tab (aA i) 3 (qE q)/\List.getD gV 0 0=qM aT aJ A₂ (asT Int A₁) (aA i) 0/\List.getD gV (0+1) 0=qM aT aJ A₂ (asT Int A₁) (aA i) 1/\List.getD gV (0+1+1) 0=qM aT aJ A₂ (asT Int A₁) (aA i) 2/\(asT (List Rat) (aF Rat)=aF Rat/\0=0/\asT Bool true=true)/\True)/\∀ (i_1:{ k:Nat // k<=3 }),let wS:=(List.getD rF (aB (aA i_1)).toNat 0);let yN:=(List.range (aA i_1));asT Bool true=true/\ifB (decide (aB (aA i_1)<3)) ((0<=aB (aA i_1)/\aB (aA i_1)<3/\True)/\(qOk q/\(aX wS/\aX fK/\qN aT aJ A₂ (asT Int A₁)≠0)/\True)/\(List.length (List.map (qE q (aA i)) yN)+List.length (Rat.divInt wS fK::aF Rat)<=1000000000/\True)/\∃ (i':{ k:Nat // k<=3 }),3-aA i'<3-aA i_1/\IntKind.wrap IntKind.i64 (aB (aA i_1)+1)=aB (aA i')/\qM aT aJ A₂ (asT Int A₁) 0 0=qM aT aJ A₂ (asT Int A₁) 0 0/\qM aT aJ A₂ (asT Int A₁) 0 1=qM aT aJ A₂ (asT Int A₁) 0 1/\qM aT aJ A₂ (asT Int A₁) 0 2=qM aT aJ A₂ (asT Int A₁) 0 2/\qM aT aJ A₂ (asT Int A₁) 1 0=qM aT aJ A₂ (asT Int A₁) 1 0/\qM aT aJ A₂ (asT Int A₁) 1 1=qM aT aJ A₂ (asT Int A₁) 1 1/\qM aT aJ A₂ (asT Int A₁) 1 2=qM aT aJ A₂ (asT Int A₁) 1 2/\qM aT aJ A₂ (asT Int A₁) 2 0=qM aT aJ A₂ (asT Int A₁) 2 0/\qM aT aJ A₂ (asT Int A₁) 2 1=qM aT aJ A₂ (asT Int A₁) 2 1/\qM aT aJ A₂ (asT Int A₁) 2 2=qM aT aJ A₂ (asT Int A₁) 2 2/\tab (aA i) 3 (qE q)=tab (aA i) 3 (qE q)/\qM aT aJ A₂ (asT Int A₁) (aA i) 0=qM aT aJ A₂ (asT Int A₁) (aA i) 0/\qM aT aJ A₂ (asT Int A₁) (aA i) 1=qM aT aJ A₂ (asT Int A₁) (aA i) 1/\qM aT aJ A₂ (asT Int A₁) (aA i) 2=qM aT aJ A₂ (asT Int A₁) (aA i) 2/\List.map (qE q (aA i)) yN++Rat.divInt wS fK::aF Rat=List.map (qE q (aA i)) (List.range (aA i'))/\True) ((List.length (tab (aA i) 3 (qE q))+List.length (List.map (qE q (aA i)) yN::aF (List Rat))<=1000000000/\True)/\∃ (i':{ k:Nat // k<=3 }),3-aA i'<3-aA i/\IntKind.wrap IntKind.i64 (aB (aA i)+1)=aB (aA i')/\qM aT aJ A₂ (asT Int A₁) 0 0=qM aT aJ A₂ (asT Int A₁) 0 0/\qM aT aJ A₂ (asT Int A₁) 0 1=qM aT aJ A₂ (asT Int A₁) 0 1/\qM aT aJ A₂ (asT Int A₁) 0 2=qM aT aJ A₂ (asT Int A₁) 0 2/\qM aT aJ A₂ (asT Int A₁) 1 0=qM aT aJ A₂ (asT Int A₁) 1 0/\qM aT aJ A₂ (asT Int A₁) 1 1=qM aT aJ A₂ (asT Int A₁) 1 1/\qM aT aJ A₂ (asT Int A₁) 1 2=qM aT aJ A₂ (asT Int A₁) 1 2/\qM aT aJ A₂ (asT Int A₁) 2 0=qM aT aJ A₂ (asT Int A₁) 2 0/\qM aT aJ A₂ (asT Int A₁) 2 1=qM aT aJ A₂ (asT Int A₁) 2 1/\qM aT aJ A₂ (asT Int A₁) 2 2=qM aT aJ A₂ (asT Int A₁) 2 2/\tab (aA i) 3 (qE q)++List.map (qE q (aA i)) yN::aF (List Rat)=tab (aA i') 3 (qE q)/\True)) (True/\tab (aA i) 3 (qE q)=qMx q/\True/\asT Int 0=0/\True)) (by kernel_rfl) ?_
  have hZ:(⟨false,0,[],[]⟩:aH)=bF:=rfl
  try simp only[aC,aj,ah]
  try dsimp only[aB,asT,aA,aF,Ty.den,Lf.den] at *
  try simp only[hZ,Int.toNat_natCast,aC,aj,ah,jh,jg,gy,bf]
  try simp only[bT,bP,List.all_cons,List.all_nil,jk,dw,ig,jf,jy,ne_eq,au,bg,dn,eu,jd,oq,jr,ou,jh,jg,iw,bn,List.length_cons,List.length_nil]
  obtain⟨a,b,c,d,z⟩:=q
  obtain⟨h0,oa,ob,oc,od⟩:qOk (a,b,c,d,z):=hp
  dsimp only at *
  have hN:=MB h0
  have maa:=oa.nV oa
  have mab:=oa.nV ob
  have mac:=oa.nV oc
  have mad:=oa.nV od
  have mbb:=ob.nV ob
  have mbc:=ob.nV oc
  have mbd:=ob.nV od
  have mcc:=oc.nV oc
  have mcd:=oc.nV od
  have mdd:=od.nV od
  simp(disch:=omega) only[aP]
  have hq:qOk (a,b,c,d,z):=⟨h0,oa,ob,oc,od⟩
  have hw:∀ i j,i<3->j<3->aX (qM a b c d i j):=fun i j hi hj=>by
    have:=(YM hq hi hj).1
    dsimp only at this
    exact⟨by omega,by omega⟩
  have hn:aX (qN a b c d):=by
    have:=(YM hq (i:=0) (j:=0) (by omega) (by omega)).2
    dsimp only at this
    exact⟨by omega,by omega⟩
  refine⟨hq,(by and_intros<;>rfl),fun i=>⟨fun h1=>?_,fun h1=>?_⟩⟩
  · obtain⟨i,hi⟩:=i
    have h1:i<3:=by have h1:(i:Int)<3:=h1;omega
    rcases three h1 with rfl|rfl|rfl
    all_goals
      refine⟨⟨by omega,by omega⟩,⟨rfl,rfl,rfl⟩,fun k=>⟨fun h2=>?_,fun h2=>?_⟩⟩
      · obtain⟨k,hk⟩:=k
        have h2:k<3:=by have h2:(k:Int)<3:=h2;omega
        rcases three h2 with rfl|rfl|rfl
        all_goals
          refine⟨⟨by omega,by omega⟩,⟨hq,?_,hn,by omega⟩,by simp,⟨_+1,by omega⟩,by simp only;omega,rfl,rfl⟩
          first|exact hw 0 0 (by omega) (by omega)|exact hw 0 1 (by omega) (by omega)|exact hw 0 2 (by omega) (by omega)|exact hw 1 0 (by omega) (by omega)|exact hw 1 1 (by omega) (by omega)|exact hw 1 2 (by omega) (by omega)|exact hw 2 0 (by omega) (by omega)|exact hw 2 1 (by omega) (by omega)|exact hw 2 2 (by omega) (by omega)
      · have hk:k.1=3:=by have:=k.2;omega
        refine⟨by rw[eY];omega,⟨_+1,by omega⟩,by simp only;omega,rfl,?_⟩
        rw[hk];rfl
  · have hi:i.1=3:=by have:=i.2;omega
    rw[hi]
    exact(LY _).symm
theorem a5K:aI Tryz.prog 29 b6L:=by
  refine aK (((nil0.ad b5a).ad b4v).ad b5m) ⟨[14],[],[]⟩ Tryz.func29 rfl (by decide) (fun x=>[.inv {k:Nat // k<=3} (fun i=>[(11,.val tI (i.1:Int)),(10,.own 126 0),(126,.any)]) (fun i=>[(126,.row 39 (.list tQ) (tab i.1 3 (qE (show aZ from x.1))) 0)]) (fun i=>3-i.1) ⟨0,by omega⟩ (fun i=>[
   .inv {k:Nat // k<=3} (fun j=>[(13,.val tI (j.1:Int)),(12,.own 131 0),(131,.any)]) (fun j=>[(126,.row 39 (.list tQ) (tab i.1 3 (qE (show aZ from x.1))) 0),(131,.row 47 tQ ((List.range j.1).map (qE (show aZ from x.1) i.1)) 0)]) (fun j=>3-j.1) ⟨0,by omega⟩ (fun _=>[])])]) (fun x hp=>?_)
  obtain⟨q,u⟩:=x
  change aZ at q
  refine aU (let A₁:=q.2.2.2.1;let A₂:=q.2.2.1;let aJ:=q.2.1;let aT:=(qN (asT Int q.1) (asT Int aJ) (asT Int A₂) (asT Int A₁));let dH:=(asT Int A₂*asT Int A₂);let dD:=(asT Int A₁*asT Int A₁);let eP:=(asT Int q.1*asT Int q.1);let bV:=(IntKind.wrap IntKind.i64 eP-IntKind.wrap IntKind.i64 (asT Int aJ*asT Int aJ));let fZ:=(asT Int q.1*asT Int A₁);let dU:=(asT Int q.1*asT Int A₂);let gX:=(asT Int q.1*asT Int aJ);let A₀:=((IntKind.wrap IntKind.i64 (IntKind.wrap IntKind.i64 (IntKind.wrap IntKind.i64 (IntKind.wrap IntKind.i64 eP+IntKind.wrap IntKind.i64 (asT Int aJ*asT Int aJ))-IntKind.wrap IntKind.i64 dH)-IntKind.wrap IntKind.i64 dD)::IntKind.wrap IntKind.i64 (2*IntKind.wrap IntKind.i64 (IntKind.wrap IntKind.i64 (asT Int aJ*asT Int A₂)-IntKind.wrap IntKind.i64 fZ))::IntKind.wrap IntKind.i64 (2*IntKind.wrap IntKind.i64 (IntKind.wrap IntKind.i64 (asT Int aJ*asT Int A₁)+IntKind.wrap IntKind.i64 dU))::aF Int)::(IntKind.wrap IntKind.i64 (2*IntKind.wrap IntKind.i64 (IntKind.wrap IntKind.i64 (asT Int aJ*asT Int A₂)+IntKind.wrap IntKind.i64 fZ))::IntKind.wrap IntKind.i64 (IntKind.wrap IntKind.i64 (IntKind.wrap IntKind.i64 bV+IntKind.wrap IntKind.i64 dH)-IntKind.wrap IntKind.i64 dD)::IntKind.wrap IntKind.i64 (2*IntKind.wrap IntKind.i64 (IntKind.wrap IntKind.i64 (asT Int A₂*asT Int A₁)-IntKind.wrap IntKind.i64 gX))::aF Int)::(IntKind.wrap IntKind.i64 (2*IntKind.wrap IntKind.i64 (IntKind.wrap IntKind.i64 (asT Int aJ*asT Int A₁)-IntKind.wrap IntKind.i64 dU))::IntKind.wrap IntKind.i64 (2*IntKind.wrap IntKind.i64 (IntKind.wrap IntKind.i64 (asT Int A₂*asT Int A₁)+IntKind.wrap IntKind.i64 gX))::IntKind.wrap IntKind.i64 (IntKind.wrap IntKind.i64 (IntKind.wrap IntKind.i64 bV-IntKind.wrap IntKind.i64 dH)+IntKind.wrap IntKind.i64 dD)::aF Int)::aF (List Int));(qOk q/\True)/\(asT Int 0=0/\asT (List (List Rat)) (aF (List Rat))=aF (List Rat)/\True)/\∀ (i:{ k:Nat // k<=3 }),let iZ:=(List.getD A₀ (aB (aA i)).toNat (aF Int));asT Bool true=true/\ifB (decide (aB (aA i)<3)) ((asT Int 0=0/\tab (aA i) 3 (qE q)=tab (aA i) 3 (qE q)/\asT (List Rat) (aF Rat)=aF Rat/\True)/\∀ (i_1:{ k:Nat // k<=3 }),let jO:=(List.getD iZ (aB (aA i_1)).toNat 0);let kL:=(List.range (aA i_1));asT Bool true=true/\ifB (decide (aB (aA i_1)<3)) ((0<=aB (aA i)/\aB (aA i)<aB A₀.length/\0<=aB (aA i_1)/\aB (aA i_1)<aB iZ.length/\qOk q/\(aX jO/\aX aT/\qN (asT Int q.1) (asT Int aJ) (asT Int A₂) (asT Int A₁)≠0)/\True)/\(List.length (List.map (qE q (aA i)) kL)+List.length (Rat.divInt jO aT::aF Rat)<=1000000000/\True)/\∃ (i':{ k:Nat // k<=3 }),3-aA i'<3-aA i_1/\IntKind.wrap IntKind.i64 (aB (aA i_1)+1)=aB (aA i')/\tab (aA i) 3 (qE q)=tab (aA i) 3 (qE q)/\List.map (qE q (aA i)) kL++Rat.divInt jO aT::aF Rat=List.map (qE q (aA i)) (List.range (aA i'))/\True) ((List.length (tab (aA i) 3 (qE q))+List.length (List.map (qE q (aA i)) kL::aF (List Rat))<=1000000000/\True)/\∃ (i':{ k:Nat // k<=3 }),3-aA i'<3-aA i/\IntKind.wrap IntKind.i64 (aB (aA i)+1)=aB (aA i')/\tab (aA i) 3 (qE q)++List.map (qE q (aA i)) kL::aF (List Rat)=tab (aA i') 3 (qE q)/\True)) (True/\tab (aA i) 3 (qE q)=qMx q/\True/\asT Int 0=0/\True)) (by kernel_rfl) ?_
  have hZ:(⟨false,0,[],[]⟩:aH)=bF:=rfl
  try simp only[aC,aj,ah]
  try dsimp only[aB,asT,aA,aF,Ty.den,Lf.den] at *
  try simp only[hZ,Int.toNat_natCast,aC,aj,ah,jh,jg,gy,bf]
  try simp only[bT,bP,List.all_cons,List.all_nil,jk,dw,ig,jf,jy,ne_eq,au,bg,dn,eu,jd,oq,jr,ou,jh,jg,iw,bn,List.length_cons,List.length_nil]
  obtain⟨a,b,c,d,z⟩:=q
  obtain⟨h0,oa,ob,oc,od⟩:qOk (a,b,c,d,z):=hp
  dsimp only at *
  have hN:=MB h0
  have maa:=oa.nV oa
  have mab:=oa.nV ob
  have mac:=oa.nV oc
  have mad:=oa.nV od
  have mbb:=ob.nV ob
  have mbc:=ob.nV oc
  have mbd:=ob.nV od
  have mcc:=oc.nV oc
  have mcd:=oc.nV od
  have mdd:=od.nV od
  simp(disch:=omega) only[aP]
  have hq:qOk (a,b,c,d,z):=⟨h0,oa,ob,oc,od⟩
  have hw:∀ i j,i<3->j<3->aX (qM a b c d i j):=fun i j hi hj=>by
    have:=(YM hq hi hj).1
    dsimp only at this
    exact⟨by omega,by omega⟩
  have hn:aX (qN a b c d):=by
    have:=(YM hq (i:=0) (j:=0) (by omega) (by omega)).2
    dsimp only at this
    exact⟨by omega,by omega⟩
  refine⟨hq,fun i=>⟨fun h1=>?_,fun h1=>?_⟩⟩
  · obtain⟨i,hi⟩:=i
    have h1:i<3:=by have h1:(i:Int)<3:=h1;omega
    rcases three h1 with rfl|rfl|rfl
    all_goals
      refine fun k=>⟨fun h2=>?_,fun h2=>?_⟩
      · obtain⟨k,hk⟩:=k
        have h2:k<3:=by have h2:(k:Int)<3:=h2;omega
        rcases three h2 with rfl|rfl|rfl
        all_goals
          refine⟨⟨by omega,by omega,by omega,by simp,hq,?_,hn,by omega⟩,by simp,⟨_+1,by omega⟩,by simp only;omega,rfl,rfl⟩
          first|exact hw 0 0 (by omega) (by omega)|exact hw 0 1 (by omega) (by omega)|exact hw 0 2 (by omega) (by omega)|exact hw 1 0 (by omega) (by omega)|exact hw 1 1 (by omega) (by omega)|exact hw 1 2 (by omega) (by omega)|exact hw 2 0 (by omega) (by omega)|exact hw 2 1 (by omega) (by omega)|exact hw 2 2 (by omega) (by omega)
      · have hk:k.1=3:=by have:=k.2;omega
        refine⟨by rw[eY];omega,⟨_+1,by omega⟩,by simp only;omega,rfl,?_⟩
        rw[hk];rfl
  · have hi:i.1=3:=by have:=i.2;omega
    rw[hi]
    exact(LY _).symm
set_option maxHeartbeats 1000000
theorem YA:NOk Tryz.prog 184 (TN 221 TUn b4G gUn):=by
 refine tY ((((nil0.an tJ).an tN).an tK).ad WW) ⟨[],[],[(11,tR)]⟩ Tryz.func184 rfl (by decide) (fun x=>xI x.1 x.2.1 (gUn x.2.2.1)) (fun x hp=>?_)
 obtain⟨m,n,c,u⟩:=x
 obtain⟨R,C,hR,hC,r2,c2,hP⟩:=hp
 change m=(R:Int) at hR
 change n=(C:Int) at hC
 subst hR hC
 refine aU (xJ R C (gUn c) (b4G c) (fun y=>bG R C (gUn c)=y)) (by kernel_rfl) ?_
 exact qA r2 c2 hP rfl
theorem XY:NOk Tryz.prog 184 (TN 274 TBe b4B gBe):=by
 refine tY ((((nil0.an tJ).an tN).an tK).ad WR) ⟨[],[],[(11,tR)]⟩ Tryz.func184 rfl (by decide) (fun x=>xI x.1 x.2.1 (gBe x.2.2.1)) (fun x hp=>?_)
 obtain⟨m,n,c,u⟩:=x
 obtain⟨R,C,hR,hC,r2,c2,hP⟩:=hp
 change m=(R:Int) at hR
 change n=(C:Int) at hC
 subst hR hC
 refine aU (xJ R C (gBe c) (b4B c) (fun y=>bG R C (gBe c)=y)) (by kernel_rfl) ?_
 exact qA r2 c2 hP rfl
theorem XZ:NOk Tryz.prog 184 (TN 237 TIn b4C gIn):=by
 refine tY ((((nil0.an tJ).an tN).an tK).ad WS) ⟨[],[],[(11,tR)]⟩ Tryz.func184 rfl (by decide) (fun x=>xI x.1 x.2.1 (gIn x.2.2.1)) (fun x hp=>?_)
 obtain⟨m,n,c,u⟩:=x
 obtain⟨R,C,hR,hC,r2,c2,hP⟩:=hp
 change m=(R:Int) at hR
 change n=(C:Int) at hC
 subst hR hC
 refine aU (xJ R C (gIn c) (b4C c) (fun y=>bG R C (gIn c)=y)) (by kernel_rfl) ?_
 exact qA r2 c2 hP rfl
noncomputable def c5d:jZ:=.mk LKm [tM,tM] (fun x=>okM x.1/\okM x.2.1/\(show MQ from x.1).length=(show MQ from x.2.1).length) (fun x=>bG (show MQ from x.1).length (wdM (show MQ from x.1)+wdM (show MQ from x.2.1)) (fD (wdM (show MQ from x.1)) (ent x.1) (ent x.2.1)))
theorem c1t:NOk Tryz.prog 235 c5d:=by
 refine tY (((((((nil0.an tJ).an tN).an tK).ad WR).an YA).an XY).an XZ) ⟨[],[],[]⟩ Tryz.func235 rfl (by decide) (fun x=>[]) (fun x hp=>?_)
 obtain⟨a,b,u⟩:=x
 change List (List Rat) at a
 change List (List Rat) at b
 refine aU ((asT Int 0<=0/\0<aB a.length/\asT Int 0<=0/\0<aB b.length/\TB TBe b4B (aB a.length,IntKind.wrap IntKind.i64 (aB (List.getD a 0 (aF Rat)).length+aB (List.getD b 0 (aF Rat)).length),(a,b,()),())/\True)/\bG a.length (wdM a+wdM b) (fD (wdM a) (ent a) (ent b))=bG (aB a.length).toNat (IntKind.wrap IntKind.i64 (aB (List.getD a 0 (aF Rat)).length+aB (List.getD b 0 (aF Rat)).length)).toNat (gBe (a,b,()))) (by kernel_rfl) ?_
 have hp:okM a/\okM b/\a.length=b.length:=hp
 obtain⟨ha,hb,hl⟩:=hp
 have q1:=ha.c64
 have q2:=hb.c64
 have q3:=ha.r64
 have e:IntKind.wrap .i64 ((wdM a:Int)+(wdM b:Int))=((wdM a+wdM b:Nat):Int):=by rw[aP (by omega) (by omega)];rfl
 dsimp only[aB,asT,aA,aF]
 rw[show (a.getD 0 []).length=wdM a from rfl,show (b.getD 0 []).length=wdM b from rfl,e]
 refine⟨⟨Dh 0,ha.poz,Dh 0,hb.poz,⟨a.length,wdM a+wdM b,rfl,rfl,by omega,by omega,fun i j hi hj=>?_⟩,trivial⟩,rfl⟩
 exact⟨yc i,hi,by show i<b.length;omega,yc j,by show a.length<=1000;omega,ha.row hi,by show j<wdM a+(b.getD i []).length;rw[hb.row (by omega)];exact hj,by omega⟩
def LH (a:MQ):MQ × Int × Unit:=if DZ a=true then (kD a,0,()) else ([],14,())
noncomputable def c4e:Ctr:=⟨[tM],[tM,tI],fun x=>okM x.1/\wdM (show MQ from x.1)=(show MQ from x.1).length/\uD (show MQ from x.1).length ((show MQ from x.1).length+(show MQ from x.1).length) (fD (show MQ from x.1).length (ent x.1) idm) (show MQ from x.1).length,fun x=>LH x.1⟩
theorem b3S:aI Tryz.prog 154 c4e:=by
 refine aK (((((((((((nil0.an tJ).an tN).an tK).ad a4x).ad WW).ad WS).an YA).an XY).an XZ).an c1t).an c3r) ⟨[5,6],[6],[]⟩ Tryz.func154 rfl (by decide) (fun x=>[]) (fun x hp=>?_)
 obtain⟨a,u⟩:=x
 change List (List Rat) at a
 refine aU (let A₂:=(aB a.length).toNat;let aT:=(fun(x:Ty.den (Ty.list (Ty.lf Lf.iL)))=>dJ (kM (fun(x:Ty.den (Ty.lf Lf.iL))=>dJ ((aH.ok x=true)::aF Cd)) x::aF Cd));let bV:=(fun(xs:Ty.den (Ty.list (Ty.lf Lf.iL)))=>List.map (fun(x:Ty.den (Ty.lf Lf.iL))=>aH.x x) xs);let dH:=(rowsOf none (bG A₂ A₂ (gUn ())));let A₁:=(List.map bV dH);let A₀:=(bG a.length (wdM a+wdM A₁) (fD (wdM a) (ent a) (ent A₁)));let aJ:=(rowsOf none (bG A₀.length (wdM A₀) (rdm A₀ A₂)),aB a.length,());(okM a/\True)/\ifB (sqC a != 0) (True/\aF (List Rat)=Prod.fst (LH a)/\True/\sqC a=Prod.fst (LH a).2/\True) ((TB TUn b4G (aB a.length,aB a.length,(),())/\kM aT dH/\(okM a/\okM A₁/\List.length a=List.length A₁)/\True)/\(b1M A₀ (aB a.length)/\True)/\ifB (decide (aB (cZ (rdp A₀ A₂)).length<aB a.length)) (True/\aF (List Rat)=Prod.fst (LH a)/\True/\14=Prod.fst (LH a).2/\True) ((TB TIn b4C (aB a.length,aB a.length,aJ,())/\True)/\(kM aT (bG A₂ A₂ (gIn aJ))/\True)/\List.map bV (bG A₂ A₂ (gIn aJ))=Prod.fst (LH a)/\True/\0=Prod.fst (LH a).2/\True))) (by kernel_rfl) ?_
 have hZ:(⟨false,0,[],[]⟩:aH)=bF:=rfl
 dsimp only[aB,asT,aA,aF,Ty.den,Lf.den] at *
 simp only[hZ,Int.toNat_natCast,aC,aj,ah,jh,jg,aN,nameAt,bJ,eX,eY,rowAt,gy,bf]
 have hp:okM a/\wdM a=a.length/\uD a.length (a.length+a.length) (fD a.length (ent a) idm) a.length:=hp
 obtain⟨ha,hw,hok⟩:=hp
 have q1:=ha.r64
 have q3:=ha.pos
 have eI:List.map (fun xs=>List.map (fun x=>aH.x x) xs) (rowsOf none (bG a.length a.length (gUn ())))=idM a.length:=UO _ _ _
 have hI:isM (idM a.length) a.length a.length:=b0u q3 q1
 have hIk:okM (idM a.length):=(a8p q3).ok hI (by omega)
 have eB:bG a.length (a.length+a.length) (fD a.length (ent a) (ent (idM a.length)))=bG a.length (a.length+a.length) (fD a.length (ent a) idm):=nG fun i hi j hj=>by
  unfold fD;split
  ·rfl
  ·exact jQ hi (by omega)
 have hB:wdM (bG a.length (a.length+a.length) (fD a.length (ent a) idm))=a.length+a.length:=by
  show ((bG a.length (a.length+a.length) (fD a.length (ent a) idm)).getD 0 []).length=_
  rw[jK q3];simp
 have hX:=c3q (R:=a.length) (C:=a.length+a.length) (n:=a.length) (f:=fD a.length (ent a) idm) (by omega)
 have hP:=b1N (R:=a.length) (C:=a.length+a.length) (n:=a.length) (f:=fD a.length (ent a) idm) q3 (by omega) (by omega) (by omega) (by omega) hok
 have hsq:sqC a=0:=jm hw.symm
 simp only[eI,hI.wd,hw,eB,hB,hI.len,hsq]
 have hp2:(rdp (bG a.length (a.length+a.length) (fD a.length (ent a) idm)) a.length)=(EX a).2:=by
  show (red (bG _ _ _).length _ _).2=_
  rw[eX];exact hX.1
 have hm2:∀ i,i<a.length->∀ c,c<a.length+a.length->rdm (bG a.length (a.length+a.length) (fD a.length (ent a) idm)) a.length i c=(EX a).1 i c:=fun i hi c hc=>by
  show (red (bG _ _ _).length _ _).1 i c=_
  rw[eX];exact hX.2 i hi c hc
 rw[hp2]
 refine⟨ha,fun h=>(by cases h),fun _=>⟨⟨⟨a.length,a.length,rfl,rfl,by omega,by omega,fun i j _ _=>⟨yc i,yc j⟩⟩,JX _ _ _,ha,hIk,trivial⟩,hP,fun h=>?_,fun h=>?_⟩⟩
 ·try simp only[aj] at h
  rw[zO] at h
  have hr:DZ a=false:=ny (by omega)
  have e:LH a=([],14,()):=by unfold LH;rw[hr];rfl
  rw[e];exact⟨rfl,rfl⟩
 ·try simp only[ah] at h
  rw[zO] at h
  have hle:(EX a).2.length<=a.length:=(iV a.length (fD a.length (ent a) idm) a.length).le
  have hr:DZ a=true:=uf (by omega)
  have e:LH a=(kD a,0,()):=by unfold LH;rw[hr];rfl
  rw[e]
  have hrow:∀ i,i<a.length->(rowsOf none (bG a.length (a.length+a.length) (rdm (bG a.length (a.length+a.length) (fD a.length (ent a) idm)) a.length))).getD i []=(List.range (a.length+a.length)).map (fun c=>eU (rdm (bG a.length (a.length+a.length) (fD a.length (ent a) idm)) a.length i c)):=fun i hi=>jK hi
  refine⟨⟨a.length,a.length,rfl,rfl,by omega,by omega,fun i j hi hj=>?_⟩,JX _ _ _,(UO _ _ _).trans (eF fun i hi j hj=>?_),rfl⟩
  ·have hi:i<a.length:=hi
   have hj:j<a.length:=hj
   refine⟨yc i,by show i<(bG _ _ _).length;rw[eX];exact hi,yc j,by omega,yc _,by show (a.length:Int)<=1000;omega,?_,?_⟩
   ·show a.length+j<((rowsOf none (bG a.length (a.length+a.length) (rdm (bG a.length (a.length+a.length) (fD a.length (ent a) idm)) a.length))).getD i []).length
    rw[hrow i hi];simp;omega
   ·show (((rowsOf none (bG a.length (a.length+a.length) (rdm (bG a.length (a.length+a.length) (fD a.length (ent a) idm)) a.length))).getD i []).getD (a.length+j) bF).ok=true
    rw[hrow i hi,fM (by omega)];rfl
  ·show DU (bG a.length (a.length+a.length) (rdm (bG a.length (a.length+a.length) (fD a.length (ent a) idm)) a.length)) i (a.length+j)=(EX a).1 i (a.length+j)
   rw[QX hi (by omega)]
   exact hm2 i hi _ (by omega)
end Go.Proofs.YtbkocjmmbkifjaaGreat
