/-
  Lemmas for the theorem vrelative28_holds, part 29 of 35.
-/
import Derived.Test.YtbkocjmmbkifjaaGreatQr28
namespace Go.Proofs.YtbkocjmmbkifjaaGreat
open Go Go.RowKit
set_option maxRecDepth 100000
set_option maxHeartbeats 4000000
set_option linter.unusedVariables false
set_option linter.unusedSimpArgs false
def qL4 (q:aT):List Int:=[q.1,q.2.1,q.2.2.1,q.2.2.2.1]
noncomputable def c8f:Ctr:=⟨[jD],[.arr 4 tI],fun x=>True,fun x=>(qL4 x.1,())⟩
noncomputable def c8c:Ctr:=⟨[jD],[.list tI],fun x=>True,fun x=>(qL4 x.1,())⟩
noncomputable def b7P:Ctr:=⟨[jD],[tI],fun x=>qOk x.1,fun x=>((0:Int),())⟩
noncomputable def c5n:Ctr:=⟨[jD],[tI],fun x=>qOk x.1,fun x=>(qN x.1.1 x.1.2.1 x.1.2.2.1 x.1.2.2.2.1,())⟩
theorem b6Q:aJ Tryz.prog 228 c8f:=by
 refine aN Lib.nil ⟨[2],[],[]⟩ Tryz.func228 rfl (by decide) (fun x=>[]) (fun x hp=>?_);obtain⟨q,u⟩:=x;change aT at q;refine aP (True/\asT Int q.1::asT Int q.2.1::asT Int q.2.2.1::asT Int q.2.2.2.1::aC Int=qL4 q/\True) (by kernel_rfl) ?_;try simp only[zP0]
 try dsimp only[aB,asT,aA,aC,Ty.den,Lf.den] at *
 try simp only[zP1]
 try simp only[zP2]
 rfl
theorem b6N:aJ Tryz.prog 208 c8c:=by
 refine aN Lib.nil ⟨[],[],[]⟩ Tryz.func208 rfl (by decide) (fun x=>[]) (fun x hp=>?_);obtain⟨q,u⟩:=x;change aT at q;refine aP (True/\asT Int q.1::asT Int q.2.1::asT Int q.2.2.1::asT Int q.2.2.2.1::aC Int=qL4 q/\True) (by kernel_rfl) ?_;try simp only[zP0]
 try dsimp only[aB,asT,aA,aC,Ty.den,Lf.den] at *
 try simp only[zP1]
 try simp only[zP2]
 rfl
theorem b6j:aJ Tryz.prog 148 c5n:=by
 refine aN Lib.nil ⟨[],[],[]⟩ Tryz.func148 rfl (by decide) (fun x=>[]) (fun x hp=>?_);obtain⟨q,u⟩:=x;change aT at q;refine aP (True/\IntKind.wrap IntKind.i64 (IntKind.wrap IntKind.i64 (IntKind.wrap IntKind.i64 (IntKind.wrap IntKind.i64 (asT Int q.1*asT Int q.1)+IntKind.wrap IntKind.i64 (asT Int q.2.1*asT Int q.2.1))+IntKind.wrap IntKind.i64 (asT Int q.2.2.1*asT Int q.2.2.1))+IntKind.wrap IntKind.i64 (asT Int q.2.2.2.1*asT Int q.2.2.2.1))=qN (asT Int q.1) (asT Int q.2.1) (asT Int q.2.2.1) (asT Int q.2.2.2.1)/\True) (by kernel_rfl) ?_;try simp only[zP0]
 try dsimp only[aB,asT,aA,aC,Ty.den,Lf.den] at *
 try simp only[zP1]
 try simp only[zP2]
 obtain⟨h0,ha,hb,hc,hd⟩:qOk q:=hp;have aa:=ha.mul ha;have bb:=hb.mul hb;have cc:=hc.mul hc;have dd:=hd.mul hd;rw[aG (n:=q.1*q.1) (by omega) (by omega),aG (n:=q.2.1*q.2.1) (by omega) (by omega),aG (n:=q.2.2.1*q.2.2.1) (by omega) (by omega),aG (n:=q.2.2.2.1*q.2.2.2.1) (by omega) (by omega),aG (n:=q.1*q.1+q.2.1*q.2.1) (by omega) (by omega),aG (n:=q.1*q.1+q.2.1*q.2.1+q.2.2.1*q.2.2.1) (by omega) (by omega),aG (by omega) (by omega)];rfl
theorem b6k:aJ Tryz.prog 113 c5n:=by
 refine aN Lib.nil ⟨[],[],[]⟩ Tryz.func113 rfl (by decide) (fun x=>[]) (fun x hp=>?_);obtain⟨q,u⟩:=x;change aT at q;refine aP (True/\IntKind.wrap IntKind.i64 (IntKind.wrap IntKind.i64 (IntKind.wrap IntKind.i64 (IntKind.wrap IntKind.i64 (asT Int q.1*asT Int q.1)+IntKind.wrap IntKind.i64 (asT Int q.2.1*asT Int q.2.1))+IntKind.wrap IntKind.i64 (asT Int q.2.2.1*asT Int q.2.2.1))+IntKind.wrap IntKind.i64 (asT Int q.2.2.2.1*asT Int q.2.2.2.1))=qN (asT Int q.1) (asT Int q.2.1) (asT Int q.2.2.1) (asT Int q.2.2.2.1)/\True) (by kernel_rfl) ?_;try simp only[zP0]
 try dsimp only[aB,asT,aA,aC,Ty.den,Lf.den] at *
 try simp only[zP1]
 try simp only[zP2]
 obtain⟨h0,ha,hb,hc,hd⟩:qOk q:=hp;have aa:=ha.mul ha;have bb:=hb.mul hb;have cc:=hc.mul hc;have dd:=hd.mul hd;rw[aG (n:=q.1*q.1) (by omega) (by omega),aG (n:=q.2.1*q.2.1) (by omega) (by omega),aG (n:=q.2.2.1*q.2.2.1) (by omega) (by omega),aG (n:=q.2.2.2.1*q.2.2.2.1) (by omega) (by omega),aG (n:=q.1*q.1+q.2.1*q.2.1) (by omega) (by omega),aG (n:=q.1*q.1+q.2.1*q.2.1+q.2.2.1*q.2.2.1) (by omega) (by omega),aG (by omega) (by omega)];rfl
theorem b6V:aJ Tryz.prog 146 b7P:=by
 refine aN (nil0.ad b6Q) ⟨[],[],[]⟩ Tryz.func146 rfl (by decide) (fun x=>[.rounds 5 [10] []]) (fun x hp=>?_);obtain⟨q,u⟩:=x;change aT at q;refine aP (let A₂:=(asT Int q.2.1 < -1048576);let aK:=(asT Int q.1 < -1048576);let aO:=(True/\asT Int 3=0/\True);let bC:=q.2.2;let A₀:=(asT Int bC.2.1 < -1048576);let A₁:=(asT Int bC.1 < -1048576);ifB (eqD (Ty.pair (Ty.int IntKind.i64) (Ty.pair (Ty.int IntKind.i64) (Ty.pair (Ty.int IntKind.i64) (Ty.pair (Ty.int IntKind.i64) Ty.unit)))) q (0,0,0,0,PUnit.unit)) (True/\asT Int 1=0/\True) ((True/\True)/\(asT Int 0<=0/\asT Int 0<4/\True)/\(((decide aK==false)=true->(decide aK==false)=true/\True)/\(decide aK=false->(decide aK==false)=true)/\True)/\ifB (bif decide aK then true else decide (asT Int q.1 > 1048576)) aO ((asT Int 0<=1/\asT Int 1<4/\True)/\(((decide A₂==false)=true->(decide A₂==false)=true/\True)/\(decide A₂=false->(decide A₂==false)=true)/\True)/\ifB (bif decide A₂ then true else decide (asT Int q.2.1 > 1048576)) aO ((asT Int 0<=2/\asT Int 2<4/\True)/\(((decide A₁==false)=true->(decide A₁==false)=true/\True)/\(decide A₁=false->(decide A₁==false)=true)/\True)/\ifB (bif decide A₁ then true else decide (asT Int bC.1 > 1048576)) aO ((asT Int 0<=3/\asT Int 3<4/\True)/\(((decide A₀==false)=true->(decide A₀==false)=true/\True)/\(decide A₀=false->(decide A₀==false)=true)/\True)/\ifB (bif decide A₀ then true else decide (asT Int bC.2.1 > 1048576)) aO (True/\asT Int 0=0/\True)))))) (by kernel_rfl) ?_;try simp only[zP0]
 try dsimp only[aB,asT,aA,aC,Ty.den,Lf.den] at *
 try simp only[zP1]
 try simp only[zP2]
 obtain⟨a,b,c,d,z⟩:=q;obtain⟨h0,⟨a1,a2⟩,⟨b1,b2⟩,⟨c1,c2⟩,d1,d2⟩:qOk (a,b,c,d,z):=hp;dsimp only at *
 have e1:decide (a < -1048576)=false:=iy (by omega);have e2:decide (a > 1048576)=false:=iy (by omega);have e3:decide (b < -1048576)=false:=iy (by omega);have e4:decide (b > 1048576)=false:=iy (by omega);have e5:decide (c < -1048576)=false:=iy (by omega);have e6:decide (c > 1048576)=false:=iy (by omega);have e7:decide (d < -1048576)=false:=iy (by omega);have e8:decide (d > 1048576)=false:=iy (by omega);rw[e1,e2,e3,e4,e5,e6,e7,e8];refine⟨fun h=>?_,fun _=>by simp⟩;have h:decide (a=0/\b=0/\c=0/\d=0)=true:=(eqQ (a,b,c,d,z)).symm.trans h;exact absurd (qj h) h0
theorem a1u:aJ Tryz.prog 111 b7P:=by
 refine aN (nil0.ad b6N) ⟨[],[],[]⟩ Tryz.func111 rfl (by decide) (fun x=>[.rounds 5 [4] []]) (fun x hp=>?_);obtain⟨q,u⟩:=x;change aT at q;refine aP (let bH:=q.2.2;let bU:=q.2.1;let A₁:=(bif bif asT Int q.1==0 then asT Int bU==0 else false then asT Int bH.1==0 else false);let bC:=(bif asT Int q.1==0 then asT Int bU==0 else false);let cZ:=((asT Int q.1==0)==true);let dG:=bH.2.1;let A₀:=(asT Int q.1::asT Int bU::asT Int bH.1::asT Int dG::aC Int).length;let fB:=(True/\asT Int 3=0/\True);let fD:=(asT Int bH.1 > 1048576);let aK:=(decide fD==false);let gB:=(asT Int q.1 > 1048576);let bI:=(decide gB==false);let fE:=((bC==true)=true->(bC==true)=true/\True);let iU:=((A₁==true)=true->(A₁==true)=true/\True);let jZ:=(asT Int bU > 1048576);let aO:=(decide jZ==false);let lM:=(asT Int dG > 1048576);let A₂:=(decide lM==false);let gQ:=(cZ=true->cZ=true/\True);let oH:=(bI=true->bI=true/\True);let oI:=(aO=true->aO=true/\True);let C₁:=(aK=true->aK=true/\True);let C₂:=(A₂=true->A₂=true/\True);(gQ/\gQ/\((asT Int q.1==0)=true->cZ=true)/\fE/\fE/\(bC=true->(bC==true)=true)/\iU/\iU/\(A₁=true->(A₁==true)=true)/\True)/\ifB (bif bif bif asT Int q.1==0 then asT Int bU==0 else false then asT Int bH.1==0 else false then asT Int dG==0 else false) (True/\asT Int 1=0/\True) ((True/\True)/\(asT Int 0<=0/\0<aB A₀/\(bI=true->bI=true/\bI=true/\asT Int 0<=0/\0<aB A₀/\True)/\oH/\oH/\(decide gB=false->bI=true)/\True)/\ifB (bif decide gB then true else decide (asT Int q.1 < -1048576)) fB ((asT Int 0<=1/\1<aB A₀/\(aO=true->aO=true/\aO=true/\asT Int 0<=1/\1<aB A₀/\True)/\oI/\oI/\(decide jZ=false->aO=true)/\True)/\ifB (bif decide jZ then true else decide (asT Int bU < -1048576)) fB ((asT Int 0<=2/\2<aB A₀/\(aK=true->aK=true/\aK=true/\asT Int 0<=2/\2<aB A₀/\True)/\C₁/\C₁/\(decide fD=false->aK=true)/\True)/\ifB (bif decide fD then true else decide (asT Int bH.1 < -1048576)) fB ((asT Int 0<=3/\3<aB A₀/\(A₂=true->A₂=true/\A₂=true/\asT Int 0<=3/\3<aB A₀/\True)/\C₂/\C₂/\(decide lM=false->A₂=true)/\True)/\ifB (bif decide lM then true else decide (asT Int dG < -1048576)) fB (True/\asT Int 0=0/\True)))))) (by kernel_rfl) ?_;try simp only[zP0]
 try dsimp only[aB,asT,aA,aC,Ty.den,Lf.den] at *
 try simp only[zP1]
 try simp only[zP2]
 obtain⟨a,b,c,d,z⟩:=q;obtain⟨h0,⟨a1,a2⟩,⟨b1,b2⟩,⟨c1,c2⟩,d1,d2⟩:qOk (a,b,c,d,z):=hp;dsimp only at *
 have e1:decide (a < -1048576)=false:=iy (by omega);have e2:decide (a > 1048576)=false:=iy (by omega);have e3:decide (b < -1048576)=false:=iy (by omega);have e4:decide (b > 1048576)=false:=iy (by omega);have e5:decide (c < -1048576)=false:=iy (by omega);have e6:decide (c > 1048576)=false:=iy (by omega);have e7:decide (d < -1048576)=false:=iy (by omega);have e8:decide (d > 1048576)=false:=iy (by omega);rw[e1,e2,e3,e4,e5,e6,e7,e8];simp;omega
noncomputable def c5l:Ctr:=⟨[jD],[tM,tI],fun x=>qOk x.1,fun x=>(qMx x.1,(0:Int),())⟩
theorem b6b:aJ Tryz.prog 61 c5l:=by
  refine aN (((nil0.ad b6V).ad b6j).ad a0U) ⟨[9,12,16],[],[]⟩ Tryz.func61 rfl (by decide) (fun x=>[.inv {k:Nat // k<=3} (fun i=>[(129,.val tI (i.1:Int)),(10,.own 10 0)]) (fun i=>[(9,.box [⟨tI,qM (show aT from x.1).1 (show aT from x.1).2.1 (show aT from x.1).2.2.1 (show aT from x.1).2.2.2.1 0 0⟩,⟨tI,qM (show aT from x.1).1 (show aT from x.1).2.1 (show aT from x.1).2.2.1 (show aT from x.1).2.2.2.1 0 1⟩,⟨tI,qM (show aT from x.1).1 (show aT from x.1).2.1 (show aT from x.1).2.2.1 (show aT from x.1).2.2.2.1 0 2⟩,⟨tI,qM (show aT from x.1).1 (show aT from x.1).2.1 (show aT from x.1).2.2.1 (show aT from x.1).2.2.2.1 1 0⟩,⟨tI,qM (show aT from x.1).1 (show aT from x.1).2.1 (show aT from x.1).2.2.1 (show aT from x.1).2.2.2.1 1 1⟩,⟨tI,qM (show aT from x.1).1 (show aT from x.1).2.1 (show aT from x.1).2.2.1 (show aT from x.1).2.2.2.1 1 2⟩,⟨tI,qM (show aT from x.1).1 (show aT from x.1).2.1 (show aT from x.1).2.2.1 (show aT from x.1).2.2.2.1 2 0⟩,⟨tI,qM (show aT from x.1).1 (show aT from x.1).2.1 (show aT from x.1).2.2.1 (show aT from x.1).2.2.2.1 2 1⟩,⟨tI,qM (show aT from x.1).1 (show aT from x.1).2.1 (show aT from x.1).2.2.1 (show aT from x.1).2.2.2.1 2 2⟩]),(10,.row 39 (.list tQ) (tab i.1 3 (qE (show aT from x.1))) 0)]) (fun i=>3-i.1) ⟨0,by omega⟩ (fun i=>[
   .inv {k:Nat // k<=3} (fun j=>[(133,.val tI (j.1:Int)),(13,.own 13 0)]) (fun j=>[(9,.box [⟨tI,qM (show aT from x.1).1 (show aT from x.1).2.1 (show aT from x.1).2.2.1 (show aT from x.1).2.2.2.1 0 0⟩,⟨tI,qM (show aT from x.1).1 (show aT from x.1).2.1 (show aT from x.1).2.2.1 (show aT from x.1).2.2.2.1 0 1⟩,⟨tI,qM (show aT from x.1).1 (show aT from x.1).2.1 (show aT from x.1).2.2.1 (show aT from x.1).2.2.2.1 0 2⟩,⟨tI,qM (show aT from x.1).1 (show aT from x.1).2.1 (show aT from x.1).2.2.1 (show aT from x.1).2.2.2.1 1 0⟩,⟨tI,qM (show aT from x.1).1 (show aT from x.1).2.1 (show aT from x.1).2.2.1 (show aT from x.1).2.2.2.1 1 1⟩,⟨tI,qM (show aT from x.1).1 (show aT from x.1).2.1 (show aT from x.1).2.2.1 (show aT from x.1).2.2.2.1 1 2⟩,⟨tI,qM (show aT from x.1).1 (show aT from x.1).2.1 (show aT from x.1).2.2.1 (show aT from x.1).2.2.2.1 2 0⟩,⟨tI,qM (show aT from x.1).1 (show aT from x.1).2.1 (show aT from x.1).2.2.1 (show aT from x.1).2.2.2.1 2 1⟩,⟨tI,qM (show aT from x.1).1 (show aT from x.1).2.1 (show aT from x.1).2.2.1 (show aT from x.1).2.2.2.1 2 2⟩]),(10,.row 39 (.list tQ) (tab i.1 3 (qE (show aT from x.1))) 0),(12,.box [⟨tI,qM (show aT from x.1).1 (show aT from x.1).2.1 (show aT from x.1).2.2.1 (show aT from x.1).2.2.2.1 i.1 0⟩,⟨tI,qM (show aT from x.1).1 (show aT from x.1).2.1 (show aT from x.1).2.2.1 (show aT from x.1).2.2.2.1 i.1 1⟩,⟨tI,qM (show aT from x.1).1 (show aT from x.1).2.1 (show aT from x.1).2.2.1 (show aT from x.1).2.2.2.1 i.1 2⟩]),(13,.row 47 tQ ((List.range j.1).map (qE (show aT from x.1) i.1)) 0)]) (fun j=>3-j.1) ⟨0,by omega⟩ (fun _=>[])])]) (fun x hp=>?_)
  obtain⟨q,u⟩:=x;change aT at q;refine aP (let A₁:=q.2.2.2.1;let aO:=(asT Int q.1);let bC:=q.2.2.1;let A₂:=(asT Int bC);let bH:=q.2.1;let aK:=(asT Int bH);let cZ:=(0::List.replicate 2 0);let gQ:=(qN aO aK A₂ (asT Int A₁));let oH:=(asT Int bC*asT Int bC);let oI:=(asT Int A₁*asT Int A₁);let C₁:=(asT Int q.1*asT Int q.1);let bI:=(IntKind.wrap IntKind.i64 C₁-IntKind.wrap IntKind.i64 (asT Int bH*asT Int bH));let bU:=(IntKind.wrap IntKind.i64 (IntKind.wrap IntKind.i64 (IntKind.wrap IntKind.i64 C₁+IntKind.wrap IntKind.i64 (asT Int bH*asT Int bH))-IntKind.wrap IntKind.i64 oH)-IntKind.wrap IntKind.i64 oI);let dG:=(IntKind.wrap IntKind.i64 (IntKind.wrap IntKind.i64 bI+IntKind.wrap IntKind.i64 oH)-IntKind.wrap IntKind.i64 oI);let fB:=(IntKind.wrap IntKind.i64 (IntKind.wrap IntKind.i64 bI-IntKind.wrap IntKind.i64 oH)+IntKind.wrap IntKind.i64 oI);let C₂:=(asT Int q.1*asT Int A₁);let fD:=(2*IntKind.wrap IntKind.i64 (IntKind.wrap IntKind.i64 (asT Int bH*asT Int bC)-IntKind.wrap IntKind.i64 C₂));let fE:=(2*IntKind.wrap IntKind.i64 (IntKind.wrap IntKind.i64 (asT Int bH*asT Int bC)+IntKind.wrap IntKind.i64 C₂));let C₃:=(asT Int q.1*asT Int bC);let gB:=(2*IntKind.wrap IntKind.i64 (IntKind.wrap IntKind.i64 (asT Int bH*asT Int A₁)+IntKind.wrap IntKind.i64 C₃));let jZ:=(2*IntKind.wrap IntKind.i64 (IntKind.wrap IntKind.i64 (asT Int bH*asT Int A₁)-IntKind.wrap IntKind.i64 C₃));let kC:=(asT Int q.1*asT Int bH);let iU:=(2*IntKind.wrap IntKind.i64 (IntKind.wrap IntKind.i64 (asT Int bC*asT Int A₁)-IntKind.wrap IntKind.i64 kC));let lM:=(2*IntKind.wrap IntKind.i64 (IntKind.wrap IntKind.i64 (asT Int bC*asT Int A₁)+IntKind.wrap IntKind.i64 kC));let A₀:=((IntKind.wrap IntKind.i64 bU::IntKind.wrap IntKind.i64 fD::IntKind.wrap IntKind.i64 gB::aC Int)::(IntKind.wrap IntKind.i64 fE::IntKind.wrap IntKind.i64 dG::IntKind.wrap IntKind.i64 iU::aC Int)::(IntKind.wrap IntKind.i64 jZ::IntKind.wrap IntKind.i64 lM::IntKind.wrap IntKind.i64 fB::aC Int)::aC (List Int));(qOk q/\True)/\(asT Int 0=0/\(True/\asT (List (List Rat)) (aC (List Rat))=aC (List Rat))/\IntKind.wrap IntKind.i64 bU=qM aO aK A₂ (asT Int A₁) 0 0/\IntKind.wrap IntKind.i64 fD=qM aO aK A₂ (asT Int A₁) 0 1/\IntKind.wrap IntKind.i64 gB=qM aO aK A₂ (asT Int A₁) 0 2/\IntKind.wrap IntKind.i64 fE=qM aO aK A₂ (asT Int A₁) 1 0/\IntKind.wrap IntKind.i64 dG=qM aO aK A₂ (asT Int A₁) 1 1/\IntKind.wrap IntKind.i64 iU=qM aO aK A₂ (asT Int A₁) 1 2/\IntKind.wrap IntKind.i64 jZ=qM aO aK A₂ (asT Int A₁) 2 0/\IntKind.wrap IntKind.i64 lM=qM aO aK A₂ (asT Int A₁) 2 1/\IntKind.wrap IntKind.i64 fB=qM aO aK A₂ (asT Int A₁) 2 2/\(asT (List (List Rat)) (aC (List Rat))=aC (List Rat)/\0=0/\asT Bool true=true)/\True)/\∀ (i:{ k:Nat // k<=3 }),let iE:=(List.getD A₀ (aB (aA i)).toNat cZ);let nH:=(List.getD iE 0 0::List.getD iE (0+1) 0::List.getD iE (0+1+1) 0::aC Int);asT Bool true=true/\ifB (decide (aB (aA i)<3)) ((0<=aB (aA i)/\aB (aA i)<3/\True)/\(asT Int 0=0/\(True/\asT (List Rat) (aC Rat)=aC Rat)/\qM aO aK A₂ (asT Int A₁) 0 0=qM aO aK A₂ (asT Int A₁) 0 0/\qM aO aK A₂ (asT Int A₁) 0 1=qM aO aK A₂ (asT Int A₁) 0 1/\qM aO aK A₂ (asT Int A₁) 0 2=qM aO aK A₂ (asT Int A₁) 0 2/\qM aO aK A₂ (asT Int A₁) 1 0=qM aO aK A₂ (asT Int A₁) 1 0/\qM aO aK A₂ (asT Int A₁) 1 1=qM aO aK A₂ (asT Int A₁) 1 1/\qM aO aK A₂ (asT Int A₁) 1 2=qM aO aK A₂ (asT Int A₁) 1 2/\qM aO aK A₂ (asT Int A₁) 2 0=qM aO aK A₂ (asT Int A₁) 2 0/\qM aO aK A₂ (asT Int A₁) 2 1=qM aO aK A₂ (asT Int A₁) 2 1/\qM aO aK A₂ (asT Int A₁) 2 2=qM aO aK A₂ (asT Int A₁) 2 2/\tab (aA i) 3 (qE q)=tab (aA i) 3 (qE q)/\List.getD iE 0 0=qM aO aK A₂ (asT Int A₁) (aA i) 0/\List.getD iE (0+1) 0=qM aO aK A₂ (asT Int A₁) (aA i) 1/\List.getD iE (0+1+1) 0=qM aO aK A₂ (asT Int A₁) (aA i) 2/\(asT (List Rat) (aC Rat)=aC Rat/\0=0/\asT Bool true=true)/\True)/\∀ (i_1:{ k:Nat // k<=3 }),let rW:=(List.getD nH (aB (aA i_1)).toNat 0);let uU:=(List.range (aA i_1));asT Bool true=true/\ifB (decide (aB (aA i_1)<3)) ((0<=aB (aA i_1)/\aB (aA i_1)<3/\True)/\(qOk q/\(aV rW/\aV gQ/\qN aO aK A₂ (asT Int A₁)≠0)/\True)/\(List.length (List.map (qE q (aA i)) uU)+List.length (Rat.divInt rW gQ::aC Rat)<=1000000000/\True)/\∃ (i':{ k:Nat // k<=3 }),3-aA i'<3-aA i_1/\IntKind.wrap IntKind.i64 (aB (aA i_1)+1)=aB (aA i')/\qM aO aK A₂ (asT Int A₁) 0 0=qM aO aK A₂ (asT Int A₁) 0 0/\qM aO aK A₂ (asT Int A₁) 0 1=qM aO aK A₂ (asT Int A₁) 0 1/\qM aO aK A₂ (asT Int A₁) 0 2=qM aO aK A₂ (asT Int A₁) 0 2/\qM aO aK A₂ (asT Int A₁) 1 0=qM aO aK A₂ (asT Int A₁) 1 0/\qM aO aK A₂ (asT Int A₁) 1 1=qM aO aK A₂ (asT Int A₁) 1 1/\qM aO aK A₂ (asT Int A₁) 1 2=qM aO aK A₂ (asT Int A₁) 1 2/\qM aO aK A₂ (asT Int A₁) 2 0=qM aO aK A₂ (asT Int A₁) 2 0/\qM aO aK A₂ (asT Int A₁) 2 1=qM aO aK A₂ (asT Int A₁) 2 1/\qM aO aK A₂ (asT Int A₁) 2 2=qM aO aK A₂ (asT Int A₁) 2 2/\tab (aA i) 3 (qE q)=tab (aA i) 3 (qE q)/\qM aO aK A₂ (asT Int A₁) (aA i) 0=qM aO aK A₂ (asT Int A₁) (aA i) 0/\qM aO aK A₂ (asT Int A₁) (aA i) 1=qM aO aK A₂ (asT Int A₁) (aA i) 1/\qM aO aK A₂ (asT Int A₁) (aA i) 2=qM aO aK A₂ (asT Int A₁) (aA i) 2/\List.map (qE q (aA i)) uU++Rat.divInt rW gQ::aC Rat=List.map (qE q (aA i)) (List.range (aA i'))/\True) ((List.length (tab (aA i) 3 (qE q))+List.length (List.map (qE q (aA i)) uU::aC (List Rat))<=1000000000/\True)/\∃ (i':{ k:Nat // k<=3 }),3-aA i'<3-aA i/\IntKind.wrap IntKind.i64 (aB (aA i)+1)=aB (aA i')/\qM aO aK A₂ (asT Int A₁) 0 0=qM aO aK A₂ (asT Int A₁) 0 0/\qM aO aK A₂ (asT Int A₁) 0 1=qM aO aK A₂ (asT Int A₁) 0 1/\qM aO aK A₂ (asT Int A₁) 0 2=qM aO aK A₂ (asT Int A₁) 0 2/\qM aO aK A₂ (asT Int A₁) 1 0=qM aO aK A₂ (asT Int A₁) 1 0/\qM aO aK A₂ (asT Int A₁) 1 1=qM aO aK A₂ (asT Int A₁) 1 1/\qM aO aK A₂ (asT Int A₁) 1 2=qM aO aK A₂ (asT Int A₁) 1 2/\qM aO aK A₂ (asT Int A₁) 2 0=qM aO aK A₂ (asT Int A₁) 2 0/\qM aO aK A₂ (asT Int A₁) 2 1=qM aO aK A₂ (asT Int A₁) 2 1/\qM aO aK A₂ (asT Int A₁) 2 2=qM aO aK A₂ (asT Int A₁) 2 2/\tab (aA i) 3 (qE q)++List.map (qE q (aA i)) uU::aC (List Rat)=tab (aA i') 3 (qE q)/\True)) (True/\tab (aA i) 3 (qE q)=qMx q/\True/\asT Int 0=0/\True)) (by kernel_rfl) ?_;try simp only[zP0]
  try dsimp only[aB,asT,aA,aC,Ty.den,Lf.den] at *
  try simp only[zP1]
  try simp only[zP2]
  obtain⟨a,b,c,d,z⟩:=q;obtain⟨h0,oa,ob,oc,od⟩:qOk (a,b,c,d,z):=hp;dsimp only at *
  have hN:=lW h0;have maa:=oa.pJ oa;have mab:=oa.pJ ob;have mac:=oa.pJ oc;have mad:=oa.pJ od;have mbb:=ob.pJ ob;have mbc:=ob.pJ oc;have mbd:=ob.pJ od;have mcc:=oc.pJ oc;have mcd:=oc.pJ od;have mdd:=od.pJ od;simp(disch:=omega) only[aG];have hq:qOk (a,b,c,d,z):=⟨h0,oa,ob,oc,od⟩;have hw:∀ i j,i<3->j<3->aV (qM a b c d i j):=fun i j hi hj=>by have:=(ZQ hq hi hj).1;dsimp only at this;exact⟨by omega,by omega⟩
  have hn:aV (qN a b c d):=by have:=(ZQ hq (i:=0) (j:=0) (by omega) (by omega)).2;dsimp only at this;exact⟨by omega,by omega⟩
  refine⟨hq,(by and_intros<;>rfl),fun i=>⟨fun h1=>?_,fun h1=>?_⟩⟩
  · obtain⟨i,hi⟩:=i;have h1:i<3:=by have h1:(i:Int)<3:=h1;omega
    rcases three h1 with rfl|rfl|rfl;all_goals
      refine⟨⟨by omega,by omega⟩,⟨rfl,rfl,rfl⟩,fun k=>⟨fun h2=>?_,fun h2=>?_⟩⟩
      · obtain⟨k,hk⟩:=k;have h2:k<3:=by have h2:(k:Int)<3:=h2;omega
        rcases three h2 with rfl|rfl|rfl;all_goals
          refine⟨⟨by omega,by omega⟩,⟨hq,?_,hn,by omega⟩,by simp,⟨_+1,by omega⟩,by simp only;omega,rfl,rfl⟩;first|exact hw 0 0 (by omega) (by omega)|exact hw 0 1 (by omega) (by omega)|exact hw 0 2 (by omega) (by omega)|exact hw 1 0 (by omega) (by omega)|exact hw 1 1 (by omega) (by omega)|exact hw 1 2 (by omega) (by omega)|exact hw 2 0 (by omega) (by omega)|exact hw 2 1 (by omega) (by omega)|exact hw 2 2 (by omega) (by omega)
      · have hk:k.1=3:=by have:=k.2;omega
        refine⟨by rw[jG];omega,⟨_+1,by omega⟩,by simp only;omega,rfl,?_⟩;rw[hk];rfl
  · have hi:i.1=3:=by have:=i.2;omega
    rw[hi];exact(CO _).symm
theorem b6a:aJ Tryz.prog 29 c5l:=by
  refine aN (((nil0.ad a1u).ad b6k).ad b7g) ⟨[14],[],[]⟩ Tryz.func29 rfl (by decide) (fun x=>[.inv {k:Nat // k<=3} (fun i=>[(11,.val tI (i.1:Int)),(10,.own 126 0),(126,.any)]) (fun i=>[(126,.row 39 (.list tQ) (tab i.1 3 (qE (show aT from x.1))) 0)]) (fun i=>3-i.1) ⟨0,by omega⟩ (fun i=>[
   .inv {k:Nat // k<=3} (fun j=>[(13,.val tI (j.1:Int)),(12,.own 131 0),(131,.any)]) (fun j=>[(126,.row 39 (.list tQ) (tab i.1 3 (qE (show aT from x.1))) 0),(131,.row 47 tQ ((List.range j.1).map (qE (show aT from x.1) i.1)) 0)]) (fun j=>3-j.1) ⟨0,by omega⟩ (fun _=>[])])]) (fun x hp=>?_)
  obtain⟨q,u⟩:=x;change aT at q;refine aP (let A₁:=q.2.2.2.1;let A₂:=q.2.2.1;let aK:=q.2.1;let aO:=(qN (asT Int q.1) (asT Int aK) (asT Int A₂) (asT Int A₁));let bI:=(asT Int A₂*asT Int A₂);let bH:=(asT Int A₁*asT Int A₁);let bU:=(asT Int q.1*asT Int q.1);let bC:=(IntKind.wrap IntKind.i64 bU-IntKind.wrap IntKind.i64 (asT Int aK*asT Int aK));let cZ:=(asT Int q.1*asT Int A₁);let dG:=(asT Int q.1*asT Int A₂);let fB:=(asT Int q.1*asT Int aK);let A₀:=((IntKind.wrap IntKind.i64 (IntKind.wrap IntKind.i64 (IntKind.wrap IntKind.i64 (IntKind.wrap IntKind.i64 bU+IntKind.wrap IntKind.i64 (asT Int aK*asT Int aK))-IntKind.wrap IntKind.i64 bI)-IntKind.wrap IntKind.i64 bH)::IntKind.wrap IntKind.i64 (2*IntKind.wrap IntKind.i64 (IntKind.wrap IntKind.i64 (asT Int aK*asT Int A₂)-IntKind.wrap IntKind.i64 cZ))::IntKind.wrap IntKind.i64 (2*IntKind.wrap IntKind.i64 (IntKind.wrap IntKind.i64 (asT Int aK*asT Int A₁)+IntKind.wrap IntKind.i64 dG))::aC Int)::(IntKind.wrap IntKind.i64 (2*IntKind.wrap IntKind.i64 (IntKind.wrap IntKind.i64 (asT Int aK*asT Int A₂)+IntKind.wrap IntKind.i64 cZ))::IntKind.wrap IntKind.i64 (IntKind.wrap IntKind.i64 (IntKind.wrap IntKind.i64 bC+IntKind.wrap IntKind.i64 bI)-IntKind.wrap IntKind.i64 bH)::IntKind.wrap IntKind.i64 (2*IntKind.wrap IntKind.i64 (IntKind.wrap IntKind.i64 (asT Int A₂*asT Int A₁)-IntKind.wrap IntKind.i64 fB))::aC Int)::(IntKind.wrap IntKind.i64 (2*IntKind.wrap IntKind.i64 (IntKind.wrap IntKind.i64 (asT Int aK*asT Int A₁)-IntKind.wrap IntKind.i64 dG))::IntKind.wrap IntKind.i64 (2*IntKind.wrap IntKind.i64 (IntKind.wrap IntKind.i64 (asT Int A₂*asT Int A₁)+IntKind.wrap IntKind.i64 fB))::IntKind.wrap IntKind.i64 (IntKind.wrap IntKind.i64 (IntKind.wrap IntKind.i64 bC-IntKind.wrap IntKind.i64 bI)+IntKind.wrap IntKind.i64 bH)::aC Int)::aC (List Int));(qOk q/\True)/\(asT Int 0=0/\asT (List (List Rat)) (aC (List Rat))=aC (List Rat)/\True)/\∀ (i:{ k:Nat // k<=3 }),let fD:=(List.getD A₀ (aB (aA i)).toNat (aC Int));asT Bool true=true/\ifB (decide (aB (aA i)<3)) ((asT Int 0=0/\tab (aA i) 3 (qE q)=tab (aA i) 3 (qE q)/\asT (List Rat) (aC Rat)=aC Rat/\True)/\∀ (i_1:{ k:Nat // k<=3 }),let gB:=(List.getD fD (aB (aA i_1)).toNat 0);let fE:=(List.range (aA i_1));asT Bool true=true/\ifB (decide (aB (aA i_1)<3)) ((0<=aB (aA i)/\aB (aA i)<aB A₀.length/\0<=aB (aA i_1)/\aB (aA i_1)<aB fD.length/\qOk q/\(aV gB/\aV aO/\qN (asT Int q.1) (asT Int aK) (asT Int A₂) (asT Int A₁)≠0)/\True)/\(List.length (List.map (qE q (aA i)) fE)+List.length (Rat.divInt gB aO::aC Rat)<=1000000000/\True)/\∃ (i':{ k:Nat // k<=3 }),3-aA i'<3-aA i_1/\IntKind.wrap IntKind.i64 (aB (aA i_1)+1)=aB (aA i')/\tab (aA i) 3 (qE q)=tab (aA i) 3 (qE q)/\List.map (qE q (aA i)) fE++Rat.divInt gB aO::aC Rat=List.map (qE q (aA i)) (List.range (aA i'))/\True) ((List.length (tab (aA i) 3 (qE q))+List.length (List.map (qE q (aA i)) fE::aC (List Rat))<=1000000000/\True)/\∃ (i':{ k:Nat // k<=3 }),3-aA i'<3-aA i/\IntKind.wrap IntKind.i64 (aB (aA i)+1)=aB (aA i')/\tab (aA i) 3 (qE q)++List.map (qE q (aA i)) fE::aC (List Rat)=tab (aA i') 3 (qE q)/\True)) (True/\tab (aA i) 3 (qE q)=qMx q/\True/\asT Int 0=0/\True)) (by kernel_rfl) ?_;try simp only[zP0]
  try dsimp only[aB,asT,aA,aC,Ty.den,Lf.den] at *
  try simp only[zP1]
  try simp only[zP2]
  obtain⟨a,b,c,d,z⟩:=q;obtain⟨h0,oa,ob,oc,od⟩:qOk (a,b,c,d,z):=hp;dsimp only at *
  have hN:=lW h0;have maa:=oa.pJ oa;have mab:=oa.pJ ob;have mac:=oa.pJ oc;have mad:=oa.pJ od;have mbb:=ob.pJ ob;have mbc:=ob.pJ oc;have mbd:=ob.pJ od;have mcc:=oc.pJ oc;have mcd:=oc.pJ od;have mdd:=od.pJ od;simp(disch:=omega) only[aG];have hq:qOk (a,b,c,d,z):=⟨h0,oa,ob,oc,od⟩;have hw:∀ i j,i<3->j<3->aV (qM a b c d i j):=fun i j hi hj=>by have:=(ZQ hq hi hj).1;dsimp only at this;exact⟨by omega,by omega⟩
  have hn:aV (qN a b c d):=by have:=(ZQ hq (i:=0) (j:=0) (by omega) (by omega)).2;dsimp only at this;exact⟨by omega,by omega⟩
  refine⟨hq,fun i=>⟨fun h1=>?_,fun h1=>?_⟩⟩
  · obtain⟨i,hi⟩:=i;have h1:i<3:=by have h1:(i:Int)<3:=h1;omega
    rcases three h1 with rfl|rfl|rfl;all_goals
      refine fun k=>⟨fun h2=>?_,fun h2=>?_⟩
      · obtain⟨k,hk⟩:=k;have h2:k<3:=by have h2:(k:Int)<3:=h2;omega
        rcases three h2 with rfl|rfl|rfl;all_goals
          refine⟨⟨by omega,by omega,by omega,by simp,hq,?_,hn,by omega⟩,by simp,⟨_+1,by omega⟩,by simp only;omega,rfl,rfl⟩;first|exact hw 0 0 (by omega) (by omega)|exact hw 0 1 (by omega) (by omega)|exact hw 0 2 (by omega) (by omega)|exact hw 1 0 (by omega) (by omega)|exact hw 1 1 (by omega) (by omega)|exact hw 1 2 (by omega) (by omega)|exact hw 2 0 (by omega) (by omega)|exact hw 2 1 (by omega) (by omega)|exact hw 2 2 (by omega) (by omega)
      · have hk:k.1=3:=by have:=k.2;omega
        refine⟨by rw[jG];omega,⟨_+1,by omega⟩,by simp only;omega,rfl,?_⟩;rw[hk];rfl
  · have hi:i.1=3:=by have:=i.2;omega
    rw[hi];exact(CO _).symm
abbrev RI:Type:=List (List Int)
def a4H (r:RI):Prop:=r.length=3/\∀ l ∈ r,l.length=3/\∀ n ∈ l,aV n
def rI (r:RI):MQ:=tab 3 3 fun i j=>aH ((r.getD i []).getD j 0)
abbrev tRI:Ty:=.list (.list tI)
noncomputable def c7T:Ctr:=⟨[.list tI,.ref tRI],[tB],fun x=>(show List Int from x.1).length=3/\0<(show RI from x.2.1).length/\((show RI from x.2.1).getD 0 []).length=3,fun _=>(false,())⟩
theorem b6m:aJ Tryz.prog 226 c7T:=by
 refine aN Lib.nil ⟨[],[],[]⟩ Tryz.func226 rfl (by decide) (fun x=>[]) (fun x hp=>?_);obtain⟨l,r,u⟩:=x;change List Int at l;change RI at r;refine aP ((asT Int 0<=0/\0<aB r.length/\True)/\True/\(aB l.length != aB (List.getD r 0 (aC Int)).length)=false/\True) (by kernel_rfl) ?_;try simp only[zP0]
 try dsimp only[aB,asT,aA,aC,Ty.den,Lf.den] at *
 try simp only[zP1]
 try simp only[zP2]
 obtain⟨h1,h2,h3⟩:l.length=3/\0<r.length/\(r.getD 0 []).length=3:=hp;exact⟨⟨by omega,by omega⟩,h1.trans h3.symm⟩
def ofP (x:RI) (c:RI):Prop:=x.length=3/\(∀ q ∈ x,q.length=3)/\0<c.length/\(c.getD 0 []).length=3
noncomputable def c7N:Ctr:=⟨[tRI,.clo 226 (.pair (.ref tRI) .unit)],[tI],fun x=>ofP x.1 x.2.1.1,fun _=>((-1:Int),())⟩
noncomputable def c7u:Ctr:=⟨[tRI,.clo 226 (.pair (.ref tRI) .unit)],[tB],fun x=>ofP x.1 x.2.1.1,fun _=>(false,())⟩
theorem b5K:aJ Tryz.prog 271 c7N:=by
 refine aN (nil0.ad b6m) ⟨[],[],[]⟩ Tryz.func271 rfl (by decide) (fun x=>[.inv {k:Nat // k<=(show RI from x.1).length} (fun k=>[(8,.val tI (k.1:Int))]) (fun k=>[]) (fun k=>(show RI from x.1).length-k.1) ⟨0,by omega⟩ (fun _=>[])]) (fun x hp=>?_);obtain⟨x,c,u⟩:=x;change RI at x;change RI × Unit at c;refine aP ((asT Int 0=0/\True)/\∀ (i:{ k:Nat // k<=List.length x }),asT Bool true=true/\ifB (decide (aB (aA i)<aB x.length)) ((0<=aB (aA i)/\aB (aA i)<aB x.length/\(List.length (List.getD x (aB (aA i)).toNat (aC Int))=3/\0<List.length (asT (List (List Int)) c.1)/\List.length (List.getD (asT (List (List Int)) c.1) 0 (aC Int))=3)/\True)/\∃ (i':{ k:Nat // k<=List.length x }),List.length x-aA i'<List.length x-aA i/\IntKind.wrap IntKind.i64 (aB (aA i)+1)=aB (aA i')/\True) (True/\asT Int (-1)=-1/\True)) (by kernel_rfl) ?_;try simp only[zP0]
 try dsimp only[aB,asT,aA,aC,Ty.den,Lf.den] at *
 try simp only[zP1]
 try simp only[zP2]
 obtain⟨h1,h2,h3,h4⟩:ofP x c.1:=hp;exact fun i h=>⟨⟨by omega,h,cO h2 (by omega),h3,h4⟩,⟨i.1+1,by omega⟩,by simp only;omega,by rw[aG (by omega) (by omega)];rfl⟩
theorem b4T:aJ Tryz.prog 225 c7u:=by
 refine aN (nil0.ad b5K) ⟨[],[],[]⟩ Tryz.func225 rfl (by decide) (fun x=>[]) (fun x hp=>?_);obtain⟨x,c,u⟩:=x;change RI at x;change RI × Unit at c;refine aP ((ofP x (asT (List (List Int)) c.1)/\True)/\True/\asT Bool (decide (-1 ≥ 0))=false/\True) (by kernel_rfl) ?_;try simp only[zP0]
 try dsimp only[aB,asT,aA,aC,Ty.den,Lf.den] at *
 try simp only[zP1]
 try simp only[zP2]
 exact⟨hp,by omega⟩
abbrev TOf:List Ty:=[.ref tRI]
def b6v (c:(nest TOf).den) (i j:Int):Prop:=(0<=i/\i.toNat<(show RI from c.1).length/\0<=j/\j.toNat<((show RI from c.1).getD i.toNat []).length)/\aV (((show RI from c.1).getD i.toNat []).getD j.toNat 0)
def gOf (c:(nest TOf).den) (i j:Nat):Rat:=aH (((show RI from c.1).getD i []).getD j 0)
theorem XT:aJ Tryz.prog 227 (WJ TOf b6v gOf):=by
 refine kL (nil0.ad oG) [5] Tryz.func227 rfl (by decide) (fun x=>[]) (fun x hp=>?_);obtain⟨i,j,c⟩:=x;change Int at i;change Int at j;obtain⟨a,u⟩:=c;change RI at a;refine aP ((0<=i/\i<aB a.length/\0<=j/\j<aB (List.getD a i.toNat (aC Int)).length/\aV (List.getD (List.getD a i.toNat (aC Int)) j.toNat 0)/\True)/\True/\aH (List.getD (List.getD a i.toNat (aC Int)) j.toNat 0)=gOf (a,u) i.toNat j.toNat/\True) (by kernel_rfl) ?_;try dsimp only[aB,asT,aA,aC] at *
 have h1:(0<=i/\i.toNat<a.length/\0<=j/\j.toNat<(a.getD i.toNat []).length)/\aV ((a.getD i.toNat []).getD j.toNat 0):=hp;obtain⟨⟨k1,k2,k3,k4⟩,k5⟩:=h1;exact⟨⟨k1,by omega,k3,by omega,k5,trivial⟩,trivial,rfl,trivial⟩
theorem b2r:NOk Tryz.prog 184 (GH 227 TOf b6v gOf):=by refine qY (nil0.ad XT) ⟨[],[],[(11,tR)]⟩ Es rfl (by decide) (fun x=>rQ x.1 x.2.1 (gOf x.2.2.1)) (fun x hp=>?_);obtain⟨m,n,c,u⟩:=x;obtain⟨R,C,hR,hC,r2,c2,hP⟩:=hp;change m=(R:Int) at hR;change n=(C:Int) at hC;subst hR hC;refine aP (tC R C (gOf c) (b6v c) (fun y=>aY R C (gOf c)=y)) (by kernel_rfl) ?_;exact lC r2 c2 hP rfl
noncomputable def c7V:Ctr:=⟨[tRI],[tM,tI],fun x=>a4H x.1,fun x=>(rI x.1,(0:Int),())⟩
noncomputable def c7W:Ctr:=⟨[tRI],[tM],fun x=>a4H x.1,fun x=>(rI x.1,())⟩
theorem b6o:aJ Tryz.prog 145 c7V:=by
 refine aN (((nil0.ad b4T).ad XT).an b2r) ⟨[],[],[]⟩ Tryz.func145 rfl (by decide) (fun x=>[]) (fun x hp=>?_);obtain⟨r,u⟩:=x;change RI at r;refine aP (let A₂:=(aB r.length<1);let aK:=(List.getD r 0 (aC Int)).length;let bC:=(aY (aB r.length).toNat (aB aK).toNat (gOf (r,())));let bI:=(aB r.length > 64);let A₀:=(bif bif decide A₂ then true else decide bI then true else decide (aB aK<1));let aO:=((A₀==false)=true->(A₀==false)=true/\True);let bH:=((decide A₂==false)=true->(decide A₂==false)=true/\True);let cZ:=(bif decide A₂ then true else decide bI);let A₁:=(cZ==false);let bU:=(A₁=true->A₁=true/\True);(bH/\bH/\(decide A₂=false->(decide A₂==false)=true)/\(A₁=true->A₁=true/\asT Int 0<=0/\0<aB r.length/\True)/\bU/\bU/\bU/\(cZ=false->A₁=true)/\((A₀==false)=true->(A₀==false)=true/\asT Int 0<=0/\0<aB r.length/\True)/\aO/\aO/\aO/\(A₀=false->(A₀==false)=true)/\True)/\ifB (bif bif bif decide A₂ then true else decide bI then true else decide (aB aK<1) then true else decide (aB aK > 64)) (True/\aC (List Rat)=rI r/\True/\asT Int 1=0/\True) ((ofP r r/\True)/\(asT Int 0<=0/\0<aB r.length/\BO TOf b6v (aB r.length,aB aK,(r,()),())/\True)/\(fV (fun(x:Ty.den (Ty.list (Ty.lf Lf.fO)))=>dH (fV (fun(x:Ty.den (Ty.lf Lf.fO))=>dH ((aI.ok x=true)::aC Cd)) x::aC Cd)) bC/\True)/\List.map (fun(xs:Ty.den (Ty.list (Ty.lf Lf.fO)))=>List.map (fun(x:Ty.den (Ty.lf Lf.fO))=>aI.x x) xs) bC=rI r/\True/\asT Int 0=0/\True)) (by kernel_rfl) ?_;try simp only[zP0]
 try dsimp only[aB,asT,aA,aC,Ty.den,Lf.den] at *
 try simp only[zP1]
 try simp only[zP2]
 obtain⟨hl,hr⟩:a4H r:=hp;have l0:(r.getD 0 []).length=3:=(cO hr (by omega)).1;simp only[hl,l0];refine⟨by decide,fun h=>absurd h (by decide),fun _=>⟨⟨hl,fun q hq=>(hr q hq).1,by omega,l0⟩,⟨by omega,by decide,⟨3,3,rfl,rfl,by omega,by omega,fun i j hi hj=>?_⟩⟩,wO _ _ _,DF _ _ _⟩⟩;have h1:=cO (d:=[]) hr (show i<r.length by omega);exact⟨⟨oh i,by show i<r.length;omega,oh j,by show j<(r.getD i []).length;omega⟩,cO h1.2 (by show j<(r.getD i []).length;omega)⟩
theorem a6V:aJ Tryz.prog 60 c7W:=by
 refine aN (nil0.ad b6o) ⟨[],[],[]⟩ Tryz.func60 rfl (by decide) (fun x=>[]) (fun x hp=>?_);obtain⟨r,u⟩:=x;change RI at r;refine aP ((a4H r/\True)/\True/\(aH (List.getD (List.getD r 0 (aC Int)) 0 0)::aH (List.getD (List.getD r 0 (aC Int)) 1 0)::aH (List.getD (List.getD r 0 (aC Int)) 2 0)::aC Rat)::(aH (List.getD (List.getD r 1 (aC Int)) 0 0)::aH (List.getD (List.getD r 1 (aC Int)) 1 0)::aH (List.getD (List.getD r 1 (aC Int)) 2 0)::aC Rat)::(aH (List.getD (List.getD r 2 (aC Int)) 0 0)::aH (List.getD (List.getD r 2 (aC Int)) 1 0)::aH (List.getD (List.getD r 2 (aC Int)) 2 0)::aC Rat)::aC (List Rat)=rI r/\True) (by kernel_rfl) ?_;try simp only[zP0]
 try dsimp only[aB,asT,aA,aC,Ty.den,Lf.den] at *
 try simp only[zP1]
 try simp only[zP2]
 exact⟨hp,rfl⟩
noncomputable def c7K:Ctr:=⟨[FU],[tM],fun x=>aV x.1.2.2.1/\aV x.1.2.2.2.1.1/\aV x.1.2.2.2.1.2.1,fun x=>(fJ x.1,())⟩
theorem a6t:aJ Tryz.prog 67 c7K:=by
 refine aN (nil0.ad a6V) ⟨[],[],[]⟩ Tryz.func67 rfl (by decide) (fun x=>[]) (fun x hp=>?_);obtain⟨s,u⟩:=x;change dQ at s;refine aP (let A₀:=s.2.2;let A₁:=A₀.2.1;(a4H ((asT Int A₀.1::0::asT Int A₁.1::aC Int)::(0::asT Int A₀.1::asT Int A₁.2.1::aC Int)::(0::0::1::aC Int)::aC (List Int))/\True)/\True/\(aH (asT Int A₀.1)::aH 0::aH (asT Int A₁.1)::aC Rat)::(aH 0::aH (asT Int A₀.1)::aH (asT Int A₁.2.1)::aC Rat)::(aH 0::aH 0::aH 1::aC Rat)::aC (List Rat)=fJ s/\True) (by kernel_rfl) ?_;try simp only[zP0]
 try dsimp only[aB,asT,aA,aC,Ty.den,Lf.den] at *
 try simp only[zP1]
 try simp only[zP2]
 obtain⟨w1,w2,w3⟩:aV s.2.2.1/\aV s.2.2.2.1.1/\aV s.2.2.2.1.2.1:=hp;have w4:aV 0:=⟨by omega,by omega⟩;have w5:aV 1:=⟨by omega,by omega⟩;refine⟨⟨rfl,fun l hl=>?_⟩,(EO _).symm⟩;simp only[jh,Ci,or_false] at hl;rcases hl with rfl|rfl|rfl;all_goals
  refine⟨rfl,fun n hn=>?_⟩;simp only[jh,Ci,or_false] at hn;rcases hn with rfl|rfl|rfl;all_goals assumption
def iT (m:MQ) (l:List MQ):MQ:=l.foldl mulM m
def tJ (m:MQ) (l:List MQ):Prop:=l.length<=1000/\(∀ n ∈ l,m33 1000000 n)/\∀ k,k<=l.length->m33 1000000 (iT m (l.take k))
noncomputable def c8b:Ctr:=⟨[tM,.list tM],[tM],fun x=>tJ x.1 x.2.1,fun x=>(iT x.1 x.2.1,())⟩
theorem a7i:aJ Tryz.prog 64 c8b:=by
 refine aN (nil0.ad a6J) ⟨[],[],[]⟩ Tryz.func64 rfl (by decide) (fun x=>[.inv {k:Nat // k<=(show List MQ from x.2.1).length} (fun k=>[(9,.val tI (k.1:Int)),(0,.val tM (iT x.1 ((show List MQ from x.2.1).take k.1)))]) (fun k=>[]) (fun k=>(show List MQ from x.2.1).length-k.1) ⟨0,by omega⟩ (fun _=>[])]) (fun x hp=>?_);obtain⟨m,l,u⟩:=x;change MQ at m;change List MQ at l;refine aP ((asT Int 0=0/\m=iT m (List.take 0 l)/\True)/\∀ (i:{ k:Nat // k<=List.length l }),let A₀:=(List.getD l (aB (aA i)).toNat (aC (List Rat)));let A₁:=(iT m (List.take (aA i) l));asT Bool true=true/\ifB (decide (aB (aA i)<aB l.length)) ((0<=aB (aA i)/\aB (aA i)<aB l.length/\True)/\((okM A₁/\okM A₀/\wdM A₁=List.length A₀/\szM A₁ 1000000/\szM A₀ 1000000)/\True)/\∃ (i':{ k:Nat // k<=List.length l }),List.length l-aA i'<List.length l-aA i/\IntKind.wrap IntKind.i64 (aB (aA i)+1)=aB (aA i')/\tab A₁.length (wdM A₀) (mm A₀.length (ent A₁) (ent A₀))=iT m (List.take (aA i') l)/\True) (True/\iT m (List.take (aA i) l)=iT m l/\True)) (by kernel_rfl) ?_;try simp only[zP0]
 try dsimp only[aB,asT,aA,aC,Ty.den,Lf.den] at *
 try simp only[zP1]
 try simp only[zP2]
 obtain⟨h1,h2,h3⟩:tJ m l:=hp;refine⟨rfl,fun i=>⟨fun h=>?_,fun h=>by rw[jf (by omega)]⟩⟩;have hi:i.1<l.length:=by omega
 obtain⟨a1,a2,a3,a4⟩:=(h3 i.1 i.2).ok (aj _);obtain⟨b1,b2,b3,b4⟩:=(h2 _ (jH (d:=[]) hi)).ok (aj _);refine⟨⟨by omega,h⟩,⟨a1,b1,a3.trans b4.symm,a2,b2⟩,⟨i.1+1,by omega⟩,by simp only;omega,by rw[aG (by omega) (by omega)];rfl,?_⟩;show mulM _ _=iT m (List.take (i.1+1) l);rw[Ew,dw hi,bg,dw hi];unfold iT;rw[List.foldl_append];rfl
noncomputable def c5w:Ctr:=⟨[tM],[tM],fun x=>okM x.1,fun x=>(trM x.1,())⟩
noncomputable def c5e:Ctr:=⟨[tM],[tM],fun x=>(okM x.1/\wdM (show MQ from x.1)=(show MQ from x.1).length/\UY (show MQ from x.1).length ((show MQ from x.1).length+(show MQ from x.1).length) (kF (show MQ from x.1).length (ent x.1) idm) (show MQ from x.1).length)/\WX x.1=true,fun x=>(wZ x.1,())⟩
theorem a7M:aJ Tryz.prog 65 c5w:=by
 refine aN (nil0.ad VW) ⟨[],[],[]⟩ Tryz.func65 rfl (by decide) (fun x=>[]) (fun x hp=>?_);obtain⟨m,u⟩:=x;change MQ at m;refine aP ((okM m/\True)/\True/\tab (wdM m) m.length (tr (ent m))=trM m/\True) (by kernel_rfl) ?_;try simp only[zP0]
 try dsimp only[aB,asT,aA,aC,Ty.den,Lf.den] at *
 try simp only[zP1]
 try simp only[zP2]
 exact⟨hp,rfl⟩
theorem b5I:aJ Tryz.prog 66 c5e:=by
 refine aN (nil0.ad b5H) ⟨[],[],[]⟩ Tryz.func66 rfl (by decide) (fun x=>[]) (fun x hp=>?_);obtain⟨m,u⟩:=x;change MQ at m;refine aP (((okM m/\wdM m=List.length m/\UY m.length (List.length m+List.length m) (kF m.length (ent m) idm) m.length)/\True)/\True/\Prod.fst (MZ m)=wZ m/\True) (by kernel_rfl) ?_;try simp only[zP0]
 try dsimp only[aB,asT,aA,aC,Ty.den,Lf.den] at *
 try simp only[zP1]
 try simp only[zP2]
 refine⟨hp.1,?_⟩;unfold MZ;rw[dn hp.2]
def stk {α:Type} (n:Nat) (x:α):α:=if n=n then x else x
theorem OB {α:Type} (n:Nat) (x:α):stk n x=x:=by unfold stk;split<;>rfl
noncomputable def c7X:Ctr:=⟨[tRI],[tM],fun x=>a4H x.1,fun x=>(stk (((show RI from x.1).getD 0 []).getD 1 0).natAbs (rI x.1),())⟩
noncomputable def c5o:Ctr:=⟨[tM,.list tM],[tM],fun x=>tJ x.1 x.2.1,fun x=>(stk (show MQ from x.1).length (iT x.1 x.2.1),())⟩
noncomputable def c5x:Ctr:=⟨[tM],[tM],fun x=>okM x.1,fun x=>(stk (show MQ from x.1).length (trM x.1),())⟩
noncomputable def c5f:Ctr:=⟨[tM],[tM],fun x=>(okM x.1/\wdM (show MQ from x.1)=(show MQ from x.1).length/\UY (show MQ from x.1).length ((show MQ from x.1).length+(show MQ from x.1).length) (kF (show MQ from x.1).length (ent x.1) idm) (show MQ from x.1).length)/\WX x.1=true,fun x=>(stk (show MQ from x.1).length (wZ x.1),())⟩
noncomputable def c4W:Ctr:=⟨[.list (.list tR)],[.list tR],fun x=>(show MR from x.1).length<=1000/\∀ r ∈ (show MR from x.1),r.length<=1000,fun x=>(stk (show MR from x.1).length (show MR from x.1).flatten,())⟩
noncomputable def c4O:Ctr:=⟨[.list tQ],[tM],fun x=>vN x.1/\(show LQ' from x.1).length=9,fun x=>(stk (show LQ' from x.1).length (sU x.1),())⟩
theorem NQ {α:Type} (n:Nat) (x:α):(x,())=(stk n x,()):=by rw[OB]
theorem b6n:aJ Tryz.prog 60 c7X:=jF a6V fun x _=>NQ _ _
theorem KU:aJ Tryz.prog 64 c5o:=jF a7i fun x _=>NQ _ _
theorem LM:aJ Tryz.prog 65 c5x:=jF a7M fun x _=>NQ _ _
theorem b1M:aJ Tryz.prog 66 c5f:=jF b5I fun x _=>NQ _ _
theorem SN:aJ Tryz.prog 63 c4W:=jF a2i fun x _=>NQ _ _
theorem a2d:aJ Tryz.prog 62 c4O:=jF b0c fun x _=>NQ _ _
def PZ (a b:dQ):Prop:=a.1.1=b.1.1/\a.1.2.1=b.1.2.1/\a.1.2.2.1=b.1.2.2.1
instance (a b:dQ):Decidable (PZ a b):=by unfold PZ;infer_instance
def zT (a b:dQ):MQ × Int × Unit:=if oO [a,b]≠0 then ([],oO [a,b],()) else if PZ a b then ([],13,()) else (sU (FM a b).flatten,0,())
noncomputable def c7Y:Ctr:=⟨[FU,FU],[tM,tI],fun x=>True,fun x=>zT x.1 x.2.1⟩
theorem c6Q {q:aT} (h:zQ q=false):¬ (q.1=0/\q.2.1=0/\q.2.2.1=0/\q.2.2.2.1=0):=uj h
theorem yK {n:Int} (h:mO n=false):cdI n:=by unfold mO at h;rw[Ea] at h;have h1:=uj h.1;have h2:=uj h.2;exact⟨by omega,by omega⟩
theorem a6i {s:dQ} (hz:zS s=false) (h:wW s=false):iG s:=by unfold wW at h;simp only[Ea,List.any_cons,List.any_nil,Bool.or_false,jv] at h;obtain⟨⟨⟨a,b,c,d,e,f,g,i,j⟩,k⟩,l⟩:=h;exact⟨⟨yK a,yK b,yK c⟩,⟨c6Q hz,yK f,yK g,yK i,yK j⟩,⟨by omega,by omega⟩,yK d,yK e⟩
theorem b3S {a b:dQ} (h:oO [a,b]=0):iG a/\iG b:=by
 unfold oO at h;have hz:[a,b].any zS=false:=by
  cases e:[a,b].any zS
  ·rfl
  ·rw[e] at h;cases h
 have hf:[a,b].any wW=false:=by
  cases e:[a,b].any wW
  ·rfl
  ·rw[hz,e] at h;cases h
 simp only[List.any_cons,List.any_nil,Bool.or_false,Ea] at hz hf;exact⟨a6i hz.1 hf.1,a6i hz.2 hf.2⟩
theorem b6X (x y z:Int):rI [[0,0-z,y],[z,0,0-x],[0-y,x,0]]=kW [aH x,aH y,aH z]:=by
 have n:∀ t:Int,aH (0-t)=- aH t:=fun t=>by rw[Int.zero_sub];exact Rat.intCast_neg t
 show [[aH 0,aH (0-z),aH y],[aH z,aH 0,aH (0-x)],[aH (0-y),aH x,aH 0]]=[[aH 0,- aH z,aH y],[aH z,aH 0,- aH x],[- aH y,aH x,aH 0]];rw[n,n,n]
theorem b2J {K:Nat} {x:MQ} (h:isM x 3 3) (c:CdM x K) (hK:K<=1000):okM x:=⟨by rw[h.len,h.wd];exact h,c.sz (by omega)⟩
theorem a1d {s:dQ} (h:iG s):((okM (fJ s)/\wdM (fJ s)=(fJ s).length/\UY (fJ s).length ((fJ s).length+(fJ s).length) (kF (fJ s).length (ent (fJ s)) idm) (fJ s).length)/\WX (fJ s)=true)/\okM (wZ (fJ s)):=by have hm:=jB s;have hc:=JA h;refine⟨⟨⟨b2J hm hc (by omega),by rw[hm.len,hm.wd],?_⟩,c0I h⟩,b2J (oU hm) (hc.inv hm) (by omega)⟩;rw[hm.len];exact b6w (hc.QC hm) (by omega) (by omega)
theorem xX (m:MQ):iT m []=m:=rfl
theorem vO (m x:MQ) (l:List MQ):iT m (x::l)=iT (mulM m x) l:=rfl
theorem b2Y {a b:dQ} (h:iG a) (g:iG b):tJ (trM (wZ (fJ b))) [trM (qMx b.2.1),kW (eH a b),qMx a.2.1,wZ (fJ a)]:=by
 have m1:=(oU (jB b)).trp;have m2:=m1.mul (q33 b.2.1).trp;have m3:=m2.mul (nG (eH a b));have m4:=m3.mul (q33 a.2.1);have m5:=m4.mul (oU (jB a));have c1:=((JA g).inv (jB b)).trp (oU (jB b));have d2:=(a2e g.2.1).trp (q33 _);have d5:=(JA h).inv (jB a);have c2:=c1.mul d2 m1 (q33 _).trp;have c3:=c2.mul (a0L h g) m2 (nG _);have c4:=c3.mul (a2e h.2.1) m3 (q33 _);have c5:=c4.mul d5 m4 (oU (jB a));refine⟨by show 4<=1000;omega,fun n hn=>?_,fun k hk=>?_⟩
 ·simp only[jh,Ci,or_false] at hn;rcases hn with rfl|rfl|rfl|rfl
  ·exact⟨(q33 _).trp,d2.sz (by omega)⟩
  ·exact⟨nG _,(a0L h g).sz (by omega)⟩
  ·exact⟨q33 _,(a2e h.2.1).sz (by omega)⟩
  ·exact⟨oU (jB a),d5.sz (by omega)⟩
 ·have hk:k<=4:=hk;have e:k=0\/k=1\/k=2\/k=3\/k=4:=by omega
  rcases e with rfl|rfl|rfl|rfl|rfl<;>simp only[List.take_zero,List.take_succ_cons,xX,vO]
  ·exact⟨m1,c1.sz (by omega)⟩
  ·exact⟨m2,c2.sz (by omega)⟩
  ·exact⟨m3,c3.sz (by omega)⟩
  ·exact⟨m4,c4.sz (by omega)⟩
  ·exact⟨m5,c5.sz (by omega)⟩
theorem oW (x:MQ):List.map (fun q:aI=>q.x) (List.map (fun xs=>List.map (fun q=>dK q) xs) x).flatten=x.flatten:=by
 rw[List.map_flatten,List.map_map];congr 1
 conv=>rhs;rw[<-List.map_id x]
 refine og fun r _=>?_;show List.map (fun q:aI=>q.x) (List.map (fun q=>dK q) r)=r;rw[List.map_map]
 conv=>rhs;rw[<-List.map_id r]
 exact og fun q _=>rfl
theorem b6p:aJ Tryz.prog 11 c7Y:=by
 refine aN (((((((((nil0.ad a7m).ad b6n).ad b6b).ad a6t).ad b1M).ad LM).ad KU).ad SN).ad a2d) ⟨[],[],[]⟩ Tryz.func11 rfl (by decide) (fun x=>[]) (fun x hp=>?_);obtain⟨a,b,u⟩:=x;change dQ at a;change dQ at b;refine aP (let bI:=(a::b::aC ((Int × Int × Int × PUnit) × (Int × Int × Int × Int × PUnit) × Int × (Int × Int × PUnit) × PUnit));let bH:=(asT Int b.1.2.2.1-asT Int a.1.2.2.1);let bU:=(fun(xs:Ty.den (Ty.list (Ty.lf Lf.rat)))=>List.map (fun(x:Ty.den (Ty.lf Lf.rat))=>dK x) xs);let cZ:=(asT Int b.1.2.1-asT Int a.1.2.1);let dG:=(asT Int b.1.1-asT Int a.1.1);let fB:=b.2.1;let fD:=(fJ b).length;let bC:=(stk fD (wZ (fJ b)));let gB:=(fJ a).length;let fE:=(stk bC.length (trM bC));let iU:=b.2.2.2.1;let jZ:=a.2.2.2.1;let gQ:=(0-IntKind.wrap IntKind.i64 bH);let A₁:=((0::IntKind.wrap IntKind.i64 gQ::IntKind.wrap IntKind.i64 cZ::aC Int)::(IntKind.wrap IntKind.i64 bH::0::IntKind.wrap IntKind.i64 (0-IntKind.wrap IntKind.i64 dG)::aC Int)::(IntKind.wrap IntKind.i64 (0-IntKind.wrap IntKind.i64 cZ)::IntKind.wrap IntKind.i64 dG::0::aC Int)::aC (List Int));let aK:=(stk (qMx fB).length (trM (qMx fB))::stk (Int.natAbs (IntKind.wrap IntKind.i64 gQ)) (rI A₁)::qMx a.2.1::stk gB (wZ (fJ a))::aC (List (List Rat)));let A₀:=(stk fE.length (iT fE aK));let A₂:=(List.map bU A₀);let lM:=(stk A₂.length (List.flatten A₂));let aO:=(List.map (fun(x:Ty.den (Ty.lf Lf.fO))=>aI.x x) lM);(List.length bI<=1000000/\True)/\ifB (oO bI != 0) (True/\aC (List Rat)=Prod.fst (zT a b)/\True/\oO bI=Prod.fst (zT a b).2/\True) (ifB (eqD (Ty.pair (Ty.int IntKind.i64) (Ty.pair (Ty.int IntKind.i64) (Ty.pair (Ty.int IntKind.i64) Ty.unit))) a.1 b.1) (True/\aC (List Rat)=Prod.fst (zT a b)/\True/\13=Prod.fst (zT a b).2/\True) ((a4H A₁/\True)/\(qOk a.2.1/\True)/\(qOk fB/\True)/\((aV (asT Int b.2.2.1)/\aV (asT Int iU.1)/\aV (asT Int iU.2.1))/\((okM (fJ b)/\wdM (fJ b)=List.length (fJ b)/\UY fD (List.length (fJ b)+List.length (fJ b)) (kF fD (ent (fJ b)) idm) fD)/\WX (fJ b)=true)/\okM bC/\okM (qMx fB)/\(aV (asT Int a.2.2.1)/\aV (asT Int jZ.1)/\aV (asT Int jZ.2.1))/\((okM (fJ a)/\wdM (fJ a)=List.length (fJ a)/\UY gB (List.length (fJ a)+List.length (fJ a)) (kF gB (ent (fJ a)) idm) gB)/\WX (fJ a)=true)/\tJ fE aK/\fV (fun(x:Ty.den (Ty.list (Ty.lf Lf.rat)))=>dH (fV (fun(x:Ty.den (Ty.lf Lf.rat))=>dH (aC Cd)) x::aC Cd)) A₀/\(List.length A₂<=1000/\∀ (r:List aI),r ∈ List.map bU A₀->List.length r<=1000)/\fV (fun(x:Ty.den (Ty.lf Lf.fO))=>dH ((aI.ok x=true)::aC Cd)) lM/\(vN aO/\List.length aO=9)/\True)/\True/\stk aO.length (sU aO)=Prod.fst (zT a b)/\True/\0=Prod.fst (zT a b).2/\True))) (by kernel_rfl) ?_;try simp only[zP0]
 try dsimp only[aB,asT,aA,aC,Ty.den,Lf.den] at *
 try simp only[zP1]
 try simp only[zP2]
 simp only[OB];refine⟨by omega,fun h=>?_,fun h=>⟨fun h2=>?_,fun h2=>?_⟩⟩
 ·unfold zT;rw[dn h];exact⟨rfl,rfl⟩
 ·have h2:PZ a b:=qj ((b9x a.1 b.1).symm.trans h2);unfold zT;rw[bn (by rw[h];exact fun e=>e rfl),dn h2];exact⟨rfl,rfl⟩
 ·have h2:¬ PZ a b:=uj ((b9x a.1 b.1).symm.trans h2);obtain⟨ha,hb⟩:=b3S h;have e:zT a b=(sU (FM a b).flatten,0,()):=by unfold zT;rw[bn (by rw[h];exact fun e=>e rfl),bn h2]
  rw[e];obtain⟨⟨a1,a2⟩,⟨a3,a4⟩,a5,a6⟩:=ha.1;obtain⟨⟨b1,b2⟩,⟨b3,b4⟩,b5,b6⟩:=hb.1;simp(disch:=omega) only[aG];rw[b6X];have hf:iT (trM (wZ (fJ b))) [trM (qMx b.2.1),kW [aH (b.1.1-a.1.1),aH (b.1.2.1-a.1.2.1),aH (b.1.2.2.1-a.1.2.2.1)],qMx a.2.1,wZ (fJ a)]=FM a b:=by simp only[xX,vO];unfold FM eH;rfl
  rw[hf];obtain⟨hp9,h9⟩:=b7J ha hb h2;have wk:∀ s:dQ,iG s->aV s.2.2.1/\aV s.2.2.2.1.1/\aV s.2.2.2.1.2.1:=fun s h=>⟨⟨by have:=h.2.2.1;omega,by have:=h.2.2.1;omega⟩,h.2.2.2.1.word,h.2.2.2.2.word⟩;have h33:=a4a a b;clear hf e;generalize FM a b=F at *
  refine⟨⟨rfl,fun l hl=>?_⟩,ha.2.1,hb.2.1,⟨wk b hb,(a1d hb).1,(a1d hb).2,b2J (q33 _) (a2e hb.2.1) (by omega),wk a ha,(a1d ha).1,b2Y ha hb,rJ _,⟨by rw[ny,h33.len];omega,fun r hr=>?_⟩,iW.mpr fun q hq=>⟨?_,trivial⟩,by rw[oW];exact hp9,by rw[oW];exact h9⟩,by rw[oW],trivial⟩
  ·simp only[jh,Ci,or_false] at hl;rcases hl with rfl|rfl|rfl;all_goals
    refine⟨rfl,fun n hn=>?_⟩;simp only[jh,Ci,or_false] at hn;rcases hn with rfl|rfl|rfl;all_goals exact⟨by omega,by omega⟩
  ·obtain⟨x,hx,rfl⟩:=jq.1 hr;rw[ny,h33.2.1 x hx];omega
  ·obtain⟨r,hr,hq⟩:=Df.1 hq;obtain⟨x,_,rfl⟩:=jq.1 hr;obtain⟨y,_,rfl⟩:=jq.1 hq;rfl
end Go.Proofs.YtbkocjmmbkifjaaGreat
