/-
  Lemmas for the theorem vstations28_holds, part 29 of 34.
-/
import Derived.Test.YtbkocjmmbkifjaaGreatQs28
namespace Go.Proofs.YtbkocjmmbkifjaaGreat
open Go Go.RowKit
set_option maxRecDepth 100000
set_option maxHeartbeats 1000000
set_option linter.unusedVariables false
set_option linter.unusedSimpArgs false
noncomputable def c5f:jZ:=.chg LKm [tI] [.list tI] (fun x y=>b1M x y.1) (fun x y=>bG (show MR from x).length (wdM (show MR from x)) (rdm x (show Int from y.1).toNat)) (fun x y=>(cZ (rdp x (show Int from y.1).toNat),()))
abbrev rz (x:MR) (j:Nat) (m:Mt):Rho:=[(0,.mat 39 47 tR none (bG x.length (wdM x) m) 0),(128,.row 3 tI (cZ (rdp x j)) 0)]
theorem c3r:NOk Tryz.prog 236 c5f:=by
 refine a5L (((((nil0.ad DK).ad OI).ad OL).ad b1E).an c3y) ⟨[9],[],[]⟩ Tryz.func236 rfl (by decide) (fun x y=>[.inv {j:Nat // j<=(show Int from y.1).toNat} (fun j=>[(13,.val tI (j.1:Int)),(5,.own 128 0)]++[(6,.any),(7,.any),(8,.any),(9,.any),(10,.any),(11,.any),(14,.any),(15,.any),(16,.any),(17,.any),(18,.any),(19,.any),(20,.any),(21,.any),(22,.any),(23,.any),(24,.any),(25,.any),(26,.any),(27,.any),(28,.any),(29,.any),(30,.any),(31,.any),(32,.any),(33,.any),(34,.any),(35,.any),(36,.any),(37,.any),(38,.any),(39,.any),(40,.any),(41,.any),(42,.any),(43,.any),(44,.any),(45,.any),(46,.any),(47,.any),(48,.any),(49,.any),(50,.any),(51,.any),(52,.any),(53,.any),(54,.any),(55,.any),(56,.any),(57,.any),(58,.any),(59,.any),(60,.any),(61,.any),(62,.any),(63,.any),(64,.any),(65,.any),(66,.any),(67,.any),(68,.any),(69,.any),(70,.any),(71,.any),(72,.any),(73,.any),(74,.any),(75,.any),(76,.any),(77,.any),(78,.any),(79,.any),(80,.any),(81,.any),(82,.any),(83,.any),(84,.any),(85,.any),(86,.any),(87,.any),(88,.any),(89,.any),(90,.any),(91,.any),(92,.any),(93,.any),(94,.any),(95,.any),(96,.any),(97,.any),(98,.any),(99,.any),(100,.any),(101,.any),(102,.any),(103,.any),(104,.any),(105,.any),(106,.any),(107,.any),(108,.any),(109,.any),(110,.any),(111,.any),(112,.any),(113,.any),(114,.any),(115,.any),(116,.any),(117,.any),(118,.any),(119,.any),(120,.any),(121,.any),(122,.any),(123,.any),(124,.any),(125,.any),(126,.any),(127,.any),(128,.any),(129,.any)]) (fun j=>rz x j.1 (rdm x j.1)) (fun j=>(show Int from y.1).toNat-j.1) ⟨0,by omega⟩ (fun j=>[
  .inv {k:Nat // (rdp x j.1).length<=k/\k<=(show MR from x).length/\∀ i,(rdp x j.1).length<=i->i<k->rdm x j.1 i j.1=0} (fun k=>[(8,.val tI (k.1:Int))]) (fun k=>rz x j.1 (rdm x j.1)) (fun k=>(show MR from x).length-k.1) ⟨(rdp x j.1).length,ay _,(iV _ _ _).le,fun i h1 h2=>absurd h2 (by omega)⟩ (fun _=>[]),
  .inv {c:Nat // j.1<=c} (fun c=>[(10,.val tI (c.1:Int))]++[(19,.any),(20,.any),(21,.any),(22,.any),(23,.any),(24,.any),(25,.any),(26,.any),(27,.any),(28,.any),(29,.any),(30,.any),(31,.any),(32,.any),(33,.any),(34,.any),(35,.any),(36,.any),(37,.any),(38,.any),(39,.any),(40,.any),(41,.any),(42,.any),(43,.any),(44,.any),(45,.any),(46,.any),(47,.any),(48,.any),(49,.any),(50,.any),(51,.any),(52,.any),(53,.any),(54,.any),(55,.any),(56,.any),(57,.any),(58,.any),(59,.any),(60,.any),(61,.any),(62,.any)]) (fun c=>rz x j.1 (scl (gB (rdm x j.1) (rdp x j.1).length (kk x j.1)) (rdp x j.1).length j.1 c.1 (1 / rdm x j.1 (kk x j.1) j.1))++[(9,.box [⟨tQ,1 / rdm x j.1 (kk x j.1) j.1⟩])]) (fun c=>wdM (show MR from x)-c.1) ⟨j.1,ay _⟩ (fun _=>[]),
  .inv {i:Nat // i<=(show MR from x).length} (fun i=>[(90,.val tI (i.1:Int))]++[(64,.any),(65,.any),(66,.any),(67,.any),(68,.any),(69,.any),(70,.any),(71,.any),(72,.any),(73,.any),(74,.any),(75,.any),(76,.any),(77,.any),(78,.any),(79,.any),(80,.any),(81,.any),(82,.any),(83,.any),(84,.any),(85,.any),(86,.any),(87,.any)]) (fun i=>rz x j.1 (elm (scl (gB (rdm x j.1) (rdp x j.1).length (kk x j.1)) (rdp x j.1).length j.1 (wdM x) (1 / rdm x j.1 (kk x j.1) j.1)) (rdp x j.1).length j.1 i.1)) (fun i=>(show MR from x).length-i.1) ⟨0,by omega⟩ (fun _=>[])])]) (fun x y hp=>?_)
 obtain⟨n,u⟩:=y
 change Int at n
 change List (List aH) at x
 refine aU (let A₀:=(fun(x:Ty.den (Ty.lf Lf.iL))=>aH.x x);(asT Int 0=0/\(True/\asT (List Int) (aF Int)=aF Int)/\x=bG x.length (wdM x) (rdm x 0)/\(asT (List Int) (aF Int)=aF Int/\0=0/\asT Bool true=true)/\True)/\∀ (i:{ j:Nat // j<=Int.toNat n }),let A₂:=(bG x.length (wdM x) (rdm x (aA i)));let aJ:=(cZ (rdp x (aA i))).length;let aT:=(rdp x (aA i)).length;let bV:=(1 / rdm x (aA i) (kk x (aA i)) (aA i));let dH:=(gB (rdm x (aA i)) aT (kk x (aA i)));let A₁:=(scl dH aT (aA i) (wdM x) bV);let dD:=(nameAt none (aB aJ).toNat);let eP:=(aB (aA i)).toNat;asT Bool true=true/\ifB (decide (aB (aA i)<n)) ((aB aJ=aB aT/\bG x.length (wdM x) (rdm x (aA i))=bG x.length (wdM x) (rdm x (aA i))/\cZ (rdp x (aA i))=cZ (rdp x (aA i))/\True)/\∀ (i_1:{ k:Nat // List.length (rdp x (aA i))<=k/\k<=List.length x/\∀ (i_1:Nat),List.length (rdp x (aA i))<=i_1->i_1<k->rdm x (aA i) i_1 (aA i)=0 }),let nU:=(aB (aA i_1)<aB (aN none A₂));let dU:=(decide nU==true);let rE:=(aB (aA i_1)).toNat;let iZ:=(nameAt none rE);let jO:=(List.getD (rowAt A₂ iZ) eP { ok:=false,x:=0,g:=aF Nat,h:=aF Nat });let kL:=(some (List.set (bJ none A₂) (aB aJ).toNat iZ));let fZ:=(List.set (bJ kL A₂) rE dD);let oW:=(rowAt A₂ (nameAt (some fZ) (aB aJ).toNat));let gX:=(List.getD oW eP { ok:=false,x:=0,g:=aF Nat,h:=aF Nat });asT Bool true=true/\((dU=true->dU=true/\dU=true/\0<=aB (aA i_1)/\aB (aA i_1)<aB (aN none A₂)/\True)/\(dU=true->dU=true/\Int.toNat (aB (aA i_1))<aN none A₂/\True)/\(dU=true->dU=true/\dU=true/\0<=aB (aA i)/\aB (aA i)<aB (rowAt A₂ iZ).length/\True)/\(dU=true->dU=true/\Int.toNat (aB (aA i))<List.length (rowAt A₂ iZ)/\True)/\(dU=true->dU=true/\aH.ok jO=true/\rsz (aH.x jO)<=1000000000/\True)/\(dU=true->dU=true/\True)/\(decide nU=true->dU=true)/\True)/\ifB (bif decide nU then sgn (Rat.num (aH.x jO))==0 else false) (∃ (i':{ k:Nat // List.length (rdp x (aA i))<=k/\k<=List.length x/\∀ (i_2:Nat),List.length (rdp x (aA i))<=i_2->i_2<k->rdm x (aA i) i_2 (aA i)=0 }),List.length x-aA i'<List.length x-aA i_1/\IntKind.wrap IntKind.i64 (aB (aA i_1)+1)=aB (aA i')/\bG x.length (wdM x) (rdm x (aA i))=bG x.length (wdM x) (rdm x (aA i))/\cZ (rdp x (aA i))=cZ (rdp x (aA i))/\True) (ifB (aB (aA i_1)==aB (aN none A₂)) (∃ (i':{ j:Nat // j<=Int.toNat n }),Int.toNat n-aA i'<Int.toNat n-aA i/\IntKind.wrap IntKind.i64 (aB (aA i)+1)=aB (aA i')/\bG x.length (wdM x) (rdm x (aA i))=bG x.length (wdM x) (rdm x (aA i'))/\cZ (rdp x (aA i))=cZ (rdp x (aA i'))/\True) ((0<=aB (aA i_1)/\aB (aA i_1)<aB (aN none A₂)/\Int.toNat (aB (aA i_1))<aN none A₂/\0<=aB aJ/\aB aJ<aB (aN none A₂)/\Int.toNat (aB aJ)<aN none A₂/\0<=aB aJ/\aB aJ<aB (aN none A₂)/\Int.toNat (aB aJ)<aN none A₂/\0<=aB (aA i_1)/\aB (aA i_1)<aB (aN kL A₂)/\Int.toNat (aB (aA i_1))<aN kL A₂/\True)/\(aX 1/\0<=aB aJ/\aB aJ<aB (aN (some fZ) A₂)/\Int.toNat (aB aJ)<aN (some fZ) A₂/\0<=aB (aA i)/\aB (aA i)<aB oW.length/\Int.toNat (aB (aA i))<List.length oW/\aH.ok gX=true/\(rsz (aO 1)<=400000000/\rsz (aH.x gX)<=400000000/\aH.x gX≠0)/\True)/\(aB (aA i)=aB (aA i)/\List.Nodup fZ/\List.map (fun(i_2:Nat)=>List.getD A₂ i_2 (aF aH)) fZ=bG x.length (wdM x) (scl dH aT (aA i) (aA i) bV)/\cZ (rdp x (aA i))=cZ (rdp x (aA i))/\aO 1 / aH.x gX=1 / rdm x (aA i) (kk x (aA i)) (aA i)/\True)/\∀ (i_2:{ c:Nat // aA i<=c }),let C₁:=(scl dH aT (aA i) (aA i_2) bV);let fK:=(bG x.length (wdM x) C₁);let uN:=(rowAt fK dD).length;let C₂:=(aB (aA i_2)).toNat;let uM:=(List.getD (rowAt fK dD) C₂ { ok:=false,x:=0,g:=aF Nat,h:=aF Nat });asT Bool true=true/\(0<=aB aJ/\aB aJ<aB (aN none fK)/\Int.toNat (aB aJ)<aN none fK/\True)/\ifB (decide (aB (aA i_2)<aB uN)) ((0<=aB aJ/\aB aJ<aB (aN none fK)/\Int.toNat (aB aJ)<aN none fK/\0<=aB aJ/\aB aJ<aB (aN none fK)/\Int.toNat (aB aJ)<aN none fK/\0<=aB (aA i_2)/\aB (aA i_2)<aB uN/\Int.toNat (aB (aA i_2))<List.length (rowAt fK dD)/\aH.ok uM=true/\s44 bV (aH.x uM)/\0<=aB (aA i_2)/\aB (aA i_2)<aB uN/\Int.toNat (aB (aA i_2))<List.length (rowAt fK dD)/\True)/\∃ (i':{ c:Nat // aA i<=c }),wdM x-aA i'<wdM x-aA i_2/\IntKind.wrap IntKind.i64 (aB (aA i_2)+1)=aB (aA i')/\List.set fK dD (List.set (rowAt fK dD) C₂ (eU (1 / rdm x (aA i) (kk x (aA i)) (aA i)*aH.x uM)))=bG x.length (wdM x) (scl dH aT (aA i) (aA i') bV)/\cZ (rdp x (aA i))=cZ (rdp x (aA i))/\1 / rdm x (aA i) (kk x (aA i)) (aA i)=1 / rdm x (aA i) (kk x (aA i)) (aA i)/\True) ((asT Int 0=0/\bG x.length (wdM x) C₁=bG x.length (wdM x) (elm A₁ aT (aA i) 0)/\cZ (rdp x (aA i))=cZ (rdp x (aA i))/\True)/\∀ (i_3:{ i:Nat // i<=List.length x }),let yN:=(elm A₁ aT (aA i) (aA i_3));let C₃:=(bG x.length (wdM x) yN);let QB:=(aB (aA i_3)).toNat;let wS:=(nameAt none QB);let jD:=(rowAt C₃ wS);let rF:=(List.getD jD eP { ok:=false,x:=0,g:=aF Nat,h:=aF Nat });let QD:=(aB (aA i_3) != aB aJ);let gV:=(QD==true);asT Bool true=true/\ifB (decide (aB (aA i_3)<aB (aN none fK))) (((gV=true->gV=true/\gV=true/\0<=aB (aA i_3)/\aB (aA i_3)<aB (aN none C₃)/\True)/\(gV=true->gV=true/\Int.toNat (aB (aA i_3))<aN none C₃/\True)/\(gV=true->gV=true/\gV=true/\0<=aB (aA i)/\aB (aA i)<aB jD.length/\True)/\(gV=true->gV=true/\Int.toNat (aB (aA i))<List.length jD/\True)/\(gV=true->gV=true/\aH.ok rF=true/\rsz (aH.x rF)<=1000000000/\True)/\(gV=true->gV=true/\True)/\(QD=true->gV=true)/\True)/\ifB (bif aB (aA i_3) != aB aJ then sgn (Rat.num (aH.x rF)) != 0 else false) ((0<=aB (aA i_3)/\aB (aA i_3)<aB (aN none C₃)/\Int.toNat (aB (aA i_3))<aN none C₃/\0<=aB aJ/\aB aJ<aB (aN none C₃)/\Int.toNat (aB aJ)<aN none C₃/\0<=aB (aA i_3)/\aB (aA i_3)<aB (aN none C₃)/\Int.toNat (aB (aA i_3))<aN none C₃/\0<=aB (aA i)/\aB (aA i)<aB jD.length/\Int.toNat (aB (aA i))<List.length jD/\nameAt none (aB aJ).toNat≠nameAt none QB/\kM (fun(x:Ty.den (Ty.lf Lf.iL))=>dJ ((aH.ok x=true)::aF Cd)) (rowAt C₃ dD)/\aH.ok rF=true/\((∀ (q:aH),q ∈ rowAt C₃ wS->q=eU (aH.x q))/\List.length jD=List.length (List.map A₀ (rowAt C₃ dD))/\List.length jD<=1000/\0<=aB (aA i)/\(∀ (q:aH),q ∈ rowAt C₃ wS->rsz (aH.x q)<=400000000)/\rsz (aH.x rF)<=100000000/\∀ (q:Rat),q ∈ List.map A₀ (rowAt C₃ dD)->rsz q<=100000000)/\True)/\∃ (i':{ i:Nat // i<=List.length x }),List.length x-aA i'<List.length x-aA i_3/\IntKind.wrap IntKind.i64 (aB (aA i_3)+1)=aB (aA i')/\List.set C₃ wS (pI jD (List.map A₀ (rowAt C₃ dD)) (aH.x rF) eP jD.length)=bG x.length (wdM x) (elm A₁ aT (aA i) (aA i'))/\cZ (rdp x (aA i))=cZ (rdp x (aA i))/\True) (∃ (i':{ i:Nat // i<=List.length x }),List.length x-aA i'<List.length x-aA i_3/\IntKind.wrap IntKind.i64 (aB (aA i_3)+1)=aB (aA i')/\bG x.length (wdM x) yN=bG x.length (wdM x) (elm A₁ aT (aA i) (aA i'))/\cZ (rdp x (aA i))=cZ (rdp x (aA i))/\True)) ((List.length (cZ (rdp x (aA i)))+List.length (aB (aA i)::aF Int)<=1000000000/\True)/\∃ (i':{ j:Nat // j<=Int.toNat n }),Int.toNat n-aA i'<Int.toNat n-aA i/\IntKind.wrap IntKind.i64 (aB (aA i)+1)=aB (aA i')/\bG x.length (wdM x) yN=bG x.length (wdM x) (rdm x (aA i'))/\cZ (rdp x (aA i))++aB (aA i)::aF Int=cZ (rdp x (aA i'))/\True))))) (True/\cZ (rdp x (aA i))=cZ (rdp x n.toNat)/\bG x.length (wdM x) (rdm x n.toNat)=bG x.length (wdM x) (rdm x (aA i)))) (by kernel_rfl) ?_
 exact b7U x n hp
abbrev TUn:List Ty:=[]
def b4G (c:(nest TUn).den) (i j:Int):Prop:=0<=i/\0<=j
def gUn (c:(nest TUn).den) (i j:Nat):Rat:=idm i j
theorem WW:aI Tryz.prog 221 (a3s TUn b4G gUn):=by
 refine kS (nil0.ad DK) [4] Tryz.func221 rfl (by decide) (fun x=>[]) (fun x hp=>?_)
 obtain⟨i,j,c⟩:=x
 change Int at i
 change Int at j
 have hu:c=():=rfl
 refine aU (ifB (i==j) ((aX 1/\True)/\True/\aO 1=gUn c i.toNat j.toNat/\True) ((aX 0/\True)/\True/\aO 0=gUn c i.toNat j.toNat/\True)) (by kernel_rfl) ?_
 try dsimp only[aB,asT,aA,aF] at *
 have h1:0<=i/\0<=j:=hp
 refine aC.mpr ⟨fun h=>⟨⟨by unfold aX;omega,trivial⟩,trivial,?_,trivial⟩,fun h=>⟨⟨by unfold aX;omega,trivial⟩,trivial,?_,trivial⟩⟩
 ·have h:i=j:=by simpa using h
  show ((1:Int):Rat)=if i.toNat=j.toNat then 1 else 0
  rw[jm (by rw[h])];rfl
 ·have h:i≠j:=by simpa using h
  show ((0:Int):Rat)=if i.toNat=j.toNat then 1 else 0
  rw[ji (by omega)];rfl
abbrev TBe:List Ty:=[.ref tM,.ref tM]
def b4B (c:(nest TBe).den) (i j:Int):Prop:=0<=i/\i.toNat<(show MQ from c.1).length/\i.toNat<(show MQ from c.2.1).length/\0<=j/\(show MQ from c.1).length<=1000/\((show MQ from c.1).getD i.toNat []).length=wdM (show MQ from c.1)/\j.toNat<wdM (show MQ from c.1)+((show MQ from c.2.1).getD i.toNat []).length/\j<=1000
def gBe (c:(nest TBe).den) (i j:Nat):Rat:=fD (wdM (show MQ from c.1)) (ent c.1) (ent c.2.1) i j
theorem WR:aI Tryz.prog 274 (a3s TBe b4B gBe):=by
 refine kS nil0 [6] Tryz.func274 rfl (by decide) (fun x=>[]) (fun x hp=>?_)
 obtain⟨i,j,c⟩:=x
 change Int at i
 change Int at j
 obtain⟨a,b,u⟩:=c
 change List (List Rat) at a
 change List (List Rat) at b
 refine aU ((asT Int 0<=0/\0<aB a.length/\True)/\ifB (decide (j<aB (List.getD a 0 (aF Rat)).length)) ((0<=i/\i<aB a.length/\0<=j/\j<aB (List.getD a i.toNat (aF Rat)).length/\True)/\True/\List.getD (List.getD a i.toNat (aF Rat)) j.toNat 0=gBe (a,b,u) i.toNat j.toNat/\True) ((0<=i/\i<aB b.length/\asT Int 0<=0/\0<aB a.length/\0<=IntKind.wrap IntKind.i64 (j-aB (List.getD a 0 (aF Rat)).length)/\IntKind.wrap IntKind.i64 (j-aB (List.getD a 0 (aF Rat)).length)<aB (List.getD b i.toNat (aF Rat)).length/\True)/\True/\List.getD (List.getD b i.toNat (aF Rat)) (IntKind.wrap IntKind.i64 (j-aB (List.getD a 0 (aF Rat)).length)).toNat 0=gBe (a,b,u) i.toNat j.toNat/\True)) (by kernel_rfl) ?_
 try dsimp only[aB,asT,aA,aF] at *
 have h1:0<=i/\i.toNat<a.length/\i.toNat<b.length/\0<=j/\a.length<=1000/\(a.getD i.toNat []).length=wdM a/\j.toNat<wdM a+(b.getD i.toNat []).length/\j<=1000:=hp
 obtain⟨k1,k2,k3,k4,k5,k6,k7,k8⟩:=h1
 have hw:(a.getD 0 []).length=wdM a:=rfl
 rw[hw]
 refine⟨⟨Dh 0,by omega,trivial⟩,aC.mpr ⟨fun h=>?_,fun h=>?_⟩⟩
 ·have h:j<(wdM a:Int):=qw h
  refine⟨⟨k1,by omega,k4,by rw[k6];exact h,trivial⟩,trivial,?_,trivial⟩
  show ent a i.toNat j.toNat=if j.toNat<wdM a then _ else _
  rw[jm (by omega)]
 ·have h:¬ j<(wdM a:Int):=ug h
  have e:IntKind.wrap .i64 (j-(wdM a:Int))=j-(wdM a:Int):=aP (by omega) (by omega)
  rw[e]
  refine⟨⟨k1,by omega,Dh 0,by omega,by omega,by omega,trivial⟩,trivial,?_,trivial⟩
  show ent b i.toNat (j-(wdM a:Int)).toNat=if j.toNat<wdM a then _ else _
  rw[ji (by omega),show (j-(wdM a:Int)).toNat=j.toNat-wdM a by omega]
abbrev TIn:List Ty:=[.ref tMR,.ref tI]
def b4C (c:(nest TIn).den) (i j:Int):Prop:=0<=i/\i.toNat<(show MR from c.1).length/\0<=j/\j<=1000/\0<=(show Int from c.2.1)/\(show Int from c.2.1)<=1000/\(show Int from c.2.1).toNat+j.toNat<((show MR from c.1).getD i.toNat []).length/\(((show MR from c.1).getD i.toNat []).getD ((show Int from c.2.1).toNat+j.toNat) bF).ok=true
def gIn (c:(nest TIn).den) (i j:Nat):Rat:=DU c.1 i ((show Int from c.2.1).toNat+j)
theorem WS:aI Tryz.prog 237 (a3s TIn b4C gIn):=by
 refine kS nil0 [6] Tryz.func237 rfl (by decide) (fun x=>[]) (fun x hp=>?_)
 obtain⟨i,j,c⟩:=x
 change Int at i
 change Int at j
 obtain⟨a,n,u⟩:=c
 change List (List aH) at a
 change Int at n
 refine aU (let A₁:=(List.getD a i.toNat (aF aH));let A₀:=(List.getD A₁ (IntKind.wrap IntKind.i64 (n+j)).toNat { ok:=false,x:=0,g:=aF Nat,h:=aF Nat });(0<=i/\i<aB a.length/\0<=IntKind.wrap IntKind.i64 (n+j)/\IntKind.wrap IntKind.i64 (n+j)<aB A₁.length/\True)/\(aH.ok A₀=true/\True)/\aH.x A₀=gIn (a,n,u) i.toNat j.toNat/\True) (by kernel_rfl) ?_
 try dsimp only[aB,asT,aA,aF] at *
 have h1:0<=i/\i.toNat<a.length/\0<=j/\j<=1000/\0<=n/\n<=1000/\n.toNat+j.toNat<(a.getD i.toNat []).length/\((a.getD i.toNat []).getD (n.toNat+j.toNat) bF).ok=true:=hp
 obtain⟨k1,k2,k3,k4,k5,k6,k7,k8⟩:=h1
 have e:IntKind.wrap .i64 (n+j)=n+j:=aP (by omega) (by omega)
 have e2:(n+j).toNat=n.toNat+j.toNat:=by omega
 rw[e,e2]
 exact⟨⟨k1,by omega,by omega,by omega,trivial⟩,⟨k8,trivial⟩,rfl,trivial⟩
theorem c3q {R C n:Nat} {f:Mt} (hn:n<=C):(red R (DU (bG R C f)) n).2=(red R f n).2/\∀ i,i<R->∀ c,c<C->(red R (DU (bG R C f)) n).1 i c=(red R f n).1 i c:=wL (fun i hi c hc=>QX hi hc) n hn
theorem b1N {R C n:Nat} {f:Mt} (r1:1<=R) (r2:R<=1000) (c1:1<=C) (c2:C<=1000) (hn:n<=C) (H:uD R C f n):b1M (bG R C f) (n:Int):=by
 have hw:wdM (bG R C f)=C:=by show ((bG R C f).getD 0 []).length=C;rw[jK (by omega)];simp
 unfold b1M
 rw[eX,hw]
 refine⟨nG fun i hi j hj=>(QX hi hj).symm,r1,r2,c1,c2,by omega,by omega,fun t ht i hi c hc=>?_⟩
 rw[(c3q (by have:t<=n:=ht;omega)).2 i hi c hc]
 exact H t ht i hi c hc
set_option maxHeartbeats 4000000
def nI (n:Int):Prop:=-4000<=n/\n<=4000
theorem nI.mul {a b:Int} (ha:nI a) (hb:nI b):isz (a*b)<=1:=vU (by
 rw[Int.natAbs_mul]
 have:a.natAbs*b.natAbs<=4000*4000:=xq (by obtain⟨x,y⟩:=ha;omega) (by obtain⟨x,y⟩:=hb;omega)
 have:BB ^ 1=1000000000:=by rw[bM]
 omega)
theorem b7D (n:Nat) (a:Mt) (t:Rat) (x:Nat->Rat) (i:Nat):mv n a (fun c=>t*x c) i=t*mv n a x i:=by
 unfold mv
 rw[<-uI]
 exact dQ n fun c _=>by grind
theorem Ech.one {R n:Nat} {e m:Mt} {p:List Nat} (E:Ech R e n m p) {j:Nat} (hj:j<n) (hjp:j ∉ p) (hf:∀ c,c<n->c ∉ p->c=j) {x:Nat->Rat} (hx:∀ i,i<R->mv n e x i=0):∀ c,c<n->x c=x j*TR m p j c:=fun c hc=>by
 have h:=E.span (x:=fun c=>x c-x j*TR m p j c) (fun i hi=>by
  have e1:=a3R n e x (fun c=>x j*TR m p j c) i
  rw[e1,b7D,hx i hi,E.null hj hjp i hi];grind) (fun c hc hn=>by
  have:=hf c hc hn
  subst this
  show x c-x c*TR m p c c=0
  rw[LV];grind) c hc
 have h:x c-x j*TR m p j c=0:=h
 grind
abbrev kP:Type:=Int × Int × Int × Unit
abbrev aZ:Type:=Int × Int × Int × Int × Unit
abbrev dN:Type:=kP × aZ × Int × c1p × Unit
def nZ (a b:dN):LQ':=[aO (b.1.1-a.1.1),aO (b.1.2.1-a.1.2.1),aO (b.1.2.2.1-a.1.2.2.1)]
noncomputable def c3Q:Ctr:=⟨[FP,FP],[.list tQ],fun x=>(cdI x.1.1.1/\cdI x.1.1.2.1/\cdI x.1.1.2.2.1)/\(cdI x.2.1.1.1/\cdI x.2.1.1.2.1/\cdI x.2.1.1.2.2.1),fun x=>(nZ x.1 x.2.1,())⟩
theorem a8C:aI Tryz.prog 30 c3Q:=by
 refine aK (nil0.ad wM) ⟨[],[],[]⟩ Tryz.func30 rfl (by decide) (fun x=>[]) (fun x hp=>?_)
 obtain⟨a,b,u⟩:=x
 change dN at a
 change dN at b
 refine aU (let A₀:=(IntKind.wrap IntKind.i64 (asT Int b.1.2.2.1-asT Int a.1.2.2.1));let A₁:=(IntKind.wrap IntKind.i64 (asT Int b.1.2.1-asT Int a.1.2.1));let A₂:=(IntKind.wrap IntKind.i64 (asT Int b.1.1-asT Int a.1.1));(aX A₂/\aX A₁/\aX A₀/\True)/\True/\aO A₂::aO A₁::aO A₀::aF Rat=nZ a b/\True) (by kernel_rfl) ?_
 have hZ:(⟨false,0,[],[]⟩:aH)=bF:=rfl
 try simp only[aC,aj,ah]
 try dsimp only[aB,asT,aA,aF,Ty.den,Lf.den] at *
 try simp only[hZ,Int.toNat_natCast,aC,aj,ah,jh,jg,gy,bf]
 try simp only[bT,bP,List.all_cons,List.all_nil,jk,dw,ig,jf,jy,ne_eq,au,bg,dn,eu,jd,oq,jr,ou,jh,jg,iw,bn,List.length_cons,List.length_nil]
 obtain⟨⟨⟨a1,a2⟩,⟨a3,a4⟩,a5,a6⟩,⟨b1,b2⟩,⟨b3,b4⟩,b5,b6⟩:(cdI a.1.1/\cdI a.1.2.1/\cdI a.1.2.2.1)/\(cdI b.1.1/\cdI b.1.2.1/\cdI b.1.2.2.1):=hp
 rw[aP (by omega) (by omega),aP (by omega) (by omega),aP (by omega) (by omega)]
 exact⟨⟨⟨by omega,by omega⟩,⟨by omega,by omega⟩,by omega,by omega⟩,rfl⟩
def NZ (v:LQ'):MQ:=[[aO 0,-lv v 2,lv v 1],[lv v 2,aO 0,-lv v 0],[-lv v 1,lv v 0,aO 0]]
noncomputable def c3Z:Ctr:=⟨[.list tQ],[tM],fun x=>(show LQ' from x.1).length=3/\∀ q ∈ (show LQ' from x.1),rsz q<=1000,fun x=>(NZ x.1,())⟩
theorem a9j:aI Tryz.prog 34 c3Z:=by
 refine aK ((nil0.ad a0P).ad wM) ⟨[3],[],[]⟩ Tryz.func34 rfl (by decide) (fun x=>[]) (fun x hp=>?_)
 obtain⟨v,u⟩:=x
 change List Rat at v
 refine aU ((aX 0/\True)/\(asT Int 0<=2/\2<aB v.length/\rsz (List.getD v 2 0)<=190000000/\asT Int 0<=1/\1<aB v.length/\asT Int 0<=2/\2<aB v.length/\asT Int 0<=0/\0<aB v.length/\rsz (List.getD v 0 0)<=190000000/\asT Int 0<=1/\1<aB v.length/\rsz (List.getD v 1 0)<=190000000/\asT Int 0<=0/\0<aB v.length/\True)/\True/\(aO 0::-List.getD v 2 0::List.getD v 1 0::aF Rat)::(List.getD v 2 0::aO 0::-List.getD v 0 0::aF Rat)::(-List.getD v 1 0::List.getD v 0 0::aO 0::aF Rat)::aF (List Rat)=NZ v/\True) (by kernel_rfl) ?_
 have hZ:(⟨false,0,[],[]⟩:aH)=bF:=rfl
 try simp only[aC,aj,ah]
 try dsimp only[aB,asT,aA,aF,Ty.den,Lf.den] at *
 try simp only[hZ,Int.toNat_natCast,aC,aj,ah,jh,jg,gy,bf]
 try simp only[bT,bP,List.all_cons,List.all_nil,jk,dw,ig,jf,jy,ne_eq,au,bg,dn,eu,jd,oq,jr,ou,jh,jg,iw,bn,List.length_cons,List.length_nil]
 obtain⟨h3,hs⟩:v.length=3/\∀ q ∈ v,rsz q<=1000:=hp
 have b:∀ i,i<3->rsz (v.getD i 0)<=1000:=fun i hi=>bU hs (by omega)
 have b0:=b 0 (by omega)
 have b1:=b 1 (by omega)
 have b2:=b 2 (by omega)
 exact⟨by decide,⟨by omega,by omega,by omega,by omega,by omega,by omega,by omega,by omega,by omega,by omega,by omega,by omega,by omega,by omega,by omega⟩,rfl⟩
def qN (a b c d:Int):Int:=a*a+b*b+c*c+d*d
def qM (a b c d:Int):Nat->Nat->Int
 | 0=>fun|0=>a*a+b*b-c*c-d*d|1=>2*(b*c-a*d)|_=>2*(b*d+a*c)
 | 1=>fun|0=>2*(b*c+a*d)|1=>a*a-b*b+c*c-d*d|_=>2*(c*d-a*b)
 | _=>fun|0=>2*(b*d-a*c)|1=>2*(c*d+a*b)|_=>a*a-b*b-c*c+d*d
def qR (a b c d:Int):Mt:=fun i j=>Rat.divInt (qM a b c d i j) (qN a b c d)
theorem three {i:Nat} (h:i<3):i=0\/i=1\/i=2:=by omega
theorem MB {a b c d:Int} (h:¬ (a=0/\b=0/\c=0/\d=0)):0<qN a b c d:=by
 have s:∀ x:Int,0<=x*x:=fun x=>by
  rcases Int.le_total 0 x with h|h
  ·exact Int.mul_nonneg h h
  ·exact Int.mul_nonneg_of_nonpos_of_nonpos h h
 have p:∀ x:Int,x≠0->0<x*x:=fun x hx=>by
  rcases Int.lt_or_gt_of_ne hx with h|h
  ·exact Int.mul_pos_of_neg_of_neg h h
  ·exact Int.mul_pos h h
 unfold qN
 have:=s a;have:=s b;have:=s c;have:=s d
 by_cases ha:a=0
 ·by_cases hb:b=0
  ·by_cases hc:c=0
   ·have:=p d (fun e=>h ⟨ha,hb,hc,e⟩);omega
   ·have:=p c hc;omega
  ·have:=p b hb;omega
 ·have:=p a ha;omega
theorem b4X (a b c d:Int) {i j:Nat} (hi:i<3) (hj:j<3):qM a b c d i 0*qM a b c d j 0+qM a b c d i 1*qM a b c d j 1+qM a b c d i 2*qM a b c d j 2=if i=j then qN a b c d*qN a b c d else 0:=by
 rcases three hi with rfl|rfl|rfl<;>rcases three hj with rfl|rfl|rfl<;>simp only[qM,qN]<;>grind
theorem b4I {n x0 x1 x2 y0 y1 y2 e:Int} (h:n≠0) {t:Rat} (h1:x0*y0+x1*y1+x2*y2=e) (he:(e:Rat)=t*((n:Rat)*(n:Rat))):Rat.divInt x0 n*Rat.divInt y0 n+Rat.divInt x1 n*Rat.divInt y1 n+Rat.divInt x2 n*Rat.divInt y2 n=t:=by
 have hn:(n:Rat)≠0:=fun e=>h (Rat.intCast_inj.1 e)
 have hi:=Bq _ hn
 have h2:(x0:Rat)*y0+x1*y1+x2*y2=e:=by rw[<-h1];simp only[Rat.intCast_add,yg]
 simp only[Dq,Rat.div_def]
 generalize (n:Rat)⁻¹=m at *
 generalize (n:Rat)=k at *
 grind
theorem sm3 (f:Nat->Rat):sm 3 f=f 0+f 1+f 2:=by
 show 0+f 0+f 1+f 2=_
 rw[Rat.zero_add]
theorem b4Y {a b c d:Int} (h:qN a b c d≠0) {i j:Nat} (hi:i<3) (hj:j<3):sm 3 (fun k=>qR a b c d i k*qR a b c d j k)=idm i j:=by
 rw[sm3]
 refine b4I h (b4X a b c d hi hj) ?_
 unfold idm
 split
 ·rw[Rat.one_mul,yg]
 ·rw[Rat.zero_mul];rfl
def crE (t:Nat->Rat):Mt
 | 0=>fun|0=>0|1=>- t 2|_=>t 1
 | 1=>fun|0=>t 2|1=>0|_=>- t 0
 | _=>fun|0=>- t 1|1=>t 0|_=>0
def epi (iB N T M iA:Mt):Mt:=mm 3 (mm 3 (mm 3 (mm 3 (tr iB) (tr N)) T) M) iA
def a1s (M:Mt):Prop:=∀ i,i<3->∀ j,j<3->mm 3 M (tr M) i j=idm i j
theorem a5X {M:Mt} (h:a1s M) (u:Nat->Rat) {i:Nat} (hi:i<3):mv 3 M (mv 3 (tr M) u) i=u i:=by
 rw[<-TM,AA (b:=idm) (fun c hc=>h i hi c hc),b1f hi]
theorem b6S (iB N T M iA:Mt) (x:Nat->Rat):mv 3 (epi iB N T M iA) x=mv 3 (tr iB) (mv 3 (tr N) (mv 3 T (mv 3 M (mv 3 iA x)))):=by
 funext i
 unfold epi
 rw[TM,TM,TM,TM]
theorem a5i {A B iA iB N M T:Mt} (hA:sK 3 A iA) (hB:sK 3 B iB) (hN:a1s N) (hM:a1s M) (u v:Nat->Rat) :
  dt 3 (mv 3 B (mv 3 (tr N) v)) (mv 3 (epi iB N T M iA) (mv 3 A (mv 3 (tr M) u)))=dt 3 v (mv 3 T u):=by
 rw[b6S,b5V,b6x,QV (fun i hi=>hB.mvl _ hi),b5V,b6x,QV (fun i hi=>a5X hN v hi)]
 refine QW fun i _=>TL fun c hc=>?_
 rw[TL (fun k hk=>hA.mvl _ hk),a5X hM u hc]
theorem tri (t u v:Nat->Rat):dt 3 v (mv 3 (crE t) u)=v 0*(t 1*u 2-t 2*u 1)+v 1*(t 2*u 0-t 0*u 2)+v 2*(t 0*u 1-t 1*u 0):=by
 unfold dt mv
 rw[sm3,sm3,sm3,sm3]
 simp only[crE]
 grind
theorem c5c (n:Nat) (a:Mt) (t:Rat) (x:Nat->Rat) (i:Nat):mv n a (fun c=>t*x c) i=t*mv n a x i:=by
 unfold mv
 rw[<-uI]
 exact dQ n fun c _=>by grind
theorem a9B {A B iA iB N M T:Mt} (hA:sK 3 A iA) (hB:sK 3 B iB) (hN:a1s N) (hM:a1s M) {u v x y:Nat->Rat} {k l:Rat} (hk:k≠0) (hl:l≠0)
  (hx:∀ i,i<3->mv 3 A (mv 3 (tr M) u) i=k*x i) (hy:∀ i,i<3->mv 3 B (mv 3 (tr N) v) i=l*y i) (h0:dt 3 v (mv 3 T u)=0):dt 3 y (mv 3 (epi iB N T M iA) x)=0:=by
 have h:=a5i (T:=T) hA hB hN hM u v
 rw[h0,QV hy,QW (fun i _=>TL hx)] at h
 have e:dt 3 (fun i=>l*y i) (mv 3 (epi iB N T M iA) fun c=>k*x c)=l*k*dt 3 y (mv 3 (epi iB N T M iA) x):=by
  unfold dt
  rw[<-uI]
  exact dQ 3 fun i _=>by rw[c5c];grind
 rw[e] at h
 rcases Rat.mul_eq_zero.1 h with h|h
 ·rcases Rat.mul_eq_zero.1 h with h|h
  ·exact absurd h hl
  ·exact absurd h hk
 ·exact h
theorem b6T {A B iA iB N M:Mt} {t:Nat->Rat} (hA:sK 3 A iA) (hB:sK 3 B iB) (hN:a1s N) (hM:a1s M) (h0:∀ i,i<3->∀ j,j<3->epi iB N (crE t) M iA i j=0):t 0=0/\t 1=0/\t 2=0:=by
 have h:∀ u v:Nat->Rat,dt 3 v (mv 3 (crE t) u)=0:=fun u v=>by
  rw[<-a5i hA hB hN hM u v]
  unfold dt
  refine mQ 3 fun i hi=>?_
  have:mv 3 (epi iB N (crE t) M iA) (mv 3 A (mv 3 (tr M) u)) i=0:=by
   unfold mv
   exact mQ 3 fun j hj=>by rw[h0 i hi j hj,Rat.zero_mul]
  rw[this,Rat.mul_zero]
 have h1:=h (fun i=>if i=2 then 1 else 0) (fun i=>if i=1 then 1 else 0)
 have h2:=h (fun i=>if i=0 then 1 else 0) (fun i=>if i=2 then 1 else 0)
 have h3:=h (fun i=>if i=1 then 1 else 0) (fun i=>if i=0 then 1 else 0)
 rw[tri] at h1 h2 h3
 simp at h1 h2 h3
 exact⟨by grind,by grind,by grind⟩
def kE (f x y:Rat):Mt
 | 0=>fun|0=>f|1=>0|_=>x
 | 1=>fun|0=>0|1=>f|_=>y
 | _=>fun|0=>0|1=>0|_=>1
theorem b6m (f x y:Rat) (d:Nat->Rat):mv 3 (kE f x y) d 0=f*d 0+x*d 2/\mv 3 (kE f x y) d 1=f*d 1+y*d 2/\mv 3 (kE f x y) d 2=d 2:=by
 unfold mv
 rw[sm3,sm3,sm3]
 simp only[kE]
 exact⟨by grind,by grind,by grind⟩
theorem b0C {f x y:Rat} (hf:f≠0) {d:Nat->Rat} (h:∀ i,i<3->mv 3 (kE f x y) d i=0):∀ c,c<3->d c=0:=fun c hc=>by
 obtain⟨a,b,e⟩:=b6m f x y d
 rw[h 0 (by omega)] at a
 rw[h 1 (by omega)] at b
 rw[h 2 (by omega)] at e
 have m0:f*d 0=0:=by grind
 have m1:f*d 1=0:=by grind
 rcases three hc with rfl|rfl|rfl
 ·exact(Rat.mul_eq_zero.1 m0).resolve_left hf
 ·exact(Rat.mul_eq_zero.1 m1).resolve_left hf
 ·exact e.symm
def b0l (f x y:Rat) (d:Nat->Rat):Nat->Rat
 | 0=>f*d 0 / d 2+x
 | 1=>f*d 1 / d 2+y
 | _=>1
theorem b0B {f x y:Rat} {d:Nat->Rat} (hd:d 2≠0) {i:Nat} (hi:i<3):mv 3 (kE f x y) d i=d 2*b0l f x y d i:=by
 obtain⟨a,b,e⟩:=b6m f x y d
 have m:=Bq _ hd
 rcases three hi with rfl|rfl|rfl
 ·rw[a];simp only[b0l,Rat.div_def];grind
 ·rw[b];simp only[b0l,Rat.div_def];grind
 ·rw[e];simp only[b0l];grind
def qOk (q:aZ):Prop:=¬ (q.1=0/\q.2.1=0/\q.2.2.1=0/\q.2.2.2.1=0)/\cdI q.1/\cdI q.2.1/\cdI q.2.2.1/\cdI q.2.2.2.1
def JR (p:kP):Prop:=cdI p.1/\cdI p.2.1/\cdI p.2.2.1
def nX (s:dN):Prop:=JR s.1/\qOk s.2.1/\(1<=s.2.2.1/\s.2.2.1<=1048576)/\cdP s.2.2.2.1
def qE (q:aZ):Mt:=qR q.1 q.2.1 q.2.2.1 q.2.2.2.1
def w3 (n:Int):Nat:=if n=n then 3 else 3
theorem b6A (n:Int):w3 n=3:=by unfold w3;split<;>rfl
def qMx (q:aZ):MQ:=tab (w3 q.1) 3 (qE q)
theorem LY (q:aZ):qMx q=tab 3 3 (qE q):=by unfold qMx;rw[b6A]
def stK (s:dN):Mt:=kE (aO s.2.2.1) (aO s.2.2.2.1.1) (aO s.2.2.2.1.2.1)
def dO (s:dN):MQ:=tab (w3 s.2.2.1) 3 (stK s)
theorem CU (s:dN):dO s=tab 3 3 (stK s):=by unfold dO;rw[b6A]
def FM (a b:dN):MQ:=mulM (mulM (mulM (mulM (trM (kD (dO b))) (trM (qMx b.2.1))) (NZ (nZ a b))) (qMx a.2.1)) (kD (dO a))
theorem eqQ (x:aZ):eqD yM x (0,0,0,0,())=decide (x.1=0/\x.2.1=0/\x.2.2.1=0/\x.2.2.2.1=0):=by
 show (x.1==0&&(x.2.1==0&&(x.2.2.1==0&&(x.2.2.2.1==0&&true))))=_
 rw[Bool.eq_iff_iff]
 simp
theorem b3C (x y:kP):eqD a6B x y=decide (x.1=y.1/\x.2.1=y.2.1/\x.2.2.1=y.2.2.1):=by
 show (x.1==y.1&&(x.2.1==y.2.1&&(x.2.2.1==y.2.2.1&&true)))=_
 rw[Bool.eq_iff_iff]
 simp
set_option maxHeartbeats 400000
theorem i33 {f:Mt}:isM (tab 3 3 f) 3 3:=qK (by omega) (by omega) (by omega) (by omega)
theorem q33 (q:aZ):isM (qMx q) 3 3:=by rw[LY];exact i33
theorem nK (s:dN):isM (dO s) 3 3:=by rw[CU];exact i33
theorem a0g (v:LQ'):NZ v=tab 3 3 (crE (lv v)):=rfl
theorem EH (v:LQ'):isM (NZ v) 3 3:=by rw[a0g];exact i33
theorem nM {a:MQ} (h:isM a 3 3):isM (kD a) 3 3:=h.inv
theorem a8t (a b:dN):isM (FM a b) 3 3:=((((nM (nK b)).trp.mul (q33 b.2.1).trp).mul (EH _)).mul (q33 a.2.1)).mul (nM (nK a))
theorem GU {x y:MQ} {f g:Mt} (hx:isM x 3 3) (hy:isM y 3 3) (h1:∀ i,i<3->∀ j,j<3->ent x i j=f i j) (h2:∀ i,i<3->∀ j,j<3->ent y i j=g i j):∀ i,i<3->∀ j,j<3->ent (mulM x y) i j=mm 3 f g i j:=fun i hi j hj=>by
 unfold mulM
 rw[hx.len,hy.wd,hy.len,jQ hi hj]
 exact dQ 3 fun k hk=>by rw[h1 i hi k hk,h2 k hk j hj]
theorem a0m {x:MQ} {f:Mt} (hx:isM x 3 3) (h1:∀ i,i<3->∀ j,j<3->ent x i j=f i j):∀ i,i<3->∀ j,j<3->ent (trM x) i j=tr f i j:=fun i hi j hj=>by
 unfold trM
 rw[hx.len,hx.wd,jQ hi hj]
 exact h1 j hj i hi
def iK (s:dN):Mt:=ent (kD (dO s))
theorem b2t {s:dN} (h:nX s):aO s.2.2.1≠0:=fun e=>by
 have e:((s.2.2.1:Int):Rat)=((0:Int):Rat):=e
 have:=Rat.intCast_inj.1 e
 have:=h.2.2.1.1
 omega
theorem a0y {s:dN} (h:nX s):sK 3 (stK s) (iK s):=by
 have hm:isM (dO s) 3 3:=nK s
 have he:∀ i,i<3->∀ j,j<3->ent (dO s) i j=stK s i j:=fun i hi j hj=>by rw[CU];exact jQ hi hj
 have hr:(red 3 (fD 3 (ent (dO s)) idm) 3).2.length=3:=(a0z idm).mpr fun x hx=>b0C (b2t h) fun i hi=>by
  rw[<-hx i hi]
  exact AA fun c hc=>(he i hi c hc).symm
 have H:=inv_of hr
 have hi2:∀ i,i<3->∀ j,j<3->iK s i j=(red 3 (fD 3 (ent (dO s)) idm) 3).1 i (3+j):=fun i hi j hj=>by
  unfold iK kD EX
  rw[hm.len,jQ hi hj]
 refine⟨fun i hi j hj=>?_,fun i hi j hj=>?_⟩
 ·rw[<-H.r i hi j hj]
  exact dQ 3 fun k hk=>by rw[he i hi k hk,hi2 k hk j hj]
 ·rw[<-H.l i hi j hj]
  exact dQ 3 fun k hk=>by rw[he k hk j hj,hi2 i hi k hk]
theorem b7V {s:dN} (h:nX s):DZ (dO s)=true:=by
 have hm:isM (dO s) 3 3:=nK s
 unfold DZ EX
 rw[hm.len]
 exact uf ((a0z idm).mpr fun x hx=>b0C (b2t h) fun i hi=>by
  rw[<-hx i hi]
  exact AA fun c hc=>by rw[CU];exact(jQ hi hc).symm)
theorem PD {q:aZ} (h:qOk q):a1s (qE q):=fun i hi j hj=>b4Y (by have:=MB h.1;unfold qE at *;omega) hi hj
theorem a8u (a b:dN):∀ i,i<3->∀ j,j<3->ent (FM a b) i j=epi (iK b) (qE b.2.1) (crE (lv (nZ a b))) (qE a.2.1) (iK a) i j:=by
 have hq:∀ q:aZ,∀ i,i<3->∀ j,j<3->ent (qMx q) i j=qE q i j:=fun q i hi j hj=>by rw[LY];exact jQ hi hj
 have h1:=a0m (nM (nK b)) (f:=iK b) fun i hi j hj=>rfl
 have h2:=a0m (q33 b.2.1) (hq b.2.1)
 have h3:=GU (nM (nK b)).trp (q33 b.2.1).trp h1 h2
 have h4:=GU ((nM (nK b)).trp.mul (q33 b.2.1).trp) (EH (nZ a b)) h3 (g:=crE (lv (nZ a b))) fun i hi j hj=>by rw[a0g];exact jQ hi hj
 have h5:=GU (((nM (nK b)).trp.mul (q33 b.2.1).trp).mul (EH (nZ a b))) (q33 a.2.1) h4 (hq a.2.1)
 exact GU ((((nM (nK b)).trp.mul (q33 b.2.1).trp).mul (EH (nZ a b))).mul (q33 a.2.1)) (nM (nK a)) h5 (g:=iK a) fun i hi j hj=>rfl
theorem a8T {f:Mt} {K:Nat} (hK:1<=K) (h:∀ i,i<3->∀ j,j<3->∃ z:Int,f i j=aO z/\isz z<=K):CdM (tab 3 3 f) K:=BH (by omega) ⟨1,by omega,iq (by decide +kernel) hK,fun i hi j hj=>by
 obtain⟨z,h1,h2⟩:=h i hi j hj
 refine⟨z,?_,h2⟩
 rw[h1]
 show _*(1:Rat)=_
 rw[Rat.mul_one]⟩
theorem a7u {z:Int} (h:z.natAbs<=4194304):isz z<=1:=vU (by unfold BB;omega)
theorem cdI.s1 {n:Int} (h:cdI n):isz n<=1:=a7u (by obtain⟨a,b⟩:=h;omega)
theorem WH {s:dN} (h:nX s):CdM (dO s) 1:=by
 rw[CU]
 refine a8T (ay _) fun i hi j hj=>?_
 have z:isz 0<=1:=by decide +kernel
 have o:isz 1<=1:=by decide +kernel
 have f1:isz s.2.2.1<=1:=a7u (by have:=h.2.2.1;omega)
 rcases three hi with rfl|rfl|rfl<;>rcases three hj with rfl|rfl|rfl
 ·exact⟨_,rfl,f1⟩
 ·exact⟨0,rfl,z⟩
 ·exact⟨_,rfl,h.2.2.2.1.s1⟩
 ·exact⟨0,rfl,z⟩
 ·exact⟨_,rfl,f1⟩
 ·exact⟨_,rfl,h.2.2.2.2.s1⟩
 ·exact⟨0,rfl,z⟩
 ·exact⟨0,rfl,z⟩
 ·exact⟨1,rfl,o⟩
theorem cdI.d {a b:Int} (h:cdI a) (g:cdI b):isz (a-b)<=1/\isz (-(a-b))<=1:=⟨a7u (by obtain⟨x,y⟩:=h;obtain⟨z,w⟩:=g;omega),a7u (by obtain⟨x,y⟩:=h;obtain⟨z,w⟩:=g;omega)⟩
theorem a3w {a b:dN} (h:nX a) (g:nX b):CdM (NZ (nZ a b)) 1:=by
 rw[a0g]
 refine a8T (ay _) fun i hi j hj=>?_
 have z:isz 0<=1:=by decide +kernel
 obtain⟨x1,x2⟩:=g.1.1.d h.1.1
 obtain⟨y1,y2⟩:=g.1.2.1.d h.1.2.1
 obtain⟨w1,w2⟩:=g.1.2.2.d h.1.2.2
 rcases three hi with rfl|rfl|rfl<;>rcases three hj with rfl|rfl|rfl
 ·exact⟨0,rfl,z⟩
 ·exact⟨_,(Rat.intCast_neg _).symm,w2⟩
 ·exact⟨_,rfl,y1⟩
 ·exact⟨_,rfl,w1⟩
 ·exact⟨0,rfl,z⟩
 ·exact⟨_,(Rat.intCast_neg _).symm,x2⟩
 ·exact⟨_,(Rat.intCast_neg _).symm,y2⟩
 ·exact⟨_,rfl,x1⟩
 ·exact⟨0,rfl,z⟩
theorem cdI.nV {a b:Int} (h:cdI a) (g:cdI b):-1099511627776<=a*b/\a*b<=1099511627776:=by
 have:=h.mul g
 omega
theorem YM {q:aZ} (h:qOk q) {i j:Nat} (hi:i<3) (hj:j<3):(qM q.1 q.2.1 q.2.2.1 q.2.2.2.1 i j).natAbs<=8796093022208/\(qN q.1 q.2.1 q.2.2.1 q.2.2.2.1).natAbs<=8796093022208:=by
 obtain⟨qa,qb,qc,qd,u⟩:=q
 obtain⟨h0,a,b,c,d⟩:=h
 clear h0
 dsimp only at *
 have aa:=a.nV a
 have ab:=a.nV b
 have ac:=a.nV c
 have ad:=a.nV d
 have bb:=b.nV b
 have bc:=b.nV c
 have bd:=b.nV d
 have cc:=c.nV c
 have cd:=c.nV d
 have dd:=d.nV d
 clear a b c d
 refine⟨?_,?_⟩
 ·rcases three hi with rfl|rfl|rfl<;>rcases three hj with rfl|rfl|rfl<;>simp only[qM]<;>omega
 ·unfold qN;omega
theorem b7R (a b c d:Int) (h:0<qN a b c d) (i j:Nat):qR a b c d i j*((qN a b c d).toNat:Nat)=aO (qM a b c d i j):=by
 have hn:aO (qN a b c d)≠0:=fun e=>by
  have e:((qN a b c d:Int):Rat)=((0:Int):Rat):=e
  have:=Rat.intCast_inj.1 e
  omega
 have e:(((qN a b c d).toNat:Nat):Rat)=aO (qN a b c d):=by
  rw[<-Rat.intCast_natCast,Int.toNat_of_nonneg (by omega)]
 rw[e]
 unfold qR
 rw[Dq,Rat.div_def,Rat.mul_assoc,Rat.mul_comm _ (aO _),Bq _ hn,Rat.mul_one]
theorem VJ {q:aZ} (h:qOk q):CdM (qMx q) 2:=by
 rw[LY]
 exact BH (by omega) ⟨(qN q.1 q.2.1 q.2.2.1 q.2.2.2.1).toNat,by have:=MB h.1;omega,by
  have:=(YM h (i:=0) (j:=0) (by omega) (by omega)).2
  have e:=vU (k:=2) (x:=qN q.1 q.2.1 q.2.2.1 q.2.2.2.1) (by unfold BB;omega)
  have hp:=MB h.1
  unfold isz at e
  rw[show (qN q.1 q.2.1 q.2.2.1 q.2.2.2.1).toNat=(qN q.1 q.2.1 q.2.2.1 q.2.2.2.1).natAbs by omega]
  exact e,fun i hi j hj=>⟨_,b7R _ _ _ _ (MB h.1) i j,vU (by have:=(YM h hi hj).1;unfold BB;omega)⟩⟩
theorem a8v {a b:dN} (h:nX a) (g:nX b):m33 100 (FM a b):=by
 have hi:∀ s:dN,isM (dO s) 3 3:=nK
 have c1:=((WH g).inv (hi b)).trp (nM (hi b))
 have c2:=c1.mul ((VJ g.2.1).trp (q33 _)) (nM (hi b)).trp (q33 _).trp
 have c3:=c2.mul (a3w h g) ((nM (hi b)).trp.mul (q33 _).trp) (EH _)
 have c4:=c3.mul (VJ h.2.1) (((nM (hi b)).trp.mul (q33 _).trp).mul (EH _)) (q33 _)
 have c5:=c4.mul ((WH h).inv (hi a)) ((((nM (hi b)).trp.mul (q33 _).trp).mul (EH _)).mul (q33 _)) (nM (hi a))
 exact⟨a8t a b,c5.sz (by omega)⟩
theorem c1n {a b:dN} (h:nX a) (g:nX b) (hne:¬ (a.1.1=b.1.1/\a.1.2.1=b.1.2.1/\a.1.2.2.1=b.1.2.2.1)):∃ q ∈ (FM a b).flatten,q≠0:=by
 apply Classical.byContradiction
 intro hc
 have hz:∀ i,i<3->∀ j,j<3->ent (FM a b) i j=0:=fun i hi j hj=>Classical.byContradiction fun h0=>hc ⟨_,List.mem_flatten.2 ⟨(FM a b).getD i [],nJ (by rw[(a8t a b).len];exact hi),nJ (d:=(0:Rat)) (by rw[(a8t a b).2.1 _ (nJ (by rw[(a8t a b).len];exact hi))];exact hj)⟩,h0⟩
 obtain⟨e0,e1,e2⟩:=b6T (a0y h) (a0y g) (PD g.2.1) (PD h.2.1) (t:=lv (nZ a b)) fun i hi j hj=>by rw[<-a8u a b i hi j hj];exact hz i hi j hj
 have z:∀ x y:Int,aO (x-y)=0->y=x:=fun x y e=>by
  have e:((x-y:Int):Rat)=((0:Int):Rat):=e
  have:=Rat.intCast_inj.1 e
  omega
 exact hne ⟨z _ _ e0,z _ _ e1,z _ _ e2⟩
theorem a4K {a b:dN} (h:nX a) (g:nX b) (hne:¬ (a.1.1=b.1.1/\a.1.2.1=b.1.2.1/\a.1.2.2.1=b.1.2.2.1)):yQ (FM a b).flatten/\(FM a b).flatten.length=9:=by
 obtain⟨l9,hs⟩:=(a8v h g).flat
 exact⟨⟨by omega,fun q hq=>iq (hs q hq) (by omega),c1n h g hne⟩,l9⟩
def a0O (s:dN) (p:kP):LQ':=[aO (p.1-s.1.1),aO (p.2.1-s.1.2.1),aO (p.2.2.1-s.1.2.2.1)]
def jV (s:dN) (p:kP):LQ':=mvL (trM (qMx s.2.1)) (a0O s p)
def vT (s:dN) (p:kP):LQ':=[aO s.2.2.1*lv (jV s p) 0 / lv (jV s p) 2+aO s.2.2.2.1.1,aO s.2.2.1*lv (jV s p) 1 / lv (jV s p) 2+aO s.2.2.2.1.2.1,aO 1]
theorem KI (s:dN) (p:kP) {i:Nat} (hi:i<3):lv (jV s p) i=mv 3 (tr (qE s.2.1)) (lv (a0O s p)) i:=by
 have hm:isM (trM (qMx s.2.1)) 3 3:=(q33 _).trp
 unfold jV mvL
 rw[hm.len,hm.wd]
 rw[show lv ((List.range 3).map (mv 3 (ent (trM (qMx s.2.1))) (lv (a0O s p)))) i=mv 3 (ent (trM (qMx s.2.1))) (lv (a0O s p)) i from fM hi]
 exact AA fun c hc=>a0m (q33 _) (fun i hi j hj=>by rw[LY];exact jQ hi hj) i hi c hc
theorem b0m (s:dN) (p:kP) {i:Nat} (hi:i<3):lv (vT s p) i=b0l (aO s.2.2.1) (aO s.2.2.2.1.1) (aO s.2.2.2.1.2.1) (mv 3 (tr (qE s.2.1)) (lv (a0O s p))) i:=by
 rcases three hi with rfl|rfl|rfl
 ·show _ / _+_=_ / _+_
  rw[KI s p (by omega),KI s p (by omega)]
 ·show _ / _+_=_ / _+_
  rw[KI s p (by omega),KI s p (by omega)]
 ·rfl
theorem b0s (a b:Int):aO (a-b)=aO a-aO b:=Rat.intCast_sub a b
theorem a7K {a b:dN} (h:nX a) (g:nX b) (p:kP) (ha:lv (jV a p) 2≠0) (hb:lv (jV b p) 2≠0):dt 3 (lv (vT b p)) (mv 3 (ent (FM a b)) (lv (vT a p)))=0:=by
 rw[KI a p (by omega)] at ha
 rw[KI b p (by omega)] at hb
 have e:=a9B (T:=crE (lv (nZ a b))) (x:=lv (vT a p)) (y:=lv (vT b p)) (a0y h) (a0y g) (PD g.2.1) (PD h.2.1) ha hb
  (fun i hi=>by rw[b0m a p hi];exact b0B ha hi) (fun i hi=>by rw[b0m b p hi];exact b0B hb hi) (by
   rw[tri]
   show aO (p.1-b.1.1)*(aO (b.1.2.1-a.1.2.1)*aO (p.2.2.1-a.1.2.2.1)-aO (b.1.2.2.1-a.1.2.2.1)*aO (p.2.1-a.1.2.1))+aO (p.2.1-b.1.2.1)*(aO (b.1.2.2.1-a.1.2.2.1)*aO (p.1-a.1.1)-aO (b.1.1-a.1.1)*aO (p.2.2.1-a.1.2.2.1))+aO (p.2.2.1-b.1.2.2.1)*(aO (b.1.1-a.1.1)*aO (p.2.1-a.1.2.1)-aO (b.1.2.1-a.1.2.1)*aO (p.1-a.1.1))=0
   simp only[b0s]
   grind)
 rw[<-e]
 exact QW fun i hi=>AA fun c hc=>a8u a b i hi c hc
end Go.Proofs.YtbkocjmmbkifjaaGreat
