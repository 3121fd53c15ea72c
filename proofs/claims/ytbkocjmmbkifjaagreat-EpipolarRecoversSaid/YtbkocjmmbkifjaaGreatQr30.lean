/-
  Lemmas for the theorem vrecovers28_holds, part 30 of 35.
-/
import Derived.Test.YtbkocjmmbkifjaaGreatQr29
namespace Go.Proofs.YtbkocjmmbkifjaaGreat
open Go Go.RowKit
set_option maxRecDepth 100000
set_option maxHeartbeats 1000000
set_option linter.unusedVariables false
set_option linter.unusedSimpArgs false
noncomputable def c6x:kR:=.chg LKm [tI] [.list tI] (fun x y=>a8g x y.1) (fun x y=>bF (show MR from x).length (wdM (show MR from x)) (rdm x (show Int from y.1).toNat)) (fun x y=>(fG (rdp x (show Int from y.1).toNat),()))
abbrev rz (x:MR) (j:Nat) (m:Mt):Rho:=[(0,.mat 39 47 tR none (bF x.length (wdM x) m) 0),(128,.row 3 tI (fG (rdp x j)) 0)]
theorem b7p:NOk Tryz.prog 236 c6x:=by
 refine a5T (((((nil0.ad yX).ad PD).ad PG).ad b2b).an c4B) ⟨[9],[],[]⟩ Tryz.func236 rfl (by decide) (fun x y=>[.inv {j:Nat // j<=(show Int from y.1).toNat} (fun j=>[(13,.val tI (j.1:Int)),(5,.own 128 0)]++[(6,.any),(7,.any),(8,.any),(9,.any),(10,.any),(11,.any),(14,.any),(15,.any),(16,.any),(17,.any),(18,.any),(19,.any),(20,.any),(21,.any),(22,.any),(23,.any),(24,.any),(25,.any),(26,.any),(27,.any),(28,.any),(29,.any),(30,.any),(31,.any),(32,.any),(33,.any),(34,.any),(35,.any),(36,.any),(37,.any),(38,.any),(39,.any),(40,.any),(41,.any),(42,.any),(43,.any),(44,.any),(45,.any),(46,.any),(47,.any),(48,.any),(49,.any),(50,.any),(51,.any),(52,.any),(53,.any),(54,.any),(55,.any),(56,.any),(57,.any),(58,.any),(59,.any),(60,.any),(61,.any),(62,.any),(63,.any),(64,.any),(65,.any),(66,.any),(67,.any),(68,.any),(69,.any),(70,.any),(71,.any),(72,.any),(73,.any),(74,.any),(75,.any),(76,.any),(77,.any),(78,.any),(79,.any),(80,.any),(81,.any),(82,.any),(83,.any),(84,.any),(85,.any),(86,.any),(87,.any),(88,.any),(89,.any),(90,.any),(91,.any),(92,.any),(93,.any),(94,.any),(95,.any),(96,.any),(97,.any),(98,.any),(99,.any),(100,.any),(101,.any),(102,.any),(103,.any),(104,.any),(105,.any),(106,.any),(107,.any),(108,.any),(109,.any),(110,.any),(111,.any),(112,.any),(113,.any),(114,.any),(115,.any),(116,.any),(117,.any),(118,.any),(119,.any),(120,.any),(121,.any),(122,.any),(123,.any),(124,.any),(125,.any),(126,.any),(127,.any),(128,.any),(129,.any)]) (fun j=>rz x j.1 (rdm x j.1)) (fun j=>(show Int from y.1).toNat-j.1) ⟨0,by omega⟩ (fun j=>[
  .inv {k:Nat // (rdp x j.1).length<=k/\k<=(show MR from x).length/\∀ i,(rdp x j.1).length<=i->i<k->rdm x j.1 i j.1=0} (fun k=>[(8,.val tI (k.1:Int))]) (fun k=>rz x j.1 (rdm x j.1)) (fun k=>(show MR from x).length-k.1) ⟨(rdp x j.1).length,ay _,(kN _ _ _).le,fun i h1 h2=>absurd h2 (by omega)⟩ (fun _=>[]),
  .inv {c:Nat // j.1<=c} (fun c=>[(10,.val tI (c.1:Int))]++[(19,.any),(20,.any),(21,.any),(22,.any),(23,.any),(24,.any),(25,.any),(26,.any),(27,.any),(28,.any),(29,.any),(30,.any),(31,.any),(32,.any),(33,.any),(34,.any),(35,.any),(36,.any),(37,.any),(38,.any),(39,.any),(40,.any),(41,.any),(42,.any),(43,.any),(44,.any),(45,.any),(46,.any),(47,.any),(48,.any),(49,.any),(50,.any),(51,.any),(52,.any),(53,.any),(54,.any),(55,.any),(56,.any),(57,.any),(58,.any),(59,.any),(60,.any),(61,.any),(62,.any)]) (fun c=>rz x j.1 (scl (jU (rdm x j.1) (rdp x j.1).length (kk x j.1)) (rdp x j.1).length j.1 c.1 (1 / rdm x j.1 (kk x j.1) j.1))++[(9,.box [⟨tQ,1 / rdm x j.1 (kk x j.1) j.1⟩])]) (fun c=>wdM (show MR from x)-c.1) ⟨j.1,ay _⟩ (fun _=>[]),
  .inv {i:Nat // i<=(show MR from x).length} (fun i=>[(90,.val tI (i.1:Int))]++[(64,.any),(65,.any),(66,.any),(67,.any),(68,.any),(69,.any),(70,.any),(71,.any),(72,.any),(73,.any),(74,.any),(75,.any),(76,.any),(77,.any),(78,.any),(79,.any),(80,.any),(81,.any),(82,.any),(83,.any),(84,.any),(85,.any),(86,.any),(87,.any)]) (fun i=>rz x j.1 (elm (scl (jU (rdm x j.1) (rdp x j.1).length (kk x j.1)) (rdp x j.1).length j.1 (wdM x) (1 / rdm x j.1 (kk x j.1) j.1)) (rdp x j.1).length j.1 i.1)) (fun i=>(show MR from x).length-i.1) ⟨0,by omega⟩ (fun _=>[])])]) (fun x y hp=>?_)
 obtain⟨n,u⟩:=y
 change Int at n
 change List (List aH) at x
 refine aT (let A₀:=(fun(x:Ty.den (Ty.lf Lf.gJ))=>aH.x x);(asT Int 0=0/\(True/\asT (List Int) (aF Int)=aF Int)/\x=bF x.length (wdM x) (rdm x 0)/\(asT (List Int) (aF Int)=aF Int/\0=0/\asT Bool true=true)/\True)/\∀ (i:{ j:Nat // j<=Int.toNat n }),let A₂:=(bF x.length (wdM x) (rdm x (aA i)));let aK:=(fG (rdp x (aA i))).length;let aQ:=(rdp x (aA i)).length;let dF:=(1 / rdm x (aA i) (kk x (aA i)) (aA i));let dL:=(jU (rdm x (aA i)) aQ (kk x (aA i)));let A₁:=(scl dL aQ (aA i) (wdM x) dF);let dH:=(nameAt none (aB aK).toNat);let fB:=(aB (aA i)).toNat;asT Bool true=true/\ifB (decide (aB (aA i)<n)) ((aB aK=aB aQ/\bF x.length (wdM x) (rdm x (aA i))=bF x.length (wdM x) (rdm x (aA i))/\fG (rdp x (aA i))=fG (rdp x (aA i))/\True)/\∀ (i_1:{ k:Nat // List.length (rdp x (aA i))<=k/\k<=List.length x/\∀ (i_1:Nat),List.length (rdp x (aA i))<=i_1->i_1<k->rdm x (aA i) i_1 (aA i)=0 }),let wO:=(aB (aA i_1)<aB (bG none A₂));let fK:=(decide wO==true);let zH:=(aB (aA i_1)).toNat;let pJ:=(nameAt none zH);let qO:=(List.getD (rowAt A₂ pJ) fB { ok:=false,x:=0,g:=aF Nat,h:=aF Nat });let rV:=(some (List.set (bW none A₂) (aB aK).toNat pJ));let fU:=(List.set (bW rV A₂) zH dH);let xH:=(rowAt A₂ (nameAt (some fU) (aB aK).toNat));let kH:=(List.getD xH fB { ok:=false,x:=0,g:=aF Nat,h:=aF Nat });asT Bool true=true/\((fK=true->fK=true/\fK=true/\0<=aB (aA i_1)/\aB (aA i_1)<aB (bG none A₂)/\True)/\(fK=true->fK=true/\Int.toNat (aB (aA i_1))<bG none A₂/\True)/\(fK=true->fK=true/\fK=true/\0<=aB (aA i)/\aB (aA i)<aB (rowAt A₂ pJ).length/\True)/\(fK=true->fK=true/\Int.toNat (aB (aA i))<List.length (rowAt A₂ pJ)/\True)/\(fK=true->fK=true/\aH.ok qO=true/\rsz (aH.x qO)<=1000000000/\True)/\(fK=true->fK=true/\True)/\(decide wO=true->fK=true)/\True)/\ifB (bif decide wO then sgn (Rat.num (aH.x qO))==0 else false) (∃ (i':{ k:Nat // List.length (rdp x (aA i))<=k/\k<=List.length x/\∀ (i_2:Nat),List.length (rdp x (aA i))<=i_2->i_2<k->rdm x (aA i) i_2 (aA i)=0 }),List.length x-aA i'<List.length x-aA i_1/\IntKind.wrap IntKind.i64 (aB (aA i_1)+1)=aB (aA i')/\bF x.length (wdM x) (rdm x (aA i))=bF x.length (wdM x) (rdm x (aA i))/\fG (rdp x (aA i))=fG (rdp x (aA i))/\True) (ifB (aB (aA i_1)==aB (bG none A₂)) (∃ (i':{ j:Nat // j<=Int.toNat n }),Int.toNat n-aA i'<Int.toNat n-aA i/\IntKind.wrap IntKind.i64 (aB (aA i)+1)=aB (aA i')/\bF x.length (wdM x) (rdm x (aA i))=bF x.length (wdM x) (rdm x (aA i'))/\fG (rdp x (aA i))=fG (rdp x (aA i'))/\True) ((0<=aB (aA i_1)/\aB (aA i_1)<aB (bG none A₂)/\Int.toNat (aB (aA i_1))<bG none A₂/\0<=aB aK/\aB aK<aB (bG none A₂)/\Int.toNat (aB aK)<bG none A₂/\0<=aB aK/\aB aK<aB (bG none A₂)/\Int.toNat (aB aK)<bG none A₂/\0<=aB (aA i_1)/\aB (aA i_1)<aB (bG rV A₂)/\Int.toNat (aB (aA i_1))<bG rV A₂/\True)/\(bU 1/\0<=aB aK/\aB aK<aB (bG (some fU) A₂)/\Int.toNat (aB aK)<bG (some fU) A₂/\0<=aB (aA i)/\aB (aA i)<aB xH.length/\Int.toNat (aB (aA i))<List.length xH/\aH.ok kH=true/\(rsz (aV 1)<=400000000/\rsz (aH.x kH)<=400000000/\aH.x kH≠0)/\True)/\(aB (aA i)=aB (aA i)/\List.Nodup fU/\List.map (fun(i_2:Nat)=>List.getD A₂ i_2 (aF aH)) fU=bF x.length (wdM x) (scl dL aQ (aA i) (aA i) dF)/\fG (rdp x (aA i))=fG (rdp x (aA i))/\aV 1 / aH.x kH=1 / rdm x (aA i) (kk x (aA i)) (aA i)/\True)/\∀ (i_2:{ c:Nat // aA i<=c }),let C₁:=(scl dL aQ (aA i) (aA i_2) dF);let kJ:=(bF x.length (wdM x) C₁);let GN:=(rowAt kJ dH).length;let C₂:=(aB (aA i_2)).toNat;let GL:=(List.getD (rowAt kJ dH) C₂ { ok:=false,x:=0,g:=aF Nat,h:=aF Nat });asT Bool true=true/\(0<=aB aK/\aB aK<aB (bG none kJ)/\Int.toNat (aB aK)<bG none kJ/\True)/\ifB (decide (aB (aA i_2)<aB GN)) ((0<=aB aK/\aB aK<aB (bG none kJ)/\Int.toNat (aB aK)<bG none kJ/\0<=aB aK/\aB aK<aB (bG none kJ)/\Int.toNat (aB aK)<bG none kJ/\0<=aB (aA i_2)/\aB (aA i_2)<aB GN/\Int.toNat (aB (aA i_2))<List.length (rowAt kJ dH)/\aH.ok GL=true/\s44 dF (aH.x GL)/\0<=aB (aA i_2)/\aB (aA i_2)<aB GN/\Int.toNat (aB (aA i_2))<List.length (rowAt kJ dH)/\True)/\∃ (i':{ c:Nat // aA i<=c }),wdM x-aA i'<wdM x-aA i_2/\IntKind.wrap IntKind.i64 (aB (aA i_2)+1)=aB (aA i')/\List.set kJ dH (List.set (rowAt kJ dH) C₂ (dP (1 / rdm x (aA i) (kk x (aA i)) (aA i)*aH.x GL)))=bF x.length (wdM x) (scl dL aQ (aA i) (aA i') dF)/\fG (rdp x (aA i))=fG (rdp x (aA i))/\1 / rdm x (aA i) (kk x (aA i)) (aA i)=1 / rdm x (aA i) (kk x (aA i)) (aA i)/\True) ((asT Int 0=0/\bF x.length (wdM x) C₁=bF x.length (wdM x) (elm A₁ aQ (aA i) 0)/\fG (rdp x (aA i))=fG (rdp x (aA i))/\True)/\∀ (i_3:{ i:Nat // i<=List.length x }),let OL:=(elm A₁ aQ (aA i) (aA i_3));let C₃:=(bF x.length (wdM x) OL);let a8J:=(aB (aA i_3)).toNat;let KR:=(nameAt none a8J);let uY:=(rowAt C₃ KR);let FI:=(List.getD uY fB { ok:=false,x:=0,g:=aF Nat,h:=aF Nat });let a8K:=(aB (aA i_3) != aB aK);let jW:=(a8K==true);asT Bool true=true/\ifB (decide (aB (aA i_3)<aB (bG none kJ))) (((jW=true->jW=true/\jW=true/\0<=aB (aA i_3)/\aB (aA i_3)<aB (bG none C₃)/\True)/\(jW=true->jW=true/\Int.toNat (aB (aA i_3))<bG none C₃/\True)/\(jW=true->jW=true/\jW=true/\0<=aB (aA i)/\aB (aA i)<aB uY.length/\True)/\(jW=true->jW=true/\Int.toNat (aB (aA i))<List.length uY/\True)/\(jW=true->jW=true/\aH.ok FI=true/\rsz (aH.x FI)<=1000000000/\True)/\(jW=true->jW=true/\True)/\(a8K=true->jW=true)/\True)/\ifB (bif aB (aA i_3) != aB aK then sgn (Rat.num (aH.x FI)) != 0 else false) ((0<=aB (aA i_3)/\aB (aA i_3)<aB (bG none C₃)/\Int.toNat (aB (aA i_3))<bG none C₃/\0<=aB aK/\aB aK<aB (bG none C₃)/\Int.toNat (aB aK)<bG none C₃/\0<=aB (aA i_3)/\aB (aA i_3)<aB (bG none C₃)/\Int.toNat (aB (aA i_3))<bG none C₃/\0<=aB (aA i)/\aB (aA i)<aB uY.length/\Int.toNat (aB (aA i))<List.length uY/\nameAt none (aB aK).toNat≠nameAt none a8J/\jF (fun(x:Ty.den (Ty.lf Lf.gJ))=>dI ((aH.ok x=true)::aF Cd)) (rowAt C₃ dH)/\aH.ok FI=true/\((∀ (q:aH),q ∈ rowAt C₃ KR->q=dP (aH.x q))/\List.length uY=List.length (List.map A₀ (rowAt C₃ dH))/\List.length uY<=1000/\0<=aB (aA i)/\(∀ (q:aH),q ∈ rowAt C₃ KR->rsz (aH.x q)<=400000000)/\rsz (aH.x FI)<=100000000/\∀ (q:Rat),q ∈ List.map A₀ (rowAt C₃ dH)->rsz q<=100000000)/\True)/\∃ (i':{ i:Nat // i<=List.length x }),List.length x-aA i'<List.length x-aA i_3/\IntKind.wrap IntKind.i64 (aB (aA i_3)+1)=aB (aA i')/\List.set C₃ KR (pU uY (List.map A₀ (rowAt C₃ dH)) (aH.x FI) fB uY.length)=bF x.length (wdM x) (elm A₁ aQ (aA i) (aA i'))/\fG (rdp x (aA i))=fG (rdp x (aA i))/\True) (∃ (i':{ i:Nat // i<=List.length x }),List.length x-aA i'<List.length x-aA i_3/\IntKind.wrap IntKind.i64 (aB (aA i_3)+1)=aB (aA i')/\bF x.length (wdM x) OL=bF x.length (wdM x) (elm A₁ aQ (aA i) (aA i'))/\fG (rdp x (aA i))=fG (rdp x (aA i))/\True)) ((List.length (fG (rdp x (aA i)))+List.length (aB (aA i)::aF Int)<=1000000000/\True)/\∃ (i':{ j:Nat // j<=Int.toNat n }),Int.toNat n-aA i'<Int.toNat n-aA i/\IntKind.wrap IntKind.i64 (aB (aA i)+1)=aB (aA i')/\bF x.length (wdM x) OL=bF x.length (wdM x) (rdm x (aA i'))/\fG (rdp x (aA i))++aB (aA i)::aF Int=fG (rdp x (aA i'))/\True))))) (True/\fG (rdp x (aA i))=fG (rdp x n.toNat)/\bF x.length (wdM x) (rdm x n.toNat)=bF x.length (wdM x) (rdm x (aA i)))) (by kernel_rfl) ?_
 exact b8W x n hp
abbrev TUn:List Ty:=[]
def b1G (c:(nest TUn).den) (i j:Int):Prop:=0<=i/\0<=j
def gUn (c:(nest TUn).den) (i j:Nat):Rat:=idm i j
theorem KZ:aI Tryz.prog 221 (a3o TUn b1G gUn):=by
 refine kY (nil0.ad yX) [4] Tryz.func221 rfl (by decide) (fun x=>[]) (fun x hp=>?_)
 obtain⟨i,j,c⟩:=x
 change Int at i
 change Int at j
 have hu:c=():=rfl
 refine aT (ifB (i==j) ((bU 1/\True)/\True/\aV 1=gUn c i.toNat j.toNat/\True) ((bU 0/\True)/\True/\aV 0=gUn c i.toNat j.toNat/\True)) (by kernel_rfl) ?_
 try dsimp only[aB,asT,aA,aF] at *
 have h1:0<=i/\0<=j:=hp
 refine aC.mpr ⟨fun h=>⟨⟨by unfold bU;omega,trivial⟩,trivial,?_,trivial⟩,fun h=>⟨⟨by unfold bU;omega,trivial⟩,trivial,?_,trivial⟩⟩
 ·have h:i=j:=by simpa using h
  show ((1:Int):Rat)=if i.toNat=j.toNat then 1 else 0
  rw[jq (by rw[h])];rfl
 ·have h:i≠j:=by simpa using h
  show ((0:Int):Rat)=if i.toNat=j.toNat then 1 else 0
  rw[ji (by omega)];rfl
abbrev TBe:List Ty:=[.ref tM,.ref tM]
def b5e (c:(nest TBe).den) (i j:Int):Prop:=0<=i/\i.toNat<(show MQ from c.1).length/\i.toNat<(show MQ from c.2.1).length/\0<=j/\(show MQ from c.1).length<=1000/\((show MQ from c.1).getD i.toNat []).length=wdM (show MQ from c.1)/\j.toNat<wdM (show MQ from c.1)+((show MQ from c.2.1).getD i.toNat []).length/\j<=1000
def gBe (c:(nest TBe).den) (i j:Nat):Rat:=jG (wdM (show MQ from c.1)) (ent c.1) (ent c.2.1) i j
theorem WB:aI Tryz.prog 274 (a3o TBe b5e gBe):=by
 refine kY nil0 [6] Tryz.func274 rfl (by decide) (fun x=>[]) (fun x hp=>?_)
 obtain⟨i,j,c⟩:=x
 change Int at i
 change Int at j
 obtain⟨a,b,u⟩:=c
 change List (List Rat) at a
 change List (List Rat) at b
 refine aT ((asT Int 0<=0/\0<aB a.length/\True)/\ifB (decide (j<aB (List.getD a 0 (aF Rat)).length)) ((0<=i/\i<aB a.length/\0<=j/\j<aB (List.getD a i.toNat (aF Rat)).length/\True)/\True/\List.getD (List.getD a i.toNat (aF Rat)) j.toNat 0=gBe (a,b,u) i.toNat j.toNat/\True) ((0<=i/\i<aB b.length/\asT Int 0<=0/\0<aB a.length/\0<=IntKind.wrap IntKind.i64 (j-aB (List.getD a 0 (aF Rat)).length)/\IntKind.wrap IntKind.i64 (j-aB (List.getD a 0 (aF Rat)).length)<aB (List.getD b i.toNat (aF Rat)).length/\True)/\True/\List.getD (List.getD b i.toNat (aF Rat)) (IntKind.wrap IntKind.i64 (j-aB (List.getD a 0 (aF Rat)).length)).toNat 0=gBe (a,b,u) i.toNat j.toNat/\True)) (by kernel_rfl) ?_
 try dsimp only[aB,asT,aA,aF] at *
 have h1:0<=i/\i.toNat<a.length/\i.toNat<b.length/\0<=j/\a.length<=1000/\(a.getD i.toNat []).length=wdM a/\j.toNat<wdM a+(b.getD i.toNat []).length/\j<=1000:=hp
 obtain⟨k1,k2,k3,k4,k5,k6,k7,k8⟩:=h1
 have hw:(a.getD 0 []).length=wdM a:=rfl
 rw[hw]
 refine⟨⟨Bd 0,by omega,trivial⟩,aC.mpr ⟨fun h=>?_,fun h=>?_⟩⟩
 ·have h:j<(wdM a:Int):=tu h
  refine⟨⟨k1,by omega,k4,by rw[k6];exact h,trivial⟩,trivial,?_,trivial⟩
  show ent a i.toNat j.toNat=if j.toNat<wdM a then _ else _
  rw[jq (by omega)]
 ·have h:¬ j<(wdM a:Int):=ru h
  have e:IntKind.wrap .i64 (j-(wdM a:Int))=j-(wdM a:Int):=aN (by omega) (by omega)
  rw[e]
  refine⟨⟨k1,by omega,Bd 0,by omega,by omega,by omega,trivial⟩,trivial,?_,trivial⟩
  show ent b i.toNat (j-(wdM a:Int)).toNat=if j.toNat<wdM a then _ else _
  rw[ji (by omega),show (j-(wdM a:Int)).toNat=j.toNat-wdM a by omega]
abbrev TIn:List Ty:=[.ref tMR,.ref tI]
def b5g (c:(nest TIn).den) (i j:Int):Prop:=0<=i/\i.toNat<(show MR from c.1).length/\0<=j/\j<=1000/\0<=(show Int from c.2.1)/\(show Int from c.2.1)<=1000/\(show Int from c.2.1).toNat+j.toNat<((show MR from c.1).getD i.toNat []).length/\(((show MR from c.1).getD i.toNat []).getD ((show Int from c.2.1).toNat+j.toNat) bC).ok=true
def gIn (c:(nest TIn).den) (i j:Nat):Rat:=EL c.1 i ((show Int from c.2.1).toNat+j)
theorem WE:aI Tryz.prog 237 (a3o TIn b5g gIn):=by
 refine kY nil0 [6] Tryz.func237 rfl (by decide) (fun x=>[]) (fun x hp=>?_)
 obtain⟨i,j,c⟩:=x
 change Int at i
 change Int at j
 obtain⟨a,n,u⟩:=c
 change List (List aH) at a
 change Int at n
 refine aT (let A₁:=(List.getD a i.toNat (aF aH));let A₀:=(List.getD A₁ (IntKind.wrap IntKind.i64 (n+j)).toNat { ok:=false,x:=0,g:=aF Nat,h:=aF Nat });(0<=i/\i<aB a.length/\0<=IntKind.wrap IntKind.i64 (n+j)/\IntKind.wrap IntKind.i64 (n+j)<aB A₁.length/\True)/\(aH.ok A₀=true/\True)/\aH.x A₀=gIn (a,n,u) i.toNat j.toNat/\True) (by kernel_rfl) ?_
 try dsimp only[aB,asT,aA,aF] at *
 have h1:0<=i/\i.toNat<a.length/\0<=j/\j<=1000/\0<=n/\n<=1000/\n.toNat+j.toNat<(a.getD i.toNat []).length/\((a.getD i.toNat []).getD (n.toNat+j.toNat) bC).ok=true:=hp
 obtain⟨k1,k2,k3,k4,k5,k6,k7,k8⟩:=h1
 have e:IntKind.wrap .i64 (n+j)=n+j:=aN (by omega) (by omega)
 have e2:(n+j).toNat=n.toNat+j.toNat:=by omega
 rw[e,e2]
 exact⟨⟨k1,by omega,by omega,by omega,trivial⟩,⟨k8,trivial⟩,rfl,trivial⟩
theorem b8V {R C n:Nat} {f:Mt} (hn:n<=C):(red R (EL (bF R C f)) n).2=(red R f n).2/\∀ i,i<R->∀ c,c<C->(red R (EL (bF R C f)) n).1 i c=(red R f n).1 i c:=JX (fun i hi c hc=>RN hi hc) n hn
theorem a2I {R C n:Nat} {f:Mt} (r1:1<=R) (r2:R<=1000) (c1:1<=C) (c2:C<=1000) (hn:n<=C) (H:BK R C f n):a8g (bF R C f) (n:Int):=by
 have hw:wdM (bF R C f)=C:=by show ((bF R C f).getD 0 []).length=C;rw[jB (by omega)];simp
 unfold a8g
 rw[eU,hw]
 refine⟨nO fun i hi j hj=>(RN hi hj).symm,r1,r2,c1,c2,by omega,by omega,fun t ht i hi c hc=>?_⟩
 rw[(b8V (by have:t<=n:=ht;omega)).2 i hi c hc]
 exact H t ht i hi c hc
noncomputable def c5e:Ctr:=⟨[tM],[tM,.list tI,tI],fun x=>okE x.1,fun x=>(RJ x.1,fG (mD x.1),(0:Int),())⟩
theorem b3Y:aI Tryz.prog 219 c5e:=by
 refine aJ (((nil0.ad yD).an a9z).an b7p) ⟨[],[],[]⟩ Tryz.func219 rfl (by decide) (fun x=>[]) (fun x hp=>?_)
 obtain⟨a,u⟩:=x
 change List (List Rat) at a
 refine aT (let A₀:=(bF a.length (wdM a) (ent a));let A₁:=(List.map (fun(xs:Ty.den (Ty.list (Ty.lf Lf.rat)))=>List.map (fun(x:Ty.den (Ty.lf Lf.rat))=>dP x) xs) a);let A₂:=(aB (rowAt A₀ 0).length);let aK:=(bF A₀.length (wdM A₀) (rdm A₀ A₂.toNat));(jF (fun(x:Ty.den (Ty.list (Ty.lf Lf.rat)))=>dI (jF (fun(x:Ty.den (Ty.lf Lf.rat))=>dI (aF Cd)) x::aF Cd)) a/\wL A₁/\True)/\ifB (qX A₁ != 0) (True/\aF (List Rat)=RJ a/\True/\aF Int=fG (mD a)/\True/\qX A₁=0/\True) ((okM a/\True)/\(asT Int 0<=0/\0<aB (bG none A₀)/\0<bG none A₀/\a8g A₀ A₂/\True)/\(jF (fun(x:Ty.den (Ty.list (Ty.lf Lf.gJ)))=>dI (jF (fun(x:Ty.den (Ty.lf Lf.gJ))=>dI ((aH.ok x=true)::aF Cd)) x::aF Cd)) aK/\True)/\List.map (fun(xs:Ty.den (Ty.list (Ty.lf Lf.gJ)))=>List.map (fun(x:Ty.den (Ty.lf Lf.gJ))=>aH.x x) xs) aK=RJ a/\True/\fG (rdp A₀ A₂.toNat)=fG (mD a)/\True/\asT Int 0=0/\True)) (by kernel_rfl) ?_
 have hE:okE a:=hp
 have ha:=hE.1
 have hr:((bF a.length (wdM a) (ent a)).getD 0 []).length=wdM a:=by rw[jB ha.pos];simp
 have hw:wdM (bF a.length (wdM a) (ent a))=wdM a:=hr
 have hc:=b8V (R:=a.length) (f:=ent a) (ay (wdM a))
 dsimp only[aB,asT,aA,aF] at *
 refine⟨⟨CY a,ha.short,trivial⟩,ifF (a0v ha.chk) ⟨⟨ha,trivial⟩,?_⟩⟩
 simp only[bG,rowAt,eU,hr,hw,Int.toNat_natCast]
 refine⟨⟨Bd 0,ha.poz,ha.pos,a2I ha.pos (by have:=ha.r64;omega) ha.c1 (by have:=ha.c64;omega) (ay _) hE.2,trivial⟩,⟨EC _ _ _,trivial⟩,(MX _ _ _).trans ?_,trivial,?_,trivial,trivial,trivial⟩
 ·show tab _ _ (red (bF a.length (wdM a) (ent a)).length _ _).1=_
  rw[eU]
  exact jL fun i hi j hj=>hc.2 i hi j hj
 ·show fG (red (bF a.length (wdM a) (ent a)).length _ _).2=_
  rw[eU,hc.1];rfl
abbrev LI':Type:=List Int
noncomputable def c5i:Ctr:=⟨[.list tI,tI],[tI],fun x=>(show LI' from x.1).length<=1000000,fun x=>(lW (fun q:Int=>q==(show Int from x.2.1)) (show LI' from x.1),())⟩
theorem b4p:aI Tryz.prog 270 c5i:=by
 refine aJ nil0 ⟨[],[],[]⟩ Tryz.func270 rfl (by decide) (fun x=>[.inv {k:Nat // k<=(show LI' from x.1).length/\((show LI' from x.1).take k).any (fun q:Int=>q==(show Int from x.2.1))=false} (fun k=>[(8,.val tI (k.1:Int))]) (fun k=>[]) (fun k=>(show LI' from x.1).length-k.1) ⟨0,by omega,rfl⟩ (fun _=>[])]) (fun x hp=>?_)
 obtain⟨x,v,u⟩:=x
 change List Int at x
 change Int at v
 refine aT ((asT Int 0=0/\True)/\∀ (i:{ k:Nat // k<=List.length x/\(List.any (List.take k x) fun(q:Int)=>q==v)=false }),asT Bool true=true/\ifB (decide (aB (aA i)<aB x.length)) ((0<=aB (aA i)/\aB (aA i)<aB x.length/\True)/\ifB (v==List.getD x (aB (aA i)).toNat 0) (True/\aB (aA i)=lW (fun(q:Int)=>q==v) x/\True) (∃ (i':{ k:Nat // k<=List.length x/\(List.any (List.take k x) fun(q:Int)=>q==v)=false }),List.length x-aA i'<List.length x-aA i/\IntKind.wrap IntKind.i64 (aB (aA i)+1)=aB (aA i')/\True)) (True/\-1=lW (fun(q:Int)=>q==v) x/\True)) (by kernel_rfl) ?_
 have hZ:(⟨false,0,[],[]⟩:aH)=bC:=rfl
 dsimp only[aB,asT,aA,aF,Ty.den,Lf.den] at *
 simp only[hZ,Int.toNat_natCast,aC,aj,ah,jg,jf,bG,nameAt,bW,eU,fZ,rowAt,gy,bg]
 have hp:x.length<=1000000:=hp
 refine fun i=>⟨fun h1=>⟨⟨by omega,h1⟩,fun h2=>?_,fun h2=>⟨⟨i.1+1,by omega,?_⟩,by simp only;omega,by rw[aN (by omega) (by omega)];rfl⟩⟩,fun h1=>?_⟩
 ·have e:v=x.getD i.1 0:=eq_of_beq h2
  exact(uH (d:=0) (by omega) i.2.2 (by show (x.getD i.1 0==v)=true;rw[<-e];exact beq_self_eq_true v)).symm
 ·have e:(x.getD i.1 0==v)=false:=by rw[dh] at h2 ⊢;exact fun e=>h2 e.symm
  rw[iM (d:=0) (by omega),i.2.2,e];rfl
 ·have h3:=i.2.2
  rw[jv (by omega)] at h3
  exact(xU h3).symm
noncomputable def c5h:Ctr:=⟨[.list tI,tI],[tB],fun x=>(show LI' from x.1).length<=1000000,fun x=>((show LI' from x.1).any (fun q:Int=>q==(show Int from x.2.1)),())⟩
theorem b4f:aI Tryz.prog 220 c5h:=by
 refine aJ (nil0.ad b4p) ⟨[],[],[]⟩ Tryz.func220 rfl (by decide) (fun x=>[]) (fun x hp=>?_)
 obtain⟨x,v,u⟩:=x
 change List Int at x
 change Int at v
 refine aT ((List.length x<=1000000/\True)/\True/\(decide (lW (fun(q:Int)=>q==v) x ≥ 0)=List.any x fun(q:Int)=>q==v)/\True) (by kernel_rfl) ?_
 have hZ:(⟨false,0,[],[]⟩:aH)=bC:=rfl
 dsimp only[aB,asT,aA,aF,Ty.den,Lf.den] at *
 simp only[hZ,Int.toNat_natCast,aC,aj,ah,jg,jf,bG,nameAt,bW,eU,fZ,rowAt,gy,bg]
 exact⟨hp,uI _ _⟩
def b8J (a:MQ) (j:Nat):LR:=(List.range (wdM a)).map fun c=>dP (wJ (JW a (wdM a)).1 (mD a) j c)
def JK (a:MQ) (j c:Nat):LR:=(List.range (wdM a)).map fun d=>if d<c then dP (idm d j) else bC
def ER (a:MQ) (j t:Nat):LR:=(List.range (wdM a)).map fun d=>dP (if d ∈ (mD a).take t then-(JW a (wdM a)).1 ((mD a).idxOf d) j else idm d j)
def rM (a:MQ) (j:Nat):MR:=(frees j (mD a)).map (b8J a)
theorem a7O (a:MQ) (j:Nat):JK a j 0=List.replicate (wdM a) bC:=by
 unfold JK;apply Dx<;>simp
theorem b1w (a:MQ) (j c:Nat):(JK a j c).set c (dP (gUn () c j))=JK a j (c+1):=by
 unfold JK;rw[map_set]
 refine qh fun d _=>?_
 by_cases e:d=c
 ·rw[jq e,jq (by omega),e];rfl
 ·rw[ji e]
  by_cases e2:d<c
  ·rw[jq e2,jq (by omega)]
  ·rw[ji e2,ji (by omega)]
theorem b1v (a:MQ) (j:Nat):JK a j (wdM a)=ER a j 0:=by
 unfold JK ER
 refine qh fun d hd=>?_
 rw[jq (wu.mp hd)];simp
theorem b1y {a:MQ} {j t:Nat} (hd:(mD a).Nodup) (ht:t<(mD a).length):(ER a j t).set (mD a)[t] (dP (- (JW a (wdM a)).1 t j))=ER a j (t+1):=by
 unfold ER;rw[map_set]
 refine qh fun d _=>?_
 by_cases e:d=(mD a)[t]
 ·rw[jq e,jq ((UJ ht).mpr (.inr e)),e,DT hd ht]
 ·rw[ji e]
  by_cases e2:d ∈ (mD a).take t
  ·rw[jq e2,jq ((UJ ht).mpr (.inl e2))]
  ·rw[ji e2,ji (fun h=>((UJ ht).mp h).elim e2 e)]
theorem b1x (a:MQ) {j:Nat} (hj:j ∉ mD a):ER a j (mD a).length=b8J a j:=by
 unfold ER b8J
 refine qh fun d _=>?_
 rw[List.take_length]
 unfold wJ
 by_cases e:d=j
 ·rw[ji (by rw[e];exact hj),jq e];show dP (if d=j then 1 else 0)=_;rw[jq e]
 ·rw[ji e]
  by_cases e2:d ∈ mD a
  ·rw[jq e2,jq e2]
  ·rw[ji e2,ji e2];show dP (if d=j then 1 else 0)=_;rw[ji e]
noncomputable def c3l:Ctr:=⟨[tM],[tM,tI],fun x=>okE x.1,fun x=>(NY x.1,(0:Int),())⟩
theorem a7P:aI Tryz.prog 138 c3l:=by
 refine aJ ((((nil0.ad b3Y).ad a0c).ad KZ).ad b4f) ⟨[],[],[]⟩ Tryz.func138 rfl (by decide) (fun x=>[.inv {j:Nat // j<=wdM (show MQ from x.1)} (fun j=>[(26,.val tI (j.1:Int)),(7,.own 71 0)]++[(8,.any),(9,.any),(10,.any),(11,.any),(12,.any),(27,.any),(28,.any),(29,.any),(30,.any),(31,.any),(32,.any),(33,.any),(34,.any),(35,.any),(36,.any),(37,.any),(38,.any),(39,.any),(40,.any),(41,.any),(42,.any),(43,.any),(44,.any),(45,.any),(46,.any),(47,.any),(48,.any),(49,.any),(50,.any),(51,.any),(52,.any),(53,.any),(54,.any),(55,.any),(56,.any),(57,.any),(58,.any),(59,.any),(60,.any),(61,.any),(62,.any),(63,.any),(64,.any),(65,.any),(66,.any),(67,.any),(68,.any),(69,.any),(70,.any),(71,.any),(72,.any)]) (fun j=>[(71,.row 39 (.list tR) (rM (show MQ from x.1) j.1) 0)]) (fun j=>wdM (show MQ from x.1)-j.1) ⟨0,by omega⟩ (fun j=>[
  .inv {c:Nat // c<=wdM (show MQ from x.1)} (fun c=>[(39,.val tI (c.1:Int))]) (fun c=>[(71,.row 39 (.list tR) (rM (show MQ from x.1) j.1) 0),(36,.row 47 tR (JK (show MQ from x.1) j.1 c.1) 0)]) (fun c=>wdM (show MQ from x.1)-c.1) ⟨0,by omega⟩ (fun _=>[]),
  .inv {t:Nat // t<=(mD (show MQ from x.1)).length} (fun t=>[(51,.val tI (t.1:Int))]) (fun t=>[(71,.row 39 (.list tR) (rM (show MQ from x.1) j.1) 0),(36,.row 47 tR (ER (show MQ from x.1) j.1 t.1) 0)]) (fun t=>(mD (show MQ from x.1)).length-t.1) ⟨0,by omega⟩ (fun _=>[])])]) (fun x hp=>?_)
 obtain⟨a,u⟩:=x
 change List (List Rat) at a
 refine aT (let A₀:=(List.getD (RJ a) 0 (aF Rat)).length;let A₁:=(RJ a).length;let A₂:=(fG (mD a)).length;(okE a/\True)/\(asT Int 0<=0/\0<aB A₁/\True)/\(asT Int 0=0/\(True/\asT (List (List aH)) (aF (List aH))=aF (List aH))/\(asT (List (List aH)) (aF (List aH))=aF (List aH)/\0=0/\asT Bool true=true)/\True)/\∀ (i:{ j:Nat // j<=wdM a }),let aK:=(aB (aA i)).toNat;asT Bool true=true/\ifB (decide (aB (aA i)<aB A₀)) ((List.length (fG (mD a))<=1000000/\True)/\ifB (List.any (fG (mD a)) fun(q:Int)=>q==aB (aA i)) (∃ (i':{ j:Nat // j<=wdM a }),wdM a-aA i'<wdM a-aA i/\IntKind.wrap IntKind.i64 (aB (aA i)+1)=aB (aA i')/\rM a (aA i)=rM a (aA i')/\True) ((asT Int 0<=0/\0<aB A₁/\aB A₀=aB A₀/\0<=aB A₀/\aB A₀<=1000000000/\True)/\(asT Int 0=0/\rM a (aA i)=rM a (aA i)/\List.replicate (aB A₀).toNat bC=JK a (aA i) 0/\True)/\∀ (i_1:{ c:Nat // c<=wdM a }),let aQ:=(JK a (aA i) (aA i_1));let dF:=(aB (aA i_1)).toNat;asT Bool true=true/\ifB (decide (aB (aA i_1)<aB (List.replicate (aB A₀).toNat bC).length)) ((b1G () (aB (aA i_1)) (aB (aA i))/\0<=aB (aA i_1)/\aB (aA i_1)<aB aQ.length/\Int.toNat (aB (aA i_1))<List.length aQ/\True)/\∃ (i':{ c:Nat // c<=wdM a }),wdM a-aA i'<wdM a-aA i_1/\IntKind.wrap IntKind.i64 (aB (aA i_1)+1)=aB (aA i')/\rM a (aA i)=rM a (aA i)/\List.set aQ dF (dP (gUn () dF aK))=JK a (aA i) (aA i')/\True) ((asT Int 0=0/\rM a (aA i)=rM a (aA i)/\JK a (aA i) (aA i_1)=ER a (aA i) 0/\True)/\∀ (i_2:{ t:Nat // t<=List.length (mD a) }),let dL:=(aB (aA i_2)).toNat;let dH:=(List.getD (RJ a) dL (aF Rat));let fB:=(ER a (aA i) (aA i_2));let fU:=(List.getD (fG (mD a)) dL 0);asT Bool true=true/\ifB (decide (aB (aA i_2)<aB A₂)) ((0<=aB (aA i_2)/\aB (aA i_2)<aB A₂/\True)/\(0<=aB (aA i_2)/\aB (aA i_2)<aB A₁/\0<=aB (aA i)/\aB (aA i)<aB dH.length/\s4 (List.getD dH aK 0)/\0<=List.getD (fG (mD a)) dL 0/\List.getD (fG (mD a)) dL 0<aB fB.length/\Int.toNat fU<List.length fB/\True)/\∃ (i':{ t:Nat // t<=List.length (mD a) }),List.length (mD a)-aA i'<List.length (mD a)-aA i_2/\IntKind.wrap IntKind.i64 (aB (aA i_2)+1)=aB (aA i')/\rM a (aA i)=rM a (aA i)/\List.set fB fU.toNat (dP (-List.getD dH aK 0))=ER a (aA i) (aA i')/\True) ((List.length (rM a (aA i))+List.length (ER a (aA i) (aA i_2)::aF (List aH))<=1000000000/\True)/\∃ (i':{ j:Nat // j<=wdM a }),wdM a-aA i'<wdM a-aA i/\IntKind.wrap IntKind.i64 (aB (aA i)+1)=aB (aA i')/\rM a (aA i)++ER a (aA i) (aA i_2)::aF (List aH)=rM a (aA i')/\True)))) ((jF (fun(x:Ty.den (Ty.list (Ty.lf Lf.gJ)))=>dI (jF (fun(x:Ty.den (Ty.lf Lf.gJ))=>dI ((aH.ok x=true)::aF Cd)) x::aF Cd)) (rM a (aA i))/\True)/\List.map (fun(xs:Ty.den (Ty.list (Ty.lf Lf.gJ)))=>List.map (fun(x:Ty.den (Ty.lf Lf.gJ))=>aH.x x) xs) (rM a (aA i))=NY a/\True/\asT Int 0=0/\True)) (by kernel_rfl) ?_
 have hZ:(⟨false,0,[],[]⟩:aH)=bC:=rfl
 dsimp only[aB,asT,aA,aF,Ty.den,Lf.den] at *
 simp only[hZ,Int.toNat_natCast,aC,aj,ah,jg,jf,bG,nameAt,bW,eU,fZ,rowAt,gy,bg]
 have hE:okE a:=hp
 have ha:=hE.1
 have q1:=ha.r64
 have q2:=ha.c64
 have q3:=ha.pos
 have E:Ech a.length (ent a) (wdM a) (JW a (wdM a)).1 (mD a):=kN a.length (ent a) (wdM a)
 have hle:=E.le
 have l1:(RJ a).length=a.length:=fZ
 have l2:∀ i,i<a.length->(List.getD (RJ a) i []).length=wdM a:=fun i hi=>by unfold RJ;rw[sN hi];simp
 have l3:∀ i,i<a.length->∀ c,c<wdM a->(List.getD (RJ a) i []).getD c 0=(JW a (wdM a)).1 i c:=fun i hi c hc=>by unfold RJ;rw[sN hi,gU hc]
 simp only[l1,l2 0 q3,IW]
 refine⟨hE,⟨Bd 0,by omega⟩,fun j=>⟨fun h1=>⟨by omega,fun h2=>?_,fun h2=>⟨⟨Bd 0,by omega,by omega,by omega⟩,?_,fun c=>⟨fun h3=>?_,fun h3=>⟨?_,fun t=>⟨fun h4=>?_,fun h4=>?_⟩⟩⟩⟩⟩,fun h1=>?_⟩⟩
 ·rw[a2d] at h2
  have h2:=tu h2
  refine⟨⟨j.1+1,by omega⟩,by simp only;omega,by rw[aN (by omega) (by omega)];rfl,?_⟩
  show rM a j.1=rM a (j.1+1)
  unfold rM;rw[a9U h2]
 ·exact(a7O a j.1).symm
 ·rw[Ae] at h3
  have hc:c.1<wdM a:=by omega
  have l4:(JK a j.1 c.1).length=wdM a:=by simp[JK]
  rw[l4]
  exact⟨⟨⟨uo _,uo _⟩,by omega,by omega,hc⟩,⟨c.1+1,by omega⟩,by simp only;omega,by rw[aN (by omega) (by omega)];rfl,b1w a j.1 c.1⟩
 ·rw[Ae] at h3
  have hc:c.1=wdM a:=by have:=c.2;omega
  rw[hc];exact b1v a j.1
 ·have ht:t.1<(mD a).length:=by omega
  have hm:=xg ht
  have hp:=E.lt _ hm
  have e1:(fG (mD a)).getD t.1 0=((mD a)[t.1]:Int):=by unfold fG;simp[jc,ht]
  have l4:(ER a j.1 t.1).length=wdM a:=by simp[ER]
  have hj:j.1<wdM a:=by omega
  rw[l2 t.1 (by omega),l3 t.1 (by omega) j.1 hj,e1,l4,Int.toNat_natCast]
  have z:=hE.2 (wdM a) (ay _) t.1 (by omega) j.1 hj
  refine⟨⟨by omega,by omega⟩,⟨by omega,by omega,by omega,by omega,by show rsz ((JW a (wdM a)).1 t.1 j.1)<=_;unfold JW;omega,by omega,by omega,hp⟩,⟨t.1+1,by omega⟩,by simp only;omega,by rw[aN (by omega) (by omega)];rfl,b1y E.nd ht⟩
 ·have ht:t.1=(mD a).length:=by have:=t.2;omega
  rw[a2d] at h2
  have h2:=ru h2
  have hfl:(frees j.1 (mD a)).length<=j.1:=by unfold frees;have:=List.length_filter_le (fun c=>decide (c ∉ mD a)) (List.range j.1);simpa using this
  refine⟨by unfold rM;rw[vw];simp;omega,⟨j.1+1,by omega⟩,by simp only;omega,by rw[aN (by omega) (by omega)];rfl,?_⟩
  show rM a j.1++[ER a j.1 t.1]=rM a (j.1+1)
  unfold rM
  rw[a7s h2,List.map_append,ht,b1x a h2];rfl
 ·have hj:j.1=wdM a:=by have:=j.2;omega
  rw[hj]
  refine⟨oC.mpr fun r hr=>⟨oC.mpr fun q hq=>?_,trivial⟩,?_⟩
  ·obtain⟨s,_,rfl⟩:=ug.mp hr
   obtain⟨c,_,rfl⟩:=yE hq
   exact⟨rfl,trivial⟩
  ·unfold rM NY
   rw[List.map_map]
   exact qh fun s _=>a2r _ _
end Go.Proofs.YtbkocjmmbkifjaaGreat
