/-
  Lemmas for the theorem veight28_holds, part 29 of 32.
-/
import Derived.Test.YtbkocjmmbkifjaaGreatQg28
namespace Go.Proofs.YtbkocjmmbkifjaaGreat
open Go Go.RowKit
set_option maxRecDepth 100000
set_option maxHeartbeats 1000000
set_option linter.unusedVariables false
set_option linter.unusedSimpArgs false
noncomputable def c2w:kR:=.chg LKm [tI] [.list tI] (fun x y=>a9F x y.1) (fun x y=>bM (show MR from x).length (wdM (show MR from x)) (rdm x (show Int from y.1).toNat)) (fun x y=>(aU (rdp x (show Int from y.1).toNat),()))
abbrev rz (x:MR) (j:Nat) (m:Mt):Rho:=[(0,.mat 39 47 tR none (bM x.length (wdM x) m) 0),(128,.row 3 tI (aU (rdp x j)) 0)]
theorem c0K:NOk Tryz.prog 236 c2w:=by
 refine a3U (((((nil0.ad AP).ad LP).ad LU).ad a9B).an c0S) ⟨[9],[],[]⟩ Tryz.func236 rfl (by decide) (fun x y=>[.inv {j:Nat // j<=(show Int from y.1).toNat} (fun j=>[(13,.val tI (j.1:Int)),(5,.own 128 0)]++[(6,.any),(7,.any),(8,.any),(9,.any),(10,.any),(11,.any),(14,.any),(15,.any),(16,.any),(17,.any),(18,.any),(19,.any),(20,.any),(21,.any),(22,.any),(23,.any),(24,.any),(25,.any),(26,.any),(27,.any),(28,.any),(29,.any),(30,.any),(31,.any),(32,.any),(33,.any),(34,.any),(35,.any),(36,.any),(37,.any),(38,.any),(39,.any),(40,.any),(41,.any),(42,.any),(43,.any),(44,.any),(45,.any),(46,.any),(47,.any),(48,.any),(49,.any),(50,.any),(51,.any),(52,.any),(53,.any),(54,.any),(55,.any),(56,.any),(57,.any),(58,.any),(59,.any),(60,.any),(61,.any),(62,.any),(63,.any),(64,.any),(65,.any),(66,.any),(67,.any),(68,.any),(69,.any),(70,.any),(71,.any),(72,.any),(73,.any),(74,.any),(75,.any),(76,.any),(77,.any),(78,.any),(79,.any),(80,.any),(81,.any),(82,.any),(83,.any),(84,.any),(85,.any),(86,.any),(87,.any),(88,.any),(89,.any),(90,.any),(91,.any),(92,.any),(93,.any),(94,.any),(95,.any),(96,.any),(97,.any),(98,.any),(99,.any),(100,.any),(101,.any),(102,.any),(103,.any),(104,.any),(105,.any),(106,.any),(107,.any),(108,.any),(109,.any),(110,.any),(111,.any),(112,.any),(113,.any),(114,.any),(115,.any),(116,.any),(117,.any),(118,.any),(119,.any),(120,.any),(121,.any),(122,.any),(123,.any),(124,.any),(125,.any),(126,.any),(127,.any),(128,.any),(129,.any)]) (fun j=>rz x j.1 (rdm x j.1)) (fun j=>(show Int from y.1).toNat-j.1) ⟨0,by omega⟩ (fun j=>[
  .inv {k:Nat // (rdp x j.1).length<=k/\k<=(show MR from x).length/\∀ i,(rdp x j.1).length<=i->i<k->rdm x j.1 i j.1=0} (fun k=>[(8,.val tI (k.1:Int))]) (fun k=>rz x j.1 (rdm x j.1)) (fun k=>(show MR from x).length-k.1) ⟨(rdp x j.1).length,ay _,(fH _ _ _).le,fun i h1 h2=>absurd h2 (by omega)⟩ (fun _=>[]),
  .inv {c:Nat // j.1<=c} (fun c=>[(10,.val tI (c.1:Int))]++[(19,.any),(20,.any),(21,.any),(22,.any),(23,.any),(24,.any),(25,.any),(26,.any),(27,.any),(28,.any),(29,.any),(30,.any),(31,.any),(32,.any),(33,.any),(34,.any),(35,.any),(36,.any),(37,.any),(38,.any),(39,.any),(40,.any),(41,.any),(42,.any),(43,.any),(44,.any),(45,.any),(46,.any),(47,.any),(48,.any),(49,.any),(50,.any),(51,.any),(52,.any),(53,.any),(54,.any),(55,.any),(56,.any),(57,.any),(58,.any),(59,.any),(60,.any),(61,.any),(62,.any)]) (fun c=>rz x j.1 (scl (gI (rdm x j.1) (rdp x j.1).length (kk x j.1)) (rdp x j.1).length j.1 c.1 (1 / rdm x j.1 (kk x j.1) j.1))++[(9,.box [⟨tQ,1 / rdm x j.1 (kk x j.1) j.1⟩])]) (fun c=>wdM (show MR from x)-c.1) ⟨j.1,ay _⟩ (fun _=>[]),
  .inv {i:Nat // i<=(show MR from x).length} (fun i=>[(90,.val tI (i.1:Int))]++[(64,.any),(65,.any),(66,.any),(67,.any),(68,.any),(69,.any),(70,.any),(71,.any),(72,.any),(73,.any),(74,.any),(75,.any),(76,.any),(77,.any),(78,.any),(79,.any),(80,.any),(81,.any),(82,.any),(83,.any),(84,.any),(85,.any),(86,.any),(87,.any)]) (fun i=>rz x j.1 (elm (scl (gI (rdm x j.1) (rdp x j.1).length (kk x j.1)) (rdp x j.1).length j.1 (wdM x) (1 / rdm x j.1 (kk x j.1) j.1)) (rdp x j.1).length j.1 i.1)) (fun i=>(show MR from x).length-i.1) ⟨0,by omega⟩ (fun _=>[])])]) (fun x y hp=>?_)
 obtain⟨n,u⟩:=y
 change Int at n
 change List (List aH) at x
 refine aY (let A₀:=(fun(x:Ty.den (Ty.lf Lf.iM))=>aH.x x);(asT Int 0=0/\(True/\asT (List Int) (aG Int)=aG Int)/\x=bM x.length (wdM x) (rdm x 0)/\(asT (List Int) (aG Int)=aG Int/\0=0/\asT Bool true=true)/\True)/\∀ (i:{ j:Nat // j<=Int.toNat n }),let A₂:=(bM x.length (wdM x) (rdm x (aA i)));let aW:=(aU (rdp x (aA i))).length;let bW:=(rdp x (aA i)).length;let eU:=(1 / rdm x (aA i) (kk x (aA i)) (aA i));let gY:=(gI (rdm x (aA i)) bW (kk x (aA i)));let A₁:=(scl gY bW (aA i) (wdM x) eU);let dG:=(nameAt none (aB aW).toNat);let gJ:=(aB (aA i)).toNat;asT Bool true=true/\ifB (decide (aB (aA i)<n)) ((aB aW=aB bW/\bM x.length (wdM x) (rdm x (aA i))=bM x.length (wdM x) (rdm x (aA i))/\aU (rdp x (aA i))=aU (rdp x (aA i))/\True)/\∀ (i_1:{ k:Nat // List.length (rdp x (aA i))<=k/\k<=List.length x/\∀ (i_1:Nat),List.length (rdp x (aA i))<=i_1->i_1<k->rdm x (aA i) i_1 (aA i)=0 }),let BZ:=(aB (aA i_1)<aB (aN none A₂));let eH:=(decide BZ==true);let NG:=(aB (aA i_1)).toNat;let vI:=(nameAt none NG);let BR:=(List.getD (rowAt A₂ vI) gJ { ok:=false,x:=0,g:=aG Nat,h:=aG Nat });let BU:=(some (List.set (bJ none A₂) (aB aW).toNat vI));let fJ:=(List.set (bJ BU A₂) NG dG);let BX:=(rowAt A₂ (nameAt (some fJ) (aB aW).toNat));let fZ:=(List.getD BX gJ { ok:=false,x:=0,g:=aG Nat,h:=aG Nat });asT Bool true=true/\((eH=true->eH=true/\eH=true/\0<=aB (aA i_1)/\aB (aA i_1)<aB (aN none A₂)/\True)/\(eH=true->eH=true/\Int.toNat (aB (aA i_1))<aN none A₂/\True)/\(eH=true->eH=true/\eH=true/\0<=aB (aA i)/\aB (aA i)<aB (rowAt A₂ vI).length/\True)/\(eH=true->eH=true/\Int.toNat (aB (aA i))<List.length (rowAt A₂ vI)/\True)/\(eH=true->eH=true/\aH.ok BR=true/\rsz (aH.x BR)<=1000000000/\True)/\(eH=true->eH=true/\True)/\(decide BZ=true->eH=true)/\True)/\ifB (bif decide BZ then sgn (Rat.num (aH.x BR))==0 else false) (∃ (i':{ k:Nat // List.length (rdp x (aA i))<=k/\k<=List.length x/\∀ (i_2:Nat),List.length (rdp x (aA i))<=i_2->i_2<k->rdm x (aA i) i_2 (aA i)=0 }),List.length x-aA i'<List.length x-aA i_1/\IntKind.wrap IntKind.i64 (aB (aA i_1)+1)=aB (aA i')/\bM x.length (wdM x) (rdm x (aA i))=bM x.length (wdM x) (rdm x (aA i))/\aU (rdp x (aA i))=aU (rdp x (aA i))/\True) (ifB (aB (aA i_1)==aB (aN none A₂)) (∃ (i':{ j:Nat // j<=Int.toNat n }),Int.toNat n-aA i'<Int.toNat n-aA i/\IntKind.wrap IntKind.i64 (aB (aA i)+1)=aB (aA i')/\bM x.length (wdM x) (rdm x (aA i))=bM x.length (wdM x) (rdm x (aA i'))/\aU (rdp x (aA i))=aU (rdp x (aA i'))/\True) ((0<=aB (aA i_1)/\aB (aA i_1)<aB (aN none A₂)/\Int.toNat (aB (aA i_1))<aN none A₂/\0<=aB aW/\aB aW<aB (aN none A₂)/\Int.toNat (aB aW)<aN none A₂/\0<=aB aW/\aB aW<aB (aN none A₂)/\Int.toNat (aB aW)<aN none A₂/\0<=aB (aA i_1)/\aB (aA i_1)<aB (aN BU A₂)/\Int.toNat (aB (aA i_1))<aN BU A₂/\True)/\(dU 1/\0<=aB aW/\aB aW<aB (aN (some fJ) A₂)/\Int.toNat (aB aW)<aN (some fJ) A₂/\0<=aB (aA i)/\aB (aA i)<aB BX.length/\Int.toNat (aB (aA i))<List.length BX/\aH.ok fZ=true/\(rsz (bV 1)<=400000000/\rsz (aH.x fZ)<=400000000/\aH.x fZ≠0)/\True)/\(aB (aA i)=aB (aA i)/\List.Nodup fJ/\List.map (fun(i_2:Nat)=>List.getD A₂ i_2 (aG aH)) fJ=bM x.length (wdM x) (scl gY bW (aA i) (aA i) eU)/\aU (rdp x (aA i))=aU (rdp x (aA i))/\bV 1 / aH.x fZ=1 / rdm x (aA i) (kk x (aA i)) (aA i)/\True)/\∀ (i_2:{ c:Nat // aA i<=c }),let C₁:=(scl gY bW (aA i) (aA i_2) eU);let lF:=(bM x.length (wdM x) C₁);let rD:=(rowAt lF dG).length;let C₂:=(aB (aA i_2)).toNat;let jV:=(List.getD (rowAt lF dG) C₂ { ok:=false,x:=0,g:=aG Nat,h:=aG Nat });asT Bool true=true/\(0<=aB aW/\aB aW<aB (aN none lF)/\Int.toNat (aB aW)<aN none lF/\True)/\ifB (decide (aB (aA i_2)<aB rD)) ((0<=aB aW/\aB aW<aB (aN none lF)/\Int.toNat (aB aW)<aN none lF/\0<=aB aW/\aB aW<aB (aN none lF)/\Int.toNat (aB aW)<aN none lF/\0<=aB (aA i_2)/\aB (aA i_2)<aB rD/\Int.toNat (aB (aA i_2))<List.length (rowAt lF dG)/\aH.ok jV=true/\s44 eU (aH.x jV)/\0<=aB (aA i_2)/\aB (aA i_2)<aB rD/\Int.toNat (aB (aA i_2))<List.length (rowAt lF dG)/\True)/\∃ (i':{ c:Nat // aA i<=c }),wdM x-aA i'<wdM x-aA i_2/\IntKind.wrap IntKind.i64 (aB (aA i_2)+1)=aB (aA i')/\List.set lF dG (List.set (rowAt lF dG) C₂ (dL (1 / rdm x (aA i) (kk x (aA i)) (aA i)*aH.x jV)))=bM x.length (wdM x) (scl gY bW (aA i) (aA i') eU)/\aU (rdp x (aA i))=aU (rdp x (aA i))/\1 / rdm x (aA i) (kk x (aA i)) (aA i)=1 / rdm x (aA i) (kk x (aA i)) (aA i)/\True) ((asT Int 0=0/\bM x.length (wdM x) C₁=bM x.length (wdM x) (elm A₁ bW (aA i) 0)/\aU (rdp x (aA i))=aU (rdp x (aA i))/\True)/\∀ (i_3:{ i:Nat // i<=List.length x }),let CB:=(elm A₁ bW (aA i) (aA i_3));let C₃:=(bM x.length (wdM x) CB);let xB:=(aB (aA i_3)).toNat;let qB:=(nameAt none xB);let oI:=(rowAt C₃ qB);let vJ:=(List.getD oI gJ { ok:=false,x:=0,g:=aG Nat,h:=aG Nat });let NH:=(aB (aA i_3) != aB aW);let eF:=(NH==true);asT Bool true=true/\ifB (decide (aB (aA i_3)<aB (aN none lF))) (((eF=true->eF=true/\eF=true/\0<=aB (aA i_3)/\aB (aA i_3)<aB (aN none C₃)/\True)/\(eF=true->eF=true/\Int.toNat (aB (aA i_3))<aN none C₃/\True)/\(eF=true->eF=true/\eF=true/\0<=aB (aA i)/\aB (aA i)<aB oI.length/\True)/\(eF=true->eF=true/\Int.toNat (aB (aA i))<List.length oI/\True)/\(eF=true->eF=true/\aH.ok vJ=true/\rsz (aH.x vJ)<=1000000000/\True)/\(eF=true->eF=true/\True)/\(NH=true->eF=true)/\True)/\ifB (bif aB (aA i_3) != aB aW then sgn (Rat.num (aH.x vJ)) != 0 else false) ((0<=aB (aA i_3)/\aB (aA i_3)<aB (aN none C₃)/\Int.toNat (aB (aA i_3))<aN none C₃/\0<=aB aW/\aB aW<aB (aN none C₃)/\Int.toNat (aB aW)<aN none C₃/\0<=aB (aA i_3)/\aB (aA i_3)<aB (aN none C₃)/\Int.toNat (aB (aA i_3))<aN none C₃/\0<=aB (aA i)/\aB (aA i)<aB oI.length/\Int.toNat (aB (aA i))<List.length oI/\nameAt none (aB aW).toNat≠nameAt none xB/\oJ (fun(x:Ty.den (Ty.lf Lf.iM))=>dK ((aH.ok x=true)::aG Cd)) (rowAt C₃ dG)/\aH.ok vJ=true/\((∀ (q:aH),q ∈ rowAt C₃ qB->q=dL (aH.x q))/\List.length oI=List.length (List.map A₀ (rowAt C₃ dG))/\List.length oI<=1000/\0<=aB (aA i)/\(∀ (q:aH),q ∈ rowAt C₃ qB->rsz (aH.x q)<=400000000)/\rsz (aH.x vJ)<=100000000/\∀ (q:Rat),q ∈ List.map A₀ (rowAt C₃ dG)->rsz q<=100000000)/\True)/\∃ (i':{ i:Nat // i<=List.length x }),List.length x-aA i'<List.length x-aA i_3/\IntKind.wrap IntKind.i64 (aB (aA i_3)+1)=aB (aA i')/\List.set C₃ qB (oD oI (List.map A₀ (rowAt C₃ dG)) (aH.x vJ) gJ oI.length)=bM x.length (wdM x) (elm A₁ bW (aA i) (aA i'))/\aU (rdp x (aA i))=aU (rdp x (aA i))/\True) (∃ (i':{ i:Nat // i<=List.length x }),List.length x-aA i'<List.length x-aA i_3/\IntKind.wrap IntKind.i64 (aB (aA i_3)+1)=aB (aA i')/\bM x.length (wdM x) CB=bM x.length (wdM x) (elm A₁ bW (aA i) (aA i'))/\aU (rdp x (aA i))=aU (rdp x (aA i))/\True)) ((List.length (aU (rdp x (aA i)))+List.length (aB (aA i)::aG Int)<=1000000000/\True)/\∃ (i':{ j:Nat // j<=Int.toNat n }),Int.toNat n-aA i'<Int.toNat n-aA i/\IntKind.wrap IntKind.i64 (aB (aA i)+1)=aB (aA i')/\bM x.length (wdM x) CB=bM x.length (wdM x) (rdm x (aA i'))/\aU (rdp x (aA i))++aB (aA i)::aG Int=aU (rdp x (aA i'))/\True))))) (True/\aU (rdp x (aA i))=aU (rdp x n.toNat)/\bM x.length (wdM x) (rdm x n.toNat)=bM x.length (wdM x) (rdm x (aA i)))) (by kernel_rfl) ?_
 exact b5L x n hp
abbrev TUn:List Ty:=[]
def c0F (c:(nest TUn).den) (i j:Int):Prop:=0<=i/\0<=j
def gUn (c:(nest TUn).den) (i j:Nat):Rat:=idm i j
theorem a5p:aI Tryz.prog 221 (b1a TUn c0F gUn):=by
 refine oM (nil0.ad AP) [4] Tryz.func221 rfl (by decide) (fun x=>[]) (fun x hp=>?_)
 obtain⟨i,j,c⟩:=x
 change Int at i
 change Int at j
 have hu:c=():=rfl
 refine aY (ifB (i==j) ((dU 1/\True)/\True/\bV 1=gUn c i.toNat j.toNat/\True) ((dU 0/\True)/\True/\bV 0=gUn c i.toNat j.toNat/\True)) (by kernel_rfl) ?_
 try dsimp only[aB,asT,aA,aG] at *
 have h1:0<=i/\0<=j:=hp
 refine aF.mpr ⟨fun h=>⟨⟨by unfold dU;omega,trivial⟩,trivial,?_,trivial⟩,fun h=>⟨⟨by unfold dU;omega,trivial⟩,trivial,?_,trivial⟩⟩
 ·have h:i=j:=by simpa using h
  show ((1:Int):Rat)=if i.toNat=j.toNat then 1 else 0
  rw[jl (by rw[h])];rfl
 ·have h:i≠j:=by simpa using h
  show ((0:Int):Rat)=if i.toNat=j.toNat then 1 else 0
  rw[jd (by omega)];rfl
theorem c0J {R C n:Nat} {f:Mt} (hn:n<=C):(red R (EG (bM R C f)) n).2=(red R f n).2/\∀ i,i<R->∀ c,c<C->(red R (EG (bM R C f)) n).1 i c=(red R f n).1 i c:=FU (fun i hi c hc=>ZX hi hc) n hn
theorem a9G {R C n:Nat} {f:Mt} (r1:1<=R) (r2:R<=1000) (c1:1<=C) (c2:C<=1000) (hn:n<=C) (H:YB R C f n):a9F (bM R C f) (n:Int):=by
 have hw:wdM (bM R C f)=C:=by show ((bM R C f).getD 0 []).length=C;rw[jR (by omega)];simp
 unfold a9F
 rw[iU,hw]
 refine⟨pF fun i hi j hj=>(ZX hi hj).symm,r1,r2,c1,c2,by omega,by omega,fun t ht i hi c hc=>?_⟩
 rw[(c0J (by have:t<=n:=ht;omega)).2 i hi c hc]
 exact H t ht i hi c hc
noncomputable def c1r:Ctr:=⟨[tM],[tM,.list tI,tI],fun x=>okE x.1,fun x=>(OD x.1,aU (gX x.1),(0:Int),())⟩
theorem b1r:aI Tryz.prog 219 c1r:=by
 refine aO (((nil0.ad a2c).an a7i).an c0K) ⟨[],[],[]⟩ Tryz.func219 rfl (by decide) (fun x=>[]) (fun x hp=>?_)
 obtain⟨a,u⟩:=x
 change List (List Rat) at a
 refine aY (let A₀:=(bM a.length (wdM a) (ent a));let A₁:=(List.map (fun(xs:Ty.den (Ty.list (Ty.lf Lf.rat)))=>List.map (fun(x:Ty.den (Ty.lf Lf.rat))=>dL x) xs) a);let A₂:=(aB (rowAt A₀ 0).length);let aW:=(bM A₀.length (wdM A₀) (rdm A₀ A₂.toNat));(oJ (fun(x:Ty.den (Ty.list (Ty.lf Lf.rat)))=>dK (oJ (fun(x:Ty.den (Ty.lf Lf.rat))=>dK (aG Cd)) x::aG Cd)) a/\YO A₁/\True)/\ifB (SC A₁ != 0) (True/\aG (List Rat)=OD a/\True/\aG Int=aU (gX a)/\True/\SC A₁=0/\True) ((okM a/\True)/\(asT Int 0<=0/\0<aB (aN none A₀)/\0<aN none A₀/\a9F A₀ A₂/\True)/\(oJ (fun(x:Ty.den (Ty.list (Ty.lf Lf.iM)))=>dK (oJ (fun(x:Ty.den (Ty.lf Lf.iM))=>dK ((aH.ok x=true)::aG Cd)) x::aG Cd)) aW/\True)/\List.map (fun(xs:Ty.den (Ty.list (Ty.lf Lf.iM)))=>List.map (fun(x:Ty.den (Ty.lf Lf.iM))=>aH.x x) xs) aW=OD a/\True/\aU (rdp A₀ A₂.toNat)=aU (gX a)/\True/\asT Int 0=0/\True)) (by kernel_rfl) ?_
 have hE:okE a:=hp
 have ha:=hE.1
 have hr:((bM a.length (wdM a) (ent a)).getD 0 []).length=wdM a:=by rw[jR ha.pos];simp
 have hw:wdM (bM a.length (wdM a) (ent a))=wdM a:=hr
 have hc:=c0J (R:=a.length) (f:=ent a) (ay (wdM a))
 dsimp only[aB,asT,aA,aG] at *
 refine⟨⟨b0Y a,ha.short,trivial⟩,ifF (b5s ha.chk) ⟨⟨ha,trivial⟩,?_⟩⟩
 simp only[aN,rowAt,iU,hr,hw,Int.toNat_natCast]
 refine⟨⟨Int.le_refl 0,ha.poz,ha.pos,a9G ha.pos (by have:=ha.r64;omega) ha.c1 (by have:=ha.c64;omega) (ay _) hE.2,trivial⟩,⟨b3i _ _ _,trivial⟩,(b8R _ _ _).trans ?_,trivial,?_,trivial,trivial,trivial⟩
 ·show tab _ _ (red (bM a.length (wdM a) (ent a)).length _ _).1=_
  rw[iU]
  exact a6u fun i hi j hj=>hc.2 i hi j hj
 ·show aU (red (bM a.length (wdM a) (ent a)).length _ _).2=_
  rw[iU,hc.1];rfl
abbrev LI':Type:=List Int
noncomputable def c1y:Ctr:=⟨[.list tI,tI],[tI],fun x=>(show LI' from x.1).length<=1000000,fun x=>(mX (fun q:Int=>q==(show Int from x.2.1)) (show LI' from x.1),())⟩
theorem b1K:aI Tryz.prog 270 c1y:=by
 refine aO nil0 ⟨[],[],[]⟩ Tryz.func270 rfl (by decide) (fun x=>[.inv {k:Nat // k<=(show LI' from x.1).length/\((show LI' from x.1).take k).any (fun q:Int=>q==(show Int from x.2.1))=false} (fun k=>[(8,.val tI (k.1:Int))]) (fun k=>[]) (fun k=>(show LI' from x.1).length-k.1) ⟨0,by omega,rfl⟩ (fun _=>[])]) (fun x hp=>?_)
 obtain⟨x,v,u⟩:=x
 change List Int at x
 change Int at v
 refine aY ((asT Int 0=0/\True)/\∀ (i:{ k:Nat // k<=List.length x/\(List.any (List.take k x) fun(q:Int)=>q==v)=false }),asT Bool true=true/\ifB (decide (aB (aA i)<aB x.length)) ((0<=aB (aA i)/\aB (aA i)<aB x.length/\True)/\ifB (v==List.getD x (aB (aA i)).toNat 0) (True/\aB (aA i)=mX (fun(q:Int)=>q==v) x/\True) (∃ (i':{ k:Nat // k<=List.length x/\(List.any (List.take k x) fun(q:Int)=>q==v)=false }),List.length x-aA i'<List.length x-aA i/\IntKind.wrap IntKind.i64 (aB (aA i)+1)=aB (aA i')/\True)) (True/\-1=mX (fun(q:Int)=>q==v) x/\True)) (by kernel_rfl) ?_
 have hZ:(⟨false,0,[],[]⟩:aH)=bF:=rfl
 dsimp only[aB,asT,aA,aG,Ty.den,Lf.den] at *
 simp only[hZ,Int.toNat_natCast,aF,ak,ah,jo,jm,aN,nameAt,bJ,iU,tC,rowAt,iq,dh]
 have hp:x.length<=1000000:=hp
 refine fun i=>⟨fun h1=>⟨⟨by omega,h1⟩,fun h2=>?_,fun h2=>⟨⟨i.1+1,by omega,?_⟩,by simp only;omega,by rw[aS (by omega) (by omega)];rfl⟩⟩,fun h1=>?_⟩
 ·have e:v=x.getD i.1 0:=eq_of_beq h2
  exact(uO (d:=0) (by omega) i.2.2 (by show (x.getD i.1 0==v)=true;rw[<-e];exact beq_self_eq_true v)).symm
 ·have e:(x.getD i.1 0==v)=false:=by rw[eu] at h2 ⊢;exact fun e=>h2 e.symm
  rw[mZ (d:=0) (by omega),i.2.2,e];rfl
 ·have h3:=i.2.2
  rw[jv (by omega)] at h3
  exact(zO h3).symm
noncomputable def c1x:Ctr:=⟨[.list tI,tI],[tB],fun x=>(show LI' from x.1).length<=1000000,fun x=>((show LI' from x.1).any (fun q:Int=>q==(show Int from x.2.1)),())⟩
theorem a3G:aI Tryz.prog 220 c1x:=by
 refine aO (nil0.ad b1K) ⟨[],[],[]⟩ Tryz.func220 rfl (by decide) (fun x=>[]) (fun x hp=>?_)
 obtain⟨x,v,u⟩:=x
 change List Int at x
 change Int at v
 refine aY ((List.length x<=1000000/\True)/\True/\(decide (mX (fun(q:Int)=>q==v) x ≥ 0)=List.any x fun(q:Int)=>q==v)/\True) (by kernel_rfl) ?_
 have hZ:(⟨false,0,[],[]⟩:aH)=bF:=rfl
 dsimp only[aB,asT,aA,aG,Ty.den,Lf.den] at *
 simp only[hZ,Int.toNat_natCast,aF,ak,ah,jo,jm,aN,nameAt,bJ,iU,tC,rowAt,iq,dh]
 exact⟨hp,uP _ _⟩
def b5x (a:MQ) (j:Nat):LR:=(List.range (wdM a)).map fun c=>dL (KZ (uZ a (wdM a)).1 (gX a) j c)
def FK (a:MQ) (j c:Nat):LR:=(List.range (wdM a)).map fun d=>if d<c then dL (idm d j) else bF
def kZ (a:MQ) (j t:Nat):LR:=(List.range (wdM a)).map fun d=>dL (if d ∈ (gX a).take t then-(uZ a (wdM a)).1 ((gX a).idxOf d) j else idm d j)
def fE (a:MQ) (j:Nat):MR:=(frees j (gX a)).map (b5x a)
theorem a5N (a:MQ) (j:Nat):FK a j 0=List.replicate (wdM a) bF:=by
 unfold FK;apply Ei<;>simp
theorem a9i (a:MQ) (j c:Nat):(FK a j c).set c (dL (gUn () c j))=FK a j (c+1):=by
 unfold FK;rw[map_set]
 refine ny fun d _=>?_
 by_cases e:d=c
 ·rw[jl e,jl (by omega),e];rfl
 ·rw[jd e]
  by_cases e2:d<c
  ·rw[jl e2,jl (by omega)]
  ·rw[jd e2,jd (by omega)]
theorem a9h (a:MQ) (j:Nat):FK a j (wdM a)=kZ a j 0:=by
 unfold FK kZ
 refine ny fun d hd=>?_
 rw[jl (uj.mp hd)];simp
theorem a0R {a:MQ} {j t:Nat} (hd:(gX a).Nodup) (ht:t<(gX a).length):(kZ a j t).set (gX a)[t] (dL (- (uZ a (wdM a)).1 t j))=kZ a j (t+1):=by
 unfold kZ;rw[map_set]
 refine ny fun d _=>?_
 by_cases e:d=(gX a)[t]
 ·rw[jl e,jl ((RG ht).mpr (.inr e)),e,qR hd ht]
 ·rw[jd e]
  by_cases e2:d ∈ (gX a).take t
  ·rw[jl e2,jl ((RG ht).mpr (.inl e2))]
  ·rw[jd e2,jd (fun h=>((RG ht).mp h).elim e2 e)]
theorem a0Q (a:MQ) {j:Nat} (hj:j ∉ gX a):kZ a j (gX a).length=b5x a j:=by
 unfold kZ b5x
 refine ny fun d _=>?_
 rw[List.take_length]
 unfold KZ
 by_cases e:d=j
 ·rw[jd (by rw[e];exact hj),jl e];show dL (if d=j then 1 else 0)=_;rw[jl e]
 ·rw[jd e]
  by_cases e2:d ∈ gX a
  ·rw[jl e2,jl e2]
  ·rw[jd e2,jd e2];show dL (if d=j then 1 else 0)=_;rw[jd e]
noncomputable def b9w:Ctr:=⟨[tM],[tM,tI],fun x=>okE x.1,fun x=>(sV x.1,(0:Int),())⟩
theorem a5O:aI Tryz.prog 138 b9w:=by
 refine aO ((((nil0.ad b1r).ad XG).ad a5p).ad a3G) ⟨[],[],[]⟩ Tryz.func138 rfl (by decide) (fun x=>[.inv {j:Nat // j<=wdM (show MQ from x.1)} (fun j=>[(26,.val tI (j.1:Int)),(7,.own 71 0)]++[(8,.any),(9,.any),(10,.any),(11,.any),(12,.any),(27,.any),(28,.any),(29,.any),(30,.any),(31,.any),(32,.any),(33,.any),(34,.any),(35,.any),(36,.any),(37,.any),(38,.any),(39,.any),(40,.any),(41,.any),(42,.any),(43,.any),(44,.any),(45,.any),(46,.any),(47,.any),(48,.any),(49,.any),(50,.any),(51,.any),(52,.any),(53,.any),(54,.any),(55,.any),(56,.any),(57,.any),(58,.any),(59,.any),(60,.any),(61,.any),(62,.any),(63,.any),(64,.any),(65,.any),(66,.any),(67,.any),(68,.any),(69,.any),(70,.any),(71,.any),(72,.any)]) (fun j=>[(71,.row 39 (.list tR) (fE (show MQ from x.1) j.1) 0)]) (fun j=>wdM (show MQ from x.1)-j.1) ⟨0,by omega⟩ (fun j=>[
  .inv {c:Nat // c<=wdM (show MQ from x.1)} (fun c=>[(39,.val tI (c.1:Int))]) (fun c=>[(71,.row 39 (.list tR) (fE (show MQ from x.1) j.1) 0),(36,.row 47 tR (FK (show MQ from x.1) j.1 c.1) 0)]) (fun c=>wdM (show MQ from x.1)-c.1) ⟨0,by omega⟩ (fun _=>[]),
  .inv {t:Nat // t<=(gX (show MQ from x.1)).length} (fun t=>[(51,.val tI (t.1:Int))]) (fun t=>[(71,.row 39 (.list tR) (fE (show MQ from x.1) j.1) 0),(36,.row 47 tR (kZ (show MQ from x.1) j.1 t.1) 0)]) (fun t=>(gX (show MQ from x.1)).length-t.1) ⟨0,by omega⟩ (fun _=>[])])]) (fun x hp=>?_)
 obtain⟨a,u⟩:=x
 change List (List Rat) at a
 refine aY (let A₀:=(List.getD (OD a) 0 (aG Rat)).length;let A₁:=(OD a).length;let A₂:=(aU (gX a)).length;(okE a/\True)/\(asT Int 0<=0/\0<aB A₁/\True)/\(asT Int 0=0/\(True/\asT (List (List aH)) (aG (List aH))=aG (List aH))/\(asT (List (List aH)) (aG (List aH))=aG (List aH)/\0=0/\asT Bool true=true)/\True)/\∀ (i:{ j:Nat // j<=wdM a }),let aW:=(aB (aA i)).toNat;asT Bool true=true/\ifB (decide (aB (aA i)<aB A₀)) ((List.length (aU (gX a))<=1000000/\True)/\ifB (List.any (aU (gX a)) fun(q:Int)=>q==aB (aA i)) (∃ (i':{ j:Nat // j<=wdM a }),wdM a-aA i'<wdM a-aA i/\IntKind.wrap IntKind.i64 (aB (aA i)+1)=aB (aA i')/\fE a (aA i)=fE a (aA i')/\True) ((asT Int 0<=0/\0<aB A₁/\aB A₀=aB A₀/\0<=aB A₀/\aB A₀<=1000000000/\True)/\(asT Int 0=0/\fE a (aA i)=fE a (aA i)/\List.replicate (aB A₀).toNat bF=FK a (aA i) 0/\True)/\∀ (i_1:{ c:Nat // c<=wdM a }),let bW:=(FK a (aA i) (aA i_1));let eU:=(aB (aA i_1)).toNat;asT Bool true=true/\ifB (decide (aB (aA i_1)<aB (List.replicate (aB A₀).toNat bF).length)) ((c0F () (aB (aA i_1)) (aB (aA i))/\0<=aB (aA i_1)/\aB (aA i_1)<aB bW.length/\Int.toNat (aB (aA i_1))<List.length bW/\True)/\∃ (i':{ c:Nat // c<=wdM a }),wdM a-aA i'<wdM a-aA i_1/\IntKind.wrap IntKind.i64 (aB (aA i_1)+1)=aB (aA i')/\fE a (aA i)=fE a (aA i)/\List.set bW eU (dL (gUn () eU aW))=FK a (aA i) (aA i')/\True) ((asT Int 0=0/\fE a (aA i)=fE a (aA i)/\FK a (aA i) (aA i_1)=kZ a (aA i) 0/\True)/\∀ (i_2:{ t:Nat // t<=List.length (gX a) }),let gY:=(aB (aA i_2)).toNat;let dG:=(List.getD (OD a) gY (aG Rat));let gJ:=(kZ a (aA i) (aA i_2));let fJ:=(List.getD (aU (gX a)) gY 0);asT Bool true=true/\ifB (decide (aB (aA i_2)<aB A₂)) ((0<=aB (aA i_2)/\aB (aA i_2)<aB A₂/\True)/\(0<=aB (aA i_2)/\aB (aA i_2)<aB A₁/\0<=aB (aA i)/\aB (aA i)<aB dG.length/\s4 (List.getD dG aW 0)/\0<=List.getD (aU (gX a)) gY 0/\List.getD (aU (gX a)) gY 0<aB gJ.length/\Int.toNat fJ<List.length gJ/\True)/\∃ (i':{ t:Nat // t<=List.length (gX a) }),List.length (gX a)-aA i'<List.length (gX a)-aA i_2/\IntKind.wrap IntKind.i64 (aB (aA i_2)+1)=aB (aA i')/\fE a (aA i)=fE a (aA i)/\List.set gJ fJ.toNat (dL (-List.getD dG aW 0))=kZ a (aA i) (aA i')/\True) ((List.length (fE a (aA i))+List.length (kZ a (aA i) (aA i_2)::aG (List aH))<=1000000000/\True)/\∃ (i':{ j:Nat // j<=wdM a }),wdM a-aA i'<wdM a-aA i/\IntKind.wrap IntKind.i64 (aB (aA i)+1)=aB (aA i')/\fE a (aA i)++kZ a (aA i) (aA i_2)::aG (List aH)=fE a (aA i')/\True)))) ((oJ (fun(x:Ty.den (Ty.list (Ty.lf Lf.iM)))=>dK (oJ (fun(x:Ty.den (Ty.lf Lf.iM))=>dK ((aH.ok x=true)::aG Cd)) x::aG Cd)) (fE a (aA i))/\True)/\List.map (fun(xs:Ty.den (Ty.list (Ty.lf Lf.iM)))=>List.map (fun(x:Ty.den (Ty.lf Lf.iM))=>aH.x x) xs) (fE a (aA i))=sV a/\True/\asT Int 0=0/\True)) (by kernel_rfl) ?_
 have hZ:(⟨false,0,[],[]⟩:aH)=bF:=rfl
 dsimp only[aB,asT,aA,aG,Ty.den,Lf.den] at *
 simp only[hZ,Int.toNat_natCast,aF,ak,ah,jo,jm,aN,nameAt,bJ,iU,tC,rowAt,iq,dh]
 have hE:okE a:=hp
 have ha:=hE.1
 have q1:=ha.r64
 have q2:=ha.c64
 have q3:=ha.pos
 have E:Ech a.length (ent a) (wdM a) (uZ a (wdM a)).1 (gX a):=fH a.length (ent a) (wdM a)
 have hle:=E.le
 have l1:(OD a).length=a.length:=tC
 have l2:∀ i,i<a.length->(List.getD (OD a) i []).length=wdM a:=fun i hi=>by unfold OD;rw[GN hi];simp
 have l3:∀ i,i<a.length->∀ c,c<wdM a->(List.getD (OD a) i []).getD c 0=(uZ a (wdM a)).1 i c:=fun i hi c hc=>by unfold OD;rw[GN hi,iR hc]
 simp only[l1,l2 0 q3,PE]
 refine⟨hE,⟨Int.le_refl 0,by omega⟩,fun j=>⟨fun h1=>⟨by omega,fun h2=>?_,fun h2=>⟨⟨Int.le_refl 0,by omega,by omega,by omega⟩,?_,fun c=>⟨fun h3=>?_,fun h3=>⟨?_,fun t=>⟨fun h4=>?_,fun h4=>?_⟩⟩⟩⟩⟩,fun h1=>?_⟩⟩
 ·rw[ER] at h2
  have h2:=vw h2
  refine⟨⟨j.1+1,by omega⟩,by simp only;omega,by rw[aS (by omega) (by omega)];rfl,?_⟩
  show fE a j.1=fE a (j.1+1)
  unfold fE;rw[a0j h2]
 ·exact(a5N a j.1).symm
 ·rw[yh] at h3
  have hc:c.1<wdM a:=by omega
  have l4:(FK a j.1 c.1).length=wdM a:=by simp[FK]
  rw[l4]
  exact⟨⟨⟨Int.natCast_nonneg _,Int.natCast_nonneg _⟩,by omega,by omega,hc⟩,⟨c.1+1,by omega⟩,by simp only;omega,by rw[aS (by omega) (by omega)];rfl,a9i a j.1 c.1⟩
 ·rw[yh] at h3
  have hc:c.1=wdM a:=by have:=c.2;omega
  rw[hc];exact a9h a j.1
 ·have ht:t.1<(gX a).length:=by omega
  have hm:=wz ht
  have hp:=E.lt _ hm
  have e1:(aU (gX a)).getD t.1 0=((gX a)[t.1]:Int):=by unfold aU;simp[bn,ht]
  have l4:(kZ a j.1 t.1).length=wdM a:=by simp[kZ]
  have hj:j.1<wdM a:=by omega
  rw[l2 t.1 (by omega),l3 t.1 (by omega) j.1 hj,e1,l4,Int.toNat_natCast]
  have z:=hE.2 (wdM a) (ay _) t.1 (by omega) j.1 hj
  refine⟨⟨by omega,by omega⟩,⟨by omega,by omega,by omega,by omega,by show rsz ((uZ a (wdM a)).1 t.1 j.1)<=_;unfold uZ;omega,by omega,by omega,hp⟩,⟨t.1+1,by omega⟩,by simp only;omega,by rw[aS (by omega) (by omega)];rfl,a0R E.nd ht⟩
 ·have ht:t.1=(gX a).length:=by have:=t.2;omega
  rw[ER] at h2
  have h2:=vk h2
  have hfl:(frees j.1 (gX a)).length<=j.1:=by unfold frees;have:=List.length_filter_le (fun c=>decide (c ∉ gX a)) (List.range j.1);simpa using this
  refine⟨by unfold fE;rw[ru];simp;omega,⟨j.1+1,by omega⟩,by simp only;omega,by rw[aS (by omega) (by omega)];rfl,?_⟩
  show fE a j.1++[kZ a j.1 t.1]=fE a (j.1+1)
  unfold fE
  rw[TQ h2,Az,ht,a0Q a h2];rfl
 ·have hj:j.1=wdM a:=by have:=j.2;omega
  rw[hj]
  refine⟨lI.mpr fun r hr=>⟨lI.mpr fun q hq=>?_,trivial⟩,?_⟩
  ·obtain⟨s,_,rfl⟩:=qm.mp hr
   obtain⟨c,_,rfl⟩:=rQ hq
   exact⟨rfl,trivial⟩
  ·unfold fE sV
   rw[List.map_map]
   exact ny fun s _=>QD _ _
set_option maxHeartbeats 4000000
def AV (n:Int):Bool:=decide (a8Z n (IntKind.wrap .i64 (0-n)) > 4000)&&!lN n
def nZ (p:aX):Bool:=[p.1.1,p.1.2.1,p.2.1.1,p.2.1.2.1].any AV
noncomputable def c1G:Ctr:=⟨[tI],[tB],fun x=>True,fun x=>(AV x.1,())⟩
theorem a4a:aI Tryz.prog 137 c1G:=by
 refine aO (nil0.ad a0I) ⟨[],[],[]⟩ Tryz.func137 rfl (by decide) (fun x=>[]) (fun x hp=>?_)
 obtain⟨n,u⟩:=x
 change Int at n
 refine aY (let A₁:=(a8Z n (IntKind.wrap IntKind.i64 (0-n)) > 4000);let A₀:=(decide A₁==true);let A₂:=(A₀=true->A₀=true/\True);(A₂/\(A₀=true->A₀=true/\List.length (n::aG Int)<=1000000/\True)/\A₂/\(decide A₁=true->A₀=true)/\True)/\True/\(bif decide A₁ then !List.any (n::aG Int) lN else false)=AV n/\True) (by kernel_rfl) ?_
 have hZ:(⟨false,0,[],[]⟩:aH)=bF:=rfl
 try simp only[aF,ak,ah]
 try dsimp only[aB,asT,aA,aG,Ty.den,Lf.den] at *
 try simp only[hZ,Int.toNat_natCast,aF,ak,ah,jo,jm,iq,dh]
 try simp only[cZ,cO,List.all_cons,List.all_nil,jr,gy,iw,jf,ni,ne_eq,au,bg,eu,ig,jh,qh,jy,ql,jo,jm,je,dn,List.length_cons,List.length_nil]
 refine⟨⟨fun h=>⟨h,by omega⟩,fun h=>xk h⟩,?_⟩
 rw[List.any_cons,List.any_nil,Bool.or_false];rfl
noncomputable def b9s:Ctr:=⟨[.list tI,.clo 137 .unit],[tI],fun x=>(show List (Int) from x.1).length<=1000000/\∀ q ∈ (show List (Int) from x.1),(fun _=>True) q,fun x=>(mX AV (show List (Int) from x.1),())⟩
theorem a8m:aI Tryz.prog 218 b9s:=by
 refine aO (nil0.ad a4a) ⟨[],[],[]⟩ Tryz.func218 rfl (by decide) (fun x=>[.inv {k:Nat // k<=(show List (Int) from x.1).length/\((show List (Int) from x.1).take k).any AV=false} (fun k=>[(8,.val tI (k.1:Int))]) (fun k=>[]) (fun k=>(show List (Int) from x.1).length-k.1) ⟨0,by omega,rfl⟩ (fun _=>[])]) (fun x hp=>?_)
 obtain⟨x,c,u⟩:=x
 change List (Int) at x
 change Unit at c
 refine aY ((asT Int 0=0/\True)/\∀ (i:{ k:Nat // k<=List.length x/\List.any (List.take k x) AV=false }),asT Bool true=true/\ifB (decide (aB (aA i)<aB x.length)) ((0<=aB (aA i)/\aB (aA i)<aB x.length/\True/\True)/\ifB (AV (List.getD x (aB (aA i)).toNat 0)) (True/\aB (aA i)=mX AV x/\True) (∃ (i':{ k:Nat // k<=List.length x/\List.any (List.take k x) AV=false }),List.length x-aA i'<List.length x-aA i/\IntKind.wrap IntKind.i64 (aB (aA i)+1)=aB (aA i')/\True)) (True/\-1=mX AV x/\True)) (by kernel_rfl) ?_
 have hZ:(⟨false,0,[],[]⟩:aH)=bF:=rfl
 try simp only[aF,ak,ah]
 try dsimp only[aB,asT,aA,aG,Ty.den,Lf.den] at *
 try simp only[hZ,Int.toNat_natCast,aF,ak,ah,jo,jm,iq,dh]
 try simp only[cZ,cO,List.all_cons,List.all_nil,jr,gy,iw,jf,ni,ne_eq,au,bg,eu,ig,jh,qh,jy,ql,jo,jm,je,dn,List.length_cons,List.length_nil]
 have hp:x.length<=1000000/\∀ q ∈ x,(fun _=>True) q:=hp
 obtain⟨hl,hb⟩:=hp
 refine fun i=>⟨fun h1=>⟨(by first|exact⟨by omega,h1,dB hb (by omega)⟩|exact⟨by omega,h1⟩),fun h2=>?_,fun h2=>⟨⟨i.1+1,by omega,?_⟩,by simp only;omega,?_⟩⟩,fun h1=>?_⟩
 ·exact(uO (d:=0) (by omega) i.2.2 (by first|exact h2|rw[h2];rfl)).symm
 ·rw[mZ (d:=0) (by omega),i.2.2,h2];rfl
 ·rw[aS (by omega) (by omega)];rfl
 ·have h3:=i.2.2
  rw[jv (by omega)] at h3
  exact(zO h3).symm
noncomputable def b9j:Ctr:=⟨[.list tI,.clo 137 .unit],[tB],fun x=>(show List (Int) from x.1).length<=1000000/\∀ q ∈ (show List (Int) from x.1),(fun _=>True) q,fun x=>((show List (Int) from x.1).any AV,())⟩
theorem a7f:aI Tryz.prog 136 b9j:=by
 refine aO ((nil0.ad a4a).ad a8m) ⟨[],[],[]⟩ Tryz.func136 rfl (by decide) (fun x=>[]) (fun x hp=>?_)
 obtain⟨x,c,u⟩:=x
 change List (Int) at x
 change Unit at c
 refine aY (((List.length x<=1000000/\∀ (q:Int),q ∈ x->True)/\True)/\True/\decide (mX AV x ≥ 0)=List.any x AV/\True) (by kernel_rfl) ?_
 exact⟨⟨hp,trivial⟩,trivial,uP _ _,trivial⟩
noncomputable def c1F:Ctr:=⟨[sZ],[tB],fun x=>True,fun x=>(nZ x.1,())⟩
theorem a3Z:aI Tryz.prog 135 c1F:=by
 refine aO (nil0.ad a7f) ⟨[],[],[]⟩ Tryz.func135 rfl (by decide) (fun x=>[]) (fun x hp=>?_)
 obtain⟨p,u⟩:=x
 change aX at p
 refine aY (let A₁:=p.2.1;let A₂:=p.1.2.1;let A₀:=(asT Int p.1.1::asT Int A₂::asT Int A₁.1::asT Int A₁.2.1::aG Int);((List.length A₀<=1000000/\∀ (q:Int),q ∈ asT Int p.1.1::asT Int A₂::asT Int A₁.1::asT Int A₁.2.1::aG Int->True)/\True)/\True/\List.any A₀ AV=nZ p/\True) (by kernel_rfl) ?_
 have hZ:(⟨false,0,[],[]⟩:aH)=bF:=rfl
 try simp only[aF,ak,ah]
 try dsimp only[aB,asT,aA,aG,Ty.den,Lf.den] at *
 try simp only[hZ,Int.toNat_natCast,aF,ak,ah,jo,jm,iq,dh]
 try simp only[cZ,cO,List.all_cons,List.all_nil,jr,gy,iw,jf,ni,ne_eq,au,bg,eu,ig,jh,qh,jy,ql,jo,jm,je,dn,List.length_cons,List.length_nil]
 exact⟨by omega,rfl⟩
noncomputable def b9r:Ctr:=⟨[.list sZ,.clo 135 .unit],[tI],fun x=>(show List (aX) from x.1).length<=9223372036854775807/\∀ q ∈ (show List (aX) from x.1),(fun _=>True) q,fun x=>(mX nZ (show List (aX) from x.1),())⟩
theorem a8l:aI Tryz.prog 217 b9r:=by
 refine aO (nil0.ad a3Z) ⟨[],[],[]⟩ Tryz.func217 rfl (by decide) (fun x=>[.inv {k:Nat // k<=(show List (aX) from x.1).length/\((show List (aX) from x.1).take k).any nZ=false} (fun k=>[(8,.val tI (k.1:Int))]) (fun k=>[]) (fun k=>(show List (aX) from x.1).length-k.1) ⟨0,by omega,rfl⟩ (fun _=>[])]) (fun x hp=>?_)
 obtain⟨x,c,u⟩:=x
 change List (aX) at x
 change Unit at c
 refine aY ((asT Int 0=0/\True)/\∀ (i:{ k:Nat // k<=List.length x/\List.any (List.take k x) nZ=false }),asT Bool true=true/\ifB (decide (aB (aA i)<aB x.length)) ((0<=aB (aA i)/\aB (aA i)<aB x.length/\True/\True)/\ifB (nZ (List.getD x (aB (aA i)).toNat gB)) (True/\aB (aA i)=mX nZ x/\True) (∃ (i':{ k:Nat // k<=List.length x/\List.any (List.take k x) nZ=false }),List.length x-aA i'<List.length x-aA i/\IntKind.wrap IntKind.i64 (aB (aA i)+1)=aB (aA i')/\True)) (True/\-1=mX nZ x/\True)) (by kernel_rfl) ?_
 have hZ:(⟨false,0,[],[]⟩:aH)=bF:=rfl
 try simp only[aF,ak,ah]
 try dsimp only[aB,asT,aA,aG,Ty.den,Lf.den] at *
 try simp only[hZ,Int.toNat_natCast,aF,ak,ah,jo,jm,iq,dh]
 try simp only[cZ,cO,List.all_cons,List.all_nil,jr,gy,iw,jf,ni,ne_eq,au,bg,eu,ig,jh,qh,jy,ql,jo,jm,je,dn,List.length_cons,List.length_nil]
 have hp:x.length<=9223372036854775807/\∀ q ∈ x,(fun _=>True) q:=hp
 obtain⟨hl,hb⟩:=hp
 refine fun i=>⟨fun h1=>⟨(by first|exact⟨by omega,h1,dB hb (by omega)⟩|exact⟨by omega,h1⟩),fun h2=>?_,fun h2=>⟨⟨i.1+1,by omega,?_⟩,by simp only;omega,?_⟩⟩,fun h1=>?_⟩
 ·exact(uO (d:=gB) (by omega) i.2.2 (by first|exact h2|rw[h2];rfl)).symm
 ·rw[mZ (d:=gB) (by omega),i.2.2,h2];rfl
 ·rw[aS (by omega) (by omega)];rfl
 ·have h3:=i.2.2
  rw[jv (by omega)] at h3
  exact(zO h3).symm
noncomputable def b9i:Ctr:=⟨[.list sZ,.clo 135 .unit],[tB],fun x=>(show List (aX) from x.1).length<=9223372036854775807/\∀ q ∈ (show List (aX) from x.1),(fun _=>True) q,fun x=>((show List (aX) from x.1).any nZ,())⟩
theorem a7e:aI Tryz.prog 134 b9i:=by
 refine aO ((nil0.ad a3Z).ad a8l) ⟨[],[],[]⟩ Tryz.func134 rfl (by decide) (fun x=>[]) (fun x hp=>?_)
 obtain⟨x,c,u⟩:=x
 change List (aX) at x
 change Unit at c
 refine aY (((List.length x<=9223372036854775807/\∀ (q:aX),q ∈ x->True)/\True)/\True/\decide (mX nZ x ≥ 0)=List.any x nZ/\True) (by kernel_rfl) ?_
 exact⟨⟨hp,trivial⟩,trivial,uP _ _,trivial⟩
noncomputable def b9t:Ctr:=⟨[.list sZ],[tB],fun x=>(show List aX from x.1).length<=9223372036854775807,fun x=>(!(show List aX from x.1).any nZ,())⟩
theorem a9c:aI Tryz.prog 49 b9t:=by
 refine aO (nil0.ad a7e) ⟨[],[],[]⟩ Tryz.func49 rfl (by decide) (fun x=>[]) (fun x hp=>?_)
 obtain⟨l,u⟩:=x
 change List aX at l
 refine aY (((List.length l<=9223372036854775807/\∀ (q:aX),q ∈ l->True)/\True)/\True/\(!List.any l nZ)=!List.any l nZ/\True) (by kernel_rfl) ?_
 have hZ:(⟨false,0,[],[]⟩:aH)=bF:=rfl
 try simp only[aF,ak,ah]
 try dsimp only[aB,asT,aA,aG,Ty.den,Lf.den] at *
 try simp only[hZ,Int.toNat_natCast,aF,ak,ah,jo,jm,iq,dh]
 try simp only[cZ,cO,List.all_cons,List.all_nil,jr,gy,iw,jf,ni,ne_eq,au,bg,eu,ig,jh,qh,jy,ql,jo,jm,je,dn,List.length_cons,List.length_nil]
 exact hp
noncomputable def c1N:Ctr:=⟨[.list sZ],[tM],fun x=>(show List aX from x.1).length<=64/\∀ p ∈ (show List aX from x.1),cdP p.1/\cdP p.2.1,fun x=>((show List aX from x.1).map fC,())⟩
theorem b2Z:aI Tryz.prog 139 c1N:=by
 refine aO ((nil0.ad AP).ad b3n) ⟨[5],[],[(40,tQ)]⟩ Tryz.func139 rfl (by decide) (fun x=>[.inv {k:Nat // k<=(show List aX from x.1).length} (fun k=>[(13,.val tI (k.1:Int)),(3,.own 40 0),(40,.any),(34,.any)]) (fun k=>[(40,.mat 39 47 tQ none (((show List aX from x.1).take k.1).map fC) 0)]) (fun k=>(show List aX from x.1).length-k.1) ⟨0,by omega⟩ (fun k=>[
  .inv {b:Nat // b<=3} (fun b=>[(20,.val tI (b.1:Int)),(6,.own 34 0),(34,.any)]) (fun b=>[(40,.mat 39 47 tQ none (((show List aX from x.1).take k.1).map fC) 0),(5,.box [⟨tI,(List.getD (show List aX from x.1) k.1 gB).1.1⟩,⟨tI,(List.getD (show List aX from x.1) k.1 gB).1.2.1⟩,⟨tI,(List.getD (show List aX from x.1) k.1 gB).2.1.1⟩,⟨tI,(List.getD (show List aX from x.1) k.1 gB).2.1.2.1⟩]),(34,.row 47 tQ ((fC (List.getD (show List aX from x.1) k.1 gB)).take (3*b.1)) 0)]) (fun b=>3-b.1) ⟨0,by omega⟩ (fun b=>[
   .inv {c:Nat // c<=3} (fun c=>[(26,.val tI (c.1:Int)),(6,.own 34 0),(34,.any)]) (fun c=>[(40,.mat 39 47 tQ none (((show List aX from x.1).take k.1).map fC) 0),(5,.box [⟨tI,(List.getD (show List aX from x.1) k.1 gB).1.1⟩,⟨tI,(List.getD (show List aX from x.1) k.1 gB).1.2.1⟩,⟨tI,(List.getD (show List aX from x.1) k.1 gB).2.1.1⟩,⟨tI,(List.getD (show List aX from x.1) k.1 gB).2.1.2.1⟩]),(34,.row 47 tQ ((fC (List.getD (show List aX from x.1) k.1 gB)).take (3*b.1+c.1)) 0)]) (fun c=>3-c.1) ⟨0,by omega⟩ (fun _=>[])])])]) (fun x hp=>?_)
 obtain⟨l,u⟩:=x
 change List aX at l
 refine aY ((asT Int 0=0/\(True/\asT (List (List Rat)) (aG (List Rat))=aG (List Rat))/\(asT (Option (List Nat)) none=none/\asT (List (List Rat)) (aG (List Rat))=aG (List Rat)/\0=0/\asT Bool true=true)/\True)/\∀ (i:{ k:Nat // k<=List.length l }),let A₀:=(List.getD l (aA i) gB);let A₂:=A₀.2.1;let aW:=(List.take (aA i) l);let bW:=A₀.1.2;let eU:=(Prod.fst A₀.1::Prod.fst bW::1::aG Int);let dG:=(List.getD l (aB (aA i)).toNat gB);let A₁:=dG.2.1;let gY:=(Prod.fst A₁::Prod.fst A₁.2::1::aG Int);asT Bool true=true/\ifB (decide (aB (aA i)<aB l.length)) ((0<=aB (aA i)/\aB (aA i)<aB l.length/\True)/\(True/\True)/\(asT Int 0=0/\(True/\asT (List Rat) (aG Rat)=aG Rat)/\List.map fC aW=List.map fC aW/\Prod.fst dG.1=Prod.fst A₀.1/\Prod.fst dG.1.2=Prod.fst bW/\Prod.fst A₁=Prod.fst A₂/\Prod.fst A₁.2=Prod.fst A₂.2/\(asT (List Rat) (aG Rat)=aG Rat/\0=0/\asT Bool true=true)/\True)/\∀ (i_1:{ b:Nat // b<=3 }),let gJ:=(aB (aA i_1)).toNat;asT Bool true=true/\ifB (decide (aB (aA i_1)<3)) ((0<=aB (aA i_1)/\aB (aA i_1)<3/\True)/\(True/\True)/\(asT Int 0=0/\List.map fC aW=List.map fC aW/\Prod.fst A₀.1=Prod.fst A₀.1/\Prod.fst bW=Prod.fst bW/\Prod.fst A₂=Prod.fst A₂/\Prod.fst A₂.2=Prod.fst A₂.2/\List.take (3*aA i_1) (fC A₀)=List.take (3*aA i_1+0) (fC A₀)/\True)/\∀ (i_2:{ c:Nat // c<=3 }),let fJ:=(IntKind.wrap IntKind.i64 (List.getD eU (aB (aA i_2)).toNat 0*List.getD gY gJ 0));let eH:=(3*aA i_1+aA i_2);asT Bool true=true/\ifB (decide (aB (aA i_2)<3)) ((0<=aB (aA i_2)/\aB (aA i_2)<3/\True)/\(dU fJ/\List.length (List.take eH (fC A₀))+List.length (bV fJ::aG Rat)<=1000000000/\True)/\∃ (i':{ c:Nat // c<=3 }),3-aA i'<3-aA i_2/\IntKind.wrap IntKind.i64 (aB (aA i_2)+1)=aB (aA i')/\List.map fC aW=List.map fC aW/\Prod.fst A₀.1=Prod.fst A₀.1/\Prod.fst bW=Prod.fst bW/\Prod.fst A₂=Prod.fst A₂/\Prod.fst A₂.2=Prod.fst A₂.2/\List.take eH (fC A₀)++bV fJ::aG Rat=List.take (3*aA i_1+aA i') (fC A₀)/\True) (∃ (i':{ b:Nat // b<=3 }),3-aA i'<3-aA i_1/\IntKind.wrap IntKind.i64 (aB (aA i_1)+1)=aB (aA i')/\List.map fC aW=List.map fC aW/\Prod.fst A₀.1=Prod.fst A₀.1/\Prod.fst bW=Prod.fst bW/\Prod.fst A₂=Prod.fst A₂/\Prod.fst A₂.2=Prod.fst A₂.2/\List.take eH (fC A₀)=List.take (3*aA i') (fC A₀)/\True)) ((aN none (List.map fC aW)+1<=1000000000/\True)/\∃ (i':{ k:Nat // k<=List.length l }),List.length l-aA i'<List.length l-aA i/\IntKind.wrap IntKind.i64 (aB (aA i)+1)=aB (aA i')/\List.map fC aW++List.take (3*aA i_1) (fC A₀)::aG (List Rat)=List.map fC (List.take (aA i') l)/\True)) (True/\List.map fC aW=List.map fC l/\True)) (by kernel_rfl) ?_
 have hZ:(⟨false,0,[],[]⟩:aH)=bF:=rfl
 try simp only[aF,ak,ah]
 try dsimp only[aB,asT,aA,aG,Ty.den,Lf.den] at *
 try simp only[hZ,Int.toNat_natCast,aF,ak,ah,jo,jm,iq,dh]
 try simp only[cZ,cO,List.all_cons,List.all_nil,jr,gy,iw,jf,ni,ne_eq,au,bg,eu,ig,jh,qh,jy,ql,jo,jm,je,dn,List.length_cons,List.length_nil]
 obtain⟨h64,hc⟩:l.length<=64/\∀ p ∈ l,cdP p.1/\cdP p.2.1:=hp
 refine fun i=>⟨fun h1=>⟨⟨by omega,h1⟩,fun b=>⟨fun h2=>⟨⟨by omega,h2⟩,rfl,fun c=>⟨fun h3=>?_,fun h3=>⟨⟨b.1+1,by omega⟩,by simp only;omega,by rw[aS (by omega) (by omega)];rfl,?_⟩⟩⟩,fun h2=>⟨?_,⟨i.1+1,by omega⟩,by simp only;omega,by rw[aS (by omega) (by omega)];rfl,?_⟩⟩⟩,fun h1=>?_⟩
 ·obtain⟨c1,c2⟩:=hc _ (fO (d:=gB) (show i.1<l.length by omega))
  have hb:b.1<3:=by omega
  have hk:c.1<3:=by omega
  generalize l.getD i.1 gB=p at *
  have hn:3*b.1+c.1<(jL p).length:=by show _<9;omega
  have e:[p.1.1,p.1.2.1,1].getD c.1 0*[p.2.1.1,p.2.1.2.1,1].getD b.1 0=(jL p).getD (3*b.1+c.1) 0:=(Int.mul_comm _ _).trans (a4u p hb hk).symm
  have hz:=dB (MO c1 c2) hn (d:=0)
  rw[e,aS (by omega) (by omega)]
  refine⟨⟨by omega,h3⟩,⟨⟨by omega,by omega⟩,by rw[mg];omega⟩,⟨c.1+1,by omega⟩,by simp only;omega,by rw[aS (by omega) (by omega)];rfl,?_⟩
  exact whT hn
 ·show _=List.take (3*(b.1+1)) _
  rw[show 3*b.1+c.1=3*(b.1+1) by have:=c.2;omega]
 ·show (List.map fC (List.take i.1 l)).length+1<=_
  rw[ru,mg];omega
 ·show _=List.map fC (List.take (i.1+1) l)
  rw[show b.1=3 by have:=b.2;omega,jv (l:=fC _) (by rw[FV];omega),Ar,Az,dw (show i.1<l.length by omega),bn,dw (show i.1<l.length by omega)];rfl
 ·rw[jv (by omega)]
def iL (l:List aX):MQ:=sV (l.map fC)
def gW (l:List aX):MQ × Int × Unit :=
 if l.length<8\/l.length > 64 then ([],3,()) else if qH l≠0 then ([],2,()) else if (iL l).length=0 then ([],6,()) else if (iL l).length=1 then (CJ ((iL l).getD 0 []),0,()) else ([],13,())
def nrP (l:List aX):Prop:=(l.length<=9\/64<l.length)/\l.any nZ=false
def nI (n:Int):Prop:=-4000<=n/\n<=4000
theorem a3e {n:Int} (h:AV n=false) (hc:cdI n):nI n:=by
 obtain⟨h1,h2⟩:=hc
 unfold AV at h
 have hf:lN n=false:=by unfold lN;rw[qo (by omega),qo (by omega)];rfl
 rw[hf,Bool.not_false,jr,ah] at h
 rw[aS (by omega) (by omega)] at h
 unfold a8Z at h
 constructor<;>(split at h<;>omega)
theorem nI.mul {a b:Int} (ha:nI a) (hb:nI b):isz (a*b)<=1:=yG (by
 rw[Int.natAbs_mul]
 have:a.natAbs*b.natAbs<=4000*4000:=xw (by obtain⟨x,y⟩:=ha;omega) (by obtain⟨x,y⟩:=hb;omega)
 have:BB ^ 1=1000000000:=by rw[bH]
 omega)
theorem a9V {p:aX} (h:nI p.1.1/\nI p.1.2.1/\nI p.2.1.1/\nI p.2.1.2.1):∀ n ∈ jL p,isz n<=1:=fun n hn=>by
 have o:nI 1:=⟨by omega,by omega⟩
 obtain⟨a,b,c,d⟩:=h
 simp only[jL,qp,Dt,or_false] at hn
 rcases hn with rfl|rfl|rfl|rfl|rfl|rfl|rfl|rfl|rfl
 ·exact c.mul a
 ·exact c.mul b
 ·exact c.mul o
 ·exact d.mul a
 ·exact d.mul b
 ·exact d.mul o
 ·exact o.mul a
 ·exact o.mul b
 ·exact o.mul o
theorem a9d {l:List aX} (hn:l.any nZ=false) (hr:qH l=0):∀ p ∈ l,nI p.1.1/\nI p.1.2.1/\nI p.2.1.1/\nI p.2.1.2.1:=fun p hp=>by
 have hc:=a2u hr p hp
 have h2:nZ p=false:=by simpa using Ec.mp hn p hp
 unfold nZ at h2
 simp only[List.any_cons,List.any_nil,Bool.or_false,dn] at h2
 exact⟨a3e h2.1 hc.1.1,a3e h2.2.1 hc.1.2,a3e h2.2.2.1 hc.2.1,a3e h2.2.2.2 hc.2.2⟩
theorem b0g {l:List aX} {i j:Nat} (hi:i<l.length) (hj:j<9):ent (l.map fC) i j=bV ((jL (l.getD i gB)).getD j 0):=by
 show ((l.map fC).getD i []).getD j 0=_
 rw[YG _ hj,bn (l:=l.map fC),uf,dw hi,bn (l:=l),dw hi];rfl
theorem MW {l:List aX} (h1:1<=l.length) (h2:l.length<=64):isM (l.map fC) l.length 9:=⟨ru _,fun r hr=>by obtain⟨p,_,rfl⟩:=qm.1 hr;rfl,h1,h2,by omega,by omega⟩
theorem a2E {l:List aX} (h1:1<=l.length) (h2:l.length<=64) (hn:l.any nZ=false) (hr:qH l=0):Cdn (ent (l.map fC)) l.length 9 1:=⟨1,by omega,by decide +kernel,fun i hi j hj=>⟨(jL (l.getD i gB)).getD j 0,by
 rw[b0g hi hj]
 show _*(1:Rat)=_
 rw[Rat.mul_one],dB (a9V (a9d hn hr _ (fO hi))) (by show j<9;exact hj)⟩⟩
theorem b3a {l:List aX} (h1:1<=l.length) (h2:l.length<=64) (hn:l.any nZ=false) (hr:qH l=0):okE (l.map fC):=by
 have hm:=MW h1 h2
 have hc:=a2E h1 h2 hn hr
 have hC:CdM (l.map fC) 1:=by unfold CdM;rw[hm.len,hm.wd];exact hc
 refine⟨hC.ok hm (by omega),?_⟩
 rw[hm.len,hm.wd]
 exact b2s hc (ay _) (by omega)
theorem YA {l:List aX} (h1:1<=l.length) (h2:l.length<=64) (hn:l.any nZ=false) (hr:qH l=0):∀ v ∈ iL l,BF v/\v.length=9:=fun v hv=>by
 have hm:=MW h1 h2
 have hc:=(a2E h1 h2 hn hr).red 9 (ay _)
 have E:=fH l.length (ent (l.map fC)) 9
 unfold iL sV uZ at hv
 rw[hm.len,hm.wd] at hv
 obtain⟨j,hj,rfl⟩:=qm.1 hv
 obtain⟨hj9,hjp⟩:=qQ.1 hj
 have hl:((List.range 9).map (KZ (red l.length (ent (l.map fC)) 9).1 (red l.length (ent (l.map fC)) 9).2 j)).length=9:=by simp
 refine⟨⟨by rw[hl];omega,fun q hq=>?_,1,qm.2 ⟨j,uj.2 hj9,JH _ _ _⟩,by decide⟩,hl⟩
 obtain⟨c,hc9,rfl⟩:=qm.1 hq
 have hc9:=uj.1 hc9
 unfold KZ
 split
 ·decide +kernel
 ·split
  ·rename_i hcp
   have h3:=(FH hcp).1
   rw[FW]
   exact jc (hc.rsz (oq h3 E.le) hj9) (by omega)
  ·decide +kernel
noncomputable def b9m:Ctr:=⟨[.list sZ],[tM,tI],fun x=>(show List aX from x.1).any nZ=false,fun x=>gW x.1⟩
noncomputable def c1t:Ctr:=⟨[.list sZ],[tM,tI],fun x=>nrP x.1,fun x=>gW x.1⟩
theorem a7r:aI Tryz.prog 50 b9m:=by
 refine aO ((((nil0.ad a5V).ad b2Z).ad a5O).ad a6Q) ⟨[],[],[]⟩ Tryz.func50 rfl (by decide) (fun x=>[]) (fun x hp=>?_)
 obtain⟨l,u⟩:=x
 change List aX at l
 refine aY (let A₀:=(List.getD (sV (List.map fC l)) 0 (aG Rat));let A₂:=(List.map (fun(n:Int)=>bV n) (nT A₀));let aW:=(sV (List.map fC l)).length;let bW:=(aB l.length<8);let A₁:=(decide bW==false);let eU:=(A₁=true->A₁=true/\True);(eU/\eU/\(decide bW=false->A₁=true)/\True)/\ifB (bif decide bW then true else decide (aB l.length > 64)) (True/\aG (List Rat)=Prod.fst (gW l)/\True/\3=Prod.fst (gW l).2/\True) ((List.length l<=1000000/\True)/\ifB (qH l != 0) (True/\aG (List Rat)=Prod.fst (gW l)/\True/\qH l=Prod.fst (gW l).2/\True) (((List.length l<=64/\∀ (p:aX),p ∈ l->cdP p.1/\cdP p.2.1)/\okE (List.map fC l)/\True)/\ifB (aB aW==0) (True/\aG (List Rat)=Prod.fst (gW l)/\True/\6=Prod.fst (gW l).2/\True) (ifB (aB aW==1) ((asT Int 0<=0/\0<aB aW/\(BF A₀/\List.length A₀=9)/\True)/\True/\List.take 3 A₂::List.drop 3 (List.take 6 A₂)::List.drop 6 A₂::aG (List Rat)=Prod.fst (gW l)/\True/\0=Prod.fst (gW l).2/\True) (True/\aG (List Rat)=Prod.fst (gW l)/\True/\13=Prod.fst (gW l).2/\True))))) (by kernel_rfl) ?_
 have hZ:(⟨false,0,[],[]⟩:aH)=bF:=rfl
 try simp only[aF,ak,ah]
 try dsimp only[aB,asT,aA,aG,Ty.den,Lf.den] at *
 try simp only[hZ,Int.toNat_natCast,aF,ak,ah,jo,jm,iq,dh]
 try simp only[cZ,cO,List.all_cons,List.all_nil,jr,gy,iw,jf,ni,ne_eq,au,bg,eu,ig,jh,qh,jy,ql,jo,jm,je,dn,List.length_cons,List.length_nil]
 have hn:l.any nZ=false:=hp
 refine⟨fun h=>qo h,fun h=>?_,fun h=>?_⟩
 ·have h:l.length<8\/l.length > 64:=h.elim (fun h=>.inl (by have:=vw h;omega)) (fun h=>.inr (by have:=vw h;omega))
  rw[show gW l=([],3,()) from jl h];exact⟨rfl,rfl⟩
 ·have h8:¬ l.length<8:=by have:=vk h.1;omega
  have h64:¬ l.length > 64:=by have:=vk h.2;omega
  have hh:¬ (l.length<8\/l.length > 64):=fun e=>e.elim h8 h64
  refine⟨by omega,fun hr=>?_,fun hr=>?_⟩
  ·rw[show gW l=([],2,()) from(jd hh).trans (jl hr)]
   refine⟨rfl,?_⟩
   unfold qH at hr ⊢
   cases e:l.any CQ
   ·rw[e] at hr;exact absurd rfl hr
   ·rfl
  ·have e0:gW l=if (iL l).length=0 then ([],6,()) else if (iL l).length=1 then (CJ ((iL l).getD 0 []),0,()) else ([],13,()):=(jd hh).trans (jd (fun e=>e hr))
   refine⟨⟨⟨by omega,a2u hr⟩,b3a (by omega) (by omega) hn hr⟩,fun h3=>?_,fun h3=>⟨fun h4=>?_,fun h4=>?_⟩⟩
   ·have h3:(iL l).length=0:=Int.ofNat.inj h3
    rw[e0,jl h3];exact⟨rfl,rfl⟩
   ·have h3:¬ (iL l).length=0:=fun e=>h3 (xg Int.ofNat e)
    have h4:(iL l).length=1:=Int.ofNat.inj h4
    have hv:=YA (by omega) (by omega) hn hr _ (fO (xs:=iL l) (i:=0) (d:=[]) (by omega))
    rw[e0,jd h3,jl h4]
    exact⟨⟨by omega,by show (0:Int)<((iL l).length:Int);omega,hv.1,hv.2⟩,rfl,rfl⟩
   ·have h3:¬ (iL l).length=0:=fun e=>h3 (xg Int.ofNat e)
    have h4:¬ (iL l).length=1:=fun e=>h4 (xg Int.ofNat e)
    rw[e0,jd h3,jd h4];exact⟨rfl,rfl⟩
theorem b1u:aI Tryz.prog 50 c1t:=a3r a7r fun x h=>h.2
end Go.Proofs.YtbkocjmmbkifjaaGreat
