/-
  Lemmas for the theorem vdecomposes28_holds, part 28 of 34.
-/
import Derived.Test.YtbkocjmmbkifjaaGreatQd27
namespace Go.Proofs.YtbkocjmmbkifjaaGreat
open Go Go.RowKit
theorem um:type_of% @Nat.lt_succ_iff_lt_or_eq:=@Nat.lt_succ_iff_lt_or_eq
set_option maxRecDepth 100000
set_option maxHeartbeats 4000000
set_option linter.unusedVariables false
set_option linter.unusedSimpArgs false
def lU (e:Mt):Rat:=e 0 0*(e 1 1*e 2 2-e 1 2*e 2 1)-e 0 1*(e 1 0*e 2 2-e 1 2*e 2 0)+e 0 2*(e 1 0*e 2 1-e 1 1*e 2 0)
def mnr:Nat->Mt->Rat
 | 0,e=>lU e
 | 1,e=>e 1 1*e 2 2-e 1 2*e 2 1
 | 2,e=>e 2 2
 | _,_=>1
def kE (s:Mt) (j i:Nat):Mt:=fun r c=>if j<r/\r<i/\j<=c then s r c-s r j / s j j*s j c else s r c
def bdD (j:Nat):Nat:=150000*5 ^ j
def fkD (e:Mt) (j:Nat):Nat:=fk e j j (3-j)
def dD (e:Mt) (j:Nat) (d:Rat):Rat:=(if fkD e j=j then d else -d)*oD e j (fkD e j) j j
def a6N (f:Mt) (s:Nat × Mt × Rat):Prop:=lU f=s.2.2*mnr s.1 s.2.1/\(∀ i,i<3->∀ c,c<3->rsz (s.2.1 i c)<=bdD s.1)/\rsz s.2.2<=bdD (s.1+1)
theorem b0D {j:Nat} {e:Mt} (hj:j<3) (h:∀ i,j<=i->i<3->e i j=0):mnr j e=0:=by
 rcases three hj with rfl|rfl|rfl
 ·have h0:=h 0 (by omega) (by omega)
  have h1:=h 1 (by omega) (by omega)
  have h2:=h 2 (by omega) (by omega)
  simp only[mnr,lU];grind
 ·have h1:=h 1 (by omega) (by omega)
  have h2:=h 2 (by omega) (by omega)
  simp only[mnr];grind
 ·exact h 2 (by omega) (by omega)
theorem b0C {j k:Nat} {e:Mt} (hj:j<3) (hk:j<=k) (hk3:k<3) (h:e k j≠0) (d:Rat):d*mnr j e=(if k=j then d else -d)*oD e j k j j*mnr (j+1) (kE (oD e j k) j 3):=by
 have m:=Ak _ h
 rcases three hj with rfl|rfl|rfl
 ·rcases three hk3 with rfl|rfl|rfl
  all_goals
   simp[mnr,lU,kE,oD,Rat.div_def]
   grind
 ·rcases three hk3 with rfl|rfl|rfl
  ·omega
  all_goals
   simp[mnr,lU,kE,oD,Rat.div_def]
   grind
 ·have:k=2:=by omega
  subst this
  simp[mnr,lU,kE,oD]
theorem b6R {j:Nat} (h:j<=3):150000<=bdD j/\bdD j<=18750000/\bdD (j+1)=5*bdD j:=by
 have e:bdD (j+1)=5*bdD j:=by unfold bdD;rw[Nat.pow_succ];omega
 have:j=0\/j=1\/j=2\/j=3:=by omega
 rcases this with rfl|rfl|rfl|rfl<;>exact⟨by decide,by decide,e⟩
theorem b6S {j:Nat} (h:j<3):bdD j<=3750000:=by rcases three h with rfl|rfl|rfl<;>decide
theorem b3o {s:Mt} {j i K:Nat} (hK:1000<=K) (hj:j<3) (hz:s j j≠0) (h:∀ r,r<3->∀ c,c<3->rsz (s r c)<=K):∀ r,r<3->∀ c,c<3->rsz (kE s j i r c)<=5*K:=fun r hr c hc=>by
 unfold kE
 have h1:=h r hr c hc
 split
 ·have h2:=h r hr j hj
  have h3:=h j hj c hc
  have h4:=h j hj j hj
  have d:=yI (s r j) (s j j) hz
  have m:=cO (s r j / s j j) (s j c)
  have a:=gW (s r c) (-(s r j / s j j*s j c))
  rw[jE] at a
  rw[Dz]
  omega
 ·omega
theorem a1n {s:Mt} {j i r c:Nat} (h:i<=r):kE s j i r c=s r c:=eu (by omega)
theorem RH {s:Mt} {j i c:Nat}:kE s j i j c=s j c:=eu (by omega)
theorem WI {s:Mt} {j i r c:Nat} (hi:j<i):kE s j (i+1) r c=if r=i then (if j<=c then kE s j i i c-kE s j i i j / kE s j i j j*kE s j i j c else kE s j i i c) else kE s j i r c:=by
 by_cases e:r=i
 ·subst e
  rw[iw rfl,a1n (aj r),a1n (aj r),RH,RH]
  unfold kE
  by_cases h:j<=c
  ·rw[iw h,iw ⟨hi,by omega,h⟩]
  ·rw[eu h,eu (by omega)]
 ·rw[eu e]
  unfold kE
  by_cases h:j<r/\r<i/\j<=c
  ·rw[iw h,iw (by omega)]
  ·rw[eu h,eu (by omega)]
theorem a6O {s:Mt} {j i r c:Nat} (hi:j<i) (hz:kE s j i i j=0):kE s j (i+1) r c=kE s j i r c:=by
 rw[WI hi]
 by_cases e:r=i
 ·subst e
  rw[iw rfl,hz]
  split
  ·rw[Rat.div_def,Rat.zero_mul,Rat.zero_mul];grind
  ·rfl
 ·rw[eu e]
theorem a6g {e:Mt} {j k:Nat} (c:Nat):oD e j k j c=e k c:=by unfold oD;rw[iw rfl]
theorem c1q {e:Mt} {j k K:Nat} (hj:j<3) (hk:k<3) (h:∀ r,r<3->∀ c,c<3->rsz (e r c)<=K):∀ r,r<3->∀ c,c<3->rsz (oD e j k r c)<=K:=fun r hr c hc=>by
 unfold oD
 split
 ·exact h k hk c hc
 ·split
  ·exact h j hj c hc
  ·exact h r hr c hc
theorem b7h {e:Mt} {j k:Nat} (h1:j<=k) (h2:k<3) (hz:∀ i,j<=i->i<k->e i j=0) (hn:e k j≠0):fkD e j=k:=c2X e j j (3-j) k h1 (by omega) hz fun _=>hn
theorem b1V (e:Mt) (j k:Nat):oD e k j=oD e j k:=by
 funext i
 unfold oD
 by_cases h1:i=k
 ·by_cases h2:i=j
  ·rw[iw h1,iw h2];rw[<-h1,<-h2]
  ·rw[iw h1,eu h2,iw h1]
 ·by_cases h2:i=j
  ·rw[eu h1,iw h2,iw h2]
  ·rw[eu h1,eu h2,eu h2,eu h1]
theorem a9a {s:Mt} {j i r c:Nat} (hr:r<3) (hi:3<=i):kE s j i r c=kE s j 3 r c:=by
 unfold kE
 by_cases h:j<r/\j<=c
 ·rw[iw (by omega),iw (by omega)]
 ·rw[eu (by omega),eu (by omega)]
theorem a1m {s:Mt} {j r c:Nat}:kE s j (j+1) r c=s r c:=eu (by omega)
theorem c2R {f:MQ} (h:m33 150000 f):a6N (ent f) (0,ent f,1):=⟨(Rat.one_mul _).symm,fun i hi c hc=>h.2 i (by rw[h.1.len];exact hi) c (by rw[h.1.wd];exact hc),(by decide +kernel:rsz (1:Rat)<=bdD 1)⟩
noncomputable def c5a:Ctr:=⟨[tM],[tQ,tI],fun x=>m33 150000 x.1,fun x=>(lU (ent x.1),(0:Int),())⟩
theorem a1g:aH Tryz.prog 169 c5a:=by
 refine aI ((((((((nil0.ad sN).ad sF).ad vS).ad a4f).ad b1b).an a8N).an c4i).ad IL) ⟨[2,6],[],[]⟩ Tryz.func169 rfl (by decide) (fun x=>[.inv {s:Nat × Mt × Rat // s.1<=3/\(m33 150000 (show MQ from x.1)->a6N (ent (show MQ from x.1)) s)} (fun s=>[(21,.val tI (s.1.1:Int))]++[(7,.any),(8,.any),(9,.any),(10,.any),(11,.any),(12,.any),(13,.any),(14,.any),(15,.any),(16,.any),(18,.any),(19,.any),(22,.any),(23,.any),(24,.any),(25,.any),(26,.any),(27,.any),(28,.any),(29,.any),(30,.any),(31,.any),(32,.any),(33,.any),(34,.any),(35,.any),(36,.any),(37,.any),(38,.any),(39,.any),(40,.any),(41,.any),(42,.any),(43,.any),(44,.any),(45,.any),(46,.any),(47,.any),(48,.any),(49,.any),(50,.any),(51,.any),(52,.any),(53,.any),(54,.any),(55,.any),(56,.any),(57,.any),(58,.any),(59,.any),(60,.any),(61,.any),(62,.any),(63,.any),(64,.any),(65,.any),(66,.any),(67,.any),(68,.any),(69,.any),(70,.any),(71,.any),(72,.any),(73,.any),(74,.any),(75,.any),(76,.any),(77,.any),(78,.any),(79,.any),(80,.any),(81,.any),(82,.any),(83,.any),(84,.any),(85,.any),(86,.any),(87,.any),(88,.any),(89,.any),(90,.any),(91,.any),(92,.any),(93,.any),(94,.any),(95,.any),(96,.any),(97,.any),(98,.any),(99,.any),(100,.any),(101,.any),(102,.any),(103,.any),(104,.any),(105,.any),(106,.any),(107,.any),(108,.any),(109,.any),(110,.any),(111,.any),(112,.any),(113,.any),(114,.any),(115,.any),(116,.any),(117,.any)]) (fun s=>[(17,.mat 39 47 tR none (dI (show MQ from x.1).length (wdM (show MQ from x.1)) s.1.2.1) 0),(6,.box [⟨tQ,s.1.2.2⟩]),(2,.box [⟨tR,bF⟩])]) (fun s=>3-s.1.1) ⟨(0,ent (show MQ from x.1),1),by omega,fun h=>c2R h⟩ (fun s=>[
 .inv {k:Nat // s.1.1<=k/\k<=3/\∀ i,s.1.1<=i->i<k->s.1.2.1 i s.1.1=0} (fun k=>[(8,.val tI (k.1:Int))]) (fun k=>[(17,.mat 39 47 tR none (dI (show MQ from x.1).length (wdM (show MQ from x.1)) s.1.2.1) 0),(6,.box [⟨tQ,s.1.2.2⟩]),(2,.box [⟨tR,bF⟩])]) (fun k=>3-k.1) ⟨s.1.1,aj _,s.2.1,fun i h1 h2=>absurd h2 (by omega)⟩ (fun _=>[]),
 .inv {i:Nat // s.1.1<i/\i<=4} (fun i=>[(9,.val tI (i.1:Int))]++[(22,.any),(23,.any),(24,.any),(25,.any),(26,.any),(27,.any),(28,.any),(29,.any),(30,.any),(31,.any),(32,.any),(33,.any),(34,.any),(35,.any),(36,.any),(37,.any),(38,.any),(39,.any),(40,.any),(41,.any),(42,.any),(43,.any),(44,.any),(45,.any),(46,.any),(47,.any),(48,.any),(49,.any),(50,.any),(51,.any),(52,.any),(53,.any),(54,.any),(55,.any),(56,.any),(57,.any),(58,.any),(59,.any),(60,.any),(61,.any),(62,.any),(63,.any),(64,.any),(65,.any),(66,.any),(67,.any),(68,.any),(69,.any),(70,.any),(71,.any),(72,.any),(73,.any),(74,.any),(75,.any),(77,.any),(78,.any),(79,.any),(80,.any),(81,.any),(82,.any),(83,.any),(84,.any),(85,.any),(86,.any),(87,.any),(88,.any),(89,.any),(90,.any),(91,.any),(92,.any),(93,.any),(94,.any),(95,.any),(96,.any),(97,.any),(98,.any),(99,.any),(100,.any),(101,.any),(102,.any),(103,.any),(104,.any),(105,.any),(106,.any),(107,.any),(108,.any),(109,.any),(110,.any),(111,.any),(112,.any),(113,.any),(114,.any),(115,.any),(116,.any)]) (fun i=>[(17,.mat 39 47 tR none (dI (show MQ from x.1).length (wdM (show MQ from x.1)) (kE (oD s.1.2.1 s.1.1 (fkD s.1.2.1 s.1.1)) s.1.1 i.1)) 0),(6,.box [⟨tQ,(dD s.1.2.1 s.1.1 s.1.2.2)⟩]),(2,.box [⟨tR,bF⟩])]) (fun i=>4-i.1) ⟨s.1.1+1,by omega,by have:=s.2.1;omega⟩ (fun _=>[])])]) (fun x hp=>?_)
 obtain⟨f,u⟩:=x
 change MQ at f
 refine aO (let A₀:=(fun(x:Ty.den (Ty.lf Lf.gQ))=>aG.x x);let A₁:=(fun(x:Ty.den (Ty.lf Lf.gQ))=>dH ((aG.ok x=true)::aC Cd));(okM f/\True)/\ifB (sqC f != 0) ((asT Bool false=true/\True)/\0=lU (ent f)/\True/\sqC f=0/\True) ((okM f/\True)/\(bP 1/\True)/\(asT Int 0=0/\dI f.length (wdM f) (ent f)=dI f.length (wdM f) (ent f)/\asT Rat (aV 1)=1/\asT aG bF=bF/\True)/\∀ (i:{ s:Nat × Mt × Rat // asT Nat s.1<=3/\(m33 150000 f->a6N (ent f) s) }),let aX:=(aA i).2.1;let A₂:=(oD aX (aA i).1 (fkD aX (aA i).1));let aN:=(dI f.length (wdM f) aX);let bJ:=(aB (aA i).1);let aU:=bJ.toNat;let dA:=(aA i).2.2;let dF:=(rowAt aN (nameAt none aU));let dL:=(aB (aA i).1+1);let dP:=(Prod.fst (aA i)+1);let fO:=(List.getD dF aU bF);let jA:=(kE A₂ (aA i).1 dP);asT Bool true=true/\ifB (decide (aB (aA i).1<aB (dB none (dI f.length (wdM f) (ent f))))) ((aB (aA i).1=aB (aA i).1/\dI f.length (wdM f) aX=dI f.length (wdM f) aX/\Prod.snd (aA i).2=Prod.snd (aA i).2/\asT aG bF=bF/\True)/\∀ (i_1:{ k:Nat // Prod.fst (aA i)<=k/\k<=3/\∀ (i_1:Nat),Prod.fst (aA i)<=i_1->i_1<k->Prod.fst (aA i).2 i_1 (aA i).1=0 }),let kW:=(aB (aA i_1)).toNat;let wC:=(some (List.set (bZ none aN) kW (nameAt none aU)));let gK:=(List.set (bZ wC aN) aU (nameAt none kW));let qA:=(rowAt aN (nameAt (some gK) aU));let vG:=(rowAt aN (nameAt none kW));let FC:=(aB (aA i_1)<aB (dB none aN));let gB:=(decide FC==true);let FD:=(List.getD vG aU bF);let C₁:=(List.getD qA aU bF);asT Bool true=true/\((gB=true->gB=true/\gB=true/\0<=aB (aA i_1)/\aB (aA i_1)<aB (dB none aN)/\True)/\(gB=true->gB=true/\Int.toNat (aB (aA i_1))<dB none aN/\True)/\(gB=true->gB=true/\gB=true/\0<=aB (aA i).1/\aB (aA i).1<aB vG.length/\True)/\(gB=true->gB=true/\Int.toNat bJ<List.length vG/\True)/\(gB=true->gB=true/\aG.ok FD=true/\rsz (aG.x FD)<=1000000000/\True)/\(gB=true->gB=true/\True)/\(decide FC=true->gB=true)/\True)/\ifB (bif decide FC then sgn (Rat.num (aG.x FD))==0 else false) (∃ (i':{ k:Nat // Prod.fst (aA i)<=k/\k<=3/\∀ (i_2:Nat),Prod.fst (aA i)<=i_2->i_2<k->Prod.fst (aA i).2 i_2 (aA i).1=0 }),3-aA i'<3-aA i_1/\IntKind.wrap IntKind.i64 (aB (aA i_1)+1)=aB (aA i')/\dI f.length (wdM f) aX=dI f.length (wdM f) aX/\Prod.snd (aA i).2=Prod.snd (aA i).2/\asT aG bF=bF/\True) (ifB (aB (aA i_1)==aB (dB none aN)) ((bP 0/\True)/\True/\aV 0=lU (ent f)/\True/\asT Int 0=0/\True) (ifB (aB (aA i_1) != aB (aA i).1) ((0<=aB (aA i).1/\aB (aA i).1<aB (dB none aN)/\Int.toNat bJ<dB none aN/\0<=aB (aA i_1)/\aB (aA i_1)<aB (dB none aN)/\Int.toNat (aB (aA i_1))<dB none aN/\0<=aB (aA i_1)/\aB (aA i_1)<aB (dB none aN)/\Int.toNat (aB (aA i_1))<dB none aN/\0<=aB (aA i).1/\aB (aA i).1<aB (dB wC aN)/\Int.toNat bJ<dB wC aN/\True)/\(s4 dA/\True)/\(0<=aB (aA i).1/\aB (aA i).1<aB (dB (some gK) aN)/\Int.toNat bJ<dB (some gK) aN/\0<=aB (aA i).1/\aB (aA i).1<aB qA.length/\Int.toNat bJ<List.length qA/\aG.ok C₁=true/\s44 (-Prod.snd (aA i).2) (aG.x C₁)/\True)/\(IntKind.wrap IntKind.i64 dL=aB dP/\List.Nodup gK/\List.map (fun(i_2:Nat)=>List.getD aN i_2 (aC aG)) gK=dI f.length (wdM f) jA/\-Prod.snd (aA i).2*aG.x C₁=dD aX (aA i).1 dA/\asT aG bF=bF/\True)/\∀ (i_2:{ i_2:Nat // Prod.fst (aA i)<i_2/\i_2<=4 }),let OC:=(kE A₂ (aA i).1 (aA i_2));let C₂:=(dI f.length (wdM f) OC);let zC:=(rowAt C₂ (nameAt none aU));let OB:=(List.getD zC aU bF);let ZA:=(aB (aA i_2)).toNat;let EF:=(nameAt none ZA);let C₃:=(rowAt C₂ EF);let zA:=(List.getD C₃ aU bF);asT Bool true=true/\ifB (decide (aB (aA i_2)<aB (dB none C₂))) ((0<=aB (aA i_2)/\aB (aA i_2)<aB (dB none C₂)/\Int.toNat (aB (aA i_2))<dB none C₂/\0<=aB (aA i).1/\aB (aA i).1<aB C₃.length/\Int.toNat bJ<List.length C₃/\aG.ok zA=true/\rsz (aG.x zA)<=1000000000/\True)/\ifB (sgn (Rat.num (aG.x zA)) != 0) ((0<=aB (aA i_2)/\aB (aA i_2)<aB (dB none C₂)/\Int.toNat (aB (aA i_2))<dB none C₂/\0<=aB (aA i).1/\aB (aA i).1<aB (dB none C₂)/\Int.toNat bJ<dB none C₂/\0<=aB (aA i_2)/\aB (aA i_2)<aB (dB none C₂)/\Int.toNat (aB (aA i_2))<dB none C₂/\0<=aB (aA i).1/\aB (aA i).1<aB C₃.length/\Int.toNat bJ<List.length C₃/\0<=aB (aA i).1/\aB (aA i).1<aB (dB none C₂)/\Int.toNat bJ<dB none C₂/\0<=aB (aA i).1/\aB (aA i).1<aB zC.length/\Int.toNat bJ<List.length zC/\aG.ok zA=true/\aG.ok OB=true/\(rsz (aG.x zA)<=400000000/\rsz (aG.x OB)<=400000000/\aG.x OB≠0)/\nameAt none aU≠nameAt none ZA/\iR A₁ zC/\((∀ (q:aG),q ∈ rowAt C₂ EF->q=dM (aG.x q))/\List.length C₃=List.length (List.map A₀ zC)/\List.length C₃<=1000/\0<=aB (aA i).1/\(∀ (q:aG),q ∈ rowAt C₂ EF->rsz (aG.x q)<=400000000)/\rsz (aG.x zA / aG.x OB)<=100000000/\∀ (q:Rat),q ∈ List.map A₀ zC->rsz q<=100000000)/\True)/\∃ (i':{ i_3:Nat // Prod.fst (aA i)<i_3/\i_3<=4 }),4-aA i'<4-aA i_2/\IntKind.wrap IntKind.i64 (aB (aA i_2)+1)=aB (aA i')/\List.set C₂ EF (qC C₃ (List.map A₀ zC) (aG.x zA / aG.x OB) aU C₃.length)=dI f.length (wdM f) (kE A₂ (aA i).1 (aA i'))/\dD aX (aA i).1 dA=dD aX (aA i).1 dA/\asT aG bF=bF/\True) (∃ (i':{ i_3:Nat // Prod.fst (aA i)<i_3/\i_3<=4 }),4-aA i'<4-aA i_2/\IntKind.wrap IntKind.i64 (aB (aA i_2)+1)=aB (aA i')/\dI f.length (wdM f) OC=dI f.length (wdM f) (kE A₂ (aA i).1 (aA i'))/\dD aX (aA i).1 dA=dD aX (aA i).1 dA/\asT aG bF=bF/\True)) (∃ (i':{ s:Nat × Mt × Rat // asT Nat s.1<=3/\(m33 150000 f->a6N (ent f) s) }),3-Prod.fst (aA i')<3-Prod.fst (aA i)/\IntKind.wrap IntKind.i64 dL=aB (aA i').1/\dI f.length (wdM f) OC=dI f.length (wdM f) (aA i').2.1/\dD aX (aA i).1 dA=Prod.snd (aA i').2/\asT aG bF=bF/\True)) ((0<=aB (aA i).1/\aB (aA i).1<aB (dB none aN)/\Int.toNat bJ<dB none aN/\0<=aB (aA i).1/\aB (aA i).1<aB dF.length/\Int.toNat bJ<List.length dF/\aG.ok fO=true/\s44 dA (aG.x fO)/\True)/\(IntKind.wrap IntKind.i64 dL=aB dP/\dI f.length (wdM f) aX=dI f.length (wdM f) jA/\Prod.snd (aA i).2*aG.x fO=dD aX (aA i).1 dA/\asT aG bF=bF/\True)/\∀ (i_2:{ i_2:Nat // Prod.fst (aA i)<i_2/\i_2<=4 }),let a2P:=(kE A₂ (aA i).1 (aA i_2));let rM:=(dI f.length (wdM f) a2P);let D₂:=(rowAt rM (nameAt none aU));let a0Q:=(List.getD D₂ aU bF);let a7Z:=(aB (aA i_2)).toNat;let VJ:=(nameAt none a7Z);let D₁:=(rowAt rM VJ);let VK:=(List.getD D₁ aU bF);asT Bool true=true/\ifB (decide (aB (aA i_2)<aB (dB none rM))) ((0<=aB (aA i_2)/\aB (aA i_2)<aB (dB none rM)/\Int.toNat (aB (aA i_2))<dB none rM/\0<=aB (aA i).1/\aB (aA i).1<aB D₁.length/\Int.toNat bJ<List.length D₁/\aG.ok VK=true/\rsz (aG.x VK)<=1000000000/\True)/\ifB (sgn (Rat.num (aG.x VK)) != 0) ((0<=aB (aA i_2)/\aB (aA i_2)<aB (dB none rM)/\Int.toNat (aB (aA i_2))<dB none rM/\0<=aB (aA i).1/\aB (aA i).1<aB (dB none rM)/\Int.toNat bJ<dB none rM/\0<=aB (aA i_2)/\aB (aA i_2)<aB (dB none rM)/\Int.toNat (aB (aA i_2))<dB none rM/\0<=aB (aA i).1/\aB (aA i).1<aB D₁.length/\Int.toNat bJ<List.length D₁/\0<=aB (aA i).1/\aB (aA i).1<aB (dB none rM)/\Int.toNat bJ<dB none rM/\0<=aB (aA i).1/\aB (aA i).1<aB D₂.length/\Int.toNat bJ<List.length D₂/\aG.ok VK=true/\aG.ok a0Q=true/\(rsz (aG.x VK)<=400000000/\rsz (aG.x a0Q)<=400000000/\aG.x a0Q≠0)/\nameAt none aU≠nameAt none a7Z/\iR A₁ D₂/\((∀ (q:aG),q ∈ rowAt rM VJ->q=dM (aG.x q))/\List.length D₁=List.length (List.map A₀ D₂)/\List.length D₁<=1000/\0<=aB (aA i).1/\(∀ (q:aG),q ∈ rowAt rM VJ->rsz (aG.x q)<=400000000)/\rsz (aG.x VK / aG.x a0Q)<=100000000/\∀ (q:Rat),q ∈ List.map A₀ D₂->rsz q<=100000000)/\True)/\∃ (i':{ i_3:Nat // Prod.fst (aA i)<i_3/\i_3<=4 }),4-aA i'<4-aA i_2/\IntKind.wrap IntKind.i64 (aB (aA i_2)+1)=aB (aA i')/\List.set rM VJ (qC D₁ (List.map A₀ D₂) (aG.x VK / aG.x a0Q) aU D₁.length)=dI f.length (wdM f) (kE A₂ (aA i).1 (aA i'))/\dD aX (aA i).1 dA=dD aX (aA i).1 dA/\asT aG bF=bF/\True) (∃ (i':{ i_3:Nat // Prod.fst (aA i)<i_3/\i_3<=4 }),4-aA i'<4-aA i_2/\IntKind.wrap IntKind.i64 (aB (aA i_2)+1)=aB (aA i')/\dI f.length (wdM f) a2P=dI f.length (wdM f) (kE A₂ (aA i).1 (aA i'))/\dD aX (aA i).1 dA=dD aX (aA i).1 dA/\asT aG bF=bF/\True)) (∃ (i':{ s:Nat × Mt × Rat // asT Nat s.1<=3/\(m33 150000 f->a6N (ent f) s) }),3-Prod.fst (aA i')<3-Prod.fst (aA i)/\IntKind.wrap IntKind.i64 dL=aB (aA i').1/\dI f.length (wdM f) a2P=dI f.length (wdM f) (aA i').2.1/\dD aX (aA i).1 dA=Prod.snd (aA i').2/\asT aG bF=bF/\True))))) (True/\Prod.snd (aA i).2=lU (ent f)/\True/\asT Int 0=0/\True))) (by kernel_rfl) ?_
 have hZ:(⟨false,0,[],[]⟩:aG)=bF:=rfl
 dsimp only[aB,asT,aA,aC,Ty.den,Lf.den] at *
 simp only[hZ,Int.toNat_natCast,jS,gy,oz,Ee,Dk,dB,nameAt,bZ,lK,jW,rowAt,uy,jy]
 have hf:m33 150000 f:=hp
 obtain⟨o1,o2,hw,hl⟩:=hf.ok (by omega)
 have sq:sqC f=0:=iw (by omega)
 rw[sq,hw,hl]
 have RW:∀ (m:Mt) (i:Nat),i<3->(dI 3 3 m).getD i []=(List.range 3).map fun c=>dM (m i c):=fun m i hi=>a2y hi
 have EN:∀ (m:Mt) (i c:Nat),i<3->c<3->((dI 3 3 m).getD i []).getD c bF=dM (m i c):=fun m i c hi hc=>by rw[RW m i hi,wZ hc]
 have LN:∀ (m:Mt) (i:Nat),i<3->((dI 3 3 m).getD i []).length=3:=fun m i hi=>by rw[RW m i hi];simp
 have MEM:∀ (m:Mt) (i:Nat) (q:aG),i<3->q ∈ (dI 3 3 m).getD i []->∃ c,c<3/\q=dM (m i c):=fun m i q hi hq=>by
  rw[RW m i hi] at hq
  obtain⟨c,hc,rfl⟩:=ni.1 hq
  exact⟨c,oq.1 hc,rfl⟩
 refine⟨o1,(fun h=>by cases h),fun _=>⟨o1,⟨by omega,by omega⟩,rfl,fun s=>⟨fun h1 k=>?_,fun h1=>?_⟩⟩⟩
 ·obtain⟨⟨j,e,d⟩,hj4,hI⟩:=s
  obtain⟨k,hjk,hk4,hz⟩:=k
  dsimp only at *
  obtain⟨i1,i2,i3⟩:=hI hf
  change lU (ent f)=d*mnr j e at i1
  change ∀ i,i<3->∀ c,c<3->rsz (e i c)<=bdD j at i2
  change rsz d<=bdD (j+1) at i3
  change j<=3 at hj4
  change j<=k at hjk
  change ∀ i,j<=i->i<k->e i j=0 at hz
  have hj:j<3:=by omega
  obtain⟨b1,b2,b3⟩:=b6R hj4
  have b4:=b6S hj
  rw[b3] at i3
  have hk:(decide ((k:Int)<((3:Nat):Int))==true)=true->k<3:=fun h=>by
   have:=og (eq_of_beq h);omega
  have hk':k<3->decide ((k:Int)<((3:Nat):Int))=true:=fun h=>jf (by omega)
  refine⟨⟨fun h=>⟨h,h,by omega,by have:=hk h;omega⟩,fun h=>⟨h,hk h⟩,fun h=>⟨h,h,by omega,by rw[LN _ _ (hk h)];omega⟩,fun h=>⟨h,by rw[LN _ _ (hk h)];omega⟩,fun h=>⟨h,by rw[EN _ _ _ (hk h) hj];rfl,by rw[EN _ _ _ (hk h) hj];exact ak (i2 k (hk h) j hj) (by omega)⟩,fun h=>h,fun h=>by rw[jf h];rfl⟩,fun h=>?_,fun h=>?_⟩
  ·have h3:k<3:=by
    by_cases h3:k<3
    ·exact h3
    ·rw[je (by omega)] at h;cases h
   rw[hk' h3,cond_true,EN _ _ _ h3 hj] at h
   have h5:e k j=0:=Ec.mp (vg.1 (eq_of_beq h))
   refine⟨⟨k+1,by omega,by omega,fun i g1 g2=>?_⟩,by simp only;omega,by rw[aJ (by omega) (by omega)];rfl⟩
   rcases um.1 g2 with g2|rfl
   ·exact hz i g1 g2
   ·exact h5
  ·refine⟨fun h3=>⟨⟨by omega,by omega⟩,?_⟩,fun h3=>?_⟩
   ·have h3:k=3:=by have:=eq_of_beq h3;omega
    rw[i1,b0D hj fun i g1 g2=>hz i g1 (by omega),Rat.mul_zero];rfl
   ·have h3:k<3:=by
     have:=uo.mp h3
     omega
    rw[hk' h3,cond_true,EN _ _ _ h3 hj] at h
    have h5:e k j≠0:=fun g=>by
     rw[show (dM (e k j)).x=e k j from rfl,g] at h
     cases h
    have hF:fkD e j=k:=b7h hjk h3 hz h5
    have hS:oD e j k j j≠0:=by rw[a6g];exact h5
    have sS:=c1q hj h3 i2
    have sE:∀ i r c,r<3->c<3->rsz (kE (oD e j k) j i r c)<=5*bdD j:=fun i r c hr hc=>b3o (ak (by omega) b1) hj hS sS r hr c hc
    have dE:dD e j d=(if k=j then d else -d)*oD e j k j j:=by unfold dD;rw[hF]
    have dz:rsz (dD e j d)<=bdD (j+1+1):=by
     have e2:bdD (j+1+1)=5*bdD (j+1):=by unfold bdD;rw[Nat.pow_succ 5 (j+1)];omega
     rw[e2,b3,dE]
     have m1:=cO (if k=j then d else -d) (oD e j k j j)
     have m2:rsz (if k=j then d else -d)<=5*bdD j:=by
      split
      ·exact i3
      ·rw[jE];exact i3
     have m3:=sS j hj j hj
     omega
    have fin:a6N (ent f) (j+1,kE (oD e j k) j 3,dD e j d):=⟨by
     show lU (ent f)=dD e j d*mnr (j+1) _
     rw[i1,dE]
     exact b0C hj hjk h3 h5 d,fun r hr c hc=>by
     show _<=bdD (j+1)
     rw[b3];exact sE 3 r c hr hc,dz⟩
    rw[hF]
    refine⟨fun hne=>?yA,fun heq=>?yB⟩
    case' yA =>
     have hne:k≠j:=fun g=>by rw[g] at hne;simp at hne
     have gj:(((List.range 3).set k j).set j k).getD j 0=k:=by
      rw[bf,List.getElem?_set_self (by simp;omega)];rfl
     rw[gj,LN _ _ h3,EN _ _ _ h3 hj]
     refine⟨by and_intros<;>omega,by omega,⟨by omega,by omega,by omega,by omega,by omega,by omega,rfl,by rw[jE];omega,ak (i2 k h3 j hj) (by omega)⟩,⟨by rw[aJ (by omega) (by omega)];rfl,c1p 3 h3 hj,?_,?_⟩,?inner⟩
     ·rw[b5s h3 hj,b1V]
      exact uZ fun r _ c _=>a1m.symm
     ·rw[dE,eu hne,a6g];rfl
    case' yB =>
     have heq:k=j:=by
      have h9:(k:Int)=(j:Int):=by simpa using heq
      omega
     rw[LN _ _ hj,EN _ _ _ hj hj]
     have e1:∀ r c,oD e j k r c=e r c:=fun r c=>by
      unfold oD
      rw[heq]
      split
      ·rename_i g;rw[g]
      ·rfl
     refine⟨⟨by omega,by omega,by omega,by omega,by omega,by omega,rfl,by omega,ak (i2 j hj j hj) (by omega)⟩,⟨by rw[aJ (by omega) (by omega)];rfl,uZ fun r _ c _=>by rw[a1m,e1],?_⟩,?inner⟩
     ·rw[dE,iw heq,e1];rfl
    all_goals
     intro i2
     obtain⟨i2,hji,hi4⟩:=i2
     dsimp only
     refine⟨fun g1=>?_,fun g1=>⟨⟨(j+1,kE (oD e j k) j 3,dD e j d),by show j+1<=3;omega,fun _=>fin⟩,by simp only;omega,by rw[aJ (by omega) (by omega)];rfl,uZ fun r hr c _=>a9a hr (by omega),rfl⟩⟩
     have h3i:i2<3:=by omega
     rw[LN _ _ h3i,LN _ _ hj,EN _ _ _ h3i hj,EN _ _ _ hj hj]
     have a1:=sE i2 i2 j h3i hj
     have a2:=sE i2 j j hj hj
     have ap:kE (oD e j k) j i2 j j≠0:=by rw[RH];exact hS
     have aq:=yI (kE (oD e j k) j i2 i2 j) (kE (oD e j k) j i2 j j) ap
     refine⟨⟨by omega,by omega,by omega,by omega,by omega,by omega,rfl,ak a1 (by omega)⟩,fun g2=>⟨⟨by omega,by omega,by omega,by omega,by omega,by omega,by omega,by omega,by omega,by omega,by omega,by omega,by omega,by omega,by omega,by omega,by omega,by omega,rfl,rfl,⟨ak a1 (by omega),ak a2 (by omega),ap⟩,by omega,iT.mpr fun q hq=>?_,fun q hq=>?_,by rw[jo];exact(LN _ _ hj).symm,by omega,by omega,fun q hq=>?_,ak aq (by omega),fun q hq=>?_⟩,⟨i2+1,by omega,by omega⟩,by simp only;omega,by rw[aJ (by omega) (by omega)];rfl,?_⟩,fun g2=>⟨⟨i2+1,by omega,by omega⟩,by simp only;omega,by rw[aJ (by omega) (by omega)];rfl,?_⟩⟩
     ·obtain⟨c,hc,rfl⟩:=MEM _ _ _ hj hq
      exact⟨rfl,trivial⟩
     ·obtain⟨c,hc,rfl⟩:=MEM _ _ _ h3i hq
      rfl
     ·obtain⟨c,hc,rfl⟩:=MEM _ _ _ h3i hq
      exact ak (sE i2 i2 c h3i hc) (by omega)
     ·obtain⟨q',hq',rfl⟩:=ni.1 hq
      obtain⟨c,hc,rfl⟩:=MEM _ _ _ hj hq'
      exact ak (sE i2 j c hj hc) (by omega)
     ·rw[RW _ _ h3i,RW _ _ hj,b0z,b1R,b1Y]
      refine uZ fun r _ c _=>?_
      rw[WI hji]
      by_cases er:r=i2
      ·subst er
       rw[iw rfl,iw rfl];rfl
      ·rw[eu er,eu er]
     ·refine uZ fun r _ c _=>(a6O hji ?_).symm
      rw[bne_eq_false_iff_eq] at g2
      exact Ec.mp (vg.1 g2)
 ·obtain⟨⟨j,e,d⟩,hj4,hI⟩:=s
  dsimp only at *
  obtain⟨i1,i2,i3⟩:=hI hf
  have hj:j=3:=by omega
  subst hj
  exact(i1.trans (Rat.mul_one d)).symm
theorem a1D {xs ys:Nat->Int} {n:Nat} (h:∀ j,j<n->ys j=xs j):∀ k,k<=n->gsq ys k=gsq xs k
 | 0,_=>rfl
 | k+1,hk=>by
  show ((Int.gcd (gsq ys k) (ys k):Nat):Int)=((Int.gcd (gsq xs k) (xs k):Nat):Int)
  rw[a1D h k (by omega),h k (by omega)]
theorem a1z {xs ys:Nat->Int} {n:Nat} (h:∀ j,j<n->ys j=xs j):∀ k,k<=n->fsq ys k=fsq xs k
 | 0,_=>rfl
 | k+1,hk=>by
  show (if fsq ys k=0 then ys k else fsq ys k)=(if fsq xs k=0 then xs k else fsq xs k)
  rw[a1z h k (by omega),h k (by omega)]
theorem b0W {xs ys:Nat->Int} {n j:Nat} (h:∀ j,j<n->ys j=xs j) (hj:j<n):prN ys n j=prN xs n j:=by
 unfold prN prG
 rw[a1D h n (aj n),a1z h n (aj n),h j hj]
def crE (t:Nat->Rat):Mt
 | 0=>fun|0=>0|1=>- t 2|_=>t 1
 | 1=>fun|0=>t 2|1=>0|_=>- t 0
 | _=>fun|0=>- t 1|1=>t 0|_=>0
def w3 (n:Int):Nat:=if n=n then 3 else 3
set_option maxHeartbeats 400000
theorem i33 {f:Mt}:isM (tab 3 3 f) 3 3:=DT (by omega) (by omega) (by omega) (by omega)
theorem b2V (v:LQ'):zN v=tab 3 3 (crE (lv v)):=rfl
theorem a8P (v:LQ'):isM (zN v) 3 3:=by rw[b2V];exact i33
set_option maxHeartbeats 4000000
def fB (m:MQ) (l:List MQ):MQ:=l.foldl mulM m
def nD (m:MQ) (l:List MQ):Prop:=l.length<=1000/\(∀ n ∈ l,m33 1000000 n)/\∀ k,k<=l.length->m33 1000000 (fB m (l.take k))
noncomputable def c5A:Ctr:=⟨[tM,.list tM],[tM],fun x=>nD x.1 x.2.1,fun x=>(fB x.1 x.2.1,())⟩
theorem a5M:aH Tryz.prog 64 c5A:=by
 refine aI (nil0.ad a5x) ⟨[],[],[]⟩ Tryz.func64 rfl (by decide) (fun x=>[.inv {k:Nat // k<=(show List MQ from x.2.1).length} (fun k=>[(9,.val tI (k.1:Int)),(0,.val tM (fB x.1 ((show List MQ from x.2.1).take k.1)))]) (fun k=>[]) (fun k=>(show List MQ from x.2.1).length-k.1) ⟨0,by omega⟩ (fun _=>[])]) (fun x hp=>?_)
 obtain⟨m,l,u⟩:=x
 change MQ at m
 change List MQ at l
 refine aO ((asT Int 0=0/\m=fB m (List.take 0 l)/\True)/\∀ (i:{ k:Nat // k<=List.length l }),let A₀:=(List.getD l (aB (aA i)).toNat (aC (List Rat)));let A₁:=(fB m (List.take (aA i) l));asT Bool true=true/\ifB (decide (aB (aA i)<aB l.length)) ((0<=aB (aA i)/\aB (aA i)<aB l.length/\True)/\((okM A₁/\okM A₀/\wdM A₁=List.length A₀/\szM A₁ 1000000/\szM A₀ 1000000)/\True)/\∃ (i':{ k:Nat // k<=List.length l }),List.length l-aA i'<List.length l-aA i/\IntKind.wrap IntKind.i64 (aB (aA i)+1)=aB (aA i')/\tab A₁.length (wdM A₀) (mm A₀.length (ent A₁) (ent A₀))=fB m (List.take (aA i') l)/\True) (True/\fB m (List.take (aA i) l)=fB m l/\True)) (by kernel_rfl) ?_
 try simp only[zP0]
 try dsimp only[aB,asT,aA,aC,Ty.den,Lf.den] at *
 try simp only[zP1]
 try simp only[zP2]
 obtain⟨h1,h2,h3⟩:nD m l:=hp
 refine⟨rfl,fun i=>⟨fun h=>?_,fun h=>by rw[jc (by omega)]⟩⟩
 have hi:i.1<l.length:=by omega
 obtain⟨a1,a2,a3,a4⟩:=(h3 i.1 i.2).ok (aj _)
 obtain⟨b1,b2,b3,b4⟩:=(h2 _ (gV (d:=[]) hi)).ok (aj _)
 refine⟨⟨by omega,h⟩,⟨a1,b1,a3.trans b4.symm,a2,b2⟩,⟨i.1+1,by omega⟩,by simp only;omega,by rw[aJ (by omega) (by omega)];rfl,?_⟩
 show mulM _ _=fB m (List.take (i.1+1) l)
 rw[Ci,bn hi,bf,bn hi]
 unfold fB
 rw[List.foldl_append];rfl
noncomputable def c2H:Ctr:=⟨[tM],[tM],fun x=>okM x.1,fun x=>(trM x.1,())⟩
theorem a6j:aH Tryz.prog 65 c2H:=by
 refine aI (nil0.ad UW) ⟨[],[],[]⟩ Tryz.func65 rfl (by decide) (fun x=>[]) (fun x hp=>?_)
 obtain⟨m,u⟩:=x
 change MQ at m
 refine aO ((okM m/\True)/\True/\tab (wdM m) m.length (tr (ent m))=trM m/\True) (by kernel_rfl) ?_
 try simp only[zP0]
 try dsimp only[aB,asT,aA,aC,Ty.den,Lf.den] at *
 try simp only[zP1]
 try simp only[zP2]
 exact⟨hp,rfl⟩
def stk {α:Type} (n:Nat) (x:α):α:=if n=n then x else x
theorem UN {α:Type} (n:Nat) (x:α):stk n x=x:=by unfold stk;split<;>rfl
noncomputable def c2x:Ctr:=⟨[tM,.list tM],[tM],fun x=>nD x.1 x.2.1,fun x=>(stk (show MQ from x.1).length (fB x.1 x.2.1),())⟩
noncomputable def c2I:Ctr:=⟨[tM],[tM],fun x=>okM x.1,fun x=>(stk (show MQ from x.1).length (trM x.1),())⟩
noncomputable def c2d:Ctr:=⟨[.list (.list tR)],[.list tR],fun x=>(show MR from x.1).length<=1000/\∀ r ∈ (show MR from x.1),r.length<=1000,fun x=>(stk (show MR from x.1).length (show MR from x.1).flatten,())⟩
theorem TY {α:Type} (n:Nat) (x:α):(x,())=(stk n x,()):=by rw[UN]
theorem a2h:aH Tryz.prog 64 c2x:=gG a5M fun x _=>TY _ _
theorem a2C:aH Tryz.prog 65 c2I:=gG a6j fun x _=>TY _ _
theorem a8L:aH Tryz.prog 63 c2d:=gG a1d fun x _=>TY _ _
def c1O (a b:c1I):Prop:=a.1.1=b.1.1/\a.1.2.1=b.1.2.1/\a.1.2.2.1=b.1.2.2.1
instance (a b:c1I):Decidable (c1O a b):=by unfold c1O;infer_instance
theorem DJ (m:MQ):fB m []=m:=rfl
theorem yE (m x:MQ) (l:List MQ):fB m (x::l)=fB (mulM m x) l:=rfl
theorem XL (x:MQ):List.map (fun q:aG=>q.x) (List.map (fun xs=>List.map (fun q=>dM q) xs) x).flatten=x.flatten:=by
 rw[List.map_flatten,List.map_map]
 congr 1
 conv=>rhs;rw[<-List.map_id x]
 refine ku fun r _=>?_
 show List.map (fun q:aG=>q.x) (List.map (fun q=>dM q) r)=r
 rw[List.map_map]
 conv=>rhs;rw[<-List.map_id r]
 exact ku fun q _=>rfl
theorem GX (x y:Rat):wG x y=0↔x=y:=by
 unfold wG
 by_cases h1:x<y
 ·rw[iw h1];exact⟨fun h=>by simp at h,fun h=>by rw[h] at h1;exact absurd h1 Rat.lt_irrefl⟩
 ·rw[eu h1]
  by_cases h2:y<x
  ·rw[iw h2];exact⟨fun h=>by simp at h,fun h=>by rw[h] at h2;exact absurd h2 Rat.lt_irrefl⟩
  ·rw[eu h2];exact⟨fun _=>Rat.le_antisymm (Rat.not_lt.1 h2) (Rat.not_lt.1 h1),fun _=>rfl⟩
noncomputable def c5m:Ctr:=⟨[tQ,tQ],[tB],fun x=>s44 x.1 x.2.1,fun x=>(decide ((show Rat from x.1)=(show Rat from x.2.1)),())⟩
theorem b3u:aH Tryz.prog 171 c5m:=by
 refine aI (nil0.ad ZY) ⟨[],[],[]⟩ Tryz.func171 rfl (by decide) (fun x=>[]) (fun x hp=>?_)
 obtain⟨x,y,u⟩:=x
 change Rat at x
 change Rat at y
 refine aO ((s44 x y/\True)/\True/\(wG x y==0)=decide (x=y)/\True) (by kernel_rfl) ?_
 try simp only[zP0]
 try dsimp only[aB,asT,aA,aC,Ty.den,Lf.den] at *
 try simp only[zP1]
 try simp only[zP2]
 refine⟨hp,?_⟩
 by_cases h:x=y
 ·rw[jf h,(GX _ _).2 h];rfl
 ·rw[je h,uo];exact fun e=>h ((GX _ _).1 e)
def b7g (x y:LQ'):Prop:=x.length<=1000/\y.length<=1000/\(∀ q ∈ x,rsz q<=400000000)/\∀ q ∈ y,rsz q<=400000000
noncomputable def c5l:Ctr:=⟨[.list tQ,.list tQ,.clo 171 .unit],[tB],fun x=>b7g x.1 x.2.1,fun x=>(decide ((show LQ' from x.1)=(show LQ' from x.2.1)),())⟩
theorem b3t:aH Tryz.prog 170 c5l:=by
 refine aI (nil0.ad b3u) ⟨[8,9],[],[]⟩ Tryz.func170 rfl (by decide) (fun x=>[.inv {k:Nat // k<=(show LQ' from x.1).length/\(show LQ' from x.1).take k=(show LQ' from x.2.1).take k} (fun k=>[(17,.val tI (k.1:Int))]) (fun k=>[]) (fun k=>(show LQ' from x.1).length-k.1) ⟨0,by omega,rfl⟩ (fun _=>[])]) (fun x hp=>?_)
 obtain⟨x,y,c,u⟩:=x
 change List Rat at x
 change List Rat at y
 change Unit at c
 refine aO (ifB (aB x.length != aB y.length) (True/\false=decide (x=y)/\True) ((asT Int 0=0/\True)/\∀ (i:{ k:Nat // k<=List.length x/\List.take k x=List.take k y }),asT Bool true=true/\ifB (decide (aB (aA i)<aB x.length)) ((0<=aB (aA i)/\aB (aA i)<aB x.length/\True)/\(0<=aB (aA i)/\aB (aA i)<aB y.length/\True)/\(s44 (List.getD x (aB (aA i)).toNat 0) (List.getD y (aB (aA i)).toNat 0)/\True)/\ifB (!decide (List.getD x (aB (aA i)).toNat 0=List.getD y (aB (aA i)).toNat 0)) (True/\false=decide (x=y)/\True) (∃ (i':{ k:Nat // k<=List.length x/\List.take k x=List.take k y }),List.length x-aA i'<List.length x-aA i/\IntKind.wrap IntKind.i64 (aB (aA i)+1)=aB (aA i')/\True)) (True/\true=decide (x=y)/\True))) (by kernel_rfl) ?_
 try simp only[zP0]
 try dsimp only[aB,asT,aA,aC,Ty.den,Lf.den] at *
 try simp only[zP1]
 try simp only[zP2]
 obtain⟨q1,q2,q3,q4⟩:b7g x y:=hp
 refine⟨fun h=>(je fun e=>h (by rw[e])).symm,fun h i=>⟨fun h1=>⟨⟨by omega,h1⟩,⟨by omega,by omega⟩,⟨cZ q3 (by omega),cZ q4 (by omega)⟩,fun h2=>(je fun e=>yg h2 (ql (fun l:List Rat=>l.getD i.1 0) e)).symm,fun h2=>⟨⟨i.1+1,by omega,?_⟩,by simp only;omega,by rw[aJ (by omega) (by omega)];rfl⟩⟩,fun h1=>?_⟩⟩
 ·exact a4k (d:=0) (by omega) (by omega) i.2.2 (og h2)
 ·have h3:=i.2.2
  rw[jc (by omega),jc (by omega)] at h3
  exact(jf h3).symm
noncomputable def c2C:Ctr:=⟨[tM,tQ],[tM,tI],fun x=>okM x.1/\rsz x.2.1<=400000000,fun x=>(stk (show MQ from x.1).length (nT x.1 x.2.1),(0:Int),())⟩
theorem b1E:aH Tryz.prog 92 c2C:=gG a2u fun x _=>ql (fun y:MQ=>(y,(0:Int),())) (UN _ _).symm
theorem JJ {K L:Nat} {x y:MQ} (hx:m33 K x) (hy:m33 L y):m33 (3*(K+L+1)+1) (mulM x y):=by
 have hm:=hx.1.mul hy.1
 refine⟨hm,fun i hi j hj=>?_⟩
 rw[hm.len] at hi
 rw[hm.wd] at hj
 unfold mulM
 rw[hx.1.len,hy.1.wd,hy.1.len,kQ hi hj]
 exact FY (K:=K+L) 3 fun k hk=>by
  have a:=hx.2 i (by rw[hx.1.len];exact hi) k (by rw[hx.1.wd];exact hk)
  have b:=hy.2 k (by rw[hy.1.len];exact hk) j (by rw[hy.1.wd];exact hj)
  have:=cO (ent x i k) (ent y k j)
  omega
theorem YG {K J:Nat} {x:MQ} {k:Rat} (hx:m33 K x) (hk:rsz k<=J):m33 (J+K) (nT x k):=by
 have hm:isM (nT x k) 3 3:=by unfold nT;rw[hx.1.len,hx.1.wd];exact i33
 refine⟨hm,fun i hi j hj=>?_⟩
 rw[hm.len] at hi
 rw[hm.wd] at hj
 unfold nT
 rw[hx.1.len,hx.1.wd,kQ hi hj]
 have a:=hx.2 i (by rw[hx.1.len];exact hi) j (by rw[hx.1.wd];exact hj)
 have:=cO k (ent x i j)
 omega
theorem a2j {K:Nat} {x y:MQ} (hK:K<=1000) (hx:m33 K x) (hy:m33 K y):nD x [y]:=⟨by show 1<=1000;omega,fun n hn=>by
 rw[ng] at hn
 subst hn
 exact hy.mono (by omega),fun k hk=>by
 have hk:k<=1:=hk
 have e:k=0\/k=1:=by omega
 rcases e with rfl|rfl<;>simp only[List.take_zero,List.take_succ_cons,DJ,yE]
 ·exact hx.mono (by omega)
 ·exact(JJ hx hy).mono (by omega)⟩
theorem a1U {K:Nat} {F:MQ} (h:m33 K F):(List.map (fun xs=>List.map (fun q=>dM q) xs) F).length<=1000/\∀ r ∈ List.map (fun xs=>List.map (fun q=>dM q) xs) F,r.length<=1000:=⟨by rw[jo,h.1.len];omega,fun r hr=>by
 obtain⟨x,hx,rfl⟩:=ni.1 hr
 rw[jo,h.1.2.1 x hx];omega⟩
theorem a5p (F:MQ):iR (fun(x:Ty.den (Ty.lf Lf.gQ))=>dH [aG.ok x=true]) (List.map (fun xs=>List.map (fun q=>dM q) xs) F).flatten:=iT.mpr fun q hq=>by
 obtain⟨r,hr,hq⟩:=Ej.1 hq
 obtain⟨x,_,rfl⟩:=ni.1 hr
 obtain⟨y,_,rfl⟩:=ni.1 hq
 exact⟨rfl,trivial⟩
theorem FZ {K:Nat} {x:MQ} (hx:m33 K x):rsz (trQ x)<=3*K+2:=by
 have a:∀ i,i<3->rsz (ent x i i)<=K:=fun i hi=>hx.2 i (by rw[hx.1.len];exact hi) i (by rw[hx.1.wd];exact hi)
 have a0:=a 0 (by omega)
 have a1:=a 1 (by omega)
 have a2:=a 2 (by omega)
 have b:=gW (ent x 1 1) (ent x 2 2)
 have c:=gW (ent x 0 0) (ent x 1 1+ent x 2 2)
 unfold trQ
 omega
theorem xB (x y:Rat):rsz (x-y)<=rsz x+rsz y+1:=by
 have:=gW x (-y)
 rw[jE] at this
 rw[Dz];exact this
theorem a4S {K:Nat} {x:MQ} (hx:m33 K x):rsz (lU (ent x))<=15*K+5:=by
 have a:∀ i j,i<3->j<3->rsz (ent x i j)<=K:=fun i j hi hj=>hx.2 i (by rw[hx.1.len];exact hi) j (by rw[hx.1.wd];exact hj)
 have two:∀ p q r s:Rat,rsz p<=K->rsz q<=K->rsz r<=K->rsz s<=K->rsz (p*q-r*s)<=4*K+1:=fun p q r s h1 h2 h3 h4=>by
  have:=cO p q
  have:=cO r s
  have:=xB (p*q) (r*s)
  omega
 have t0:=two _ _ _ _ (a 1 1 (by omega) (by omega)) (a 2 2 (by omega) (by omega)) (a 1 2 (by omega) (by omega)) (a 2 1 (by omega) (by omega))
 have t1:=two _ _ _ _ (a 1 0 (by omega) (by omega)) (a 2 2 (by omega) (by omega)) (a 1 2 (by omega) (by omega)) (a 2 0 (by omega) (by omega))
 have t2:=two _ _ _ _ (a 1 0 (by omega) (by omega)) (a 2 1 (by omega) (by omega)) (a 1 1 (by omega) (by omega)) (a 2 0 (by omega) (by omega))
 have a0:=a 0 0 (by omega) (by omega)
 have a1:=a 0 1 (by omega) (by omega)
 have a2:=a 0 2 (by omega) (by omega)
 unfold lU
 generalize ent x 1 1*ent x 2 2-ent x 1 2*ent x 2 1=u0 at *
 generalize ent x 1 0*ent x 2 2-ent x 1 2*ent x 2 0=u1 at *
 generalize ent x 1 0*ent x 2 1-ent x 1 1*ent x 2 0=u2 at *
 have m0:=cO (ent x 0 0) u0
 have m1:=cO (ent x 0 1) u1
 have m2:=cO (ent x 0 2) u2
 have s1:=xB (ent x 0 0*u0) (ent x 0 1*u1)
 have s2:=gW (ent x 0 0*u0-ent x 0 1*u1) (ent x 0 2*u2)
 omega
def gM (e:MQ):MQ:=mulM e (trM e)
def FK (e:MQ):Bool:=decide (lU (ent e)=0)&&decide ((nT (mulM (gM e) e) (aV 2)).flatten=(nT e (trQ (gM e))).flatten)
noncomputable def c2n:Ctr:=⟨[tM],[tB],fun x=>m33 100 x.1,fun x=>(FK x.1,())⟩
theorem b3w:aH Tryz.prog 85 c2n:=by
 refine aI (((((((((nil0.ad sN).ad vS).ad a2h).ad a2C).ad a8L).ad b1E).ad UY).ad a1g).ad b3t) ⟨[8],[],[]⟩ Tryz.func85 rfl (by decide) (fun x=>[]) (fun x hp=>?_)
 obtain⟨e,u⟩:=x
 change MQ at e
 refine aO (let A₁:=(fun(xs:Ty.den (Ty.list (Ty.lf Lf.rat)))=>List.map (fun(x:Ty.den (Ty.lf Lf.rat))=>dM x) xs);let bJ:=(fun(x:Ty.den (Ty.lf Lf.gQ))=>aG.x x);let dA:=(fun(x:Ty.den (Ty.list (Ty.lf Lf.rat)))=>dH (iR (fun(x:Ty.den (Ty.lf Lf.rat))=>dH (aC Cd)) x::aC Cd));let jA:=(fun(x:Ty.den (Ty.lf Lf.gQ))=>dH ((aG.ok x=true)::aC Cd));let gK:=(stk e.length (trM e)::aC (List (List Rat)));let A₂:=(stk e.length (fB e gK));let fO:=(stk e.length (nT e (trQ A₂)));let aU:=(List.map A₁ fO);let dP:=(stk aU.length (List.flatten aU));let gB:=(Rat.num (lU (ent e)));let aX:=((sgn gB==0)==true);let kW:=(e::aC (List (List Rat)));let A₀:=(stk A₂.length (fB A₂ kW));let dF:=(stk A₀.length (nT A₀ (aV 2)));let aN:=(List.map A₁ dF);let dL:=(stk aN.length (List.flatten aN));(okM e/\nD e gK/\True)/\(nD A₂ kW/\bP 2/\(okM A₀/\rsz (aV 2)<=400000000)/\True)/\(m33 1000000 A₂/\(okM e/\rsz (trQ A₂)<=400000000)/\True)/\(m33 150000 e/\True)/\(rsz (lU (ent e))<=1000000000/\(aX=true->aX=true/\iR dA dF/\(List.length aN<=1000/\∀ (r:List aG),r ∈ List.map A₁ dF->List.length r<=1000)/\True)/\(aX=true->aX=true/\iR dA fO/\(List.length aU<=1000/\∀ (r:List aG),r ∈ List.map A₁ fO->List.length r<=1000)/\True)/\(aX=true->aX=true/\aX=true/\iR jA dL/\iR jA dP/\b7g (List.map bJ dL) (List.map bJ dP)/\True)/\((sgn gB==0)=true->aX=true)/\True)/\True/\(bif sgn gB==0 then decide (List.map bJ dL=List.map bJ dP) else false)=FK e/\True) (by kernel_rfl) ?_
 try simp only[zP0]
 try dsimp only[aB,asT,aA,aC,Ty.den,Lf.den] at *
 try simp only[zP1]
 try simp only[zP2]
 simp only[UN]
 have he:m33 100 e:=hp
 have ht:m33 100 (trM e):=he.tr
 have hg:m33 700 (gM e):=(JJ he ht).mono (by omega)
 have hge:m33 3000 (mulM (gM e) e):=(JJ hg he).mono (by omega)
 have s1:rsz (aV 2)<=10:=by decide +kernel
 have tq:rsz (trQ (gM e))<=3000:=ak (FZ hg) (by omega)
 have A:=(YG hge s1).mono (show 10+3000<=10000 by omega)
 have B:=(YG he tq).mono (show 3000+100<=10000 by omega)
 have dz:rsz (lU (ent e))<=1000000000:=ak (a4S he) (by omega)
 have p1:nD e [trM e]:=a2j (by omega) he ht
 have p2:nD (gM e) [e]:=a2j (by omega) hg (he.mono (by omega))
 have b1:fB e [trM e]=gM e:=rfl
 have b2:fB (gM e) [e]=mulM (gM e) e:=rfl
 rw[b1,b2,XL,XL]
 have o1:=(he.mono (show 100<=1000000 by omega)).ok (aj _)
 have o2:=(hge.mono (show 3000<=1000000 by omega)).ok (aj _)
 have eb:FK e=(decide (lU (ent e)=0)&&decide ((nT (mulM (gM e) e) (aV 2)).flatten=(nT e (trQ (gM e))).flatten)):=rfl
 rw[eb]
 have w2:bP 2:=by decide
 have hg':m33 1000000 (gM e):=hg.mono (by omega)
 have he':m33 150000 e:=he.mono (by omega)
 generalize nT (mulM (gM e) e) (aV 2)=C at *
 generalize nT e (trQ (gM e))=D at *
 generalize trQ (gM e)=t at *
 generalize mulM (gM e) e=G at *
 generalize gM e=H at *
 have ze:(sgn (lU (ent e)).num==0)=decide (lU (ent e)=0):=by
  by_cases h:lU (ent e)=0
  ·rw[jf h,(uY _).2 h];rfl
  ·rw[je h,uo];exact fun k=>h ((uY _).1 k)
 rw[ze]
 refine⟨⟨o1.1,p1⟩,⟨p2,w2,o2.1,by omega⟩,⟨hg',o1.1,by omega⟩,he',⟨dz,fun h=>⟨h,iT.mpr fun x _=>⟨iT.mpr fun _ _=>trivial,trivial⟩,a1U A⟩,fun h=>⟨h,iT.mpr fun x _=>⟨iT.mpr fun _ _=>trivial,trivial⟩,a1U B⟩,fun h=>⟨h,h,a5p _,a5p _,?_⟩⟩,rfl⟩
 exact⟨by rw[A.flat.1];omega,by rw[B.flat.1];omega,fun q hq=>ak (A.flat.2 q hq) (by omega),fun q hq=>ak (B.flat.2 q hq) (by omega)⟩
end Go.Proofs.YtbkocjmmbkifjaaGreat
