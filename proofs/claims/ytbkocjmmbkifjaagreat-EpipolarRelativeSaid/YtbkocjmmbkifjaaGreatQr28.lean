/-
  Lemmas for the theorem vrelative28_holds, part 28 of 35.
-/
import Derived.Test.YtbkocjmmbkifjaaGreatQr27
namespace Go.Proofs.YtbkocjmmbkifjaaGreat
open Go Go.RowKit
theorem Eb:type_of% @Nat.lt_succ_iff_lt_or_eq:=@Nat.lt_succ_iff_lt_or_eq
theorem Bv:type_of% @Rat.mul_zero:=@Rat.mul_zero
theorem yj:type_of% @Rat.mul_eq_zero:=@Rat.mul_eq_zero
theorem oz:type_of% @Classical.byContradiction:=@Classical.byContradiction
theorem Df:type_of% @List.mem_flatten:=@List.mem_flatten
set_option maxRecDepth 100000
set_option maxHeartbeats 4000000
set_option linter.unusedVariables false
set_option linter.unusedSimpArgs false
def jV (e:Mt):Rat:=e 0 0*(e 1 1*e 2 2-e 1 2*e 2 1)-e 0 1*(e 1 0*e 2 2-e 1 2*e 2 0)+e 0 2*(e 1 0*e 2 1-e 1 1*e 2 0)
def mnr:Nat->Mt->Rat
 | 0,e=>jV e
 | 1,e=>e 1 1*e 2 2-e 1 2*e 2 1
 | 2,e=>e 2 2
 | _,_=>1
def kX (s:Mt) (j i:Nat):Mt:=fun r c=>if j<r/\r<i/\j<=c then s r c-s r j / s j j*s j c else s r c
def bdD (j:Nat):Nat:=150000*5 ^ j
def fkD (e:Mt) (j:Nat):Nat:=fk e j j (3-j)
def dD (e:Mt) (j:Nat) (d:Rat):Rat:=(if fkD e j=j then d else -d)*fZ e j (fkD e j) j j
def a8r (f:Mt) (s:Nat × Mt × Rat):Prop:=jV f=s.2.2*mnr s.1 s.2.1/\(∀ i,i<3->∀ c,c<3->rsz (s.2.1 i c)<=bdD s.1)/\rsz s.2.2<=bdD (s.1+1)
theorem b2y {j:Nat} {e:Mt} (hj:j<3) (h:∀ i,j<=i->i<3->e i j=0):mnr j e=0:=by
 rcases three hj with rfl|rfl|rfl
 ·have h0:=h 0 (by omega) (by omega);have h1:=h 1 (by omega) (by omega);have h2:=h 2 (by omega) (by omega);simp only[mnr,jV];grind
 ·have h1:=h 1 (by omega) (by omega);have h2:=h 2 (by omega) (by omega);simp only[mnr];grind
 ·exact h 2 (by omega) (by omega)
theorem b2x {j k:Nat} {e:Mt} (hj:j<3) (hk:j<=k) (hk3:k<3) (h:e k j≠0) (d:Rat):d*mnr j e=(if k=j then d else -d)*fZ e j k j j*mnr (j+1) (kX (fZ e j k) j 3):=by
 have m:=jw _ h;rcases three hj with rfl|rfl|rfl
 ·rcases three hk3 with rfl|rfl|rfl;all_goals
   simp[mnr,jV,kX,fZ,Rat.div_def];grind
 ·rcases three hk3 with rfl|rfl|rfl
  ·omega
  all_goals
   simp[mnr,jV,kX,fZ,Rat.div_def];grind
 ·have:k=2:=by omega
  subst this;simp[mnr,jV,kX,fZ]
theorem b9f {j:Nat} (h:j<=3):150000<=bdD j/\bdD j<=18750000/\bdD (j+1)=5*bdD j:=by
 have e:bdD (j+1)=5*bdD j:=by unfold bdD;rw[Nat.pow_succ];omega
 have:j=0\/j=1\/j=2\/j=3:=by omega
 rcases this with rfl|rfl|rfl|rfl<;>exact⟨by decide,by decide,e⟩
theorem b9g {j:Nat} (h:j<3):bdD j<=3750000:=by rcases three h with rfl|rfl|rfl<;>decide
theorem b5m {s:Mt} {j i K:Nat} (hK:1000<=K) (hj:j<3) (hz:s j j≠0) (h:∀ r,r<3->∀ c,c<3->rsz (s r c)<=K):∀ r,r<3->∀ c,c<3->rsz (kX s j i r c)<=5*K:=fun r hr c hc=>by
 unfold kX;have h1:=h r hr c hc;split
 ·have h2:=h r hr j hj;have h3:=h j hj c hc;have h4:=h j hj j hj;have d:=EW (s r j) (s j j) hz;have m:=fC (s r j / s j j) (s j c);have a:=oD (s r c) (-(s r j / s j j*s j c));rw[rU] at a;rw[Rat.sub_eq_add_neg];omega
 ·omega
theorem a2q {s:Mt} {j i r c:Nat} (h:i<=r):kX s j i r c=s r c:=bn (by omega)
theorem TD {s:Mt} {j i c:Nat}:kX s j i j c=s j c:=bn (by omega)
theorem XL {s:Mt} {j i r c:Nat} (hi:j<i):kX s j (i+1) r c=if r=i then (if j<=c then kX s j i i c-kX s j i i j / kX s j i j j*kX s j i j c else kX s j i i c) else kX s j i r c:=by
 by_cases e:r=i
 ·subst e;rw[dn rfl,a2q (aj r),a2q (aj r),TD,TD];unfold kX;by_cases h:j<=c
  ·rw[dn h,dn ⟨hi,by omega,h⟩]
  ·rw[bn h,bn (by omega)]
 ·rw[bn e];unfold kX;by_cases h:j<r/\r<i/\j<=c
  ·rw[dn h,dn (by omega)]
  ·rw[bn h,bn (by omega)]
theorem a8s {s:Mt} {j i r c:Nat} (hi:j<i) (hz:kX s j i i j=0):kX s j (i+1) r c=kX s j i r c:=by
 rw[XL hi];by_cases e:r=i
 ·subst e;rw[dn rfl,hz];split
  ·rw[Rat.div_def,Bd,Bd];grind
  ·rfl
 ·rw[bn e]
theorem a7K {e:Mt} {j k:Nat} (c:Nat):fZ e j k j c=e k c:=by unfold fZ;rw[dn rfl]
theorem c4i {e:Mt} {j k K:Nat} (hj:j<3) (hk:k<3) (h:∀ r,r<3->∀ c,c<3->rsz (e r c)<=K):∀ r,r<3->∀ c,c<3->rsz (fZ e j k r c)<=K:=fun r hr c hc=>by
 unfold fZ;split
 ·exact h k hk c hc
 ·split
  ·exact h j hj c hc
  ·exact h r hr c hc
theorem b9D {e:Mt} {j k:Nat} (h1:j<=k) (h2:k<3) (hz:∀ i,j<=i->i<k->e i j=0) (hn:e k j≠0):fkD e j=k:=a6k e j j (3-j) k h1 (by omega) hz fun _=>hn
theorem b3Z (e:Mt) (j k:Nat):fZ e k j=fZ e j k:=by
 funext i;unfold fZ;by_cases h1:i=k
 ·by_cases h2:i=j
  ·rw[dn h1,dn h2];rw[<-h1,<-h2]
  ·rw[dn h1,bn h2,dn h1]
 ·by_cases h2:i=j
  ·rw[bn h1,dn h2,dn h2]
  ·rw[bn h1,bn h2,bn h2,bn h1]
theorem b0N {s:Mt} {j i r c:Nat} (hr:r<3) (hi:3<=i):kX s j i r c=kX s j 3 r c:=by
 unfold kX;by_cases h:j<r/\j<=c
 ·rw[dn (by omega),dn (by omega)]
 ·rw[bn (by omega),bn (by omega)]
theorem a2p {s:Mt} {j r c:Nat}:kX s j (j+1) r c=s r c:=bn (by omega)
theorem c5F {f:MQ} (h:m33 150000 f):a8r (ent f) (0,ent f,1):=⟨(Rat.one_mul _).symm,fun i hi c hc=>h.2 i (by rw[h.1.len];exact hi) c (by rw[h.1.wd];exact hc),(by decide +kernel:rsz (1:Rat)<=bdD 1)⟩
noncomputable def c7A:Ctr:=⟨[tM],[tQ,tI],fun x=>m33 150000 x.1,fun x=>(jV (ent x.1),(0:Int),())⟩
theorem a2k:aJ Tryz.prog 169 c7A:=by
 refine aN ((((((((nil0.ad oG).ad rM).ad tY).ad VN).ad a3x).an b0z).an b8P).ad JO) ⟨[2,6],[],[]⟩ Tryz.func169 rfl (by decide) (fun x=>[.inv {s:Nat × Mt × Rat // s.1<=3/\(m33 150000 (show MQ from x.1)->a8r (ent (show MQ from x.1)) s)} (fun s=>[(21,.val tI (s.1.1:Int))]++[(7,.any),(8,.any),(9,.any),(10,.any),(11,.any),(12,.any),(13,.any),(14,.any),(15,.any),(16,.any),(18,.any),(19,.any),(22,.any),(23,.any),(24,.any),(25,.any),(26,.any),(27,.any),(28,.any),(29,.any),(30,.any),(31,.any),(32,.any),(33,.any),(34,.any),(35,.any),(36,.any),(37,.any),(38,.any),(39,.any),(40,.any),(41,.any),(42,.any),(43,.any),(44,.any),(45,.any),(46,.any),(47,.any),(48,.any),(49,.any),(50,.any),(51,.any),(52,.any),(53,.any),(54,.any),(55,.any),(56,.any),(57,.any),(58,.any),(59,.any),(60,.any),(61,.any),(62,.any),(63,.any),(64,.any),(65,.any),(66,.any),(67,.any),(68,.any),(69,.any),(70,.any),(71,.any),(72,.any),(73,.any),(74,.any),(75,.any),(76,.any),(77,.any),(78,.any),(79,.any),(80,.any),(81,.any),(82,.any),(83,.any),(84,.any),(85,.any),(86,.any),(87,.any),(88,.any),(89,.any),(90,.any),(91,.any),(92,.any),(93,.any),(94,.any),(95,.any),(96,.any),(97,.any),(98,.any),(99,.any),(100,.any),(101,.any),(102,.any),(103,.any),(104,.any),(105,.any),(106,.any),(107,.any),(108,.any),(109,.any),(110,.any),(111,.any),(112,.any),(113,.any),(114,.any),(115,.any),(116,.any),(117,.any)]) (fun s=>[(17,.mat 39 47 tR none (aY (show MQ from x.1).length (wdM (show MQ from x.1)) s.1.2.1) 0),(6,.box [⟨tQ,s.1.2.2⟩]),(2,.box [⟨tR,bP⟩])]) (fun s=>3-s.1.1) ⟨(0,ent (show MQ from x.1),1),by omega,fun h=>c5F h⟩ (fun s=>[
 .inv {k:Nat // s.1.1<=k/\k<=3/\∀ i,s.1.1<=i->i<k->s.1.2.1 i s.1.1=0} (fun k=>[(8,.val tI (k.1:Int))]) (fun k=>[(17,.mat 39 47 tR none (aY (show MQ from x.1).length (wdM (show MQ from x.1)) s.1.2.1) 0),(6,.box [⟨tQ,s.1.2.2⟩]),(2,.box [⟨tR,bP⟩])]) (fun k=>3-k.1) ⟨s.1.1,aj _,s.2.1,fun i h1 h2=>absurd h2 (by omega)⟩ (fun _=>[]),
 .inv {i:Nat // s.1.1<i/\i<=4} (fun i=>[(9,.val tI (i.1:Int))]++[(22,.any),(23,.any),(24,.any),(25,.any),(26,.any),(27,.any),(28,.any),(29,.any),(30,.any),(31,.any),(32,.any),(33,.any),(34,.any),(35,.any),(36,.any),(37,.any),(38,.any),(39,.any),(40,.any),(41,.any),(42,.any),(43,.any),(44,.any),(45,.any),(46,.any),(47,.any),(48,.any),(49,.any),(50,.any),(51,.any),(52,.any),(53,.any),(54,.any),(55,.any),(56,.any),(57,.any),(58,.any),(59,.any),(60,.any),(61,.any),(62,.any),(63,.any),(64,.any),(65,.any),(66,.any),(67,.any),(68,.any),(69,.any),(70,.any),(71,.any),(72,.any),(73,.any),(74,.any),(75,.any),(77,.any),(78,.any),(79,.any),(80,.any),(81,.any),(82,.any),(83,.any),(84,.any),(85,.any),(86,.any),(87,.any),(88,.any),(89,.any),(90,.any),(91,.any),(92,.any),(93,.any),(94,.any),(95,.any),(96,.any),(97,.any),(98,.any),(99,.any),(100,.any),(101,.any),(102,.any),(103,.any),(104,.any),(105,.any),(106,.any),(107,.any),(108,.any),(109,.any),(110,.any),(111,.any),(112,.any),(113,.any),(114,.any),(115,.any),(116,.any)]) (fun i=>[(17,.mat 39 47 tR none (aY (show MQ from x.1).length (wdM (show MQ from x.1)) (kX (fZ s.1.2.1 s.1.1 (fkD s.1.2.1 s.1.1)) s.1.1 i.1)) 0),(6,.box [⟨tQ,(dD s.1.2.1 s.1.1 s.1.2.2)⟩]),(2,.box [⟨tR,bP⟩])]) (fun i=>4-i.1) ⟨s.1.1+1,by omega,by have:=s.2.1;omega⟩ (fun _=>[])])]) (fun x hp=>?_)
 obtain⟨f,u⟩:=x;change MQ at f;refine aP (let A₀:=(fun(x:Ty.den (Ty.lf Lf.fO))=>aI.x x);let A₁:=(fun(x:Ty.den (Ty.lf Lf.fO))=>dH ((aI.ok x=true)::aC Cd));(okM f/\True)/\ifB (sqC f != 0) ((asT Bool false=true/\True)/\0=jV (ent f)/\True/\sqC f=0/\True) ((okM f/\True)/\(aV 1/\True)/\(asT Int 0=0/\aY f.length (wdM f) (ent f)=aY f.length (wdM f) (ent f)/\asT Rat (aH 1)=1/\asT aI bP=bP/\True)/\∀ (i:{ s:Nat × Mt × Rat // asT Nat s.1<=3/\(m33 150000 f->a8r (ent f) s) }),let bC:=(aA i).2.1;let A₂:=(fZ bC (aA i).1 (fkD bC (aA i).1));let aK:=(aY f.length (wdM f) bC);let bI:=(aB (aA i).1);let aO:=bI.toNat;let bH:=(aA i).2.2;let bU:=(rowAt aK (nameAt none aO));let cZ:=(aB (aA i).1+1);let dG:=(Prod.fst (aA i)+1);let fB:=(List.getD bU aO bP);let fD:=(kX A₂ (aA i).1 dG);asT Bool true=true/\ifB (decide (aB (aA i).1<aB (aW none (aY f.length (wdM f) (ent f))))) ((aB (aA i).1=aB (aA i).1/\aY f.length (wdM f) bC=aY f.length (wdM f) bC/\Prod.snd (aA i).2=Prod.snd (aA i).2/\asT aI bP=bP/\True)/\∀ (i_1:{ k:Nat // Prod.fst (aA i)<=k/\k<=3/\∀ (i_1:Nat),Prod.fst (aA i)<=i_1->i_1<k->Prod.fst (aA i).2 i_1 (aA i).1=0 }),let iU:=(aB (aA i_1)).toNat;let lM:=(some (List.set (bW none aK) iU (nameAt none aO)));let gB:=(List.set (bW lM aK) aO (nameAt none iU));let jZ:=(rowAt aK (nameAt (some gB) aO));let gQ:=(rowAt aK (nameAt none iU));let oH:=(aB (aA i_1)<aB (aW none aK));let fE:=(decide oH==true);let oI:=(List.getD gQ aO bP);let C₁:=(List.getD jZ aO bP);asT Bool true=true/\((fE=true->fE=true/\fE=true/\0<=aB (aA i_1)/\aB (aA i_1)<aB (aW none aK)/\True)/\(fE=true->fE=true/\Int.toNat (aB (aA i_1))<aW none aK/\True)/\(fE=true->fE=true/\fE=true/\0<=aB (aA i).1/\aB (aA i).1<aB gQ.length/\True)/\(fE=true->fE=true/\Int.toNat bI<List.length gQ/\True)/\(fE=true->fE=true/\aI.ok oI=true/\rsz (aI.x oI)<=1000000000/\True)/\(fE=true->fE=true/\True)/\(decide oH=true->fE=true)/\True)/\ifB (bif decide oH then sgn (Rat.num (aI.x oI))==0 else false) (∃ (i':{ k:Nat // Prod.fst (aA i)<=k/\k<=3/\∀ (i_2:Nat),Prod.fst (aA i)<=i_2->i_2<k->Prod.fst (aA i).2 i_2 (aA i).1=0 }),3-aA i'<3-aA i_1/\IntKind.wrap IntKind.i64 (aB (aA i_1)+1)=aB (aA i')/\aY f.length (wdM f) bC=aY f.length (wdM f) bC/\Prod.snd (aA i).2=Prod.snd (aA i).2/\asT aI bP=bP/\True) (ifB (aB (aA i_1)==aB (aW none aK)) ((aV 0/\True)/\True/\aH 0=jV (ent f)/\True/\asT Int 0=0/\True) (ifB (aB (aA i_1) != aB (aA i).1) ((0<=aB (aA i).1/\aB (aA i).1<aB (aW none aK)/\Int.toNat bI<aW none aK/\0<=aB (aA i_1)/\aB (aA i_1)<aB (aW none aK)/\Int.toNat (aB (aA i_1))<aW none aK/\0<=aB (aA i_1)/\aB (aA i_1)<aB (aW none aK)/\Int.toNat (aB (aA i_1))<aW none aK/\0<=aB (aA i).1/\aB (aA i).1<aB (aW lM aK)/\Int.toNat bI<aW lM aK/\True)/\(s4 bH/\True)/\(0<=aB (aA i).1/\aB (aA i).1<aB (aW (some gB) aK)/\Int.toNat bI<aW (some gB) aK/\0<=aB (aA i).1/\aB (aA i).1<aB jZ.length/\Int.toNat bI<List.length jZ/\aI.ok C₁=true/\s44 (-Prod.snd (aA i).2) (aI.x C₁)/\True)/\(IntKind.wrap IntKind.i64 cZ=aB dG/\List.Nodup gB/\List.map (fun(i_2:Nat)=>List.getD aK i_2 (aC aI)) gB=aY f.length (wdM f) fD/\-Prod.snd (aA i).2*aI.x C₁=dD bC (aA i).1 bH/\asT aI bP=bP/\True)/\∀ (i_2:{ i_2:Nat // Prod.fst (aA i)<i_2/\i_2<=4 }),let uU:=(kX A₂ (aA i).1 (aA i_2));let C₂:=(aY f.length (wdM f) uU);let kC:=(rowAt C₂ (nameAt none aO));let rW:=(List.getD kC aO bP);let zN:=(aB (aA i_2)).toNat;let iE:=(nameAt none zN);let C₃:=(rowAt C₂ iE);let nH:=(List.getD C₃ aO bP);asT Bool true=true/\ifB (decide (aB (aA i_2)<aB (aW none C₂))) ((0<=aB (aA i_2)/\aB (aA i_2)<aB (aW none C₂)/\Int.toNat (aB (aA i_2))<aW none C₂/\0<=aB (aA i).1/\aB (aA i).1<aB C₃.length/\Int.toNat bI<List.length C₃/\aI.ok nH=true/\rsz (aI.x nH)<=1000000000/\True)/\ifB (sgn (Rat.num (aI.x nH)) != 0) ((0<=aB (aA i_2)/\aB (aA i_2)<aB (aW none C₂)/\Int.toNat (aB (aA i_2))<aW none C₂/\0<=aB (aA i).1/\aB (aA i).1<aB (aW none C₂)/\Int.toNat bI<aW none C₂/\0<=aB (aA i_2)/\aB (aA i_2)<aB (aW none C₂)/\Int.toNat (aB (aA i_2))<aW none C₂/\0<=aB (aA i).1/\aB (aA i).1<aB C₃.length/\Int.toNat bI<List.length C₃/\0<=aB (aA i).1/\aB (aA i).1<aB (aW none C₂)/\Int.toNat bI<aW none C₂/\0<=aB (aA i).1/\aB (aA i).1<aB kC.length/\Int.toNat bI<List.length kC/\aI.ok nH=true/\aI.ok rW=true/\(rsz (aI.x nH)<=400000000/\rsz (aI.x rW)<=400000000/\aI.x rW≠0)/\nameAt none aO≠nameAt none zN/\fV A₁ kC/\((∀ (q:aI),q ∈ rowAt C₂ iE->q=dK (aI.x q))/\List.length C₃=List.length (List.map A₀ kC)/\List.length C₃<=1000/\0<=aB (aA i).1/\(∀ (q:aI),q ∈ rowAt C₂ iE->rsz (aI.x q)<=400000000)/\rsz (aI.x nH / aI.x rW)<=100000000/\∀ (q:Rat),q ∈ List.map A₀ kC->rsz q<=100000000)/\True)/\∃ (i':{ i_3:Nat // Prod.fst (aA i)<i_3/\i_3<=4 }),4-aA i'<4-aA i_2/\IntKind.wrap IntKind.i64 (aB (aA i_2)+1)=aB (aA i')/\List.set C₂ iE (pK C₃ (List.map A₀ kC) (aI.x nH / aI.x rW) aO C₃.length)=aY f.length (wdM f) (kX A₂ (aA i).1 (aA i'))/\dD bC (aA i).1 bH=dD bC (aA i).1 bH/\asT aI bP=bP/\True) (∃ (i':{ i_3:Nat // Prod.fst (aA i)<i_3/\i_3<=4 }),4-aA i'<4-aA i_2/\IntKind.wrap IntKind.i64 (aB (aA i_2)+1)=aB (aA i')/\aY f.length (wdM f) uU=aY f.length (wdM f) (kX A₂ (aA i).1 (aA i'))/\dD bC (aA i).1 bH=dD bC (aA i).1 bH/\asT aI bP=bP/\True)) (∃ (i':{ s:Nat × Mt × Rat // asT Nat s.1<=3/\(m33 150000 f->a8r (ent f) s) }),3-Prod.fst (aA i')<3-Prod.fst (aA i)/\IntKind.wrap IntKind.i64 cZ=aB (aA i').1/\aY f.length (wdM f) uU=aY f.length (wdM f) (aA i').2.1/\dD bC (aA i).1 bH=Prod.snd (aA i').2/\asT aI bP=bP/\True)) ((0<=aB (aA i).1/\aB (aA i).1<aB (aW none aK)/\Int.toNat bI<aW none aK/\0<=aB (aA i).1/\aB (aA i).1<aB bU.length/\Int.toNat bI<List.length bU/\aI.ok fB=true/\s44 bH (aI.x fB)/\True)/\(IntKind.wrap IntKind.i64 cZ=aB dG/\aY f.length (wdM f) bC=aY f.length (wdM f) fD/\Prod.snd (aA i).2*aI.x fB=dD bC (aA i).1 bH/\asT aI bP=bP/\True)/\∀ (i_2:{ i_2:Nat // Prod.fst (aA i)<i_2/\i_2<=4 }),let b9b:=(kX A₂ (aA i).1 (aA i_2));let rX:=(aY f.length (wdM f) b9b);let D₂:=(rowAt rX (nameAt none aO));let a9F:=(List.getD D₂ aO bP);let c4t:=(aB (aA i_2)).toNat;let b4v:=(nameAt none c4t);let D₁:=(rowAt rX b4v);let a3Z:=(List.getD D₁ aO bP);asT Bool true=true/\ifB (decide (aB (aA i_2)<aB (aW none rX))) ((0<=aB (aA i_2)/\aB (aA i_2)<aB (aW none rX)/\Int.toNat (aB (aA i_2))<aW none rX/\0<=aB (aA i).1/\aB (aA i).1<aB D₁.length/\Int.toNat bI<List.length D₁/\aI.ok a3Z=true/\rsz (aI.x a3Z)<=1000000000/\True)/\ifB (sgn (Rat.num (aI.x a3Z)) != 0) ((0<=aB (aA i_2)/\aB (aA i_2)<aB (aW none rX)/\Int.toNat (aB (aA i_2))<aW none rX/\0<=aB (aA i).1/\aB (aA i).1<aB (aW none rX)/\Int.toNat bI<aW none rX/\0<=aB (aA i_2)/\aB (aA i_2)<aB (aW none rX)/\Int.toNat (aB (aA i_2))<aW none rX/\0<=aB (aA i).1/\aB (aA i).1<aB D₁.length/\Int.toNat bI<List.length D₁/\0<=aB (aA i).1/\aB (aA i).1<aB (aW none rX)/\Int.toNat bI<aW none rX/\0<=aB (aA i).1/\aB (aA i).1<aB D₂.length/\Int.toNat bI<List.length D₂/\aI.ok a3Z=true/\aI.ok a9F=true/\(rsz (aI.x a3Z)<=400000000/\rsz (aI.x a9F)<=400000000/\aI.x a9F≠0)/\nameAt none aO≠nameAt none c4t/\fV A₁ D₂/\((∀ (q:aI),q ∈ rowAt rX b4v->q=dK (aI.x q))/\List.length D₁=List.length (List.map A₀ D₂)/\List.length D₁<=1000/\0<=aB (aA i).1/\(∀ (q:aI),q ∈ rowAt rX b4v->rsz (aI.x q)<=400000000)/\rsz (aI.x a3Z / aI.x a9F)<=100000000/\∀ (q:Rat),q ∈ List.map A₀ D₂->rsz q<=100000000)/\True)/\∃ (i':{ i_3:Nat // Prod.fst (aA i)<i_3/\i_3<=4 }),4-aA i'<4-aA i_2/\IntKind.wrap IntKind.i64 (aB (aA i_2)+1)=aB (aA i')/\List.set rX b4v (pK D₁ (List.map A₀ D₂) (aI.x a3Z / aI.x a9F) aO D₁.length)=aY f.length (wdM f) (kX A₂ (aA i).1 (aA i'))/\dD bC (aA i).1 bH=dD bC (aA i).1 bH/\asT aI bP=bP/\True) (∃ (i':{ i_3:Nat // Prod.fst (aA i)<i_3/\i_3<=4 }),4-aA i'<4-aA i_2/\IntKind.wrap IntKind.i64 (aB (aA i_2)+1)=aB (aA i')/\aY f.length (wdM f) b9b=aY f.length (wdM f) (kX A₂ (aA i).1 (aA i'))/\dD bC (aA i).1 bH=dD bC (aA i).1 bH/\asT aI bP=bP/\True)) (∃ (i':{ s:Nat × Mt × Rat // asT Nat s.1<=3/\(m33 150000 f->a8r (ent f) s) }),3-Prod.fst (aA i')<3-Prod.fst (aA i)/\IntKind.wrap IntKind.i64 cZ=aB (aA i').1/\aY f.length (wdM f) b9b=aY f.length (wdM f) (aA i').2.1/\dD bC (aA i).1 bH=Prod.snd (aA i').2/\asT aI bP=bP/\True))))) (True/\Prod.snd (aA i).2=jV (ent f)/\True/\asT Int 0=0/\True))) (by kernel_rfl) ?_;have hZ:(⟨false,0,[],[]⟩:aI)=bP:=rfl;dsimp only[aB,asT,aA,aC,Ty.den,Lf.den] at *
 simp only[hZ,Int.toNat_natCast,gZ,jc,jv,Dt,Cb,aW,nameAt,bW,gW,jG,rowAt,qp,jr];have hf:m33 150000 f:=hp;obtain⟨o1,o2,hw,hl⟩:=hf.ok (by omega);have sq:sqC f=0:=dn (by omega);rw[sq,hw,hl];have RW:∀ (m:Mt) (i:Nat),i<3->(aY 3 3 m).getD i []=(List.range 3).map fun c=>dK (m i c):=fun m i hi=>jT hi;have EN:∀ (m:Mt) (i c:Nat),i<3->c<3->((aY 3 3 m).getD i []).getD c bP=dK (m i c):=fun m i c hi hc=>by rw[RW m i hi,iL hc]
 have LN:∀ (m:Mt) (i:Nat),i<3->((aY 3 3 m).getD i []).length=3:=fun m i hi=>by rw[RW m i hi];simp
 have MEM:∀ (m:Mt) (i:Nat) (q:aI),i<3->q ∈ (aY 3 3 m).getD i []->∃ c,c<3/\q=dK (m i c):=fun m i q hi hq=>by rw[RW m i hi] at hq;obtain⟨c,hc,rfl⟩:=jq.1 hq;exact⟨c,oq.1 hc,rfl⟩
 refine⟨o1,(fun h=>by cases h),fun _=>⟨o1,⟨by omega,by omega⟩,rfl,fun s=>⟨fun h1 k=>?_,fun h1=>?_⟩⟩⟩
 ·obtain⟨⟨j,e,d⟩,hj4,hI⟩:=s;obtain⟨k,hjk,hk4,hz⟩:=k;dsimp only at *
  obtain⟨i1,i2,i3⟩:=hI hf;change jV (ent f)=d*mnr j e at i1;change ∀ i,i<3->∀ c,c<3->rsz (e i c)<=bdD j at i2;change rsz d<=bdD (j+1) at i3;change j<=3 at hj4;change j<=k at hjk;change ∀ i,j<=i->i<k->e i j=0 at hz;have hj:j<3:=by omega
  obtain⟨b1,b2,b3⟩:=b9f hj4;have b4:=b9g hj;rw[b3] at i3;have hk:(decide ((k:Int)<((3:Nat):Int))==true)=true->k<3:=fun h=>by have:=qj (eq_of_beq h);omega
  have hk':k<3->decide ((k:Int)<((3:Nat):Int))=true:=fun h=>jg (by omega);refine⟨⟨fun h=>⟨h,h,by omega,by have:=hk h;omega⟩,fun h=>⟨h,hk h⟩,fun h=>⟨h,h,by omega,by rw[LN _ _ (hk h)];omega⟩,fun h=>⟨h,by rw[LN _ _ (hk h)];omega⟩,fun h=>⟨h,by rw[EN _ _ _ (hk h) hj];rfl,by rw[EN _ _ _ (hk h) hj];exact au (i2 k (hk h) j hj) (by omega)⟩,fun h=>h,fun h=>by rw[jg h];rfl⟩,fun h=>?_,fun h=>?_⟩
  ·have h3:k<3:=by
    by_cases h3:k<3
    ·exact h3
    ·rw[iy (by omega)] at h;cases h
   rw[hk' h3,cond_true,EN _ _ _ h3 hj] at h;have h5:e k j=0:=Bj.mp (wu.1 (eq_of_beq h));refine⟨⟨k+1,by omega,by omega,fun i g1 g2=>?_⟩,by simp only;omega,by rw[aG (by omega) (by omega)];rfl⟩;rcases Eb.1 g2 with g2|rfl
   ·exact hz i g1 g2
   ·exact h5
  ·refine⟨fun h3=>⟨⟨by omega,by omega⟩,?_⟩,fun h3=>?_⟩
   ·have h3:k=3:=by have:=eq_of_beq h3;omega
    rw[i1,b2y hj fun i g1 g2=>hz i g1 (by omega),Bv];rfl
   ·have h3:k<3:=by have:=Af.mp h3;omega
    rw[hk' h3,cond_true,EN _ _ _ h3 hj] at h;have h5:e k j≠0:=fun g=>by rw[show (dK (e k j)).x=e k j from rfl,g] at h;cases h
    have hF:fkD e j=k:=b9D hjk h3 hz h5;have hS:fZ e j k j j≠0:=by rw[a7K];exact h5
    have sS:=c4i hj h3 i2;have sE:∀ i r c,r<3->c<3->rsz (kX (fZ e j k) j i r c)<=5*bdD j:=fun i r c hr hc=>b5m (au (by omega) b1) hj hS sS r hr c hc;have dE:dD e j d=(if k=j then d else -d)*fZ e j k j j:=by unfold dD;rw[hF]
    have dz:rsz (dD e j d)<=bdD (j+1+1):=by
     have e2:bdD (j+1+1)=5*bdD (j+1):=by unfold bdD;rw[Nat.pow_succ 5 (j+1)];omega
     rw[e2,b3,dE];have m1:=fC (if k=j then d else -d) (fZ e j k j j);have m2:rsz (if k=j then d else -d)<=5*bdD j:=by
      split
      ·exact i3
      ·rw[rU];exact i3
     have m3:=sS j hj j hj;omega
    have fin:a8r (ent f) (j+1,kX (fZ e j k) j 3,dD e j d):=⟨by
     show jV (ent f)=dD e j d*mnr (j+1) _;rw[i1,dE];exact b2x hj hjk h3 h5 d,fun r hr c hc=>by
     show _<=bdD (j+1);rw[b3];exact sE 3 r c hr hc,dz⟩
    rw[hF];refine⟨fun hne=>?yA,fun heq=>?yB⟩
    case' yA =>
     have hne:k≠j:=fun g=>by rw[g] at hne;simp at hne
     have gj:(((List.range 3).set k j).set j k).getD j 0=k:=by rw[bg,List.getElem?_set_self (by simp;omega)];rfl
     rw[gj,LN _ _ h3,EN _ _ _ h3 hj];refine⟨by and_intros<;>omega,by omega,⟨by omega,by omega,by omega,by omega,by omega,by omega,rfl,by rw[rU];omega,au (i2 k h3 j hj) (by omega)⟩,⟨by rw[aG (by omega) (by omega)];rfl,b4a 3 h3 hj,?_,?_⟩,?inner⟩
     ·rw[a7J h3 hj,b3Z];exact iI fun r _ c _=>a2p.symm
     ·rw[dE,bn hne,a7K];rfl
    case' yB =>
     have heq:k=j:=by
      have h9:(k:Int)=(j:Int):=by simpa using heq
      omega
     rw[LN _ _ hj,EN _ _ _ hj hj];have e1:∀ r c,fZ e j k r c=e r c:=fun r c=>by
      unfold fZ;rw[heq];split
      ·rename_i g;rw[g]
      ·rfl
     refine⟨⟨by omega,by omega,by omega,by omega,by omega,by omega,rfl,by omega,au (i2 j hj j hj) (by omega)⟩,⟨by rw[aG (by omega) (by omega)];rfl,iI fun r _ c _=>by rw[a2p,e1],?_⟩,?inner⟩
     ·rw[dE,dn heq,e1];rfl
    all_goals
     intro i2;obtain⟨i2,hji,hi4⟩:=i2;dsimp only;refine⟨fun g1=>?_,fun g1=>⟨⟨(j+1,kX (fZ e j k) j 3,dD e j d),by show j+1<=3;omega,fun _=>fin⟩,by simp only;omega,by rw[aG (by omega) (by omega)];rfl,iI fun r hr c _=>b0N hr (by omega),rfl⟩⟩;have h3i:i2<3:=by omega
     rw[LN _ _ h3i,LN _ _ hj,EN _ _ _ h3i hj,EN _ _ _ hj hj];have a1:=sE i2 i2 j h3i hj;have a2:=sE i2 j j hj hj;have ap:kX (fZ e j k) j i2 j j≠0:=by rw[TD];exact hS
     have aq:=EW (kX (fZ e j k) j i2 i2 j) (kX (fZ e j k) j i2 j j) ap;refine⟨⟨by omega,by omega,by omega,by omega,by omega,by omega,rfl,au a1 (by omega)⟩,fun g2=>⟨⟨by omega,by omega,by omega,by omega,by omega,by omega,by omega,by omega,by omega,by omega,by omega,by omega,by omega,by omega,by omega,by omega,by omega,by omega,rfl,rfl,⟨au a1 (by omega),au a2 (by omega),ap⟩,by omega,iW.mpr fun q hq=>?_,fun q hq=>?_,by rw[ny];exact(LN _ _ hj).symm,by omega,by omega,fun q hq=>?_,au aq (by omega),fun q hq=>?_⟩,⟨i2+1,by omega,by omega⟩,by simp only;omega,by rw[aG (by omega) (by omega)];rfl,?_⟩,fun g2=>⟨⟨i2+1,by omega,by omega⟩,by simp only;omega,by rw[aG (by omega) (by omega)];rfl,?_⟩⟩
     ·obtain⟨c,hc,rfl⟩:=MEM _ _ _ hj hq;exact⟨rfl,trivial⟩
     ·obtain⟨c,hc,rfl⟩:=MEM _ _ _ h3i hq;rfl
     ·obtain⟨c,hc,rfl⟩:=MEM _ _ _ h3i hq;exact au (sE i2 i2 c h3i hc) (by omega)
     ·obtain⟨q',hq',rfl⟩:=jq.1 hq;obtain⟨c,hc,rfl⟩:=MEM _ _ _ hj hq';exact au (sE i2 j c hj hc) (by omega)
     ·rw[RW _ _ h3i,RW _ _ hj,a3d,a3K,VP];refine iI fun r _ c _=>?_;rw[XL hji];by_cases er:r=i2
      ·subst er;rw[dn rfl,dn rfl];rfl
      ·rw[bn er,bn er]
     ·refine iI fun r _ c _=>(a8s hji ?_).symm;rw[bne_eq_false_iff_eq] at g2;exact Bj.mp (wu.1 g2)
 ·obtain⟨⟨j,e,d⟩,hj4,hI⟩:=s;dsimp only at *
  obtain⟨i1,i2,i3⟩:=hI hf;have hj:j=3:=by omega
  subst hj;exact(i1.trans (Rat.mul_one d)).symm
theorem a6q {xs ys:Nat->Int} {n:Nat} (h:∀ j,j<n->ys j=- xs j):∀ k,k<=n->gsq ys k=gsq xs k
 | 0,_=>rfl
 | k+1,hk=>by show ((Int.gcd (gsq ys k) (ys k):Nat):Int)=((Int.gcd (gsq xs k) (xs k):Nat):Int);rw[a6q h k (by omega),h k (by omega),Int.gcd_neg]
theorem a6o {xs ys:Nat->Int} {n:Nat} (h:∀ j,j<n->ys j=- xs j):∀ k,k<=n->fsq ys k=- fsq xs k
 | 0,_=>rfl
 | k+1,hk=>by
  show (if fsq ys k=0 then ys k else fsq ys k)=- (if fsq xs k=0 then xs k else fsq xs k);rw[a6o h k (by omega),h k (by omega)];by_cases e:fsq xs k=0
  ·rw[dn e,dn (by omega)]
  ·rw[bn e,bn (by omega)]
theorem a2F {xs:Nat->Int}:∀ k,fsq xs k=0->∀ j,j<k->xs j=0
 | 0,_,j,hj=>by omega
 | k+1,h,j,hj=>by
  have h:(if fsq xs k=0 then xs k else fsq xs k)=0:=h;by_cases e:fsq xs k=0
  ·rw[dn e] at h;by_cases e2:j=k
   ·rw[e2];exact h
   ·exact a2F k e j (by omega)
  ·rw[bn e] at h;exact absurd h e
theorem b6L {xs ys:Nat->Int} {n j:Nat} (h:∀ j,j<n->ys j=- xs j) (hj:j<n):prN ys n j=prN xs n j:=by
 have g:=a6q h n (aj n);have f:=a6o h n (aj n);by_cases e:fsq xs n=0
 ·have e1:=a2F n e j hj;unfold prN;rw[h j hj,e1];show (0:Int).fdiv _=(0:Int).fdiv _;rw[Int.zero_fdiv,Int.zero_fdiv]
 ·have e2:prG ys n=- prG xs n:=by
   unfold prG;rw[g,f];by_cases e3:fsq xs n<0
   ·rw[dn e3,bn (by omega),Int.neg_neg]
   ·rw[bn e3,dn (by omega)]
  unfold prN;rw[e2,h j hj,Int.neg_fdiv_neg]
theorem a2I {xs ys:Nat->Int} {n:Nat} (h:∀ j,j<n->ys j=xs j):∀ k,k<=n->gsq ys k=gsq xs k
 | 0,_=>rfl
 | k+1,hk=>by show ((Int.gcd (gsq ys k) (ys k):Nat):Int)=((Int.gcd (gsq xs k) (xs k):Nat):Int);rw[a2I h k (by omega),h k (by omega)]
theorem a2E {xs ys:Nat->Int} {n:Nat} (h:∀ j,j<n->ys j=xs j):∀ k,k<=n->fsq ys k=fsq xs k
 | 0,_=>rfl
 | k+1,hk=>by show (if fsq ys k=0 then ys k else fsq ys k)=(if fsq xs k=0 then xs k else fsq xs k);rw[a2E h k (by omega),h k (by omega)]
theorem a3u {xs ys:Nat->Int} {n j:Nat} (h:∀ j,j<n->ys j=xs j) (hj:j<n):prN ys n j=prN xs n j:=by unfold prN prG;rw[a2I h n (aj n),a2E h n (aj n),h j hj]
theorem ZN {u v:Int} (hu:u≠0) (hv:v≠0) {xs ys:Nat->Int} {n j:Nat} (h:∀ j,j<n->v*ys j=u*xs j) (hj:j<n):prN ys n j=prN xs n j:=by
 have one:∀ {w:Int} (hw:w≠0) (zs:Nat->Int),prN (fun j=>w*zs j) n j=prN zs n j:=fun {w} hw zs=>by
  by_cases e:0<w
  ·exact ZO (t:=w.toNat) (by omega) (fun k _=>by rw[Int.toNat_of_nonneg (by omega)]) hj
  ·rw[<-b6L (xs:=zs) (ys:=fun j=>- zs j) (fun _ _=>rfl) hj];exact ZO (t:=(-w).toNat) (by omega) (fun k _=>by rw[Int.toNat_of_nonneg (by omega),Int.neg_mul_neg]) hj
 rw[<-one hv ys,<-one hu xs];exact a3u h hj
theorem b8F (q:Rat):q*(((q.den:Nat):Int):Rat)=((q.num:Int):Rat):=by
 have h:(((q.den:Nat):Int):Rat)≠0:=fun e=>by have e:(((q.den:Nat):Int):Rat)=((0:Int):Rat):=e;have:=Dq.1 e;have:=q.den_nz;omega
 have e:q=((q.num:Int):Rat) / (((q.den:Nat):Int):Rat):=by rw[<-zu];exact(Bz q).symm
 have m:=jw _ h;rw[Rat.div_def] at e;have e2:q*(((q.den:Nat):Int):Rat)=((q.num:Int):Rat)*(((q.den:Nat):Int):Rat)⁻¹*(((q.den:Nat):Int):Rat):=qw (fun r=>r*(((q.den:Nat):Int):Rat)) e;rw[e2,Rat.mul_assoc,Rat.mul_comm (((q.den:Nat):Int):Rat)⁻¹,m,Rat.mul_one]
theorem b7Z {D:Int} {q:Nat->Rat} {j:Nat} (h:((q j).den:Int) ∣ D):((a0M D q j:Int):Rat)=(D:Rat)*q j:=by
 unfold a0M;obtain⟨t,rfl⟩:=h;have hd:((q j).den:Int)≠0:=by have:=(q j).den_nz;omega
 have e:=b8F (q j);rw[Int.mul_fdiv_cancel_left _ hd,uw,uw,<-e];grind
theorem a8Z {q r:Nat->Rat} {n:Nat} {c:Rat} (hc:c≠0) (h:∀ j,j<n->r j=c*q j):a3w r n=a3w q n:=by
 unfold a3w;have hn:c.num≠0:=fun e=>hc (Bj.1 e);have hd:((c.den:Nat):Int)≠0:=by have:=c.den_nz;omega
 refine og fun j hj=>ZN (u:=jX r n*c.num) (v:=jX q n*((c.den:Nat):Int)) (Dp (uD _ _) hn) (Dp (uD _ _) hd) (fun k hk=>?_) (oq.1 hj);apply Dq.1;rw[uw,uw,uw,uw,b7Z (kY hk),b7Z (kY hk),h k hk,<-b8F c];generalize (((c.den:Nat):Int):Rat)=d;generalize ((jX r n:Int):Rat)=a;generalize ((jX q n:Int):Rat)=b;grind
def crE (t:Nat->Rat):Mt
 | 0=>fun|0=>0|1=>- t 2|_=>t 1
 | 1=>fun|0=>t 2|1=>0|_=>- t 0
 | _=>fun|0=>- t 1|1=>t 0|_=>0
def epi (iB N T M iA:Mt):Mt:=mm 3 (mm 3 (mm 3 (mm 3 (tr iB) (tr N)) T) M) iA
def a8a (M:Mt):Prop:=∀ i,i<3->∀ j,j<3->mm 3 M (tr M) i j=idm i j
theorem a6Y {M:Mt} (h:a8a M) (u:Nat->Rat) {i:Nat} (hi:i<3):mv 3 M (mv 3 (tr M) u) i=u i:=by rw[<-ZC,NJ (b:=idm) (fun c hc=>h i hi c hc),b2A hi]
theorem b9t (iB N T M iA:Mt) (x:Nat->Rat):mv 3 (epi iB N T M iA) x=mv 3 (tr iB) (mv 3 (tr N) (mv 3 T (mv 3 M (mv 3 iA x)))):=by funext i;unfold epi;rw[ZC,ZC,ZC,ZC]
theorem a6c {A B iA iB N M T:Mt} (hA:OG 3 A iA) (hB:OG 3 B iB) (hN:a8a N) (hM:a8a M) (u v:Nat->Rat) :
  dt 3 (mv 3 B (mv 3 (tr N) v)) (mv 3 (epi iB N T M iA) (mv 3 A (mv 3 (tr M) u)))=dt 3 v (mv 3 T u):=by
 rw[b9t,b8a,b8R,TA (fun i hi=>hB.mvl _ hi),b8a,b8R,TA (fun i hi=>a6Y hN v hi)];refine a2n fun i _=>UQ fun c hc=>?_;rw[UQ (fun k hk=>hA.mvl _ hk),a6Y hM u hc]
theorem tri (t u v:Nat->Rat):dt 3 v (mv 3 (crE t) u)=v 0*(t 1*u 2-t 2*u 1)+v 1*(t 2*u 0-t 0*u 2)+v 2*(t 0*u 1-t 1*u 0):=by unfold dt mv;rw[sm3,sm3,sm3,sm3];simp only[crE];grind
theorem b9u {A B iA iB N M:Mt} {t:Nat->Rat} (hA:OG 3 A iA) (hB:OG 3 B iB) (hN:a8a N) (hM:a8a M) (h0:∀ i,i<3->∀ j,j<3->epi iB N (crE t) M iA i j=0):t 0=0/\t 1=0/\t 2=0:=by
 have h:∀ u v:Nat->Rat,dt 3 v (mv 3 (crE t) u)=0:=fun u v=>by
  rw[<-a6c hA hB hN hM u v];unfold dt;refine rV 3 fun i hi=>?_;have:mv 3 (epi iB N (crE t) M iA) (mv 3 A (mv 3 (tr M) u)) i=0:=by unfold mv;exact rV 3 fun j hj=>by rw[h0 i hi j hj,Bd]
  rw[this,Bv]
 have h1:=h (fun i=>if i=2 then 1 else 0) (fun i=>if i=1 then 1 else 0);have h2:=h (fun i=>if i=0 then 1 else 0) (fun i=>if i=2 then 1 else 0);have h3:=h (fun i=>if i=1 then 1 else 0) (fun i=>if i=0 then 1 else 0);rw[tri] at h1 h2 h3;simp at h1 h2 h3;exact⟨by grind,by grind,by grind⟩
def kE (f x y:Rat):Mt
 | 0=>fun|0=>f|1=>0|_=>x
 | 1=>fun|0=>0|1=>f|_=>y
 | _=>fun|0=>0|1=>0|_=>1
theorem c6r (f x y:Rat) (d:Nat->Rat):mv 3 (kE f x y) d 0=f*d 0+x*d 2/\mv 3 (kE f x y) d 1=f*d 1+y*d 2/\mv 3 (kE f x y) d 2=d 2:=by unfold mv;rw[sm3,sm3,sm3];simp only[kE];exact⟨by grind,by grind,by grind⟩
theorem b1W {f x y:Rat} (hf:f≠0) {d:Nat->Rat} (h:∀ i,i<3->mv 3 (kE f x y) d i=0):∀ c,c<3->d c=0:=fun c hc=>by
 obtain⟨a,b,e⟩:=c6r f x y d;rw[h 0 (by omega)] at a;rw[h 1 (by omega)] at b;rw[h 2 (by omega)] at e;have m0:f*d 0=0:=by grind
 have m1:f*d 1=0:=by grind
 rcases three hc with rfl|rfl|rfl
 ·exact(yj.1 m0).resolve_left hf
 ·exact(yj.1 m1).resolve_left hf
 ·exact e.symm
def qOk (q:aT):Prop:=¬ (q.1=0/\q.2.1=0/\q.2.2.1=0/\q.2.2.2.1=0)/\cdI q.1/\cdI q.2.1/\cdI q.2.2.1/\cdI q.2.2.2.1
def c9g (p:a9K):Prop:=cdI p.1/\cdI p.2.1/\cdI p.2.2.1
def iG (s:dQ):Prop:=c9g s.1/\qOk s.2.1/\(1<=s.2.2.1/\s.2.2.1<=1048576)/\cdP s.2.2.2.1
def qE (q:aT):Mt:=qR q.1 q.2.1 q.2.2.1 q.2.2.2.1
def w3 (n:Int):Nat:=if n=n then 3 else 3
theorem b8U (n:Int):w3 n=3:=by unfold w3;split<;>rfl
def qMx (q:aT):MQ:=tab (w3 q.1) 3 (qE q)
theorem CO (q:aT):qMx q=tab 3 3 (qE q):=by unfold qMx;rw[b8U]
def stK (s:dQ):Mt:=kE (aH s.2.2.1) (aH s.2.2.2.1.1) (aH s.2.2.2.1.2.1)
def fJ (s:dQ):MQ:=tab (w3 s.2.2.1) 3 (stK s)
theorem EO (s:dQ):fJ s=tab 3 3 (stK s):=by unfold fJ;rw[b8U]
def FM (a b:dQ):MQ:=mulM (mulM (mulM (mulM (trM (wZ (fJ b))) (trM (qMx b.2.1))) (kW (eH a b))) (qMx a.2.1)) (wZ (fJ a))
theorem eqQ (x:aT):eqD jD x (0,0,0,0,())=decide (x.1=0/\x.2.1=0/\x.2.2.1=0/\x.2.2.2.1=0):=by show (x.1==0&&(x.2.1==0&&(x.2.2.1==0&&(x.2.2.2.1==0&&true))))=_;rw[Bool.eq_iff_iff];simp
theorem b9x (x y:a9K):eqD b8Q x y=decide (x.1=y.1/\x.2.1=y.2.1/\x.2.2.1=y.2.2.1):=by show (x.1==y.1&&(x.2.1==y.2.1&&(x.2.2.1==y.2.2.1&&true)))=_;rw[Bool.eq_iff_iff];simp
set_option maxHeartbeats 400000
theorem i33 {f:Mt}:isM (tab 3 3 f) 3 3:=uF (by omega) (by omega) (by omega) (by omega)
theorem q33 (q:aT):isM (qMx q) 3 3:=by rw[CO];exact i33
theorem jB (s:dQ):isM (fJ s) 3 3:=by rw[EO];exact i33
theorem EC (v:LQ'):kW v=tab 3 3 (crE (lv v)):=rfl
theorem nG (v:LQ'):isM (kW v) 3 3:=by rw[EC];exact i33
theorem oU {a:MQ} (h:isM a 3 3):isM (wZ a) 3 3:=h.inv
theorem a4a (a b:dQ):isM (FM a b) 3 3:=((((oU (jB b)).trp.mul (q33 b.2.1).trp).mul (nG _)).mul (q33 a.2.1)).mul (oU (jB a))
theorem nR {x y:MQ} {f g:Mt} (hx:isM x 3 3) (hy:isM y 3 3) (h1:∀ i,i<3->∀ j,j<3->ent x i j=f i j) (h2:∀ i,i<3->∀ j,j<3->ent y i j=g i j):∀ i,i<3->∀ j,j<3->ent (mulM x y) i j=mm 3 f g i j:=fun i hi j hj=>by unfold mulM;rw[hx.len,hy.wd,hy.len,eF hi hj];exact gV 3 fun k hk=>by rw[h1 i hi k hk,h2 k hk j hj]
theorem JK {x:MQ} {f:Mt} (hx:isM x 3 3) (h1:∀ i,i<3->∀ j,j<3->ent x i j=f i j):∀ i,i<3->∀ j,j<3->ent (trM x) i j=tr f i j:=fun i hi j hj=>by unfold trM;rw[hx.len,hx.wd,eF hi hj];exact h1 j hj i hi
def iK (s:dQ):Mt:=ent (wZ (fJ s))
theorem b3R {s:dQ} (h:iG s):aH s.2.2.1≠0:=fun e=>by have e:((s.2.2.1:Int):Rat)=((0:Int):Rat):=e;have:=Dq.1 e;have:=h.2.2.1.1;omega
theorem a1b {s:dQ} (h:iG s):OG 3 (stK s) (iK s):=by
 have hm:isM (fJ s) 3 3:=jB s;have he:∀ i,i<3->∀ j,j<3->ent (fJ s) i j=stK s i j:=fun i hi j hj=>by rw[EO];exact eF hi hj
 have hr:(red 3 (kF 3 (ent (fJ s)) idm) 3).2.length=3:=(a1c idm).mpr fun x hx=>b1W (b3R h) fun i hi=>by rw[<-hx i hi];exact NJ fun c hc=>(he i hi c hc).symm
 have H:=inv_of hr;have hi2:∀ i,i<3->∀ j,j<3->iK s i j=(red 3 (kF 3 (ent (fJ s)) idm) 3).1 i (3+j):=fun i hi j hj=>by unfold iK wZ QC;rw[hm.len,eF hi hj]
 refine⟨fun i hi j hj=>?_,fun i hi j hj=>?_⟩
 ·rw[<-H.r i hi j hj];exact gV 3 fun k hk=>by rw[he i hi k hk,hi2 k hk j hj]
 ·rw[<-H.l i hi j hj];exact gV 3 fun k hk=>by rw[he k hk j hj,hi2 i hi k hk]
theorem c0I {s:dQ} (h:iG s):WX (fJ s)=true:=by
 have hm:isM (fJ s) 3 3:=jB s;unfold WX QC;rw[hm.len];exact jg ((a1c idm).mpr fun x hx=>b1W (b3R h) fun i hi=>by
  rw[<-hx i hi];exact NJ fun c hc=>by rw[EO];exact(eF hi hc).symm)
theorem QW {q:aT} (h:qOk q):a8a (qE q):=fun i hi j hj=>a7n (by have:=lW h.1;unfold qE at *;omega) hi hj
theorem a9G (a b:dQ):∀ i,i<3->∀ j,j<3->ent (FM a b) i j=epi (iK b) (qE b.2.1) (crE (lv (eH a b))) (qE a.2.1) (iK a) i j:=by
 have hq:∀ q:aT,∀ i,i<3->∀ j,j<3->ent (qMx q) i j=qE q i j:=fun q i hi j hj=>by rw[CO];exact eF hi hj
 have h1:=JK (oU (jB b)) (f:=iK b) fun i hi j hj=>rfl;have h2:=JK (q33 b.2.1) (hq b.2.1);have h3:=nR (oU (jB b)).trp (q33 b.2.1).trp h1 h2;have h4:=nR ((oU (jB b)).trp.mul (q33 b.2.1).trp) (nG (eH a b)) h3 (g:=crE (lv (eH a b))) fun i hi j hj=>by rw[EC];exact eF hi hj
 have h5:=nR (((oU (jB b)).trp.mul (q33 b.2.1).trp).mul (nG (eH a b))) (q33 a.2.1) h4 (hq a.2.1);exact nR ((((oU (jB b)).trp.mul (q33 b.2.1).trp).mul (nG (eH a b))).mul (q33 a.2.1)) (oU (jB a)) h5 (g:=iK a) fun i hi j hj=>rfl
theorem b0f {f:Mt} {K:Nat} (hK:1<=K) (h:∀ i,i<3->∀ j,j<3->∃ z:Int,f i j=aH z/\isz z<=K):CdM (tab 3 3 f) K:=IK (by omega) ⟨1,by omega,au (by decide +kernel) hK,fun i hi j hj=>by
 obtain⟨z,h1,h2⟩:=h i hi j hj;refine⟨z,?_,h2⟩;rw[h1];show _*(1:Rat)=_;rw[Rat.mul_one]⟩
theorem a8G {z:Int} (h:z.natAbs<=4194304):isz z<=1:=BI (by unfold BB;omega)
theorem cdI.s1 {n:Int} (h:cdI n):isz n<=1:=a8G (by obtain⟨a,b⟩:=h;omega)
theorem JA {s:dQ} (h:iG s):CdM (fJ s) 1:=by
 rw[EO];refine b0f (aj _) fun i hi j hj=>?_;have z:isz 0<=1:=by decide +kernel
 have o:isz 1<=1:=by decide +kernel
 have f1:isz s.2.2.1<=1:=a8G (by have:=h.2.2.1;omega);rcases three hi with rfl|rfl|rfl<;>rcases three hj with rfl|rfl|rfl
 ·exact⟨_,rfl,f1⟩
 ·exact⟨0,rfl,z⟩
 ·exact⟨_,rfl,h.2.2.2.1.s1⟩
 ·exact⟨0,rfl,z⟩
 ·exact⟨_,rfl,f1⟩
 ·exact⟨_,rfl,h.2.2.2.2.s1⟩
 ·exact⟨0,rfl,z⟩
 ·exact⟨0,rfl,z⟩
 ·exact⟨1,rfl,o⟩
theorem cdI.d {a b:Int} (h:cdI a) (g:cdI b):isz (a-b)<=1/\isz (-(a-b))<=1:=⟨a8G (by obtain⟨x,y⟩:=h;obtain⟨z,w⟩:=g;omega),a8G (by obtain⟨x,y⟩:=h;obtain⟨z,w⟩:=g;omega)⟩
theorem a0L {a b:dQ} (h:iG a) (g:iG b):CdM (kW (eH a b)) 1:=by
 rw[EC];refine b0f (aj _) fun i hi j hj=>?_;have z:isz 0<=1:=by decide +kernel
 obtain⟨x1,x2⟩:=g.1.1.d h.1.1;obtain⟨y1,y2⟩:=g.1.2.1.d h.1.2.1;obtain⟨w1,w2⟩:=g.1.2.2.d h.1.2.2;rcases three hi with rfl|rfl|rfl<;>rcases three hj with rfl|rfl|rfl
 ·exact⟨0,rfl,z⟩
 ·exact⟨_,(Rat.intCast_neg _).symm,w2⟩
 ·exact⟨_,rfl,y1⟩
 ·exact⟨_,rfl,w1⟩
 ·exact⟨0,rfl,z⟩
 ·exact⟨_,(Rat.intCast_neg _).symm,x2⟩
 ·exact⟨_,(Rat.intCast_neg _).symm,y2⟩
 ·exact⟨_,rfl,x1⟩
 ·exact⟨0,rfl,z⟩
theorem cdI.pJ {a b:Int} (h:cdI a) (g:cdI b):-1099511627776<=a*b/\a*b<=1099511627776:=by have:=h.mul g;omega
theorem ZQ {q:aT} (h:qOk q) {i j:Nat} (hi:i<3) (hj:j<3):(qM q.1 q.2.1 q.2.2.1 q.2.2.2.1 i j).natAbs<=8796093022208/\(qN q.1 q.2.1 q.2.2.1 q.2.2.2.1).natAbs<=8796093022208:=by
 obtain⟨qa,qb,qc,qd,u⟩:=q;obtain⟨h0,a,b,c,d⟩:=h;clear h0;dsimp only at *
 have aa:=a.pJ a;have ab:=a.pJ b;have ac:=a.pJ c;have ad:=a.pJ d;have bb:=b.pJ b;have bc:=b.pJ c;have bd:=b.pJ d;have cc:=c.pJ c;have cd:=c.pJ d;have dd:=d.pJ d;clear a b c d;refine⟨?_,?_⟩
 ·rcases three hi with rfl|rfl|rfl<;>rcases three hj with rfl|rfl|rfl<;>simp only[qM]<;>omega
 ·unfold qN;omega
theorem b3b (a b c d:Int) (h:0<qN a b c d) (i j:Nat):qR a b c d i j*((qN a b c d).toNat:Nat)=aH (qM a b c d i j):=by
 have hn:aH (qN a b c d)≠0:=fun e=>by have e:((qN a b c d:Int):Rat)=((0:Int):Rat):=e;have:=Dq.1 e;omega
 have e:(((qN a b c d).toNat:Nat):Rat)=aH (qN a b c d):=by rw[<-Rat.intCast_natCast,Int.toNat_of_nonneg (by omega)]
 rw[e];unfold qR;rw[zu,Rat.div_def,Rat.mul_assoc,Rat.mul_comm _ (aH _),jw _ hn,Rat.mul_one]
theorem a2e {q:aT} (h:qOk q):CdM (qMx q) 2:=by
 rw[CO];exact IK (by omega) ⟨(qN q.1 q.2.1 q.2.2.1 q.2.2.2.1).toNat,by have:=lW h.1;omega,by
  have:=(ZQ h (i:=0) (j:=0) (by omega) (by omega)).2;have e:=BI (k:=2) (x:=qN q.1 q.2.1 q.2.2.1 q.2.2.2.1) (by unfold BB;omega);have hp:=lW h.1;unfold isz at e;rw[show (qN q.1 q.2.1 q.2.2.1 q.2.2.2.1).toNat=(qN q.1 q.2.1 q.2.2.1 q.2.2.2.1).natAbs by omega];exact e,fun i hi j hj=>⟨_,b3b _ _ _ _ (lW h.1) i j,BI (by have:=(ZQ h hi hj).1;unfold BB;omega)⟩⟩
theorem b7K {a b:dQ} (h:iG a) (g:iG b):m33 100 (FM a b):=by have hi:∀ s:dQ,isM (fJ s) 3 3:=jB;have c1:=((JA g).inv (hi b)).trp (oU (hi b));have c2:=c1.mul ((a2e g.2.1).trp (q33 _)) (oU (hi b)).trp (q33 _).trp;have c3:=c2.mul (a0L h g) ((oU (hi b)).trp.mul (q33 _).trp) (nG _);have c4:=c3.mul (a2e h.2.1) (((oU (hi b)).trp.mul (q33 _).trp).mul (nG _)) (q33 _);have c5:=c4.mul ((JA h).inv (hi a)) ((((oU (hi b)).trp.mul (q33 _).trp).mul (nG _)).mul (q33 _)) (oU (hi a));exact⟨a4a a b,c5.sz (by omega)⟩
theorem c4u {a b:dQ} (h:iG a) (g:iG b) (hne:¬ (a.1.1=b.1.1/\a.1.2.1=b.1.2.1/\a.1.2.2.1=b.1.2.2.1)):∃ q ∈ (FM a b).flatten,q≠0:=by
 apply oz;intro hc;have hz:∀ i,i<3->∀ j,j<3->ent (FM a b) i j=0:=fun i hi j hj=>oz fun h0=>hc ⟨_,Df.2 ⟨(FM a b).getD i [],jH (by rw[(a4a a b).len];exact hi),jH (d:=(0:Rat)) (by rw[(a4a a b).2.1 _ (jH (by rw[(a4a a b).len];exact hi))];exact hj)⟩,h0⟩;obtain⟨e0,e1,e2⟩:=b9u (a1b h) (a1b g) (QW g.2.1) (QW h.2.1) (t:=lv (eH a b)) fun i hi j hj=>by rw[<-a9G a b i hi j hj];exact hz i hi j hj
 have z:∀ x y:Int,aH (x-y)=0->y=x:=fun x y e=>by have e:((x-y:Int):Rat)=((0:Int):Rat):=e;have:=Dq.1 e;omega
 exact hne ⟨z _ _ e0,z _ _ e1,z _ _ e2⟩
theorem b7J {a b:dQ} (h:iG a) (g:iG b) (hne:¬ (a.1.1=b.1.1/\a.1.2.1=b.1.2.1/\a.1.2.2.1=b.1.2.2.1)):vN (FM a b).flatten/\(FM a b).flatten.length=9:=by obtain⟨l9,hs⟩:=(b7K h g).flat;exact⟨⟨by omega,fun q hq=>au (hs q hq) (by omega),c4u h g hne⟩,l9⟩
set_option maxHeartbeats 4000000
def zQ (q:aT):Bool:=decide (q.1=0/\q.2.1=0/\q.2.2.1=0/\q.2.2.2.1=0)
def zS (s:dQ):Bool:=zQ s.2.1
def wW (s:dQ):Bool:=[s.1.1,s.1.2.1,s.1.2.2.1,s.2.2.2.1.1,s.2.2.2.1.2.1,s.2.1.1,s.2.1.2.1,s.2.1.2.2.1,s.2.1.2.2.2.1].any mO || decide (s.2.2.1<1) || decide (s.2.2.1 > 1048576)
def oO (l:List dQ):Int:=bif l.any zS then 1 else bif l.any wW then 2 else 0
def sO:dQ:=((0,0,0,()),(0,0,0,0,()),0,(0,0,()),())
noncomputable def c5u:Ctr:=⟨[.list FU],[tI],fun x=>(show List dQ from x.1).length<=1000000,fun x=>(oO x.1,())⟩
theorem a7m:aJ Tryz.prog 59 c5u:=by
 refine aN (nil0.ad b2Q) ⟨[4,6,7],[],[]⟩ Tryz.func59 rfl (by decide) (fun x=>[.inv {k:Nat // k<=(show List dQ from x.1).length/\((show List dQ from x.1).take k).any zS=false} (fun k=>[(10,.val tI (k.1:Int))]) (fun k=>[]) (fun k=>(show List dQ from x.1).length-k.1) ⟨0,by omega,rfl⟩ (fun _=>[]),.inv {k:Nat // k<=(show List dQ from x.1).length/\((show List dQ from x.1).take k).any wW=false} (fun k=>[(21,.val tI (k.1:Int))]) (fun k=>[]) (fun k=>(show List dQ from x.1).length-k.1) ⟨0,by omega,rfl⟩ (fun _=>[])]) (fun x hp=>?_);obtain⟨x,u⟩:=x;change List dQ at x;refine aP ((asT Int 0=0/\True)/\∀ (i:{ k:Nat // k<=List.length x/\List.any (List.take k x) zS=false }),asT Bool true=true/\ifB (decide (aB (aA i)<aB x.length)) ((0<=aB (aA i)/\aB (aA i)<aB x.length/\True)/\ifB (eqD (Ty.pair (Ty.int IntKind.i64) (Ty.pair (Ty.int IntKind.i64) (Ty.pair (Ty.int IntKind.i64) (Ty.pair (Ty.int IntKind.i64) Ty.unit)))) (Prod.fst (List.getD x (aB (aA i)).toNat sO).2.1,Prod.fst (List.getD x (aB (aA i)).toNat sO).2.1.2,Prod.fst (List.getD x (aB (aA i)).toNat sO).2.1.2.2,Prod.fst (List.getD x (aB (aA i)).toNat sO).2.1.2.2.2,()) (0,0,0,0,PUnit.unit)) (True/\1=oO x/\True) (∃ (i':{ k:Nat // k<=List.length x/\List.any (List.take k x) zS=false }),List.length x-aA i'<List.length x-aA i/\IntKind.wrap IntKind.i64 (aB (aA i)+1)=aB (aA i')/\True)) ((asT Int 0=0/\True)/\∀ (i:{ k:Nat // k<=List.length x/\List.any (List.take k x) wW=false }),let aK:=(List.getD x (aB (aA i)).toNat sO);let A₁:=aK.2;let bI:=A₁.1.2;let bH:=A₁.2.2.1;let A₀:=(Prod.fst aK.1::Prod.fst aK.1.2::Prod.fst aK.1.2.2::Prod.fst bH::Prod.fst bH.2::Prod.fst A₁.1::Prod.fst bI::Prod.fst bI.2::Prod.fst bI.2.2::aC Int);let aO:=(List.any A₀ mO==false);let bU:=(aO=true->aO=true/\True);let cZ:=(Prod.fst A₁.2<1);let A₂:=(bif List.any A₀ mO then true else decide cZ);let bC:=((A₂==false)=true->(A₂==false)=true/\True);asT Bool true=true/\ifB (decide (aB (aA i)<aB x.length)) ((0<=aB (aA i)/\aB (aA i)<aB x.length/\True)/\(List.length A₀<=1000000/\bU/\bU/\(List.any A₀ mO=false->aO=true)/\bC/\bC/\(A₂=false->(A₂==false)=true)/\True)/\ifB (bif bif List.any A₀ mO then true else decide cZ then true else decide (Prod.fst A₁.2 > 1048576)) (True/\2=oO x/\True) (∃ (i':{ k:Nat // k<=List.length x/\List.any (List.take k x) wW=false }),List.length x-aA i'<List.length x-aA i/\IntKind.wrap IntKind.i64 (aB (aA i)+1)=aB (aA i')/\True)) (True/\0=oO x/\True))) (by kernel_rfl) ?_;try simp only[zP0]
 try dsimp only[aB,asT,aA,aC,Ty.den,Lf.den] at *
 try simp only[zP1]
 try simp only[zP2]
 have hp:x.length<=1000000:=hp;refine fun i=>⟨fun h1=>⟨⟨by omega,h1⟩,fun h=>?_,fun h=>?_⟩,fun h1 j=>⟨fun h2=>⟨⟨by omega,h2⟩,by omega,fun h=>?_,fun h=>?_⟩,fun h2=>?_⟩⟩
 ·have h:zS (x.getD i.1 sO)=true:=(eqQ _).symm.trans h;unfold oO;rw[DV (p:=zS) (d:=sO) (i:=i.1) (by omega) h];rfl
 ·have h:zS (x.getD i.1 sO)=false:=(eqQ _).symm.trans h;exact⟨⟨i.1+1,by omega,by rw[jL (d:=sO) (by omega),i.2.2];exact(Bool.false_or _).trans h⟩,by simp only;omega,by rw[aG (by omega) (by omega)];rfl⟩
 ·have h:wW (x.getD j.1 sO)=true:=by unfold wW;rcases h with(h|h)|h<;>rw[h]<;>simp
  have h3:=i.2.2;rw[jf (by omega)] at h3;unfold oO;rw[h3,DV (p:=wW) (d:=sO) (i:=j.1) (by omega) h];rfl
 ·have h:wW (x.getD j.1 sO)=false:=by unfold wW;rw[h.1.1,h.1.2,h.2];rfl
  exact⟨⟨j.1+1,by omega,by rw[jL (d:=sO) (by omega),j.2.2];exact(Bool.false_or _).trans h⟩,by simp only;omega,by rw[aG (by omega) (by omega)];rfl⟩
 ·have h3:=i.2.2;have h4:=j.2.2;rw[jf (by omega)] at h3 h4;unfold oO;rw[h3,h4];rfl
theorem a6B:aJ Tryz.prog 25 c5u:=by
 refine aN (nil0.ad b2i) ⟨[4,6],[],[]⟩ Tryz.func25 rfl (by decide) (fun x=>[.inv {k:Nat // k<=(show List dQ from x.1).length/\((show List dQ from x.1).take k).any zS=false} (fun k=>[(9,.val tI (k.1:Int))]) (fun k=>[]) (fun k=>(show List dQ from x.1).length-k.1) ⟨0,by omega,rfl⟩ (fun _=>[]),.inv {k:Nat // k<=(show List dQ from x.1).length/\((show List dQ from x.1).take k).any wW=false} (fun k=>[(20,.val tI (k.1:Int))]) (fun k=>[]) (fun k=>(show List dQ from x.1).length-k.1) ⟨0,by omega,rfl⟩ (fun _=>[])]) (fun x hp=>?_);obtain⟨x,u⟩:=x;change List dQ at x;refine aP ((asT Int 0=0/\True)/\∀ (i:{ k:Nat // k<=List.length x/\List.any (List.take k x) zS=false }),asT Bool true=true/\ifB (decide (aB (aA i)<aB x.length)) ((0<=aB (aA i)/\aB (aA i)<aB x.length/\True)/\ifB (eqD (Ty.pair (Ty.int IntKind.i64) (Ty.pair (Ty.int IntKind.i64) (Ty.pair (Ty.int IntKind.i64) (Ty.pair (Ty.int IntKind.i64) Ty.unit)))) (Prod.fst (List.getD x (aB (aA i)).toNat sO).2.1,Prod.fst (List.getD x (aB (aA i)).toNat sO).2.1.2,Prod.fst (List.getD x (aB (aA i)).toNat sO).2.1.2.2,Prod.fst (List.getD x (aB (aA i)).toNat sO).2.1.2.2.2,()) (0,0,0,0,PUnit.unit)) (True/\1=oO x/\True) (∃ (i':{ k:Nat // k<=List.length x/\List.any (List.take k x) zS=false }),List.length x-aA i'<List.length x-aA i/\IntKind.wrap IntKind.i64 (aB (aA i)+1)=aB (aA i')/\True)) ((asT Int 0=0/\True)/\∀ (i:{ k:Nat // k<=List.length x/\List.any (List.take k x) wW=false }),let aK:=(List.getD x (aB (aA i)).toNat sO);let A₁:=aK.2;let bI:=A₁.1.2;let bH:=A₁.2.2.1;let A₀:=(Prod.fst aK.1::Prod.fst aK.1.2::Prod.fst aK.1.2.2::Prod.fst bH::Prod.fst bH.2::Prod.fst A₁.1::Prod.fst bI::Prod.fst bI.2::Prod.fst bI.2.2::aC Int);let aO:=(List.any A₀ mO==false);let bU:=(aO=true->aO=true/\True);let cZ:=(Prod.fst A₁.2<1);let A₂:=(bif List.any A₀ mO then true else decide cZ);let bC:=((A₂==false)=true->(A₂==false)=true/\True);asT Bool true=true/\ifB (decide (aB (aA i)<aB x.length)) ((0<=aB (aA i)/\aB (aA i)<aB x.length/\True)/\(List.length A₀<=1000000/\bU/\bU/\(List.any A₀ mO=false->aO=true)/\bC/\bC/\(A₂=false->(A₂==false)=true)/\True)/\ifB (bif bif List.any A₀ mO then true else decide cZ then true else decide (Prod.fst A₁.2 > 1048576)) (True/\2=oO x/\True) (∃ (i':{ k:Nat // k<=List.length x/\List.any (List.take k x) wW=false }),List.length x-aA i'<List.length x-aA i/\IntKind.wrap IntKind.i64 (aB (aA i)+1)=aB (aA i')/\True)) (True/\0=oO x/\True))) (by kernel_rfl) ?_;try simp only[zP0]
 try dsimp only[aB,asT,aA,aC,Ty.den,Lf.den] at *
 try simp only[zP1]
 try simp only[zP2]
 have hp:x.length<=1000000:=hp;refine fun i=>⟨fun h1=>⟨⟨by omega,h1⟩,fun h=>?_,fun h=>?_⟩,fun h1 j=>⟨fun h2=>⟨⟨by omega,h2⟩,by omega,fun h=>?_,fun h=>?_⟩,fun h2=>?_⟩⟩
 ·have h:zS (x.getD i.1 sO)=true:=(eqQ _).symm.trans h;unfold oO;rw[DV (p:=zS) (d:=sO) (i:=i.1) (by omega) h];rfl
 ·have h:zS (x.getD i.1 sO)=false:=(eqQ _).symm.trans h;exact⟨⟨i.1+1,by omega,by rw[jL (d:=sO) (by omega),i.2.2];exact(Bool.false_or _).trans h⟩,by simp only;omega,by rw[aG (by omega) (by omega)];rfl⟩
 ·have h:wW (x.getD j.1 sO)=true:=by unfold wW;rcases h with(h|h)|h<;>rw[h]<;>simp
  have h3:=i.2.2;rw[jf (by omega)] at h3;unfold oO;rw[h3,DV (p:=wW) (d:=sO) (i:=j.1) (by omega) h];rfl
 ·have h:wW (x.getD j.1 sO)=false:=by unfold wW;rw[h.1.1,h.1.2,h.2];rfl
  exact⟨⟨j.1+1,by omega,by rw[jL (d:=sO) (by omega),j.2.2];exact(Bool.false_or _).trans h⟩,by simp only;omega,by rw[aG (by omega) (by omega)];rfl⟩
 ·have h3:=i.2.2;have h4:=j.2.2;rw[jf (by omega)] at h3 h4;unfold oO;rw[h3,h4];rfl
def a0G (n:Int):Bool:=decide (n > 4096) || decide (n < -4096)
def a3M (s:dQ):List Int:=[s.1.1,s.1.2.1,s.1.2.2.1,s.2.2.2.1.1,s.2.2.2.1.2.1,s.2.1.1,s.2.1.2.1,s.2.1.2.2.1,s.2.1.2.2.2.1,s.2.2.1]
def a1m (s:dQ):Bool:=(oO [s] != 0) || !(a3M s).any a0G
noncomputable def c7R:Ctr:=⟨[FU],[tB],fun x=>True,fun x=>(a1m x.1,())⟩
theorem b5X:aJ Tryz.prog 12 c7R:=by
 refine aN (nil0.ad a6B) ⟨[],[],[]⟩ Tryz.func12 rfl (by decide) (fun x=>[.inv {k:Nat // k<=10/\((a3M (show dQ from x.1)).take k).any a0G=false} (fun k=>[(40,.val tI (k.1:Int))]) (fun k=>[]) (fun k=>10-k.1) ⟨0,by omega,rfl⟩ (fun _=>[])]) (fun x hp=>?_);obtain⟨s,u⟩:=x;change dQ at s;refine aP (let A₁:=(s::aC ((Int × Int × Int × PUnit) × (Int × Int × Int × Int × PUnit) × Int × (Int × Int × PUnit) × PUnit));let A₂:=s.2.1.2;let aK:=s.2.2.2.1;let A₀:=(asT Int s.1.1::asT Int s.1.2.1::asT Int s.1.2.2.1::asT Int aK.1::asT Int aK.2.1::asT Int s.2.1.1::asT Int A₂.1::asT Int A₂.2.1::asT Int A₂.2.2.1::asT Int s.2.2.1::aC Int);let aO:=(True/\true=a1m s/\True);(List.length A₁<=1000000/\True)/\ifB (oO A₁ != 0) aO ((asT Int 0=0/\True)/\∀ (i:{ k:Nat // k<=10/\List.any (List.take k (a3M s)) a0G=false }),let bC:=(List.getD A₀ (aB (aA i)).toNat 0 > 4096);asT Bool true=true/\ifB (decide (aB (aA i)<aB A₀.length)) ((0<=aB (aA i)/\aB (aA i)<aB A₀.length/\True)/\(((decide bC==false)=true->(decide bC==false)=true/\True)/\(decide bC=false->(decide bC==false)=true)/\True)/\ifB (bif decide bC then true else decide (List.getD A₀ (aB (aA i)).toNat 0 < -4096)) (True/\false=a1m s/\True) (∃ (i':{ k:Nat // k<=10/\List.any (List.take k (a3M s)) a0G=false }),10-aA i'<10-aA i/\IntKind.wrap IntKind.i64 (aB (aA i)+1)=aB (aA i')/\True)) aO)) (by kernel_rfl) ?_;try simp only[zP0]
 try dsimp only[aB,asT,aA,aC,Ty.den,Lf.den] at *
 try simp only[zP1]
 try simp only[zP2]
 have hl:(a3M s).length=10:=rfl;rw[show [s.1.1,s.1.2.1,s.1.2.2.1,s.2.2.2.1.1,s.2.2.2.1.2.1,s.2.1.1,s.2.1.2.1,s.2.1.2.2.1,s.2.1.2.2.2.1,s.2.2.1]=a3M s from rfl];refine⟨by omega,fun h=>?_,fun h i=>⟨fun h1=>⟨⟨by omega,h1⟩,fun h2=>iy h2,fun h2=>?_,fun h2=>?_⟩,fun h1=>?_⟩⟩
 ·unfold a1m;rw[Eu.mpr h];rfl
 ·have h3:a0G ((a3M s).getD i.1 0)=true:=by unfold a0G;rcases h2 with h2|h2<;>rw[h2]<;>simp
  unfold a1m;rw[h,DV (p:=a0G) (d:=0) (i:=i.1) (by omega) h3];rfl
 ·have h3:a0G ((a3M s).getD i.1 0)=false:=by unfold a0G;rw[h2.1,h2.2];rfl
  exact⟨⟨i.1+1,by omega,by rw[jL (d:=0) (by omega),i.2.2];exact(Bool.false_or _).trans h3⟩,by simp only;omega,by rw[aG (by omega) (by omega)];rfl⟩
 ·have h3:=i.2.2;rw[jf (by omega)] at h3;unfold a1m;rw[h,h3];rfl
end Go.Proofs.YtbkocjmmbkifjaaGreat
