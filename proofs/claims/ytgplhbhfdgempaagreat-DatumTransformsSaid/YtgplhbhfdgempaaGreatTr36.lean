/-
  Lemmas for the theorem vtransforms_holds, part 36 of 39.
-/
import Derived.Test.YtgplhbhfdgempaaGreatTr35
namespace Go.Proofs.YtgplhbhfdgempaaGreat
open Go Go.RowKit
set_option maxRecDepth 100000
set_option maxHeartbeats 1000000
set_option linter.unusedVariables false
set_option linter.unusedSimpArgs false
abbrev edm (a:MQ) (j:Nat):Mt:=(red a.length (ent a) j).1
abbrev edp (a:MQ) (j:Nat):List Nat:=(red a.length (ent a) j).2
def ekk (a:MQ) (j:Nat):Nat:=fk (edm a j) j (edp a j).length (a.length-(edp a j).length)
def esw (a:MQ) (j:Nat):Mt:=iO (edm a j) (edp a j).length (ekk a j)
def UY (m:Mt) (r c:Nat) (p:Rat):Mt:=fun i d=>if i=r/\d<c then m i d / p else m i d
def wM (m:Mt) (r j t:Nat):Mt:=fun i d=>if i≠r/\i<t then m i d-m i j*m r d else m i d
def qP (m:Mt) (r j t c:Nat):Mt:=fun i d=>if i=t/\d<c then m i d-m i j*m r d else wM m r j t i d
def rY (a:MQ) (j c:Nat):Mt:=UY (esw a j) (edp a j).length c (edm a j (ekk a j) j)
def a3G (a:MQ) (j:Nat):Type:={p:Nat × Int // (p.2=-1/\(edp a j).length<=p.1/\p.1<=a.length/\∀ i,(edp a j).length<=i->i<p.1->edm a j i j=0)\/(∃ k:Nat,p.2=k/\p.1=k+1/\(edp a j).length<=k/\k<a.length/\edm a j k j≠0/\∀ i,(edp a j).length<=i->i<k->edm a j i j=0)}
abbrev er (a:MQ) (j:Nat) (m:Mt):Rho:=[(16,.mat 32 64 tQ none (tab a.length (wdM a) m) 0),(17,.row 3 tI (bV (edp a j)) 0)]
theorem a6y (m:Mt) {r c d:Nat} (p:Rat) (h:c<=d) (i:Nat):UY m r c p i d=m i d:=ig (by omega)
theorem WW (m:Mt) {r j t d:Nat}:wM m r j t t d=m t d:=ig (by omega)
theorem a9g (m:Mt) {r j t d:Nat}:wM m r j t r d=m r d:=ig (by simp)
theorem a7l (m:Mt) {r j t:Nat} (h:t=r\/m t j=0) (i d:Nat):wM m r j t i d=wM m r j (t+1) i d:=by
 unfold wM
 by_cases h1:i≠r/\i<t
 ·rw[gy h1,gy ⟨h1.1,by omega⟩]
 ·rw[ig h1]
  by_cases h2:i≠r/\i<t+1
  ·rw[gy h2]
   have h3:i=t:=by omega
   subst h3
   rcases h with h|h
   ·exact absurd h h2.1
   ·rw[h];grind
  ·rw[ig h2]
theorem a3Q (m:Mt) {r j t:Nat} (i d:Nat):qP m r j t 0 i d=wM m r j t i d:=ig (by omega)
theorem a7m (m:Mt) {r j t c:Nat} (ht:t≠r) {d:Nat} (hd:d<c) (i:Nat):qP m r j t c i d=wM m r j (t+1) i d:=by
 unfold qP
 by_cases h1:i=t
 ·subst h1;rw[gy ⟨rfl,hd⟩];unfold wM;rw[gy ⟨ht,by omega⟩]
 ·rw[ig (by omega)];unfold wM
  by_cases h2:i≠r/\i<t
  ·rw[gy h2,gy ⟨h2.1,by omega⟩]
  ·rw[ig h2,ig (by omega)]
theorem PV {b c:Bool}:(bif b then c else false)=true↔b=true/\c=true:=by cases b<;>simp
theorem b3W (a:MQ) (hp:okE a):let A₀:=(List.getD a 0 (aC Rat)).length;((List.length a<=1000/\∀ (r:List Rat),r ∈ a->List.length r<=1000)/\True)/\(asT Int 0=0/\a=tab a.length (wdM a) (edm a 0)/\asT (List Int) (aC Int)=aC Int/\True)/\∀ (i:{ j:Nat // j<=wdM a }),let A₁:=(bV (edp a (aA i))).length;let A₂:=(tab a.length (wdM a) (edm a (aA i)));let aQ:=(edp a (aA i)).length;let bJ:=(rY a (aA i) (wdM a));let dA:=(nameAt none (aB A₁).toNat);let dU:=(aB (aA i)).toNat;let fP:=(aB (aA i)<aB A₀);let dJ:=(decide fP==true);let gQ:=(dJ=true->dJ=true/\True);asT Bool true=true/\(asT Int 0<=0/\0<aB a.length/\gQ/\gQ/\(dJ=true->dJ=true/\dJ=true/\True)/\(decide fP=true->dJ=true)/\True)/\ifB (bif decide fP then decide (aB A₁<aB a.length) else false) ((aB A₁=aB aQ/\asT Int (-1)=-1/\tab a.length (wdM a) (edm a (aA i))=tab a.length (wdM a) (edm a (aA i))/\bV (edp a (aA i))=bV (edp a (aA i))/\True)/\∀ (i_1:a3G a (aA i)),let jX:=(aB (aA i_1).1<aB (aH none A₂));let pI:=(aA i_1).2.toNat;let jU:=(some (List.set (aV none A₂) (aB A₁).toNat (nameAt none pI)));let fQ:=(List.set (aV jU A₂) pI dA);let kU:=(rowAt A₂ (nameAt (some fQ) (aB A₁).toNat));let qI:=(aB (aA i_1).1+1);let nS:=(aB (aA i_1).1);let oK:=(rowAt A₂ (nameAt none nS.toNat));asT Bool true=true/\(((decide jX==true)=true->(decide jX==true)=true/\True)/\(decide jX=true->(decide jX==true)=true)/\True)/\ifB (bif decide jX then decide (Prod.snd (aA i_1)<0) else false) ((0<=aB (aA i_1).1/\aB (aA i_1).1<aB (aH none A₂)/\Int.toNat nS<aH none A₂/\0<=aB (aA i)/\aB (aA i)<aB oK.length/\Int.toNat (aB (aA i))<List.length oK/\rsz (List.getD oK dU 0)<=190000000/\True)/\ifB (sgn (Rat.num (List.getD oK dU 0)) != 0) (∃ (i':a3G a (aA i)),List.length a+1-Prod.fst (aA i')<List.length a+1-Prod.fst (aA i_1)/\IntKind.wrap IntKind.i64 qI=aB (aA i').1/\aB (aA i_1).1=Prod.snd (aA i')/\tab a.length (wdM a) (edm a (aA i))=tab a.length (wdM a) (edm a (aA i))/\bV (edp a (aA i))=bV (edp a (aA i))/\True) (∃ (i':a3G a (aA i)),List.length a+1-Prod.fst (aA i')<List.length a+1-Prod.fst (aA i_1)/\IntKind.wrap IntKind.i64 qI=aB (aA i').1/\Prod.snd (aA i_1)=Prod.snd (aA i')/\tab a.length (wdM a) (edm a (aA i))=tab a.length (wdM a) (edm a (aA i))/\bV (edp a (aA i))=bV (edp a (aA i))/\True)) (ifB (decide (Prod.snd (aA i_1)<0)) (∃ (i':{ j:Nat // j<=wdM a }),wdM a-aA i'<wdM a-aA i/\IntKind.wrap IntKind.i64 (aB (aA i)+1)=aB (aA i')/\tab a.length (wdM a) (edm a (aA i))=tab a.length (wdM a) (edm a (aA i'))/\bV (edp a (aA i))=bV (edp a (aA i'))/\True) ((0<=Prod.snd (aA i_1)/\Prod.snd (aA i_1)<aB (aH none A₂)/\Int.toNat (aA i_1).2<aH none A₂/\0<=aB A₁/\aB A₁<aB (aH none A₂)/\Int.toNat (aB A₁)<aH none A₂/\0<=aB A₁/\aB A₁<aB (aH none A₂)/\Int.toNat (aB A₁)<aH none A₂/\0<=Prod.snd (aA i_1)/\Prod.snd (aA i_1)<aB (aH jU A₂)/\Int.toNat (aA i_1).2<aH jU A₂/\True)/\(0<=aB A₁/\aB A₁<aB (aH (some fQ) A₂)/\Int.toNat (aB A₁)<aH (some fQ) A₂/\0<=aB (aA i)/\aB (aA i)<aB kU.length/\Int.toNat (aB (aA i))<List.length kU/\True)/\(asT Int 0=0/\List.Nodup fQ/\List.map (fun(i_2:Nat)=>List.getD A₂ i_2 (aC Rat)) fQ=tab a.length (wdM a) (rY a (aA i) 0)/\bV (edp a (aA i))=bV (edp a (aA i))/\List.getD kU dU 0=edm a (aA i) (ekk a (aA i)) (aA i)/\True)/\∀ (i_2:{ c:Nat // c<=wdM a }),let oL:=(aB (aA i_2)).toNat;let C₁:=(rY a (aA i) (aA i_2));let fU:=(tab a.length (wdM a) C₁);let oM:=(rowAt fU dA).length;asT Bool true=true/\(0<=aB A₁/\aB A₁<aB (aH none fU)/\Int.toNat (aB A₁)<aH none fU/\True)/\ifB (decide (aB (aA i_2)<aB oM)) ((0<=aB A₁/\aB A₁<aB (aH none fU)/\Int.toNat (aB A₁)<aH none fU/\0<=aB A₁/\aB A₁<aB (aH none fU)/\Int.toNat (aB A₁)<aH none fU/\0<=aB (aA i_2)/\aB (aA i_2)<aB oM/\Int.toNat (aB (aA i_2))<List.length (rowAt fU dA)/\(s19 (List.getD (rowAt fU dA) oL 0) (edm a (aA i) (ekk a (aA i)) (aA i))/\edm a (aA i) (ekk a (aA i)) (aA i)≠0)/\0<=aB (aA i_2)/\aB (aA i_2)<aB oM/\Int.toNat (aB (aA i_2))<List.length (rowAt fU dA)/\True)/\∃ (i':{ c:Nat // c<=wdM a }),wdM a-aA i'<wdM a-aA i_2/\IntKind.wrap IntKind.i64 (aB (aA i_2)+1)=aB (aA i')/\List.set fU dA (List.set (rowAt fU dA) oL (List.getD (rowAt fU dA) oL 0 / edm a (aA i) (ekk a (aA i)) (aA i)))=tab a.length (wdM a) (rY a (aA i) (aA i'))/\bV (edp a (aA i))=bV (edp a (aA i))/\edm a (aA i) (ekk a (aA i)) (aA i)=edm a (aA i) (ekk a (aA i)) (aA i)/\True) ((asT Int 0=0/\tab a.length (wdM a) C₁=tab a.length (wdM a) (wM bJ aQ (aA i) 0)/\bV (edp a (aA i))=bV (edp a (aA i))/\True)/\∀ (i_3:{ i:Nat // i<=List.length a }),let jV:=(aB (aA i_3)).toNat;let C₂:=(nameAt none jV);let rQ:=(wM bJ aQ (aA i) (aA i_3));let C₃:=(tab a.length (wdM a) rQ);let AL:=(qP bJ aQ (aA i) (aA i_3) 0);let yF:=(tab a.length (wdM a) AL);let JF:=(List.getD (rowAt C₃ C₂) dU 0);let AZ:=(aB (aA i_3)==aB A₁);let jY:=(AZ==false);asT Bool true=true/\ifB (decide (aB (aA i_3)<aB (aH none C₃))) ((0<=aB (aA i_3)/\aB (aA i_3)<aB (aH none C₃)/\Int.toNat (aB (aA i_3))<aH none C₃/\0<=aB (aA i)/\aB (aA i)<aB (rowAt C₃ C₂).length/\Int.toNat (aB (aA i))<List.length (rowAt C₃ C₂)/\True)/\((jY=true->jY=true/\rsz JF<=190000000/\True)/\(jY=true->jY=true/\True)/\(AZ=false->jY=true)/\True)/\ifB (bif aB (aA i_3)==aB A₁ then true else sgn (Rat.num JF)==0) (∃ (i':{ i:Nat // i<=List.length a }),List.length a-aA i'<List.length a-aA i_3/\IntKind.wrap IntKind.i64 (aB (aA i_3)+1)=aB (aA i')/\tab a.length (wdM a) rQ=tab a.length (wdM a) (wM bJ aQ (aA i) (aA i'))/\bV (edp a (aA i))=bV (edp a (aA i))/\True) ((asT Int 0=0/\nameAt none jV=nameAt none jV/\Int.toNat (aB (aA i))=Int.toNat (aB (aA i))/\List.length C₃=List.length yF/\nameAt none jV=nameAt none jV/\List.length C₃=List.length yF/\Int.toNat (aB (aA i_3))=Int.toNat (aB (aA i_3))/\tab a.length (wdM a) rQ=tab a.length (wdM a) AL/\bV (edp a (aA i))=bV (edp a (aA i))/\List.getD (rowAt C₃ C₂) dU 0=rY a (aA i) (wdM a) (aA i_3) (aA i)/\True)/\∀ (i_4:{ c:Nat // c<=wdM a }),let wS:=(aB (aA i_4)).toNat;let ZF:=(qP bJ aQ (aA i) (aA i_3) (aA i_4));let D₁:=(tab a.length (wdM a) ZF);let D₂:=(List.set (rowAt D₁ C₂) wS (List.getD (rowAt D₁ C₂) wS 0-rY a (aA i) (wdM a) (aA i_3) (aA i)*List.getD (rowAt D₁ dA) wS 0));let QM:=(rowAt D₁ C₂).length;asT Bool true=true/\(0<=aB (aA i_3)/\aB (aA i_3)<aB (aH none D₁)/\Int.toNat (aB (aA i_3))<aH none D₁/\True)/\ifB (decide (aB (aA i_4)<aB QM)) ((0<=aB (aA i_3)/\aB (aA i_3)<aB (aH none D₁)/\Int.toNat (aB (aA i_3))<aH none D₁/\0<=aB (aA i_3)/\aB (aA i_3)<aB (aH none D₁)/\Int.toNat (aB (aA i_3))<aH none D₁/\0<=aB (aA i_4)/\aB (aA i_4)<aB QM/\Int.toNat (aB (aA i_4))<List.length (rowAt D₁ C₂)/\0<=aB A₁/\aB A₁<aB (aH none D₁)/\Int.toNat (aB A₁)<aH none D₁/\0<=aB (aA i_4)/\aB (aA i_4)<aB (rowAt D₁ dA).length/\Int.toNat (aB (aA i_4))<List.length (rowAt D₁ dA)/\s19 (rY a (aA i) (wdM a) (aA i_3) (aA i)) (List.getD (rowAt D₁ dA) wS 0)/\s19 (List.getD (rowAt D₁ C₂) wS 0) (rY a (aA i) (wdM a) (aA i_3) (aA i)*List.getD (rowAt D₁ dA) wS 0)/\0<=aB (aA i_4)/\aB (aA i_4)<aB QM/\Int.toNat (aB (aA i_4))<List.length (rowAt D₁ C₂)/\True)/\∃ (i':{ c:Nat // c<=wdM a }),let ZG:=(qP bJ aQ (aA i) (aA i_3) (aA i'));let QN:=(tab a.length (wdM a) ZG);wdM a-aA i'<wdM a-aA i_4/\IntKind.wrap IntKind.i64 (aB (aA i_4)+1)=aB (aA i')/\nameAt none jV=nameAt none jV/\Int.toNat (aB (aA i))=Int.toNat (aB (aA i))/\List.length (List.set D₁ C₂ D₂)=List.length QN/\nameAt none jV=nameAt none jV/\List.length (List.set D₁ C₂ D₂)=List.length QN/\Int.toNat (aB (aA i_3))=Int.toNat (aB (aA i_3))/\List.set D₁ C₂ D₂=tab a.length (wdM a) ZG/\bV (edp a (aA i))=bV (edp a (aA i))/\rY a (aA i) (wdM a) (aA i_3) (aA i)=rY a (aA i) (wdM a) (aA i_3) (aA i)/\True) (∃ (i':{ i:Nat // i<=List.length a }),List.length a-aA i'<List.length a-aA i_3/\IntKind.wrap IntKind.i64 (aB (aA i_3)+1)=aB (aA i')/\tab a.length (wdM a) ZF=tab a.length (wdM a) (wM bJ aQ (aA i) (aA i'))/\bV (edp a (aA i))=bV (edp a (aA i))/\True))) ((List.length (bV (edp a (aA i)))+List.length (aB (aA i)::aC Int)<=1000000000/\True)/\∃ (i':{ j:Nat // j<=wdM a }),wdM a-aA i'<wdM a-aA i/\IntKind.wrap IntKind.i64 (aB (aA i)+1)=aB (aA i')/\tab a.length (wdM a) rQ=tab a.length (wdM a) (edm a (aA i'))/\bV (edp a (aA i))++aB (aA i)::aC Int=bV (edp a (aA i'))/\True))))) (True/\tab a.length (wdM a) (edm a (aA i))=wY a/\True/\bV (edp a (aA i))=bV (kH a)/\True):=by
 have hZ:(⟨false,0,[],[]⟩:aF)=cO:=rfl
 dsimp only[aB,asT,aA,aC,Ty.den,Lf.den] at *
 simp only[hZ,Int.toNat_natCast,aU,ay,au,ni,mg,aH,nameAt,aV,aS,bF,rowAt,iy,iq,pY]
 have ha:=hp.1
 have hok:=hp.2
 have q1:=ha.r64
 have q2:=ha.c64
 have q3:=ha.c1
 have q4:=ha.pos
 have hw:∀ q:Nat,(q:Int)<=1000->IntKind.wrap .i64 ((q:Int)+1)=((q+1:Nat):Int):=fun q hq=>by rw[aZ (by omega) (by omega)];rfl
 have hw0:(List.getD a 0 []).length=wdM a:=rfl
 simp only[hw0]
 refine⟨⟨by omega,fun r hr=>by rw[ha.1.2.1 r hr];omega⟩,ha.1.tab.symm,fun i=>⟨⟨xg 0,ha.poz,fun h=>h,fun h=>h,fun h=>⟨h,h⟩,fun h=>by rw[pz h];rfl⟩,fun h p=>?_,fun h=>?_⟩⟩
 ·obtain⟨g1,g2⟩:=PV.mp h
  have g1:=ql g1
  have g2:=ql g2
  have hjC:i.1<wdM a:=by omega
  have hPR:(edp a i.1).length<a.length:=by omega
  have E:=iL a.length (ent a) i.1
  have hle:=E.le
  have zm:∀ b,b<a.length->∀ c,c<wdM a->rsz (edm a i.1 b c)<=10000000:=hok i.1 (by omega)
  have zn:∀ b,b<a.length->∀ c,c<wdM a->rsz (edm a (i.1+1) b c)<=10000000:=hok (i.1+1) (by omega)
  refine⟨⟨fun h=>h,fun h=>by rw[pz h];rfl⟩,fun h2=>?_,fun h2=>⟨fun h3=>?_,fun h3=>?_⟩⟩
  ·obtain⟨f1,f2⟩:=PV.mp h2
   have f1:=ql f1
   have f2:=ql f2
   rcases p.2 with⟨e1,l1,l2,l0⟩|⟨k,e1,l1⟩
   ·have hk:p.1.1<a.length:=by omega
    simp only[iT hk,gX hjC,qw,iq]
    have z:=zm p.1.1 hk i.1 hjC
    refine⟨⟨by omega,f1,hk,by omega,by omega,hjC,by omega⟩,fun h4=>⟨⟨(p.1.1+1,(p.1.1:Int)),.inr ⟨p.1.1,rfl,rfl,l1,hk,fun e=>?_,l0⟩⟩,by show a.length+1-(p.1.1+1)<a.length+1-p.1.1;omega,hw _ (by omega),rfl⟩,fun h4=>⟨⟨(p.1.1+1,-1),.inl ⟨rfl,by show _<=p.1.1+1;omega,by show p.1.1+1<=_;omega,fun b h5 h6=>?_⟩⟩,by show a.length+1-(p.1.1+1)<a.length+1-p.1.1;omega,hw _ (by omega),e1⟩⟩
    ·rw[e] at h4;cases h4
    ·have h6:b<p.1.1+1:=h6
     by_cases eb:b=p.1.1
     ·rw[eb];exact oZ.mp (by simpa using h4)
     ·exact l0 b h5 (by omega)
   ·have:p.1.2=(k:Int):=e1
    omega
  ·rcases p.2 with⟨e1,l1,l2,l0⟩|⟨k,e1,l1⟩
   ·have hk:p.1.1=a.length:=by
     by_cases f:(p.1.1:Int)<a.length
     ·rw[PV.mpr ⟨pz f,pz h3⟩] at h2;cases h2
     ·omega
    have hkk:ekk a i.1=a.length:=by rw[<-hk];exact a1R _ _ _ _ _ l1 (by omega) l0 (fun h=>by omega)
    have hst:red a.length (ent a) (i.1+1)=red a.length (ent a) i.1:=a2M hkk
    refine⟨⟨i.1+1,by omega⟩,by simp only;omega,hw _ (by omega),?_,?_⟩
    ·show _=tab _ _ (red a.length (ent a) (i.1+1)).1
     rw[hst]
    ·show _=bV (red a.length (ent a) (i.1+1)).2
     rw[hst]
   ·have:p.1.2=(k:Int):=e1
    omega
  ·rcases p.2 with⟨e1,l1⟩|⟨k,e1,e0,hk1,hkR,hne,hk0⟩
   ·have:p.1.2=-1:=e1
    omega
   have hkk:ekk a i.1=k:=a1R _ _ _ _ _ hk1 (by omega) hk0 (fun _=>hne)
   have hst:red a.length (ent a) (i.1+1)=(kK (edm a i.1) (edp a i.1).length k i.1,edp a i.1++[i.1]):=a2N hkk (by omega)
   have e2:edm a (i.1+1)=kK (edm a i.1) (edp a i.1).length k i.1:=xu Prod.fst hst
   have e3:edp a (i.1+1)=edp a i.1++[i.1]:=xu Prod.snd hst
   rw[e2] at zn
   have hr:=hPR
   rw[e1]
   have hes:∀ c,rY a i.1 c=UY (iO (edm a i.1) (edp a i.1).length k) (edp a i.1).length c (edm a i.1 k i.1):=fun c=>by unfold rY esw;rw[hkk]
   simp only[hes,hkk,Int.toNat_natCast,swp_get hr,iT hkR,gX hjC,qw,iq]
   clear h2 h3 e1 e0 p
   generalize hP:(edp a i.1).length=r at *
   generalize hM:edm a i.1=m at *
   have hsr:∀ d,iO m r k r d=m k d:=fun d=>by unfold iO;rw[gy rfl]
   have zs:∀ b,b<a.length->∀ d,d<wdM a->rsz (iO m r k b d)<=10000000:=fun b hb d hd=>by
    unfold iO;split
    ·exact zm _ hkR d hd
    ·split
     ·exact zm _ hr d hd
     ·exact zm _ hb d hd
   have zp:=zm k hkR i.1 hjC
   refine⟨⟨by omega,by omega,by omega,by omega,by omega,by omega,by omega,by omega,by omega,by omega,by omega,by omega⟩,⟨by omega,by omega,by omega,by omega,by omega,hjC⟩,⟨b1U _ hr hkR,?_,trivial⟩,fun c=>⟨⟨by omega,by omega,by omega⟩,fun h4=>?_,fun h4=>?_⟩⟩
   ·rw[b1T hr hkR]
    exact fB fun b _ d _=>(a6y _ _ (uw _) _).symm
   ·rw[iT hr] at h4 ⊢
    simp only[qw,iq] at h4 ⊢
    have hc:c.1<wdM a:=by omega
    rw[gX hc,a6y _ _ (aj _),hsr]
    have z3:=zm k hkR c.1 hc
    refine⟨⟨by omega,by omega,by omega,by omega,by omega,by omega,by omega,by omega,hc,⟨⟨by omega,by omega⟩,hne⟩,by omega,by omega,hc⟩,⟨c.1+1,by omega⟩,by simp only;omega,hw _ (by omega),?_⟩
    rw[<-iT (f:=UY (iO m r k) r c.1 (m k i.1)) hr]
    refine(DW _ hr).trans (fB fun b _ d _=>?_)
    show (if b=r/\d=c.1 then m k c.1 / m k i.1 else UY (iO m r k) r c.1 (m k i.1) b d)=UY (iO m r k) r (c.1+1) (m k i.1) b d
    unfold UY
    by_cases eb:b=r/\d=c.1
    ·rw[gy eb,gy ⟨eb.1,by omega⟩,eb.1,eb.2,hsr]
    ·rw[ig eb]
     by_cases ec:b=r/\d<c.1
     ·rw[gy ec,gy ⟨ec.1,by omega⟩]
     ·rw[ig ec,ig (by omega)]
   ·rw[iT hr] at h4
    simp only[qw,iq] at h4
    have hc:c.1=wdM a:=by have:=c.2;omega
    rw[hc]
    have hS:∀ b,b<a.length->∀ d,d<wdM a->wM (UY (iO m r k) r (wdM a) (m k i.1)) r i.1 a.length b d=kK m r k i.1 b d:=fun b hb d hd=>by
     rw[<-b1J (R:=a.length) (C:=wdM a) (m:=m) (r:=r) (k:=k) (j:=i.1) b hb d hd]
     unfold wM UY
     by_cases e:b=r
     ·subst e;rw[ig (by simp),gy ⟨rfl,hd⟩,gy rfl,hsr]
     ·rw[gy ⟨e,hb⟩,ig (by simp[e]),ig (by simp[e]),gy ⟨rfl,hd⟩,ig e]
    generalize hN:UY (iO m r k) r (wdM a) (m k i.1)=s at *
    have hrs:∀ d,d<wdM a->rsz (s r d)<=10000000:=fun d hd=>by
     have:=zn r hr d hd
     rw[<-hS r hr d hd,a9g] at this;exact this
    have has:∀ b,b<a.length->∀ d,d<wdM a->rsz (s b d)<=10000000:=fun b hb d hd=>by
     by_cases e:b=r
     ·rw[e];exact hrs d hd
     ·rw[<-hN];unfold UY;rw[ig (by simp[e])];exact zs b hb d hd
    refine⟨fB fun b _ d _=>(ig (by omega)).symm,fun t=>⟨fun h5=>?_,fun h5=>?_⟩⟩
    ·have ht:t.1<a.length:=by omega
     simp only[iT ht,gX hjC,qw,iq,WW]
     have z4:=has t.1 ht i.1 hjC
     refine⟨⟨by omega,by omega,ht,by omega,by omega,hjC⟩,⟨fun h=>⟨h,by omega⟩,fun h=>h,fun h=>by rw[h];rfl⟩,fun h6=>⟨⟨t.1+1,by omega⟩,by simp only;omega,hw _ (by omega),fB fun b _ d _=>a7l s ?_ b d⟩,fun h6=>?_⟩
     ·by_cases e:t.1=r
      ·exact .inl e
      ·right
       rw[show ((t.1:Int)==(r:Int))=false from jv.mpr (fun h=>e (by omega))] at h6
       have h6:(sgn (s t.1 i.1).num==0)=true:=h6
       exact oZ.mp (by simpa using h6)
     ·have htr:t.1≠r:=fun e=>by
       rw[e,show (((r:Nat):Int)==(r:Int))=true by simp] at h6;cases h6
      refine⟨⟨fB fun b _ d _=>(a3Q s b d).symm,trivial⟩,fun c=>⟨⟨by omega,by omega,ht⟩,fun h7=>?_,fun h7=>?_⟩⟩
      ·have h7:=ql h7
       have hc:c.1<wdM a:=by omega
       have et:qP s r i.1 t.1 c.1 t.1 c.1=s t.1 c.1:=by unfold qP;rw[ig (by omega)];exact WW s
       have er':qP s r i.1 t.1 c.1 r c.1=s r c.1:=by unfold qP;rw[ig (by omega)];exact a9g s
       have z5:=has t.1 ht c.1 hc
       have z6:=hrs c.1 hc
       have z7:=tK (s t.1 i.1) (s r c.1)
       simp only[iT ht,iT hr,gX hc,qw,iq,et,er']
       refine⟨⟨by omega,by omega,ht,by omega,by omega,ht,by omega,by omega,hc,by omega,by omega,hr,by omega,by omega,hc,⟨by omega,by omega⟩,⟨by omega,by omega⟩,by omega,by omega,hc⟩,⟨c.1+1,by omega⟩,by simp only;omega,hw _ (by omega),?_⟩
       rw[<-iT (f:=qP s r i.1 t.1 c.1) ht]
       refine(DW _ ht).trans (fB fun b _ d _=>?_)
       show (if b=t.1/\d=c.1 then s t.1 c.1-s t.1 i.1*s r c.1 else qP s r i.1 t.1 c.1 b d)=qP s r i.1 t.1 (c.1+1) b d
       unfold qP
       by_cases eb:b=t.1/\d=c.1
       ·rw[gy eb,gy ⟨eb.1,by omega⟩,eb.1,eb.2]
       ·rw[ig eb]
        by_cases ec:b=t.1/\d<c.1
        ·rw[gy ec,gy ⟨ec.1,by omega⟩]
        ·rw[ig ec,ig (by omega)]
      ·have h7:=Ai h7
       exact⟨⟨t.1+1,by omega⟩,by simp only;omega,hw _ (by omega),fB fun b _ d hd=>a7m s htr (by omega) b⟩
    ·have ht:t.1=a.length:=by have:=t.2;omega
     have hl:=(QE a.length (ent a) i.1).1
     refine⟨by simp;omega,⟨i.1+1,by omega⟩,by simp only;omega,hw _ (by omega),?_,?_⟩
     ·rw[ht]
      show _=tab _ _ (edm a (i.1+1))
      rw[e2];exact fB fun b hb d hd=>hS b hb d hd
     ·show _=bV (edp a (i.1+1))
      rw[e3];simp[bV]
 ·have hle:=(iL a.length (ent a) i.1).le
  have e:red a.length (ent a) (wdM a)=red a.length (ent a) i.1:=by
   by_cases f:i.1<wdM a
   ·have g:(red a.length (ent a) i.1).2.length=a.length:=by
     by_cases g:(edp a i.1).length<a.length
     ·rw[PV.mpr ⟨pz (by omega),pz (by omega)⟩] at h;cases h
     ·have:(red a.length (ent a) i.1).2.length=(edp a i.1).length:=rfl
      omega
    have:=KU g (wdM a-i.1)
    rwa [show i.1+(wdM a-i.1)=wdM a by omega] at this
   ·rw[show i.1=wdM a by have:=i.2;omega]
  refine⟨?_,?_⟩
  ·show _=tab a.length (wdM a) (red a.length (ent a) (wdM a)).1
   rw[e]
  ·show _=bV (red a.length (ent a) (wdM a)).2
   rw[e]
def c0M:Ctr:=⟨[tM],[tM,.list tI],fun x=>okE x.1,fun x=>(wY x.1,bV (kH x.1),())⟩
theorem a2L:aW Tryz.prog 53 c0M:=by
 refine bH (((((nil0.ad a5g).ad b9U).ad b9V).ad b9W).an a6o) ⟨[10,13],[],[]⟩ Tryz.func53 rfl (by decide) (fun x=>[.inv {j:Nat // j<=wdM (show MQ from x.1)} (fun j=>[(6,.val tI (j.1:Int)),(5,.own 17 0)]++[(7,.any),(8,.any),(9,.any),(10,.any),(11,.any),(12,.any),(13,.any),(14,.any),(17,.any),(18,.any),(19,.any),(20,.any),(21,.any),(22,.any),(23,.any),(24,.any),(25,.any),(26,.any),(27,.any),(28,.any),(29,.any),(30,.any),(31,.any),(32,.any),(33,.any),(34,.any),(35,.any),(36,.any),(37,.any),(38,.any),(39,.any),(40,.any),(41,.any),(42,.any),(43,.any),(44,.any),(45,.any),(46,.any),(47,.any),(48,.any),(49,.any),(50,.any),(51,.any),(52,.any),(53,.any),(54,.any),(55,.any),(56,.any),(57,.any),(58,.any),(59,.any),(60,.any),(61,.any),(62,.any),(63,.any),(64,.any),(65,.any),(66,.any),(67,.any),(68,.any),(69,.any),(70,.any),(71,.any),(72,.any),(73,.any),(74,.any),(75,.any),(76,.any),(77,.any),(78,.any),(79,.any),(80,.any),(81,.any),(82,.any),(83,.any),(84,.any),(85,.any),(86,.any),(87,.any),(88,.any),(89,.any),(90,.any),(91,.any),(92,.any),(93,.any),(94,.any),(95,.any),(96,.any),(97,.any),(98,.any),(99,.any),(100,.any),(101,.any),(102,.any),(103,.any),(104,.any),(105,.any),(106,.any),(107,.any),(108,.any),(109,.any),(110,.any),(111,.any),(112,.any),(113,.any),(114,.any),(115,.any),(116,.any),(117,.any),(118,.any),(119,.any),(120,.any),(121,.any),(122,.any),(123,.any),(124,.any),(125,.any),(126,.any),(127,.any),(128,.any),(129,.any),(130,.any),(131,.any),(132,.any),(133,.any),(134,.any),(135,.any),(136,.any),(137,.any),(138,.any),(139,.any),(140,.any),(141,.any),(142,.any),(143,.any),(144,.any),(145,.any),(146,.any),(147,.any),(148,.any),(149,.any),(150,.any),(151,.any),(152,.any),(153,.any),(154,.any),(155,.any),(156,.any),(157,.any),(158,.any),(159,.any),(160,.any),(161,.any),(162,.any)]) (fun j=>er (show MQ from x.1) j.1 (edm (show MQ from x.1) j.1)) (fun j=>wdM (show MQ from x.1)-j.1) ⟨0,by omega⟩ (fun j=>[
  .inv (a3G (show MQ from x.1) j.1) (fun p=>[(9,.val tI (p.1.1:Int)),(8,.val tI p.1.2)]) (fun p=>er (show MQ from x.1) j.1 (edm (show MQ from x.1) j.1)) (fun p=>(show MQ from x.1).length+1-p.1.1) ⟨((edp (show MQ from x.1) j.1).length,-1),.inl ⟨rfl,aj _,(iL _ _ _).le,fun i h1 h2=>absurd h2 (by show ¬ i<_;omega)⟩⟩ (fun _=>[]),
  .inv {c:Nat // c<=wdM (show MQ from x.1)} (fun c=>[(11,.val tI (c.1:Int))]++[(36,.any),(37,.any),(38,.any),(39,.any),(40,.any),(41,.any),(42,.any),(43,.any),(44,.any),(45,.any),(46,.any),(47,.any),(48,.any),(49,.any),(50,.any),(51,.any),(52,.any),(53,.any),(54,.any),(55,.any),(56,.any),(57,.any),(58,.any),(59,.any),(60,.any),(61,.any),(62,.any),(63,.any),(64,.any),(65,.any),(66,.any),(67,.any),(68,.any),(69,.any),(70,.any),(71,.any),(72,.any),(73,.any),(74,.any),(75,.any),(76,.any),(77,.any),(78,.any)]) (fun c=>er (show MQ from x.1) j.1 (rY (show MQ from x.1) j.1 c.1)++[(10,.box [⟨tQ,edm (show MQ from x.1) j.1 (ekk (show MQ from x.1) j.1) j.1⟩])]) (fun c=>wdM (show MQ from x.1)-c.1) ⟨0,by omega⟩ (fun _=>[]),
  .inv {i:Nat // i<=(show MQ from x.1).length} (fun i=>[(12,.val tI (i.1:Int))]++[(79,.any),(80,.any),(81,.any),(82,.any),(83,.any),(84,.any),(85,.any),(86,.any),(87,.any),(88,.any),(89,.any),(90,.any),(91,.any),(92,.any),(93,.any),(94,.any),(95,.any),(96,.any),(97,.any),(98,.any),(99,.any),(100,.any),(101,.any),(102,.any),(103,.any),(104,.any),(105,.any)]) (fun i=>er (show MQ from x.1) j.1 (wM (rY (show MQ from x.1) j.1 (wdM (show MQ from x.1))) (edp (show MQ from x.1) j.1).length j.1 i.1)) (fun i=>(show MQ from x.1).length-i.1) ⟨0,by omega⟩ (fun i=>[
   .inv {c:Nat // c<=wdM (show MQ from x.1)} (fun c=>[(14,.val tI (c.1:Int))]) (fun c=>er (show MQ from x.1) j.1 (qP (rY (show MQ from x.1) j.1 (wdM (show MQ from x.1))) (edp (show MQ from x.1) j.1).length j.1 i.1 c.1)++[(13,.box [⟨tQ,rY (show MQ from x.1) j.1 (wdM (show MQ from x.1)) i.1 j.1⟩])]) (fun c=>wdM (show MQ from x.1)-c.1) ⟨0,by omega⟩ (fun _=>[])])])]) (fun x hp=>?_)
 obtain⟨a,u⟩:=x
 change List (List Rat) at a
 refine bM (let A₀:=(List.getD a 0 (aC Rat)).length;((List.length a<=1000/\∀ (r:List Rat),r ∈ a->List.length r<=1000)/\True)/\(asT Int 0=0/\a=tab a.length (wdM a) (edm a 0)/\asT (List Int) (aC Int)=aC Int/\True)/\∀ (i:{ j:Nat // j<=wdM a }),let A₁:=(bV (edp a (aA i))).length;let A₂:=(tab a.length (wdM a) (edm a (aA i)));let aQ:=(edp a (aA i)).length;let bJ:=(rY a (aA i) (wdM a));let dA:=(nameAt none (aB A₁).toNat);let dU:=(aB (aA i)).toNat;let fP:=(aB (aA i)<aB A₀);let dJ:=(decide fP==true);let gQ:=(dJ=true->dJ=true/\True);asT Bool true=true/\(asT Int 0<=0/\0<aB a.length/\gQ/\gQ/\(dJ=true->dJ=true/\dJ=true/\True)/\(decide fP=true->dJ=true)/\True)/\ifB (bif decide fP then decide (aB A₁<aB a.length) else false) ((aB A₁=aB aQ/\asT Int (-1)=-1/\tab a.length (wdM a) (edm a (aA i))=tab a.length (wdM a) (edm a (aA i))/\bV (edp a (aA i))=bV (edp a (aA i))/\True)/\∀ (i_1:a3G a (aA i)),let jX:=(aB (aA i_1).1<aB (aH none A₂));let pI:=(aA i_1).2.toNat;let jU:=(some (List.set (aV none A₂) (aB A₁).toNat (nameAt none pI)));let fQ:=(List.set (aV jU A₂) pI dA);let kU:=(rowAt A₂ (nameAt (some fQ) (aB A₁).toNat));let qI:=(aB (aA i_1).1+1);let nS:=(aB (aA i_1).1);let oK:=(rowAt A₂ (nameAt none nS.toNat));asT Bool true=true/\(((decide jX==true)=true->(decide jX==true)=true/\True)/\(decide jX=true->(decide jX==true)=true)/\True)/\ifB (bif decide jX then decide (Prod.snd (aA i_1)<0) else false) ((0<=aB (aA i_1).1/\aB (aA i_1).1<aB (aH none A₂)/\Int.toNat nS<aH none A₂/\0<=aB (aA i)/\aB (aA i)<aB oK.length/\Int.toNat (aB (aA i))<List.length oK/\rsz (List.getD oK dU 0)<=190000000/\True)/\ifB (sgn (Rat.num (List.getD oK dU 0)) != 0) (∃ (i':a3G a (aA i)),List.length a+1-Prod.fst (aA i')<List.length a+1-Prod.fst (aA i_1)/\IntKind.wrap IntKind.i64 qI=aB (aA i').1/\aB (aA i_1).1=Prod.snd (aA i')/\tab a.length (wdM a) (edm a (aA i))=tab a.length (wdM a) (edm a (aA i))/\bV (edp a (aA i))=bV (edp a (aA i))/\True) (∃ (i':a3G a (aA i)),List.length a+1-Prod.fst (aA i')<List.length a+1-Prod.fst (aA i_1)/\IntKind.wrap IntKind.i64 qI=aB (aA i').1/\Prod.snd (aA i_1)=Prod.snd (aA i')/\tab a.length (wdM a) (edm a (aA i))=tab a.length (wdM a) (edm a (aA i))/\bV (edp a (aA i))=bV (edp a (aA i))/\True)) (ifB (decide (Prod.snd (aA i_1)<0)) (∃ (i':{ j:Nat // j<=wdM a }),wdM a-aA i'<wdM a-aA i/\IntKind.wrap IntKind.i64 (aB (aA i)+1)=aB (aA i')/\tab a.length (wdM a) (edm a (aA i))=tab a.length (wdM a) (edm a (aA i'))/\bV (edp a (aA i))=bV (edp a (aA i'))/\True) ((0<=Prod.snd (aA i_1)/\Prod.snd (aA i_1)<aB (aH none A₂)/\Int.toNat (aA i_1).2<aH none A₂/\0<=aB A₁/\aB A₁<aB (aH none A₂)/\Int.toNat (aB A₁)<aH none A₂/\0<=aB A₁/\aB A₁<aB (aH none A₂)/\Int.toNat (aB A₁)<aH none A₂/\0<=Prod.snd (aA i_1)/\Prod.snd (aA i_1)<aB (aH jU A₂)/\Int.toNat (aA i_1).2<aH jU A₂/\True)/\(0<=aB A₁/\aB A₁<aB (aH (some fQ) A₂)/\Int.toNat (aB A₁)<aH (some fQ) A₂/\0<=aB (aA i)/\aB (aA i)<aB kU.length/\Int.toNat (aB (aA i))<List.length kU/\True)/\(asT Int 0=0/\List.Nodup fQ/\List.map (fun(i_2:Nat)=>List.getD A₂ i_2 (aC Rat)) fQ=tab a.length (wdM a) (rY a (aA i) 0)/\bV (edp a (aA i))=bV (edp a (aA i))/\List.getD kU dU 0=edm a (aA i) (ekk a (aA i)) (aA i)/\True)/\∀ (i_2:{ c:Nat // c<=wdM a }),let oL:=(aB (aA i_2)).toNat;let C₁:=(rY a (aA i) (aA i_2));let fU:=(tab a.length (wdM a) C₁);let oM:=(rowAt fU dA).length;asT Bool true=true/\(0<=aB A₁/\aB A₁<aB (aH none fU)/\Int.toNat (aB A₁)<aH none fU/\True)/\ifB (decide (aB (aA i_2)<aB oM)) ((0<=aB A₁/\aB A₁<aB (aH none fU)/\Int.toNat (aB A₁)<aH none fU/\0<=aB A₁/\aB A₁<aB (aH none fU)/\Int.toNat (aB A₁)<aH none fU/\0<=aB (aA i_2)/\aB (aA i_2)<aB oM/\Int.toNat (aB (aA i_2))<List.length (rowAt fU dA)/\(s19 (List.getD (rowAt fU dA) oL 0) (edm a (aA i) (ekk a (aA i)) (aA i))/\edm a (aA i) (ekk a (aA i)) (aA i)≠0)/\0<=aB (aA i_2)/\aB (aA i_2)<aB oM/\Int.toNat (aB (aA i_2))<List.length (rowAt fU dA)/\True)/\∃ (i':{ c:Nat // c<=wdM a }),wdM a-aA i'<wdM a-aA i_2/\IntKind.wrap IntKind.i64 (aB (aA i_2)+1)=aB (aA i')/\List.set fU dA (List.set (rowAt fU dA) oL (List.getD (rowAt fU dA) oL 0 / edm a (aA i) (ekk a (aA i)) (aA i)))=tab a.length (wdM a) (rY a (aA i) (aA i'))/\bV (edp a (aA i))=bV (edp a (aA i))/\edm a (aA i) (ekk a (aA i)) (aA i)=edm a (aA i) (ekk a (aA i)) (aA i)/\True) ((asT Int 0=0/\tab a.length (wdM a) C₁=tab a.length (wdM a) (wM bJ aQ (aA i) 0)/\bV (edp a (aA i))=bV (edp a (aA i))/\True)/\∀ (i_3:{ i:Nat // i<=List.length a }),let jV:=(aB (aA i_3)).toNat;let C₂:=(nameAt none jV);let rQ:=(wM bJ aQ (aA i) (aA i_3));let C₃:=(tab a.length (wdM a) rQ);let AL:=(qP bJ aQ (aA i) (aA i_3) 0);let yF:=(tab a.length (wdM a) AL);let JF:=(List.getD (rowAt C₃ C₂) dU 0);let AZ:=(aB (aA i_3)==aB A₁);let jY:=(AZ==false);asT Bool true=true/\ifB (decide (aB (aA i_3)<aB (aH none C₃))) ((0<=aB (aA i_3)/\aB (aA i_3)<aB (aH none C₃)/\Int.toNat (aB (aA i_3))<aH none C₃/\0<=aB (aA i)/\aB (aA i)<aB (rowAt C₃ C₂).length/\Int.toNat (aB (aA i))<List.length (rowAt C₃ C₂)/\True)/\((jY=true->jY=true/\rsz JF<=190000000/\True)/\(jY=true->jY=true/\True)/\(AZ=false->jY=true)/\True)/\ifB (bif aB (aA i_3)==aB A₁ then true else sgn (Rat.num JF)==0) (∃ (i':{ i:Nat // i<=List.length a }),List.length a-aA i'<List.length a-aA i_3/\IntKind.wrap IntKind.i64 (aB (aA i_3)+1)=aB (aA i')/\tab a.length (wdM a) rQ=tab a.length (wdM a) (wM bJ aQ (aA i) (aA i'))/\bV (edp a (aA i))=bV (edp a (aA i))/\True) ((asT Int 0=0/\nameAt none jV=nameAt none jV/\Int.toNat (aB (aA i))=Int.toNat (aB (aA i))/\List.length C₃=List.length yF/\nameAt none jV=nameAt none jV/\List.length C₃=List.length yF/\Int.toNat (aB (aA i_3))=Int.toNat (aB (aA i_3))/\tab a.length (wdM a) rQ=tab a.length (wdM a) AL/\bV (edp a (aA i))=bV (edp a (aA i))/\List.getD (rowAt C₃ C₂) dU 0=rY a (aA i) (wdM a) (aA i_3) (aA i)/\True)/\∀ (i_4:{ c:Nat // c<=wdM a }),let wS:=(aB (aA i_4)).toNat;let ZF:=(qP bJ aQ (aA i) (aA i_3) (aA i_4));let D₁:=(tab a.length (wdM a) ZF);let D₂:=(List.set (rowAt D₁ C₂) wS (List.getD (rowAt D₁ C₂) wS 0-rY a (aA i) (wdM a) (aA i_3) (aA i)*List.getD (rowAt D₁ dA) wS 0));let QM:=(rowAt D₁ C₂).length;asT Bool true=true/\(0<=aB (aA i_3)/\aB (aA i_3)<aB (aH none D₁)/\Int.toNat (aB (aA i_3))<aH none D₁/\True)/\ifB (decide (aB (aA i_4)<aB QM)) ((0<=aB (aA i_3)/\aB (aA i_3)<aB (aH none D₁)/\Int.toNat (aB (aA i_3))<aH none D₁/\0<=aB (aA i_3)/\aB (aA i_3)<aB (aH none D₁)/\Int.toNat (aB (aA i_3))<aH none D₁/\0<=aB (aA i_4)/\aB (aA i_4)<aB QM/\Int.toNat (aB (aA i_4))<List.length (rowAt D₁ C₂)/\0<=aB A₁/\aB A₁<aB (aH none D₁)/\Int.toNat (aB A₁)<aH none D₁/\0<=aB (aA i_4)/\aB (aA i_4)<aB (rowAt D₁ dA).length/\Int.toNat (aB (aA i_4))<List.length (rowAt D₁ dA)/\s19 (rY a (aA i) (wdM a) (aA i_3) (aA i)) (List.getD (rowAt D₁ dA) wS 0)/\s19 (List.getD (rowAt D₁ C₂) wS 0) (rY a (aA i) (wdM a) (aA i_3) (aA i)*List.getD (rowAt D₁ dA) wS 0)/\0<=aB (aA i_4)/\aB (aA i_4)<aB QM/\Int.toNat (aB (aA i_4))<List.length (rowAt D₁ C₂)/\True)/\∃ (i':{ c:Nat // c<=wdM a }),let ZG:=(qP bJ aQ (aA i) (aA i_3) (aA i'));let QN:=(tab a.length (wdM a) ZG);wdM a-aA i'<wdM a-aA i_4/\IntKind.wrap IntKind.i64 (aB (aA i_4)+1)=aB (aA i')/\nameAt none jV=nameAt none jV/\Int.toNat (aB (aA i))=Int.toNat (aB (aA i))/\List.length (List.set D₁ C₂ D₂)=List.length QN/\nameAt none jV=nameAt none jV/\List.length (List.set D₁ C₂ D₂)=List.length QN/\Int.toNat (aB (aA i_3))=Int.toNat (aB (aA i_3))/\List.set D₁ C₂ D₂=tab a.length (wdM a) ZG/\bV (edp a (aA i))=bV (edp a (aA i))/\rY a (aA i) (wdM a) (aA i_3) (aA i)=rY a (aA i) (wdM a) (aA i_3) (aA i)/\True) (∃ (i':{ i:Nat // i<=List.length a }),List.length a-aA i'<List.length a-aA i_3/\IntKind.wrap IntKind.i64 (aB (aA i_3)+1)=aB (aA i')/\tab a.length (wdM a) ZF=tab a.length (wdM a) (wM bJ aQ (aA i) (aA i'))/\bV (edp a (aA i))=bV (edp a (aA i))/\True))) ((List.length (bV (edp a (aA i)))+List.length (aB (aA i)::aC Int)<=1000000000/\True)/\∃ (i':{ j:Nat // j<=wdM a }),wdM a-aA i'<wdM a-aA i/\IntKind.wrap IntKind.i64 (aB (aA i)+1)=aB (aA i')/\tab a.length (wdM a) rQ=tab a.length (wdM a) (edm a (aA i'))/\bV (edp a (aA i))++aB (aA i)::aC Int=bV (edp a (aA i'))/\True))))) (True/\tab a.length (wdM a) (edm a (aA i))=wY a/\True/\bV (edp a (aA i))=bV (kH a)/\True)) (by kernel_rfl) ?_
 exact b3W a hp
theorem b2s (a b:MQ) (i m n:Nat):List.map (gG m (ent a) (ent b) i) (List.range (m+n))=(List.range m).map (fun j=>(a.getD i []).getD j 0)++(List.range n).map (fun j=>(b.getD i []).getD j 0):=by
 apply Ac
 ·simp
 ·intro j h1 h2
  have h1:j<m+n:=by simpa using h1
  simp only[List.getElem_map,List.getElem_range]
  unfold gG
  by_cases e:j<m
  ·rw[gy e,List.getElem_append_left (by simpa using e)];simp
  ·rw[ig e,List.getElem_append_right (by simpa using e)];simp
theorem okM.IZ {a:MQ} (h:okM a):Proofs.YtgplhbhfdgempaaGreat.IZ a:=⟨by have:=h.r64;omega,fun r hr=>⟨by rw[h.1.2.1 r hr];have:=h.c64;omega,fun q hq=>h.ent hr hq⟩⟩
def b5z:Ctr:=⟨[tM],[tI],fun x=>okE x.1,fun x=>((rkM x.1:Int),())⟩
theorem a8a:aW Tryz.prog 14 b5z:=by
 refine bH (nil0.ad a2L) ⟨[],[],[]⟩ Tryz.func14 rfl (by decide) (fun x=>[]) (fun x hp=>?_)
 obtain⟨a,u⟩:=x
 change List (List Rat) at a
 refine bM ((okE a/\True)/\True/\aB (bV (kH a)).length=aB (rkM a)/\True) (by kernel_rfl) ?_
 have hZ:(⟨false,0,[],[]⟩:aF)=cO:=rfl
 dsimp only[aB,asT,aA,aC,Ty.den,Lf.den] at *
 simp only[hZ,Int.toNat_natCast,aU,ay,au,ni,mg,aH,nameAt,aV,aS,bF,rowAt,iy,iq]
 have hE:okE a:=hp
 exact⟨hE,by rw[pY];rfl⟩
theorem a9c {α:Type} (f:Nat->α) (m n:Nat):((List.range (m+n)).map f).drop m=(List.range n).map (fun j=>f (m+j)):=by
 apply Ac
 ·simp
 ·intro i h1 h2;simp
theorem XP {l:List Nat} {i:Nat} (h:i<l.length):(bV l).getD i 0=((l.getD i 0:Nat):Int):=by
 unfold bV;simp[bf,h]
def c0u:Ctr:=⟨[tM,tM],[tM],fun x=>okM x.1/\okM x.2.1/\(show MQ from x.1).length=(show MQ from x.2.1).length,fun x=>(vM x.1 x.2.1,())⟩
theorem b0W:aW Tryz.prog 108 c0u:=by
 refine bH nil0 ⟨[],[],[(7,tQ),(26,tQ)]⟩ Tryz.func108 rfl (by decide) (fun x=>[.inv {k:Nat // k<=(show MQ from x.1).length} (fun k=>[(6,.val tI (k.1:Int)),(5,.own 7 0)]++[(7,.any),(14,.any),(15,.any),(16,.any),(17,.any),(18,.any),(19,.any),(20,.any),(21,.any),(22,.any),(23,.any),(24,.any),(25,.any),(26,.any),(27,.any)]) (fun k=>[(7,.mat 32 64 tQ none ((vM (show MQ from x.1) (show MQ from x.2.1)).take k.1) 0)]) (fun k=>(show MQ from x.1).length-k.1) ⟨0,by omega⟩ (fun _=>[])]) (fun x hp=>?_)
 obtain⟨a,b,u⟩:=x
 change List (List Rat) at a
 change List (List Rat) at b
 refine bM ((asT Int 0=0/\asT (List (List Rat)) (aC (List Rat))=aC (List Rat)/\True)/\∀ (i:{ k:Nat // k<=List.length a }),asT Bool true=true/\ifB (decide (aB (aA i)<aB a.length)) ((0<=aB (aA i)/\aB (aA i)<aB a.length/\List.length (aC Rat)+List.length (List.getD a (aB (aA i)).toNat (aC Rat))<=1000000000/\0<=aB (aA i)/\aB (aA i)<aB b.length/\List.length (aC Rat++List.getD a (aB (aA i)).toNat (aC Rat))+List.length (List.getD b (aB (aA i)).toNat (aC Rat))<=1000000000/\aH none (List.take (aA i) (vM a b))+1<=1000000000/\True)/\∃ (i':{ k:Nat // k<=List.length a }),List.length a-aA i'<List.length a-aA i/\IntKind.wrap IntKind.i64 (aB (aA i)+1)=aB (aA i')/\List.take (aA i) (vM a b)++(aC Rat++List.getD a (aB (aA i)).toNat (aC Rat)++List.getD b (aB (aA i)).toNat (aC Rat))::aC (List Rat)=List.take (aA i') (vM a b)/\True) (True/\List.take (aA i) (vM a b)=vM a b/\True)) (by kernel_rfl) ?_
 have hZ:(⟨false,0,[],[]⟩:aF)=cO:=rfl
 dsimp only[aB,asT,aA,aC,Ty.den,Lf.den] at *
 simp only[hZ,Int.toNat_natCast,aU,ay,au,ni,mg,aH,nameAt,aV,aS,bF,rowAt,iy,iq]
 have hp:okM a/\okM b/\a.length=b.length:=hp
 obtain⟨ha,hb,hl⟩:=hp
 have q1:=ha.r64
 have q2:=ha.c64
 have q3:=hb.c64
 have hB:(vM a b).length=a.length:=bF
 refine fun i=>⟨fun h1=>?_,fun h1=>jd (by rw[hB];omega)⟩
 have hi:i.1<a.length:=by omega
 have hra:=ha.row hi
 have hrb:=hb.row (show i.1<b.length by omega)
 refine⟨⟨by omega,h1,by show 0+(a.getD i.1 []).length<=_;omega,by omega,by omega,by show (a.getD i.1 []).length+_<=_;omega,by rw[jm];omega⟩,⟨i.1+1,by omega⟩,by simp only;omega,by rw[aZ (by omega) (by omega)];rfl,?_⟩
 rw[Ba]
 have e:(vM a b)[i.1]?=some (a.getD i.1 []++b.getD i.1 []):=by
  have h2:i.1<(vM a b).length:=by rw[hB];exact hi
  rw[dw h2]
  congr 1
  have h3:(vM a b)[i.1]=(vM a b).getD i.1 []:=by rw[bf,dw h2];rfl
  rw[h3];unfold vM;rw[iT hi]
  rw[<-UO hra,<-UO hrb]
  exact b2s _ _ _ _ _
 rw[e];simp
def AA (a:MQ):MQ × Bool × Unit:=if jF a=true then (lZ a,true,()) else ([],false,())
def c0N:Ctr:=⟨[tM],[tM,tB],fun x=>okM x.1/\wdM (show MQ from x.1)=(show MQ from x.1).length/\(show MQ from x.1).length<=32/\zA (show MQ from x.1).length ((show MQ from x.1).length+(show MQ from x.1).length) (gG (show MQ from x.1).length (ent x.1) idm) ((show MQ from x.1).length+(show MQ from x.1).length),fun x=>AA x.1⟩
theorem b1g:aW Tryz.prog 77 c0N:=by
 refine bH (((nil0.an b1f).ad a2L).ad b0W) ⟨[],[],[(32,tQ),(47,tQ)]⟩ Tryz.func77 rfl (by decide) (fun x=>[.inv {k:Nat // k<=(show MQ from x.1).length} (fun k=>[(8,.val tI (k.1:Int)),(7,.own 32 0)]++[(32,.any),(38,.any),(39,.any),(40,.any),(41,.any),(42,.any),(43,.any),(44,.any),(45,.any),(46,.any),(47,.any),(48,.any)]) (fun k=>[(32,.mat 32 64 tQ none ((lZ (show MQ from x.1)).take k.1) 0)]) (fun k=>(show MQ from x.1).length-k.1) ⟨0,by omega⟩ (fun _=>[])]) (fun x hp=>?_)
 obtain⟨a,u⟩:=x
 change List (List Rat) at a
 refine bM (let A₂:=(aB a.length).toNat;let A₁:=(vM a (idM A₂));let bJ:=(aB a.length-1);let dA:=(bV (kH A₁)).length;let A₀:=(aB dA<aB a.length);let aQ:=((decide A₀==false)=true->(decide A₀==false)=true/\True);((0<=aB a.length/\aB a.length<=1000)/\(okM a/\okM (idM A₂)/\List.length a=List.length (idM A₂))/\okE A₁/\True)/\(aQ/\((decide A₀==false)=true->(decide A₀==false)=true/\(decide A₀==false)=true/\0<=IntKind.wrap IntKind.i64 bJ/\IntKind.wrap IntKind.i64 bJ<aB dA/\True)/\aQ/\((decide A₀==false)=true->(decide A₀==false)=true/\(decide A₀==false)=true/\True)/\(decide A₀=false->(decide A₀==false)=true)/\True)/\ifB (bif decide A₀ then true else decide (List.getD (bV (kH A₁)) (IntKind.wrap IntKind.i64 bJ).toNat 0 ≥ aB a.length)) (True/\aC (List Rat)=Prod.fst (AA a)/\True/\false=Prod.fst (AA a).2/\True) ((asT Int 0=0/\asT (List (List Rat)) (aC (List Rat))=aC (List Rat)/\True)/\∀ (i:{ k:Nat // k<=List.length a }),let dJ:=(List.getD (wY A₁) (aB (aA i)).toNat (aC Rat));let dU:=(List.take (aB dJ.length).toNat dJ);asT Bool true=true/\ifB (decide (aB (aA i)<aB a.length)) ((0<=aB (aA i)/\aB (aA i)<aB (wY A₁).length/\0<=aB a.length/\aB a.length<=aB dJ.length/\aB dJ.length<=aB dJ.length/\List.length (aC Rat)+List.length (List.drop A₂ dU)<=1000000000/\aH none (List.take (aA i) (lZ a))+1<=1000000000/\True)/\∃ (i':{ k:Nat // k<=List.length a }),List.length a-aA i'<List.length a-aA i/\IntKind.wrap IntKind.i64 (aB (aA i)+1)=aB (aA i')/\List.take (aA i) (lZ a)++(aC Rat++List.drop A₂ dU)::aC (List Rat)=List.take (aA i') (lZ a)/\True) (True/\List.take (aA i) (lZ a)=Prod.fst (AA a)/\True/\true=Prod.fst (AA a).2/\True))) (by kernel_rfl) ?_
 have hZ:(⟨false,0,[],[]⟩:aF)=cO:=rfl
 dsimp only[aB,asT,aA,aC,Ty.den,Lf.den] at *
 simp only[hZ,Int.toNat_natCast,aU,ay,au,ni,mg,aH,nameAt,aV,aS,bF,rowAt,iy,iq]
 have hp:okM a/\wdM a=a.length/\a.length<=32/\zA a.length (a.length+a.length) (gG a.length (ent a) idm) (a.length+a.length):=hp
 obtain⟨ha,hw,h32,hok⟩:=hp
 have q3:=ha.pos
 have hI:isM (idM a.length) a.length a.length:=yS q3 (by omega)
 have hIk:okM (idM a.length):=(QL q3).ok hI (by omega)
 have hB:isM (vM a (idM a.length)) a.length (a.length+a.length):=by
  unfold vM;rw[hw,hI.wd];exact rP q3 (by omega) (by omega) (by omega)
 have eB:∀ i,i<a.length->∀ c,c<a.length+a.length->ent (vM a (idM a.length)) i c=gG a.length (ent a) idm i c:=fun i hi c hc=>by
  unfold vM;rw[hI.wd,hw,lG hi hc];unfold gG;split
  ·rfl
  ·exact lG hi (by omega)
 have hX:=xZ eB (a.length+a.length) (aj _)
 have hE:okE (vM a (idM a.length)):=by
  refine⟨⟨hB.self,fun i hi j hj=>?_⟩,fun t ht i hi c hc=>?_⟩
  ·rw[hB.len] at hi
   rw[hB.wd] at hj
   rw[eB i hi j hj];exact jg (hok.at hi hj) (by omega)
  ·rw[hB.len] at hi ⊢
   rw[hB.wd] at hc ht
   rw[(xZ eB t ht).2 i hi c hc];exact hok t ht i hi c hc
 have e1:kH (vM a (idM a.length))=(red a.length (gG a.length (ent a) idm) (a.length+a.length)).2:=by unfold kH DF;rw[hB.len,hB.wd];exact hX.1
 have e2:∀ i,i<a.length->List.getD (wY (vM a (idM a.length))) i []=(List.range (a.length+a.length)).map ((red a.length (gG a.length (ent a) idm) (a.length+a.length)).1 i):=fun i hi=>by
  unfold wY DF;rw[hB.len,hB.wd,iT hi]
  exact jl fun c hc=>hX.2 i hi c (uy.mp hc)
 have e3:(wY (vM a (idM a.length))).length=a.length:=by unfold wY;rw[bF,hB.len]
 have ew:IntKind.wrap .i64 ((a.length:Int)-1)=((a.length-1:Nat):Int):=by rw[aZ (by omega) (by omega)];omega
 obtain⟨l,p1,p2⟩:=a6q a.length (gG a.length (ent a) idm) a.length a.length
 have hle:=(iL a.length (gG a.length (ent a) idm) a.length).le
 have hlt:=(iL a.length (gG a.length (ent a) idm) a.length).lt
 have hle2:=(iL a.length (gG a.length (ent a) idm) (a.length+a.length)).le
 simp only[e1,e3,ew,pY,Int.toNat_natCast]
 refine⟨⟨⟨by omega,by omega⟩,⟨ha,hIk,hI.len.symm⟩,hE⟩,⟨fun h=>h,fun h=>⟨h,h,by omega,?_⟩,fun h=>h,fun h=>⟨h,h⟩,fun h=>by rw[jy h];rfl⟩,fun h=>?_,fun h i=>?_⟩
 ·have h:decide (((red a.length (gG a.length (ent a) idm) (a.length+a.length)).2.length:Int)<(a.length:Int))=false:=by simpa using h
  have h:=Ai h
  omega
 ·have hr:jF a=false:=by
   refine jy fun hr=>?_
   have hr:(red a.length (gG a.length (ent a) idm) a.length).2.length=a.length:=hr
   have hs:=KU hr a.length
   rw[hs,jy (by omega)] at h
   have h:=ql h
   rw[XP (by omega)] at h
   have:=hlt _ (xA (d:=0) (show a.length-1<(red a.length (gG a.length (ent a) idm) a.length).2.length by omega))
   omega
  have e:AA a=([],false,()):=by unfold AA;rw[hr];rfl
  rw[e];exact⟨rfl,rfl⟩
 ·have hr:jF a=true:=by
   refine pz ?_
   show (red a.length (gG a.length (ent a) idm) a.length).2.length=a.length
   by_cases f:(((red a.length (gG a.length (ent a) idm) (a.length+a.length)).2.length:Int)<(a.length:Int))
   ·rw[pz f] at h;cases h
   ·rw[jy f] at h
    have h:=Ai h
    rw[XP (by omega),p1] at h
    by_cases g:(red a.length (gG a.length (ent a) idm) a.length).2.length=a.length
    ·exact g
    ·exfalso
     rw[p1,iw] at f
     have hm:((red a.length (gG a.length (ent a) idm) a.length).2++l).getD (a.length-1) 0 ∈ l:=by
      rw[bf,Dn (by omega)]
      exact xA (d:=0) (xs:=l) (i:=a.length-1-(red a.length (gG a.length (ent a) idm) a.length).2.length) (by omega)
     have:=p2 _ hm
     omega
  have e:AA a=(lZ a,true,()):=by unfold AA;rw[hr];rfl
  have hs:red a.length (gG a.length (ent a) idm) (a.length+a.length)=CS a:=KU (ql hr) a.length
  have hl:(lZ a).length=a.length:=bF
  rw[e]
  refine⟨fun h1=>?_,fun h1=>⟨jd (by rw[hl];omega),rfl⟩⟩
  have hi:i.1<a.length:=by omega
  rw[e2 i.1 hi,hs,qw,iq,jd (by simp),a9c]
  refine⟨⟨by omega,h1,by omega,by omega,by omega,by simp;omega,by rw[jm];omega⟩,⟨i.1+1,by omega⟩,by simp only;omega,by rw[aZ (by omega) (by omega)];rfl,?_⟩
  rw[Ba]
  have e4:(lZ a)[i.1]?=some ((List.range a.length).map (fun j=>(CS a).1 i.1 (a.length+j))):=by
   unfold lZ tab;simp[hi]
  rw[e4];simp
end Go.Proofs.YtgplhbhfdgempaaGreat
