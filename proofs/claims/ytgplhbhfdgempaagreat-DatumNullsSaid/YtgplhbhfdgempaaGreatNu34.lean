/-
  Lemmas for the theorem vnulls_holds, part 34 of 36.
-/
import Derived.Test.YtgplhbhfdgempaaGreatNu33
namespace Go.Proofs.YtgplhbhfdgempaaGreat
open Go Go.RowKit
set_option maxRecDepth 100000
set_option maxHeartbeats 1000000
set_option linter.unusedVariables false
set_option linter.unusedSimpArgs false
def trU (a:MQ) (r c:Nat):MQ:=tab (wdM a) a.length fun i j=>if j<r\/j=r/\i<c then ent a j i else 0
def c0K:Ctr:=⟨[tM],[tM],fun x=>okM x.1,fun x=>(trM x.1,())⟩
theorem a5n:aT Tryz.prog 16 c0K:=by
 refine bT (nil0.an a9V) ⟨[],[],[]⟩ Tryz.func16 rfl (by decide) (fun x=>[.inv {k:Nat // k<=(show MQ from x.1).length} (fun r=>[(4,.val tI (r.1:Int))]) (fun r=>[(12,.mat 32 64 tQ none (trU (show MQ from x.1) r.1 0) 0)]) (fun r=>(show MQ from x.1).length-r.1) ⟨0,by omega⟩ (fun r=>[.inv {k:Nat // k<=wdM (show MQ from x.1)} (fun c=>[(5,.val tI (c.1:Int))]) (fun c=>[(12,.mat 32 64 tQ none (trU (show MQ from x.1) r.1 c.1) 0)]) (fun c=>wdM (show MQ from x.1)-c.1) ⟨0,by omega⟩ (fun _=>[])])]) (fun x hp=>?_)
 obtain⟨a,u⟩:=x
 change List (List Rat) at a
 refine bZ (let A₀:=(List.length (List.getD a 0 (aC Rat)));(asT Int 0<=0/\0<aA (List.length a)/\(0<=aA A₀/\aA A₀<=1000/\0<=aA (List.length a)/\aA (List.length a)<=1000)/\True)/\(asT Int 0=0/\FC (Int.toNat (aA A₀)) (Int.toNat (aA (List.length a)))=trU a 0 0/\True)/\∀ (i:{ k:Nat // k<=List.length a }),let A₁:=(List.getD a (Int.toNat (aA (aB i))) (aC Rat));asT Bool true=true/\ifB (decide (aA (aB i)<aA (List.length a))) ((asT Int 0=0/\trU a (aB i) 0=trU a (aB i) 0/\True)/\∀ (i_1:{ k:Nat // k<=wdM a }),let bJ:=(trU a (aB i) (aB i_1));let dU:=(Int.toNat (aA (aB i_1)));let A₂:=(rowAt bJ (nameAt none dU));asT Bool true=true/\(0<=aA (aB i)/\aA (aB i)<aA (List.length a)/\True)/\ifB (decide (aA (aB i_1)<aA (List.length A₁))) ((0<=aA (aB i_1)/\aA (aB i_1)<aA (aH none bJ)/\Int.toNat (aA (aB i_1))<aH none bJ/\0<=aA (aB i)/\aA (aB i)<aA (List.length a)/\0<=aA (aB i_1)/\aA (aB i_1)<aA (List.length A₁)/\0<=aA (aB i)/\aA (aB i)<aA (List.length A₂)/\Int.toNat (aA (aB i))<List.length A₂/\True)/\∃ (i':{ k:Nat // k<=wdM a }),wdM a-aB i'<wdM a-aB i_1/\IntKind.wrap IntKind.i64 (aA (aB i_1)+1)=aA (aB i')/\List.set bJ (nameAt none dU) (List.set A₂ (Int.toNat (aA (aB i))) (List.getD A₁ dU 0))=trU a (aB i) (aB i')/\True) (∃ (i':{ k:Nat // k<=List.length a }),List.length a-aB i'<List.length a-aB i/\IntKind.wrap IntKind.i64 (aA (aB i)+1)=aA (aB i')/\trU a (aB i) (aB i_1)=trU a (aB i') 0/\True)) (True/\trU a (aB i) 0=trM a/\True)) (by kernel_rfl) ?_
 have hZ:(⟨false,0,[],[]⟩:aF)=cZ:=rfl
 dsimp only[aA,asT,aB,aC,Ty.den,Lf.den] at *
 simp only[hZ,Int.toNat_natCast,bG,decide_eq_true_eq,decide_eq_false_iff_not,true_and,and_true,aH,nameAt,aW,aU,bK,rowAt,List.length_set,List.length_range]
 have ha:okM a:=hp
 have q1:=ha.r64
 have q2:=ha.c64
 have q5:=ha.pos
 rw[show (a.getD 0 []).length=wdM a from rfl]
 refine⟨⟨Int.le_refl 0,by omega,by omega,by omega,by omega,by omega⟩,gW fun p _ q _=>(if_neg (by omega)).symm,fun i=>⟨fun h1 c=>?_,fun h1=>gW fun p _ q hq=>if_pos (by omega)⟩⟩
 have hi:i.1<a.length:=by omega
 rw[ha.row hi]
 refine⟨⟨by omega,h1⟩,fun h2=>?_,fun h2=>⟨⟨i.1+1,by omega⟩,by simp only;omega,by rw[bH (by omega) (by omega)];rfl,gW fun p hp q _=>?_⟩⟩
 ·have hc:c.1<wdM a:=by omega
  have e1:(trU a i.1 c.1).length=wdM a:=bK
  have e2:((trU a i.1 c.1).getD c.1 []).length=a.length:=by unfold trU;rw[iV hc];simp
  rw[e1,e2]
  refine⟨⟨by omega,by omega,hc,by omega,by omega,by omega,by omega,by omega,by omega,hi⟩,⟨c.1+1,by omega⟩,by simp only;omega,by rw[bH (by omega) (by omega)];rfl,(TK _ hc).trans (gW fun p _ q _=>?_)⟩
  show (if p=c.1/\q=i.1 then ent a i.1 c.1 else if q<i.1\/q=i.1/\p<c.1 then ent a q p else 0)=if q<i.1\/q=i.1/\p<c.1+1 then ent a q p else 0
  by_cases e:p=c.1/\q=i.1
  ·rw[if_pos e,if_pos (by omega),e.1,e.2]
  ·rw[if_neg e]
   by_cases e3:q<i.1\/q=i.1/\p<c.1
   ·rw[if_pos e3,if_pos (by omega)]
   ·rw[if_neg e3,if_neg (by omega)]
 ·show (if q<i.1\/q=i.1/\p<c.1 then ent a q p else 0)=if q<i.1+1\/q=i.1+1/\p<0 then ent a q p else 0
  by_cases e3:q<i.1\/q=i.1/\p<c.1
  ·rw[if_pos e3,if_pos (by omega)]
  ·rw[if_neg e3,if_neg (by omega)]
abbrev edm (a:MQ) (j:Nat):Mt:=(red a.length (ent a) j).1
abbrev edp (a:MQ) (j:Nat):List Nat:=(red a.length (ent a) j).2
def ekk (a:MQ) (j:Nat):Nat:=fk (edm a j) j (edp a j).length (a.length-(edp a j).length)
def esw (a:MQ) (j:Nat):Mt:=iC (edm a j) (edp a j).length (ekk a j)
def TI (m:Mt) (r c:Nat) (p:Rat):Mt:=fun i d=>if i=r/\d<c then m i d / p else m i d
def vH (m:Mt) (r j t:Nat):Mt:=fun i d=>if i≠r/\i<t then m i d-m i j*m r d else m i d
def oV (m:Mt) (r j t c:Nat):Mt:=fun i d=>if i=t/\d<c then m i d-m i j*m r d else vH m r j t i d
def qO (a:MQ) (j c:Nat):Mt:=TI (esw a j) (edp a j).length c (edm a j (ekk a j) j)
def a2H (a:MQ) (j:Nat):Type:={p:Nat × Int // (p.2=-1/\(edp a j).length<=p.1/\p.1<=a.length/\∀ i,(edp a j).length<=i->i<p.1->edm a j i j=0)\/(∃ k:Nat,p.2=k/\p.1=k+1/\(edp a j).length<=k/\k<a.length/\edm a j k j≠0/\∀ i,(edp a j).length<=i->i<k->edm a j i j=0)}
abbrev er (a:MQ) (j:Nat) (m:Mt):Rho:=[(16,.mat 32 64 tQ none (tab a.length (wdM a) m) 0),(17,.row 3 tI (bI (edp a j)) 0)]
theorem a5p (m:Mt) {r c d:Nat} (p:Rat) (h:c<=d) (i:Nat):TI m r c p i d=m i d:=if_neg (by omega)
theorem VB (m:Mt) {r j t d:Nat}:vH m r j t t d=m t d:=if_neg (by omega)
theorem a7R (m:Mt) {r j t d:Nat}:vH m r j t r d=m r d:=if_neg (by simp)
theorem a5U (m:Mt) {r j t:Nat} (h:t=r\/m t j=0) (i d:Nat):vH m r j t i d=vH m r j (t+1) i d:=by
 unfold vH
 by_cases h1:i≠r/\i<t
 ·rw[if_pos h1,if_pos ⟨h1.1,by omega⟩]
 ·rw[if_neg h1]
  by_cases h2:i≠r/\i<t+1
  ·rw[if_pos h2]
   have h3:i=t:=by omega
   subst h3
   rcases h with h|h
   ·exact absurd h h2.1
   ·rw[h];grind
  ·rw[if_neg h2]
theorem a2P (m:Mt) {r j t:Nat} (i d:Nat):oV m r j t 0 i d=vH m r j t i d:=if_neg (by omega)
theorem a5V (m:Mt) {r j t c:Nat} (ht:t≠r) {d:Nat} (hd:d<c) (i:Nat):oV m r j t c i d=vH m r j (t+1) i d:=by
 unfold oV
 by_cases h1:i=t
 ·subst h1;rw[if_pos ⟨rfl,hd⟩];unfold vH;rw[if_pos ⟨ht,by omega⟩]
 ·rw[if_neg (by omega)];unfold vH
  by_cases h2:i≠r/\i<t
  ·rw[if_pos h2,if_pos ⟨h2.1,by omega⟩]
  ·rw[if_neg h2,if_neg (by omega)]
theorem OB {b c:Bool}:(bif b then c else false)=true↔b=true/\c=true:=by cases b<;>simp
theorem b2n (a:MQ) (hp:okE a):let A₀:=(List.length (List.getD a 0 (aC Rat)));((List.length a<=1000/\∀ (r:List Rat),r ∈ a->List.length r<=1000)/\True)/\(asT Int 0=0/\a=tab (List.length a) (wdM a) (edm a 0)/\asT (List Int) (aC Int)=aC Int/\True)/\∀ (i:{ j:Nat // j<=wdM a }),let A₁:=(List.length (bI (edp a (aB i))));let A₂:=(tab (List.length a) (wdM a) (edm a (aB i)));let bJ:=(List.length (edp a (aB i)));let dU:=(qO a (aB i) (wdM a));let eH:=(nameAt none (Int.toNat (aA A₁)));let jE:=(Int.toNat (aA (aB i)));asT Bool true=true/\(asT Int 0<=0/\0<aA (List.length a)/\((decide (aA (aB i)<aA A₀)==true)=true->(decide (aA (aB i)<aA A₀)==true)=true/\True)/\((decide (aA (aB i)<aA A₀)==true)=true->(decide (aA (aB i)<aA A₀)==true)=true/\True)/\((decide (aA (aB i)<aA A₀)==true)=true->(decide (aA (aB i)<aA A₀)==true)=true/\(decide (aA (aB i)<aA A₀)==true)=true/\True)/\(decide (aA (aB i)<aA A₀)=true->(decide (aA (aB i)<aA A₀)==true)=true)/\True)/\ifB (bif decide (aA (aB i)<aA A₀) then decide (aA A₁<aA (List.length a)) else false) ((aA A₁=aA bJ/\asT Int (-1)=-1/\tab (List.length a) (wdM a) (edm a (aB i))=tab (List.length a) (wdM a) (edm a (aB i))/\bI (edp a (aB i))=bI (edp a (aB i))/\True)/\∀ (i_1:a2H a (aB i)),let CW:=(Int.toNat (Prod.snd (aB i_1)));let iQ:=(some (List.set (aW none A₂) (Int.toNat (aA A₁)) (nameAt none CW)));let iU:=(List.set (aW iQ A₂) CW eH);let qY:=(rowAt A₂ (nameAt (some iU) (Int.toNat (aA A₁))));let JI:=(aA (Prod.fst (aB i_1))+1);let OW:=(aA (Prod.fst (aB i_1)));let jP:=(rowAt A₂ (nameAt none (Int.toNat OW)));asT Bool true=true/\(((decide (aA (Prod.fst (aB i_1))<aA (aH none A₂))==true)=true->(decide (aA (Prod.fst (aB i_1))<aA (aH none A₂))==true)=true/\True)/\(decide (aA (Prod.fst (aB i_1))<aA (aH none A₂))=true->(decide (aA (Prod.fst (aB i_1))<aA (aH none A₂))==true)=true)/\True)/\ifB (bif decide (aA (Prod.fst (aB i_1))<aA (aH none A₂)) then decide (Prod.snd (aB i_1)<0) else false) ((0<=aA (Prod.fst (aB i_1))/\aA (Prod.fst (aB i_1))<aA (aH none A₂)/\Int.toNat OW<aH none A₂/\0<=aA (aB i)/\aA (aB i)<aA (List.length jP)/\Int.toNat (aA (aB i))<List.length jP/\rsz (List.getD jP jE 0)<=190000000/\True)/\ifB (sgn (Rat.num (List.getD jP jE 0)) != 0) (∃ (i':a2H a (aB i)),List.length a+1-Prod.fst (aB i')<List.length a+1-Prod.fst (aB i_1)/\IntKind.wrap IntKind.i64 JI=aA (Prod.fst (aB i'))/\aA (Prod.fst (aB i_1))=Prod.snd (aB i')/\tab (List.length a) (wdM a) (edm a (aB i))=tab (List.length a) (wdM a) (edm a (aB i))/\bI (edp a (aB i))=bI (edp a (aB i))/\True) (∃ (i':a2H a (aB i)),List.length a+1-Prod.fst (aB i')<List.length a+1-Prod.fst (aB i_1)/\IntKind.wrap IntKind.i64 JI=aA (Prod.fst (aB i'))/\Prod.snd (aB i_1)=Prod.snd (aB i')/\tab (List.length a) (wdM a) (edm a (aB i))=tab (List.length a) (wdM a) (edm a (aB i))/\bI (edp a (aB i))=bI (edp a (aB i))/\True)) (ifB (decide (Prod.snd (aB i_1)<0)) (∃ (i':{ j:Nat // j<=wdM a }),wdM a-aB i'<wdM a-aB i/\IntKind.wrap IntKind.i64 (aA (aB i)+1)=aA (aB i')/\tab (List.length a) (wdM a) (edm a (aB i))=tab (List.length a) (wdM a) (edm a (aB i'))/\bI (edp a (aB i))=bI (edp a (aB i'))/\True) ((0<=Prod.snd (aB i_1)/\Prod.snd (aB i_1)<aA (aH none A₂)/\Int.toNat (Prod.snd (aB i_1))<aH none A₂/\0<=aA A₁/\aA A₁<aA (aH none A₂)/\Int.toNat (aA A₁)<aH none A₂/\0<=aA A₁/\aA A₁<aA (aH none A₂)/\Int.toNat (aA A₁)<aH none A₂/\0<=Prod.snd (aB i_1)/\Prod.snd (aB i_1)<aA (aH iQ A₂)/\Int.toNat (Prod.snd (aB i_1))<aH iQ A₂/\True)/\(0<=aA A₁/\aA A₁<aA (aH (some iU) A₂)/\Int.toNat (aA A₁)<aH (some iU) A₂/\0<=aA (aB i)/\aA (aB i)<aA (List.length qY)/\Int.toNat (aA (aB i))<List.length qY/\True)/\(asT Int 0=0/\List.Nodup iU/\List.map (fun(i_2:Nat)=>List.getD A₂ i_2 (aC Rat)) iU=tab (List.length a) (wdM a) (qO a (aB i) 0)/\bI (edp a (aB i))=bI (edp a (aB i))/\List.getD qY jE 0=edm a (aB i) (ekk a (aB i)) (aB i)/\True)/\∀ (i_2:{ c:Nat // c<=wdM a }),let DW:=(Int.toNat (aA (aB i_2)));let JK:=(qO a (aB i) (aB i_2));let iK:=(tab (List.length a) (wdM a) JK);let JJ:=(List.length (rowAt iK eH));asT Bool true=true/\(0<=aA A₁/\aA A₁<aA (aH none iK)/\Int.toNat (aA A₁)<aH none iK/\True)/\ifB (decide (aA (aB i_2)<aA JJ)) ((0<=aA A₁/\aA A₁<aA (aH none iK)/\Int.toNat (aA A₁)<aH none iK/\0<=aA A₁/\aA A₁<aA (aH none iK)/\Int.toNat (aA A₁)<aH none iK/\0<=aA (aB i_2)/\aA (aB i_2)<aA JJ/\Int.toNat (aA (aB i_2))<List.length (rowAt iK eH)/\(s19 (List.getD (rowAt iK eH) DW 0) (edm a (aB i) (ekk a (aB i)) (aB i))/\edm a (aB i) (ekk a (aB i)) (aB i)≠0)/\0<=aA (aB i_2)/\aA (aB i_2)<aA JJ/\Int.toNat (aA (aB i_2))<List.length (rowAt iK eH)/\True)/\∃ (i':{ c:Nat // c<=wdM a }),wdM a-aB i'<wdM a-aB i_2/\IntKind.wrap IntKind.i64 (aA (aB i_2)+1)=aA (aB i')/\List.set iK eH (List.set (rowAt iK eH) DW (List.getD (rowAt iK eH) DW 0 / edm a (aB i) (ekk a (aB i)) (aB i)))=tab (List.length a) (wdM a) (qO a (aB i) (aB i'))/\bI (edp a (aB i))=bI (edp a (aB i))/\edm a (aB i) (ekk a (aB i)) (aB i)=edm a (aB i) (ekk a (aB i)) (aB i)/\True) ((asT Int 0=0/\tab (List.length a) (wdM a) JK=tab (List.length a) (wdM a) (vH dU bJ (aB i) 0)/\bI (edp a (aB i))=bI (edp a (aB i))/\True)/\∀ (i_3:{ i:Nat // i<=List.length a }),let kK:=(Int.toNat (aA (aB i_3)));let mD:=(nameAt none kK);let C₁:=(vH dU bJ (aB i) (aB i_3));let iW:=(tab (List.length a) (wdM a) C₁);let C₂:=(oV dU bJ (aB i) (aB i_3) 0);let C₃:=(tab (List.length a) (wdM a) C₂);let JL:=(List.getD (rowAt iW mD) jE 0);asT Bool true=true/\ifB (decide (aA (aB i_3)<aA (aH none iW))) ((0<=aA (aB i_3)/\aA (aB i_3)<aA (aH none iW)/\Int.toNat (aA (aB i_3))<aH none iW/\0<=aA (aB i)/\aA (aB i)<aA (List.length (rowAt iW mD))/\Int.toNat (aA (aB i))<List.length (rowAt iW mD)/\True)/\((((aA (aB i_3)==aA A₁)==false)=true->((aA (aB i_3)==aA A₁)==false)=true/\rsz JL<=190000000/\True)/\(((aA (aB i_3)==aA A₁)==false)=true->((aA (aB i_3)==aA A₁)==false)=true/\True)/\((aA (aB i_3)==aA A₁)=false->((aA (aB i_3)==aA A₁)==false)=true)/\True)/\ifB (bif aA (aB i_3)==aA A₁ then true else sgn (Rat.num JL)==0) (∃ (i':{ i:Nat // i<=List.length a }),List.length a-aB i'<List.length a-aB i_3/\IntKind.wrap IntKind.i64 (aA (aB i_3)+1)=aA (aB i')/\tab (List.length a) (wdM a) C₁=tab (List.length a) (wdM a) (vH dU bJ (aB i) (aB i'))/\bI (edp a (aB i))=bI (edp a (aB i))/\True) ((asT Int 0=0/\nameAt none kK=nameAt none kK/\Int.toNat (aA (aB i))=Int.toNat (aA (aB i))/\List.length iW=List.length C₃/\nameAt none kK=nameAt none kK/\List.length iW=List.length C₃/\Int.toNat (aA (aB i_3))=Int.toNat (aA (aB i_3))/\tab (List.length a) (wdM a) C₁=tab (List.length a) (wdM a) C₂/\bI (edp a (aB i))=bI (edp a (aB i))/\List.getD (rowAt iW mD) jE 0=qO a (aB i) (wdM a) (aB i_3) (aB i)/\True)/\∀ (i_4:{ c:Nat // c<=wdM a }),let JM:=(Int.toNat (aA (aB i_4)));let a7h:=(oV dU bJ (aB i) (aB i_3) (aB i_4));let iY:=(tab (List.length a) (wdM a) a7h);let a2z:=(List.set (rowAt iY mD) JM (List.getD (rowAt iY mD) JM 0-qO a (aB i) (wdM a) (aB i_3) (aB i)*List.getD (rowAt iY eH) JM 0));let a2A:=(List.length (rowAt iY mD));asT Bool true=true/\(0<=aA (aB i_3)/\aA (aB i_3)<aA (aH none iY)/\Int.toNat (aA (aB i_3))<aH none iY/\True)/\ifB (decide (aA (aB i_4)<aA a2A)) ((0<=aA (aB i_3)/\aA (aB i_3)<aA (aH none iY)/\Int.toNat (aA (aB i_3))<aH none iY/\0<=aA (aB i_3)/\aA (aB i_3)<aA (aH none iY)/\Int.toNat (aA (aB i_3))<aH none iY/\0<=aA (aB i_4)/\aA (aB i_4)<aA a2A/\Int.toNat (aA (aB i_4))<List.length (rowAt iY mD)/\0<=aA A₁/\aA A₁<aA (aH none iY)/\Int.toNat (aA A₁)<aH none iY/\0<=aA (aB i_4)/\aA (aB i_4)<aA (List.length (rowAt iY eH))/\Int.toNat (aA (aB i_4))<List.length (rowAt iY eH)/\s19 (qO a (aB i) (wdM a) (aB i_3) (aB i)) (List.getD (rowAt iY eH) JM 0)/\s19 (List.getD (rowAt iY mD) JM 0) (qO a (aB i) (wdM a) (aB i_3) (aB i)*List.getD (rowAt iY eH) JM 0)/\0<=aA (aB i_4)/\aA (aB i_4)<aA a2A/\Int.toNat (aA (aB i_4))<List.length (rowAt iY mD)/\True)/\∃ (i':{ c:Nat // c<=wdM a }),let a7i:=(oV dU bJ (aB i) (aB i_3) (aB i'));let D₁:=(tab (List.length a) (wdM a) a7i);wdM a-aB i'<wdM a-aB i_4/\IntKind.wrap IntKind.i64 (aA (aB i_4)+1)=aA (aB i')/\nameAt none kK=nameAt none kK/\Int.toNat (aA (aB i))=Int.toNat (aA (aB i))/\List.length (List.set iY mD a2z)=List.length D₁/\nameAt none kK=nameAt none kK/\List.length (List.set iY mD a2z)=List.length D₁/\Int.toNat (aA (aB i_3))=Int.toNat (aA (aB i_3))/\List.set iY mD a2z=tab (List.length a) (wdM a) a7i/\bI (edp a (aB i))=bI (edp a (aB i))/\qO a (aB i) (wdM a) (aB i_3) (aB i)=qO a (aB i) (wdM a) (aB i_3) (aB i)/\True) (∃ (i':{ i:Nat // i<=List.length a }),List.length a-aB i'<List.length a-aB i_3/\IntKind.wrap IntKind.i64 (aA (aB i_3)+1)=aA (aB i')/\tab (List.length a) (wdM a) a7h=tab (List.length a) (wdM a) (vH dU bJ (aB i) (aB i'))/\bI (edp a (aB i))=bI (edp a (aB i))/\True))) ((List.length (bI (edp a (aB i)))+List.length (aA (aB i)::aC Int)<=1000000000/\True)/\∃ (i':{ j:Nat // j<=wdM a }),wdM a-aB i'<wdM a-aB i/\IntKind.wrap IntKind.i64 (aA (aB i)+1)=aA (aB i')/\tab (List.length a) (wdM a) C₁=tab (List.length a) (wdM a) (edm a (aB i'))/\bI (edp a (aB i))++aA (aB i)::aC Int=bI (edp a (aB i'))/\True))))) (True/\tab (List.length a) (wdM a) (edm a (aB i))=vG a/\True/\bI (edp a (aB i))=bI (fE a)/\True):=by
 have hZ:(⟨false,0,[],[]⟩:aF)=cZ:=rfl
 dsimp only[aA,asT,aB,aC,Ty.den,Lf.den] at *
 simp only[hZ,Int.toNat_natCast,bG,decide_eq_true_eq,decide_eq_false_iff_not,true_and,and_true,aH,nameAt,aW,aU,bK,rowAt,List.length_set,List.length_range,oI]
 have ha:=hp.1
 have hok:=hp.2
 have q1:=ha.r64
 have q2:=ha.c64
 have q3:=ha.c1
 have q4:=ha.pos
 have hw:∀ q:Nat,(q:Int)<=1000->IntKind.wrap .i64 ((q:Int)+1)=((q+1:Nat):Int):=fun q hq=>by rw[bH (by omega) (by omega)];rfl
 have hw0:(List.getD a 0 []).length=wdM a:=rfl
 simp only[hw0]
 refine⟨⟨by omega,fun r hr=>by rw[ha.1.2.1 r hr];omega⟩,ha.1.tab.symm,fun i=>⟨⟨Int.le_refl 0,ha.poz,fun h=>h,fun h=>h,fun h=>⟨h,h⟩,fun h=>by rw[decide_eq_true h];rfl⟩,fun h p=>?_,fun h=>?_⟩⟩
 ·obtain⟨g1,g2⟩:=OB.mp h
  have g1:=of_decide_eq_true g1
  have g2:=of_decide_eq_true g2
  have hjC:i.1<wdM a:=by omega
  have hPR:(edp a i.1).length<a.length:=by omega
  have E:=gX a.length (ent a) i.1
  have hle:=E.le
  have zm:∀ b,b<a.length->∀ c,c<wdM a->rsz (edm a i.1 b c)<=10000000:=hok i.1 (by omega)
  have zn:∀ b,b<a.length->∀ c,c<wdM a->rsz (edm a (i.1+1) b c)<=10000000:=hok (i.1+1) (by omega)
  refine⟨⟨fun h=>h,fun h=>by rw[decide_eq_true h];rfl⟩,fun h2=>?_,fun h2=>⟨fun h3=>?_,fun h3=>?_⟩⟩
  ·obtain⟨f1,f2⟩:=OB.mp h2
   have f1:=of_decide_eq_true f1
   have f2:=of_decide_eq_true f2
   rcases p.2 with⟨e1,l1,l2,l0⟩|⟨k,e1,l1⟩
   ·have hk:p.1.1<a.length:=by omega
    simp only[iV hk,gI hjC,List.length_map,List.length_range]
    have z:=zm p.1.1 hk i.1 hjC
    refine⟨⟨by omega,f1,hk,by omega,by omega,hjC,by omega⟩,fun h4=>⟨⟨(p.1.1+1,(p.1.1:Int)),.inr ⟨p.1.1,rfl,rfl,l1,hk,fun e=>?_,l0⟩⟩,by show a.length+1-(p.1.1+1)<a.length+1-p.1.1;omega,hw _ (by omega),rfl⟩,fun h4=>⟨⟨(p.1.1+1,-1),.inl ⟨rfl,by show _<=p.1.1+1;omega,by show p.1.1+1<=_;omega,fun b h5 h6=>?_⟩⟩,by show a.length+1-(p.1.1+1)<a.length+1-p.1.1;omega,hw _ (by omega),e1⟩⟩
    ·rw[e] at h4;cases h4
    ·have h6:b<p.1.1+1:=h6
     by_cases eb:b=p.1.1
     ·rw[eb];exact nN.mp (by simpa using h4)
     ·exact l0 b h5 (by omega)
   ·have:p.1.2=(k:Int):=e1
    omega
  ·rcases p.2 with⟨e1,l1,l2,l0⟩|⟨k,e1,l1⟩
   ·have hk:p.1.1=a.length:=by
     by_cases f:(p.1.1:Int)<a.length
     ·rw[OB.mpr ⟨decide_eq_true f,decide_eq_true h3⟩] at h2;cases h2
     ·omega
    have hkk:ekk a i.1=a.length:=by rw[<-hk];exact a0O _ _ _ _ _ l1 (by omega) l0 (fun h=>by omega)
    have hst:red a.length (ent a) (i.1+1)=red a.length (ent a) i.1:=a1J hkk
    refine⟨⟨i.1+1,by omega⟩,by simp only;omega,hw _ (by omega),?_,?_⟩
    ·show _=tab _ _ (red a.length (ent a) (i.1+1)).1
     rw[hst]
    ·show _=bI (red a.length (ent a) (i.1+1)).2
     rw[hst]
   ·have:p.1.2=(k:Int):=e1
    omega
  ·rcases p.2 with⟨e1,l1⟩|⟨k,e1,e0,hk1,hkR,hne,hk0⟩
   ·have:p.1.2=-1:=e1
    omega
   have hkk:ekk a i.1=k:=a0O _ _ _ _ _ hk1 (by omega) hk0 (fun _=>hne)
   have hst:red a.length (ent a) (i.1+1)=(jZ (edm a i.1) (edp a i.1).length k i.1,edp a i.1++[i.1]):=a1K hkk (by omega)
   have e2:edm a (i.1+1)=jZ (edm a i.1) (edp a i.1).length k i.1:=congrArg Prod.fst hst
   have e3:edp a (i.1+1)=edp a i.1++[i.1]:=congrArg Prod.snd hst
   rw[e2] at zn
   have hr:=hPR
   rw[e1]
   have hes:∀ c,qO a i.1 c=TI (iC (edm a i.1) (edp a i.1).length k) (edp a i.1).length c (edm a i.1 k i.1):=fun c=>by unfold qO esw;rw[hkk]
   simp only[hes,hkk,Int.toNat_natCast,swp_get hr,iV hkR,gI hjC,List.length_map,List.length_range]
   clear h2 h3 e1 e0 p
   generalize hP:(edp a i.1).length=r at *
   generalize hM:edm a i.1=m at *
   have hsr:∀ d,iC m r k r d=m k d:=fun d=>by unfold iC;rw[if_pos rfl]
   have zs:∀ b,b<a.length->∀ d,d<wdM a->rsz (iC m r k b d)<=10000000:=fun b hb d hd=>by
    unfold iC;split
    ·exact zm _ hkR d hd
    ·split
     ·exact zm _ hr d hd
     ·exact zm _ hb d hd
   have zp:=zm k hkR i.1 hjC
   refine⟨⟨by omega,by omega,by omega,by omega,by omega,by omega,by omega,by omega,by omega,by omega,by omega,by omega⟩,⟨by omega,by omega,by omega,by omega,by omega,hjC⟩,⟨b0w _ hr hkR,?_,trivial⟩,fun c=>⟨⟨by omega,by omega,by omega⟩,fun h4=>?_,fun h4=>?_⟩⟩
   ·rw[b0v hr hkR]
    exact gW fun b _ d _=>(a5p _ _ (Nat.zero_le _) _).symm
   ·rw[iV hr] at h4 ⊢
    simp only[List.length_map,List.length_range] at h4 ⊢
    have hc:c.1<wdM a:=by omega
    rw[gI hc,a5p _ _ (Nat.le_refl _),hsr]
    have z3:=zm k hkR c.1 hc
    refine⟨⟨by omega,by omega,by omega,by omega,by omega,by omega,by omega,by omega,hc,⟨⟨by omega,by omega⟩,hne⟩,by omega,by omega,hc⟩,⟨c.1+1,by omega⟩,by simp only;omega,hw _ (by omega),?_⟩
    rw[<-iV (f:=TI (iC m r k) r c.1 (m k i.1)) hr]
    refine(TK _ hr).trans (gW fun b _ d _=>?_)
    show (if b=r/\d=c.1 then m k c.1 / m k i.1 else TI (iC m r k) r c.1 (m k i.1) b d)=TI (iC m r k) r (c.1+1) (m k i.1) b d
    unfold TI
    by_cases eb:b=r/\d=c.1
    ·rw[if_pos eb,if_pos ⟨eb.1,by omega⟩,eb.1,eb.2,hsr]
    ·rw[if_neg eb]
     by_cases ec:b=r/\d<c.1
     ·rw[if_pos ec,if_pos ⟨ec.1,by omega⟩]
     ·rw[if_neg ec,if_neg (by omega)]
   ·rw[iV hr] at h4
    simp only[List.length_map,List.length_range] at h4
    have hc:c.1=wdM a:=by have:=c.2;omega
    rw[hc]
    have hS:∀ b,b<a.length->∀ d,d<wdM a->vH (TI (iC m r k) r (wdM a) (m k i.1)) r i.1 a.length b d=jZ m r k i.1 b d:=fun b hb d hd=>by
     rw[<-b0l (R:=a.length) (C:=wdM a) (m:=m) (r:=r) (k:=k) (j:=i.1) b hb d hd]
     unfold vH TI
     by_cases e:b=r
     ·subst e;rw[if_neg (by simp),if_pos ⟨rfl,hd⟩,if_pos rfl,hsr]
     ·rw[if_pos ⟨e,hb⟩,if_neg (by simp[e]),if_neg (by simp[e]),if_pos ⟨rfl,hd⟩,if_neg e]
    generalize hN:TI (iC m r k) r (wdM a) (m k i.1)=s at *
    have hrs:∀ d,d<wdM a->rsz (s r d)<=10000000:=fun d hd=>by
     have:=zn r hr d hd
     rw[<-hS r hr d hd,a7R] at this;exact this
    have has:∀ b,b<a.length->∀ d,d<wdM a->rsz (s b d)<=10000000:=fun b hb d hd=>by
     by_cases e:b=r
     ·rw[e];exact hrs d hd
     ·rw[<-hN];unfold TI;rw[if_neg (by simp[e])];exact zs b hb d hd
    refine⟨gW fun b _ d _=>(if_neg (by omega)).symm,fun t=>⟨fun h5=>?_,fun h5=>?_⟩⟩
    ·have ht:t.1<a.length:=by omega
     simp only[iV ht,gI hjC,List.length_map,List.length_range,VB]
     have z4:=has t.1 ht i.1 hjC
     refine⟨⟨by omega,by omega,ht,by omega,by omega,hjC⟩,⟨fun h=>⟨h,by omega⟩,fun h=>h,fun h=>by rw[h];rfl⟩,fun h6=>⟨⟨t.1+1,by omega⟩,by simp only;omega,hw _ (by omega),gW fun b _ d _=>a5U s ?_ b d⟩,fun h6=>?_⟩
     ·by_cases e:t.1=r
      ·exact .inl e
      ·right
       rw[show ((t.1:Int)==(r:Int))=false from beq_eq_false_iff_ne.mpr (fun h=>e (by omega))] at h6
       have h6:(sgn (s t.1 i.1).num==0)=true:=h6
       exact nN.mp (by simpa using h6)
     ·have htr:t.1≠r:=fun e=>by
       rw[e,show (((r:Nat):Int)==(r:Int))=true by simp] at h6;cases h6
      refine⟨⟨gW fun b _ d _=>(a2P s b d).symm,trivial⟩,fun c=>⟨⟨by omega,by omega,ht⟩,fun h7=>?_,fun h7=>?_⟩⟩
      ·have h7:=of_decide_eq_true h7
       have hc:c.1<wdM a:=by omega
       have et:oV s r i.1 t.1 c.1 t.1 c.1=s t.1 c.1:=by unfold oV;rw[if_neg (by omega)];exact VB s
       have er':oV s r i.1 t.1 c.1 r c.1=s r c.1:=by unfold oV;rw[if_neg (by omega)];exact a7R s
       have z5:=has t.1 ht c.1 hc
       have z6:=hrs c.1 hc
       have z7:=IW (s t.1 i.1) (s r c.1)
       simp only[iV ht,iV hr,gI hc,List.length_map,List.length_range,et,er']
       refine⟨⟨by omega,by omega,ht,by omega,by omega,ht,by omega,by omega,hc,by omega,by omega,hr,by omega,by omega,hc,⟨by omega,by omega⟩,⟨by omega,by omega⟩,by omega,by omega,hc⟩,⟨c.1+1,by omega⟩,by simp only;omega,hw _ (by omega),?_⟩
       rw[<-iV (f:=oV s r i.1 t.1 c.1) ht]
       refine(TK _ ht).trans (gW fun b _ d _=>?_)
       show (if b=t.1/\d=c.1 then s t.1 c.1-s t.1 i.1*s r c.1 else oV s r i.1 t.1 c.1 b d)=oV s r i.1 t.1 (c.1+1) b d
       unfold oV
       by_cases eb:b=t.1/\d=c.1
       ·rw[if_pos eb,if_pos ⟨eb.1,by omega⟩,eb.1,eb.2]
       ·rw[if_neg eb]
        by_cases ec:b=t.1/\d<c.1
        ·rw[if_pos ec,if_pos ⟨ec.1,by omega⟩]
        ·rw[if_neg ec,if_neg (by omega)]
      ·have h7:=of_decide_eq_false h7
       exact⟨⟨t.1+1,by omega⟩,by simp only;omega,hw _ (by omega),gW fun b _ d hd=>a5V s htr (by omega) b⟩
    ·have ht:t.1=a.length:=by have:=t.2;omega
     have hl:=(OL a.length (ent a) i.1).1
     refine⟨by simp;omega,⟨i.1+1,by omega⟩,by simp only;omega,hw _ (by omega),?_,?_⟩
     ·rw[ht]
      show _=tab _ _ (edm a (i.1+1))
      rw[e2];exact gW fun b hb d hd=>hS b hb d hd
     ·show _=bI (edp a (i.1+1))
      rw[e3];simp[bI]
 ·have hle:=(gX a.length (ent a) i.1).le
  have e:red a.length (ent a) (wdM a)=red a.length (ent a) i.1:=by
   by_cases f:i.1<wdM a
   ·have g:(red a.length (ent a) i.1).2.length=a.length:=by
     by_cases g:(edp a i.1).length<a.length
     ·rw[OB.mpr ⟨decide_eq_true (by omega),decide_eq_true (by omega)⟩] at h;cases h
     ·have:(red a.length (ent a) i.1).2.length=(edp a i.1).length:=rfl
      omega
    have:=a1I g (wdM a-i.1)
    rwa [show i.1+(wdM a-i.1)=wdM a by omega] at this
   ·rw[show i.1=wdM a by have:=i.2;omega]
  refine⟨?_,?_⟩
  ·show _=tab a.length (wdM a) (red a.length (ent a) (wdM a)).1
   rw[e]
  ·show _=bI (red a.length (ent a) (wdM a)).2
   rw[e]
def b8C:Ctr:=⟨[tM],[tM,.list tI],fun x=>okE x.1,fun x=>(vG x.1,bI (fE x.1),())⟩
theorem a1H:aT Tryz.prog 53 b8C:=by
 refine bT (((((nil0.ad b8d).ad b8e).ad b8f).ad b8g).an b2l) ⟨[10,13],[],[]⟩ Tryz.func53 rfl (by decide) (fun x=>[.inv {j:Nat // j<=wdM (show MQ from x.1)} (fun j=>[(6,.val tI (j.1:Int)),(5,.own 17 0)]++[(7,.any),(8,.any),(9,.any),(10,.any),(11,.any),(12,.any),(13,.any),(14,.any),(17,.any),(18,.any),(19,.any),(20,.any),(21,.any),(22,.any),(23,.any),(24,.any),(25,.any),(26,.any),(27,.any),(28,.any),(29,.any),(30,.any),(31,.any),(32,.any),(33,.any),(34,.any),(35,.any),(36,.any),(37,.any),(38,.any),(39,.any),(40,.any),(41,.any),(42,.any),(43,.any),(44,.any),(45,.any),(46,.any),(47,.any),(48,.any),(49,.any),(50,.any),(51,.any),(52,.any),(53,.any),(54,.any),(55,.any),(56,.any),(57,.any),(58,.any),(59,.any),(60,.any),(61,.any),(62,.any),(63,.any),(64,.any),(65,.any),(66,.any),(67,.any),(68,.any),(69,.any),(70,.any),(71,.any),(72,.any),(73,.any),(74,.any),(75,.any),(76,.any),(77,.any),(78,.any),(79,.any),(80,.any),(81,.any),(82,.any),(83,.any),(84,.any),(85,.any),(86,.any),(87,.any),(88,.any),(89,.any),(90,.any),(91,.any),(92,.any),(93,.any),(94,.any),(95,.any),(96,.any),(97,.any),(98,.any),(99,.any),(100,.any),(101,.any),(102,.any),(103,.any),(104,.any),(105,.any),(106,.any),(107,.any),(108,.any),(109,.any),(110,.any),(111,.any),(112,.any),(113,.any),(114,.any),(115,.any),(116,.any),(117,.any),(118,.any),(119,.any),(120,.any),(121,.any),(122,.any),(123,.any),(124,.any),(125,.any),(126,.any),(127,.any),(128,.any),(129,.any),(130,.any),(131,.any),(132,.any),(133,.any),(134,.any),(135,.any),(136,.any),(137,.any),(138,.any),(139,.any),(140,.any),(141,.any),(142,.any),(143,.any),(144,.any),(145,.any),(146,.any),(147,.any),(148,.any),(149,.any),(150,.any),(151,.any),(152,.any),(153,.any),(154,.any),(155,.any),(156,.any),(157,.any),(158,.any),(159,.any),(160,.any),(161,.any),(162,.any)]) (fun j=>er (show MQ from x.1) j.1 (edm (show MQ from x.1) j.1)) (fun j=>wdM (show MQ from x.1)-j.1) ⟨0,by omega⟩ (fun j=>[
  .inv (a2H (show MQ from x.1) j.1) (fun p=>[(9,.val tI (p.1.1:Int)),(8,.val tI p.1.2)]) (fun p=>er (show MQ from x.1) j.1 (edm (show MQ from x.1) j.1)) (fun p=>(show MQ from x.1).length+1-p.1.1) ⟨((edp (show MQ from x.1) j.1).length,-1),.inl ⟨rfl,Nat.le_refl _,(gX _ _ _).le,fun i h1 h2=>absurd h2 (by show ¬ i<_;omega)⟩⟩ (fun _=>[]),
  .inv {c:Nat // c<=wdM (show MQ from x.1)} (fun c=>[(11,.val tI (c.1:Int))]++[(36,.any),(37,.any),(38,.any),(39,.any),(40,.any),(41,.any),(42,.any),(43,.any),(44,.any),(45,.any),(46,.any),(47,.any),(48,.any),(49,.any),(50,.any),(51,.any),(52,.any),(53,.any),(54,.any),(55,.any),(56,.any),(57,.any),(58,.any),(59,.any),(60,.any),(61,.any),(62,.any),(63,.any),(64,.any),(65,.any),(66,.any),(67,.any),(68,.any),(69,.any),(70,.any),(71,.any),(72,.any),(73,.any),(74,.any),(75,.any),(76,.any),(77,.any),(78,.any)]) (fun c=>er (show MQ from x.1) j.1 (qO (show MQ from x.1) j.1 c.1)++[(10,.box [⟨tQ,edm (show MQ from x.1) j.1 (ekk (show MQ from x.1) j.1) j.1⟩])]) (fun c=>wdM (show MQ from x.1)-c.1) ⟨0,by omega⟩ (fun _=>[]),
  .inv {i:Nat // i<=(show MQ from x.1).length} (fun i=>[(12,.val tI (i.1:Int))]++[(79,.any),(80,.any),(81,.any),(82,.any),(83,.any),(84,.any),(85,.any),(86,.any),(87,.any),(88,.any),(89,.any),(90,.any),(91,.any),(92,.any),(93,.any),(94,.any),(95,.any),(96,.any),(97,.any),(98,.any),(99,.any),(100,.any),(101,.any),(102,.any),(103,.any),(104,.any),(105,.any)]) (fun i=>er (show MQ from x.1) j.1 (vH (qO (show MQ from x.1) j.1 (wdM (show MQ from x.1))) (edp (show MQ from x.1) j.1).length j.1 i.1)) (fun i=>(show MQ from x.1).length-i.1) ⟨0,by omega⟩ (fun i=>[
   .inv {c:Nat // c<=wdM (show MQ from x.1)} (fun c=>[(14,.val tI (c.1:Int))]) (fun c=>er (show MQ from x.1) j.1 (oV (qO (show MQ from x.1) j.1 (wdM (show MQ from x.1))) (edp (show MQ from x.1) j.1).length j.1 i.1 c.1)++[(13,.box [⟨tQ,qO (show MQ from x.1) j.1 (wdM (show MQ from x.1)) i.1 j.1⟩])]) (fun c=>wdM (show MQ from x.1)-c.1) ⟨0,by omega⟩ (fun _=>[])])])]) (fun x hp=>?_)
 obtain⟨a,u⟩:=x
 change List (List Rat) at a
 refine bZ (let A₀:=(List.length (List.getD a 0 (aC Rat)));((List.length a<=1000/\∀ (r:List Rat),r ∈ a->List.length r<=1000)/\True)/\(asT Int 0=0/\a=tab (List.length a) (wdM a) (edm a 0)/\asT (List Int) (aC Int)=aC Int/\True)/\∀ (i:{ j:Nat // j<=wdM a }),let A₁:=(List.length (bI (edp a (aB i))));let A₂:=(tab (List.length a) (wdM a) (edm a (aB i)));let bJ:=(List.length (edp a (aB i)));let dU:=(qO a (aB i) (wdM a));let eH:=(nameAt none (Int.toNat (aA A₁)));let jE:=(Int.toNat (aA (aB i)));asT Bool true=true/\(asT Int 0<=0/\0<aA (List.length a)/\((decide (aA (aB i)<aA A₀)==true)=true->(decide (aA (aB i)<aA A₀)==true)=true/\True)/\((decide (aA (aB i)<aA A₀)==true)=true->(decide (aA (aB i)<aA A₀)==true)=true/\True)/\((decide (aA (aB i)<aA A₀)==true)=true->(decide (aA (aB i)<aA A₀)==true)=true/\(decide (aA (aB i)<aA A₀)==true)=true/\True)/\(decide (aA (aB i)<aA A₀)=true->(decide (aA (aB i)<aA A₀)==true)=true)/\True)/\ifB (bif decide (aA (aB i)<aA A₀) then decide (aA A₁<aA (List.length a)) else false) ((aA A₁=aA bJ/\asT Int (-1)=-1/\tab (List.length a) (wdM a) (edm a (aB i))=tab (List.length a) (wdM a) (edm a (aB i))/\bI (edp a (aB i))=bI (edp a (aB i))/\True)/\∀ (i_1:a2H a (aB i)),let CW:=(Int.toNat (Prod.snd (aB i_1)));let iQ:=(some (List.set (aW none A₂) (Int.toNat (aA A₁)) (nameAt none CW)));let iU:=(List.set (aW iQ A₂) CW eH);let qY:=(rowAt A₂ (nameAt (some iU) (Int.toNat (aA A₁))));let JI:=(aA (Prod.fst (aB i_1))+1);let OW:=(aA (Prod.fst (aB i_1)));let jP:=(rowAt A₂ (nameAt none (Int.toNat OW)));asT Bool true=true/\(((decide (aA (Prod.fst (aB i_1))<aA (aH none A₂))==true)=true->(decide (aA (Prod.fst (aB i_1))<aA (aH none A₂))==true)=true/\True)/\(decide (aA (Prod.fst (aB i_1))<aA (aH none A₂))=true->(decide (aA (Prod.fst (aB i_1))<aA (aH none A₂))==true)=true)/\True)/\ifB (bif decide (aA (Prod.fst (aB i_1))<aA (aH none A₂)) then decide (Prod.snd (aB i_1)<0) else false) ((0<=aA (Prod.fst (aB i_1))/\aA (Prod.fst (aB i_1))<aA (aH none A₂)/\Int.toNat OW<aH none A₂/\0<=aA (aB i)/\aA (aB i)<aA (List.length jP)/\Int.toNat (aA (aB i))<List.length jP/\rsz (List.getD jP jE 0)<=190000000/\True)/\ifB (sgn (Rat.num (List.getD jP jE 0)) != 0) (∃ (i':a2H a (aB i)),List.length a+1-Prod.fst (aB i')<List.length a+1-Prod.fst (aB i_1)/\IntKind.wrap IntKind.i64 JI=aA (Prod.fst (aB i'))/\aA (Prod.fst (aB i_1))=Prod.snd (aB i')/\tab (List.length a) (wdM a) (edm a (aB i))=tab (List.length a) (wdM a) (edm a (aB i))/\bI (edp a (aB i))=bI (edp a (aB i))/\True) (∃ (i':a2H a (aB i)),List.length a+1-Prod.fst (aB i')<List.length a+1-Prod.fst (aB i_1)/\IntKind.wrap IntKind.i64 JI=aA (Prod.fst (aB i'))/\Prod.snd (aB i_1)=Prod.snd (aB i')/\tab (List.length a) (wdM a) (edm a (aB i))=tab (List.length a) (wdM a) (edm a (aB i))/\bI (edp a (aB i))=bI (edp a (aB i))/\True)) (ifB (decide (Prod.snd (aB i_1)<0)) (∃ (i':{ j:Nat // j<=wdM a }),wdM a-aB i'<wdM a-aB i/\IntKind.wrap IntKind.i64 (aA (aB i)+1)=aA (aB i')/\tab (List.length a) (wdM a) (edm a (aB i))=tab (List.length a) (wdM a) (edm a (aB i'))/\bI (edp a (aB i))=bI (edp a (aB i'))/\True) ((0<=Prod.snd (aB i_1)/\Prod.snd (aB i_1)<aA (aH none A₂)/\Int.toNat (Prod.snd (aB i_1))<aH none A₂/\0<=aA A₁/\aA A₁<aA (aH none A₂)/\Int.toNat (aA A₁)<aH none A₂/\0<=aA A₁/\aA A₁<aA (aH none A₂)/\Int.toNat (aA A₁)<aH none A₂/\0<=Prod.snd (aB i_1)/\Prod.snd (aB i_1)<aA (aH iQ A₂)/\Int.toNat (Prod.snd (aB i_1))<aH iQ A₂/\True)/\(0<=aA A₁/\aA A₁<aA (aH (some iU) A₂)/\Int.toNat (aA A₁)<aH (some iU) A₂/\0<=aA (aB i)/\aA (aB i)<aA (List.length qY)/\Int.toNat (aA (aB i))<List.length qY/\True)/\(asT Int 0=0/\List.Nodup iU/\List.map (fun(i_2:Nat)=>List.getD A₂ i_2 (aC Rat)) iU=tab (List.length a) (wdM a) (qO a (aB i) 0)/\bI (edp a (aB i))=bI (edp a (aB i))/\List.getD qY jE 0=edm a (aB i) (ekk a (aB i)) (aB i)/\True)/\∀ (i_2:{ c:Nat // c<=wdM a }),let DW:=(Int.toNat (aA (aB i_2)));let JK:=(qO a (aB i) (aB i_2));let iK:=(tab (List.length a) (wdM a) JK);let JJ:=(List.length (rowAt iK eH));asT Bool true=true/\(0<=aA A₁/\aA A₁<aA (aH none iK)/\Int.toNat (aA A₁)<aH none iK/\True)/\ifB (decide (aA (aB i_2)<aA JJ)) ((0<=aA A₁/\aA A₁<aA (aH none iK)/\Int.toNat (aA A₁)<aH none iK/\0<=aA A₁/\aA A₁<aA (aH none iK)/\Int.toNat (aA A₁)<aH none iK/\0<=aA (aB i_2)/\aA (aB i_2)<aA JJ/\Int.toNat (aA (aB i_2))<List.length (rowAt iK eH)/\(s19 (List.getD (rowAt iK eH) DW 0) (edm a (aB i) (ekk a (aB i)) (aB i))/\edm a (aB i) (ekk a (aB i)) (aB i)≠0)/\0<=aA (aB i_2)/\aA (aB i_2)<aA JJ/\Int.toNat (aA (aB i_2))<List.length (rowAt iK eH)/\True)/\∃ (i':{ c:Nat // c<=wdM a }),wdM a-aB i'<wdM a-aB i_2/\IntKind.wrap IntKind.i64 (aA (aB i_2)+1)=aA (aB i')/\List.set iK eH (List.set (rowAt iK eH) DW (List.getD (rowAt iK eH) DW 0 / edm a (aB i) (ekk a (aB i)) (aB i)))=tab (List.length a) (wdM a) (qO a (aB i) (aB i'))/\bI (edp a (aB i))=bI (edp a (aB i))/\edm a (aB i) (ekk a (aB i)) (aB i)=edm a (aB i) (ekk a (aB i)) (aB i)/\True) ((asT Int 0=0/\tab (List.length a) (wdM a) JK=tab (List.length a) (wdM a) (vH dU bJ (aB i) 0)/\bI (edp a (aB i))=bI (edp a (aB i))/\True)/\∀ (i_3:{ i:Nat // i<=List.length a }),let kK:=(Int.toNat (aA (aB i_3)));let mD:=(nameAt none kK);let C₁:=(vH dU bJ (aB i) (aB i_3));let iW:=(tab (List.length a) (wdM a) C₁);let C₂:=(oV dU bJ (aB i) (aB i_3) 0);let C₃:=(tab (List.length a) (wdM a) C₂);let JL:=(List.getD (rowAt iW mD) jE 0);asT Bool true=true/\ifB (decide (aA (aB i_3)<aA (aH none iW))) ((0<=aA (aB i_3)/\aA (aB i_3)<aA (aH none iW)/\Int.toNat (aA (aB i_3))<aH none iW/\0<=aA (aB i)/\aA (aB i)<aA (List.length (rowAt iW mD))/\Int.toNat (aA (aB i))<List.length (rowAt iW mD)/\True)/\((((aA (aB i_3)==aA A₁)==false)=true->((aA (aB i_3)==aA A₁)==false)=true/\rsz JL<=190000000/\True)/\(((aA (aB i_3)==aA A₁)==false)=true->((aA (aB i_3)==aA A₁)==false)=true/\True)/\((aA (aB i_3)==aA A₁)=false->((aA (aB i_3)==aA A₁)==false)=true)/\True)/\ifB (bif aA (aB i_3)==aA A₁ then true else sgn (Rat.num JL)==0) (∃ (i':{ i:Nat // i<=List.length a }),List.length a-aB i'<List.length a-aB i_3/\IntKind.wrap IntKind.i64 (aA (aB i_3)+1)=aA (aB i')/\tab (List.length a) (wdM a) C₁=tab (List.length a) (wdM a) (vH dU bJ (aB i) (aB i'))/\bI (edp a (aB i))=bI (edp a (aB i))/\True) ((asT Int 0=0/\nameAt none kK=nameAt none kK/\Int.toNat (aA (aB i))=Int.toNat (aA (aB i))/\List.length iW=List.length C₃/\nameAt none kK=nameAt none kK/\List.length iW=List.length C₃/\Int.toNat (aA (aB i_3))=Int.toNat (aA (aB i_3))/\tab (List.length a) (wdM a) C₁=tab (List.length a) (wdM a) C₂/\bI (edp a (aB i))=bI (edp a (aB i))/\List.getD (rowAt iW mD) jE 0=qO a (aB i) (wdM a) (aB i_3) (aB i)/\True)/\∀ (i_4:{ c:Nat // c<=wdM a }),let JM:=(Int.toNat (aA (aB i_4)));let a7h:=(oV dU bJ (aB i) (aB i_3) (aB i_4));let iY:=(tab (List.length a) (wdM a) a7h);let a2z:=(List.set (rowAt iY mD) JM (List.getD (rowAt iY mD) JM 0-qO a (aB i) (wdM a) (aB i_3) (aB i)*List.getD (rowAt iY eH) JM 0));let a2A:=(List.length (rowAt iY mD));asT Bool true=true/\(0<=aA (aB i_3)/\aA (aB i_3)<aA (aH none iY)/\Int.toNat (aA (aB i_3))<aH none iY/\True)/\ifB (decide (aA (aB i_4)<aA a2A)) ((0<=aA (aB i_3)/\aA (aB i_3)<aA (aH none iY)/\Int.toNat (aA (aB i_3))<aH none iY/\0<=aA (aB i_3)/\aA (aB i_3)<aA (aH none iY)/\Int.toNat (aA (aB i_3))<aH none iY/\0<=aA (aB i_4)/\aA (aB i_4)<aA a2A/\Int.toNat (aA (aB i_4))<List.length (rowAt iY mD)/\0<=aA A₁/\aA A₁<aA (aH none iY)/\Int.toNat (aA A₁)<aH none iY/\0<=aA (aB i_4)/\aA (aB i_4)<aA (List.length (rowAt iY eH))/\Int.toNat (aA (aB i_4))<List.length (rowAt iY eH)/\s19 (qO a (aB i) (wdM a) (aB i_3) (aB i)) (List.getD (rowAt iY eH) JM 0)/\s19 (List.getD (rowAt iY mD) JM 0) (qO a (aB i) (wdM a) (aB i_3) (aB i)*List.getD (rowAt iY eH) JM 0)/\0<=aA (aB i_4)/\aA (aB i_4)<aA a2A/\Int.toNat (aA (aB i_4))<List.length (rowAt iY mD)/\True)/\∃ (i':{ c:Nat // c<=wdM a }),let a7i:=(oV dU bJ (aB i) (aB i_3) (aB i'));let D₁:=(tab (List.length a) (wdM a) a7i);wdM a-aB i'<wdM a-aB i_4/\IntKind.wrap IntKind.i64 (aA (aB i_4)+1)=aA (aB i')/\nameAt none kK=nameAt none kK/\Int.toNat (aA (aB i))=Int.toNat (aA (aB i))/\List.length (List.set iY mD a2z)=List.length D₁/\nameAt none kK=nameAt none kK/\List.length (List.set iY mD a2z)=List.length D₁/\Int.toNat (aA (aB i_3))=Int.toNat (aA (aB i_3))/\List.set iY mD a2z=tab (List.length a) (wdM a) a7i/\bI (edp a (aB i))=bI (edp a (aB i))/\qO a (aB i) (wdM a) (aB i_3) (aB i)=qO a (aB i) (wdM a) (aB i_3) (aB i)/\True) (∃ (i':{ i:Nat // i<=List.length a }),List.length a-aB i'<List.length a-aB i_3/\IntKind.wrap IntKind.i64 (aA (aB i_3)+1)=aA (aB i')/\tab (List.length a) (wdM a) a7h=tab (List.length a) (wdM a) (vH dU bJ (aB i) (aB i'))/\bI (edp a (aB i))=bI (edp a (aB i))/\True))) ((List.length (bI (edp a (aB i)))+List.length (aA (aB i)::aC Int)<=1000000000/\True)/\∃ (i':{ j:Nat // j<=wdM a }),wdM a-aB i'<wdM a-aB i/\IntKind.wrap IntKind.i64 (aA (aB i)+1)=aA (aB i')/\tab (List.length a) (wdM a) C₁=tab (List.length a) (wdM a) (edm a (aB i'))/\bI (edp a (aB i))++aA (aB i)::aC Int=bI (edp a (aB i'))/\True))))) (True/\tab (List.length a) (wdM a) (edm a (aB i))=vG a/\True/\bI (edp a (aB i))=bI (fE a)/\True)) (by kernel_rfl) ?_
 exact b2n a hp
end Go.Proofs.YtgplhbhfdgempaaGreat
