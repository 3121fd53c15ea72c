/-
  Lemmas for the theorem vrounds_holds, part 30 of 33.
-/
import Derived.Test.YtidfgdchcpmnfaaGreatRd06
import Derived.Test.YtidfgdchcpmnfaaGreatRd20
import Derived.Test.YtidfgdchcpmnfaaGreatRd23
import Derived.Test.YtidfgdchcpmnfaaGreatRd25
import Derived.Test.YtidfgdchcpmnfaaGreatRd29
namespace Go.Proofs.YtidfgdchcpmnfaaGreat
open Go Go.RowKit
set_option maxRecDepth 100000
set_option maxHeartbeats 1000000
set_option linter.unusedVariables false
set_option linter.unusedSimpArgs false
def qL (l:List Rat) (k:Nat):Rat:=l.getD k 0
theorem YB {q:Nat->Rat} {j:Nat} (hj:j<4) (h:sgn (q j).num≠0):true=nzB q:=by
 symm
 unfold nzB
 rw[Bool.not_eq_true',<-Bool.not_eq_true]
 intro e
 have:=kN.1 e j hj
 rw[decide_eq_true_eq] at this
 rw[this] at h
 exact h rfl
theorem b7v {q:Nat->Rat} (h:∀ j,j<4->sgn (q j).num=0):false=nzB q:=by
 symm
 unfold nzB
 rw[Bool.not_eq_false']
 refine kN.2 (fun j hj=>?_)
 rw[decide_eq_true_eq]
 exact Rat.num_eq_zero.1 (oD.1 (h j hj))
def cNz:Ctr:=⟨[.arr 4 tQ],[tB],fun x=>(show List Rat from x.1).length=4/\∀ j,j<4->rsz (qL x.1 j)<=400000000,fun x=>(nzB (qL x.1),())⟩
noncomputable def LD0:Lib:=LC2.add 109 (cQI (fun x=>rsz x<=1000000000) (fun x=>sgn x.num)) (a7v fun v x w h hl=>lX v x w h hl)
theorem a0W:dI Tryz.prog 57 cNz:=by
 refine fO LD0 [4] Tryz.func57 rfl (by decide) (fun x=>[.turns 5 [6] [] []]) (fun x hp=>?_)
 obtain⟨x,u⟩:=x
 change List Rat at x
 refine iO ((asT Int 0<=0/\asT Int 0<4/\True)/\(rsz (List.getD x 0 0)<=1000000000/\True)/\ifB (sgn (Rat.num (List.getD x 0 0)) != 0) (True/\true=nzB (qL x)/\True) (True/\asT Bool true=true/\(asT Int 0<=1/\asT Int 1<4/\True)/\(rsz (List.getD x 1 0)<=1000000000/\True)/\ifB (sgn (Rat.num (List.getD x 1 0)) != 0) (True/\true=nzB (qL x)/\True) (True/\asT Bool true=true/\(asT Int 0<=2/\asT Int 2<4/\True)/\(rsz (List.getD x 2 0)<=1000000000/\True)/\ifB (sgn (Rat.num (List.getD x 2 0)) != 0) (True/\true=nzB (qL x)/\True) (True/\asT Bool true=true/\(asT Int 0<=3/\asT Int 3<4/\True)/\(rsz (List.getD x 3 0)<=1000000000/\True)/\ifB (sgn (Rat.num (List.getD x 3 0)) != 0) (True/\true=nzB (qL x)/\True) (True/\asT Bool true=true/\True/\false=nzB (qL x)/\True))))) (by kernel_rfl) ?_
 obtain⟨hl,hb⟩:=hp
 dsimp only[aF,asT] at *
 have hx:∀ j,x.getD j 0=qL x j:=fun _=>rfl
 simp only[hx]
 generalize qL x=q at *
 have r:∀ j,j<4->rsz (q j)<=1000000000:=fun j hj=>Nat.le_trans (hb j hj) (by omega)
 simp only[gU,bne_iff_ne,bne_eq_false_iff_eq,ne_eq,true_and,and_true]
 exact⟨⟨by omega,by omega⟩,r 0 (by omega),fun h=>YB (j:=0) (by omega) h,fun h0=>⟨⟨by omega,by omega⟩,r 1 (by omega),fun h=>YB (j:=1) (by omega) h,fun h1=>⟨⟨by omega,by omega⟩,r 2 (by omega),fun h=>YB (j:=2) (by omega) h,fun h2=>⟨⟨by omega,by omega⟩,r 3 (by omega),fun h=>YB (j:=3) (by omega) h,fun h3=>b7v (fun j hj=>by
  match j,hj with
  | 0,_=>exact h0
  | 1,_=>exact h1
  | 2,_=>exact h2
  | 3,_=>exact h3)⟩⟩⟩⟩
def b6B:Ctr:=⟨[.arr 4 tQ],[mP,tI],fun x=>(show List Rat from x.1).length=4/\(∀ j,j<4->rsz (qL x.1 j)<=50000000)/\∃ j,j<4/\qL x.1 j≠0,fun x=>aU (aX (qL x.1))⟩
theorem a0b:dI Tryz.prog 58 b6B:=by
 refine fO LD0 [2,4,6,7,9,10,11] Tryz.func58 rfl (by decide) (fun x=>[.inv Le4 (fun k=>[(15,.val tI (k.1:Int))]) (fun k=>[(2,.box [⟨tI,(0:Int)⟩,⟨tI,(0:Int)⟩,⟨tI,(0:Int)⟩,⟨tI,(0:Int)⟩]),(4,.box [⟨tZ,dM (qL x.1) k.1⟩])]) (fun k=>4-k.1) ⟨0,by omega⟩ (fun _=>[]),.turns 5 [24] [2,4,7] []]) (fun x hp=>?_)
 obtain⟨x,u⟩:=x
 change List Rat at x
 refine iO (let x0z:=(aF (Rat.den (List.getD x 0 0)));let x1z:=(aF (Rat.den (List.getD x 1 0)));let x2z:=(aF (Rat.den (List.getD x 2 0)));let x3z:=(aF (Rat.den (List.getD x 3 0)));let x4z:=(List.getD x 0 0);let x5z:=(List.getD x 1 0);let x6z:=(List.getD x 2 0);(aZ 1/\True)/\(asT Int 0=0/\asT Int 0=0/\asT Int 0=0/\asT Int 0=0/\asT Int 0=0/\1=dM (qL x) 0/\True)/\∀ (i:Le4),asT Bool true=true/\ifB (decide (aF (aA i)<4)) ((0<=aF (aA i)/\aF (aA i)<4/\True)/\((isz (dM (qL x) (aA i))<=1000000000/\isz (aF (Rat.den (List.getD x (Int.toNat (aF (aA i))) 0)))<=1000000000)/\True)/\∃ (i':Le4),4-aA i'<4-aA i/\IntKind.wrap IntKind.i64 (aF (aA i)+1)=aF (aA i')/\asT Int 0=0/\asT Int 0=0/\asT Int 0=0/\asT Int 0=0/\dM (qL x) (aA i)*aF (Rat.den (List.getD x (Int.toNat (aF (aA i))) 0))=dM (qL x) (aA i')/\True) ((asT Int 0<=0/\asT Int 0<4/\True)/\((isz (dM (qL x) (aA i))<=1000000000/\isz x0z<=1000000000/\aF (Rat.den x4z)≠0)/\True)/\((isz (Rat.num x4z)<=1000000000/\isz (Int.fdiv (dM (qL x) (aA i)) x0z)<=1000000000)/\True)/\(asT Int 0=0/\asT Int 0=0/\asT Int 0=0/\asT Int 0=0/\dM (qL x) (aA i)=dM (qL x) (aA i)/\Rat.num x4z*Int.fdiv (dM (qL x) (aA i)) x0z=Rat.num x4z*Int.fdiv (dM (qL x) (aA i)) x0z/\asT Int 0=0/\asT Int 0=0/\asT Int 0=0/\True)/\asT Bool true=true/\(asT Int 0<=1/\asT Int 1<4/\True)/\((isz (dM (qL x) (aA i))<=1000000000/\isz x1z<=1000000000/\aF (Rat.den x5z)≠0)/\True)/\((isz (Rat.num x5z)<=1000000000/\isz (Int.fdiv (dM (qL x) (aA i)) x1z)<=1000000000)/\True)/\(asT Int 0=0/\asT Int 0=0/\asT Int 0=0/\asT Int 0=0/\dM (qL x) (aA i)=dM (qL x) (aA i)/\Rat.num x4z*Int.fdiv (dM (qL x) (aA i)) x0z=Rat.num x4z*Int.fdiv (dM (qL x) (aA i)) x0z/\Rat.num x5z*Int.fdiv (dM (qL x) (aA i)) x1z=Rat.num x5z*Int.fdiv (dM (qL x) (aA i)) x1z/\asT Int 0=0/\asT Int 0=0/\True)/\asT Bool true=true/\(asT Int 0<=2/\asT Int 2<4/\True)/\((isz (dM (qL x) (aA i))<=1000000000/\isz x2z<=1000000000/\aF (Rat.den x6z)≠0)/\True)/\((isz (Rat.num x6z)<=1000000000/\isz (Int.fdiv (dM (qL x) (aA i)) x2z)<=1000000000)/\True)/\(asT Int 0=0/\asT Int 0=0/\asT Int 0=0/\asT Int 0=0/\dM (qL x) (aA i)=dM (qL x) (aA i)/\Rat.num x4z*Int.fdiv (dM (qL x) (aA i)) x0z=Rat.num x4z*Int.fdiv (dM (qL x) (aA i)) x0z/\Rat.num x5z*Int.fdiv (dM (qL x) (aA i)) x1z=Rat.num x5z*Int.fdiv (dM (qL x) (aA i)) x1z/\Rat.num x6z*Int.fdiv (dM (qL x) (aA i)) x2z=Rat.num x6z*Int.fdiv (dM (qL x) (aA i)) x2z/\asT Int 0=0/\True)/\asT Bool true=true/\(asT Int 0<=3/\asT Int 3<4/\True)/\((isz (dM (qL x) (aA i))<=1000000000/\isz x3z<=1000000000/\aF (Rat.den (List.getD x 3 0))≠0)/\True)/\((isz (Rat.num (List.getD x 3 0))<=1000000000/\isz (Int.fdiv (dM (qL x) (aA i)) x3z)<=1000000000)/\True)/\(asT Int 0=0/\asT Int 0=0/\asT Int 0=0/\asT Int 0=0/\dM (qL x) (aA i)=dM (qL x) (aA i)/\Rat.num x4z*Int.fdiv (dM (qL x) (aA i)) x0z=Rat.num x4z*Int.fdiv (dM (qL x) (aA i)) x0z/\Rat.num x5z*Int.fdiv (dM (qL x) (aA i)) x1z=Rat.num x5z*Int.fdiv (dM (qL x) (aA i)) x1z/\Rat.num x6z*Int.fdiv (dM (qL x) (aA i)) x2z=Rat.num x6z*Int.fdiv (dM (qL x) (aA i)) x2z/\Rat.num (List.getD x 3 0)*Int.fdiv (dM (qL x) (aA i)) x3z=Rat.num (List.getD x 3 0)*Int.fdiv (dM (qL x) (aA i)) x3z/\True)/\asT Bool true=true/\((List.length (Rat.num x4z*Int.fdiv (dM (qL x) (aA i)) x0z::Rat.num x5z*Int.fdiv (dM (qL x) (aA i)) x1z::Rat.num x6z*Int.fdiv (dM (qL x) (aA i)) x2z::Rat.num (List.getD x 3 0)*Int.fdiv (dM (qL x) (aA i)) x3z::aV Int)=4/\(∀ (j:Nat),j<4->isz (xsL (Rat.num x4z*Int.fdiv (dM (qL x) (aA i)) x0z::Rat.num x5z*Int.fdiv (dM (qL x) (aA i)) x1z::Rat.num x6z*Int.fdiv (dM (qL x) (aA i)) x2z::Rat.num (List.getD x 3 0)*Int.fdiv (dM (qL x) (aA i)) x3z::aV Int) j)<=400000000)/\∃ (j:Nat),j<4/\xsL (Rat.num x4z*Int.fdiv (dM (qL x) (aA i)) x0z::Rat.num x5z*Int.fdiv (dM (qL x) (aA i)) x1z::Rat.num x6z*Int.fdiv (dM (qL x) (aA i)) x2z::Rat.num (List.getD x 3 0)*Int.fdiv (dM (qL x) (aA i)) x3z::aV Int) j≠0)/\True)/\True/\(Prod.fst (Prod.fst (aU (xsL (Rat.num x4z*Int.fdiv (dM (qL x) (aA i)) x0z::Rat.num x5z*Int.fdiv (dM (qL x) (aA i)) x1z::Rat.num x6z*Int.fdiv (dM (qL x) (aA i)) x2z::Rat.num (List.getD x 3 0)*Int.fdiv (dM (qL x) (aA i)) x3z::aV Int)))),Prod.fst (Prod.snd (Prod.fst (aU (xsL (Rat.num x4z*Int.fdiv (dM (qL x) (aA i)) x0z::Rat.num x5z*Int.fdiv (dM (qL x) (aA i)) x1z::Rat.num x6z*Int.fdiv (dM (qL x) (aA i)) x2z::Rat.num (List.getD x 3 0)*Int.fdiv (dM (qL x) (aA i)) x3z::aV Int))))),Prod.fst (Prod.snd (Prod.snd (Prod.fst (aU (xsL (Rat.num x4z*Int.fdiv (dM (qL x) (aA i)) x0z::Rat.num x5z*Int.fdiv (dM (qL x) (aA i)) x1z::Rat.num x6z*Int.fdiv (dM (qL x) (aA i)) x2z::Rat.num (List.getD x 3 0)*Int.fdiv (dM (qL x) (aA i)) x3z::aV Int)))))),Prod.fst (Prod.snd (Prod.snd (Prod.snd (Prod.fst (aU (xsL (Rat.num x4z*Int.fdiv (dM (qL x) (aA i)) x0z::Rat.num x5z*Int.fdiv (dM (qL x) (aA i)) x1z::Rat.num x6z*Int.fdiv (dM (qL x) (aA i)) x2z::Rat.num (List.getD x 3 0)*Int.fdiv (dM (qL x) (aA i)) x3z::aV Int))))))),())=Prod.fst (aU (aX (qL x)))/\True/\Prod.fst (Prod.snd (aU (xsL (Rat.num x4z*Int.fdiv (dM (qL x) (aA i)) x0z::Rat.num x5z*Int.fdiv (dM (qL x) (aA i)) x1z::Rat.num x6z*Int.fdiv (dM (qL x) (aA i)) x2z::Rat.num (List.getD x 3 0)*Int.fdiv (dM (qL x) (aA i)) x3z::aV Int))))=Prod.fst (Prod.snd (aU (aX (qL x))))/\True)) (by kernel_rfl) ?_
 obtain⟨hl,hb,hn⟩:=hp
 dsimp only[aF,asT,aA] at *
 have hx:∀ j,x.getD j 0=qL x j:=fun _=>rfl
 simp only[hx,Int.toNat_natCast]
 generalize qL x=q at *
 simp only[gU,decide_eq_true_eq,decide_eq_false_iff_not,true_and,and_true,ne_eq]
 have d:∀ k,k<=4->isz (dM q k)<=1000000000:=fun k hk=>Nat.le_trans (OB hb k hk) (by omega)
 have r:∀ j,j<4->isz ((q j).den:Int)<=1000000000:=fun j hj=>Nat.le_trans (bY (q j)) (Nat.le_trans (hb j hj) (by omega))
 have n:∀ j,j<4->isz (q j).num<=1000000000:=fun j hj=>Nat.le_trans (dA (q j)) (Nat.le_trans (hb j hj) (by omega))
 have z:∀ j,¬ ((q j).den:Int)=0:=fun j=>by have:=(q j).den_nz;omega
 have f:∀ j,j<4->isz ((dM q 4).fdiv ((q j).den:Int))<=1000000000:=fun j hj=>Nat.le_trans (rD (z j) (wF q hj)) (d 4 (by omega))
 refine⟨⟨by omega,by omega⟩,(by and_intros<;>rfl),fun i=>⟨fun h1=>?_,fun h1=>?_⟩⟩
 ·have hi:=i.2
  refine⟨⟨by omega,by omega⟩,⟨d _ hi,r _ (by omega)⟩,⟨i.1+1,by omega⟩,by simp only;omega,?_,rfl⟩
  rw[dY (by omega) (by omega)];rfl
 ·have hi:=i.2
  have hi:i.1=4:=by omega
  rw[hi]
  dsimp only[aV]
  have hX:∀ k,k<4->xsL [(q 0).num*(dM q 4).fdiv ((q 0).den:Int),(q 1).num*(dM q 4).fdiv ((q 1).den:Int),(q 2).num*(dM q 4).fdiv ((q 2).den:Int),(q 3).num*(dM q 4).fdiv ((q 3).den:Int)] k=aX q k:=fun k hk=>by
   match k,hk with
   | 0,_=>rfl
   | 1,_=>rfl
   | 2,_=>rfl
   | 3,_=>rfl
  rw[kD hX]
  refine⟨⟨by omega,by omega⟩,⟨d 4 (by omega),r 0 (by omega),z 0⟩,⟨n 0 (by omega),f 0 (by omega)⟩,⟨by omega,by omega⟩,⟨d 4 (by omega),r 1 (by omega),z 1⟩,⟨n 1 (by omega),f 1 (by omega)⟩,⟨by omega,by omega⟩,⟨d 4 (by omega),r 2 (by omega),z 2⟩,⟨n 2 (by omega),f 2 (by omega)⟩,⟨by omega,by omega⟩,⟨d 4 (by omega),r 3 (by omega),z 3⟩,⟨n 3 (by omega),f 3 (by omega)⟩,⟨rfl,fun j hj=>?_,?_⟩,?_⟩
  ·rw[hX j hj]
   exact Nat.le_trans (JV hb hj) (by omega)
  ·obtain⟨j,hj,h⟩:=hn
   exact⟨j,hj,by rw[hX j hj];exact NT hj h⟩
  ·first|trivial|exact⟨rfl,rfl⟩|rfl
noncomputable def LD1:Lib:=(LD0.add 57 cNz a0W).add 58 b6B a0b
def QE (a b c d:Int):QM:=(List.range 3).map fun i=>(List.range 3).map fun j=>qM a b c d i j
def cMx:Ctr:=⟨[mP],[tM,tI],fun x=>True,fun x=>(if dH x.1.1 x.1.2.1 x.1.2.2.1 x.1.2.2.2.1=0 then QE x.1.1 x.1.2.1 x.1.2.2.1 x.1.2.2.2.1 else [],dH x.1.1 x.1.2.1 x.1.2.2.1 x.1.2.2.2.1,())⟩
abbrev b6z (a b c d:Int):Res:=.box [⟨tI,dQ a b c d 0 0⟩,⟨tI,dQ a b c d 0 1⟩,⟨tI,dQ a b c d 0 2⟩,⟨tI,dQ a b c d 1 0⟩,⟨tI,dQ a b c d 1 1⟩,⟨tI,dQ a b c d 1 2⟩,⟨tI,dQ a b c d 2 0⟩,⟨tI,dQ a b c d 2 1⟩,⟨tI,dQ a b c d 2 2⟩]
theorem a2N:dI Tryz.prog 16 cMx:=by
 refine fO LD1 [9,12,16] Tryz.func16 rfl (by decide) (fun x=>[.inv Le3 (fun i=>[(129,.val tI (i.1:Int)),(10,.own 10 0)]) (fun i=>[(9,b6z x.1.1 x.1.2.1 x.1.2.2.1 x.1.2.2.2.1),(10,.row 25 (.list tQ) ((List.range i.1).map fun i=>(List.range 3).map fun j=>qM x.1.1 x.1.2.1 x.1.2.2.1 x.1.2.2.2.1 i j) 0)]) (fun i=>3-i.1) ⟨0,by omega⟩ (fun i=>[.inv Le3 (fun j=>[(133,.val tI (j.1:Int)),(13,.own 13 0)]) (fun j=>[(9,b6z x.1.1 x.1.2.1 x.1.2.2.1 x.1.2.2.2.1),(10,.row 25 (.list tQ) ((List.range i.1).map fun i=>(List.range 3).map fun j=>qM x.1.1 x.1.2.1 x.1.2.2.1 x.1.2.2.2.1 i j) 0),(12,.box [⟨tI,dQ x.1.1 x.1.2.1 x.1.2.2.1 x.1.2.2.2.1 i.1 0⟩,⟨tI,dQ x.1.1 x.1.2.1 x.1.2.2.1 x.1.2.2.2.1 i.1 1⟩,⟨tI,dQ x.1.1 x.1.2.1 x.1.2.2.1 x.1.2.2.2.1 i.1 2⟩]),(13,.row 30 tQ ((List.range j.1).map fun j=>qM x.1.1 x.1.2.1 x.1.2.2.1 x.1.2.2.2.1 i.1 j) 0)]) (fun j=>3-j.1) ⟨0,by omega⟩ (fun _=>[])])]) (fun x hp=>?_)
 obtain⟨⟨a,b,c,d,u⟩,v⟩:=x
 change Int at a;change Int at b;change Int at c;change Int at d
 refine iO (let x0z:=((IntKind.wrap IntKind.i64 (IntKind.wrap IntKind.i64 (IntKind.wrap IntKind.i64 (IntKind.wrap IntKind.i64 (a*a)+IntKind.wrap IntKind.i64 (b*b))-IntKind.wrap IntKind.i64 (c*c))-IntKind.wrap IntKind.i64 (d*d))::IntKind.wrap IntKind.i64 (2*IntKind.wrap IntKind.i64 (IntKind.wrap IntKind.i64 (b*c)-IntKind.wrap IntKind.i64 (a*d)))::IntKind.wrap IntKind.i64 (2*IntKind.wrap IntKind.i64 (IntKind.wrap IntKind.i64 (b*d)+IntKind.wrap IntKind.i64 (a*c)))::aV Int)::(IntKind.wrap IntKind.i64 (2*IntKind.wrap IntKind.i64 (IntKind.wrap IntKind.i64 (b*c)+IntKind.wrap IntKind.i64 (a*d)))::IntKind.wrap IntKind.i64 (IntKind.wrap IntKind.i64 (IntKind.wrap IntKind.i64 (IntKind.wrap IntKind.i64 (a*a)-IntKind.wrap IntKind.i64 (b*b))+IntKind.wrap IntKind.i64 (c*c))-IntKind.wrap IntKind.i64 (d*d))::IntKind.wrap IntKind.i64 (2*IntKind.wrap IntKind.i64 (IntKind.wrap IntKind.i64 (c*d)-IntKind.wrap IntKind.i64 (a*b)))::aV Int)::(IntKind.wrap IntKind.i64 (2*IntKind.wrap IntKind.i64 (IntKind.wrap IntKind.i64 (b*d)-IntKind.wrap IntKind.i64 (a*c)))::IntKind.wrap IntKind.i64 (2*IntKind.wrap IntKind.i64 (IntKind.wrap IntKind.i64 (c*d)+IntKind.wrap IntKind.i64 (a*b)))::IntKind.wrap IntKind.i64 (IntKind.wrap IntKind.i64 (IntKind.wrap IntKind.i64 (IntKind.wrap IntKind.i64 (a*a)-IntKind.wrap IntKind.i64 (b*b))-IntKind.wrap IntKind.i64 (c*c))+IntKind.wrap IntKind.i64 (d*d))::aV Int)::aV (List Int));let x1z:=(0::List.replicate 2 0);(True/\True)/\ifB (dH a b c d != 0) (True/\(aV (List Rat)=if dH a b c d=0 then QE a b c d else aV (List Rat))/\True/\dH a b c d=dH a b c d/\True) ((asT Int 0=0/\(True/\asT (List (List Rat)) (aV (List Rat))=aV (List Rat))/\IntKind.wrap IntKind.i64 (IntKind.wrap IntKind.i64 (IntKind.wrap IntKind.i64 (IntKind.wrap IntKind.i64 (a*a)+IntKind.wrap IntKind.i64 (b*b))-IntKind.wrap IntKind.i64 (c*c))-IntKind.wrap IntKind.i64 (d*d))=dQ a b c d 0 0/\IntKind.wrap IntKind.i64 (2*IntKind.wrap IntKind.i64 (IntKind.wrap IntKind.i64 (b*c)-IntKind.wrap IntKind.i64 (a*d)))=dQ a b c d 0 1/\IntKind.wrap IntKind.i64 (2*IntKind.wrap IntKind.i64 (IntKind.wrap IntKind.i64 (b*d)+IntKind.wrap IntKind.i64 (a*c)))=dQ a b c d 0 2/\IntKind.wrap IntKind.i64 (2*IntKind.wrap IntKind.i64 (IntKind.wrap IntKind.i64 (b*c)+IntKind.wrap IntKind.i64 (a*d)))=dQ a b c d 1 0/\IntKind.wrap IntKind.i64 (IntKind.wrap IntKind.i64 (IntKind.wrap IntKind.i64 (IntKind.wrap IntKind.i64 (a*a)-IntKind.wrap IntKind.i64 (b*b))+IntKind.wrap IntKind.i64 (c*c))-IntKind.wrap IntKind.i64 (d*d))=dQ a b c d 1 1/\IntKind.wrap IntKind.i64 (2*IntKind.wrap IntKind.i64 (IntKind.wrap IntKind.i64 (c*d)-IntKind.wrap IntKind.i64 (a*b)))=dQ a b c d 1 2/\IntKind.wrap IntKind.i64 (2*IntKind.wrap IntKind.i64 (IntKind.wrap IntKind.i64 (b*d)-IntKind.wrap IntKind.i64 (a*c)))=dQ a b c d 2 0/\IntKind.wrap IntKind.i64 (2*IntKind.wrap IntKind.i64 (IntKind.wrap IntKind.i64 (c*d)+IntKind.wrap IntKind.i64 (a*b)))=dQ a b c d 2 1/\IntKind.wrap IntKind.i64 (IntKind.wrap IntKind.i64 (IntKind.wrap IntKind.i64 (IntKind.wrap IntKind.i64 (a*a)-IntKind.wrap IntKind.i64 (b*b))-IntKind.wrap IntKind.i64 (c*c))+IntKind.wrap IntKind.i64 (d*d))=dQ a b c d 2 2/\(asT (List (List Rat)) (aV (List Rat))=aV (List Rat)/\0=0/\asT Bool true=true)/\True)/\∀ (i:Le3),asT Bool true=true/\ifB (decide (aF (aA i)<3)) ((0<=aF (aA i)/\aF (aA i)<3/\True)/\(asT Int 0=0/\(True/\asT (List Rat) (aV Rat)=aV Rat)/\dQ a b c d 0 0=dQ a b c d 0 0/\dQ a b c d 0 1=dQ a b c d 0 1/\dQ a b c d 0 2=dQ a b c d 0 2/\dQ a b c d 1 0=dQ a b c d 1 0/\dQ a b c d 1 1=dQ a b c d 1 1/\dQ a b c d 1 2=dQ a b c d 1 2/\dQ a b c d 2 0=dQ a b c d 2 0/\dQ a b c d 2 1=dQ a b c d 2 1/\dQ a b c d 2 2=dQ a b c d 2 2/\List.map (fun(i:Nat)=>List.map (fun(j:Nat)=>qM a b c d i j) (List.range 3)) (List.range (aA i))=List.map (fun(i:Nat)=>List.map (fun(j:Nat)=>qM a b c d i j) (List.range 3)) (List.range (aA i))/\List.getD (List.getD x0z (Int.toNat (aF (aA i))) x1z) 0 0=dQ a b c d (aA i) 0/\List.getD (List.getD x0z (Int.toNat (aF (aA i))) x1z) (0+1) 0=dQ a b c d (aA i) 1/\List.getD (List.getD x0z (Int.toNat (aF (aA i))) x1z) (0+1+1) 0=dQ a b c d (aA i) 2/\(asT (List Rat) (aV Rat)=aV Rat/\0=0/\asT Bool true=true)/\True)/\∀ (i_1:Le3),asT Bool true=true/\ifB (decide (aF (aA i_1)<3)) ((0<=aF (aA i_1)/\aF (aA i_1)<3/\True)/\((okc a/\okc b/\okc c/\okc d)/\(aZ (List.getD (List.getD (List.getD x0z (Int.toNat (aF (aA i))) x1z) 0 0::List.getD (List.getD x0z (Int.toNat (aF (aA i))) x1z) (0+1) 0::List.getD (List.getD x0z (Int.toNat (aF (aA i))) x1z) (0+1+1) 0::aV Int) (Int.toNat (aF (aA i_1))) 0)/\aZ (gW a b c d)/\gW a b c d≠0)/\True)/\(List.length (List.map (fun(j:Nat)=>qM a b c d (aA i) j) (List.range (aA i_1)))+List.length (Rat.divInt (List.getD (List.getD (List.getD x0z (Int.toNat (aF (aA i))) x1z) 0 0::List.getD (List.getD x0z (Int.toNat (aF (aA i))) x1z) (0+1) 0::List.getD (List.getD x0z (Int.toNat (aF (aA i))) x1z) (0+1+1) 0::aV Int) (Int.toNat (aF (aA i_1))) 0) (gW a b c d)::aV Rat)<=1000000000/\True)/\∃ (i':Le3),3-aA i'<3-aA i_1/\IntKind.wrap IntKind.i64 (aF (aA i_1)+1)=aF (aA i')/\dQ a b c d 0 0=dQ a b c d 0 0/\dQ a b c d 0 1=dQ a b c d 0 1/\dQ a b c d 0 2=dQ a b c d 0 2/\dQ a b c d 1 0=dQ a b c d 1 0/\dQ a b c d 1 1=dQ a b c d 1 1/\dQ a b c d 1 2=dQ a b c d 1 2/\dQ a b c d 2 0=dQ a b c d 2 0/\dQ a b c d 2 1=dQ a b c d 2 1/\dQ a b c d 2 2=dQ a b c d 2 2/\List.map (fun(i:Nat)=>List.map (fun(j:Nat)=>qM a b c d i j) (List.range 3)) (List.range (aA i))=List.map (fun(i:Nat)=>List.map (fun(j:Nat)=>qM a b c d i j) (List.range 3)) (List.range (aA i))/\dQ a b c d (aA i) 0=dQ a b c d (aA i) 0/\dQ a b c d (aA i) 1=dQ a b c d (aA i) 1/\dQ a b c d (aA i) 2=dQ a b c d (aA i) 2/\List.map (fun(j:Nat)=>qM a b c d (aA i) j) (List.range (aA i_1))++Rat.divInt (List.getD (List.getD (List.getD x0z (Int.toNat (aF (aA i))) x1z) 0 0::List.getD (List.getD x0z (Int.toNat (aF (aA i))) x1z) (0+1) 0::List.getD (List.getD x0z (Int.toNat (aF (aA i))) x1z) (0+1+1) 0::aV Int) (Int.toNat (aF (aA i_1))) 0) (gW a b c d)::aV Rat=List.map (fun(j:Nat)=>qM a b c d (aA i) j) (List.range (aA i'))/\True) ((List.length (List.map (fun(i:Nat)=>List.map (fun(j:Nat)=>qM a b c d i j) (List.range 3)) (List.range (aA i)))+List.length (List.map (fun(j:Nat)=>qM a b c d (aA i) j) (List.range (aA i_1))::aV (List Rat))<=1000000000/\True)/\∃ (i':Le3),3-aA i'<3-aA i/\IntKind.wrap IntKind.i64 (aF (aA i)+1)=aF (aA i')/\dQ a b c d 0 0=dQ a b c d 0 0/\dQ a b c d 0 1=dQ a b c d 0 1/\dQ a b c d 0 2=dQ a b c d 0 2/\dQ a b c d 1 0=dQ a b c d 1 0/\dQ a b c d 1 1=dQ a b c d 1 1/\dQ a b c d 1 2=dQ a b c d 1 2/\dQ a b c d 2 0=dQ a b c d 2 0/\dQ a b c d 2 1=dQ a b c d 2 1/\dQ a b c d 2 2=dQ a b c d 2 2/\List.map (fun(i:Nat)=>List.map (fun(j:Nat)=>qM a b c d i j) (List.range 3)) (List.range (aA i))++List.map (fun(j:Nat)=>qM a b c d (aA i) j) (List.range (aA i_1))::aV (List Rat)=List.map (fun(i:Nat)=>List.map (fun(j:Nat)=>qM a b c d i j) (List.range 3)) (List.range (aA i'))/\True)) (True/\(List.map (fun(i:Nat)=>List.map (fun(j:Nat)=>qM a b c d i j) (List.range 3)) (List.range (aA i))=if dH a b c d=0 then QE a b c d else aV (List Rat))/\True/\0=dH a b c d/\True))) (by kernel_rfl) ?_
 dsimp only[aF,aA,asT,aV,jG] at *
 simp only[gU,true_and,and_true,decide_eq_true_eq,decide_eq_false_iff_not,Int.toNat_natCast,Option.some.injEq,List.length_map,List.length_range,List.length_cons,List.length_nil,true_implies,implies_true,bne_iff_ne,ne_eq,bne_eq_false_iff_eq]
 refine⟨fun h=>(if_neg h).symm,fun h=>?_⟩
 obtain⟨hn,oa,ob,oc,od⟩:=nZ h
 have hN:=vJ hn
 obtain⟨b8M,b8N⟩:=bT oa oa
 obtain⟨b8O,b8P⟩:=bT oa ob
 obtain⟨b8Q,b8R⟩:=bT oa oc
 obtain⟨b8S,b8T⟩:=bT oa od
 obtain⟨b8U,b8V⟩:=bT ob ob
 obtain⟨b8W,b8X⟩:=bT ob oc
 obtain⟨b8Y,b8Z⟩:=bT ob od
 obtain⟨b9a,b9b⟩:=bT oc oc
 obtain⟨b9c,b9d⟩:=bT oc od
 obtain⟨b9e,b9f⟩:=bT od od
 simp(disch:=omega) only[dY,if_pos h]
 refine⟨(by and_intros<;>rfl),fun i=>⟨fun h1=>?_,fun h1=>?_⟩⟩
 ·have hi:=i.2
  have h1:i.1<3:=by omega
  have hM:∀ k,k<3->([([[a*a+b*b-c*c-d*d,2*(b*c-a*d),2*(b*d+a*c)],[2*(b*c+a*d),a*a-b*b+c*c-d*d,2*(c*d-a*b)],[2*(b*d-a*c),2*(c*d+a*b),a*a-b*b-c*c+d*d]].getD i.1 (0::List.replicate 2 0)).getD 0 0,([[a*a+b*b-c*c-d*d,2*(b*c-a*d),2*(b*d+a*c)],[2*(b*c+a*d),a*a-b*b+c*c-d*d,2*(c*d-a*b)],[2*(b*d-a*c),2*(c*d+a*b),a*a-b*b-c*c+d*d]].getD i.1 (0::List.replicate 2 0)).getD (0+1) 0,([[a*a+b*b-c*c-d*d,2*(b*c-a*d),2*(b*d+a*c)],[2*(b*c+a*d),a*a-b*b+c*c-d*d,2*(c*d-a*b)],[2*(b*d-a*c),2*(c*d+a*b),a*a-b*b-c*c+d*d]].getD i.1 (0::List.replicate 2 0)).getD (0+1+1) 0]:List Int).getD k 0=dQ a b c d i.1 k:=by
   intro k hk
   have e:i.1=0\/i.1=1\/i.1=2:=by omega
   have e':k=0\/k=1\/k=2:=by omega
   rcases e with e|e|e<;>rw[e]<;>rcases e' with rfl|rfl|rfl<;>rfl
  refine⟨⟨by omega,by omega⟩,⟨hM 0 (by omega),hM 1 (by omega),hM 2 (by omega)⟩,fun k=>⟨fun h2=>?_,fun h2=>?_⟩⟩
  all_goals
   have hk:=k.2
  ·have hk3:k.1<3:=by omega
   rw[hM k.1 hk3]
   have rb:=a3m oa ob oc od h1 hk3
   have nb:aZ (gW a b c d):=by unfold aZ gW;omega
   refine⟨⟨by omega,by omega⟩,⟨⟨oa,ob,oc,od⟩,⟨by omega,by omega⟩,nb,by omega⟩,by omega,⟨k.1+1,by omega⟩,by simp only;omega,by simp only;omega,?_⟩
   simp only[List.range_succ,List.map_append,List.map_cons,List.map_nil]
   rfl
  ·have hk:k.1=3:=by omega
   refine⟨by omega,⟨i.1+1,by omega⟩,by simp only;omega,by simp only;omega,?_⟩
   rw[hk]
   simp only[List.range_succ (n:=i.1),List.map_append,List.map_cons,List.map_nil]
 ·have hi:=i.2
  have hi:i.1=3:=by omega
  rw[hi]
  exact⟨rfl,h.symm⟩
def dV:aH:=⟨false,0,[],[]⟩
abbrev tR:Ty:=.lf .jF
abbrev tMR:Ty:=.list (.list tR)
theorem ZB {F:Nat->Prop} {w:World} {v:Value} {x:Rat} (h:RQ w v x):jA F w tR v (kC x):=by
 obtain⟨b,p,c,b',p',c',rfl,r1,r2⟩:=a1h h
 exact⟨_,rfl,b,p,c,b',p',c',rfl,h.raw,r1,r2⟩
theorem a9P {F:Nat->Prop} {w:World}:jA F w tR (.agg #[.bool false,.slice none 0 0,.bool false,.slice none 0 0]) dV :=
 ⟨[.bool false,.slice none 0 0,.bool false,.slice none 0 0],rfl,xI (.lf .jF) _ rfl⟩
def cVal (K:Nat):Ctr:=⟨[tR],[tB],fun x=>(show aH from x.1).n<=K/\(show aH from x.1).m<=K,fun x=>((show aH from x.1).ok,())⟩
theorem b7D {F:Nat->Prop} {w:World} {v:Value} {x:aH} (h:jA F w tR v x):fF w v x.ok x.x/\∀ K,x.n<=K->x.m<=K->Qn v K:=by
 obtain⟨cs,rfl,b,p,c,b',p',c',rfl,h2,_,_⟩:=h
 exact⟨h2,fun K h1 h2=>⟨b,p,_,c,b',p',_,c',rfl,h1,h2⟩⟩
theorem a4a {f:FuncId} {K:Nat} (h:∀ (v:Value) (ok:Bool) (q:Rat) (w:World),fF w v ok q->Qn v K->Calls Tryz.prog f #[v] w (fun e w'=>e=.returned (.bool ok)/\Below w.heap.size w w')):dI Tryz.prog f (cVal K):=by
 intro F w vs x hF hvs hp
 obtain⟨v,vs',rfl,h1,h3⟩:=hvs
 have h3:vs'=[]:=h3
 subst h3
 obtain⟨h4,h5⟩:=b7D h1
 refine(h v _ _ w h4 (h5 K hp.1 hp.2)).mono ?_
 rintro e w' ⟨rfl,hb⟩
 exact⟨_,rfl,SB _,hb⟩
def newT (e x y:Int):aH × Int × Unit:=if y=0 then (dV,e,()) else (kC (Rat.divInt x y),(0:Int),())
def cNew (K:Nat) (e:Int):Ctr:=⟨[tZ,tZ],[tR,tI],fun x=>isz x.1<=K/\isz x.2.1<=K,fun x=>newT e x.1 x.2.1⟩
theorem b0a {f:FuncId} {K:Nat} {c:Int} (h:∀ (v u:Value) (x y:Int) (w:World),bW w v x->bW w u y->isz x<=K->isz y<=K->y≠0->Calls Tryz.prog f #[v,u] w (GQC (Rat.divInt x y) 0 w)) (h0:∀ (v u:Value) (x y:Int) (w:World),bW w v x->bW w u y->y=0->Calls Tryz.prog f #[v,u] w (a9R c w)):dI Tryz.prog f (cNew K c):=by
 intro F w vs x hF hvs hp
 obtain⟨v,vs',rfl,h1,u,vs'',rfl,h2,h3⟩:=hvs
 have h3:vs''=[]:=h3
 subst h3
 by_cases hy:(show Int from x.2.1)=0
 ·refine(h0 v u x.1 x.2.1 w (sD h1) (sD h2) hy).mono ?_
  rintro e w' ⟨rfl,hb⟩
  refine⟨_,rfl,?_,hb⟩
  rw[show (cNew K c).fn x=(dV,c,()) from if_pos hy]
  exact⟨[_,_],rfl,_,_,rfl,a9P,_,_,rfl,tC _,rfl⟩
 ·refine(h v u x.1 x.2.1 w (sD h1) (sD h2) hp.1 hp.2 hy).mono ?_
  rintro e w' ⟨r,rfl,hr,hb⟩
  refine⟨_,rfl,?_,hb⟩
  rw[show (cNew K c).fn x=(kC (Rat.divInt x.1 x.2.1),(0:Int),()) from if_neg hy]
  exact⟨[_,_],rfl,_,_,rfl,ZB hr,_,_,rfl,tC _,rfl⟩
def fQ (e:Int) (x y:Rat):aH × Int × Unit:=if y=0 then (dV,e,()) else (kC (x / y),(0:Int),())
def a3W (K:Nat) (e:Int):Ctr:=⟨[tQ,tQ],[tR,tI],fun x=>rsz x.1<=K/\rsz x.2.1<=K,fun x=>fQ e x.1 x.2.1⟩
theorem a7p {f:FuncId} {K:Nat} {c:Int} (h:∀ (v u:Value) (x y:Rat) (w:World),RQ w v x->RQ w u y->rsz x<=K->rsz y<=K->y≠0->Calls Tryz.prog f #[v,u] w (GQC (x / y) 0 w)) (h0:∀ (v u:Value) (x y:Rat) (w:World),RQ w v x->RQ w u y->rsz x<=K->rsz y<=K->y=0->Calls Tryz.prog f #[v,u] w (a9R c w)):dI Tryz.prog f (a3W K c):=by
 intro F w vs x hF hvs hp
 obtain⟨v,vs',rfl,h1,u,vs'',rfl,h2,h3⟩:=hvs
 have h3:vs''=[]:=h3
 subst h3
 by_cases hy:(show Rat from x.2.1)=0
 ·refine(h0 v u x.1 x.2.1 w (sU h1) (sU h2) hp.1 hp.2 hy).mono ?_
  rintro e w' ⟨rfl,hb⟩
  refine⟨_,rfl,?_,hb⟩
  rw[show (a3W K c).fn x=(dV,c,()) from if_pos hy]
  exact⟨[_,_],rfl,_,_,rfl,a9P,_,_,rfl,tC _,rfl⟩
 ·refine(h v u x.1 x.2.1 w (sU h1) (sU h2) hp.1 hp.2 hy).mono ?_
  rintro e w' ⟨r,rfl,hr,hb⟩
  refine⟨_,rfl,?_,hb⟩
  rw[show (a3W K c).fn x=(kC ((show Rat from x.1) / (show Rat from x.2.1)),(0:Int),()) from if_neg hy]
  exact⟨[_,_],rfl,_,_,rfl,ZB hr,_,_,rfl,tC _,rfl⟩
def cQZ (K:Nat) (g:Rat->Int):Ctr:=⟨[tQ],[tZ],fun x=>rsz x.1<=K,fun x=>(g x.1,())⟩
theorem a7w {f:FuncId} {K:Nat} {g:Rat->Int} (h:∀ (v:Value) (x:Rat) (w:World),RQ w v x->rsz x<=K->Calls Tryz.prog f #[v] w (kV (g x) w)):dI Tryz.prog f (cQZ K g):=by
 intro F w vs x hF hvs hp
 obtain⟨v,vs',rfl,h1,h3⟩:=hvs
 have h3:vs'=[]:=h3
 subst h3
 refine(h v x.1 w (sU h1) hp).mono ?_
 rintro e w' ⟨r,rfl,hr,hb⟩
 exact⟨_,rfl,KT hr,hb⟩
abbrev s4 (x:Rat):Prop:=rsz x<=400000000
abbrev s44 (x y:Rat):Prop:=rsz x<=400000000/\rsz y<=400000000
noncomputable def LF:Lib:=((((((((((LD1
 ).add 51 (cIQ aZ (fun i=>(i:Rat))) (WU fun x w h=>jP x w h.1 h.2)
 ).add 122 (cVal 1000000000) (a4a fun v ok q w h hn=>xG v ok q w h hn)
 ).add 70 (cNew 1000000000 14) (b0a (fun v u x y w h1 h2 l1 l2 hy=>a4M v u _ _ x y w h1.QZ h2.QZ l1 l2 hy) (fun v u x y w h1 h2 hy=>b0V v u _ _ x y w h1.QZ h2.QZ hy))
 ).add 52 (cQ2 s44 (·+·)) (NR fun v u x y w a b h=>ZM v u x y w a b h.1 h.2)
 ).add 53 (cQ2 s44 (·*·)) (NR fun v u x y w a b h=>FD v u x y w a b h.1 h.2)
 ).add 56 (cQ2 s44 (·-·)) (NR fun v u x y w a b h=>a1G v u x y w a b h.1 h.2)
 ).add 90 (b2j s44 lY) (a3Y fun v u x y w a b h=>qY v u x y w a b h.1 h.2)
 ).add 91 (a3W 400000000 14) (a7p (fun v u x y w a b h1 h2 hy=>a4i v u x y w a b h1 h2 hy) (fun v u x y w a b l1 l2 hy=>a2o v u true true x y w a.raw b.raw (a.qn l1) (b.qn l2) hy))
 ).add 89 (cQ1 s4 jJ) (a2f fun v x w a h=>a7b v x w a (Nat.le_trans h (by omega)))
 ).add 92 (cQZ 400000000 Rat.floor) (a7w fun v x w a h=>a2t v x w a (Nat.le_trans h (by omega)))
def cRL:Ctr:=⟨[mP],[.list tI],fun x=>True,fun x=>([x.1.1,x.1.2.1,x.1.2.2.1,x.1.2.2.2.1],())⟩
theorem a6v:dI Tryz.prog 66 cRL:=by
 refine fO LZ [] Tryz.func66 rfl (by decide) (fun x=>[]) (fun x hp=>?_)
 obtain⟨⟨a,b,c,d,v⟩,u⟩:=x
 change Int at a;change Int at b;change Int at c;change Int at d
 refine iO (True/\a::b::c::d::aV Int=a::b::c::d::aV Int/\True) (by kernel_rfl) ?_
 exact⟨trivial,rfl,trivial⟩
noncomputable def LE0:Lib:=LF.add 66 cRL a6v
theorem a3f:dI Tryz.prog 17 (cHI (fun _ _ _ _=>True) dH):=by
 refine fO LE0 [] Tryz.func17 rfl (by decide) (fun x=>[.rounds 5 [4] []]) (fun x hp=>?_)
 obtain⟨⟨a,b,c,d,v⟩,u⟩:=x
 change Int at a;change Int at b;change Int at c;change Int at d
 refine iO (let x0z:=(bif bif a==0 then b==0 else false then c==0 else false);let x1z:=(List.length (a::b::c::d::aV Int));let x2z:=(decide (a > 1048576)==false);let x3z:=(decide (b > 1048576)==false);let x4z:=(decide (c > 1048576)==false);let x5z:=(decide (d > 1048576)==false);let x6z:=((bif a==0 then b==0 else false)==true);((((a==0)==true)=true->((a==0)==true)=true/\True)/\(((a==0)==true)=true->((a==0)==true)=true/\True)/\((a==0)=true->((a==0)==true)=true)/\(x6z=true->x6z=true/\True)/\(x6z=true->x6z=true/\True)/\((bif a==0 then b==0 else false)=true->x6z=true)/\((x0z==true)=true->(x0z==true)=true/\True)/\((x0z==true)=true->(x0z==true)=true/\True)/\(x0z=true->(x0z==true)=true)/\True)/\ifB (bif bif bif a==0 then b==0 else false then c==0 else false then d==0 else false) (True/\1=dH a b c d/\True) ((True/\True)/\(asT Int 0<=0/\0<aF x1z/\(x2z=true->x2z=true/\x2z=true/\asT Int 0<=0/\0<aF x1z/\True)/\(x2z=true->x2z=true/\True)/\(x2z=true->x2z=true/\True)/\(decide (a > 1048576)=false->x2z=true)/\True)/\ifB (bif decide (a > 1048576) then true else decide (a < -1048576)) (True/\3=dH a b c d/\True) ((asT Int 0<=1/\1<aF x1z/\(x3z=true->x3z=true/\x3z=true/\asT Int 0<=1/\1<aF x1z/\True)/\(x3z=true->x3z=true/\True)/\(x3z=true->x3z=true/\True)/\(decide (b > 1048576)=false->x3z=true)/\True)/\ifB (bif decide (b > 1048576) then true else decide (b < -1048576)) (True/\3=dH a b c d/\True) ((asT Int 0<=2/\2<aF x1z/\(x4z=true->x4z=true/\x4z=true/\asT Int 0<=2/\2<aF x1z/\True)/\(x4z=true->x4z=true/\True)/\(x4z=true->x4z=true/\True)/\(decide (c > 1048576)=false->x4z=true)/\True)/\ifB (bif decide (c > 1048576) then true else decide (c < -1048576)) (True/\3=dH a b c d/\True) ((asT Int 0<=3/\3<aF x1z/\(x5z=true->x5z=true/\x5z=true/\asT Int 0<=3/\3<aF x1z/\True)/\(x5z=true->x5z=true/\True)/\(x5z=true->x5z=true/\True)/\(decide (d > 1048576)=false->x5z=true)/\True)/\ifB (bif decide (d > 1048576) then true else decide (d < -1048576)) (True/\3=dH a b c d/\True) (True/\0=dH a b c d/\True)))))) (by kernel_rfl) ?_
 have e:∀ q:Int,(bif decide (q > 1048576) then true else decide (q < -1048576))=!decide (okc q):=fun q=>by
  by_cases h:okc q
  ·have h':=h;unfold okc at h'
   rw[decide_eq_false (p:=q > 1048576) (by omega),decide_eq_false (p:=q < -1048576) (by omega),decide_eq_true h];rfl
  ·have h':q < -1048576\/q > 1048576:=by unfold okc at h;omega
   rw[decide_eq_false h]
   rcases h' with h' | h'
   ·rw[decide_eq_true h'];cases decide (q > 1048576)<;>rfl
   ·rw[decide_eq_true h'];rfl
 dsimp only[aF,asT,aV] at *
 simp only[e]
 have z:(bif bif bif a==0 then b==0 else false then c==0 else false then d==0 else false)=decide (a=0/\b=0/\c=0/\d=0):=by
  by_cases h0:a=0<;>by_cases h1:b=0<;>by_cases h2:c=0<;>by_cases h3:d=0<;>simp[h0,h1,h2,h3]
 rw[z]
 by_cases hz:a=0/\b=0/\c=0/\d=0
 ·obtain⟨rfl,rfl,rfl,rfl⟩:=hz
  simp[ifB,dH]
 ·have hq:dH a b c d=if okc a/\okc b/\okc c/\okc d then 0 else 3:=if_neg hz
  rw[hq,decide_eq_false hz]
  by_cases oa:okc a
  ·by_cases ob:okc b
   ·by_cases oc:okc c
    ·by_cases od:okc d<;>simp[ifB,oa,ob,oc,od]
    ·simp[ifB,oa,ob,oc]
   ·simp[ifB,oa,ob]
  ·simp[ifB,oa]
noncomputable def LE1:Lib:=LE0.add 17 (cHI (fun _ _ _ _=>True) dH) a3f
theorem a1c {a b c d e f g h:Int}:nY a b c d e f g h=0↔dH a b c d=0/\dH e f g h=0:=by
 unfold nY
 by_cases h:dH a b c d=0
 ·rw[if_pos h];simp[h]
 ·rw[if_neg h];simp[h]
def wC (a b c d e f g h:Int):aH × Int × Unit:=if nY a b c d e f g h=0 then (kC (a2i a b c d e f g h),0,()) else (dV,nY a b c d e f g h,())
def a2e:Ctr:=⟨[mP,mP],[tR,tI],fun x=>True,fun x=>wC x.1.1 x.1.2.1 x.1.2.2.1 x.1.2.2.2.1 x.2.1.1 x.2.1.2.1 x.2.1.2.2.1 x.2.1.2.2.2.1⟩
theorem TV:dI Tryz.prog 19 a2e:=by
 refine fO LE1 [4,7,8] Tryz.func19 rfl (by decide) (fun x=>[]) (fun x hp=>?_)
 obtain⟨⟨a,b,c,d,v⟩,⟨e,f,g,h,z⟩,u⟩:=x
 change Int at a;change Int at b;change Int at c;change Int at d;change Int at e;change Int at f;change Int at g;change Int at h
 change Unit at v;change Unit at z
 refine iO (let x0z:=(IntKind.wrap IntKind.i64 (IntKind.wrap IntKind.i64 (IntKind.wrap IntKind.i64 (a*e)+IntKind.wrap IntKind.i64 (b*f))+IntKind.wrap IntKind.i64 (c*g))+IntKind.wrap IntKind.i64 (d*h));let x1z:=(Prod.fst (newT 14 (IntKind.wrap IntKind.i64 x0z*IntKind.wrap IntKind.i64 x0z) (gW a b c d*gW e f g h)));(List.length ((a,b,c,d,v)::(e,f,g,h,z)::aV (Int × Int × Int × Int × PUnit))<=1000000000/\True)/\ifB (oW ((a,b,c,d,v)::(e,f,g,h,z)::aV (Int × Int × Int × Int × PUnit)) != 0) (True/\{ ok:=false,x:=0,g:=aV Nat,h:=aV Nat }=Prod.fst (wC a b c d e f g h)/\True/\oW ((a,b,c,d,v)::(e,f,g,h,z)::aV (Int × Int × Int × Int × PUnit))=Prod.fst (Prod.snd (wC a b c d e f g h))/\True) ((aZ (IntKind.wrap IntKind.i64 x0z)/\True)/\((isz (IntKind.wrap IntKind.i64 x0z)<=1000000000/\isz (IntKind.wrap IntKind.i64 x0z)<=1000000000)/\(okc a/\okc b/\okc c/\okc d)/\aZ (gW a b c d)/\(okc e/\okc f/\okc g/\okc h)/\aZ (gW e f g h)/\(isz (gW a b c d)<=1000000000/\isz (gW e f g h)<=1000000000)/\(isz (IntKind.wrap IntKind.i64 x0z*IntKind.wrap IntKind.i64 x0z)<=1000000000/\isz (gW a b c d*gW e f g h)<=1000000000)/\True)/\(aZ 1/\aH.ok x1z=true/\s44 (jG 1) (aH.x x1z)/\True)/\True/\kC (jG 1-aH.x x1z)=Prod.fst (wC a b c d e f g h)/\True/\0=Prod.fst (Prod.snd (wC a b c d e f g h))/\True)) (by kernel_rfl) ?_
 dsimp only[aV,jG] at *
 rw[a7Q a b c d e f g h v z]
 by_cases k:nY a b c d e f g h=0
 ·obtain⟨k1,k2⟩:=a1c.1 k
  obtain⟨hn,oa,ob,oc,od⟩:=nZ k1
  obtain⟨hm,oe,of,og,oh⟩:=nZ k2
  have ee:wC a b c d e f g h=(kC (a2i a b c d e f g h),0,()):=if_pos k
  obtain⟨b9g,b9h⟩:=bT oa oe
  obtain⟨b9i,b9j⟩:=bT ob of
  obtain⟨b9k,b9l⟩:=bT oc og
  obtain⟨b9m,b9n⟩:=bT od oh
  obtain⟨q0,q1⟩:=a3a oa ob oc od oe of og oh
  have eS:IntKind.wrap IntKind.i64 (IntKind.wrap IntKind.i64 (IntKind.wrap IntKind.i64 (IntKind.wrap IntKind.i64 (a*e)+IntKind.wrap IntKind.i64 (b*f))+IntKind.wrap IntKind.i64 (c*g))+IntKind.wrap IntKind.i64 (d*h))=CB a b c d e f g h:=by
   unfold CB at *
   simp(disch:=omega) only[dY]
  rw[eS,ee]
  obtain⟨hk10,b8m⟩:=KL oa ob oc od
  obtain⟨b8n,b8o⟩:=KL oe of og oh
  have hu1:=a2H hk10 b8m
  have hu2:=a2H b8n b8o
  have hu3:=a2H q0 q1
  have hu4:=dR (gW a b c d) (gW e f g h)
  have hu5:=dR (CB a b c d e f g h) (CB a b c d e f g h)
  have hNN:=Int.mul_pos (vJ hn) (vJ hm)
  have hN0:gW a b c d*gW e f g h≠0:=by omega
  have hu6:=wX (CB a b c d e f g h*CB a b c d e f g h) (gW a b c d*gW e f g h) hN0 (k:=4) (by omega) (by omega)
  have hu7:rsz ((1:Int):Rat)<=1:=by decide +kernel
  have w1:aZ 1:=by unfold aZ;omega
  have wS:aZ (CB a b c d e f g h):=by unfold aZ;omega
  have wn:aZ (gW a b c d):=by unfold aZ;omega
  have wm:aZ (gW e f g h):=by unfold aZ;omega
  have eN:newT 14 (CB a b c d e f g h*CB a b c d e f g h) (gW a b c d*gW e f g h)=(kC (Rat.divInt (CB a b c d e f g h*CB a b c d e f g h) (gW a b c d*gW e f g h)),0,()):=if_neg hN0
  rw[eN,k]
  exact⟨⟨by show 2<=1000000000;omega,trivial⟩,⟨wS,trivial⟩,⟨⟨by omega,by omega⟩,⟨oa,ob,oc,od⟩,wn,⟨oe,of,og,oh⟩,wm,⟨by omega,by omega⟩,⟨by omega,by omega⟩,trivial⟩,⟨w1,rfl,⟨by omega,by show rsz (Rat.divInt _ _)<=_;omega⟩,trivial⟩,trivial,rfl,trivial,rfl,trivial⟩
 ·have ee:wC a b c d e f g h=(dV,nY a b c d e f g h,()):=if_neg k
  have kb:(nY a b c d e f g h != 0)=true:=by simpa using k
  rw[ee,kb]
  exact⟨⟨by show 2<=1000000000;omega,trivial⟩,trivial,rfl,trivial,rfl,trivial⟩
noncomputable def LE2:Lib:=LE1.add 19 a2e TV
end Go.Proofs.YtidfgdchcpmnfaaGreat
namespace Go.Proofs.YtidfgdchcpmnfaaGreat
open Go.RowKit
set_option maxRecDepth 100000
set_option maxHeartbeats 4000000
set_option linter.unusedSimpArgs false
set_option linter.unusedVariables false
theorem KU {l:List Nat} (k:Nat):val (l.drop k)<=val l:=by
 have e:=val_append (l.take k) (l.drop k)
 rw[List.take_append_drop] at e
 have h1:1<=BB ^ (l.take k).length:=Nat.pow_pos iM
 have h2:val (l.drop k)<=BB ^ (l.take k).length*val (l.drop k):=Nat.le_mul_of_pos_left _ h1
 omega
theorem UN (x:Int) (h0:-9223372036854775808<=x) (h1:x<=9223372036854775807):isz x<=999999999 :=
 Nat.le_trans (qR (k:=3) (by rw[bI];omega)) (by omega)
theorem rY {z:Int} (h0:-9223372036854775808<=z) (h1:z<=9223372036854775807):IntKind.i64.wrap z=z:=by simp[IntKind.wrap,IntKind.bits,IntKind.signed];omega
theorem b7H {x:Int} (h:-9223372036854775808<=x/\x<=9223372036854775807):aG x=x/\aO x=true:=by
 unfold aG aO
 rw[if_pos (by omega)]
 exact⟨rfl,by simp;omega⟩
theorem a9D {x:Int} (h:¬ (-9223372036854775808<=x/\x<=9223372036854775807)):aG x=0/\aO x=false:=by
 unfold aG aO
 rw[if_neg (by omega)]
 exact⟨rfl,by simp;omega⟩
theorem a3r (v:Value) (x:Int) (w:World) (hv:Raw w v x) (hl:isz x<=999999999) (h:x < -9223372036854775808) :
  Calls Tryz.prog 136 #[v] w fun e W'=>e=.returned (.tuple #[.int .i64 (aG x),.bool (aO x)])/\Below w.heap.size w W':=by
 obtain⟨b,p,n,c,rfl⟩:=hv.form
 have hl1:isz x<=1000000000:=by omega
 have hm1:isz (-9223372036854775808)<=999999999:=UN _ (by omega) (by omega)
 have hm2:isz 9223372036854775807<=999999999:=UN _ (by omega) (by omega)
 have HF:=Lib.hid (a9D (x:=x) (by omega))
 have d1:dG x (-9223372036854775808)=-1:=by unfold dG;rw[if_pos (by omega)]
 have HC1:=Lib.hid d1
 have HC2:=Lib.hid (show dG x 9223372036854775807=dG x 9223372036854775807 from rfl)
 clear d1 h
 have aY:Below w.heap.size w w:=Below.refl _ _
 go_enter Tryz.func136,Tryz.ntmps136
 go_wp2_with fail
 obtain⟨hA1,b0⟩:=bx1 w rfl [.bool b,.slice p n c] 28
 have c0:=(hv.below hA1)
 (with_reducible refine(fC _ (x) _ c0 hl1).mono ?_)
 rintro e w1 ⟨v1,rfl,hi1,hb1⟩
 obtain⟨g1,p1,n1,c1,rfl⟩:=hi1.form
 obtain rfl:n1=(dig x.natAbs).length:=hi1.len
 have hf1:=Lib.hid (bW.flag hi1)
 have bG:=(b0.to hb1)
 obtain⟨h0,l0,j0,m0⟩:=bG.cf2
 go_wp2_with fail
 (with_reducible refine(rF _ _ (by omega) (by omega)).mono ?_)
 rintro e w2 ⟨v2,rfl,hi2,hb2⟩
 obtain⟨g2,p2,n2,c2,rfl⟩:=hi2.form
 go_wp2_with fail
 (with_reducible refine(rF _ _ (by omega) (by omega)).mono ?_)
 rintro e w3 ⟨v3,rfl,hi3,hb3⟩
 obtain⟨g3,p3,n3,c3,rfl⟩:=hi3.form
 have gV:=(((bG.store2 (.bool g1) (.slice p1 (dig x.natAbs).length c1)).to hb2).to hb3)
 obtain⟨i0,k0⟩:=gV.cs2
 have n0:=(gV).1
 obtain⟨hA2,p0⟩:=bx1 w3 rfl [.bool false,.slice none 0 0] 28
 have o0:=((gV.to hA2)).1
 go_wp2_with fail
 have f0:=(((hi1.aC bG rfl rfl (.bool g1) (.slice p1 (dig x.natAbs).length c1)).below hb2).below hb3)
 obtain⟨hA3,q0,r0⟩:=bx2 w3 rfl [.bool g2,.slice p2 n2 c2] 28 [.bool g3,.slice p3 n3 c3] 28
 have d0:=(f0.below hA3).raw
 have g0:=(hi2.below hb3)
 have e0:=(g0.below hA3).raw
 (with_reducible refine(lV _ _ (x) ((-9223372036854775808)) _ d0 e0 hl hm1).mono ?_)
 rw[HC1.out]
 rintro e w4 ⟨rfl,hb4⟩
 have a0:=(Below.tr (Below.tr (Below.tr (Below.tr (Below.aC (Below.tr (Below.tr aY hA1) hb1) (b:=w.heap.size) (by omega) (.bool g1) (.slice p1 (dig x.natAbs).length c1)) hb2) hb3) hA3) hb4)
 go_wp2_with fail
 go_ret2
 exact⟨by rw[HF.out.1,HF.out.2];rfl,a0⟩
theorem a1w (v:Value) (x:Int) (w:World) (hv:Raw w v x) (hl:isz x<=999999999) (h:9223372036854775807<x) :
  Calls Tryz.prog 136 #[v] w fun e W'=>e=.returned (.tuple #[.int .i64 (aG x),.bool (aO x)])/\Below w.heap.size w W':=by
 obtain⟨b,p,n,c,rfl⟩:=hv.form
 have hl1:isz x<=1000000000:=by omega
 have hm1:isz (-9223372036854775808)<=999999999:=UN _ (by omega) (by omega)
 have hm2:isz 9223372036854775807<=999999999:=UN _ (by omega) (by omega)
 have HF:=Lib.hid (a9D (x:=x) (by omega))
 have HC1:Hid (dG x (-9223372036854775808)=1):=by unfold Hid dG;rw[if_neg (by omega),if_pos (by omega)]
 have HC2:Hid (dG x 9223372036854775807=1):=by unfold Hid dG;rw[if_neg (by omega),if_pos (by omega)]
 clear h
 have aY:Below w.heap.size w w:=Below.refl _ _
 go_enter Tryz.func136,Tryz.ntmps136
 go_wp2_with fail
 obtain⟨hA1,e0⟩:=bx1 w rfl [.bool b,.slice p n c] 28
 have g0:=(hv.below hA1)
 (with_reducible refine(fC _ (x) _ g0 hl1).mono ?_)
 rintro e w1 ⟨v1,rfl,hi1,hb1⟩
 obtain⟨g1,p1,n1,c1,rfl⟩:=hi1.form
 obtain rfl:n1=(dig x.natAbs).length:=hi1.len
 have hf1:=Lib.hid (bW.flag hi1)
 have bG:=(e0.to hb1)
 obtain⟨o0,u0,r0,v0⟩:=bG.cf2
 go_wp2_with fail
 (with_reducible refine(rF _ _ (by omega) (by omega)).mono ?_)
 rintro e w2 ⟨v2,rfl,hi2,hb2⟩
 obtain⟨g2,p2,n2,c2,rfl⟩:=hi2.form
 go_wp2_with fail
 (with_reducible refine(rF _ _ (by omega) (by omega)).mono ?_)
 rintro e w3 ⟨v3,rfl,hi3,hb3⟩
 obtain⟨g3,p3,n3,c3,rfl⟩:=hi3.form
 have gV:=(((bG.store2 (.bool g1) (.slice p1 (dig x.natAbs).length c1)).to hb2).to hb3)
 obtain⟨p0,s0⟩:=gV.cs2
 have x0:=(gV).1
 obtain⟨hA2,z0⟩:=bx1 w3 rfl [.bool false,.slice none 0 0] 28
 have y0:=((gV.to hA2)).1
 go_wp2_with fail
 have a0:=(((hi1.aC bG rfl rfl (.bool g1) (.slice p1 (dig x.natAbs).length c1)).below hb2).below hb3)
 obtain⟨hA3,a1,f0⟩:=bx2 w3 rfl [.bool g2,.slice p2 n2 c2] 28 [.bool g3,.slice p3 n3 c3] 28
 have h0:=(a0.below hA3).raw
 have m0:=(hi2.below hb3)
 have i0:=(m0.below hA3).raw
 (with_reducible refine(lV _ _ (x) ((-9223372036854775808)) _ h0 i0 hl hm1).mono ?_)
 rw[HC1.out]
 rintro e w4 ⟨rfl,hb4⟩
 have jZ:=((gV.to hA3).to hb4)
 obtain⟨q0,t0⟩:=jZ.cs2
 have w0:=(f0.to hb4)
 obtain⟨c0,d0⟩:=w0.cs2
 go_wp2_with fail
 have l0:=((a0.below hA3).below hb4)
 have j0:=l0.raw
 have n0:=((hi3.below hA3).below hb4)
 have k0:=n0.raw
 (with_reducible refine(lV _ _ (x) (9223372036854775807) _ j0 k0 hl hm2).mono ?_)
 rw[HC2.out]
 rintro e w5 ⟨rfl,hb5⟩
 have b0:=(Below.tr (Below.tr (Below.tr (Below.tr (Below.tr (Below.aC (Below.tr (Below.tr aY hA1) hb1) (b:=w.heap.size) (by omega) (.bool g1) (.slice p1 (dig x.natAbs).length c1)) hb2) hb3) hA3) hb4) hb5)
 go_wp2_with fail
 go_ret2
 exact⟨by rw[HF.out.1,HF.out.2];rfl,b0⟩
theorem a6C (v:Value) (x:Int) (w:World) (hv:Raw w v x) (hl:isz x<=999999999) (h:-9223372036854775808<=x/\x<=9223372036854775807) :
  Calls Tryz.prog 136 #[v] w fun e W'=>e=.returned (.tuple #[.int .i64 (aG x),.bool (aO x)])/\Below w.heap.size w W':=by
 obtain⟨b,p,n,c,rfl⟩:=hv.form
 have hl1:isz x<=1000000000:=by omega
 have hm1:isz (-9223372036854775808)<=999999999:=UN _ (by omega) (by omega)
 have hm2:isz 9223372036854775807<=999999999:=UN _ (by omega) (by omega)
 have HF:=Lib.hid (b7H h)
 have HR:=Lib.hid h
 obtain⟨cc,hcc⟩:∃ cc,dG x (-9223372036854775808)=cc:=⟨_,rfl⟩
 obtain⟨cd,hcd⟩:∃ cd,dG x 9223372036854775807=cd:=⟨_,rfl⟩
 have HC1:=Lib.hid hcc
 have HC2:=Lib.hid hcd
 have d1:decide (cc<0)=false:=by
  have:0<=cc:=by rw[<-hcc];unfold dG;rw[if_neg (by omega)];split<;>omega
  simp;omega
 have d2:decide (0<cd)=false:=by
  have:cd<=0:=by rw[<-hcd];unfold dG;split<;>(try split)<;>omega
  simp;omega
 clear hcc hcd h
 have aY:Below w.heap.size w w:=Below.refl _ _
 go_enter Tryz.func136,Tryz.ntmps136
 go_wp2_with fail
 obtain⟨hA1,i0⟩:=bx1 w rfl [.bool b,.slice p n c] 28
 have k0:=(hv.below hA1)
 (with_reducible refine(fC _ (x) _ k0 hl1).mono ?_)
 rintro e w1 ⟨v1,rfl,hi1,hb1⟩
 obtain⟨g1,p1,n1,c1,rfl⟩:=hi1.form
 obtain rfl:n1=(dig x.natAbs).length:=hi1.len
 have hf1:=Lib.hid (bW.flag hi1)
 have bG:=(i0.to hb1)
 obtain⟨s0,y0,v0,z0⟩:=bG.cf2
 go_wp2_with fail
 (with_reducible refine(rF _ _ (by omega) (by omega)).mono ?_)
 rintro e w2 ⟨v2,rfl,hi2,hb2⟩
 obtain⟨g2,p2,n2,c2,rfl⟩:=hi2.form
 go_wp2_with fail
 (with_reducible refine(rF _ _ (by omega) (by omega)).mono ?_)
 rintro e w3 ⟨v3,rfl,hi3,hb3⟩
 obtain⟨g3,p3,n3,c3,rfl⟩:=hi3.form
 have gV:=(((bG.store2 (.bool g1) (.slice p1 (dig x.natAbs).length c1)).to hb2).to hb3)
 obtain⟨t0,w0⟩:=gV.cs2
 have b1:=(gV).1
 obtain⟨hA2,i1⟩:=bx1 w3 rfl [.bool false,.slice none 0 0] 28
 have f1:=((gV.to hA2)).1
 go_wp2_with fail
 have a0:=(((hi1.aC bG rfl rfl (.bool g1) (.slice p1 (dig x.natAbs).length c1)).below hb2).below hb3)
 obtain⟨hA3,j1,j0⟩:=bx2 w3 rfl [.bool g2,.slice p2 n2 c2] 28 [.bool g3,.slice p3 n3 c3] 28
 have l0:=(a0.below hA3).raw
 have q0:=(hi2.below hb3)
 have m0:=(q0.below hA3).raw
 (with_reducible refine(lV _ _ (x) ((-9223372036854775808)) _ l0 m0 hl hm1).mono ?_)
 rw[HC1.out]
 rintro e w4 ⟨rfl,hb4⟩
 have jZ:=((gV.to hA3).to hb4)
 obtain⟨u0,x0⟩:=jZ.cs2
 have a1:=(j0.to hb4)
 obtain⟨f0,g0⟩:=a1.cs2
 go_wp2_with fail
 have b0:=((a0.below hA3).below hb4)
 have n0:=b0.raw
 have r0:=((hi3.below hA3).below hb4)
 have o0:=r0.raw
 (with_reducible refine(lV _ _ (x) (9223372036854775807) _ n0 o0 hl hm2).mono ?_)
 rw[HC2.out]
 rintro e w5 ⟨rfl,hb5⟩
 have TI:=(jZ.to hb5)
 have p0:=(b0.below hb5)
 have d0:=(Below.tr (Below.tr (Below.tr (Below.tr (Below.tr (Below.aC (Below.tr (Below.tr aY hA1) hb1) (b:=w.heap.size) (by omega) (.bool g1) (.slice p1 (dig x.natAbs).length c1)) hb2) hb3) hA3) hb4) hb5)
 have qq:=TI
 have qc0:=qq.c0
 have qc1:=qq.c1
 have hRd:=(p0).rd
 have hBB:=d0
 have hlen:(dig x.natAbs).length<=1000000000:=hl1
 have HS:=Lib.hid (rH x)
 go_wp2_with fail
 go_loop [6,7,26,27,28,29,30,31,32,33,34,35,36,37,38,39,40,41,42,43,44,45,46,47,48,49] (fun nn i _ _ _ _ _ _ _ _ _ _ _ _ _ _ _ _ _ _ _ _ _ _ _ _=>∃ (k:Nat) (i' z:Int),i=.int .i64 i'/\k<=(dig x.natAbs).length/\Hid (i'=(k:Int)-1)/\nn=.int .i64 z/\z=sg (decide (x<0)) (val ((dig x.natAbs).drop k))) (fun _ i _ _ _ _ _ _ _ _ _ _ _ _ _ _ _ _ _ _ _ _ _ _ _ _=>(intOf i+1).toNat)
 case atStart=>exact⟨(dig x.natAbs).length,_,0,rfl,Nat.le_refl _,rfl,rfl,by simp[val,sg]⟩
 case round =>
  obtain⟨k,i',z,rfl,hk,hk',rfl,hz⟩:=hrel
  cases k with
  | zero =>
   obtain rfl:i'=-1:=by have:=hk'.out;simpa using this
   have HZ:Hid (z=aG x):=by
    unfold Hid;rw[HF.out.1,hz]
    simp only[List.drop_zero,aJ]
    exact HS.out
   clear hz
   go_wp2_with fail
   go_ret2
   exact⟨by rw[HF.out.2,<-HZ.out];rfl,hBB⟩
  | succ k =>
   obtain rfl:i'=(k:Int):=by have:=hk'.out;simp at this;omega
   have hkl:k<(dig x.natAbs).length:=by omega
   obtain⟨ba,oa,rfl,hba,hca⟩:=hRd.at (by intro e;rw[e] at hkl;simp at hkl)
   have hcell:=hca k hkl
   have ga:gr (dig x.natAbs) k<=999999999:=gK (bM _) k
   have h0:(0:Int)<=k:=by omega
   have h1:(k:Int)<(dig x.natAbs).length:=by omega
   obtain⟨v',hvd⟩:∃ v',val ((dig x.natAbs).drop (k+1))=v':=⟨_,rfl⟩
   rw[hvd] at hz
   clear hca
   by_cases hneg:x<0
   ·have hdx:decide (x<0)=true:=decide_eq_true hneg
    obtain rfl:g1=true:=by have:=hf1.out;rw[this];exact hdx
    obtain rfl:z=-(v':Int):=by rw[hz,hdx];simp[sg]
    clear hz
    have HV:Hid (-(val ((dig x.natAbs).drop k):Int)=(-(v':Int))*1000000000-(gr (dig x.natAbs) k:Int)):=by
     have h9:=kT hkl
     rw[bI,hvd] at h9
     show _=_
     omega
    have hb3:(v':Int)*1000000000+gr (dig x.natAbs) k<=9223372036854775808:=by
     have h1:=KU (l:=dig x.natAbs) k
     rw[aJ,kT hkl,bI,hvd] at h1
     have:=HR.out
     omega
    have e0:IntKind.i64.wrap (gr (dig x.natAbs) k:Int)=(gr (dig x.natAbs) k:Int):=rY (by omega) (by omega)
    have e1:IntKind.i64.wrap (-(v':Int)*1000000000)=-(v':Int)*1000000000:=rY (by omega) (by omega)
    have e2:IntKind.i64.wrap (-(v':Int)*1000000000-(gr (dig x.natAbs) k:Int))=-(v':Int)*1000000000-(gr (dig x.natAbs) k:Int):=rY (by omega) (by omega)
    clear hvd
    go_wp2_with fail
    go_round
    case rel=>exact⟨k,_,_,rfl,by omega,rfl,rfl,by rw[hdx];simp only[sg,if_true,if_false,Bool.false_eq_true];exact HV.out.symm⟩
    case measure=>simp[intOf]
   ·have hdx:decide (x<0)=false:=decide_eq_false hneg
    obtain rfl:g1=false:=by have:=hf1.out;rw[this];exact hdx
    obtain rfl:z=(v':Int):=by rw[hz,hdx];simp[sg]
    clear hz
    have HV:Hid ((val ((dig x.natAbs).drop k):Int)=((v':Int))*1000000000+(gr (dig x.natAbs) k:Int)):=by
     have h9:=kT hkl
     rw[bI,hvd] at h9
     show _=_
     omega
    have hb3:(v':Int)*1000000000+gr (dig x.natAbs) k<=9223372036854775807:=by
     have h1:=KU (l:=dig x.natAbs) k
     rw[aJ,kT hkl,bI,hvd] at h1
     have:=HR.out
     omega
    have e0:IntKind.i64.wrap (gr (dig x.natAbs) k:Int)=(gr (dig x.natAbs) k:Int):=rY (by omega) (by omega)
    have e1:IntKind.i64.wrap ((v':Int)*1000000000)=(v':Int)*1000000000:=rY (by omega) (by omega)
    have e2:IntKind.i64.wrap ((v':Int)*1000000000+(gr (dig x.natAbs) k:Int))=(v':Int)*1000000000+(gr (dig x.natAbs) k:Int):=rY (by omega) (by omega)
    clear hvd
    go_wp2_with fail
    go_round
    case rel=>exact⟨k,_,_,rfl,by omega,rfl,rfl,by rw[hdx];simp only[sg,if_true,if_false,Bool.false_eq_true];exact HV.out.symm⟩
    case measure=>simp[intOf]
theorem a3q (v:Value) (x:Int) (w:World) (hv:Raw w v x) (hl:isz x<=999999999) :
  Calls Tryz.prog 136 #[v] w fun e W'=>e=.returned (.tuple #[.int .i64 (aG x),.bool (aO x)])/\Below w.heap.size w W':=by
 by_cases h1:x < -9223372036854775808
 ·exact a3r v x w hv hl h1
 by_cases h2:9223372036854775807<x
 ·exact a1w v x w hv hl h2
 ·exact a6C v x w hv hl ⟨by omega,by omega⟩
end Go.Proofs.YtidfgdchcpmnfaaGreat
