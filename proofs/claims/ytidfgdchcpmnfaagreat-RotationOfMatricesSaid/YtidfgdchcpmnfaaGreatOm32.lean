/-
  RotationOfMatrices: OfMatrix returns the quaternion with a matrix, or the code, for all matrices. Conditions: none beyond those of the given row.
-/
import Derived.Test.YtidfgdchcpmnfaaGreatOm30
import Derived.Test.YtidfgdchcpmnfaaGreatOm31
namespace Go.Proofs.YtidfgdchcpmnfaaGreat
open Go Go.RowKit
set_option maxRecDepth 100000
set_option maxHeartbeats 1000000
set_option linter.unusedVariables false
set_option linter.unusedSimpArgs false
def unM (m:RM):QM:=m.map fun xs=>xs.map fun x=>x.x
abbrev s9 (x y:Rat):Prop:=rsz x<=190000000/\rsz y<=190000000
noncomputable def LM0:Lib:=(((LI6
 ).add 23 (b1C s9 qP) (a3E fun v u x y w a b h=>BX v u x y w a b h.1 h.2)
 ).add 22 (cQI (fun x=>rsz x<=190000000) (fun x=>sgn x.num)) (a6Y fun v x w h hl=>QV v x w h (Nat.le_trans hl (by omega)))
 ).add 24 (cIQ bW (fun i=>(i:Rat))) (a1O fun x w h=>JB x w h.1 h.2)
theorem a0Z:dG Tryz.prog 61 (cQ2 s9 (·-·)):=by
 refine fF LM0 [4] Tryz.func61 rfl (by decide) (fun x=>[]) (fun x hp=>?_)
 obtain⟨x,y,u⟩:=x
 change Rat at x;change Rat at y
 refine iO ((rsz y<=190000000/\(rsz x<=190000000/\rsz (-y)<=190000000)/\True)/\True/\x+-y=x-y/\True) (by kernel_rfl) ?_
 obtain⟨h1,h2⟩:=hp
 exact⟨⟨h2,⟨h1,by rw[FP];exact h2⟩,trivial⟩,trivial,(Rat.sub_eq_add_neg x y).symm,trivial⟩
noncomputable def LM1:Lib:=LM0.add 61 (cQ2 s9 (·-·)) a0Z
def okR (r:RL):Bool:=decide (r.length=3)&&r.all (·.ok)
def fmB (m:RM):Bool:=decide (m.length=3)&&m.all okR
def cFm:Ctr:=⟨[tMR],[tB],fun x=>lens 700000 x.1,fun x=>(fmB x.1,())⟩
theorem a2d:dG Tryz.prog 59 cFm:=by
 refine fF LM1 [] Tryz.func59 rfl (by decide) (fun x=>[.inv {k:Nat // k<=3/\((show RM from x.1).take k).all okR=true} (fun k=>[(3,.val tI (k.1:Int))]) (fun k=>[]) (fun k=>3-k.1) ⟨0,by omega,rfl⟩ (fun i=>[.inv {k:Nat // k<=3/\(((show RM from x.1).getD i.1 []).take k).all (·.ok)=true} (fun k=>[(4,.val tI (k.1:Int))]) (fun k=>[]) (fun k=>3-k.1) ⟨0,by omega,rfl⟩ (fun _=>[])])]) (fun x hp=>?_)
 obtain⟨m,u⟩:=x
 change RM at m
 refine iO (ifB (aB (List.length m) != 3) (True/\false=fmB m/\True) ((asT Int 0=0/\True)/\∀ (i:{ k:Nat // k<=3/\List.all (List.take k m) okR=true }),asT Bool true=true/\ifB (decide (aB (aA i)<3)) ((0<=aB (aA i)/\aB (aA i)<aB (List.length m)/\True)/\ifB (aB (List.length (List.getD m (Int.toNat (aB (aA i))) (aH aI))) != 3) (True/\false=fmB m/\True) ((asT Int 0=0/\True)/\∀ (i_1:{ k:Nat // k<=3/\(List.all (List.take k (List.getD m (aA i) (aH aI))) fun(x:aI)=>aI.ok x)=true }),asT Bool true=true/\ifB (decide (aB (aA i_1)<3)) ((0<=aB (aA i)/\aB (aA i)<aB (List.length m)/\0<=aB (aA i_1)/\aB (aA i_1)<aB (List.length (List.getD m (Int.toNat (aB (aA i))) (aH aI)))/\(aI.n (List.getD (List.getD m (Int.toNat (aB (aA i))) (aH aI)) (Int.toNat (aB (aA i_1))) dJ)<=999999999/\aI.m (List.getD (List.getD m (Int.toNat (aB (aA i))) (aH aI)) (Int.toNat (aB (aA i_1))) dJ)<=999999999)/\True)/\ifB (!aI.ok (List.getD (List.getD m (Int.toNat (aB (aA i))) (aH aI)) (Int.toNat (aB (aA i_1))) dJ)) (True/\false=fmB m/\True) (∃ (i':{ k:Nat // k<=3/\(List.all (List.take k (List.getD m (aA i) (aH aI))) fun(x:aI)=>aI.ok x)=true }),3-aA i'<3-aA i_1/\IntKind.wrap IntKind.i64 (aB (aA i_1)+1)=aB (aA i')/\True)) (∃ (i':{ k:Nat // k<=3/\List.all (List.take k m) okR=true }),3-aA i'<3-aA i/\IntKind.wrap IntKind.i64 (aB (aA i)+1)=aB (aA i')/\True))) (True/\true=fmB m/\True))) (by kernel_rfl) ?_
 have hp:lens 700000 m:=hp
 have hZ:(⟨false,0,[],[]⟩:aI)=dJ:=rfl
 dsimp only[aB,aA,asT,aH,iJ] at *
 simp only[hZ,gU,true_and,and_true,decide_eq_true_eq,decide_eq_false_iff_not,Int.toNat_natCast,true_implies,implies_true,bne_iff_ne,ne_eq,bne_eq_false_iff_eq,Bool.not_eq_true',Bool.not_eq_false']
 have no:∀ i,i<m.length->okR (m.getD i [])=false->false=fmB m:=fun i hi h=>by
  unfold fmB
  rw[a1L (d:=[]) hi h];cases decide (m.length=3)<;>rfl
 have bd:∀ i j,i<m.length->j<(m.getD i []).length->((m.getD i []).getD j dJ).n<=700000/\((m.getD i []).getD j dJ).m<=700000:=fun i j hi hj=>by
  have:=jC (p:=fun q:aI=>q.n<=700000/\q.m<=700000/\rsz q.x<=700000) (jC (p:=fun r:RL=>∀ q ∈ r,q.n<=700000/\q.m<=700000/\rsz q.x<=700000) hp hi (d:=[])) hj (d:=dJ)
  exact⟨this.1,this.2.1⟩
 refine⟨fun h=>?_,fun h i=>⟨fun h1=>⟨⟨by omega,by omega⟩,fun h2=>?_,fun h2 k=>⟨fun h3=>⟨⟨by omega,by omega,by omega,by omega,?_⟩,fun h4=>?_,fun h4=>⟨⟨k.1+1,by omega,?_⟩,by simp only;omega,by rw[dV (by omega) (by omega)];rfl⟩⟩,fun h3=>⟨⟨i.1+1,by omega,?_⟩,by simp only;omega,by rw[dV (by omega) (by omega)];rfl⟩⟩⟩,fun h1=>?_⟩⟩
 ·unfold fmB;rw[decide_eq_false (by omega)];rfl
 ·refine no i.1 (by omega) ?_
  unfold okR;rw[decide_eq_false (by omega)];rfl
 ·obtain⟨b1,b2⟩:=bd i.1 k.1 (by omega) (by omega)
  exact⟨by omega,by omega⟩
 ·refine no i.1 (by omega) ?_
  unfold okR;rw[a1L (d:=dJ) (by omega) h4];cases decide ((m.getD i.1 []).length=3)<;>rfl
 ·rw[xR (d:=dJ) (by omega),k.2.2,h4];rfl
 ·rw[xR (d:=[]) (by omega),i.2.2]
  have h5:=k.2.2
  rw[List.take_of_length_le (by omega)] at h5
  unfold okR;rw[h5,decide_eq_true (by omega)];rfl
 ·have h5:=i.2.2
  rw[List.take_of_length_le (by have:=i.2;omega)] at h5
  unfold fmB;rw[h5,decide_eq_true (by omega)];rfl
noncomputable def LM2:Lib:=LM1.add 59 cFm a2d
def nT (e:Nat->Nat->Rat) (i k:Nat):Nat->Rat
 | 0=>if i=k then ((-1:Int):Rat) else ((0:Int):Rat)
 | j+1=>nT e i k j+e i j*e k j
def sqQ (m:QM):Prop:=m.length=3/\∀ r ∈ m,r.length=3
def szQ (m:QM):Prop:=∀ i j,i<3->j<3->rsz (e2 m i j)<=700000
def b5Z:Ctr:=⟨[tM],[tB],fun x=>sqQ x.1/\szQ x.1,fun x=>(jT (e2 x.1),())⟩
theorem a1r {e:Nat->Nat->Rat} {i k K:Nat}:∀ j,(∀ l,l<j->rsz (e i l)<=K/\rsz (e k l)<=K)->rsz (nT e i k j)<=j*(2*K+1)+1
 | 0,_=>by
  show rsz (if i=k then ((-1:Int):Rat) else ((0:Int):Rat))<=_
  split
  ·have:rsz ((-1:Int):Rat)<=1:=by decide +kernel
   omega
  ·have:rsz ((0:Int):Rat)<=1:=by decide +kernel
   omega
 | j+1,h=>by
  have h1:=a1r j (fun l hl=>h l (by omega))
  have h2:=fP (e i j) (e k j)
  have h3:=mJ (nT e i k j) (e i j*e k j)
  have h4:=h j (by omega)
  show rsz (nT e i k j+e i j*e k j)<=_
  rw[Nat.succ_mul]
  omega
theorem a6q (e:Nat->Nat->Rat) (i k:Nat):nT e i k 3=0↔pU (e i) (e k) 3=idE i k:=by
 show (if i=k then ((-1:Int):Rat) else ((0:Int):Rat))+e i 0*e k 0+e i 1*e k 1+e i 2*e k 2=0↔0+e i 0*e k 0+e i 1*e k 1+e i 2*e k 2=if i=k then 1 else 0
 have h1:((-1:Int):Rat)=-1:=by decide +kernel
 have h0:((0:Int):Rat)=0:=Rat.intCast_zero
 rw[h1,h0]
 by_cases h:i=k
 ·rw[if_pos h,if_pos h];constructor<;>intro h9<;>grind
 ·rw[if_neg h,if_neg h]
theorem PO {p q r s x:Rat} (hp:rsz p<=700000) (hq:rsz q<=700000) (hr:rsz r<=700000) (hs:rsz s<=700000) (hx:rsz x<=700000):rsz (p*q)<=190000000/\rsz (r*s)<=190000000/\rsz (p*q-r*s)<=190000000/\rsz (x*(p*q-r*s))<=190000000/\rsz (x*(p*q-r*s))<=5000000:=by
 have h1:=fP p q
 have h2:=fP r s
 have h3:=uG (p*q) (r*s)
 have h4:=fP x (p*q-r*s)
 omega
theorem b5J {p q r:Rat} (hp:rsz p<=5000000) (hq:rsz q<=5000000) (hr:rsz r<=5000000):rsz ((0:Int):Rat)<=190000000/\rsz (((0:Int):Rat)+p)<=190000000/\rsz (((0:Int):Rat)+p+q)<=190000000/\rsz (((0:Int):Rat)+p+q+r)<=190000000:=by
 have h0:rsz ((0:Int):Rat)<=1:=by decide +kernel
 have h1:=mJ ((0:Int):Rat) p
 have h2:=mJ (((0:Int):Rat)+p) q
 have h3:=mJ (((0:Int):Rat)+p+q) r
 omega
theorem YE:dG Tryz.prog 60 b5Z:=by
 refine fF LM2 [5,7,9] Tryz.func60 rfl (by decide) (fun x=>[.inv {i:Nat // i<=3/\∀ a,a<i->∀ b,b<3->iL (e2 x.1) a b=true} (fun i=>[(3,.val tI (i.1:Int))]) (fun _=>[]) (fun i=>3-i.1) ⟨0,by omega,fun a h=>by omega⟩ (fun i=>[.inv {k:Nat // k<=3/\∀ b,b<k->iL (e2 x.1) i.1 b=true} (fun k=>[(4,.val tI (k.1:Int))]) (fun _=>[]) (fun k=>3-k.1) ⟨0,by omega,fun a h=>by omega⟩ (fun k=>[.inv Le3 (fun j=>[(6,.val tI (j.1:Int))]) (fun j=>[(5,.box [⟨tQ,nT (e2 x.1) i.1 k.1 j.1⟩])]) (fun j=>3-j.1) ⟨0,by omega⟩ (fun _=>[])])]),.turns 4 [8] [7] []]) (fun x hp=>?_)
 obtain⟨m,u⟩:=x
 change QM at m
 refine iO (let x0z:=(List.getD (List.getD m 1 (aH Rat)) 1 0*List.getD (List.getD m 2 (aH Rat)) 2 0-List.getD (List.getD m 1 (aH Rat)) 2 0*List.getD (List.getD m 2 (aH Rat)) 1 0);let x1z:=(List.getD (List.getD m 1 (aH Rat)) 2 0*List.getD (List.getD m 2 (aH Rat)) 0 0-List.getD (List.getD m 1 (aH Rat)) 0 0*List.getD (List.getD m 2 (aH Rat)) 2 0);let x2z:=(List.getD (List.getD m 1 (aH Rat)) 0 0*List.getD (List.getD m 2 (aH Rat)) 1 0-List.getD (List.getD m 1 (aH Rat)) 1 0*List.getD (List.getD m 2 (aH Rat)) 0 0);let x3z:=(List.getD m 0 (aH Rat));let x4z:=(List.getD m 1 (aH Rat));let x5z:=(List.getD m 2 (aH Rat));let x6z:=(List.length m);(asT Int 0=0/\True)/\∀ (i:{ i:Nat // i<=3/\∀ (a:Nat),a<i->∀ (b:Nat),b<3->iL (e2 m) a b=true }),asT Bool true=true/\ifB (decide (aB (aA i)<3)) ((asT Int 0=0/\True)/\∀ (i_1:{ k:Nat // k<=3/\∀ (b:Nat),b<k->iL (e2 m) (aA i) b=true }),asT Bool true=true/\ifB (decide (aB (aA i_1)<3)) ((bW 0/\True)/\ifB (aB (aA i)==aB (aA i_1)) ((bW (-1)/\True)/\(asT Int 0=0/\iJ (-1)=nT (e2 m) (aA i) (aA i_1) 0/\True)/\∀ (i_2:Le3),asT Bool true=true/\ifB (decide (aB (aA i_2)<3)) ((0<=aB (aA i)/\aB (aA i)<aB x6z/\0<=aB (aA i_2)/\aB (aA i_2)<aB (List.length (List.getD m (Int.toNat (aB (aA i))) (aH Rat)))/\0<=aB (aA i_1)/\aB (aA i_1)<aB x6z/\0<=aB (aA i_2)/\aB (aA i_2)<aB (List.length (List.getD m (Int.toNat (aB (aA i_1))) (aH Rat)))/\(rsz (List.getD (List.getD m (Int.toNat (aB (aA i))) (aH Rat)) (Int.toNat (aB (aA i_2))) 0)<=190000000/\rsz (List.getD (List.getD m (Int.toNat (aB (aA i_1))) (aH Rat)) (Int.toNat (aB (aA i_2))) 0)<=190000000)/\(rsz (nT (e2 m) (aA i) (aA i_1) (aA i_2))<=190000000/\rsz (List.getD (List.getD m (Int.toNat (aB (aA i))) (aH Rat)) (Int.toNat (aB (aA i_2))) 0*List.getD (List.getD m (Int.toNat (aB (aA i_1))) (aH Rat)) (Int.toNat (aB (aA i_2))) 0)<=190000000)/\True)/\∃ (i':Le3),3-aA i'<3-aA i_2/\IntKind.wrap IntKind.i64 (aB (aA i_2)+1)=aB (aA i')/\nT (e2 m) (aA i) (aA i_1) (aA i_2)+List.getD (List.getD m (Int.toNat (aB (aA i))) (aH Rat)) (Int.toNat (aB (aA i_2))) 0*List.getD (List.getD m (Int.toNat (aB (aA i_1))) (aH Rat)) (Int.toNat (aB (aA i_2))) 0=nT (e2 m) (aA i) (aA i_1) (aA i')/\True) ((rsz (nT (e2 m) (aA i) (aA i_1) (aA i_2))<=190000000/\True)/\ifB (sgn (Rat.num (nT (e2 m) (aA i) (aA i_1) (aA i_2))) != 0) (True/\false=jT (e2 m)/\True) (∃ (i':{ k:Nat // k<=3/\∀ (b:Nat),b<k->iL (e2 m) (aA i) b=true }),3-aA i'<3-aA i_1/\IntKind.wrap IntKind.i64 (aB (aA i_1)+1)=aB (aA i')/\True))) ((asT Int 0=0/\iJ 0=nT (e2 m) (aA i) (aA i_1) 0/\True)/\∀ (i_2:Le3),asT Bool true=true/\ifB (decide (aB (aA i_2)<3)) ((0<=aB (aA i)/\aB (aA i)<aB x6z/\0<=aB (aA i_2)/\aB (aA i_2)<aB (List.length (List.getD m (Int.toNat (aB (aA i))) (aH Rat)))/\0<=aB (aA i_1)/\aB (aA i_1)<aB x6z/\0<=aB (aA i_2)/\aB (aA i_2)<aB (List.length (List.getD m (Int.toNat (aB (aA i_1))) (aH Rat)))/\(rsz (List.getD (List.getD m (Int.toNat (aB (aA i))) (aH Rat)) (Int.toNat (aB (aA i_2))) 0)<=190000000/\rsz (List.getD (List.getD m (Int.toNat (aB (aA i_1))) (aH Rat)) (Int.toNat (aB (aA i_2))) 0)<=190000000)/\(rsz (nT (e2 m) (aA i) (aA i_1) (aA i_2))<=190000000/\rsz (List.getD (List.getD m (Int.toNat (aB (aA i))) (aH Rat)) (Int.toNat (aB (aA i_2))) 0*List.getD (List.getD m (Int.toNat (aB (aA i_1))) (aH Rat)) (Int.toNat (aB (aA i_2))) 0)<=190000000)/\True)/\∃ (i':Le3),3-aA i'<3-aA i_2/\IntKind.wrap IntKind.i64 (aB (aA i_2)+1)=aB (aA i')/\nT (e2 m) (aA i) (aA i_1) (aA i_2)+List.getD (List.getD m (Int.toNat (aB (aA i))) (aH Rat)) (Int.toNat (aB (aA i_2))) 0*List.getD (List.getD m (Int.toNat (aB (aA i_1))) (aH Rat)) (Int.toNat (aB (aA i_2))) 0=nT (e2 m) (aA i) (aA i_1) (aA i')/\True) ((rsz (nT (e2 m) (aA i) (aA i_1) (aA i_2))<=190000000/\True)/\ifB (sgn (Rat.num (nT (e2 m) (aA i) (aA i_1) (aA i_2))) != 0) (True/\false=jT (e2 m)/\True) (∃ (i':{ k:Nat // k<=3/\∀ (b:Nat),b<k->iL (e2 m) (aA i) b=true }),3-aA i'<3-aA i_1/\IntKind.wrap IntKind.i64 (aB (aA i_1)+1)=aB (aA i')/\True)))) (∃ (i':{ i:Nat // i<=3/\∀ (a:Nat),a<i->∀ (b:Nat),b<3->iL (e2 m) a b=true }),3-aA i'<3-aA i/\IntKind.wrap IntKind.i64 (aB (aA i)+1)=aB (aA i')/\True)) ((bW 0/\True)/\(asT Int 0<=1/\1<aB x6z/\asT Int 3≠0/\asT Int 0<=Int.tmod 1 3/\Int.tmod 1 3<aB (List.length x4z)/\asT Int 0<=2/\2<aB x6z/\asT Int 3≠0/\asT Int 0<=Int.tmod 2 3/\Int.tmod 2 3<aB (List.length x5z)/\(rsz (List.getD x4z 1 0)<=190000000/\rsz (List.getD x5z 2 0)<=190000000)/\asT Int 0<=1/\1<aB x6z/\asT Int 3≠0/\asT Int 0<=Int.tmod 2 3/\Int.tmod 2 3<aB (List.length x4z)/\asT Int 0<=2/\2<aB x6z/\asT Int 3≠0/\asT Int 0<=Int.tmod 1 3/\Int.tmod 1 3<aB (List.length x5z)/\(rsz (List.getD x4z 2 0)<=190000000/\rsz (List.getD x5z 1 0)<=190000000)/\s9 (List.getD x4z 1 0*List.getD x5z 2 0) (List.getD x4z 2 0*List.getD x5z 1 0)/\True)/\(asT Int 0<=0/\0<aB x6z/\asT Int 0<=0/\0<aB (List.length x3z)/\(rsz (List.getD x3z 0 0)<=190000000/\rsz x0z<=190000000)/\(rsz (iJ 0)<=190000000/\rsz (List.getD x3z 0 0*x0z)<=190000000)/\True)/\(iJ 0+List.getD x3z 0 0*x0z=iJ 0+List.getD x3z 0 0*x0z/\True)/\asT Bool true=true/\(asT Int 0<=1/\1<aB x6z/\asT Int 3≠0/\asT Int 0<=Int.tmod 2 3/\Int.tmod 2 3<aB (List.length x4z)/\asT Int 0<=2/\2<aB x6z/\asT Int 3≠0/\asT Int 0<=Int.tmod 3 3/\Int.tmod 3 3<aB (List.length x5z)/\(rsz (List.getD x4z 2 0)<=190000000/\rsz (List.getD x5z 0 0)<=190000000)/\asT Int 0<=1/\1<aB x6z/\asT Int 3≠0/\asT Int 0<=Int.tmod 3 3/\Int.tmod 3 3<aB (List.length x4z)/\asT Int 0<=2/\2<aB x6z/\asT Int 3≠0/\asT Int 0<=Int.tmod 2 3/\Int.tmod 2 3<aB (List.length x5z)/\(rsz (List.getD x4z 0 0)<=190000000/\rsz (List.getD x5z 2 0)<=190000000)/\s9 (List.getD x4z 2 0*List.getD x5z 0 0) (List.getD x4z 0 0*List.getD x5z 2 0)/\True)/\(asT Int 0<=0/\0<aB x6z/\asT Int 0<=1/\1<aB (List.length x3z)/\(rsz (List.getD x3z 1 0)<=190000000/\rsz x1z<=190000000)/\(rsz (iJ 0+List.getD x3z 0 0*x0z)<=190000000/\rsz (List.getD x3z 1 0*x1z)<=190000000)/\True)/\(iJ 0+List.getD x3z 0 0*x0z+List.getD x3z 1 0*x1z=iJ 0+List.getD x3z 0 0*x0z+List.getD x3z 1 0*x1z/\True)/\asT Bool true=true/\(asT Int 0<=1/\1<aB x6z/\asT Int 3≠0/\asT Int 0<=Int.tmod 3 3/\Int.tmod 3 3<aB (List.length x4z)/\asT Int 0<=2/\2<aB x6z/\asT Int 3≠0/\asT Int 0<=Int.tmod 4 3/\Int.tmod 4 3<aB (List.length x5z)/\(rsz (List.getD x4z 0 0)<=190000000/\rsz (List.getD x5z 1 0)<=190000000)/\asT Int 0<=1/\1<aB x6z/\asT Int 3≠0/\asT Int 0<=Int.tmod 4 3/\Int.tmod 4 3<aB (List.length x4z)/\asT Int 0<=2/\2<aB x6z/\asT Int 3≠0/\asT Int 0<=Int.tmod 3 3/\Int.tmod 3 3<aB (List.length x5z)/\(rsz (List.getD x4z 1 0)<=190000000/\rsz (List.getD x5z 0 0)<=190000000)/\s9 (List.getD x4z 0 0*List.getD x5z 1 0) (List.getD x4z 1 0*List.getD x5z 0 0)/\True)/\(asT Int 0<=0/\0<aB x6z/\asT Int 0<=2/\2<aB (List.length x3z)/\(rsz (List.getD x3z 2 0)<=190000000/\rsz x2z<=190000000)/\(rsz (iJ 0+List.getD x3z 0 0*x0z+List.getD x3z 1 0*x1z)<=190000000/\rsz (List.getD x3z 2 0*x2z)<=190000000)/\True)/\(iJ 0+List.getD x3z 0 0*x0z+List.getD x3z 1 0*x1z+List.getD x3z 2 0*x2z=iJ 0+List.getD x3z 0 0*x0z+List.getD x3z 1 0*x1z+List.getD x3z 2 0*x2z/\True)/\asT Bool true=true/\(bW 1/\s9 (iJ 0+List.getD x3z 0 0*x0z+List.getD x3z 1 0*x1z+List.getD x3z 2 0*x2z) (iJ 1)/\True)/\True/\(qP (iJ 0+List.getD x3z 0 0*x0z+List.getD x3z 1 0*x1z+List.getD x3z 2 0*x2z) (iJ 1)==0)=jT (e2 m)/\True)) (by kernel_rfl) ?_
 obtain⟨⟨h1,h2⟩,h3⟩:=hp
 dsimp only[aB,aA,asT,aH,iJ] at *
 simp only[gU,true_and,and_true,decide_eq_true_eq,decide_eq_false_iff_not,Int.toNat_natCast,true_implies,implies_true,bne_iff_ne,ne_eq,bne_eq_false_iff_eq,Bool.not_eq_true',Bool.not_eq_false',beq_iff_eq,beq_eq_false_iff_ne]
 have L:∀ k,k<3->(m.getD k []).length=3:=fun k hk=>jC (p:=fun r:List Rat=>r.length=3) h2 (by omega)
 have he:∀ i j,(m.getD i []).getD j 0=e2 m i j:=fun _ _=>rfl
 have w0:bW 0:=by unfold bW;omega
 have w1:bW 1:=by unfold bW;omega
 have wm:bW (-1):=by unfold bW;omega
 have tz:∀ i k j,i<3->k<3->j<=3->rsz (nT (e2 m) i k j)<=100000000:=fun i k j hi hk hj=>Nat.le_trans (a1r (K:=700000) (e:=e2 m) (i:=i) (k:=k) j (fun j hj=>⟨h3 i j hi (by omega),h3 k j hk (by omega)⟩)) (by omega)
 refine fun i=>⟨fun a1 k=>⟨fun a2=>⟨w0,fun a3=>⟨wm,(if_pos (by omega)).symm,fun j=>⟨fun a4=>?_,fun a4=>?_⟩⟩,fun a3=>⟨(if_neg (by omega)).symm,fun j=>⟨fun a4=>?_,fun a4=>?_⟩⟩⟩,fun a2=>⟨⟨i.1+1,by omega,fun a ha b hb=>?_⟩,by simp only;omega,by rw[dV (by omega) (by omega)];rfl⟩⟩,fun a1=>?_⟩
 case refine_1 | refine_3 =>
  have s1:=h3 i.1 j.1 (by omega) (by omega)
  have s2:=h3 k.1 j.1 (by omega) (by omega)
  have s3:=fP (e2 m i.1 j.1) (e2 m k.1 j.1)
  have s4:=tz i.1 k.1 j.1 (by omega) (by omega) j.2
  rw[h1,L i.1 (by omega),L k.1 (by omega),he,he]
  exact⟨⟨by omega,by omega,by omega,by omega,by omega,by omega,by omega,by omega,⟨by omega,by omega⟩,by omega,by omega⟩,⟨j.1+1,by omega⟩,by simp only;omega,by rw[dV (by omega) (by omega)];rfl,rfl⟩
 case refine_2 | refine_4 =>
  have hj:j.1=3:=by have:=j.2;omega
  rw[hj]
  have hd:=a6q (e2 m) i.1 k.1
  refine⟨Nat.le_trans (tz _ _ _ (by omega) (by omega) (Nat.le_refl 3)) (by omega),fun a5=>?_,fun a5=>⟨⟨k.1+1,by omega,fun b hb=>?_⟩,by simp only;omega,by rw[dV (by omega) (by omega)];rfl⟩⟩
  ·rw[jZ,Rat.num_eq_zero,hd] at a5
   cases hT:jT (e2 m) with
   | false=>rfl
   | true =>
    unfold jT at hT
    rw[Bool.and_eq_true] at hT
    have:=gJ.1 (gJ.1 hT.1 i.1 (by omega)) k.1 (by omega)
    unfold iL at this
    rw[decide_eq_true_eq] at this
    exact absurd this a5
  ·rcases Nat.lt_succ_iff_lt_or_eq.1 hb with hb|rfl
   ·exact k.2.2 b hb
   ·rw[jZ,Rat.num_eq_zero,hd] at a5
    unfold iL;rw[decide_eq_true_eq];exact a5
 case refine_5 =>
  rcases Nat.lt_succ_iff_lt_or_eq.1 ha with ha|rfl
  ·exact i.2.2 a ha b hb
  ·exact k.2.2 b (by omega)
 case refine_6 =>
  have hi:i.1=3:=by have:=i.2;omega
  have hO:allB 3 (fun i=>allB 3 (iL (e2 m) i))=true:=gJ.2 (fun a ha=>gJ.2 (fun b hb=>i.2.2 a (by omega) b hb))
  have hT:jT (e2 m)=decide (det 3 (e2 m)=1):=by unfold jT;rw[hO];rfl
  rw[hT,b1G]
  simp only[he,h1,L 0 (by omega),L 1 (by omega),L 2 (by omega)]
  obtain⟨p1,p2,p3,q1,q2⟩:=PO (h3 1 1 (by omega) (by omega)) (h3 2 2 (by omega) (by omega)) (h3 1 2 (by omega) (by omega)) (h3 2 1 (by omega) (by omega)) (h3 0 0 (by omega) (by omega))
  obtain⟨p4,p5,p6,q3,q4⟩:=PO (h3 1 2 (by omega) (by omega)) (h3 2 0 (by omega) (by omega)) (h3 1 0 (by omega) (by omega)) (h3 2 2 (by omega) (by omega)) (h3 0 1 (by omega) (by omega))
  obtain⟨p7,p8,p9,q5,q6⟩:=PO (h3 1 0 (by omega) (by omega)) (h3 2 1 (by omega) (by omega)) (h3 1 1 (by omega) (by omega)) (h3 2 0 (by omega) (by omega)) (h3 0 2 (by omega) (by omega))
  have b:∀ i j,i<3->j<3->rsz (e2 m i j)<=190000000:=fun i j hi hj=>Nat.le_trans (h3 i j hi hj) (by omega)
  have b00:=b 0 0 (by omega) (by omega)
  have b01:=b 0 1 (by omega) (by omega)
  have b02:=b 0 2 (by omega) (by omega)
  have b10:=b 1 0 (by omega) (by omega)
  have b11:=b 1 1 (by omega) (by omega)
  have b12:=b 1 2 (by omega) (by omega)
  have b20:=b 2 0 (by omega) (by omega)
  have b21:=b 2 1 (by omega) (by omega)
  have b22:=b 2 2 (by omega) (by omega)
  generalize e2 m 1 1*e2 m 2 2-e2 m 1 2*e2 m 2 1=M0 at *
  generalize e2 m 1 2*e2 m 2 0-e2 m 1 0*e2 m 2 2=M1 at *
  generalize e2 m 1 0*e2 m 2 1-e2 m 1 1*e2 m 2 0=M2 at *
  obtain⟨z0,z1,z2,z3⟩:=b5J q2 q4 q6
  have o1:rsz ((1:Int):Rat)<=190000000:=by decide +kernel
  refine⟨w0,?_,?_,?_,?_,?_,?_,⟨w1,?_⟩,?_⟩
  case refine_8 =>
   have e1:((1:Int):Rat)=1:=Rat.intCast_one
   have e0:((0:Int):Rat)+e2 m 0 0*M0=e2 m 0 0*M0:=by rw[Rat.intCast_zero,Rat.zero_add]
   rw[e0,e1]
   by_cases hc:e2 m 0 0*M0+e2 m 0 1*M1+e2 m 0 2*M2=1
   ·rw[decide_eq_true hc,(rD _ _).2 hc];rfl
   ·rw[decide_eq_false hc,beq_eq_false_iff_ne];exact fun h=>hc ((rD _ _).1 h)
  all_goals (and_intros<;>first|decide|assumption|omega)
noncomputable def LM3:Lib:=LM2.add 60 b5Z YE
abbrev pm1 (a:Int):Prop:=a=1\/a=-1
def cDg:Ctr:=⟨[tM,tI,tI,tI],[tQ],fun x=>(sqQ x.1/\szQ x.1)/\pm1 x.2.1/\pm1 x.2.2.1/\pm1 x.2.2.2.1,fun x=>(iK (xs4 x.2.1 x.2.2.1 x.2.2.2.1 0) (e2 x.1) 3,())⟩
theorem WU:dG Tryz.prog 62 cDg:=by
 refine fF LM3 [8,9] Tryz.func62 rfl (by decide) (fun x=>[]) (fun x hp=>?_)
 obtain⟨m,a,b,c,u⟩:=x
 change QM at m;change Int at a;change Int at b;change Int at c
 refine iO ((bW 1/\bW a/\asT Int 0<=0/\0<aB (List.length m)/\asT Int 0<=0/\0<aB (List.length (List.getD m 0 (aH Rat)))/\(rsz (iJ a)<=190000000/\rsz (List.getD (List.getD m 0 (aH Rat)) 0 0)<=190000000)/\(rsz (iJ 1)<=190000000/\rsz (iJ a*List.getD (List.getD m 0 (aH Rat)) 0 0)<=190000000)/\True)/\(bW b/\asT Int 0<=1/\1<aB (List.length m)/\asT Int 0<=1/\1<aB (List.length (List.getD m 1 (aH Rat)))/\(rsz (iJ b)<=190000000/\rsz (List.getD (List.getD m 1 (aH Rat)) 1 0)<=190000000)/\(rsz (iJ 1+iJ a*List.getD (List.getD m 0 (aH Rat)) 0 0)<=190000000/\rsz (iJ b*List.getD (List.getD m 1 (aH Rat)) 1 0)<=190000000)/\True)/\(bW c/\asT Int 0<=2/\2<aB (List.length m)/\asT Int 0<=2/\2<aB (List.length (List.getD m 2 (aH Rat)))/\(rsz (iJ c)<=190000000/\rsz (List.getD (List.getD m 2 (aH Rat)) 2 0)<=190000000)/\(rsz (iJ 1+iJ a*List.getD (List.getD m 0 (aH Rat)) 0 0+iJ b*List.getD (List.getD m 1 (aH Rat)) 1 0)<=190000000/\rsz (iJ c*List.getD (List.getD m 2 (aH Rat)) 2 0)<=190000000)/\True)/\True/\iJ 1+iJ a*List.getD (List.getD m 0 (aH Rat)) 0 0+iJ b*List.getD (List.getD m 1 (aH Rat)) 1 0+iJ c*List.getD (List.getD m 2 (aH Rat)) 2 0=iK (xs4 a b c 0) (e2 m) 3/\True) (by kernel_rfl) ?_
 obtain⟨⟨⟨h1,h2⟩,h3⟩,ha,hb,hc⟩:=hp
 dsimp only[aB,aA,asT,aH,iJ] at *
 have L:∀ k,k<3->(m.getD k []).length=3:=fun k hk=>jC (p:=fun r:List Rat=>r.length=3) h2 (by omega)
 have he:∀ i j,(m.getD i []).getD j 0=e2 m i j:=fun _ _=>rfl
 have pm:∀ a:Int,pm1 a->bW a/\rsz ((a:Int):Rat)<=1:=fun a h=>by
  rcases h with rfl|rfl
  ·exact⟨by unfold bW;omega,by decide +kernel⟩
  ·exact⟨by unfold bW;omega,by decide +kernel⟩
 obtain⟨wa,sa⟩:=pm a ha
 obtain⟨wb,sb⟩:=pm b hb
 obtain⟨wc,sc⟩:=pm c hc
 have w1:bW 1:=by unfold bW;omega
 have o1:rsz ((1:Int):Rat)<=1:=by decide +kernel
 have d0:=h3 0 0 (by omega) (by omega)
 have d1:=h3 1 1 (by omega) (by omega)
 have d2:=h3 2 2 (by omega) (by omega)
 have t0:=fP (a:Rat) (e2 m 0 0)
 have t1:=fP (b:Rat) (e2 m 1 1)
 have t2:=fP (c:Rat) (e2 m 2 2)
 have u0:=mJ ((1:Int):Rat) ((a:Rat)*e2 m 0 0)
 have u1:=mJ (((1:Int):Rat)+(a:Rat)*e2 m 0 0) ((b:Rat)*e2 m 1 1)
 rw[h1,L 0 (by omega),L 1 (by omega),L 2 (by omega),he,he,he]
 refine⟨?_,?_,?_,trivial,rfl,trivial⟩
 all_goals (and_intros<;>first|trivial|decide|assumption|omega)
noncomputable def LM4:Lib:=LM3.add 62 cDg WU
theorem b1q (m:RM):e2 (unM m)=eR m:=by
 funext i j
 unfold e2 unM eR
 have h1:∀ (l:RL),(l.map fun x:aI=>x.x).getD j 0=(l.getD j dJ).x:=fun l=>by
  rw[List.getD_eq_getElem?_getD,List.getD_eq_getElem?_getD,List.getElem?_map]
  cases l[j]?<;>rfl
 have h2:(m.map fun xs:RL=>xs.map fun x:aI=>x.x).getD i []=(m.getD i []).map fun x:aI=>x.x:=by
  rw[List.getD_eq_getElem?_getD,List.getD_eq_getElem?_getD,List.getElem?_map]
  cases m[i]?<;>rfl
 rw[h2,h1]
theorem a7s {m:RM}:fmB m=true↔sK m=0/\m.length=3/\(m.getD 0 []).length=3:=by
 constructor
 ·intro h
  unfold fmB at h
  rw[Bool.and_eq_true,decide_eq_true_eq] at h
  obtain⟨h1,h2⟩:=h
  have r:∀ i,i<3->okR (m.getD i [])=true:=fun i hi=>jC (p:=fun r=>okR r=true) (List.all_eq_true.1 h2) (by omega)
  have l:∀ i,i<3->(m.getD i []).length=3:=fun i hi=>by
   have:=r i hi;unfold okR at this;rw[Bool.and_eq_true,decide_eq_true_eq] at this;exact this.1
  have o:∀ i j,i<3->j<3->((m.getD i []).getD j dJ).ok=true:=fun i j hi hj=>by
   have:=r i hi;unfold okR at this;rw[Bool.and_eq_true] at this
   exact jC (p:=fun q:aI=>q.ok=true) (List.all_eq_true.1 this.2) (by rw[l i hi];exact hj)
  refine⟨?_,h1,l 0 (by omega)⟩
  unfold sK xI
  have l0:=l 0 (by omega)
  refine if_pos ⟨by omega,by omega,by show 1<=(m.getD 0 []).length;omega,by show (m.getD 0 []).length<=64;omega,gJ.2 (fun i hi=>?_)⟩
  rw[h1] at hi
  unfold rowOk
  rw[Bool.and_eq_true,decide_eq_true_eq]
  dsimp only
  rw[l i hi,l0]
  exact⟨rfl,gJ.2 (fun j hj=>o i j hi hj)⟩
 ·rintro⟨f1,f2,f3⟩
  have sq:=QJ f1 f2 f3
  have ok:=QI f1
  unfold fmB
  rw[Bool.and_eq_true,decide_eq_true_eq,List.all_eq_true]
  refine⟨f2,fun r hr=>?_⟩
  unfold okR
  rw[Bool.and_eq_true,decide_eq_true_eq,List.all_eq_true]
  exact⟨sq.2 r hr,fun q hq=>ok r hr q hq⟩
theorem sq0 (x:Rat) (h:x*x=0):x=0:=by grind
theorem k01 {a b c d e f g h i:Rat} (r00:0+a*a+b*b+c*c=1) (r01:0+a*d+b*e+c*f=0) (r02:0+a*g+b*h+c*i=0) (r11:0+d*d+e*e+f*f=1) (r12:0+d*g+e*h+f*i=0) (r22:0+g*g+h*h+i*i=1) (dt:a*(e*i-f*h)+b*(f*g-d*i)+c*(d*h-e*g)=1) :
  (1+a+e+i)*(1+a-e-i)=(h-f)*(h-f)/\(1+a+e+i)*(1-a+e-i)=(c-g)*(c-g)/\(1+a+e+i)*(1-a-e+i)=(d-b)*(d-b)/\(1+a-e-i)*(1-a+e-i)=(b+d)*(b+d)/\(1+a-e-i)*(1-a-e+i)=(c+g)*(c+g)/\(1-a+e-i)*(1-a-e+i)=(f+h)*(f+h):=by
 have q0:a=e*i-f*h:=by grind
 have q4:e=a*i-c*g:=by grind
 have q8:i=a*e-b*d:=by grind
 have q1:b=f*g-d*i:=by grind
 have q2:c=d*h-e*g:=by grind
 have q3:d=c*h-b*i:=by grind
 have q5:f=b*g-a*h:=by grind
 have q6:g=b*f-c*e:=by grind
 have q7:h=c*d-a*f:=by grind
 refine⟨?_,?_,?_,?_,?_,?_⟩<;>grind
theorem row_zero {e:Nat->Nat->Rat} (hT:jT e=true) {k:Nat} (hk:k<4) (hz:dN e k k=0):∀ j,j<4->dN e k j=0:=by
 unfold jT at hT
 rw[Bool.and_eq_true,decide_eq_true_eq,b1G] at hT
 obtain⟨hO,dt⟩:=hT
 have r:∀ i j,i<3->j<3->pU (e i) (e j) 3=idE i j:=fun i j hi hj=>by
  have:=gJ.1 (gJ.1 hO i hi) j hj
  unfold iL at this
  rwa [decide_eq_true_eq] at this
 have c1:((1:Int):Rat)=1:=Rat.intCast_one
 have cm:((-1:Int):Rat)=-1:=by decide +kernel
 obtain⟨s01,s02,s03,s12,s13,s23⟩:=k01 (r 0 0 (by omega) (by omega)) (r 0 1 (by omega) (by omega)) (r 0 2 (by omega) (by omega)) (r 1 1 (by omega) (by omega)) (r 1 2 (by omega) (by omega)) (r 2 2 (by omega) (by omega)) dt
 have d0:dN e 0 0=1+e 0 0+e 1 1+e 2 2:=by
  show ((1:Int):Rat)+((1:Int):Rat)*e 0 0+((1:Int):Rat)*e 1 1+((1:Int):Rat)*e 2 2=_
  rw[c1];grind
 have d1:dN e 1 1=1+e 0 0-e 1 1-e 2 2:=by
  show ((1:Int):Rat)+((1:Int):Rat)*e 0 0+((-1:Int):Rat)*e 1 1+((-1:Int):Rat)*e 2 2=_
  rw[c1,cm];grind
 have d2:dN e 2 2=1-e 0 0+e 1 1-e 2 2:=by
  show ((1:Int):Rat)+((-1:Int):Rat)*e 0 0+((1:Int):Rat)*e 1 1+((-1:Int):Rat)*e 2 2=_
  rw[c1,cm];grind
 have d3:dN e 3 3=1-e 0 0-e 1 1+e 2 2:=by
  show ((1:Int):Rat)+((-1:Int):Rat)*e 0 0+((-1:Int):Rat)*e 1 1+((1:Int):Rat)*e 2 2=_
  rw[c1,cm];grind
 intro j hj
 match k,hk,j,hj with
 | 0,_,0,_=>exact hz
 | 0,_,1,_=>rw[d0] at hz;rw[hz,Rat.zero_mul] at s01;exact sq0 _ s01.symm
 | 0,_,2,_=>rw[d0] at hz;rw[hz,Rat.zero_mul] at s02;exact sq0 _ s02.symm
 | 0,_,3,_=>rw[d0] at hz;rw[hz,Rat.zero_mul] at s03;exact sq0 _ s03.symm
 | 1,_,0,_=>rw[d1] at hz;rw[hz,Rat.mul_zero] at s01;exact sq0 _ s01.symm
 | 1,_,1,_=>exact hz
 | 1,_,2,_=>rw[d1] at hz;rw[hz,Rat.zero_mul] at s12;exact sq0 _ s12.symm
 | 1,_,3,_=>rw[d1] at hz;rw[hz,Rat.zero_mul] at s13;exact sq0 _ s13.symm
 | 2,_,0,_=>rw[d2] at hz;rw[hz,Rat.mul_zero] at s02;exact sq0 _ s02.symm
 | 2,_,1,_=>rw[d2] at hz;rw[hz,Rat.mul_zero] at s12;exact sq0 _ s12.symm
 | 2,_,2,_=>exact hz
 | 2,_,3,_=>rw[d2] at hz;rw[hz,Rat.zero_mul] at s23;exact sq0 _ s23.symm
 | 3,_,0,_=>rw[d3] at hz;rw[hz,Rat.mul_zero] at s03;exact sq0 _ s03.symm
 | 3,_,1,_=>rw[d3] at hz;rw[hz,Rat.mul_zero] at s13;exact sq0 _ s13.symm
 | 3,_,2,_=>rw[d3] at hz;rw[hz,Rat.mul_zero] at s23;exact sq0 _ s23.symm
 | 3,_,3,_=>exact hz
theorem XQ {e:Nat->Nat->Rat} (hT:jT e=true) {k:Nat} (hk:k<4):nzB (dN e k)=true↔dN e k k≠0:=by
 constructor
 ·intro h hz
  obtain⟨j,hj,hn⟩:=a8t h
  exact hn (row_zero hT hk hz j hj)
 ·intro h
  unfold nzB
  rw[vV hk (decide_eq_false h)];rfl
def omI (e:Nat->Nat->Rat):QC4:=if nzB (dN e 0)=true then aX (aV (dN e 0)) else if nzB (dN e 1)=true then aX (aV (dN e 1)) else if nzB (dN e 2)=true then aX (aV (dN e 2)) else if nzB (dN e 3)=true then aX (aV (dN e 3)) else ((0,0,0,0,()),15,())
theorem a8v {e:Nat->Nat->Rat} (hT:jT e=true) (h:∀ j,j<4->dN e j j=0):omI e=((0,0,0,0,()),15,()):=by
 have n:∀ k,k<4->¬ nzB (dN e k)=true:=fun k hk hn=>(XQ hT hk).1 hn (h k hk)
 unfold omI
 rw[if_neg (n 0 (by omega)),if_neg (n 1 (by omega)),if_neg (n 2 (by omega)),if_neg (n 3 (by omega))]
theorem a8w {e:Nat->Nat->Rat} (hT:jT e=true) {k:Nat} (hk:k<4) (h:∀ j,j<k->dN e j j=0) (hn:dN e k k≠0):omI e=aX (aV (dN e k)):=by
 have n:∀ j,j<k->¬ nzB (dN e j)=true:=fun j hj hn=>(XQ hT (by omega)).1 hn (h j hj)
 have y:=(XQ hT hk).2 hn
 unfold omI
 match k,hk with
 | 0,_=>rw[if_pos y]
 | 1,_=>rw[if_neg (n 0 (by omega)),if_pos y]
 | 2,_=>rw[if_neg (n 0 (by omega)),if_neg (n 1 (by omega)),if_pos y]
 | 3,_=>rw[if_neg (n 0 (by omega)),if_neg (n 1 (by omega)),if_neg (n 2 (by omega)),if_pos y]
theorem WB {α:Type} {p:α->Prop}:∀ {xs:List α},(∀ x ∈ xs,p x)->xQ p xs
 | [],_=>trivial
 | x::xs,h=>⟨h x (List.mem_cons_self ..),WB fun y hy=>h y (List.mem_cons_of_mem _ hy)⟩
theorem b6b (m:RM) (i j:Nat):((m.getD i []).getD j dJ).x=eR m i j:=rfl
theorem SX:dG Tryz.prog 15 cOm:=by
 refine fF LM4 [2,4,5,6,7,8,9] Tryz.func15 rfl (by decide) (fun x=>[.inv {k:Nat // k<=4/\∀ j,j<k->dN (eR x.1) j j=0} (fun k=>[(11,.val tI (k.1:Int))]) (fun k=>[(2,.box [⟨tI,(0:Int)⟩,⟨tI,(0:Int)⟩,⟨tI,(0:Int)⟩,⟨tI,(0:Int)⟩])]) (fun k=>4-k.1) ⟨0,by omega,fun j h=>by omega⟩ (fun _=>[])]) (fun x hp=>?_)
 obtain⟨m,u⟩:=x
 change RM at m
 refine iO (let x0z:=((iK (xs4 1 1 1 0) (e2 (unM m)) 3::(aI.x (List.getD (List.getD m 2 (aH aI)) 1 dJ)-aI.x (List.getD (List.getD m 1 (aH aI)) 2 dJ))::(aI.x (List.getD (List.getD m 0 (aH aI)) 2 dJ)-aI.x (List.getD (List.getD m 2 (aH aI)) 0 dJ))::(aI.x (List.getD (List.getD m 1 (aH aI)) 0 dJ)-aI.x (List.getD (List.getD m 0 (aH aI)) 1 dJ))::aH Rat)::((aI.x (List.getD (List.getD m 2 (aH aI)) 1 dJ)-aI.x (List.getD (List.getD m 1 (aH aI)) 2 dJ))::iK (xs4 1 (-1) (-1) 0) (e2 (unM m)) 3::(aI.x (List.getD (List.getD m 0 (aH aI)) 1 dJ)+aI.x (List.getD (List.getD m 1 (aH aI)) 0 dJ))::(aI.x (List.getD (List.getD m 0 (aH aI)) 2 dJ)+aI.x (List.getD (List.getD m 2 (aH aI)) 0 dJ))::aH Rat)::((aI.x (List.getD (List.getD m 0 (aH aI)) 2 dJ)-aI.x (List.getD (List.getD m 2 (aH aI)) 0 dJ))::(aI.x (List.getD (List.getD m 0 (aH aI)) 1 dJ)+aI.x (List.getD (List.getD m 1 (aH aI)) 0 dJ))::iK (xs4 (-1) 1 (-1) 0) (e2 (unM m)) 3::(aI.x (List.getD (List.getD m 1 (aH aI)) 2 dJ)+aI.x (List.getD (List.getD m 2 (aH aI)) 1 dJ))::aH Rat)::((aI.x (List.getD (List.getD m 1 (aH aI)) 0 dJ)-aI.x (List.getD (List.getD m 0 (aH aI)) 1 dJ))::(aI.x (List.getD (List.getD m 0 (aH aI)) 2 dJ)+aI.x (List.getD (List.getD m 2 (aH aI)) 0 dJ))::(aI.x (List.getD (List.getD m 1 (aH aI)) 2 dJ)+aI.x (List.getD (List.getD m 2 (aH aI)) 1 dJ))::iK (xs4 (-1) (-1) 1 0) (e2 (unM m)) 3::aH Rat)::aH (List Rat));let x1z:=(aH aI);let x2z:=(List.getD m 2 x1z);let x3z:=(List.getD m 1 x1z);let x4z:=(List.getD m 0 x1z);(lens 700000 m/\True)/\ifB (!fmB m) (True/\(0,0,0,0,())=Prod.fst (omT m)/\True/\1=Prod.fst (Prod.snd (omT m))/\True) ((xQ (fun(x:Ty.den (Ty.list (Ty.lf Lf.iH)))=>dZ (xQ (fun(x:Ty.den (Ty.lf Lf.iH))=>dZ ((aI.ok x=true)::aH Prop)) x::aH Prop)) m/\(sqQ (unM m)/\szQ (unM m))/\True)/\ifB (!jT (e2 (unM m))) (True/\(0,0,0,0,())=Prod.fst (omT m)/\True/\15=Prod.fst (Prod.snd (omT m))/\True) ((asT Int 0<=2/\2<aB (List.length m)/\asT Int 0<=1/\1<aB (List.length x2z)/\asT Int 0<=1/\1<aB (List.length m)/\asT Int 0<=2/\2<aB (List.length x3z)/\aI.ok (List.getD x2z 1 dJ)=true/\aI.ok (List.getD x3z 2 dJ)=true/\s9 (aI.x (List.getD x2z 1 dJ)) (aI.x (List.getD x3z 2 dJ))/\True)/\(asT Int 0<=0/\0<aB (List.length m)/\asT Int 0<=2/\2<aB (List.length x4z)/\asT Int 0<=2/\2<aB (List.length m)/\asT Int 0<=0/\0<aB (List.length x2z)/\aI.ok (List.getD x4z 2 dJ)=true/\aI.ok (List.getD x2z 0 dJ)=true/\s9 (aI.x (List.getD x4z 2 dJ)) (aI.x (List.getD x2z 0 dJ))/\True)/\(asT Int 0<=1/\1<aB (List.length m)/\asT Int 0<=0/\0<aB (List.length x3z)/\asT Int 0<=0/\0<aB (List.length m)/\asT Int 0<=1/\1<aB (List.length x4z)/\aI.ok (List.getD x3z 0 dJ)=true/\aI.ok (List.getD x4z 1 dJ)=true/\s9 (aI.x (List.getD x3z 0 dJ)) (aI.x (List.getD x4z 1 dJ))/\True)/\(asT Int 0<=0/\0<aB (List.length m)/\asT Int 0<=1/\1<aB (List.length x4z)/\asT Int 0<=1/\1<aB (List.length m)/\asT Int 0<=0/\0<aB (List.length x3z)/\aI.ok (List.getD x4z 1 dJ)=true/\aI.ok (List.getD x3z 0 dJ)=true/\(rsz (aI.x (List.getD x4z 1 dJ))<=190000000/\rsz (aI.x (List.getD x3z 0 dJ))<=190000000)/\True)/\(asT Int 0<=0/\0<aB (List.length m)/\asT Int 0<=2/\2<aB (List.length x4z)/\asT Int 0<=2/\2<aB (List.length m)/\asT Int 0<=0/\0<aB (List.length x2z)/\aI.ok (List.getD x4z 2 dJ)=true/\aI.ok (List.getD x2z 0 dJ)=true/\(rsz (aI.x (List.getD x4z 2 dJ))<=190000000/\rsz (aI.x (List.getD x2z 0 dJ))<=190000000)/\True)/\(asT Int 0<=1/\1<aB (List.length m)/\asT Int 0<=2/\2<aB (List.length x3z)/\asT Int 0<=2/\2<aB (List.length m)/\asT Int 0<=1/\1<aB (List.length x2z)/\aI.ok (List.getD x3z 2 dJ)=true/\aI.ok (List.getD x2z 1 dJ)=true/\(rsz (aI.x (List.getD x3z 2 dJ))<=190000000/\rsz (aI.x (List.getD x2z 1 dJ))<=190000000)/\True)/\(xQ (fun(x:Ty.den (Ty.list (Ty.lf Lf.iH)))=>dZ (xQ (fun(x:Ty.den (Ty.lf Lf.iH))=>dZ ((aI.ok x=true)::aH Prop)) x::aH Prop)) m/\((sqQ (unM m)/\szQ (unM m))/\pm1 1/\pm1 1/\pm1 1)/\xQ (fun(x:Ty.den (Ty.list (Ty.lf Lf.iH)))=>dZ (xQ (fun(x:Ty.den (Ty.lf Lf.iH))=>dZ ((aI.ok x=true)::aH Prop)) x::aH Prop)) m/\((sqQ (unM m)/\szQ (unM m))/\pm1 1/\pm1 (-1)/\pm1 (-1))/\xQ (fun(x:Ty.den (Ty.list (Ty.lf Lf.iH)))=>dZ (xQ (fun(x:Ty.den (Ty.lf Lf.iH))=>dZ ((aI.ok x=true)::aH Prop)) x::aH Prop)) m/\((sqQ (unM m)/\szQ (unM m))/\pm1 (-1)/\pm1 1/\pm1 (-1))/\xQ (fun(x:Ty.den (Ty.list (Ty.lf Lf.iH)))=>dZ (xQ (fun(x:Ty.den (Ty.lf Lf.iH))=>dZ ((aI.ok x=true)::aH Prop)) x::aH Prop)) m/\((sqQ (unM m)/\szQ (unM m))/\pm1 (-1)/\pm1 (-1)/\pm1 1)/\True)/\(asT Int 0=0/\asT Int 0=0/\asT Int 0=0/\asT Int 0=0/\asT Int 0=0/\True)/\∀ (i:{ k:Nat // k<=4/\∀ (j:Nat),j<k->dN (eR m) j j=0 }),asT Bool true=true/\ifB (decide (aB (aA i)<4)) ((0<=aB (aA i)/\aB (aA i)<aB (List.length x0z)/\0<=aB (aA i)/\aB (aA i)<aB (List.length (List.getD x0z (Int.toNat (aB (aA i))) (aH Rat)))/\rsz (List.getD (List.getD x0z (Int.toNat (aB (aA i))) (aH Rat)) (Int.toNat (aB (aA i))) 0)<=190000000/\True)/\ifB (sgn (Rat.num (List.getD (List.getD x0z (Int.toNat (aB (aA i))) (aH Rat)) (Int.toNat (aB (aA i))) 0)) != 0) ((0<=aB (aA i)/\aB (aA i)<aB (List.length x0z)/\(List.length (List.getD x0z (Int.toNat (aB (aA i))) (aH Rat))=4/\(∀ (j:Nat),j<4->rsz (qL (List.getD x0z (Int.toNat (aB (aA i))) (aH Rat)) j)<=50000000)/\∃ (j:Nat),j<4/\qL (List.getD x0z (Int.toNat (aB (aA i))) (aH Rat)) j≠0)/\True)/\True/\(Prod.fst (Prod.fst (aX (aV (qL (List.getD x0z (Int.toNat (aB (aA i))) (aH Rat)))))),Prod.fst (Prod.snd (Prod.fst (aX (aV (qL (List.getD x0z (Int.toNat (aB (aA i))) (aH Rat))))))),Prod.fst (Prod.snd (Prod.snd (Prod.fst (aX (aV (qL (List.getD x0z (Int.toNat (aB (aA i))) (aH Rat)))))))),Prod.fst (Prod.snd (Prod.snd (Prod.snd (Prod.fst (aX (aV (qL (List.getD x0z (Int.toNat (aB (aA i))) (aH Rat))))))))),())=Prod.fst (omT m)/\True/\Prod.fst (Prod.snd (aX (aV (qL (List.getD x0z (Int.toNat (aB (aA i))) (aH Rat))))))=Prod.fst (Prod.snd (omT m))/\True) (∃ (i':{ k:Nat // k<=4/\∀ (j:Nat),j<k->dN (eR m) j j=0 }),4-aA i'<4-aA i/\IntKind.wrap IntKind.i64 (aB (aA i)+1)=aB (aA i')/\asT Int 0=0/\asT Int 0=0/\asT Int 0=0/\asT Int 0=0/\True)) (True/\(0,0,0,0,())=Prod.fst (omT m)/\True/\15=Prod.fst (Prod.snd (omT m))/\True)))) (by kernel_rfl) ?_
 obtain⟨hl,hlen⟩:=hp
 have hZ:(⟨false,0,[],[]⟩:aI)=dJ:=rfl
 dsimp only[aB,aA,asT,aH,iJ] at *
 simp only[hZ,gU,true_and,and_true,decide_eq_true_eq,decide_eq_false_iff_not,Int.toNat_natCast,true_implies,implies_true,bne_iff_ne,ne_eq,bne_eq_false_iff_eq,Bool.not_eq_true',Bool.not_eq_false',beq_iff_eq,beq_eq_false_iff_ne,b1q,b6b]
 generalize hG:[[iK (xs4 1 1 1 0) (eR m) 3,eR m 2 1-eR m 1 2,eR m 0 2-eR m 2 0,eR m 1 0-eR m 0 1],[eR m 2 1-eR m 1 2,iK (xs4 1 (-1) (-1) 0) (eR m) 3,eR m 0 1+eR m 1 0,eR m 0 2+eR m 2 0],[eR m 0 2-eR m 2 0,eR m 0 1+eR m 1 0,iK (xs4 (-1) 1 (-1) 0) (eR m) 3,eR m 1 2+eR m 2 1],[eR m 1 0-eR m 0 1,eR m 0 2+eR m 2 0,eR m 1 2+eR m 2 1,iK (xs4 (-1) (-1) 1 0) (eR m) 3]]=R
 by_cases hf:fmB m=true
 ·obtain⟨f1,f2,f3⟩:=a7s.1 hf
  have e3:m3 m:=⟨hl,QJ f1 f2 f3,QI f1⟩
  have L:∀ k,k<3->(m.getD k []).length=3:=fun k hk=>BU e3.2.1 hk
  have oT:omT m=if jT (eR m)=true then omI (eR m) else ((0,0,0,0,()),15,()):=if_pos ⟨f1,f2,f3⟩
  have O:∀ i j,i<3->j<3->((m.getD i []).getD j dJ).ok=true:=fun i j hi hj=>(yY e3 hi hj).1
  have b:∀ i j,i<3->j<3->rsz (eR m i j)<=190000000:=fun i j hi hj=>Nat.le_trans (yY e3 hi hj).2 (by omega)
  have ac:xQ (fun x:RL=>dZ [xQ (fun x:aI=>dZ [x.ok=true]) x]) m:=WB (fun r hr=>⟨WB (fun q hq=>⟨e3.2.2 r hr q hq,trivial⟩),trivial⟩)
  have su:sqQ (unM m):=⟨by unfold unM;rw[List.length_map];exact f2,fun r hr=>by
   obtain⟨s,hs,rfl⟩:=List.mem_map.1 hr
   rw[List.length_map];exact e3.2.1.2 s hs⟩
  have zu:szQ (unM m):=fun i j hi hj=>by rw[b1q];exact(yY e3 hi hj).2
  have nm:∀ k,k<4->∀ j,j<4->rsz (dN (eR m) k j)<=50000000:=fun k _ j hj=>UM (K:=700000) (fun i j hi hj=>(yY e3 hi hj).2) (by omega) k j hj
  have hR:R.length=4/\∀ i,i<4->(R.getD i []).length=4/\∀ j,j<4->(R.getD i []).getD j 0=dN (eR m) i j:=by
   subst hG
   refine⟨rfl,fun i hi=>?_⟩
   match i,hi with
   | 0,_=>exact⟨rfl,fun j hj=>by match j,hj with|0,_=>rfl|1,_=>rfl|2,_=>rfl|3,_=>rfl⟩
   | 1,_=>exact⟨rfl,fun j hj=>by match j,hj with|0,_=>rfl|1,_=>rfl|2,_=>rfl|3,_=>rfl⟩
   | 2,_=>exact⟨rfl,fun j hj=>by match j,hj with|0,_=>rfl|1,_=>rfl|2,_=>rfl|3,_=>rfl⟩
   | 3,_=>exact⟨rfl,fun j hj=>by match j,hj with|0,_=>rfl|1,_=>rfl|2,_=>rfl|3,_=>rfl⟩
  obtain⟨lR,hR⟩:=hR
  rw[f2,L 0 (by omega),L 1 (by omega),L 2 (by omega),lR]
  have p1:pm1 1:=.inl rfl
  have pn:pm1 (-1):=.inr rfl
  refine⟨hl,fun h=>(by rw[hf] at h;cases h),fun _=>⟨⟨ac,su,zu⟩,fun hT=>by rw[oT,if_neg (by rw[hT];decide)];exact⟨rfl,rfl⟩,fun hT=>⟨?_,?_,?_,?_,?_,?_,⟨ac,⟨⟨su,zu⟩,p1,p1,p1⟩,ac,⟨⟨su,zu⟩,p1,pn,pn⟩,ac,⟨⟨su,zu⟩,pn,p1,pn⟩,ac,⟨su,zu⟩,pn,pn,p1⟩,fun i=>?_⟩⟩⟩
  ·exact⟨by omega,by omega,by omega,by omega,by omega,by omega,by omega,by omega,O 2 1 (by omega) (by omega),O 1 2 (by omega) (by omega),b 2 1 (by omega) (by omega),b 1 2 (by omega) (by omega)⟩
  ·exact⟨by omega,by omega,by omega,by omega,by omega,by omega,by omega,by omega,O 0 2 (by omega) (by omega),O 2 0 (by omega) (by omega),b 0 2 (by omega) (by omega),b 2 0 (by omega) (by omega)⟩
  ·exact⟨by omega,by omega,by omega,by omega,by omega,by omega,by omega,by omega,O 1 0 (by omega) (by omega),O 0 1 (by omega) (by omega),b 1 0 (by omega) (by omega),b 0 1 (by omega) (by omega)⟩
  ·exact⟨by omega,by omega,by omega,by omega,by omega,by omega,by omega,by omega,O 0 1 (by omega) (by omega),O 1 0 (by omega) (by omega),b 0 1 (by omega) (by omega),b 1 0 (by omega) (by omega)⟩
  ·exact⟨by omega,by omega,by omega,by omega,by omega,by omega,by omega,by omega,O 0 2 (by omega) (by omega),O 2 0 (by omega) (by omega),b 0 2 (by omega) (by omega),b 2 0 (by omega) (by omega)⟩
  ·exact⟨by omega,by omega,by omega,by omega,by omega,by omega,by omega,by omega,O 1 2 (by omega) (by omega),O 2 1 (by omega) (by omega),b 1 2 (by omega) (by omega),b 2 1 (by omega) (by omega)⟩
  rw[oT,if_pos hT]
  refine⟨fun h1=>?_,fun h1=>?_⟩
  ·obtain⟨l1,l2⟩:=hR i.1 (by omega)
   have l3:∀ j,j<4->qL (R.getD i.1 []) j=dN (eR m) i.1 j:=l2
   rw[l1,l2 i.1 (by omega),qB (fun j hj=>BP l3 hj)]
   refine⟨⟨by omega,by omega,by omega,by omega,Nat.le_trans (nm i.1 (by omega) i.1 (by omega)) (by omega)⟩,fun h2=>?_,fun h2=>⟨⟨i.1+1,by omega,fun j hj=>?_⟩,by simp only;omega,by rw[dV (by omega) (by omega)];rfl⟩⟩
   ·rw[jZ,Rat.num_eq_zero] at h2
    rw[a8w hT (by omega) i.2.2 h2]
    exact⟨⟨by omega,by omega,rfl,fun j hj=>by rw[l3 j hj];exact nm i.1 (by omega) j hj,i.1,by omega,by rw[l3 i.1 (by omega)];exact h2⟩,rfl,rfl⟩
   ·rcases Nat.lt_succ_iff_lt_or_eq.1 hj with hj|rfl
    ·exact i.2.2 j hj
    ·rw[jZ,Rat.num_eq_zero] at h2;exact h2
  ·rw[a8v hT (fun j hj=>i.2.2 j (by have:=i.2.1;omega))]
   exact⟨rfl,rfl⟩
 ·have hm:omT m=((0,0,0,0,()),1,()):=if_neg (fun h=>hf (a7s.2 h))
  rw[hm]
  exact⟨hl,fun _=>⟨rfl,rfl⟩,fun h=>absurd h hf⟩
noncomputable def LM5:Lib:=((LM4.add 15 cOm SX).add 14 cOm EZ).add 12 (cB true) a5B
def a1n (r:RL):Bool:=decide (r.length<=5)&&r.all (fun q=>decide (q.g.length<=2/\q.h.length<=2))
theorem PX:dG Tryz.prog 3 ⟨[tMR],[.bool],fun x=>∀ r ∈ (show RM from x.1),∀ q ∈ r,a3U q,fun _=>(true,())⟩:=by
 refine fF LM5 [6,7,9] Tryz.func3 rfl (by decide) (fun x=>[.inv {k:Nat // (show RM from x.1).length<=5->k<=(show RM from x.1).length/\((show RM from x.1).take k).all a1n=true} (fun k=>[(18,.val tI (k.1:Int))]) (fun k=>[]) (fun k=>(show RM from x.1).length-k.1) ⟨0,fun _=>⟨by omega,rfl⟩⟩ (fun i=>[.inv {k:Nat // k<=((show RM from x.1).getD i.1 []).length/\(((show RM from x.1).getD i.1 []).take k).all (fun q=>decide (q.g.length<=2/\q.h.length<=2))=true} (fun k=>[(27,.val tI (k.1:Int))]) (fun k=>[]) (fun k=>((show RM from x.1).getD i.1 []).length-k.1) ⟨0,by omega,rfl⟩ (fun _=>[])])]) (fun x hp=>?_)
 obtain⟨m,u⟩:=x
 change RM at m
 refine iO (let x0z:=(eqI (Prod.fst (Prod.snd (Prod.fst (omT m)))) (Prod.fst (Prod.snd (Prod.fst (omT m))))&&(eqI (Prod.fst (Prod.snd (Prod.snd (Prod.fst (omT m))))) (Prod.fst (Prod.snd (Prod.snd (Prod.fst (omT m)))))&&(eqI (Prod.fst (Prod.snd (Prod.snd (Prod.snd (Prod.fst (omT m)))))) (Prod.fst (Prod.snd (Prod.snd (Prod.snd (Prod.fst (omT m))))))&&true)));let x1z:=(Prod.fst (Prod.fst (omT m)));(True/\True)/\ifB (decide (aB (List.length m) > 5)) (True/\asT Bool true=true/\True) ((asT Int 0=0/\True)/\∀ (i:{ k:Nat // List.length m<=5->k<=List.length m/\List.all (List.take k m) a1n=true }),asT Bool true=true/\ifB (decide (aB (aA i)<aB (List.length m))) ((0<=aB (aA i)/\aB (aA i)<aB (List.length m)/\True)/\ifB (decide (aB (List.length (List.getD m (Int.toNat (aB (aA i))) (aH aI))) > 5)) (True/\asT Bool true=true/\True) ((asT Int 0=0/\True)/\∀ (i_1:{ k:Nat // k<=List.length (List.getD m (aA i) (aH aI))/\(List.all (List.take k (List.getD m (aA i) (aH aI))) fun(q:aI)=>decide (List.length (aI.g q)<=2/\List.length (aI.h q)<=2))=true }),asT Bool true=true/\ifB (decide (aB (aA i_1)<aB (List.length (List.getD m (Int.toNat (aB (aA i))) (aH aI))))) ((0<=aB (aA i_1)/\aB (aA i_1)<aB (List.length (List.getD m (Int.toNat (aB (aA i))) (aH aI)))/\True)/\(True/\True)/\ifB (!decide (aI.n (List.getD (List.getD m (Int.toNat (aB (aA i))) (aH aI)) (Int.toNat (aB (aA i_1))) dJ)<=2/\aI.m (List.getD (List.getD m (Int.toNat (aB (aA i))) (aH aI)) (Int.toNat (aB (aA i_1))) dJ)<=2)) (True/\asT Bool true=true/\True) (∃ (i':{ k:Nat // k<=List.length (List.getD m (aA i) (aH aI))/\(List.all (List.take k (List.getD m (aA i) (aH aI))) fun(q:aI)=>decide (List.length (aI.g q)<=2/\List.length (aI.h q)<=2))=true }),List.length (List.getD m (aA i) (aH aI))-aA i'<List.length (List.getD m (aA i) (aH aI))-aA i_1/\IntKind.wrap IntKind.i64 (aB (aA i_1)+1)=aB (aA i')/\True)) (∃ (i':{ k:Nat // List.length m<=5->k<=List.length m/\List.all (List.take k m) a1n=true }),List.length m-aA i'<List.length m-aA i/\IntKind.wrap IntKind.i64 (aB (aA i)+1)=aB (aA i')/\True))) (((lens 700000 m/\List.length m<=1000000000)/\True)/\((lens 700000 m/\List.length m<=1000000000)/\True)/\((((eqI x1z x1z&&x0z)==true)=true->((eqI x1z x1z&&x0z)==true)=true/\((eqI x1z x1z&&x0z)==true)=true/\True)/\((eqI x1z x1z&&x0z)=true->((eqI x1z x1z&&x0z)==true)=true)/\True)/\True/\(bif eqI x1z x1z&&x0z then Prod.fst (Prod.snd (omT m))==Prod.fst (Prod.snd (omT m)) else false)=true/\True))) (by kernel_rfl) ?_
 have hp:∀ r ∈ m,∀ q ∈ r,a3U q:=hp
 have hZ:(⟨false,0,[],[]⟩:aI)=dJ:=rfl
 dsimp only[aB,aA,asT,aH,iJ] at *
 simp only[hZ,gU,true_and,and_true,decide_eq_true_eq,decide_eq_false_iff_not,Int.toNat_natCast,true_implies,implies_true,bne_iff_ne,ne_eq,bne_eq_false_iff_eq,Bool.not_eq_true',Bool.not_eq_false',beq_iff_eq,beq_eq_false_iff_ne]
 have eq:∀ a:Int,eqI a a=true:=fun a=>by unfold eqI;simp
 refine fun h0 i=>?_
 obtain⟨i1,i2⟩:=i.2 (by omega)
 refine⟨fun h1=>⟨⟨by omega,by omega⟩,fun h2 k=>⟨fun h3=>⟨⟨by omega,by omega⟩,fun h4=>⟨⟨k.1+1,by omega,?_⟩,by simp only;omega,by rw[dV (by omega) (by omega)];rfl⟩⟩,fun h3=>⟨⟨i.1+1,fun _=>⟨by omega,?_⟩⟩,by simp only;omega,by rw[dV (by omega) (by omega)];rfl⟩⟩⟩,fun h1=>?_⟩
 ·rw[xR (d:=dJ) (by omega),k.2.2,Bool.true_and,decide_eq_true_eq];exact h4
 ·rw[xR (d:=[]) (by omega),i2,Bool.true_and]
  have h5:=k.2.2
  rw[List.take_of_length_le (by omega)] at h5
  unfold a1n
  rw[h5,decide_eq_true (by omega)];rfl
 ·rw[List.take_of_length_le (by omega)] at i2
  have hL:lens 700000 m:=fun r hr q hq=>by
   have h6:=List.all_eq_true.1 i2 r hr
   unfold a1n at h6
   rw[Bool.and_eq_true] at h6
   have h7:=List.all_eq_true.1 h6.2 q hq
   rw[decide_eq_true_eq] at h7
   exact⟨Nat.le_trans h7.1 (by omega),Nat.le_trans h7.2 (by omega),Nat.le_trans (hp r hr q hq 2 (by omega) h7.1 h7.2) (by omega)⟩
  have hm:m.length<=1000000000:=by omega
  simp[eq,hL,hm]
theorem vofmatrices_holds:Rows.RotationOfMatricesSaid:=uU PX (fun m h r hr q hq=>h.2 r hr |>.2 q hq)
end Go.Proofs.YtidfgdchcpmnfaaGreat
