/-
  RotationApplies: Matrix and Apply return the specified results, and lengths are kept, for all quaternions and vectors. Conditions: none beyond those of the given row.
-/
import Derived.Test.YtidfgdchcpmnfaaGreatAp31
import Derived.Test.YtidfgdchcpmnfaaGreatAp32
namespace Go.Proofs.YtidfgdchcpmnfaaGreat
open Go Go.RowKit
set_option maxRecDepth 100000
set_option maxHeartbeats 1000000
set_option linter.unusedVariables false
set_option linter.unusedSimpArgs false
theorem a2O:dI Tryz.prog 73 (cHI (fun a b c d=>okc a/\okc b/\okc c/\okc d) dG):=by
 refine fB LI6 [] Tryz.func73 rfl (by decide) (fun x=>[]) (fun x hp=>?_)
 obtain⟨⟨a,b,c,d,v⟩,u⟩:=x
 change Int at a;change Int at b;change Int at c;change Int at d
 refine iK (True/\IntKind.wrap IntKind.i64 (IntKind.wrap IntKind.i64 (IntKind.wrap IntKind.i64 (IntKind.wrap IntKind.i64 (a*a)+IntKind.wrap IntKind.i64 (b*b))+IntKind.wrap IntKind.i64 (c*c))+IntKind.wrap IntKind.i64 (d*d))=dG a b c d/\True) (by kernel_rfl) ?_
 obtain⟨ha,hb,hc,hd⟩:=hp
 obtain⟨p0,p1⟩:=aZ ha ha
 obtain⟨p2,p3⟩:=aZ hb hb
 obtain⟨p4,p5⟩:=aZ hc hc
 obtain⟨p6,p7⟩:=aZ hd hd
 refine⟨trivial,?_,trivial⟩
 dsimp only at p0 p1 p2 p3 p4 p5 p6 p7
 rw[dR (n:=a*a) (by omega) (by omega),dR (n:=b*b) (by omega) (by omega),dR (n:=c*c) (by omega) (by omega),dR (n:=d*d) (by omega) (by omega),dR (n:=a*a+b*b) (by omega) (by omega),dR (n:=a*a+b*b+c*c) (by omega) (by omega),dR (by omega) (by omega)]
 rfl
noncomputable def LL0:Lib:=LI6.add 73 (cHI (fun a b c d=>okc a/\okc b/\okc c/\okc d) dG) a2O
theorem a0Y:dI Tryz.prog 40 cMx:=by
 refine fB LL0 [14] Tryz.func40 rfl (by decide) (fun x=>[.inv Le3 (fun i=>[(11,.val tI (i.1:Int)),(10,.own 126 0),(126,.any)]) (fun i=>[(126,.row 25 (.list tQ) ((List.range i.1).map fun i=>(List.range 3).map fun j=>dZ x.1.1 x.1.2.1 x.1.2.2.1 x.1.2.2.2.1 i j) 0)]) (fun i=>3-i.1) ⟨0,by omega⟩ (fun i=>[.inv Le3 (fun j=>[(13,.val tI (j.1:Int)),(12,.own 131 0),(131,.any)]) (fun j=>[(126,.row 25 (.list tQ) ((List.range i.1).map fun i=>(List.range 3).map fun j=>dZ x.1.1 x.1.2.1 x.1.2.2.1 x.1.2.2.2.1 i j) 0),(131,.row 30 tQ ((List.range j.1).map fun j=>dZ x.1.1 x.1.2.1 x.1.2.2.1 x.1.2.2.2.1 i.1 j) 0)]) (fun j=>3-j.1) ⟨0,by omega⟩ (fun _=>[])])]) (fun x hp=>?_)
 obtain⟨⟨a,b,c,d,u⟩,v⟩:=x
 change Int at a;change Int at b;change Int at c;change Int at d
 refine iK (let x0z:=((IntKind.wrap IntKind.i64 (IntKind.wrap IntKind.i64 (IntKind.wrap IntKind.i64 (IntKind.wrap IntKind.i64 (a*a)+IntKind.wrap IntKind.i64 (b*b))-IntKind.wrap IntKind.i64 (c*c))-IntKind.wrap IntKind.i64 (d*d))::IntKind.wrap IntKind.i64 (2*IntKind.wrap IntKind.i64 (IntKind.wrap IntKind.i64 (b*c)-IntKind.wrap IntKind.i64 (a*d)))::IntKind.wrap IntKind.i64 (2*IntKind.wrap IntKind.i64 (IntKind.wrap IntKind.i64 (b*d)+IntKind.wrap IntKind.i64 (a*c)))::aB Int)::(IntKind.wrap IntKind.i64 (2*IntKind.wrap IntKind.i64 (IntKind.wrap IntKind.i64 (b*c)+IntKind.wrap IntKind.i64 (a*d)))::IntKind.wrap IntKind.i64 (IntKind.wrap IntKind.i64 (IntKind.wrap IntKind.i64 (IntKind.wrap IntKind.i64 (a*a)-IntKind.wrap IntKind.i64 (b*b))+IntKind.wrap IntKind.i64 (c*c))-IntKind.wrap IntKind.i64 (d*d))::IntKind.wrap IntKind.i64 (2*IntKind.wrap IntKind.i64 (IntKind.wrap IntKind.i64 (c*d)-IntKind.wrap IntKind.i64 (a*b)))::aB Int)::(IntKind.wrap IntKind.i64 (2*IntKind.wrap IntKind.i64 (IntKind.wrap IntKind.i64 (b*d)-IntKind.wrap IntKind.i64 (a*c)))::IntKind.wrap IntKind.i64 (2*IntKind.wrap IntKind.i64 (IntKind.wrap IntKind.i64 (c*d)+IntKind.wrap IntKind.i64 (a*b)))::IntKind.wrap IntKind.i64 (IntKind.wrap IntKind.i64 (IntKind.wrap IntKind.i64 (IntKind.wrap IntKind.i64 (a*a)-IntKind.wrap IntKind.i64 (b*b))-IntKind.wrap IntKind.i64 (c*c))+IntKind.wrap IntKind.i64 (d*d))::aB Int)::aB (List Int));(True/\True)/\ifB (bG a b c d != 0) (True/\(aB (List Rat)=if bG a b c d=0 then oJ a b c d else aB (List Rat))/\True/\bG a b c d=bG a b c d/\True) ((asT Int 0=0/\asT (List (List Rat)) (aB (List Rat))=aB (List Rat)/\True)/\∀ (i:Le3),asT Bool true=true/\ifB (decide (aF (aA i)<3)) ((asT Int 0=0/\List.map (fun(i:Nat)=>List.map (fun(j:Nat)=>dZ a b c d i j) (List.range 3)) (List.range (aA i))=List.map (fun(i:Nat)=>List.map (fun(j:Nat)=>dZ a b c d i j) (List.range 3)) (List.range (aA i))/\asT (List Rat) (aB Rat)=aB Rat/\True)/\∀ (i_1:Le3),asT Bool true=true/\ifB (decide (aF (aA i_1)<3)) ((0<=aF (aA i)/\aF (aA i)<aF (List.length x0z)/\0<=aF (aA i_1)/\aF (aA i_1)<aF (List.length (List.getD x0z (Int.toNat (aF (aA i))) (aB Int)))/\(okc a/\okc b/\okc c/\okc d)/\(bZ (List.getD (List.getD x0z (Int.toNat (aF (aA i))) (aB Int)) (Int.toNat (aF (aA i_1))) 0)/\bZ (dG a b c d)/\dG a b c d≠0)/\True)/\(List.length (List.map (fun(j:Nat)=>dZ a b c d (aA i) j) (List.range (aA i_1)))+List.length (Rat.divInt (List.getD (List.getD x0z (Int.toNat (aF (aA i))) (aB Int)) (Int.toNat (aF (aA i_1))) 0) (dG a b c d)::aB Rat)<=1000000000/\True)/\∃ (i':Le3),3-aA i'<3-aA i_1/\IntKind.wrap IntKind.i64 (aF (aA i_1)+1)=aF (aA i')/\List.map (fun(i:Nat)=>List.map (fun(j:Nat)=>dZ a b c d i j) (List.range 3)) (List.range (aA i))=List.map (fun(i:Nat)=>List.map (fun(j:Nat)=>dZ a b c d i j) (List.range 3)) (List.range (aA i))/\List.map (fun(j:Nat)=>dZ a b c d (aA i) j) (List.range (aA i_1))++Rat.divInt (List.getD (List.getD x0z (Int.toNat (aF (aA i))) (aB Int)) (Int.toNat (aF (aA i_1))) 0) (dG a b c d)::aB Rat=List.map (fun(j:Nat)=>dZ a b c d (aA i) j) (List.range (aA i'))/\True) ((List.length (List.map (fun(i:Nat)=>List.map (fun(j:Nat)=>dZ a b c d i j) (List.range 3)) (List.range (aA i)))+List.length (List.map (fun(j:Nat)=>dZ a b c d (aA i) j) (List.range (aA i_1))::aB (List Rat))<=1000000000/\True)/\∃ (i':Le3),3-aA i'<3-aA i/\IntKind.wrap IntKind.i64 (aF (aA i)+1)=aF (aA i')/\List.map (fun(i:Nat)=>List.map (fun(j:Nat)=>dZ a b c d i j) (List.range 3)) (List.range (aA i))++List.map (fun(j:Nat)=>dZ a b c d (aA i) j) (List.range (aA i_1))::aB (List Rat)=List.map (fun(i:Nat)=>List.map (fun(j:Nat)=>dZ a b c d i j) (List.range 3)) (List.range (aA i'))/\True)) (True/\(List.map (fun(i:Nat)=>List.map (fun(j:Nat)=>dZ a b c d i j) (List.range 3)) (List.range (aA i))=if bG a b c d=0 then oJ a b c d else aB (List Rat))/\True/\0=bG a b c d/\True))) (by kernel_rfl) ?_
 dsimp only[aF,aA,asT,aB,iC] at *
 simp only[fA,true_and,and_true,decide_eq_true_eq,decide_eq_false_iff_not,Int.toNat_natCast,Option.some.injEq,List.length_map,List.length_range,List.length_cons,List.length_nil,true_implies,implies_true,bne_iff_ne,ne_eq,bne_eq_false_iff_eq]
 refine⟨fun h=>(if_neg h).symm,fun h=>?_⟩
 obtain⟨hn,oa,ob,oc,od⟩:=kG h
 have hN:=kJ hn
 obtain⟨b6W,b6X⟩:=aZ oa oa
 obtain⟨b6Y,b6Z⟩:=aZ oa ob
 obtain⟨b7a,b7b⟩:=aZ oa oc
 obtain⟨b7c,b7d⟩:=aZ oa od
 obtain⟨b7f,b7g⟩:=aZ ob ob
 obtain⟨b7h,b7i⟩:=aZ ob oc
 obtain⟨b7j,b7k⟩:=aZ ob od
 obtain⟨b7l,b7m⟩:=aZ oc oc
 obtain⟨b7n,b7o⟩:=aZ oc od
 obtain⟨b7p,b7q⟩:=aZ od od
 simp(disch:=omega) only[dR,if_pos h]
 generalize hG:[[a*a+b*b-c*c-d*d,2*(b*c-a*d),2*(b*d+a*c)],[2*(b*c+a*d),a*a-b*b+c*c-d*d,2*(c*d-a*b)],[2*(b*d-a*c),2*(c*d+a*b),a*a-b*b-c*c+d*d]]=M
 have hM:∀ i,i<3->(M.getD i []).length=3/\∀ k,k<3->(M.getD i []).getD k 0=dP a b c d i k:=by
  subst hG
  intro i hi
  have e:i=0\/i=1\/i=2:=by omega
  refine⟨by rcases e with rfl|rfl|rfl<;>rfl,fun k hk=>?_⟩
  have e':k=0\/k=1\/k=2:=by omega
  rcases e with rfl|rfl|rfl<;>rcases e' with rfl|rfl|rfl<;>rfl
 refine fun i=>⟨fun h1 k=>⟨fun h2=>?_,fun h2=>?_⟩,fun h1=>?_⟩
 ·have hi3:i.1<3:=by omega
  have hk3:k.1<3:=by omega
  obtain⟨e1,e2⟩:=hM _ hi3
  rw[e1,e2 _ hk3]
  have rb:=DL oa ob oc od hi3 hk3
  have nb:bZ (dG a b c d):=by unfold bZ dG;omega
  refine⟨⟨by omega,by omega,by omega,by omega,⟨oa,ob,oc,od⟩,⟨by omega,by omega⟩,nb,by omega⟩,by omega,⟨k.1+1,by omega⟩,by simp only;omega,by simp only;omega,?_⟩
  simp only[List.range_succ,List.map_append,List.map_cons,List.map_nil]
  rfl
 ·have hk:k.1=3:=by have:=k.2;omega
  refine⟨by have:=i.2;omega,⟨i.1+1,by omega⟩,by simp only;omega,by simp only;omega,?_⟩
  rw[hk]
  simp only[List.range_succ (n:=i.1),List.map_append,List.map_cons,List.map_nil]
 ·have hi:i.1=3:=by have:=i.2;omega
  rw[hi]
  exact⟨rfl,h.symm⟩
noncomputable def LL1:Lib:=(LL0.add 40 cMx a0Y).add 16 cMx PO
abbrev qAt (x:List Rat) (i:Nat):Rat:=x.getD i 0
def b6a:Ctr:=⟨[.list tQ,.list tQ],[tQ,tI],fun x=>(show List Rat from x.1).length=(show List Rat from x.2.1).length/\(show List Rat from x.1).length<=3/\∀ i,i<(show List Rat from x.1).length->rsz (qAt x.1 i)<=700000/\rsz (qAt x.2.1 i)<=700000,fun x=>(jS (qAt x.1) (qAt x.2.1) (show List Rat from x.1).length,(0:Int),())⟩
theorem a9H:dI Tryz.prog 85 b6a:=by
 refine fB (LL1.add 51 (cIQ bZ (fun i=>(i:Rat))) (a1K fun x w h=>jJ x w h.1 h.2)) [4,6,8] Tryz.func85 rfl (by decide) (fun x=>[.inv {k:Nat // k<=(show List Rat from x.1).length} (fun k=>[(18,.val tI (k.1:Int))]) (fun k=>[(4,.box [⟨tR,fJ⟩]),(6,.box [⟨tQ,jS (qAt x.1) (qAt x.2.1) k.1⟩])]) (fun k=>(show List Rat from x.1).length-k.1) ⟨0,by omega⟩ (fun _=>[])]) (fun x hp=>?_)
 obtain⟨x,y,u⟩:=x
 change List Rat at x;change List Rat at y
 refine iK (ifB (aF (List.length x) != aF (List.length y)) ((asT Bool false=true/\True)/\0=jS (qAt x) (qAt y) (List.length x)/\True/\asT Int 4=0/\True) ((bZ 0/\True)/\(asT Int 0=0/\asT aC { ok:=false,x:=0,g:=aB Nat,h:=aB Nat }=fJ/\iC 0=jS (qAt x) (qAt y) 0/\True)/\∀ (i:{ k:Nat // k<=List.length x }),asT Bool true=true/\ifB (decide (aF (aA i)<aF (List.length x))) ((0<=aF (aA i)/\aF (aA i)<aF (List.length x)/\True)/\(0<=aF (aA i)/\aF (aA i)<aF (List.length y)/\s44 (List.getD x (Int.toNat (aF (aA i))) 0) (List.getD y (Int.toNat (aF (aA i))) 0)/\s44 (jS (qAt x) (qAt y) (aA i)) (List.getD x (Int.toNat (aF (aA i))) 0*List.getD y (Int.toNat (aF (aA i))) 0)/\True)/\∃ (i':{ k:Nat // k<=List.length x }),List.length x-aA i'<List.length x-aA i/\IntKind.wrap IntKind.i64 (aF (aA i)+1)=aF (aA i')/\asT aC fJ=fJ/\jS (qAt x) (qAt y) (aA i)+List.getD x (Int.toNat (aF (aA i))) 0*List.getD y (Int.toNat (aF (aA i))) 0=jS (qAt x) (qAt y) (aA i')/\True) (True/\jS (qAt x) (qAt y) (aA i)=jS (qAt x) (qAt y) (List.length x)/\True/\asT Int 0=0/\True))) (by kernel_rfl) ?_
 obtain⟨hl,h3,hb⟩:=hp
 have hZ:(⟨false,0,[],[]⟩:aC)=fJ:=rfl
 dsimp only[aF,aA,asT,aB,iC] at *
 simp only[hZ,fA,true_and,and_true,decide_eq_true_eq,decide_eq_false_iff_not,Int.toNat_natCast,true_implies,implies_true,bne_iff_ne,ne_eq,bne_eq_false_iff_eq]
 have hx:∀ j,x.getD j 0=qAt x j:=fun _=>rfl
 have hy:∀ j,y.getD j 0=qAt y j:=fun _=>rfl
 simp only[hx,hy]
 refine⟨fun h=>absurd (by omega) h,fun h=>⟨by unfold bZ;omega,?_,fun i=>⟨fun h1=>⟨⟨by omega,by omega⟩,⟨by omega,by omega,?_,?_⟩,⟨i.1+1,by omega⟩,by simp only;omega,by rw[dR (by omega) (by omega)];rfl,rfl⟩,fun h1=>?_⟩⟩⟩
 ·exact Rat.intCast_zero
 ·have:=hb i.1 (by omega);exact⟨by omega,by omega⟩
 ·have h9:=yG (K:=700000) i.1 (fun j hj=>hb j (by omega))
  have h8:=fU (qAt x i.1) (qAt y i.1)
  have:=hb i.1 (by omega)
  exact⟨Nat.le_trans h9 (by omega),by omega⟩
 ·have:=i.2
  rw[show i.1=x.length by omega]
noncomputable def LL2:Lib:=LL1.add 85 b6a a9H
def sW (a b c d:Int) (v:List aC) (i:Nat):Rat:=jS (dZ a b c d i) (fun j=>(v.getD j fJ).x) 3
def lT (a b c d:Int) (v:List aC):List aC × Int × Unit:=if bG a b c d=0 then (if v.all (·.ok)=true then ([mG (sW a b c d v 0),mG (sW a b c d v 1),mG (sW a b c d v 2)],0,()) else ([fJ,fJ,fJ],1,())) else ([fJ,fJ,fJ],bG a b c d,())
def sm3 (v:List aC):Prop:=v.length=3/\∀ q ∈ v,sm2 q
theorem a8j {α:Type} {x:List α} (h:x.length=3):∃ a b c,x=[a,b,c]:=by
 match x,h with
 | [a,b,c],_=>exact⟨a,b,c,rfl⟩
theorem b1B {P:Rat->Prop} {p q r:Rat} (h0:P p) (h1:P q) (h2:P r):∀ j,j<3->P (qAt [p,q,r] j):=fun j hj=>by
 match j,hj with
 | 0,_=>exact h0
 | 1,_=>exact h1
 | 2,_=>exact h2
def a9w:Ctr:=⟨[mJ,.arr 3 tR],[.arr 3 tR,tI],fun x=>sm3 x.2.1,fun x=>lT x.1.1 x.1.2.1 x.1.2.2.1 x.1.2.2.2.1 x.2.1⟩
theorem a4Q:dI Tryz.prog 41 a9w:=by
 refine fB LL2 [4,8] Tryz.func41 rfl (by decide) (fun x=>[.rounds 4 [26] []]) (fun x hp=>?_)
 obtain⟨⟨a,b,c,d,u⟩,x,v⟩:=x
 change Int at a;change Int at b;change Int at c;change Int at d;change List aC at x
 refine iK (let x0z:=(if bG a b c d=0 then oJ a b c d else aB (List Rat));(True/\True)/\ifB (bG a b c d != 0) (True/\{ ok:=false,x:=0,g:=aB Nat,h:=aB Nat }::{ ok:=false,x:=0,g:=aB Nat,h:=aB Nat }::{ ok:=false,x:=0,g:=aB Nat,h:=aB Nat }::aB aC=Prod.fst (lT a b c d x)/\True/\bG a b c d=Prod.fst (Prod.snd (lT a b c d x))/\True) ((asT Int 0<=0/\asT Int 0<=3/\asT Int 3<=3/\(List.length (List.drop 0 (List.take 3 x))<=1000/\∀ (q:aC),q ∈ List.drop 0 (List.take 3 x)->aC.n q<=1000000000/\aC.m q<=1000000000)/\True)/\ifB (!List.all (List.drop 0 (List.take 3 x)) fun(x:aC)=>aC.ok x) (True/\{ ok:=false,x:=0,g:=aB Nat,h:=aB Nat }::{ ok:=false,x:=0,g:=aB Nat,h:=aB Nat }::{ ok:=false,x:=0,g:=aB Nat,h:=aB Nat }::aB aC=Prod.fst (lT a b c d x)/\True/\1=Prod.fst (Prod.snd (lT a b c d x))/\True) (ifB (decide (0<aF (List.length x0z))) ((asT Int 0<=0/\0<aF (List.length x0z)/\True)/\(asT Int 0<=0/\asT Int 0<=3/\asT Int 3<=3/\YZ (fun(x:Ty.den (Ty.lf Lf.iE))=>eU ((aC.ok x=true)::aB Prop)) (List.drop 0 (List.take 3 x))/\(List.length (List.getD x0z 0 (aB Rat))=List.length (List.map (fun(x:Ty.den (Ty.lf Lf.iE))=>aC.x x) (List.drop 0 (List.take 3 x)))/\List.length (List.getD x0z 0 (aB Rat))<=3/\∀ (i:Nat),i<List.length (List.getD x0z 0 (aB Rat))->rsz (qAt (List.getD x0z 0 (aB Rat)) i)<=700000/\rsz (qAt (List.map (fun(x:Ty.den (Ty.lf Lf.iE))=>aC.x x) (List.drop 0 (List.take 3 x))) i)<=700000)/\True)/\ifB (decide (1<aF (List.length x0z))) ((asT Int 0<=1/\1<aF (List.length x0z)/\True)/\(asT Int 0<=0/\asT Int 0<=3/\asT Int 3<=3/\YZ (fun(x:Ty.den (Ty.lf Lf.iE))=>eU ((aC.ok x=true)::aB Prop)) (List.drop 0 (List.take 3 x))/\(List.length (List.getD x0z 1 (aB Rat))=List.length (List.map (fun(x:Ty.den (Ty.lf Lf.iE))=>aC.x x) (List.drop 0 (List.take 3 x)))/\List.length (List.getD x0z 1 (aB Rat))<=3/\∀ (i:Nat),i<List.length (List.getD x0z 1 (aB Rat))->rsz (qAt (List.getD x0z 1 (aB Rat)) i)<=700000/\rsz (qAt (List.map (fun(x:Ty.den (Ty.lf Lf.iE))=>aC.x x) (List.drop 0 (List.take 3 x))) i)<=700000)/\True)/\ifB (decide (2<aF (List.length x0z))) ((asT Int 0<=2/\2<aF (List.length x0z)/\True)/\(asT Int 0<=0/\asT Int 0<=3/\asT Int 3<=3/\YZ (fun(x:Ty.den (Ty.lf Lf.iE))=>eU ((aC.ok x=true)::aB Prop)) (List.drop 0 (List.take 3 x))/\(List.length (List.getD x0z 2 (aB Rat))=List.length (List.map (fun(x:Ty.den (Ty.lf Lf.iE))=>aC.x x) (List.drop 0 (List.take 3 x)))/\List.length (List.getD x0z 2 (aB Rat))<=3/\∀ (i:Nat),i<List.length (List.getD x0z 2 (aB Rat))->rsz (qAt (List.getD x0z 2 (aB Rat)) i)<=700000/\rsz (qAt (List.map (fun(x:Ty.den (Ty.lf Lf.iE))=>aC.x x) (List.drop 0 (List.take 3 x))) i)<=700000)/\True)/\ifB (decide (3<aF (List.length x0z))) ((asT Int 0<=3/\3<aF (List.length x0z)/\True)/\False) (((True/\True/\True/\True)/\True)/\List.map (fun(x:Ty.den (Ty.lf Lf.rat))=>mG x) (jS (qAt (List.getD x0z 0 (aB Rat))) (qAt (List.map (fun(x:Ty.den (Ty.lf Lf.iE))=>aC.x x) (List.drop 0 (List.take 3 x)))) (List.length (List.getD x0z 0 (aB Rat)))::jS (qAt (List.getD x0z 1 (aB Rat))) (qAt (List.map (fun(x:Ty.den (Ty.lf Lf.iE))=>aC.x x) (List.drop 0 (List.take 3 x)))) (List.length (List.getD x0z 1 (aB Rat)))::jS (qAt (List.getD x0z 2 (aB Rat))) (qAt (List.map (fun(x:Ty.den (Ty.lf Lf.iE))=>aC.x x) (List.drop 0 (List.take 3 x)))) (List.length (List.getD x0z 2 (aB Rat)))::aB Rat)=Prod.fst (lT a b c d x)/\True/\0=Prod.fst (Prod.snd (lT a b c d x))/\True)) False) False) (True/\{ ok:=false,x:=0,g:=aB Nat,h:=aB Nat }::{ ok:=false,x:=0,g:=aB Nat,h:=aB Nat }::{ ok:=false,x:=0,g:=aB Nat,h:=aB Nat }::aB aC=Prod.fst (lT a b c d x)/\True/\0=Prod.fst (Prod.snd (lT a b c d x))/\True)))) (by kernel_rfl) ?_
 have hZ:(⟨false,0,[],[]⟩:aC)=fJ:=rfl
 dsimp only[aF,aA,asT,aB,iC] at *
 simp only[hZ,fA,true_and,and_true,decide_eq_true_eq,decide_eq_false_iff_not,Int.toNat_natCast,true_implies,implies_true,bne_iff_ne,ne_eq,bne_eq_false_iff_eq]
 obtain⟨hl,hs⟩:=hp
 obtain⟨x0,x1,x2,rfl⟩:=a8j hl
 have e3:List.drop 0 (List.take 3 [x0,x1,x2])=[x0,x1,x2]:=rfl
 have hm:oJ a b c d=[[dZ a b c d 0 0,dZ a b c d 0 1,dZ a b c d 0 2],[dZ a b c d 1 0,dZ a b c d 1 1,dZ a b c d 1 2],[dZ a b c d 2 0,dZ a b c d 2 1,dZ a b c d 2 2]]:=rfl
 by_cases h:bG a b c d=0
 ·have k0:(0:Int)<((3:Nat):Int):=by omega
  have k1:(1:Int)<((3:Nat):Int):=by omega
  have k2:(2:Int)<((3:Nat):Int):=by omega
  have k3:¬ (3:Int)<((3:Nat):Int):=by omega
  simp only[h,e3,hm,not_true_eq_false,false_implies,true_implies,true_and,if_true,List.length_cons,List.length_nil,Nat.zero_add,Nat.reduceAdd,k0,k1,k2,k3,not_false_eq_true,and_true]
  obtain⟨hn,oa,ob,oc,od⟩:=kG h
  have hN:dG a b c d≠0:=by have:=kJ hn;omega
  have s0:=hs x0 (by simp)
  have s1:=hs x1 (by simp)
  have s2:=hs x2 (by simp)
  have big:∀ q:aC,sm2 q->q.n<=1000000000/\q.m<=1000000000:=fun q h=>⟨Nat.le_trans h.1 (by omega),Nat.le_trans h.2.1 (by omega)⟩
  have ap:lT a b c d [x0,x1,x2]=if [x0,x1,x2].all (·.ok)=true then ([mG (sW a b c d [x0,x1,x2] 0),mG (sW a b c d [x0,x1,x2] 1),mG (sW a b c d [x0,x1,x2] 2)],0,()) else ([fJ,fJ,fJ],1,()):=if_pos h
  have rq:∀ i j,i<3->j<3->rsz (dZ a b c d i j)<=700000:=fun i j hi hj=>Nat.le_trans (FT oa ob oc od hN hi hj) (by omega)
  have xv:=b1B (P:=fun q=>rsz q<=700000) (Nat.le_trans s0.2.2 (by omega)) (Nat.le_trans s1.2.2 (by omega)) (Nat.le_trans s2.2.2 (by omega))
  have rw0:=fun i hi=>b1B (P:=fun q=>rsz q<=700000) (rq i 0 hi (by omega)) (rq i 1 hi (by omega)) (rq i 2 hi (by omega))
  rw[ap]
  refine⟨⟨by omega,by omega,by omega,by omega,fun q hq=>?_⟩,fun ho=>?_,fun ho=>?_⟩
  ·simp only[List.mem_cons,List.not_mem_nil,or_false] at hq
   rcases hq with rfl|rfl|rfl
   ·exact big _ s0
   ·exact big _ s1
   ·exact big _ s2
  ·rw[if_neg (fun e=>by rw[e] at ho;cases ho)];exact⟨rfl,rfl⟩
  ·have ho:[x0,x1,x2].all (·.ok)=true:=by simpa using ho
   rw[if_pos ho]
   simp only[List.all_cons,List.all_nil,Bool.and_true,Bool.and_eq_true] at ho
   obtain⟨o0,o1,o2⟩:=ho
   have ac:YZ (fun x:aC=>eU [x.ok=true]) [x0,x1,x2]:=⟨⟨o0,trivial⟩,⟨o1,trivial⟩,⟨o2,trivial⟩,trivial⟩
   have z:(0:Int)<=3/\(3:Int)<=3:=by omega
   exact⟨Int.le_refl 0,⟨Int.le_refl 0,z.1,z.2,ac,rfl,Nat.le_refl 3,fun j hj=>⟨rw0 0 (by omega) j hj,xv j hj⟩⟩,by omega,⟨Int.le_refl 0,z.1,z.2,ac,rfl,Nat.le_refl 3,fun j hj=>⟨rw0 1 (by omega) j hj,xv j hj⟩⟩,by omega,⟨Int.le_refl 0,z.1,z.2,ac,rfl,Nat.le_refl 3,fun j hj=>⟨rw0 2 (by omega) j hj,xv j hj⟩⟩,rfl,rfl⟩
 ·have ap:lT a b c d [x0,x1,x2]=([fJ,fJ,fJ],bG a b c d,()):=if_neg h
  rw[ap]
  exact⟨fun _=>⟨rfl,rfl⟩,fun e=>absurd e h⟩
noncomputable def LL3:Lib:=LL2.add 41 a9w a4Q
theorem b2L {p q r x y z:Rat} (hp:rsz p<=700000) (hq:rsz q<=700000) (hr:rsz r<=700000) (hx:rsz x<=2) (hy:rsz y<=2) (hz:rsz z<=2):(rsz ((0:Int):Rat)<=190000000/\rsz (p*x)<=190000000)/\(rsz (((0:Int):Rat)+p*x)<=190000000/\rsz (q*y)<=190000000)/\rsz (((0:Int):Rat)+p*x+q*y)<=190000000/\rsz (r*z)<=190000000:=by
 have h0:rsz ((0:Int):Rat)<=1:=by decide +kernel
 have h1:=fU p x
 have h2:=fU q y
 have h3:=fU r z
 have h4:=nX ((0:Int):Rat) (p*x)
 have h5:=nX (((0:Int):Rat)+p*x) (q*y)
 omega
theorem a2G:dI Tryz.prog 42 a9w:=by
 refine fB LL3 [4,8,11] Tryz.func42 rfl (by decide) (fun x=>[.rounds 4 [9] [],.turns 4 [10] [4,8] [.rounds 4 [12] []]]) (fun x hp=>?_)
 obtain⟨⟨a,b,c,d,u⟩,x,v⟩:=x
 change Int at a;change Int at b;change Int at c;change Int at d;change List aC at x
 refine iK (let x0z:=(if bG a b c d=0 then oJ a b c d else aB (List Rat));let x1z:=(List.getD x0z 0 (aB Rat));let x2z:=(List.getD x0z 1 (aB Rat));let x3z:=(List.getD x0z 2 (aB Rat));(True/\True)/\ifB (bG a b c d != 0) (True/\{ ok:=false,x:=0,g:=aB Nat,h:=aB Nat }::{ ok:=false,x:=0,g:=aB Nat,h:=aB Nat }::{ ok:=false,x:=0,g:=aB Nat,h:=aB Nat }::aB aC=Prod.fst (lT a b c d x)/\True/\bG a b c d=Prod.fst (Prod.snd (lT a b c d x))/\True) ((asT Int 0<=0/\asT Int 0<3/\(aC.n (List.getD x 0 { ok:=false,x:=0,g:=aB Nat,h:=aB Nat })<=999999999/\aC.m (List.getD x 0 { ok:=false,x:=0,g:=aB Nat,h:=aB Nat })<=999999999)/\True)/\ifB (!aC.ok (List.getD x 0 { ok:=false,x:=0,g:=aB Nat,h:=aB Nat })) (True/\{ ok:=false,x:=0,g:=aB Nat,h:=aB Nat }::{ ok:=false,x:=0,g:=aB Nat,h:=aB Nat }::{ ok:=false,x:=0,g:=aB Nat,h:=aB Nat }::aB aC=Prod.fst (lT a b c d x)/\True/\1=Prod.fst (Prod.snd (lT a b c d x))/\True) ((asT Int 0<=1/\asT Int 1<3/\(aC.n (List.getD x 1 { ok:=false,x:=0,g:=aB Nat,h:=aB Nat })<=999999999/\aC.m (List.getD x 1 { ok:=false,x:=0,g:=aB Nat,h:=aB Nat })<=999999999)/\True)/\ifB (!aC.ok (List.getD x 1 { ok:=false,x:=0,g:=aB Nat,h:=aB Nat })) (True/\{ ok:=false,x:=0,g:=aB Nat,h:=aB Nat }::{ ok:=false,x:=0,g:=aB Nat,h:=aB Nat }::{ ok:=false,x:=0,g:=aB Nat,h:=aB Nat }::aB aC=Prod.fst (lT a b c d x)/\True/\1=Prod.fst (Prod.snd (lT a b c d x))/\True) ((asT Int 0<=2/\asT Int 2<3/\(aC.n (List.getD x 2 { ok:=false,x:=0,g:=aB Nat,h:=aB Nat })<=999999999/\aC.m (List.getD x 2 { ok:=false,x:=0,g:=aB Nat,h:=aB Nat })<=999999999)/\True)/\ifB (!aC.ok (List.getD x 2 { ok:=false,x:=0,g:=aB Nat,h:=aB Nat })) (True/\{ ok:=false,x:=0,g:=aB Nat,h:=aB Nat }::{ ok:=false,x:=0,g:=aB Nat,h:=aB Nat }::{ ok:=false,x:=0,g:=aB Nat,h:=aB Nat }::aB aC=Prod.fst (lT a b c d x)/\True/\1=Prod.fst (Prod.snd (lT a b c d x))/\True) ((bZ 0/\True)/\(asT Int 0<=0/\0<aF (List.length x0z)/\asT Int 0<=0/\0<aF (List.length x1z)/\asT Int 0<=0/\asT Int 0<3/\aC.ok (List.getD x 0 { ok:=false,x:=0,g:=aB Nat,h:=aB Nat })=true/\(rsz (List.getD x1z 0 0)<=190000000/\rsz (aC.x (List.getD x 0 { ok:=false,x:=0,g:=aB Nat,h:=aB Nat }))<=190000000)/\asT Bool true=true/\(rsz (iC 0)<=190000000/\rsz (List.getD x1z 0 0*aC.x (List.getD x 0 { ok:=false,x:=0,g:=aB Nat,h:=aB Nat }))<=190000000)/\True)/\(asT Int 0<=0/\0<aF (List.length x0z)/\asT Int 0<=1/\1<aF (List.length x1z)/\asT Int 0<=1/\asT Int 1<3/\aC.ok (List.getD x 1 { ok:=false,x:=0,g:=aB Nat,h:=aB Nat })=true/\(rsz (List.getD x1z 1 0)<=190000000/\rsz (aC.x (List.getD x 1 { ok:=false,x:=0,g:=aB Nat,h:=aB Nat }))<=190000000)/\(rsz (iC 0+List.getD x1z 0 0*aC.x (List.getD x 0 { ok:=false,x:=0,g:=aB Nat,h:=aB Nat }))<=190000000/\rsz (List.getD x1z 1 0*aC.x (List.getD x 1 { ok:=false,x:=0,g:=aB Nat,h:=aB Nat }))<=190000000)/\True)/\(asT Int 0<=0/\0<aF (List.length x0z)/\asT Int 0<=2/\2<aF (List.length x1z)/\asT Int 0<=2/\asT Int 2<3/\aC.ok (List.getD x 2 { ok:=false,x:=0,g:=aB Nat,h:=aB Nat })=true/\(rsz (List.getD x1z 2 0)<=190000000/\rsz (aC.x (List.getD x 2 { ok:=false,x:=0,g:=aB Nat,h:=aB Nat }))<=190000000)/\(rsz (iC 0+List.getD x1z 0 0*aC.x (List.getD x 0 { ok:=false,x:=0,g:=aB Nat,h:=aB Nat })+List.getD x1z 1 0*aC.x (List.getD x 1 { ok:=false,x:=0,g:=aB Nat,h:=aB Nat }))<=190000000/\rsz (List.getD x1z 2 0*aC.x (List.getD x 2 { ok:=false,x:=0,g:=aB Nat,h:=aB Nat }))<=190000000)/\True)/\(asT aC { ok:=false,x:=0,g:=aB Nat,h:=aB Nat }={ ok:=false,x:=0,g:=aB Nat,h:=aB Nat }/\asT aC { ok:=false,x:=0,g:=aB Nat,h:=aB Nat }={ ok:=false,x:=0,g:=aB Nat,h:=aB Nat }/\asT aC { ok:=false,x:=0,g:=aB Nat,h:=aB Nat }={ ok:=false,x:=0,g:=aB Nat,h:=aB Nat }/\iC 0+List.getD x1z 0 0*aC.x (List.getD x 0 { ok:=false,x:=0,g:=aB Nat,h:=aB Nat })+List.getD x1z 1 0*aC.x (List.getD x 1 { ok:=false,x:=0,g:=aB Nat,h:=aB Nat })+List.getD x1z 2 0*aC.x (List.getD x 2 { ok:=false,x:=0,g:=aB Nat,h:=aB Nat })=iC 0+List.getD x1z 0 0*aC.x (List.getD x 0 { ok:=false,x:=0,g:=aB Nat,h:=aB Nat })+List.getD x1z 1 0*aC.x (List.getD x 1 { ok:=false,x:=0,g:=aB Nat,h:=aB Nat })+List.getD x1z 2 0*aC.x (List.getD x 2 { ok:=false,x:=0,g:=aB Nat,h:=aB Nat })/\asT aC { ok:=false,x:=0,g:=aB Nat,h:=aB Nat }={ ok:=false,x:=0,g:=aB Nat,h:=aB Nat }/\asT aC { ok:=false,x:=0,g:=aB Nat,h:=aB Nat }={ ok:=false,x:=0,g:=aB Nat,h:=aB Nat }/\True)/\asT Bool true=true/\(bZ 0/\True)/\(asT Int 0<=1/\1<aF (List.length x0z)/\asT Int 0<=0/\0<aF (List.length x2z)/\asT Int 0<=0/\asT Int 0<3/\aC.ok (List.getD x 0 { ok:=false,x:=0,g:=aB Nat,h:=aB Nat })=true/\(rsz (List.getD x2z 0 0)<=190000000/\rsz (aC.x (List.getD x 0 { ok:=false,x:=0,g:=aB Nat,h:=aB Nat }))<=190000000)/\asT Bool true=true/\(rsz (iC 0)<=190000000/\rsz (List.getD x2z 0 0*aC.x (List.getD x 0 { ok:=false,x:=0,g:=aB Nat,h:=aB Nat }))<=190000000)/\True)/\(asT Int 0<=1/\1<aF (List.length x0z)/\asT Int 0<=1/\1<aF (List.length x2z)/\asT Int 0<=1/\asT Int 1<3/\aC.ok (List.getD x 1 { ok:=false,x:=0,g:=aB Nat,h:=aB Nat })=true/\(rsz (List.getD x2z 1 0)<=190000000/\rsz (aC.x (List.getD x 1 { ok:=false,x:=0,g:=aB Nat,h:=aB Nat }))<=190000000)/\(rsz (iC 0+List.getD x2z 0 0*aC.x (List.getD x 0 { ok:=false,x:=0,g:=aB Nat,h:=aB Nat }))<=190000000/\rsz (List.getD x2z 1 0*aC.x (List.getD x 1 { ok:=false,x:=0,g:=aB Nat,h:=aB Nat }))<=190000000)/\True)/\(asT Int 0<=1/\1<aF (List.length x0z)/\asT Int 0<=2/\2<aF (List.length x2z)/\asT Int 0<=2/\asT Int 2<3/\aC.ok (List.getD x 2 { ok:=false,x:=0,g:=aB Nat,h:=aB Nat })=true/\(rsz (List.getD x2z 2 0)<=190000000/\rsz (aC.x (List.getD x 2 { ok:=false,x:=0,g:=aB Nat,h:=aB Nat }))<=190000000)/\(rsz (iC 0+List.getD x2z 0 0*aC.x (List.getD x 0 { ok:=false,x:=0,g:=aB Nat,h:=aB Nat })+List.getD x2z 1 0*aC.x (List.getD x 1 { ok:=false,x:=0,g:=aB Nat,h:=aB Nat }))<=190000000/\rsz (List.getD x2z 2 0*aC.x (List.getD x 2 { ok:=false,x:=0,g:=aB Nat,h:=aB Nat }))<=190000000)/\True)/\(asT aC { ok:=false,x:=0,g:=aB Nat,h:=aB Nat }={ ok:=false,x:=0,g:=aB Nat,h:=aB Nat }/\asT aC { ok:=false,x:=0,g:=aB Nat,h:=aB Nat }={ ok:=false,x:=0,g:=aB Nat,h:=aB Nat }/\asT aC { ok:=false,x:=0,g:=aB Nat,h:=aB Nat }={ ok:=false,x:=0,g:=aB Nat,h:=aB Nat }/\iC 0+List.getD x1z 0 0*aC.x (List.getD x 0 { ok:=false,x:=0,g:=aB Nat,h:=aB Nat })+List.getD x1z 1 0*aC.x (List.getD x 1 { ok:=false,x:=0,g:=aB Nat,h:=aB Nat })+List.getD x1z 2 0*aC.x (List.getD x 2 { ok:=false,x:=0,g:=aB Nat,h:=aB Nat })=iC 0+List.getD x1z 0 0*aC.x (List.getD x 0 { ok:=false,x:=0,g:=aB Nat,h:=aB Nat })+List.getD x1z 1 0*aC.x (List.getD x 1 { ok:=false,x:=0,g:=aB Nat,h:=aB Nat })+List.getD x1z 2 0*aC.x (List.getD x 2 { ok:=false,x:=0,g:=aB Nat,h:=aB Nat })/\iC 0+List.getD x2z 0 0*aC.x (List.getD x 0 { ok:=false,x:=0,g:=aB Nat,h:=aB Nat })+List.getD x2z 1 0*aC.x (List.getD x 1 { ok:=false,x:=0,g:=aB Nat,h:=aB Nat })+List.getD x2z 2 0*aC.x (List.getD x 2 { ok:=false,x:=0,g:=aB Nat,h:=aB Nat })=iC 0+List.getD x2z 0 0*aC.x (List.getD x 0 { ok:=false,x:=0,g:=aB Nat,h:=aB Nat })+List.getD x2z 1 0*aC.x (List.getD x 1 { ok:=false,x:=0,g:=aB Nat,h:=aB Nat })+List.getD x2z 2 0*aC.x (List.getD x 2 { ok:=false,x:=0,g:=aB Nat,h:=aB Nat })/\asT aC { ok:=false,x:=0,g:=aB Nat,h:=aB Nat }={ ok:=false,x:=0,g:=aB Nat,h:=aB Nat }/\True)/\asT Bool true=true/\(bZ 0/\True)/\(asT Int 0<=2/\2<aF (List.length x0z)/\asT Int 0<=0/\0<aF (List.length x3z)/\asT Int 0<=0/\asT Int 0<3/\aC.ok (List.getD x 0 { ok:=false,x:=0,g:=aB Nat,h:=aB Nat })=true/\(rsz (List.getD x3z 0 0)<=190000000/\rsz (aC.x (List.getD x 0 { ok:=false,x:=0,g:=aB Nat,h:=aB Nat }))<=190000000)/\asT Bool true=true/\(rsz (iC 0)<=190000000/\rsz (List.getD x3z 0 0*aC.x (List.getD x 0 { ok:=false,x:=0,g:=aB Nat,h:=aB Nat }))<=190000000)/\True)/\(asT Int 0<=2/\2<aF (List.length x0z)/\asT Int 0<=1/\1<aF (List.length x3z)/\asT Int 0<=1/\asT Int 1<3/\aC.ok (List.getD x 1 { ok:=false,x:=0,g:=aB Nat,h:=aB Nat })=true/\(rsz (List.getD x3z 1 0)<=190000000/\rsz (aC.x (List.getD x 1 { ok:=false,x:=0,g:=aB Nat,h:=aB Nat }))<=190000000)/\(rsz (iC 0+List.getD x3z 0 0*aC.x (List.getD x 0 { ok:=false,x:=0,g:=aB Nat,h:=aB Nat }))<=190000000/\rsz (List.getD x3z 1 0*aC.x (List.getD x 1 { ok:=false,x:=0,g:=aB Nat,h:=aB Nat }))<=190000000)/\True)/\(asT Int 0<=2/\2<aF (List.length x0z)/\asT Int 0<=2/\2<aF (List.length x3z)/\asT Int 0<=2/\asT Int 2<3/\aC.ok (List.getD x 2 { ok:=false,x:=0,g:=aB Nat,h:=aB Nat })=true/\(rsz (List.getD x3z 2 0)<=190000000/\rsz (aC.x (List.getD x 2 { ok:=false,x:=0,g:=aB Nat,h:=aB Nat }))<=190000000)/\(rsz (iC 0+List.getD x3z 0 0*aC.x (List.getD x 0 { ok:=false,x:=0,g:=aB Nat,h:=aB Nat })+List.getD x3z 1 0*aC.x (List.getD x 1 { ok:=false,x:=0,g:=aB Nat,h:=aB Nat }))<=190000000/\rsz (List.getD x3z 2 0*aC.x (List.getD x 2 { ok:=false,x:=0,g:=aB Nat,h:=aB Nat }))<=190000000)/\True)/\(asT aC { ok:=false,x:=0,g:=aB Nat,h:=aB Nat }={ ok:=false,x:=0,g:=aB Nat,h:=aB Nat }/\asT aC { ok:=false,x:=0,g:=aB Nat,h:=aB Nat }={ ok:=false,x:=0,g:=aB Nat,h:=aB Nat }/\asT aC { ok:=false,x:=0,g:=aB Nat,h:=aB Nat }={ ok:=false,x:=0,g:=aB Nat,h:=aB Nat }/\iC 0+List.getD x1z 0 0*aC.x (List.getD x 0 { ok:=false,x:=0,g:=aB Nat,h:=aB Nat })+List.getD x1z 1 0*aC.x (List.getD x 1 { ok:=false,x:=0,g:=aB Nat,h:=aB Nat })+List.getD x1z 2 0*aC.x (List.getD x 2 { ok:=false,x:=0,g:=aB Nat,h:=aB Nat })=iC 0+List.getD x1z 0 0*aC.x (List.getD x 0 { ok:=false,x:=0,g:=aB Nat,h:=aB Nat })+List.getD x1z 1 0*aC.x (List.getD x 1 { ok:=false,x:=0,g:=aB Nat,h:=aB Nat })+List.getD x1z 2 0*aC.x (List.getD x 2 { ok:=false,x:=0,g:=aB Nat,h:=aB Nat })/\iC 0+List.getD x2z 0 0*aC.x (List.getD x 0 { ok:=false,x:=0,g:=aB Nat,h:=aB Nat })+List.getD x2z 1 0*aC.x (List.getD x 1 { ok:=false,x:=0,g:=aB Nat,h:=aB Nat })+List.getD x2z 2 0*aC.x (List.getD x 2 { ok:=false,x:=0,g:=aB Nat,h:=aB Nat })=iC 0+List.getD x2z 0 0*aC.x (List.getD x 0 { ok:=false,x:=0,g:=aB Nat,h:=aB Nat })+List.getD x2z 1 0*aC.x (List.getD x 1 { ok:=false,x:=0,g:=aB Nat,h:=aB Nat })+List.getD x2z 2 0*aC.x (List.getD x 2 { ok:=false,x:=0,g:=aB Nat,h:=aB Nat })/\iC 0+List.getD x3z 0 0*aC.x (List.getD x 0 { ok:=false,x:=0,g:=aB Nat,h:=aB Nat })+List.getD x3z 1 0*aC.x (List.getD x 1 { ok:=false,x:=0,g:=aB Nat,h:=aB Nat })+List.getD x3z 2 0*aC.x (List.getD x 2 { ok:=false,x:=0,g:=aB Nat,h:=aB Nat })=iC 0+List.getD x3z 0 0*aC.x (List.getD x 0 { ok:=false,x:=0,g:=aB Nat,h:=aB Nat })+List.getD x3z 1 0*aC.x (List.getD x 1 { ok:=false,x:=0,g:=aB Nat,h:=aB Nat })+List.getD x3z 2 0*aC.x (List.getD x 2 { ok:=false,x:=0,g:=aB Nat,h:=aB Nat })/\True)/\asT Bool true=true/\((True/\True/\True/\True)/\True)/\List.map (fun(x:Ty.den (Ty.lf Lf.rat))=>mG x) ((iC 0+List.getD x1z 0 0*aC.x (List.getD x 0 { ok:=false,x:=0,g:=aB Nat,h:=aB Nat })+List.getD x1z 1 0*aC.x (List.getD x 1 { ok:=false,x:=0,g:=aB Nat,h:=aB Nat })+List.getD x1z 2 0*aC.x (List.getD x 2 { ok:=false,x:=0,g:=aB Nat,h:=aB Nat }))::(iC 0+List.getD x2z 0 0*aC.x (List.getD x 0 { ok:=false,x:=0,g:=aB Nat,h:=aB Nat })+List.getD x2z 1 0*aC.x (List.getD x 1 { ok:=false,x:=0,g:=aB Nat,h:=aB Nat })+List.getD x2z 2 0*aC.x (List.getD x 2 { ok:=false,x:=0,g:=aB Nat,h:=aB Nat }))::(iC 0+List.getD x3z 0 0*aC.x (List.getD x 0 { ok:=false,x:=0,g:=aB Nat,h:=aB Nat })+List.getD x3z 1 0*aC.x (List.getD x 1 { ok:=false,x:=0,g:=aB Nat,h:=aB Nat })+List.getD x3z 2 0*aC.x (List.getD x 2 { ok:=false,x:=0,g:=aB Nat,h:=aB Nat }))::aB Rat)=Prod.fst (lT a b c d x)/\True/\0=Prod.fst (Prod.snd (lT a b c d x))/\True))))) (by kernel_rfl) ?_
 have hZ:(⟨false,0,[],[]⟩:aC)=fJ:=rfl
 dsimp only[aF,aA,asT,aB,iC] at *
 simp only[hZ,fA,true_and,and_true,decide_eq_true_eq,decide_eq_false_iff_not,Int.toNat_natCast,true_implies,implies_true,bne_iff_ne,ne_eq,bne_eq_false_iff_eq]
 obtain⟨hl,hs⟩:=hp
 obtain⟨x0,x1,x2,rfl⟩:=a8j hl
 have hm:oJ a b c d=[[dZ a b c d 0 0,dZ a b c d 0 1,dZ a b c d 0 2],[dZ a b c d 1 0,dZ a b c d 1 1,dZ a b c d 1 2],[dZ a b c d 2 0,dZ a b c d 2 1,dZ a b c d 2 2]]:=rfl
 have g:∀ {α:Type} (p q r e:α),[p,q,r].getD 0 e=p/\[p,q,r].getD 1 e=q/\[p,q,r].getD 2 e=r:=fun p q r e=>⟨rfl,rfl,rfl⟩
 have g0:∀ {α:Type} (p q r e:α),[p,q,r].getD 0 e=p:=fun p q r e=>rfl
 have g1:∀ {α:Type} (p q r e:α),[p,q,r].getD 1 e=q:=fun p q r e=>rfl
 have g2:∀ {α:Type} (p q r e:α),[p,q,r].getD 2 e=r:=fun p q r e=>rfl
 have big:∀ q:aC,sm2 q->q.n<=999999999/\q.m<=999999999:=fun q h=>⟨Nat.le_trans h.1 (by omega),Nat.le_trans h.2.1 (by omega)⟩
 have s0:=hs x0 (by simp)
 have s1:=hs x1 (by simp)
 have s2:=hs x2 (by simp)
 by_cases h:bG a b c d=0
 ·simp only[h,hm,g0,g1,g2,not_true_eq_false,false_implies,true_implies,true_and,if_true,List.length_cons,List.length_nil,Nat.zero_add,Nat.reduceAdd,not_false_eq_true,and_true,Bool.not_eq_true',Bool.not_eq_false']
  obtain⟨hn,oa,ob,oc,od⟩:=kG h
  have hN:dG a b c d≠0:=by have:=kJ hn;omega
  have ap:lT a b c d [x0,x1,x2]=if [x0,x1,x2].all (·.ok)=true then ([mG (sW a b c d [x0,x1,x2] 0),mG (sW a b c d [x0,x1,x2] 1),mG (sW a b c d [x0,x1,x2] 2)],0,()) else ([fJ,fJ,fJ],1,()):=if_pos h
  have rq:∀ i j,i<3->j<3->rsz (dZ a b c d i j)<=700000:=fun i j hi hj=>Nat.le_trans (FT oa ob oc od hN hi hj) (by omega)
  have T:=fun i hi=>b2L (rq i 0 hi (by omega)) (rq i 1 hi (by omega)) (rq i 2 hi (by omega)) s0.2.2 s1.2.2 s2.2.2
  have hz:((0:Int):Rat)=0:=Rat.intCast_zero
  have w0:bZ 0:=by unfold bZ;omega
  rw[ap]
  refine⟨⟨by omega,by omega,big _ s0⟩,fun o=>by rw[if_neg (by simp[o])];exact⟨rfl,rfl⟩,fun o0=>⟨⟨by omega,by omega,big _ s1⟩,fun o=>by rw[if_neg (by simp[o])];exact⟨rfl,rfl⟩,fun o1=>⟨⟨by omega,by omega,big _ s2⟩,fun o=>by rw[if_neg (by simp[o])];exact⟨rfl,rfl⟩,fun o2=>?_⟩⟩⟩
  rw[if_pos (by simp[o0,o1,o2])]
  refine⟨w0,?_,?_,?_,w0,?_,?_,?_,w0,?_,?_,?_,by rw[hz];rfl,rfl⟩
  ·exact⟨by omega,by omega,by omega,by omega,by omega,by omega,o0,⟨Nat.le_trans (rq 0 0 (by omega) (by omega)) (by omega),Nat.le_trans s0.2.2 (by omega)⟩,(T 0 (by omega)).1⟩
  ·exact⟨by omega,by omega,by omega,by omega,by omega,by omega,o1,⟨Nat.le_trans (rq 0 1 (by omega) (by omega)) (by omega),Nat.le_trans s1.2.2 (by omega)⟩,(T 0 (by omega)).2.1⟩
  ·exact⟨by omega,by omega,by omega,by omega,by omega,by omega,o2,⟨Nat.le_trans (rq 0 2 (by omega) (by omega)) (by omega),Nat.le_trans s2.2.2 (by omega)⟩,(T 0 (by omega)).2.2⟩
  ·exact⟨by omega,by omega,by omega,by omega,by omega,by omega,o0,⟨Nat.le_trans (rq 1 0 (by omega) (by omega)) (by omega),Nat.le_trans s0.2.2 (by omega)⟩,(T 1 (by omega)).1⟩
  ·exact⟨by omega,by omega,by omega,by omega,by omega,by omega,o1,⟨Nat.le_trans (rq 1 1 (by omega) (by omega)) (by omega),Nat.le_trans s1.2.2 (by omega)⟩,(T 1 (by omega)).2.1⟩
  ·exact⟨by omega,by omega,by omega,by omega,by omega,by omega,o2,⟨Nat.le_trans (rq 1 2 (by omega) (by omega)) (by omega),Nat.le_trans s2.2.2 (by omega)⟩,(T 1 (by omega)).2.2⟩
  ·exact⟨by omega,by omega,by omega,by omega,by omega,by omega,o0,⟨Nat.le_trans (rq 2 0 (by omega) (by omega)) (by omega),Nat.le_trans s0.2.2 (by omega)⟩,(T 2 (by omega)).1⟩
  ·exact⟨by omega,by omega,by omega,by omega,by omega,by omega,o1,⟨Nat.le_trans (rq 2 1 (by omega) (by omega)) (by omega),Nat.le_trans s1.2.2 (by omega)⟩,(T 2 (by omega)).2.1⟩
  ·exact⟨by omega,by omega,by omega,by omega,by omega,by omega,o2,⟨Nat.le_trans (rq 2 2 (by omega) (by omega)) (by omega),Nat.le_trans s2.2.2 (by omega)⟩,(T 2 (by omega)).2.2⟩
 ·have ap:lT a b c d [x0,x1,x2]=([fJ,fJ,fJ],bG a b c d,()):=if_neg h
  rw[ap]
  exact⟨fun _=>⟨rfl,rfl⟩,fun e=>absurd e h⟩
noncomputable def LL4:Lib:=((LL3.add 42 a9w a2G).add 35 cSM QU).add 12 (cB true) a5y
theorem b6U {a b c d e f g h i x y z:Rat} (c00:a*a+d*d+g*g=1) (c11:b*b+e*e+h*h=1) (c22:c*c+f*f+i*i=1) (c01:a*b+d*e+g*h=0) (c02:a*c+d*f+g*i=0) (c12:b*c+e*f+h*i=0):(0:Rat)+x*x+y*y+z*z=0+(0+a*x+b*y+c*z)*(0+a*x+b*y+c*z)+(0+d*x+e*y+f*z)*(0+d*x+e*y+f*z)+(0+g*x+h*y+i*z)*(0+g*x+h*y+i*z):=by
 have:0+(0+a*x+b*y+c*z)*(0+a*x+b*y+c*z)+(0+d*x+e*y+f*z)*(0+d*x+e*y+f*z)+(0+g*x+h*y+i*z)*(0+g*x+h*y+i*z)=x*x*(a*a+d*d+g*g)+y*y*(b*b+e*e+h*h)+z*z*(c*c+f*f+i*i)+2*x*y*(a*b+d*e+g*h)+2*x*z*(a*c+d*f+g*i)+2*y*z*(b*c+e*f+h*i):=by grind
 rw[this,c00,c11,c22,c01,c02,c12];grind
theorem vO {a b c d:Int} (h:dG a b c d≠0) {i j:Nat} (hi:i<3) (hj:j<3):dZ a b c d 0 i*dZ a b c d 0 j+dZ a b c d 1 i*dZ a b c d 1 j+dZ a b c d 2 i*dZ a b c d 2 j=idE i j:=by
 have h1:dG a (-b) (-c) (-d)=dG a b c d:=by unfold dG;grind
 have h2:=a6c (a:=a) (b:=-b) (c:=-c) (d:=-d) (by rw[h1];exact h) hi hj
 simp only[jS,rJ a b c d hi (show 0<3 by omega),rJ a b c d hi (show 1<3 by omega),rJ a b c d hi (show 2<3 by omega),rJ a b c d hj (show 0<3 by omega),rJ a b c d hj (show 1<3 by omega),rJ a b c d hj (show 2<3 by omega)] at h2
 rw[<-h2];grind
theorem a9u {a b c d:Int} (h:dG a b c d≠0) (x0 x1 x2:aC):((0:Int):Rat)+x0.x*x0.x+x1.x*x1.x+x2.x*x2.x=((0:Int):Rat)+sW a b c d [x0,x1,x2] 0*sW a b c d [x0,x1,x2] 0+sW a b c d [x0,x1,x2] 1*sW a b c d [x0,x1,x2] 1+sW a b c d [x0,x1,x2] 2*sW a b c d [x0,x1,x2] 2:=by
 rw[show ((0:Int):Rat)=0 from Rat.intCast_zero]
 exact b6U (vO h (i:=0) (j:=0) (by omega) (by omega)) (vO h (i:=1) (j:=1) (by omega) (by omega)) (vO h (i:=2) (j:=2) (by omega) (by omega)) (vO h (i:=0) (j:=1) (by omega) (by omega)) (vO h (i:=0) (j:=2) (by omega) (by omega)) (vO h (i:=1) (j:=2) (by omega) (by omega))
theorem b1u {p q r:Rat} {K:Nat} (hp:rsz p<=K) (hq:rsz q<=K) (hr:rsz r<=K) (hK:K<=20000000):(rsz p<=190000000/\rsz q<=190000000/\rsz r<=190000000)/\(rsz (p*p)<=190000000/\rsz (q*q)<=190000000/\rsz (r*r)<=190000000)/\rsz ((0:Int):Rat)<=190000000/\rsz (((0:Int):Rat)+p*p)<=190000000/\rsz (((0:Int):Rat)+p*p+q*q)<=190000000/\rsz (((0:Int):Rat)+p*p+q*q+r*r)<=190000000:=by
 have h0:rsz ((0:Int):Rat)<=1:=by decide +kernel
 have h1:=fU p p
 have h2:=fU q q
 have h3:=fU r r
 have h4:=nX ((0:Int):Rat) (p*p)
 have h5:=nX (((0:Int):Rat)+p*p) (q*q)
 have h6:=nX (((0:Int):Rat)+p*p+q*q) (r*r)
 omega
theorem a5B {a b c d:Int} {r:List Rat} (hr:r ∈ oJ a b c d):r.length=3:=by
 obtain⟨i,_,rfl⟩:=List.mem_map.1 hr
 simp
theorem EY {a b c d:Int} (h:bG a b c d=0):zO (oJ a b c d):=by
 obtain⟨hn,oa,ob,oc,od⟩:=kG h
 have hN:dG a b c d≠0:=by have:=kJ hn;omega
 intro r hr q hq
 obtain⟨i,hi,rfl⟩:=List.mem_map.1 hr
 obtain⟨j,hj,rfl⟩:=List.mem_map.1 hq
 exact Nat.le_trans (FT oa ob oc od hN (by simpa using hi) (by simpa using hj)) (by omega)
theorem ZA:dI Tryz.prog 10 ⟨[mJ,.arr 3 tR],[.bool],fun x=>(show List aC from x.2.1).length=3/\∀ q ∈ (show List aC from x.2.1),a7u q,fun _=>(true,())⟩:=by
 refine fB LL4 [9,11,13,14] Tryz.func10 rfl (by decide) (fun x=>[.rounds 4 [74] []]) (fun x hp=>?_)
 obtain⟨⟨a,b,c,d,u⟩,x,v⟩:=x
 change Int at a;change Int at b;change Int at c;change Int at d;change List aC at x
 refine iK (let x0z:=(List.getD x 0 { ok:=false,x:=0,g:=aB Nat,h:=aB Nat });let x1z:=(List.getD x 1 { ok:=false,x:=0,g:=aB Nat,h:=aB Nat });let x2z:=(List.getD (Prod.fst (lT a b c d x)) 0 { ok:=false,x:=0,g:=aB Nat,h:=aB Nat });let x3z:=(List.getD (Prod.fst (lT a b c d x)) (0+1) { ok:=false,x:=0,g:=aB Nat,h:=aB Nat });let x4z:=(List.getD (Prod.fst (lT a b c d x)) (0+1+1) { ok:=false,x:=0,g:=aB Nat,h:=aB Nat });let x5z:=(bif !decide (aC.n x0z<=2/\aC.m x0z<=2) then true else !decide (aC.n x1z<=2/\aC.m x1z<=2));let x6z:=(bif bG a b c d != bG a b c d then true else Prod.fst (Prod.snd (lT a b c d x)) != Prod.fst (Prod.snd (lT a b c d x)));let x7z:=(List.getD x 2 { ok:=false,x:=0,g:=aB Nat,h:=aB Nat });let x8z:=((!decide (aC.n x0z<=2/\aC.m x0z<=2))==false);let x9z:=(if bG a b c d=0 then oJ a b c d else aB (List Rat));(True/\True)/\(asT Int 0<=0/\asT Int 0<3/\True/\(x8z=true->asT Int 0<=1/\asT Int 1<3/\True)/\(x8z=true->x8z=true/\True)/\(x8z=true->x8z=true/\True/\True)/\(x8z=true->x8z=true/\True)/\((!decide (aC.n x0z<=2/\aC.m x0z<=2))=false->x8z=true)/\((x5z==false)=true->asT Int 0<=2/\asT Int 2<3/\True)/\((x5z==false)=true->(x5z==false)=true/\True)/\((x5z==false)=true->(x5z==false)=true/\True/\True)/\((x5z==false)=true->(x5z==false)=true/\True)/\(x5z=false->(x5z==false)=true)/\True)/\ifB (bif bif !decide (aC.n x0z<=2/\aC.m x0z<=2) then true else !decide (aC.n x1z<=2/\aC.m x1z<=2) then true else !decide (aC.n x7z<=2/\aC.m x7z<=2)) (True/\asT Bool true=true/\True) ((True/\True)/\(True/\True)/\(sm3 x/\True)/\(sm3 x/\True)/\((((bG a b c d != bG a b c d)==false)=true->((bG a b c d != bG a b c d)==false)=true/\((bG a b c d != bG a b c d)==false)=true/\True)/\((bG a b c d != bG a b c d)=false->((bG a b c d != bG a b c d)==false)=true)/\((x6z==false)=true->(x6z==false)=true/\(x6z==false)=true/\(zO x9z/\zO x9z/\List.length x9z<=1000000000/\∀ (r:List Rat),(r ∈ if bG a b c d=0 then oJ a b c d else aB (List Rat))->List.length r<=1000000000)/\True)/\((x6z==false)=true->(x6z==false)=true/\True)/\(x6z=false->(x6z==false)=true)/\True)/\ifB (bif bif bG a b c d != bG a b c d then true else Prod.fst (Prod.snd (lT a b c d x)) != Prod.fst (Prod.snd (lT a b c d x)) then true else !x9z==if bG a b c d=0 then oJ a b c d else aB (List Rat)) (True/\asT Bool false=true/\True) (ifB (Prod.fst (Prod.snd (lT a b c d x)) != 0) (True/\asT Bool true=true/\True) ((bZ 0/\bZ 0/\True)/\(aC.ok x2z=true/\aC.ok x2z=true/\(rsz (aC.x x2z)<=190000000/\rsz (aC.x x2z)<=190000000)/\True)/\ifB (!decide (aC.x x2z=aC.x x2z)) (True/\asT Bool false=true/\True) ((asT Int 0<=0/\asT Int 0<3/\asT Int 0<=0/\asT Int 0<3/\aC.ok x0z=true/\aC.ok x0z=true/\(rsz (aC.x x0z)<=190000000/\rsz (aC.x x0z)<=190000000)/\asT Bool true=true/\(rsz (iC 0)<=190000000/\rsz (aC.x x0z*aC.x x0z)<=190000000)/\aC.ok x2z=true/\aC.ok x2z=true/\(rsz (aC.x x2z)<=190000000/\rsz (aC.x x2z)<=190000000)/\asT Bool true=true/\(rsz (iC 0)<=190000000/\rsz (aC.x x2z*aC.x x2z)<=190000000)/\True)/\(aC.ok x3z=true/\aC.ok x3z=true/\(rsz (aC.x x3z)<=190000000/\rsz (aC.x x3z)<=190000000)/\True)/\ifB (!decide (aC.x x3z=aC.x x3z)) (True/\asT Bool false=true/\True) ((asT Int 0<=1/\asT Int 1<3/\asT Int 0<=1/\asT Int 1<3/\aC.ok x1z=true/\aC.ok x1z=true/\(rsz (aC.x x1z)<=190000000/\rsz (aC.x x1z)<=190000000)/\(rsz (iC 0+aC.x x0z*aC.x x0z)<=190000000/\rsz (aC.x x1z*aC.x x1z)<=190000000)/\aC.ok x3z=true/\aC.ok x3z=true/\(rsz (aC.x x3z)<=190000000/\rsz (aC.x x3z)<=190000000)/\(rsz (iC 0+aC.x x2z*aC.x x2z)<=190000000/\rsz (aC.x x3z*aC.x x3z)<=190000000)/\True)/\(aC.ok x4z=true/\aC.ok x4z=true/\(rsz (aC.x x4z)<=190000000/\rsz (aC.x x4z)<=190000000)/\True)/\ifB (!decide (aC.x x4z=aC.x x4z)) (True/\asT Bool false=true/\True) ((asT Int 0<=2/\asT Int 2<3/\asT Int 0<=2/\asT Int 2<3/\aC.ok x7z=true/\aC.ok x7z=true/\(rsz (aC.x x7z)<=190000000/\rsz (aC.x x7z)<=190000000)/\(rsz (iC 0+aC.x x0z*aC.x x0z+aC.x x1z*aC.x x1z)<=190000000/\rsz (aC.x x7z*aC.x x7z)<=190000000)/\aC.ok x4z=true/\aC.ok x4z=true/\(rsz (aC.x x4z)<=190000000/\rsz (aC.x x4z)<=190000000)/\(rsz (iC 0+aC.x x2z*aC.x x2z+aC.x x3z*aC.x x3z)<=190000000/\rsz (aC.x x4z*aC.x x4z)<=190000000)/\True)/\((rsz (iC 0+aC.x x0z*aC.x x0z+aC.x x1z*aC.x x1z+aC.x x7z*aC.x x7z)<=190000000/\rsz (iC 0+aC.x x2z*aC.x x2z+aC.x x3z*aC.x x3z+aC.x x4z*aC.x x4z)<=190000000)/\True)/\True/\decide (iC 0+aC.x x0z*aC.x x0z+aC.x x1z*aC.x x1z+aC.x x7z*aC.x x7z=iC 0+aC.x x2z*aC.x x2z+aC.x x3z*aC.x x3z+aC.x x4z*aC.x x4z)=true/\True))))))) (by kernel_rfl) ?_
 have hZ:(⟨false,0,[],[]⟩:aC)=fJ:=rfl
 dsimp only[aF,aA,asT,aB,iC] at *
 simp only[hZ,fA,true_and,and_true,decide_eq_true_eq,decide_eq_false_iff_not,Int.toNat_natCast,true_implies,implies_true,bne_iff_ne,ne_eq,bne_eq_false_iff_eq]
 obtain⟨hl,hg⟩:=hp
 obtain⟨x0,x1,x2,rfl⟩:=a8j hl
 have g0:∀ {α:Type} (p q r e:α),[p,q,r].getD 0 e=p:=fun p q r e=>rfl
 have g1:∀ {α:Type} (p q r e:α),[p,q,r].getD 1 e=q:=fun p q r e=>rfl
 have g2:∀ {α:Type} (p q r e:α),[p,q,r].getD 2 e=r:=fun p q r e=>rfl
 have m1:∀ (l:List aC) (e:aC),l.getD (0+1) e=l.getD 1 e:=fun _ _=>rfl
 have m2:∀ (l:List aC) (e:aC),l.getD (0+1+1) e=l.getD 2 e:=fun _ _=>rfl
 have w0:bZ 0:=by unfold bZ;omega
 have dt:(!decide True)=false:=rfl
 have ft:¬ (true=false):=by decide
 simp only[g0,g1,g2,m1,m2,w0,dt,bne_self_eq_false,beq_self_eq_true,cond_false,imp_self,true_and,and_true,false_implies,true_implies,Bool.not_true,Bool.false_eq_true,reduceCtorEq,implies_true,and_self]
 have key:∀ p q r:Bool,(bif bif !p then true else !q then true else !r)=false->p=true/\q=true/\r=true:=by decide
 refine⟨⟨by omega,by omega,fun _=>⟨by omega,by omega⟩,fun h=>by rw[h];rfl,fun _=>⟨by omega,by omega⟩,fun h=>by rw[h];rfl⟩,fun hs=>?_⟩
 obtain⟨t0,t1,t2⟩:=key _ _ _ hs
 have t0:=of_decide_eq_true t0
 have t1:=of_decide_eq_true t1
 have t2:=of_decide_eq_true t2
 have s0:sm2 x0:=⟨t0.1,t0.2,hg x0 (by simp) 2 (by omega) t0.1 t0.2⟩
 have s1:sm2 x1:=⟨t1.1,t1.2,hg x1 (by simp) 2 (by omega) t1.1 t1.2⟩
 have s2:sm2 x2:=⟨t2.1,t2.2,hg x2 (by simp) 2 (by omega) t2.1 t2.2⟩
 have s3:sm3 [x0,x1,x2]:=⟨rfl,fun q hq=>by
  simp only[List.mem_cons,List.not_mem_nil,or_false] at hq
  rcases hq with rfl|rfl|rfl
  ·exact s0
  ·exact s1
  ·exact s2⟩
 clear hs key
 have S:=b1u (K:=2) s0.2.2 s1.2.2 s2.2.2 (by omega)
 obtain⟨⟨a1,a2,a3⟩,⟨a4,a5,a6⟩,a7,a8,a9,a10⟩:=S
 by_cases h:bG a b c d=0
 ·obtain⟨hn,oa,ob,oc,od⟩:=kG h
  have hN:dG a b c d≠0:=by have:=kJ hn;omega
  have rq:∀ i j,i<3->j<3->rsz (dZ a b c d i j)<=10:=fun i j hi hj=>FT oa ob oc od hN hi hj
  have ap:lT a b c d [x0,x1,x2]=if [x0,x1,x2].all (·.ok)=true then ([mG (sW a b c d [x0,x1,x2] 0),mG (sW a b c d [x0,x1,x2] 1),mG (sW a b c d [x0,x1,x2] 2)],0,()) else ([fJ,fJ,fJ],1,()):=if_pos h
  simp only[if_pos h]
  refine⟨s3,s3,⟨EY h,EY h,by show 3<=1000000000;omega,fun r hr=>?_⟩,fun hc=>?_⟩
  ·rw[a5B hr];omega
  rw[ap] at hc ⊢
  by_cases ho:[x0,x1,x2].all (·.ok)=true
  ·rw[if_pos ho]
   have ho2:=ho
   simp only[List.all_cons,List.all_nil,Bool.and_true,Bool.and_eq_true] at ho2
   obtain⟨o0,o1,o2⟩:=ho2
   have D:∀ i,i<3->rsz (sW a b c d [x0,x1,x2] i)<=100:=fun i hi=>Nat.le_trans (yG (K:=10) 3 (fun j hj=>⟨rq i j hi hj,b1B (P:=fun q=>rsz q<=10) (Nat.le_trans s0.2.2 (by omega)) (Nat.le_trans s1.2.2 (by omega)) (Nat.le_trans s2.2.2 (by omega)) j hj |> fun h=>by
    match j,hj with
    | 0,_=>exact h
    | 1,_=>exact h
    | 2,_=>exact h⟩)) (by omega)
   obtain⟨⟨b1,b2,b3⟩,⟨b4,b5,b6⟩,b7,b8,b9,b10⟩:=b1u (D 0 (by omega)) (D 1 (by omega)) (D 2 (by omega)) (by omega)
   have hE:=a9u hN x0 x1 x2
   simp only[g0,g1,g2,mG]
   generalize sW a b c d [x0,x1,x2] 0=y0 at *
   generalize sW a b c d [x0,x1,x2] 1=y1 at *
   generalize sW a b c d [x0,x1,x2] 2=y2 at *
   generalize ((0:Int):Rat)=z0 at *
   simp[*]
  ·rw[if_neg ho] at hc;cases hc
 ·have ap:lT a b c d [x0,x1,x2]=([fJ,fJ,fJ],bG a b c d,()):=if_neg h
  simp only[if_neg h]
  have sn:zO []:=fun r hr=>by cases hr
  refine⟨s3,s3,⟨sn,sn,by show 0<=1000000000;omega,fun r hr=>by cases hr⟩,fun hc=>?_⟩
  rw[ap] at hc;exact absurd hc h
theorem vapplies_holds:Rows.RotationAppliesSaid:=xQ ZA (fun _ _ a b=>⟨b.1,b.2⟩)
end Go.Proofs.YtidfgdchcpmnfaaGreat
