/-
  Lemmas for the theorem vofmatrices_holds, part 31 of 32.
-/
import Derived.Carry
import Derived.Lib.SmallJoins
import Derived.OpenShut
import Derived.ProofKit
import Derived.Test.YtidfgdchcpmnfaaGreatRows
import Derived.WalkKit
import Derived.Test.YtidfgdchcpmnfaaGreatOm20
import Derived.Test.YtidfgdchcpmnfaaGreatOm23
import Derived.Test.YtidfgdchcpmnfaaGreatOm29
namespace Go.Proofs.YtidfgdchcpmnfaaGreat
open Go Go.RowKit
set_option maxRecDepth 100000
set_option maxHeartbeats 1000000
set_option linter.unusedVariables false
set_option linter.unusedSimpArgs false
abbrev RL:Type:=List aI
abbrev RM:Type:=List (List aI)
theorem b7l {α:Type} {ds:List α} {k:Nat} {a b c d:α} (h:(ds.drop k).take 4=[a,b,c,d]):ds[k]?=some a/\ds[k+1]?=some b/\ds[k+2]?=some c/\ds[k+3]?=some d:=by
 have g:∀ j,j<4->ds[k+j]?=([a,b,c,d]:List α)[j]?:=fun j hj=>by
  rw[<-h,List.getElem?_take,if_pos hj,List.getElem?_drop]
 exact⟨g 0 (by omega),g 1 (by omega),g 2 (by omega),g 3 (by omega)⟩
theorem b7i {F:Nat->Prop} {w:World} {v:Value} {xs:RL} {K:Nat} (h:iZ F w (.list tR) v xs) (hF:∀ q,F q->q<w.heap.size) (hK:∀ q ∈ xs,q.n<=K/\q.m<=K):nX w v xs.length K (fun i=>(xs.getD i dJ).ok) (fun i=>(xs.getD i dJ).x):=by
 obtain⟨cs,rfl,p,c,rfl,h1,h2,h3⟩:=h
 refine⟨p,c,rfl,h1,h2,fun hn=>?_⟩
 rcases h3 with h3|⟨b,o,ds,rfl,hb,hr,hc⟩
 ·rw[h3] at hn;exact absurd hn (Nat.lt_irrefl 0)
 refine⟨b,o,rfl,hF b hb,fun i hi=>?_⟩
 obtain⟨b1,p1,c1,b2,p2,c2,e,hq⟩:=uY hc hi
 obtain⟨g0,g1,g2,g3⟩:=b7l e
 have h4:Ty.n tR=4:=rfl
 have e:(ds.drop (i*Ty.n tR)).take (Ty.n tR)=[.bool b1,.slice p1 (List.getD xs i dJ).n c1,.bool b2,.slice p2 (List.getD xs i dJ).m c2]:=e
 refine⟨.bool b1,.slice p1 (List.getD xs i dJ).n c1,.bool b2,.slice p2 (List.getD xs i dJ).m c2,hr _ _ g0,?_,?_,?_,b1,p1,(List.getD xs i dJ).n,c1,b2,p2,(List.getD xs i dJ).m,c2,rfl,rfl,rfl,rfl,?_,?_,?_⟩
 ·have:=hr _ _ g1;rw[h4,<-Nat.add_assoc] at this;exact this
 ·have:=hr _ _ g2;rw[h4,<-Nat.add_assoc] at this;exact this
 ·have:=hr _ _ g3;rw[h4,<-Nat.add_assoc] at this;exact this
 ·have hq:fE w (.agg ((ds.drop (i*Ty.n tR)).take (Ty.n tR)).toArray) _ _:=hq.1
  rw[e] at hq
  exact hq
 ·exact(jC (p:=fun q:aI=>q.n<=K/\q.m<=K) hK hi (d:=dJ)).1
 ·exact(jC (p:=fun q:aI=>q.n<=K/\q.m<=K) hK hi (d:=dJ)).2
theorem b1l {F:Nat->Prop} {w:World} {v:Value} {m:RM} {K:Nat} (h:iZ F w tMR v m) (hF:∀ q,F q->q<w.heap.size) (hK:∀ r ∈ m,∀ q ∈ r,q.n<=K/\q.m<=K):rQ w v m.length (fun i=>(m.getD i []).length) K (fun i j=>((m.getD i []).getD j dJ).ok) (fun i j=>((m.getD i []).getD j dJ).x):=by
 obtain⟨cs,rfl,p,c,rfl,h1,h2,h3⟩:=h
 refine⟨p,c,rfl,h1,h2,fun hn=>?_⟩
 rcases h3 with h3|⟨b,o,ds,rfl,hb,hr,hc⟩
 ·rw[h3] at hn;exact absurd hn (Nat.lt_irrefl 0)
 refine⟨b,o,rfl,hF b hb,fun i hi=>?_⟩
 have e:=uY hc hi
 have hrow:iZ F w (.list tR) ((Ty.list tR).toV ((ds.drop (i*Ty.n (.list tR))).take (Ty.n (.list tR)))) (m.getD i []):=⟨_,rfl,e⟩
 obtain⟨p1,c1,e1,_⟩:=e
 refine⟨_,?_,b7i hrow hF (jC (p:=fun r:RL=>∀ q ∈ r,q.n<=K/\q.m<=K) hK hi)⟩
 rw[e1]
 have g:ds[i*1]?=some (.slice p1 (m.getD i []).length c1):=by
  have h9:=congrArg (fun l:List Value=>l[0]?) e1
  simp only[List.getElem?_take,List.getElem?_drop] at h9
  rw[if_pos (show 0<Ty.n (.list tR) from Nat.one_pos)] at h9
  exact h9
 have:=hr _ _ g
 rwa [Nat.mul_one] at this
def lens (K:Nat) (m:RM):Prop:=∀ r ∈ m,∀ q ∈ r,q.n<=K/\q.m<=K/\rsz q.x<=K
def sK (m:RM):Int:=xI m.length (fun i=>(m.getD i []).length) (fun i j=>((m.getD i []).getD j dJ).ok)
def cMC:Ctr:=⟨[tMR],[tI],fun x=>lens 700000 x.1,fun x=>(sK x.1,())⟩
theorem a2y:dG Tryz.prog 48 cMC:=by
 intro F w vs x hF hvs hp
 obtain⟨v,vs',rfl,h1,h3⟩:=hvs
 have h3:vs'=[]:=h3
 subst h3
 refine(PN v _ 700000 _ _ _ w (b1l h1 hF (fun r hr q hq=>⟨(hp r hr q hq).1,(hp r hr q hq).2.1⟩)) (by omega)).mono ?_
 rintro e w' ⟨rfl,hb⟩
 exact⟨_,rfl,uI _,hb⟩
def sq3 (m:RM):Prop:=m.length=3/\∀ r ∈ m,r.length=3
def eR (m:RM) (i j:Nat):Rat:=((m.getD i []).getD j dJ).x
def okM (m:RM):Prop:=∀ r ∈ m,∀ q ∈ r,q.ok=true
def cTu:Ctr:=⟨[tMR],[tB],fun x=>lens 700000 x.1/\sq3 x.1/\okM x.1,fun x=>(jT (eR x.1),())⟩
theorem BU {m:RM} (h:sq3 m) {i:Nat} (hi:i<3):(m.getD i []).length=3:=jC (p:=fun r:RL=>r.length=3) h.2 (by rw[h.1];exact hi)
theorem b6U {m:RM} (h:sq3 m) (ho:okM m) {i j:Nat} (hi:i<3) (hj:j<3):((m.getD i []).getD j dJ).ok=true :=
 jC (p:=fun q:aI=>q.ok=true) (jC (p:=fun r:RL=>∀ q ∈ r,q.ok=true) ho (by rw[h.1];exact hi)) (by rw[BU h hi];exact hj)
theorem a1w:dG Tryz.prog 49 cTu:=by
 intro F w vs x hF hvs hp
 obtain⟨v,vs',rfl,h1,h3⟩:=hvs
 have h3:vs'=[]:=h3
 subst h3
 obtain⟨h4,h5,h6⟩:=hp
 have hm:=b1l h1 hF (fun r hr q hq=>⟨(h4 r hr q hq).1,(h4 r hr q hq).2.1⟩)
 rw[h5.1] at hm
 refine(a1v v 700000 _ w (rQ.congr hm (fun i hi=>BU h5 hi) (fun i hi j hj=>b6U h5 h6 hi (by rw[<-BU h5 hi];exact hj)) (fun i hi j hj=>rfl)) (by omega) (by omega)).mono ?_
 rintro e w' ⟨rfl,hb⟩
 exact⟨_,rfl,RJ _,hb⟩
noncomputable def LG0:Lib:=(LE2.add 48 cMC a2y).add 49 cTu a1w
abbrev at3 (i:Int):Prop:=0<=i/\i<3
def m3 (m:RM):Prop:=lens 700000 m/\sq3 m/\okM m
theorem yY {m:RM} (h:m3 m) {i j:Nat} (hi:i<3) (hj:j<3):((m.getD i []).getD j dJ).ok=true/\rsz (eR m i j)<=700000 :=
 ⟨b6U h.2.1 h.2.2 hi hj,(jC (p:=fun q:aI=>q.n<=700000/\q.m<=700000/\rsz q.x<=700000) (jC (p:=fun r:RL=>∀ q ∈ r,q.n<=700000/\q.m<=700000/\rsz q.x<=700000) h.1 (by rw[h.2.1.1];exact hi)) (by rw[BU h.2.1 hi];exact hj)).2.2⟩
def cPl (g:Rat->Rat->Rat):Ctr:=⟨[tI,tI,.ref tMR],[tQ],fun x=>at3 x.1/\at3 x.2.1/\m3 x.2.2.1,fun x=>(g (eR x.2.2.1 (Int.toNat x.1) (Int.toNat x.2.1)) (eR x.2.2.1 (Int.toNat x.2.1) (Int.toNat x.1)),())⟩
theorem a8B:dG Tryz.prog 54 (cPl (·+·)):=by
 refine fF LG0 [5] Tryz.func54 rfl (by decide) (fun x=>[]) (fun x hp=>?_)
 obtain⟨i,j,m,u⟩:=x
 change Int at i;change Int at j;change RM at m
 refine iO ((0<=i/\i<aB (List.length m)/\0<=j/\j<aB (List.length (List.getD m (Int.toNat i) (aH aI)))/\0<=j/\j<aB (List.length m)/\0<=i/\i<aB (List.length (List.getD m (Int.toNat j) (aH aI)))/\aI.ok (List.getD (List.getD m (Int.toNat i) (aH aI)) (Int.toNat j) { ok:=false,x:=0,g:=aH Nat,h:=aH Nat })=true/\aI.ok (List.getD (List.getD m (Int.toNat j) (aH aI)) (Int.toNat i) { ok:=false,x:=0,g:=aH Nat,h:=aH Nat })=true/\s44 (aI.x (List.getD (List.getD m (Int.toNat i) (aH aI)) (Int.toNat j) { ok:=false,x:=0,g:=aH Nat,h:=aH Nat })) (aI.x (List.getD (List.getD m (Int.toNat j) (aH aI)) (Int.toNat i) { ok:=false,x:=0,g:=aH Nat,h:=aH Nat }))/\True)/\True/\aI.x (List.getD (List.getD m (Int.toNat i) (aH aI)) (Int.toNat j) { ok:=false,x:=0,g:=aH Nat,h:=aH Nat })+aI.x (List.getD (List.getD m (Int.toNat j) (aH aI)) (Int.toNat i) { ok:=false,x:=0,g:=aH Nat,h:=aH Nat })=eR m (Int.toNat i) (Int.toNat j)+eR m (Int.toNat j) (Int.toNat i)/\True) (by kernel_rfl) ?_
 obtain⟨h1,h2,h3⟩:=hp
 have hZ:(⟨false,0,[],[]⟩:aI)=dJ:=rfl
 dsimp only[aB,aH,at3,aA,asT,iJ] at *
 simp only[hZ]
 obtain⟨i,rfl⟩:∃ n:Nat,i=n:=⟨i.toNat,by omega⟩
 obtain⟨j,rfl⟩:∃ n:Nat,j=n:=⟨j.toNat,by omega⟩
 simp only[Int.toNat_natCast]
 have hi:i<3:=by omega
 have hj:j<3:=by omega
 obtain⟨o1,b1⟩:=yY h3 hi hj
 obtain⟨o2,b2⟩:=yY h3 hj hi
 rw[h3.2.1.1,BU h3.2.1 hi,BU h3.2.1 hj]
 exact⟨⟨by omega,by omega,by omega,by omega,by omega,by omega,by omega,by omega,o1,o2,⟨by unfold eR at b1;omega,by unfold eR at b2;omega⟩,trivial⟩,trivial,rfl,trivial⟩
theorem a5F:dG Tryz.prog 55 (cPl (·-·)):=by
 refine fF LG0 [5] Tryz.func55 rfl (by decide) (fun x=>[]) (fun x hp=>?_)
 obtain⟨i,j,m,u⟩:=x
 change Int at i;change Int at j;change RM at m
 refine iO ((0<=i/\i<aB (List.length m)/\0<=j/\j<aB (List.length (List.getD m (Int.toNat i) (aH aI)))/\0<=j/\j<aB (List.length m)/\0<=i/\i<aB (List.length (List.getD m (Int.toNat j) (aH aI)))/\aI.ok (List.getD (List.getD m (Int.toNat i) (aH aI)) (Int.toNat j) { ok:=false,x:=0,g:=aH Nat,h:=aH Nat })=true/\aI.ok (List.getD (List.getD m (Int.toNat j) (aH aI)) (Int.toNat i) { ok:=false,x:=0,g:=aH Nat,h:=aH Nat })=true/\s44 (aI.x (List.getD (List.getD m (Int.toNat i) (aH aI)) (Int.toNat j) { ok:=false,x:=0,g:=aH Nat,h:=aH Nat })) (aI.x (List.getD (List.getD m (Int.toNat j) (aH aI)) (Int.toNat i) { ok:=false,x:=0,g:=aH Nat,h:=aH Nat }))/\True)/\True/\aI.x (List.getD (List.getD m (Int.toNat i) (aH aI)) (Int.toNat j) { ok:=false,x:=0,g:=aH Nat,h:=aH Nat })-aI.x (List.getD (List.getD m (Int.toNat j) (aH aI)) (Int.toNat i) { ok:=false,x:=0,g:=aH Nat,h:=aH Nat })=eR m (Int.toNat i) (Int.toNat j)-eR m (Int.toNat j) (Int.toNat i)/\True) (by kernel_rfl) ?_
 obtain⟨h1,h2,h3⟩:=hp
 have hZ:(⟨false,0,[],[]⟩:aI)=dJ:=rfl
 dsimp only[aB,aH,at3,aA,asT,iJ] at *
 simp only[hZ]
 obtain⟨i,rfl⟩:∃ n:Nat,i=n:=⟨i.toNat,by omega⟩
 obtain⟨j,rfl⟩:∃ n:Nat,j=n:=⟨j.toNat,by omega⟩
 simp only[Int.toNat_natCast]
 have hi:i<3:=by omega
 have hj:j<3:=by omega
 obtain⟨o1,b1⟩:=yY h3 hi hj
 obtain⟨o2,b2⟩:=yY h3 hj hi
 rw[h3.2.1.1,BU h3.2.1 hi,BU h3.2.1 hj]
 exact⟨⟨by omega,by omega,by omega,by omega,by omega,by omega,by omega,by omega,o1,o2,⟨by unfold eR at b1;omega,by unfold eR at b2;omega⟩,trivial⟩,trivial,rfl,trivial⟩
def cSu:Ctr:=⟨[.arr 3 tI,.ref tMR],[tQ],fun x=>(show List Int from x.1).length=3/\(∀ k,k<3->(xsL x.1 k=1\/xsL x.1 k=-1))/\m3 x.2.1,fun x=>(iK (xsL x.1) (eR x.2.1) 3,())⟩
theorem b0P:dG Tryz.prog 50 cSu:=by
 refine fF LG0 [3,4] Tryz.func50 rfl (by decide) (fun x=>[.inv Le3 (fun k=>[(9,.val tI (k.1:Int))]) (fun k=>[(3,.box [⟨tR,dJ⟩]),(4,.box [⟨tQ,iK (xsL x.1) (eR x.2.1) k.1⟩])]) (fun k=>3-k.1) ⟨0,by omega⟩ (fun _=>[])]) (fun x hp=>?_)
 obtain⟨s,m,u⟩:=x
 change List Int at s;change RM at m
 refine iO ((bW 1/\True)/\(asT Int 0=0/\asT aI { ok:=false,x:=0,g:=aH Nat,h:=aH Nat }=dJ/\iJ 1=iK (xsL s) (eR m) 0/\True)/\∀ (i:Le3),asT Bool true=true/\ifB (decide (aB (aA i)<3)) ((0<=aB (aA i)/\aB (aA i)<3/\True)/\(bW (List.getD s (Int.toNat (aB (aA i))) 0)/\0<=aB (aA i)/\aB (aA i)<aB (List.length m)/\0<=aB (aA i)/\aB (aA i)<aB (List.length (List.getD m (Int.toNat (aB (aA i))) (aH aI)))/\aI.ok (List.getD (List.getD m (Int.toNat (aB (aA i))) (aH aI)) (Int.toNat (aB (aA i))) { ok:=false,x:=0,g:=aH Nat,h:=aH Nat })=true/\s44 (iJ (List.getD s (Int.toNat (aB (aA i))) 0)) (aI.x (List.getD (List.getD m (Int.toNat (aB (aA i))) (aH aI)) (Int.toNat (aB (aA i))) { ok:=false,x:=0,g:=aH Nat,h:=aH Nat }))/\s44 (iK (xsL s) (eR m) (aA i)) (iJ (List.getD s (Int.toNat (aB (aA i))) 0)*aI.x (List.getD (List.getD m (Int.toNat (aB (aA i))) (aH aI)) (Int.toNat (aB (aA i))) { ok:=false,x:=0,g:=aH Nat,h:=aH Nat }))/\True)/\∃ (i':Le3),3-aA i'<3-aA i/\IntKind.wrap IntKind.i64 (aB (aA i)+1)=aB (aA i')/\asT aI dJ=dJ/\iK (xsL s) (eR m) (aA i)+iJ (List.getD s (Int.toNat (aB (aA i))) 0)*aI.x (List.getD (List.getD m (Int.toNat (aB (aA i))) (aH aI)) (Int.toNat (aB (aA i))) { ok:=false,x:=0,g:=aH Nat,h:=aH Nat })=iK (xsL s) (eR m) (aA i')/\True) (True/\iK (xsL s) (eR m) (aA i)=iK (xsL s) (eR m) 3/\True)) (by kernel_rfl) ?_
 obtain⟨hl,hs,h3⟩:=hp
 have hZ:(⟨false,0,[],[]⟩:aI)=dJ:=rfl
 dsimp only[aB,aH,aA,asT,iJ] at *
 have hx:∀ j,s.getD j 0=xsL s j:=fun _=>rfl
 simp only[hZ,hx,Int.toNat_natCast,gU,true_and,and_true,decide_eq_true_eq,decide_eq_false_iff_not]
 generalize xsL s=X at *
 have r1:∀ k,k<3->rsz ((X k:Int):Rat)<=1:=fun k hk=>by
  rcases hs k hk with e|e<;>rw[e]<;>decide +kernel
 have r2:∀ k,k<3->rsz (eR m k k)<=700000:=fun k hk=>(yY h3 hk hk).2
 have r3:=IY r1 r2
 refine⟨by unfold bW;omega,(by and_intros<;>rfl),fun i=>⟨fun h1=>?_,fun h1=>?_⟩⟩
 ·have hi:i.1<3:=by omega
  obtain⟨o1,b1⟩:=yY h3 hi hi
  have b2:=r1 i.1 hi
  have b3:=r3 i.1 (by omega)
  have b4:=fP ((X i.1:Int):Rat) (eR m i.1 i.1)
  have b5:i.1*(700000+2)+1<=3000000:=by omega
  rw[h3.2.1.1,BU h3.2.1 hi]
  unfold eR at b1 b4
  refine⟨⟨by omega,by omega⟩,⟨?_,by omega,by omega,by omega,by omega,o1,⟨by omega,by omega⟩,⟨by omega,by omega⟩⟩,⟨i.1+1,by omega⟩,by simp only;omega,?_,rfl⟩
  ·rcases hs i.1 hi with e|e<;>rw[e]<;>unfold bW<;>omega
  ·rw[dV (by omega) (by omega)];rfl
 ·have hi:=i.2
  have hi:i.1=3:=by omega
  rw[hi]
noncomputable def LG1:Lib:=((LG0.add 54 (cPl (·+·)) a8B).add 55 (cPl (·-·)) a5F).add 50 cSu b0P
theorem b7D (x:QC4):(x.1.1,x.1.2.1,x.1.2.2.1,x.1.2.2.2.1,())=x.1:=rfl
theorem a0S {m:RM} (h:sK m=0):∀ i,i<m.length->(m.getD i []).length=(m.getD 0 []).length/\∀ j,j<(m.getD i []).length->((m.getD i []).getD j dJ).ok=true:=fun i hi=>by
 unfold sK xI at h
 split at h
 ·rename_i h9
  have:=gJ.1 h9.2.2.2.2 i hi
  unfold rowOk at this
  rw[Bool.and_eq_true,decide_eq_true_eq] at this
  exact⟨this.1,fun j hj=>gJ.1 this.2 j hj⟩
 ·omega
theorem MO {α:Type} {p:α->Prop} {xs:List α} (d:α) (h:∀ i,i<xs.length->p (xs.getD i d)):∀ x ∈ xs,p x:=fun x hx=>by
 obtain⟨i,hi,rfl⟩:=List.getElem_of_mem hx
 have:=h i hi
 rwa [List.getD_eq_getElem?_getD,List.getElem?_eq_getElem hi,Option.getD_some] at this
theorem QJ {m:RM} (h:sK m=0) (h2:m.length=3) (h3:(m.getD 0 []).length=3):sq3 m:=⟨h2,MO [] (fun i hi=>((a0S h i hi).1.trans h3))⟩
theorem QI {m:RM} (h:sK m=0):okM m:=MO [] (fun i hi=>MO dJ (a0S h i hi).2)
theorem a5H {q r:Nat->Rat} (h:∀ j,j<4->q j=r j):nzB q=nzB r:=by
 unfold nzB allB
 rw[show List.range 4=[0,1,2,3] from rfl]
 simp only[List.all_cons,List.all_nil,h 0 (by omega),h 1 (by omega),h 2 (by omega),h 3 (by omega)]
theorem a8t {q:Nat->Rat} (h:nzB q=true):∃ j,j<4/\q j≠0:=by
 refine Classical.byContradiction fun hn=>?_
 have:allB 4 (fun i=>decide (q i=0))=true:=gJ.2 (fun i hi=>by
  rw[decide_eq_true_eq]
  exact Classical.byContradiction fun h9=>hn ⟨i,hi,h9⟩)
 unfold nzB at h
 rw[this] at h;cases h
theorem BP {q r:Nat->Rat} (h:∀ j,j<4->q j=r j) {j:Nat} (hj:j<4):aV q j=aV r j:=by
 have hd:qI q=qI r:=by unfold qI;simp only[h 0 (by omega),h 1 (by omega),h 2 (by omega),h 3 (by omega)]
 unfold aV
 rw[h j hj,hd]
def omT (m:RM):QC4:=if sK m=0/\m.length=3/\(m.getD 0 []).length=3 then (if jT (eR m)=true then (if nzB (dN (eR m) 0)=true then aX (aV (dN (eR m) 0)) else if nzB (dN (eR m) 1)=true then aX (aV (dN (eR m) 1)) else if nzB (dN (eR m) 2)=true then aX (aV (dN (eR m) 2)) else if nzB (dN (eR m) 3)=true then aX (aV (dN (eR m) 3)) else ((0,0,0,0,()),15,())) else ((0,0,0,0,()),15,())) else ((0,0,0,0,()),1,())
def cOm:Ctr:=⟨[tMR],[nS,tI],fun x=>lens 700000 x.1/\(show RM from x.1).length<=1000000000,fun x=>omT x.1⟩
theorem EZ:dG Tryz.prog 14 cOm:=by
 refine fF LG1 [2,8] Tryz.func14 rfl (by decide) (fun x=>[.turns 5 [74] [2] []]) (fun x hp=>?_)
 obtain⟨m,u⟩:=x
 change RM at m
 refine iO (let x0z:=((eR m 2 1-eR m 1 2)::iK (xsL (1::-1::-1::aH Int)) (eR m) 3::(eR m 0 1+eR m 1 0)::(eR m 0 2+eR m 2 0)::aH Rat);let x1z:=((eR m 0 2-eR m 2 0)::(eR m 0 1+eR m 1 0)::iK (xsL (-1::1::-1::aH Int)) (eR m) 3::(eR m 1 2+eR m 2 1)::aH Rat);let x2z:=((eR m 1 0-eR m 0 1)::(eR m 0 2+eR m 2 0)::(eR m 1 2+eR m 2 1)::iK (xsL (-1::-1::1::aH Int)) (eR m) 3::aH Rat);let x3z:=(iK (xsL (1::1::1::aH Int)) (eR m) 3::(eR m 2 1-eR m 1 2)::(eR m 0 2-eR m 2 0)::(eR m 1 0-eR m 0 1)::aH Rat);let x4z:=((bif aB (List.length m) != 3 then true else sK m != 0)==false);let x5z:=(asT Int 0=0/\asT Int 0=0/\asT Int 0=0/\asT Int 0=0/\True);let x6z:=(List.length (x3z::x0z::x1z::x2z::aH (List Rat)));((((aB (List.length m) != 3)==false)=true->((aB (List.length m) != 3)==false)=true/\lens 700000 m/\True)/\(((aB (List.length m) != 3)==false)=true->((aB (List.length m) != 3)==false)=true/\True)/\((aB (List.length m) != 3)=false->((aB (List.length m) != 3)==false)=true)/\(x4z=true->x4z=true/\asT Int 0<=0/\0<aB (List.length m)/\True)/\(x4z=true->x4z=true/\True)/\(x4z=true->x4z=true/\True)/\(x4z=true->x4z=true/\True)/\((bif aB (List.length m) != 3 then true else sK m != 0)=false->x4z=true)/\True)/\ifB (bif bif aB (List.length m) != 3 then true else sK m != 0 then true else aB (List.length (List.getD m 0 (aH aI))) != 3) (True/\(0,0,0,0,())=Prod.fst (omT m)/\True/\1=Prod.fst (Prod.snd (omT m))/\True) (((lens 700000 m/\sq3 m/\okM m)/\True)/\ifB (!jT (eR m)) (True/\(0,0,0,0,())=Prod.fst (omT m)/\True/\15=Prod.fst (Prod.snd (omT m))/\True) (((List.length (1::1::1::aH Int)=3/\(∀ (k:Nat),k<3->xsL (1::1::1::aH Int) k=1\/xsL (1::1::1::aH Int) k=-1)/\m3 m)/\(at3 2/\at3 1/\m3 m)/\(at3 0/\at3 2/\m3 m)/\(at3 1/\at3 0/\m3 m)/\(at3 2/\at3 1/\m3 m)/\(List.length (1::-1::-1::aH Int)=3/\(∀ (k:Nat),k<3->xsL (1::-1::-1::aH Int) k=1\/xsL (1::-1::-1::aH Int) k=-1)/\m3 m)/\(at3 0/\at3 1/\m3 m)/\(at3 0/\at3 2/\m3 m)/\(at3 0/\at3 2/\m3 m)/\(at3 0/\at3 1/\m3 m)/\(List.length (-1::1::-1::aH Int)=3/\(∀ (k:Nat),k<3->xsL (-1::1::-1::aH Int) k=1\/xsL (-1::1::-1::aH Int) k=-1)/\m3 m)/\(at3 1/\at3 2/\m3 m)/\(at3 1/\at3 0/\m3 m)/\(at3 0/\at3 2/\m3 m)/\(at3 1/\at3 2/\m3 m)/\(List.length (-1::-1::1::aH Int)=3/\(∀ (k:Nat),k<3->xsL (-1::-1::1::aH Int) k=1\/xsL (-1::-1::1::aH Int) k=-1)/\m3 m)/\True)/\(asT Int 0<=0/\0<aB x6z/\True)/\((List.length x3z=4/\∀ (j:Nat),j<4->rsz (qL x3z j)<=400000000)/\True)/\ifB (nzB (qL x3z)) (((List.length x3z=4/\(∀ (j:Nat),j<4->rsz (qL x3z j)<=50000000)/\∃ (j:Nat),j<4/\qL x3z j≠0)/\True)/\True/\(Prod.fst (Prod.fst (aX (aV (qL x3z)))),Prod.fst (Prod.snd (Prod.fst (aX (aV (qL x3z))))),Prod.fst (Prod.snd (Prod.snd (Prod.fst (aX (aV (qL x3z)))))),Prod.fst (Prod.snd (Prod.snd (Prod.snd (Prod.fst (aX (aV (qL x3z))))))),())=Prod.fst (omT m)/\True/\Prod.fst (Prod.snd (aX (aV (qL x3z))))=Prod.fst (Prod.snd (omT m))/\True) (x5z/\asT Bool true=true/\(asT Int 0<=1/\1<aB x6z/\True)/\((List.length x0z=4/\∀ (j:Nat),j<4->rsz (qL x0z j)<=400000000)/\True)/\ifB (nzB (qL x0z)) (((List.length x0z=4/\(∀ (j:Nat),j<4->rsz (qL x0z j)<=50000000)/\∃ (j:Nat),j<4/\qL x0z j≠0)/\True)/\True/\(Prod.fst (Prod.fst (aX (aV (qL x0z)))),Prod.fst (Prod.snd (Prod.fst (aX (aV (qL x0z))))),Prod.fst (Prod.snd (Prod.snd (Prod.fst (aX (aV (qL x0z)))))),Prod.fst (Prod.snd (Prod.snd (Prod.snd (Prod.fst (aX (aV (qL x0z))))))),())=Prod.fst (omT m)/\True/\Prod.fst (Prod.snd (aX (aV (qL x0z))))=Prod.fst (Prod.snd (omT m))/\True) (x5z/\asT Bool true=true/\(asT Int 0<=2/\2<aB x6z/\True)/\((List.length x1z=4/\∀ (j:Nat),j<4->rsz (qL x1z j)<=400000000)/\True)/\ifB (nzB (qL x1z)) (((List.length x1z=4/\(∀ (j:Nat),j<4->rsz (qL x1z j)<=50000000)/\∃ (j:Nat),j<4/\qL x1z j≠0)/\True)/\True/\(Prod.fst (Prod.fst (aX (aV (qL x1z)))),Prod.fst (Prod.snd (Prod.fst (aX (aV (qL x1z))))),Prod.fst (Prod.snd (Prod.snd (Prod.fst (aX (aV (qL x1z)))))),Prod.fst (Prod.snd (Prod.snd (Prod.snd (Prod.fst (aX (aV (qL x1z))))))),())=Prod.fst (omT m)/\True/\Prod.fst (Prod.snd (aX (aV (qL x1z))))=Prod.fst (Prod.snd (omT m))/\True) (x5z/\asT Bool true=true/\(asT Int 0<=3/\3<aB x6z/\True)/\((List.length x2z=4/\∀ (j:Nat),j<4->rsz (qL x2z j)<=400000000)/\True)/\ifB (nzB (qL x2z)) (((List.length x2z=4/\(∀ (j:Nat),j<4->rsz (qL x2z j)<=50000000)/\∃ (j:Nat),j<4/\qL x2z j≠0)/\True)/\True/\(Prod.fst (Prod.fst (aX (aV (qL x2z)))),Prod.fst (Prod.snd (Prod.fst (aX (aV (qL x2z))))),Prod.fst (Prod.snd (Prod.snd (Prod.fst (aX (aV (qL x2z)))))),Prod.fst (Prod.snd (Prod.snd (Prod.snd (Prod.fst (aX (aV (qL x2z))))))),())=Prod.fst (omT m)/\True/\Prod.fst (Prod.snd (aX (aV (qL x2z))))=Prod.fst (Prod.snd (omT m))/\True) (x5z/\asT Bool true=true/\True/\(0,0,0,0,())=Prod.fst (omT m)/\True/\15=Prod.fst (Prod.snd (omT m))/\True))))))) (by kernel_rfl) ?_
 obtain⟨hl,hlen⟩:=hp
 have hZ:(⟨false,0,[],[]⟩:aI)=dJ:=rfl
 dsimp only[aB,aH,aA,asT,iJ] at *
 simp only[b7D]
 by_cases hf:sK m=0/\m.length=3/\(m.getD 0 []).length=3
 ·obtain⟨f1,f2,f3⟩:=hf
  have e3:m3 m:=⟨hl,QJ f1 f2 f3,QI f1⟩
  have nm:∀ k,k<4->∀ j,j<4->rsz (dN (eR m) k j)<=50000000:=fun k _ j hj=>UM (K:=700000) (fun i j hi hj=>(yY e3 hi hj).2) (by omega) k j hj
  have g0:qL [iK (xsL [1,1,1]) (eR m) 3,eR m 2 1-eR m 1 2,eR m 0 2-eR m 2 0,eR m 1 0-eR m 0 1]=qL ((List.range 4).map (dN (eR m) 0)):=rfl
  have g1:qL [eR m 2 1-eR m 1 2,iK (xsL [1,-1,-1]) (eR m) 3,eR m 0 1+eR m 1 0,eR m 0 2+eR m 2 0]=qL ((List.range 4).map (dN (eR m) 1)):=rfl
  have g2:qL [eR m 0 2-eR m 2 0,eR m 0 1+eR m 1 0,iK (xsL [-1,1,-1]) (eR m) 3,eR m 1 2+eR m 2 1]=qL ((List.range 4).map (dN (eR m) 2)):=rfl
  have g3:qL [eR m 1 0-eR m 0 1,eR m 0 2+eR m 2 0,eR m 1 2+eR m 2 1,iK (xsL [-1,-1,1]) (eR m) 3]=qL ((List.range 4).map (dN (eR m) 3)):=rfl
  have hq:∀ k j,j<4->qL ((List.range 4).map (dN (eR m) k)) j=dN (eR m) k j:=fun k j hj=>by
   match j,hj with
   | 0,_=>rfl
   | 1,_=>rfl
   | 2,_=>rfl
   | 3,_=>rfl
  have hc:∀ k,aX (aV (qL ((List.range 4).map (dN (eR m) k))))=aX (aV (dN (eR m) k)):=fun k=>qB (fun j hj=>BP (hq k) hj)
  have hz:∀ k,nzB (qL ((List.range 4).map (dN (eR m) k)))=nzB (dN (eR m) k):=fun k=>a5H (hq k)
  rw[g0,g1,g2,g3,f1,f2,f3]
  have lr:∀ k,k<4->∀ K,50000000<=K->∀ j,j<4->rsz (qL ((List.range 4).map (dN (eR m) k)) j)<=K:=fun k hk K hK j hj=>by rw[hq k j hj];exact Nat.le_trans (nm k hk j hj) hK
  have nx:∀ k,nzB (dN (eR m) k)=true->∃ j,j<4/\qL ((List.range 4).map (dN (eR m) k)) j≠0:=fun k h=>by
   obtain⟨j,hj,hn⟩:=a8t h
   exact⟨j,hj,by rw[hq k j hj];exact hn⟩
  have s1:∀ k,k<3->xsL [1,1,1] k=1\/xsL [1,1,1] k=-1:=by decide
  have s2:∀ k,k<3->xsL [1,-1,-1] k=1\/xsL [1,-1,-1] k=-1:=by decide
  have s3:∀ k,k<3->xsL [-1,1,-1] k=1\/xsL [-1,1,-1] k=-1:=by decide
  have s4':∀ k,k<3->xsL [-1,-1,1] k=1\/xsL [-1,-1,1] k=-1:=by decide
  have t0:(((3:Nat):Int) != 3)=false:=rfl
  have t1:((0:Int) != 0)=false:=rfl
  have t2:∀ b:Bool,(b==b)=true:=fun b=>by cases b<;>rfl
  have ho:omT m=if jT (eR m)=true then (if nzB (dN (eR m) 0)=true then aX (aV (dN (eR m) 0)) else if nzB (dN (eR m) 1)=true then aX (aV (dN (eR m) 1)) else if nzB (dN (eR m) 2)=true then aX (aV (dN (eR m) 2)) else if nzB (dN (eR m) 3)=true then aX (aV (dN (eR m) 3)) else ((0,0,0,0,()),15,())) else ((0,0,0,0,()),15,()):=if_pos ⟨f1,f2,f3⟩
  rw[ho]
  have q1:=e3.2.1
  have q2:=e3.2.2
  have l:∀ k,k<4->(∀ j,j<4->rsz (qL ((List.range 4).map (dN (eR m) k)) j)<=400000000)/\(∀ j,j<4->rsz (qL ((List.range 4).map (dN (eR m) k)) j)<=50000000):=fun k hk=>⟨lr k hk _ (by omega),lr k hk _ (by omega)⟩
  obtain⟨l0,l0'⟩:=l 0 (by omega)
  obtain⟨l1,l1'⟩:=l 1 (by omega)
  obtain⟨l2,l2'⟩:=l 2 (by omega)
  obtain⟨l3,l3'⟩:=l 3 (by omega)
  have n0:=nx 0
  have n1:=nx 1
  have n2:=nx 2
  have n3:=nx 3
  simp only[hc,hz,t0,t1,t2,cond_false]
  clear g0 g1 g2 g3 ho
  cases ht:jT (eR m)
  ·simp[ifB,hl,q1,q2]
  ·cases h0:nzB (dN (eR m) 0)
   ·cases h1:nzB (dN (eR m) 1)
    ·cases h2:nzB (dN (eR m) 2)
     ·cases h3:nzB (dN (eR m) 3)
      ·simp only[ifB,hl,q1,q2,e3,s1,s2,s3,s4',l0,l1,l2,l3,List.length_cons,List.length_nil,Bool.not_true,at3,Bool.false_eq_true,if_false,if_true,true_and,and_true,implies_true,imp_self]
       repeat' apply And.intro
       all_goals first|assumption|exact s1|exact s2|exact s3|exact s4' | exact l0|exact l0' | exact l1|exact l1' | exact l2|exact l2' | exact l3|exact l3' | omega
      ·have n3:=n3 h3
       simp only[ifB,hl,q1,q2,e3,s1,s2,s3,s4',l0,l1,l2,l3,l3',n3,List.length_cons,List.length_nil,Bool.not_true,at3,Bool.false_eq_true,if_false,if_true,true_and,and_true,implies_true,imp_self]
       repeat' apply And.intro
       all_goals first|assumption|exact s1|exact s2|exact s3|exact s4' | exact l0|exact l0' | exact l1|exact l1' | exact l2|exact l2' | exact l3|exact l3' | omega
     ·have n2:=n2 h2
      simp only[ifB,hl,q1,q2,e3,s1,s2,s3,s4',l0,l1,l2,l2',n2,List.length_cons,List.length_nil,Bool.not_true,at3,Bool.false_eq_true,if_false,if_true,true_and,and_true,implies_true,imp_self]
      repeat' apply And.intro
      all_goals first|assumption|exact s1|exact s2|exact s3|exact s4' | exact l0|exact l0' | exact l1|exact l1' | exact l2|exact l2' | exact l3|exact l3' | omega
    ·have n1:=n1 h1
     simp only[ifB,hl,q1,q2,e3,s1,s2,s3,s4',l0,l1,l1',n1,List.length_cons,List.length_nil,Bool.not_true,at3,Bool.false_eq_true,if_false,if_true,true_and,and_true,implies_true,imp_self]
     repeat' apply And.intro
     all_goals first|assumption|exact s1|exact s2|exact s3|exact s4' | exact l0|exact l0' | exact l1|exact l1' | exact l2|exact l2' | exact l3|exact l3' | omega
   ·have n0:=n0 h0
    simp only[ifB,hl,q1,q2,e3,s1,s2,s3,s4',l0,l0',n0,List.length_cons,List.length_nil,Bool.not_true,at3,Bool.false_eq_true,if_false,if_true,true_and,and_true,implies_true,imp_self]
    repeat' apply And.intro
    all_goals first|assumption|exact s1|exact s2|exact s3|exact s4' | exact l0|exact l0' | exact l1|exact l1' | exact l2|exact l2' | exact l3|exact l3' | omega
 ·have hm:omT m=((0,0,0,0,()),1,()):=if_neg hf
  rw[hm]
  by_cases f2:m.length=3
  ·have t0:(((m.length:Nat):Int) != 3)=false:=by rw[f2];rfl
   rw[t0]
   by_cases f1:sK m=0
   ·have t1:(sK m != 0)=false:=by rw[f1];rfl
    have f3:¬ (m.getD 0 []).length=3:=fun h=>hf ⟨f1,f2,h⟩
    have t3:((((m.getD 0 []).length:Nat):Int) != 3)=true:=bne_iff_ne.2 (fun h=>f3 (by omega))
    rw[t1,t3,f2]
    simp[ifB,hl]
   ·have t1:(sK m != 0)=true:=by simpa using f1
    rw[t1]
    simp[ifB,hl]
  ·have t0:(((m.length:Nat):Int) != 3)=true:=bne_iff_ne.2 (fun h=>f2 (by omega))
   rw[t0]
   simp[ifB]
def cAt (c:Ctr) (x:(nest c.args).den) (y:(nest c.res).den):Ctr:=⟨c.args,c.res,fun z=>z=x,fun _=>y⟩
theorem MW {f:FuncId} {c:Ctr} (h:dG Tryz.prog f c) {x:(nest c.args).den} {y:(nest c.res).den} (hp:c.pre x) (hy:c.fn x=y):dG Tryz.prog f (cAt c x y):=by
 intro F w vs z hF hvs hz
 have hz:z=x:=hz
 rw[hz] at hvs
 have h9:=h F w vs x hF hvs hp
 rw[hy] at h9
 exact h9
abbrev q4 (a b c d:Int):Int × Int × Int × Int × Unit:=(a,b,c,d,())
def knM:RM:=(PL 1 0 0 1).map fun r=>r.map fun x=>zF x
theorem b0d:lens 700000 knM:=by
 unfold lens
 decide +kernel
theorem b2o:omT knM=((q4 (1) (0) (0) (1)),0,()):=by decide +kernel
theorem b6N:(if dO 1 0 0 1=0 then PL 1 0 0 1 else [],dO 1 0 0 1,())=(PL 1 0 0 1,(0:Int),()):=by
 have:dO 1 0 0 1=0:=by decide +kernel
 rw[this];rfl
theorem a8c:uM (-2) 0 4 0=(q4 1 0 (-2) 0,0,()):=by decide +kernel
theorem b2n:SK 1 1 0 0 1 0 1 0=(q4 1 1 1 1,0,()):=by decide +kernel
noncomputable def LG2:Lib:=((((LF
 ).add 18 (cAt (cHQ (fun _ _ _ _=>True) uM) ((q4 (-2) (0) (4) (0)),()) ((q4 (1) (0) (-2) (0)),(0:Int),())) (MW TJ trivial a8c)
 ).add 26 (cAt (b1A SK) ((q4 (1) (1) (0) (0)),(q4 (1) (0) (1) (0)),()) ((q4 (1) (1) (1) (1)),(0:Int),())) (MW a0M trivial b2n)
 ).add 14 (cAt cOm (knM,()) ((q4 (1) (0) (0) (1)),(0:Int),())) (MW EZ ⟨b0d,by decide⟩ b2o)
 ).add 16 (cAt cMx ((q4 (1) (0) (0) (1)),()) (PL 1 0 0 1,(0:Int),())) (MW a2w trivial b6N)
theorem a8d:vZ 1 0 0 0 1 1 0 0=(zF (Rat.divInt 1 2),0,()):=by
 unfold vZ
 rw[if_pos (by decide +kernel),show a1R 1 0 0 0 1 1 0 0=Rat.divInt 1 2 by decide +kernel]
noncomputable def LG3:Lib:=LG2.add 19 (cAt a1N ((q4 (1) (0) (0) (0)),(q4 (1) (1) (0) (0)),()) (zF (Rat.divInt 1 2),(0:Int),())) (MW TK trivial a8d)
theorem a5B:dG Tryz.prog 12 (cB true):=by
 refine fF LG3 [1,3,7,9,11] Tryz.func12 rfl (by decide) (fun x=>[]) (fun x hp=>?_)
 refine iO ((asT ((Int × Int × Int × Int × PUnit) × PUnit) ((-2,0,4,0,()),())=(q4 (-2) 0 4 0,())/\True)/\(asT ((Int × Int × Int × Int × PUnit) × (Int × Int × Int × Int × PUnit) × PUnit) ((1,1,0,0,()),(1,0,1,0,()),())=(q4 1 1 0 0,q4 1 0 1 0,())/\True)/\(asT ((Int × Int × Int × Int × PUnit) × PUnit) ((1,0,0,1,()),())=(q4 1 0 0 1,())/\True)/\((((True/\True/\True/\True)/\True)/\((True/\True/\True/\True)/\True)/\((True/\True/\True/\True)/\True)/\True)/\asT (List (List aI) × PUnit) (List.map (fun(xs:Ty.den (Ty.list (Ty.lf Lf.rat)))=>List.map (fun(x:Ty.den (Ty.lf Lf.rat))=>zF x) xs) ((qF 1 0 0 1 0 0::qF 1 0 0 1 0 1::qF 1 0 0 1 0 2::aH Rat)::(qF 1 0 0 1 1 0::qF 1 0 0 1 1 1::qF 1 0 0 1 1 2::aH Rat)::(qF 1 0 0 1 2 0::qF 1 0 0 1 2 1::qF 1 0 0 1 2 2::aH Rat)::aH (List Rat)),())=(knM,())/\True)/\(asT ((Int × Int × Int × Int × PUnit) × (Int × Int × Int × Int × PUnit) × PUnit) ((1,0,0,0,()),(1,1,0,0,()),())=(q4 1 0 0 0,q4 1 1 0 0,())/\True)/\((bW 1/\bW 2/\asT Int 2≠0)/\True)/\((asT Bool true=true->asT Bool true=true/\asT Bool true=true/\True)/\(asT Bool true=true->asT Bool true=true)/\(asT Bool true=true->asT Bool true=true/\asT Bool true=true/\True)/\(asT Bool true=true->asT Bool true=true)/\(asT Bool true=true->asT Bool true=true/\asT Bool true=true/\True)/\(asT Bool true=true->asT Bool true=true)/\(asT Bool true=true->asT Bool true=true/\asT Bool true=true/\asT Bool true=true/\(rsz (Rat.divInt 1 2)<=190000000/\rsz (Rat.divInt 1 2)<=190000000)/\True)/\(asT Bool true=true->asT Bool true=true)/\True)/\True/\asT Bool (bif bif bif bif asT Int 0==0 then eqI 1 1&&(eqI 0 0&&(eqI (-2) (-2)&&(eqI 0 0&&true))) else false then eqI 1 1&&(eqI 1 1&&(eqI 1 1&&(eqI 1 1&&true))) else false then eqI 1 1&&(eqI 0 0&&(eqI 0 0&&(eqI 1 1&&true))) else false then decide (asT Rat (Rat.divInt 1 2)=Rat.divInt 1 2) else false)=true/\True) (by kernel_rfl) ?_
 have hw:bW 1/\bW 2:=by unfold bW;decide
 have hr:rsz (Rat.divInt 1 2)<=190000000:=by decide +kernel
 refine⟨⟨rfl,trivial⟩,⟨rfl,trivial⟩,⟨rfl,trivial⟩,⟨⟨⟨⟨trivial,trivial,trivial,trivial⟩,trivial⟩,⟨⟨trivial,trivial,trivial,trivial⟩,trivial⟩,⟨⟨trivial,trivial,trivial,trivial⟩,trivial⟩,trivial⟩,rfl,trivial⟩,⟨rfl,trivial⟩,⟨⟨hw.1,hw.2,by decide⟩,trivial⟩,⟨fun _=>⟨rfl,rfl,trivial⟩,fun _=>rfl,fun _=>⟨rfl,rfl,trivial⟩,fun _=>rfl,fun _=>⟨rfl,rfl,trivial⟩,fun _=>rfl,fun _=>⟨rfl,rfl,rfl,⟨hr,hr⟩,trivial⟩,fun _=>rfl,trivial⟩,trivial,by decide +kernel,trivial⟩
end Go.Proofs.YtidfgdchcpmnfaaGreat
namespace Go.Proofs.YtidfgdchcpmnfaaGreat
open Go Go.ChangeShapes Go.WideShapes Go.ChangeAt Go.RowKit Go.Joins
set_option linter.unusedVariables false
set_option maxRecDepth 100000
theorem own:ownKnob Tryz.prog.godebug=none:=by kernel_rfl
section
variable {H:Type} {enc:TypeId × Value->H} {W:World} {base:Nat}
end
set_option linter.unusedSimpArgs false
theorem laidOut:laidOutB Tryz.prog=true:=by kernel_rfl
theorem a7f:Tryz.prog.cellsOf 30=4:=by kernel_rfl
theorem a7e:Tryz.prog.cellsOf 28=2:=by kernel_rfl
theorem a5c:Tryz.prog.cellsOf 26=1:=by kernel_rfl
theorem a5b:Tryz.prog.cellsOf 4=1:=by kernel_rfl
theorem a7g:Tryz.prog.cellsOf 118=1:=by kernel_rfl
def a3U (q:aI):Prop:=∀ K,1<=K->q.n<=K->q.m<=K->rsz q.x<=K
def b5R {α:Type} (p:α->Prop) (xs:List α):Prop:=∀ x ∈ xs,p x
def good:(t:Ty)->t.den->Prop
 | .bool,_=>True
 | .int k,n=>(Lit.int k n).wf=true
 | .lf .iH,q=>a3U q
 | .lf _,_=>True
 | .list t,xs=>List.length (α:=t.den) xs<=9223372036854775807/\b5R (good t) xs
 | .arr n t,xs=>List.length (α:=t.den) xs=n/\b5R (good t) xs
 | .pair a b,x=>good a x.1/\good b x.2
 | .unit,_=>True
 | .ref _,_=>True
 | .clo _ _,_=>True
noncomputable def eU:Ty->Option TypeId->List Field->Nat->Bool
 | .pair a b,none,f::fs,o=>f.offset==o&&Tryz.prog.cellsOf f.type==a.n&&eU a (some f.type) [] 0&&eU b none fs (o+a.n)
 | .unit,none,[],_=>true
 | .bool,some T,_,_=>match Tryz.prog.underlying T with
  | some .bool=>true
  | _=>false
 | .int k,some T,_,_=>match Tryz.prog.underlying T with
  | some (.int k')=>k==k'
  | _=>false
 | .lf .iH,some T,_,_=>T==30
 | .list t,some T,_,_=>match Tryz.prog.underlying T with
  | some (.slice e)=>Tryz.prog.cellsOf e==t.n&&decide (0<t.n)&&eU t (some e) [] 0
  | _=>false
 | .arr n t,some T,_,_=>match Tryz.prog.underlying T with
  | some (.array m e)=>m==n&&Tryz.prog.cellsOf e==t.n&&Tryz.prog.cellsOf T==n*t.n&&eU t (some e) [] 0
  | _=>false
 | .pair a b,some T,_,_=>match Tryz.prog.underlying T with
  | some (.struct fs)=>Tryz.prog.cellsOf T==a.n+b.n&&(match fs.toList with
   | f::fs'=>f.offset==0&&Tryz.prog.cellsOf f.type==a.n&&eU a (some f.type) [] 0&&eU b none fs' a.n
   | []=>false)
  | _=>false
 | _,_,_,_=>false
section
variable {H:Type} {enc:TypeId × Value->H} {W:World}
theorem a6O {a:Addr} {v:Value} (h:W.cell? a=some v):a=⟨a.block,a.off,none⟩/\a.block<W.heap.size:=by
 have h1:=World.cell?_spot h
 refine⟨by obtain⟨b,o,s⟩:=a;cases h1;rfl,?_⟩
 exact World.block_lt_of_cell? W a h
theorem b1n {n:Nat} {cs:List Value} {y:DataW H × List MemPlace} (h:DataW.trod enc Tryz.prog W 0 (fun _=>true) true n 26 cs=some y):∃ p l c,cs=[.slice p l.length c]/\Rd W (.slice p l.length c) l/\∀ g ∈ l,g<4294967296:=by
 rcases open_ints (k:=.u32) Tryz.underlying26 Tryz.underlying118 a7g h with⟨rfl,_⟩|⟨a,len,cap,zs,rfl,_,h1,h2,h3,_,h4,h5⟩
 ·exact⟨none,[],0,rfl,.inl ⟨none,rfl,rfl⟩,by simp⟩
 ·simp at h3
  by_cases hc:cap=0
  ·have hl:len=0:=by omega
   subst hc hl
   exact⟨some a,[],0,rfl,.inl ⟨_,rfl,rfl⟩,by simp⟩
  ·obtain⟨ha,hb⟩:=a6O (h4 0 (by omega))
   have ha:a=⟨a.block,a.off,none⟩:=by simpa [Addr.add] using ha
   have hb:a.block<W.heap.size:=by simpa [Addr.add] using hb
   have hz:∀ n ∈ zs,0<=n/\n<4294967296:=fun n hn=>by
    have:=h5 n hn
    simp[Lit.wf,IntKind.min,IntKind.max,IntKind.signed,IntKind.bits] at this
    omega
   have hL:((zs.take len).map Int.toNat).length=len:=by simp;omega
   refine⟨some a,(zs.take len).map Int.toNat,cap,by rw[hL],.inr ⟨a.block,a.off,cap,by rw[<-ha],by rw[hL];exact h1,by unfold maxLen at h2;omega,hb,fun i hi=>?_⟩,fun g hg=>?_⟩
   ·rw[hL] at hi
    have hi':i<zs.length:=by omega
    have hc:=h4 i hi'
    have hm:zs[i] ∈ zs:=List.getElem_mem hi'
    have:=hz _ hm
    have hg:((gr ((zs.take len).map Int.toNat) i:Nat):Int)=zs.getD i 0:=by
     have e1:gr ((zs.take len).map Int.toNat) i=(zs[i]).toNat:=by simp[gr,List.getD,hi,hi']
     have e2:zs.getD i 0=zs[i]:=by simp[List.getD,hi']
     rw[e1,e2];omega
    rw[hg,<-hc,ha]
    rw[add_plain]
   ·obtain⟨x,hx,rfl⟩:=List.mem_map.1 hg
    have:=hz x (List.mem_of_mem_take hx)
    omega
theorem b8o {α:Type} {l:List α} (h:l.length=4):∃ a b c d,l=[a,b,c,d]:=by
 match l,h with
 | [a,b,c,d],_=>exact⟨a,b,c,d,rfl⟩
theorem b2D {n:Nat} {cs:List Value} {y:DataW H × List MemPlace} (h:DataW.trod enc Tryz.prog W 0 (fun _=>true) true n 30 cs=some y):∃ x:aI,Lf.rep W cs .iH x/\a3U x:=by
 obtain⟨xs,m,_,_,hl,hlen,hf⟩:=DataW.trod_struct Tryz.underlying30 h
 rw[a7f] at hl
 obtain⟨c0,c1,c2,c3,rfl⟩:=b8o hl
 match xs,hlen with
 | [y0,y1],_ =>
 have k0:=hf 0 _ rfl
 have k1:=hf 1 _ rfl
 obtain⟨xs0,m0,_,_,_,hlen0,hf0⟩:=DataW.trod_struct Tryz.underlying28 k0
 obtain⟨xs1,m1,_,_,_,hlen1,hf1⟩:=DataW.trod_struct Tryz.underlying28 k1
 match xs0,hlen0,xs1,hlen1 with
 | [z0,z1],_,[z2,z3],_ =>
 have a0:=hf0 0 _ rfl
 have a1:=hf0 1 _ rfl
 have a2:=hf1 0 _ rfl
 have a3:=hf1 1 _ rfl
 simp[a7e,a5b,a5c] at a0 a1 a2 a3
 obtain⟨b,e0,_⟩:=DataW.trod_bool Tryz.underlying4 a0
 obtain⟨d,e2,_⟩:=DataW.trod_bool Tryz.underlying4 a2
 simp at e0 e2
 subst e0 e2
 obtain⟨p,l,c,e1,r1,l1⟩:=b1n a1
 obtain⟨q,k,e,e3,r3,l3⟩:=b1n a3
 simp at e1 e3
 subst e1 e3
 have hq:fE W (.agg #[.bool b,.slice p l.length c,.bool d,.slice q k.length e]) _ _:=⟨_,_,_,_,_,_,_,_,rfl,⟨b,_,l,rfl,r1,l1,rfl,rfl⟩,⟨d,_,k,rfl,r3,l3,rfl,rfl⟩,rfl,rfl⟩
 exact⟨⟨_,_,l,k⟩,⟨b,p,c,d,q,e,rfl,hq,r1,r3⟩,fun K h1 h2 h3=>hq.iV ⟨b,p,_,c,d,q,_,e,rfl,h2,h3⟩ h1⟩
theorem XM {α:Type} {Q:Nat->α->Prop}:∀ n,(∀ i,i<n->∃ x,Q i x)->∃ xs:List α,xs.length=n/\∀ i (h:i<xs.length),Q i xs[i]
 | 0,_=>⟨[],rfl,fun i h=>by simp at h⟩
 | n+1,h=>by
  obtain⟨xs,h1,h2⟩:=XM n (fun i hi=>h i (by omega))
  obtain⟨x,hx⟩:=h n (by omega)
  refine⟨xs++[x],by simp[h1],fun i hi=>?_⟩
  by_cases e:i<xs.length
  ·rw[List.getElem_append_left e];exact h2 i e
  ·have:i=n:=by simp at hi;omega
   subst this
   rw[List.getElem_append_right (by omega)]
   simpa using hx
theorem xC {α:Type} {R:List Value->α->Prop} {b o ce:Nat}:∀ (xs:List α) (k:Nat),(∀ i (h:i<xs.length),∃ c,c.length=ce/\(∀ j v,c[j]?=some v->W.cell? ⟨b,o+((k+i)*ce+j),none⟩=some v)/\R c xs[i])->∃ ds,(∀ j v,ds[j]?=some v->W.cell? ⟨b,o+(k*ce+j),none⟩=some v)/\chunks R ds xs
 | [],k,_=>⟨[],fun j v h=>by simp at h,rfl⟩
 | x::xs,k,h=>by
  obtain⟨c,h1,h2,h3⟩:=h 0 (by simp)
  obtain⟨ds,h4,h5⟩:=xC xs (k+1) (fun i hi=>by
   obtain⟨c,h1,h2,h3⟩:=h (i+1) (by simpa using hi)
   exact⟨c,h1,fun j v hj=>by rw[show k+1+i=k+(i+1) by omega];exact h2 j v hj,h3⟩)
  refine⟨c++ds,fun j v hj=>?_,c,ds,rfl,h3,h5⟩
  by_cases e:j<c.length
  ·rw[List.getElem?_append_left e] at hj
   exact h2 j v hj
  ·rw[List.getElem?_append_right (by omega)] at hj
   have:=h4 _ _ hj
   rw[Nat.add_mul,Nat.one_mul] at this
   rwa [show k*ce+ce+(j-c.length)=k*ce+j by omega] at this
theorem yC {α:Type} {R:List Value->α->Prop} {ce:Nat}:∀ (xs:List α) (cs:List Value),cs.length=xs.length*ce->(∀ i (h:i<xs.length),R ((cs.drop (i*ce)).take ce) xs[i])->chunks R cs xs
 | [],cs,h,_=>List.eq_nil_of_length_eq_zero (by simpa using h)
 | x::xs,cs,h,hR=>by
  rw[List.length_cons,Nat.succ_mul] at h
  refine⟨cs.take ce,cs.drop ce,(List.take_append_drop ce cs).symm,?_,yC (ce:=ce) xs (cs.drop ce) (by rw[List.length_drop];omega) (fun i hi=>?_)⟩
  ·have:=hR 0 (by simp)
   rwa [Nat.zero_mul,List.drop_zero] at this
  ·have:=hR (i+1) (by simpa using hi)
   rwa [Nat.succ_mul,Nat.add_comm,<-List.drop_drop] at this
theorem a7h {a:Addr} {n:Nat} {cs:List Value} (h:W.cells? 0 a n=some cs):cs.length=n/\∀ j v,cs[j]?=some v->W.cell? (a.add j)=some v:=by
 unfold World.cells? at h
 rw[if_pos (Nat.zero_le _)] at h
 refine⟨by simpa using mapM_some_length h,fun j v hj=>?_⟩
 have hl:cs.length=n:=by simpa using mapM_some_length h
 have hjn:j<n:=by rw[<-hl];exact(List.getElem?_eq_some_iff.1 hj).1
 have:=mapM_some_get h j j (by simp[hjn])
 rw[hj] at this
 exact this
abbrev a1K (W:World) (q:Nat):Prop:=q<W.heap.size
theorem kZ:(t:Ty)->(T:Option TypeId)->(fs:List Field)->(o:Nat)->eU t T fs o=true->(n:Nat)->(cs:List Value) ->
  (∀ T',T=some T'->(∃ y,DataW.trod enc Tryz.prog W 0 (fun _=>true) true n T' cs=some y)->∃ x:t.den,rep (a1K W) W t cs x/\good t x) /\
  (T=none->cs.length=o+t.n->(∀ f ∈ fs,∃ y,DataW.trod enc Tryz.prog W 0 (fun _=>true) true n f.type ((cs.drop f.offset).take (Tryz.prog.cellsOf f.type))=some y)->∃ x:t.den,rep (a1K W) W t (cs.drop o) x/\good t x)
 | .bool,some T,fs,o,hm,n,cs=>by
  refine⟨fun T' e ⟨y,hy⟩=>?_,fun e=>(by cases e)⟩
  cases e
  unfold eU at hm
  split at hm<;>first|(cases hm;done)|skip
  rename_i hu
  obtain⟨b,rfl,_⟩:=DataW.trod_bool hu hy
  exact⟨b,rfl,trivial⟩
 | .int k,some T,fs,o,hm,n,cs=>by
  refine⟨fun T' e ⟨y,hy⟩=>?_,fun e=>(by cases e)⟩
  cases e
  unfold eU at hm
  split at hm<;>first|(cases hm;done)|skip
  rename_i k' hu
  have hk:k=k':=by simpa using hm
  subst hk
  obtain⟨b,rfl,_,hw⟩:=DataW.trod_int hu hy
  exact⟨b,rfl,hw⟩
 | .lf .iH,some T,fs,o,hm,n,cs=>by
  refine⟨fun T' e ⟨y,hy⟩=>?_,fun e=>(by cases e)⟩
  cases e
  have hT:T=30:=by unfold eU at hm;simpa using hm
  subst hT
  exact b2D hy
 | .list t,some T,fs,o,hm,n,cs=>by
  refine⟨fun T' e ⟨y,hy⟩=>?_,fun e=>(by cases e)⟩
  cases e
  unfold eU at hm
  split at hm<;>first|(cases hm;done)|skip
  rename_i e hu
  simp only[Bool.and_eq_true,beq_iff_eq,decide_eq_true_eq] at hm
  obtain⟨⟨hc,hp⟩,hmt⟩:=hm
  rcases DataW.trod_slice hu hy with⟨rfl,_⟩|⟨a,len,cap,elems,rest,m,_,rfl,_,_,h1,h2,h3,h4,_,_⟩
  ·exact⟨([]:List t.den),⟨none,0,rfl,Nat.le_refl _,by omega,.inl rfl⟩,by show 0<=_;omega,fun x hx=>by cases hx⟩
  ·rw[hc] at h4
   obtain⟨xs,hxl,hxs⟩:=XM (Q:=fun i (x:t.den)=>(∃ c,c.length=t.n/\(∀ j v,c[j]?=some v->W.cell? ((a.add (i*t.n)).add j)=some v)/\rep (a1K W) W t c x)/\good t x) len (fun i hi=>by
    have h5:=h4 i hi
    rw[List.getElem?_eq_getElem (by omega),Option.bind_eq_some_iff] at h5
    obtain⟨c,h6,h7⟩:=h5
    obtain⟨x,h8,h9⟩:=(kZ t (some e) [] 0 hmt m c).1 e rfl ⟨_,h7⟩
    obtain⟨k1,k2⟩:=a7h h6
    exact⟨x,⟨c,k1,k2,h8⟩,h9⟩)
   have hcap:cap<=9223372036854775807:=by unfold maxLen at h2;omega
   refine⟨xs,?_,⟨?_,?_⟩⟩
   ·refine⟨some a,cap,by rw[show List.length (α:=t.den) xs=len from hxl],by rw[show List.length (α:=t.den) xs=len from hxl];exact h1,hcap,?_⟩
    by_cases h0:len=0
    ·exact .inl (List.eq_nil_of_length_eq_zero (by rw[hxl,h0]))
    ·right
     obtain⟨⟨c,k1,k2,_⟩,_⟩:=hxs 0 (by omega)
     obtain⟨v,hv⟩:∃ v,c[0]?=some v:=⟨_,List.getElem?_eq_getElem (by omega)⟩
     have hcell:=k2 0 v hv
     rw[Nat.zero_mul,show (a.add 0).add 0=a by simp[Addr.add]] at hcell
     obtain⟨ha,hb⟩:=a6O hcell
     obtain⟨ds,d1,d2⟩:=xC (W:=W) (R:=rep (a1K W) W t) (b:=a.block) (o:=a.off) (ce:=t.n) xs 0 (fun i hi=>by
      obtain⟨⟨c,k1,k2,k3⟩,_⟩:=hxs i hi
      refine⟨c,k1,fun j v hj=>?_,k3⟩
      have:=k2 j v hj
      rw[ha,add_plain,add_plain] at this
      rw[Nat.zero_add,<-Nat.add_assoc];exact this)
     exact⟨a.block,a.off,ds,by rw[<-ha],hb,fun j v hj=>by have:=d1 j v hj;rwa [Nat.zero_mul,Nat.zero_add] at this,d2⟩
   ·show xs.length<=_;omega
   ·intro x hx
    obtain⟨i,hi,rfl⟩:=List.getElem_of_mem hx
    exact(hxs i hi).2
 | .arr k t,some T,fs,o,hm,n,cs=>by
  refine⟨fun T' e ⟨y,hy⟩=>?_,fun e=>(by cases e)⟩
  cases e
  unfold eU at hm
  split at hm<;>first|(cases hm;done)|skip
  rename_i m e hu
  simp only[Bool.and_eq_true,beq_iff_eq] at hm
  obtain⟨⟨⟨hk,hc⟩,hC⟩,hmt⟩:=hm
  subst hk
  obtain⟨ys,q,_,_,hl,hyl,hys⟩:=DataW.trod_array hu hy
  rw[hC] at hl
  rw[hc] at hys
  obtain⟨xs,hxl,hxs⟩:=XM (Q:=fun i (x:t.den)=>rep (a1K W) W t ((cs.drop (i*t.n)).take t.n) x/\good t x) m (fun i hi=>by
   have h5:=hys i hi
   rw[List.getElem?_eq_getElem (by omega)] at h5
   exact(kZ t (some e) [] 0 hmt q _).1 e rfl ⟨_,h5⟩)
  refine⟨xs,⟨hxl,yC (ce:=t.n) xs cs (by rw[hl,hxl]) (fun i hi=>(hxs i hi).1)⟩,hxl,fun x hx=>?_⟩
  obtain⟨i,hi,rfl⟩:=List.getElem_of_mem hx
  exact(hxs i hi).2
 | .pair a b,some T,fs,o,hm,n,cs=>by
  refine⟨fun T' e ⟨y,hy⟩=>?_,fun e=>(by cases e)⟩
  cases e
  unfold eU at hm
  split at hm<;>first|(cases hm;done)|skip
  rename_i gs hu
  simp only[Bool.and_eq_true,beq_iff_eq] at hm
  obtain⟨hC,hm⟩:=hm
  split at hm<;>first|(cases hm;done)|skip
  rename_i f fs' hgs
  simp only[Bool.and_eq_true,beq_iff_eq] at hm
  obtain⟨⟨⟨ho,hc⟩,hma⟩,hmb⟩:=hm
  obtain⟨ys,q,_,_,hl,hyl,hys⟩:=DataW.trod_struct hu hy
  rw[hC] at hl
  have hget:∀ (i:Nat) (g:Field),gs[i]?=some g->∃ y,DataW.trod enc Tryz.prog W 0 (fun _=>true) true q g.type ((cs.drop g.offset).take (Tryz.prog.cellsOf g.type))=some y:=fun i g hg=>by
   have hi:i<gs.size:=(Array.getElem?_eq_some_iff.1 hg).1
   have:=hys i g hg
   rw[List.getElem?_eq_getElem (by omega)] at this
   exact⟨_,this⟩
  have h0:=hget 0 f (by rw[<-Array.getElem?_toList,hgs];rfl)
  rw[ho,hc,List.drop_zero] at h0
  obtain⟨x,hx,gx⟩:=(kZ a (some f.type) [] 0 hma q _).1 _ rfl h0
  obtain⟨z,hz,gz⟩:=(kZ b none fs' a.n hmb q cs).2 rfl hl (fun g hg=>by
   obtain⟨i,hi⟩:=List.getElem?_of_mem hg
   exact hget (i+1) g (by rw[<-Array.getElem?_toList,hgs];exact hi))
  exact⟨(x,z),⟨_,_,(List.take_append_drop a.n cs).symm,hx,hz⟩,gx,gz⟩
 | .pair a b,none,[],o,hm,n,cs=>by simp[eU] at hm
 | .pair a b,none,f::fs',o,hm,n,cs=>by
  refine⟨fun T' e=>(by cases e),fun _ hl hg=>?_⟩
  unfold eU at hm
  simp only[Bool.and_eq_true,beq_iff_eq] at hm
  obtain⟨⟨⟨ho,hc⟩,hma⟩,hmb⟩:=hm
  have h0:=hg f (List.mem_cons_self ..)
  rw[ho,hc] at h0
  obtain⟨x,hx,gx⟩:=(kZ a (some f.type) [] 0 hma n _).1 _ rfl h0
  obtain⟨z,hz,gz⟩:=(kZ b none fs' (o+a.n) hmb n cs).2 rfl (by rw[hl];show o+(a.n+b.n)=_;omega) (fun g hg'=>hg g (List.mem_cons_of_mem _ hg'))
  refine⟨(x,z),⟨(cs.drop o).take a.n,cs.drop (o+a.n),?_,hx,hz⟩,gx,gz⟩
  rw[<-List.drop_drop,List.take_append_drop]
 | .unit,none,[],o,hm,n,cs=>by
  refine⟨fun T' e=>(by cases e),fun _ hl _=>⟨(),?_,trivial⟩⟩
  show cs.drop o=[]
  exact List.drop_eq_nil_of_le (by rw[hl];exact Nat.le_refl _)
 | .unit,none,_::_,o,hm,n,cs=>by simp[eU] at hm
 | .unit,some _,_,_,hm,_,_=>by simp[eU] at hm
 | .bool,none,_,_,hm,_,_=>by simp[eU] at hm
 | .int _,none,_,_,hm,_,_=>by simp[eU] at hm
 | .lf .iH,none,_,_,hm,_,_=>by simp[eU] at hm
 | .lf .rat,_,_,_,hm,_,_=>by simp[eU] at hm
 | .lf .big,_,_,_,hm,_,_=>by simp[eU] at hm
 | .lf .JC,_,_,_,hm,_,_=>by simp[eU] at hm
 | .lf .str,_,_,_,hm,_,_=>by simp[eU] at hm
 | .list _,none,_,_,hm,_,_=>by simp[eU] at hm
 | .arr _ _,none,_,_,hm,_,_=>by simp[eU] at hm
 | .ref _,_,_,_,hm,_,_=>by simp[eU] at hm
 | .clo _ _,_,_,_,hm,_,_=>by simp[eU] at hm
theorem b1x {t:Ty} {T:TypeId} {v:Value} {d:DataW H} {p:List MemPlace} {b0:Nat} (hm:eU t (some T) [] 0=true) (hv:Value.okWide Tryz.prog W .any b0 T v) (h:DataW.Trod enc Tryz.prog W 0 (fun _=>true) true T v d p) :
  ∃ x:t.den,iZ (a1K W) W t v x/\good t x:=by
 obtain⟨n,hn⟩:=h
 obtain⟨x,hx,gx⟩:=(kZ t (some T) [] 0 hm n v.cells.toList).1 T rfl ⟨_,hn⟩
 refine⟨x,⟨v.cells.toList,?_,hx⟩,gx⟩
 cases t with
 | bool =>
  unfold eU at hm
  split at hm<;>first|(cases hm;done)|skip
  rename_i hu
  simp only[Value.okWide,hu,Cell.okWide,Cell.ok] at hv
  split at hv<;>simp_all [Value.cells,Ty.toV,Ty.agg]
 | int k =>
  unfold eU at hm
  split at hm<;>first|(cases hm;done)|skip
  rename_i k' hu
  simp only[Value.okWide,hu,Cell.okWide,Cell.ok] at hv
  split at hv<;>simp_all [Value.cells,Ty.toV,Ty.agg]
 | lf l =>
  cases l<;>try (simp[eU] at hm;done)
  have hT:T=30:=by unfold eU at hm;simpa using hm
  subst hT
  simp only[Value.okWide,Tryz.underlying30] at hv
  obtain⟨cs,rfl,_⟩:=hv
  simp[Ty.toV,Ty.agg,Lf.agg,Value.cells]
 | list t =>
  unfold eU at hm
  split at hm<;>first|(cases hm;done)|skip
  rename_i e hu
  simp only[Value.okWide,hu,Cell.okWide,Cell.ok] at hv
  split at hv<;>simp_all [Value.cells,Ty.toV,Ty.agg]
 | arr k t =>
  unfold eU at hm
  split at hm<;>first|(cases hm;done)|skip
  rename_i m e hu
  simp only[Value.okWide,hu] at hv
  obtain⟨cs,rfl,_⟩:=hv
  simp[Ty.toV,Ty.agg,Value.cells]
 | pair a b =>
  unfold eU at hm
  split at hm<;>first|(cases hm;done)|skip
  rename_i gs hu
  simp only[Value.okWide,hu] at hv
  obtain⟨cs,rfl,_⟩:=hv
  simp[Ty.toV,Ty.agg,Value.cells]
 | _=>simp[eU] at hm
end
set_option maxRecDepth 100000 in
theorem uU {pre:(nest [(.list (.list (.lf .iH)))]).den->Prop} (h:dG Tryz.prog 3 ⟨[(.list (.list (.lf .iH)))],[.bool],pre,fun _=>(true,())⟩) (hp:∀ (x0:Ty.den (.list (.list (.lf .iH)))),good (.list (.list (.lf .iH))) x0->pre (x0,())):Rows.RotationOfMatricesSaid:=by
 have lifted:∀ (os:Os) (started:os.Started) (H:Type) (enc:TypeId × Value->H),ReturnsInHanded {} Tryz.checked os 3 .any (Rows.rotationOfMatricesSpec.pre6 enc Tryz.prog Tryz.f3 Rows.rotationOfMatricesRow.domain false) (Rows.rotationOfMatricesSpec.post enc Tryz.prog Tryz.f3 false true false false):=by
  intro os started H enc
  refine returnsInHanded_of_change (C:=Tryz.checked) own started (by kernel_rfl) Tryz.func3
   (ChangeSpec.witness6 (enc:=enc) (C:=Tryz.checked) false ⟨#[],#[.slice none 0 0],[]⟩ 8 (by kernel_rfl) (by kernel_rfl) (by kernel_rfl) (by kernel_rfl)) ?_
  intro W base args ds gs before hval0 hW hcnd _
  have hval:∀ (j:Nat) t v,Tryz.f3.params[j]?=some t->args[j]?=some v->Value.okWide Tryz.prog W .any base t v:=hval0
  have hW':=hW
  obtain⟨p,q,hA0,hV,rfl,hfz,hnd⟩:=hW
  have hA:DataW.TrodAll enc Tryz.prog W 0 (fun _=>true) true Tryz.f3.params.toList args.toList ds p:=hA0
  rw[Tryz.params3] at hA hval
  obtain⟨v0,vs0,d0,ds0,p0,q0,hargs,rfl,rfl,h0,r0⟩:=trodAll_cons hA
  obtain⟨rfl,rfl,rfl⟩:=trodAll_nil r0
  obtain rfl:args=#[v0]:=by cases args;simp_all
  obtain⟨rfl,rfl⟩:=trodVars_none hV
  obtain⟨x0,k0,g0⟩:=b1x (t:=.list (.list (.lf .iH))) (by kernel_rfl) (hval 0 23 v0 rfl rfl) h0
  have l0:∀ x ∈ p0,x.block<W.heap.size:=fun x hx=>hW'.lt x (by simp[hx])
  refine(h (a1K W) W [v0] (x0,()) (fun q hq=>hq) ⟨_,_,rfl,k0,rfl⟩ (hp x0 g0)).mono fun e W' ⟨v,he,hr,hg⟩=>?_
  subst he
  have hr:iZ _ W' .bool v true:=hr
  rw[b1y hr]
  exact⟨_,rfl,_,_,_,[],_,[],hW',trodAll_cons_mk (shut_bool Tryz.underlying4 _) trodAll_mk0,(trodAll_cons_mk (Below.trod laidOut (by kernel_rfl) (of_decide_eq_true (by kernel_rfl)) h0 hg l0) trodAll_mk0),rfl,hg.frame _,fun h=>by cases h⟩
 exact OpenClaim.holds_of_wide 3 Tryz.f3 rfl rfl rfl rfl rfl rfl rfl ⟨rfl,rfl,rfl,rfl,rfl⟩ rfl rfl rfl rfl rfl (by kernel_rfl) Tryz.func3 (by kernel_rfl)
  (of_decide_eq_true (by kernel_rfl)) (by unfold Func.isWrapper;first|(rw[if_pos (by decide +kernel)];kernel_rfl)|(rw[if_neg (by decide +kernel)];exact⟨rfl,rfl⟩))
  (fun os started H enc _=>lifted os started H enc)
end Go.Proofs.YtidfgdchcpmnfaaGreat
