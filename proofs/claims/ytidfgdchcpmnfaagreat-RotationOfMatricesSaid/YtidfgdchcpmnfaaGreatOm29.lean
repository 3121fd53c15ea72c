/-
  Lemmas for the theorem vofmatrices_holds, part 29 of 32.
-/
import Derived.Test.YtidfgdchcpmnfaaGreatOm10
import Derived.Test.YtidfgdchcpmnfaaGreatOm28
namespace Go.Proofs.YtidfgdchcpmnfaaGreat
open Go Go.RowKit
set_option maxRecDepth 100000
set_option maxHeartbeats 1000000
set_option linter.unusedVariables false
set_option linter.unusedSimpArgs false
theorem qA {q:Int} (h:okc q):bW q:=by
 unfold okc at h
 unfold bW
 omega
theorem TJ:dG Tryz.prog 18 (cHQ (fun _ _ _ _=>True) uM):=by
 refine fF LB2 [2] Tryz.func18 rfl (by decide) (fun x=>[]) (fun x hp=>?_)
 obtain⟨⟨a,b,c,d,v⟩,u⟩:=x
 change Int at a;change Int at b;change Int at c;change Int at d
 refine iO ((True/\True)/\ifB (dO a b c d != 0) (True/\(0,0,0,0,())=Prod.fst (uM a b c d)/\True/\dO a b c d=Prod.fst (Prod.snd (uM a b c d))/\True) ((((bW a/\bW b/\bW c/\bW d)/\¬(a=0/\b=0/\c=0/\d=0))/\True)/\True/\(Prod.fst (Prod.fst (aX (xs4 a b c d))),Prod.fst (Prod.snd (Prod.fst (aX (xs4 a b c d)))),Prod.fst (Prod.snd (Prod.snd (Prod.fst (aX (xs4 a b c d))))),Prod.fst (Prod.snd (Prod.snd (Prod.snd (Prod.fst (aX (xs4 a b c d)))))),())=Prod.fst (uM a b c d)/\True/\Prod.fst (Prod.snd (aX (xs4 a b c d)))=Prod.fst (Prod.snd (uM a b c d))/\True)) (by kernel_rfl) ?_
 refine⟨⟨trivial,trivial⟩,gU.2 ⟨fun h=>?_,fun h=>?_⟩⟩
 ·have h:=bne_iff_ne.1 h
  have e:uM a b c d=((0,0,0,0,()),dO a b c d,()):=if_neg h
  rw[e]
  exact⟨trivial,rfl,trivial,rfl,trivial⟩
 ·have h:dO a b c d=0:=by simpa using h
  obtain⟨hn,oa,ob,oc,od⟩:=sJ h
  have e:uM a b c d=aX (xs4 a b c d):=if_pos h
  rw[e]
  exact⟨⟨⟨⟨qA oa,qA ob,qA oc,qA od⟩,hn⟩,trivial⟩,trivial,rfl,trivial,rfl,trivial⟩
theorem a7k:dG Tryz.prog 33 (cHQ (fun _ _ _ _=>True) JR):=by
 refine fF LB2 [2] Tryz.func33 rfl (by decide) (fun x=>[]) (fun x hp=>?_)
 obtain⟨⟨a,b,c,d,v⟩,u⟩:=x
 change Int at a;change Int at b;change Int at c;change Int at d
 refine iO ((True/\True)/\ifB (dO a b c d != 0) (True/\(0,0,0,0,())=Prod.fst (JR a b c d)/\True/\dO a b c d=Prod.fst (Prod.snd (JR a b c d))/\True) ((((bW a/\bW (IntKind.wrap IntKind.i64 (0-b))/\bW (IntKind.wrap IntKind.i64 (0-c))/\bW (IntKind.wrap IntKind.i64 (0-d)))/\¬(a=0/\IntKind.wrap IntKind.i64 (0-b)=0/\IntKind.wrap IntKind.i64 (0-c)=0/\IntKind.wrap IntKind.i64 (0-d)=0))/\True)/\True/\(Prod.fst (Prod.fst (aX (xs4 a (IntKind.wrap IntKind.i64 (0-b)) (IntKind.wrap IntKind.i64 (0-c)) (IntKind.wrap IntKind.i64 (0-d))))),Prod.fst (Prod.snd (Prod.fst (aX (xs4 a (IntKind.wrap IntKind.i64 (0-b)) (IntKind.wrap IntKind.i64 (0-c)) (IntKind.wrap IntKind.i64 (0-d)))))),Prod.fst (Prod.snd (Prod.snd (Prod.fst (aX (xs4 a (IntKind.wrap IntKind.i64 (0-b)) (IntKind.wrap IntKind.i64 (0-c)) (IntKind.wrap IntKind.i64 (0-d))))))),Prod.fst (Prod.snd (Prod.snd (Prod.snd (Prod.fst (aX (xs4 a (IntKind.wrap IntKind.i64 (0-b)) (IntKind.wrap IntKind.i64 (0-c)) (IntKind.wrap IntKind.i64 (0-d)))))))),())=Prod.fst (JR a b c d)/\True/\Prod.fst (Prod.snd (aX (xs4 a (IntKind.wrap IntKind.i64 (0-b)) (IntKind.wrap IntKind.i64 (0-c)) (IntKind.wrap IntKind.i64 (0-d)))))=Prod.fst (Prod.snd (JR a b c d))/\True)) (by kernel_rfl) ?_
 refine⟨⟨trivial,trivial⟩,gU.2 ⟨fun h=>?_,fun h=>?_⟩⟩
 ·have h:=bne_iff_ne.1 h
  have e:JR a b c d=((0,0,0,0,()),dO a b c d,()):=if_neg h
  rw[e]
  exact⟨trivial,rfl,trivial,rfl,trivial⟩
 ·have h:dO a b c d=0:=by simpa using h
  obtain⟨hn,oa,ob,oc,od⟩:=sJ h
  have eb:IntKind.wrap IntKind.i64 (0-b)=-b:=by unfold okc at ob;rw[dV (by omega) (by omega)];omega
  have nb:okc (-b):=by unfold okc at *;omega
  have ec:IntKind.wrap IntKind.i64 (0-c)=-c:=by unfold okc at oc;rw[dV (by omega) (by omega)];omega
  have nc:okc (-c):=by unfold okc at *;omega
  have ed:IntKind.wrap IntKind.i64 (0-d)=-d:=by unfold okc at od;rw[dV (by omega) (by omega)];omega
  have nd:okc (-d):=by unfold okc at *;omega
  rw[eb,ec,ed]
  have e:JR a b c d=aX (xs4 a (-b) (-c) (-d)):=if_pos h
  rw[e]
  exact⟨⟨⟨⟨qA oa,qA nb,qA nc,qA nd⟩,fun h=>hn ⟨h.1,by omega,by omega,by omega⟩⟩,trivial⟩,trivial,rfl,trivial,rfl,trivial⟩
abbrev Q4:Type:=Int × Int × Int × Int × Unit
def qc (q:Q4):Int:=dO q.1 q.2.1 q.2.2.1 q.2.2.2.1
def oL (l:List Q4):Int:=match l with
 | []=>0
 | q::l=>if qc q=0 then oL l else qc q
def b1z:Ctr:=⟨[.list nS],[tI],fun x=>(show List Q4 from x.1).length<=1000000000,fun x=>(oL x.1,())⟩
abbrev b1s (l:List Q4):Type:={i:Nat // i<=l.length/\oL l=oL (l.drop i)}
theorem ZL:dG Tryz.prog 68 b1z:=by
 refine fF LB2 [4] Tryz.func68 rfl (by decide) (fun x=>[.inv (b1s x.1) (fun i=>[(8,.val tI (i.1:Int))]) (fun i=>[]) (fun i=>(show List Q4 from x.1).length-i.1) ⟨0,Nat.zero_le _,rfl⟩ (fun _=>[])]) (fun x hp=>?_)
 obtain⟨x,u⟩:=x
 change List Q4 at x
 refine iO ((asT Int 0=0/\True)/\∀ (i:b1s x),asT Bool true=true/\ifB (decide (aB (aA i)<aB (List.length x))) ((0<=aB (aA i)/\aB (aA i)<aB (List.length x)/\True)/\(True/\True)/\ifB (dO (Prod.fst (List.getD x (Int.toNat (aB (aA i))) (0,0,0,0,PUnit.unit))) (Prod.fst (Prod.snd (List.getD x (Int.toNat (aB (aA i))) (0,0,0,0,PUnit.unit)))) (Prod.fst (Prod.snd (Prod.snd (List.getD x (Int.toNat (aB (aA i))) (0,0,0,0,PUnit.unit))))) (Prod.fst (Prod.snd (Prod.snd (Prod.snd (List.getD x (Int.toNat (aB (aA i))) (0,0,0,0,PUnit.unit)))))) != 0) (True/\dO (Prod.fst (List.getD x (Int.toNat (aB (aA i))) (0,0,0,0,PUnit.unit))) (Prod.fst (Prod.snd (List.getD x (Int.toNat (aB (aA i))) (0,0,0,0,PUnit.unit)))) (Prod.fst (Prod.snd (Prod.snd (List.getD x (Int.toNat (aB (aA i))) (0,0,0,0,PUnit.unit))))) (Prod.fst (Prod.snd (Prod.snd (Prod.snd (List.getD x (Int.toNat (aB (aA i))) (0,0,0,0,PUnit.unit))))))=oL x/\True) (∃ (i':b1s x),List.length x-aA i'<List.length x-aA i/\IntKind.wrap IntKind.i64 (aB (aA i)+1)=aB (aA i')/\True)) (True/\0=oL x/\True)) (by kernel_rfl) ?_
 dsimp only[aB,aA,asT] at *
 have step:∀ i:Nat,i<x.length->oL (x.drop i)=if qc (x.getD i (0,0,0,0,()))=0 then oL (x.drop (i+1)) else qc (x.getD i (0,0,0,0,())):=fun i hi=>by
  rw[List.drop_eq_getElem_cons hi,List.getD_eq_getElem?_getD,List.getElem?_eq_getElem hi]
  rfl
 refine⟨⟨rfl,trivial⟩,fun i=>⟨rfl,gU.2 ⟨fun h1=>?_,fun h1=>⟨trivial,?_,trivial⟩⟩⟩⟩
 all_goals
  obtain⟨i,h2,h3⟩:=i
  dsimp only at h1 ⊢
  simp only[decide_eq_true_eq,decide_eq_false_iff_not,Int.ofNat_lt] at h1
 ·have st:=step i h1
  rw[Int.toNat_natCast]
  refine⟨⟨by omega,by omega,trivial⟩,⟨trivial,trivial⟩,gU.2 ⟨fun h4=>⟨trivial,?_,trivial⟩,fun h4=>⟨⟨i+1,h1,?_⟩,by simp only;omega,?_,trivial⟩⟩⟩
  ·have h4:=bne_iff_ne.1 h4
   rw[h3,st]
   exact(if_neg h4).symm
  ·have h4:=bne_eq_false_iff_eq.1 h4
   rw[h3,st]
   exact if_pos h4
  ·rw[dV (by omega) (by have:=hp;dsimp only[b1z] at this;omega)];rfl
 ·rw[h3,List.drop_eq_nil_of_le (by omega)];rfl
noncomputable def LC1:Lib:=((LB2.add 18 (cHQ (fun _ _ _ _=>True) uM) TJ).add 33 (cHQ (fun _ _ _ _=>True) JR) a7k).add 68 b1z ZL
theorem a7r (a b c d e f g h:Int) (v z:Unit):oL [(a,b,c,d,v),(e,f,g,h,z)]=nO a b c d e f g h:=by
 show (if dO a b c d=0 then (if dO e f g h=0 then 0 else dO e f g h) else dO a b c d)=if dO a b c d=0 then dO e f g h else dO a b c d
 by_cases h1:dO a b c d=0
 ·rw[if_pos h1,if_pos h1]
  by_cases h2:dO e f g h=0
  ·rw[if_pos h2,h2]
  ·rw[if_neg h2]
 ·rw[if_neg h1,if_neg h1]
theorem a0M:dG Tryz.prog 26 (b1A SK):=by
 refine fF LC1 [4] Tryz.func26 rfl (by decide) (fun x=>[]) (fun x hp=>?_)
 obtain⟨⟨a,b,c,d,v⟩,⟨e,f,g,h,z⟩,u⟩:=x
 change Int at a;change Int at b;change Int at c;change Int at d;change Int at e;change Int at f;change Int at g;change Int at h
 change Unit at v;change Unit at z
 refine iO (let x0z:=(aX (xs4 (IntKind.wrap IntKind.i64 (IntKind.wrap IntKind.i64 (IntKind.wrap IntKind.i64 (IntKind.wrap IntKind.i64 (a*e)-IntKind.wrap IntKind.i64 (b*f))-IntKind.wrap IntKind.i64 (c*g))-IntKind.wrap IntKind.i64 (d*h))) (IntKind.wrap IntKind.i64 (IntKind.wrap IntKind.i64 (IntKind.wrap IntKind.i64 (IntKind.wrap IntKind.i64 (a*f)+IntKind.wrap IntKind.i64 (b*e))+IntKind.wrap IntKind.i64 (c*h))-IntKind.wrap IntKind.i64 (d*g))) (IntKind.wrap IntKind.i64 (IntKind.wrap IntKind.i64 (IntKind.wrap IntKind.i64 (IntKind.wrap IntKind.i64 (a*g)-IntKind.wrap IntKind.i64 (b*h))+IntKind.wrap IntKind.i64 (c*e))+IntKind.wrap IntKind.i64 (d*f))) (IntKind.wrap IntKind.i64 (IntKind.wrap IntKind.i64 (IntKind.wrap IntKind.i64 (IntKind.wrap IntKind.i64 (a*h)+IntKind.wrap IntKind.i64 (b*g))-IntKind.wrap IntKind.i64 (c*f))+IntKind.wrap IntKind.i64 (d*e)))));(List.length ((a,b,c,d,v)::(e,f,g,h,z)::aH (Int × Int × Int × Int × PUnit))<=1000000000/\True)/\ifB (oL ((a,b,c,d,v)::(e,f,g,h,z)::aH (Int × Int × Int × Int × PUnit)) != 0) (True/\(0,0,0,0,())=Prod.fst (SK a b c d e f g h)/\True/\oL ((a,b,c,d,v)::(e,f,g,h,z)::aH (Int × Int × Int × Int × PUnit))=Prod.fst (Prod.snd (SK a b c d e f g h))/\True) ((((bW (IntKind.wrap IntKind.i64 (IntKind.wrap IntKind.i64 (IntKind.wrap IntKind.i64 (IntKind.wrap IntKind.i64 (a*e)-IntKind.wrap IntKind.i64 (b*f))-IntKind.wrap IntKind.i64 (c*g))-IntKind.wrap IntKind.i64 (d*h)))/\bW (IntKind.wrap IntKind.i64 (IntKind.wrap IntKind.i64 (IntKind.wrap IntKind.i64 (IntKind.wrap IntKind.i64 (a*f)+IntKind.wrap IntKind.i64 (b*e))+IntKind.wrap IntKind.i64 (c*h))-IntKind.wrap IntKind.i64 (d*g)))/\bW (IntKind.wrap IntKind.i64 (IntKind.wrap IntKind.i64 (IntKind.wrap IntKind.i64 (IntKind.wrap IntKind.i64 (a*g)-IntKind.wrap IntKind.i64 (b*h))+IntKind.wrap IntKind.i64 (c*e))+IntKind.wrap IntKind.i64 (d*f)))/\bW (IntKind.wrap IntKind.i64 (IntKind.wrap IntKind.i64 (IntKind.wrap IntKind.i64 (IntKind.wrap IntKind.i64 (a*h)+IntKind.wrap IntKind.i64 (b*g))-IntKind.wrap IntKind.i64 (c*f))+IntKind.wrap IntKind.i64 (d*e))))/\¬(IntKind.wrap IntKind.i64 (IntKind.wrap IntKind.i64 (IntKind.wrap IntKind.i64 (IntKind.wrap IntKind.i64 (a*e)-IntKind.wrap IntKind.i64 (b*f))-IntKind.wrap IntKind.i64 (c*g))-IntKind.wrap IntKind.i64 (d*h))=0/\IntKind.wrap IntKind.i64 (IntKind.wrap IntKind.i64 (IntKind.wrap IntKind.i64 (IntKind.wrap IntKind.i64 (a*f)+IntKind.wrap IntKind.i64 (b*e))+IntKind.wrap IntKind.i64 (c*h))-IntKind.wrap IntKind.i64 (d*g))=0/\IntKind.wrap IntKind.i64 (IntKind.wrap IntKind.i64 (IntKind.wrap IntKind.i64 (IntKind.wrap IntKind.i64 (a*g)-IntKind.wrap IntKind.i64 (b*h))+IntKind.wrap IntKind.i64 (c*e))+IntKind.wrap IntKind.i64 (d*f))=0/\IntKind.wrap IntKind.i64 (IntKind.wrap IntKind.i64 (IntKind.wrap IntKind.i64 (IntKind.wrap IntKind.i64 (a*h)+IntKind.wrap IntKind.i64 (b*g))-IntKind.wrap IntKind.i64 (c*f))+IntKind.wrap IntKind.i64 (d*e))=0))/\True)/\True/\(Prod.fst (Prod.fst x0z),Prod.fst (Prod.snd (Prod.fst x0z)),Prod.fst (Prod.snd (Prod.snd (Prod.fst x0z))),Prod.fst (Prod.snd (Prod.snd (Prod.snd (Prod.fst x0z)))),())=Prod.fst (SK a b c d e f g h)/\True/\Prod.fst (Prod.snd x0z)=Prod.fst (Prod.snd (SK a b c d e f g h))/\True)) (by kernel_rfl) ?_
 dsimp only[aH] at *
 have hf:=a7r a b c d e f g h v z
 rw[hf]
 refine⟨⟨by show 2<=1000000000;omega,trivial⟩,gU.2 ⟨fun k=>?_,fun k=>?_⟩⟩
 ·have k:=bne_iff_ne.1 k
  have ee:SK a b c d e f g h=((0,0,0,0,()),nO a b c d e f g h,()):=if_neg k
  rw[ee]
  exact⟨trivial,rfl,trivial,rfl,trivial⟩
 ·have k:nO a b c d e f g h=0:=by simpa using k
  have k1:dO a b c d=0:=by
   by_cases h1:dO a b c d=0
   ·exact h1
   ·rw[nO,if_neg h1] at k;exact k
  have k2:dO e f g h=0:=by rwa [nO,if_pos k1] at k
  obtain⟨hn,oa,ob,oc,od⟩:=sJ k1
  obtain⟨hm,oe,of,og,oh⟩:=sJ k2
  obtain⟨b8J,b8K⟩:=bP oa oe
  obtain⟨b9y,b9z⟩:=bP oa of
  obtain⟨b9A,b9B⟩:=bP oa og
  obtain⟨b9C,b9D⟩:=bP oa oh
  obtain⟨b9E,b9F⟩:=bP ob oe
  obtain⟨b8L,b8M⟩:=bP ob of
  obtain⟨b9G,b9H⟩:=bP ob og
  obtain⟨b9I,b9J⟩:=bP ob oh
  obtain⟨b9K,b9L⟩:=bP oc oe
  obtain⟨b9M,b9N⟩:=bP oc of
  obtain⟨b8N,b8O⟩:=bP oc og
  obtain⟨b9O,b9P⟩:=bP oc oh
  obtain⟨b9Q,b9R⟩:=bP od oe
  obtain⟨b9S,b9T⟩:=bP od of
  obtain⟨b9U,b9V⟩:=bP od og
  obtain⟨b8P,b8Q⟩:=bP od oh
  have ee:SK a b c d e f g h=aX (b1m a b c d e f g h):=if_pos k
  rw[ee]
  simp(disch:=omega) only[dV]
  refine⟨⟨⟨⟨⟨by omega,by omega⟩,⟨by omega,by omega⟩,⟨by omega,by omega⟩,⟨by omega,by omega⟩⟩,b0w hn hm⟩,trivial⟩,trivial,rfl,trivial,rfl,trivial⟩
noncomputable def LC2:Lib:=LC1.add 26 (b1A SK) a0M
def qL (l:List Rat) (k:Nat):Rat:=l.getD k 0
theorem XR {q:Nat->Rat} {j:Nat} (hj:j<4) (h:sgn (q j).num≠0):true=nzB q:=by
 symm
 unfold nzB
 rw[Bool.not_eq_true',<-Bool.not_eq_true]
 intro e
 have:=gJ.1 e j hj
 rw[decide_eq_true_eq] at this
 rw[this] at h
 exact h rfl
theorem b6S {q:Nat->Rat} (h:∀ j,j<4->sgn (q j).num=0):false=nzB q:=by
 symm
 unfold nzB
 rw[Bool.not_eq_false']
 refine gJ.2 (fun j hj=>?_)
 rw[decide_eq_true_eq]
 exact Rat.num_eq_zero.1 (jZ.1 (h j hj))
def cNz:Ctr:=⟨[.arr 4 tQ],[tB],fun x=>(show List Rat from x.1).length=4/\∀ j,j<4->rsz (qL x.1 j)<=400000000,fun x=>(nzB (qL x.1),())⟩
noncomputable def LD0:Lib:=LC2.add 109 (cQI (fun x=>rsz x<=1000000000) (fun x=>sgn x.num)) (a6Y fun v x w h hl=>lQ v x w h hl)
theorem a0F:dG Tryz.prog 57 cNz:=by
 refine fF LD0 [4] Tryz.func57 rfl (by decide) (fun x=>[.turns 5 [6] [] []]) (fun x hp=>?_)
 obtain⟨x,u⟩:=x
 change List Rat at x
 refine iO ((asT Int 0<=0/\asT Int 0<4/\True)/\(rsz (List.getD x 0 0)<=1000000000/\True)/\ifB (sgn (Rat.num (List.getD x 0 0)) != 0) (True/\true=nzB (qL x)/\True) (True/\asT Bool true=true/\(asT Int 0<=1/\asT Int 1<4/\True)/\(rsz (List.getD x 1 0)<=1000000000/\True)/\ifB (sgn (Rat.num (List.getD x 1 0)) != 0) (True/\true=nzB (qL x)/\True) (True/\asT Bool true=true/\(asT Int 0<=2/\asT Int 2<4/\True)/\(rsz (List.getD x 2 0)<=1000000000/\True)/\ifB (sgn (Rat.num (List.getD x 2 0)) != 0) (True/\true=nzB (qL x)/\True) (True/\asT Bool true=true/\(asT Int 0<=3/\asT Int 3<4/\True)/\(rsz (List.getD x 3 0)<=1000000000/\True)/\ifB (sgn (Rat.num (List.getD x 3 0)) != 0) (True/\true=nzB (qL x)/\True) (True/\asT Bool true=true/\True/\false=nzB (qL x)/\True))))) (by kernel_rfl) ?_
 obtain⟨hl,hb⟩:=hp
 dsimp only[aB,asT] at *
 have hx:∀ j,x.getD j 0=qL x j:=fun _=>rfl
 simp only[hx]
 generalize qL x=q at *
 have r:∀ j,j<4->rsz (q j)<=1000000000:=fun j hj=>Nat.le_trans (hb j hj) (by omega)
 simp only[gU,bne_iff_ne,bne_eq_false_iff_eq,ne_eq,true_and,and_true]
 exact⟨⟨by omega,by omega⟩,r 0 (by omega),fun h=>XR (j:=0) (by omega) h,fun h0=>⟨⟨by omega,by omega⟩,r 1 (by omega),fun h=>XR (j:=1) (by omega) h,fun h1=>⟨⟨by omega,by omega⟩,r 2 (by omega),fun h=>XR (j:=2) (by omega) h,fun h2=>⟨⟨by omega,by omega⟩,r 3 (by omega),fun h=>XR (j:=3) (by omega) h,fun h3=>b6S (fun j hj=>by
  match j,hj with
  | 0,_=>exact h0
  | 1,_=>exact h1
  | 2,_=>exact h2
  | 3,_=>exact h3)⟩⟩⟩⟩
def b5V:Ctr:=⟨[.arr 4 tQ],[nS,tI],fun x=>(show List Rat from x.1).length=4/\(∀ j,j<4->rsz (qL x.1 j)<=50000000)/\∃ j,j<4/\qL x.1 j≠0,fun x=>aX (aV (qL x.1))⟩
theorem ZN:dG Tryz.prog 58 b5V:=by
 refine fF LD0 [2,4,6,7,9,10,11] Tryz.func58 rfl (by decide) (fun x=>[.inv Le4 (fun k=>[(15,.val tI (k.1:Int))]) (fun k=>[(2,.box [⟨tI,(0:Int)⟩,⟨tI,(0:Int)⟩,⟨tI,(0:Int)⟩,⟨tI,(0:Int)⟩]),(4,.box [⟨tZ,dM (qL x.1) k.1⟩])]) (fun k=>4-k.1) ⟨0,by omega⟩ (fun _=>[]),.turns 5 [24] [2,4,7] []]) (fun x hp=>?_)
 obtain⟨x,u⟩:=x
 change List Rat at x
 refine iO (let x0z:=(aB (Rat.den (List.getD x 0 0)));let x1z:=(aB (Rat.den (List.getD x 1 0)));let x2z:=(aB (Rat.den (List.getD x 2 0)));let x3z:=(aB (Rat.den (List.getD x 3 0)));let x4z:=(List.getD x 0 0);let x5z:=(List.getD x 1 0);let x6z:=(List.getD x 2 0);(bW 1/\True)/\(asT Int 0=0/\asT Int 0=0/\asT Int 0=0/\asT Int 0=0/\asT Int 0=0/\1=dM (qL x) 0/\True)/\∀ (i:Le4),asT Bool true=true/\ifB (decide (aB (aA i)<4)) ((0<=aB (aA i)/\aB (aA i)<4/\True)/\((isz (dM (qL x) (aA i))<=1000000000/\isz (aB (Rat.den (List.getD x (Int.toNat (aB (aA i))) 0)))<=1000000000)/\True)/\∃ (i':Le4),4-aA i'<4-aA i/\IntKind.wrap IntKind.i64 (aB (aA i)+1)=aB (aA i')/\asT Int 0=0/\asT Int 0=0/\asT Int 0=0/\asT Int 0=0/\dM (qL x) (aA i)*aB (Rat.den (List.getD x (Int.toNat (aB (aA i))) 0))=dM (qL x) (aA i')/\True) ((asT Int 0<=0/\asT Int 0<4/\True)/\((isz (dM (qL x) (aA i))<=1000000000/\isz x0z<=1000000000/\aB (Rat.den x4z)≠0)/\True)/\((isz (Rat.num x4z)<=1000000000/\isz (Int.fdiv (dM (qL x) (aA i)) x0z)<=1000000000)/\True)/\(asT Int 0=0/\asT Int 0=0/\asT Int 0=0/\asT Int 0=0/\dM (qL x) (aA i)=dM (qL x) (aA i)/\Rat.num x4z*Int.fdiv (dM (qL x) (aA i)) x0z=Rat.num x4z*Int.fdiv (dM (qL x) (aA i)) x0z/\asT Int 0=0/\asT Int 0=0/\asT Int 0=0/\True)/\asT Bool true=true/\(asT Int 0<=1/\asT Int 1<4/\True)/\((isz (dM (qL x) (aA i))<=1000000000/\isz x1z<=1000000000/\aB (Rat.den x5z)≠0)/\True)/\((isz (Rat.num x5z)<=1000000000/\isz (Int.fdiv (dM (qL x) (aA i)) x1z)<=1000000000)/\True)/\(asT Int 0=0/\asT Int 0=0/\asT Int 0=0/\asT Int 0=0/\dM (qL x) (aA i)=dM (qL x) (aA i)/\Rat.num x4z*Int.fdiv (dM (qL x) (aA i)) x0z=Rat.num x4z*Int.fdiv (dM (qL x) (aA i)) x0z/\Rat.num x5z*Int.fdiv (dM (qL x) (aA i)) x1z=Rat.num x5z*Int.fdiv (dM (qL x) (aA i)) x1z/\asT Int 0=0/\asT Int 0=0/\True)/\asT Bool true=true/\(asT Int 0<=2/\asT Int 2<4/\True)/\((isz (dM (qL x) (aA i))<=1000000000/\isz x2z<=1000000000/\aB (Rat.den x6z)≠0)/\True)/\((isz (Rat.num x6z)<=1000000000/\isz (Int.fdiv (dM (qL x) (aA i)) x2z)<=1000000000)/\True)/\(asT Int 0=0/\asT Int 0=0/\asT Int 0=0/\asT Int 0=0/\dM (qL x) (aA i)=dM (qL x) (aA i)/\Rat.num x4z*Int.fdiv (dM (qL x) (aA i)) x0z=Rat.num x4z*Int.fdiv (dM (qL x) (aA i)) x0z/\Rat.num x5z*Int.fdiv (dM (qL x) (aA i)) x1z=Rat.num x5z*Int.fdiv (dM (qL x) (aA i)) x1z/\Rat.num x6z*Int.fdiv (dM (qL x) (aA i)) x2z=Rat.num x6z*Int.fdiv (dM (qL x) (aA i)) x2z/\asT Int 0=0/\True)/\asT Bool true=true/\(asT Int 0<=3/\asT Int 3<4/\True)/\((isz (dM (qL x) (aA i))<=1000000000/\isz x3z<=1000000000/\aB (Rat.den (List.getD x 3 0))≠0)/\True)/\((isz (Rat.num (List.getD x 3 0))<=1000000000/\isz (Int.fdiv (dM (qL x) (aA i)) x3z)<=1000000000)/\True)/\(asT Int 0=0/\asT Int 0=0/\asT Int 0=0/\asT Int 0=0/\dM (qL x) (aA i)=dM (qL x) (aA i)/\Rat.num x4z*Int.fdiv (dM (qL x) (aA i)) x0z=Rat.num x4z*Int.fdiv (dM (qL x) (aA i)) x0z/\Rat.num x5z*Int.fdiv (dM (qL x) (aA i)) x1z=Rat.num x5z*Int.fdiv (dM (qL x) (aA i)) x1z/\Rat.num x6z*Int.fdiv (dM (qL x) (aA i)) x2z=Rat.num x6z*Int.fdiv (dM (qL x) (aA i)) x2z/\Rat.num (List.getD x 3 0)*Int.fdiv (dM (qL x) (aA i)) x3z=Rat.num (List.getD x 3 0)*Int.fdiv (dM (qL x) (aA i)) x3z/\True)/\asT Bool true=true/\((List.length (Rat.num x4z*Int.fdiv (dM (qL x) (aA i)) x0z::Rat.num x5z*Int.fdiv (dM (qL x) (aA i)) x1z::Rat.num x6z*Int.fdiv (dM (qL x) (aA i)) x2z::Rat.num (List.getD x 3 0)*Int.fdiv (dM (qL x) (aA i)) x3z::aH Int)=4/\(∀ (j:Nat),j<4->isz (xsL (Rat.num x4z*Int.fdiv (dM (qL x) (aA i)) x0z::Rat.num x5z*Int.fdiv (dM (qL x) (aA i)) x1z::Rat.num x6z*Int.fdiv (dM (qL x) (aA i)) x2z::Rat.num (List.getD x 3 0)*Int.fdiv (dM (qL x) (aA i)) x3z::aH Int) j)<=400000000)/\∃ (j:Nat),j<4/\xsL (Rat.num x4z*Int.fdiv (dM (qL x) (aA i)) x0z::Rat.num x5z*Int.fdiv (dM (qL x) (aA i)) x1z::Rat.num x6z*Int.fdiv (dM (qL x) (aA i)) x2z::Rat.num (List.getD x 3 0)*Int.fdiv (dM (qL x) (aA i)) x3z::aH Int) j≠0)/\True)/\True/\(Prod.fst (Prod.fst (aX (xsL (Rat.num x4z*Int.fdiv (dM (qL x) (aA i)) x0z::Rat.num x5z*Int.fdiv (dM (qL x) (aA i)) x1z::Rat.num x6z*Int.fdiv (dM (qL x) (aA i)) x2z::Rat.num (List.getD x 3 0)*Int.fdiv (dM (qL x) (aA i)) x3z::aH Int)))),Prod.fst (Prod.snd (Prod.fst (aX (xsL (Rat.num x4z*Int.fdiv (dM (qL x) (aA i)) x0z::Rat.num x5z*Int.fdiv (dM (qL x) (aA i)) x1z::Rat.num x6z*Int.fdiv (dM (qL x) (aA i)) x2z::Rat.num (List.getD x 3 0)*Int.fdiv (dM (qL x) (aA i)) x3z::aH Int))))),Prod.fst (Prod.snd (Prod.snd (Prod.fst (aX (xsL (Rat.num x4z*Int.fdiv (dM (qL x) (aA i)) x0z::Rat.num x5z*Int.fdiv (dM (qL x) (aA i)) x1z::Rat.num x6z*Int.fdiv (dM (qL x) (aA i)) x2z::Rat.num (List.getD x 3 0)*Int.fdiv (dM (qL x) (aA i)) x3z::aH Int)))))),Prod.fst (Prod.snd (Prod.snd (Prod.snd (Prod.fst (aX (xsL (Rat.num x4z*Int.fdiv (dM (qL x) (aA i)) x0z::Rat.num x5z*Int.fdiv (dM (qL x) (aA i)) x1z::Rat.num x6z*Int.fdiv (dM (qL x) (aA i)) x2z::Rat.num (List.getD x 3 0)*Int.fdiv (dM (qL x) (aA i)) x3z::aH Int))))))),())=Prod.fst (aX (aV (qL x)))/\True/\Prod.fst (Prod.snd (aX (xsL (Rat.num x4z*Int.fdiv (dM (qL x) (aA i)) x0z::Rat.num x5z*Int.fdiv (dM (qL x) (aA i)) x1z::Rat.num x6z*Int.fdiv (dM (qL x) (aA i)) x2z::Rat.num (List.getD x 3 0)*Int.fdiv (dM (qL x) (aA i)) x3z::aH Int))))=Prod.fst (Prod.snd (aX (aV (qL x))))/\True)) (by kernel_rfl) ?_
 obtain⟨hl,hb,hn⟩:=hp
 dsimp only[aB,asT,aA] at *
 have hx:∀ j,x.getD j 0=qL x j:=fun _=>rfl
 simp only[hx,Int.toNat_natCast]
 generalize qL x=q at *
 simp only[gU,decide_eq_true_eq,decide_eq_false_iff_not,true_and,and_true,ne_eq]
 have d:∀ k,k<=4->isz (dM q k)<=1000000000:=fun k hk=>Nat.le_trans (NK hb k hk) (by omega)
 have r:∀ j,j<4->isz ((q j).den:Int)<=1000000000:=fun j hj=>Nat.le_trans (cO (q j)) (Nat.le_trans (hb j hj) (by omega))
 have n:∀ j,j<4->isz (q j).num<=1000000000:=fun j hj=>Nat.le_trans (dL (q j)) (Nat.le_trans (hb j hj) (by omega))
 have z:∀ j,¬ ((q j).den:Int)=0:=fun j=>by have:=(q j).den_nz;omega
 have f:∀ j,j<4->isz ((dM q 4).fdiv ((q j).den:Int))<=1000000000:=fun j hj=>Nat.le_trans (qU (z j) (wC q hj)) (d 4 (by omega))
 refine⟨⟨by omega,by omega⟩,(by and_intros<;>rfl),fun i=>⟨fun h1=>?_,fun h1=>?_⟩⟩
 ·have hi:=i.2
  refine⟨⟨by omega,by omega⟩,⟨d _ hi,r _ (by omega)⟩,⟨i.1+1,by omega⟩,by simp only;omega,?_,rfl⟩
  rw[dV (by omega) (by omega)];rfl
 ·have hi:=i.2
  have hi:i.1=4:=by omega
  rw[hi]
  dsimp only[aH]
  have hX:∀ k,k<4->xsL [(q 0).num*(dM q 4).fdiv ((q 0).den:Int),(q 1).num*(dM q 4).fdiv ((q 1).den:Int),(q 2).num*(dM q 4).fdiv ((q 2).den:Int),(q 3).num*(dM q 4).fdiv ((q 3).den:Int)] k=aV q k:=fun k hk=>by
   match k,hk with
   | 0,_=>rfl
   | 1,_=>rfl
   | 2,_=>rfl
   | 3,_=>rfl
  rw[qB hX]
  refine⟨⟨by omega,by omega⟩,⟨d 4 (by omega),r 0 (by omega),z 0⟩,⟨n 0 (by omega),f 0 (by omega)⟩,⟨by omega,by omega⟩,⟨d 4 (by omega),r 1 (by omega),z 1⟩,⟨n 1 (by omega),f 1 (by omega)⟩,⟨by omega,by omega⟩,⟨d 4 (by omega),r 2 (by omega),z 2⟩,⟨n 2 (by omega),f 2 (by omega)⟩,⟨by omega,by omega⟩,⟨d 4 (by omega),r 3 (by omega),z 3⟩,⟨n 3 (by omega),f 3 (by omega)⟩,⟨rfl,fun j hj=>?_,?_⟩,?_⟩
  ·rw[hX j hj]
   exact Nat.le_trans (JL hb hj) (by omega)
  ·obtain⟨j,hj,h⟩:=hn
   exact⟨j,hj,by rw[hX j hj];exact NC hj h⟩
  ·first|trivial|exact⟨rfl,rfl⟩|rfl
noncomputable def LD1:Lib:=(LD0.add 57 cNz a0F).add 58 b5V ZN
def PL (a b c d:Int):QM:=(List.range 3).map fun i=>(List.range 3).map fun j=>qF a b c d i j
def cMx:Ctr:=⟨[nS],[tM,tI],fun x=>True,fun x=>(if dO x.1.1 x.1.2.1 x.1.2.2.1 x.1.2.2.2.1=0 then PL x.1.1 x.1.2.1 x.1.2.2.1 x.1.2.2.2.1 else [],dO x.1.1 x.1.2.1 x.1.2.2.1 x.1.2.2.2.1,())⟩
abbrev b5T (a b c d:Int):Res:=.box [⟨tI,dS a b c d 0 0⟩,⟨tI,dS a b c d 0 1⟩,⟨tI,dS a b c d 0 2⟩,⟨tI,dS a b c d 1 0⟩,⟨tI,dS a b c d 1 1⟩,⟨tI,dS a b c d 1 2⟩,⟨tI,dS a b c d 2 0⟩,⟨tI,dS a b c d 2 1⟩,⟨tI,dS a b c d 2 2⟩]
theorem a2w:dG Tryz.prog 16 cMx:=by
 refine fF LD1 [9,12,16] Tryz.func16 rfl (by decide) (fun x=>[.inv Le3 (fun i=>[(129,.val tI (i.1:Int)),(10,.own 10 0)]) (fun i=>[(9,b5T x.1.1 x.1.2.1 x.1.2.2.1 x.1.2.2.2.1),(10,.row 25 (.list tQ) ((List.range i.1).map fun i=>(List.range 3).map fun j=>qF x.1.1 x.1.2.1 x.1.2.2.1 x.1.2.2.2.1 i j) 0)]) (fun i=>3-i.1) ⟨0,by omega⟩ (fun i=>[.inv Le3 (fun j=>[(133,.val tI (j.1:Int)),(13,.own 13 0)]) (fun j=>[(9,b5T x.1.1 x.1.2.1 x.1.2.2.1 x.1.2.2.2.1),(10,.row 25 (.list tQ) ((List.range i.1).map fun i=>(List.range 3).map fun j=>qF x.1.1 x.1.2.1 x.1.2.2.1 x.1.2.2.2.1 i j) 0),(12,.box [⟨tI,dS x.1.1 x.1.2.1 x.1.2.2.1 x.1.2.2.2.1 i.1 0⟩,⟨tI,dS x.1.1 x.1.2.1 x.1.2.2.1 x.1.2.2.2.1 i.1 1⟩,⟨tI,dS x.1.1 x.1.2.1 x.1.2.2.1 x.1.2.2.2.1 i.1 2⟩]),(13,.row 30 tQ ((List.range j.1).map fun j=>qF x.1.1 x.1.2.1 x.1.2.2.1 x.1.2.2.2.1 i.1 j) 0)]) (fun j=>3-j.1) ⟨0,by omega⟩ (fun _=>[])])]) (fun x hp=>?_)
 obtain⟨⟨a,b,c,d,u⟩,v⟩:=x
 change Int at a;change Int at b;change Int at c;change Int at d
 refine iO (let x0z:=((IntKind.wrap IntKind.i64 (IntKind.wrap IntKind.i64 (IntKind.wrap IntKind.i64 (IntKind.wrap IntKind.i64 (a*a)+IntKind.wrap IntKind.i64 (b*b))-IntKind.wrap IntKind.i64 (c*c))-IntKind.wrap IntKind.i64 (d*d))::IntKind.wrap IntKind.i64 (2*IntKind.wrap IntKind.i64 (IntKind.wrap IntKind.i64 (b*c)-IntKind.wrap IntKind.i64 (a*d)))::IntKind.wrap IntKind.i64 (2*IntKind.wrap IntKind.i64 (IntKind.wrap IntKind.i64 (b*d)+IntKind.wrap IntKind.i64 (a*c)))::aH Int)::(IntKind.wrap IntKind.i64 (2*IntKind.wrap IntKind.i64 (IntKind.wrap IntKind.i64 (b*c)+IntKind.wrap IntKind.i64 (a*d)))::IntKind.wrap IntKind.i64 (IntKind.wrap IntKind.i64 (IntKind.wrap IntKind.i64 (IntKind.wrap IntKind.i64 (a*a)-IntKind.wrap IntKind.i64 (b*b))+IntKind.wrap IntKind.i64 (c*c))-IntKind.wrap IntKind.i64 (d*d))::IntKind.wrap IntKind.i64 (2*IntKind.wrap IntKind.i64 (IntKind.wrap IntKind.i64 (c*d)-IntKind.wrap IntKind.i64 (a*b)))::aH Int)::(IntKind.wrap IntKind.i64 (2*IntKind.wrap IntKind.i64 (IntKind.wrap IntKind.i64 (b*d)-IntKind.wrap IntKind.i64 (a*c)))::IntKind.wrap IntKind.i64 (2*IntKind.wrap IntKind.i64 (IntKind.wrap IntKind.i64 (c*d)+IntKind.wrap IntKind.i64 (a*b)))::IntKind.wrap IntKind.i64 (IntKind.wrap IntKind.i64 (IntKind.wrap IntKind.i64 (IntKind.wrap IntKind.i64 (a*a)-IntKind.wrap IntKind.i64 (b*b))-IntKind.wrap IntKind.i64 (c*c))+IntKind.wrap IntKind.i64 (d*d))::aH Int)::aH (List Int));let x1z:=(0::List.replicate 2 0);(True/\True)/\ifB (dO a b c d != 0) (True/\(aH (List Rat)=if dO a b c d=0 then PL a b c d else aH (List Rat))/\True/\dO a b c d=dO a b c d/\True) ((asT Int 0=0/\(True/\asT (List (List Rat)) (aH (List Rat))=aH (List Rat))/\IntKind.wrap IntKind.i64 (IntKind.wrap IntKind.i64 (IntKind.wrap IntKind.i64 (IntKind.wrap IntKind.i64 (a*a)+IntKind.wrap IntKind.i64 (b*b))-IntKind.wrap IntKind.i64 (c*c))-IntKind.wrap IntKind.i64 (d*d))=dS a b c d 0 0/\IntKind.wrap IntKind.i64 (2*IntKind.wrap IntKind.i64 (IntKind.wrap IntKind.i64 (b*c)-IntKind.wrap IntKind.i64 (a*d)))=dS a b c d 0 1/\IntKind.wrap IntKind.i64 (2*IntKind.wrap IntKind.i64 (IntKind.wrap IntKind.i64 (b*d)+IntKind.wrap IntKind.i64 (a*c)))=dS a b c d 0 2/\IntKind.wrap IntKind.i64 (2*IntKind.wrap IntKind.i64 (IntKind.wrap IntKind.i64 (b*c)+IntKind.wrap IntKind.i64 (a*d)))=dS a b c d 1 0/\IntKind.wrap IntKind.i64 (IntKind.wrap IntKind.i64 (IntKind.wrap IntKind.i64 (IntKind.wrap IntKind.i64 (a*a)-IntKind.wrap IntKind.i64 (b*b))+IntKind.wrap IntKind.i64 (c*c))-IntKind.wrap IntKind.i64 (d*d))=dS a b c d 1 1/\IntKind.wrap IntKind.i64 (2*IntKind.wrap IntKind.i64 (IntKind.wrap IntKind.i64 (c*d)-IntKind.wrap IntKind.i64 (a*b)))=dS a b c d 1 2/\IntKind.wrap IntKind.i64 (2*IntKind.wrap IntKind.i64 (IntKind.wrap IntKind.i64 (b*d)-IntKind.wrap IntKind.i64 (a*c)))=dS a b c d 2 0/\IntKind.wrap IntKind.i64 (2*IntKind.wrap IntKind.i64 (IntKind.wrap IntKind.i64 (c*d)+IntKind.wrap IntKind.i64 (a*b)))=dS a b c d 2 1/\IntKind.wrap IntKind.i64 (IntKind.wrap IntKind.i64 (IntKind.wrap IntKind.i64 (IntKind.wrap IntKind.i64 (a*a)-IntKind.wrap IntKind.i64 (b*b))-IntKind.wrap IntKind.i64 (c*c))+IntKind.wrap IntKind.i64 (d*d))=dS a b c d 2 2/\(asT (List (List Rat)) (aH (List Rat))=aH (List Rat)/\0=0/\asT Bool true=true)/\True)/\∀ (i:Le3),asT Bool true=true/\ifB (decide (aB (aA i)<3)) ((0<=aB (aA i)/\aB (aA i)<3/\True)/\(asT Int 0=0/\(True/\asT (List Rat) (aH Rat)=aH Rat)/\dS a b c d 0 0=dS a b c d 0 0/\dS a b c d 0 1=dS a b c d 0 1/\dS a b c d 0 2=dS a b c d 0 2/\dS a b c d 1 0=dS a b c d 1 0/\dS a b c d 1 1=dS a b c d 1 1/\dS a b c d 1 2=dS a b c d 1 2/\dS a b c d 2 0=dS a b c d 2 0/\dS a b c d 2 1=dS a b c d 2 1/\dS a b c d 2 2=dS a b c d 2 2/\List.map (fun(i:Nat)=>List.map (fun(j:Nat)=>qF a b c d i j) (List.range 3)) (List.range (aA i))=List.map (fun(i:Nat)=>List.map (fun(j:Nat)=>qF a b c d i j) (List.range 3)) (List.range (aA i))/\List.getD (List.getD x0z (Int.toNat (aB (aA i))) x1z) 0 0=dS a b c d (aA i) 0/\List.getD (List.getD x0z (Int.toNat (aB (aA i))) x1z) (0+1) 0=dS a b c d (aA i) 1/\List.getD (List.getD x0z (Int.toNat (aB (aA i))) x1z) (0+1+1) 0=dS a b c d (aA i) 2/\(asT (List Rat) (aH Rat)=aH Rat/\0=0/\asT Bool true=true)/\True)/\∀ (i_1:Le3),asT Bool true=true/\ifB (decide (aB (aA i_1)<3)) ((0<=aB (aA i_1)/\aB (aA i_1)<3/\True)/\((okc a/\okc b/\okc c/\okc d)/\(bW (List.getD (List.getD (List.getD x0z (Int.toNat (aB (aA i))) x1z) 0 0::List.getD (List.getD x0z (Int.toNat (aB (aA i))) x1z) (0+1) 0::List.getD (List.getD x0z (Int.toNat (aB (aA i))) x1z) (0+1+1) 0::aH Int) (Int.toNat (aB (aA i_1))) 0)/\bW (gW a b c d)/\gW a b c d≠0)/\True)/\(List.length (List.map (fun(j:Nat)=>qF a b c d (aA i) j) (List.range (aA i_1)))+List.length (Rat.divInt (List.getD (List.getD (List.getD x0z (Int.toNat (aB (aA i))) x1z) 0 0::List.getD (List.getD x0z (Int.toNat (aB (aA i))) x1z) (0+1) 0::List.getD (List.getD x0z (Int.toNat (aB (aA i))) x1z) (0+1+1) 0::aH Int) (Int.toNat (aB (aA i_1))) 0) (gW a b c d)::aH Rat)<=1000000000/\True)/\∃ (i':Le3),3-aA i'<3-aA i_1/\IntKind.wrap IntKind.i64 (aB (aA i_1)+1)=aB (aA i')/\dS a b c d 0 0=dS a b c d 0 0/\dS a b c d 0 1=dS a b c d 0 1/\dS a b c d 0 2=dS a b c d 0 2/\dS a b c d 1 0=dS a b c d 1 0/\dS a b c d 1 1=dS a b c d 1 1/\dS a b c d 1 2=dS a b c d 1 2/\dS a b c d 2 0=dS a b c d 2 0/\dS a b c d 2 1=dS a b c d 2 1/\dS a b c d 2 2=dS a b c d 2 2/\List.map (fun(i:Nat)=>List.map (fun(j:Nat)=>qF a b c d i j) (List.range 3)) (List.range (aA i))=List.map (fun(i:Nat)=>List.map (fun(j:Nat)=>qF a b c d i j) (List.range 3)) (List.range (aA i))/\dS a b c d (aA i) 0=dS a b c d (aA i) 0/\dS a b c d (aA i) 1=dS a b c d (aA i) 1/\dS a b c d (aA i) 2=dS a b c d (aA i) 2/\List.map (fun(j:Nat)=>qF a b c d (aA i) j) (List.range (aA i_1))++Rat.divInt (List.getD (List.getD (List.getD x0z (Int.toNat (aB (aA i))) x1z) 0 0::List.getD (List.getD x0z (Int.toNat (aB (aA i))) x1z) (0+1) 0::List.getD (List.getD x0z (Int.toNat (aB (aA i))) x1z) (0+1+1) 0::aH Int) (Int.toNat (aB (aA i_1))) 0) (gW a b c d)::aH Rat=List.map (fun(j:Nat)=>qF a b c d (aA i) j) (List.range (aA i'))/\True) ((List.length (List.map (fun(i:Nat)=>List.map (fun(j:Nat)=>qF a b c d i j) (List.range 3)) (List.range (aA i)))+List.length (List.map (fun(j:Nat)=>qF a b c d (aA i) j) (List.range (aA i_1))::aH (List Rat))<=1000000000/\True)/\∃ (i':Le3),3-aA i'<3-aA i/\IntKind.wrap IntKind.i64 (aB (aA i)+1)=aB (aA i')/\dS a b c d 0 0=dS a b c d 0 0/\dS a b c d 0 1=dS a b c d 0 1/\dS a b c d 0 2=dS a b c d 0 2/\dS a b c d 1 0=dS a b c d 1 0/\dS a b c d 1 1=dS a b c d 1 1/\dS a b c d 1 2=dS a b c d 1 2/\dS a b c d 2 0=dS a b c d 2 0/\dS a b c d 2 1=dS a b c d 2 1/\dS a b c d 2 2=dS a b c d 2 2/\List.map (fun(i:Nat)=>List.map (fun(j:Nat)=>qF a b c d i j) (List.range 3)) (List.range (aA i))++List.map (fun(j:Nat)=>qF a b c d (aA i) j) (List.range (aA i_1))::aH (List Rat)=List.map (fun(i:Nat)=>List.map (fun(j:Nat)=>qF a b c d i j) (List.range 3)) (List.range (aA i'))/\True)) (True/\(List.map (fun(i:Nat)=>List.map (fun(j:Nat)=>qF a b c d i j) (List.range 3)) (List.range (aA i))=if dO a b c d=0 then PL a b c d else aH (List Rat))/\True/\0=dO a b c d/\True))) (by kernel_rfl) ?_
 dsimp only[aB,aA,asT,aH,iJ] at *
 simp only[gU,true_and,and_true,decide_eq_true_eq,decide_eq_false_iff_not,Int.toNat_natCast,Option.some.injEq,List.length_map,List.length_range,List.length_cons,List.length_nil,true_implies,implies_true,bne_iff_ne,ne_eq,bne_eq_false_iff_eq]
 refine⟨fun h=>(if_neg h).symm,fun h=>?_⟩
 obtain⟨hn,oa,ob,oc,od⟩:=sJ h
 have hN:=vI hn
 obtain⟨b8p,b8q⟩:=bP oa oa
 obtain⟨b8r,b8s⟩:=bP oa ob
 obtain⟨b8t,b8u⟩:=bP oa oc
 obtain⟨b8v,b8w⟩:=bP oa od
 obtain⟨b8x,b8y⟩:=bP ob ob
 obtain⟨b8z,b8A⟩:=bP ob oc
 obtain⟨b8B,b8C⟩:=bP ob od
 obtain⟨b8D,b8E⟩:=bP oc oc
 obtain⟨b8F,b8G⟩:=bP oc od
 obtain⟨b8H,b8I⟩:=bP od od
 simp(disch:=omega) only[dV,if_pos h]
 refine⟨(by and_intros<;>rfl),fun i=>⟨fun h1=>?_,fun h1=>?_⟩⟩
 ·have hi:=i.2
  have h1:i.1<3:=by omega
  have hM:∀ k,k<3->([([[a*a+b*b-c*c-d*d,2*(b*c-a*d),2*(b*d+a*c)],[2*(b*c+a*d),a*a-b*b+c*c-d*d,2*(c*d-a*b)],[2*(b*d-a*c),2*(c*d+a*b),a*a-b*b-c*c+d*d]].getD i.1 (0::List.replicate 2 0)).getD 0 0,([[a*a+b*b-c*c-d*d,2*(b*c-a*d),2*(b*d+a*c)],[2*(b*c+a*d),a*a-b*b+c*c-d*d,2*(c*d-a*b)],[2*(b*d-a*c),2*(c*d+a*b),a*a-b*b-c*c+d*d]].getD i.1 (0::List.replicate 2 0)).getD (0+1) 0,([[a*a+b*b-c*c-d*d,2*(b*c-a*d),2*(b*d+a*c)],[2*(b*c+a*d),a*a-b*b+c*c-d*d,2*(c*d-a*b)],[2*(b*d-a*c),2*(c*d+a*b),a*a-b*b-c*c+d*d]].getD i.1 (0::List.replicate 2 0)).getD (0+1+1) 0]:List Int).getD k 0=dS a b c d i.1 k:=by
   intro k hk
   have e:i.1=0\/i.1=1\/i.1=2:=by omega
   have e':k=0\/k=1\/k=2:=by omega
   rcases e with e|e|e<;>rw[e]<;>rcases e' with rfl|rfl|rfl<;>rfl
  refine⟨⟨by omega,by omega⟩,⟨hM 0 (by omega),hM 1 (by omega),hM 2 (by omega)⟩,fun k=>⟨fun h2=>?_,fun h2=>?_⟩⟩
  all_goals
   have hk:=k.2
  ·have hk3:k.1<3:=by omega
   rw[hM k.1 hk3]
   have rb:=a2T oa ob oc od h1 hk3
   have nb:bW (gW a b c d):=by unfold bW gW;omega
   refine⟨⟨by omega,by omega⟩,⟨⟨oa,ob,oc,od⟩,⟨by omega,by omega⟩,nb,by omega⟩,by omega,⟨k.1+1,by omega⟩,by simp only;omega,by simp only;omega,?_⟩
   simp only[List.range_succ,List.map_append,List.map_cons,List.map_nil]
   rfl
  ·have hk:k.1=3:=by omega
   refine⟨by omega,⟨i.1+1,by omega⟩,by simp only;omega,by simp only;omega,?_⟩
   rw[hk]
   simp only[List.range_succ (n:=i.1),List.map_append,List.map_cons,List.map_nil]
 ·have hi:=i.2
  have hi:i.1=3:=by omega
  rw[hi]
  exact⟨rfl,h.symm⟩
def dJ:aI:=⟨false,0,[],[]⟩
abbrev tR:Ty:=.lf .iH
abbrev tMR:Ty:=.list (.list tR)
theorem a3k {F:Nat->Prop} {w:World} {v:Value} {x:Rat} (h:RQ w v x):iZ F w tR v (zF x):=by
 obtain⟨b,p,c,b',p',c',rfl,r1,r2⟩:=a0Q h
 exact⟨_,rfl,b,p,c,b',p',c',rfl,h.raw,r1,r2⟩
theorem a9n {F:Nat->Prop} {w:World}:iZ F w tR (.agg #[.bool false,.slice none 0 0,.bool false,.slice none 0 0]) dJ :=
 ⟨[.bool false,.slice none 0 0,.bool false,.slice none 0 0],rfl,wY (.lf .iH) _ rfl⟩
def cVal (K:Nat):Ctr:=⟨[tR],[tB],fun x=>(show aI from x.1).n<=K/\(show aI from x.1).m<=K,fun x=>((show aI from x.1).ok,())⟩
theorem b7a {F:Nat->Prop} {w:World} {v:Value} {x:aI} (h:iZ F w tR v x):fE w v x.ok x.x/\∀ K,x.n<=K->x.m<=K->Qn v K:=by
 obtain⟨cs,rfl,b,p,c,b',p',c',rfl,h2,_,_⟩:=h
 exact⟨h2,fun K h1 h2=>⟨b,p,_,c,b',p',_,c',rfl,h1,h2⟩⟩
theorem a3G {f:FuncId} {K:Nat} (h:∀ (v:Value) (ok:Bool) (q:Rat) (w:World),fE w v ok q->Qn v K->Calls Tryz.prog f #[v] w (fun e w'=>e=.returned (.bool ok)/\Below w.heap.size w w')):dG Tryz.prog f (cVal K):=by
 intro F w vs x hF hvs hp
 obtain⟨v,vs',rfl,h1,h3⟩:=hvs
 have h3:vs'=[]:=h3
 subst h3
 obtain⟨h4,h5⟩:=b7a h1
 refine(h v _ _ w h4 (h5 K hp.1 hp.2)).mono ?_
 rintro e w' ⟨rfl,hb⟩
 exact⟨_,rfl,RJ _,hb⟩
def newT (e x y:Int):aI × Int × Unit:=if y=0 then (dJ,e,()) else (zF (Rat.divInt x y),(0:Int),())
def cNew (K:Nat) (e:Int):Ctr:=⟨[tZ,tZ],[tR,tI],fun x=>isz x.1<=K/\isz x.2.1<=K,fun x=>newT e x.1 x.2.1⟩
theorem a9x {f:FuncId} {K:Nat} {c:Int} (h:∀ (v u:Value) (x y:Int) (w:World),bU w v x->bU w u y->isz x<=K->isz y<=K->y≠0->Calls Tryz.prog f #[v,u] w (GQC (Rat.divInt x y) 0 w)) (h0:∀ (v u:Value) (x y:Int) (w:World),bU w v x->bU w u y->y=0->Calls Tryz.prog f #[v,u] w (a9p c w)):dG Tryz.prog f (cNew K c):=by
 intro F w vs x hF hvs hp
 obtain⟨v,vs',rfl,h1,u,vs'',rfl,h2,h3⟩:=hvs
 have h3:vs''=[]:=h3
 subst h3
 by_cases hy:(show Int from x.2.1)=0
 ·refine(h0 v u x.1 x.2.1 w (rU h1) (rU h2) hy).mono ?_
  rintro e w' ⟨rfl,hb⟩
  refine⟨_,rfl,?_,hb⟩
  rw[show (cNew K c).fn x=(dJ,c,()) from if_pos hy]
  exact⟨[_,_],rfl,_,_,rfl,a9n,_,_,rfl,uI _,rfl⟩
 ·refine(h v u x.1 x.2.1 w (rU h1) (rU h2) hp.1 hp.2 hy).mono ?_
  rintro e w' ⟨r,rfl,hr,hb⟩
  refine⟨_,rfl,?_,hb⟩
  rw[show (cNew K c).fn x=(zF (Rat.divInt x.1 x.2.1),(0:Int),()) from if_neg hy]
  exact⟨[_,_],rfl,_,_,rfl,a3k hr,_,_,rfl,uI _,rfl⟩
def b7B (e:Int) (x y:Rat):aI × Int × Unit:=if y=0 then (dJ,e,()) else (zF (x / y),(0:Int),())
def a3C (K:Nat) (e:Int):Ctr:=⟨[tQ,tQ],[tR,tI],fun x=>rsz x.1<=K/\rsz x.2.1<=K,fun x=>b7B e x.1 x.2.1⟩
theorem a6R {f:FuncId} {K:Nat} {c:Int} (h:∀ (v u:Value) (x y:Rat) (w:World),RQ w v x->RQ w u y->rsz x<=K->rsz y<=K->y≠0->Calls Tryz.prog f #[v,u] w (GQC (x / y) 0 w)) (h0:∀ (v u:Value) (x y:Rat) (w:World),RQ w v x->RQ w u y->rsz x<=K->rsz y<=K->y=0->Calls Tryz.prog f #[v,u] w (a9p c w)):dG Tryz.prog f (a3C K c):=by
 intro F w vs x hF hvs hp
 obtain⟨v,vs',rfl,h1,u,vs'',rfl,h2,h3⟩:=hvs
 have h3:vs''=[]:=h3
 subst h3
 by_cases hy:(show Rat from x.2.1)=0
 ·refine(h0 v u x.1 x.2.1 w (vK h1) (vK h2) hp.1 hp.2 hy).mono ?_
  rintro e w' ⟨rfl,hb⟩
  refine⟨_,rfl,?_,hb⟩
  rw[show (a3C K c).fn x=(dJ,c,()) from if_pos hy]
  exact⟨[_,_],rfl,_,_,rfl,a9n,_,_,rfl,uI _,rfl⟩
 ·refine(h v u x.1 x.2.1 w (vK h1) (vK h2) hp.1 hp.2 hy).mono ?_
  rintro e w' ⟨r,rfl,hr,hb⟩
  refine⟨_,rfl,?_,hb⟩
  rw[show (a3C K c).fn x=(zF ((show Rat from x.1) / (show Rat from x.2.1)),(0:Int),()) from if_neg hy]
  exact⟨[_,_],rfl,_,_,rfl,a3k hr,_,_,rfl,uI _,rfl⟩
def cQZ (K:Nat) (g:Rat->Int):Ctr:=⟨[tQ],[tZ],fun x=>rsz x.1<=K,fun x=>(g x.1,())⟩
theorem b1D {f:FuncId} {K:Nat} {g:Rat->Int} (h:∀ (v:Value) (x:Rat) (w:World),RQ w v x->rsz x<=K->Calls Tryz.prog f #[v] w (kP (g x) w)):dG Tryz.prog f (cQZ K g):=by
 intro F w vs x hF hvs hp
 obtain⟨v,vs',rfl,h1,h3⟩:=hvs
 have h3:vs'=[]:=h3
 subst h3
 refine(h v x.1 w (vK h1) hp).mono ?_
 rintro e w' ⟨r,rfl,hr,hb⟩
 exact⟨_,rfl,KL hr,hb⟩
abbrev s4 (x:Rat):Prop:=rsz x<=400000000
abbrev s44 (x y:Rat):Prop:=rsz x<=400000000/\rsz y<=400000000
noncomputable def LF:Lib:=((((((((((LD1
 ).add 51 (cIQ bW (fun i=>(i:Rat))) (a1O fun x w h=>kC x w h.1 h.2)
 ).add 122 (cVal 1000000000) (a3G fun v ok q w h hn=>wW v ok q w h hn)
 ).add 70 (cNew 1000000000 14) (a9x (fun v u x y w h1 h2 l1 l2 hy=>a4t v u _ _ x y w h1.QG h2.QG l1 l2 hy) (fun v u x y w h1 h2 hy=>b0q v u _ _ x y w h1.QG h2.QG hy))
 ).add 52 (cQ2 s44 (·+·)) (MX fun v u x y w a b h=>YZ v u x y w a b h.1 h.2)
 ).add 53 (cQ2 s44 (·*·)) (MX fun v u x y w a b h=>EW v u x y w a b h.1 h.2)
 ).add 56 (cQ2 s44 (·-·)) (MX fun v u x y w a b h=>a1o v u x y w a b h.1 h.2)
 ).add 90 (b1C s44 qP) (a3E fun v u x y w a b h=>qQ v u x y w a b h.1 h.2)
 ).add 91 (a3C 400000000 14) (a6R (fun v u x y w a b h1 h2 hy=>a3N v u x y w a b h1 h2 hy) (fun v u x y w a b l1 l2 hy=>a1X v u true true x y w a.raw b.raw (a.qn l1) (b.qn l2) hy))
 ).add 89 (cQ1 s4 a1J) (a6X fun v x w a h=>a6F v x w a (Nat.le_trans h (by omega)))
 ).add 92 (cQZ 400000000 Rat.floor) (b1D fun v x w a h=>a2b v x w a (Nat.le_trans h (by omega)))
def cRL:Ctr:=⟨[nS],[.list tI],fun x=>True,fun x=>([x.1.1,x.1.2.1,x.1.2.2.1,x.1.2.2.2.1],())⟩
theorem a5Y:dG Tryz.prog 66 cRL:=by
 refine fF LZ [] Tryz.func66 rfl (by decide) (fun x=>[]) (fun x hp=>?_)
 obtain⟨⟨a,b,c,d,v⟩,u⟩:=x
 change Int at a;change Int at b;change Int at c;change Int at d
 refine iO (True/\a::b::c::d::aH Int=a::b::c::d::aH Int/\True) (by kernel_rfl) ?_
 exact⟨trivial,rfl,trivial⟩
noncomputable def LE0:Lib:=LF.add 66 cRL a5Y
theorem a2N:dG Tryz.prog 17 (cHI (fun _ _ _ _=>True) dO):=by
 refine fF LE0 [] Tryz.func17 rfl (by decide) (fun x=>[.rounds 5 [4] []]) (fun x hp=>?_)
 obtain⟨⟨a,b,c,d,v⟩,u⟩:=x
 change Int at a;change Int at b;change Int at c;change Int at d
 refine iO (let x0z:=(bif bif a==0 then b==0 else false then c==0 else false);let x1z:=(List.length (a::b::c::d::aH Int));let x2z:=(decide (a > 1048576)==false);let x3z:=(decide (b > 1048576)==false);let x4z:=(decide (c > 1048576)==false);let x5z:=(decide (d > 1048576)==false);let x6z:=((bif a==0 then b==0 else false)==true);((((a==0)==true)=true->((a==0)==true)=true/\True)/\(((a==0)==true)=true->((a==0)==true)=true/\True)/\((a==0)=true->((a==0)==true)=true)/\(x6z=true->x6z=true/\True)/\(x6z=true->x6z=true/\True)/\((bif a==0 then b==0 else false)=true->x6z=true)/\((x0z==true)=true->(x0z==true)=true/\True)/\((x0z==true)=true->(x0z==true)=true/\True)/\(x0z=true->(x0z==true)=true)/\True)/\ifB (bif bif bif a==0 then b==0 else false then c==0 else false then d==0 else false) (True/\1=dO a b c d/\True) ((True/\True)/\(asT Int 0<=0/\0<aB x1z/\(x2z=true->x2z=true/\x2z=true/\asT Int 0<=0/\0<aB x1z/\True)/\(x2z=true->x2z=true/\True)/\(x2z=true->x2z=true/\True)/\(decide (a > 1048576)=false->x2z=true)/\True)/\ifB (bif decide (a > 1048576) then true else decide (a < -1048576)) (True/\3=dO a b c d/\True) ((asT Int 0<=1/\1<aB x1z/\(x3z=true->x3z=true/\x3z=true/\asT Int 0<=1/\1<aB x1z/\True)/\(x3z=true->x3z=true/\True)/\(x3z=true->x3z=true/\True)/\(decide (b > 1048576)=false->x3z=true)/\True)/\ifB (bif decide (b > 1048576) then true else decide (b < -1048576)) (True/\3=dO a b c d/\True) ((asT Int 0<=2/\2<aB x1z/\(x4z=true->x4z=true/\x4z=true/\asT Int 0<=2/\2<aB x1z/\True)/\(x4z=true->x4z=true/\True)/\(x4z=true->x4z=true/\True)/\(decide (c > 1048576)=false->x4z=true)/\True)/\ifB (bif decide (c > 1048576) then true else decide (c < -1048576)) (True/\3=dO a b c d/\True) ((asT Int 0<=3/\3<aB x1z/\(x5z=true->x5z=true/\x5z=true/\asT Int 0<=3/\3<aB x1z/\True)/\(x5z=true->x5z=true/\True)/\(x5z=true->x5z=true/\True)/\(decide (d > 1048576)=false->x5z=true)/\True)/\ifB (bif decide (d > 1048576) then true else decide (d < -1048576)) (True/\3=dO a b c d/\True) (True/\0=dO a b c d/\True)))))) (by kernel_rfl) ?_
 have e:∀ q:Int,(bif decide (q > 1048576) then true else decide (q < -1048576))=!decide (okc q):=fun q=>by
  by_cases h:okc q
  ·have h':=h;unfold okc at h'
   rw[decide_eq_false (p:=q > 1048576) (by omega),decide_eq_false (p:=q < -1048576) (by omega),decide_eq_true h];rfl
  ·have h':q < -1048576\/q > 1048576:=by unfold okc at h;omega
   rw[decide_eq_false h]
   rcases h' with h' | h'
   ·rw[decide_eq_true h'];cases decide (q > 1048576)<;>rfl
   ·rw[decide_eq_true h'];rfl
 dsimp only[aB,asT,aH] at *
 simp only[e]
 have z:(bif bif bif a==0 then b==0 else false then c==0 else false then d==0 else false)=decide (a=0/\b=0/\c=0/\d=0):=by
  by_cases h0:a=0<;>by_cases h1:b=0<;>by_cases h2:c=0<;>by_cases h3:d=0<;>simp[h0,h1,h2,h3]
 rw[z]
 by_cases hz:a=0/\b=0/\c=0/\d=0
 ·obtain⟨rfl,rfl,rfl,rfl⟩:=hz
  simp[ifB,dO]
 ·have hq:dO a b c d=if okc a/\okc b/\okc c/\okc d then 0 else 3:=if_neg hz
  rw[hq,decide_eq_false hz]
  by_cases oa:okc a
  ·by_cases ob:okc b
   ·by_cases oc:okc c
    ·by_cases od:okc d<;>simp[ifB,oa,ob,oc,od]
    ·simp[ifB,oa,ob,oc]
   ·simp[ifB,oa,ob]
  ·simp[ifB,oa]
noncomputable def LE1:Lib:=LE0.add 17 (cHI (fun _ _ _ _=>True) dO) a2N
theorem a0L {a b c d e f g h:Int}:nO a b c d e f g h=0↔dO a b c d=0/\dO e f g h=0:=by
 unfold nO
 by_cases h:dO a b c d=0
 ·rw[if_pos h];simp[h]
 ·rw[if_neg h];simp[h]
def vZ (a b c d e f g h:Int):aI × Int × Unit:=if nO a b c d e f g h=0 then (zF (a1R a b c d e f g h),0,()) else (dJ,nO a b c d e f g h,())
def a1N:Ctr:=⟨[nS,nS],[tR,tI],fun x=>True,fun x=>vZ x.1.1 x.1.2.1 x.1.2.2.1 x.1.2.2.2.1 x.2.1.1 x.2.1.2.1 x.2.1.2.2.1 x.2.1.2.2.2.1⟩
theorem TK:dG Tryz.prog 19 a1N:=by
 refine fF LE1 [4,7,8] Tryz.func19 rfl (by decide) (fun x=>[]) (fun x hp=>?_)
 obtain⟨⟨a,b,c,d,v⟩,⟨e,f,g,h,z⟩,u⟩:=x
 change Int at a;change Int at b;change Int at c;change Int at d;change Int at e;change Int at f;change Int at g;change Int at h
 change Unit at v;change Unit at z
 refine iO (let x0z:=(IntKind.wrap IntKind.i64 (IntKind.wrap IntKind.i64 (IntKind.wrap IntKind.i64 (a*e)+IntKind.wrap IntKind.i64 (b*f))+IntKind.wrap IntKind.i64 (c*g))+IntKind.wrap IntKind.i64 (d*h));let x1z:=(Prod.fst (newT 14 (IntKind.wrap IntKind.i64 x0z*IntKind.wrap IntKind.i64 x0z) (gW a b c d*gW e f g h)));(List.length ((a,b,c,d,v)::(e,f,g,h,z)::aH (Int × Int × Int × Int × PUnit))<=1000000000/\True)/\ifB (oL ((a,b,c,d,v)::(e,f,g,h,z)::aH (Int × Int × Int × Int × PUnit)) != 0) (True/\{ ok:=false,x:=0,g:=aH Nat,h:=aH Nat }=Prod.fst (vZ a b c d e f g h)/\True/\oL ((a,b,c,d,v)::(e,f,g,h,z)::aH (Int × Int × Int × Int × PUnit))=Prod.fst (Prod.snd (vZ a b c d e f g h))/\True) ((bW (IntKind.wrap IntKind.i64 x0z)/\True)/\((isz (IntKind.wrap IntKind.i64 x0z)<=1000000000/\isz (IntKind.wrap IntKind.i64 x0z)<=1000000000)/\(okc a/\okc b/\okc c/\okc d)/\bW (gW a b c d)/\(okc e/\okc f/\okc g/\okc h)/\bW (gW e f g h)/\(isz (gW a b c d)<=1000000000/\isz (gW e f g h)<=1000000000)/\(isz (IntKind.wrap IntKind.i64 x0z*IntKind.wrap IntKind.i64 x0z)<=1000000000/\isz (gW a b c d*gW e f g h)<=1000000000)/\True)/\(bW 1/\aI.ok x1z=true/\s44 (iJ 1) (aI.x x1z)/\True)/\True/\zF (iJ 1-aI.x x1z)=Prod.fst (vZ a b c d e f g h)/\True/\0=Prod.fst (Prod.snd (vZ a b c d e f g h))/\True)) (by kernel_rfl) ?_
 dsimp only[aH,iJ] at *
 rw[a7r a b c d e f g h v z]
 by_cases k:nO a b c d e f g h=0
 ·obtain⟨k1,k2⟩:=a0L.1 k
  obtain⟨hn,oa,ob,oc,od⟩:=sJ k1
  obtain⟨hm,oe,of,og,oh⟩:=sJ k2
  have ee:vZ a b c d e f g h=(zF (a1R a b c d e f g h),0,()):=if_pos k
  obtain⟨b8J,b8K⟩:=bP oa oe
  obtain⟨b8L,b8M⟩:=bP ob of
  obtain⟨b8N,b8O⟩:=bP oc og
  obtain⟨b8P,b8Q⟩:=bP od oh
  obtain⟨q0,q1⟩:=a2I oa ob oc od oe of og oh
  have eS:IntKind.wrap IntKind.i64 (IntKind.wrap IntKind.i64 (IntKind.wrap IntKind.i64 (IntKind.wrap IntKind.i64 (a*e)+IntKind.wrap IntKind.i64 (b*f))+IntKind.wrap IntKind.i64 (c*g))+IntKind.wrap IntKind.i64 (d*h))=BL a b c d e f g h:=by
   unfold BL at *
   simp(disch:=omega) only[dV]
  rw[eS,ee]
  obtain⟨hk10,b7P⟩:=KE oa ob oc od
  obtain⟨b7Q,b7R⟩:=KE oe of og oh
  have hu1:=a2q hk10 b7P
  have hu2:=a2q b7Q b7R
  have hu3:=a2q q0 q1
  have hu4:=eF (gW a b c d) (gW e f g h)
  have hu5:=eF (BL a b c d e f g h) (BL a b c d e f g h)
  have hNN:=Int.mul_pos (vI hn) (vI hm)
  have hN0:gW a b c d*gW e f g h≠0:=by omega
  have hu6:=wO (BL a b c d e f g h*BL a b c d e f g h) (gW a b c d*gW e f g h) hN0 (k:=4) (by omega) (by omega)
  have hu7:rsz ((1:Int):Rat)<=1:=by decide +kernel
  have w1:bW 1:=by unfold bW;omega
  have wS:bW (BL a b c d e f g h):=by unfold bW;omega
  have wn:bW (gW a b c d):=by unfold bW;omega
  have wm:bW (gW e f g h):=by unfold bW;omega
  have eN:newT 14 (BL a b c d e f g h*BL a b c d e f g h) (gW a b c d*gW e f g h)=(zF (Rat.divInt (BL a b c d e f g h*BL a b c d e f g h) (gW a b c d*gW e f g h)),0,()):=if_neg hN0
  rw[eN,k]
  exact⟨⟨by show 2<=1000000000;omega,trivial⟩,⟨wS,trivial⟩,⟨⟨by omega,by omega⟩,⟨oa,ob,oc,od⟩,wn,⟨oe,of,og,oh⟩,wm,⟨by omega,by omega⟩,⟨by omega,by omega⟩,trivial⟩,⟨w1,rfl,⟨by omega,by show rsz (Rat.divInt _ _)<=_;omega⟩,trivial⟩,trivial,rfl,trivial,rfl,trivial⟩
 ·have ee:vZ a b c d e f g h=(dJ,nO a b c d e f g h,()):=if_neg k
  have kb:(nO a b c d e f g h != 0)=true:=by simpa using k
  rw[ee,kb]
  exact⟨⟨by show 2<=1000000000;omega,trivial⟩,trivial,rfl,trivial,rfl,trivial⟩
noncomputable def LE2:Lib:=LE1.add 19 a1N TK
end Go.Proofs.YtidfgdchcpmnfaaGreat
