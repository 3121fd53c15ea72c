/-
  Lemmas for the theorem vapplies_holds, part 29 of 33.
-/
import Derived.Test.YtidfgdchcpmnfaaGreatAp10
import Derived.Test.YtidfgdchcpmnfaaGreatAp28
namespace Go.Proofs.YtidfgdchcpmnfaaGreat
open Go Go.RowKit
set_option maxRecDepth 100000
set_option maxHeartbeats 1000000
set_option linter.unusedVariables false
set_option linter.unusedSimpArgs false
def a6Y:Ctr:=⟨[mJ],[.arr 4 tI],fun x=>True,fun x=>([x.1.1,x.1.2.1,x.1.2.2.1,x.1.2.2.2.1],())⟩
theorem a5N:dI Tryz.prog 81 a6Y:=by
 refine fB LP [2] Tryz.func81 rfl (by decide) (fun x=>[]) (fun x hp=>?_)
 obtain⟨⟨a,b,c,d,v⟩,u⟩:=x
 change Int at a;change Int at b;change Int at c;change Int at d
 refine iK (True/\a::b::c::d::aB Int=a::b::c::d::aB Int/\True) (by kernel_rfl) ?_
 exact⟨trivial,rfl,trivial⟩
noncomputable def LB1:Lib:=LP.add 81 a6Y a5N
theorem a5a:dI Tryz.prog 28 (cHI (fun _ _ _ _=>True) bG):=by
 refine fB LB1 [] Tryz.func28 rfl (by decide) (fun x=>[.rounds 5 [10] []]) (fun x hp=>?_)
 obtain⟨⟨a,b,c,d,v⟩,u⟩:=x
 change Int at a;change Int at b;change Int at c;change Int at d
 refine iK (ifB (eqI a 0&&(eqI b 0&&(eqI c 0&&(eqI d 0&&true)))) (True/\1=bG a b c d/\True) ((True/\True)/\(asT Int 0<=0/\asT Int 0<4/\True)/\(((decide (a < -1048576)==false)=true->(decide (a < -1048576)==false)=true/\True)/\(decide (a < -1048576)=false->(decide (a < -1048576)==false)=true)/\True)/\ifB (bif decide (a < -1048576) then true else decide (a > 1048576)) (True/\3=bG a b c d/\True) ((asT Int 0<=1/\asT Int 1<4/\True)/\(((decide (b < -1048576)==false)=true->(decide (b < -1048576)==false)=true/\True)/\(decide (b < -1048576)=false->(decide (b < -1048576)==false)=true)/\True)/\ifB (bif decide (b < -1048576) then true else decide (b > 1048576)) (True/\3=bG a b c d/\True) ((asT Int 0<=2/\asT Int 2<4/\True)/\(((decide (c < -1048576)==false)=true->(decide (c < -1048576)==false)=true/\True)/\(decide (c < -1048576)=false->(decide (c < -1048576)==false)=true)/\True)/\ifB (bif decide (c < -1048576) then true else decide (c > 1048576)) (True/\3=bG a b c d/\True) ((asT Int 0<=3/\asT Int 3<4/\True)/\(((decide (d < -1048576)==false)=true->(decide (d < -1048576)==false)=true/\True)/\(decide (d < -1048576)=false->(decide (d < -1048576)==false)=true)/\True)/\ifB (bif decide (d < -1048576) then true else decide (d > 1048576)) (True/\3=bG a b c d/\True) (True/\0=bG a b c d/\True)))))) (by kernel_rfl) ?_
 have e:∀ q:Int,(bif decide (q < -1048576) then true else decide (q > 1048576))=!decide (okc q):=fun q=>by
  rw[Bool.eq_iff_iff]
  by_cases h:okc q
  ·have h':=h;unfold okc at h'
   rw[decide_eq_false (p:=q < -1048576) (by omega),decide_eq_false (p:=q > 1048576) (by omega),decide_eq_true h]
   exact Iff.rfl
  ·have h':q < -1048576\/q > 1048576:=by unfold okc at h;omega
   rw[decide_eq_false h]
   rcases h' with h' | h'
   ·rw[decide_eq_true h'];exact Iff.rfl
   ·rw[decide_eq_true h'];cases decide (q < -1048576)<;>exact Iff.rfl
 dsimp only[aF,asT,aB] at *
 simp only[e,List.getD_cons_zero,List.getD_cons_succ]
 simp only[eqI,fA,bG,Bool.and_eq_true,Bool.not_eq_true',decide_eq_false_iff_not,Bool.not_eq_false',decide_eq_true_eq,beq_iff_eq,and_true,true_and]
 refine⟨fun h=>(if_pos h).symm,fun h=>?_⟩
 have hz:¬ (a=0/\b=0/\c=0/\d=0):=by
  rintro⟨rfl,rfl,rfl,rfl⟩
  simp at h
 simp only[if_neg hz]
 exact⟨⟨by omega,by omega⟩,⟨id,id⟩,fun k=>(if_neg (fun e=>k e.1)).symm,fun ka=>⟨⟨by omega,by omega⟩,⟨id,id⟩,fun k=>(if_neg (fun e=>k e.2.1)).symm,fun kb=>⟨⟨by omega,by omega⟩,⟨id,id⟩,fun k=>(if_neg (fun e=>k e.2.2.1)).symm,fun kc=>⟨⟨by omega,by omega⟩,⟨id,id⟩,fun k=>(if_neg (fun e=>k e.2.2.2)).symm,fun kd=>(if_pos ⟨ka,kb,kc,kd⟩).symm⟩⟩⟩⟩
theorem a8t:dI Tryz.prog 65 (cHI (fun a b c d=>okc a/\okc b/\okc c/\okc d) dG):=by
 refine fB LB1 [] Tryz.func65 rfl (by decide) (fun x=>[]) (fun x hp=>?_)
 obtain⟨⟨a,b,c,d,v⟩,u⟩:=x
 change Int at a;change Int at b;change Int at c;change Int at d
 refine iK (True/\IntKind.wrap IntKind.i64 (IntKind.wrap IntKind.i64 (IntKind.wrap IntKind.i64 (IntKind.wrap IntKind.i64 (a*a)+IntKind.wrap IntKind.i64 (b*b))+IntKind.wrap IntKind.i64 (c*c))+IntKind.wrap IntKind.i64 (d*d))=dG a b c d/\True) (by kernel_rfl) ?_
 obtain⟨ha,hb,hc,hd⟩:=hp
 obtain⟨p0,p1⟩:=aZ ha ha
 obtain⟨p2,p3⟩:=aZ hb hb
 obtain⟨p4,p5⟩:=aZ hc hc
 obtain⟨p6,p7⟩:=aZ hd hd
 refine⟨trivial,?_,trivial⟩
 dsimp only at p0 p1 p2 p3 p4 p5 p6 p7
 rw[dR (n:=a*a) (by omega) (by omega),dR (n:=b*b) (by omega) (by omega),dR (n:=c*c) (by omega) (by omega),dR (n:=d*d) (by omega) (by omega),dR (n:=a*a+b*b) (by omega) (by omega),dR (n:=a*a+b*b+c*c) (by omega) (by omega),dR (by omega) (by omega)]
 rfl
theorem uJ {X Y:Nat->Int} (h:∀ k,k<4->X k=Y k):aY X=aY Y:=by
 have hg:aO X 4=aO Y 4:=by simp only[aO,h 0 (by omega),h 1 (by omega),h 2 (by omega),h 3 (by omega)]
 have hf:kL X 4=kL Y 4:=by simp only[kL,h 0 (by omega),h 1 (by omega),h 2 (by omega),h 3 (by omega)]
 have hG:kF X=kF Y:=by unfold kF;rw[hg,hf]
 have hn:∀ k,k<4->kW X k=kW Y k:=fun k hk=>by unfold kW;rw[h k hk,hG]
 have ho:JD X↔JD Y:=⟨fun e k hk=>hn k hk ▸ e k hk,fun e k hk=>(hn k hk).symm ▸ e k hk⟩
 unfold aY
 by_cases e:JD Y
 ·rw[if_pos e,if_pos (ho.2 e),hn 0 (by omega),hn 1 (by omega),hn 2 (by omega),hn 3 (by omega)]
 ·rw[if_neg e,if_neg (fun e'=>e (ho.1 e'))]
def b6d:Ctr:=⟨[tI,tI,tI,tI],[mJ,tI],fun x=>(bZ x.1/\bZ x.2.1/\bZ x.2.2.1/\bZ x.2.2.2.1)/\¬ ((show Int from x.1)=0/\(show Int from x.2.1)=0/\(show Int from x.2.2.1)=0/\(show Int from x.2.2.2.1)=0),fun x=>aY (xs4 x.1 x.2.1 x.2.2.1 x.2.2.2.1)⟩
theorem a0S:dI Tryz.prog 67 b6d:=by
 refine fB LB1 [8] Tryz.func67 rfl (by decide) (fun x=>[]) (fun x hp=>?_)
 obtain⟨a,b,c,d,u⟩:=x
 change Int at a;change Int at b;change Int at c;change Int at d
 refine iK ((bZ a/\bZ b/\bZ c/\bZ d/\(List.length (a::b::c::d::aB Int)=4/\(∀ (j:Nat),j<4->isz (xsL (a::b::c::d::aB Int) j)<=400000000)/\∃ (j:Nat),j<4/\xsL (a::b::c::d::aB Int) j≠0)/\True)/\True/\(Prod.fst (Prod.fst (aY (xsL (a::b::c::d::aB Int)))),Prod.fst (Prod.snd (Prod.fst (aY (xsL (a::b::c::d::aB Int))))),Prod.fst (Prod.snd (Prod.snd (Prod.fst (aY (xsL (a::b::c::d::aB Int)))))),Prod.fst (Prod.snd (Prod.snd (Prod.snd (Prod.fst (aY (xsL (a::b::c::d::aB Int))))))),())=Prod.fst (aY (xs4 a b c d))/\True/\Prod.fst (Prod.snd (aY (xsL (a::b::c::d::aB Int))))=Prod.fst (Prod.snd (aY (xs4 a b c d)))/\True) (by kernel_rfl) ?_
 obtain⟨⟨ha,hb,hc,hd⟩,hn⟩:=hp
 dsimp only at ha hb hc hd hn
 dsimp only[aF,asT,aB] at *
 have hx:∀ k,k<4->xsL [a,b,c,d] k=xs4 a b c d k:=fun k hk=>by
  match k,hk with
  | 0,_=>rfl
  | 1,_=>rfl
  | 2,_=>rfl
  | 3,_=>rfl
 rw[uJ hx]
 refine⟨⟨ha,hb,hc,hd,⟨rfl,fun j hj=>?_,?_⟩,trivial⟩,trivial,rfl,trivial,rfl,trivial⟩
 ·rw[hx j hj]
  match j,hj with
  | 0,_=>exact ET ha.1 ha.2
  | 1,_=>exact ET hb.1 hb.2
  | 2,_=>exact ET hc.1 hc.2
  | 3,_=>exact ET hd.1 hd.2
 ·by_cases h0:a=0
  ·by_cases h1:b=0
   ·by_cases h2:c=0
    ·exact⟨3,by omega,fun h3=>hn ⟨h0,h1,h2,h3⟩⟩
    ·exact⟨2,by omega,h2⟩
   ·exact⟨1,by omega,h1⟩
  ·exact⟨0,by omega,h0⟩
noncomputable def LB2:Lib:=(((LB1.add 28 (cHI (fun _ _ _ _=>True) bG) a5a).add 65 (cHI (fun a b c d=>okc a/\okc b/\okc c/\okc d) dG) a8t).add 67 b6d a0S)
theorem qE {q:Int} (h:okc q):bZ q:=by
 unfold okc at h
 unfold bZ
 omega
theorem TI:dI Tryz.prog 18 (cHQ (fun _ _ _ _=>True) uP):=by
 refine fB LB2 [2] Tryz.func18 rfl (by decide) (fun x=>[]) (fun x hp=>?_)
 obtain⟨⟨a,b,c,d,v⟩,u⟩:=x
 change Int at a;change Int at b;change Int at c;change Int at d
 refine iK ((True/\True)/\ifB (bG a b c d != 0) (True/\(0,0,0,0,())=Prod.fst (uP a b c d)/\True/\bG a b c d=Prod.fst (Prod.snd (uP a b c d))/\True) ((((bZ a/\bZ b/\bZ c/\bZ d)/\¬(a=0/\b=0/\c=0/\d=0))/\True)/\True/\(Prod.fst (Prod.fst (aY (xs4 a b c d))),Prod.fst (Prod.snd (Prod.fst (aY (xs4 a b c d)))),Prod.fst (Prod.snd (Prod.snd (Prod.fst (aY (xs4 a b c d))))),Prod.fst (Prod.snd (Prod.snd (Prod.snd (Prod.fst (aY (xs4 a b c d)))))),())=Prod.fst (uP a b c d)/\True/\Prod.fst (Prod.snd (aY (xs4 a b c d)))=Prod.fst (Prod.snd (uP a b c d))/\True)) (by kernel_rfl) ?_
 refine⟨⟨trivial,trivial⟩,fA.2 ⟨fun h=>?_,fun h=>?_⟩⟩
 ·have h:=bne_iff_ne.1 h
  have e:uP a b c d=((0,0,0,0,()),bG a b c d,()):=if_neg h
  rw[e]
  exact⟨trivial,rfl,trivial,rfl,trivial⟩
 ·have h:bG a b c d=0:=by simpa using h
  obtain⟨hn,oa,ob,oc,od⟩:=kG h
  have e:uP a b c d=aY (xs4 a b c d):=if_pos h
  rw[e]
  exact⟨⟨⟨⟨qE oa,qE ob,qE oc,qE od⟩,hn⟩,trivial⟩,trivial,rfl,trivial,rfl,trivial⟩
theorem a7l:dI Tryz.prog 33 (cHQ (fun _ _ _ _=>True) JV):=by
 refine fB LB2 [2] Tryz.func33 rfl (by decide) (fun x=>[]) (fun x hp=>?_)
 obtain⟨⟨a,b,c,d,v⟩,u⟩:=x
 change Int at a;change Int at b;change Int at c;change Int at d
 refine iK ((True/\True)/\ifB (bG a b c d != 0) (True/\(0,0,0,0,())=Prod.fst (JV a b c d)/\True/\bG a b c d=Prod.fst (Prod.snd (JV a b c d))/\True) ((((bZ a/\bZ (IntKind.wrap IntKind.i64 (0-b))/\bZ (IntKind.wrap IntKind.i64 (0-c))/\bZ (IntKind.wrap IntKind.i64 (0-d)))/\¬(a=0/\IntKind.wrap IntKind.i64 (0-b)=0/\IntKind.wrap IntKind.i64 (0-c)=0/\IntKind.wrap IntKind.i64 (0-d)=0))/\True)/\True/\(Prod.fst (Prod.fst (aY (xs4 a (IntKind.wrap IntKind.i64 (0-b)) (IntKind.wrap IntKind.i64 (0-c)) (IntKind.wrap IntKind.i64 (0-d))))),Prod.fst (Prod.snd (Prod.fst (aY (xs4 a (IntKind.wrap IntKind.i64 (0-b)) (IntKind.wrap IntKind.i64 (0-c)) (IntKind.wrap IntKind.i64 (0-d)))))),Prod.fst (Prod.snd (Prod.snd (Prod.fst (aY (xs4 a (IntKind.wrap IntKind.i64 (0-b)) (IntKind.wrap IntKind.i64 (0-c)) (IntKind.wrap IntKind.i64 (0-d))))))),Prod.fst (Prod.snd (Prod.snd (Prod.snd (Prod.fst (aY (xs4 a (IntKind.wrap IntKind.i64 (0-b)) (IntKind.wrap IntKind.i64 (0-c)) (IntKind.wrap IntKind.i64 (0-d)))))))),())=Prod.fst (JV a b c d)/\True/\Prod.fst (Prod.snd (aY (xs4 a (IntKind.wrap IntKind.i64 (0-b)) (IntKind.wrap IntKind.i64 (0-c)) (IntKind.wrap IntKind.i64 (0-d)))))=Prod.fst (Prod.snd (JV a b c d))/\True)) (by kernel_rfl) ?_
 refine⟨⟨trivial,trivial⟩,fA.2 ⟨fun h=>?_,fun h=>?_⟩⟩
 ·have h:=bne_iff_ne.1 h
  have e:JV a b c d=((0,0,0,0,()),bG a b c d,()):=if_neg h
  rw[e]
  exact⟨trivial,rfl,trivial,rfl,trivial⟩
 ·have h:bG a b c d=0:=by simpa using h
  obtain⟨hn,oa,ob,oc,od⟩:=kG h
  have eb:IntKind.wrap IntKind.i64 (0-b)=-b:=by unfold okc at ob;rw[dR (by omega) (by omega)];omega
  have nb:okc (-b):=by unfold okc at *;omega
  have ec:IntKind.wrap IntKind.i64 (0-c)=-c:=by unfold okc at oc;rw[dR (by omega) (by omega)];omega
  have nc:okc (-c):=by unfold okc at *;omega
  have ed:IntKind.wrap IntKind.i64 (0-d)=-d:=by unfold okc at od;rw[dR (by omega) (by omega)];omega
  have nd:okc (-d):=by unfold okc at *;omega
  rw[eb,ec,ed]
  have e:JV a b c d=aY (xs4 a (-b) (-c) (-d)):=if_pos h
  rw[e]
  exact⟨⟨⟨⟨qE oa,qE nb,qE nc,qE nd⟩,fun h=>hn ⟨h.1,by omega,by omega,by omega⟩⟩,trivial⟩,trivial,rfl,trivial,rfl,trivial⟩
abbrev Q4:Type:=Int × Int × Int × Int × Unit
def qc (q:Q4):Int:=bG q.1 q.2.1 q.2.2.1 q.2.2.2.1
def oP (l:List Q4):Int:=match l with
 | []=>0
 | q::l=>if qc q=0 then oP l else qc q
def b1D:Ctr:=⟨[.list mJ],[tI],fun x=>(show List Q4 from x.1).length<=1000000000,fun x=>(oP x.1,())⟩
abbrev b1w (l:List Q4):Type:={i:Nat // i<=l.length/\oP l=oP (l.drop i)}
theorem ZK:dI Tryz.prog 68 b1D:=by
 refine fB LB2 [4] Tryz.func68 rfl (by decide) (fun x=>[.inv (b1w x.1) (fun i=>[(8,.val tI (i.1:Int))]) (fun i=>[]) (fun i=>(show List Q4 from x.1).length-i.1) ⟨0,Nat.zero_le _,rfl⟩ (fun _=>[])]) (fun x hp=>?_)
 obtain⟨x,u⟩:=x
 change List Q4 at x
 refine iK ((asT Int 0=0/\True)/\∀ (i:b1w x),asT Bool true=true/\ifB (decide (aF (aA i)<aF (List.length x))) ((0<=aF (aA i)/\aF (aA i)<aF (List.length x)/\True)/\(True/\True)/\ifB (bG (Prod.fst (List.getD x (Int.toNat (aF (aA i))) (0,0,0,0,PUnit.unit))) (Prod.fst (Prod.snd (List.getD x (Int.toNat (aF (aA i))) (0,0,0,0,PUnit.unit)))) (Prod.fst (Prod.snd (Prod.snd (List.getD x (Int.toNat (aF (aA i))) (0,0,0,0,PUnit.unit))))) (Prod.fst (Prod.snd (Prod.snd (Prod.snd (List.getD x (Int.toNat (aF (aA i))) (0,0,0,0,PUnit.unit)))))) != 0) (True/\bG (Prod.fst (List.getD x (Int.toNat (aF (aA i))) (0,0,0,0,PUnit.unit))) (Prod.fst (Prod.snd (List.getD x (Int.toNat (aF (aA i))) (0,0,0,0,PUnit.unit)))) (Prod.fst (Prod.snd (Prod.snd (List.getD x (Int.toNat (aF (aA i))) (0,0,0,0,PUnit.unit))))) (Prod.fst (Prod.snd (Prod.snd (Prod.snd (List.getD x (Int.toNat (aF (aA i))) (0,0,0,0,PUnit.unit))))))=oP x/\True) (∃ (i':b1w x),List.length x-aA i'<List.length x-aA i/\IntKind.wrap IntKind.i64 (aF (aA i)+1)=aF (aA i')/\True)) (True/\0=oP x/\True)) (by kernel_rfl) ?_
 dsimp only[aF,aA,asT] at *
 have step:∀ i:Nat,i<x.length->oP (x.drop i)=if qc (x.getD i (0,0,0,0,()))=0 then oP (x.drop (i+1)) else qc (x.getD i (0,0,0,0,())):=fun i hi=>by
  rw[List.drop_eq_getElem_cons hi,List.getD_eq_getElem?_getD,List.getElem?_eq_getElem hi]
  rfl
 refine⟨⟨rfl,trivial⟩,fun i=>⟨rfl,fA.2 ⟨fun h1=>?_,fun h1=>⟨trivial,?_,trivial⟩⟩⟩⟩
 all_goals
  obtain⟨i,h2,h3⟩:=i
  dsimp only at h1 ⊢
  simp only[decide_eq_true_eq,decide_eq_false_iff_not,Int.ofNat_lt] at h1
 ·have st:=step i h1
  rw[Int.toNat_natCast]
  refine⟨⟨by omega,by omega,trivial⟩,⟨trivial,trivial⟩,fA.2 ⟨fun h4=>⟨trivial,?_,trivial⟩,fun h4=>⟨⟨i+1,h1,?_⟩,by simp only;omega,?_,trivial⟩⟩⟩
  ·have h4:=bne_iff_ne.1 h4
   rw[h3,st]
   exact(if_neg h4).symm
  ·have h4:=bne_eq_false_iff_eq.1 h4
   rw[h3,st]
   exact if_pos h4
  ·rw[dR (by omega) (by have:=hp;dsimp only[b1D] at this;omega)];rfl
 ·rw[h3,List.drop_eq_nil_of_le (by omega)];rfl
noncomputable def LC1:Lib:=((LB2.add 18 (cHQ (fun _ _ _ _=>True) uP) TI).add 33 (cHQ (fun _ _ _ _=>True) JV) a7l).add 68 b1D ZK
theorem a7s (a b c d e f g h:Int) (v z:Unit):oP [(a,b,c,d,v),(e,f,g,h,z)]=nT a b c d e f g h:=by
 show (if bG a b c d=0 then (if bG e f g h=0 then 0 else bG e f g h) else bG a b c d)=if bG a b c d=0 then bG e f g h else bG a b c d
 by_cases h1:bG a b c d=0
 ·rw[if_pos h1,if_pos h1]
  by_cases h2:bG e f g h=0
  ·rw[if_pos h2,h2]
  ·rw[if_neg h2]
 ·rw[if_neg h1,if_neg h1]
theorem a0L:dI Tryz.prog 26 (b1E SI):=by
 refine fB LC1 [4] Tryz.func26 rfl (by decide) (fun x=>[]) (fun x hp=>?_)
 obtain⟨⟨a,b,c,d,v⟩,⟨e,f,g,h,z⟩,u⟩:=x
 change Int at a;change Int at b;change Int at c;change Int at d;change Int at e;change Int at f;change Int at g;change Int at h
 change Unit at v;change Unit at z
 refine iK (let x0z:=(aY (xs4 (IntKind.wrap IntKind.i64 (IntKind.wrap IntKind.i64 (IntKind.wrap IntKind.i64 (IntKind.wrap IntKind.i64 (a*e)-IntKind.wrap IntKind.i64 (b*f))-IntKind.wrap IntKind.i64 (c*g))-IntKind.wrap IntKind.i64 (d*h))) (IntKind.wrap IntKind.i64 (IntKind.wrap IntKind.i64 (IntKind.wrap IntKind.i64 (IntKind.wrap IntKind.i64 (a*f)+IntKind.wrap IntKind.i64 (b*e))+IntKind.wrap IntKind.i64 (c*h))-IntKind.wrap IntKind.i64 (d*g))) (IntKind.wrap IntKind.i64 (IntKind.wrap IntKind.i64 (IntKind.wrap IntKind.i64 (IntKind.wrap IntKind.i64 (a*g)-IntKind.wrap IntKind.i64 (b*h))+IntKind.wrap IntKind.i64 (c*e))+IntKind.wrap IntKind.i64 (d*f))) (IntKind.wrap IntKind.i64 (IntKind.wrap IntKind.i64 (IntKind.wrap IntKind.i64 (IntKind.wrap IntKind.i64 (a*h)+IntKind.wrap IntKind.i64 (b*g))-IntKind.wrap IntKind.i64 (c*f))+IntKind.wrap IntKind.i64 (d*e)))));(List.length ((a,b,c,d,v)::(e,f,g,h,z)::aB (Int × Int × Int × Int × PUnit))<=1000000000/\True)/\ifB (oP ((a,b,c,d,v)::(e,f,g,h,z)::aB (Int × Int × Int × Int × PUnit)) != 0) (True/\(0,0,0,0,())=Prod.fst (SI a b c d e f g h)/\True/\oP ((a,b,c,d,v)::(e,f,g,h,z)::aB (Int × Int × Int × Int × PUnit))=Prod.fst (Prod.snd (SI a b c d e f g h))/\True) ((((bZ (IntKind.wrap IntKind.i64 (IntKind.wrap IntKind.i64 (IntKind.wrap IntKind.i64 (IntKind.wrap IntKind.i64 (a*e)-IntKind.wrap IntKind.i64 (b*f))-IntKind.wrap IntKind.i64 (c*g))-IntKind.wrap IntKind.i64 (d*h)))/\bZ (IntKind.wrap IntKind.i64 (IntKind.wrap IntKind.i64 (IntKind.wrap IntKind.i64 (IntKind.wrap IntKind.i64 (a*f)+IntKind.wrap IntKind.i64 (b*e))+IntKind.wrap IntKind.i64 (c*h))-IntKind.wrap IntKind.i64 (d*g)))/\bZ (IntKind.wrap IntKind.i64 (IntKind.wrap IntKind.i64 (IntKind.wrap IntKind.i64 (IntKind.wrap IntKind.i64 (a*g)-IntKind.wrap IntKind.i64 (b*h))+IntKind.wrap IntKind.i64 (c*e))+IntKind.wrap IntKind.i64 (d*f)))/\bZ (IntKind.wrap IntKind.i64 (IntKind.wrap IntKind.i64 (IntKind.wrap IntKind.i64 (IntKind.wrap IntKind.i64 (a*h)+IntKind.wrap IntKind.i64 (b*g))-IntKind.wrap IntKind.i64 (c*f))+IntKind.wrap IntKind.i64 (d*e))))/\¬(IntKind.wrap IntKind.i64 (IntKind.wrap IntKind.i64 (IntKind.wrap IntKind.i64 (IntKind.wrap IntKind.i64 (a*e)-IntKind.wrap IntKind.i64 (b*f))-IntKind.wrap IntKind.i64 (c*g))-IntKind.wrap IntKind.i64 (d*h))=0/\IntKind.wrap IntKind.i64 (IntKind.wrap IntKind.i64 (IntKind.wrap IntKind.i64 (IntKind.wrap IntKind.i64 (a*f)+IntKind.wrap IntKind.i64 (b*e))+IntKind.wrap IntKind.i64 (c*h))-IntKind.wrap IntKind.i64 (d*g))=0/\IntKind.wrap IntKind.i64 (IntKind.wrap IntKind.i64 (IntKind.wrap IntKind.i64 (IntKind.wrap IntKind.i64 (a*g)-IntKind.wrap IntKind.i64 (b*h))+IntKind.wrap IntKind.i64 (c*e))+IntKind.wrap IntKind.i64 (d*f))=0/\IntKind.wrap IntKind.i64 (IntKind.wrap IntKind.i64 (IntKind.wrap IntKind.i64 (IntKind.wrap IntKind.i64 (a*h)+IntKind.wrap IntKind.i64 (b*g))-IntKind.wrap IntKind.i64 (c*f))+IntKind.wrap IntKind.i64 (d*e))=0))/\True)/\True/\(Prod.fst (Prod.fst x0z),Prod.fst (Prod.snd (Prod.fst x0z)),Prod.fst (Prod.snd (Prod.snd (Prod.fst x0z))),Prod.fst (Prod.snd (Prod.snd (Prod.snd (Prod.fst x0z)))),())=Prod.fst (SI a b c d e f g h)/\True/\Prod.fst (Prod.snd x0z)=Prod.fst (Prod.snd (SI a b c d e f g h))/\True)) (by kernel_rfl) ?_
 dsimp only[aB] at *
 have hf:=a7s a b c d e f g h v z
 rw[hf]
 refine⟨⟨by show 2<=1000000000;omega,trivial⟩,fA.2 ⟨fun k=>?_,fun k=>?_⟩⟩
 ·have k:=bne_iff_ne.1 k
  have ee:SI a b c d e f g h=((0,0,0,0,()),nT a b c d e f g h,()):=if_neg k
  rw[ee]
  exact⟨trivial,rfl,trivial,rfl,trivial⟩
 ·have k:nT a b c d e f g h=0:=by simpa using k
  have k1:bG a b c d=0:=by
   by_cases h1:bG a b c d=0
   ·exact h1
   ·rw[nT,if_neg h1] at k;exact k
  have k2:bG e f g h=0:=by rwa [nT,if_pos k1] at k
  obtain⟨hn,oa,ob,oc,od⟩:=kG k1
  obtain⟨hm,oe,of,og,oh⟩:=kG k2
  obtain⟨b8J,b8K⟩:=aZ oa oe
  obtain⟨b9y,b9z⟩:=aZ oa of
  obtain⟨b9A,b9B⟩:=aZ oa og
  obtain⟨b9C,b9D⟩:=aZ oa oh
  obtain⟨b9E,b9F⟩:=aZ ob oe
  obtain⟨b8L,b8M⟩:=aZ ob of
  obtain⟨b9G,b9H⟩:=aZ ob og
  obtain⟨b9I,b9J⟩:=aZ ob oh
  obtain⟨b9K,b9L⟩:=aZ oc oe
  obtain⟨b9M,b9N⟩:=aZ oc of
  obtain⟨b8N,b8O⟩:=aZ oc og
  obtain⟨b9O,b9P⟩:=aZ oc oh
  obtain⟨b9Q,b9R⟩:=aZ od oe
  obtain⟨b9S,b9T⟩:=aZ od of
  obtain⟨b9U,b9V⟩:=aZ od og
  obtain⟨b8P,b8Q⟩:=aZ od oh
  have ee:SI a b c d e f g h=aY (b1q a b c d e f g h):=if_pos k
  rw[ee]
  simp(disch:=omega) only[dR]
  refine⟨⟨⟨⟨⟨by omega,by omega⟩,⟨by omega,by omega⟩,⟨by omega,by omega⟩,⟨by omega,by omega⟩⟩,b0A hn hm⟩,trivial⟩,trivial,rfl,trivial,rfl,trivial⟩
noncomputable def LC2:Lib:=LC1.add 26 (b1E SI) a0L
def qL (l:List Rat) (k:Nat):Rat:=l.getD k 0
theorem XO {q:Nat->Rat} {j:Nat} (hj:j<4) (h:sgn (q j).num≠0):true=nzB q:=by
 symm
 unfold nzB
 rw[Bool.not_eq_true',<-Bool.not_eq_true]
 intro e
 have:=iO.1 e j hj
 rw[decide_eq_true_eq] at this
 rw[this] at h
 exact h rfl
theorem b7s {q:Nat->Rat} (h:∀ j,j<4->sgn (q j).num=0):false=nzB q:=by
 symm
 unfold nzB
 rw[Bool.not_eq_false']
 refine iO.2 (fun j hj=>?_)
 rw[decide_eq_true_eq]
 exact Rat.num_eq_zero.1 (wU.1 (h j hj))
def cNz:Ctr:=⟨[.arr 4 tQ],[tB],fun x=>(show List Rat from x.1).length=4/\∀ j,j<4->rsz (qL x.1 j)<=400000000,fun x=>(nzB (qL x.1),())⟩
noncomputable def LD0:Lib:=LC2.add 109 (cQI (fun x=>rsz x<=1000000000) (fun x=>sgn x.num)) (b1G fun v x w h hl=>lS v x w h hl)
theorem a0E:dI Tryz.prog 57 cNz:=by
 refine fB LD0 [4] Tryz.func57 rfl (by decide) (fun x=>[.turns 5 [6] [] []]) (fun x hp=>?_)
 obtain⟨x,u⟩:=x
 change List Rat at x
 refine iK ((asT Int 0<=0/\asT Int 0<4/\True)/\(rsz (List.getD x 0 0)<=1000000000/\True)/\ifB (sgn (Rat.num (List.getD x 0 0)) != 0) (True/\true=nzB (qL x)/\True) (True/\asT Bool true=true/\(asT Int 0<=1/\asT Int 1<4/\True)/\(rsz (List.getD x 1 0)<=1000000000/\True)/\ifB (sgn (Rat.num (List.getD x 1 0)) != 0) (True/\true=nzB (qL x)/\True) (True/\asT Bool true=true/\(asT Int 0<=2/\asT Int 2<4/\True)/\(rsz (List.getD x 2 0)<=1000000000/\True)/\ifB (sgn (Rat.num (List.getD x 2 0)) != 0) (True/\true=nzB (qL x)/\True) (True/\asT Bool true=true/\(asT Int 0<=3/\asT Int 3<4/\True)/\(rsz (List.getD x 3 0)<=1000000000/\True)/\ifB (sgn (Rat.num (List.getD x 3 0)) != 0) (True/\true=nzB (qL x)/\True) (True/\asT Bool true=true/\True/\false=nzB (qL x)/\True))))) (by kernel_rfl) ?_
 obtain⟨hl,hb⟩:=hp
 dsimp only[aF,asT] at *
 have hx:∀ j,x.getD j 0=qL x j:=fun _=>rfl
 simp only[hx]
 generalize qL x=q at *
 have r:∀ j,j<4->rsz (q j)<=1000000000:=fun j hj=>Nat.le_trans (hb j hj) (by omega)
 simp only[fA,bne_iff_ne,bne_eq_false_iff_eq,ne_eq,true_and,and_true]
 exact⟨⟨by omega,by omega⟩,r 0 (by omega),fun h=>XO (j:=0) (by omega) h,fun h0=>⟨⟨by omega,by omega⟩,r 1 (by omega),fun h=>XO (j:=1) (by omega) h,fun h1=>⟨⟨by omega,by omega⟩,r 2 (by omega),fun h=>XO (j:=2) (by omega) h,fun h2=>⟨⟨by omega,by omega⟩,r 3 (by omega),fun h=>XO (j:=3) (by omega) h,fun h3=>b7s (fun j hj=>by
  match j,hj with
  | 0,_=>exact h0
  | 1,_=>exact h1
  | 2,_=>exact h2
  | 3,_=>exact h3)⟩⟩⟩⟩
def b5Z:Ctr:=⟨[.arr 4 tQ],[mJ,tI],fun x=>(show List Rat from x.1).length=4/\(∀ j,j<4->rsz (qL x.1 j)<=50000000)/\∃ j,j<4/\qL x.1 j≠0,fun x=>aY (aW (qL x.1))⟩
theorem ZM:dI Tryz.prog 58 b5Z:=by
 refine fB LD0 [2,4,6,7,9,10,11] Tryz.func58 rfl (by decide) (fun x=>[.inv Le4 (fun k=>[(15,.val tI (k.1:Int))]) (fun k=>[(2,.box [⟨tI,(0:Int)⟩,⟨tI,(0:Int)⟩,⟨tI,(0:Int)⟩,⟨tI,(0:Int)⟩]),(4,.box [⟨tZ,dN (qL x.1) k.1⟩])]) (fun k=>4-k.1) ⟨0,by omega⟩ (fun _=>[]),.turns 5 [24] [2,4,7] []]) (fun x hp=>?_)
 obtain⟨x,u⟩:=x
 change List Rat at x
 refine iK (let x0z:=(aF (Rat.den (List.getD x 0 0)));let x1z:=(aF (Rat.den (List.getD x 1 0)));let x2z:=(aF (Rat.den (List.getD x 2 0)));let x3z:=(aF (Rat.den (List.getD x 3 0)));let x4z:=(List.getD x 0 0);let x5z:=(List.getD x 1 0);let x6z:=(List.getD x 2 0);(bZ 1/\True)/\(asT Int 0=0/\asT Int 0=0/\asT Int 0=0/\asT Int 0=0/\asT Int 0=0/\1=dN (qL x) 0/\True)/\∀ (i:Le4),asT Bool true=true/\ifB (decide (aF (aA i)<4)) ((0<=aF (aA i)/\aF (aA i)<4/\True)/\((isz (dN (qL x) (aA i))<=1000000000/\isz (aF (Rat.den (List.getD x (Int.toNat (aF (aA i))) 0)))<=1000000000)/\True)/\∃ (i':Le4),4-aA i'<4-aA i/\IntKind.wrap IntKind.i64 (aF (aA i)+1)=aF (aA i')/\asT Int 0=0/\asT Int 0=0/\asT Int 0=0/\asT Int 0=0/\dN (qL x) (aA i)*aF (Rat.den (List.getD x (Int.toNat (aF (aA i))) 0))=dN (qL x) (aA i')/\True) ((asT Int 0<=0/\asT Int 0<4/\True)/\((isz (dN (qL x) (aA i))<=1000000000/\isz x0z<=1000000000/\aF (Rat.den x4z)≠0)/\True)/\((isz (Rat.num x4z)<=1000000000/\isz (Int.fdiv (dN (qL x) (aA i)) x0z)<=1000000000)/\True)/\(asT Int 0=0/\asT Int 0=0/\asT Int 0=0/\asT Int 0=0/\dN (qL x) (aA i)=dN (qL x) (aA i)/\Rat.num x4z*Int.fdiv (dN (qL x) (aA i)) x0z=Rat.num x4z*Int.fdiv (dN (qL x) (aA i)) x0z/\asT Int 0=0/\asT Int 0=0/\asT Int 0=0/\True)/\asT Bool true=true/\(asT Int 0<=1/\asT Int 1<4/\True)/\((isz (dN (qL x) (aA i))<=1000000000/\isz x1z<=1000000000/\aF (Rat.den x5z)≠0)/\True)/\((isz (Rat.num x5z)<=1000000000/\isz (Int.fdiv (dN (qL x) (aA i)) x1z)<=1000000000)/\True)/\(asT Int 0=0/\asT Int 0=0/\asT Int 0=0/\asT Int 0=0/\dN (qL x) (aA i)=dN (qL x) (aA i)/\Rat.num x4z*Int.fdiv (dN (qL x) (aA i)) x0z=Rat.num x4z*Int.fdiv (dN (qL x) (aA i)) x0z/\Rat.num x5z*Int.fdiv (dN (qL x) (aA i)) x1z=Rat.num x5z*Int.fdiv (dN (qL x) (aA i)) x1z/\asT Int 0=0/\asT Int 0=0/\True)/\asT Bool true=true/\(asT Int 0<=2/\asT Int 2<4/\True)/\((isz (dN (qL x) (aA i))<=1000000000/\isz x2z<=1000000000/\aF (Rat.den x6z)≠0)/\True)/\((isz (Rat.num x6z)<=1000000000/\isz (Int.fdiv (dN (qL x) (aA i)) x2z)<=1000000000)/\True)/\(asT Int 0=0/\asT Int 0=0/\asT Int 0=0/\asT Int 0=0/\dN (qL x) (aA i)=dN (qL x) (aA i)/\Rat.num x4z*Int.fdiv (dN (qL x) (aA i)) x0z=Rat.num x4z*Int.fdiv (dN (qL x) (aA i)) x0z/\Rat.num x5z*Int.fdiv (dN (qL x) (aA i)) x1z=Rat.num x5z*Int.fdiv (dN (qL x) (aA i)) x1z/\Rat.num x6z*Int.fdiv (dN (qL x) (aA i)) x2z=Rat.num x6z*Int.fdiv (dN (qL x) (aA i)) x2z/\asT Int 0=0/\True)/\asT Bool true=true/\(asT Int 0<=3/\asT Int 3<4/\True)/\((isz (dN (qL x) (aA i))<=1000000000/\isz x3z<=1000000000/\aF (Rat.den (List.getD x 3 0))≠0)/\True)/\((isz (Rat.num (List.getD x 3 0))<=1000000000/\isz (Int.fdiv (dN (qL x) (aA i)) x3z)<=1000000000)/\True)/\(asT Int 0=0/\asT Int 0=0/\asT Int 0=0/\asT Int 0=0/\dN (qL x) (aA i)=dN (qL x) (aA i)/\Rat.num x4z*Int.fdiv (dN (qL x) (aA i)) x0z=Rat.num x4z*Int.fdiv (dN (qL x) (aA i)) x0z/\Rat.num x5z*Int.fdiv (dN (qL x) (aA i)) x1z=Rat.num x5z*Int.fdiv (dN (qL x) (aA i)) x1z/\Rat.num x6z*Int.fdiv (dN (qL x) (aA i)) x2z=Rat.num x6z*Int.fdiv (dN (qL x) (aA i)) x2z/\Rat.num (List.getD x 3 0)*Int.fdiv (dN (qL x) (aA i)) x3z=Rat.num (List.getD x 3 0)*Int.fdiv (dN (qL x) (aA i)) x3z/\True)/\asT Bool true=true/\((List.length (Rat.num x4z*Int.fdiv (dN (qL x) (aA i)) x0z::Rat.num x5z*Int.fdiv (dN (qL x) (aA i)) x1z::Rat.num x6z*Int.fdiv (dN (qL x) (aA i)) x2z::Rat.num (List.getD x 3 0)*Int.fdiv (dN (qL x) (aA i)) x3z::aB Int)=4/\(∀ (j:Nat),j<4->isz (xsL (Rat.num x4z*Int.fdiv (dN (qL x) (aA i)) x0z::Rat.num x5z*Int.fdiv (dN (qL x) (aA i)) x1z::Rat.num x6z*Int.fdiv (dN (qL x) (aA i)) x2z::Rat.num (List.getD x 3 0)*Int.fdiv (dN (qL x) (aA i)) x3z::aB Int) j)<=400000000)/\∃ (j:Nat),j<4/\xsL (Rat.num x4z*Int.fdiv (dN (qL x) (aA i)) x0z::Rat.num x5z*Int.fdiv (dN (qL x) (aA i)) x1z::Rat.num x6z*Int.fdiv (dN (qL x) (aA i)) x2z::Rat.num (List.getD x 3 0)*Int.fdiv (dN (qL x) (aA i)) x3z::aB Int) j≠0)/\True)/\True/\(Prod.fst (Prod.fst (aY (xsL (Rat.num x4z*Int.fdiv (dN (qL x) (aA i)) x0z::Rat.num x5z*Int.fdiv (dN (qL x) (aA i)) x1z::Rat.num x6z*Int.fdiv (dN (qL x) (aA i)) x2z::Rat.num (List.getD x 3 0)*Int.fdiv (dN (qL x) (aA i)) x3z::aB Int)))),Prod.fst (Prod.snd (Prod.fst (aY (xsL (Rat.num x4z*Int.fdiv (dN (qL x) (aA i)) x0z::Rat.num x5z*Int.fdiv (dN (qL x) (aA i)) x1z::Rat.num x6z*Int.fdiv (dN (qL x) (aA i)) x2z::Rat.num (List.getD x 3 0)*Int.fdiv (dN (qL x) (aA i)) x3z::aB Int))))),Prod.fst (Prod.snd (Prod.snd (Prod.fst (aY (xsL (Rat.num x4z*Int.fdiv (dN (qL x) (aA i)) x0z::Rat.num x5z*Int.fdiv (dN (qL x) (aA i)) x1z::Rat.num x6z*Int.fdiv (dN (qL x) (aA i)) x2z::Rat.num (List.getD x 3 0)*Int.fdiv (dN (qL x) (aA i)) x3z::aB Int)))))),Prod.fst (Prod.snd (Prod.snd (Prod.snd (Prod.fst (aY (xsL (Rat.num x4z*Int.fdiv (dN (qL x) (aA i)) x0z::Rat.num x5z*Int.fdiv (dN (qL x) (aA i)) x1z::Rat.num x6z*Int.fdiv (dN (qL x) (aA i)) x2z::Rat.num (List.getD x 3 0)*Int.fdiv (dN (qL x) (aA i)) x3z::aB Int))))))),())=Prod.fst (aY (aW (qL x)))/\True/\Prod.fst (Prod.snd (aY (xsL (Rat.num x4z*Int.fdiv (dN (qL x) (aA i)) x0z::Rat.num x5z*Int.fdiv (dN (qL x) (aA i)) x1z::Rat.num x6z*Int.fdiv (dN (qL x) (aA i)) x2z::Rat.num (List.getD x 3 0)*Int.fdiv (dN (qL x) (aA i)) x3z::aB Int))))=Prod.fst (Prod.snd (aY (aW (qL x))))/\True)) (by kernel_rfl) ?_
 obtain⟨hl,hb,hn⟩:=hp
 dsimp only[aF,asT,aA] at *
 have hx:∀ j,x.getD j 0=qL x j:=fun _=>rfl
 simp only[hx,Int.toNat_natCast]
 generalize qL x=q at *
 simp only[fA,decide_eq_true_eq,decide_eq_false_iff_not,true_and,and_true,ne_eq]
 have d:∀ k,k<=4->isz (dN q k)<=1000000000:=fun k hk=>Nat.le_trans (NP hb k hk) (by omega)
 have r:∀ j,j<4->isz ((q j).den:Int)<=1000000000:=fun j hj=>Nat.le_trans (cZ (q j)) (Nat.le_trans (hb j hj) (by omega))
 have n:∀ j,j<4->isz (q j).num<=1000000000:=fun j hj=>Nat.le_trans (dM (q j)) (Nat.le_trans (hb j hj) (by omega))
 have z:∀ j,¬ ((q j).den:Int)=0:=fun j=>by have:=(q j).den_nz;omega
 have f:∀ j,j<4->isz ((dN q 4).fdiv ((q j).den:Int))<=1000000000:=fun j hj=>Nat.le_trans (qV (z j) (wF q hj)) (d 4 (by omega))
 refine⟨⟨by omega,by omega⟩,(by and_intros<;>rfl),fun i=>⟨fun h1=>?_,fun h1=>?_⟩⟩
 ·have hi:=i.2
  refine⟨⟨by omega,by omega⟩,⟨d _ hi,r _ (by omega)⟩,⟨i.1+1,by omega⟩,by simp only;omega,?_,rfl⟩
  rw[dR (by omega) (by omega)];rfl
 ·have hi:=i.2
  have hi:i.1=4:=by omega
  rw[hi]
  dsimp only[aB]
  have hX:∀ k,k<4->xsL [(q 0).num*(dN q 4).fdiv ((q 0).den:Int),(q 1).num*(dN q 4).fdiv ((q 1).den:Int),(q 2).num*(dN q 4).fdiv ((q 2).den:Int),(q 3).num*(dN q 4).fdiv ((q 3).den:Int)] k=aW q k:=fun k hk=>by
   match k,hk with
   | 0,_=>rfl
   | 1,_=>rfl
   | 2,_=>rfl
   | 3,_=>rfl
  rw[uJ hX]
  refine⟨⟨by omega,by omega⟩,⟨d 4 (by omega),r 0 (by omega),z 0⟩,⟨n 0 (by omega),f 0 (by omega)⟩,⟨by omega,by omega⟩,⟨d 4 (by omega),r 1 (by omega),z 1⟩,⟨n 1 (by omega),f 1 (by omega)⟩,⟨by omega,by omega⟩,⟨d 4 (by omega),r 2 (by omega),z 2⟩,⟨n 2 (by omega),f 2 (by omega)⟩,⟨by omega,by omega⟩,⟨d 4 (by omega),r 3 (by omega),z 3⟩,⟨n 3 (by omega),f 3 (by omega)⟩,⟨rfl,fun j hj=>?_,?_⟩,?_⟩
  ·rw[hX j hj]
   exact Nat.le_trans (JO hb hj) (by omega)
  ·obtain⟨j,hj,h⟩:=hn
   exact⟨j,hj,by rw[hX j hj];exact NG hj h⟩
  ·first|trivial|exact⟨rfl,rfl⟩|rfl
noncomputable def LD1:Lib:=(LD0.add 57 cNz a0E).add 58 b5Z ZM
def oJ (a b c d:Int):QM:=(List.range 3).map fun i=>(List.range 3).map fun j=>dZ a b c d i j
def cMx:Ctr:=⟨[mJ],[tM,tI],fun x=>True,fun x=>(if bG x.1.1 x.1.2.1 x.1.2.2.1 x.1.2.2.2.1=0 then oJ x.1.1 x.1.2.1 x.1.2.2.1 x.1.2.2.2.1 else [],bG x.1.1 x.1.2.1 x.1.2.2.1 x.1.2.2.2.1,())⟩
abbrev b5X (a b c d:Int):Res:=.box [⟨tI,dP a b c d 0 0⟩,⟨tI,dP a b c d 0 1⟩,⟨tI,dP a b c d 0 2⟩,⟨tI,dP a b c d 1 0⟩,⟨tI,dP a b c d 1 1⟩,⟨tI,dP a b c d 1 2⟩,⟨tI,dP a b c d 2 0⟩,⟨tI,dP a b c d 2 1⟩,⟨tI,dP a b c d 2 2⟩]
theorem PO:dI Tryz.prog 16 cMx:=by
 refine fB LD1 [9,12,16] Tryz.func16 rfl (by decide) (fun x=>[.inv Le3 (fun i=>[(129,.val tI (i.1:Int)),(10,.own 10 0)]) (fun i=>[(9,b5X x.1.1 x.1.2.1 x.1.2.2.1 x.1.2.2.2.1),(10,.row 25 (.list tQ) ((List.range i.1).map fun i=>(List.range 3).map fun j=>dZ x.1.1 x.1.2.1 x.1.2.2.1 x.1.2.2.2.1 i j) 0)]) (fun i=>3-i.1) ⟨0,by omega⟩ (fun i=>[.inv Le3 (fun j=>[(133,.val tI (j.1:Int)),(13,.own 13 0)]) (fun j=>[(9,b5X x.1.1 x.1.2.1 x.1.2.2.1 x.1.2.2.2.1),(10,.row 25 (.list tQ) ((List.range i.1).map fun i=>(List.range 3).map fun j=>dZ x.1.1 x.1.2.1 x.1.2.2.1 x.1.2.2.2.1 i j) 0),(12,.box [⟨tI,dP x.1.1 x.1.2.1 x.1.2.2.1 x.1.2.2.2.1 i.1 0⟩,⟨tI,dP x.1.1 x.1.2.1 x.1.2.2.1 x.1.2.2.2.1 i.1 1⟩,⟨tI,dP x.1.1 x.1.2.1 x.1.2.2.1 x.1.2.2.2.1 i.1 2⟩]),(13,.row 30 tQ ((List.range j.1).map fun j=>dZ x.1.1 x.1.2.1 x.1.2.2.1 x.1.2.2.2.1 i.1 j) 0)]) (fun j=>3-j.1) ⟨0,by omega⟩ (fun _=>[])])]) (fun x hp=>?_)
 obtain⟨⟨a,b,c,d,u⟩,v⟩:=x
 change Int at a;change Int at b;change Int at c;change Int at d
 refine iK (let x0z:=((IntKind.wrap IntKind.i64 (IntKind.wrap IntKind.i64 (IntKind.wrap IntKind.i64 (IntKind.wrap IntKind.i64 (a*a)+IntKind.wrap IntKind.i64 (b*b))-IntKind.wrap IntKind.i64 (c*c))-IntKind.wrap IntKind.i64 (d*d))::IntKind.wrap IntKind.i64 (2*IntKind.wrap IntKind.i64 (IntKind.wrap IntKind.i64 (b*c)-IntKind.wrap IntKind.i64 (a*d)))::IntKind.wrap IntKind.i64 (2*IntKind.wrap IntKind.i64 (IntKind.wrap IntKind.i64 (b*d)+IntKind.wrap IntKind.i64 (a*c)))::aB Int)::(IntKind.wrap IntKind.i64 (2*IntKind.wrap IntKind.i64 (IntKind.wrap IntKind.i64 (b*c)+IntKind.wrap IntKind.i64 (a*d)))::IntKind.wrap IntKind.i64 (IntKind.wrap IntKind.i64 (IntKind.wrap IntKind.i64 (IntKind.wrap IntKind.i64 (a*a)-IntKind.wrap IntKind.i64 (b*b))+IntKind.wrap IntKind.i64 (c*c))-IntKind.wrap IntKind.i64 (d*d))::IntKind.wrap IntKind.i64 (2*IntKind.wrap IntKind.i64 (IntKind.wrap IntKind.i64 (c*d)-IntKind.wrap IntKind.i64 (a*b)))::aB Int)::(IntKind.wrap IntKind.i64 (2*IntKind.wrap IntKind.i64 (IntKind.wrap IntKind.i64 (b*d)-IntKind.wrap IntKind.i64 (a*c)))::IntKind.wrap IntKind.i64 (2*IntKind.wrap IntKind.i64 (IntKind.wrap IntKind.i64 (c*d)+IntKind.wrap IntKind.i64 (a*b)))::IntKind.wrap IntKind.i64 (IntKind.wrap IntKind.i64 (IntKind.wrap IntKind.i64 (IntKind.wrap IntKind.i64 (a*a)-IntKind.wrap IntKind.i64 (b*b))-IntKind.wrap IntKind.i64 (c*c))+IntKind.wrap IntKind.i64 (d*d))::aB Int)::aB (List Int));let x1z:=(0::List.replicate 2 0);(True/\True)/\ifB (bG a b c d != 0) (True/\(aB (List Rat)=if bG a b c d=0 then oJ a b c d else aB (List Rat))/\True/\bG a b c d=bG a b c d/\True) ((asT Int 0=0/\(True/\asT (List (List Rat)) (aB (List Rat))=aB (List Rat))/\IntKind.wrap IntKind.i64 (IntKind.wrap IntKind.i64 (IntKind.wrap IntKind.i64 (IntKind.wrap IntKind.i64 (a*a)+IntKind.wrap IntKind.i64 (b*b))-IntKind.wrap IntKind.i64 (c*c))-IntKind.wrap IntKind.i64 (d*d))=dP a b c d 0 0/\IntKind.wrap IntKind.i64 (2*IntKind.wrap IntKind.i64 (IntKind.wrap IntKind.i64 (b*c)-IntKind.wrap IntKind.i64 (a*d)))=dP a b c d 0 1/\IntKind.wrap IntKind.i64 (2*IntKind.wrap IntKind.i64 (IntKind.wrap IntKind.i64 (b*d)+IntKind.wrap IntKind.i64 (a*c)))=dP a b c d 0 2/\IntKind.wrap IntKind.i64 (2*IntKind.wrap IntKind.i64 (IntKind.wrap IntKind.i64 (b*c)+IntKind.wrap IntKind.i64 (a*d)))=dP a b c d 1 0/\IntKind.wrap IntKind.i64 (IntKind.wrap IntKind.i64 (IntKind.wrap IntKind.i64 (IntKind.wrap IntKind.i64 (a*a)-IntKind.wrap IntKind.i64 (b*b))+IntKind.wrap IntKind.i64 (c*c))-IntKind.wrap IntKind.i64 (d*d))=dP a b c d 1 1/\IntKind.wrap IntKind.i64 (2*IntKind.wrap IntKind.i64 (IntKind.wrap IntKind.i64 (c*d)-IntKind.wrap IntKind.i64 (a*b)))=dP a b c d 1 2/\IntKind.wrap IntKind.i64 (2*IntKind.wrap IntKind.i64 (IntKind.wrap IntKind.i64 (b*d)-IntKind.wrap IntKind.i64 (a*c)))=dP a b c d 2 0/\IntKind.wrap IntKind.i64 (2*IntKind.wrap IntKind.i64 (IntKind.wrap IntKind.i64 (c*d)+IntKind.wrap IntKind.i64 (a*b)))=dP a b c d 2 1/\IntKind.wrap IntKind.i64 (IntKind.wrap IntKind.i64 (IntKind.wrap IntKind.i64 (IntKind.wrap IntKind.i64 (a*a)-IntKind.wrap IntKind.i64 (b*b))-IntKind.wrap IntKind.i64 (c*c))+IntKind.wrap IntKind.i64 (d*d))=dP a b c d 2 2/\(asT (List (List Rat)) (aB (List Rat))=aB (List Rat)/\0=0/\asT Bool true=true)/\True)/\∀ (i:Le3),asT Bool true=true/\ifB (decide (aF (aA i)<3)) ((0<=aF (aA i)/\aF (aA i)<3/\True)/\(asT Int 0=0/\(True/\asT (List Rat) (aB Rat)=aB Rat)/\dP a b c d 0 0=dP a b c d 0 0/\dP a b c d 0 1=dP a b c d 0 1/\dP a b c d 0 2=dP a b c d 0 2/\dP a b c d 1 0=dP a b c d 1 0/\dP a b c d 1 1=dP a b c d 1 1/\dP a b c d 1 2=dP a b c d 1 2/\dP a b c d 2 0=dP a b c d 2 0/\dP a b c d 2 1=dP a b c d 2 1/\dP a b c d 2 2=dP a b c d 2 2/\List.map (fun(i:Nat)=>List.map (fun(j:Nat)=>dZ a b c d i j) (List.range 3)) (List.range (aA i))=List.map (fun(i:Nat)=>List.map (fun(j:Nat)=>dZ a b c d i j) (List.range 3)) (List.range (aA i))/\List.getD (List.getD x0z (Int.toNat (aF (aA i))) x1z) 0 0=dP a b c d (aA i) 0/\List.getD (List.getD x0z (Int.toNat (aF (aA i))) x1z) (0+1) 0=dP a b c d (aA i) 1/\List.getD (List.getD x0z (Int.toNat (aF (aA i))) x1z) (0+1+1) 0=dP a b c d (aA i) 2/\(asT (List Rat) (aB Rat)=aB Rat/\0=0/\asT Bool true=true)/\True)/\∀ (i_1:Le3),asT Bool true=true/\ifB (decide (aF (aA i_1)<3)) ((0<=aF (aA i_1)/\aF (aA i_1)<3/\True)/\((okc a/\okc b/\okc c/\okc d)/\(bZ (List.getD (List.getD (List.getD x0z (Int.toNat (aF (aA i))) x1z) 0 0::List.getD (List.getD x0z (Int.toNat (aF (aA i))) x1z) (0+1) 0::List.getD (List.getD x0z (Int.toNat (aF (aA i))) x1z) (0+1+1) 0::aB Int) (Int.toNat (aF (aA i_1))) 0)/\bZ (dG a b c d)/\dG a b c d≠0)/\True)/\(List.length (List.map (fun(j:Nat)=>dZ a b c d (aA i) j) (List.range (aA i_1)))+List.length (Rat.divInt (List.getD (List.getD (List.getD x0z (Int.toNat (aF (aA i))) x1z) 0 0::List.getD (List.getD x0z (Int.toNat (aF (aA i))) x1z) (0+1) 0::List.getD (List.getD x0z (Int.toNat (aF (aA i))) x1z) (0+1+1) 0::aB Int) (Int.toNat (aF (aA i_1))) 0) (dG a b c d)::aB Rat)<=1000000000/\True)/\∃ (i':Le3),3-aA i'<3-aA i_1/\IntKind.wrap IntKind.i64 (aF (aA i_1)+1)=aF (aA i')/\dP a b c d 0 0=dP a b c d 0 0/\dP a b c d 0 1=dP a b c d 0 1/\dP a b c d 0 2=dP a b c d 0 2/\dP a b c d 1 0=dP a b c d 1 0/\dP a b c d 1 1=dP a b c d 1 1/\dP a b c d 1 2=dP a b c d 1 2/\dP a b c d 2 0=dP a b c d 2 0/\dP a b c d 2 1=dP a b c d 2 1/\dP a b c d 2 2=dP a b c d 2 2/\List.map (fun(i:Nat)=>List.map (fun(j:Nat)=>dZ a b c d i j) (List.range 3)) (List.range (aA i))=List.map (fun(i:Nat)=>List.map (fun(j:Nat)=>dZ a b c d i j) (List.range 3)) (List.range (aA i))/\dP a b c d (aA i) 0=dP a b c d (aA i) 0/\dP a b c d (aA i) 1=dP a b c d (aA i) 1/\dP a b c d (aA i) 2=dP a b c d (aA i) 2/\List.map (fun(j:Nat)=>dZ a b c d (aA i) j) (List.range (aA i_1))++Rat.divInt (List.getD (List.getD (List.getD x0z (Int.toNat (aF (aA i))) x1z) 0 0::List.getD (List.getD x0z (Int.toNat (aF (aA i))) x1z) (0+1) 0::List.getD (List.getD x0z (Int.toNat (aF (aA i))) x1z) (0+1+1) 0::aB Int) (Int.toNat (aF (aA i_1))) 0) (dG a b c d)::aB Rat=List.map (fun(j:Nat)=>dZ a b c d (aA i) j) (List.range (aA i'))/\True) ((List.length (List.map (fun(i:Nat)=>List.map (fun(j:Nat)=>dZ a b c d i j) (List.range 3)) (List.range (aA i)))+List.length (List.map (fun(j:Nat)=>dZ a b c d (aA i) j) (List.range (aA i_1))::aB (List Rat))<=1000000000/\True)/\∃ (i':Le3),3-aA i'<3-aA i/\IntKind.wrap IntKind.i64 (aF (aA i)+1)=aF (aA i')/\dP a b c d 0 0=dP a b c d 0 0/\dP a b c d 0 1=dP a b c d 0 1/\dP a b c d 0 2=dP a b c d 0 2/\dP a b c d 1 0=dP a b c d 1 0/\dP a b c d 1 1=dP a b c d 1 1/\dP a b c d 1 2=dP a b c d 1 2/\dP a b c d 2 0=dP a b c d 2 0/\dP a b c d 2 1=dP a b c d 2 1/\dP a b c d 2 2=dP a b c d 2 2/\List.map (fun(i:Nat)=>List.map (fun(j:Nat)=>dZ a b c d i j) (List.range 3)) (List.range (aA i))++List.map (fun(j:Nat)=>dZ a b c d (aA i) j) (List.range (aA i_1))::aB (List Rat)=List.map (fun(i:Nat)=>List.map (fun(j:Nat)=>dZ a b c d i j) (List.range 3)) (List.range (aA i'))/\True)) (True/\(List.map (fun(i:Nat)=>List.map (fun(j:Nat)=>dZ a b c d i j) (List.range 3)) (List.range (aA i))=if bG a b c d=0 then oJ a b c d else aB (List Rat))/\True/\0=bG a b c d/\True))) (by kernel_rfl) ?_
 dsimp only[aF,aA,asT,aB,iC] at *
 simp only[fA,true_and,and_true,decide_eq_true_eq,decide_eq_false_iff_not,Int.toNat_natCast,Option.some.injEq,List.length_map,List.length_range,List.length_cons,List.length_nil,true_implies,implies_true,bne_iff_ne,ne_eq,bne_eq_false_iff_eq]
 refine⟨fun h=>(if_neg h).symm,fun h=>?_⟩
 obtain⟨hn,oa,ob,oc,od⟩:=kG h
 have hN:=kJ hn
 obtain⟨b6W,b6X⟩:=aZ oa oa
 obtain⟨b6Y,b6Z⟩:=aZ oa ob
 obtain⟨b7a,b7b⟩:=aZ oa oc
 obtain⟨b7c,b7d⟩:=aZ oa od
 obtain⟨b7f,b7g⟩:=aZ ob ob
 obtain⟨b7h,b7i⟩:=aZ ob oc
 obtain⟨b7j,b7k⟩:=aZ ob od
 obtain⟨b7l,b7m⟩:=aZ oc oc
 obtain⟨b7n,b7o⟩:=aZ oc od
 obtain⟨b7p,b7q⟩:=aZ od od
 simp(disch:=omega) only[dR,if_pos h]
 refine⟨(by and_intros<;>rfl),fun i=>⟨fun h1=>?_,fun h1=>?_⟩⟩
 ·have hi:=i.2
  have h1:i.1<3:=by omega
  have hM:∀ k,k<3->([([[a*a+b*b-c*c-d*d,2*(b*c-a*d),2*(b*d+a*c)],[2*(b*c+a*d),a*a-b*b+c*c-d*d,2*(c*d-a*b)],[2*(b*d-a*c),2*(c*d+a*b),a*a-b*b-c*c+d*d]].getD i.1 (0::List.replicate 2 0)).getD 0 0,([[a*a+b*b-c*c-d*d,2*(b*c-a*d),2*(b*d+a*c)],[2*(b*c+a*d),a*a-b*b+c*c-d*d,2*(c*d-a*b)],[2*(b*d-a*c),2*(c*d+a*b),a*a-b*b-c*c+d*d]].getD i.1 (0::List.replicate 2 0)).getD (0+1) 0,([[a*a+b*b-c*c-d*d,2*(b*c-a*d),2*(b*d+a*c)],[2*(b*c+a*d),a*a-b*b+c*c-d*d,2*(c*d-a*b)],[2*(b*d-a*c),2*(c*d+a*b),a*a-b*b-c*c+d*d]].getD i.1 (0::List.replicate 2 0)).getD (0+1+1) 0]:List Int).getD k 0=dP a b c d i.1 k:=by
   intro k hk
   have e:i.1=0\/i.1=1\/i.1=2:=by omega
   have e':k=0\/k=1\/k=2:=by omega
   rcases e with e|e|e<;>rw[e]<;>rcases e' with rfl|rfl|rfl<;>rfl
  refine⟨⟨by omega,by omega⟩,⟨hM 0 (by omega),hM 1 (by omega),hM 2 (by omega)⟩,fun k=>⟨fun h2=>?_,fun h2=>?_⟩⟩
  all_goals
   have hk:=k.2
  ·have hk3:k.1<3:=by omega
   rw[hM k.1 hk3]
   have rb:=DL oa ob oc od h1 hk3
   have nb:bZ (dG a b c d):=by unfold bZ dG;omega
   refine⟨⟨by omega,by omega⟩,⟨⟨oa,ob,oc,od⟩,⟨by omega,by omega⟩,nb,by omega⟩,by omega,⟨k.1+1,by omega⟩,by simp only;omega,by simp only;omega,?_⟩
   simp only[List.range_succ,List.map_append,List.map_cons,List.map_nil]
   rfl
  ·have hk:k.1=3:=by omega
   refine⟨by omega,⟨i.1+1,by omega⟩,by simp only;omega,by simp only;omega,?_⟩
   rw[hk]
   simp only[List.range_succ (n:=i.1),List.map_append,List.map_cons,List.map_nil]
 ·have hi:=i.2
  have hi:i.1=3:=by omega
  rw[hi]
  exact⟨rfl,h.symm⟩
end Go.Proofs.YtidfgdchcpmnfaaGreat
