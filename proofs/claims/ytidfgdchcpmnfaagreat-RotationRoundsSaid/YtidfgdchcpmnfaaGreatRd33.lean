/-
  RotationRounds: Round returns the specified quaternion or code, for all fractions (of at most 18 digits) and sizes; a canonical quaternion is not changed by rounding to its own size. Conditions: none beyond those of the given row.
-/
import Derived.Test.YtidfgdchcpmnfaaGreatRd31
import Derived.Test.YtidfgdchcpmnfaaGreatRd32
namespace Go.Proofs.YtidfgdchcpmnfaaGreat
open Go Go.RowKit
set_option maxRecDepth 100000
set_option maxHeartbeats 1000000
set_option linter.unusedVariables false
set_option linter.unusedSimpArgs false
def b3j (l:List Rat):RL:=l.map kC
abbrev s8 (x y:Rat):Prop:=rsz x<=190000000/\rsz y<=190000000
def unL (l:RL):List Rat:=l.map fun x=>x.x
def b6C:Ctr:=⟨[tQ,tQ],[tR,tI],fun x=>s8 x.1 x.2.1/\(show Rat from x.2.1)≠0,fun x=>(kC ((show Rat from x.1) / (show Rat from x.2.1)),(0:Int),())⟩
theorem a9Z {f:FuncId} (h:∀ (v u:Value) (x y:Rat) (w:World),RQ w v x->RQ w u y->rsz x<=190000000->rsz y<=190000000->y≠0->Calls Tryz.prog f #[v,u] w (GQC (x / y) 0 w)):dI Tryz.prog f b6C:=by
 intro F w vs x hF hvs hp
 obtain⟨v,vs',rfl,h1,u,vs'',rfl,h2,h3⟩:=hvs
 have h3:vs''=[]:=h3
 subst h3
 refine(h v u x.1 x.2.1 w (sU h1) (sU h2) hp.1.1 hp.1.2 hp.2).mono ?_
 rintro e w' ⟨r,rfl,hr,hb⟩
 exact⟨_,rfl,⟨[_,_],rfl,_,_,rfl,ZB hr,_,_,rfl,tC _,rfl⟩,hb⟩
noncomputable def LN0:Lib:=(((((((LI6
 ).add 23 (b2j s8 lY) (a3Y fun v u x y w a b h=>CQ v u x y w a b h.1 h.2)
 ).add 22 (cQI (fun x=>rsz x<=190000000) (fun x=>sgn x.num)) (a7v fun v x w h hl=>wV v x w h (Nat.le_trans hl (by omega)))
 ).add 24 (cIQ aZ (fun i=>(i:Rat))) (WU fun x w h=>JF x w h.1 h.2)
 ).add 51 (cIQ aZ (fun i=>(i:Rat))) (WU fun x w h=>jP x w h.1 h.2)
 ).add 94 (cQ1 (fun x=>rsz x<=190000000) jJ) (a2f fun v x w a h=>a6n v x w a (Nat.le_trans h (by omega)))
 ).add 74 b6C (a9Z fun v u x y w a b l1 l2 hy=>a9j v u x y w a b l1 l2 hy)
 ).add 95 (cQZ 400000000 Rat.floor) (a7w fun v x w a h=>a1q v x w a h)
def mxQ (q:Nat->Rat):Nat->Rat
 | 0=>((0:Int):Rat)
 | k+1=>if lY (jJ (q k)) (mxQ q k) > 0 then jJ (q k) else mxQ q k
def rdX (q:Nat->Rat) (s:Int) (j:Nat):Int:=Rat.floor (q j*(s:Rat) / mxQ q 4+Rat.divInt 1 2)
def lQ (l:RL) (j:Nat):Rat:=(l.getD j dV).x
def rdT (l:RL) (s:Int):QC4:=if l.all (·.ok)=true/\mxQ (lQ l) 4≠0 then (if 1<=s/\s<=1048576 then aU (rdX (lQ l) s) else ((0,0,0,0,()),2,())) else ((0,0,0,0,()),1,())
def sm4 (l:RL):Prop:=l.length=4/\∀ q ∈ l,sm2 q
abbrev z4:Res:=.box [⟨tI,(0:Int)⟩,⟨tI,(0:Int)⟩,⟨tI,(0:Int)⟩,⟨tI,(0:Int)⟩]
def cRd:Ctr:=⟨[.arr 4 tR,tI],[mP,tI],fun x=>sm4 x.1/\aZ x.2.1,fun x=>rdT x.1 x.2.1⟩
theorem fl1 (n:Int):Rat.floor ((n:Rat)+Rat.divInt 1 2)=n:=by
 have e:Rat.divInt 1 2=1/2:=by decide +kernel
 rw[e]
 have h1:n<=Rat.floor ((n:Rat)+1/2):=Rat.le_floor_iff.2 (by grind)
 have h2:Rat.floor ((n:Rat)+1/2)<n+1:=Rat.floor_lt_iff.2 (by rw[Rat.intCast_add,Rat.intCast_one];grind)
 omega
theorem a7M (a d:Int) (hd:1<=d):(a / d).natAbs<=a.natAbs:=by
 have h1:=Int.mul_ediv_add_emod a d
 have h2:=Int.emod_nonneg a (show d≠0 by omega)
 have h3:=Int.emod_lt_of_pos a (show 0<d by omega)
 generalize a / d=t at *
 generalize a%d=r at *
 by_cases ht:0<=t
 ·have:=Int.mul_le_mul_of_nonneg_right hd ht
  omega
 ·have:=Int.mul_le_mul_of_nonpos_right hd (show t+1<=0 by omega)
  rw[Int.mul_add,Int.mul_one] at this
  omega
theorem a4f (x y:Rat):lY x y > 0↔y<x:=by
 unfold lY
 split
 ·constructor
  ·intro h;omega
  ·intro h;grind
 ·split
  ·constructor
   ·intro _;assumption
   ·intro _;omega
  ·constructor
   ·intro h;omega
   ·intro h;contradiction
theorem QH (q:Nat->Rat):∀ k,0<=mxQ q k/\(∀ j,j<k->jJ (q j)<=mxQ q k)/\(mxQ q k=0\/∃ j,j<k/\jJ (q j)=mxQ q k)
 | 0=>⟨by show (0:Rat)<=((0:Int):Rat);decide +kernel,fun j h=>by omega,.inl (by show ((0:Int):Rat)=0;decide +kernel)⟩
 | k+1=>by
  obtain⟨h1,h2,h3⟩:=QH q k
  have ha:0<=jJ (q k):=by unfold jJ;grind
  show 0<=(if lY (jJ (q k)) (mxQ q k) > 0 then jJ (q k) else mxQ q k)/\(∀ j,j<k+1->jJ (q j)<=(if lY (jJ (q k)) (mxQ q k) > 0 then jJ (q k) else mxQ q k))/\((if lY (jJ (q k)) (mxQ q k) > 0 then jJ (q k) else mxQ q k)=0\/∃ j,j<k+1/\jJ (q j)=(if lY (jJ (q k)) (mxQ q k) > 0 then jJ (q k) else mxQ q k))
  by_cases hc:lY (jJ (q k)) (mxQ q k) > 0
  ·rw[if_pos hc]
   rw[a4f] at hc
   refine⟨ha,fun j hj=>?_,.inr ⟨k,by omega,rfl⟩⟩
   rcases Nat.lt_succ_iff_lt_or_eq.1 hj with hj|rfl
   ·have:=h2 j hj;grind
   ·grind
  ·rw[if_neg hc]
   rw[a4f] at hc
   refine⟨h1,fun j hj=>?_,h3.imp id (fun⟨j,h4,h5⟩=>⟨j,by omega,h5⟩)⟩
   rcases Nat.lt_succ_iff_lt_or_eq.1 hj with hj|rfl
   ·exact h2 j hj
   ·grind
theorem a4K (q:Nat->Rat) (k:Nat):mxQ q k=0↔∀ j,j<k->q j=0:=by
 obtain⟨h1,h2,h3⟩:=QH q k
 constructor
 ·intro h j hj
  have:=h2 j hj
  rw[h] at this
  unfold jJ at this
  grind
 ·intro h
  rcases h3 with h3|⟨j,hj,h3⟩
  ·exact h3
  ·rw[<-h3,h j hj];decide +kernel
theorem a9g {q:Nat->Rat} {s:Int} (hs:1<=s) (hg:mxQ q 4≠0):∃ j,j<4/\rdX q s j≠0:=by
 obtain⟨h1,h2,h3⟩:=QH q 4
 obtain⟨j,hj,h3⟩:=h3.resolve_left hg
 refine⟨j,hj,?_⟩
 unfold rdX
 unfold jJ at h3
 split at h3
 ·have e:q j*(s:Rat) / mxQ q 4=((-s:Int):Rat):=by
   rw[Rat.intCast_neg];grind
  rw[e,fl1];omega
 ·have e:q j*(s:Rat) / mxQ q 4=(s:Rat):=by grind
  rw[e,fl1];omega
theorem MZ (q:Rat):rsz (jJ q)=rsz q:=by
 unfold jJ
 split
 ·exact FV q
 ·rfl
theorem a2R {q:Nat->Rat} {K k:Nat} (hK:1<=K) (h:∀ j,j<k->rsz (q j)<=K):rsz (mxQ q k)<=K:=by
 obtain⟨_,_,h3⟩:=QH q k
 rcases h3 with h3|⟨j,hj,h3⟩
 ·rw[h3,FW];omega
 ·rw[<-h3,MZ];exact h j hj
theorem a5K (y:Rat):isz y.floor<=rsz y:=by
 refine Nat.le_trans (zD ?_) (dA y)
 rw[<-JG]
 exact a7M _ _ (by have:=kE y;omega)
theorem b1W {q:Nat->Rat} {s:Int} (hq:∀ j,j<4->rsz (q j)<=2) (h0:1<=s) (h1:s<=1048576) (hg:mxQ q 4≠0) {j:Nat} (hj:j<4):rsz (s:Rat)<=2/\rsz (q j*(s:Rat))<=4/\rsz (mxQ q 4)<=2/\rsz (q j*(s:Rat) / mxQ q 4)<=6/\rsz (Rat.divInt 1 2)<=1/\rsz (q j*(s:Rat) / mxQ q 4+Rat.divInt 1 2)<=8/\isz (rdX q s j)<=8/\rsz (q j / mxQ q 4)<=4/\rsz (q j / mxQ q 4*(s:Rat))<=6/\q j / mxQ q 4*(s:Rat)=q j*(s:Rat) / mxQ q 4:=by
 have e:q j / mxQ q 4*(s:Rat)=q j*(s:Rat) / mxQ q 4:=by grind
 have a1:rsz (s:Rat)<=2:=by
  have:=a4Z s
  have:isz s<=1:=qR (by unfold BB;omega)
  omega
 have a2:=iV (q j) (s:Rat)
 have a3:=a2R (K:=2) (by omega) hq
 have a4:=MQ (q j*(s:Rat)) (mxQ q 4) hg
 have a5:rsz (Rat.divInt 1 2)<=1:=by decide +kernel
 have a6:=wW (q j*(s:Rat) / mxQ q 4) (Rat.divInt 1 2)
 have a7:=a5K (q j*(s:Rat) / mxQ q 4+Rat.divInt 1 2)
 have a8:=MQ (q j) (mxQ q 4) hg
 have a9:=hq j hj
 refine⟨a1,by omega,a3,by omega,a5,by omega,by unfold rdX;omega,by omega,by rw[e];omega,e⟩
theorem ZL (y:Int):jJ (y:Rat)=((y.natAbs:Int):Rat):=by
 unfold jJ
 by_cases h:y<0
 ·rw[if_pos (by rw[<-Rat.intCast_zero];exact Rat.intCast_lt_intCast.2 h),<-Rat.intCast_neg]
  congr 1;omega
 ·rw[if_neg (by rw[<-Rat.intCast_zero];exact fun h9=>h (Rat.intCast_lt_intCast.1 h9))]
  congr 1;omega
theorem b3b {Y:Nat->Int} {q:Nat->Rat} (hq:∀ j,j<4->q j=(Y j:Rat)) {M:Int} (h1:∀ j,j<4->Y j<=M/\-Y j<=M) (h2:∃ j,j<4/\(M=Y j\/M=-Y j)):mxQ q 4=(M:Rat):=by
 obtain⟨a1,a2,a3⟩:=QH q 4
 obtain⟨j,hj,h2⟩:=h2
 have hM:0<=M:=by have:=h1 j hj;omega
 have b1:(M:Rat)<=mxQ q 4:=by
  have:=a2 j hj
  rw[hq j hj,ZL] at this
  have e:((Y j).natAbs:Int)=M:=by have:=h1 j hj;omega
  rwa [e] at this
 have b2:mxQ q 4<=(M:Rat):=by
  rcases a3 with a3|⟨i,hi,a3⟩
  ·rw[a3,<-Rat.intCast_zero];exact Rat.intCast_le_intCast.2 hM
  ·rw[<-a3,hq i hi,ZL]
   exact Rat.intCast_le_intCast.2 (by have:=h1 i hi;omega)
 exact Rat.le_antisymm b2 b1
theorem a6j {X:Nat->Int} (ho:wO X) (hn:∃ j,j<4/\X j≠0):aU (fA X)=((fA X 0,fA X 1,fA X 2,fA X 3,()),0,()):=by
 obtain⟨j,hj,hn⟩:=hn
 have hG:=QU hj hn
 have e:∀ j,j<4->fA (fA X) j=fA X j:=fun j hj=>a1b (xs:=fA X) (ys:=X) (s:=iK X) (t:=1) hG (by omega) (fun j hj=>by rw[Int.one_mul];exact(QV X hj).symm) hj
 have hp:wO (fA X):=fun j hj=>by rw[e j hj];exact ho j hj
 unfold aU
 rw[if_pos hp,e 0 (by omega),e 1 (by omega),e 2 (by omega),e 3 (by omega)]
theorem a9h {Y:Nat->Int} (hn:∃ j,j<4/\Y j≠0) (hp:aU Y=((Y 0,Y 1,Y 2,Y 3,()),0,())) {M:Int} (hM:M<=1048576) (h1:∀ j,j<4->Y j<=M/\-Y j<=M) (h2:∃ j,j<4/\(M=Y j\/M=-Y j)):rdT [kC (Y 0:Rat),kC (Y 1:Rat),kC (Y 2:Rat),kC (Y 3:Rat)] M=((Y 0,Y 1,Y 2,Y 3,()),0,()):=by
 have hq:∀ j,j<4->lQ [kC (Y 0:Rat),kC (Y 1:Rat),kC (Y 2:Rat),kC (Y 3:Rat)] j=(Y j:Rat):=fun j hj=>by
  match j,hj with
  | 0,_=>rfl
  | 1,_=>rfl
  | 2,_=>rfl
  | 3,_=>rfl
 have hg:=b3b hq h1 h2
 have hM1:1<=M:=by obtain⟨j,hj,hn⟩:=hn;have:=h1 j hj;omega
 have hM0:(M:Rat)≠0:=fun h=>by
  have:=Rat.intCast_inj.1 (h.trans Rat.intCast_zero.symm)
  omega
 unfold rdT
 rw[if_pos ⟨rfl,by rw[hg];exact hM0⟩,if_pos ⟨hM1,hM⟩,<-hp]
 refine kD (fun j hj=>?_)
 unfold rdX
 rw[hg,hq j hj]
 have e:(Y j:Rat)*(M:Rat) / (M:Rat)=(Y j:Rat):=by grind
 rw[e,fl1]
theorem pK (a b:Int):a<=oK a b/\b<=oK a b/\(oK a b=a\/oK a b=b):=by
 unfold oK
 split<;>omega
theorem b1S {q:Nat->Rat}:nzB q=true↔mxQ q 4≠0:=by
 constructor
 ·intro h e
  obtain⟨j,hj,hn⟩:=a8S h
  exact hn ((a4K q 4).1 e j hj)
 ·intro h
  cases hz:nzB q with
  | true=>rfl
  | false =>
   refine absurd ((a4K q 4).2 (fun j hj=>?_)) h
   refine Classical.byContradiction fun hn=>?_
   unfold nzB at hz
   rw[vX hj (decide_eq_false hn)] at hz;cases hz
theorem a3h {l:RL} {s:Int} (h:¬ (l.all (·.ok)=true/\mxQ (lQ l) 4≠0)):rdT l s=((0,0,0,0,()),1,()):=if_neg h
theorem a9i {l:RL} {s:Int} (h:l.all (·.ok)=true/\mxQ (lQ l) 4≠0) (hs:¬ (1<=s/\s<=1048576)):rdT l s=((0,0,0,0,()),2,()):=by unfold rdT;rw[if_pos h,if_neg hs]
theorem b1V {l:RL} {s:Int} (h:l.all (·.ok)=true/\mxQ (lQ l) 4≠0) (hs:1<=s/\s<=1048576):rdT l s=aU (rdX (lQ l) s):=by unfold rdT;rw[if_pos h,if_pos hs]
theorem MO (s:Int):(bif decide (s<1) then true else decide (s > 1048576))=true↔¬ (1<=s/\s<=1048576):=by
 by_cases h:s<1
 ·rw[decide_eq_true h];simp;omega
 ·rw[decide_eq_false h];simp;omega
theorem a6z:dI Tryz.prog 45 cRd:=by
 refine fO LN0 [4,6,8,9,11,13,14] Tryz.func45 rfl (by decide) (fun x=>[.inv Le4 (fun k=>[(34,.val tI (k.1:Int))]) (fun k=>[(4,z4),(6,.box [⟨tQ,mxQ (lQ x.1) k.1⟩])]) (fun k=>4-k.1) ⟨0,by omega⟩ (fun _=>[]),.turns 5 [50] [4,6,9,11] []]) (fun x hp=>?_)
 obtain⟨l,s,u⟩:=x
 change RL at l;change Int at s
 refine iO (let x0z:=(aH.x (List.getD l 0 dV)*jG s);let x1z:=(aH.x (List.getD l 1 dV)*jG s);let x2z:=(aH.x (List.getD l 2 dV)*jG s);let x3z:=(aH.x (List.getD l 3 dV)*jG s);let x4z:=(List.drop 0 (List.take 4 l));(asT Int 0<=0/\asT Int 0<=4/\asT Int 4<=4/\(List.length x4z<=1000/\∀ (q:aH),q ∈ List.drop 0 (List.take 4 l)->aH.n q<=1000000000/\aH.m q<=1000000000)/\(((!List.all x4z fun(x:aH)=>aH.ok x)==false)=true->((!List.all x4z fun(x:aH)=>aH.ok x)==false)=true/\a7f (fun(x:Ty.den (Ty.lf Lf.jF))=>eY ((aH.ok x=true)::aV Prop)) l/\(List.length (unL l)=4/\∀ (j:Nat),j<4->rsz (qL (unL l) j)<=400000000)/\True)/\(((!List.all x4z fun(x:aH)=>aH.ok x)==false)=true->((!List.all x4z fun(x:aH)=>aH.ok x)==false)=true/\True)/\((!List.all x4z fun(x:aH)=>aH.ok x)=false->((!List.all x4z fun(x:aH)=>aH.ok x)==false)=true)/\True)/\ifB (bif !List.all x4z fun(x:aH)=>aH.ok x then true else !nzB (qL (unL l))) (True/\(0,0,0,0,())=Prod.fst (rdT l s)/\True/\1=Prod.fst (Prod.snd (rdT l s))/\True) ((((decide (s<1)==false)=true->(decide (s<1)==false)=true/\True)/\(decide (s<1)=false->(decide (s<1)==false)=true)/\True)/\ifB (bif decide (s<1) then true else decide (s > 1048576)) (True/\(0,0,0,0,())=Prod.fst (rdT l s)/\True/\2=Prod.fst (Prod.snd (rdT l s))/\True) ((aZ 0/\True)/\(asT Int 0=0/\asT Int 0=0/\asT Int 0=0/\asT Int 0=0/\asT Int 0=0/\jG 0=mxQ (lQ l) 0/\True)/\∀ (i:Le4),asT Bool true=true/\ifB (decide (aF (aA i)<4)) ((0<=aF (aA i)/\aF (aA i)<4/\True)/\(aH.ok (List.getD l (Int.toNat (aF (aA i))) dV)=true/\s4 (aH.x (List.getD l (Int.toNat (aF (aA i))) dV))/\True)/\(s44 (jJ (aH.x (List.getD l (Int.toNat (aF (aA i))) dV))) (mxQ (lQ l) (aA i))/\True)/\ifB (decide (lY (jJ (aH.x (List.getD l (Int.toNat (aF (aA i))) dV))) (mxQ (lQ l) (aA i)) > 0)) (∃ (i':Le4),4-aA i'<4-aA i/\IntKind.wrap IntKind.i64 (aF (aA i)+1)=aF (aA i')/\asT Int 0=0/\asT Int 0=0/\asT Int 0=0/\asT Int 0=0/\jJ (aH.x (List.getD l (Int.toNat (aF (aA i))) dV))=mxQ (lQ l) (aA i')/\True) (∃ (i':Le4),4-aA i'<4-aA i/\IntKind.wrap IntKind.i64 (aF (aA i)+1)=aF (aA i')/\asT Int 0=0/\asT Int 0=0/\asT Int 0=0/\asT Int 0=0/\mxQ (lQ l) (aA i)=mxQ (lQ l) (aA i')/\True)) (((aZ 1/\aZ 2/\asT Int 2≠0)/\True)/\(asT Int 0<=0/\asT Int 0<4/\True)/\(aZ s/\aH.ok (List.getD l 0 dV)=true/\s44 (aH.x (List.getD l 0 dV)) (jG s)/\(rsz x0z<=400000000/\rsz (mxQ (lQ l) (aA i))<=400000000)/\True)/\(aH.ok (Prod.fst (fQ 14 x0z (mxQ (lQ l) (aA i))))=true/\s44 (aH.x (Prod.fst (fQ 14 x0z (mxQ (lQ l) (aA i))))) (Rat.divInt 1 2)/\rsz (aH.x (Prod.fst (fQ 14 x0z (mxQ (lQ l) (aA i))))+Rat.divInt 1 2)<=400000000/\True)/\(asT Int 0=0/\asT Int 0=0/\asT Int 0=0/\asT Int 0=0/\mxQ (lQ l) (aA i)=mxQ (lQ l) (aA i)/\asT Rat (Rat.divInt 1 2)=Rat.divInt 1 2/\Rat.floor (aH.x (Prod.fst (fQ 14 x0z (mxQ (lQ l) (aA i))))+Rat.divInt 1 2)=Rat.floor (aH.x (Prod.fst (fQ 14 x0z (mxQ (lQ l) (aA i))))+Rat.divInt 1 2)/\asT Int 0=0/\asT Int 0=0/\asT Int 0=0/\True)/\asT Bool true=true/\(asT Int 0<=1/\asT Int 1<4/\True)/\(aZ s/\aH.ok (List.getD l 1 dV)=true/\s44 (aH.x (List.getD l 1 dV)) (jG s)/\(rsz x1z<=400000000/\rsz (mxQ (lQ l) (aA i))<=400000000)/\True)/\(aH.ok (Prod.fst (fQ 14 x1z (mxQ (lQ l) (aA i))))=true/\s44 (aH.x (Prod.fst (fQ 14 x1z (mxQ (lQ l) (aA i))))) (Rat.divInt 1 2)/\rsz (aH.x (Prod.fst (fQ 14 x1z (mxQ (lQ l) (aA i))))+Rat.divInt 1 2)<=400000000/\True)/\(asT Int 0=0/\asT Int 0=0/\asT Int 0=0/\asT Int 0=0/\mxQ (lQ l) (aA i)=mxQ (lQ l) (aA i)/\asT Rat (Rat.divInt 1 2)=Rat.divInt 1 2/\Rat.floor (aH.x (Prod.fst (fQ 14 x0z (mxQ (lQ l) (aA i))))+Rat.divInt 1 2)=Rat.floor (aH.x (Prod.fst (fQ 14 x0z (mxQ (lQ l) (aA i))))+Rat.divInt 1 2)/\Rat.floor (aH.x (Prod.fst (fQ 14 x1z (mxQ (lQ l) (aA i))))+Rat.divInt 1 2)=Rat.floor (aH.x (Prod.fst (fQ 14 x1z (mxQ (lQ l) (aA i))))+Rat.divInt 1 2)/\asT Int 0=0/\asT Int 0=0/\True)/\asT Bool true=true/\(asT Int 0<=2/\asT Int 2<4/\True)/\(aZ s/\aH.ok (List.getD l 2 dV)=true/\s44 (aH.x (List.getD l 2 dV)) (jG s)/\(rsz x2z<=400000000/\rsz (mxQ (lQ l) (aA i))<=400000000)/\True)/\(aH.ok (Prod.fst (fQ 14 x2z (mxQ (lQ l) (aA i))))=true/\s44 (aH.x (Prod.fst (fQ 14 x2z (mxQ (lQ l) (aA i))))) (Rat.divInt 1 2)/\rsz (aH.x (Prod.fst (fQ 14 x2z (mxQ (lQ l) (aA i))))+Rat.divInt 1 2)<=400000000/\True)/\(asT Int 0=0/\asT Int 0=0/\asT Int 0=0/\asT Int 0=0/\mxQ (lQ l) (aA i)=mxQ (lQ l) (aA i)/\asT Rat (Rat.divInt 1 2)=Rat.divInt 1 2/\Rat.floor (aH.x (Prod.fst (fQ 14 x0z (mxQ (lQ l) (aA i))))+Rat.divInt 1 2)=Rat.floor (aH.x (Prod.fst (fQ 14 x0z (mxQ (lQ l) (aA i))))+Rat.divInt 1 2)/\Rat.floor (aH.x (Prod.fst (fQ 14 x1z (mxQ (lQ l) (aA i))))+Rat.divInt 1 2)=Rat.floor (aH.x (Prod.fst (fQ 14 x1z (mxQ (lQ l) (aA i))))+Rat.divInt 1 2)/\Rat.floor (aH.x (Prod.fst (fQ 14 x2z (mxQ (lQ l) (aA i))))+Rat.divInt 1 2)=Rat.floor (aH.x (Prod.fst (fQ 14 x2z (mxQ (lQ l) (aA i))))+Rat.divInt 1 2)/\asT Int 0=0/\True)/\asT Bool true=true/\(asT Int 0<=3/\asT Int 3<4/\True)/\(aZ s/\aH.ok (List.getD l 3 dV)=true/\s44 (aH.x (List.getD l 3 dV)) (jG s)/\(rsz x3z<=400000000/\rsz (mxQ (lQ l) (aA i))<=400000000)/\True)/\(aH.ok (Prod.fst (fQ 14 x3z (mxQ (lQ l) (aA i))))=true/\s44 (aH.x (Prod.fst (fQ 14 x3z (mxQ (lQ l) (aA i))))) (Rat.divInt 1 2)/\rsz (aH.x (Prod.fst (fQ 14 x3z (mxQ (lQ l) (aA i))))+Rat.divInt 1 2)<=400000000/\True)/\(asT Int 0=0/\asT Int 0=0/\asT Int 0=0/\asT Int 0=0/\mxQ (lQ l) (aA i)=mxQ (lQ l) (aA i)/\asT Rat (Rat.divInt 1 2)=Rat.divInt 1 2/\Rat.floor (aH.x (Prod.fst (fQ 14 x0z (mxQ (lQ l) (aA i))))+Rat.divInt 1 2)=Rat.floor (aH.x (Prod.fst (fQ 14 x0z (mxQ (lQ l) (aA i))))+Rat.divInt 1 2)/\Rat.floor (aH.x (Prod.fst (fQ 14 x1z (mxQ (lQ l) (aA i))))+Rat.divInt 1 2)=Rat.floor (aH.x (Prod.fst (fQ 14 x1z (mxQ (lQ l) (aA i))))+Rat.divInt 1 2)/\Rat.floor (aH.x (Prod.fst (fQ 14 x2z (mxQ (lQ l) (aA i))))+Rat.divInt 1 2)=Rat.floor (aH.x (Prod.fst (fQ 14 x2z (mxQ (lQ l) (aA i))))+Rat.divInt 1 2)/\Rat.floor (aH.x (Prod.fst (fQ 14 x3z (mxQ (lQ l) (aA i))))+Rat.divInt 1 2)=Rat.floor (aH.x (Prod.fst (fQ 14 x3z (mxQ (lQ l) (aA i))))+Rat.divInt 1 2)/\True)/\asT Bool true=true/\((List.length (Rat.floor (aH.x (Prod.fst (fQ 14 x0z (mxQ (lQ l) (aA i))))+Rat.divInt 1 2)::Rat.floor (aH.x (Prod.fst (fQ 14 x1z (mxQ (lQ l) (aA i))))+Rat.divInt 1 2)::Rat.floor (aH.x (Prod.fst (fQ 14 x2z (mxQ (lQ l) (aA i))))+Rat.divInt 1 2)::Rat.floor (aH.x (Prod.fst (fQ 14 x3z (mxQ (lQ l) (aA i))))+Rat.divInt 1 2)::aV Int)=4/\(∀ (j:Nat),j<4->isz (xsL (Rat.floor (aH.x (Prod.fst (fQ 14 x0z (mxQ (lQ l) (aA i))))+Rat.divInt 1 2)::Rat.floor (aH.x (Prod.fst (fQ 14 x1z (mxQ (lQ l) (aA i))))+Rat.divInt 1 2)::Rat.floor (aH.x (Prod.fst (fQ 14 x2z (mxQ (lQ l) (aA i))))+Rat.divInt 1 2)::Rat.floor (aH.x (Prod.fst (fQ 14 x3z (mxQ (lQ l) (aA i))))+Rat.divInt 1 2)::aV Int) j)<=400000000)/\∃ (j:Nat),j<4/\xsL (Rat.floor (aH.x (Prod.fst (fQ 14 x0z (mxQ (lQ l) (aA i))))+Rat.divInt 1 2)::Rat.floor (aH.x (Prod.fst (fQ 14 x1z (mxQ (lQ l) (aA i))))+Rat.divInt 1 2)::Rat.floor (aH.x (Prod.fst (fQ 14 x2z (mxQ (lQ l) (aA i))))+Rat.divInt 1 2)::Rat.floor (aH.x (Prod.fst (fQ 14 x3z (mxQ (lQ l) (aA i))))+Rat.divInt 1 2)::aV Int) j≠0)/\True)/\True/\(Prod.fst (Prod.fst (aU (xsL (Rat.floor (aH.x (Prod.fst (fQ 14 x0z (mxQ (lQ l) (aA i))))+Rat.divInt 1 2)::Rat.floor (aH.x (Prod.fst (fQ 14 x1z (mxQ (lQ l) (aA i))))+Rat.divInt 1 2)::Rat.floor (aH.x (Prod.fst (fQ 14 x2z (mxQ (lQ l) (aA i))))+Rat.divInt 1 2)::Rat.floor (aH.x (Prod.fst (fQ 14 x3z (mxQ (lQ l) (aA i))))+Rat.divInt 1 2)::aV Int)))),Prod.fst (Prod.snd (Prod.fst (aU (xsL (Rat.floor (aH.x (Prod.fst (fQ 14 x0z (mxQ (lQ l) (aA i))))+Rat.divInt 1 2)::Rat.floor (aH.x (Prod.fst (fQ 14 x1z (mxQ (lQ l) (aA i))))+Rat.divInt 1 2)::Rat.floor (aH.x (Prod.fst (fQ 14 x2z (mxQ (lQ l) (aA i))))+Rat.divInt 1 2)::Rat.floor (aH.x (Prod.fst (fQ 14 x3z (mxQ (lQ l) (aA i))))+Rat.divInt 1 2)::aV Int))))),Prod.fst (Prod.snd (Prod.snd (Prod.fst (aU (xsL (Rat.floor (aH.x (Prod.fst (fQ 14 x0z (mxQ (lQ l) (aA i))))+Rat.divInt 1 2)::Rat.floor (aH.x (Prod.fst (fQ 14 x1z (mxQ (lQ l) (aA i))))+Rat.divInt 1 2)::Rat.floor (aH.x (Prod.fst (fQ 14 x2z (mxQ (lQ l) (aA i))))+Rat.divInt 1 2)::Rat.floor (aH.x (Prod.fst (fQ 14 x3z (mxQ (lQ l) (aA i))))+Rat.divInt 1 2)::aV Int)))))),Prod.fst (Prod.snd (Prod.snd (Prod.snd (Prod.fst (aU (xsL (Rat.floor (aH.x (Prod.fst (fQ 14 x0z (mxQ (lQ l) (aA i))))+Rat.divInt 1 2)::Rat.floor (aH.x (Prod.fst (fQ 14 x1z (mxQ (lQ l) (aA i))))+Rat.divInt 1 2)::Rat.floor (aH.x (Prod.fst (fQ 14 x2z (mxQ (lQ l) (aA i))))+Rat.divInt 1 2)::Rat.floor (aH.x (Prod.fst (fQ 14 x3z (mxQ (lQ l) (aA i))))+Rat.divInt 1 2)::aV Int))))))),())=Prod.fst (rdT l s)/\True/\Prod.fst (Prod.snd (aU (xsL (Rat.floor (aH.x (Prod.fst (fQ 14 x0z (mxQ (lQ l) (aA i))))+Rat.divInt 1 2)::Rat.floor (aH.x (Prod.fst (fQ 14 x1z (mxQ (lQ l) (aA i))))+Rat.divInt 1 2)::Rat.floor (aH.x (Prod.fst (fQ 14 x2z (mxQ (lQ l) (aA i))))+Rat.divInt 1 2)::Rat.floor (aH.x (Prod.fst (fQ 14 x3z (mxQ (lQ l) (aA i))))+Rat.divInt 1 2)::aV Int))))=Prod.fst (Prod.snd (rdT l s))/\True)))) (by kernel_rfl) ?_
 dsimp only[aF,aA,asT,aV,jG] at *
 simp only[gU,true_and,and_true,decide_eq_true_eq,decide_eq_false_iff_not,Int.toNat_natCast,true_implies,implies_true,bne_iff_ne,ne_eq,bne_eq_false_iff_eq,Bool.not_eq_true',Bool.not_eq_false',beq_iff_eq,beq_eq_false_iff_ne]
 obtain⟨⟨hl,hs⟩,hw⟩:=hp
 obtain⟨x0,x1,x2,x3,rfl⟩:=list4 hl
 have e4:List.drop 0 (List.take 4 [x0,x1,x2,x3])=[x0,x1,x2,x3]:=rfl
 have w0:aZ 0:=by unfold aZ;omega
 have w1:aZ 1:=by unfold aZ;omega
 have w2:aZ 2:=by unfold aZ;omega
 have s0:=hs x0 (by simp)
 have s1:=hs x1 (by simp)
 have s2:=hs x2 (by simp)
 have s3:=hs x3 (by simp)
 have big:∀ q ∈ [x0,x1,x2,x3],q.n<=1000000000/\q.m<=1000000000:=fun q h=>⟨Nat.le_trans (hs q h).1 (by omega),Nat.le_trans (hs q h).2.1 (by omega)⟩
 have hU:∀ j,qL (unL [x0,x1,x2,x3]) j=lQ [x0,x1,x2,x3] j:=fun j=>by
  unfold qL unL lQ
  rw[List.getD_eq_getElem?_getD,List.getD_eq_getElem?_getD,List.getElem?_map]
  cases [x0,x1,x2,x3][j]?<;>rfl
 have hU:qL (unL [x0,x1,x2,x3])=lQ [x0,x1,x2,x3]:=funext hU
 have hx:∀ j,(List.getD [x0,x1,x2,x3] j dV).x=lQ [x0,x1,x2,x3] j:=fun _=>rfl
 have hQ:∀ j,j<4->rsz (lQ [x0,x1,x2,x3] j)<=2:=fun j hj=>by
  match j,hj with
  | 0,_=>exact s0.2.2
  | 1,_=>exact s1.2.2
  | 2,_=>exact s2.2.2
  | 3,_=>exact s3.2.2
 rw[e4,hU]
 simp only[hx]
 have lu:(unL [x0,x1,x2,x3]).length=4:=rfl
 refine⟨⟨by omega,by omega,by omega,⟨by show 4<=1000;omega,big⟩,fun h=>⟨h,?_,lu,fun j hj=>Nat.le_trans (hQ j hj) (by omega)⟩,fun h=>h,fun h=>h⟩,fun h=>?_,fun h=>?_⟩
 ·simp only[List.all_cons,List.all_nil,Bool.and_true,Bool.and_eq_true] at h
  exact⟨⟨h.1,trivial⟩,⟨h.2.1,trivial⟩,⟨h.2.2.1,trivial⟩,⟨h.2.2.2,trivial⟩,trivial⟩
 ·rw[a3h (fun h9=>by rw[h9.1,b1S.2 h9.2] at h;cases h)];exact⟨rfl,rfl⟩
 ·have hg:[x0,x1,x2,x3].all (·.ok)=true/\mxQ (lQ [x0,x1,x2,x3]) 4≠0:=by
   rw[<-b1S]
   revert h
   cases [x0,x1,x2,x3].all (·.ok)<;>cases nzB (lQ [x0,x1,x2,x3])<;>decide
  refine⟨⟨fun h=>h,fun h=>h⟩,fun h9=>?_,fun h9=>⟨w0,rfl,fun i=>⟨fun h1=>⟨⟨by omega,by omega⟩,⟨?_,Nat.le_trans (hQ _ (by omega)) (by omega)⟩,⟨by rw[MZ];exact Nat.le_trans (hQ _ (by omega)) (by omega),Nat.le_trans (a2R (K:=2) (by omega) (fun j hj=>hQ j (by omega))) (by omega)⟩,fun h2=>⟨⟨i.1+1,by omega⟩,by simp only;omega,by rw[dY (by omega) (by omega)];rfl,(if_pos h2).symm⟩,fun h2=>⟨⟨i.1+1,by omega⟩,by simp only;omega,by rw[dY (by omega) (by omega)];rfl,(if_neg h2).symm⟩⟩,fun h1=>?_⟩⟩⟩
  ·rw[a9i hg ((MO s).1 h9)];exact⟨rfl,rfl⟩
  ·exact jU (p:=fun q:aH=>q.ok=true) (List.all_eq_true.1 hg.1) (by show i.1<4;omega)
  ·have hi:i.1=4:=by have:=i.2;omega
   have hr:1<=s/\s<=1048576:=Classical.byContradiction fun hn=>by rw[(MO s).2 hn] at h9;cases h9
   rw[hi,b1V hg hr]
   have dv:∀ x,fQ 14 x (mxQ (lQ [x0,x1,x2,x3]) 4)=(kC (x / mxQ (lQ [x0,x1,x2,x3]) 4),0,()):=fun x=>if_neg hg.2
   simp only[dv]
   have Z:=fun j hj=>b1W (q:=lQ [x0,x1,x2,x3]) (s:=s) hQ hr.1 hr.2 hg.2 (j:=j) hj
   have ok:∀ j,j<4->(List.getD [x0,x1,x2,x3] j dV).ok=true:=fun j hj=>jU (p:=fun q:aH=>q.ok=true) (List.all_eq_true.1 hg.1) (by show j<4;exact hj)
   have hX:∀ j,j<4->xsL [rdX (lQ [x0,x1,x2,x3]) s 0,rdX (lQ [x0,x1,x2,x3]) s 1,rdX (lQ [x0,x1,x2,x3]) s 2,rdX (lQ [x0,x1,x2,x3]) s 3] j=rdX (lQ [x0,x1,x2,x3]) s j:=fun j hj=>by
    match j,hj with
    | 0,_=>rfl
    | 1,_=>rfl
    | 2,_=>rfl
    | 3,_=>rfl
   have hP:=kD hX
   obtain⟨jn,hj,hn⟩:=a9g hr.1 hg.2
   have A:∀ j,j<4->aZ s/\(List.getD [x0,x1,x2,x3] j dV).ok=true/\s44 (lQ [x0,x1,x2,x3] j) (s:Rat)/\rsz (lQ [x0,x1,x2,x3] j*(s:Rat))<=400000000/\rsz (mxQ (lQ [x0,x1,x2,x3]) 4)<=400000000:=fun j hj=>by
    obtain⟨z1,z2,z3,_⟩:=Z j hj
    have:=hQ j hj
    exact⟨hw,ok j hj,⟨by omega,by omega⟩,by omega,by omega⟩
   have B:∀ j,j<4->(kC (lQ [x0,x1,x2,x3] j*(s:Rat) / mxQ (lQ [x0,x1,x2,x3]) 4)).ok=true/\s44 (kC (lQ [x0,x1,x2,x3] j*(s:Rat) / mxQ (lQ [x0,x1,x2,x3]) 4)).x (Rat.divInt 1 2)/\rsz ((kC (lQ [x0,x1,x2,x3] j*(s:Rat) / mxQ (lQ [x0,x1,x2,x3]) 4)).x+Rat.divInt 1 2)<=400000000:=fun j hj=>by
    obtain⟨_,_,_,z4,z5,z6,_⟩:=Z j hj
    exact⟨rfl,⟨Nat.le_trans z4 (by omega),by omega⟩,Nat.le_trans z6 (by omega)⟩
   refine⟨⟨w1,w2,by decide⟩,⟨by omega,by omega⟩,A 0 (by omega),B 0 (by omega),⟨by omega,by omega⟩,A 1 (by omega),B 1 (by omega),⟨by omega,by omega⟩,A 2 (by omega),B 2 (by omega),⟨by omega,by omega⟩,A 3 (by omega),B 3 (by omega),⟨rfl,fun j hj=>?_,jn,hj,?_⟩,?_,?_⟩
   ·refine Nat.le_trans (Nat.le_of_eq (congrArg isz (hX j hj))) (Nat.le_trans (Z j hj).2.2.2.2.2.2.1 (by omega))
   ·exact fun e=>hn ((hX jn hj).symm.trans e)
   ·exact congrArg (fun p:QC4=>p.1) hP
   ·exact congrArg (fun p:QC4=>p.2.1) hP
noncomputable def LN1:Lib:=LN0.add 45 cRd a6z
theorem a3p:dI Tryz.prog 46 cRd:=by
 refine fO LN1 [4,6,8,12] Tryz.func46 rfl (by decide) (fun x=>[.inv {k:Nat // k<=4/\((show RL from x.1).take k).all (·.ok)=true} (fun k=>[(7,.val tI (k.1:Int))]) (fun k=>[(4,z4),(6,.box [⟨tQ,mxQ (lQ x.1) k.1⟩])]) (fun k=>4-k.1) ⟨0,by omega,rfl⟩ (fun _=>[]),.inv Le4 (fun k=>[(10,.own 51 0),(51,.any),(11,.val tI (k.1:Int))]) (fun k=>[(4,z4),(6,.box [⟨tQ,mxQ (lQ x.1) 4⟩]),(8,.box [⟨tQ,Rat.divInt 1 2⟩]),(51,.row 28 tZ ((List.range k.1).map (rdX (lQ x.1) x.2.1)) 0)]) (fun k=>4-k.1) ⟨0,by omega⟩ (fun _=>[])]) (fun x hp=>?_)
 obtain⟨l,s,u⟩:=x
 change RL at l;change Int at s
 refine iO ((aZ 0/\True)/\(asT Int 0=0/\asT Int 0=0/\asT Int 0=0/\asT Int 0=0/\asT Int 0=0/\jG 0=mxQ (lQ l) 0/\True)/\∀ (i:{ k:Nat // k<=4/\(List.all (List.take k l) fun(x:aH)=>aH.ok x)=true }),asT Bool true=true/\ifB (decide (aF (aA i)<4)) ((0<=aF (aA i)/\aF (aA i)<4/\(aH.n (List.getD l (Int.toNat (aF (aA i))) dV)<=999999999/\aH.m (List.getD l (Int.toNat (aF (aA i))) dV)<=999999999)/\True)/\ifB (!aH.ok (List.getD l (Int.toNat (aF (aA i))) dV)) (True/\(0,0,0,0,())=Prod.fst (rdT l s)/\True/\1=Prod.fst (Prod.snd (rdT l s))/\True) ((0<=aF (aA i)/\aF (aA i)<4/\aH.ok (List.getD l (Int.toNat (aF (aA i))) dV)=true/\rsz (aH.x (List.getD l (Int.toNat (aF (aA i))) dV))<=190000000/\s8 (jJ (aH.x (List.getD l (Int.toNat (aF (aA i))) dV))) (mxQ (lQ l) (aA i))/\True)/\ifB (decide (lY (jJ (aH.x (List.getD l (Int.toNat (aF (aA i))) dV))) (mxQ (lQ l) (aA i)) > 0)) ((0<=aF (aA i)/\aF (aA i)<4/\aH.ok (List.getD l (Int.toNat (aF (aA i))) dV)=true/\rsz (aH.x (List.getD l (Int.toNat (aF (aA i))) dV))<=190000000/\True)/\∃ (i':{ k:Nat // k<=4/\(List.all (List.take k l) fun(x:aH)=>aH.ok x)=true }),4-aA i'<4-aA i/\IntKind.wrap IntKind.i64 (aF (aA i)+1)=aF (aA i')/\asT Int 0=0/\asT Int 0=0/\asT Int 0=0/\asT Int 0=0/\jJ (aH.x (List.getD l (Int.toNat (aF (aA i))) dV))=mxQ (lQ l) (aA i')/\True) (∃ (i':{ k:Nat // k<=4/\(List.all (List.take k l) fun(x:aH)=>aH.ok x)=true }),4-aA i'<4-aA i/\IntKind.wrap IntKind.i64 (aF (aA i)+1)=aF (aA i')/\asT Int 0=0/\asT Int 0=0/\asT Int 0=0/\asT Int 0=0/\mxQ (lQ l) (aA i)=mxQ (lQ l) (aA i')/\True))) ((rsz (mxQ (lQ l) (aA i))<=190000000/\True)/\ifB (sgn (Rat.num (mxQ (lQ l) (aA i)))==0) (True/\(0,0,0,0,())=Prod.fst (rdT l s)/\True/\1=Prod.fst (Prod.snd (rdT l s))/\True) ((((decide (s<1)==false)=true->(decide (s<1)==false)=true/\True)/\(decide (s<1)=false->(decide (s<1)==false)=true)/\True)/\ifB (bif decide (s<1) then true else decide (s > 1048576)) (True/\(0,0,0,0,())=Prod.fst (rdT l s)/\True/\2=Prod.fst (Prod.snd (rdT l s))/\True) (((aZ 1/\aZ 2/\asT Int 2≠0)/\True)/\(asT Int 0=0/\asT Int 0=0/\asT Int 0=0/\asT Int 0=0/\asT Int 0=0/\mxQ (lQ l) (aA i)=mxQ (lQ l) 4/\asT Rat (Rat.divInt 1 2)=Rat.divInt 1 2/\asT (List Int) (aV Int)=aV Int/\True)/\∀ (i:Le4),asT Bool true=true/\ifB (decide (aF (aA i)<4)) ((0<=aF (aA i)/\aF (aA i)<4/\aH.ok (List.getD l (Int.toNat (aF (aA i))) dV)=true/\(s8 (aH.x (List.getD l (Int.toNat (aF (aA i))) dV)) (mxQ (lQ l) 4)/\mxQ (lQ l) 4≠0)/\True)/\(aZ s/\asT Bool true=true/\(rsz (aH.x (List.getD l (Int.toNat (aF (aA i))) dV) / mxQ (lQ l) 4)<=190000000/\rsz (jG s)<=190000000)/\(rsz (aH.x (List.getD l (Int.toNat (aF (aA i))) dV) / mxQ (lQ l) 4*jG s)<=190000000/\rsz (Rat.divInt 1 2)<=190000000)/\True)/\(rsz (aH.x (List.getD l (Int.toNat (aF (aA i))) dV) / mxQ (lQ l) 4*jG s+Rat.divInt 1 2)<=400000000/\List.length (List.map (rdX (lQ l) s) (List.range (aA i)))+List.length (Rat.floor (aH.x (List.getD l (Int.toNat (aF (aA i))) dV) / mxQ (lQ l) 4*jG s+Rat.divInt 1 2)::aV Int)<=1000000000/\True)/\∃ (i':Le4),4-aA i'<4-aA i/\IntKind.wrap IntKind.i64 (aF (aA i)+1)=aF (aA i')/\asT Int 0=0/\asT Int 0=0/\asT Int 0=0/\asT Int 0=0/\mxQ (lQ l) 4=mxQ (lQ l) 4/\asT Rat (Rat.divInt 1 2)=Rat.divInt 1 2/\List.map (rdX (lQ l) s) (List.range (aA i))++Rat.floor (aH.x (List.getD l (Int.toNat (aF (aA i))) dV) / mxQ (lQ l) 4*jG s+Rat.divInt 1 2)::aV Int=List.map (rdX (lQ l) s) (List.range (aA i'))/\True) (((List.length (List.map (rdX (lQ l) s) (List.range (aA i)))=4/\(∀ (j:Nat),j<4->isz (xsL (List.map (rdX (lQ l) s) (List.range (aA i))) j)<=400000000)/\∃ (j:Nat),j<4/\xsL (List.map (rdX (lQ l) s) (List.range (aA i))) j≠0)/\True)/\True/\(Prod.fst (Prod.fst (aU (xsL (List.map (rdX (lQ l) s) (List.range (aA i)))))),Prod.fst (Prod.snd (Prod.fst (aU (xsL (List.map (rdX (lQ l) s) (List.range (aA i))))))),Prod.fst (Prod.snd (Prod.snd (Prod.fst (aU (xsL (List.map (rdX (lQ l) s) (List.range (aA i)))))))),Prod.fst (Prod.snd (Prod.snd (Prod.snd (Prod.fst (aU (xsL (List.map (rdX (lQ l) s) (List.range (aA i))))))))),())=Prod.fst (rdT l s)/\True/\Prod.fst (Prod.snd (aU (xsL (List.map (rdX (lQ l) s) (List.range (aA i))))))=Prod.fst (Prod.snd (rdT l s))/\True))))) (by kernel_rfl) ?_
 dsimp only[aF,aA,asT,aV,jG] at *
 simp only[gU,true_and,and_true,decide_eq_true_eq,decide_eq_false_iff_not,Int.toNat_natCast,true_implies,implies_true,bne_iff_ne,ne_eq,bne_eq_false_iff_eq,Bool.not_eq_true',Bool.not_eq_false',beq_iff_eq,beq_eq_false_iff_ne]
 obtain⟨⟨hl,hs⟩,hw⟩:=hp
 obtain⟨x0,x1,x2,x3,rfl⟩:=list4 hl
 have e4:List.drop 0 (List.take 4 [x0,x1,x2,x3])=[x0,x1,x2,x3]:=rfl
 have w0:aZ 0:=by unfold aZ;omega
 have w1:aZ 1:=by unfold aZ;omega
 have w2:aZ 2:=by unfold aZ;omega
 have s0:=hs x0 (by simp)
 have s1:=hs x1 (by simp)
 have s2:=hs x2 (by simp)
 have s3:=hs x3 (by simp)
 have big:∀ q ∈ [x0,x1,x2,x3],q.n<=1000000000/\q.m<=1000000000:=fun q h=>⟨Nat.le_trans (hs q h).1 (by omega),Nat.le_trans (hs q h).2.1 (by omega)⟩
 have hU:∀ j,qL (unL [x0,x1,x2,x3]) j=lQ [x0,x1,x2,x3] j:=fun j=>by
  unfold qL unL lQ
  rw[List.getD_eq_getElem?_getD,List.getD_eq_getElem?_getD,List.getElem?_map]
  cases [x0,x1,x2,x3][j]?<;>rfl
 have hU:qL (unL [x0,x1,x2,x3])=lQ [x0,x1,x2,x3]:=funext hU
 have hx:∀ j,(List.getD [x0,x1,x2,x3] j dV).x=lQ [x0,x1,x2,x3] j:=fun _=>rfl
 have hQ:∀ j,j<4->rsz (lQ [x0,x1,x2,x3] j)<=2:=fun j hj=>by
  match j,hj with
  | 0,_=>exact s0.2.2
  | 1,_=>exact s1.2.2
  | 2,_=>exact s2.2.2
  | 3,_=>exact s3.2.2
 simp only[hx]
 have okA:∀ j,j<4->[x0,x1,x2,x3].all (·.ok)=true->(List.getD [x0,x1,x2,x3] j dV).ok=true:=fun j hj h=>jU (p:=fun q:aH=>q.ok=true) (List.all_eq_true.1 h) (by show j<4;exact hj)
 have bg:∀ j,j<4->(List.getD [x0,x1,x2,x3] j dV).n<=999999999/\(List.getD [x0,x1,x2,x3] j dV).m<=999999999:=fun j hj=>by
  have:=jU (p:=fun q:aH=>sm2 q) hs (by show j<4;exact hj) (d:=dV)
  exact⟨Nat.le_trans this.1 (by omega),Nat.le_trans this.2.1 (by omega)⟩
 have m2:∀ k,k<=4->rsz (mxQ (lQ [x0,x1,x2,x3]) k)<=190000000:=fun k hk=>Nat.le_trans (a2R (K:=2) (by omega) (fun j hj=>hQ j (by omega))) (by omega)
 have q2:∀ j,j<4->rsz (lQ [x0,x1,x2,x3] j)<=190000000:=fun j hj=>Nat.le_trans (hQ j hj) (by omega)
 refine⟨w0,rfl,fun i=>⟨fun h1=>⟨⟨by omega,by omega,bg i.1 (by omega)⟩,fun h2=>?_,fun h2=>⟨⟨by omega,by omega,h2,q2 i.1 (by omega),⟨by rw[MZ];exact q2 i.1 (by omega),m2 i.1 (by omega)⟩⟩,fun h3=>⟨⟨by omega,by omega,h2,q2 i.1 (by omega)⟩,⟨i.1+1,by omega,?_⟩,by simp only;omega,by rw[dY (by omega) (by omega)];rfl,(if_pos h3).symm⟩,fun h3=>⟨⟨i.1+1,by omega,?_⟩,by simp only;omega,by rw[dY (by omega) (by omega)];rfl,(if_neg h3).symm⟩⟩⟩,fun h1=>?_⟩⟩
 ·rw[a3h (fun h9=>by rw[a7g (d:=dV) (by show i.1<4;omega) h2] at h9;exact Bool.noConfusion h9.1)];exact⟨rfl,rfl⟩
 ·rw[EF (d:=dV) (by show i.1<4;omega),i.2.2,h2];rfl
 ·rw[EF (d:=dV) (by show i.1<4;omega),i.2.2,h2];rfl
 ·have hi:i.1=4:=by have:=i.2.1;omega
  have ha:[x0,x1,x2,x3].all (·.ok)=true:=by have:=i.2.2;rw[hi] at this;exact this
  rw[hi]
  refine⟨m2 4 (by omega),fun h=>?_,fun h=>?_⟩
  ·rw[oD,Rat.num_eq_zero] at h
   rw[a3h (fun h9=>h9.2 h)];exact⟨rfl,rfl⟩
  rw[oD,Rat.num_eq_zero] at h
  have hg:[x0,x1,x2,x3].all (·.ok)=true/\mxQ (lQ [x0,x1,x2,x3]) 4≠0:=⟨ha,h⟩
  refine⟨⟨fun h=>h,fun h=>h⟩,fun h9=>?_,fun h9=>?_⟩
  ·rw[a9i hg ((MO s).1 h9)];exact⟨rfl,rfl⟩
  have hr:1<=s/\s<=1048576:=Classical.byContradiction fun hn=>by rw[(MO s).2 hn] at h9;cases h9
  have Z:=fun j hj=>b1W (q:=lQ [x0,x1,x2,x3]) (s:=s) hQ hr.1 hr.2 hg.2 (j:=j) hj
  rw[b1V hg hr]
  refine⟨⟨w1,w2,by decide⟩,rfl,fun k=>⟨fun h4=>?_,fun h4=>?_⟩⟩
  ·obtain⟨z1,z2,z3,z4,z5,z6,z7,z8,z9,z10⟩:=Z k.1 (by omega)
   rw[z10]
   refine⟨⟨by omega,by omega,okA k.1 (by omega) ha,⟨q2 k.1 (by omega),m2 4 (by omega)⟩,h⟩,⟨hw,⟨by omega,by omega⟩,by omega,by omega⟩,⟨by omega,by simp only[List.length_map,List.length_range,List.length_cons,List.length_nil];omega⟩,⟨k.1+1,by omega⟩,by simp only;omega,by rw[dY (by omega) (by omega)];rfl,?_⟩
   simp only[List.range_succ,List.map_append,List.map_cons,List.map_nil];rfl
  ·have hk:k.1=4:=by have:=k.2;omega
   rw[hk]
   have hX:∀ j,j<4->xsL (List.map (rdX (lQ [x0,x1,x2,x3]) s) (List.range 4)) j=rdX (lQ [x0,x1,x2,x3]) s j:=fun j hj=>by
    match j,hj with
    | 0,_=>rfl
    | 1,_=>rfl
    | 2,_=>rfl
    | 3,_=>rfl
   rw[kD hX]
   obtain⟨jn,hj,hn⟩:=a9g hr.1 hg.2
   exact⟨⟨rfl,fun j hj=>by rw[hX j hj];exact Nat.le_trans (Z j hj).2.2.2.2.2.2.1 (by omega),jn,hj,by rw[hX jn hj];exact hn⟩,rfl,rfl⟩
noncomputable def LN2:Lib:=LN1.add 46 cRd a3p
theorem YM:dI Tryz.prog 80 b0b:=by
 refine fO LN2 [8] Tryz.func80 rfl (by decide) (fun x=>[]) (fun x hp=>?_)
 obtain⟨a,b,c,d,u⟩:=x
 change Int at a;change Int at b;change Int at c;change Int at d
 refine iO (let x0z:=(a::b::c::d::aV Int);(aZ a/\aZ b/\aZ c/\aZ d/\(List.length x0z=4/\(∀ (j:Nat),j<4->isz (xsL x0z j)<=400000000)/\∃ (j:Nat),j<4/\xsL x0z j≠0)/\True)/\True/\(Prod.fst (Prod.fst (aU (xsL x0z))),Prod.fst (Prod.snd (Prod.fst (aU (xsL x0z)))),Prod.fst (Prod.snd (Prod.snd (Prod.fst (aU (xsL x0z))))),Prod.fst (Prod.snd (Prod.snd (Prod.snd (Prod.fst (aU (xsL x0z)))))),())=Prod.fst (aU (xs4 a b c d))/\True/\Prod.fst (Prod.snd (aU (xsL x0z)))=Prod.fst (Prod.snd (aU (xs4 a b c d)))/\True) (by kernel_rfl) ?_
 dsimp only[aF,aA,asT,aV,jG] at *
 obtain⟨⟨wa,wb,wc,wd⟩,hn⟩:=hp
 have hX:∀ j,j<4->xsL [a,b,c,d] j=xs4 a b c d j:=fun j hj=>by
  match j,hj with
  | 0,_=>rfl
  | 1,_=>rfl
  | 2,_=>rfl
  | 3,_=>rfl
 rw[kD hX]
 refine⟨⟨wa,wb,wc,wd,⟨rfl,fun j hj=>?_,?_⟩,trivial⟩,trivial,rfl,trivial,rfl,trivial⟩
 ·match j,hj with
  | 0,_=>exact qI wa.1 wa.2
  | 1,_=>exact qI wb.1 wb.2
  | 2,_=>exact qI wc.1 wc.2
  | 3,_=>exact qI wd.1 wd.2
 ·by_cases h1:a=0
  ·by_cases h2:b=0
   ·by_cases h3:c=0
    ·exact⟨3,by omega,fun e=>hn ⟨h1,h2,h3,e⟩⟩
    ·exact⟨2,by omega,h3⟩
   ·exact⟨1,by omega,h2⟩
  ·exact⟨0,by omega,h1⟩
noncomputable def LN3:Lib:=LN2.add 80 b0b YM
theorem a1i:dI Tryz.prog 27 (cHQ (fun _ _ _ _=>True) dZ):=by
 refine fO LN3 [2] Tryz.func27 rfl (by decide) (fun x=>[]) (fun x hp=>?_)
 obtain⟨⟨a,b,c,d,v⟩,u⟩:=x
 change Int at a;change Int at b;change Int at c;change Int at d
 refine iO ((True/\True)/\ifB (dH a b c d != 0) (True/\(0,0,0,0,())=Prod.fst (dZ a b c d)/\True/\dH a b c d=Prod.fst (Prod.snd (dZ a b c d))/\True) ((((aZ a/\aZ b/\aZ c/\aZ d)/\¬(a=0/\b=0/\c=0/\d=0))/\True)/\True/\(Prod.fst (Prod.fst (aU (xs4 a b c d))),Prod.fst (Prod.snd (Prod.fst (aU (xs4 a b c d)))),Prod.fst (Prod.snd (Prod.snd (Prod.fst (aU (xs4 a b c d))))),Prod.fst (Prod.snd (Prod.snd (Prod.snd (Prod.fst (aU (xs4 a b c d)))))),())=Prod.fst (dZ a b c d)/\True/\Prod.fst (Prod.snd (aU (xs4 a b c d)))=Prod.fst (Prod.snd (dZ a b c d))/\True)) (by kernel_rfl) ?_
 refine⟨⟨trivial,trivial⟩,gU.2 ⟨fun h=>?_,fun h=>?_⟩⟩
 ·have h:=bne_iff_ne.1 h
  have e:dZ a b c d=((0,0,0,0,()),dH a b c d,()):=if_neg h
  rw[e]
  exact⟨trivial,rfl,trivial,rfl,trivial⟩
 ·have h:dH a b c d=0:=by simpa using h
  obtain⟨hn,oa,ob,oc,od⟩:=nZ h
  have e:dZ a b c d=aU (xs4 a b c d):=if_pos h
  rw[e]
  exact⟨⟨⟨⟨jV oa,jV ob,jV oc,jV od⟩,hn⟩,trivial⟩,trivial,rfl,trivial,rfl,trivial⟩
noncomputable def LN4:Lib:=(LN3.add 27 (cHQ (fun _ _ _ _=>True) dZ) a1i).add 12 (cB true) a5T
theorem b0d {a b c d:Int} (h:(dZ a b c d).2.1=0):∃ Y:Nat->Int,dZ a b c d=((Y 0,Y 1,Y 2,Y 3,()),0,())/\(∀ j,j<4->okc (Y j))/\(∃ j,j<4/\Y j≠0)/\aU Y=((Y 0,Y 1,Y 2,Y 3,()),0,()):=by
 by_cases hq:dH a b c d=0
 ·have e:dZ a b c d=aU (xs4 a b c d):=if_pos hq
  obtain⟨hn,_⟩:=nZ hq
  have hn:∃ j,j<4/\xs4 a b c d j≠0:=by
   by_cases h1:a=0
   ·by_cases h2:b=0
    ·by_cases h3:c=0
     ·exact⟨3,by omega,fun e=>hn ⟨h1,h2,h3,e⟩⟩
     ·exact⟨2,by omega,h3⟩
    ·exact⟨1,by omega,h2⟩
   ·exact⟨0,by omega,h1⟩
  by_cases ho:wO (xs4 a b c d)
  ·have e2:aU (xs4 a b c d)=((fA (xs4 a b c d) 0,fA (xs4 a b c d) 1,fA (xs4 a b c d) 2,fA (xs4 a b c d) 3,()),0,()):=if_pos ho
   refine⟨fA (xs4 a b c d),e.trans e2,ho,?_,a6j ho hn⟩
   obtain⟨j,hj,hn⟩:=hn
   refine⟨j,hj,fun h0=>hn ?_⟩
   rw[QV (xs4 a b c d) hj,h0,Int.mul_zero]
  ·have e2:aU (xs4 a b c d)=((0,0,0,0,()),3,()):=if_neg ho
   rw[e,e2] at h;cases h
 ·have e:dZ a b c d=((0,0,0,0,()),dH a b c d,()):=if_neg hq
  rw[e] at h;exact absurd h hq
theorem MS {y:Int} (h:okc y):sm2 (kC (y:Rat)):=by
 unfold okc at h
 have h1:isz y<=1:=qR (by unfold BB;omega)
 refine⟨?_,?_,Nat.le_trans (a4Z y) (by omega)⟩
 ·show (dig ((y:Rat)).num.natAbs).length<=2
  rw[MC];exact Nat.le_trans h1 (by omega)
 ·show (dig ((y:Rat)).den).length<=2
  rw[MB];decide +kernel
theorem b1y {n:Int} (h:(Lit.int .i64 n).wf=true):aZ n:=by
 simp[Lit.wf,IntKind.min,IntKind.max,IntKind.bits,IntKind.signed] at h
 unfold aZ
 omega
theorem a3n:dI Tryz.prog 11 ⟨[.arr 4 tR,tI,mP],[.bool],fun x=>((show RL from x.1).length=4/\∀ q ∈ (show RL from x.1),a7S q)/\aZ x.2.1,fun _=>(true,())⟩:=by
 refine fO LN4 [8,9,11,13,16] Tryz.func11 rfl (by decide) (fun x=>[.inv {k:Nat // k<=4/\((show RL from x.1).take k).all (fun q=>decide (q.g.length<=2/\q.h.length<=2))=true} (fun k=>[(21,.val tI (k.1:Int))]) (fun k=>[]) (fun k=>4-k.1) ⟨0,by omega,rfl⟩ (fun _=>[])]) (fun x hp=>?_)
 obtain⟨l,s,⟨a,b,c,d,v⟩,u⟩:=x
 change RL at l;change Int at s;change Int at a;change Int at b;change Int at c;change Int at d
 refine iO (let x0z:=(rdT (b3j (jG (Prod.fst (Prod.fst (dZ a b c d)))::jG (Prod.fst (Prod.snd (Prod.fst (dZ a b c d))))::jG (Prod.fst (Prod.snd (Prod.snd (Prod.fst (dZ a b c d)))))::jG (Prod.fst (Prod.snd (Prod.snd (Prod.snd (Prod.fst (dZ a b c d))))))::aV Rat)) (oK (oK (oK (oK (oK (oK (oK (Prod.fst (Prod.fst (dZ a b c d))) (IntKind.wrap IntKind.i64 (0-Prod.fst (Prod.fst (dZ a b c d))))) (Prod.fst (Prod.snd (Prod.fst (dZ a b c d))))) (IntKind.wrap IntKind.i64 (0-Prod.fst (Prod.snd (Prod.fst (dZ a b c d)))))) (Prod.fst (Prod.snd (Prod.snd (Prod.fst (dZ a b c d)))))) (IntKind.wrap IntKind.i64 (0-Prod.fst (Prod.snd (Prod.snd (Prod.fst (dZ a b c d))))))) (Prod.fst (Prod.snd (Prod.snd (Prod.snd (Prod.fst (dZ a b c d))))))) (IntKind.wrap IntKind.i64 (0-Prod.fst (Prod.snd (Prod.snd (Prod.snd (Prod.fst (dZ a b c d)))))))));let x1z:=(eqI (Prod.fst (Prod.fst (rdT l s))) (Prod.fst (Prod.fst (rdT l s)))&&(eqI (Prod.fst (Prod.snd (Prod.fst (rdT l s)))) (Prod.fst (Prod.snd (Prod.fst (rdT l s))))&&(eqI (Prod.fst (Prod.snd (Prod.snd (Prod.fst (rdT l s))))) (Prod.fst (Prod.snd (Prod.snd (Prod.fst (rdT l s)))))&&(eqI (Prod.fst (Prod.snd (Prod.snd (Prod.snd (Prod.fst (rdT l s)))))) (Prod.fst (Prod.snd (Prod.snd (Prod.snd (Prod.fst (rdT l s))))))&&true))));let x2z:=(Prod.snd (Prod.fst (dZ a b c d)));(True/\True)/\(asT Int 0=0/\True)/\∀ (i:{ k:Nat // k<=4/\(List.all (List.take k l) fun(q:aH)=>decide (List.length (aH.g q)<=2/\List.length (aH.h q)<=2))=true }),asT Bool true=true/\ifB (decide (aF (aA i)<4)) ((0<=aF (aA i)/\aF (aA i)<4/\True)/\(True/\True)/\ifB (!decide (aH.n (List.getD l (Int.toNat (aF (aA i))) dV)<=2/\aH.m (List.getD l (Int.toNat (aF (aA i))) dV)<=2)) (True/\asT Bool true=true/\True) (∃ (i':{ k:Nat // k<=4/\(List.all (List.take k l) fun(q:aH)=>decide (List.length (aH.g q)<=2/\List.length (aH.h q)<=2))=true }),4-aA i'<4-aA i/\IntKind.wrap IntKind.i64 (aF (aA i)+1)=aF (aA i')/\True)) (((sm4 l/\aZ s)/\True)/\((sm4 l/\aZ s)/\True)/\((((!x1z)==false)=true->((!x1z)==false)=true/\((!x1z)==false)=true/\True)/\((!x1z)=false->((!x1z)==false)=true)/\True)/\ifB (bif !x1z then true else Prod.fst (Prod.snd (rdT l s)) != Prod.fst (Prod.snd (rdT l s))) (True/\asT Bool false=true/\True) ((True/\True)/\ifB (Prod.fst (Prod.snd (dZ a b c d)) != 0) (True/\asT Bool true=true/\True) ((aZ (Prod.fst (Prod.fst (dZ a b c d)))/\aZ (Prod.fst x2z)/\aZ (Prod.fst (Prod.snd x2z))/\aZ (Prod.fst (Prod.snd (Prod.snd x2z)))/\(True/\True/\True/\True/\True)/\(sm4 (b3j (jG (Prod.fst (Prod.fst (dZ a b c d)))::jG (Prod.fst x2z)::jG (Prod.fst (Prod.snd x2z))::jG (Prod.fst (Prod.snd (Prod.snd x2z)))::aV Rat))/\aZ (oK (oK (oK (oK (oK (oK (oK (Prod.fst (Prod.fst (dZ a b c d))) (IntKind.wrap IntKind.i64 (0-Prod.fst (Prod.fst (dZ a b c d))))) (Prod.fst x2z)) (IntKind.wrap IntKind.i64 (0-Prod.fst x2z))) (Prod.fst (Prod.snd x2z))) (IntKind.wrap IntKind.i64 (0-Prod.fst (Prod.snd x2z)))) (Prod.fst (Prod.snd (Prod.snd x2z)))) (IntKind.wrap IntKind.i64 (0-Prod.fst (Prod.snd (Prod.snd x2z))))))/\True)/\((((Prod.fst (Prod.snd x0z)==0)==true)=true->((Prod.fst (Prod.snd x0z)==0)==true)=true/\((Prod.fst (Prod.snd x0z)==0)==true)=true/\True)/\((Prod.fst (Prod.snd x0z)==0)=true->((Prod.fst (Prod.snd x0z)==0)==true)=true)/\True)/\True/\(bif Prod.fst (Prod.snd x0z)==0 then eqI (Prod.fst (Prod.fst x0z)) (Prod.fst (Prod.fst (dZ a b c d)))&&(eqI (Prod.fst (Prod.snd (Prod.fst x0z))) (Prod.fst x2z)&&(eqI (Prod.fst (Prod.snd (Prod.snd (Prod.fst x0z)))) (Prod.fst (Prod.snd x2z))&&(eqI (Prod.fst (Prod.snd (Prod.snd (Prod.snd (Prod.fst x0z))))) (Prod.fst (Prod.snd (Prod.snd x2z)))&&true))) else false)=true/\True)))) (by kernel_rfl) ?_
 obtain⟨⟨hl,hg⟩,hw⟩:=hp
 have hZ:(⟨false,0,[],[]⟩:aH)=dV:=rfl
 dsimp only[aF,aA,asT,aV,jG] at *
 have eq:∀ a:Int,eqI a a=true:=fun a=>by unfold eqI;simp
 have bt:(true==true)=true:=rfl
 have bf:(false==false)=true:=rfl
 simp only[eq,bt,bf,Bool.and_self,Bool.not_true,bne_self_eq_false,cond_false,imp_self,true_and,and_true,gU,decide_eq_true_eq,decide_eq_false_iff_not,Int.toNat_natCast,true_implies,implies_true,Bool.not_eq_true',Bool.not_eq_false',false_implies,Bool.false_eq_true,reduceCtorEq]
 refine fun i=>⟨fun h1=>⟨⟨by omega,by omega⟩,fun h2=>⟨⟨i.1+1,by omega,?_⟩,by simp only;omega,by rw[dY (by omega) (by omega)];rfl⟩⟩,fun h1=>?_⟩
 ·rw[EF (d:=dV) (by omega),i.2.2,Bool.true_and,decide_eq_true_eq];exact h2
 ·have hi:i.1=4:=by have:=i.2.1;omega
  have ha:=i.2.2
  rw[List.take_of_length_le (by omega)] at ha
  have hs:sm4 l:=⟨hl,fun q hq=>by
   have:=List.all_eq_true.1 ha q hq
   rw[decide_eq_true_eq] at this
   exact⟨this.1,this.2,hg q hq 2 (by omega) this.1 this.2⟩⟩
  refine⟨⟨hs,hw⟩,⟨hs,hw⟩,fun hc=>?_⟩
  obtain⟨Y,hY,ok,hn,hp⟩:=b0d (bne_eq_false_iff_eq.1 hc)
  clear hc ha hs hl hg
  rw[hY]
  have o0:=ok 0 (by omega)
  have o1:=ok 1 (by omega)
  have o2:=ok 2 (by omega)
  have o3:=ok 3 (by omega)
  have ss:sm4 [kC (Y 0:Rat),kC (Y 1:Rat),kC (Y 2:Rat),kC (Y 3:Rat)]:=⟨rfl,fun q hq=>by
   simp only[List.mem_cons,List.not_mem_nil,or_false] at hq
   rcases hq with rfl|rfl|rfl|rfl
   ·exact MS o0
   ·exact MS o1
   ·exact MS o2
   ·exact MS o3⟩
  have wo:∀ y,okc y->aZ y:=fun y h=>jV h
  have w0:=wo _ o0
  have w1:=wo _ o1
  have w2:=wo _ o2
  have w3:=wo _ o3
  unfold okc at o0 o1 o2 o3
  simp(disch:=omega) only[dY,Int.zero_sub]
  have rl:b3j [(Y 0:Rat),(Y 1:Rat),(Y 2:Rat),(Y 3:Rat)]=[kC (Y 0:Rat),kC (Y 1:Rat),kC (Y 2:Rat),kC (Y 3:Rat)]:=rfl
  rw[rl]
  obtain⟨m1,m2,m3⟩:=pK (Y 0) (-Y 0)
  generalize oK (Y 0) (-Y 0)=M1 at *
  obtain⟨m4,m5,m6⟩:=pK M1 (Y 1)
  generalize oK M1 (Y 1)=M2 at *
  obtain⟨m7,m8,m9⟩:=pK M2 (-Y 1)
  generalize oK M2 (-Y 1)=M3 at *
  obtain⟨n1,n2,n3⟩:=pK M3 (Y 2)
  generalize oK M3 (Y 2)=M4 at *
  obtain⟨n4,n5,n6⟩:=pK M4 (-Y 2)
  generalize oK M4 (-Y 2)=M5 at *
  obtain⟨n7,n8,n9⟩:=pK M5 (Y 3)
  generalize oK M5 (Y 3)=M6 at *
  obtain⟨p1,p2,p3⟩:=pK M6 (-Y 3)
  generalize oK M6 (-Y 3)=M at *
  have hM:M<=1048576:=by omega
  have hR:=a9h hn hp hM (fun j hj=>by
   match j,hj with
   | 0,_=>exact⟨by omega,by omega⟩
   | 1,_=>exact⟨by omega,by omega⟩
   | 2,_=>exact⟨by omega,by omega⟩
   | 3,_=>exact⟨by omega,by omega⟩) (by
   have:(M=Y 0\/M=-Y 0)\/(M=Y 1\/M=-Y 1)\/(M=Y 2\/M=-Y 2)\/(M=Y 3\/M=-Y 3):=by omega
   rcases this with h|h|h|h
   ·exact⟨0,by omega,h⟩
   ·exact⟨1,by omega,h⟩
   ·exact⟨2,by omega,h⟩
   ·exact⟨3,by omega,h⟩)
  have wM:aZ M:=by unfold aZ;omega
  rw[hR]
  simp[eq,ss,w0,w1,w2,w3,wM]
theorem vrounds_holds:Rows.RotationRoundsSaid:=zN a3n (fun _ _ _ a b _=>⟨⟨a.1,a.2⟩,b1y b⟩)
end Go.Proofs.YtidfgdchcpmnfaaGreat
