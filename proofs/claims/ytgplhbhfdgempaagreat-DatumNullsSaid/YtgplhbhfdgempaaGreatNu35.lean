/-
  Lemmas for the theorem vnulls_holds, part 35 of 36.
-/
import Derived.Lib.SmallJoins
import Derived.OpenShut
import Derived.ProofKit
import Derived.Test.YtgplhbhfdgempaaGreatRows
import Derived.WalkKit
import Derived.Test.YtgplhbhfdgempaaGreatNu25
import Derived.Test.YtgplhbhfdgempaaGreatNu33
import Derived.Test.YtgplhbhfdgempaaGreatNu34
namespace Go.Proofs.YtgplhbhfdgempaaGreat
open Go Go.RowKit
set_option maxRecDepth 100000
set_option maxHeartbeats 1000000
set_option linter.unusedVariables false
set_option linter.unusedSimpArgs false
theorem okM.xX {a:MQ} (h:okM a):Proofs.YtgplhbhfdgempaaGreat.xX a:=⟨by have:=h.r64;omega,fun r hr=>⟨by rw[h.1.2.1 r hr];have:=h.c64;omega,fun q hq=>h.ent hr hq⟩⟩
abbrev LJ':Type:=List Int
def b3K:Ctr:=⟨[tM],[tI],fun x=>okE x.1,fun x=>((rkM x.1:Int),())⟩
def b8D:Ctr:=⟨[.list tI,tI],[tB],fun x=>(show LJ' from x.1).length<=1000000,fun x=>((show LJ' from x.1).any (fun q:Int=>q==(show Int from x.2.1)),())⟩
theorem a6L:aT Tryz.prog 14 b3K:=by
 refine bT (nil0.ad a1H) ⟨[],[],[]⟩ Tryz.func14 rfl (by decide) (fun x=>[]) (fun x hp=>?_)
 obtain⟨a,u⟩:=x
 change List (List Rat) at a
 refine bZ ((okE a/\True)/\True/\aA (List.length (bI (fE a)))=aA (rkM a)/\True) (by kernel_rfl) ?_
 have hZ:(⟨false,0,[],[]⟩:aF)=cZ:=rfl
 dsimp only[aA,asT,aB,aC,Ty.den,Lf.den] at *
 simp only[hZ,Int.toNat_natCast,bG,decide_eq_true_eq,decide_eq_false_iff_not,true_and,and_true,aH,nameAt,aW,aU,bK,rowAt,List.length_set,List.length_range]
 have hE:okE a:=hp
 exact⟨hE,by rw[oI];rfl⟩
theorem a9I:aT Tryz.prog 54 b8D:=by
 refine bT nil0 ⟨[],[],[]⟩ Tryz.func54 rfl (by decide) (fun x=>[.inv {k:Nat // k<=(show LJ' from x.1).length/\((show LJ' from x.1).take k).any (fun q:Int=>q==(show Int from x.2.1))=false} (fun k=>[(5,.val tI (k.1:Int))]) (fun k=>[]) (fun k=>(show LJ' from x.1).length-k.1) ⟨0,by omega,rfl⟩ (fun _=>[])]) (fun x hp=>?_)
 obtain⟨x,v,u⟩:=x
 change List Int at x
 change Int at v
 refine bZ ((asT Int 0=0/\True)/\∀ (i:{ k:Nat // k<=List.length x/\(List.any (List.take k x) fun(q:Int)=>q==v)=false }),asT Bool true=true/\ifB (decide (aA (aB i)<aA (List.length x))) ((0<=aA (aB i)/\aA (aB i)<aA (List.length x)/\True)/\ifB (List.getD x (Int.toNat (aA (aB i))) 0==v) (True/\(true=List.any x fun(q:Int)=>q==v)/\True) (∃ (i':{ k:Nat // k<=List.length x/\(List.any (List.take k x) fun(q:Int)=>q==v)=false }),List.length x-aB i'<List.length x-aB i/\IntKind.wrap IntKind.i64 (aA (aB i)+1)=aA (aB i')/\True)) (True/\(false=List.any x fun(q:Int)=>q==v)/\True)) (by kernel_rfl) ?_
 have hZ:(⟨false,0,[],[]⟩:aF)=cZ:=rfl
 dsimp only[aA,asT,aB,aC,Ty.den,Lf.den] at *
 simp only[hZ,Int.toNat_natCast,bG,decide_eq_true_eq,decide_eq_false_iff_not,true_and,and_true,aH,nameAt,aW,aU,bK,rowAt,List.length_set,List.length_range]
 have hp:x.length<=1000000:=hp
 refine fun i=>⟨fun h1=>⟨⟨by omega,h1⟩,fun h2=>?_,fun h2=>⟨⟨i.1+1,by omega,?_⟩,by simp only;omega,by rw[bH (by omega) (by omega)];rfl⟩⟩,fun h1=>?_⟩
 ·exact(List.any_eq_true.mpr ⟨x.getD i.1 0,KD (by omega),h2⟩).symm
 ·rw[mM (d:=0) (by omega),i.2.2,h2];rfl
 ·have h3:=i.2.2
  rw[List.take_of_length_le (by omega)] at h3
  exact h3.symm
def rnv (a:MQ) (j t:Nat):LQ':=(List.range (wdM a)).map fun d=>if d ∈ (fE a).take t then-(uJ a (wdM a)).1 ((fE a).idxOf d) j else idm d j
def rnl (a:MQ) (j:Nat):LQ':=(List.range (wdM a)).map (IG (uJ a (wdM a)).1 (fE a) j)
theorem b2s {a:MQ} {j t:Nat} (hd:(fE a).Nodup) (ht:t<(fE a).length):(rnv a j t).set (fE a)[t] (- (uJ a (wdM a)).1 t j)=rnv a j (t+1):=by
 unfold rnv;rw[map_set]
 refine List.map_congr_left fun d _=>?_
 by_cases e:d=(fE a)[t]
 ·rw[if_pos e,if_pos ((oL ht).mpr (.inr e)),e,sD hd ht]
 ·rw[if_neg e]
  by_cases e2:d ∈ (fE a).take t
  ·rw[if_pos e2,if_pos ((oL ht).mpr (.inl e2))]
  ·rw[if_neg e2,if_neg (fun h=>((oL ht).mp h).elim e2 e)]
theorem b2r (a:MQ) {j:Nat} (hj:j ∉ fE a):rnv a j (fE a).length=rnl a j:=by
 unfold rnv rnl
 refine List.map_congr_left fun d _=>?_
 rw[List.take_length]
 unfold IG
 by_cases e:d=j
 ·rw[if_neg (by rw[e];exact hj),if_pos e];show (if d=j then (1:Rat) else 0)=_;rw[if_pos e]
 ·rw[if_neg e]
  by_cases e2:d ∈ fE a
  ·rw[if_pos e2,if_pos e2]
  ·rw[if_neg e2,if_neg e2];show (if d=j then (1:Rat) else 0)=_;rw[if_neg e]
def b3I:Ctr:=⟨[tM],[tM],fun x=>okE x.1,fun x=>(fK x.1,())⟩
theorem a6H:aT Tryz.prog 17 b3I:=by
 refine bT (((((nil0.ad b8h).ad TG).an a9V).ad a1H).ad a9I) ⟨[],[],[]⟩ Tryz.func17 rfl (by decide) (fun x=>[.inv {j:Nat // j<=wdM (show MQ from x.1)} (fun j=>[(6,.val tI (j.1:Int)),(5,.own 14 0)]++[(7,.any),(8,.any),(14,.any),(15,.any),(16,.any),(17,.any),(18,.any),(19,.any),(20,.any),(21,.any),(22,.any),(23,.any),(24,.any),(25,.any),(26,.any),(27,.any),(28,.any),(29,.any),(30,.any),(31,.any),(32,.any),(33,.any),(34,.any),(35,.any),(36,.any),(37,.any),(38,.any),(39,.any),(40,.any),(41,.any),(42,.any),(43,.any),(44,.any),(45,.any),(46,.any),(47,.any),(48,.any),(49,.any),(50,.any),(51,.any),(52,.any),(53,.any),(54,.any),(55,.any),(56,.any),(57,.any),(58,.any),(59,.any),(60,.any)]) (fun j=>[(14,.row 32 (.list tQ) ((frees j.1 (fE (show MQ from x.1))).map (rnl (show MQ from x.1))) 0)]) (fun j=>wdM (show MQ from x.1)-j.1) ⟨0,by omega⟩ (fun j=>[
  .inv {t:Nat // t<=(fE (show MQ from x.1)).length} (fun t=>[(8,.val tI (t.1:Int))]++[(30,.any),(31,.any),(32,.any),(33,.any),(34,.any),(35,.any),(36,.any)]) (fun t=>[(14,.row 32 (.list tQ) ((frees j.1 (fE (show MQ from x.1))).map (rnl (show MQ from x.1))) 0),(30,.mat 32 64 tQ none [rnv (show MQ from x.1) j.1 t.1] 0)]) (fun t=>(fE (show MQ from x.1)).length-t.1) ⟨0,by omega⟩ (fun _=>[])])]) (fun x hp=>?_)
 obtain⟨a,u⟩:=x
 change List (List Rat) at a
 refine bZ (let A₁:=(List.length (List.getD a 0 (aC Rat)));let A₂:=(List.range (Int.toNat (aA A₁)));let A₀:=(rowAt (List.map (fun(j:Nat)=>0) A₂::aC (List Rat)) 0);let bJ:=(List.length (bI (fE a)));(okE a/\True)/\(asT Int 0=0/\asT (List (List Rat)) (aC (List Rat))=aC (List Rat)/\True)/\∀ (i:{ j:Nat // j<=wdM a }),let dU:=(frees (aB i) (fE a));let eH:=(Int.toNat (aA (aB i)));asT Bool true=true/\(asT Int 0<=0/\0<aA (List.length a)/\True)/\ifB (decide (aA (aB i)<aA A₁)) ((List.length (bI (fE a))<=1000000/\True)/\ifB (List.any (bI (fE a)) fun(q:Int)=>q==aA (aB i)) (∃ (i':{ j:Nat // j<=wdM a }),wdM a-aB i'<wdM a-aB i/\IntKind.wrap IntKind.i64 (aA (aB i)+1)=aA (aB i')/\List.map (rnl a) dU=List.map (rnl a) (frees (aB i') (fE a))/\True) ((asT Int 0<=0/\0<aA (List.length a)/\(asT Int 0<=1/\asT Int 1<=1000/\0<=aA A₁/\aA A₁<=1000)/\asT Int 0<=0/\0<aA (aH none (List.map (fun(j:Nat)=>0) A₂::aC (List Rat)))/\0<aH none (List.map (fun(j:Nat)=>0) A₂::aC (List Rat))/\True)/\(iO 1/\0<=aA (aB i)/\aA (aB i)<aA (List.length A₀)/\Int.toNat (aA (aB i))<List.length A₀/\True)/\(asT Int 0=0/\0=0/\List.length (List.set A₀ eH (bY 1)::aC (List Rat))=List.length (rnv a (aB i) 0::aC (List Rat))/\0=0/\List.length (List.set A₀ eH (bY 1)::aC (List Rat))=List.length (rnv a (aB i) 0::aC (List Rat))/\List.map (rnl a) dU=List.map (rnl a) dU/\List.set A₀ eH (bY 1)::aC (List Rat)=rnv a (aB i) 0::aC (List Rat)/\True)/\∀ (i_1:{ t:Nat // t<=List.length (fE a) }),let jE:=(Int.toNat (aA (aB i_1)));let iU:=(rowAt (rnv a (aB i) (aB i_1)::aC (List Rat)) 0);let iQ:=(List.getD (vG a) jE (aC Rat));let jP:=(List.getD (bI (fE a)) jE 0);asT Bool true=true/\ifB (decide (aA (aB i_1)<aA bJ)) ((0<=aA (aB i_1)/\aA (aB i_1)<aA bJ/\0<=aA (aB i_1)/\aA (aB i_1)<aA (List.length (vG a))/\0<=aA (aB i)/\aA (aB i)<aA (List.length iQ)/\rsz (List.getD iQ eH 0)<=190000000/\0<=List.getD (bI (fE a)) jE 0/\List.getD (bI (fE a)) jE 0<aA (List.length iU)/\Int.toNat jP<List.length iU/\True)/\∃ (i':{ t:Nat // t<=List.length (fE a) }),List.length (fE a)-aB i'<List.length (fE a)-aB i_1/\IntKind.wrap IntKind.i64 (aA (aB i_1)+1)=aA (aB i')/\0=0/\List.length (List.set iU (Int.toNat jP) (-List.getD iQ eH 0)::aC (List Rat))=List.length (rnv a (aB i) (aB i')::aC (List Rat))/\0=0/\List.length (List.set iU (Int.toNat jP) (-List.getD iQ eH 0)::aC (List Rat))=List.length (rnv a (aB i) (aB i')::aC (List Rat))/\List.map (rnl a) dU=List.map (rnl a) dU/\List.set iU (Int.toNat jP) (-List.getD iQ eH 0)::aC (List Rat)=rnv a (aB i) (aB i')::aC (List Rat)/\True) ((List.length (List.map (rnl a) dU)+List.length (rnv a (aB i) (aB i_1)::aC (List Rat))<=1000000000/\True)/\∃ (i':{ j:Nat // j<=wdM a }),wdM a-aB i'<wdM a-aB i/\IntKind.wrap IntKind.i64 (aA (aB i)+1)=aA (aB i')/\List.map (rnl a) dU++rnv a (aB i) (aB i_1)::aC (List Rat)=List.map (rnl a) (frees (aB i') (fE a))/\True))) (True/\List.map (rnl a) dU=fK a/\True)) (by kernel_rfl) ?_
 have hZ:(⟨false,0,[],[]⟩:aF)=cZ:=rfl
 dsimp only[aA,asT,aB,aC,Ty.den,Lf.den] at *
 simp only[hZ,Int.toNat_natCast,bG,decide_eq_true_eq,decide_eq_false_iff_not,true_and,and_true,aH,nameAt,aW,aU,bK,rowAt,List.length_set,List.length_range]
 have hE:okE a:=hp
 have ha:=hE.1
 have q1:=ha.r64
 have q2:=ha.c64
 have q3:=ha.pos
 have E:Ech a.length (ent a) (wdM a) (uJ a (wdM a)).1 (fE a):=gX a.length (ent a) (wdM a)
 have hle:=E.le
 have l1:(vG a).length=a.length:=bK
 have l2:∀ i,i<a.length->(List.getD (vG a) i []).length=wdM a:=fun i hi=>by unfold vG;rw[iV hi];simp
 have l3:∀ i,i<a.length->∀ c,c<wdM a->(List.getD (vG a) i []).getD c 0=(uJ a (wdM a)).1 i c:=fun i hi c hc=>by unfold vG;rw[iV hi,gI hc]
 have l0:(a.getD 0 []).length=wdM a:=rfl
 have lg:∀ l:List Rat,[l].getD 0 []=l:=fun _=>rfl
 have ln:∀ l:List Rat,[l].length=1:=fun _=>rfl
 simp only[l1,l0,oI,lg,ln,List.length_map,List.length_range]
 refine⟨hE,fun j=>⟨⟨Int.le_refl 0,by omega⟩,fun h1=>⟨by omega,fun h2=>?_,fun h2=>⟨⟨Int.le_refl 0,by omega,⟨by omega,by omega,by omega,by omega⟩,Int.le_refl 0,by omega,by omega⟩,⟨by unfold iO;omega,by omega,by omega,by omega⟩,?_,fun t=>⟨fun h4=>?_,fun h4=>?_⟩⟩⟩,fun h1=>?_⟩⟩
 ·rw[GN] at h2
  have h2:=of_decide_eq_true h2
  refine⟨⟨j.1+1,by omega⟩,by simp only;omega,by rw[bH (by omega) (by omega)];rfl,?_⟩
  show List.map _ (frees j.1 _)=List.map _ (frees (j.1+1) _)
  rw[a0T h2]
 ·refine⟨trivial,trivial,?_⟩
  congr 1
  unfold rnv;rw[map_set]
  refine List.map_congr_left fun d _=>?_
  have e0:d ∉ List.take 0 (fE a):=by simp
  show (if d=j.1 then ((1:Int):Rat) else 0)=if d ∈ List.take 0 (fE a) then _ else (if d=j.1 then 1 else 0)
  rw[if_neg e0]
  by_cases e:d=j.1
  ·rw[if_pos e,if_pos e];rfl
  ·rw[if_neg e,if_neg e]
 ·have ht:t.1<(fE a).length:=by omega
  have hm:=List.getElem_mem ht
  have hp:=E.lt _ hm
  have e1:(bI (fE a)).getD t.1 0=((fE a)[t.1]:Int):=by unfold bI;simp[List.getD_eq_getElem?_getD,ht]
  have l4:(rnv a j.1 t.1).length=wdM a:=by simp[rnv]
  have hj:j.1<wdM a:=by omega
  rw[l2 t.1 (by omega),l3 t.1 (by omega) j.1 hj,e1,l4,Int.toNat_natCast]
  have z:=hE.2 (wdM a) (Nat.le_refl _) t.1 (by omega) j.1 hj
  refine⟨⟨by omega,by omega,by omega,by omega,by omega,by omega,by show rsz ((uJ a (wdM a)).1 t.1 j.1)<=_;unfold uJ;omega,by omega,by omega,hp⟩,⟨t.1+1,by omega⟩,by simp only;omega,by rw[bH (by omega) (by omega)];rfl,trivial,trivial,?_⟩
  congr 1
  exact b2s E.nd ht
 ·have ht:t.1=(fE a).length:=by have:=t.2;omega
  rw[GN] at h2
  have h2:=of_decide_eq_false h2
  have hfl:(frees j.1 (fE a)).length<=j.1:=by unfold frees;have:=List.length_filter_le (fun c=>decide (c ∉ fE a)) (List.range j.1);simpa using this
  refine⟨by omega,⟨j.1+1,by omega⟩,by simp only;omega,by rw[bH (by omega) (by omega)];rfl,?_⟩
  show List.map _ (frees j.1 _)++_=List.map _ (frees (j.1+1) _)
  rw[VP h2,List.map_append,ht,b2r a h2];rfl
 ·have hj:j.1=wdM a:=by have:=j.2;omega
  rw[hj];rfl
def b8T:Ctr:=⟨[tM],[tB],fun x=>okM x.1/\wdM (show MQ from x.1)=(show MQ from x.1).length,fun x=>(yQ x.1,())⟩
theorem a9T:aT Tryz.prog 13 b8T:=by
 refine bT ((nil0.ad TF).ad a5n) ⟨[],[],[]⟩ Tryz.func13 rfl (by decide) (fun x=>[]) (fun x hp=>?_)
 obtain⟨a,u⟩:=x
 change List (List Rat) at a
 refine bZ ((okM a/\(xX a/\xX (trM a))/\True)/\True/\decide (a=trM a)=yQ a/\True) (by kernel_rfl) ?_
 have hZ:(⟨false,0,[],[]⟩:aF)=cZ:=rfl
 dsimp only[aA,asT,aB,aC,Ty.den,Lf.den] at *
 simp only[hZ,Int.toNat_natCast,bG,decide_eq_true_eq,decide_eq_false_iff_not,true_and,and_true,aH,nameAt,aW,aU,bK,rowAt,List.length_set,List.length_range]
 have hp:okM a/\wdM a=a.length:=hp
 obtain⟨ha,hw⟩:=hp
 have q1:=ha.r64
 have q2:=ha.c64
 have hM:isM a a.length a.length:=by have:=ha.1;rwa [hw] at this
 have hT:=hM.trp
 refine⟨⟨ha,ha.xX,?_⟩,?_⟩
 ·refine okM.xX ⟨hT.self,fun i hi j hj=>?_⟩
  rw[hT.len] at hi
  rw[hT.wd] at hj
  rw[hM.b2O hi hj];exact ha.2 j hj i (by omega)
 ·unfold yQ
  refine decide_eq_decide.mpr ⟨fun h i hi j hj=>?_,fun h=>?_⟩
  ·rw[<-hM.b2O hi hj,<-h]
  ·exact hM.tab.symm.trans ((gW fun i hi j hj=>by rw[hM.b2O hi hj];exact h i hi j hj).trans hT.tab)
def c0y:Ctr:=⟨[tR],[tI],fun x=>True,fun x=>(IntKind.wrap .i64 (((show aF from x.1).n:Int)+((show aF from x.1).m:Int)),())⟩
theorem b1d:aT Tryz.prog 86 c0y:=by
 refine bT nil0 ⟨[],[],[]⟩ Tryz.func86 rfl (by decide) (fun x=>[]) (fun x hp=>?_)
 obtain⟨q,u⟩:=x
 change aF at q
 refine bZ (True/\IntKind.wrap IntKind.i64 (aA (List.length (aF.g q))+aA (List.length (aF.h q)))=IntKind.wrap IntKind.i64 (aA (aF.n q)+aA (aF.m q))/\True) (by kernel_rfl) ?_
 exact⟨trivial,rfl,trivial⟩
def kW (q:aF):Bool:=(decide (q.n<=1)&&decide (q.m<=1))&&((decide (q.n=0) || decide (q.g.getD 0 0<100000))&&(decide (q.m=0) || decide (q.h.getD 0 0<=100)))
def c0s:Ctr:=⟨[tR],[tB],fun x=>True,fun x=>(kW x.1,())⟩
theorem b0P:aT Tryz.prog 87 c0s:=by
 refine bT nil0 ⟨[],[],[]⟩ Tryz.func87 rfl (by decide) (fun x=>[]) (fun x hp=>?_)
 obtain⟨q,u⟩:=x
 change aF at q
 refine bZ (let A₀:=(List.length (aF.g q));let A₁:=(List.getD (aF.g q) 0 0);let A₂:=(List.length (aF.h q));(((decide (aA A₀ > 1)==false)=true->(decide (aA A₀ > 1)==false)=true/\True)/\((decide (aA A₀ > 1)==false)=true->(decide (aA A₀ > 1)==false)=true/\True)/\(decide (aA A₀ > 1)=false->(decide (aA A₀ > 1)==false)=true)/\True)/\ifB (bif decide (aA A₀ > 1) then true else decide (aA A₂ > 1)) (True/\false=kW q/\True) (((((aA A₀==0)==false)=true->((aA A₀==0)==false)=true/\asT Int 0<=0/\0<aA A₀/\True)/\(((aA A₀==0)==false)=true->((aA A₀==0)==false)=true/\True)/\(((aA A₀==0)==false)=true->((aA A₀==0)==false)=true/\True)/\((aA A₀==0)=false->((aA A₀==0)==false)=true)/\(((bif aA A₀==0 then true else decide (aA A₁<100000))==true)=true->((bif aA A₀==0 then true else decide (aA A₁<100000))==true)=true/\True)/\(((bif aA A₀==0 then true else decide (aA A₁<100000))==true)=true->((bif aA A₀==0 then true else decide (aA A₁<100000))==true)=true/\True)/\(((bif aA A₀==0 then true else decide (aA A₁<100000))==true)=true->((bif aA A₀==0 then true else decide (aA A₁<100000))==true)=true/\True)/\(((bif aA A₀==0 then true else decide (aA A₁<100000))==true&&(aA A₂==0)==false)=true->((bif aA A₀==0 then true else decide (aA A₁<100000))==true&&(aA A₂==0)==false)=true/\asT Int 0<=0/\0<aA A₂/\True)/\(((bif aA A₀==0 then true else decide (aA A₁<100000))==true&&(aA A₂==0)==false)=true->((bif aA A₀==0 then true else decide (aA A₁<100000))==true&&(aA A₂==0)==false)=true/\True)/\(((bif aA A₀==0 then true else decide (aA A₁<100000))==true&&(aA A₂==0)==false)=true->((bif aA A₀==0 then true else decide (aA A₁<100000))==true&&(aA A₂==0)==false)=true/\True)/\(((bif aA A₀==0 then true else decide (aA A₁<100000))==true)=true->((bif aA A₀==0 then true else decide (aA A₁<100000))==true)=true/\((aA A₂==0)=false->((bif aA A₀==0 then true else decide (aA A₁<100000))==true&&(aA A₂==0)==false)=true)/\True)/\((bif aA A₀==0 then true else decide (aA A₁<100000))=true->((bif aA A₀==0 then true else decide (aA A₁<100000))==true)=true)/\True)/\True/\(bif bif aA A₀==0 then true else decide (aA A₁<100000) then bif aA A₂==0 then true else decide (aA (List.getD (aF.h q) 0 0)<=100) else false)=kW q/\True)) (by kernel_rfl) ?_
 try simp only[bG,decide_eq_true_eq,decide_eq_false_iff_not]
 try dsimp only[Ty.den,Lf.den,asT] at *
 try simp only[NT,NS,trF,NU]
 have hZ:(⟨false,0,[],[]⟩:aF)=cZ:=rfl
 try dsimp only[aA,asT,aB,aC,Ty.den,Lf.den] at *
 try simp only[hZ,Int.toNat_natCast,bG,decide_eq_true_eq,decide_eq_false_iff_not,true_and,and_true,aH,nameAt,aW,aU,bK,rowAt,List.length_set,List.length_range]
 try simp only[rC,List.all_cons,List.all_nil,Bool.and_true,Bool.not_eq_true',Bool.not_eq_false',beq_iff_eq,bne_iff_ne,ne_eq,Bool.and_eq_true,Bool.and_eq_false_imp,beq_eq_false_iff_ne,bne_eq_false_iff_eq,Int.natCast_inj,imp_self,implies_true,and_self,true_and,and_true,mX,Bool.or_eq_true,Bool.or_eq_false_iff,List.length_cons,List.length_nil]
 try simp only[wdF,rQ,uY]
 have h01:∀ n:Nat,(¬ (n:Int) > 1)->decide ((n:Int) > 1)=false:=fun n h=>decide_eq_false h
 have hd:∀ n:Nat,decide ((n:Int) > 1)=!decide (n<=1):=fun n=>by
  by_cases h:n<=1
  ·rw[decide_eq_true h,decide_eq_false (by omega)];rfl
  ·rw[decide_eq_false h,decide_eq_true (by omega)];rfl
 have hz:∀ n:Nat,(((n:Nat):Int)==0)=decide (n=0):=fun n=>by
  by_cases h:n=0
  ·rw[h];rfl
  ·rw[decide_eq_false h];exact beq_eq_false_iff_ne.mpr (by omega)
 refine⟨h01 _,fun h=>?_,fun h=>⟨⟨fun a=>⟨a,by omega,by omega⟩,fun a=>⟨a,by omega,by omega⟩,fun a=>⟨a,fun b=>⟨a,b⟩⟩⟩,?_⟩⟩
 ·rw[hd,hd] at h
  unfold kW
  have:(decide (q.n<=1)&&decide (q.m<=1))=false:=by
   rcases h with h|h
   ·rw[show decide (q.n<=1)=false by simpa using h];rfl
   ·rw[show decide (q.m<=1)=false by simpa using h,Bool.and_false]
  rw[this];rfl
 ·rw[hd,hd] at h
  unfold kW
  rw[show decide (q.n<=1)=true by simpa using h.1,show decide (q.m<=1)=true by simpa using h.2,hz,hz]
  rw[show decide (((q.g.getD 0 0:Nat):Int)<100000)=decide (q.g.getD 0 0<100000) from decide_eq_decide.mpr (by omega),show decide (((q.h.getD 0 0:Nat):Int)<=100)=decide (q.h.getD 0 0<=100) from decide_eq_decide.mpr (by omega)]
  cases (decide (q.g.length=0) || decide (q.g.getD 0 0<100000))<;>rfl
def brL (l:LR) (m:Nat):Bool:=decide (l.length<=m)&&l.all kW
theorem BK {q:aF} (h:kW q=true):q.n<=1/\q.m<=1:=by
 unfold kW at h
 rw[Bool.and_eq_true,Bool.and_eq_true] at h
 exact⟨of_decide_eq_true h.1.1,of_decide_eq_true h.1.2⟩
def c0H:Ctr:=⟨[.list tR,tI,tI],[tB],fun x=>(∃ m:Nat,(show Int from x.2.1)=m/\m<=1000)/\(show Int from x.2.2.1)=6,fun x=>(brL x.1 (show Int from x.2.1).toNat,())⟩
theorem b2C:aT Tryz.prog 48 c0H:=by
 refine bT ((nil0.ad b1d).ad b0P) ⟨[],[],[]⟩ Tryz.func48 rfl (by decide) (fun x=>[.inv {k:Nat // k<=(show LR from x.1).length/\((show LR from x.1).take k).all kW=true} (fun k=>[(7,.val tI (k.1:Int))]) (fun k=>[]) (fun k=>(show LR from x.1).length-k.1) ⟨0,by omega,rfl⟩ (fun _=>[])]) (fun x hp=>?_)
 obtain⟨l,m,k,u⟩:=x
 change List aF at l
 change Int at m
 change Int at k
 refine bZ (ifB (decide (aA (List.length l) > m)) (True/\false=brL l (Int.toNat m)/\True) ((asT Int 0=0/\True)/\∀ (i:{ k:Nat // k<=List.length l/\List.all (List.take k l) kW=true }),let A₁:=(List.getD l (Int.toNat (aA (aB i))) cZ);let A₀:=(IntKind.wrap IntKind.i64 (aA (aF.n A₁)+aA (aF.m A₁)) > k);asT Bool true=true/\ifB (decide (aA (aB i)<aA (List.length l))) ((0<=aA (aB i)/\aA (aB i)<aA (List.length l)/\True/\((decide A₀==false)=true->(decide A₀==false)=true/\True)/\((decide A₀==false)=true->(decide A₀==false)=true/\True)/\((decide A₀==false&&decide (k<=6)==true)=true->(decide A₀==false&&decide (k<=6)==true)=true/\(decide A₀==false&&decide (k<=6)==true)=true/\0<=aA (aB i)/\aA (aB i)<aA (List.length l)/\True)/\((decide A₀==false&&decide (k<=6)==true)=true->(decide A₀==false&&decide (k<=6)==true)=true/\True)/\((decide A₀==false&&decide (k<=6)==true)=true->(decide A₀==false&&decide (k<=6)==true)=true/\True/\True)/\((decide A₀==false&&decide (k<=6)==true)=true->(decide A₀==false&&decide (k<=6)==true)=true/\True)/\((decide A₀==false)=true->(decide A₀==false)=true/\(decide (k<=6)=true->(decide A₀==false&&decide (k<=6)==true)=true)/\True)/\(decide A₀=false->(decide A₀==false)=true)/\True)/\ifB (bif decide A₀ then true else bif decide (k<=6) then !kW A₁ else false) (True/\false=brL l (Int.toNat m)/\True) (∃ (i':{ k:Nat // k<=List.length l/\List.all (List.take k l) kW=true }),List.length l-aB i'<List.length l-aB i/\IntKind.wrap IntKind.i64 (aA (aB i)+1)=aA (aB i')/\True)) (True/\true=brL l (Int.toNat m)/\True))) (by kernel_rfl) ?_
 try simp only[bG,decide_eq_true_eq,decide_eq_false_iff_not]
 try dsimp only[Ty.den,Lf.den,asT] at *
 try simp only[NT,NS,trF,NU]
 have hZ:(⟨false,0,[],[]⟩:aF)=cZ:=rfl
 try dsimp only[aA,asT,aB,aC,Ty.den,Lf.den] at *
 try simp only[hZ,Int.toNat_natCast,bG,decide_eq_true_eq,decide_eq_false_iff_not,true_and,and_true,aH,nameAt,aW,aU,bK,rowAt,List.length_set,List.length_range]
 try simp only[rC,List.all_cons,List.all_nil,Bool.and_true,Bool.not_eq_true',Bool.not_eq_false',beq_iff_eq,bne_iff_ne,ne_eq,Bool.and_eq_true,Bool.and_eq_false_imp,beq_eq_false_iff_ne,bne_eq_false_iff_eq,Int.natCast_inj,imp_self,implies_true,and_self,true_and,and_true,mX,Bool.or_eq_true,Bool.or_eq_false_iff,List.length_cons,List.length_nil]
 try simp only[wdF,rQ,uY]
 obtain⟨⟨M,hM,c1q⟩,hk⟩:=hp
 change m=(M:Int) at hM
 change k=6 at hk
 subst hM hk
 rw[Int.toNat_natCast]
 refine⟨fun h=>?_,fun h i=>⟨fun h1=>⟨⟨by omega,h1,fun a=>⟨a,a,by omega,h1⟩,fun a=>⟨a,fun b=>⟨a,decide_eq_true b⟩⟩,fun a=>decide_eq_false a⟩,fun h2=>?_,fun h2=>⟨⟨i.1+1,by omega,?_⟩,by simp only;omega,?_⟩⟩,fun h1=>?_⟩⟩
 ·unfold brL;rw[decide_eq_false (by omega)];rfl
 ·have hi:i.1<l.length:=by omega
  have hb:kW (l.getD i.1 cZ)=false:=by
   cases e:kW (l.getD i.1 cZ)
   ·rfl
   ·exfalso
    rw[e] at h2
    obtain⟨n1,m1⟩:=BK e
    rcases h2 with h2|h2
    ·have h2:=of_decide_eq_true h2
     rw[bH (by omega) (by omega)] at h2
     omega
    ·exact absurd h2 (by decide)
  unfold brL
  rw[show l.all kW=false from List.all_eq_false.mpr ⟨l.getD i.1 cZ,by rw[List.getD_eq_getElem?_getD,List.getElem?_eq_getElem hi];exact List.getElem_mem hi,by rw[hb];decide⟩,Bool.and_false]
 ·have hb:kW (l.getD i.1 cZ)=true:=by
   have:=h2.2
   revert this
   cases kW (l.getD i.1 cZ)<;>decide
  rw[PE (d:=cZ) (by omega),i.2.2,hb];rfl
 ·rw[bH (by omega) (by omega)];rfl
 ·have h3:=i.2.2
  rw[List.take_of_length_le (by omega)] at h3
  unfold brL;rw[h3,decide_eq_true (by omega)];rfl
def FW (a:MR):Bool:=decide (a.length<=7)&&a.all (fun r=>brL r 7)
def c0A:Ctr:=⟨[.list tMR],[tB],fun x=>(show ML from x.1).length<=100,fun x=>((show ML from x.1).all FW,())⟩
theorem b1k:aT Tryz.prog 10 c0A:=by
 refine bT (nil0.ad b2C) ⟨[],[],[]⟩ Tryz.func10 rfl (by decide) (fun x=>[.inv {k:Nat // k<=(show ML from x.1).length/\((show ML from x.1).take k).all FW=true} (fun k=>[(9,.val tI (k.1:Int))]) (fun k=>[]) (fun k=>(show ML from x.1).length-k.1) ⟨0,by omega,rfl⟩ (fun k=>[
  .inv {c:Nat // c<=((show ML from x.1).getD k.1 []).length/\(((show ML from x.1).getD k.1 []).take c).all (fun r=>brL r 7)=true} (fun c=>[(18,.val tI (c.1:Int))]) (fun c=>[]) (fun c=>((show ML from x.1).getD k.1 []).length-c.1) ⟨0,by omega,rfl⟩ (fun _=>[])])]) (fun x hp=>?_)
 obtain⟨x,u⟩:=x
 change List (List (List aF)) at x
 refine bZ ((asT Int 0=0/\True)/\∀ (i:{ k:Nat // k<=List.length x/\List.all (List.take k x) FW=true }),let A₀:=(List.getD x (aB i) (aC (List aF)));let A₁:=(List.getD x (Int.toNat (aA (aB i))) (aC (List aF)));asT Bool true=true/\ifB (decide (aA (aB i)<aA (List.length x))) ((0<=aA (aB i)/\aA (aB i)<aA (List.length x)/\True)/\ifB (decide (aA (List.length A₁) > 7)) (True/\false=List.all x FW/\True) ((asT Int 0=0/\True)/\∀ (i_1:{ c:Nat // c<=List.length A₀/\(List.all (List.take c A₀) fun(r:List aF)=>brL r 7)=true }),asT Bool true=true/\ifB (decide (aA (aB i_1)<aA (List.length A₁))) ((0<=aA (aB i_1)/\aA (aB i_1)<aA (List.length A₁)/\True)/\(((∃ (m:Nat),7=aA m/\m<=1000)/\asT Int 6=6)/\True)/\ifB (!brL (List.getD A₁ (Int.toNat (aA (aB i_1))) (aC aF)) 7) (True/\false=List.all x FW/\True) (∃ (i':{ c:Nat // c<=List.length A₀/\(List.all (List.take c A₀) fun(r:List aF)=>brL r 7)=true }),List.length A₀-aB i'<List.length A₀-aB i_1/\IntKind.wrap IntKind.i64 (aA (aB i_1)+1)=aA (aB i')/\True)) (∃ (i':{ k:Nat // k<=List.length x/\List.all (List.take k x) FW=true }),List.length x-aB i'<List.length x-aB i/\IntKind.wrap IntKind.i64 (aA (aB i)+1)=aA (aB i')/\True))) (True/\true=List.all x FW/\True)) (by kernel_rfl) ?_
 try simp only[bG,decide_eq_true_eq,decide_eq_false_iff_not]
 try dsimp only[Ty.den,Lf.den,asT] at *
 try simp only[NT,NS,trF,NU]
 have hZ:(⟨false,0,[],[]⟩:aF)=cZ:=rfl
 try dsimp only[aA,asT,aB,aC,Ty.den,Lf.den] at *
 try simp only[hZ,Int.toNat_natCast,bG,decide_eq_true_eq,decide_eq_false_iff_not,true_and,and_true,aH,nameAt,aW,aU,bK,rowAt,List.length_set,List.length_range]
 try simp only[rC,List.all_cons,List.all_nil,Bool.and_true,Bool.not_eq_true',Bool.not_eq_false',beq_iff_eq,bne_iff_ne,ne_eq,Bool.and_eq_true,Bool.and_eq_false_imp,beq_eq_false_iff_ne,bne_eq_false_iff_eq,Int.natCast_inj,imp_self,implies_true,and_self,true_and,and_true,mX,Bool.or_eq_true,Bool.or_eq_false_iff,List.length_cons,List.length_nil]
 try simp only[wdF,rQ,uY]
 have hp:x.length<=100:=hp
 refine fun i=>⟨fun h1=>⟨⟨by omega,h1⟩,fun h2=>?_,fun h2 c=>⟨fun h3=>⟨⟨by omega,h3⟩,⟨7,rfl,by omega⟩,fun h4=>?_,fun h4=>⟨⟨c.1+1,by omega,?_⟩,by simp only;omega,?_⟩⟩,fun h3=>⟨⟨i.1+1,by omega,?_⟩,by simp only;omega,?_⟩⟩⟩,fun h1=>?_⟩
 ·have hi:i.1<x.length:=by omega
  refine(List.all_eq_false.mpr ⟨x.getD i.1 [],by rw[List.getD_eq_getElem?_getD,List.getElem?_eq_getElem hi];exact List.getElem_mem hi,?_⟩).symm
  unfold FW;rw[decide_eq_false (by omega),Bool.false_and];decide
 ·have hi:i.1<x.length:=by omega
  have hc:c.1<(x.getD i.1 []).length:=by omega
  refine(List.all_eq_false.mpr ⟨x.getD i.1 [],by rw[List.getD_eq_getElem?_getD,List.getElem?_eq_getElem hi];exact List.getElem_mem hi,?_⟩).symm
  unfold FW
  rw[show (x.getD i.1 []).all (fun r=>brL r 7)=false from List.all_eq_false.mpr ⟨(x.getD i.1 []).getD c.1 [],by rw[List.getD_eq_getElem?_getD (l:=x.getD i.1 []),List.getElem?_eq_getElem hc];exact List.getElem_mem hc,by rw[h4];decide⟩,Bool.and_false]
  decide
 ·rw[PE (d:=[]) (by omega),c.2.2]
  show (true&&brL ((x.getD i.1 []).getD c.1 []) 7)=true
  rw[h4];rfl
 ·rw[bH (by omega) (by omega)];rfl
 ·rw[PE (d:=[]) (by omega),i.2.2]
  have h4:=c.2.2
  rw[List.take_of_length_le (by omega)] at h4
  unfold FW;rw[h4,decide_eq_true (by omega)];rfl
 ·rw[bH (by omega) (by omega)];rfl
 ·have h3:=i.2.2
  rw[List.take_of_length_le (by omega)] at h3
  exact h3.symm
def c0L:Ctr:=⟨[.list tI],[.list tQ],fun x=>(show List Int from x.1).length<=1000/\∀ i ∈ (show List Int from x.1),iO i,fun x=>((show List Int from x.1).map (fun i=>bY i),())⟩
def b8I:Ctr:=⟨[.list tMR],[tI],fun x=>(show ML from x.1).length<=1000000/\∀ a ∈ (show ML from x.1),xR a,fun x=>(fA x.1,())⟩
theorem b2R:aT Tryz.prog 47 c0L:=by
 refine bT (nil0.ad b0G) ⟨[],[],[]⟩ Tryz.func47 rfl (by decide) (fun x=>[.inv {k:Nat // k<=(show List Int from x.1).length} (fun k=>[(9,.val tI (k.1:Int)),(3,.own 6 0),(6,.any)]) (fun k=>[(6,.row 64 tQ (((show List Int from x.1).take k.1).map (fun i=>bY i)) 0)]) (fun k=>(show List Int from x.1).length-k.1) ⟨0,by omega⟩ (fun _=>[])]) (fun x hp=>?_)
 obtain⟨x,u⟩:=x
 change List Int at x
 refine bZ ((asT Int 0=0/\asT (List Rat) (aC Rat)=aC Rat/\True)/\∀ (i:{ k:Nat // k<=List.length x }),asT Bool true=true/\ifB (decide (aA (aB i)<aA (List.length x))) ((0<=aA (aB i)/\aA (aB i)<aA (List.length x)/\True)/\(iO (List.getD x (Int.toNat (aA (aB i))) 0)/\List.length (List.map (fun(i:Int)=>bY i) (List.take (aB i) x))+List.length (bY (List.getD x (Int.toNat (aA (aB i))) 0)::aC Rat)<=1000000000/\True)/\∃ (i':{ k:Nat // k<=List.length x }),List.length x-aB i'<List.length x-aB i/\IntKind.wrap IntKind.i64 (aA (aB i)+1)=aA (aB i')/\List.map (fun(i:Int)=>bY i) (List.take (aB i) x)++bY (List.getD x (Int.toNat (aA (aB i))) 0)::aC Rat=List.map (fun(i:Int)=>bY i) (List.take (aB i') x)/\True) (True/\List.map (fun(i:Int)=>bY i) (List.take (aB i) x)=List.map (fun(i:Int)=>bY i) x/\True)) (by kernel_rfl) ?_
 try simp only[bG,decide_eq_true_eq,decide_eq_false_iff_not]
 try dsimp only[Ty.den,Lf.den,asT] at *
 try simp only[NT,NS,trF,NU]
 have hZ:(⟨false,0,[],[]⟩:aF)=cZ:=rfl
 try dsimp only[aA,asT,aB,aC,Ty.den,Lf.den] at *
 try simp only[hZ,Int.toNat_natCast,bG,decide_eq_true_eq,decide_eq_false_iff_not,true_and,and_true,aH,nameAt,aW,aU,bK,rowAt,List.length_set,List.length_range]
 try simp only[rC,List.all_cons,List.all_nil,Bool.and_true,Bool.not_eq_true',Bool.not_eq_false',beq_iff_eq,bne_iff_ne,ne_eq,Bool.and_eq_true,Bool.and_eq_false_imp,beq_eq_false_iff_ne,bne_eq_false_iff_eq,Int.natCast_inj,imp_self,implies_true,and_self,true_and,and_true,mX,Bool.or_eq_true,Bool.or_eq_false_iff,List.length_cons,List.length_nil]
 try simp only[wdF,rQ,uY]
 have hp:x.length<=1000/\∀ i ∈ x,iO i:=hp
 refine fun i=>⟨fun h1=>⟨⟨by omega,h1⟩,⟨fD hp.2 (by omega),by rw[List.length_map,List.length_take];omega⟩,⟨i.1+1,by omega⟩,by simp only;omega,by rw[bH (by omega) (by omega)];rfl,?_⟩,fun h1=>by rw[List.take_of_length_le (by omega)]⟩
 have hi:i.1<x.length:=by omega
 show _=List.map (fun i=>bY i) (List.take (i.1+1) x)
 rw[List.take_add_one,List.map_append,List.getElem?_eq_getElem hi,List.getD_eq_getElem?_getD,List.getElem?_eq_getElem hi];rfl
theorem a8U:aT Tryz.prog 12 b8I:=by
 refine bT (nil0.ad a9A) ⟨[],[],[]⟩ Tryz.func12 rfl (by decide) (fun x=>[.inv {k:Nat // k<=(show ML from x.1).length/\((show ML from x.1).take k).any (fun a=>fP a != 0)=false} (fun k=>[(7,.val tI (k.1:Int))]) (fun k=>[]) (fun k=>(show ML from x.1).length-k.1) ⟨0,by omega,rfl⟩ (fun _=>[])]) (fun x hp=>?_)
 obtain⟨x,u⟩:=x
 change List (List (List aF)) at x
 refine bZ ((asT Int 0=0/\True)/\∀ (i:{ k:Nat // k<=List.length x/\(List.any (List.take k x) fun(a:List (List aF))=>fP a != 0)=false }),asT Bool true=true/\ifB (decide (aA (aB i)<aA (List.length x))) ((0<=aA (aB i)/\aA (aB i)<aA (List.length x)/\True)/\(xR (List.getD x (Int.toNat (aA (aB i))) (aC (List aF)))/\True)/\ifB (fP (List.getD x (Int.toNat (aA (aB i))) (aC (List aF))) != 0) (True/\1=fA x/\True) (∃ (i':{ k:Nat // k<=List.length x/\(List.any (List.take k x) fun(a:List (List aF))=>fP a != 0)=false }),List.length x-aB i'<List.length x-aB i/\IntKind.wrap IntKind.i64 (aA (aB i)+1)=aA (aB i')/\True)) (True/\0=fA x/\True)) (by kernel_rfl) ?_
 try simp only[bG,decide_eq_true_eq,decide_eq_false_iff_not]
 try dsimp only[Ty.den,Lf.den,asT] at *
 try simp only[NT,NS,trF,NU]
 have hZ:(⟨false,0,[],[]⟩:aF)=cZ:=rfl
 try dsimp only[aA,asT,aB,aC,Ty.den,Lf.den] at *
 try simp only[hZ,Int.toNat_natCast,bG,decide_eq_true_eq,decide_eq_false_iff_not,true_and,and_true,aH,nameAt,aW,aU,bK,rowAt,List.length_set,List.length_range]
 try simp only[rC,List.all_cons,List.all_nil,Bool.and_true,Bool.not_eq_true',Bool.not_eq_false',beq_iff_eq,bne_iff_ne,ne_eq,Bool.and_eq_true,Bool.and_eq_false_imp,beq_eq_false_iff_ne,bne_eq_false_iff_eq,Int.natCast_inj,imp_self,implies_true,and_self,true_and,and_true,mX,Bool.or_eq_true,Bool.or_eq_false_iff,List.length_cons,List.length_nil]
 try simp only[wdF,rQ,uY]
 have hp:x.length<=1000000/\∀ a ∈ x,xR a:=hp
 obtain⟨hl,hb⟩:=hp
 refine fun i=>⟨fun h1=>⟨⟨by omega,h1⟩,fD hb (by omega),fun h2=>?_,fun h2=>⟨⟨i.1+1,by omega,?_⟩,by simp only;omega,?_⟩⟩,fun h1=>?_⟩
 ·have hi:i.1<x.length:=by omega
  have h3:x.any (fun a=>fP a != 0)=true:=List.any_eq_true.mpr ⟨x.getD i.1 [],by rw[List.getD_eq_getElem?_getD,List.getElem?_eq_getElem hi];exact List.getElem_mem hi,bne_iff_ne.mpr h2⟩
  unfold fA;rw[h3];rfl
 ·rw[mM (d:=[]) (by omega),i.2.2,h2];rfl
 ·rw[bH (by omega) (by omega)];rfl
 ·have h3:=i.2.2
  rw[List.take_of_length_le (by omega)] at h3
  unfold fA;rw[h3];rfl
def n0:MQ:=[[bY 1,bY (-1),bY 0],[bY (-1),bY 2,bY (-1)],[bY 0,bY (-1),bY 1]]
def g0:MQ:=[[bY 1],[bY 1],[bY 1]]
def b0:MQ:=[[bY 1],[bY 0],[bY 0]]
def r0:LQ':=[bY 1,bY 0,bY (-1)]
def y0:LQ':=[bY 0,bY (-1),bY (-2)]
def c0:MQ:=[[bY 0,bY 0,bY 0],[bY 0,bY 1,bY 1],[bY 0,bY 1,bY 2]]
abbrev VZ (l:LQ'):LR:=List.map (fun x=>dR x) l
theorem b9C:dW (liftM n0)=((g0,()),0,()):=by decide +kernel
theorem b9A:FI (liftM n0) (liftM g0)=0:=by decide +kernel
theorem b9D:rH (liftM n0) (liftM g0) (liftM b0) (VZ r0)=(y0,0,()):=by decide +kernel
theorem b9B:FM (liftM n0) (liftM g0) (liftM b0)=(c0,0,()):=by decide +kernel
theorem FP {P:Program} {f:FuncId} {c:Ctr} (h:aT P f c) {pre:(nest c.args).den->Prop} {fn:(nest c.args).den->(nest c.res).den} (h1:∀ x,pre x->c.pre x) (h2:∀ x,pre x->fn x=c.fn x):aT P f ⟨c.args,c.res,pre,fn⟩:=fun F w vs x a b hp=>by
 have t:=h F w vs x a b (h1 x hp)
 rw[<-h2 x hp] at t
 exact t
theorem a2c {a:MQ} {K:Nat} (h:okM a) (h7:a.length<=7) (w7:wdM a<=7) (C:CdM a K):smK K (liftM a):=⟨h.short,fun _=>by rw[KR,a1p,a4T];exact⟨h7,w7,C⟩⟩
theorem a0b {a:MQ} {R C K:Nat} (h:isM a R C) (h7:R<=7) (w7:C<=7) (hs:szM a 1) (hK:58<=K):smK K (liftM a):=by
 have h1:=a7g h hs
 have h2:R*(C+1)<=7*8:=Nat.mul_le_mul h7 (by omega)
 have h3:CdM a K:=h1.mono (by omega)
 exact a2c (CdM.ok h1 h (by omega)) (by rw[h.len];exact h7) (by rw[h.wd];exact w7) h3
theorem YU {a:MQ} {R C:Nat} (h:decide (a.length=R/\a.all (fun r=>r.length==C)=true/\1<=R/\R<=64/\1<=C/\C<=64)=true):isM a R C:=by
 have h:=of_decide_eq_true h
 exact⟨h.1,fun r hr=>by simpa using List.all_eq_true.mp h.2.1 r hr,h.2.2⟩
theorem a4U:smK 100 (liftM n0):=a0b (R:=3) (C:=3) (YU (by decide +kernel)) (by omega) (by omega) (by unfold szM;decide +kernel) (by omega)
theorem a8d:smK 100 (liftM g0):=a0b (R:=3) (C:=1) (YU (by decide +kernel)) (by omega) (by omega) (by unfold szM;decide +kernel) (by omega)
theorem b2U:smK 100 (liftM b0):=a0b (R:=3) (C:=1) (YU (by decide +kernel)) (by omega) (by omega) (by unfold szM;decide +kernel) (by omega)
theorem smK.mono {K L:Nat} {a:MR} (H:smK K a) (h:K<=L):smK L a:=⟨H.1,fun c=>⟨(H.2 c).1,(H.2 c).2.1,(H.2 c).2.2.mono h⟩⟩
theorem b9N:smL 1 (VZ r0):=⟨⟨by decide +kernel,by unfold rF;decide +kernel⟩,fun _=>by decide +kernel⟩
def b8J:Ctr:=⟨[tMR],[.pair tM .unit,tI],fun x=>(show MR from x.1)=liftM n0,fun _=>((g0,()),(0:Int),())⟩
def b8r:Ctr:=⟨[tMR,.pair tMR .unit],[tI],fun x=>(show MR from x.1)=liftM n0/\(show MR from x.2.1.1)=liftM g0,fun _=>((0:Int),())⟩
def b8Q:Ctr:=⟨[tMR,.pair tMR .unit,tMR,.list tR],[.list tQ,tI],fun x=>(show MR from x.1)=liftM n0/\(show MR from x.2.1.1)=liftM g0/\(show MR from x.2.2.1)=liftM b0/\(show LR from x.2.2.2.1)=VZ r0,fun _=>(y0,(0:Int),())⟩
def b8t:Ctr:=⟨[tMR,.pair tMR .unit,tMR],[tM,tI],fun x=>(show MR from x.1)=liftM n0/\(show MR from x.2.1.1)=liftM g0/\(show MR from x.2.2.1)=liftM b0,fun _=>(c0,(0:Int),())⟩
theorem a9i:aT Tryz.prog 11 b8J:=FP (c:=a7t) JW (fun x (h:(show MR from x.1)=_)=>by show smK 100 x.1;rw[show x.1=liftM n0 from h];exact a4U) (fun x (h:(show MR from x.1)=_)=>by show _=dW x.1;rw[show x.1=liftM n0 from h];exact b9C.symm)
theorem a7F:aT Tryz.prog 18 b8r:=FP (c:=b2W) PY (fun x (h:(show MR from x.1)=_/\(show MR from x.2.1.1)=_)=>by show smK 100 x.1/\smK 13000 x.2.1.1;rw[show x.1=liftM n0 from h.1,show x.2.1.1=liftM g0 from h.2];exact⟨a4U,a8d.mono (by omega)⟩) (fun x (h:(show MR from x.1)=_/\(show MR from x.2.1.1)=_)=>by show _=(FI x.1 x.2.1.1,());rw[show x.1=liftM n0 from h.1,show x.2.1.1=liftM g0 from h.2,b9A];rfl)
theorem b0i:aT Tryz.prog 20 b8Q:=FP (c:=b2Y) a0F (fun x (h:(show MR from x.1)=_/\(show MR from x.2.1.1)=_/\(show MR from x.2.2.1)=_/\(show LR from x.2.2.2.1)=_)=>by show b7R x.1 x.2.1.1 x.2.2.1 x.2.2.2.1;rw[show x.1=liftM n0 from h.1,show x.2.1.1=liftM g0 from h.2.1,show x.2.2.1=liftM b0 from h.2.2.1,show x.2.2.2.1=VZ r0 from h.2.2.2];exact⟨a4U,a8d,b2U,b9N⟩) (fun x (h:(show MR from x.1)=_/\(show MR from x.2.1.1)=_/\(show MR from x.2.2.1)=_/\(show LR from x.2.2.2.1)=_)=>by show _=rH x.1 x.2.1.1 x.2.2.1 x.2.2.2.1;rw[show x.1=liftM n0 from h.1,show x.2.1.1=liftM g0 from h.2.1,show x.2.2.1=liftM b0 from h.2.2.1,show x.2.2.2.1=VZ r0 from h.2.2.2];exact b9D.symm)
theorem a7K:aT Tryz.prog 24 b8t:=FP (c:=b2X) a0B (fun x (h:(show MR from x.1)=_/\(show MR from x.2.1.1)=_/\(show MR from x.2.2.1)=_)=>by show smK 100 x.1/\smK 100 x.2.1.1/\smK 100 x.2.2.1;rw[show x.1=liftM n0 from h.1,show x.2.1.1=liftM g0 from h.2.1,show x.2.2.1=liftM b0 from h.2.2];exact⟨a4U,a8d,b2U⟩) (fun x (h:(show MR from x.1)=_/\(show MR from x.2.1.1)=_/\(show MR from x.2.2.1)=_)=>by show _=FM x.1 x.2.1.1 x.2.2.1;rw[show x.1=liftM n0 from h.1,show x.2.1.1=liftM g0 from h.2.1,show x.2.2.1=liftM b0 from h.2.2];exact b9B.symm)
def c0G:Ctr:=⟨[],[tB],fun _=>True,fun _=>(true,())⟩
theorem b1F:aT Tryz.prog 9 c0G:=by
 refine bT (((((((((((nil0.ad a1S).ad TF).ad JW).ad PY).ad a0F).ad a0B).ad b2R).ad a9i).ad a7F).ad b0i).ad a7K) ⟨[2],[],[]⟩ Tryz.func9 rfl (by decide) (fun x=>[]) (fun x hp=>?_)
 refine bZ (let bJ:=(Ty.list (Ty.lf Lf.rat));let A₀:=(List.map (fun(xs:Ty.den bJ)=>List.map (fun(x:Ty.den (Ty.lf Lf.rat))=>dR x) xs) ((bY 1::bY (-1)::bY 0::aC Rat)::(bY (-1)::bY 2::bY (-1)::aC Rat)::(bY 0::bY (-1)::bY 1::aC Rat)::aC (List Rat)));let A₁:=(List.map (fun(xs:Ty.den bJ)=>List.map (fun(x:Ty.den (Ty.lf Lf.rat))=>dR x) xs) ((bY 1::aC Rat)::(bY 1::aC Rat)::(bY 1::aC Rat)::aC (List Rat)));let A₂:=(List.map (fun(xs:Ty.den bJ)=>List.map (fun(x:Ty.den (Ty.lf Lf.rat))=>dR x) xs) ((bY 1::aC Rat)::(bY 0::aC Rat)::(bY 0::aC Rat)::aC (List Rat)));((List.length (1::-1::0::aC Int)<=1000/\∀ (i:Int),i ∈ 1::-1::0::aC Int->iO i)/\(List.length (-1::2::-1::aC Int)<=1000/\∀ (i:Int),i ∈ -1::2::-1::aC Int->iO i)/\(List.length (0::-1::1::aC Int)<=1000/\∀ (i:Int),i ∈ 0::-1::1::aC Int->iO i)/\True)/\((((True/\True/\True/\True)/\True)/\((True/\True/\True/\True)/\True)/\((True/\True/\True/\True)/\True)/\True)/\asT (List (List aF)) A₀=liftM n0/\True)/\((List.length (1::aC Int)<=1000/\∀ (i:Int),i ∈ 1::aC Int->iO i)/\(List.length (0::aC Int)<=1000/\∀ (i:Int),i ∈ 0::aC Int->iO i)/\(List.length (0::aC Int)<=1000/\∀ (i:Int),i ∈ 0::aC Int->iO i)/\True)/\((List.length (1::0::-1::aC Int)<=1000/\∀ (i:Int),i ∈ 1::0::-1::aC Int->iO i)/\(((True/\True/\True/\True)/\True)/\((True/\True/\True/\True)/\True)/\((True/\True/\True/\True)/\True)/\True)/\(((True/\True)/\True)/\((True/\True)/\True)/\((True/\True)/\True)/\True)/\(((True/\True)/\True)/\((True/\True)/\True)/\((True/\True)/\True)/\True)/\(True/\True/\True/\True)/\(asT (List (List aF)) A₀=liftM n0/\asT (List (List aF)) A₁=liftM g0/\asT (List (List aF)) A₂=liftM b0/\asT (List aF) (List.map (fun(x:Ty.den (Ty.lf Lf.rat))=>dR x) (bY 1::bY 0::bY (-1)::aC Rat))=VZ r0)/\True)/\((((True/\True/\True/\True)/\True)/\((True/\True/\True/\True)/\True)/\((True/\True/\True/\True)/\True)/\True)/\(((True/\True)/\True)/\((True/\True)/\True)/\((True/\True)/\True)/\True)/\(((True/\True)/\True)/\((True/\True)/\True)/\((True/\True)/\True)/\True)/\(asT (List (List aF)) A₀=liftM n0/\asT (List (List aF)) A₁=liftM g0/\asT (List (List aF)) A₂=liftM b0)/\True)/\((asT Bool true=true->asT Bool true=true/\True)/\(asT Bool true=true->asT Bool true=true)/\(asT Bool true=true->asT Bool true=true/\True)/\(asT Bool true=true->asT Bool true=true)/\(asT Bool true=true->asT Bool true=true/\True)/\(asT Bool true=true->asT Bool true=true/\(List.length (1::aC Int)<=1000/\∀ (i:Int),i ∈ 1::aC Int->iO i)/\True)/\(asT Bool true=true->asT Bool true=true/\(List.length (1::aC Int)<=1000/\∀ (i:Int),i ∈ 1::aC Int->iO i)/\True)/\(asT Bool true=true->asT Bool true=true/\(List.length (1::aC Int)<=1000/\∀ (i:Int),i ∈ 1::aC Int->iO i)/\True)/\(asT Bool true=true->asT Bool true=true/\asT Bool true=true/\asT Bool true=true/\True)/\(asT Bool true=true->asT Bool true=true/\asT Bool true=true/\(xX ((bY 1::aC Rat)::(bY 1::aC Rat)::(bY 1::aC Rat)::aC (List Rat))/\xX ((bY 1::aC Rat)::(bY 1::aC Rat)::(bY 1::aC Rat)::aC (List Rat)))/\True)/\(asT Bool true=true->asT Bool true=true)/\(asT Bool true=true->asT Bool true=true/\(List.length (0::-1::-2::aC Int)<=1000/\∀ (i:Int),i ∈ 0::-1::-2::aC Int->iO i)/\True)/\(asT Bool true=true->asT Bool true=true/\asT Bool true=true/\(szL (bY 0::bY (-1)::bY (-2)::aC Rat)/\szL (bY 0::bY (-1)::bY (-2)::aC Rat))/\True)/\(asT Bool true=true->asT Bool true=true)/\(asT Bool true=true->asT Bool true=true/\(List.length (0::0::0::aC Int)<=1000/\∀ (i:Int),i ∈ 0::0::0::aC Int->iO i)/\True)/\(asT Bool true=true->asT Bool true=true/\(List.length (0::1::1::aC Int)<=1000/\∀ (i:Int),i ∈ 0::1::1::aC Int->iO i)/\True)/\(asT Bool true=true->asT Bool true=true/\(List.length (0::1::2::aC Int)<=1000/\∀ (i:Int),i ∈ 0::1::2::aC Int->iO i)/\True)/\(asT Bool true=true->asT Bool true=true/\asT Bool true=true/\asT Bool true=true/\True)/\(asT Bool true=true->asT Bool true=true/\asT Bool true=true/\(xX ((bY 0::bY 0::bY 0::aC Rat)::(bY 0::bY 1::bY 1::aC Rat)::(bY 0::bY 1::bY 2::aC Rat)::aC (List Rat))/\xX ((bY 0::bY 0::bY 0::aC Rat)::(bY 0::bY 1::bY 1::aC Rat)::(bY 0::bY 1::bY 2::aC Rat)::aC (List Rat)))/\True)/\(asT Bool true=true->asT Bool true=true)/\(asT Bool true=true->asT Bool true=true/\asT Bool true=true/\(((True/\True/\True/\True)/\True)/\((True/\True/\True/\True)/\True)/\((True/\True/\True/\True)/\True)/\True)/\(((True/\True)/\True)/\((True/\True)/\True)/\((True/\True)/\True)/\True)/\(asT (List (List aF)) A₀=liftM n0/\asT (List (List aF)) A₁=liftM g0)/\True)/\(asT Bool true=true->asT Bool true=true/\True)/\(asT Bool true=true->asT Bool true=true)/\True)/\True/\asT Bool (bif bif bif bif bif bif asT Int 0==0 then asT Int 0==0 else false then asT Int 0==0 else false then decide (asT (List (List Rat)) ((bY 1::aC Rat)::(bY 1::aC Rat)::(bY 1::aC Rat)::aC (List Rat))=(bY 1::aC Rat)::(bY 1::aC Rat)::(bY 1::aC Rat)::aC (List Rat)) else false then decide (asT (List Rat) (bY 0::bY (-1)::bY (-2)::aC Rat)=bY 0::bY (-1)::bY (-2)::aC Rat) else false then decide (asT (List (List Rat)) ((bY 0::bY 0::bY 0::aC Rat)::(bY 0::bY 1::bY 1::aC Rat)::(bY 0::bY 1::bY 2::aC Rat)::aC (List Rat))=(bY 0::bY 0::bY 0::aC Rat)::(bY 0::bY 1::bY 1::aC Rat)::(bY 0::bY 1::bY 2::aC Rat)::aC (List Rat)) else false then asT Int 0==0 else false)=true/\True) (by kernel_rfl) ?_
 have hw:∀ l:List Int,l.all (fun i=>decide (-2<=i)&&decide (i<=2))=true->∀ i ∈ l,iO i:=fun l h i hi=>by
  have:=List.all_eq_true.mp h i hi
  rw[Bool.and_eq_true] at this
  have h1:=of_decide_eq_true this.1
  have h2:=of_decide_eq_true this.2
  unfold iO;omega
 repeat' first
  |exact trivial
  |exact rfl
  |exact hw _ (by decide)
  | (unfold xX szL;decide +kernel)
  | (unfold szL;decide +kernel)
  | decide
  |apply And.intro
  |intro _
section
open Go Go.ChangeShapes Go.WideShapes Go.ChangeAt Go.RowKit Go.Joins
theorem own:ownKnob Tryz.prog.godebug=none:=by kernel_rfl
section
variable {H:Type} {enc:TypeId × Value->H} {W:World} {base:Nat}
end
end
end Go.Proofs.YtgplhbhfdgempaaGreat
